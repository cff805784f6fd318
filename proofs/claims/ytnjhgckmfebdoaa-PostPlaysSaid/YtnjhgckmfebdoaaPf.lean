/- PostFull: the walk. -/
import Derived.Test.YtnjhgckmfebdoaaPe
set_option linter.unusedVariables false
set_option linter.unusedSimpArgs false
namespace Go.Proofs.Ytnjhgckmfebdoaa.MAll
open Go.RowKit Go.Proofs.YtnjhgckmfebdoaaW.PrintWords Go.Proofs.YtnjhgckmfebdoaaW.PrintLast Go.Proofs.YtnjhgckmfebdoaaW.PrintMore
attribute [local go_sem ↓] Go.wp_at_zero Go.wp_at_succ
theorem umod (x k : Int) (hk : 0 < k) : 0 ≤ (IntKind.u64.wrap x).tmod k ∧ (IntKind.u64.wrap x).tmod k < k := by
  have h : 0 ≤ IntKind.u64.wrap x := by show 0 ≤ x % _; exact Int.emod_nonneg _ (by decide)
  rw [Int.tmod_eq_emod_of_nonneg h]
  exact ⟨Int.emod_nonneg _ (by omega), Int.emod_lt_of_pos _ hk⟩
theorem umod_nat (x k : Int) (hk : 0 < k ∧ k ≤ 100000) : ∃ t : Nat, wrap64 ((IntKind.u64.wrap x).tmod k) = (t : Int) ∧ (t : Int) < k := by
  obtain ⟨h0, h1⟩ := umod x k hk.1
  refine ⟨((IntKind.u64.wrap x).tmod k).toNat, ?_, by omega⟩
  generalize (IntKind.u64.wrap x).tmod k = r at *
  unfold wrap64
  omega
def fb (j : Nat) : List Int := [(j : Int) % 256, (j : Int) / 256]
def fRows (m : Nat) : List (List Int) := (List.range m).map fb
def lostOf (i : Nat) : Int := ((i - 4096 : Nat) : Int)
theorem full_step (i : Nat) (hi : i < 100000) : sendOf (lostOf i) (fRows (min i 4096)) [fb i] = (lostOf (i + 1), fRows (min (i + 1) 4096)) := by
  have hl : (fRows (min i 4096)).length = min i 4096 := by simp [fRows]
  show sendS _ _ = _
  unfold sendS
  by_cases h : i < 4096
  · rw [if_neg (by show ¬ 4096 ≤ (fRows (min i 4096)).length; omega)]
    have e1 : min i 4096 = i := by omega
    have e2 : min (i + 1) 4096 = i + 1 := by omega
    have e3 : lostOf (i + 1) = lostOf i := by unfold lostOf; omega
    show (lostOf i, fRows (min i 4096) ++ [fb i]) = _
    rw [e1, e2, e3]
    simp [fRows, List.range_succ]
  · rw [if_pos (by show 4096 ≤ (fRows (min i 4096)).length; omega)]
    have e1 : min i 4096 = 4096 := by omega
    have e2 : min (i + 1) 4096 = 4096 := by omega
    show (wrap64 (lostOf i + 1), fRows (min i 4096)) = _
    rw [e1, e2]
    congr 1
    unfold lostOf wrap64
    omega
theorem len_lit (W : World) (g : Nat) (lost taken : Int) (rows : List (List Int)) (h : PAt W g lost taken rows) (m : Int) (hm : (rows.length : Int) = m) : Calls Try.prog 21 #[.pointer (some ⟨g, 0, none⟩)] W fun e w' => e = .returned (.int .i64 m) ∧ Below W.heap.size W w' := by
  subst hm
  exact len_c W g lost taken rows h
theorem two_bytes {w : World} {A : Option Addr} {a b : Int} (h : kb.C w A 2 [a, b]) : ∃ ad, A = some ad ∧ w.cell? ad = some (.int .u8 a) ∧ w.cell? ⟨ad.block, ad.off + 1, none⟩ = some (.int .u8 b) := by
  obtain ⟨_, _, h2⟩ := Kd.reads_of_C (d := 0) h
  obtain ⟨ad, hA, hc⟩ := h2 (by omega)
  have h0 := hc 0 (by omega)
  have h1 := hc 1 (by omega)
  rw [Kit.add_zero'] at h0
  rw [show ad.add 1 = ⟨ad.block, ad.off + 1, none⟩ by unfold Addr.add; rfl] at h1
  exact ⟨ad, hA, h0.trans rfl, h1.trans rfl⟩
set_option maxHeartbeats 8000000 in
set_option maxRecDepth 100000 in
theorem full_any (W : World) (x : Int) : Calls Try.prog 5 #[.int .i64 x] W fun e w' => e = .returned (.bool true) ∧ Below W.heap.size W w' := by
  have hu5 := Try.underlying5
  have hu25 := Try.underlying25
  have hu31 := Try.underlying31
  have hu34 := Try.underlying34
  go_enter Try.func5, Try.ntmps5
  go_wp2_with fail
  refine (alive_any _).mono ?_
  rintro e w1 ⟨rfl, hb1⟩
  have HB2 : Aside0 (Below W.heap.size W w1) := ⟨hb1⟩
  clear hb1
  go_wp2_with fail
  obtain ⟨t, ht, ht1⟩ := umod_nat x 100 (by omega)
  rw [ht]
  clear ht
  refine (new_c _).mono ?_
  rintro e w3 ⟨g3, rfl, hge3, hp3, hb3⟩
  have GE3 : Aside0 (W.heap.size ≤ g3) := ⟨Nat.le_trans HB2.out.size hge3⟩
  have HB4 : Aside0 (Below W.heap.size W w3) := ⟨below_step HB2.out hb3⟩
  clear hb3
  have HP3' : Aside0 (PAt w3 g3 0 0 []) := ⟨hp3⟩
  clear hge3 hp3
  go_wp2_with fail
  have hw4 : wrap64 (4096 + (t : Int)) = 4096 + (t : Int) := by unfold wrap64; omega
  go_loopw [4] (fun v4 w' => ∃ i : Nat, i ≤ 4096 + t ∧ v4 = .int .i64 i ∧ Aside0 (PAt w' g3 (lostOf i) 0 (fRows (min i 4096))) ∧ Aside0 (Below W.heap.size W w')) (fun v _ => 4096 + t - (intOf v).toNat)
  case atStart => exact ⟨0, by omega, rfl, HP3', HB4⟩
  case round =>
    obtain ⟨i, hk, rfl, HO, HW⟩ := hrel
    by_cases hlt : i < 4096 + t
    case pos =>
      have d1 : decide ((i : Int) < 4096 + (t : Int)) = true := decide_eq_true (by omega)
      go_wp2_with fail
      have d1 : decide ((i : Int) < 4096 + (t : Int)) = true := decide_eq_true (by omega)
      go_wp2_with fail
      obtain ⟨W51, hw51⟩ : ∃ x : World, x = ((wr.alloc (.cells #[.int .u8 ((i : Int) % 256), .int .u8 ((i : Int) / 256)] 5)).alloc (.cells #[.slice (some ⟨wr.heap.size, 0, none⟩) 2 2] 34)) := ⟨_, rfl⟩
      have hb51 : Below wr.heap.size wr W51 := by rw [hw51]; repeat (first | exact Below.refl _ _ | refine below_alloc ?_ _)
      have K51_0 : Aside0 (W51.heap[wr.heap.size]? = some (.cells #[.int .u8 ((i : Int) % 256), .int .u8 ((i : Int) / 256)] 5)) := ⟨by rw [hw51]; have h := blk_alloc (blk_new wr (.cells #[.int .u8 ((i : Int) % 256), .int .u8 ((i : Int) / 256)] 5)) (.cells #[.slice (some ⟨wr.heap.size, 0, none⟩) 2 2] 34); exact h⟩
      have K51_1 : Aside0 (W51.heap[wr.heap.size + 1]? = some (.cells #[.slice (some ⟨wr.heap.size, 0, none⟩) 2 2] 34)) := ⟨by rw [hw51]; have h := blk_new (wr.alloc (.cells #[.int .u8 ((i : Int) % 256), .int .u8 ((i : Int) / 256)] 5)) (.cells #[.slice (some ⟨wr.heap.size, 0, none⟩) 2 2] 34); rwa [World.size_alloc] at h⟩
      rw [← hw51]
      clear hw51
      have HN51 : Aside0 (∀ k, wr.heap.size ≤ k → k ≠ g3 ∧ some k ≠ ownB W51 g3) := ⟨new_free HO.out hb51⟩
      obtain ⟨sz51, hsz51⟩ : ∃ x, x = wr.heap.size := ⟨_, rfl⟩
      rw [← hsz51] at HN51
      rw [← hsz51]
      rw [← hsz51] at K51_0
      have L51_0 := Aside0.mk (blk_lt K51_0.out)
      rw [← hsz51] at K51_1
      have L51_1 := Aside0.mk (blk_lt K51_1.out)
      clear hsz51
      have HB52 : Aside0 (Below W.heap.size W W51) := ⟨below_step HW.out hb51⟩
      have HP52 : Aside0 (PAt W51 g3 (lostOf i) (0) (fRows (min i 4096))) := ⟨HO.out.below hb51⟩
      clear hb51
      have HC51 : Aside0 (∀ w, FR g3 W51 w → kB.C w (some ⟨sz51 + 1, 0, none⟩) 1 ([fb i] : List (List Int))) := ⟨fun w hw => by
        have hk : ∀ k o, sz51 ≤ k → k < W51.heap.size → W51.heap[k]? = some o → w.heap[k]? = some o := fun k o h1 h2 h3 => (hw.block k h2 (HN51.out k h1).1 (HN51.out k h1).2).trans h3
        refine CB_blk [.slice (some ⟨sz51, 0, none⟩) 2 2] ([fb i] : List (List Int)) (hk _ _ (by omega) L51_1.out K51_1.out) rfl (by simp) ?_
        intro j r v hr hv
        rcases j with _ | j
        · simp only [List.getElem?_cons_zero, List.getElem?_cons_succ, Option.some.injEq] at hr hv
          subst hr hv
          exact ⟨some ⟨sz51, 0, none⟩, 2, rfl, by simp [fb], C_bytes [((i : Int) % 256), ((i : Int) / 256)] (hk _ _ (by omega) L51_0.out K51_0.out) rfl (by simp)⟩
        · simp at hr⟩
      have HS51 := send_c W51 g3 (lostOf i) (0) (fRows (min i 4096)) HP52.out (some ⟨sz51 + 1, 0, none⟩) 1 ([fb i] : List (List Int)) HC51.out (by simp) (by simp [fb])
      rw [show sendOf (lostOf i) (fRows (min i 4096)) ([fb i] : List (List Int)) = (lostOf (i + 1), fRows (min (i + 1) 4096)) from full_step i (by omega)] at HS51
      refine HS51.mono ?_
      rintro e w53 ⟨rfl, hp53, hf53⟩
      clear HS51
      have HB54 : Aside0 (Below W.heap.size W w53) := ⟨FR.after HB52.out hf53 HP52.out GE3.out⟩
      have HP54 : Aside0 (PAt w53 g3 (lostOf (i + 1)) (0) (fRows (min (i + 1) 4096))) := ⟨hp53⟩
      clear hf53 hp53
      go_wp2_with fail
      go_roundw
      case rel => exact ⟨i + 1, by omega, by go_num, HP54, HB54⟩
      case measure => simp [intOf]; omega
    case neg =>
      have hie : i = 4096 + t := by omega
      have d1 : decide ((i : Int) < 4096 + (t : Int)) = false := decide_eq_false (by omega)
      have hF0 : PAt wr g3 (t : Int) 0 (fRows 4096) := by have h := HO.out; rw [hie, show min (4096 + t) 4096 = 4096 by omega, show lostOf (4096 + t) = (t : Int) by unfold lostOf; omega] at h; exact h
      obtain ⟨F, hF⟩ : ∃ F, fRows 4096 = F := ⟨_, rfl⟩
      have HL : Aside0 (F.length = 4096) := ⟨by rw [← hF]; simp [fRows]⟩
      have HI0 : Aside0 (F[0]? = some (fb 0)) := ⟨by rw [← hF]; show ((List.range 4096).map fb)[0]? = _; rw [List.getElem?_map, List.getElem?_range (by omega)]; rfl⟩
      have HI1 : Aside0 (F[4095]? = some [255, 15]) := ⟨by rw [← hF]; show ((List.range 4096).map fb)[4095]? = _; rw [List.getElem?_map, List.getElem?_range (by omega)]; rfl⟩
      rw [hF] at hF0
      have HP0 := Aside0.mk hF0
      clear hF0 hF HO
      have hw5 : wrap64 ((t : Int) + 1) = (t : Int) + 1 := by unfold wrap64; omega
      go_wp2_with fail
      refine (len_lit _ g3 ((t : Int)) (0) (F) HP0.out 4096 (by rw [HL.out]; rfl)).mono ?_
      rintro e w91 ⟨rfl, hb91⟩
      have HB92 : Aside0 (Below W.heap.size W w91) := ⟨below_step HW.out hb91⟩
      have HP92 : Aside0 (PAt w91 g3 ((t : Int)) (0) (F)) := ⟨HP0.out.below hb91⟩
      clear hb91
      go_wp2_with fail
      refine (lost_c _ g3 ((t : Int)) (0) (F) HP92.out).mono ?_
      rintro e w93 ⟨rfl, hb93⟩
      have HB94 : Aside0 (Below W.heap.size W w93) := ⟨below_step HB92.out hb93⟩
      have HP94 : Aside0 (PAt w93 g3 ((t : Int)) (0) (F)) := ⟨HP92.out.below hb93⟩
      clear hb93
      go_wp2_with fail
      refine (copy_in _ g3 ((t : Int)) (0) (F) HP94.out (0) ((fb 0)) HI0.out).mono ?_
      rintro e w95 ⟨rfl, hp95, hf95⟩
      rw [show sendS ((t : Int), F) (fb 0) = (((t : Int) + 1), F) from by unfold sendS; rw [if_pos (by show 4096 ≤ F.length; rw [HL.out]; exact Nat.le_refl _)]; show (wrap64 ((t : Int) + 1), F) = _; rw [hw5]] at hp95
      have HB96 : Aside0 (Below W.heap.size W w95) := ⟨FR.after HB94.out hf95 HP94.out GE3.out⟩
      have HP96 : Aside0 (PAt w95 g3 (((t : Int) + 1)) (0) (F)) := ⟨hp95⟩
      clear hf95 hp95
      go_wp2_with fail
      refine (lost_c _ g3 (((t : Int) + 1)) (0) (F) HP96.out).mono ?_
      rintro e w97 ⟨rfl, hb97⟩
      have HB98 : Aside0 (Below W.heap.size W w97) := ⟨below_step HB96.out hb97⟩
      have HP98 : Aside0 (PAt w97 g3 (((t : Int) + 1)) (0) (F)) := ⟨HP96.out.below hb97⟩
      clear hb97
      go_wp2_with fail
      obtain ⟨G, hG⟩ : ∃ G, F.take 4095 ++ F.drop (4095 + 1) = G := ⟨_, rfl⟩
      have HGL : Aside0 (G.length = 4095) := ⟨by rw [← hG, List.length_append, List.length_take, List.length_drop, HL.out]; rfl⟩
      have HG := Aside0.mk hG
      clear hG
      refine (deliver_in _ g3 (((t : Int) + 1)) (0) (F) HP98.out (4095) ([255, 15]) HI1.out).mono ?_
      rintro e w99 ⟨Bx, dx, rfl, hrd99, hm99, hp99, hf99⟩
      have HDx : Aside0 (([255, 15] : List Int).length ≤ dx) := ⟨hrd99⟩
      have HMx := Aside0.mk hm99
      clear hrd99 hm99
      rw [show wrap64 ((0 : Int) + 1) = 1 from by decide +kernel] at hp99
      rw [show (F).take (4095) ++ (F).drop (4095 + 1) = G from HG.out] at hp99
      have HB100 : Aside0 (Below W.heap.size W w99) := ⟨FR.after HB98.out hf99 HP98.out GE3.out⟩
      have HP100 : Aside0 (PAt w99 g3 (((t : Int) + 1)) (1) (G)) := ⟨hp99⟩
      clear hf99 hp99
      obtain ⟨ad, hA, c0, c1⟩ := two_bytes (C_of_M HMx.out)
      subst hA
      have hcv0 : (convert 34 34 (.slice (some ⟨w99.heap.size, 0, none⟩) 1 1)).run Try.prog (w99.alloc (.cells #[.int .u8 120] 5)) = .ok (.slice (some ⟨w99.heap.size, 0, none⟩) 1 1) (w99.alloc (.cells #[.int .u8 120] 5 (1, 2))) := Go.Lib.run_convert_bytes_const (P := Try.prog) w99 34 5 #[.int .u8 120] 1 1 hu34 hu5
      go_wp2_with fail
      clear hcv0 c0 c1
      obtain ⟨W101, hw101⟩ : ∃ x : World, x = ((w99.alloc (.cells #[.int .u8 120] 5 (1, 2))).alloc (.cells #[.slice (some ⟨w99.heap.size, 0, none⟩) 1 1] 34)) := ⟨_, rfl⟩
      have hb101 : Below w99.heap.size w99 W101 := by rw [hw101]; repeat (first | exact Below.refl _ _ | refine below_alloc ?_ _)
      have K101_0 : Aside0 (W101.heap[w99.heap.size]? = some (.cells #[.int .u8 120] 5 (1, 2))) := ⟨by rw [hw101]; have h := blk_alloc (blk_new w99 (.cells #[.int .u8 120] 5 (1, 2))) (.cells #[.slice (some ⟨w99.heap.size, 0, none⟩) 1 1] 34); exact h⟩
      have K101_1 : Aside0 (W101.heap[w99.heap.size + 1]? = some (.cells #[.slice (some ⟨w99.heap.size, 0, none⟩) 1 1] 34)) := ⟨by rw [hw101]; have h := blk_new (w99.alloc (.cells #[.int .u8 120] 5 (1, 2))) (.cells #[.slice (some ⟨w99.heap.size, 0, none⟩) 1 1] 34); rwa [World.size_alloc] at h⟩
      rw [← hw101]
      clear hw101
      have HN101 : Aside0 (∀ k, w99.heap.size ≤ k → k ≠ g3 ∧ some k ≠ ownB W101 g3) := ⟨new_free HP100.out hb101⟩
      obtain ⟨sz101, hsz101⟩ : ∃ x, x = w99.heap.size := ⟨_, rfl⟩
      rw [← hsz101] at HN101
      rw [← hsz101]
      rw [← hsz101] at K101_0
      have L101_0 := Aside0.mk (blk_lt K101_0.out)
      rw [← hsz101] at K101_1
      have L101_1 := Aside0.mk (blk_lt K101_1.out)
      clear hsz101
      have HB102 : Aside0 (Below W.heap.size W W101) := ⟨below_step HB100.out hb101⟩
      have HP102 : Aside0 (PAt W101 g3 (((t : Int) + 1)) (1) (G)) := ⟨HP100.out.below hb101⟩
      clear hb101
      have HC101 : Aside0 (∀ w, FR g3 W101 w → kB.C w (some ⟨sz101 + 1, 0, none⟩) 1 ([[120]] : List (List Int))) := ⟨fun w hw => by
        have hk : ∀ k o, sz101 ≤ k → k < W101.heap.size → W101.heap[k]? = some o → w.heap[k]? = some o := fun k o h1 h2 h3 => (hw.block k h2 (HN101.out k h1).1 (HN101.out k h1).2).trans h3
        refine CB_blk [.slice (some ⟨sz101, 0, none⟩) 1 1] ([[120]] : List (List Int)) (hk _ _ (by omega) L101_1.out K101_1.out) rfl (by simp) ?_
        intro j r v hr hv
        rcases j with _ | j
        · simp only [List.getElem?_cons_zero, List.getElem?_cons_succ, Option.some.injEq] at hr hv
          subst hr hv
          exact ⟨some ⟨sz101, 0, none⟩, 1, rfl, by simp, C_bytes [120] (hk _ _ (by omega) L101_0.out K101_0.out) rfl (by simp)⟩
        · simp at hr⟩
      have HS101 := send_c W101 g3 (((t : Int) + 1)) (1) (G) HP102.out (some ⟨sz101 + 1, 0, none⟩) 1 ([[120]] : List (List Int)) HC101.out (by simp) (by simp)
      rw [show sendOf (((t : Int) + 1)) (G) ([[120]] : List (List Int)) = (((t : Int) + 1), (G ++ [[120]])) from send_fit _ _ _ (by simp; have := HGL.out; omega)] at HS101
      refine HS101.mono ?_
      rintro e w103 ⟨rfl, hp103, hf103⟩
      clear HS101
      have HB104 : Aside0 (Below W.heap.size W w103) := ⟨FR.after HB102.out hf103 HP102.out GE3.out⟩
      have HP104 : Aside0 (PAt w103 g3 (((t : Int) + 1)) (1) ((G ++ [[120]]))) := ⟨hp103⟩
      clear hf103 hp103
      have hGE : (G ++ [[120]]).length = 4096 := by rw [List.length_append, HGL.out]; rfl
      simp only [hGE]
      go_wp2_with fail
      refine (lost_c _ g3 (((t : Int) + 1)) (1) ((G ++ [[120]])) HP104.out).mono ?_
      rintro e w105 ⟨rfl, hb105⟩
      have HB106 : Aside0 (Below W.heap.size W w105) := ⟨below_step HB104.out hb105⟩
      have HP106 : Aside0 (PAt w105 g3 (((t : Int) + 1)) (1) ((G ++ [[120]]))) := ⟨HP104.out.below hb105⟩
      clear hb105
      go_wp2_with fail
      go_ret
      exact ⟨rfl, HB106.out⟩
theorem full_walk (w : World) (x : Int) (hx : (Lit.int .i64 x).wf = true) : Calls Try.prog 5 #[.int .i64 x] w fun e w' => e = .returned (.bool true) ∧ Below w.heap.size w w' := full_any w x
end Go.Proofs.Ytnjhgckmfebdoaa.MAll

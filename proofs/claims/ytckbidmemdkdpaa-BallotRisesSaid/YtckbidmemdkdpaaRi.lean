/- BallotRises: the walk. -/
import Derived.Test.YtckbidmemdkdpaaSm
import Derived.Deep.DrawnRows
set_option linter.unusedVariables false
set_option linter.unusedSimpArgs false
namespace Go.Proofs.Ytckbidmemdkdpaa.MAll
open Go.RowKit Go.Proofs.YtckbidmemdkdpaaW.PrintWords Go.Proofs.YtckbidmemdkdpaaW.PrintLast Go.Proofs.YtckbidmemdkdpaaW.PrintMore
attribute [local go_sem ↓] Go.wp_at_zero Go.wp_at_succ
attribute [local go_sem high] eqA23

theorem less_self (b : Bal) : lessB b b = false := by
  cases h : lessB b b
  · rfl
  · rw [less_iff] at h; omega
theorem less_not {a b : Bal} (h : lessB a b = true) : lessB b a = false := by
  cases h2 : lessB b a
  · rfl
  · rw [less_iff] at h h2; omega
theorem less_le {a b c : Bal} (h1 : lessB b a = false) (h2 : lessB c b = false) : lessB c a = false := by
  cases h : lessB c a
  · rfl
  · have n1 : ¬ lessB b a = true := by rw [h1]; decide
    have n2 : ¬ lessB c b = true := by rw [h2]; decide
    rw [less_iff] at n1 n2 h
    omega
theorem good_parts {r : Reg} (h : goodR r = true) : soundB r.1 = true ∧ soundB r.2.1 = true ∧ lessB r.1 r.2.1 = false ∧ r.2.2.length ≤ 32 ∧ ¬ (r.2.1 = zeroB ∧ 0 < r.2.2.length) := by
  unfold goodR at h
  simp only [Bool.and_eq_true, Bool.not_eq_true', decide_eq_true_eq, Bool.and_eq_false_iff, decide_eq_false_iff_not] at h
  refine ⟨h.1, h.2.1, h.2.2.1, h.2.2.2.1, fun e => ?_⟩
  rcases h.2.2.2.2 with h | h
  · exact h e.1
  · exact h e.2
theorem good_of {r : Reg} (h1 : soundB r.1 = true) (h2 : soundB r.2.1 = true) (h3 : lessB r.1 r.2.1 = false) (h4 : r.2.2.length ≤ 32) (h5 : ¬ (r.2.1 = zeroB ∧ 0 < r.2.2.length)) : goodR r = true := by
  unfold goodR
  simp only [Bool.and_eq_true, Bool.not_eq_true', decide_eq_true_eq, Bool.and_eq_false_iff, decide_eq_false_iff_not]
  refine ⟨h1, h2, h3, h4, ?_⟩
  by_cases e : r.2.1 = zeroB
  · exact .inr (fun h => h5 ⟨e, h⟩)
  · exact .inl e
theorem asked_none {r : Reg} {b : Bal} (h : askedE r b = none) : goodR r = true ∧ soundB b = true ∧ b ≠ zeroB := by
  unfold askedE at h
  by_cases hh : goodR r = true ∧ soundB b = true ∧ b ≠ zeroB
  · exact hh
  · rw [if_neg hh] at h; cases h
theorem prep_cases (r : Reg) (b : Bal) : (prepR r b = (b, r.2.1, r.2.2) ∧ prepE r b = none ∧ lessB b r.1 = false ∧ goodR (b, r.2.1, r.2.2) = true) ∨ (prepR r b = zeroR ∧ prepE r b = some 2) ∨ (prepR r b = zeroR ∧ prepE r b = some 11) := by
  unfold prepR prepE
  rcases asked_cases r b with h | h
  · obtain ⟨hg, hs, hz⟩ := asked_none h
    obtain ⟨g1, g2, g3, g4, g5⟩ := good_parts hg
    cases hl : lessB r.1 b
    · exact .inr (.inr ⟨by rw [if_neg (fun e => by cases e.2)], by rw [if_pos h]; rfl⟩)
    · exact .inl ⟨by rw [if_pos ⟨h, rfl⟩], by rw [if_pos h]; rfl, less_not hl, good_of hs g2 (less_le g3 (less_not hl)) g4 g5⟩
  · exact .inr (.inl ⟨by rw [if_neg (fun e => by rw [h] at e; cases e.1)], by rw [if_neg (fun e => by rw [h] at e; cases e)]⟩)
theorem acc_cases (r : Reg) (b : Bal) (v : List Int) : (accR r b v = (b, b, v) ∧ accE r b v = none ∧ lessB b r.1 = false ∧ lessB b r.2.1 = false ∧ goodR (b, b, v) = true) ∨ (accR r b v = zeroR ∧ accE r b v = some 2) ∨ (accR r b v = zeroR ∧ accE r b v = some 11) := by
  unfold accR accE
  rcases asked_cases r b with h | h
  · obtain ⟨hg, hs, hz⟩ := asked_none h
    obtain ⟨g1, g2, g3, g4, g5⟩ := good_parts hg
    by_cases hv : v.length ≤ 32
    · cases hl : lessB b r.1
      · exact .inl ⟨by rw [if_pos ⟨h, hv, rfl⟩], by rw [if_pos ⟨h, hv⟩]; rfl, rfl, less_le g3 hl, good_of hs hs (less_self b) hv (fun e => hz e.1)⟩
      · exact .inr (.inr ⟨by rw [if_neg (fun e => by cases e.2.2)], by rw [if_pos ⟨h, hv⟩]; rfl⟩)
    · exact .inr (.inl ⟨by rw [if_neg (fun e => hv e.2.1)], by rw [if_neg (fun e => hv e.2)]⟩)
  · exact .inr (.inl ⟨by rw [if_neg (fun e => by rw [h] at e; cases e.1)], by rw [if_neg (fun e => by rw [h] at e; cases e.1)]⟩)
theorem zero_good : goodR ((0, 0, 0), (0, 0, 0), []) = true := by decide +kernel
/-- A step: does it accept, its ballot, its value. -/
abbrev StepT := Bool × Bal × List Int
def kStep : Kd StepT := Kd.iso (Kd.pair Kd.bool (Kd.pair kBal (Kd.slice 3 (Kd.int .i64)))) id
theorem add_field' (ad : Addr) (n j : Nat) (h : 0 < j) : ad.add (n + j) = ⟨(ad.add n).block, (ad.add n).off + j, none⟩ := by
  unfold Addr.add
  by_cases hn : n = 0
  · subst hn
    have : j ≠ 0 := by omega
    simp [this]
  · have h1 : ¬ (n + j = 0) := by omega
    simp [hn, h1]
    omega
theorem step_at {w : World} {A : Option Addr} {xs : List StepT} (h : kStep.C w A xs.length xs) (k : Nat) (hk : k < xs.length) :
    ∃ ad V cv acc b v, A = some ad ∧ (acc, b, v) = xs[k]'hk ∧ w.cell? (ad.add (k * 5)) = some (.bool acc) ∧ w.cell? ⟨(ad.add (k * 5)).block, (ad.add (k * 5)).off + 1, none⟩ = some (.int .i64 b.1) ∧ w.cell? ⟨(ad.add (k * 5)).block, (ad.add (k * 5)).off + 2, none⟩ = some (.int .i64 b.2.1) ∧ w.cell? ⟨(ad.add (k * 5)).block, (ad.add (k * 5)).off + 3, none⟩ = some (.int .i64 b.2.2) ∧ w.cell? ⟨(ad.add (k * 5)).block, (ad.add (k * 5)).off + 4, none⟩ = some (.slice V v.length cv) ∧
      v.length ≤ cv ∧ (Kd.int .i64).C w V v.length v := by
  obtain ⟨ad, cs, rfl, _, hK, hc⟩ := Kd.C_get h (false, (0, 0, 0), []) k (by omega) (by omega)
  have he : xs.getD (k : Int).toNat (false, (0, 0, 0), []) = xs[k]'hk := by simp [List.getD_eq_getElem?_getD, List.getElem?_eq_getElem hk]
  rw [he] at hK
  rcases hx : xs[k]'hk with ⟨acc, b, v⟩
  rw [hx] at hK
  obtain ⟨c0, c1, rfl, hk0, c2, c3, rfl, hk1, ⟨V, cv, rfl, hv, hV⟩⟩ := hK
  obtain rfl : c0 = [.bool acc] := hk0
  obtain rfl := bal_cells hk1
  have e : kStep.sz = 5 := rfl
  have ek : (k : Int).toNat = k := by omega
  rw [e, ek] at hc
  refine ⟨ad, V, cv, acc, b, v, rfl, rfl, by simpa using hc 0 _ rfl, ?_, ?_, ?_, ?_, hv, hV⟩
  · rw [← add_field' ad (k * 5) 1 (by omega)]; exact hc 1 _ rfl
  · rw [← add_field' ad (k * 5) 2 (by omega)]; exact hc 2 _ rfl
  · rw [← add_field' ad (k * 5) 3 (by omega)]; exact hc 3 _ rfl
  · rw [← add_field' ad (k * 5) 4 (by omega)]; exact hc 4 _ rfl
theorem same_zero (B : Option Addr) (d : Nat) (w : World) (hr : (Kd.int .i64).C w B 0 []) : Calls Try.prog 15 #[.agg #[.int .i64 0, .int .i64 0, .int .i64 0, .int .i64 0, .int .i64 0, .int .i64 0, .slice B 0 d], .agg #[.int .i64 0, .int .i64 0, .int .i64 0, .int .i64 0, .int .i64 0, .int .i64 0, .slice none 0 0]] w fun e w' => e = .returned (.bool true) ∧ Below w.heap.size w w' :=
  same_v ((0, 0, 0), (0, 0, 0), []) B d w hr (Nat.zero_le _) true ((0, 0, 0), (0, 0, 0), []) none 0 (Kd.C_nil _ _) (Nat.le_refl _) (by decide) (by decide)
def RInv (base gR gM : Nat) (r : Reg) (W : World) : Prop := ∃ A c, W.heap[gR]? = some (.cells (regA r A c) 26 (0, 0)) ∧ W.heap[gM]? = some (.cells (balA r.1) 23 (0, 0)) ∧ (Kd.int .i64).R 3 W base (fun _ => True) (.slice A r.2.2.length c) r.2.2 ∧ goodR r = true ∧ regOk r
set_option maxHeartbeats 30000000 in
set_option maxRecDepth 100000 in
theorem rises_any (A0 : Option Addr) (c0 : Nat) (xs : List StepT) (w : World) (hr : kStep.C w A0 xs.length xs) (hc : xs.length ≤ c0) (hq : ∀ x ∈ xs, balOk x.2.1) : Calls Try.prog 4 #[.slice A0 xs.length c0] w fun e w' => e = .returned (.bool true) ∧ Below w.heap.size w w' := by
  have hu23 := Try.underlying23
  have hu26 := Try.underlying26
  have hu44 := Try.underlying44
  have hu30 := Try.underlying30
  have hu45 := Try.underlying45
  have eE := Err.eqE
  have eN := Err.eqN
  have nE := Err.neE
  have nN := Err.neN
  have HX := Aside0.mk hr
  have HQ := Aside0.mk hq
  clear hr hq
  by_cases h3 : xs.length ≤ 300
  case neg =>
    have h3b : decide (300 < (xs.length : Int)) = true := decide_eq_true (by omega)
    go_enter Try.func4, Try.ntmps4
    go_wp2_with fail
    refine (alive_any _).mono ?_
    rintro e w1 ⟨rfl, hb1⟩
    have HB := Aside0.mk hb1
    clear hb1
    go_wp2_with fail
    go_ret
    exact ⟨rfl, HB.out⟩
  have h3b : decide (300 < (xs.length : Int)) = false := decide_eq_false (by omega)
  go_enter Try.func4, Try.ntmps4
  go_wp2_with fail
  refine (alive_any _).mono ?_
  rintro e w1 ⟨rfl, hb1⟩
  have HB2 := Aside0.mk hb1
  clear hb1
  clear h3b
  go_wp2_with fail
  obtain ⟨W3, hw3⟩ : ∃ x : World, x = (w1.alloc (.cells #[.int .i64 0, .int .i64 0, .int .i64 0, .int .i64 0, .int .i64 0, .int .i64 0, .slice none 0 0] 26)).alloc (.cells #[.int .i64 0, .int .i64 0, .int .i64 0] 23) := ⟨_, rfl⟩
  have hbs3 : Below w1.heap.size w1 W3 := by rw [hw3]; repeat (first | exact Below.refl _ _ | refine below_alloc ?_ _ | refine below_drew ?_)
  obtain ⟨gR3, hgR3⟩ : ∃ x, x = w1.heap.size := ⟨_, rfl⟩
  have GSR3 : Aside0 (w.heap.size ≤ gR3) := ⟨by rw [hgR3]; have := HB2.out.size; omega⟩
  have BR3 : Aside0 (W3.heap[gR3]? = some (.cells #[.int .i64 0, .int .i64 0, .int .i64 0, .int .i64 0, .int .i64 0, .int .i64 0, .slice none 0 0] 26 (0, 0))) := ⟨by rw [hw3, hgR3]; exact blk_alloc (blk_new _ _) _⟩
  obtain ⟨gM3, hgM3⟩ : ∃ x, x = w1.heap.size + 1 := ⟨_, rfl⟩
  have GSM3 : Aside0 (w.heap.size ≤ gM3) := ⟨by rw [hgM3]; have := HB2.out.size; omega⟩
  have BM3 : Aside0 (W3.heap[gM3]? = some (.cells #[.int .i64 0, .int .i64 0, .int .i64 0] 23 (0, 0))) := ⟨by rw [hw3, hgM3]; have := blk_new (w1.alloc (.cells #[.int .i64 0, .int .i64 0, .int .i64 0, .int .i64 0, .int .i64 0, .int .i64 0, .slice none 0 0] 26)) (.cells #[.int .i64 0, .int .i64 0, .int .i64 0] 23); rwa [World.size_alloc] at this⟩
  rw [← hw3]
  rw [← hgM3]
  rw [← hgR3]
  clear hw3 hgR3 hgM3
  have HB4 := Aside0.mk (below_step HB2.out hbs3)
  clear hbs3
  go_loopw [18] (fun v18 w' => ∃ k : Nat, k ≤ xs.length ∧ v18 = .int .i64 k ∧ Aside0 (∃ r, RInv w.heap.size gR3 gM3 r w') ∧ Aside0 (Below w.heap.size w w')) (fun v _ => xs.length - (intOf v).toNat)
  case atStart => exact ⟨0, by omega, rfl, ⟨⟨((0, 0, 0), (0, 0, 0), []), none, 0, BR3.out, BM3.out, Kd.R_nil _ _ _ _ _, zero_good, ok0⟩⟩, HB4⟩
  case round =>
    obtain ⟨k, hk, rfl, HO, HW⟩ := hrel
    by_cases hlt : k < xs.length
    case neg =>
      go_wp2_with fail
      go_ret
      exact ⟨rfl, HW.out⟩
    obtain ⟨r, A, c, hBR, hBM, hRR, hG, hOK⟩ := HO.out
    have BR0 := Aside0.mk hBR
    have BM0 := Aside0.mk hBM
    have RR0 := Aside0.mk hRR
    have HG := Aside0.mk hG
    have HOK := Aside0.mk hOK
    obtain ⟨ad, V, cv, acc, b, v, hA0, hx, s0, s1, s2, s3, s4, hcv, hV⟩ := step_at HX.out k hlt
    subst hA0
    have HBOK := Aside0.mk (show balOk b from by have := HQ.out (acc, b, v) (by rw [hx]; exact List.getElem_mem hlt); exact this)
    have HV := Aside0.mk hV
    have HCV := Aside0.mk hcv
    have s0 := pw_cell_below HW.out s0
    have s1 := pw_cell_below HW.out s1
    have s2 := pw_cell_below HW.out s2
    have s3 := pw_cell_below HW.out s3
    have s4 := pw_cell_below HW.out s4
    have hlen := Aside0.mk (show r.2.2.length < 17592186044416 by have := (good_parts hG).2.2.2.1; omega)
    clear hBR hBM hRR hG hOK hx hV hcv HO
    have HVr := Aside0.mk (Kd.C_below HV.out HW.out)
    have zR1_0 : wr.cell? ⟨gR3, 0, none⟩ = some (.int .i64 r.1.1) := (blk_cell BR0.out 0).trans rfl
    have zR1_1 : wr.cell? ⟨gR3, 1, none⟩ = some (.int .i64 r.1.2.1) := (blk_cell BR0.out 1).trans rfl
    have zR1_2 : wr.cell? ⟨gR3, 2, none⟩ = some (.int .i64 r.1.2.2) := (blk_cell BR0.out 2).trans rfl
    have zR1_3 : wr.cell? ⟨gR3, 3, none⟩ = some (.int .i64 r.2.1.1) := (blk_cell BR0.out 3).trans rfl
    have zR1_4 : wr.cell? ⟨gR3, 4, none⟩ = some (.int .i64 r.2.1.2.1) := (blk_cell BR0.out 4).trans rfl
    have zR1_5 : wr.cell? ⟨gR3, 5, none⟩ = some (.int .i64 r.2.1.2.2) := (blk_cell BR0.out 5).trans rfl
    have zR1_6 : wr.cell? ⟨gR3, 6, none⟩ = some (.slice A r.2.2.length c) := (blk_cell BR0.out 6).trans rfl
    have zM1_0 : wr.cell? ⟨gM3, 0, none⟩ = some (.int .i64 r.1.1) := (blk_cell BM0.out 0).trans rfl
    have zM1_1 : wr.cell? ⟨gM3, 1, none⟩ = some (.int .i64 r.1.2.1) := (blk_cell BM0.out 1).trans rfl
    have zM1_2 : wr.cell? ⟨gM3, 2, none⟩ = some (.int .i64 r.1.2.2) := (blk_cell BM0.out 2).trans rfl
    have zaR2_0 : ∀ o, (wr.alloc o).cell? ⟨gR3, 0, none⟩ = some (.int .i64 r.1.1) := fun o => (blk_cell (blk_alloc BR0.out o) 0).trans rfl
    have zaR2_1 : ∀ o, (wr.alloc o).cell? ⟨gR3, 1, none⟩ = some (.int .i64 r.1.2.1) := fun o => (blk_cell (blk_alloc BR0.out o) 1).trans rfl
    have zaR2_2 : ∀ o, (wr.alloc o).cell? ⟨gR3, 2, none⟩ = some (.int .i64 r.1.2.2) := fun o => (blk_cell (blk_alloc BR0.out o) 2).trans rfl
    have zaR2_3 : ∀ o, (wr.alloc o).cell? ⟨gR3, 3, none⟩ = some (.int .i64 r.2.1.1) := fun o => (blk_cell (blk_alloc BR0.out o) 3).trans rfl
    have zaR2_4 : ∀ o, (wr.alloc o).cell? ⟨gR3, 4, none⟩ = some (.int .i64 r.2.1.2.1) := fun o => (blk_cell (blk_alloc BR0.out o) 4).trans rfl
    have zaR2_5 : ∀ o, (wr.alloc o).cell? ⟨gR3, 5, none⟩ = some (.int .i64 r.2.1.2.2) := fun o => (blk_cell (blk_alloc BR0.out o) 5).trans rfl
    have zaR2_6 : ∀ o, (wr.alloc o).cell? ⟨gR3, 6, none⟩ = some (.slice A r.2.2.length c) := fun o => (blk_cell (blk_alloc BR0.out o) 6).trans rfl
    have zaM2_0 : ∀ o, (wr.alloc o).cell? ⟨gM3, 0, none⟩ = some (.int .i64 r.1.1) := fun o => (blk_cell (blk_alloc BM0.out o) 0).trans rfl
    have zaM2_1 : ∀ o, (wr.alloc o).cell? ⟨gM3, 1, none⟩ = some (.int .i64 r.1.2.1) := fun o => (blk_cell (blk_alloc BM0.out o) 1).trans rfl
    have zaM2_2 : ∀ o, (wr.alloc o).cell? ⟨gM3, 2, none⟩ = some (.int .i64 r.1.2.2) := fun o => (blk_cell (blk_alloc BM0.out o) 2).trans rfl
    cases acc
    · skip
      go_wp2_with fail
      obtain ⟨W53, hw53⟩ : ∃ x : World, x = wr.alloc (.cells #[.bool false, .int .i64 b.1, .int .i64 b.2.1, .int .i64 b.2.2, .slice V v.length cv] 44) := ⟨_, rfl⟩
      have hbs53 : Below wr.heap.size wr W53 := by rw [hw53]; repeat (first | exact Below.refl _ _ | refine below_alloc ?_ _ | refine below_drew ?_)
      obtain ⟨gS53, hgS53⟩ : ∃ x, x = wr.heap.size := ⟨_, rfl⟩
      have GSS53 : Aside0 (w.heap.size ≤ gS53) := ⟨by rw [hgS53]; have := HW.out.size; omega⟩
      have BS53 : Aside0 (W53.heap[gS53]? = some (.cells #[.bool false, .int .i64 b.1, .int .i64 b.2.1, .int .i64 b.2.2, .slice V v.length cv] 44 (0, 0))) := ⟨by rw [hw53, hgS53]; exact blk_new _ _⟩
      rw [← hw53]
      rw [← hgS53]
      clear hw53 hgS53
      clear zR1_0 zR1_1 zR1_2 zR1_3 zR1_4 zR1_5 zR1_6 zM1_0 zM1_1 zM1_2 zaR2_0 zaR2_1 zaR2_2 zaR2_3 zaR2_4 zaR2_5 zaR2_6 zaM2_0 zaM2_1 zaM2_2
      have HB54 := Aside0.mk (below_step HW.out hbs53)
      have BR54 : Aside0 (W53.heap[gR3]? = some (.cells #[.int .i64 r.1.1, .int .i64 r.1.2.1, .int .i64 r.1.2.2, .int .i64 r.2.1.1, .int .i64 r.2.1.2.1, .int .i64 r.2.1.2.2, .slice A r.2.2.length c] 26 (0, 0))) := ⟨(hbs53.block _ (blk_lt BR0.out)).trans BR0.out⟩
      have BM54 : Aside0 (W53.heap[gM3]? = some (.cells #[.int .i64 r.1.1, .int .i64 r.1.2.1, .int .i64 r.1.2.2] 23 (0, 0))) := ⟨(hbs53.block _ (blk_lt BM0.out)).trans BM0.out⟩
      have Cv54 := Aside0.mk (Kd.C_below HVr.out hbs53)
      have Rr54 := Aside0.mk (Kd.R_below RR0.out hbs53)
      clear hbs53
      clear s0 s1 s2 s3 s4
      rcases prep_cases r b with ⟨hp, he, hl, hg⟩ | ⟨hp, he⟩ | ⟨hp, he⟩
      · have HP := Aside0.mk hp
        have HE := Aside0.mk he
        clear hp he
        have zR55_0 : W53.cell? ⟨gR3, 0, none⟩ = some (.int .i64 r.1.1) := (blk_cell BR54.out 0).trans rfl
        have zR55_1 : W53.cell? ⟨gR3, 1, none⟩ = some (.int .i64 r.1.2.1) := (blk_cell BR54.out 1).trans rfl
        have zR55_2 : W53.cell? ⟨gR3, 2, none⟩ = some (.int .i64 r.1.2.2) := (blk_cell BR54.out 2).trans rfl
        have zR55_3 : W53.cell? ⟨gR3, 3, none⟩ = some (.int .i64 r.2.1.1) := (blk_cell BR54.out 3).trans rfl
        have zR55_4 : W53.cell? ⟨gR3, 4, none⟩ = some (.int .i64 r.2.1.2.1) := (blk_cell BR54.out 4).trans rfl
        have zR55_5 : W53.cell? ⟨gR3, 5, none⟩ = some (.int .i64 r.2.1.2.2) := (blk_cell BR54.out 5).trans rfl
        have zR55_6 : W53.cell? ⟨gR3, 6, none⟩ = some (.slice A r.2.2.length c) := (blk_cell BR54.out 6).trans rfl
        have zM55_0 : W53.cell? ⟨gM3, 0, none⟩ = some (.int .i64 r.1.1) := (blk_cell BM54.out 0).trans rfl
        have zM55_1 : W53.cell? ⟨gM3, 1, none⟩ = some (.int .i64 r.1.2.1) := (blk_cell BM54.out 1).trans rfl
        have zM55_2 : W53.cell? ⟨gM3, 2, none⟩ = some (.int .i64 r.1.2.2) := (blk_cell BM54.out 2).trans rfl
        have zS55_0 : W53.cell? ⟨gS53, 0, none⟩ = some (.bool false) := (blk_cell BS53.out 0).trans rfl
        have zS55_1 : W53.cell? ⟨gS53, 1, none⟩ = some (.int .i64 b.1) := (blk_cell BS53.out 1).trans rfl
        have zS55_2 : W53.cell? ⟨gS53, 2, none⟩ = some (.int .i64 b.2.1) := (blk_cell BS53.out 2).trans rfl
        have zS55_3 : W53.cell? ⟨gS53, 3, none⟩ = some (.int .i64 b.2.2) := (blk_cell BS53.out 3).trans rfl
        have zS55_4 : W53.cell? ⟨gS53, 4, none⟩ = some (.slice V v.length cv) := (blk_cell BS53.out 4).trans rfl
        have zaR56_0 : ∀ o, (W53.alloc o).cell? ⟨gR3, 0, none⟩ = some (.int .i64 r.1.1) := fun o => (blk_cell (blk_alloc BR54.out o) 0).trans rfl
        have zaR56_1 : ∀ o, (W53.alloc o).cell? ⟨gR3, 1, none⟩ = some (.int .i64 r.1.2.1) := fun o => (blk_cell (blk_alloc BR54.out o) 1).trans rfl
        have zaR56_2 : ∀ o, (W53.alloc o).cell? ⟨gR3, 2, none⟩ = some (.int .i64 r.1.2.2) := fun o => (blk_cell (blk_alloc BR54.out o) 2).trans rfl
        have zaR56_3 : ∀ o, (W53.alloc o).cell? ⟨gR3, 3, none⟩ = some (.int .i64 r.2.1.1) := fun o => (blk_cell (blk_alloc BR54.out o) 3).trans rfl
        have zaR56_4 : ∀ o, (W53.alloc o).cell? ⟨gR3, 4, none⟩ = some (.int .i64 r.2.1.2.1) := fun o => (blk_cell (blk_alloc BR54.out o) 4).trans rfl
        have zaR56_5 : ∀ o, (W53.alloc o).cell? ⟨gR3, 5, none⟩ = some (.int .i64 r.2.1.2.2) := fun o => (blk_cell (blk_alloc BR54.out o) 5).trans rfl
        have zaR56_6 : ∀ o, (W53.alloc o).cell? ⟨gR3, 6, none⟩ = some (.slice A r.2.2.length c) := fun o => (blk_cell (blk_alloc BR54.out o) 6).trans rfl
        have zaM56_0 : ∀ o, (W53.alloc o).cell? ⟨gM3, 0, none⟩ = some (.int .i64 r.1.1) := fun o => (blk_cell (blk_alloc BM54.out o) 0).trans rfl
        have zaM56_1 : ∀ o, (W53.alloc o).cell? ⟨gM3, 1, none⟩ = some (.int .i64 r.1.2.1) := fun o => (blk_cell (blk_alloc BM54.out o) 1).trans rfl
        have zaM56_2 : ∀ o, (W53.alloc o).cell? ⟨gM3, 2, none⟩ = some (.int .i64 r.1.2.2) := fun o => (blk_cell (blk_alloc BM54.out o) 2).trans rfl
        have zaS56_0 : ∀ o, (W53.alloc o).cell? ⟨gS53, 0, none⟩ = some (.bool false) := fun o => (blk_cell (blk_alloc BS53.out o) 0).trans rfl
        have zaS56_1 : ∀ o, (W53.alloc o).cell? ⟨gS53, 1, none⟩ = some (.int .i64 b.1) := fun o => (blk_cell (blk_alloc BS53.out o) 1).trans rfl
        have zaS56_2 : ∀ o, (W53.alloc o).cell? ⟨gS53, 2, none⟩ = some (.int .i64 b.2.1) := fun o => (blk_cell (blk_alloc BS53.out o) 2).trans rfl
        have zaS56_3 : ∀ o, (W53.alloc o).cell? ⟨gS53, 3, none⟩ = some (.int .i64 b.2.2) := fun o => (blk_cell (blk_alloc BS53.out o) 3).trans rfl
        have zaS56_4 : ∀ o, (W53.alloc o).cell? ⟨gS53, 4, none⟩ = some (.slice V v.length cv) := fun o => (blk_cell (blk_alloc BS53.out o) 4).trans rfl
        have HLM := Aside0.mk hl
        have HLA := Aside0.mk (less_self r.2.1)
        have HGN := Aside0.mk hg
        have HOKN := Aside0.mk (show regOk (b, r.2.1, r.2.2) from ⟨HBOK.out, HOK.out.2⟩)
        clear hl hg
        refine (prepare_at r ((b, r.2.1, r.2.2)) (.nilIface) A c _ b HP.out (by rw [HE.out]; rfl) HOK.out HBOK.out hlen.out (Kd.R_reads' Rr54.out).2.2 (Kd.R_reads' Rr54.out).2.1).mono ?_
        rintro e wp ⟨B1, d1, rfl, hR1, hb1⟩
        clear zR55_0 zR55_1 zR55_2 zR55_3 zR55_4 zR55_5 zR55_6 zM55_0 zM55_1 zM55_2 zS55_0 zS55_1 zS55_2 zS55_3 zS55_4 zaR56_0 zaR56_1 zaR56_2 zaR56_3 zaR56_4 zaR56_5 zaR56_6 zaM56_0 zaM56_1 zaM56_2 zaS56_0 zaS56_1 zaS56_2 zaS56_3 zaS56_4
        have HB58 := Aside0.mk (below_step HB54.out hb1)
        have BR58 : Aside0 (wp.heap[gR3]? = some (.cells #[.int .i64 r.1.1, .int .i64 r.1.2.1, .int .i64 r.1.2.2, .int .i64 r.2.1.1, .int .i64 r.2.1.2.1, .int .i64 r.2.1.2.2, .slice A r.2.2.length c] 26 (0, 0))) := ⟨(hb1.block _ (blk_lt BR54.out)).trans BR54.out⟩
        have BM58 : Aside0 (wp.heap[gM3]? = some (.cells #[.int .i64 r.1.1, .int .i64 r.1.2.1, .int .i64 r.1.2.2] 23 (0, 0))) := ⟨(hb1.block _ (blk_lt BM54.out)).trans BM54.out⟩
        have BS58 : Aside0 (wp.heap[gS53]? = some (.cells #[.bool false, .int .i64 b.1, .int .i64 b.2.1, .int .i64 b.2.2, .slice V v.length cv] 44 (0, 0))) := ⟨(hb1.block _ (blk_lt BS53.out)).trans BS53.out⟩
        have Cv58 := Aside0.mk (Kd.C_below Cv54.out hb1)
        have Rr58 := Aside0.mk (Kd.R_below Rr54.out hb1)
        clear hb1
        have HR1 := Aside0.mk hR1
        clear hR1
        have HR1 := Aside0.mk (Kd.R_lower HR1.out HB54.out.size)
        have zR59_0 : wp.cell? ⟨gR3, 0, none⟩ = some (.int .i64 r.1.1) := (blk_cell BR58.out 0).trans rfl
        have zR59_1 : wp.cell? ⟨gR3, 1, none⟩ = some (.int .i64 r.1.2.1) := (blk_cell BR58.out 1).trans rfl
        have zR59_2 : wp.cell? ⟨gR3, 2, none⟩ = some (.int .i64 r.1.2.2) := (blk_cell BR58.out 2).trans rfl
        have zR59_3 : wp.cell? ⟨gR3, 3, none⟩ = some (.int .i64 r.2.1.1) := (blk_cell BR58.out 3).trans rfl
        have zR59_4 : wp.cell? ⟨gR3, 4, none⟩ = some (.int .i64 r.2.1.2.1) := (blk_cell BR58.out 4).trans rfl
        have zR59_5 : wp.cell? ⟨gR3, 5, none⟩ = some (.int .i64 r.2.1.2.2) := (blk_cell BR58.out 5).trans rfl
        have zR59_6 : wp.cell? ⟨gR3, 6, none⟩ = some (.slice A r.2.2.length c) := (blk_cell BR58.out 6).trans rfl
        have zM59_0 : wp.cell? ⟨gM3, 0, none⟩ = some (.int .i64 r.1.1) := (blk_cell BM58.out 0).trans rfl
        have zM59_1 : wp.cell? ⟨gM3, 1, none⟩ = some (.int .i64 r.1.2.1) := (blk_cell BM58.out 1).trans rfl
        have zM59_2 : wp.cell? ⟨gM3, 2, none⟩ = some (.int .i64 r.1.2.2) := (blk_cell BM58.out 2).trans rfl
        have zS59_0 : wp.cell? ⟨gS53, 0, none⟩ = some (.bool false) := (blk_cell BS58.out 0).trans rfl
        have zS59_1 : wp.cell? ⟨gS53, 1, none⟩ = some (.int .i64 b.1) := (blk_cell BS58.out 1).trans rfl
        have zS59_2 : wp.cell? ⟨gS53, 2, none⟩ = some (.int .i64 b.2.1) := (blk_cell BS58.out 2).trans rfl
        have zS59_3 : wp.cell? ⟨gS53, 3, none⟩ = some (.int .i64 b.2.2) := (blk_cell BS58.out 3).trans rfl
        have zS59_4 : wp.cell? ⟨gS53, 4, none⟩ = some (.slice V v.length cv) := (blk_cell BS58.out 4).trans rfl
        have zaR60_0 : ∀ o, (wp.alloc o).cell? ⟨gR3, 0, none⟩ = some (.int .i64 r.1.1) := fun o => (blk_cell (blk_alloc BR58.out o) 0).trans rfl
        have zaR60_1 : ∀ o, (wp.alloc o).cell? ⟨gR3, 1, none⟩ = some (.int .i64 r.1.2.1) := fun o => (blk_cell (blk_alloc BR58.out o) 1).trans rfl
        have zaR60_2 : ∀ o, (wp.alloc o).cell? ⟨gR3, 2, none⟩ = some (.int .i64 r.1.2.2) := fun o => (blk_cell (blk_alloc BR58.out o) 2).trans rfl
        have zaR60_3 : ∀ o, (wp.alloc o).cell? ⟨gR3, 3, none⟩ = some (.int .i64 r.2.1.1) := fun o => (blk_cell (blk_alloc BR58.out o) 3).trans rfl
        have zaR60_4 : ∀ o, (wp.alloc o).cell? ⟨gR3, 4, none⟩ = some (.int .i64 r.2.1.2.1) := fun o => (blk_cell (blk_alloc BR58.out o) 4).trans rfl
        have zaR60_5 : ∀ o, (wp.alloc o).cell? ⟨gR3, 5, none⟩ = some (.int .i64 r.2.1.2.2) := fun o => (blk_cell (blk_alloc BR58.out o) 5).trans rfl
        have zaR60_6 : ∀ o, (wp.alloc o).cell? ⟨gR3, 6, none⟩ = some (.slice A r.2.2.length c) := fun o => (blk_cell (blk_alloc BR58.out o) 6).trans rfl
        have zaM60_0 : ∀ o, (wp.alloc o).cell? ⟨gM3, 0, none⟩ = some (.int .i64 r.1.1) := fun o => (blk_cell (blk_alloc BM58.out o) 0).trans rfl
        have zaM60_1 : ∀ o, (wp.alloc o).cell? ⟨gM3, 1, none⟩ = some (.int .i64 r.1.2.1) := fun o => (blk_cell (blk_alloc BM58.out o) 1).trans rfl
        have zaM60_2 : ∀ o, (wp.alloc o).cell? ⟨gM3, 2, none⟩ = some (.int .i64 r.1.2.2) := fun o => (blk_cell (blk_alloc BM58.out o) 2).trans rfl
        have zaS60_0 : ∀ o, (wp.alloc o).cell? ⟨gS53, 0, none⟩ = some (.bool false) := fun o => (blk_cell (blk_alloc BS58.out o) 0).trans rfl
        have zaS60_1 : ∀ o, (wp.alloc o).cell? ⟨gS53, 1, none⟩ = some (.int .i64 b.1) := fun o => (blk_cell (blk_alloc BS58.out o) 1).trans rfl
        have zaS60_2 : ∀ o, (wp.alloc o).cell? ⟨gS53, 2, none⟩ = some (.int .i64 b.2.1) := fun o => (blk_cell (blk_alloc BS58.out o) 2).trans rfl
        have zaS60_3 : ∀ o, (wp.alloc o).cell? ⟨gS53, 3, none⟩ = some (.int .i64 b.2.2) := fun o => (blk_cell (blk_alloc BS58.out o) 3).trans rfl
        have zaS60_4 : ∀ o, (wp.alloc o).cell? ⟨gS53, 4, none⟩ = some (.slice V v.length cv) := fun o => (blk_cell (blk_alloc BS58.out o) 4).trans rfl
        go_wp2_with fail
        obtain ⟨W61, hw61⟩ : ∃ x : World, x = wp.alloc (.cells #[.int .i64 b.1, .int .i64 b.2.1, .int .i64 b.2.2, .int .i64 r.2.1.1, .int .i64 r.2.1.2.1, .int .i64 r.2.1.2.2, .slice B1 r.2.2.length d1] 26) := ⟨_, rfl⟩
        have hbs61 : Below wp.heap.size wp W61 := by rw [hw61]; repeat (first | exact Below.refl _ _ | refine below_alloc ?_ _ | refine below_drew ?_)
        obtain ⟨gT61, hgT61⟩ : ∃ x, x = wp.heap.size := ⟨_, rfl⟩
        have HNT := Aside0.mk (show gR3 ≠ gT61 by rw [hgT61]; exact Nat.ne_of_lt (blk_lt BR58.out))
        have GST61 : Aside0 (w.heap.size ≤ gT61) := ⟨by rw [hgT61]; have := HB58.out.size; omega⟩
        have BT61 : Aside0 (W61.heap[gT61]? = some (.cells #[.int .i64 b.1, .int .i64 b.2.1, .int .i64 b.2.2, .int .i64 r.2.1.1, .int .i64 r.2.1.2.1, .int .i64 r.2.1.2.2, .slice B1 r.2.2.length d1] 26 (0, 0))) := ⟨by rw [hw61, hgT61]; exact blk_new _ _⟩
        rw [← hw61]
        rw [← hgT61]
        clear hw61 hgT61
        clear zR59_0 zR59_1 zR59_2 zR59_3 zR59_4 zR59_5 zR59_6 zM59_0 zM59_1 zM59_2 zS59_0 zS59_1 zS59_2 zS59_3 zS59_4 zaR60_0 zaR60_1 zaR60_2 zaR60_3 zaR60_4 zaR60_5 zaR60_6 zaM60_0 zaM60_1 zaM60_2 zaS60_0 zaS60_1 zaS60_2 zaS60_3 zaS60_4
        have HB62 := Aside0.mk (below_step HB58.out hbs61)
        have BR62 : Aside0 (W61.heap[gR3]? = some (.cells #[.int .i64 r.1.1, .int .i64 r.1.2.1, .int .i64 r.1.2.2, .int .i64 r.2.1.1, .int .i64 r.2.1.2.1, .int .i64 r.2.1.2.2, .slice A r.2.2.length c] 26 (0, 0))) := ⟨(hbs61.block _ (blk_lt BR58.out)).trans BR58.out⟩
        have BM62 : Aside0 (W61.heap[gM3]? = some (.cells #[.int .i64 r.1.1, .int .i64 r.1.2.1, .int .i64 r.1.2.2] 23 (0, 0))) := ⟨(hbs61.block _ (blk_lt BM58.out)).trans BM58.out⟩
        have BS62 : Aside0 (W61.heap[gS53]? = some (.cells #[.bool false, .int .i64 b.1, .int .i64 b.2.1, .int .i64 b.2.2, .slice V v.length cv] 44 (0, 0))) := ⟨(hbs61.block _ (blk_lt BS58.out)).trans BS58.out⟩
        have Cv62 := Aside0.mk (Kd.C_below Cv58.out hbs61)
        have Rr62 := Aside0.mk (Kd.R_below Rr58.out hbs61)
        have Rp62 := Aside0.mk (Kd.R_below HR1.out hbs61)
        clear hbs61
        have zR63_0 : W61.cell? ⟨gR3, 0, none⟩ = some (.int .i64 r.1.1) := (blk_cell BR62.out 0).trans rfl
        have zR63_1 : W61.cell? ⟨gR3, 1, none⟩ = some (.int .i64 r.1.2.1) := (blk_cell BR62.out 1).trans rfl
        have zR63_2 : W61.cell? ⟨gR3, 2, none⟩ = some (.int .i64 r.1.2.2) := (blk_cell BR62.out 2).trans rfl
        have zR63_3 : W61.cell? ⟨gR3, 3, none⟩ = some (.int .i64 r.2.1.1) := (blk_cell BR62.out 3).trans rfl
        have zR63_4 : W61.cell? ⟨gR3, 4, none⟩ = some (.int .i64 r.2.1.2.1) := (blk_cell BR62.out 4).trans rfl
        have zR63_5 : W61.cell? ⟨gR3, 5, none⟩ = some (.int .i64 r.2.1.2.2) := (blk_cell BR62.out 5).trans rfl
        have zR63_6 : W61.cell? ⟨gR3, 6, none⟩ = some (.slice A r.2.2.length c) := (blk_cell BR62.out 6).trans rfl
        have zM63_0 : W61.cell? ⟨gM3, 0, none⟩ = some (.int .i64 r.1.1) := (blk_cell BM62.out 0).trans rfl
        have zM63_1 : W61.cell? ⟨gM3, 1, none⟩ = some (.int .i64 r.1.2.1) := (blk_cell BM62.out 1).trans rfl
        have zM63_2 : W61.cell? ⟨gM3, 2, none⟩ = some (.int .i64 r.1.2.2) := (blk_cell BM62.out 2).trans rfl
        have zS63_0 : W61.cell? ⟨gS53, 0, none⟩ = some (.bool false) := (blk_cell BS62.out 0).trans rfl
        have zS63_1 : W61.cell? ⟨gS53, 1, none⟩ = some (.int .i64 b.1) := (blk_cell BS62.out 1).trans rfl
        have zS63_2 : W61.cell? ⟨gS53, 2, none⟩ = some (.int .i64 b.2.1) := (blk_cell BS62.out 2).trans rfl
        have zS63_3 : W61.cell? ⟨gS53, 3, none⟩ = some (.int .i64 b.2.2) := (blk_cell BS62.out 3).trans rfl
        have zS63_4 : W61.cell? ⟨gS53, 4, none⟩ = some (.slice V v.length cv) := (blk_cell BS62.out 4).trans rfl
        have zT63_0 : W61.cell? ⟨gT61, 0, none⟩ = some (.int .i64 b.1) := (blk_cell BT61.out 0).trans rfl
        have zT63_1 : W61.cell? ⟨gT61, 1, none⟩ = some (.int .i64 b.2.1) := (blk_cell BT61.out 1).trans rfl
        have zT63_2 : W61.cell? ⟨gT61, 2, none⟩ = some (.int .i64 b.2.2) := (blk_cell BT61.out 2).trans rfl
        have zT63_3 : W61.cell? ⟨gT61, 3, none⟩ = some (.int .i64 r.2.1.1) := (blk_cell BT61.out 3).trans rfl
        have zT63_4 : W61.cell? ⟨gT61, 4, none⟩ = some (.int .i64 r.2.1.2.1) := (blk_cell BT61.out 4).trans rfl
        have zT63_5 : W61.cell? ⟨gT61, 5, none⟩ = some (.int .i64 r.2.1.2.2) := (blk_cell BT61.out 5).trans rfl
        have zT63_6 : W61.cell? ⟨gT61, 6, none⟩ = some (.slice B1 r.2.2.length d1) := (blk_cell BT61.out 6).trans rfl
        go_wp2_with fail
        refine (refless_v false _ _ _ HLM.out).mono ?_
        rintro e w64 ⟨rfl, hb64⟩
        clear zR63_0 zR63_1 zR63_2 zR63_3 zR63_4 zR63_5 zR63_6 zM63_0 zM63_1 zM63_2 zS63_0 zS63_1 zS63_2 zS63_3 zS63_4 zT63_0 zT63_1 zT63_2 zT63_3 zT63_4 zT63_5 zT63_6
        have HB65 := Aside0.mk (below_step HB62.out hb64)
        have BR65 : Aside0 (w64.heap[gR3]? = some (.cells #[.int .i64 r.1.1, .int .i64 r.1.2.1, .int .i64 r.1.2.2, .int .i64 r.2.1.1, .int .i64 r.2.1.2.1, .int .i64 r.2.1.2.2, .slice A r.2.2.length c] 26 (0, 0))) := ⟨(hb64.block _ (blk_lt BR62.out)).trans BR62.out⟩
        have BM65 : Aside0 (w64.heap[gM3]? = some (.cells #[.int .i64 r.1.1, .int .i64 r.1.2.1, .int .i64 r.1.2.2] 23 (0, 0))) := ⟨(hb64.block _ (blk_lt BM62.out)).trans BM62.out⟩
        have BS65 : Aside0 (w64.heap[gS53]? = some (.cells #[.bool false, .int .i64 b.1, .int .i64 b.2.1, .int .i64 b.2.2, .slice V v.length cv] 44 (0, 0))) := ⟨(hb64.block _ (blk_lt BS62.out)).trans BS62.out⟩
        have BT65 : Aside0 (w64.heap[gT61]? = some (.cells #[.int .i64 b.1, .int .i64 b.2.1, .int .i64 b.2.2, .int .i64 r.2.1.1, .int .i64 r.2.1.2.1, .int .i64 r.2.1.2.2, .slice B1 r.2.2.length d1] 26 (0, 0))) := ⟨(hb64.block _ (blk_lt BT61.out)).trans BT61.out⟩
        have Cv65 := Aside0.mk (Kd.C_below Cv62.out hb64)
        have Rr65 := Aside0.mk (Kd.R_below Rr62.out hb64)
        have Rp65 := Aside0.mk (Kd.R_below Rp62.out hb64)
        clear hb64
        have zR66_0 : w64.cell? ⟨gR3, 0, none⟩ = some (.int .i64 r.1.1) := (blk_cell BR65.out 0).trans rfl
        have zR66_1 : w64.cell? ⟨gR3, 1, none⟩ = some (.int .i64 r.1.2.1) := (blk_cell BR65.out 1).trans rfl
        have zR66_2 : w64.cell? ⟨gR3, 2, none⟩ = some (.int .i64 r.1.2.2) := (blk_cell BR65.out 2).trans rfl
        have zR66_3 : w64.cell? ⟨gR3, 3, none⟩ = some (.int .i64 r.2.1.1) := (blk_cell BR65.out 3).trans rfl
        have zR66_4 : w64.cell? ⟨gR3, 4, none⟩ = some (.int .i64 r.2.1.2.1) := (blk_cell BR65.out 4).trans rfl
        have zR66_5 : w64.cell? ⟨gR3, 5, none⟩ = some (.int .i64 r.2.1.2.2) := (blk_cell BR65.out 5).trans rfl
        have zR66_6 : w64.cell? ⟨gR3, 6, none⟩ = some (.slice A r.2.2.length c) := (blk_cell BR65.out 6).trans rfl
        have zM66_0 : w64.cell? ⟨gM3, 0, none⟩ = some (.int .i64 r.1.1) := (blk_cell BM65.out 0).trans rfl
        have zM66_1 : w64.cell? ⟨gM3, 1, none⟩ = some (.int .i64 r.1.2.1) := (blk_cell BM65.out 1).trans rfl
        have zM66_2 : w64.cell? ⟨gM3, 2, none⟩ = some (.int .i64 r.1.2.2) := (blk_cell BM65.out 2).trans rfl
        have zS66_0 : w64.cell? ⟨gS53, 0, none⟩ = some (.bool false) := (blk_cell BS65.out 0).trans rfl
        have zS66_1 : w64.cell? ⟨gS53, 1, none⟩ = some (.int .i64 b.1) := (blk_cell BS65.out 1).trans rfl
        have zS66_2 : w64.cell? ⟨gS53, 2, none⟩ = some (.int .i64 b.2.1) := (blk_cell BS65.out 2).trans rfl
        have zS66_3 : w64.cell? ⟨gS53, 3, none⟩ = some (.int .i64 b.2.2) := (blk_cell BS65.out 3).trans rfl
        have zS66_4 : w64.cell? ⟨gS53, 4, none⟩ = some (.slice V v.length cv) := (blk_cell BS65.out 4).trans rfl
        have zT66_0 : w64.cell? ⟨gT61, 0, none⟩ = some (.int .i64 b.1) := (blk_cell BT65.out 0).trans rfl
        have zT66_1 : w64.cell? ⟨gT61, 1, none⟩ = some (.int .i64 b.2.1) := (blk_cell BT65.out 1).trans rfl
        have zT66_2 : w64.cell? ⟨gT61, 2, none⟩ = some (.int .i64 b.2.2) := (blk_cell BT65.out 2).trans rfl
        have zT66_3 : w64.cell? ⟨gT61, 3, none⟩ = some (.int .i64 r.2.1.1) := (blk_cell BT65.out 3).trans rfl
        have zT66_4 : w64.cell? ⟨gT61, 4, none⟩ = some (.int .i64 r.2.1.2.1) := (blk_cell BT65.out 4).trans rfl
        have zT66_5 : w64.cell? ⟨gT61, 5, none⟩ = some (.int .i64 r.2.1.2.2) := (blk_cell BT65.out 5).trans rfl
        have zT66_6 : w64.cell? ⟨gT61, 6, none⟩ = some (.slice B1 r.2.2.length d1) := (blk_cell BT65.out 6).trans rfl
        go_wp2_with fail
        refine (refless_v false _ _ _ HLA.out).mono ?_
        rintro e w67 ⟨rfl, hb67⟩
        clear zR66_0 zR66_1 zR66_2 zR66_3 zR66_4 zR66_5 zR66_6 zM66_0 zM66_1 zM66_2 zS66_0 zS66_1 zS66_2 zS66_3 zS66_4 zT66_0 zT66_1 zT66_2 zT66_3 zT66_4 zT66_5 zT66_6
        have HB68 := Aside0.mk (below_step HB65.out hb67)
        have BR68 : Aside0 (w67.heap[gR3]? = some (.cells #[.int .i64 r.1.1, .int .i64 r.1.2.1, .int .i64 r.1.2.2, .int .i64 r.2.1.1, .int .i64 r.2.1.2.1, .int .i64 r.2.1.2.2, .slice A r.2.2.length c] 26 (0, 0))) := ⟨(hb67.block _ (blk_lt BR65.out)).trans BR65.out⟩
        have BM68 : Aside0 (w67.heap[gM3]? = some (.cells #[.int .i64 r.1.1, .int .i64 r.1.2.1, .int .i64 r.1.2.2] 23 (0, 0))) := ⟨(hb67.block _ (blk_lt BM65.out)).trans BM65.out⟩
        have BS68 : Aside0 (w67.heap[gS53]? = some (.cells #[.bool false, .int .i64 b.1, .int .i64 b.2.1, .int .i64 b.2.2, .slice V v.length cv] 44 (0, 0))) := ⟨(hb67.block _ (blk_lt BS65.out)).trans BS65.out⟩
        have BT68 : Aside0 (w67.heap[gT61]? = some (.cells #[.int .i64 b.1, .int .i64 b.2.1, .int .i64 b.2.2, .int .i64 r.2.1.1, .int .i64 r.2.1.2.1, .int .i64 r.2.1.2.2, .slice B1 r.2.2.length d1] 26 (0, 0))) := ⟨(hb67.block _ (blk_lt BT65.out)).trans BT65.out⟩
        have Cv68 := Aside0.mk (Kd.C_below Cv65.out hb67)
        have Rr68 := Aside0.mk (Kd.R_below Rr65.out hb67)
        have Rp68 := Aside0.mk (Kd.R_below Rp65.out hb67)
        clear hb67
        have zR69_0 : w67.cell? ⟨gR3, 0, none⟩ = some (.int .i64 r.1.1) := (blk_cell BR68.out 0).trans rfl
        have zR69_1 : w67.cell? ⟨gR3, 1, none⟩ = some (.int .i64 r.1.2.1) := (blk_cell BR68.out 1).trans rfl
        have zR69_2 : w67.cell? ⟨gR3, 2, none⟩ = some (.int .i64 r.1.2.2) := (blk_cell BR68.out 2).trans rfl
        have zR69_3 : w67.cell? ⟨gR3, 3, none⟩ = some (.int .i64 r.2.1.1) := (blk_cell BR68.out 3).trans rfl
        have zR69_4 : w67.cell? ⟨gR3, 4, none⟩ = some (.int .i64 r.2.1.2.1) := (blk_cell BR68.out 4).trans rfl
        have zR69_5 : w67.cell? ⟨gR3, 5, none⟩ = some (.int .i64 r.2.1.2.2) := (blk_cell BR68.out 5).trans rfl
        have zR69_6 : w67.cell? ⟨gR3, 6, none⟩ = some (.slice A r.2.2.length c) := (blk_cell BR68.out 6).trans rfl
        have zM69_0 : w67.cell? ⟨gM3, 0, none⟩ = some (.int .i64 r.1.1) := (blk_cell BM68.out 0).trans rfl
        have zM69_1 : w67.cell? ⟨gM3, 1, none⟩ = some (.int .i64 r.1.2.1) := (blk_cell BM68.out 1).trans rfl
        have zM69_2 : w67.cell? ⟨gM3, 2, none⟩ = some (.int .i64 r.1.2.2) := (blk_cell BM68.out 2).trans rfl
        have zS69_0 : w67.cell? ⟨gS53, 0, none⟩ = some (.bool false) := (blk_cell BS68.out 0).trans rfl
        have zS69_1 : w67.cell? ⟨gS53, 1, none⟩ = some (.int .i64 b.1) := (blk_cell BS68.out 1).trans rfl
        have zS69_2 : w67.cell? ⟨gS53, 2, none⟩ = some (.int .i64 b.2.1) := (blk_cell BS68.out 2).trans rfl
        have zS69_3 : w67.cell? ⟨gS53, 3, none⟩ = some (.int .i64 b.2.2) := (blk_cell BS68.out 3).trans rfl
        have zS69_4 : w67.cell? ⟨gS53, 4, none⟩ = some (.slice V v.length cv) := (blk_cell BS68.out 4).trans rfl
        have zT69_0 : w67.cell? ⟨gT61, 0, none⟩ = some (.int .i64 b.1) := (blk_cell BT68.out 0).trans rfl
        have zT69_1 : w67.cell? ⟨gT61, 1, none⟩ = some (.int .i64 b.2.1) := (blk_cell BT68.out 1).trans rfl
        have zT69_2 : w67.cell? ⟨gT61, 2, none⟩ = some (.int .i64 b.2.2) := (blk_cell BT68.out 2).trans rfl
        have zT69_3 : w67.cell? ⟨gT61, 3, none⟩ = some (.int .i64 r.2.1.1) := (blk_cell BT68.out 3).trans rfl
        have zT69_4 : w67.cell? ⟨gT61, 4, none⟩ = some (.int .i64 r.2.1.2.1) := (blk_cell BT68.out 4).trans rfl
        have zT69_5 : w67.cell? ⟨gT61, 5, none⟩ = some (.int .i64 r.2.1.2.2) := (blk_cell BT68.out 5).trans rfl
        have zT69_6 : w67.cell? ⟨gT61, 6, none⟩ = some (.slice B1 r.2.2.length d1) := (blk_cell BT68.out 6).trans rfl
        go_wp2_with fail
        have hgd := good_v (b, r.2.1, r.2.2) B1 d1 _ (Kd.R_reads' Rp68.out).2.2 (Kd.R_reads' Rp68.out).2.1 HOKN.out
        rw [HGN.out] at hgd
        refine hgd.mono ?_
        rintro e wg ⟨rfl, hbg⟩
        clear hgd
        clear zR69_0 zR69_1 zR69_2 zR69_3 zR69_4 zR69_5 zR69_6 zM69_0 zM69_1 zM69_2 zS69_0 zS69_1 zS69_2 zS69_3 zS69_4 zT69_0 zT69_1 zT69_2 zT69_3 zT69_4 zT69_5 zT69_6
        have HB71 := Aside0.mk (below_step HB68.out hbg)
        have BR71 : Aside0 (wg.heap[gR3]? = some (.cells #[.int .i64 r.1.1, .int .i64 r.1.2.1, .int .i64 r.1.2.2, .int .i64 r.2.1.1, .int .i64 r.2.1.2.1, .int .i64 r.2.1.2.2, .slice A r.2.2.length c] 26 (0, 0))) := ⟨(hbg.block _ (blk_lt BR68.out)).trans BR68.out⟩
        have BM71 : Aside0 (wg.heap[gM3]? = some (.cells #[.int .i64 r.1.1, .int .i64 r.1.2.1, .int .i64 r.1.2.2] 23 (0, 0))) := ⟨(hbg.block _ (blk_lt BM68.out)).trans BM68.out⟩
        have BS71 : Aside0 (wg.heap[gS53]? = some (.cells #[.bool false, .int .i64 b.1, .int .i64 b.2.1, .int .i64 b.2.2, .slice V v.length cv] 44 (0, 0))) := ⟨(hbg.block _ (blk_lt BS68.out)).trans BS68.out⟩
        have BT71 : Aside0 (wg.heap[gT61]? = some (.cells #[.int .i64 b.1, .int .i64 b.2.1, .int .i64 b.2.2, .int .i64 r.2.1.1, .int .i64 r.2.1.2.1, .int .i64 r.2.1.2.2, .slice B1 r.2.2.length d1] 26 (0, 0))) := ⟨(hbg.block _ (blk_lt BT68.out)).trans BT68.out⟩
        have Cv71 := Aside0.mk (Kd.C_below Cv68.out hbg)
        have Rr71 := Aside0.mk (Kd.R_below Rr68.out hbg)
        have Rp71 := Aside0.mk (Kd.R_below Rp68.out hbg)
        clear hbg
        have zR72_0 : wg.cell? ⟨gR3, 0, none⟩ = some (.int .i64 r.1.1) := (blk_cell BR71.out 0).trans rfl
        have zR72_1 : wg.cell? ⟨gR3, 1, none⟩ = some (.int .i64 r.1.2.1) := (blk_cell BR71.out 1).trans rfl
        have zR72_2 : wg.cell? ⟨gR3, 2, none⟩ = some (.int .i64 r.1.2.2) := (blk_cell BR71.out 2).trans rfl
        have zR72_3 : wg.cell? ⟨gR3, 3, none⟩ = some (.int .i64 r.2.1.1) := (blk_cell BR71.out 3).trans rfl
        have zR72_4 : wg.cell? ⟨gR3, 4, none⟩ = some (.int .i64 r.2.1.2.1) := (blk_cell BR71.out 4).trans rfl
        have zR72_5 : wg.cell? ⟨gR3, 5, none⟩ = some (.int .i64 r.2.1.2.2) := (blk_cell BR71.out 5).trans rfl
        have zR72_6 : wg.cell? ⟨gR3, 6, none⟩ = some (.slice A r.2.2.length c) := (blk_cell BR71.out 6).trans rfl
        have zM72_0 : wg.cell? ⟨gM3, 0, none⟩ = some (.int .i64 r.1.1) := (blk_cell BM71.out 0).trans rfl
        have zM72_1 : wg.cell? ⟨gM3, 1, none⟩ = some (.int .i64 r.1.2.1) := (blk_cell BM71.out 1).trans rfl
        have zM72_2 : wg.cell? ⟨gM3, 2, none⟩ = some (.int .i64 r.1.2.2) := (blk_cell BM71.out 2).trans rfl
        have zS72_0 : wg.cell? ⟨gS53, 0, none⟩ = some (.bool false) := (blk_cell BS71.out 0).trans rfl
        have zS72_1 : wg.cell? ⟨gS53, 1, none⟩ = some (.int .i64 b.1) := (blk_cell BS71.out 1).trans rfl
        have zS72_2 : wg.cell? ⟨gS53, 2, none⟩ = some (.int .i64 b.2.1) := (blk_cell BS71.out 2).trans rfl
        have zS72_3 : wg.cell? ⟨gS53, 3, none⟩ = some (.int .i64 b.2.2) := (blk_cell BS71.out 3).trans rfl
        have zS72_4 : wg.cell? ⟨gS53, 4, none⟩ = some (.slice V v.length cv) := (blk_cell BS71.out 4).trans rfl
        have zT72_0 : wg.cell? ⟨gT61, 0, none⟩ = some (.int .i64 b.1) := (blk_cell BT71.out 0).trans rfl
        have zT72_1 : wg.cell? ⟨gT61, 1, none⟩ = some (.int .i64 b.2.1) := (blk_cell BT71.out 1).trans rfl
        have zT72_2 : wg.cell? ⟨gT61, 2, none⟩ = some (.int .i64 b.2.2) := (blk_cell BT71.out 2).trans rfl
        have zT72_3 : wg.cell? ⟨gT61, 3, none⟩ = some (.int .i64 r.2.1.1) := (blk_cell BT71.out 3).trans rfl
        have zT72_4 : wg.cell? ⟨gT61, 4, none⟩ = some (.int .i64 r.2.1.2.1) := (blk_cell BT71.out 4).trans rfl
        have zT72_5 : wg.cell? ⟨gT61, 5, none⟩ = some (.int .i64 r.2.1.2.2) := (blk_cell BT71.out 5).trans rfl
        have zT72_6 : wg.cell? ⟨gT61, 6, none⟩ = some (.slice B1 r.2.2.length d1) := (blk_cell BT71.out 6).trans rfl
        go_wp2_with fail
        refine (ints_v true B1 d1 r.2.2 A c r.2.2 _ (decide_eq_true rfl) (Kd.R_reads' Rp71.out).2.2 (Kd.R_reads' Rp71.out).2.1 (Kd.R_reads' Rr71.out).2.2 (Kd.R_reads' Rr71.out).2.1 (by have := hlen.out; omega)).mono ?_
        rintro e wi ⟨rfl, hbi⟩
        clear zR72_0 zR72_1 zR72_2 zR72_3 zR72_4 zR72_5 zR72_6 zM72_0 zM72_1 zM72_2 zS72_0 zS72_1 zS72_2 zS72_3 zS72_4 zT72_0 zT72_1 zT72_2 zT72_3 zT72_4 zT72_5 zT72_6
        have HB73 := Aside0.mk (below_step HB71.out hbi)
        have BR73 : Aside0 (wi.heap[gR3]? = some (.cells #[.int .i64 r.1.1, .int .i64 r.1.2.1, .int .i64 r.1.2.2, .int .i64 r.2.1.1, .int .i64 r.2.1.2.1, .int .i64 r.2.1.2.2, .slice A r.2.2.length c] 26 (0, 0))) := ⟨(hbi.block _ (blk_lt BR71.out)).trans BR71.out⟩
        have BM73 : Aside0 (wi.heap[gM3]? = some (.cells #[.int .i64 r.1.1, .int .i64 r.1.2.1, .int .i64 r.1.2.2] 23 (0, 0))) := ⟨(hbi.block _ (blk_lt BM71.out)).trans BM71.out⟩
        have BS73 : Aside0 (wi.heap[gS53]? = some (.cells #[.bool false, .int .i64 b.1, .int .i64 b.2.1, .int .i64 b.2.2, .slice V v.length cv] 44 (0, 0))) := ⟨(hbi.block _ (blk_lt BS71.out)).trans BS71.out⟩
        have BT73 : Aside0 (wi.heap[gT61]? = some (.cells #[.int .i64 b.1, .int .i64 b.2.1, .int .i64 b.2.2, .int .i64 r.2.1.1, .int .i64 r.2.1.2.1, .int .i64 r.2.1.2.2, .slice B1 r.2.2.length d1] 26 (0, 0))) := ⟨(hbi.block _ (blk_lt BT71.out)).trans BT71.out⟩
        have Cv73 := Aside0.mk (Kd.C_below Cv71.out hbi)
        have Rr73 := Aside0.mk (Kd.R_below Rr71.out hbi)
        have Rp73 := Aside0.mk (Kd.R_below Rp71.out hbi)
        clear hbi
        have zR74_0 : wi.cell? ⟨gR3, 0, none⟩ = some (.int .i64 r.1.1) := (blk_cell BR73.out 0).trans rfl
        have zR74_1 : wi.cell? ⟨gR3, 1, none⟩ = some (.int .i64 r.1.2.1) := (blk_cell BR73.out 1).trans rfl
        have zR74_2 : wi.cell? ⟨gR3, 2, none⟩ = some (.int .i64 r.1.2.2) := (blk_cell BR73.out 2).trans rfl
        have zR74_3 : wi.cell? ⟨gR3, 3, none⟩ = some (.int .i64 r.2.1.1) := (blk_cell BR73.out 3).trans rfl
        have zR74_4 : wi.cell? ⟨gR3, 4, none⟩ = some (.int .i64 r.2.1.2.1) := (blk_cell BR73.out 4).trans rfl
        have zR74_5 : wi.cell? ⟨gR3, 5, none⟩ = some (.int .i64 r.2.1.2.2) := (blk_cell BR73.out 5).trans rfl
        have zR74_6 : wi.cell? ⟨gR3, 6, none⟩ = some (.slice A r.2.2.length c) := (blk_cell BR73.out 6).trans rfl
        have zM74_0 : wi.cell? ⟨gM3, 0, none⟩ = some (.int .i64 r.1.1) := (blk_cell BM73.out 0).trans rfl
        have zM74_1 : wi.cell? ⟨gM3, 1, none⟩ = some (.int .i64 r.1.2.1) := (blk_cell BM73.out 1).trans rfl
        have zM74_2 : wi.cell? ⟨gM3, 2, none⟩ = some (.int .i64 r.1.2.2) := (blk_cell BM73.out 2).trans rfl
        have zS74_0 : wi.cell? ⟨gS53, 0, none⟩ = some (.bool false) := (blk_cell BS73.out 0).trans rfl
        have zS74_1 : wi.cell? ⟨gS53, 1, none⟩ = some (.int .i64 b.1) := (blk_cell BS73.out 1).trans rfl
        have zS74_2 : wi.cell? ⟨gS53, 2, none⟩ = some (.int .i64 b.2.1) := (blk_cell BS73.out 2).trans rfl
        have zS74_3 : wi.cell? ⟨gS53, 3, none⟩ = some (.int .i64 b.2.2) := (blk_cell BS73.out 3).trans rfl
        have zS74_4 : wi.cell? ⟨gS53, 4, none⟩ = some (.slice V v.length cv) := (blk_cell BS73.out 4).trans rfl
        have zT74_0 : wi.cell? ⟨gT61, 0, none⟩ = some (.int .i64 b.1) := (blk_cell BT73.out 0).trans rfl
        have zT74_1 : wi.cell? ⟨gT61, 1, none⟩ = some (.int .i64 b.2.1) := (blk_cell BT73.out 1).trans rfl
        have zT74_2 : wi.cell? ⟨gT61, 2, none⟩ = some (.int .i64 b.2.2) := (blk_cell BT73.out 2).trans rfl
        have zT74_3 : wi.cell? ⟨gT61, 3, none⟩ = some (.int .i64 r.2.1.1) := (blk_cell BT73.out 3).trans rfl
        have zT74_4 : wi.cell? ⟨gT61, 4, none⟩ = some (.int .i64 r.2.1.2.1) := (blk_cell BT73.out 4).trans rfl
        have zT74_5 : wi.cell? ⟨gT61, 5, none⟩ = some (.int .i64 r.2.1.2.2) := (blk_cell BT73.out 5).trans rfl
        have zT74_6 : wi.cell? ⟨gT61, 6, none⟩ = some (.slice B1 r.2.2.length d1) := (blk_cell BT73.out 6).trans rfl
        go_wp2_with fail
        refine start_ (n := 5) (S := fun w' => w'.cell? ⟨gT61, 0, none⟩ = some (.int .i64 b.1) ∧ w'.cell? ⟨gT61, 1, none⟩ = some (.int .i64 b.2.1) ∧ w'.cell? ⟨gT61, 2, none⟩ = some (.int .i64 b.2.2) ∧ w'.cell? ⟨gT61, 3, none⟩ = some (.int .i64 r.2.1.1) ∧ w'.cell? ⟨gT61, 4, none⟩ = some (.int .i64 r.2.1.2.1) ∧ w'.cell? ⟨gT61, 5, none⟩ = some (.int .i64 r.2.1.2.2) ∧ w'.cell? ⟨gT61, 6, none⟩ = some (.slice B1 r.2.2.length d1)) (ds := [4]) #[false, false, false, false, false] (by kernel_rfl) rfl rfl ⟨zT74_0, zT74_1, zT74_2, zT74_3, zT74_4, zT74_5, zT74_6⟩ (fun hHeld => ?_)
        refine pure_ (i := 1) (N := some 102) (v := ?_) (a' := ?_) #[false, true, false, false, false] rfl rfl (by kernel_rfl) (fun _ _ _ h => h) (Or.inl ⟨by rfl, ?_⟩) ?_ ?_
        rotate_left
        · intro w'
          go_simp
          with_reducible rfl
        rotate_left
        · simp only [Act.put, List.setIfInBounds_toArray, List.set_cons_zero, List.set_cons_succ, i64_w, i32_w]
          rfl
        refine take_ (i := 0) (N := some 101) (v := ?_) (a' := ?_) #[true, true, false, false, false] rfl rfl (by kernel_rfl) (fun _ _ _ h => h) (Or.inl ⟨by rfl, ?_⟩) hHeld ?_ ?_
        rotate_left
        · rintro w' ⟨s0, s1, s2, s3, s4, s5, s6⟩
          go_simp
          with_reducible rfl
        rotate_left
        · simp only [Act.put, List.setIfInBounds_toArray, List.set_cons_zero, List.set_cons_succ, i64_w, i32_w]
          rfl
        refine take_ (i := 2) (N := some 103) (v := ?_) (a' := ?_) #[true, true, true, false, false] rfl rfl (by kernel_rfl) (fun _ _ _ h => h) (Or.inl ⟨by rfl, ?_⟩) hHeld ?_ ?_
        rotate_left
        · rintro w' ⟨s0, s1, s2, s3, s4, s5, s6⟩
          go_simp
          with_reducible rfl
        rotate_left
        · simp only [Act.put, List.setIfInBounds_toArray, List.set_cons_zero, List.set_cons_succ, i64_w, i32_w]
          rfl
        refine one_ (i := 3) (N := none) #[true, true, true, true, false] rfl rfl (by kernel_rfl) (by decide) (fun K hK => ?_)
        have fR0 := blk_frozen BR73.out 0
        have fR1 := blk_frozen BR73.out 1
        have fR2 := blk_frozen BR73.out 2
        have fR3 := blk_frozen BR73.out 3
        have fR4 := blk_frozen BR73.out 4
        have fR5 := blk_frozen BR73.out 5
        have fR6 := blk_frozen BR73.out 6
        refine skip_ (w1 := ?_) (by rfl) rfl ?_ ?_
        rotate_left
        · go_simp
          rfl
        clear zR74_0 zR74_1 zR74_2 zR74_3 zR74_4 zR74_5 zR74_6 zM74_0 zM74_1 zM74_2 zS74_0 zS74_1 zS74_2 zS74_3 zS74_4 zT74_0 zT74_1 zT74_2 zT74_3 zT74_4 zT74_5 zT74_6
        obtain ⟨W75, hw75⟩ : ∃ x : World, x = (((((((wi.setCell ⟨gR3, 0, none⟩ (.int .i64 b.1)).setCell ⟨gR3, 1, none⟩ (.int .i64 b.2.1)).setCell ⟨gR3, 2, none⟩ (.int .i64 b.2.2)).setCell ⟨gR3, 3, none⟩ (.int .i64 r.2.1.1)).setCell ⟨gR3, 4, none⟩ (.int .i64 r.2.1.2.1)).setCell ⟨gR3, 5, none⟩ (.int .i64 r.2.1.2.2)).setCell ⟨gR3, 6, none⟩ (.slice B1 r.2.2.length d1)) := ⟨_, rfl⟩
        have HB75 : Aside0 (Below w.heap.size w W75) := ⟨by rw [hw75]; exact (below_set (below_set (below_set (below_set (below_set (below_set (below_set HB73.out GSR3.out) GSR3.out) GSR3.out) GSR3.out) GSR3.out) GSR3.out) GSR3.out)⟩
        have hgr75 : wi.grownBy W75 (some gR3) := by rw [hw75]; exact ((((((grown_set _ _ _ _).trans (grown_set _ _ _ _)).trans (grown_set _ _ _ _)).trans (grown_set _ _ _ _)).trans (grown_set _ _ _ _)).trans (grown_set _ _ _ _)).trans (grown_set _ _ _ _)
        have BR75 : Aside0 (W75.heap[gR3]? = some (.cells #[.int .i64 b.1, .int .i64 b.2.1, .int .i64 b.2.2, .int .i64 r.2.1.1, .int .i64 r.2.1.2.1, .int .i64 r.2.1.2.2, .slice B1 r.2.2.length d1] 26 (0, 0))) := ⟨by rw [hw75]; refine blk_put (cs := #[.int .i64 b.1, .int .i64 b.2.1, .int .i64 b.2.2, .int .i64 r.2.1.1, .int .i64 r.2.1.2.1, .int .i64 r.2.1.2.2, .slice A r.2.2.length c]) ?_ 6 _ rfl; refine blk_put (cs := #[.int .i64 b.1, .int .i64 b.2.1, .int .i64 b.2.2, .int .i64 r.2.1.1, .int .i64 r.2.1.2.1, .int .i64 r.2.1.2.2, .slice A r.2.2.length c]) ?_ 5 _ rfl; refine blk_put (cs := #[.int .i64 b.1, .int .i64 b.2.1, .int .i64 b.2.2, .int .i64 r.2.1.1, .int .i64 r.2.1.2.1, .int .i64 r.2.1.2.2, .slice A r.2.2.length c]) ?_ 4 _ rfl; refine blk_put (cs := #[.int .i64 b.1, .int .i64 b.2.1, .int .i64 b.2.2, .int .i64 r.2.1.1, .int .i64 r.2.1.2.1, .int .i64 r.2.1.2.2, .slice A r.2.2.length c]) ?_ 3 _ rfl; refine blk_put (cs := #[.int .i64 b.1, .int .i64 b.2.1, .int .i64 r.1.2.2, .int .i64 r.2.1.1, .int .i64 r.2.1.2.1, .int .i64 r.2.1.2.2, .slice A r.2.2.length c]) ?_ 2 _ rfl; refine blk_put (cs := #[.int .i64 b.1, .int .i64 r.1.2.1, .int .i64 r.1.2.2, .int .i64 r.2.1.1, .int .i64 r.2.1.2.1, .int .i64 r.2.1.2.2, .slice A r.2.2.length c]) ?_ 1 _ rfl; refine blk_put (cs := #[.int .i64 r.1.1, .int .i64 r.1.2.1, .int .i64 r.1.2.2, .int .i64 r.2.1.1, .int .i64 r.2.1.2.1, .int .i64 r.2.1.2.2, .slice A r.2.2.length c]) ?_ 0 _ rfl; exact BR73.out⟩
        have BM75 : Aside0 (W75.heap[gM3]? = some (.cells #[.int .i64 r.1.1, .int .i64 r.1.2.1, .int .i64 r.1.2.2] 23 (0, 0))) := ⟨blk_grown BM73.out hgr75 (fun e => (blk_ne BM73.out BR73.out (by decide)) (by injection e))⟩
        have BT75 : Aside0 (W75.heap[gT61]? = some (.cells #[.int .i64 b.1, .int .i64 b.2.1, .int .i64 b.2.2, .int .i64 r.2.1.1, .int .i64 r.2.1.2.1, .int .i64 r.2.1.2.2, .slice B1 r.2.2.length d1] 26 (0, 0))) := ⟨blk_grown BT73.out hgr75 (fun e => (HNT.out.symm) (by injection e))⟩
        have Rr75 := Aside0.mk (Kd.R_mono (Kd.R_grown (Kd.R_types Rr73.out BR73.out (by decide)) hgr75 (fun k hk => by simpa using hk.2)) (fun _ hk => hk.1))
        have Rp75 := Aside0.mk (Kd.R_mono (Kd.R_grown (Kd.R_types Rp73.out BR73.out (by decide)) hgr75 (fun k hk => by simpa using hk.2)) (fun _ hk => hk.1))
        have Cv75 := Aside0.mk (Kd.C_below HV.out HB75.out)
        rw [← hw75]
        clear hw75 hgr75
        obtain ⟨W76, hw76⟩ : ∃ x : World, x = W75.drew := ⟨_, rfl⟩
        have hbd76 : Below W75.heap.size W75 W76 := by rw [hw76]; exact below_drew (Below.refl _ _)
        rw [← hw76]
        clear hw76
        have HB77 := Aside0.mk (below_step HB75.out hbd76)
        have BR77 : Aside0 (W76.heap[gR3]? = some (.cells #[.int .i64 b.1, .int .i64 b.2.1, .int .i64 b.2.2, .int .i64 r.2.1.1, .int .i64 r.2.1.2.1, .int .i64 r.2.1.2.2, .slice B1 r.2.2.length d1] 26 (0, 0))) := ⟨(hbd76.block _ (blk_lt BR75.out)).trans BR75.out⟩
        have BM77 : Aside0 (W76.heap[gM3]? = some (.cells #[.int .i64 r.1.1, .int .i64 r.1.2.1, .int .i64 r.1.2.2] 23 (0, 0))) := ⟨(hbd76.block _ (blk_lt BM75.out)).trans BM75.out⟩
        have BT77 : Aside0 (W76.heap[gT61]? = some (.cells #[.int .i64 b.1, .int .i64 b.2.1, .int .i64 b.2.2, .int .i64 r.2.1.1, .int .i64 r.2.1.2.1, .int .i64 r.2.1.2.2, .slice B1 r.2.2.length d1] 26 (0, 0))) := ⟨(hbd76.block _ (blk_lt BT75.out)).trans BT75.out⟩
        have Cv77 := Aside0.mk (Kd.C_below Cv75.out hbd76)
        have Rr77 := Aside0.mk (Kd.R_below Rr75.out hbd76)
        have Rp77 := Aside0.mk (Kd.R_below Rp75.out hbd76)
        clear hbd76
        have zM78_0 : W76.cell? ⟨gM3, 0, none⟩ = some (.int .i64 r.1.1) := (blk_cell BM77.out 0).trans rfl
        have zM78_1 : W76.cell? ⟨gM3, 1, none⟩ = some (.int .i64 r.1.2.1) := (blk_cell BM77.out 1).trans rfl
        have zM78_2 : W76.cell? ⟨gM3, 2, none⟩ = some (.int .i64 r.1.2.2) := (blk_cell BM77.out 2).trans rfl
        have zT78_0 : W76.cell? ⟨gT61, 0, none⟩ = some (.int .i64 b.1) := (blk_cell BT77.out 0).trans rfl
        have zT78_1 : W76.cell? ⟨gT61, 1, none⟩ = some (.int .i64 b.2.1) := (blk_cell BT77.out 1).trans rfl
        have zT78_2 : W76.cell? ⟨gT61, 2, none⟩ = some (.int .i64 b.2.2) := (blk_cell BT77.out 2).trans rfl
        have zT78_3 : W76.cell? ⟨gT61, 3, none⟩ = some (.int .i64 r.2.1.1) := (blk_cell BT77.out 3).trans rfl
        have zT78_4 : W76.cell? ⟨gT61, 4, none⟩ = some (.int .i64 r.2.1.2.1) := (blk_cell BT77.out 4).trans rfl
        have zT78_5 : W76.cell? ⟨gT61, 5, none⟩ = some (.int .i64 r.2.1.2.2) := (blk_cell BT77.out 5).trans rfl
        have zT78_6 : W76.cell? ⟨gT61, 6, none⟩ = some (.slice B1 r.2.2.length d1) := (blk_cell BT77.out 6).trans rfl
        have fM0 := blk_frozen BM77.out 0
        have fM1 := blk_frozen BM77.out 1
        have fM2 := blk_frozen BM77.out 2
        refine hK.out _ _ ⟨zT78_0, zT78_1, zT78_2, zT78_3, zT78_4, zT78_5, zT78_6⟩ (fun hHeld => ?_)
        clear hK K
        refine last_ (i := 4) (N := none) #[true, true, true, true, true] rfl rfl (by kernel_rfl) (by decide) (fun K hK => ?_)
        refine skip_ (w1 := ?_) (by rfl) rfl ?_ ?_
        rotate_left
        · go_simp
          rfl
        refine hK.out _ _ ?_
        clear hK K
        refine done_ (by kernel_rfl) ?_
        clear zM78_0 zM78_1 zM78_2 zT78_0 zT78_1 zT78_2 zT78_3 zT78_4 zT78_5 zT78_6
        obtain ⟨W79, hw79⟩ : ∃ x : World, x = (((W76.setCell ⟨gM3, 0, none⟩ (.int .i64 b.1)).setCell ⟨gM3, 1, none⟩ (.int .i64 b.2.1)).setCell ⟨gM3, 2, none⟩ (.int .i64 b.2.2)) := ⟨_, rfl⟩
        have HB79 : Aside0 (Below w.heap.size w W79) := ⟨by rw [hw79]; exact (below_set (below_set (below_set HB77.out GSM3.out) GSM3.out) GSM3.out)⟩
        have hgr79 : W76.grownBy W79 (some gM3) := by rw [hw79]; exact ((grown_set _ _ _ _).trans (grown_set _ _ _ _)).trans (grown_set _ _ _ _)
        have BM79 : Aside0 (W79.heap[gM3]? = some (.cells #[.int .i64 b.1, .int .i64 b.2.1, .int .i64 b.2.2] 23 (0, 0))) := ⟨by rw [hw79]; refine blk_put (cs := #[.int .i64 b.1, .int .i64 b.2.1, .int .i64 r.1.2.2]) ?_ 2 _ rfl; refine blk_put (cs := #[.int .i64 b.1, .int .i64 r.1.2.1, .int .i64 r.1.2.2]) ?_ 1 _ rfl; refine blk_put (cs := #[.int .i64 r.1.1, .int .i64 r.1.2.1, .int .i64 r.1.2.2]) ?_ 0 _ rfl; exact BM77.out⟩
        have BR79 : Aside0 (W79.heap[gR3]? = some (.cells #[.int .i64 b.1, .int .i64 b.2.1, .int .i64 b.2.2, .int .i64 r.2.1.1, .int .i64 r.2.1.2.1, .int .i64 r.2.1.2.2, .slice B1 r.2.2.length d1] 26 (0, 0))) := ⟨blk_grown BR77.out hgr79 (fun e => (blk_ne BR77.out BM77.out (by decide)) (by injection e))⟩
        have BT79 : Aside0 (W79.heap[gT61]? = some (.cells #[.int .i64 b.1, .int .i64 b.2.1, .int .i64 b.2.2, .int .i64 r.2.1.1, .int .i64 r.2.1.2.1, .int .i64 r.2.1.2.2, .slice B1 r.2.2.length d1] 26 (0, 0))) := ⟨blk_grown BT77.out hgr79 (fun e => (blk_ne BT77.out BM77.out (by decide)) (by injection e))⟩
        have Rr79 := Aside0.mk (Kd.R_mono (Kd.R_grown (Kd.R_types Rr77.out BM77.out (by decide)) hgr79 (fun k hk => by simpa using hk.2)) (fun _ hk => hk.1))
        have Rp79 := Aside0.mk (Kd.R_mono (Kd.R_grown (Kd.R_types Rp77.out BM77.out (by decide)) hgr79 (fun k hk => by simpa using hk.2)) (fun _ hk => hk.1))
        have Cv79 := Aside0.mk (Kd.C_below HV.out HB79.out)
        rw [← hw79]
        clear hw79 hgr79
        go_wp2_with fail
        go_roundw
        case rel => exact ⟨k + 1, by omega, by go_num, ⟨⟨(b, r.2.1, r.2.2), B1, d1, BR79.out, BM79.out, Kd.R_lower Rp79.out (Nat.le_refl _), HGN.out, HOKN.out⟩⟩, HB79⟩
        case measure => simp [intOf]; omega
      · have HP := Aside0.mk hp
        have HE := Aside0.mk he
        clear hp he
        have zR55_0 : W53.cell? ⟨gR3, 0, none⟩ = some (.int .i64 r.1.1) := (blk_cell BR54.out 0).trans rfl
        have zR55_1 : W53.cell? ⟨gR3, 1, none⟩ = some (.int .i64 r.1.2.1) := (blk_cell BR54.out 1).trans rfl
        have zR55_2 : W53.cell? ⟨gR3, 2, none⟩ = some (.int .i64 r.1.2.2) := (blk_cell BR54.out 2).trans rfl
        have zR55_3 : W53.cell? ⟨gR3, 3, none⟩ = some (.int .i64 r.2.1.1) := (blk_cell BR54.out 3).trans rfl
        have zR55_4 : W53.cell? ⟨gR3, 4, none⟩ = some (.int .i64 r.2.1.2.1) := (blk_cell BR54.out 4).trans rfl
        have zR55_5 : W53.cell? ⟨gR3, 5, none⟩ = some (.int .i64 r.2.1.2.2) := (blk_cell BR54.out 5).trans rfl
        have zR55_6 : W53.cell? ⟨gR3, 6, none⟩ = some (.slice A r.2.2.length c) := (blk_cell BR54.out 6).trans rfl
        have zM55_0 : W53.cell? ⟨gM3, 0, none⟩ = some (.int .i64 r.1.1) := (blk_cell BM54.out 0).trans rfl
        have zM55_1 : W53.cell? ⟨gM3, 1, none⟩ = some (.int .i64 r.1.2.1) := (blk_cell BM54.out 1).trans rfl
        have zM55_2 : W53.cell? ⟨gM3, 2, none⟩ = some (.int .i64 r.1.2.2) := (blk_cell BM54.out 2).trans rfl
        have zS55_0 : W53.cell? ⟨gS53, 0, none⟩ = some (.bool false) := (blk_cell BS53.out 0).trans rfl
        have zS55_1 : W53.cell? ⟨gS53, 1, none⟩ = some (.int .i64 b.1) := (blk_cell BS53.out 1).trans rfl
        have zS55_2 : W53.cell? ⟨gS53, 2, none⟩ = some (.int .i64 b.2.1) := (blk_cell BS53.out 2).trans rfl
        have zS55_3 : W53.cell? ⟨gS53, 3, none⟩ = some (.int .i64 b.2.2) := (blk_cell BS53.out 3).trans rfl
        have zS55_4 : W53.cell? ⟨gS53, 4, none⟩ = some (.slice V v.length cv) := (blk_cell BS53.out 4).trans rfl
        have zaR56_0 : ∀ o, (W53.alloc o).cell? ⟨gR3, 0, none⟩ = some (.int .i64 r.1.1) := fun o => (blk_cell (blk_alloc BR54.out o) 0).trans rfl
        have zaR56_1 : ∀ o, (W53.alloc o).cell? ⟨gR3, 1, none⟩ = some (.int .i64 r.1.2.1) := fun o => (blk_cell (blk_alloc BR54.out o) 1).trans rfl
        have zaR56_2 : ∀ o, (W53.alloc o).cell? ⟨gR3, 2, none⟩ = some (.int .i64 r.1.2.2) := fun o => (blk_cell (blk_alloc BR54.out o) 2).trans rfl
        have zaR56_3 : ∀ o, (W53.alloc o).cell? ⟨gR3, 3, none⟩ = some (.int .i64 r.2.1.1) := fun o => (blk_cell (blk_alloc BR54.out o) 3).trans rfl
        have zaR56_4 : ∀ o, (W53.alloc o).cell? ⟨gR3, 4, none⟩ = some (.int .i64 r.2.1.2.1) := fun o => (blk_cell (blk_alloc BR54.out o) 4).trans rfl
        have zaR56_5 : ∀ o, (W53.alloc o).cell? ⟨gR3, 5, none⟩ = some (.int .i64 r.2.1.2.2) := fun o => (blk_cell (blk_alloc BR54.out o) 5).trans rfl
        have zaR56_6 : ∀ o, (W53.alloc o).cell? ⟨gR3, 6, none⟩ = some (.slice A r.2.2.length c) := fun o => (blk_cell (blk_alloc BR54.out o) 6).trans rfl
        have zaM56_0 : ∀ o, (W53.alloc o).cell? ⟨gM3, 0, none⟩ = some (.int .i64 r.1.1) := fun o => (blk_cell (blk_alloc BM54.out o) 0).trans rfl
        have zaM56_1 : ∀ o, (W53.alloc o).cell? ⟨gM3, 1, none⟩ = some (.int .i64 r.1.2.1) := fun o => (blk_cell (blk_alloc BM54.out o) 1).trans rfl
        have zaM56_2 : ∀ o, (W53.alloc o).cell? ⟨gM3, 2, none⟩ = some (.int .i64 r.1.2.2) := fun o => (blk_cell (blk_alloc BM54.out o) 2).trans rfl
        have zaS56_0 : ∀ o, (W53.alloc o).cell? ⟨gS53, 0, none⟩ = some (.bool false) := fun o => (blk_cell (blk_alloc BS53.out o) 0).trans rfl
        have zaS56_1 : ∀ o, (W53.alloc o).cell? ⟨gS53, 1, none⟩ = some (.int .i64 b.1) := fun o => (blk_cell (blk_alloc BS53.out o) 1).trans rfl
        have zaS56_2 : ∀ o, (W53.alloc o).cell? ⟨gS53, 2, none⟩ = some (.int .i64 b.2.1) := fun o => (blk_cell (blk_alloc BS53.out o) 2).trans rfl
        have zaS56_3 : ∀ o, (W53.alloc o).cell? ⟨gS53, 3, none⟩ = some (.int .i64 b.2.2) := fun o => (blk_cell (blk_alloc BS53.out o) 3).trans rfl
        have zaS56_4 : ∀ o, (W53.alloc o).cell? ⟨gS53, 4, none⟩ = some (.slice V v.length cv) := fun o => (blk_cell (blk_alloc BS53.out o) 4).trans rfl
        refine (prepare_at r (((0, 0, 0) : Bal), ((0, 0, 0) : Bal), []) (.iface 45 (.int .i64 2)) A c _ b HP.out (by rw [HE.out]; rfl) HOK.out HBOK.out hlen.out (Kd.R_reads' Rr54.out).2.2 (Kd.R_reads' Rr54.out).2.1).mono ?_
        rintro e wp ⟨B1, d1, rfl, hR1, hb1⟩
        clear zR55_0 zR55_1 zR55_2 zR55_3 zR55_4 zR55_5 zR55_6 zM55_0 zM55_1 zM55_2 zS55_0 zS55_1 zS55_2 zS55_3 zS55_4 zaR56_0 zaR56_1 zaR56_2 zaR56_3 zaR56_4 zaR56_5 zaR56_6 zaM56_0 zaM56_1 zaM56_2 zaS56_0 zaS56_1 zaS56_2 zaS56_3 zaS56_4
        have HB58 := Aside0.mk (below_step HB54.out hb1)
        have BR58 : Aside0 (wp.heap[gR3]? = some (.cells #[.int .i64 r.1.1, .int .i64 r.1.2.1, .int .i64 r.1.2.2, .int .i64 r.2.1.1, .int .i64 r.2.1.2.1, .int .i64 r.2.1.2.2, .slice A r.2.2.length c] 26 (0, 0))) := ⟨(hb1.block _ (blk_lt BR54.out)).trans BR54.out⟩
        have BM58 : Aside0 (wp.heap[gM3]? = some (.cells #[.int .i64 r.1.1, .int .i64 r.1.2.1, .int .i64 r.1.2.2] 23 (0, 0))) := ⟨(hb1.block _ (blk_lt BM54.out)).trans BM54.out⟩
        have BS58 : Aside0 (wp.heap[gS53]? = some (.cells #[.bool false, .int .i64 b.1, .int .i64 b.2.1, .int .i64 b.2.2, .slice V v.length cv] 44 (0, 0))) := ⟨(hb1.block _ (blk_lt BS53.out)).trans BS53.out⟩
        have Cv58 := Aside0.mk (Kd.C_below Cv54.out hb1)
        have Rr58 := Aside0.mk (Kd.R_below Rr54.out hb1)
        clear hb1
        have HR1 := Aside0.mk hR1
        clear hR1
        have zR59_0 : wp.cell? ⟨gR3, 0, none⟩ = some (.int .i64 r.1.1) := (blk_cell BR58.out 0).trans rfl
        have zR59_1 : wp.cell? ⟨gR3, 1, none⟩ = some (.int .i64 r.1.2.1) := (blk_cell BR58.out 1).trans rfl
        have zR59_2 : wp.cell? ⟨gR3, 2, none⟩ = some (.int .i64 r.1.2.2) := (blk_cell BR58.out 2).trans rfl
        have zR59_3 : wp.cell? ⟨gR3, 3, none⟩ = some (.int .i64 r.2.1.1) := (blk_cell BR58.out 3).trans rfl
        have zR59_4 : wp.cell? ⟨gR3, 4, none⟩ = some (.int .i64 r.2.1.2.1) := (blk_cell BR58.out 4).trans rfl
        have zR59_5 : wp.cell? ⟨gR3, 5, none⟩ = some (.int .i64 r.2.1.2.2) := (blk_cell BR58.out 5).trans rfl
        have zR59_6 : wp.cell? ⟨gR3, 6, none⟩ = some (.slice A r.2.2.length c) := (blk_cell BR58.out 6).trans rfl
        have zM59_0 : wp.cell? ⟨gM3, 0, none⟩ = some (.int .i64 r.1.1) := (blk_cell BM58.out 0).trans rfl
        have zM59_1 : wp.cell? ⟨gM3, 1, none⟩ = some (.int .i64 r.1.2.1) := (blk_cell BM58.out 1).trans rfl
        have zM59_2 : wp.cell? ⟨gM3, 2, none⟩ = some (.int .i64 r.1.2.2) := (blk_cell BM58.out 2).trans rfl
        have zS59_0 : wp.cell? ⟨gS53, 0, none⟩ = some (.bool false) := (blk_cell BS58.out 0).trans rfl
        have zS59_1 : wp.cell? ⟨gS53, 1, none⟩ = some (.int .i64 b.1) := (blk_cell BS58.out 1).trans rfl
        have zS59_2 : wp.cell? ⟨gS53, 2, none⟩ = some (.int .i64 b.2.1) := (blk_cell BS58.out 2).trans rfl
        have zS59_3 : wp.cell? ⟨gS53, 3, none⟩ = some (.int .i64 b.2.2) := (blk_cell BS58.out 3).trans rfl
        have zS59_4 : wp.cell? ⟨gS53, 4, none⟩ = some (.slice V v.length cv) := (blk_cell BS58.out 4).trans rfl
        have zaR60_0 : ∀ o, (wp.alloc o).cell? ⟨gR3, 0, none⟩ = some (.int .i64 r.1.1) := fun o => (blk_cell (blk_alloc BR58.out o) 0).trans rfl
        have zaR60_1 : ∀ o, (wp.alloc o).cell? ⟨gR3, 1, none⟩ = some (.int .i64 r.1.2.1) := fun o => (blk_cell (blk_alloc BR58.out o) 1).trans rfl
        have zaR60_2 : ∀ o, (wp.alloc o).cell? ⟨gR3, 2, none⟩ = some (.int .i64 r.1.2.2) := fun o => (blk_cell (blk_alloc BR58.out o) 2).trans rfl
        have zaR60_3 : ∀ o, (wp.alloc o).cell? ⟨gR3, 3, none⟩ = some (.int .i64 r.2.1.1) := fun o => (blk_cell (blk_alloc BR58.out o) 3).trans rfl
        have zaR60_4 : ∀ o, (wp.alloc o).cell? ⟨gR3, 4, none⟩ = some (.int .i64 r.2.1.2.1) := fun o => (blk_cell (blk_alloc BR58.out o) 4).trans rfl
        have zaR60_5 : ∀ o, (wp.alloc o).cell? ⟨gR3, 5, none⟩ = some (.int .i64 r.2.1.2.2) := fun o => (blk_cell (blk_alloc BR58.out o) 5).trans rfl
        have zaR60_6 : ∀ o, (wp.alloc o).cell? ⟨gR3, 6, none⟩ = some (.slice A r.2.2.length c) := fun o => (blk_cell (blk_alloc BR58.out o) 6).trans rfl
        have zaM60_0 : ∀ o, (wp.alloc o).cell? ⟨gM3, 0, none⟩ = some (.int .i64 r.1.1) := fun o => (blk_cell (blk_alloc BM58.out o) 0).trans rfl
        have zaM60_1 : ∀ o, (wp.alloc o).cell? ⟨gM3, 1, none⟩ = some (.int .i64 r.1.2.1) := fun o => (blk_cell (blk_alloc BM58.out o) 1).trans rfl
        have zaM60_2 : ∀ o, (wp.alloc o).cell? ⟨gM3, 2, none⟩ = some (.int .i64 r.1.2.2) := fun o => (blk_cell (blk_alloc BM58.out o) 2).trans rfl
        have zaS60_0 : ∀ o, (wp.alloc o).cell? ⟨gS53, 0, none⟩ = some (.bool false) := fun o => (blk_cell (blk_alloc BS58.out o) 0).trans rfl
        have zaS60_1 : ∀ o, (wp.alloc o).cell? ⟨gS53, 1, none⟩ = some (.int .i64 b.1) := fun o => (blk_cell (blk_alloc BS58.out o) 1).trans rfl
        have zaS60_2 : ∀ o, (wp.alloc o).cell? ⟨gS53, 2, none⟩ = some (.int .i64 b.2.1) := fun o => (blk_cell (blk_alloc BS58.out o) 2).trans rfl
        have zaS60_3 : ∀ o, (wp.alloc o).cell? ⟨gS53, 3, none⟩ = some (.int .i64 b.2.2) := fun o => (blk_cell (blk_alloc BS58.out o) 3).trans rfl
        have zaS60_4 : ∀ o, (wp.alloc o).cell? ⟨gS53, 4, none⟩ = some (.slice V v.length cv) := fun o => (blk_cell (blk_alloc BS58.out o) 4).trans rfl
        go_wp2_with fail
        obtain ⟨W61, hw61⟩ : ∃ x : World, x = wp.alloc (.cells #[.int .i64 0, .int .i64 0, .int .i64 0, .int .i64 0, .int .i64 0, .int .i64 0, .slice B1 0 d1] 26) := ⟨_, rfl⟩
        have hbs61 : Below wp.heap.size wp W61 := by rw [hw61]; repeat (first | exact Below.refl _ _ | refine below_alloc ?_ _ | refine below_drew ?_)
        obtain ⟨gT61, hgT61⟩ : ∃ x, x = wp.heap.size := ⟨_, rfl⟩
        have GST61 : Aside0 (w.heap.size ≤ gT61) := ⟨by rw [hgT61]; have := HB58.out.size; omega⟩
        have BT61 : Aside0 (W61.heap[gT61]? = some (.cells #[.int .i64 0, .int .i64 0, .int .i64 0, .int .i64 0, .int .i64 0, .int .i64 0, .slice B1 0 d1] 26 (0, 0))) := ⟨by rw [hw61, hgT61]; exact blk_new _ _⟩
        rw [← hw61]
        rw [← hgT61]
        clear hw61 hgT61
        clear zR59_0 zR59_1 zR59_2 zR59_3 zR59_4 zR59_5 zR59_6 zM59_0 zM59_1 zM59_2 zS59_0 zS59_1 zS59_2 zS59_3 zS59_4 zaR60_0 zaR60_1 zaR60_2 zaR60_3 zaR60_4 zaR60_5 zaR60_6 zaM60_0 zaM60_1 zaM60_2 zaS60_0 zaS60_1 zaS60_2 zaS60_3 zaS60_4
        have HB62 := Aside0.mk (below_step HB58.out hbs61)
        have BR62 : Aside0 (W61.heap[gR3]? = some (.cells #[.int .i64 r.1.1, .int .i64 r.1.2.1, .int .i64 r.1.2.2, .int .i64 r.2.1.1, .int .i64 r.2.1.2.1, .int .i64 r.2.1.2.2, .slice A r.2.2.length c] 26 (0, 0))) := ⟨(hbs61.block _ (blk_lt BR58.out)).trans BR58.out⟩
        have BM62 : Aside0 (W61.heap[gM3]? = some (.cells #[.int .i64 r.1.1, .int .i64 r.1.2.1, .int .i64 r.1.2.2] 23 (0, 0))) := ⟨(hbs61.block _ (blk_lt BM58.out)).trans BM58.out⟩
        have BS62 : Aside0 (W61.heap[gS53]? = some (.cells #[.bool false, .int .i64 b.1, .int .i64 b.2.1, .int .i64 b.2.2, .slice V v.length cv] 44 (0, 0))) := ⟨(hbs61.block _ (blk_lt BS58.out)).trans BS58.out⟩
        have Cv62 := Aside0.mk (Kd.C_below Cv58.out hbs61)
        have Rr62 := Aside0.mk (Kd.R_below Rr58.out hbs61)
        have Rp62 := Aside0.mk (Kd.R_below HR1.out hbs61)
        clear hbs61
        have zR63_0 : W61.cell? ⟨gR3, 0, none⟩ = some (.int .i64 r.1.1) := (blk_cell BR62.out 0).trans rfl
        have zR63_1 : W61.cell? ⟨gR3, 1, none⟩ = some (.int .i64 r.1.2.1) := (blk_cell BR62.out 1).trans rfl
        have zR63_2 : W61.cell? ⟨gR3, 2, none⟩ = some (.int .i64 r.1.2.2) := (blk_cell BR62.out 2).trans rfl
        have zR63_3 : W61.cell? ⟨gR3, 3, none⟩ = some (.int .i64 r.2.1.1) := (blk_cell BR62.out 3).trans rfl
        have zR63_4 : W61.cell? ⟨gR3, 4, none⟩ = some (.int .i64 r.2.1.2.1) := (blk_cell BR62.out 4).trans rfl
        have zR63_5 : W61.cell? ⟨gR3, 5, none⟩ = some (.int .i64 r.2.1.2.2) := (blk_cell BR62.out 5).trans rfl
        have zR63_6 : W61.cell? ⟨gR3, 6, none⟩ = some (.slice A r.2.2.length c) := (blk_cell BR62.out 6).trans rfl
        have zM63_0 : W61.cell? ⟨gM3, 0, none⟩ = some (.int .i64 r.1.1) := (blk_cell BM62.out 0).trans rfl
        have zM63_1 : W61.cell? ⟨gM3, 1, none⟩ = some (.int .i64 r.1.2.1) := (blk_cell BM62.out 1).trans rfl
        have zM63_2 : W61.cell? ⟨gM3, 2, none⟩ = some (.int .i64 r.1.2.2) := (blk_cell BM62.out 2).trans rfl
        have zS63_0 : W61.cell? ⟨gS53, 0, none⟩ = some (.bool false) := (blk_cell BS62.out 0).trans rfl
        have zS63_1 : W61.cell? ⟨gS53, 1, none⟩ = some (.int .i64 b.1) := (blk_cell BS62.out 1).trans rfl
        have zS63_2 : W61.cell? ⟨gS53, 2, none⟩ = some (.int .i64 b.2.1) := (blk_cell BS62.out 2).trans rfl
        have zS63_3 : W61.cell? ⟨gS53, 3, none⟩ = some (.int .i64 b.2.2) := (blk_cell BS62.out 3).trans rfl
        have zS63_4 : W61.cell? ⟨gS53, 4, none⟩ = some (.slice V v.length cv) := (blk_cell BS62.out 4).trans rfl
        have zT63_0 : W61.cell? ⟨gT61, 0, none⟩ = some (.int .i64 0) := (blk_cell BT61.out 0).trans rfl
        have zT63_1 : W61.cell? ⟨gT61, 1, none⟩ = some (.int .i64 0) := (blk_cell BT61.out 1).trans rfl
        have zT63_2 : W61.cell? ⟨gT61, 2, none⟩ = some (.int .i64 0) := (blk_cell BT61.out 2).trans rfl
        have zT63_3 : W61.cell? ⟨gT61, 3, none⟩ = some (.int .i64 0) := (blk_cell BT61.out 3).trans rfl
        have zT63_4 : W61.cell? ⟨gT61, 4, none⟩ = some (.int .i64 0) := (blk_cell BT61.out 4).trans rfl
        have zT63_5 : W61.cell? ⟨gT61, 5, none⟩ = some (.int .i64 0) := (blk_cell BT61.out 5).trans rfl
        have zT63_6 : W61.cell? ⟨gT61, 6, none⟩ = some (.slice B1 0 d1) := (blk_cell BT61.out 6).trans rfl
        go_wp2_with fail
        refine (same_zero B1 d1 _ (Kd.R_reads' Rp62.out).2.2).mono ?_
        rintro e wz ⟨rfl, hbz⟩
        clear zR63_0 zR63_1 zR63_2 zR63_3 zR63_4 zR63_5 zR63_6 zM63_0 zM63_1 zM63_2 zS63_0 zS63_1 zS63_2 zS63_3 zS63_4 zT63_0 zT63_1 zT63_2 zT63_3 zT63_4 zT63_5 zT63_6
        have HB64 := Aside0.mk (below_step HB62.out hbz)
        have BR64 : Aside0 (wz.heap[gR3]? = some (.cells #[.int .i64 r.1.1, .int .i64 r.1.2.1, .int .i64 r.1.2.2, .int .i64 r.2.1.1, .int .i64 r.2.1.2.1, .int .i64 r.2.1.2.2, .slice A r.2.2.length c] 26 (0, 0))) := ⟨(hbz.block _ (blk_lt BR62.out)).trans BR62.out⟩
        have BM64 : Aside0 (wz.heap[gM3]? = some (.cells #[.int .i64 r.1.1, .int .i64 r.1.2.1, .int .i64 r.1.2.2] 23 (0, 0))) := ⟨(hbz.block _ (blk_lt BM62.out)).trans BM62.out⟩
        have BS64 : Aside0 (wz.heap[gS53]? = some (.cells #[.bool false, .int .i64 b.1, .int .i64 b.2.1, .int .i64 b.2.2, .slice V v.length cv] 44 (0, 0))) := ⟨(hbz.block _ (blk_lt BS62.out)).trans BS62.out⟩
        have BT64 : Aside0 (wz.heap[gT61]? = some (.cells #[.int .i64 0, .int .i64 0, .int .i64 0, .int .i64 0, .int .i64 0, .int .i64 0, .slice B1 0 d1] 26 (0, 0))) := ⟨(hbz.block _ (blk_lt BT61.out)).trans BT61.out⟩
        have Cv64 := Aside0.mk (Kd.C_below Cv62.out hbz)
        have Rr64 := Aside0.mk (Kd.R_below Rr62.out hbz)
        have Rp64 := Aside0.mk (Kd.R_below Rp62.out hbz)
        clear hbz
        go_wp2_with fail
        go_roundw
        case rel => exact ⟨k + 1, by omega, by go_num, ⟨⟨r, A, c, BR64.out, BM64.out, Rr64.out, HG.out, HOK.out⟩⟩, HB64⟩
        case measure => simp [intOf]; omega
      · have HP := Aside0.mk hp
        have HE := Aside0.mk he
        clear hp he
        have zR55_0 : W53.cell? ⟨gR3, 0, none⟩ = some (.int .i64 r.1.1) := (blk_cell BR54.out 0).trans rfl
        have zR55_1 : W53.cell? ⟨gR3, 1, none⟩ = some (.int .i64 r.1.2.1) := (blk_cell BR54.out 1).trans rfl
        have zR55_2 : W53.cell? ⟨gR3, 2, none⟩ = some (.int .i64 r.1.2.2) := (blk_cell BR54.out 2).trans rfl
        have zR55_3 : W53.cell? ⟨gR3, 3, none⟩ = some (.int .i64 r.2.1.1) := (blk_cell BR54.out 3).trans rfl
        have zR55_4 : W53.cell? ⟨gR3, 4, none⟩ = some (.int .i64 r.2.1.2.1) := (blk_cell BR54.out 4).trans rfl
        have zR55_5 : W53.cell? ⟨gR3, 5, none⟩ = some (.int .i64 r.2.1.2.2) := (blk_cell BR54.out 5).trans rfl
        have zR55_6 : W53.cell? ⟨gR3, 6, none⟩ = some (.slice A r.2.2.length c) := (blk_cell BR54.out 6).trans rfl
        have zM55_0 : W53.cell? ⟨gM3, 0, none⟩ = some (.int .i64 r.1.1) := (blk_cell BM54.out 0).trans rfl
        have zM55_1 : W53.cell? ⟨gM3, 1, none⟩ = some (.int .i64 r.1.2.1) := (blk_cell BM54.out 1).trans rfl
        have zM55_2 : W53.cell? ⟨gM3, 2, none⟩ = some (.int .i64 r.1.2.2) := (blk_cell BM54.out 2).trans rfl
        have zS55_0 : W53.cell? ⟨gS53, 0, none⟩ = some (.bool false) := (blk_cell BS53.out 0).trans rfl
        have zS55_1 : W53.cell? ⟨gS53, 1, none⟩ = some (.int .i64 b.1) := (blk_cell BS53.out 1).trans rfl
        have zS55_2 : W53.cell? ⟨gS53, 2, none⟩ = some (.int .i64 b.2.1) := (blk_cell BS53.out 2).trans rfl
        have zS55_3 : W53.cell? ⟨gS53, 3, none⟩ = some (.int .i64 b.2.2) := (blk_cell BS53.out 3).trans rfl
        have zS55_4 : W53.cell? ⟨gS53, 4, none⟩ = some (.slice V v.length cv) := (blk_cell BS53.out 4).trans rfl
        have zaR56_0 : ∀ o, (W53.alloc o).cell? ⟨gR3, 0, none⟩ = some (.int .i64 r.1.1) := fun o => (blk_cell (blk_alloc BR54.out o) 0).trans rfl
        have zaR56_1 : ∀ o, (W53.alloc o).cell? ⟨gR3, 1, none⟩ = some (.int .i64 r.1.2.1) := fun o => (blk_cell (blk_alloc BR54.out o) 1).trans rfl
        have zaR56_2 : ∀ o, (W53.alloc o).cell? ⟨gR3, 2, none⟩ = some (.int .i64 r.1.2.2) := fun o => (blk_cell (blk_alloc BR54.out o) 2).trans rfl
        have zaR56_3 : ∀ o, (W53.alloc o).cell? ⟨gR3, 3, none⟩ = some (.int .i64 r.2.1.1) := fun o => (blk_cell (blk_alloc BR54.out o) 3).trans rfl
        have zaR56_4 : ∀ o, (W53.alloc o).cell? ⟨gR3, 4, none⟩ = some (.int .i64 r.2.1.2.1) := fun o => (blk_cell (blk_alloc BR54.out o) 4).trans rfl
        have zaR56_5 : ∀ o, (W53.alloc o).cell? ⟨gR3, 5, none⟩ = some (.int .i64 r.2.1.2.2) := fun o => (blk_cell (blk_alloc BR54.out o) 5).trans rfl
        have zaR56_6 : ∀ o, (W53.alloc o).cell? ⟨gR3, 6, none⟩ = some (.slice A r.2.2.length c) := fun o => (blk_cell (blk_alloc BR54.out o) 6).trans rfl
        have zaM56_0 : ∀ o, (W53.alloc o).cell? ⟨gM3, 0, none⟩ = some (.int .i64 r.1.1) := fun o => (blk_cell (blk_alloc BM54.out o) 0).trans rfl
        have zaM56_1 : ∀ o, (W53.alloc o).cell? ⟨gM3, 1, none⟩ = some (.int .i64 r.1.2.1) := fun o => (blk_cell (blk_alloc BM54.out o) 1).trans rfl
        have zaM56_2 : ∀ o, (W53.alloc o).cell? ⟨gM3, 2, none⟩ = some (.int .i64 r.1.2.2) := fun o => (blk_cell (blk_alloc BM54.out o) 2).trans rfl
        have zaS56_0 : ∀ o, (W53.alloc o).cell? ⟨gS53, 0, none⟩ = some (.bool false) := fun o => (blk_cell (blk_alloc BS53.out o) 0).trans rfl
        have zaS56_1 : ∀ o, (W53.alloc o).cell? ⟨gS53, 1, none⟩ = some (.int .i64 b.1) := fun o => (blk_cell (blk_alloc BS53.out o) 1).trans rfl
        have zaS56_2 : ∀ o, (W53.alloc o).cell? ⟨gS53, 2, none⟩ = some (.int .i64 b.2.1) := fun o => (blk_cell (blk_alloc BS53.out o) 2).trans rfl
        have zaS56_3 : ∀ o, (W53.alloc o).cell? ⟨gS53, 3, none⟩ = some (.int .i64 b.2.2) := fun o => (blk_cell (blk_alloc BS53.out o) 3).trans rfl
        have zaS56_4 : ∀ o, (W53.alloc o).cell? ⟨gS53, 4, none⟩ = some (.slice V v.length cv) := fun o => (blk_cell (blk_alloc BS53.out o) 4).trans rfl
        refine (prepare_at r (((0, 0, 0) : Bal), ((0, 0, 0) : Bal), []) (.iface 45 (.int .i64 11)) A c _ b HP.out (by rw [HE.out]; rfl) HOK.out HBOK.out hlen.out (Kd.R_reads' Rr54.out).2.2 (Kd.R_reads' Rr54.out).2.1).mono ?_
        rintro e wp ⟨B1, d1, rfl, hR1, hb1⟩
        clear zR55_0 zR55_1 zR55_2 zR55_3 zR55_4 zR55_5 zR55_6 zM55_0 zM55_1 zM55_2 zS55_0 zS55_1 zS55_2 zS55_3 zS55_4 zaR56_0 zaR56_1 zaR56_2 zaR56_3 zaR56_4 zaR56_5 zaR56_6 zaM56_0 zaM56_1 zaM56_2 zaS56_0 zaS56_1 zaS56_2 zaS56_3 zaS56_4
        have HB58 := Aside0.mk (below_step HB54.out hb1)
        have BR58 : Aside0 (wp.heap[gR3]? = some (.cells #[.int .i64 r.1.1, .int .i64 r.1.2.1, .int .i64 r.1.2.2, .int .i64 r.2.1.1, .int .i64 r.2.1.2.1, .int .i64 r.2.1.2.2, .slice A r.2.2.length c] 26 (0, 0))) := ⟨(hb1.block _ (blk_lt BR54.out)).trans BR54.out⟩
        have BM58 : Aside0 (wp.heap[gM3]? = some (.cells #[.int .i64 r.1.1, .int .i64 r.1.2.1, .int .i64 r.1.2.2] 23 (0, 0))) := ⟨(hb1.block _ (blk_lt BM54.out)).trans BM54.out⟩
        have BS58 : Aside0 (wp.heap[gS53]? = some (.cells #[.bool false, .int .i64 b.1, .int .i64 b.2.1, .int .i64 b.2.2, .slice V v.length cv] 44 (0, 0))) := ⟨(hb1.block _ (blk_lt BS53.out)).trans BS53.out⟩
        have Cv58 := Aside0.mk (Kd.C_below Cv54.out hb1)
        have Rr58 := Aside0.mk (Kd.R_below Rr54.out hb1)
        clear hb1
        have HR1 := Aside0.mk hR1
        clear hR1
        have zR59_0 : wp.cell? ⟨gR3, 0, none⟩ = some (.int .i64 r.1.1) := (blk_cell BR58.out 0).trans rfl
        have zR59_1 : wp.cell? ⟨gR3, 1, none⟩ = some (.int .i64 r.1.2.1) := (blk_cell BR58.out 1).trans rfl
        have zR59_2 : wp.cell? ⟨gR3, 2, none⟩ = some (.int .i64 r.1.2.2) := (blk_cell BR58.out 2).trans rfl
        have zR59_3 : wp.cell? ⟨gR3, 3, none⟩ = some (.int .i64 r.2.1.1) := (blk_cell BR58.out 3).trans rfl
        have zR59_4 : wp.cell? ⟨gR3, 4, none⟩ = some (.int .i64 r.2.1.2.1) := (blk_cell BR58.out 4).trans rfl
        have zR59_5 : wp.cell? ⟨gR3, 5, none⟩ = some (.int .i64 r.2.1.2.2) := (blk_cell BR58.out 5).trans rfl
        have zR59_6 : wp.cell? ⟨gR3, 6, none⟩ = some (.slice A r.2.2.length c) := (blk_cell BR58.out 6).trans rfl
        have zM59_0 : wp.cell? ⟨gM3, 0, none⟩ = some (.int .i64 r.1.1) := (blk_cell BM58.out 0).trans rfl
        have zM59_1 : wp.cell? ⟨gM3, 1, none⟩ = some (.int .i64 r.1.2.1) := (blk_cell BM58.out 1).trans rfl
        have zM59_2 : wp.cell? ⟨gM3, 2, none⟩ = some (.int .i64 r.1.2.2) := (blk_cell BM58.out 2).trans rfl
        have zS59_0 : wp.cell? ⟨gS53, 0, none⟩ = some (.bool false) := (blk_cell BS58.out 0).trans rfl
        have zS59_1 : wp.cell? ⟨gS53, 1, none⟩ = some (.int .i64 b.1) := (blk_cell BS58.out 1).trans rfl
        have zS59_2 : wp.cell? ⟨gS53, 2, none⟩ = some (.int .i64 b.2.1) := (blk_cell BS58.out 2).trans rfl
        have zS59_3 : wp.cell? ⟨gS53, 3, none⟩ = some (.int .i64 b.2.2) := (blk_cell BS58.out 3).trans rfl
        have zS59_4 : wp.cell? ⟨gS53, 4, none⟩ = some (.slice V v.length cv) := (blk_cell BS58.out 4).trans rfl
        have zaR60_0 : ∀ o, (wp.alloc o).cell? ⟨gR3, 0, none⟩ = some (.int .i64 r.1.1) := fun o => (blk_cell (blk_alloc BR58.out o) 0).trans rfl
        have zaR60_1 : ∀ o, (wp.alloc o).cell? ⟨gR3, 1, none⟩ = some (.int .i64 r.1.2.1) := fun o => (blk_cell (blk_alloc BR58.out o) 1).trans rfl
        have zaR60_2 : ∀ o, (wp.alloc o).cell? ⟨gR3, 2, none⟩ = some (.int .i64 r.1.2.2) := fun o => (blk_cell (blk_alloc BR58.out o) 2).trans rfl
        have zaR60_3 : ∀ o, (wp.alloc o).cell? ⟨gR3, 3, none⟩ = some (.int .i64 r.2.1.1) := fun o => (blk_cell (blk_alloc BR58.out o) 3).trans rfl
        have zaR60_4 : ∀ o, (wp.alloc o).cell? ⟨gR3, 4, none⟩ = some (.int .i64 r.2.1.2.1) := fun o => (blk_cell (blk_alloc BR58.out o) 4).trans rfl
        have zaR60_5 : ∀ o, (wp.alloc o).cell? ⟨gR3, 5, none⟩ = some (.int .i64 r.2.1.2.2) := fun o => (blk_cell (blk_alloc BR58.out o) 5).trans rfl
        have zaR60_6 : ∀ o, (wp.alloc o).cell? ⟨gR3, 6, none⟩ = some (.slice A r.2.2.length c) := fun o => (blk_cell (blk_alloc BR58.out o) 6).trans rfl
        have zaM60_0 : ∀ o, (wp.alloc o).cell? ⟨gM3, 0, none⟩ = some (.int .i64 r.1.1) := fun o => (blk_cell (blk_alloc BM58.out o) 0).trans rfl
        have zaM60_1 : ∀ o, (wp.alloc o).cell? ⟨gM3, 1, none⟩ = some (.int .i64 r.1.2.1) := fun o => (blk_cell (blk_alloc BM58.out o) 1).trans rfl
        have zaM60_2 : ∀ o, (wp.alloc o).cell? ⟨gM3, 2, none⟩ = some (.int .i64 r.1.2.2) := fun o => (blk_cell (blk_alloc BM58.out o) 2).trans rfl
        have zaS60_0 : ∀ o, (wp.alloc o).cell? ⟨gS53, 0, none⟩ = some (.bool false) := fun o => (blk_cell (blk_alloc BS58.out o) 0).trans rfl
        have zaS60_1 : ∀ o, (wp.alloc o).cell? ⟨gS53, 1, none⟩ = some (.int .i64 b.1) := fun o => (blk_cell (blk_alloc BS58.out o) 1).trans rfl
        have zaS60_2 : ∀ o, (wp.alloc o).cell? ⟨gS53, 2, none⟩ = some (.int .i64 b.2.1) := fun o => (blk_cell (blk_alloc BS58.out o) 2).trans rfl
        have zaS60_3 : ∀ o, (wp.alloc o).cell? ⟨gS53, 3, none⟩ = some (.int .i64 b.2.2) := fun o => (blk_cell (blk_alloc BS58.out o) 3).trans rfl
        have zaS60_4 : ∀ o, (wp.alloc o).cell? ⟨gS53, 4, none⟩ = some (.slice V v.length cv) := fun o => (blk_cell (blk_alloc BS58.out o) 4).trans rfl
        go_wp2_with fail
        obtain ⟨W61, hw61⟩ : ∃ x : World, x = wp.alloc (.cells #[.int .i64 0, .int .i64 0, .int .i64 0, .int .i64 0, .int .i64 0, .int .i64 0, .slice B1 0 d1] 26) := ⟨_, rfl⟩
        have hbs61 : Below wp.heap.size wp W61 := by rw [hw61]; repeat (first | exact Below.refl _ _ | refine below_alloc ?_ _ | refine below_drew ?_)
        obtain ⟨gT61, hgT61⟩ : ∃ x, x = wp.heap.size := ⟨_, rfl⟩
        have GST61 : Aside0 (w.heap.size ≤ gT61) := ⟨by rw [hgT61]; have := HB58.out.size; omega⟩
        have BT61 : Aside0 (W61.heap[gT61]? = some (.cells #[.int .i64 0, .int .i64 0, .int .i64 0, .int .i64 0, .int .i64 0, .int .i64 0, .slice B1 0 d1] 26 (0, 0))) := ⟨by rw [hw61, hgT61]; exact blk_new _ _⟩
        rw [← hw61]
        rw [← hgT61]
        clear hw61 hgT61
        clear zR59_0 zR59_1 zR59_2 zR59_3 zR59_4 zR59_5 zR59_6 zM59_0 zM59_1 zM59_2 zS59_0 zS59_1 zS59_2 zS59_3 zS59_4 zaR60_0 zaR60_1 zaR60_2 zaR60_3 zaR60_4 zaR60_5 zaR60_6 zaM60_0 zaM60_1 zaM60_2 zaS60_0 zaS60_1 zaS60_2 zaS60_3 zaS60_4
        have HB62 := Aside0.mk (below_step HB58.out hbs61)
        have BR62 : Aside0 (W61.heap[gR3]? = some (.cells #[.int .i64 r.1.1, .int .i64 r.1.2.1, .int .i64 r.1.2.2, .int .i64 r.2.1.1, .int .i64 r.2.1.2.1, .int .i64 r.2.1.2.2, .slice A r.2.2.length c] 26 (0, 0))) := ⟨(hbs61.block _ (blk_lt BR58.out)).trans BR58.out⟩
        have BM62 : Aside0 (W61.heap[gM3]? = some (.cells #[.int .i64 r.1.1, .int .i64 r.1.2.1, .int .i64 r.1.2.2] 23 (0, 0))) := ⟨(hbs61.block _ (blk_lt BM58.out)).trans BM58.out⟩
        have BS62 : Aside0 (W61.heap[gS53]? = some (.cells #[.bool false, .int .i64 b.1, .int .i64 b.2.1, .int .i64 b.2.2, .slice V v.length cv] 44 (0, 0))) := ⟨(hbs61.block _ (blk_lt BS58.out)).trans BS58.out⟩
        have Cv62 := Aside0.mk (Kd.C_below Cv58.out hbs61)
        have Rr62 := Aside0.mk (Kd.R_below Rr58.out hbs61)
        have Rp62 := Aside0.mk (Kd.R_below HR1.out hbs61)
        clear hbs61
        have zR63_0 : W61.cell? ⟨gR3, 0, none⟩ = some (.int .i64 r.1.1) := (blk_cell BR62.out 0).trans rfl
        have zR63_1 : W61.cell? ⟨gR3, 1, none⟩ = some (.int .i64 r.1.2.1) := (blk_cell BR62.out 1).trans rfl
        have zR63_2 : W61.cell? ⟨gR3, 2, none⟩ = some (.int .i64 r.1.2.2) := (blk_cell BR62.out 2).trans rfl
        have zR63_3 : W61.cell? ⟨gR3, 3, none⟩ = some (.int .i64 r.2.1.1) := (blk_cell BR62.out 3).trans rfl
        have zR63_4 : W61.cell? ⟨gR3, 4, none⟩ = some (.int .i64 r.2.1.2.1) := (blk_cell BR62.out 4).trans rfl
        have zR63_5 : W61.cell? ⟨gR3, 5, none⟩ = some (.int .i64 r.2.1.2.2) := (blk_cell BR62.out 5).trans rfl
        have zR63_6 : W61.cell? ⟨gR3, 6, none⟩ = some (.slice A r.2.2.length c) := (blk_cell BR62.out 6).trans rfl
        have zM63_0 : W61.cell? ⟨gM3, 0, none⟩ = some (.int .i64 r.1.1) := (blk_cell BM62.out 0).trans rfl
        have zM63_1 : W61.cell? ⟨gM3, 1, none⟩ = some (.int .i64 r.1.2.1) := (blk_cell BM62.out 1).trans rfl
        have zM63_2 : W61.cell? ⟨gM3, 2, none⟩ = some (.int .i64 r.1.2.2) := (blk_cell BM62.out 2).trans rfl
        have zS63_0 : W61.cell? ⟨gS53, 0, none⟩ = some (.bool false) := (blk_cell BS62.out 0).trans rfl
        have zS63_1 : W61.cell? ⟨gS53, 1, none⟩ = some (.int .i64 b.1) := (blk_cell BS62.out 1).trans rfl
        have zS63_2 : W61.cell? ⟨gS53, 2, none⟩ = some (.int .i64 b.2.1) := (blk_cell BS62.out 2).trans rfl
        have zS63_3 : W61.cell? ⟨gS53, 3, none⟩ = some (.int .i64 b.2.2) := (blk_cell BS62.out 3).trans rfl
        have zS63_4 : W61.cell? ⟨gS53, 4, none⟩ = some (.slice V v.length cv) := (blk_cell BS62.out 4).trans rfl
        have zT63_0 : W61.cell? ⟨gT61, 0, none⟩ = some (.int .i64 0) := (blk_cell BT61.out 0).trans rfl
        have zT63_1 : W61.cell? ⟨gT61, 1, none⟩ = some (.int .i64 0) := (blk_cell BT61.out 1).trans rfl
        have zT63_2 : W61.cell? ⟨gT61, 2, none⟩ = some (.int .i64 0) := (blk_cell BT61.out 2).trans rfl
        have zT63_3 : W61.cell? ⟨gT61, 3, none⟩ = some (.int .i64 0) := (blk_cell BT61.out 3).trans rfl
        have zT63_4 : W61.cell? ⟨gT61, 4, none⟩ = some (.int .i64 0) := (blk_cell BT61.out 4).trans rfl
        have zT63_5 : W61.cell? ⟨gT61, 5, none⟩ = some (.int .i64 0) := (blk_cell BT61.out 5).trans rfl
        have zT63_6 : W61.cell? ⟨gT61, 6, none⟩ = some (.slice B1 0 d1) := (blk_cell BT61.out 6).trans rfl
        go_wp2_with fail
        refine (same_zero B1 d1 _ (Kd.R_reads' Rp62.out).2.2).mono ?_
        rintro e wz ⟨rfl, hbz⟩
        clear zR63_0 zR63_1 zR63_2 zR63_3 zR63_4 zR63_5 zR63_6 zM63_0 zM63_1 zM63_2 zS63_0 zS63_1 zS63_2 zS63_3 zS63_4 zT63_0 zT63_1 zT63_2 zT63_3 zT63_4 zT63_5 zT63_6
        have HB64 := Aside0.mk (below_step HB62.out hbz)
        have BR64 : Aside0 (wz.heap[gR3]? = some (.cells #[.int .i64 r.1.1, .int .i64 r.1.2.1, .int .i64 r.1.2.2, .int .i64 r.2.1.1, .int .i64 r.2.1.2.1, .int .i64 r.2.1.2.2, .slice A r.2.2.length c] 26 (0, 0))) := ⟨(hbz.block _ (blk_lt BR62.out)).trans BR62.out⟩
        have BM64 : Aside0 (wz.heap[gM3]? = some (.cells #[.int .i64 r.1.1, .int .i64 r.1.2.1, .int .i64 r.1.2.2] 23 (0, 0))) := ⟨(hbz.block _ (blk_lt BM62.out)).trans BM62.out⟩
        have BS64 : Aside0 (wz.heap[gS53]? = some (.cells #[.bool false, .int .i64 b.1, .int .i64 b.2.1, .int .i64 b.2.2, .slice V v.length cv] 44 (0, 0))) := ⟨(hbz.block _ (blk_lt BS62.out)).trans BS62.out⟩
        have BT64 : Aside0 (wz.heap[gT61]? = some (.cells #[.int .i64 0, .int .i64 0, .int .i64 0, .int .i64 0, .int .i64 0, .int .i64 0, .slice B1 0 d1] 26 (0, 0))) := ⟨(hbz.block _ (blk_lt BT61.out)).trans BT61.out⟩
        have Cv64 := Aside0.mk (Kd.C_below Cv62.out hbz)
        have Rr64 := Aside0.mk (Kd.R_below Rr62.out hbz)
        have Rp64 := Aside0.mk (Kd.R_below Rp62.out hbz)
        clear hbz
        go_wp2_with fail
        go_roundw
        case rel => exact ⟨k + 1, by omega, by go_num, ⟨⟨r, A, c, BR64.out, BM64.out, Rr64.out, HG.out, HOK.out⟩⟩, HB64⟩
        case measure => simp [intOf]; omega
    · skip
      go_wp2_with fail
      obtain ⟨W53, hw53⟩ : ∃ x : World, x = wr.alloc (.cells #[.bool true, .int .i64 b.1, .int .i64 b.2.1, .int .i64 b.2.2, .slice V v.length cv] 44) := ⟨_, rfl⟩
      have hbs53 : Below wr.heap.size wr W53 := by rw [hw53]; repeat (first | exact Below.refl _ _ | refine below_alloc ?_ _ | refine below_drew ?_)
      obtain ⟨gS53, hgS53⟩ : ∃ x, x = wr.heap.size := ⟨_, rfl⟩
      have GSS53 : Aside0 (w.heap.size ≤ gS53) := ⟨by rw [hgS53]; have := HW.out.size; omega⟩
      have BS53 : Aside0 (W53.heap[gS53]? = some (.cells #[.bool true, .int .i64 b.1, .int .i64 b.2.1, .int .i64 b.2.2, .slice V v.length cv] 44 (0, 0))) := ⟨by rw [hw53, hgS53]; exact blk_new _ _⟩
      rw [← hw53]
      rw [← hgS53]
      clear hw53 hgS53
      clear zR1_0 zR1_1 zR1_2 zR1_3 zR1_4 zR1_5 zR1_6 zM1_0 zM1_1 zM1_2 zaR2_0 zaR2_1 zaR2_2 zaR2_3 zaR2_4 zaR2_5 zaR2_6 zaM2_0 zaM2_1 zaM2_2
      have HB54 := Aside0.mk (below_step HW.out hbs53)
      have BR54 : Aside0 (W53.heap[gR3]? = some (.cells #[.int .i64 r.1.1, .int .i64 r.1.2.1, .int .i64 r.1.2.2, .int .i64 r.2.1.1, .int .i64 r.2.1.2.1, .int .i64 r.2.1.2.2, .slice A r.2.2.length c] 26 (0, 0))) := ⟨(hbs53.block _ (blk_lt BR0.out)).trans BR0.out⟩
      have BM54 : Aside0 (W53.heap[gM3]? = some (.cells #[.int .i64 r.1.1, .int .i64 r.1.2.1, .int .i64 r.1.2.2] 23 (0, 0))) := ⟨(hbs53.block _ (blk_lt BM0.out)).trans BM0.out⟩
      have Cv54 := Aside0.mk (Kd.C_below HVr.out hbs53)
      have Rr54 := Aside0.mk (Kd.R_below RR0.out hbs53)
      clear hbs53
      clear s0 s1 s2 s3 s4
      have zR55_0 : W53.cell? ⟨gR3, 0, none⟩ = some (.int .i64 r.1.1) := (blk_cell BR54.out 0).trans rfl
      have zR55_1 : W53.cell? ⟨gR3, 1, none⟩ = some (.int .i64 r.1.2.1) := (blk_cell BR54.out 1).trans rfl
      have zR55_2 : W53.cell? ⟨gR3, 2, none⟩ = some (.int .i64 r.1.2.2) := (blk_cell BR54.out 2).trans rfl
      have zR55_3 : W53.cell? ⟨gR3, 3, none⟩ = some (.int .i64 r.2.1.1) := (blk_cell BR54.out 3).trans rfl
      have zR55_4 : W53.cell? ⟨gR3, 4, none⟩ = some (.int .i64 r.2.1.2.1) := (blk_cell BR54.out 4).trans rfl
      have zR55_5 : W53.cell? ⟨gR3, 5, none⟩ = some (.int .i64 r.2.1.2.2) := (blk_cell BR54.out 5).trans rfl
      have zR55_6 : W53.cell? ⟨gR3, 6, none⟩ = some (.slice A r.2.2.length c) := (blk_cell BR54.out 6).trans rfl
      have zM55_0 : W53.cell? ⟨gM3, 0, none⟩ = some (.int .i64 r.1.1) := (blk_cell BM54.out 0).trans rfl
      have zM55_1 : W53.cell? ⟨gM3, 1, none⟩ = some (.int .i64 r.1.2.1) := (blk_cell BM54.out 1).trans rfl
      have zM55_2 : W53.cell? ⟨gM3, 2, none⟩ = some (.int .i64 r.1.2.2) := (blk_cell BM54.out 2).trans rfl
      have zS55_0 : W53.cell? ⟨gS53, 0, none⟩ = some (.bool true) := (blk_cell BS53.out 0).trans rfl
      have zS55_1 : W53.cell? ⟨gS53, 1, none⟩ = some (.int .i64 b.1) := (blk_cell BS53.out 1).trans rfl
      have zS55_2 : W53.cell? ⟨gS53, 2, none⟩ = some (.int .i64 b.2.1) := (blk_cell BS53.out 2).trans rfl
      have zS55_3 : W53.cell? ⟨gS53, 3, none⟩ = some (.int .i64 b.2.2) := (blk_cell BS53.out 3).trans rfl
      have zS55_4 : W53.cell? ⟨gS53, 4, none⟩ = some (.slice V v.length cv) := (blk_cell BS53.out 4).trans rfl
      have zaR56_0 : ∀ o, (W53.alloc o).cell? ⟨gR3, 0, none⟩ = some (.int .i64 r.1.1) := fun o => (blk_cell (blk_alloc BR54.out o) 0).trans rfl
      have zaR56_1 : ∀ o, (W53.alloc o).cell? ⟨gR3, 1, none⟩ = some (.int .i64 r.1.2.1) := fun o => (blk_cell (blk_alloc BR54.out o) 1).trans rfl
      have zaR56_2 : ∀ o, (W53.alloc o).cell? ⟨gR3, 2, none⟩ = some (.int .i64 r.1.2.2) := fun o => (blk_cell (blk_alloc BR54.out o) 2).trans rfl
      have zaR56_3 : ∀ o, (W53.alloc o).cell? ⟨gR3, 3, none⟩ = some (.int .i64 r.2.1.1) := fun o => (blk_cell (blk_alloc BR54.out o) 3).trans rfl
      have zaR56_4 : ∀ o, (W53.alloc o).cell? ⟨gR3, 4, none⟩ = some (.int .i64 r.2.1.2.1) := fun o => (blk_cell (blk_alloc BR54.out o) 4).trans rfl
      have zaR56_5 : ∀ o, (W53.alloc o).cell? ⟨gR3, 5, none⟩ = some (.int .i64 r.2.1.2.2) := fun o => (blk_cell (blk_alloc BR54.out o) 5).trans rfl
      have zaR56_6 : ∀ o, (W53.alloc o).cell? ⟨gR3, 6, none⟩ = some (.slice A r.2.2.length c) := fun o => (blk_cell (blk_alloc BR54.out o) 6).trans rfl
      have zaM56_0 : ∀ o, (W53.alloc o).cell? ⟨gM3, 0, none⟩ = some (.int .i64 r.1.1) := fun o => (blk_cell (blk_alloc BM54.out o) 0).trans rfl
      have zaM56_1 : ∀ o, (W53.alloc o).cell? ⟨gM3, 1, none⟩ = some (.int .i64 r.1.2.1) := fun o => (blk_cell (blk_alloc BM54.out o) 1).trans rfl
      have zaM56_2 : ∀ o, (W53.alloc o).cell? ⟨gM3, 2, none⟩ = some (.int .i64 r.1.2.2) := fun o => (blk_cell (blk_alloc BM54.out o) 2).trans rfl
      have zaS56_0 : ∀ o, (W53.alloc o).cell? ⟨gS53, 0, none⟩ = some (.bool true) := fun o => (blk_cell (blk_alloc BS53.out o) 0).trans rfl
      have zaS56_1 : ∀ o, (W53.alloc o).cell? ⟨gS53, 1, none⟩ = some (.int .i64 b.1) := fun o => (blk_cell (blk_alloc BS53.out o) 1).trans rfl
      have zaS56_2 : ∀ o, (W53.alloc o).cell? ⟨gS53, 2, none⟩ = some (.int .i64 b.2.1) := fun o => (blk_cell (blk_alloc BS53.out o) 2).trans rfl
      have zaS56_3 : ∀ o, (W53.alloc o).cell? ⟨gS53, 3, none⟩ = some (.int .i64 b.2.2) := fun o => (blk_cell (blk_alloc BS53.out o) 3).trans rfl
      have zaS56_4 : ∀ o, (W53.alloc o).cell? ⟨gS53, 4, none⟩ = some (.slice V v.length cv) := fun o => (blk_cell (blk_alloc BS53.out o) 4).trans rfl
      obtain ⟨pr, hpr⟩ : ∃ x, prepR r b = x := ⟨_, rfl⟩
      obtain ⟨pe, hpe⟩ : ∃ x, errW (prepE r b) = x := ⟨_, rfl⟩
      have HPR := Aside0.mk hpr
      have HPE := Aside0.mk hpe
      clear hpr hpe
      refine (prepare_at r (pr) (pe) A c _ b HPR.out HPE.out HOK.out HBOK.out hlen.out (Kd.R_reads' Rr54.out).2.2 (Kd.R_reads' Rr54.out).2.1).mono ?_
      rintro e wp ⟨B1, d1, rfl, hR1, hb1⟩
      clear zR55_0 zR55_1 zR55_2 zR55_3 zR55_4 zR55_5 zR55_6 zM55_0 zM55_1 zM55_2 zS55_0 zS55_1 zS55_2 zS55_3 zS55_4 zaR56_0 zaR56_1 zaR56_2 zaR56_3 zaR56_4 zaR56_5 zaR56_6 zaM56_0 zaM56_1 zaM56_2 zaS56_0 zaS56_1 zaS56_2 zaS56_3 zaS56_4
      have HB58 := Aside0.mk (below_step HB54.out hb1)
      have BR58 : Aside0 (wp.heap[gR3]? = some (.cells #[.int .i64 r.1.1, .int .i64 r.1.2.1, .int .i64 r.1.2.2, .int .i64 r.2.1.1, .int .i64 r.2.1.2.1, .int .i64 r.2.1.2.2, .slice A r.2.2.length c] 26 (0, 0))) := ⟨(hb1.block _ (blk_lt BR54.out)).trans BR54.out⟩
      have BM58 : Aside0 (wp.heap[gM3]? = some (.cells #[.int .i64 r.1.1, .int .i64 r.1.2.1, .int .i64 r.1.2.2] 23 (0, 0))) := ⟨(hb1.block _ (blk_lt BM54.out)).trans BM54.out⟩
      have BS58 : Aside0 (wp.heap[gS53]? = some (.cells #[.bool true, .int .i64 b.1, .int .i64 b.2.1, .int .i64 b.2.2, .slice V v.length cv] 44 (0, 0))) := ⟨(hb1.block _ (blk_lt BS53.out)).trans BS53.out⟩
      have Cv58 := Aside0.mk (Kd.C_below Cv54.out hb1)
      have Rr58 := Aside0.mk (Kd.R_below Rr54.out hb1)
      clear hb1
      have HR1 := Aside0.mk hR1
      clear hR1
      have zR59_0 : wp.cell? ⟨gR3, 0, none⟩ = some (.int .i64 r.1.1) := (blk_cell BR58.out 0).trans rfl
      have zR59_1 : wp.cell? ⟨gR3, 1, none⟩ = some (.int .i64 r.1.2.1) := (blk_cell BR58.out 1).trans rfl
      have zR59_2 : wp.cell? ⟨gR3, 2, none⟩ = some (.int .i64 r.1.2.2) := (blk_cell BR58.out 2).trans rfl
      have zR59_3 : wp.cell? ⟨gR3, 3, none⟩ = some (.int .i64 r.2.1.1) := (blk_cell BR58.out 3).trans rfl
      have zR59_4 : wp.cell? ⟨gR3, 4, none⟩ = some (.int .i64 r.2.1.2.1) := (blk_cell BR58.out 4).trans rfl
      have zR59_5 : wp.cell? ⟨gR3, 5, none⟩ = some (.int .i64 r.2.1.2.2) := (blk_cell BR58.out 5).trans rfl
      have zR59_6 : wp.cell? ⟨gR3, 6, none⟩ = some (.slice A r.2.2.length c) := (blk_cell BR58.out 6).trans rfl
      have zM59_0 : wp.cell? ⟨gM3, 0, none⟩ = some (.int .i64 r.1.1) := (blk_cell BM58.out 0).trans rfl
      have zM59_1 : wp.cell? ⟨gM3, 1, none⟩ = some (.int .i64 r.1.2.1) := (blk_cell BM58.out 1).trans rfl
      have zM59_2 : wp.cell? ⟨gM3, 2, none⟩ = some (.int .i64 r.1.2.2) := (blk_cell BM58.out 2).trans rfl
      have zS59_0 : wp.cell? ⟨gS53, 0, none⟩ = some (.bool true) := (blk_cell BS58.out 0).trans rfl
      have zS59_1 : wp.cell? ⟨gS53, 1, none⟩ = some (.int .i64 b.1) := (blk_cell BS58.out 1).trans rfl
      have zS59_2 : wp.cell? ⟨gS53, 2, none⟩ = some (.int .i64 b.2.1) := (blk_cell BS58.out 2).trans rfl
      have zS59_3 : wp.cell? ⟨gS53, 3, none⟩ = some (.int .i64 b.2.2) := (blk_cell BS58.out 3).trans rfl
      have zS59_4 : wp.cell? ⟨gS53, 4, none⟩ = some (.slice V v.length cv) := (blk_cell BS58.out 4).trans rfl
      have zaR60_0 : ∀ o, (wp.alloc o).cell? ⟨gR3, 0, none⟩ = some (.int .i64 r.1.1) := fun o => (blk_cell (blk_alloc BR58.out o) 0).trans rfl
      have zaR60_1 : ∀ o, (wp.alloc o).cell? ⟨gR3, 1, none⟩ = some (.int .i64 r.1.2.1) := fun o => (blk_cell (blk_alloc BR58.out o) 1).trans rfl
      have zaR60_2 : ∀ o, (wp.alloc o).cell? ⟨gR3, 2, none⟩ = some (.int .i64 r.1.2.2) := fun o => (blk_cell (blk_alloc BR58.out o) 2).trans rfl
      have zaR60_3 : ∀ o, (wp.alloc o).cell? ⟨gR3, 3, none⟩ = some (.int .i64 r.2.1.1) := fun o => (blk_cell (blk_alloc BR58.out o) 3).trans rfl
      have zaR60_4 : ∀ o, (wp.alloc o).cell? ⟨gR3, 4, none⟩ = some (.int .i64 r.2.1.2.1) := fun o => (blk_cell (blk_alloc BR58.out o) 4).trans rfl
      have zaR60_5 : ∀ o, (wp.alloc o).cell? ⟨gR3, 5, none⟩ = some (.int .i64 r.2.1.2.2) := fun o => (blk_cell (blk_alloc BR58.out o) 5).trans rfl
      have zaR60_6 : ∀ o, (wp.alloc o).cell? ⟨gR3, 6, none⟩ = some (.slice A r.2.2.length c) := fun o => (blk_cell (blk_alloc BR58.out o) 6).trans rfl
      have zaM60_0 : ∀ o, (wp.alloc o).cell? ⟨gM3, 0, none⟩ = some (.int .i64 r.1.1) := fun o => (blk_cell (blk_alloc BM58.out o) 0).trans rfl
      have zaM60_1 : ∀ o, (wp.alloc o).cell? ⟨gM3, 1, none⟩ = some (.int .i64 r.1.2.1) := fun o => (blk_cell (blk_alloc BM58.out o) 1).trans rfl
      have zaM60_2 : ∀ o, (wp.alloc o).cell? ⟨gM3, 2, none⟩ = some (.int .i64 r.1.2.2) := fun o => (blk_cell (blk_alloc BM58.out o) 2).trans rfl
      have zaS60_0 : ∀ o, (wp.alloc o).cell? ⟨gS53, 0, none⟩ = some (.bool true) := fun o => (blk_cell (blk_alloc BS58.out o) 0).trans rfl
      have zaS60_1 : ∀ o, (wp.alloc o).cell? ⟨gS53, 1, none⟩ = some (.int .i64 b.1) := fun o => (blk_cell (blk_alloc BS58.out o) 1).trans rfl
      have zaS60_2 : ∀ o, (wp.alloc o).cell? ⟨gS53, 2, none⟩ = some (.int .i64 b.2.1) := fun o => (blk_cell (blk_alloc BS58.out o) 2).trans rfl
      have zaS60_3 : ∀ o, (wp.alloc o).cell? ⟨gS53, 3, none⟩ = some (.int .i64 b.2.2) := fun o => (blk_cell (blk_alloc BS58.out o) 3).trans rfl
      have zaS60_4 : ∀ o, (wp.alloc o).cell? ⟨gS53, 4, none⟩ = some (.slice V v.length cv) := fun o => (blk_cell (blk_alloc BS58.out o) 4).trans rfl
      go_wp2_with fail
      obtain ⟨W61, hw61⟩ : ∃ x : World, x = wp.alloc (.cells #[.int .i64 pr.1.1, .int .i64 pr.1.2.1, .int .i64 pr.1.2.2, .int .i64 pr.2.1.1, .int .i64 pr.2.1.2.1, .int .i64 pr.2.1.2.2, .slice B1 pr.2.2.length d1] 26) := ⟨_, rfl⟩
      have hbs61 : Below wp.heap.size wp W61 := by rw [hw61]; repeat (first | exact Below.refl _ _ | refine below_alloc ?_ _ | refine below_drew ?_)
      obtain ⟨gT61, hgT61⟩ : ∃ x, x = wp.heap.size := ⟨_, rfl⟩
      have HNT := Aside0.mk (show gR3 ≠ gT61 by rw [hgT61]; exact Nat.ne_of_lt (blk_lt BR58.out))
      have GST61 : Aside0 (w.heap.size ≤ gT61) := ⟨by rw [hgT61]; have := HB58.out.size; omega⟩
      have BT61 : Aside0 (W61.heap[gT61]? = some (.cells #[.int .i64 pr.1.1, .int .i64 pr.1.2.1, .int .i64 pr.1.2.2, .int .i64 pr.2.1.1, .int .i64 pr.2.1.2.1, .int .i64 pr.2.1.2.2, .slice B1 pr.2.2.length d1] 26 (0, 0))) := ⟨by rw [hw61, hgT61]; exact blk_new _ _⟩
      rw [← hw61]
      rw [← hgT61]
      clear hw61 hgT61
      clear zR59_0 zR59_1 zR59_2 zR59_3 zR59_4 zR59_5 zR59_6 zM59_0 zM59_1 zM59_2 zS59_0 zS59_1 zS59_2 zS59_3 zS59_4 zaR60_0 zaR60_1 zaR60_2 zaR60_3 zaR60_4 zaR60_5 zaR60_6 zaM60_0 zaM60_1 zaM60_2 zaS60_0 zaS60_1 zaS60_2 zaS60_3 zaS60_4
      have HB62 := Aside0.mk (below_step HB58.out hbs61)
      have BR62 : Aside0 (W61.heap[gR3]? = some (.cells #[.int .i64 r.1.1, .int .i64 r.1.2.1, .int .i64 r.1.2.2, .int .i64 r.2.1.1, .int .i64 r.2.1.2.1, .int .i64 r.2.1.2.2, .slice A r.2.2.length c] 26 (0, 0))) := ⟨(hbs61.block _ (blk_lt BR58.out)).trans BR58.out⟩
      have BM62 : Aside0 (W61.heap[gM3]? = some (.cells #[.int .i64 r.1.1, .int .i64 r.1.2.1, .int .i64 r.1.2.2] 23 (0, 0))) := ⟨(hbs61.block _ (blk_lt BM58.out)).trans BM58.out⟩
      have BS62 : Aside0 (W61.heap[gS53]? = some (.cells #[.bool true, .int .i64 b.1, .int .i64 b.2.1, .int .i64 b.2.2, .slice V v.length cv] 44 (0, 0))) := ⟨(hbs61.block _ (blk_lt BS58.out)).trans BS58.out⟩
      have Cv62 := Aside0.mk (Kd.C_below Cv58.out hbs61)
      have Rr62 := Aside0.mk (Kd.R_below Rr58.out hbs61)
      have Rp62 := Aside0.mk (Kd.R_below HR1.out hbs61)
      clear hbs61
      rcases acc_cases r b v with ⟨hp, he, hl, hl2, hg⟩ | ⟨hp, he⟩ | ⟨hp, he⟩
      · have HP := Aside0.mk hp
        have HE := Aside0.mk he
        clear hp he
        have HLM := Aside0.mk hl
        have HLA := Aside0.mk hl2
        have HGN := Aside0.mk hg
        have HOKN := Aside0.mk (show regOk (b, b, v) from ⟨HBOK.out, HBOK.out⟩)
        clear hl hl2 hg
        have zR63_0 : W61.cell? ⟨gR3, 0, none⟩ = some (.int .i64 r.1.1) := (blk_cell BR62.out 0).trans rfl
        have zR63_1 : W61.cell? ⟨gR3, 1, none⟩ = some (.int .i64 r.1.2.1) := (blk_cell BR62.out 1).trans rfl
        have zR63_2 : W61.cell? ⟨gR3, 2, none⟩ = some (.int .i64 r.1.2.2) := (blk_cell BR62.out 2).trans rfl
        have zR63_3 : W61.cell? ⟨gR3, 3, none⟩ = some (.int .i64 r.2.1.1) := (blk_cell BR62.out 3).trans rfl
        have zR63_4 : W61.cell? ⟨gR3, 4, none⟩ = some (.int .i64 r.2.1.2.1) := (blk_cell BR62.out 4).trans rfl
        have zR63_5 : W61.cell? ⟨gR3, 5, none⟩ = some (.int .i64 r.2.1.2.2) := (blk_cell BR62.out 5).trans rfl
        have zR63_6 : W61.cell? ⟨gR3, 6, none⟩ = some (.slice A r.2.2.length c) := (blk_cell BR62.out 6).trans rfl
        have zM63_0 : W61.cell? ⟨gM3, 0, none⟩ = some (.int .i64 r.1.1) := (blk_cell BM62.out 0).trans rfl
        have zM63_1 : W61.cell? ⟨gM3, 1, none⟩ = some (.int .i64 r.1.2.1) := (blk_cell BM62.out 1).trans rfl
        have zM63_2 : W61.cell? ⟨gM3, 2, none⟩ = some (.int .i64 r.1.2.2) := (blk_cell BM62.out 2).trans rfl
        have zS63_0 : W61.cell? ⟨gS53, 0, none⟩ = some (.bool true) := (blk_cell BS62.out 0).trans rfl
        have zS63_1 : W61.cell? ⟨gS53, 1, none⟩ = some (.int .i64 b.1) := (blk_cell BS62.out 1).trans rfl
        have zS63_2 : W61.cell? ⟨gS53, 2, none⟩ = some (.int .i64 b.2.1) := (blk_cell BS62.out 2).trans rfl
        have zS63_3 : W61.cell? ⟨gS53, 3, none⟩ = some (.int .i64 b.2.2) := (blk_cell BS62.out 3).trans rfl
        have zS63_4 : W61.cell? ⟨gS53, 4, none⟩ = some (.slice V v.length cv) := (blk_cell BS62.out 4).trans rfl
        have zT63_0 : W61.cell? ⟨gT61, 0, none⟩ = some (.int .i64 pr.1.1) := (blk_cell BT61.out 0).trans rfl
        have zT63_1 : W61.cell? ⟨gT61, 1, none⟩ = some (.int .i64 pr.1.2.1) := (blk_cell BT61.out 1).trans rfl
        have zT63_2 : W61.cell? ⟨gT61, 2, none⟩ = some (.int .i64 pr.1.2.2) := (blk_cell BT61.out 2).trans rfl
        have zT63_3 : W61.cell? ⟨gT61, 3, none⟩ = some (.int .i64 pr.2.1.1) := (blk_cell BT61.out 3).trans rfl
        have zT63_4 : W61.cell? ⟨gT61, 4, none⟩ = some (.int .i64 pr.2.1.2.1) := (blk_cell BT61.out 4).trans rfl
        have zT63_5 : W61.cell? ⟨gT61, 5, none⟩ = some (.int .i64 pr.2.1.2.2) := (blk_cell BT61.out 5).trans rfl
        have zT63_6 : W61.cell? ⟨gT61, 6, none⟩ = some (.slice B1 pr.2.2.length d1) := (blk_cell BT61.out 6).trans rfl
        go_wp2_with fail
        refine (accept_at r (b, b, v) (.nilIface) A c _ b V cv v HP.out (by rw [HE.out]; rfl) HOK.out HBOK.out (Kd.R_reads' Rr62.out).2.2 (Kd.R_reads' Rr62.out).2.1 Cv62.out HCV.out).mono ?_
        rintro e wa ⟨B2, d2, rfl, hR2, hb2⟩
        clear zR63_0 zR63_1 zR63_2 zR63_3 zR63_4 zR63_5 zR63_6 zM63_0 zM63_1 zM63_2 zS63_0 zS63_1 zS63_2 zS63_3 zS63_4 zT63_0 zT63_1 zT63_2 zT63_3 zT63_4 zT63_5 zT63_6
        have HB64 := Aside0.mk (below_step HB62.out hb2)
        have BR64 : Aside0 (wa.heap[gR3]? = some (.cells #[.int .i64 r.1.1, .int .i64 r.1.2.1, .int .i64 r.1.2.2, .int .i64 r.2.1.1, .int .i64 r.2.1.2.1, .int .i64 r.2.1.2.2, .slice A r.2.2.length c] 26 (0, 0))) := ⟨(hb2.block _ (blk_lt BR62.out)).trans BR62.out⟩
        have BM64 : Aside0 (wa.heap[gM3]? = some (.cells #[.int .i64 r.1.1, .int .i64 r.1.2.1, .int .i64 r.1.2.2] 23 (0, 0))) := ⟨(hb2.block _ (blk_lt BM62.out)).trans BM62.out⟩
        have BS64 : Aside0 (wa.heap[gS53]? = some (.cells #[.bool true, .int .i64 b.1, .int .i64 b.2.1, .int .i64 b.2.2, .slice V v.length cv] 44 (0, 0))) := ⟨(hb2.block _ (blk_lt BS62.out)).trans BS62.out⟩
        have BT64 : Aside0 (wa.heap[gT61]? = some (.cells #[.int .i64 pr.1.1, .int .i64 pr.1.2.1, .int .i64 pr.1.2.2, .int .i64 pr.2.1.1, .int .i64 pr.2.1.2.1, .int .i64 pr.2.1.2.2, .slice B1 pr.2.2.length d1] 26 (0, 0))) := ⟨(hb2.block _ (blk_lt BT61.out)).trans BT61.out⟩
        have Cv64 := Aside0.mk (Kd.C_below Cv62.out hb2)
        have Rr64 := Aside0.mk (Kd.R_below Rr62.out hb2)
        have Rp64 := Aside0.mk (Kd.R_below Rp62.out hb2)
        clear hb2
        have HR2 := Aside0.mk (Kd.R_lower hR2 HB62.out.size)
        clear hR2
        have zR65_0 : wa.cell? ⟨gR3, 0, none⟩ = some (.int .i64 r.1.1) := (blk_cell BR64.out 0).trans rfl
        have zR65_1 : wa.cell? ⟨gR3, 1, none⟩ = some (.int .i64 r.1.2.1) := (blk_cell BR64.out 1).trans rfl
        have zR65_2 : wa.cell? ⟨gR3, 2, none⟩ = some (.int .i64 r.1.2.2) := (blk_cell BR64.out 2).trans rfl
        have zR65_3 : wa.cell? ⟨gR3, 3, none⟩ = some (.int .i64 r.2.1.1) := (blk_cell BR64.out 3).trans rfl
        have zR65_4 : wa.cell? ⟨gR3, 4, none⟩ = some (.int .i64 r.2.1.2.1) := (blk_cell BR64.out 4).trans rfl
        have zR65_5 : wa.cell? ⟨gR3, 5, none⟩ = some (.int .i64 r.2.1.2.2) := (blk_cell BR64.out 5).trans rfl
        have zR65_6 : wa.cell? ⟨gR3, 6, none⟩ = some (.slice A r.2.2.length c) := (blk_cell BR64.out 6).trans rfl
        have zM65_0 : wa.cell? ⟨gM3, 0, none⟩ = some (.int .i64 r.1.1) := (blk_cell BM64.out 0).trans rfl
        have zM65_1 : wa.cell? ⟨gM3, 1, none⟩ = some (.int .i64 r.1.2.1) := (blk_cell BM64.out 1).trans rfl
        have zM65_2 : wa.cell? ⟨gM3, 2, none⟩ = some (.int .i64 r.1.2.2) := (blk_cell BM64.out 2).trans rfl
        have zS65_0 : wa.cell? ⟨gS53, 0, none⟩ = some (.bool true) := (blk_cell BS64.out 0).trans rfl
        have zS65_1 : wa.cell? ⟨gS53, 1, none⟩ = some (.int .i64 b.1) := (blk_cell BS64.out 1).trans rfl
        have zS65_2 : wa.cell? ⟨gS53, 2, none⟩ = some (.int .i64 b.2.1) := (blk_cell BS64.out 2).trans rfl
        have zS65_3 : wa.cell? ⟨gS53, 3, none⟩ = some (.int .i64 b.2.2) := (blk_cell BS64.out 3).trans rfl
        have zS65_4 : wa.cell? ⟨gS53, 4, none⟩ = some (.slice V v.length cv) := (blk_cell BS64.out 4).trans rfl
        have zT65_0 : wa.cell? ⟨gT61, 0, none⟩ = some (.int .i64 pr.1.1) := (blk_cell BT64.out 0).trans rfl
        have zT65_1 : wa.cell? ⟨gT61, 1, none⟩ = some (.int .i64 pr.1.2.1) := (blk_cell BT64.out 1).trans rfl
        have zT65_2 : wa.cell? ⟨gT61, 2, none⟩ = some (.int .i64 pr.1.2.2) := (blk_cell BT64.out 2).trans rfl
        have zT65_3 : wa.cell? ⟨gT61, 3, none⟩ = some (.int .i64 pr.2.1.1) := (blk_cell BT64.out 3).trans rfl
        have zT65_4 : wa.cell? ⟨gT61, 4, none⟩ = some (.int .i64 pr.2.1.2.1) := (blk_cell BT64.out 4).trans rfl
        have zT65_5 : wa.cell? ⟨gT61, 5, none⟩ = some (.int .i64 pr.2.1.2.2) := (blk_cell BT64.out 5).trans rfl
        have zT65_6 : wa.cell? ⟨gT61, 6, none⟩ = some (.slice B1 pr.2.2.length d1) := (blk_cell BT64.out 6).trans rfl
        have fT0 := blk_frozen BT64.out 0
        have fT1 := blk_frozen BT64.out 1
        have fT2 := blk_frozen BT64.out 2
        have fT3 := blk_frozen BT64.out 3
        have fT4 := blk_frozen BT64.out 4
        have fT5 := blk_frozen BT64.out 5
        have fT6 := blk_frozen BT64.out 6
        go_upto_region 13 with fail
        clear fT0 fT1 fT2 fT3 fT4 fT5 fT6
        clear zR65_0 zR65_1 zR65_2 zR65_3 zR65_4 zR65_5 zR65_6 zM65_0 zM65_1 zM65_2 zS65_0 zS65_1 zS65_2 zS65_3 zS65_4 zT65_0 zT65_1 zT65_2 zT65_3 zT65_4 zT65_5 zT65_6
        obtain ⟨W66, hw66⟩ : ∃ x : World, x = (((((((wa.setCell ⟨gT61, 0, none⟩ (.int .i64 b.1)).setCell ⟨gT61, 1, none⟩ (.int .i64 b.2.1)).setCell ⟨gT61, 2, none⟩ (.int .i64 b.2.2)).setCell ⟨gT61, 3, none⟩ (.int .i64 b.1)).setCell ⟨gT61, 4, none⟩ (.int .i64 b.2.1)).setCell ⟨gT61, 5, none⟩ (.int .i64 b.2.2)).setCell ⟨gT61, 6, none⟩ (.slice B2 v.length d2)) := ⟨_, rfl⟩
        have HB66 : Aside0 (Below w.heap.size w W66) := ⟨by rw [hw66]; exact (below_set (below_set (below_set (below_set (below_set (below_set (below_set HB64.out GST61.out) GST61.out) GST61.out) GST61.out) GST61.out) GST61.out) GST61.out)⟩
        have hgr66 : wa.grownBy W66 (some gT61) := by rw [hw66]; exact ((((((grown_set _ _ _ _).trans (grown_set _ _ _ _)).trans (grown_set _ _ _ _)).trans (grown_set _ _ _ _)).trans (grown_set _ _ _ _)).trans (grown_set _ _ _ _)).trans (grown_set _ _ _ _)
        have BT66 : Aside0 (W66.heap[gT61]? = some (.cells #[.int .i64 b.1, .int .i64 b.2.1, .int .i64 b.2.2, .int .i64 b.1, .int .i64 b.2.1, .int .i64 b.2.2, .slice B2 v.length d2] 26 (0, 0))) := ⟨by rw [hw66]; refine blk_put (cs := #[.int .i64 b.1, .int .i64 b.2.1, .int .i64 b.2.2, .int .i64 b.1, .int .i64 b.2.1, .int .i64 b.2.2, .slice B1 pr.2.2.length d1]) ?_ 6 _ rfl; refine blk_put (cs := #[.int .i64 b.1, .int .i64 b.2.1, .int .i64 b.2.2, .int .i64 b.1, .int .i64 b.2.1, .int .i64 pr.2.1.2.2, .slice B1 pr.2.2.length d1]) ?_ 5 _ rfl; refine blk_put (cs := #[.int .i64 b.1, .int .i64 b.2.1, .int .i64 b.2.2, .int .i64 b.1, .int .i64 pr.2.1.2.1, .int .i64 pr.2.1.2.2, .slice B1 pr.2.2.length d1]) ?_ 4 _ rfl; refine blk_put (cs := #[.int .i64 b.1, .int .i64 b.2.1, .int .i64 b.2.2, .int .i64 pr.2.1.1, .int .i64 pr.2.1.2.1, .int .i64 pr.2.1.2.2, .slice B1 pr.2.2.length d1]) ?_ 3 _ rfl; refine blk_put (cs := #[.int .i64 b.1, .int .i64 b.2.1, .int .i64 pr.1.2.2, .int .i64 pr.2.1.1, .int .i64 pr.2.1.2.1, .int .i64 pr.2.1.2.2, .slice B1 pr.2.2.length d1]) ?_ 2 _ rfl; refine blk_put (cs := #[.int .i64 b.1, .int .i64 pr.1.2.1, .int .i64 pr.1.2.2, .int .i64 pr.2.1.1, .int .i64 pr.2.1.2.1, .int .i64 pr.2.1.2.2, .slice B1 pr.2.2.length d1]) ?_ 1 _ rfl; refine blk_put (cs := #[.int .i64 pr.1.1, .int .i64 pr.1.2.1, .int .i64 pr.1.2.2, .int .i64 pr.2.1.1, .int .i64 pr.2.1.2.1, .int .i64 pr.2.1.2.2, .slice B1 pr.2.2.length d1]) ?_ 0 _ rfl; exact BT64.out⟩
        have BR66 : Aside0 (W66.heap[gR3]? = some (.cells #[.int .i64 r.1.1, .int .i64 r.1.2.1, .int .i64 r.1.2.2, .int .i64 r.2.1.1, .int .i64 r.2.1.2.1, .int .i64 r.2.1.2.2, .slice A r.2.2.length c] 26 (0, 0))) := ⟨blk_grown BR64.out hgr66 (fun e => (HNT.out) (by injection e))⟩
        have BM66 : Aside0 (W66.heap[gM3]? = some (.cells #[.int .i64 r.1.1, .int .i64 r.1.2.1, .int .i64 r.1.2.2] 23 (0, 0))) := ⟨blk_grown BM64.out hgr66 (fun e => (blk_ne BM64.out BT64.out (by decide)) (by injection e))⟩
        have BS66 : Aside0 (W66.heap[gS53]? = some (.cells #[.bool true, .int .i64 b.1, .int .i64 b.2.1, .int .i64 b.2.2, .slice V v.length cv] 44 (0, 0))) := ⟨blk_grown BS64.out hgr66 (fun e => (blk_ne BS64.out BT64.out (by decide)) (by injection e))⟩
        have Rr66 := Aside0.mk (Kd.R_mono (Kd.R_grown (Kd.R_types Rr64.out BT64.out (by decide)) hgr66 (fun k hk => by simpa using hk.2)) (fun _ hk => hk.1))
        have Rp66 := Aside0.mk (Kd.R_mono (Kd.R_grown (Kd.R_types Rp64.out BT64.out (by decide)) hgr66 (fun k hk => by simpa using hk.2)) (fun _ hk => hk.1))
        have Rq66 := Aside0.mk (Kd.R_mono (Kd.R_grown (Kd.R_types HR2.out BT64.out (by decide)) hgr66 (fun k hk => by simpa using hk.2)) (fun _ hk => hk.1))
        have Cv66 := Aside0.mk (Kd.C_below HV.out HB66.out)
        rw [← hw66]
        clear hw66 hgr66
        have zR67_0 : W66.cell? ⟨gR3, 0, none⟩ = some (.int .i64 r.1.1) := (blk_cell BR66.out 0).trans rfl
        have zR67_1 : W66.cell? ⟨gR3, 1, none⟩ = some (.int .i64 r.1.2.1) := (blk_cell BR66.out 1).trans rfl
        have zR67_2 : W66.cell? ⟨gR3, 2, none⟩ = some (.int .i64 r.1.2.2) := (blk_cell BR66.out 2).trans rfl
        have zR67_3 : W66.cell? ⟨gR3, 3, none⟩ = some (.int .i64 r.2.1.1) := (blk_cell BR66.out 3).trans rfl
        have zR67_4 : W66.cell? ⟨gR3, 4, none⟩ = some (.int .i64 r.2.1.2.1) := (blk_cell BR66.out 4).trans rfl
        have zR67_5 : W66.cell? ⟨gR3, 5, none⟩ = some (.int .i64 r.2.1.2.2) := (blk_cell BR66.out 5).trans rfl
        have zR67_6 : W66.cell? ⟨gR3, 6, none⟩ = some (.slice A r.2.2.length c) := (blk_cell BR66.out 6).trans rfl
        have zM67_0 : W66.cell? ⟨gM3, 0, none⟩ = some (.int .i64 r.1.1) := (blk_cell BM66.out 0).trans rfl
        have zM67_1 : W66.cell? ⟨gM3, 1, none⟩ = some (.int .i64 r.1.2.1) := (blk_cell BM66.out 1).trans rfl
        have zM67_2 : W66.cell? ⟨gM3, 2, none⟩ = some (.int .i64 r.1.2.2) := (blk_cell BM66.out 2).trans rfl
        have zS67_0 : W66.cell? ⟨gS53, 0, none⟩ = some (.bool true) := (blk_cell BS66.out 0).trans rfl
        have zS67_1 : W66.cell? ⟨gS53, 1, none⟩ = some (.int .i64 b.1) := (blk_cell BS66.out 1).trans rfl
        have zS67_2 : W66.cell? ⟨gS53, 2, none⟩ = some (.int .i64 b.2.1) := (blk_cell BS66.out 2).trans rfl
        have zS67_3 : W66.cell? ⟨gS53, 3, none⟩ = some (.int .i64 b.2.2) := (blk_cell BS66.out 3).trans rfl
        have zS67_4 : W66.cell? ⟨gS53, 4, none⟩ = some (.slice V v.length cv) := (blk_cell BS66.out 4).trans rfl
        have zT67_0 : W66.cell? ⟨gT61, 0, none⟩ = some (.int .i64 b.1) := (blk_cell BT66.out 0).trans rfl
        have zT67_1 : W66.cell? ⟨gT61, 1, none⟩ = some (.int .i64 b.2.1) := (blk_cell BT66.out 1).trans rfl
        have zT67_2 : W66.cell? ⟨gT61, 2, none⟩ = some (.int .i64 b.2.2) := (blk_cell BT66.out 2).trans rfl
        have zT67_3 : W66.cell? ⟨gT61, 3, none⟩ = some (.int .i64 b.1) := (blk_cell BT66.out 3).trans rfl
        have zT67_4 : W66.cell? ⟨gT61, 4, none⟩ = some (.int .i64 b.2.1) := (blk_cell BT66.out 4).trans rfl
        have zT67_5 : W66.cell? ⟨gT61, 5, none⟩ = some (.int .i64 b.2.2) := (blk_cell BT66.out 5).trans rfl
        have zT67_6 : W66.cell? ⟨gT61, 6, none⟩ = some (.slice B2 v.length d2) := (blk_cell BT66.out 6).trans rfl
        go_wp2_with fail
        refine (refless_v false _ _ _ HLM.out).mono ?_
        rintro e w68 ⟨rfl, hb68⟩
        clear zR67_0 zR67_1 zR67_2 zR67_3 zR67_4 zR67_5 zR67_6 zM67_0 zM67_1 zM67_2 zS67_0 zS67_1 zS67_2 zS67_3 zS67_4 zT67_0 zT67_1 zT67_2 zT67_3 zT67_4 zT67_5 zT67_6
        have HB69 := Aside0.mk (below_step HB66.out hb68)
        have BR69 : Aside0 (w68.heap[gR3]? = some (.cells #[.int .i64 r.1.1, .int .i64 r.1.2.1, .int .i64 r.1.2.2, .int .i64 r.2.1.1, .int .i64 r.2.1.2.1, .int .i64 r.2.1.2.2, .slice A r.2.2.length c] 26 (0, 0))) := ⟨(hb68.block _ (blk_lt BR66.out)).trans BR66.out⟩
        have BM69 : Aside0 (w68.heap[gM3]? = some (.cells #[.int .i64 r.1.1, .int .i64 r.1.2.1, .int .i64 r.1.2.2] 23 (0, 0))) := ⟨(hb68.block _ (blk_lt BM66.out)).trans BM66.out⟩
        have BS69 : Aside0 (w68.heap[gS53]? = some (.cells #[.bool true, .int .i64 b.1, .int .i64 b.2.1, .int .i64 b.2.2, .slice V v.length cv] 44 (0, 0))) := ⟨(hb68.block _ (blk_lt BS66.out)).trans BS66.out⟩
        have BT69 : Aside0 (w68.heap[gT61]? = some (.cells #[.int .i64 b.1, .int .i64 b.2.1, .int .i64 b.2.2, .int .i64 b.1, .int .i64 b.2.1, .int .i64 b.2.2, .slice B2 v.length d2] 26 (0, 0))) := ⟨(hb68.block _ (blk_lt BT66.out)).trans BT66.out⟩
        have Cv69 := Aside0.mk (Kd.C_below Cv66.out hb68)
        have Rr69 := Aside0.mk (Kd.R_below Rr66.out hb68)
        have Rp69 := Aside0.mk (Kd.R_below Rp66.out hb68)
        have Rq69 := Aside0.mk (Kd.R_below Rq66.out hb68)
        clear hb68
        have zR70_0 : w68.cell? ⟨gR3, 0, none⟩ = some (.int .i64 r.1.1) := (blk_cell BR69.out 0).trans rfl
        have zR70_1 : w68.cell? ⟨gR3, 1, none⟩ = some (.int .i64 r.1.2.1) := (blk_cell BR69.out 1).trans rfl
        have zR70_2 : w68.cell? ⟨gR3, 2, none⟩ = some (.int .i64 r.1.2.2) := (blk_cell BR69.out 2).trans rfl
        have zR70_3 : w68.cell? ⟨gR3, 3, none⟩ = some (.int .i64 r.2.1.1) := (blk_cell BR69.out 3).trans rfl
        have zR70_4 : w68.cell? ⟨gR3, 4, none⟩ = some (.int .i64 r.2.1.2.1) := (blk_cell BR69.out 4).trans rfl
        have zR70_5 : w68.cell? ⟨gR3, 5, none⟩ = some (.int .i64 r.2.1.2.2) := (blk_cell BR69.out 5).trans rfl
        have zR70_6 : w68.cell? ⟨gR3, 6, none⟩ = some (.slice A r.2.2.length c) := (blk_cell BR69.out 6).trans rfl
        have zM70_0 : w68.cell? ⟨gM3, 0, none⟩ = some (.int .i64 r.1.1) := (blk_cell BM69.out 0).trans rfl
        have zM70_1 : w68.cell? ⟨gM3, 1, none⟩ = some (.int .i64 r.1.2.1) := (blk_cell BM69.out 1).trans rfl
        have zM70_2 : w68.cell? ⟨gM3, 2, none⟩ = some (.int .i64 r.1.2.2) := (blk_cell BM69.out 2).trans rfl
        have zS70_0 : w68.cell? ⟨gS53, 0, none⟩ = some (.bool true) := (blk_cell BS69.out 0).trans rfl
        have zS70_1 : w68.cell? ⟨gS53, 1, none⟩ = some (.int .i64 b.1) := (blk_cell BS69.out 1).trans rfl
        have zS70_2 : w68.cell? ⟨gS53, 2, none⟩ = some (.int .i64 b.2.1) := (blk_cell BS69.out 2).trans rfl
        have zS70_3 : w68.cell? ⟨gS53, 3, none⟩ = some (.int .i64 b.2.2) := (blk_cell BS69.out 3).trans rfl
        have zS70_4 : w68.cell? ⟨gS53, 4, none⟩ = some (.slice V v.length cv) := (blk_cell BS69.out 4).trans rfl
        have zT70_0 : w68.cell? ⟨gT61, 0, none⟩ = some (.int .i64 b.1) := (blk_cell BT69.out 0).trans rfl
        have zT70_1 : w68.cell? ⟨gT61, 1, none⟩ = some (.int .i64 b.2.1) := (blk_cell BT69.out 1).trans rfl
        have zT70_2 : w68.cell? ⟨gT61, 2, none⟩ = some (.int .i64 b.2.2) := (blk_cell BT69.out 2).trans rfl
        have zT70_3 : w68.cell? ⟨gT61, 3, none⟩ = some (.int .i64 b.1) := (blk_cell BT69.out 3).trans rfl
        have zT70_4 : w68.cell? ⟨gT61, 4, none⟩ = some (.int .i64 b.2.1) := (blk_cell BT69.out 4).trans rfl
        have zT70_5 : w68.cell? ⟨gT61, 5, none⟩ = some (.int .i64 b.2.2) := (blk_cell BT69.out 5).trans rfl
        have zT70_6 : w68.cell? ⟨gT61, 6, none⟩ = some (.slice B2 v.length d2) := (blk_cell BT69.out 6).trans rfl
        go_wp2_with fail
        refine (refless_v false _ _ _ HLM.out).mono ?_
        rintro e w71 ⟨rfl, hb71⟩
        clear zR70_0 zR70_1 zR70_2 zR70_3 zR70_4 zR70_5 zR70_6 zM70_0 zM70_1 zM70_2 zS70_0 zS70_1 zS70_2 zS70_3 zS70_4 zT70_0 zT70_1 zT70_2 zT70_3 zT70_4 zT70_5 zT70_6
        have HB72 := Aside0.mk (below_step HB69.out hb71)
        have BR72 : Aside0 (w71.heap[gR3]? = some (.cells #[.int .i64 r.1.1, .int .i64 r.1.2.1, .int .i64 r.1.2.2, .int .i64 r.2.1.1, .int .i64 r.2.1.2.1, .int .i64 r.2.1.2.2, .slice A r.2.2.length c] 26 (0, 0))) := ⟨(hb71.block _ (blk_lt BR69.out)).trans BR69.out⟩
        have BM72 : Aside0 (w71.heap[gM3]? = some (.cells #[.int .i64 r.1.1, .int .i64 r.1.2.1, .int .i64 r.1.2.2] 23 (0, 0))) := ⟨(hb71.block _ (blk_lt BM69.out)).trans BM69.out⟩
        have BS72 : Aside0 (w71.heap[gS53]? = some (.cells #[.bool true, .int .i64 b.1, .int .i64 b.2.1, .int .i64 b.2.2, .slice V v.length cv] 44 (0, 0))) := ⟨(hb71.block _ (blk_lt BS69.out)).trans BS69.out⟩
        have BT72 : Aside0 (w71.heap[gT61]? = some (.cells #[.int .i64 b.1, .int .i64 b.2.1, .int .i64 b.2.2, .int .i64 b.1, .int .i64 b.2.1, .int .i64 b.2.2, .slice B2 v.length d2] 26 (0, 0))) := ⟨(hb71.block _ (blk_lt BT69.out)).trans BT69.out⟩
        have Cv72 := Aside0.mk (Kd.C_below Cv69.out hb71)
        have Rr72 := Aside0.mk (Kd.R_below Rr69.out hb71)
        have Rp72 := Aside0.mk (Kd.R_below Rp69.out hb71)
        have Rq72 := Aside0.mk (Kd.R_below Rq69.out hb71)
        clear hb71
        have zR73_0 : w71.cell? ⟨gR3, 0, none⟩ = some (.int .i64 r.1.1) := (blk_cell BR72.out 0).trans rfl
        have zR73_1 : w71.cell? ⟨gR3, 1, none⟩ = some (.int .i64 r.1.2.1) := (blk_cell BR72.out 1).trans rfl
        have zR73_2 : w71.cell? ⟨gR3, 2, none⟩ = some (.int .i64 r.1.2.2) := (blk_cell BR72.out 2).trans rfl
        have zR73_3 : w71.cell? ⟨gR3, 3, none⟩ = some (.int .i64 r.2.1.1) := (blk_cell BR72.out 3).trans rfl
        have zR73_4 : w71.cell? ⟨gR3, 4, none⟩ = some (.int .i64 r.2.1.2.1) := (blk_cell BR72.out 4).trans rfl
        have zR73_5 : w71.cell? ⟨gR3, 5, none⟩ = some (.int .i64 r.2.1.2.2) := (blk_cell BR72.out 5).trans rfl
        have zR73_6 : w71.cell? ⟨gR3, 6, none⟩ = some (.slice A r.2.2.length c) := (blk_cell BR72.out 6).trans rfl
        have zM73_0 : w71.cell? ⟨gM3, 0, none⟩ = some (.int .i64 r.1.1) := (blk_cell BM72.out 0).trans rfl
        have zM73_1 : w71.cell? ⟨gM3, 1, none⟩ = some (.int .i64 r.1.2.1) := (blk_cell BM72.out 1).trans rfl
        have zM73_2 : w71.cell? ⟨gM3, 2, none⟩ = some (.int .i64 r.1.2.2) := (blk_cell BM72.out 2).trans rfl
        have zS73_0 : w71.cell? ⟨gS53, 0, none⟩ = some (.bool true) := (blk_cell BS72.out 0).trans rfl
        have zS73_1 : w71.cell? ⟨gS53, 1, none⟩ = some (.int .i64 b.1) := (blk_cell BS72.out 1).trans rfl
        have zS73_2 : w71.cell? ⟨gS53, 2, none⟩ = some (.int .i64 b.2.1) := (blk_cell BS72.out 2).trans rfl
        have zS73_3 : w71.cell? ⟨gS53, 3, none⟩ = some (.int .i64 b.2.2) := (blk_cell BS72.out 3).trans rfl
        have zS73_4 : w71.cell? ⟨gS53, 4, none⟩ = some (.slice V v.length cv) := (blk_cell BS72.out 4).trans rfl
        have zT73_0 : w71.cell? ⟨gT61, 0, none⟩ = some (.int .i64 b.1) := (blk_cell BT72.out 0).trans rfl
        have zT73_1 : w71.cell? ⟨gT61, 1, none⟩ = some (.int .i64 b.2.1) := (blk_cell BT72.out 1).trans rfl
        have zT73_2 : w71.cell? ⟨gT61, 2, none⟩ = some (.int .i64 b.2.2) := (blk_cell BT72.out 2).trans rfl
        have zT73_3 : w71.cell? ⟨gT61, 3, none⟩ = some (.int .i64 b.1) := (blk_cell BT72.out 3).trans rfl
        have zT73_4 : w71.cell? ⟨gT61, 4, none⟩ = some (.int .i64 b.2.1) := (blk_cell BT72.out 4).trans rfl
        have zT73_5 : w71.cell? ⟨gT61, 5, none⟩ = some (.int .i64 b.2.2) := (blk_cell BT72.out 5).trans rfl
        have zT73_6 : w71.cell? ⟨gT61, 6, none⟩ = some (.slice B2 v.length d2) := (blk_cell BT72.out 6).trans rfl
        go_wp2_with fail
        refine (refless_v false _ _ _ HLA.out).mono ?_
        rintro e w74 ⟨rfl, hb74⟩
        clear zR73_0 zR73_1 zR73_2 zR73_3 zR73_4 zR73_5 zR73_6 zM73_0 zM73_1 zM73_2 zS73_0 zS73_1 zS73_2 zS73_3 zS73_4 zT73_0 zT73_1 zT73_2 zT73_3 zT73_4 zT73_5 zT73_6
        have HB75 := Aside0.mk (below_step HB72.out hb74)
        have BR75 : Aside0 (w74.heap[gR3]? = some (.cells #[.int .i64 r.1.1, .int .i64 r.1.2.1, .int .i64 r.1.2.2, .int .i64 r.2.1.1, .int .i64 r.2.1.2.1, .int .i64 r.2.1.2.2, .slice A r.2.2.length c] 26 (0, 0))) := ⟨(hb74.block _ (blk_lt BR72.out)).trans BR72.out⟩
        have BM75 : Aside0 (w74.heap[gM3]? = some (.cells #[.int .i64 r.1.1, .int .i64 r.1.2.1, .int .i64 r.1.2.2] 23 (0, 0))) := ⟨(hb74.block _ (blk_lt BM72.out)).trans BM72.out⟩
        have BS75 : Aside0 (w74.heap[gS53]? = some (.cells #[.bool true, .int .i64 b.1, .int .i64 b.2.1, .int .i64 b.2.2, .slice V v.length cv] 44 (0, 0))) := ⟨(hb74.block _ (blk_lt BS72.out)).trans BS72.out⟩
        have BT75 : Aside0 (w74.heap[gT61]? = some (.cells #[.int .i64 b.1, .int .i64 b.2.1, .int .i64 b.2.2, .int .i64 b.1, .int .i64 b.2.1, .int .i64 b.2.2, .slice B2 v.length d2] 26 (0, 0))) := ⟨(hb74.block _ (blk_lt BT72.out)).trans BT72.out⟩
        have Cv75 := Aside0.mk (Kd.C_below Cv72.out hb74)
        have Rr75 := Aside0.mk (Kd.R_below Rr72.out hb74)
        have Rp75 := Aside0.mk (Kd.R_below Rp72.out hb74)
        have Rq75 := Aside0.mk (Kd.R_below Rq72.out hb74)
        clear hb74
        have zR76_0 : w74.cell? ⟨gR3, 0, none⟩ = some (.int .i64 r.1.1) := (blk_cell BR75.out 0).trans rfl
        have zR76_1 : w74.cell? ⟨gR3, 1, none⟩ = some (.int .i64 r.1.2.1) := (blk_cell BR75.out 1).trans rfl
        have zR76_2 : w74.cell? ⟨gR3, 2, none⟩ = some (.int .i64 r.1.2.2) := (blk_cell BR75.out 2).trans rfl
        have zR76_3 : w74.cell? ⟨gR3, 3, none⟩ = some (.int .i64 r.2.1.1) := (blk_cell BR75.out 3).trans rfl
        have zR76_4 : w74.cell? ⟨gR3, 4, none⟩ = some (.int .i64 r.2.1.2.1) := (blk_cell BR75.out 4).trans rfl
        have zR76_5 : w74.cell? ⟨gR3, 5, none⟩ = some (.int .i64 r.2.1.2.2) := (blk_cell BR75.out 5).trans rfl
        have zR76_6 : w74.cell? ⟨gR3, 6, none⟩ = some (.slice A r.2.2.length c) := (blk_cell BR75.out 6).trans rfl
        have zM76_0 : w74.cell? ⟨gM3, 0, none⟩ = some (.int .i64 r.1.1) := (blk_cell BM75.out 0).trans rfl
        have zM76_1 : w74.cell? ⟨gM3, 1, none⟩ = some (.int .i64 r.1.2.1) := (blk_cell BM75.out 1).trans rfl
        have zM76_2 : w74.cell? ⟨gM3, 2, none⟩ = some (.int .i64 r.1.2.2) := (blk_cell BM75.out 2).trans rfl
        have zS76_0 : w74.cell? ⟨gS53, 0, none⟩ = some (.bool true) := (blk_cell BS75.out 0).trans rfl
        have zS76_1 : w74.cell? ⟨gS53, 1, none⟩ = some (.int .i64 b.1) := (blk_cell BS75.out 1).trans rfl
        have zS76_2 : w74.cell? ⟨gS53, 2, none⟩ = some (.int .i64 b.2.1) := (blk_cell BS75.out 2).trans rfl
        have zS76_3 : w74.cell? ⟨gS53, 3, none⟩ = some (.int .i64 b.2.2) := (blk_cell BS75.out 3).trans rfl
        have zS76_4 : w74.cell? ⟨gS53, 4, none⟩ = some (.slice V v.length cv) := (blk_cell BS75.out 4).trans rfl
        have zT76_0 : w74.cell? ⟨gT61, 0, none⟩ = some (.int .i64 b.1) := (blk_cell BT75.out 0).trans rfl
        have zT76_1 : w74.cell? ⟨gT61, 1, none⟩ = some (.int .i64 b.2.1) := (blk_cell BT75.out 1).trans rfl
        have zT76_2 : w74.cell? ⟨gT61, 2, none⟩ = some (.int .i64 b.2.2) := (blk_cell BT75.out 2).trans rfl
        have zT76_3 : w74.cell? ⟨gT61, 3, none⟩ = some (.int .i64 b.1) := (blk_cell BT75.out 3).trans rfl
        have zT76_4 : w74.cell? ⟨gT61, 4, none⟩ = some (.int .i64 b.2.1) := (blk_cell BT75.out 4).trans rfl
        have zT76_5 : w74.cell? ⟨gT61, 5, none⟩ = some (.int .i64 b.2.2) := (blk_cell BT75.out 5).trans rfl
        have zT76_6 : w74.cell? ⟨gT61, 6, none⟩ = some (.slice B2 v.length d2) := (blk_cell BT75.out 6).trans rfl
        go_wp2_with fail
        have hgd := good_v (b, b, v) B2 d2 _ (Kd.R_reads' Rq75.out).2.2 (Kd.R_reads' Rq75.out).2.1 HOKN.out
        rw [HGN.out] at hgd
        refine hgd.mono ?_
        rintro e wg ⟨rfl, hbg⟩
        clear hgd
        clear zR76_0 zR76_1 zR76_2 zR76_3 zR76_4 zR76_5 zR76_6 zM76_0 zM76_1 zM76_2 zS76_0 zS76_1 zS76_2 zS76_3 zS76_4 zT76_0 zT76_1 zT76_2 zT76_3 zT76_4 zT76_5 zT76_6
        have HB78 := Aside0.mk (below_step HB75.out hbg)
        have BR78 : Aside0 (wg.heap[gR3]? = some (.cells #[.int .i64 r.1.1, .int .i64 r.1.2.1, .int .i64 r.1.2.2, .int .i64 r.2.1.1, .int .i64 r.2.1.2.1, .int .i64 r.2.1.2.2, .slice A r.2.2.length c] 26 (0, 0))) := ⟨(hbg.block _ (blk_lt BR75.out)).trans BR75.out⟩
        have BM78 : Aside0 (wg.heap[gM3]? = some (.cells #[.int .i64 r.1.1, .int .i64 r.1.2.1, .int .i64 r.1.2.2] 23 (0, 0))) := ⟨(hbg.block _ (blk_lt BM75.out)).trans BM75.out⟩
        have BS78 : Aside0 (wg.heap[gS53]? = some (.cells #[.bool true, .int .i64 b.1, .int .i64 b.2.1, .int .i64 b.2.2, .slice V v.length cv] 44 (0, 0))) := ⟨(hbg.block _ (blk_lt BS75.out)).trans BS75.out⟩
        have BT78 : Aside0 (wg.heap[gT61]? = some (.cells #[.int .i64 b.1, .int .i64 b.2.1, .int .i64 b.2.2, .int .i64 b.1, .int .i64 b.2.1, .int .i64 b.2.2, .slice B2 v.length d2] 26 (0, 0))) := ⟨(hbg.block _ (blk_lt BT75.out)).trans BT75.out⟩
        have Cv78 := Aside0.mk (Kd.C_below Cv75.out hbg)
        have Rr78 := Aside0.mk (Kd.R_below Rr75.out hbg)
        have Rp78 := Aside0.mk (Kd.R_below Rp75.out hbg)
        have Rq78 := Aside0.mk (Kd.R_below Rq75.out hbg)
        clear hbg
        have zR79_0 : wg.cell? ⟨gR3, 0, none⟩ = some (.int .i64 r.1.1) := (blk_cell BR78.out 0).trans rfl
        have zR79_1 : wg.cell? ⟨gR3, 1, none⟩ = some (.int .i64 r.1.2.1) := (blk_cell BR78.out 1).trans rfl
        have zR79_2 : wg.cell? ⟨gR3, 2, none⟩ = some (.int .i64 r.1.2.2) := (blk_cell BR78.out 2).trans rfl
        have zR79_3 : wg.cell? ⟨gR3, 3, none⟩ = some (.int .i64 r.2.1.1) := (blk_cell BR78.out 3).trans rfl
        have zR79_4 : wg.cell? ⟨gR3, 4, none⟩ = some (.int .i64 r.2.1.2.1) := (blk_cell BR78.out 4).trans rfl
        have zR79_5 : wg.cell? ⟨gR3, 5, none⟩ = some (.int .i64 r.2.1.2.2) := (blk_cell BR78.out 5).trans rfl
        have zR79_6 : wg.cell? ⟨gR3, 6, none⟩ = some (.slice A r.2.2.length c) := (blk_cell BR78.out 6).trans rfl
        have zM79_0 : wg.cell? ⟨gM3, 0, none⟩ = some (.int .i64 r.1.1) := (blk_cell BM78.out 0).trans rfl
        have zM79_1 : wg.cell? ⟨gM3, 1, none⟩ = some (.int .i64 r.1.2.1) := (blk_cell BM78.out 1).trans rfl
        have zM79_2 : wg.cell? ⟨gM3, 2, none⟩ = some (.int .i64 r.1.2.2) := (blk_cell BM78.out 2).trans rfl
        have zS79_0 : wg.cell? ⟨gS53, 0, none⟩ = some (.bool true) := (blk_cell BS78.out 0).trans rfl
        have zS79_1 : wg.cell? ⟨gS53, 1, none⟩ = some (.int .i64 b.1) := (blk_cell BS78.out 1).trans rfl
        have zS79_2 : wg.cell? ⟨gS53, 2, none⟩ = some (.int .i64 b.2.1) := (blk_cell BS78.out 2).trans rfl
        have zS79_3 : wg.cell? ⟨gS53, 3, none⟩ = some (.int .i64 b.2.2) := (blk_cell BS78.out 3).trans rfl
        have zS79_4 : wg.cell? ⟨gS53, 4, none⟩ = some (.slice V v.length cv) := (blk_cell BS78.out 4).trans rfl
        have zT79_0 : wg.cell? ⟨gT61, 0, none⟩ = some (.int .i64 b.1) := (blk_cell BT78.out 0).trans rfl
        have zT79_1 : wg.cell? ⟨gT61, 1, none⟩ = some (.int .i64 b.2.1) := (blk_cell BT78.out 1).trans rfl
        have zT79_2 : wg.cell? ⟨gT61, 2, none⟩ = some (.int .i64 b.2.2) := (blk_cell BT78.out 2).trans rfl
        have zT79_3 : wg.cell? ⟨gT61, 3, none⟩ = some (.int .i64 b.1) := (blk_cell BT78.out 3).trans rfl
        have zT79_4 : wg.cell? ⟨gT61, 4, none⟩ = some (.int .i64 b.2.1) := (blk_cell BT78.out 4).trans rfl
        have zT79_5 : wg.cell? ⟨gT61, 5, none⟩ = some (.int .i64 b.2.2) := (blk_cell BT78.out 5).trans rfl
        have zT79_6 : wg.cell? ⟨gT61, 6, none⟩ = some (.slice B2 v.length d2) := (blk_cell BT78.out 6).trans rfl
        go_wp2_with fail
        refine start_ (n := 5) (S := fun w' => w'.cell? ⟨gT61, 0, none⟩ = some (.int .i64 b.1) ∧ w'.cell? ⟨gT61, 1, none⟩ = some (.int .i64 b.2.1) ∧ w'.cell? ⟨gT61, 2, none⟩ = some (.int .i64 b.2.2) ∧ w'.cell? ⟨gT61, 3, none⟩ = some (.int .i64 b.1) ∧ w'.cell? ⟨gT61, 4, none⟩ = some (.int .i64 b.2.1) ∧ w'.cell? ⟨gT61, 5, none⟩ = some (.int .i64 b.2.2) ∧ w'.cell? ⟨gT61, 6, none⟩ = some (.slice B2 v.length d2)) (ds := [4]) #[false, false, false, false, false] (by kernel_rfl) rfl rfl ⟨zT79_0, zT79_1, zT79_2, zT79_3, zT79_4, zT79_5, zT79_6⟩ (fun hHeld => ?_)
        refine pure_ (i := 1) (N := some 102) (v := ?_) (a' := ?_) #[false, true, false, false, false] rfl rfl (by kernel_rfl) (fun _ _ _ h => h) (Or.inl ⟨by rfl, ?_⟩) ?_ ?_
        rotate_left
        · intro w'
          go_simp
          with_reducible rfl
        rotate_left
        · simp only [Act.put, List.setIfInBounds_toArray, List.set_cons_zero, List.set_cons_succ, i64_w, i32_w]
          rfl
        refine take_ (i := 0) (N := some 101) (v := ?_) (a' := ?_) #[true, true, false, false, false] rfl rfl (by kernel_rfl) (fun _ _ _ h => h) (Or.inl ⟨by rfl, ?_⟩) hHeld ?_ ?_
        rotate_left
        · rintro w' ⟨s0, s1, s2, s3, s4, s5, s6⟩
          go_simp
          with_reducible rfl
        rotate_left
        · simp only [Act.put, List.setIfInBounds_toArray, List.set_cons_zero, List.set_cons_succ, i64_w, i32_w]
          rfl
        refine take_ (i := 2) (N := some 103) (v := ?_) (a' := ?_) #[true, true, true, false, false] rfl rfl (by kernel_rfl) (fun _ _ _ h => h) (Or.inl ⟨by rfl, ?_⟩) hHeld ?_ ?_
        rotate_left
        · rintro w' ⟨s0, s1, s2, s3, s4, s5, s6⟩
          go_simp
          with_reducible rfl
        rotate_left
        · simp only [Act.put, List.setIfInBounds_toArray, List.set_cons_zero, List.set_cons_succ, i64_w, i32_w]
          rfl
        refine one_ (i := 3) (N := none) #[true, true, true, true, false] rfl rfl (by kernel_rfl) (by decide) (fun K hK => ?_)
        have fR0 := blk_frozen BR78.out 0
        have fR1 := blk_frozen BR78.out 1
        have fR2 := blk_frozen BR78.out 2
        have fR3 := blk_frozen BR78.out 3
        have fR4 := blk_frozen BR78.out 4
        have fR5 := blk_frozen BR78.out 5
        have fR6 := blk_frozen BR78.out 6
        refine skip_ (w1 := ?_) (by rfl) rfl ?_ ?_
        rotate_left
        · go_simp
          rfl
        clear zR79_0 zR79_1 zR79_2 zR79_3 zR79_4 zR79_5 zR79_6 zM79_0 zM79_1 zM79_2 zS79_0 zS79_1 zS79_2 zS79_3 zS79_4 zT79_0 zT79_1 zT79_2 zT79_3 zT79_4 zT79_5 zT79_6
        obtain ⟨W80, hw80⟩ : ∃ x : World, x = (((((((wg.setCell ⟨gR3, 0, none⟩ (.int .i64 b.1)).setCell ⟨gR3, 1, none⟩ (.int .i64 b.2.1)).setCell ⟨gR3, 2, none⟩ (.int .i64 b.2.2)).setCell ⟨gR3, 3, none⟩ (.int .i64 b.1)).setCell ⟨gR3, 4, none⟩ (.int .i64 b.2.1)).setCell ⟨gR3, 5, none⟩ (.int .i64 b.2.2)).setCell ⟨gR3, 6, none⟩ (.slice B2 v.length d2)) := ⟨_, rfl⟩
        have HB80 : Aside0 (Below w.heap.size w W80) := ⟨by rw [hw80]; exact (below_set (below_set (below_set (below_set (below_set (below_set (below_set HB78.out GSR3.out) GSR3.out) GSR3.out) GSR3.out) GSR3.out) GSR3.out) GSR3.out)⟩
        have hgr80 : wg.grownBy W80 (some gR3) := by rw [hw80]; exact ((((((grown_set _ _ _ _).trans (grown_set _ _ _ _)).trans (grown_set _ _ _ _)).trans (grown_set _ _ _ _)).trans (grown_set _ _ _ _)).trans (grown_set _ _ _ _)).trans (grown_set _ _ _ _)
        have BR80 : Aside0 (W80.heap[gR3]? = some (.cells #[.int .i64 b.1, .int .i64 b.2.1, .int .i64 b.2.2, .int .i64 b.1, .int .i64 b.2.1, .int .i64 b.2.2, .slice B2 v.length d2] 26 (0, 0))) := ⟨by rw [hw80]; refine blk_put (cs := #[.int .i64 b.1, .int .i64 b.2.1, .int .i64 b.2.2, .int .i64 b.1, .int .i64 b.2.1, .int .i64 b.2.2, .slice A r.2.2.length c]) ?_ 6 _ rfl; refine blk_put (cs := #[.int .i64 b.1, .int .i64 b.2.1, .int .i64 b.2.2, .int .i64 b.1, .int .i64 b.2.1, .int .i64 r.2.1.2.2, .slice A r.2.2.length c]) ?_ 5 _ rfl; refine blk_put (cs := #[.int .i64 b.1, .int .i64 b.2.1, .int .i64 b.2.2, .int .i64 b.1, .int .i64 r.2.1.2.1, .int .i64 r.2.1.2.2, .slice A r.2.2.length c]) ?_ 4 _ rfl; refine blk_put (cs := #[.int .i64 b.1, .int .i64 b.2.1, .int .i64 b.2.2, .int .i64 r.2.1.1, .int .i64 r.2.1.2.1, .int .i64 r.2.1.2.2, .slice A r.2.2.length c]) ?_ 3 _ rfl; refine blk_put (cs := #[.int .i64 b.1, .int .i64 b.2.1, .int .i64 r.1.2.2, .int .i64 r.2.1.1, .int .i64 r.2.1.2.1, .int .i64 r.2.1.2.2, .slice A r.2.2.length c]) ?_ 2 _ rfl; refine blk_put (cs := #[.int .i64 b.1, .int .i64 r.1.2.1, .int .i64 r.1.2.2, .int .i64 r.2.1.1, .int .i64 r.2.1.2.1, .int .i64 r.2.1.2.2, .slice A r.2.2.length c]) ?_ 1 _ rfl; refine blk_put (cs := #[.int .i64 r.1.1, .int .i64 r.1.2.1, .int .i64 r.1.2.2, .int .i64 r.2.1.1, .int .i64 r.2.1.2.1, .int .i64 r.2.1.2.2, .slice A r.2.2.length c]) ?_ 0 _ rfl; exact BR78.out⟩
        have BM80 : Aside0 (W80.heap[gM3]? = some (.cells #[.int .i64 r.1.1, .int .i64 r.1.2.1, .int .i64 r.1.2.2] 23 (0, 0))) := ⟨blk_grown BM78.out hgr80 (fun e => (blk_ne BM78.out BR78.out (by decide)) (by injection e))⟩
        have BT80 : Aside0 (W80.heap[gT61]? = some (.cells #[.int .i64 b.1, .int .i64 b.2.1, .int .i64 b.2.2, .int .i64 b.1, .int .i64 b.2.1, .int .i64 b.2.2, .slice B2 v.length d2] 26 (0, 0))) := ⟨blk_grown BT78.out hgr80 (fun e => (HNT.out.symm) (by injection e))⟩
        have Rr80 := Aside0.mk (Kd.R_mono (Kd.R_grown (Kd.R_types Rr78.out BR78.out (by decide)) hgr80 (fun k hk => by simpa using hk.2)) (fun _ hk => hk.1))
        have Rp80 := Aside0.mk (Kd.R_mono (Kd.R_grown (Kd.R_types Rp78.out BR78.out (by decide)) hgr80 (fun k hk => by simpa using hk.2)) (fun _ hk => hk.1))
        have Rq80 := Aside0.mk (Kd.R_mono (Kd.R_grown (Kd.R_types Rq78.out BR78.out (by decide)) hgr80 (fun k hk => by simpa using hk.2)) (fun _ hk => hk.1))
        have Cv80 := Aside0.mk (Kd.C_below HV.out HB80.out)
        rw [← hw80]
        clear hw80 hgr80
        obtain ⟨W81, hw81⟩ : ∃ x : World, x = W80.drew := ⟨_, rfl⟩
        have hbd81 : Below W80.heap.size W80 W81 := by rw [hw81]; exact below_drew (Below.refl _ _)
        rw [← hw81]
        clear hw81
        have HB82 := Aside0.mk (below_step HB80.out hbd81)
        have BR82 : Aside0 (W81.heap[gR3]? = some (.cells #[.int .i64 b.1, .int .i64 b.2.1, .int .i64 b.2.2, .int .i64 b.1, .int .i64 b.2.1, .int .i64 b.2.2, .slice B2 v.length d2] 26 (0, 0))) := ⟨(hbd81.block _ (blk_lt BR80.out)).trans BR80.out⟩
        have BM82 : Aside0 (W81.heap[gM3]? = some (.cells #[.int .i64 r.1.1, .int .i64 r.1.2.1, .int .i64 r.1.2.2] 23 (0, 0))) := ⟨(hbd81.block _ (blk_lt BM80.out)).trans BM80.out⟩
        have BT82 : Aside0 (W81.heap[gT61]? = some (.cells #[.int .i64 b.1, .int .i64 b.2.1, .int .i64 b.2.2, .int .i64 b.1, .int .i64 b.2.1, .int .i64 b.2.2, .slice B2 v.length d2] 26 (0, 0))) := ⟨(hbd81.block _ (blk_lt BT80.out)).trans BT80.out⟩
        have Cv82 := Aside0.mk (Kd.C_below Cv80.out hbd81)
        have Rr82 := Aside0.mk (Kd.R_below Rr80.out hbd81)
        have Rp82 := Aside0.mk (Kd.R_below Rp80.out hbd81)
        have Rq82 := Aside0.mk (Kd.R_below Rq80.out hbd81)
        clear hbd81
        have zM83_0 : W81.cell? ⟨gM3, 0, none⟩ = some (.int .i64 r.1.1) := (blk_cell BM82.out 0).trans rfl
        have zM83_1 : W81.cell? ⟨gM3, 1, none⟩ = some (.int .i64 r.1.2.1) := (blk_cell BM82.out 1).trans rfl
        have zM83_2 : W81.cell? ⟨gM3, 2, none⟩ = some (.int .i64 r.1.2.2) := (blk_cell BM82.out 2).trans rfl
        have zT83_0 : W81.cell? ⟨gT61, 0, none⟩ = some (.int .i64 b.1) := (blk_cell BT82.out 0).trans rfl
        have zT83_1 : W81.cell? ⟨gT61, 1, none⟩ = some (.int .i64 b.2.1) := (blk_cell BT82.out 1).trans rfl
        have zT83_2 : W81.cell? ⟨gT61, 2, none⟩ = some (.int .i64 b.2.2) := (blk_cell BT82.out 2).trans rfl
        have zT83_3 : W81.cell? ⟨gT61, 3, none⟩ = some (.int .i64 b.1) := (blk_cell BT82.out 3).trans rfl
        have zT83_4 : W81.cell? ⟨gT61, 4, none⟩ = some (.int .i64 b.2.1) := (blk_cell BT82.out 4).trans rfl
        have zT83_5 : W81.cell? ⟨gT61, 5, none⟩ = some (.int .i64 b.2.2) := (blk_cell BT82.out 5).trans rfl
        have zT83_6 : W81.cell? ⟨gT61, 6, none⟩ = some (.slice B2 v.length d2) := (blk_cell BT82.out 6).trans rfl
        have fM0 := blk_frozen BM82.out 0
        have fM1 := blk_frozen BM82.out 1
        have fM2 := blk_frozen BM82.out 2
        refine hK.out _ _ ⟨zT83_0, zT83_1, zT83_2, zT83_3, zT83_4, zT83_5, zT83_6⟩ (fun hHeld => ?_)
        clear hK K
        refine last_ (i := 4) (N := none) #[true, true, true, true, true] rfl rfl (by kernel_rfl) (by decide) (fun K hK => ?_)
        refine skip_ (w1 := ?_) (by rfl) rfl ?_ ?_
        rotate_left
        · go_simp
          rfl
        refine hK.out _ _ ?_
        clear hK K
        refine done_ (by kernel_rfl) ?_
        clear zM83_0 zM83_1 zM83_2 zT83_0 zT83_1 zT83_2 zT83_3 zT83_4 zT83_5 zT83_6
        obtain ⟨W84, hw84⟩ : ∃ x : World, x = (((W81.setCell ⟨gM3, 0, none⟩ (.int .i64 b.1)).setCell ⟨gM3, 1, none⟩ (.int .i64 b.2.1)).setCell ⟨gM3, 2, none⟩ (.int .i64 b.2.2)) := ⟨_, rfl⟩
        have HB84 : Aside0 (Below w.heap.size w W84) := ⟨by rw [hw84]; exact (below_set (below_set (below_set HB82.out GSM3.out) GSM3.out) GSM3.out)⟩
        have hgr84 : W81.grownBy W84 (some gM3) := by rw [hw84]; exact ((grown_set _ _ _ _).trans (grown_set _ _ _ _)).trans (grown_set _ _ _ _)
        have BM84 : Aside0 (W84.heap[gM3]? = some (.cells #[.int .i64 b.1, .int .i64 b.2.1, .int .i64 b.2.2] 23 (0, 0))) := ⟨by rw [hw84]; refine blk_put (cs := #[.int .i64 b.1, .int .i64 b.2.1, .int .i64 r.1.2.2]) ?_ 2 _ rfl; refine blk_put (cs := #[.int .i64 b.1, .int .i64 r.1.2.1, .int .i64 r.1.2.2]) ?_ 1 _ rfl; refine blk_put (cs := #[.int .i64 r.1.1, .int .i64 r.1.2.1, .int .i64 r.1.2.2]) ?_ 0 _ rfl; exact BM82.out⟩
        have BR84 : Aside0 (W84.heap[gR3]? = some (.cells #[.int .i64 b.1, .int .i64 b.2.1, .int .i64 b.2.2, .int .i64 b.1, .int .i64 b.2.1, .int .i64 b.2.2, .slice B2 v.length d2] 26 (0, 0))) := ⟨blk_grown BR82.out hgr84 (fun e => (blk_ne BR82.out BM82.out (by decide)) (by injection e))⟩
        have BT84 : Aside0 (W84.heap[gT61]? = some (.cells #[.int .i64 b.1, .int .i64 b.2.1, .int .i64 b.2.2, .int .i64 b.1, .int .i64 b.2.1, .int .i64 b.2.2, .slice B2 v.length d2] 26 (0, 0))) := ⟨blk_grown BT82.out hgr84 (fun e => (blk_ne BT82.out BM82.out (by decide)) (by injection e))⟩
        have Rr84 := Aside0.mk (Kd.R_mono (Kd.R_grown (Kd.R_types Rr82.out BM82.out (by decide)) hgr84 (fun k hk => by simpa using hk.2)) (fun _ hk => hk.1))
        have Rp84 := Aside0.mk (Kd.R_mono (Kd.R_grown (Kd.R_types Rp82.out BM82.out (by decide)) hgr84 (fun k hk => by simpa using hk.2)) (fun _ hk => hk.1))
        have Rq84 := Aside0.mk (Kd.R_mono (Kd.R_grown (Kd.R_types Rq82.out BM82.out (by decide)) hgr84 (fun k hk => by simpa using hk.2)) (fun _ hk => hk.1))
        have Cv84 := Aside0.mk (Kd.C_below HV.out HB84.out)
        rw [← hw84]
        clear hw84 hgr84
        go_wp2_with fail
        go_roundw
        case rel => exact ⟨k + 1, by omega, by go_num, ⟨⟨(b, b, v), B2, d2, BR84.out, BM84.out, Kd.R_lower Rq84.out (Nat.le_refl _), HGN.out, HOKN.out⟩⟩, HB84⟩
        case measure => simp [intOf]; omega
      · have HP := Aside0.mk hp
        have HE := Aside0.mk he
        clear hp he
        have zR63_0 : W61.cell? ⟨gR3, 0, none⟩ = some (.int .i64 r.1.1) := (blk_cell BR62.out 0).trans rfl
        have zR63_1 : W61.cell? ⟨gR3, 1, none⟩ = some (.int .i64 r.1.2.1) := (blk_cell BR62.out 1).trans rfl
        have zR63_2 : W61.cell? ⟨gR3, 2, none⟩ = some (.int .i64 r.1.2.2) := (blk_cell BR62.out 2).trans rfl
        have zR63_3 : W61.cell? ⟨gR3, 3, none⟩ = some (.int .i64 r.2.1.1) := (blk_cell BR62.out 3).trans rfl
        have zR63_4 : W61.cell? ⟨gR3, 4, none⟩ = some (.int .i64 r.2.1.2.1) := (blk_cell BR62.out 4).trans rfl
        have zR63_5 : W61.cell? ⟨gR3, 5, none⟩ = some (.int .i64 r.2.1.2.2) := (blk_cell BR62.out 5).trans rfl
        have zR63_6 : W61.cell? ⟨gR3, 6, none⟩ = some (.slice A r.2.2.length c) := (blk_cell BR62.out 6).trans rfl
        have zM63_0 : W61.cell? ⟨gM3, 0, none⟩ = some (.int .i64 r.1.1) := (blk_cell BM62.out 0).trans rfl
        have zM63_1 : W61.cell? ⟨gM3, 1, none⟩ = some (.int .i64 r.1.2.1) := (blk_cell BM62.out 1).trans rfl
        have zM63_2 : W61.cell? ⟨gM3, 2, none⟩ = some (.int .i64 r.1.2.2) := (blk_cell BM62.out 2).trans rfl
        have zS63_0 : W61.cell? ⟨gS53, 0, none⟩ = some (.bool true) := (blk_cell BS62.out 0).trans rfl
        have zS63_1 : W61.cell? ⟨gS53, 1, none⟩ = some (.int .i64 b.1) := (blk_cell BS62.out 1).trans rfl
        have zS63_2 : W61.cell? ⟨gS53, 2, none⟩ = some (.int .i64 b.2.1) := (blk_cell BS62.out 2).trans rfl
        have zS63_3 : W61.cell? ⟨gS53, 3, none⟩ = some (.int .i64 b.2.2) := (blk_cell BS62.out 3).trans rfl
        have zS63_4 : W61.cell? ⟨gS53, 4, none⟩ = some (.slice V v.length cv) := (blk_cell BS62.out 4).trans rfl
        have zT63_0 : W61.cell? ⟨gT61, 0, none⟩ = some (.int .i64 pr.1.1) := (blk_cell BT61.out 0).trans rfl
        have zT63_1 : W61.cell? ⟨gT61, 1, none⟩ = some (.int .i64 pr.1.2.1) := (blk_cell BT61.out 1).trans rfl
        have zT63_2 : W61.cell? ⟨gT61, 2, none⟩ = some (.int .i64 pr.1.2.2) := (blk_cell BT61.out 2).trans rfl
        have zT63_3 : W61.cell? ⟨gT61, 3, none⟩ = some (.int .i64 pr.2.1.1) := (blk_cell BT61.out 3).trans rfl
        have zT63_4 : W61.cell? ⟨gT61, 4, none⟩ = some (.int .i64 pr.2.1.2.1) := (blk_cell BT61.out 4).trans rfl
        have zT63_5 : W61.cell? ⟨gT61, 5, none⟩ = some (.int .i64 pr.2.1.2.2) := (blk_cell BT61.out 5).trans rfl
        have zT63_6 : W61.cell? ⟨gT61, 6, none⟩ = some (.slice B1 pr.2.2.length d1) := (blk_cell BT61.out 6).trans rfl
        go_wp2_with fail
        refine (accept_at r (((0, 0, 0) : Bal), ((0, 0, 0) : Bal), []) (.iface 45 (.int .i64 2)) A c _ b V cv v HP.out (by rw [HE.out]; rfl) HOK.out HBOK.out (Kd.R_reads' Rr62.out).2.2 (Kd.R_reads' Rr62.out).2.1 Cv62.out HCV.out).mono ?_
        rintro e wa ⟨B2, d2, rfl, hR2, hb2⟩
        clear zR63_0 zR63_1 zR63_2 zR63_3 zR63_4 zR63_5 zR63_6 zM63_0 zM63_1 zM63_2 zS63_0 zS63_1 zS63_2 zS63_3 zS63_4 zT63_0 zT63_1 zT63_2 zT63_3 zT63_4 zT63_5 zT63_6
        have HB64 := Aside0.mk (below_step HB62.out hb2)
        have BR64 : Aside0 (wa.heap[gR3]? = some (.cells #[.int .i64 r.1.1, .int .i64 r.1.2.1, .int .i64 r.1.2.2, .int .i64 r.2.1.1, .int .i64 r.2.1.2.1, .int .i64 r.2.1.2.2, .slice A r.2.2.length c] 26 (0, 0))) := ⟨(hb2.block _ (blk_lt BR62.out)).trans BR62.out⟩
        have BM64 : Aside0 (wa.heap[gM3]? = some (.cells #[.int .i64 r.1.1, .int .i64 r.1.2.1, .int .i64 r.1.2.2] 23 (0, 0))) := ⟨(hb2.block _ (blk_lt BM62.out)).trans BM62.out⟩
        have BS64 : Aside0 (wa.heap[gS53]? = some (.cells #[.bool true, .int .i64 b.1, .int .i64 b.2.1, .int .i64 b.2.2, .slice V v.length cv] 44 (0, 0))) := ⟨(hb2.block _ (blk_lt BS62.out)).trans BS62.out⟩
        have BT64 : Aside0 (wa.heap[gT61]? = some (.cells #[.int .i64 pr.1.1, .int .i64 pr.1.2.1, .int .i64 pr.1.2.2, .int .i64 pr.2.1.1, .int .i64 pr.2.1.2.1, .int .i64 pr.2.1.2.2, .slice B1 pr.2.2.length d1] 26 (0, 0))) := ⟨(hb2.block _ (blk_lt BT61.out)).trans BT61.out⟩
        have Cv64 := Aside0.mk (Kd.C_below Cv62.out hb2)
        have Rr64 := Aside0.mk (Kd.R_below Rr62.out hb2)
        have Rp64 := Aside0.mk (Kd.R_below Rp62.out hb2)
        clear hb2
        have HR2 := Aside0.mk hR2
        clear hR2
        have zR65_0 : wa.cell? ⟨gR3, 0, none⟩ = some (.int .i64 r.1.1) := (blk_cell BR64.out 0).trans rfl
        have zR65_1 : wa.cell? ⟨gR3, 1, none⟩ = some (.int .i64 r.1.2.1) := (blk_cell BR64.out 1).trans rfl
        have zR65_2 : wa.cell? ⟨gR3, 2, none⟩ = some (.int .i64 r.1.2.2) := (blk_cell BR64.out 2).trans rfl
        have zR65_3 : wa.cell? ⟨gR3, 3, none⟩ = some (.int .i64 r.2.1.1) := (blk_cell BR64.out 3).trans rfl
        have zR65_4 : wa.cell? ⟨gR3, 4, none⟩ = some (.int .i64 r.2.1.2.1) := (blk_cell BR64.out 4).trans rfl
        have zR65_5 : wa.cell? ⟨gR3, 5, none⟩ = some (.int .i64 r.2.1.2.2) := (blk_cell BR64.out 5).trans rfl
        have zR65_6 : wa.cell? ⟨gR3, 6, none⟩ = some (.slice A r.2.2.length c) := (blk_cell BR64.out 6).trans rfl
        have zM65_0 : wa.cell? ⟨gM3, 0, none⟩ = some (.int .i64 r.1.1) := (blk_cell BM64.out 0).trans rfl
        have zM65_1 : wa.cell? ⟨gM3, 1, none⟩ = some (.int .i64 r.1.2.1) := (blk_cell BM64.out 1).trans rfl
        have zM65_2 : wa.cell? ⟨gM3, 2, none⟩ = some (.int .i64 r.1.2.2) := (blk_cell BM64.out 2).trans rfl
        have zS65_0 : wa.cell? ⟨gS53, 0, none⟩ = some (.bool true) := (blk_cell BS64.out 0).trans rfl
        have zS65_1 : wa.cell? ⟨gS53, 1, none⟩ = some (.int .i64 b.1) := (blk_cell BS64.out 1).trans rfl
        have zS65_2 : wa.cell? ⟨gS53, 2, none⟩ = some (.int .i64 b.2.1) := (blk_cell BS64.out 2).trans rfl
        have zS65_3 : wa.cell? ⟨gS53, 3, none⟩ = some (.int .i64 b.2.2) := (blk_cell BS64.out 3).trans rfl
        have zS65_4 : wa.cell? ⟨gS53, 4, none⟩ = some (.slice V v.length cv) := (blk_cell BS64.out 4).trans rfl
        have zT65_0 : wa.cell? ⟨gT61, 0, none⟩ = some (.int .i64 pr.1.1) := (blk_cell BT64.out 0).trans rfl
        have zT65_1 : wa.cell? ⟨gT61, 1, none⟩ = some (.int .i64 pr.1.2.1) := (blk_cell BT64.out 1).trans rfl
        have zT65_2 : wa.cell? ⟨gT61, 2, none⟩ = some (.int .i64 pr.1.2.2) := (blk_cell BT64.out 2).trans rfl
        have zT65_3 : wa.cell? ⟨gT61, 3, none⟩ = some (.int .i64 pr.2.1.1) := (blk_cell BT64.out 3).trans rfl
        have zT65_4 : wa.cell? ⟨gT61, 4, none⟩ = some (.int .i64 pr.2.1.2.1) := (blk_cell BT64.out 4).trans rfl
        have zT65_5 : wa.cell? ⟨gT61, 5, none⟩ = some (.int .i64 pr.2.1.2.2) := (blk_cell BT64.out 5).trans rfl
        have zT65_6 : wa.cell? ⟨gT61, 6, none⟩ = some (.slice B1 pr.2.2.length d1) := (blk_cell BT64.out 6).trans rfl
        have fT0 := blk_frozen BT64.out 0
        have fT1 := blk_frozen BT64.out 1
        have fT2 := blk_frozen BT64.out 2
        have fT3 := blk_frozen BT64.out 3
        have fT4 := blk_frozen BT64.out 4
        have fT5 := blk_frozen BT64.out 5
        have fT6 := blk_frozen BT64.out 6
        go_upto_region 13 with fail
        clear fT0 fT1 fT2 fT3 fT4 fT5 fT6
        clear zR65_0 zR65_1 zR65_2 zR65_3 zR65_4 zR65_5 zR65_6 zM65_0 zM65_1 zM65_2 zS65_0 zS65_1 zS65_2 zS65_3 zS65_4 zT65_0 zT65_1 zT65_2 zT65_3 zT65_4 zT65_5 zT65_6
        obtain ⟨W66, hw66⟩ : ∃ x : World, x = (((((((wa.setCell ⟨gT61, 0, none⟩ (.int .i64 0)).setCell ⟨gT61, 1, none⟩ (.int .i64 0)).setCell ⟨gT61, 2, none⟩ (.int .i64 0)).setCell ⟨gT61, 3, none⟩ (.int .i64 0)).setCell ⟨gT61, 4, none⟩ (.int .i64 0)).setCell ⟨gT61, 5, none⟩ (.int .i64 0)).setCell ⟨gT61, 6, none⟩ (.slice B2 0 d2)) := ⟨_, rfl⟩
        have HB66 : Aside0 (Below w.heap.size w W66) := ⟨by rw [hw66]; exact (below_set (below_set (below_set (below_set (below_set (below_set (below_set HB64.out GST61.out) GST61.out) GST61.out) GST61.out) GST61.out) GST61.out) GST61.out)⟩
        have hgr66 : wa.grownBy W66 (some gT61) := by rw [hw66]; exact ((((((grown_set _ _ _ _).trans (grown_set _ _ _ _)).trans (grown_set _ _ _ _)).trans (grown_set _ _ _ _)).trans (grown_set _ _ _ _)).trans (grown_set _ _ _ _)).trans (grown_set _ _ _ _)
        have BT66 : Aside0 (W66.heap[gT61]? = some (.cells #[.int .i64 0, .int .i64 0, .int .i64 0, .int .i64 0, .int .i64 0, .int .i64 0, .slice B2 0 d2] 26 (0, 0))) := ⟨by rw [hw66]; refine blk_put (cs := #[.int .i64 0, .int .i64 0, .int .i64 0, .int .i64 0, .int .i64 0, .int .i64 0, .slice B1 pr.2.2.length d1]) ?_ 6 _ rfl; refine blk_put (cs := #[.int .i64 0, .int .i64 0, .int .i64 0, .int .i64 0, .int .i64 0, .int .i64 pr.2.1.2.2, .slice B1 pr.2.2.length d1]) ?_ 5 _ rfl; refine blk_put (cs := #[.int .i64 0, .int .i64 0, .int .i64 0, .int .i64 0, .int .i64 pr.2.1.2.1, .int .i64 pr.2.1.2.2, .slice B1 pr.2.2.length d1]) ?_ 4 _ rfl; refine blk_put (cs := #[.int .i64 0, .int .i64 0, .int .i64 0, .int .i64 pr.2.1.1, .int .i64 pr.2.1.2.1, .int .i64 pr.2.1.2.2, .slice B1 pr.2.2.length d1]) ?_ 3 _ rfl; refine blk_put (cs := #[.int .i64 0, .int .i64 0, .int .i64 pr.1.2.2, .int .i64 pr.2.1.1, .int .i64 pr.2.1.2.1, .int .i64 pr.2.1.2.2, .slice B1 pr.2.2.length d1]) ?_ 2 _ rfl; refine blk_put (cs := #[.int .i64 0, .int .i64 pr.1.2.1, .int .i64 pr.1.2.2, .int .i64 pr.2.1.1, .int .i64 pr.2.1.2.1, .int .i64 pr.2.1.2.2, .slice B1 pr.2.2.length d1]) ?_ 1 _ rfl; refine blk_put (cs := #[.int .i64 pr.1.1, .int .i64 pr.1.2.1, .int .i64 pr.1.2.2, .int .i64 pr.2.1.1, .int .i64 pr.2.1.2.1, .int .i64 pr.2.1.2.2, .slice B1 pr.2.2.length d1]) ?_ 0 _ rfl; exact BT64.out⟩
        have BR66 : Aside0 (W66.heap[gR3]? = some (.cells #[.int .i64 r.1.1, .int .i64 r.1.2.1, .int .i64 r.1.2.2, .int .i64 r.2.1.1, .int .i64 r.2.1.2.1, .int .i64 r.2.1.2.2, .slice A r.2.2.length c] 26 (0, 0))) := ⟨blk_grown BR64.out hgr66 (fun e => (HNT.out) (by injection e))⟩
        have BM66 : Aside0 (W66.heap[gM3]? = some (.cells #[.int .i64 r.1.1, .int .i64 r.1.2.1, .int .i64 r.1.2.2] 23 (0, 0))) := ⟨blk_grown BM64.out hgr66 (fun e => (blk_ne BM64.out BT64.out (by decide)) (by injection e))⟩
        have BS66 : Aside0 (W66.heap[gS53]? = some (.cells #[.bool true, .int .i64 b.1, .int .i64 b.2.1, .int .i64 b.2.2, .slice V v.length cv] 44 (0, 0))) := ⟨blk_grown BS64.out hgr66 (fun e => (blk_ne BS64.out BT64.out (by decide)) (by injection e))⟩
        have Rr66 := Aside0.mk (Kd.R_mono (Kd.R_grown (Kd.R_types Rr64.out BT64.out (by decide)) hgr66 (fun k hk => by simpa using hk.2)) (fun _ hk => hk.1))
        have Rp66 := Aside0.mk (Kd.R_mono (Kd.R_grown (Kd.R_types Rp64.out BT64.out (by decide)) hgr66 (fun k hk => by simpa using hk.2)) (fun _ hk => hk.1))
        have Rq66 := Aside0.mk (Kd.R_mono (Kd.R_grown (Kd.R_types HR2.out BT64.out (by decide)) hgr66 (fun k hk => by simpa using hk.2)) (fun _ hk => hk.1))
        have Cv66 := Aside0.mk (Kd.C_below HV.out HB66.out)
        rw [← hw66]
        clear hw66 hgr66
        have zR67_0 : W66.cell? ⟨gR3, 0, none⟩ = some (.int .i64 r.1.1) := (blk_cell BR66.out 0).trans rfl
        have zR67_1 : W66.cell? ⟨gR3, 1, none⟩ = some (.int .i64 r.1.2.1) := (blk_cell BR66.out 1).trans rfl
        have zR67_2 : W66.cell? ⟨gR3, 2, none⟩ = some (.int .i64 r.1.2.2) := (blk_cell BR66.out 2).trans rfl
        have zR67_3 : W66.cell? ⟨gR3, 3, none⟩ = some (.int .i64 r.2.1.1) := (blk_cell BR66.out 3).trans rfl
        have zR67_4 : W66.cell? ⟨gR3, 4, none⟩ = some (.int .i64 r.2.1.2.1) := (blk_cell BR66.out 4).trans rfl
        have zR67_5 : W66.cell? ⟨gR3, 5, none⟩ = some (.int .i64 r.2.1.2.2) := (blk_cell BR66.out 5).trans rfl
        have zR67_6 : W66.cell? ⟨gR3, 6, none⟩ = some (.slice A r.2.2.length c) := (blk_cell BR66.out 6).trans rfl
        have zM67_0 : W66.cell? ⟨gM3, 0, none⟩ = some (.int .i64 r.1.1) := (blk_cell BM66.out 0).trans rfl
        have zM67_1 : W66.cell? ⟨gM3, 1, none⟩ = some (.int .i64 r.1.2.1) := (blk_cell BM66.out 1).trans rfl
        have zM67_2 : W66.cell? ⟨gM3, 2, none⟩ = some (.int .i64 r.1.2.2) := (blk_cell BM66.out 2).trans rfl
        have zS67_0 : W66.cell? ⟨gS53, 0, none⟩ = some (.bool true) := (blk_cell BS66.out 0).trans rfl
        have zS67_1 : W66.cell? ⟨gS53, 1, none⟩ = some (.int .i64 b.1) := (blk_cell BS66.out 1).trans rfl
        have zS67_2 : W66.cell? ⟨gS53, 2, none⟩ = some (.int .i64 b.2.1) := (blk_cell BS66.out 2).trans rfl
        have zS67_3 : W66.cell? ⟨gS53, 3, none⟩ = some (.int .i64 b.2.2) := (blk_cell BS66.out 3).trans rfl
        have zS67_4 : W66.cell? ⟨gS53, 4, none⟩ = some (.slice V v.length cv) := (blk_cell BS66.out 4).trans rfl
        have zT67_0 : W66.cell? ⟨gT61, 0, none⟩ = some (.int .i64 0) := (blk_cell BT66.out 0).trans rfl
        have zT67_1 : W66.cell? ⟨gT61, 1, none⟩ = some (.int .i64 0) := (blk_cell BT66.out 1).trans rfl
        have zT67_2 : W66.cell? ⟨gT61, 2, none⟩ = some (.int .i64 0) := (blk_cell BT66.out 2).trans rfl
        have zT67_3 : W66.cell? ⟨gT61, 3, none⟩ = some (.int .i64 0) := (blk_cell BT66.out 3).trans rfl
        have zT67_4 : W66.cell? ⟨gT61, 4, none⟩ = some (.int .i64 0) := (blk_cell BT66.out 4).trans rfl
        have zT67_5 : W66.cell? ⟨gT61, 5, none⟩ = some (.int .i64 0) := (blk_cell BT66.out 5).trans rfl
        have zT67_6 : W66.cell? ⟨gT61, 6, none⟩ = some (.slice B2 0 d2) := (blk_cell BT66.out 6).trans rfl
        go_wp2_with fail
        refine (same_zero B2 d2 _ (Kd.R_reads' Rq66.out).2.2).mono ?_
        rintro e wz ⟨rfl, hbz⟩
        clear zR67_0 zR67_1 zR67_2 zR67_3 zR67_4 zR67_5 zR67_6 zM67_0 zM67_1 zM67_2 zS67_0 zS67_1 zS67_2 zS67_3 zS67_4 zT67_0 zT67_1 zT67_2 zT67_3 zT67_4 zT67_5 zT67_6
        have HB68 := Aside0.mk (below_step HB66.out hbz)
        have BR68 : Aside0 (wz.heap[gR3]? = some (.cells #[.int .i64 r.1.1, .int .i64 r.1.2.1, .int .i64 r.1.2.2, .int .i64 r.2.1.1, .int .i64 r.2.1.2.1, .int .i64 r.2.1.2.2, .slice A r.2.2.length c] 26 (0, 0))) := ⟨(hbz.block _ (blk_lt BR66.out)).trans BR66.out⟩
        have BM68 : Aside0 (wz.heap[gM3]? = some (.cells #[.int .i64 r.1.1, .int .i64 r.1.2.1, .int .i64 r.1.2.2] 23 (0, 0))) := ⟨(hbz.block _ (blk_lt BM66.out)).trans BM66.out⟩
        have BS68 : Aside0 (wz.heap[gS53]? = some (.cells #[.bool true, .int .i64 b.1, .int .i64 b.2.1, .int .i64 b.2.2, .slice V v.length cv] 44 (0, 0))) := ⟨(hbz.block _ (blk_lt BS66.out)).trans BS66.out⟩
        have BT68 : Aside0 (wz.heap[gT61]? = some (.cells #[.int .i64 0, .int .i64 0, .int .i64 0, .int .i64 0, .int .i64 0, .int .i64 0, .slice B2 0 d2] 26 (0, 0))) := ⟨(hbz.block _ (blk_lt BT66.out)).trans BT66.out⟩
        have Cv68 := Aside0.mk (Kd.C_below Cv66.out hbz)
        have Rr68 := Aside0.mk (Kd.R_below Rr66.out hbz)
        have Rp68 := Aside0.mk (Kd.R_below Rp66.out hbz)
        have Rq68 := Aside0.mk (Kd.R_below Rq66.out hbz)
        clear hbz
        go_wp2_with fail
        go_roundw
        case rel => exact ⟨k + 1, by omega, by go_num, ⟨⟨r, A, c, BR68.out, BM68.out, Rr68.out, HG.out, HOK.out⟩⟩, HB68⟩
        case measure => simp [intOf]; omega
      · have HP := Aside0.mk hp
        have HE := Aside0.mk he
        clear hp he
        have zR63_0 : W61.cell? ⟨gR3, 0, none⟩ = some (.int .i64 r.1.1) := (blk_cell BR62.out 0).trans rfl
        have zR63_1 : W61.cell? ⟨gR3, 1, none⟩ = some (.int .i64 r.1.2.1) := (blk_cell BR62.out 1).trans rfl
        have zR63_2 : W61.cell? ⟨gR3, 2, none⟩ = some (.int .i64 r.1.2.2) := (blk_cell BR62.out 2).trans rfl
        have zR63_3 : W61.cell? ⟨gR3, 3, none⟩ = some (.int .i64 r.2.1.1) := (blk_cell BR62.out 3).trans rfl
        have zR63_4 : W61.cell? ⟨gR3, 4, none⟩ = some (.int .i64 r.2.1.2.1) := (blk_cell BR62.out 4).trans rfl
        have zR63_5 : W61.cell? ⟨gR3, 5, none⟩ = some (.int .i64 r.2.1.2.2) := (blk_cell BR62.out 5).trans rfl
        have zR63_6 : W61.cell? ⟨gR3, 6, none⟩ = some (.slice A r.2.2.length c) := (blk_cell BR62.out 6).trans rfl
        have zM63_0 : W61.cell? ⟨gM3, 0, none⟩ = some (.int .i64 r.1.1) := (blk_cell BM62.out 0).trans rfl
        have zM63_1 : W61.cell? ⟨gM3, 1, none⟩ = some (.int .i64 r.1.2.1) := (blk_cell BM62.out 1).trans rfl
        have zM63_2 : W61.cell? ⟨gM3, 2, none⟩ = some (.int .i64 r.1.2.2) := (blk_cell BM62.out 2).trans rfl
        have zS63_0 : W61.cell? ⟨gS53, 0, none⟩ = some (.bool true) := (blk_cell BS62.out 0).trans rfl
        have zS63_1 : W61.cell? ⟨gS53, 1, none⟩ = some (.int .i64 b.1) := (blk_cell BS62.out 1).trans rfl
        have zS63_2 : W61.cell? ⟨gS53, 2, none⟩ = some (.int .i64 b.2.1) := (blk_cell BS62.out 2).trans rfl
        have zS63_3 : W61.cell? ⟨gS53, 3, none⟩ = some (.int .i64 b.2.2) := (blk_cell BS62.out 3).trans rfl
        have zS63_4 : W61.cell? ⟨gS53, 4, none⟩ = some (.slice V v.length cv) := (blk_cell BS62.out 4).trans rfl
        have zT63_0 : W61.cell? ⟨gT61, 0, none⟩ = some (.int .i64 pr.1.1) := (blk_cell BT61.out 0).trans rfl
        have zT63_1 : W61.cell? ⟨gT61, 1, none⟩ = some (.int .i64 pr.1.2.1) := (blk_cell BT61.out 1).trans rfl
        have zT63_2 : W61.cell? ⟨gT61, 2, none⟩ = some (.int .i64 pr.1.2.2) := (blk_cell BT61.out 2).trans rfl
        have zT63_3 : W61.cell? ⟨gT61, 3, none⟩ = some (.int .i64 pr.2.1.1) := (blk_cell BT61.out 3).trans rfl
        have zT63_4 : W61.cell? ⟨gT61, 4, none⟩ = some (.int .i64 pr.2.1.2.1) := (blk_cell BT61.out 4).trans rfl
        have zT63_5 : W61.cell? ⟨gT61, 5, none⟩ = some (.int .i64 pr.2.1.2.2) := (blk_cell BT61.out 5).trans rfl
        have zT63_6 : W61.cell? ⟨gT61, 6, none⟩ = some (.slice B1 pr.2.2.length d1) := (blk_cell BT61.out 6).trans rfl
        go_wp2_with fail
        refine (accept_at r (((0, 0, 0) : Bal), ((0, 0, 0) : Bal), []) (.iface 45 (.int .i64 11)) A c _ b V cv v HP.out (by rw [HE.out]; rfl) HOK.out HBOK.out (Kd.R_reads' Rr62.out).2.2 (Kd.R_reads' Rr62.out).2.1 Cv62.out HCV.out).mono ?_
        rintro e wa ⟨B2, d2, rfl, hR2, hb2⟩
        clear zR63_0 zR63_1 zR63_2 zR63_3 zR63_4 zR63_5 zR63_6 zM63_0 zM63_1 zM63_2 zS63_0 zS63_1 zS63_2 zS63_3 zS63_4 zT63_0 zT63_1 zT63_2 zT63_3 zT63_4 zT63_5 zT63_6
        have HB64 := Aside0.mk (below_step HB62.out hb2)
        have BR64 : Aside0 (wa.heap[gR3]? = some (.cells #[.int .i64 r.1.1, .int .i64 r.1.2.1, .int .i64 r.1.2.2, .int .i64 r.2.1.1, .int .i64 r.2.1.2.1, .int .i64 r.2.1.2.2, .slice A r.2.2.length c] 26 (0, 0))) := ⟨(hb2.block _ (blk_lt BR62.out)).trans BR62.out⟩
        have BM64 : Aside0 (wa.heap[gM3]? = some (.cells #[.int .i64 r.1.1, .int .i64 r.1.2.1, .int .i64 r.1.2.2] 23 (0, 0))) := ⟨(hb2.block _ (blk_lt BM62.out)).trans BM62.out⟩
        have BS64 : Aside0 (wa.heap[gS53]? = some (.cells #[.bool true, .int .i64 b.1, .int .i64 b.2.1, .int .i64 b.2.2, .slice V v.length cv] 44 (0, 0))) := ⟨(hb2.block _ (blk_lt BS62.out)).trans BS62.out⟩
        have BT64 : Aside0 (wa.heap[gT61]? = some (.cells #[.int .i64 pr.1.1, .int .i64 pr.1.2.1, .int .i64 pr.1.2.2, .int .i64 pr.2.1.1, .int .i64 pr.2.1.2.1, .int .i64 pr.2.1.2.2, .slice B1 pr.2.2.length d1] 26 (0, 0))) := ⟨(hb2.block _ (blk_lt BT61.out)).trans BT61.out⟩
        have Cv64 := Aside0.mk (Kd.C_below Cv62.out hb2)
        have Rr64 := Aside0.mk (Kd.R_below Rr62.out hb2)
        have Rp64 := Aside0.mk (Kd.R_below Rp62.out hb2)
        clear hb2
        have HR2 := Aside0.mk hR2
        clear hR2
        have zR65_0 : wa.cell? ⟨gR3, 0, none⟩ = some (.int .i64 r.1.1) := (blk_cell BR64.out 0).trans rfl
        have zR65_1 : wa.cell? ⟨gR3, 1, none⟩ = some (.int .i64 r.1.2.1) := (blk_cell BR64.out 1).trans rfl
        have zR65_2 : wa.cell? ⟨gR3, 2, none⟩ = some (.int .i64 r.1.2.2) := (blk_cell BR64.out 2).trans rfl
        have zR65_3 : wa.cell? ⟨gR3, 3, none⟩ = some (.int .i64 r.2.1.1) := (blk_cell BR64.out 3).trans rfl
        have zR65_4 : wa.cell? ⟨gR3, 4, none⟩ = some (.int .i64 r.2.1.2.1) := (blk_cell BR64.out 4).trans rfl
        have zR65_5 : wa.cell? ⟨gR3, 5, none⟩ = some (.int .i64 r.2.1.2.2) := (blk_cell BR64.out 5).trans rfl
        have zR65_6 : wa.cell? ⟨gR3, 6, none⟩ = some (.slice A r.2.2.length c) := (blk_cell BR64.out 6).trans rfl
        have zM65_0 : wa.cell? ⟨gM3, 0, none⟩ = some (.int .i64 r.1.1) := (blk_cell BM64.out 0).trans rfl
        have zM65_1 : wa.cell? ⟨gM3, 1, none⟩ = some (.int .i64 r.1.2.1) := (blk_cell BM64.out 1).trans rfl
        have zM65_2 : wa.cell? ⟨gM3, 2, none⟩ = some (.int .i64 r.1.2.2) := (blk_cell BM64.out 2).trans rfl
        have zS65_0 : wa.cell? ⟨gS53, 0, none⟩ = some (.bool true) := (blk_cell BS64.out 0).trans rfl
        have zS65_1 : wa.cell? ⟨gS53, 1, none⟩ = some (.int .i64 b.1) := (blk_cell BS64.out 1).trans rfl
        have zS65_2 : wa.cell? ⟨gS53, 2, none⟩ = some (.int .i64 b.2.1) := (blk_cell BS64.out 2).trans rfl
        have zS65_3 : wa.cell? ⟨gS53, 3, none⟩ = some (.int .i64 b.2.2) := (blk_cell BS64.out 3).trans rfl
        have zS65_4 : wa.cell? ⟨gS53, 4, none⟩ = some (.slice V v.length cv) := (blk_cell BS64.out 4).trans rfl
        have zT65_0 : wa.cell? ⟨gT61, 0, none⟩ = some (.int .i64 pr.1.1) := (blk_cell BT64.out 0).trans rfl
        have zT65_1 : wa.cell? ⟨gT61, 1, none⟩ = some (.int .i64 pr.1.2.1) := (blk_cell BT64.out 1).trans rfl
        have zT65_2 : wa.cell? ⟨gT61, 2, none⟩ = some (.int .i64 pr.1.2.2) := (blk_cell BT64.out 2).trans rfl
        have zT65_3 : wa.cell? ⟨gT61, 3, none⟩ = some (.int .i64 pr.2.1.1) := (blk_cell BT64.out 3).trans rfl
        have zT65_4 : wa.cell? ⟨gT61, 4, none⟩ = some (.int .i64 pr.2.1.2.1) := (blk_cell BT64.out 4).trans rfl
        have zT65_5 : wa.cell? ⟨gT61, 5, none⟩ = some (.int .i64 pr.2.1.2.2) := (blk_cell BT64.out 5).trans rfl
        have zT65_6 : wa.cell? ⟨gT61, 6, none⟩ = some (.slice B1 pr.2.2.length d1) := (blk_cell BT64.out 6).trans rfl
        have fT0 := blk_frozen BT64.out 0
        have fT1 := blk_frozen BT64.out 1
        have fT2 := blk_frozen BT64.out 2
        have fT3 := blk_frozen BT64.out 3
        have fT4 := blk_frozen BT64.out 4
        have fT5 := blk_frozen BT64.out 5
        have fT6 := blk_frozen BT64.out 6
        go_upto_region 13 with fail
        clear fT0 fT1 fT2 fT3 fT4 fT5 fT6
        clear zR65_0 zR65_1 zR65_2 zR65_3 zR65_4 zR65_5 zR65_6 zM65_0 zM65_1 zM65_2 zS65_0 zS65_1 zS65_2 zS65_3 zS65_4 zT65_0 zT65_1 zT65_2 zT65_3 zT65_4 zT65_5 zT65_6
        obtain ⟨W66, hw66⟩ : ∃ x : World, x = (((((((wa.setCell ⟨gT61, 0, none⟩ (.int .i64 0)).setCell ⟨gT61, 1, none⟩ (.int .i64 0)).setCell ⟨gT61, 2, none⟩ (.int .i64 0)).setCell ⟨gT61, 3, none⟩ (.int .i64 0)).setCell ⟨gT61, 4, none⟩ (.int .i64 0)).setCell ⟨gT61, 5, none⟩ (.int .i64 0)).setCell ⟨gT61, 6, none⟩ (.slice B2 0 d2)) := ⟨_, rfl⟩
        have HB66 : Aside0 (Below w.heap.size w W66) := ⟨by rw [hw66]; exact (below_set (below_set (below_set (below_set (below_set (below_set (below_set HB64.out GST61.out) GST61.out) GST61.out) GST61.out) GST61.out) GST61.out) GST61.out)⟩
        have hgr66 : wa.grownBy W66 (some gT61) := by rw [hw66]; exact ((((((grown_set _ _ _ _).trans (grown_set _ _ _ _)).trans (grown_set _ _ _ _)).trans (grown_set _ _ _ _)).trans (grown_set _ _ _ _)).trans (grown_set _ _ _ _)).trans (grown_set _ _ _ _)
        have BT66 : Aside0 (W66.heap[gT61]? = some (.cells #[.int .i64 0, .int .i64 0, .int .i64 0, .int .i64 0, .int .i64 0, .int .i64 0, .slice B2 0 d2] 26 (0, 0))) := ⟨by rw [hw66]; refine blk_put (cs := #[.int .i64 0, .int .i64 0, .int .i64 0, .int .i64 0, .int .i64 0, .int .i64 0, .slice B1 pr.2.2.length d1]) ?_ 6 _ rfl; refine blk_put (cs := #[.int .i64 0, .int .i64 0, .int .i64 0, .int .i64 0, .int .i64 0, .int .i64 pr.2.1.2.2, .slice B1 pr.2.2.length d1]) ?_ 5 _ rfl; refine blk_put (cs := #[.int .i64 0, .int .i64 0, .int .i64 0, .int .i64 0, .int .i64 pr.2.1.2.1, .int .i64 pr.2.1.2.2, .slice B1 pr.2.2.length d1]) ?_ 4 _ rfl; refine blk_put (cs := #[.int .i64 0, .int .i64 0, .int .i64 0, .int .i64 pr.2.1.1, .int .i64 pr.2.1.2.1, .int .i64 pr.2.1.2.2, .slice B1 pr.2.2.length d1]) ?_ 3 _ rfl; refine blk_put (cs := #[.int .i64 0, .int .i64 0, .int .i64 pr.1.2.2, .int .i64 pr.2.1.1, .int .i64 pr.2.1.2.1, .int .i64 pr.2.1.2.2, .slice B1 pr.2.2.length d1]) ?_ 2 _ rfl; refine blk_put (cs := #[.int .i64 0, .int .i64 pr.1.2.1, .int .i64 pr.1.2.2, .int .i64 pr.2.1.1, .int .i64 pr.2.1.2.1, .int .i64 pr.2.1.2.2, .slice B1 pr.2.2.length d1]) ?_ 1 _ rfl; refine blk_put (cs := #[.int .i64 pr.1.1, .int .i64 pr.1.2.1, .int .i64 pr.1.2.2, .int .i64 pr.2.1.1, .int .i64 pr.2.1.2.1, .int .i64 pr.2.1.2.2, .slice B1 pr.2.2.length d1]) ?_ 0 _ rfl; exact BT64.out⟩
        have BR66 : Aside0 (W66.heap[gR3]? = some (.cells #[.int .i64 r.1.1, .int .i64 r.1.2.1, .int .i64 r.1.2.2, .int .i64 r.2.1.1, .int .i64 r.2.1.2.1, .int .i64 r.2.1.2.2, .slice A r.2.2.length c] 26 (0, 0))) := ⟨blk_grown BR64.out hgr66 (fun e => (HNT.out) (by injection e))⟩
        have BM66 : Aside0 (W66.heap[gM3]? = some (.cells #[.int .i64 r.1.1, .int .i64 r.1.2.1, .int .i64 r.1.2.2] 23 (0, 0))) := ⟨blk_grown BM64.out hgr66 (fun e => (blk_ne BM64.out BT64.out (by decide)) (by injection e))⟩
        have BS66 : Aside0 (W66.heap[gS53]? = some (.cells #[.bool true, .int .i64 b.1, .int .i64 b.2.1, .int .i64 b.2.2, .slice V v.length cv] 44 (0, 0))) := ⟨blk_grown BS64.out hgr66 (fun e => (blk_ne BS64.out BT64.out (by decide)) (by injection e))⟩
        have Rr66 := Aside0.mk (Kd.R_mono (Kd.R_grown (Kd.R_types Rr64.out BT64.out (by decide)) hgr66 (fun k hk => by simpa using hk.2)) (fun _ hk => hk.1))
        have Rp66 := Aside0.mk (Kd.R_mono (Kd.R_grown (Kd.R_types Rp64.out BT64.out (by decide)) hgr66 (fun k hk => by simpa using hk.2)) (fun _ hk => hk.1))
        have Rq66 := Aside0.mk (Kd.R_mono (Kd.R_grown (Kd.R_types HR2.out BT64.out (by decide)) hgr66 (fun k hk => by simpa using hk.2)) (fun _ hk => hk.1))
        have Cv66 := Aside0.mk (Kd.C_below HV.out HB66.out)
        rw [← hw66]
        clear hw66 hgr66
        have zR67_0 : W66.cell? ⟨gR3, 0, none⟩ = some (.int .i64 r.1.1) := (blk_cell BR66.out 0).trans rfl
        have zR67_1 : W66.cell? ⟨gR3, 1, none⟩ = some (.int .i64 r.1.2.1) := (blk_cell BR66.out 1).trans rfl
        have zR67_2 : W66.cell? ⟨gR3, 2, none⟩ = some (.int .i64 r.1.2.2) := (blk_cell BR66.out 2).trans rfl
        have zR67_3 : W66.cell? ⟨gR3, 3, none⟩ = some (.int .i64 r.2.1.1) := (blk_cell BR66.out 3).trans rfl
        have zR67_4 : W66.cell? ⟨gR3, 4, none⟩ = some (.int .i64 r.2.1.2.1) := (blk_cell BR66.out 4).trans rfl
        have zR67_5 : W66.cell? ⟨gR3, 5, none⟩ = some (.int .i64 r.2.1.2.2) := (blk_cell BR66.out 5).trans rfl
        have zR67_6 : W66.cell? ⟨gR3, 6, none⟩ = some (.slice A r.2.2.length c) := (blk_cell BR66.out 6).trans rfl
        have zM67_0 : W66.cell? ⟨gM3, 0, none⟩ = some (.int .i64 r.1.1) := (blk_cell BM66.out 0).trans rfl
        have zM67_1 : W66.cell? ⟨gM3, 1, none⟩ = some (.int .i64 r.1.2.1) := (blk_cell BM66.out 1).trans rfl
        have zM67_2 : W66.cell? ⟨gM3, 2, none⟩ = some (.int .i64 r.1.2.2) := (blk_cell BM66.out 2).trans rfl
        have zS67_0 : W66.cell? ⟨gS53, 0, none⟩ = some (.bool true) := (blk_cell BS66.out 0).trans rfl
        have zS67_1 : W66.cell? ⟨gS53, 1, none⟩ = some (.int .i64 b.1) := (blk_cell BS66.out 1).trans rfl
        have zS67_2 : W66.cell? ⟨gS53, 2, none⟩ = some (.int .i64 b.2.1) := (blk_cell BS66.out 2).trans rfl
        have zS67_3 : W66.cell? ⟨gS53, 3, none⟩ = some (.int .i64 b.2.2) := (blk_cell BS66.out 3).trans rfl
        have zS67_4 : W66.cell? ⟨gS53, 4, none⟩ = some (.slice V v.length cv) := (blk_cell BS66.out 4).trans rfl
        have zT67_0 : W66.cell? ⟨gT61, 0, none⟩ = some (.int .i64 0) := (blk_cell BT66.out 0).trans rfl
        have zT67_1 : W66.cell? ⟨gT61, 1, none⟩ = some (.int .i64 0) := (blk_cell BT66.out 1).trans rfl
        have zT67_2 : W66.cell? ⟨gT61, 2, none⟩ = some (.int .i64 0) := (blk_cell BT66.out 2).trans rfl
        have zT67_3 : W66.cell? ⟨gT61, 3, none⟩ = some (.int .i64 0) := (blk_cell BT66.out 3).trans rfl
        have zT67_4 : W66.cell? ⟨gT61, 4, none⟩ = some (.int .i64 0) := (blk_cell BT66.out 4).trans rfl
        have zT67_5 : W66.cell? ⟨gT61, 5, none⟩ = some (.int .i64 0) := (blk_cell BT66.out 5).trans rfl
        have zT67_6 : W66.cell? ⟨gT61, 6, none⟩ = some (.slice B2 0 d2) := (blk_cell BT66.out 6).trans rfl
        go_wp2_with fail
        refine (same_zero B2 d2 _ (Kd.R_reads' Rq66.out).2.2).mono ?_
        rintro e wz ⟨rfl, hbz⟩
        clear zR67_0 zR67_1 zR67_2 zR67_3 zR67_4 zR67_5 zR67_6 zM67_0 zM67_1 zM67_2 zS67_0 zS67_1 zS67_2 zS67_3 zS67_4 zT67_0 zT67_1 zT67_2 zT67_3 zT67_4 zT67_5 zT67_6
        have HB68 := Aside0.mk (below_step HB66.out hbz)
        have BR68 : Aside0 (wz.heap[gR3]? = some (.cells #[.int .i64 r.1.1, .int .i64 r.1.2.1, .int .i64 r.1.2.2, .int .i64 r.2.1.1, .int .i64 r.2.1.2.1, .int .i64 r.2.1.2.2, .slice A r.2.2.length c] 26 (0, 0))) := ⟨(hbz.block _ (blk_lt BR66.out)).trans BR66.out⟩
        have BM68 : Aside0 (wz.heap[gM3]? = some (.cells #[.int .i64 r.1.1, .int .i64 r.1.2.1, .int .i64 r.1.2.2] 23 (0, 0))) := ⟨(hbz.block _ (blk_lt BM66.out)).trans BM66.out⟩
        have BS68 : Aside0 (wz.heap[gS53]? = some (.cells #[.bool true, .int .i64 b.1, .int .i64 b.2.1, .int .i64 b.2.2, .slice V v.length cv] 44 (0, 0))) := ⟨(hbz.block _ (blk_lt BS66.out)).trans BS66.out⟩
        have BT68 : Aside0 (wz.heap[gT61]? = some (.cells #[.int .i64 0, .int .i64 0, .int .i64 0, .int .i64 0, .int .i64 0, .int .i64 0, .slice B2 0 d2] 26 (0, 0))) := ⟨(hbz.block _ (blk_lt BT66.out)).trans BT66.out⟩
        have Cv68 := Aside0.mk (Kd.C_below Cv66.out hbz)
        have Rr68 := Aside0.mk (Kd.R_below Rr66.out hbz)
        have Rp68 := Aside0.mk (Kd.R_below Rp66.out hbz)
        have Rq68 := Aside0.mk (Kd.R_below Rq66.out hbz)
        clear hbz
        go_wp2_with fail
        go_roundw
        case rel => exact ⟨k + 1, by omega, by go_num, ⟨⟨r, A, c, BR68.out, BM68.out, Rr68.out, HG.out, HOK.out⟩⟩, HB68⟩
        case measure => simp [intOf]; omega
theorem rises_walk (w : World) (A0 : Option Addr) (c0 : Nat) (xs : List StepT) (hr : kStep.C w A0 xs.length xs) (hc : xs.length ≤ c0) {Q : Prop} (hq : Q ∧ ∀ x ∈ xs, True ∧ BalQ x.2.1 ∧ (x.2.2.length * Try.prog.bytesOf 3 ≤ 140737488351232 ∧ ∀ y ∈ x.2.2, (Lit.int .i64 y).wf = true)) : Calls Try.prog 4 #[.slice A0 xs.length c0] w fun e w' => e = .returned (.bool true) ∧ Below w.heap.size w w' := rises_any A0 c0 xs w hr hc (fun x hx => balq_ok (hq.2 x hx).2.1)
end Go.Proofs.Ytckbidmemdkdpaa.MAll

/- ChangeMakes: Read and Swap are in form, and their own memory. The walk. -/
import Derived.Test.YtefeklhdaafbbaaMark
set_option linter.unusedVariables false
set_option linter.unusedSimpArgs false
namespace Go.Proofs.Ytefeklhdaafbbaa.MAll
open Go.RowKit Go.Proofs.YtefeklhdaafbbaaW.PrintWords Go.Proofs.YtefeklhdaafbbaaW.PrintLast Go.Proofs.YtefeklhdaafbbaaW.PrintMore

def WipeRel (g n : Nat) (w : World) (v : Value) (wr : World) : Prop :=
  ∃ (k : Nat) (cs : Array Value), k ≤ n ∧ v = .int .i64 k ∧ Aside0 (wr.heap[g]? = some (.cells cs 3 (0, 0))) ∧ Aside0 (n ≤ cs.size) ∧ Aside0 (w.grownBy wr (some g))

theorem wipe_step {g n : Nat} {w wr : World} {cs : Array Value} (k : Nat) (h1 : wr.heap[g]? = some (.cells cs 3 (0, 0))) (h2 : n ≤ cs.size) (h3 : w.grownBy wr (some g)) (v : Value) :
    ∃ cs', (wr.setCell ⟨g, k, none⟩ v).heap[g]? = some (.cells cs' 3 (0, 0)) ∧ n ≤ cs'.size ∧ w.grownBy (wr.setCell ⟨g, k, none⟩ v) (some g) := by
  obtain ⟨cs', h4, h5⟩ := blk_setCell (j := k) h1 v
  exact ⟨cs', h4, by omega, h3.trans (grown_setCell wr g k v)⟩
theorem wipe_cell {g n k : Nat} {wr : World} {cs : Array Value} (hk : k < n) (h1 : wr.heap[g]? = some (.cells cs 3 (0, 0))) (h2 : n ≤ cs.size) : (∃ u, wr.cell? ⟨g, k, none⟩ = some u) ∧ wr.frozen? ⟨g, k, none⟩ = false := by
  refine ⟨⟨cs[k]'(by omega), ?_⟩, blk_frozen h1 k⟩
  rw [blk_cell h1 k, Array.getElem?_eq_getElem]

theorem grown_marked {W W' : World} {g g' : Nat} {l : List Int} (h : Marked W g l) (hg : W.grownBy W' (some g')) (hne : g ≠ g') : Marked W' g l := (hg.block g (blk_lt h) (fun e => hne (by injection e))).trans h
theorem grown_blk {W W' : World} {g g' : Nat} {o : Obj} (h : W.heap[g]? = some o) (hg : W.grownBy W' (some g')) (hne : g ≠ g') : W'.heap[g]? = some o := (hg.block g (blk_lt h) (fun e => hne (by injection e))).trans h
theorem fits_good {o n : List Int} (h1 : o.length ≤ 32) (h2 : n.length ≤ 32) : errW (if good 2 o n then none else some 2) = .nilIface := by
  have : good 2 o n = true := by unfold good; simp [h1, h2]
  rw [this]; rfl
theorem unfits_good {o n : List Int} (h : ¬ (o.length ≤ 32 ∧ n.length ≤ 32)) : errW (if good 2 o n then none else some 2) = .iface 40 (.int .i64 2) := by
  have : good 2 o n = false := by
    unfold good
    by_cases h1 : o.length ≤ 32 <;> by_cases h2 : n.length ≤ 32 <;> simp [h1, h2] <;> omega
  rw [this]; rfl

set_option maxHeartbeats 1000000 in
theorem makes_walk {q0 q1 : Prop} (w : World) (A0 : Option Addr) (c0 : Nat) (old : List Int) (hr0 : (Kd.int .i64).C w A0 old.length old) (hc0 : old.length ≤ c0) (_ : q0) (A1 : Option Addr) (c1 : Nat) (new : List Int) (hr1 : (Kd.int .i64).C w A1 new.length new) (hc1 : new.length ≤ c1) (_ : q1) :
    Calls Try.prog 5 #[.slice A0 old.length c0, .slice A1 new.length c1] w fun e w' => e = .returned (.bool true) ∧ Below w.heap.size w w' := by
  have HR0 := Aside0.mk hr0
  have HR1' := Aside0.mk hr1
  clear hr0 hr1
  by_cases h1 : old.length ≤ 1000
  · by_cases h2 : new.length ≤ 1000
    · have b1 : decide (1000 < old.length) = false := decide_eq_false (by omega)
      have b2 : decide (1000 < new.length) = false := decide_eq_false (by omega)
      go_enter Try.func5, Try.ntmps5
      go_wp2_with (go_at_call 8; refine (alive_any _).mono ?_; rintro e w1 ⟨rfl, hb1⟩; have HB := Aside0.mk hb1; have HO1 := Aside0.mk (Kd.C_below HR0.out hb1); have HN1 := Aside0.mk (Kd.C_below HR1'.out hb1); clear hb1)
      refine (marked_any A0 c0 old _ HO1.out hc0 (by omega)).mono ?_
      rintro e w2 ⟨ga, rfl, hma, hga, hb2⟩
      have HB2 := Aside0.mk (below_step HB.out hb2)
      have HN2 := Aside0.mk (Kd.C_below HN1.out hb2)
      have HMa := Aside0.mk hma
      have Hga := Aside0.mk hga
      have HLa := Aside0.mk (blk_lt hma)
      clear hb2 hma hga
      go_wp2_with fail
      refine (marked_any A1 c1 new _ HN2.out hc1 (by omega)).mono ?_
      rintro e w3 ⟨gb, rfl, hmb, hgb, hb3⟩
      have HB3 := Aside0.mk (below_step HB2.out hb3)
      have HMa3 := Aside0.mk (HMa.out.below hb3)
      have HMb := Aside0.mk hmb
      have Hgb := Aside0.mk hgb
      clear hb3 hmb hgb
      go_wp2_with fail
      refine (swap_any _ _ old _ _ new _ (HMa3.out.C (by omega)) (by omega) (HMb.out.C (by omega)) (by omega) (by omega) (by omega)).mono ?_
      rintro e w4 ⟨v1, v2, rfl, hR1, hR2, hb4⟩
      obtain ⟨B0, d0, rfl⟩ := Kd.R_slice hR1
      obtain ⟨B1, d1, rfl⟩ := Kd.R_slice hR2
      have HR1 := Aside0.mk (Kd.R_alloc (Kd.R_mono (Kd.R_bound hR1) (ok' := fun k => w3.heap.size ≤ k) (fun k hk => hk.2.1)) (.cells #[.int .i64 2, .slice B0 old.length d0, .slice B1 new.length d1] 24))
      have HR2 := Aside0.mk (Kd.R_alloc (Kd.R_mono (Kd.R_bound hR2) (ok' := fun k => w3.heap.size ≤ k) (fun k hk => hk.2.1)) (.cells #[.int .i64 2, .slice B0 old.length d0, .slice B1 new.length d1] 24))
      have HB4 := Aside0.mk (below_alloc (below_step HB3.out hb4) (.cells #[.int .i64 2, .slice B0 old.length d0, .slice B1 new.length d1] 24))
      have HMa4 := Aside0.mk ((HMa3.out.below hb4).below (below_alloc (Below.refl _ _) (.cells #[.int .i64 2, .slice B0 old.length d0, .slice B1 new.length d1] 24)))
      have HMb4 := Aside0.mk ((HMb.out.below hb4).below (below_alloc (Below.refl _ _) (.cells #[.int .i64 2, .slice B0 old.length d0, .slice B1 new.length d1] 24)))
      have HBS := Aside0.mk (blk_new w4 (.cells #[.int .i64 2, .slice B0 old.length d0, .slice B1 new.length d1] 24))
      have HLb := Aside0.mk (blk_lt HMb.out)
      have H34 := Aside0.mk hb4.size
      clear hR1 hR2 hb4
      go_wp2_with fail
      obtain ⟨gs, hgs⟩ : ∃ gs, gs = w4.heap.size := ⟨_, rfl⟩
      obtain ⟨w4a, hw4a⟩ : ∃ w4a, w4a = w4.alloc (.cells #[.int .i64 2, .slice B0 old.length d0, .slice B1 new.length d1] 24) := ⟨_, rfl⟩
      rw [← hw4a] at HR1 HR2 HB4 HMa4 HMb4 HBS ⊢
      rw [← hgs] at HBS ⊢
      have HGS : Aside0 (w3.heap.size ≤ gs) := ⟨by rw [hgs]; exact H34.out⟩
      clear hw4a hgs
      go_loopw [30] (fun v wr => WipeRel ga old.length w4a v wr) (fun i _ => old.length - (intOf i).toNat)
      case atStart => exact ⟨0, _, Nat.zero_le _, rfl, HMa4, ⟨by simp [nums]⟩, ⟨World.grownBy.refl _ _⟩⟩
      case round =>
        obtain ⟨k, cs, hk, rfl, HC, HS, HG⟩ := hrel
        by_cases hlt : k < old.length
        · obtain ⟨⟨u, hu⟩, hf⟩ := wipe_cell hlt HC.out HS.out
          go_wp2
          go_roundw
          case rel => obtain ⟨cs', x1, x2, x3⟩ := wipe_step k HC.out HS.out HG.out (.int .i64 (-1)); exact ⟨k + 1, cs', by omega, by go_num, ⟨x1⟩, ⟨x2⟩, ⟨x3⟩⟩
          case measure => simp [intOf]; omega
        · obtain ⟨wa, hwa⟩ : ∃ wa : World, wa = wr := ⟨_, rfl⟩
          rw [← hwa] at HC HG ⊢
          clear hwa
          have nba : gb ≠ ga := by have := HLa.out; have := Hgb.out; omega
          have nsa : gs ≠ ga := by have := HLa.out; have := Hgb.out; have := HLb.out; have := HGS.out; omega
          have n3a : ∀ k, w3.heap.size ≤ k → some k ≠ some ga := fun k h e => by injection e with e; have := HLa.out; have := Hgb.out; have := HLb.out; omega
          have HR1a := Aside0.mk (Kd.R_grown HR1.out HG.out n3a)
          have HR2a := Aside0.mk (Kd.R_grown HR2.out HG.out n3a)
          have HBSa := Aside0.mk (grown_blk HBS.out HG.out nsa)
          have HMba := Aside0.mk (grown_marked HMb4.out HG.out nba)
          have HBa := Aside0.mk (HB4.out.grown HG.out HB4.out.size (fun k e => by injection e with e; have := Hga.out; have := HB.out.size; omega))
          clear nba nsa n3a HR1 HR2 HBS HMb4 HB4 HG HC HS
          go_wp2_with fail
          go_loopw [39] (fun v wr => WipeRel gb new.length wa v wr) (fun i _ => new.length - (intOf i).toNat)
          case atStart => exact ⟨0, _, Nat.zero_le _, rfl, HMba, ⟨by simp [nums]⟩, ⟨World.grownBy.refl _ _⟩⟩
          case round =>
            obtain ⟨k, cs, hk, rfl, HC, HS, HG⟩ := hrel
            by_cases hlt : k < new.length
            · obtain ⟨⟨u, hu⟩, hf⟩ := wipe_cell hlt HC.out HS.out
              go_wp2
              go_roundw
              case rel => obtain ⟨cs', x1, x2, x3⟩ := wipe_step k HC.out HS.out HG.out (.int .i64 (-1)); exact ⟨k + 1, cs', by omega, by go_num, ⟨x1⟩, ⟨x2⟩, ⟨x3⟩⟩
              case measure => simp [intOf]; omega
            · obtain ⟨w5, hw5⟩ : ∃ w5 : World, w5 = wr := ⟨_, rfl⟩
              rw [← hw5] at HC HG ⊢
              clear hw5
              have nsb : gs ≠ gb := by have := HLb.out; have := HGS.out; omega
              have n3b : ∀ k, w3.heap.size ≤ k → some k ≠ some gb := fun k h e => by injection e with e; have := HLb.out; omega
              have HX1 := Aside0.mk (Kd.R_reads' (Kd.R_grown HR1a.out HG.out n3b))
              have HX2 := Aside0.mk (Kd.R_reads' (Kd.R_grown HR2a.out HG.out n3b))
              have HBS5 := Aside0.mk (grown_blk HBSa.out HG.out nsb)
              have HB5 := Aside0.mk (HBa.out.grown HG.out HBa.out.size (fun k e => by injection e with e; have := Hgb.out; have := HB2.out.size; omega))
              have HO5 := Aside0.mk (Kd.C_below HR0.out HB5.out)
              have HN5 := Aside0.mk (Kd.C_below HR1'.out HB5.out)
              clear nsb n3b HR1a HR2a HBSa HMba HBa HG HC HS
              have hu28 := Try.underlying28
              have hu40 := Try.underlying40
              have cz0 : w5.cell? ⟨gs, 0, none⟩ = some (.int .i64 2) := (blk_cell HBS5.out 0).trans rfl
              have cz1 : w5.cell? ⟨gs, 1, none⟩ = some (.slice B0 old.length d0) := (blk_cell HBS5.out 1).trans rfl
              by_cases ho : old.length ≤ 32
              · by_cases hn : new.length ≤ 32
                · have x1 : decide ((old.length : Int) ≤ 32) = true := decide_eq_true (by omega)
                  have x2 : decide ((new.length : Int) ≤ 32) = true := decide_eq_true (by omega)
                  go_wp2_with fail
                  refine (ints_is true _ _ _ _ _ _ _ (decide_eq_true rfl) HX1.out.2.2 HX1.out.2.1 HO5.out hc0).mono ?_
                  rintro e w6 ⟨rfl, hb6⟩
                  have HB6 := Aside0.mk hb6
                  have cz2 : w6.cell? ⟨gs, 2, none⟩ = some (.slice B1 new.length d1) := pw_cell_below hb6 ((blk_cell HBS5.out 2).trans rfl)
                  have HBS6 := Aside0.mk ((hb6.block _ (blk_lt HBS5.out)).trans HBS5.out)
                  clear hb6
                  go_wp2_with fail
                  refine (ints_is true _ _ _ _ _ _ _ (decide_eq_true rfl) (Kd.C_below HX2.out.2.2 HB6.out) HX2.out.2.1 (Kd.C_below HN5.out HB6.out) hc1).mono ?_
                  rintro e w7 ⟨rfl, hb7⟩
                  have HB7 := Aside0.mk (below_step HB6.out hb7)
                  have cy0 : w7.cell? ⟨gs, 0, none⟩ = some (.int .i64 2) := pw_cell_below hb7 ((blk_cell HBS6.out 0).trans rfl)
                  have cy1 : w7.cell? ⟨gs, 1, none⟩ = some (.slice B0 old.length d0) := pw_cell_below hb7 ((blk_cell HBS6.out 1).trans rfl)
                  have cy2 : w7.cell? ⟨gs, 2, none⟩ = some (.slice B1 new.length d1) := pw_cell_below hb7 ((blk_cell HBS6.out 2).trans rfl)
                  clear hb7 HB6
                  go_wp2_with fail
                  refine (check_is .nilIface 2 _ _ _ _ _ _ _ (fits_good ho hn) (Kd.C_below HX1.out.2.2 HB7.out) HX1.out.2.1 (Kd.C_below HX2.out.2.2 HB7.out) HX2.out.2.1 (by omega) (by omega)).mono ?_
                  rintro e w8 ⟨rfl, hb8⟩
                  have HB8 := Aside0.mk (below_step HB7.out hb8)
                  clear hb8 cy0 cy1 cy2 cz2 HB7
                  go_wp2_with fail
                  refine (read_is _).mono ?_
                  rintro e w9 ⟨Ar, cr, Br, dr, rfl, hr1, hr2, hb9⟩
                  have HB9 := Aside0.mk (below_step HB8.out hb9)
                  clear hb9 HB8
                  go_wp2_with fail
                  refine (check_is .nilIface 1 Ar cr [] Br dr [] _ rfl hr1 (Nat.zero_le _) hr2 (Nat.zero_le _) (by simp) (by simp)).mono ?_
                  rintro e w10 ⟨rfl, hb10⟩
                  have HBx := Aside0.mk (below_step HB9.out hb10)
                  clear hb10 HB9 hr1 hr2
                  go_wp2_with fail
                  obtain ⟨bq, hq⟩ : ∃ bq, decide (old = new) = bq := ⟨_, rfl⟩
                  have HQ := Aside0.mk hq
                  clear hq
                  refine (same_is bq _ _ _ _ _ _ _ HQ.out (Kd.C_below HO5.out HBx.out) hc0 (Kd.C_below HN5.out HBx.out) hc1).mono ?_
                  rintro e w11 ⟨rfl, hb11⟩
                  have HB11 := Aside0.mk (below_step HBx.out hb11)
                  clear hb11 HBx
                  go_wp2_with fail
                  refine (refsame_is bq _ _ _ _ _ _ _ HQ.out (Kd.C_below HO5.out HB11.out) hc0 (Kd.C_below HN5.out HB11.out) hc1).mono ?_
                  rintro e w12 ⟨rfl, hb12⟩
                  have HB12 := Aside0.mk (below_step HB5.out (below_step HB11.out hb12))
                  clear hb12 HB11
                  cases bq
                  all_goals
                    go_wp2
                    go_ret
                    exact ⟨rfl, HB12.out⟩
                · have x1 : decide ((old.length : Int) ≤ 32) = true := decide_eq_true (by omega)
                  have x2 : decide ((new.length : Int) ≤ 32) = false := decide_eq_false (by omega)
                  go_wp2_with fail
                  refine (ints_is true _ _ _ _ _ _ _ (decide_eq_true rfl) HX1.out.2.2 HX1.out.2.1 HO5.out hc0).mono ?_
                  rintro e w6 ⟨rfl, hb6⟩
                  have HB6 := Aside0.mk hb6
                  have cz2 : w6.cell? ⟨gs, 2, none⟩ = some (.slice B1 new.length d1) := pw_cell_below hb6 ((blk_cell HBS5.out 2).trans rfl)
                  have HBS6 := Aside0.mk ((hb6.block _ (blk_lt HBS5.out)).trans HBS5.out)
                  clear hb6
                  go_wp2_with fail
                  refine (ints_is true _ _ _ _ _ _ _ (decide_eq_true rfl) (Kd.C_below HX2.out.2.2 HB6.out) HX2.out.2.1 (Kd.C_below HN5.out HB6.out) hc1).mono ?_
                  rintro e w7 ⟨rfl, hb7⟩
                  have HB7 := Aside0.mk (below_step HB6.out hb7)
                  have cy0 : w7.cell? ⟨gs, 0, none⟩ = some (.int .i64 2) := pw_cell_below hb7 ((blk_cell HBS6.out 0).trans rfl)
                  have cy1 : w7.cell? ⟨gs, 1, none⟩ = some (.slice B0 old.length d0) := pw_cell_below hb7 ((blk_cell HBS6.out 1).trans rfl)
                  have cy2 : w7.cell? ⟨gs, 2, none⟩ = some (.slice B1 new.length d1) := pw_cell_below hb7 ((blk_cell HBS6.out 2).trans rfl)
                  clear hb7 HB6
                  go_wp2_with fail
                  refine (check_is (.iface 40 (.int .i64 2)) 2 _ _ _ _ _ _ _ (unfits_good (fun h => hn h.2)) (Kd.C_below HX1.out.2.2 HB7.out) HX1.out.2.1 (Kd.C_below HX2.out.2.2 HB7.out) HX2.out.2.1 (by omega) (by omega)).mono ?_
                  rintro e w8 ⟨rfl, hb8⟩
                  have HB8 := Aside0.mk (below_step HB7.out hb8)
                  clear hb8 cy0 cy1 cy2 cz2 HB7
                  go_wp2_with fail
                  refine (read_is _).mono ?_
                  rintro e w9 ⟨Ar, cr, Br, dr, rfl, hr1, hr2, hb9⟩
                  have HB9 := Aside0.mk (below_step HB8.out hb9)
                  clear hb9 HB8
                  go_wp2_with fail
                  refine (check_is .nilIface 1 Ar cr [] Br dr [] _ rfl hr1 (Nat.zero_le _) hr2 (Nat.zero_le _) (by simp) (by simp)).mono ?_
                  rintro e w10 ⟨rfl, hb10⟩
                  have HBx := Aside0.mk (below_step HB9.out hb10)
                  clear hb10 HB9 hr1 hr2
                  go_wp2_with fail
                  obtain ⟨bq, hq⟩ : ∃ bq, decide (old = new) = bq := ⟨_, rfl⟩
                  have HQ := Aside0.mk hq
                  clear hq
                  refine (same_is bq _ _ _ _ _ _ _ HQ.out (Kd.C_below HO5.out HBx.out) hc0 (Kd.C_below HN5.out HBx.out) hc1).mono ?_
                  rintro e w11 ⟨rfl, hb11⟩
                  have HB11 := Aside0.mk (below_step HBx.out hb11)
                  clear hb11 HBx
                  go_wp2_with fail
                  refine (refsame_is bq _ _ _ _ _ _ _ HQ.out (Kd.C_below HO5.out HB11.out) hc0 (Kd.C_below HN5.out HB11.out) hc1).mono ?_
                  rintro e w12 ⟨rfl, hb12⟩
                  have HB12 := Aside0.mk (below_step HB5.out (below_step HB11.out hb12))
                  clear hb12 HB11
                  cases bq
                  all_goals
                    go_wp2
                    go_ret
                    exact ⟨rfl, HB12.out⟩
              · have x1 : decide ((old.length : Int) ≤ 32) = false := decide_eq_false (by omega)
                go_wp2_with fail
                refine (ints_is true _ _ _ _ _ _ _ (decide_eq_true rfl) HX1.out.2.2 HX1.out.2.1 HO5.out hc0).mono ?_
                rintro e w6 ⟨rfl, hb6⟩
                have HB6 := Aside0.mk hb6
                have cz2 : w6.cell? ⟨gs, 2, none⟩ = some (.slice B1 new.length d1) := pw_cell_below hb6 ((blk_cell HBS5.out 2).trans rfl)
                have HBS6 := Aside0.mk ((hb6.block _ (blk_lt HBS5.out)).trans HBS5.out)
                clear hb6
                go_wp2_with fail
                refine (ints_is true _ _ _ _ _ _ _ (decide_eq_true rfl) (Kd.C_below HX2.out.2.2 HB6.out) HX2.out.2.1 (Kd.C_below HN5.out HB6.out) hc1).mono ?_
                rintro e w7 ⟨rfl, hb7⟩
                have HB7 := Aside0.mk (below_step HB6.out hb7)
                have cy0 : w7.cell? ⟨gs, 0, none⟩ = some (.int .i64 2) := pw_cell_below hb7 ((blk_cell HBS6.out 0).trans rfl)
                have cy1 : w7.cell? ⟨gs, 1, none⟩ = some (.slice B0 old.length d0) := pw_cell_below hb7 ((blk_cell HBS6.out 1).trans rfl)
                have cy2 : w7.cell? ⟨gs, 2, none⟩ = some (.slice B1 new.length d1) := pw_cell_below hb7 ((blk_cell HBS6.out 2).trans rfl)
                clear hb7 HB6
                go_wp2_with fail
                refine (check_is (.iface 40 (.int .i64 2)) 2 _ _ _ _ _ _ _ (unfits_good (fun h => ho h.1)) (Kd.C_below HX1.out.2.2 HB7.out) HX1.out.2.1 (Kd.C_below HX2.out.2.2 HB7.out) HX2.out.2.1 (by omega) (by omega)).mono ?_
                rintro e w8 ⟨rfl, hb8⟩
                have HB8 := Aside0.mk (below_step HB7.out hb8)
                clear hb8 cy0 cy1 cy2 cz2 HB7
                go_wp2_with fail
                refine (read_is _).mono ?_
                rintro e w9 ⟨Ar, cr, Br, dr, rfl, hr1, hr2, hb9⟩
                have HB9 := Aside0.mk (below_step HB8.out hb9)
                clear hb9 HB8
                go_wp2_with fail
                refine (check_is .nilIface 1 Ar cr [] Br dr [] _ rfl hr1 (Nat.zero_le _) hr2 (Nat.zero_le _) (by simp) (by simp)).mono ?_
                rintro e w10 ⟨rfl, hb10⟩
                have HBx := Aside0.mk (below_step HB9.out hb10)
                clear hb10 HB9 hr1 hr2
                go_wp2_with fail
                obtain ⟨bq, hq⟩ : ∃ bq, decide (old = new) = bq := ⟨_, rfl⟩
                have HQ := Aside0.mk hq
                clear hq
                refine (same_is bq _ _ _ _ _ _ _ HQ.out (Kd.C_below HO5.out HBx.out) hc0 (Kd.C_below HN5.out HBx.out) hc1).mono ?_
                rintro e w11 ⟨rfl, hb11⟩
                have HB11 := Aside0.mk (below_step HBx.out hb11)
                clear hb11 HBx
                go_wp2_with fail
                refine (refsame_is bq _ _ _ _ _ _ _ HQ.out (Kd.C_below HO5.out HB11.out) hc0 (Kd.C_below HN5.out HB11.out) hc1).mono ?_
                rintro e w12 ⟨rfl, hb12⟩
                have HB12 := Aside0.mk (below_step HB5.out (below_step HB11.out hb12))
                clear hb12 HB11
                cases bq
                all_goals
                  go_wp2
                  go_ret
                  exact ⟨rfl, HB12.out⟩
    · have b1 : decide (1000 < old.length) = false := decide_eq_false (by omega)
      have b2 : decide (1000 < new.length) = true := decide_eq_true (by omega)
      go_enter Try.func5, Try.ntmps5
      go_wp2_with (go_at_call 8; refine (alive_any _).mono ?_; rintro e w1 ⟨rfl, hb1⟩; have HB := Aside0.mk hb1; clear hb1)
      go_ret
      exact ⟨rfl, HB.out⟩
  · have b1 : decide (1000 < old.length) = true := decide_eq_true (by omega)
    go_enter Try.func5, Try.ntmps5
    go_wp2_with (go_at_call 8; refine (alive_any _).mono ?_; rintro e w1 ⟨rfl, hb1⟩; have HB := Aside0.mk hb1; clear hb1)
    go_ret
    exact ⟨rfl, HB.out⟩
end Go.Proofs.Ytefeklhdaafbbaa.MAll

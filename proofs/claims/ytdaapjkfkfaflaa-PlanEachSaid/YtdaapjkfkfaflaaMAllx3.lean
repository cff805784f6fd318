-- written by a program of this session's (wip/myprint.py) over the kit's print.py
import Derived.Test.YtdaapjkfkfaflaaMAllx0
namespace Go.Proofs.Ytdaapjkfkfaflaa.MAll
open Go.RowKit Go.Proofs.YtdaapjkfkfaflaaW.PrintWords Go.Proofs.YtdaapjkfkfaflaaW.PrintLast Go.Proofs.YtdaapjkfkfaflaaW.PrintMore
attribute [local go_sem] max2_int min2_int max_two min_two max_three min_three max_four min_four   -- for this text's walks alone
set_option linter.unusedVariables false
set_option linter.unusedSimpArgs false

/-! ### estuaryref19_Good: function 10 -/
mutual
def estuaryref19_Good.j0 : Nat → Bool → Int → Int → List Int → Int → Int → Int → Int → Int → Option (Bool)
  | 0, _, _, _, _, _, _, _, _, _ => none
  | k + 1, x36, x124000, x124001, x124002, x124003, x124004, x124005, x124006, x124007 => if x36 = true then (some false) else (if (x124002.length : Int) < 1 then (estuaryref19_Good.j1 k true x124000 x124001 x124002 x124003 x124004 x124005 x124006 x124007) else (estuaryref19_Good.j1 k (decide ((x124002.length : Int) > 3)) x124000 x124001 x124002 x124003 x124004 x124005 x124006 x124007))
def estuaryref19_Good.j1 : Nat → Bool → Int → Int → List Int → Int → Int → Int → Int → Int → Option (Bool)
  | 0, _, _, _, _, _, _, _, _, _ => none
  | k + 1, x46, x124000, x124001, x124002, x124003, x124004, x124005, x124006, x124007 => if x46 = true then (some false) else (estuaryref19_Good.l0 k 0 x124000 x124001 x124002 x124003 x124004 x124005 x124006 x124007)
def estuaryref19_Good.l0 : Nat → Int → Int → Int → List Int → Int → Int → Int → Int → Int → Option (Bool)
  | 0, _, _, _, _, _, _, _, _, _ => none
  | k + 1, x3, x124000, x124001, x124002, x124003, x124004, x124005, x124006, x124007 => if x3 < (x124002.length : Int) then (if 0 ≤ x3 then (if (rd x124002 x3) < 1 then (some false) else (estuaryref19_Good.l0 k (wrap64 (x3 + 1)) x124000 x124001 x124002 x124003 x124004 x124005 x124006 x124007)) else (none)) else (if x124004 ≥ 1 then (if x124004 ≤ 64 then (if x124005 ≥ 1 then (if x124005 ≤ 1024 then (if x124006 ≥ 1 then (if x124006 ≤ 16 then (if x124007 ≥ 1 then (some (decide (x124007 ≤ 20))) else (some false)) else (some false)) else (some false)) else (some false)) else (some false)) else (some false)) else (some false))
end
def estuaryref19_Good.f (k : Nat) (a0_0 : Int) (a0_1 : Int) (l0_2 : List Int) (a0_3 : Int) (a0_4 : Int) (a0_5 : Int) (a0_6 : Int) (a0_7 : Int) : Option (Bool) := if a0_0 < 1 then (estuaryref19_Good.j0 k true a0_0 a0_1 l0_2 a0_3 a0_4 a0_5 a0_6 a0_7) else (if a0_0 > 4 then (estuaryref19_Good.j0 k true a0_0 a0_1 l0_2 a0_3 a0_4 a0_5 a0_6 a0_7) else (if a0_1 = 1 then (if a0_3 < 1 then (estuaryref19_Good.j0 k true a0_0 a0_1 l0_2 a0_3 a0_4 a0_5 a0_6 a0_7) else (estuaryref19_Good.j0 k (decide (a0_3 > 4)) a0_0 a0_1 l0_2 a0_3 a0_4 a0_5 a0_6 a0_7)) else (if a0_1 = 3 then (if a0_3 < 1 then (estuaryref19_Good.j0 k true a0_0 a0_1 l0_2 a0_3 a0_4 a0_5 a0_6 a0_7) else (estuaryref19_Good.j0 k (decide (a0_3 > 4)) a0_0 a0_1 l0_2 a0_3 a0_4 a0_5 a0_6 a0_7)) else (if a0_1 = 5 then (if a0_3 < 1 then (estuaryref19_Good.j0 k true a0_0 a0_1 l0_2 a0_3 a0_4 a0_5 a0_6 a0_7) else (estuaryref19_Good.j0 k (decide (a0_3 > 4)) a0_0 a0_1 l0_2 a0_3 a0_4 a0_5 a0_6 a0_7)) else (estuaryref19_Good.j0 k true a0_0 a0_1 l0_2 a0_3 a0_4 a0_5 a0_6 a0_7)))))
theorem estuaryref19_Good.mono_l : ∀ k, (∀ y0 y1 y2 y3 y4 y5 y6 y7 y8, LeO (estuaryref19_Good.j0 k y0 y1 y2 y3 y4 y5 y6 y7 y8) (estuaryref19_Good.j0 (k + 1) y0 y1 y2 y3 y4 y5 y6 y7 y8)) ∧ (∀ y0 y1 y2 y3 y4 y5 y6 y7 y8, LeO (estuaryref19_Good.j1 k y0 y1 y2 y3 y4 y5 y6 y7 y8) (estuaryref19_Good.j1 (k + 1) y0 y1 y2 y3 y4 y5 y6 y7 y8)) ∧ (∀ y0 y1 y2 y3 y4 y5 y6 y7 y8, LeO (estuaryref19_Good.l0 k y0 y1 y2 y3 y4 y5 y6 y7 y8) (estuaryref19_Good.l0 (k + 1) y0 y1 y2 y3 y4 y5 y6 y7 y8))
  | 0 => ⟨fun _ _ _ _ _ _ _ _ _ r h => by simp [estuaryref19_Good.j0] at h, fun _ _ _ _ _ _ _ _ _ r h => by simp [estuaryref19_Good.j1] at h, fun _ _ _ _ _ _ _ _ _ r h => by simp [estuaryref19_Good.l0] at h⟩
  | k + 1 => by
    obtain ⟨ih0, ih1, ih2⟩ := estuaryref19_Good.mono_l k
    refine ⟨?_, ?_, ?_⟩
    · intro y0 y1 y2 y3 y4 y5 y6 y7 y8
      unfold estuaryref19_Good.j0
      repeat' first
      | (with_reducible exact ih0 _ _ _ _ _ _ _ _ _)
      | (with_reducible exact ih1 _ _ _ _ _ _ _ _ _)
      | (with_reducible exact ih2 _ _ _ _ _ _ _ _ _)
      | (with_reducible exact LeO.refl _)
      | (with_reducible exact LeO.none _)
      | (with_reducible refine LeO.ite ?_ ?_)
      | (with_reducible refine LeO.bind ?_ (fun _ => ?_))
      | exact ih0 _ _ _ _ _ _ _ _ _
      | exact ih1 _ _ _ _ _ _ _ _ _
      | exact ih2 _ _ _ _ _ _ _ _ _
      | exact LeO.none _
      | refine LeO.ite ?_ ?_
      | refine LeO.bind ?_ (fun _ => ?_)
    · intro y0 y1 y2 y3 y4 y5 y6 y7 y8
      unfold estuaryref19_Good.j1
      repeat' first
      | (with_reducible exact ih0 _ _ _ _ _ _ _ _ _)
      | (with_reducible exact ih1 _ _ _ _ _ _ _ _ _)
      | (with_reducible exact ih2 _ _ _ _ _ _ _ _ _)
      | (with_reducible exact LeO.refl _)
      | (with_reducible exact LeO.none _)
      | (with_reducible refine LeO.ite ?_ ?_)
      | (with_reducible refine LeO.bind ?_ (fun _ => ?_))
      | exact ih0 _ _ _ _ _ _ _ _ _
      | exact ih1 _ _ _ _ _ _ _ _ _
      | exact ih2 _ _ _ _ _ _ _ _ _
      | exact LeO.none _
      | refine LeO.ite ?_ ?_
      | refine LeO.bind ?_ (fun _ => ?_)
    · intro y0 y1 y2 y3 y4 y5 y6 y7 y8
      unfold estuaryref19_Good.l0
      repeat' first
      | (with_reducible exact ih0 _ _ _ _ _ _ _ _ _)
      | (with_reducible exact ih1 _ _ _ _ _ _ _ _ _)
      | (with_reducible exact ih2 _ _ _ _ _ _ _ _ _)
      | (with_reducible exact LeO.refl _)
      | (with_reducible exact LeO.none _)
      | (with_reducible refine LeO.ite ?_ ?_)
      | (with_reducible refine LeO.bind ?_ (fun _ => ?_))
      | exact ih0 _ _ _ _ _ _ _ _ _
      | exact ih1 _ _ _ _ _ _ _ _ _
      | exact ih2 _ _ _ _ _ _ _ _ _
      | exact LeO.none _
      | refine LeO.ite ?_ ?_
      | refine LeO.bind ?_ (fun _ => ?_)
theorem estuaryref19_Good.mono : ∀ a0 a1 a2 a3 a4 a5 a6 a7 k, LeO (estuaryref19_Good.f k a0 a1 a2 a3 a4 a5 a6 a7) (estuaryref19_Good.f (k + 1) a0 a1 a2 a3 a4 a5 a6 a7) := by
  intro a0 a1 a2 a3 a4 a5 a6 a7 k
  obtain ⟨ih0, ih1, ih2⟩ := estuaryref19_Good.mono_l k
  unfold estuaryref19_Good.f
  repeat' first
      | (with_reducible exact ih0 _ _ _ _ _ _ _ _ _)
      | (with_reducible exact ih1 _ _ _ _ _ _ _ _ _)
      | (with_reducible exact ih2 _ _ _ _ _ _ _ _ _)
      | (with_reducible exact LeO.refl _)
      | (with_reducible exact LeO.none _)
      | (with_reducible refine LeO.ite ?_ ?_)
      | (with_reducible refine LeO.bind ?_ (fun _ => ?_))
      | exact ih0 _ _ _ _ _ _ _ _ _
      | exact ih1 _ _ _ _ _ _ _ _ _
      | exact ih2 _ _ _ _ _ _ _ _ _
      | exact LeO.none _
      | refine LeO.ite ?_ ?_
      | refine LeO.bind ?_ (fun _ => ?_)
set_option maxHeartbeats 8000000 in
set_option maxRecDepth 100000 in
theorem estuaryref19_Good.calls (k : Nat) (a0_0 : Int) (a0_1 : Int) (A0_2 : Option Addr) (c0_2 : Nat) (l0_2 : List Int) (a0_3 : Int) (a0_4 : Int) (a0_5 : Int) (a0_6 : Int) (a0_7 : Int) (r : Bool) (w : World) (hr0_2 : Kd.C (Kd.int .i64) w A0_2 l0_2.length l0_2) (hc0_2 : l0_2.length ≤ c0_2) (h : estuaryref19_Good.f k a0_0 a0_1 l0_2 a0_3 a0_4 a0_5 a0_6 a0_7 = some r) :
    Calls Try.prog 10 #[.agg #[.int .i64 a0_0, .int .i64 a0_1, .slice A0_2 l0_2.length c0_2, .int .i64 a0_3, .int .i64 a0_4, .int .i64 a0_5, .int .i64 a0_6, .int .i64 a0_7]] w fun e w' => e = .returned (.bool r) ∧ Below w.heap.size w w' := by
  have hu24 := Try.underlying24
  have HR0_2 := Aside0.mk hr0_2
  have HC0_2 := Aside0.mk hc0_2
  clear hr0_2 hc0_2
  have HB := Aside0.mk (Below.refl w.heap.size w)
  have H : (if a0_0 < 1 then (estuaryref19_Good.j0 k true a0_0 a0_1 l0_2 a0_3 a0_4 a0_5 a0_6 a0_7) else (if a0_0 > 4 then (estuaryref19_Good.j0 k true a0_0 a0_1 l0_2 a0_3 a0_4 a0_5 a0_6 a0_7) else (if a0_1 = 1 then (if a0_3 < 1 then (estuaryref19_Good.j0 k true a0_0 a0_1 l0_2 a0_3 a0_4 a0_5 a0_6 a0_7) else (estuaryref19_Good.j0 k (decide (a0_3 > 4)) a0_0 a0_1 l0_2 a0_3 a0_4 a0_5 a0_6 a0_7)) else (if a0_1 = 3 then (if a0_3 < 1 then (estuaryref19_Good.j0 k true a0_0 a0_1 l0_2 a0_3 a0_4 a0_5 a0_6 a0_7) else (estuaryref19_Good.j0 k (decide (a0_3 > 4)) a0_0 a0_1 l0_2 a0_3 a0_4 a0_5 a0_6 a0_7)) else (if a0_1 = 5 then (if a0_3 < 1 then (estuaryref19_Good.j0 k true a0_0 a0_1 l0_2 a0_3 a0_4 a0_5 a0_6 a0_7) else (estuaryref19_Good.j0 k (decide (a0_3 > 4)) a0_0 a0_1 l0_2 a0_3 a0_4 a0_5 a0_6 a0_7)) else (estuaryref19_Good.j0 k true a0_0 a0_1 l0_2 a0_3 a0_4 a0_5 a0_6 a0_7)))))) = some r := h
  clear h
  have HC2 := Aside0.mk H
  clear H
  go_enter Try.func10, Try.ntmps10
  go_upto_region 1 with (first | ((with_reducible refine gate_dst (N := 1) rfl ?_); (try (refine gate_guard (by rfl) ?_; dsimp only)); refine box_event ?hg (N := 1) ?hd (cs := #[.int .i64 a0_0, .int .i64 a0_1, .slice A0_2 l0_2.length c0_2, .int .i64 a0_3, .int .i64 a0_4, .int .i64 a0_5, .int .i64 a0_6, .int .i64 a0_7]) (t := 24) ?hr ?_; (case hd => rfl); (case hg => rfl); (case hr => first | (go_simp; done) | (go_simp; rfl)); intro gb123 hg w3 hbox hb; have n0_ := Aside0.mk (below_step (by repeat (first | (with_reducible first | exact HB.out | apply below_alloc | apply pw_below_drewN | apply below_drew1) | exact HB.out)) hb); have n1_ := Aside0.mk (hbox); have n2_ := Aside0.mk ((by rw [hg]; exact (below_size (by repeat (first | (with_reducible first | exact HB.out | apply below_alloc | apply pw_below_drewN | apply below_drew1) | exact HB.out))) : w.heap.size ≤ gb123)); have n3_ := Aside0.mk ((by rw [hg]; exact (below_size (by repeat (first | (with_reducible first | exact HB.out | apply below_alloc | apply pw_below_drewN | apply below_drew1) | exact HB.out))) : w.heap.size ≤ gb123)); clear HB; have HB := n0_; have BK123 := n1_; have GW123 := n2_; have GE123 := n3_; clear n0_ n1_ n2_ n3_; clear hb hbox hg))
  (try simp only [Act.put, List.setIfInBounds_toArray, List.set_cons_zero, List.set_cons_succ])
  go_cut [36] (fun v36 wc => ∃ (kq : Nat) (x36_1 : Bool), v36 = .bool x36_1 ∧ Aside0 (estuaryref19_Good.j0 kq x36_1 a0_0 a0_1 l0_2 a0_3 a0_4 a0_5 a0_6 a0_7 = some r) ∧ Aside0 (kq ≤ k) ∧ Aside0 (wc.heap[gb123]? = some (.cells #[.int .i64 a0_0, .int .i64 a0_1, (.slice A0_2 l0_2.length c0_2), .int .i64 a0_3, .int .i64 a0_4, .int .i64 a0_5, .int .i64 a0_6, .int .i64 a0_7] 24 (0, 0))) ∧ Aside0 (Below w.heap.size w wc))
  case first =>
    have H := HC2.out
    clear HC2
    by_cases c4 : a0_0 < 1
    · rw [if_pos c4] at H
      have c4b0 : decide (a0_0 < 1) = true := decide_eq_true c4
      clear c4
      (first | rw [c4b0] | (simp only [i64_w, i32_w]; rw [c4b0]) | skip)
      have H' := Aside0.mk H
      clear H
      have hcz5_0 : w3.cell? ⟨gb123, 0, none⟩ = some (.int .i64 a0_0) := (blk_cell BK123.out 0).trans rfl
      have hcz5_1 : w3.cell? ⟨gb123, 1, none⟩ = some (.int .i64 a0_1) := (blk_cell BK123.out 1).trans rfl
      have hcz5_2 : w3.cell? ⟨gb123, 2, none⟩ = some (.slice A0_2 l0_2.length c0_2) := (blk_cell BK123.out 2).trans rfl
      have hcz5_3 : w3.cell? ⟨gb123, 3, none⟩ = some (.int .i64 a0_3) := (blk_cell BK123.out 3).trans rfl
      have hcz5_4 : w3.cell? ⟨gb123, 4, none⟩ = some (.int .i64 a0_4) := (blk_cell BK123.out 4).trans rfl
      have hcz5_5 : w3.cell? ⟨gb123, 5, none⟩ = some (.int .i64 a0_5) := (blk_cell BK123.out 5).trans rfl
      have hcz5_6 : w3.cell? ⟨gb123, 6, none⟩ = some (.int .i64 a0_6) := (blk_cell BK123.out 6).trans rfl
      have hcz5_7 : w3.cell? ⟨gb123, 7, none⟩ = some (.int .i64 a0_7) := (blk_cell BK123.out 7).trans rfl
      have hfz5_0 := blk_frozen BK123.out 0
      have hfz5_1 := blk_frozen BK123.out 1
      have hfz5_2 := blk_frozen BK123.out 2
      have hfz5_3 := blk_frozen BK123.out 3
      have hfz5_4 := blk_frozen BK123.out 4
      have hfz5_5 := blk_frozen BK123.out 5
      have hfz5_6 := blk_frozen BK123.out 6
      have hfz5_7 := blk_frozen BK123.out 7
      go_wp2
      go_meet
      case rel => exact ⟨_, (true), (by first | rfl | (simp; done) | (simp [*]; done)), H', ⟨by first | omega | exact Nat.le_refl _⟩, ⟨by (with_reducible repeat (first | refine blk_drewN ?_ _ | refine blk_drew ?_ | refine blk_alloc ?_ _)); exact BK123.out⟩, ⟨by repeat (first | (with_reducible first | exact HB.out | apply below_alloc | apply pw_below_drewN | apply below_drew1 | refine below_set ?_ GE123.out) | exact HB.out)⟩⟩
    · rw [if_neg c4] at H
      have c4b0 : decide (a0_0 < 1) = false := decide_eq_false c4
      clear c4
      (first | rw [c4b0] | (simp only [i64_w, i32_w]; rw [c4b0]) | skip)
      by_cases c6 : a0_0 > 4
      · rw [if_pos c6] at H
        have c6b0 : decide (4 < a0_0) = true := decide_eq_true c6
        clear c6
        have H' := Aside0.mk H
        clear H
        have hcz7_0 : w3.cell? ⟨gb123, 0, none⟩ = some (.int .i64 a0_0) := (blk_cell BK123.out 0).trans rfl
        have hcz7_1 : w3.cell? ⟨gb123, 1, none⟩ = some (.int .i64 a0_1) := (blk_cell BK123.out 1).trans rfl
        have hcz7_2 : w3.cell? ⟨gb123, 2, none⟩ = some (.slice A0_2 l0_2.length c0_2) := (blk_cell BK123.out 2).trans rfl
        have hcz7_3 : w3.cell? ⟨gb123, 3, none⟩ = some (.int .i64 a0_3) := (blk_cell BK123.out 3).trans rfl
        have hcz7_4 : w3.cell? ⟨gb123, 4, none⟩ = some (.int .i64 a0_4) := (blk_cell BK123.out 4).trans rfl
        have hcz7_5 : w3.cell? ⟨gb123, 5, none⟩ = some (.int .i64 a0_5) := (blk_cell BK123.out 5).trans rfl
        have hcz7_6 : w3.cell? ⟨gb123, 6, none⟩ = some (.int .i64 a0_6) := (blk_cell BK123.out 6).trans rfl
        have hcz7_7 : w3.cell? ⟨gb123, 7, none⟩ = some (.int .i64 a0_7) := (blk_cell BK123.out 7).trans rfl
        have hfz7_0 := blk_frozen BK123.out 0
        have hfz7_1 := blk_frozen BK123.out 1
        have hfz7_2 := blk_frozen BK123.out 2
        have hfz7_3 := blk_frozen BK123.out 3
        have hfz7_4 := blk_frozen BK123.out 4
        have hfz7_5 := blk_frozen BK123.out 5
        have hfz7_6 := blk_frozen BK123.out 6
        have hfz7_7 := blk_frozen BK123.out 7
        go_wp2
        go_meet
        case rel => exact ⟨_, (true), (by first | rfl | (simp; done) | (simp [*]; done)), H', ⟨by first | omega | exact Nat.le_refl _⟩, ⟨by (with_reducible repeat (first | refine blk_drewN ?_ _ | refine blk_drew ?_ | refine blk_alloc ?_ _)); exact BK123.out⟩, ⟨by repeat (first | (with_reducible first | exact HB.out | apply below_alloc | apply pw_below_drewN | apply below_drew1 | refine below_set ?_ GE123.out) | exact HB.out)⟩⟩
      · rw [if_neg c6] at H
        have c6b0 : decide (4 < a0_0) = false := decide_eq_false c6
        clear c6
        by_cases c8 : a0_1 = 1
        · rw [if_pos c8] at H
          have c8b0 : (a0_1 == 1) = true := beq_iff_eq.mpr c8
          have c8b1 : (a0_1 != 1) = false := bne_eq_false_iff_eq.mpr c8
          clear c8
          by_cases c9 : a0_3 < 1
          · rw [if_pos c9] at H
            have c9b0 : decide (a0_3 < 1) = true := decide_eq_true c9
            clear c9
            have H' := Aside0.mk H
            clear H
            have hcz10_0 : w3.cell? ⟨gb123, 0, none⟩ = some (.int .i64 a0_0) := (blk_cell BK123.out 0).trans rfl
            have hcz10_1 : w3.cell? ⟨gb123, 1, none⟩ = some (.int .i64 a0_1) := (blk_cell BK123.out 1).trans rfl
            have hcz10_2 : w3.cell? ⟨gb123, 2, none⟩ = some (.slice A0_2 l0_2.length c0_2) := (blk_cell BK123.out 2).trans rfl
            have hcz10_3 : w3.cell? ⟨gb123, 3, none⟩ = some (.int .i64 a0_3) := (blk_cell BK123.out 3).trans rfl
            have hcz10_4 : w3.cell? ⟨gb123, 4, none⟩ = some (.int .i64 a0_4) := (blk_cell BK123.out 4).trans rfl
            have hcz10_5 : w3.cell? ⟨gb123, 5, none⟩ = some (.int .i64 a0_5) := (blk_cell BK123.out 5).trans rfl
            have hcz10_6 : w3.cell? ⟨gb123, 6, none⟩ = some (.int .i64 a0_6) := (blk_cell BK123.out 6).trans rfl
            have hcz10_7 : w3.cell? ⟨gb123, 7, none⟩ = some (.int .i64 a0_7) := (blk_cell BK123.out 7).trans rfl
            have hfz10_0 := blk_frozen BK123.out 0
            have hfz10_1 := blk_frozen BK123.out 1
            have hfz10_2 := blk_frozen BK123.out 2
            have hfz10_3 := blk_frozen BK123.out 3
            have hfz10_4 := blk_frozen BK123.out 4
            have hfz10_5 := blk_frozen BK123.out 5
            have hfz10_6 := blk_frozen BK123.out 6
            have hfz10_7 := blk_frozen BK123.out 7
            go_wp2
            go_meet
            case rel => exact ⟨_, (true), (by first | rfl | (simp; done) | (simp [*]; done)), H', ⟨by first | omega | exact Nat.le_refl _⟩, ⟨by (with_reducible repeat (first | refine blk_drewN ?_ _ | refine blk_drew ?_ | refine blk_alloc ?_ _)); exact BK123.out⟩, ⟨by repeat (first | (with_reducible first | exact HB.out | apply below_alloc | apply pw_below_drewN | apply below_drew1 | refine below_set ?_ GE123.out) | exact HB.out)⟩⟩
          · rw [if_neg c9] at H
            have c9b0 : decide (a0_3 < 1) = false := decide_eq_false c9
            clear c9
            have H' := Aside0.mk H
            clear H
            have hcz11_0 : w3.cell? ⟨gb123, 0, none⟩ = some (.int .i64 a0_0) := (blk_cell BK123.out 0).trans rfl
            have hcz11_1 : w3.cell? ⟨gb123, 1, none⟩ = some (.int .i64 a0_1) := (blk_cell BK123.out 1).trans rfl
            have hcz11_2 : w3.cell? ⟨gb123, 2, none⟩ = some (.slice A0_2 l0_2.length c0_2) := (blk_cell BK123.out 2).trans rfl
            have hcz11_3 : w3.cell? ⟨gb123, 3, none⟩ = some (.int .i64 a0_3) := (blk_cell BK123.out 3).trans rfl
            have hcz11_4 : w3.cell? ⟨gb123, 4, none⟩ = some (.int .i64 a0_4) := (blk_cell BK123.out 4).trans rfl
            have hcz11_5 : w3.cell? ⟨gb123, 5, none⟩ = some (.int .i64 a0_5) := (blk_cell BK123.out 5).trans rfl
            have hcz11_6 : w3.cell? ⟨gb123, 6, none⟩ = some (.int .i64 a0_6) := (blk_cell BK123.out 6).trans rfl
            have hcz11_7 : w3.cell? ⟨gb123, 7, none⟩ = some (.int .i64 a0_7) := (blk_cell BK123.out 7).trans rfl
            have hfz11_0 := blk_frozen BK123.out 0
            have hfz11_1 := blk_frozen BK123.out 1
            have hfz11_2 := blk_frozen BK123.out 2
            have hfz11_3 := blk_frozen BK123.out 3
            have hfz11_4 := blk_frozen BK123.out 4
            have hfz11_5 := blk_frozen BK123.out 5
            have hfz11_6 := blk_frozen BK123.out 6
            have hfz11_7 := blk_frozen BK123.out 7
            go_wp2
            go_meet
            case rel => exact ⟨_, (decide (a0_3 > 4)), (by first | rfl | (simp; done) | (simp [*]; done)), H', ⟨by first | omega | exact Nat.le_refl _⟩, ⟨by (with_reducible repeat (first | refine blk_drewN ?_ _ | refine blk_drew ?_ | refine blk_alloc ?_ _)); exact BK123.out⟩, ⟨by repeat (first | (with_reducible first | exact HB.out | apply below_alloc | apply pw_below_drewN | apply below_drew1 | refine below_set ?_ GE123.out) | exact HB.out)⟩⟩
        · rw [if_neg c8] at H
          have c8b0 : (a0_1 == 1) = false := beq_eq_false_iff_ne.mpr c8
          have c8b1 : (a0_1 != 1) = true := bne_iff_ne.mpr c8
          by_cases c12 : a0_1 = 3
          · rw [if_pos c12] at H
            have c12b0 : (a0_1 == 3) = true := beq_iff_eq.mpr c12
            have c12b1 : (a0_1 != 3) = false := bne_eq_false_iff_eq.mpr c12
            clear c12
            by_cases c13 : a0_3 < 1
            · rw [if_pos c13] at H
              have c13b0 : decide (a0_3 < 1) = true := decide_eq_true c13
              clear c13
              have H' := Aside0.mk H
              clear H
              have hcz14_0 : w3.cell? ⟨gb123, 0, none⟩ = some (.int .i64 a0_0) := (blk_cell BK123.out 0).trans rfl
              have hcz14_1 : w3.cell? ⟨gb123, 1, none⟩ = some (.int .i64 a0_1) := (blk_cell BK123.out 1).trans rfl
              have hcz14_2 : w3.cell? ⟨gb123, 2, none⟩ = some (.slice A0_2 l0_2.length c0_2) := (blk_cell BK123.out 2).trans rfl
              have hcz14_3 : w3.cell? ⟨gb123, 3, none⟩ = some (.int .i64 a0_3) := (blk_cell BK123.out 3).trans rfl
              have hcz14_4 : w3.cell? ⟨gb123, 4, none⟩ = some (.int .i64 a0_4) := (blk_cell BK123.out 4).trans rfl
              have hcz14_5 : w3.cell? ⟨gb123, 5, none⟩ = some (.int .i64 a0_5) := (blk_cell BK123.out 5).trans rfl
              have hcz14_6 : w3.cell? ⟨gb123, 6, none⟩ = some (.int .i64 a0_6) := (blk_cell BK123.out 6).trans rfl
              have hcz14_7 : w3.cell? ⟨gb123, 7, none⟩ = some (.int .i64 a0_7) := (blk_cell BK123.out 7).trans rfl
              have hfz14_0 := blk_frozen BK123.out 0
              have hfz14_1 := blk_frozen BK123.out 1
              have hfz14_2 := blk_frozen BK123.out 2
              have hfz14_3 := blk_frozen BK123.out 3
              have hfz14_4 := blk_frozen BK123.out 4
              have hfz14_5 := blk_frozen BK123.out 5
              have hfz14_6 := blk_frozen BK123.out 6
              have hfz14_7 := blk_frozen BK123.out 7
              go_wp2
              go_meet
              case rel => exact ⟨_, (true), (by first | rfl | (simp; done) | (simp [*]; done)), H', ⟨by first | omega | exact Nat.le_refl _⟩, ⟨by (with_reducible repeat (first | refine blk_drewN ?_ _ | refine blk_drew ?_ | refine blk_alloc ?_ _)); exact BK123.out⟩, ⟨by repeat (first | (with_reducible first | exact HB.out | apply below_alloc | apply pw_below_drewN | apply below_drew1 | refine below_set ?_ GE123.out) | exact HB.out)⟩⟩
            · rw [if_neg c13] at H
              have c13b0 : decide (a0_3 < 1) = false := decide_eq_false c13
              clear c13
              have H' := Aside0.mk H
              clear H
              have hcz15_0 : w3.cell? ⟨gb123, 0, none⟩ = some (.int .i64 a0_0) := (blk_cell BK123.out 0).trans rfl
              have hcz15_1 : w3.cell? ⟨gb123, 1, none⟩ = some (.int .i64 a0_1) := (blk_cell BK123.out 1).trans rfl
              have hcz15_2 : w3.cell? ⟨gb123, 2, none⟩ = some (.slice A0_2 l0_2.length c0_2) := (blk_cell BK123.out 2).trans rfl
              have hcz15_3 : w3.cell? ⟨gb123, 3, none⟩ = some (.int .i64 a0_3) := (blk_cell BK123.out 3).trans rfl
              have hcz15_4 : w3.cell? ⟨gb123, 4, none⟩ = some (.int .i64 a0_4) := (blk_cell BK123.out 4).trans rfl
              have hcz15_5 : w3.cell? ⟨gb123, 5, none⟩ = some (.int .i64 a0_5) := (blk_cell BK123.out 5).trans rfl
              have hcz15_6 : w3.cell? ⟨gb123, 6, none⟩ = some (.int .i64 a0_6) := (blk_cell BK123.out 6).trans rfl
              have hcz15_7 : w3.cell? ⟨gb123, 7, none⟩ = some (.int .i64 a0_7) := (blk_cell BK123.out 7).trans rfl
              have hfz15_0 := blk_frozen BK123.out 0
              have hfz15_1 := blk_frozen BK123.out 1
              have hfz15_2 := blk_frozen BK123.out 2
              have hfz15_3 := blk_frozen BK123.out 3
              have hfz15_4 := blk_frozen BK123.out 4
              have hfz15_5 := blk_frozen BK123.out 5
              have hfz15_6 := blk_frozen BK123.out 6
              have hfz15_7 := blk_frozen BK123.out 7
              go_wp2
              go_meet
              case rel => exact ⟨_, (decide (a0_3 > 4)), (by first | rfl | (simp; done) | (simp [*]; done)), H', ⟨by first | omega | exact Nat.le_refl _⟩, ⟨by (with_reducible repeat (first | refine blk_drewN ?_ _ | refine blk_drew ?_ | refine blk_alloc ?_ _)); exact BK123.out⟩, ⟨by repeat (first | (with_reducible first | exact HB.out | apply below_alloc | apply pw_below_drewN | apply below_drew1 | refine below_set ?_ GE123.out) | exact HB.out)⟩⟩
          · rw [if_neg c12] at H
            have c12b0 : (a0_1 == 3) = false := beq_eq_false_iff_ne.mpr c12
            have c12b1 : (a0_1 != 3) = true := bne_iff_ne.mpr c12
            by_cases c16 : a0_1 = 5
            · rw [if_pos c16] at H
              have c16b0 : (a0_1 == 5) = true := beq_iff_eq.mpr c16
              have c16b1 : (a0_1 != 5) = false := bne_eq_false_iff_eq.mpr c16
              clear c16
              by_cases c17 : a0_3 < 1
              · rw [if_pos c17] at H
                have c17b0 : decide (a0_3 < 1) = true := decide_eq_true c17
                clear c17
                have H' := Aside0.mk H
                clear H
                have hcz18_0 : w3.cell? ⟨gb123, 0, none⟩ = some (.int .i64 a0_0) := (blk_cell BK123.out 0).trans rfl
                have hcz18_1 : w3.cell? ⟨gb123, 1, none⟩ = some (.int .i64 a0_1) := (blk_cell BK123.out 1).trans rfl
                have hcz18_2 : w3.cell? ⟨gb123, 2, none⟩ = some (.slice A0_2 l0_2.length c0_2) := (blk_cell BK123.out 2).trans rfl
                have hcz18_3 : w3.cell? ⟨gb123, 3, none⟩ = some (.int .i64 a0_3) := (blk_cell BK123.out 3).trans rfl
                have hcz18_4 : w3.cell? ⟨gb123, 4, none⟩ = some (.int .i64 a0_4) := (blk_cell BK123.out 4).trans rfl
                have hcz18_5 : w3.cell? ⟨gb123, 5, none⟩ = some (.int .i64 a0_5) := (blk_cell BK123.out 5).trans rfl
                have hcz18_6 : w3.cell? ⟨gb123, 6, none⟩ = some (.int .i64 a0_6) := (blk_cell BK123.out 6).trans rfl
                have hcz18_7 : w3.cell? ⟨gb123, 7, none⟩ = some (.int .i64 a0_7) := (blk_cell BK123.out 7).trans rfl
                have hfz18_0 := blk_frozen BK123.out 0
                have hfz18_1 := blk_frozen BK123.out 1
                have hfz18_2 := blk_frozen BK123.out 2
                have hfz18_3 := blk_frozen BK123.out 3
                have hfz18_4 := blk_frozen BK123.out 4
                have hfz18_5 := blk_frozen BK123.out 5
                have hfz18_6 := blk_frozen BK123.out 6
                have hfz18_7 := blk_frozen BK123.out 7
                go_wp2
                go_meet
                case rel => exact ⟨_, (true), (by first | rfl | (simp; done) | (simp [*]; done)), H', ⟨by first | omega | exact Nat.le_refl _⟩, ⟨by (with_reducible repeat (first | refine blk_drewN ?_ _ | refine blk_drew ?_ | refine blk_alloc ?_ _)); exact BK123.out⟩, ⟨by repeat (first | (with_reducible first | exact HB.out | apply below_alloc | apply pw_below_drewN | apply below_drew1 | refine below_set ?_ GE123.out) | exact HB.out)⟩⟩
              · rw [if_neg c17] at H
                have c17b0 : decide (a0_3 < 1) = false := decide_eq_false c17
                clear c17
                have H' := Aside0.mk H
                clear H
                have hcz19_0 : w3.cell? ⟨gb123, 0, none⟩ = some (.int .i64 a0_0) := (blk_cell BK123.out 0).trans rfl
                have hcz19_1 : w3.cell? ⟨gb123, 1, none⟩ = some (.int .i64 a0_1) := (blk_cell BK123.out 1).trans rfl
                have hcz19_2 : w3.cell? ⟨gb123, 2, none⟩ = some (.slice A0_2 l0_2.length c0_2) := (blk_cell BK123.out 2).trans rfl
                have hcz19_3 : w3.cell? ⟨gb123, 3, none⟩ = some (.int .i64 a0_3) := (blk_cell BK123.out 3).trans rfl
                have hcz19_4 : w3.cell? ⟨gb123, 4, none⟩ = some (.int .i64 a0_4) := (blk_cell BK123.out 4).trans rfl
                have hcz19_5 : w3.cell? ⟨gb123, 5, none⟩ = some (.int .i64 a0_5) := (blk_cell BK123.out 5).trans rfl
                have hcz19_6 : w3.cell? ⟨gb123, 6, none⟩ = some (.int .i64 a0_6) := (blk_cell BK123.out 6).trans rfl
                have hcz19_7 : w3.cell? ⟨gb123, 7, none⟩ = some (.int .i64 a0_7) := (blk_cell BK123.out 7).trans rfl
                have hfz19_0 := blk_frozen BK123.out 0
                have hfz19_1 := blk_frozen BK123.out 1
                have hfz19_2 := blk_frozen BK123.out 2
                have hfz19_3 := blk_frozen BK123.out 3
                have hfz19_4 := blk_frozen BK123.out 4
                have hfz19_5 := blk_frozen BK123.out 5
                have hfz19_6 := blk_frozen BK123.out 6
                have hfz19_7 := blk_frozen BK123.out 7
                go_wp2
                go_meet
                case rel => exact ⟨_, (decide (a0_3 > 4)), (by first | rfl | (simp; done) | (simp [*]; done)), H', ⟨by first | omega | exact Nat.le_refl _⟩, ⟨by (with_reducible repeat (first | refine blk_drewN ?_ _ | refine blk_drew ?_ | refine blk_alloc ?_ _)); exact BK123.out⟩, ⟨by repeat (first | (with_reducible first | exact HB.out | apply below_alloc | apply pw_below_drewN | apply below_drew1 | refine below_set ?_ GE123.out) | exact HB.out)⟩⟩
            · rw [if_neg c16] at H
              have c16b0 : (a0_1 == 5) = false := beq_eq_false_iff_ne.mpr c16
              have c16b1 : (a0_1 != 5) = true := bne_iff_ne.mpr c16
              have H' := Aside0.mk H
              clear H
              have hcz20_0 : w3.cell? ⟨gb123, 0, none⟩ = some (.int .i64 a0_0) := (blk_cell BK123.out 0).trans rfl
              have hcz20_1 : w3.cell? ⟨gb123, 1, none⟩ = some (.int .i64 a0_1) := (blk_cell BK123.out 1).trans rfl
              have hcz20_2 : w3.cell? ⟨gb123, 2, none⟩ = some (.slice A0_2 l0_2.length c0_2) := (blk_cell BK123.out 2).trans rfl
              have hcz20_3 : w3.cell? ⟨gb123, 3, none⟩ = some (.int .i64 a0_3) := (blk_cell BK123.out 3).trans rfl
              have hcz20_4 : w3.cell? ⟨gb123, 4, none⟩ = some (.int .i64 a0_4) := (blk_cell BK123.out 4).trans rfl
              have hcz20_5 : w3.cell? ⟨gb123, 5, none⟩ = some (.int .i64 a0_5) := (blk_cell BK123.out 5).trans rfl
              have hcz20_6 : w3.cell? ⟨gb123, 6, none⟩ = some (.int .i64 a0_6) := (blk_cell BK123.out 6).trans rfl
              have hcz20_7 : w3.cell? ⟨gb123, 7, none⟩ = some (.int .i64 a0_7) := (blk_cell BK123.out 7).trans rfl
              have hfz20_0 := blk_frozen BK123.out 0
              have hfz20_1 := blk_frozen BK123.out 1
              have hfz20_2 := blk_frozen BK123.out 2
              have hfz20_3 := blk_frozen BK123.out 3
              have hfz20_4 := blk_frozen BK123.out 4
              have hfz20_5 := blk_frozen BK123.out 5
              have hfz20_6 := blk_frozen BK123.out 6
              have hfz20_7 := blk_frozen BK123.out 7
              go_wp2
              go_meet
              case rel => exact ⟨_, (true), (by first | rfl | (simp; done) | (simp [*]; done)), H', ⟨by first | omega | exact Nat.le_refl _⟩, ⟨by (with_reducible repeat (first | refine blk_drewN ?_ _ | refine blk_drew ?_ | refine blk_alloc ?_ _)); exact BK123.out⟩, ⟨by repeat (first | (with_reducible first | exact HB.out | apply below_alloc | apply pw_below_drewN | apply below_drew1 | refine below_set ?_ GE123.out) | exact HB.out)⟩⟩
  case rest =>
    clear HC2
    try clear c1
    try clear p2
    try clear c4
    try clear c4b0
    try clear c6
    try clear c6b0
    try clear c8
    try clear c8b0
    try clear c8b1
    try clear c9
    try clear c9b0
    try clear c10
    try clear c12
    try clear c12b0
    try clear c12b1
    try clear c13
    try clear c13b0
    try clear c16
    try clear c16b0
    try clear c16b1
    try clear c17
    try clear c17b0
    try clear hcz10_0
    try clear hcz10_1
    try clear hcz10_2
    try clear hcz10_3
    try clear hcz10_4
    try clear hcz10_5
    try clear hcz10_6
    try clear hcz10_7
    try clear hcz11_0
    try clear hcz11_1
    try clear hcz11_2
    try clear hcz11_3
    try clear hcz11_4
    try clear hcz11_5
    try clear hcz11_6
    try clear hcz11_7
    try clear hcz14_0
    try clear hcz14_1
    try clear hcz14_2
    try clear hcz14_3
    try clear hcz14_4
    try clear hcz14_5
    try clear hcz14_6
    try clear hcz14_7
    try clear hcz15_0
    try clear hcz15_1
    try clear hcz15_2
    try clear hcz15_3
    try clear hcz15_4
    try clear hcz15_5
    try clear hcz15_6
    try clear hcz15_7
    try clear hcz18_0
    try clear hcz18_1
    try clear hcz18_2
    try clear hcz18_3
    try clear hcz18_4
    try clear hcz18_5
    try clear hcz18_6
    try clear hcz18_7
    try clear hcz19_0
    try clear hcz19_1
    try clear hcz19_2
    try clear hcz19_3
    try clear hcz19_4
    try clear hcz19_5
    try clear hcz19_6
    try clear hcz19_7
    try clear hcz20_0
    try clear hcz20_1
    try clear hcz20_2
    try clear hcz20_3
    try clear hcz20_4
    try clear hcz20_5
    try clear hcz20_6
    try clear hcz20_7
    try clear hcz5_0
    try clear hcz5_1
    try clear hcz5_2
    try clear hcz5_3
    try clear hcz5_4
    try clear hcz5_5
    try clear hcz5_6
    try clear hcz5_7
    try clear hcz7_0
    try clear hcz7_1
    try clear hcz7_2
    try clear hcz7_3
    try clear hcz7_4
    try clear hcz7_5
    try clear hcz7_6
    try clear hcz7_7
    try clear hfz10_0
    try clear hfz10_1
    try clear hfz10_2
    try clear hfz10_3
    try clear hfz10_4
    try clear hfz10_5
    try clear hfz10_6
    try clear hfz10_7
    try clear hfz11_0
    try clear hfz11_1
    try clear hfz11_2
    try clear hfz11_3
    try clear hfz11_4
    try clear hfz11_5
    try clear hfz11_6
    try clear hfz11_7
    try clear hfz14_0
    try clear hfz14_1
    try clear hfz14_2
    try clear hfz14_3
    try clear hfz14_4
    try clear hfz14_5
    try clear hfz14_6
    try clear hfz14_7
    try clear hfz15_0
    try clear hfz15_1
    try clear hfz15_2
    try clear hfz15_3
    try clear hfz15_4
    try clear hfz15_5
    try clear hfz15_6
    try clear hfz15_7
    try clear hfz18_0
    try clear hfz18_1
    try clear hfz18_2
    try clear hfz18_3
    try clear hfz18_4
    try clear hfz18_5
    try clear hfz18_6
    try clear hfz18_7
    try clear hfz19_0
    try clear hfz19_1
    try clear hfz19_2
    try clear hfz19_3
    try clear hfz19_4
    try clear hfz19_5
    try clear hfz19_6
    try clear hfz19_7
    try clear hfz20_0
    try clear hfz20_1
    try clear hfz20_2
    try clear hfz20_3
    try clear hfz20_4
    try clear hfz20_5
    try clear hfz20_6
    try clear hfz20_7
    try clear hfz5_0
    try clear hfz5_1
    try clear hfz5_2
    try clear hfz5_3
    try clear hfz5_4
    try clear hfz5_5
    try clear hfz5_6
    try clear hfz5_7
    try clear hfz7_0
    try clear hfz7_1
    try clear hfz7_2
    try clear hfz7_3
    try clear hfz7_4
    try clear hfz7_5
    try clear hfz7_6
    try clear hfz7_7
    obtain ⟨kq, x36_1, rfl, HA, HJ1, BK123, HB⟩ := hcut
    cases kq with
    | zero => exact absurd HA.out (by simp [estuaryref19_Good.j0])
    | succ kj1 =>
      have H := HA.out
      clear HA
      simp only [estuaryref19_Good.j0] at H
      by_cases c21 : x36_1 = true
      · subst c21
        have H1 : (some false) = some r := by rw [if_pos rfl] at H; exact H
        clear H
        have H := H1
        clear H1
        obtain rfl := Option.some.inj H
        go_wp2
        go_ret
        exact ⟨by first | rfl | (simp [errW_none, errW_some] <;> rfl) | (simp [*, errW_none, errW_some] <;> rfl), by repeat (first | (with_reducible first | exact HB.out | apply below_alloc | apply pw_below_drewN | apply below_drew1 | refine below_set ?_ GE123.out) | exact HB.out)⟩
      · replace c21 := Bool.eq_false_iff.mpr c21
        subst c21
        have H1 : (if (l0_2.length : Int) < 1 then (estuaryref19_Good.j1 kj1 true a0_0 a0_1 l0_2 a0_3 a0_4 a0_5 a0_6 a0_7) else (estuaryref19_Good.j1 kj1 (decide ((l0_2.length : Int) > 3)) a0_0 a0_1 l0_2 a0_3 a0_4 a0_5 a0_6 a0_7)) = some r := by rw [if_neg (show ¬ (false = true) by decide)] at H; exact H
        clear H
        have H := H1
        clear H1
        have HC22 := Aside0.mk H
        clear H
        go_upto_region 3 with (fail)
        go_cut [46] (fun v46 wc => ∃ (kq : Nat) (x46_21 : Bool), v46 = .bool x46_21 ∧ Aside0 (estuaryref19_Good.j1 kq x46_21 a0_0 a0_1 l0_2 a0_3 a0_4 a0_5 a0_6 a0_7 = some r) ∧ Aside0 (kq ≤ kj1) ∧ Aside0 (wc.heap[gb123]? = some (.cells #[.int .i64 a0_0, .int .i64 a0_1, (.slice A0_2 l0_2.length c0_2), .int .i64 a0_3, .int .i64 a0_4, .int .i64 a0_5, .int .i64 a0_6, .int .i64 a0_7] 24 (0, 0))) ∧ Aside0 (Below w.heap.size w wc))
        case first =>
          have H := HC22.out
          clear HC22
          by_cases c23 : (l0_2.length : Int) < 1
          · rw [if_pos c23] at H
            have c23b0 : decide ((l0_2.length : Int) < 1) = true := decide_eq_true c23
            have c23b1 : decide (l0_2.length < 1) = true := decide_eq_true (by omega)
            clear c23
            (first | rw [c23b0] | (simp only [i64_w, i32_w]; rw [c23b0]) | skip)
            have H' := Aside0.mk H
            clear H
            have hcz24_0 : wc.cell? ⟨gb123, 0, none⟩ = some (.int .i64 a0_0) := (blk_cell BK123.out 0).trans rfl
            have hcz24_1 : wc.cell? ⟨gb123, 1, none⟩ = some (.int .i64 a0_1) := (blk_cell BK123.out 1).trans rfl
            have hcz24_2 : wc.cell? ⟨gb123, 2, none⟩ = some (.slice A0_2 l0_2.length c0_2) := (blk_cell BK123.out 2).trans rfl
            have hcz24_3 : wc.cell? ⟨gb123, 3, none⟩ = some (.int .i64 a0_3) := (blk_cell BK123.out 3).trans rfl
            have hcz24_4 : wc.cell? ⟨gb123, 4, none⟩ = some (.int .i64 a0_4) := (blk_cell BK123.out 4).trans rfl
            have hcz24_5 : wc.cell? ⟨gb123, 5, none⟩ = some (.int .i64 a0_5) := (blk_cell BK123.out 5).trans rfl
            have hcz24_6 : wc.cell? ⟨gb123, 6, none⟩ = some (.int .i64 a0_6) := (blk_cell BK123.out 6).trans rfl
            have hcz24_7 : wc.cell? ⟨gb123, 7, none⟩ = some (.int .i64 a0_7) := (blk_cell BK123.out 7).trans rfl
            have hfz24_0 := blk_frozen BK123.out 0
            have hfz24_1 := blk_frozen BK123.out 1
            have hfz24_2 := blk_frozen BK123.out 2
            have hfz24_3 := blk_frozen BK123.out 3
            have hfz24_4 := blk_frozen BK123.out 4
            have hfz24_5 := blk_frozen BK123.out 5
            have hfz24_6 := blk_frozen BK123.out 6
            have hfz24_7 := blk_frozen BK123.out 7
            go_wp2
            go_meet
            case rel => exact ⟨_, (true), (by first | rfl | (simp; done) | (simp [*]; done)), H', ⟨by have := HJ1.out; first | omega | exact Nat.le_refl _⟩, ⟨by (with_reducible repeat (first | refine blk_drewN ?_ _ | refine blk_drew ?_ | refine blk_alloc ?_ _)); exact BK123.out⟩, ⟨by repeat (first | (with_reducible first | exact HB.out | apply below_alloc | apply pw_below_drewN | apply below_drew1 | refine below_set ?_ GE123.out) | exact HB.out)⟩⟩
          · rw [if_neg c23] at H
            have c23b0 : decide ((l0_2.length : Int) < 1) = false := decide_eq_false c23
            have c23b1 : decide (l0_2.length < 1) = false := decide_eq_false (by omega)
            clear c23
            (first | rw [c23b0] | (simp only [i64_w, i32_w]; rw [c23b0]) | skip)
            have H' := Aside0.mk H
            clear H
            have hcz25_0 : wc.cell? ⟨gb123, 0, none⟩ = some (.int .i64 a0_0) := (blk_cell BK123.out 0).trans rfl
            have hcz25_1 : wc.cell? ⟨gb123, 1, none⟩ = some (.int .i64 a0_1) := (blk_cell BK123.out 1).trans rfl
            have hcz25_2 : wc.cell? ⟨gb123, 2, none⟩ = some (.slice A0_2 l0_2.length c0_2) := (blk_cell BK123.out 2).trans rfl
            have hcz25_3 : wc.cell? ⟨gb123, 3, none⟩ = some (.int .i64 a0_3) := (blk_cell BK123.out 3).trans rfl
            have hcz25_4 : wc.cell? ⟨gb123, 4, none⟩ = some (.int .i64 a0_4) := (blk_cell BK123.out 4).trans rfl
            have hcz25_5 : wc.cell? ⟨gb123, 5, none⟩ = some (.int .i64 a0_5) := (blk_cell BK123.out 5).trans rfl
            have hcz25_6 : wc.cell? ⟨gb123, 6, none⟩ = some (.int .i64 a0_6) := (blk_cell BK123.out 6).trans rfl
            have hcz25_7 : wc.cell? ⟨gb123, 7, none⟩ = some (.int .i64 a0_7) := (blk_cell BK123.out 7).trans rfl
            have hfz25_0 := blk_frozen BK123.out 0
            have hfz25_1 := blk_frozen BK123.out 1
            have hfz25_2 := blk_frozen BK123.out 2
            have hfz25_3 := blk_frozen BK123.out 3
            have hfz25_4 := blk_frozen BK123.out 4
            have hfz25_5 := blk_frozen BK123.out 5
            have hfz25_6 := blk_frozen BK123.out 6
            have hfz25_7 := blk_frozen BK123.out 7
            go_wp2
            go_meet
            case rel => exact ⟨_, (decide ((l0_2.length : Int) > 3)), (by first | rfl | (simp; done) | (simp [*]; done)), H', ⟨by have := HJ1.out; first | omega | exact Nat.le_refl _⟩, ⟨by (with_reducible repeat (first | refine blk_drewN ?_ _ | refine blk_drew ?_ | refine blk_alloc ?_ _)); exact BK123.out⟩, ⟨by repeat (first | (with_reducible first | exact HB.out | apply below_alloc | apply pw_below_drewN | apply below_drew1 | refine below_set ?_ GE123.out) | exact HB.out)⟩⟩
        case rest =>
          clear HC22
          try clear c1
          try clear c2
          try clear p2
          try clear c4
          try clear c4b0
          try clear c6
          try clear c6b0
          try clear c8
          try clear c8b0
          try clear c8b1
          try clear c9
          try clear c9b0
          try clear c10
          try clear c12
          try clear c12b0
          try clear c12b1
          try clear c13
          try clear c13b0
          try clear c16
          try clear c16b0
          try clear c16b1
          try clear c17
          try clear c17b0
          try clear c21
          try clear c23
          try clear c23b0
          try clear c23b1
          try clear hcz10_0
          try clear hcz10_1
          try clear hcz10_2
          try clear hcz10_3
          try clear hcz10_4
          try clear hcz10_5
          try clear hcz10_6
          try clear hcz10_7
          try clear hcz11_0
          try clear hcz11_1
          try clear hcz11_2
          try clear hcz11_3
          try clear hcz11_4
          try clear hcz11_5
          try clear hcz11_6
          try clear hcz11_7
          try clear hcz14_0
          try clear hcz14_1
          try clear hcz14_2
          try clear hcz14_3
          try clear hcz14_4
          try clear hcz14_5
          try clear hcz14_6
          try clear hcz14_7
          try clear hcz15_0
          try clear hcz15_1
          try clear hcz15_2
          try clear hcz15_3
          try clear hcz15_4
          try clear hcz15_5
          try clear hcz15_6
          try clear hcz15_7
          try clear hcz18_0
          try clear hcz18_1
          try clear hcz18_2
          try clear hcz18_3
          try clear hcz18_4
          try clear hcz18_5
          try clear hcz18_6
          try clear hcz18_7
          try clear hcz19_0
          try clear hcz19_1
          try clear hcz19_2
          try clear hcz19_3
          try clear hcz19_4
          try clear hcz19_5
          try clear hcz19_6
          try clear hcz19_7
          try clear hcz20_0
          try clear hcz20_1
          try clear hcz20_2
          try clear hcz20_3
          try clear hcz20_4
          try clear hcz20_5
          try clear hcz20_6
          try clear hcz20_7
          try clear hcz24_0
          try clear hcz24_1
          try clear hcz24_2
          try clear hcz24_3
          try clear hcz24_4
          try clear hcz24_5
          try clear hcz24_6
          try clear hcz24_7
          try clear hcz25_0
          try clear hcz25_1
          try clear hcz25_2
          try clear hcz25_3
          try clear hcz25_4
          try clear hcz25_5
          try clear hcz25_6
          try clear hcz25_7
          try clear hcz5_0
          try clear hcz5_1
          try clear hcz5_2
          try clear hcz5_3
          try clear hcz5_4
          try clear hcz5_5
          try clear hcz5_6
          try clear hcz5_7
          try clear hcz7_0
          try clear hcz7_1
          try clear hcz7_2
          try clear hcz7_3
          try clear hcz7_4
          try clear hcz7_5
          try clear hcz7_6
          try clear hcz7_7
          try clear hfz10_0
          try clear hfz10_1
          try clear hfz10_2
          try clear hfz10_3
          try clear hfz10_4
          try clear hfz10_5
          try clear hfz10_6
          try clear hfz10_7
          try clear hfz11_0
          try clear hfz11_1
          try clear hfz11_2
          try clear hfz11_3
          try clear hfz11_4
          try clear hfz11_5
          try clear hfz11_6
          try clear hfz11_7
          try clear hfz14_0
          try clear hfz14_1
          try clear hfz14_2
          try clear hfz14_3
          try clear hfz14_4
          try clear hfz14_5
          try clear hfz14_6
          try clear hfz14_7
          try clear hfz15_0
          try clear hfz15_1
          try clear hfz15_2
          try clear hfz15_3
          try clear hfz15_4
          try clear hfz15_5
          try clear hfz15_6
          try clear hfz15_7
          try clear hfz18_0
          try clear hfz18_1
          try clear hfz18_2
          try clear hfz18_3
          try clear hfz18_4
          try clear hfz18_5
          try clear hfz18_6
          try clear hfz18_7
          try clear hfz19_0
          try clear hfz19_1
          try clear hfz19_2
          try clear hfz19_3
          try clear hfz19_4
          try clear hfz19_5
          try clear hfz19_6
          try clear hfz19_7
          try clear hfz20_0
          try clear hfz20_1
          try clear hfz20_2
          try clear hfz20_3
          try clear hfz20_4
          try clear hfz20_5
          try clear hfz20_6
          try clear hfz20_7
          try clear hfz24_0
          try clear hfz24_1
          try clear hfz24_2
          try clear hfz24_3
          try clear hfz24_4
          try clear hfz24_5
          try clear hfz24_6
          try clear hfz24_7
          try clear hfz25_0
          try clear hfz25_1
          try clear hfz25_2
          try clear hfz25_3
          try clear hfz25_4
          try clear hfz25_5
          try clear hfz25_6
          try clear hfz25_7
          try clear hfz5_0
          try clear hfz5_1
          try clear hfz5_2
          try clear hfz5_3
          try clear hfz5_4
          try clear hfz5_5
          try clear hfz5_6
          try clear hfz5_7
          try clear hfz7_0
          try clear hfz7_1
          try clear hfz7_2
          try clear hfz7_3
          try clear hfz7_4
          try clear hfz7_5
          try clear hfz7_6
          try clear hfz7_7
          try clear p2
          obtain ⟨kq, x46_21, rfl, HA, HJ21, BK123, HB⟩ := hcut
          cases kq with
          | zero => exact absurd HA.out (by simp [estuaryref19_Good.j1])
          | succ kj21 =>
            have H := HA.out
            clear HA
            simp only [estuaryref19_Good.j1] at H
            by_cases c26 : x46_21 = true
            · subst c26
              have H1 : (some false) = some r := by rw [if_pos rfl] at H; exact H
              clear H
              have H := H1
              clear H1
              obtain rfl := Option.some.inj H
              go_wp2
              go_ret
              exact ⟨by first | rfl | (simp [errW_none, errW_some] <;> rfl) | (simp [*, errW_none, errW_some] <;> rfl), by repeat (first | (with_reducible first | exact HB.out | apply below_alloc | apply pw_below_drewN | apply below_drew1 | refine below_set ?_ GE123.out) | exact HB.out)⟩
            · replace c26 := Bool.eq_false_iff.mpr c26
              subst c26
              have H1 : (estuaryref19_Good.l0 kj21 0 a0_0 a0_1 l0_2 a0_3 a0_4 a0_5 a0_6 a0_7) = some r := by rw [if_neg (show ¬ (false = true) by decide)] at H; exact H
              clear H
              have H := H1
              clear H1
              have H' := Aside0.mk H
              clear H
              go_wp2
              go_loopg [3] kj21 (fun kq v3 w' => ∃ (x3_3 : Int), v3 = .int .i64 x3_3 ∧ Aside0 (estuaryref19_Good.l0 kq x3_3 a0_0 a0_1 l0_2 a0_3 a0_4 a0_5 a0_6 a0_7 = some r) ∧ Aside0 (kq ≤ kj21) ∧ Aside0 (w'.heap[gb123]? = some (.cells #[.int .i64 a0_0, .int .i64 a0_1, (.slice A0_2 l0_2.length c0_2), .int .i64 a0_3, .int .i64 a0_4, .int .i64 a0_5, .int .i64 a0_6, .int .i64 a0_7] 24 (0, 0))) ∧ Aside0 (Below w.heap.size w w'))
              case atStart => exact ⟨(0), (by first | rfl | (simp; done) | (simp [*]; done)), H', ⟨Nat.le_refl _⟩, ⟨by (with_reducible repeat (first | refine blk_drewN ?_ _ | refine blk_drew ?_ | refine blk_alloc ?_ _)); exact BK123.out⟩, ⟨by repeat (first | (with_reducible first | exact HB.out | apply below_alloc | apply pw_below_drewN | apply below_drew1 | refine below_set ?_ GE123.out) | exact HB.out)⟩⟩
              case round =>
                clear H'
                try clear c1
                try clear c2
                try clear p2
                try clear c4
                try clear c4b0
                try clear c6
                try clear c6b0
                try clear c8
                try clear c8b0
                try clear c8b1
                try clear c9
                try clear c9b0
                try clear c10
                try clear c12
                try clear c12b0
                try clear c12b1
                try clear c13
                try clear c13b0
                try clear c16
                try clear c16b0
                try clear c16b1
                try clear c17
                try clear c17b0
                try clear c21
                try clear c23
                try clear c23b0
                try clear c23b1
                try clear c26
                try clear hcz10_0
                try clear hcz10_1
                try clear hcz10_2
                try clear hcz10_3
                try clear hcz10_4
                try clear hcz10_5
                try clear hcz10_6
                try clear hcz10_7
                try clear hcz11_0
                try clear hcz11_1
                try clear hcz11_2
                try clear hcz11_3
                try clear hcz11_4
                try clear hcz11_5
                try clear hcz11_6
                try clear hcz11_7
                try clear hcz14_0
                try clear hcz14_1
                try clear hcz14_2
                try clear hcz14_3
                try clear hcz14_4
                try clear hcz14_5
                try clear hcz14_6
                try clear hcz14_7
                try clear hcz15_0
                try clear hcz15_1
                try clear hcz15_2
                try clear hcz15_3
                try clear hcz15_4
                try clear hcz15_5
                try clear hcz15_6
                try clear hcz15_7
                try clear hcz18_0
                try clear hcz18_1
                try clear hcz18_2
                try clear hcz18_3
                try clear hcz18_4
                try clear hcz18_5
                try clear hcz18_6
                try clear hcz18_7
                try clear hcz19_0
                try clear hcz19_1
                try clear hcz19_2
                try clear hcz19_3
                try clear hcz19_4
                try clear hcz19_5
                try clear hcz19_6
                try clear hcz19_7
                try clear hcz20_0
                try clear hcz20_1
                try clear hcz20_2
                try clear hcz20_3
                try clear hcz20_4
                try clear hcz20_5
                try clear hcz20_6
                try clear hcz20_7
                try clear hcz24_0
                try clear hcz24_1
                try clear hcz24_2
                try clear hcz24_3
                try clear hcz24_4
                try clear hcz24_5
                try clear hcz24_6
                try clear hcz24_7
                try clear hcz25_0
                try clear hcz25_1
                try clear hcz25_2
                try clear hcz25_3
                try clear hcz25_4
                try clear hcz25_5
                try clear hcz25_6
                try clear hcz25_7
                try clear hcz5_0
                try clear hcz5_1
                try clear hcz5_2
                try clear hcz5_3
                try clear hcz5_4
                try clear hcz5_5
                try clear hcz5_6
                try clear hcz5_7
                try clear hcz7_0
                try clear hcz7_1
                try clear hcz7_2
                try clear hcz7_3
                try clear hcz7_4
                try clear hcz7_5
                try clear hcz7_6
                try clear hcz7_7
                try clear hfz10_0
                try clear hfz10_1
                try clear hfz10_2
                try clear hfz10_3
                try clear hfz10_4
                try clear hfz10_5
                try clear hfz10_6
                try clear hfz10_7
                try clear hfz11_0
                try clear hfz11_1
                try clear hfz11_2
                try clear hfz11_3
                try clear hfz11_4
                try clear hfz11_5
                try clear hfz11_6
                try clear hfz11_7
                try clear hfz14_0
                try clear hfz14_1
                try clear hfz14_2
                try clear hfz14_3
                try clear hfz14_4
                try clear hfz14_5
                try clear hfz14_6
                try clear hfz14_7
                try clear hfz15_0
                try clear hfz15_1
                try clear hfz15_2
                try clear hfz15_3
                try clear hfz15_4
                try clear hfz15_5
                try clear hfz15_6
                try clear hfz15_7
                try clear hfz18_0
                try clear hfz18_1
                try clear hfz18_2
                try clear hfz18_3
                try clear hfz18_4
                try clear hfz18_5
                try clear hfz18_6
                try clear hfz18_7
                try clear hfz19_0
                try clear hfz19_1
                try clear hfz19_2
                try clear hfz19_3
                try clear hfz19_4
                try clear hfz19_5
                try clear hfz19_6
                try clear hfz19_7
                try clear hfz20_0
                try clear hfz20_1
                try clear hfz20_2
                try clear hfz20_3
                try clear hfz20_4
                try clear hfz20_5
                try clear hfz20_6
                try clear hfz20_7
                try clear hfz24_0
                try clear hfz24_1
                try clear hfz24_2
                try clear hfz24_3
                try clear hfz24_4
                try clear hfz24_5
                try clear hfz24_6
                try clear hfz24_7
                try clear hfz25_0
                try clear hfz25_1
                try clear hfz25_2
                try clear hfz25_3
                try clear hfz25_4
                try clear hfz25_5
                try clear hfz25_6
                try clear hfz25_7
                try clear hfz5_0
                try clear hfz5_1
                try clear hfz5_2
                try clear hfz5_3
                try clear hfz5_4
                try clear hfz5_5
                try clear hfz5_6
                try clear hfz5_7
                try clear hfz7_0
                try clear hfz7_1
                try clear hfz7_2
                try clear hfz7_3
                try clear hfz7_4
                try clear hfz7_5
                try clear hfz7_6
                try clear hfz7_7
                try clear p2
                obtain ⟨x3_3, rfl, HA, HK3, BK123, HB⟩ := hrel
                cases gk with
                | zero => exact absurd HA.out (by simp [estuaryref19_Good.l0])
                | succ k3 =>
                  have H := HA.out
                  clear HA
                  simp only [estuaryref19_Good.l0] at H
                  by_cases c27 : x3_3 < (l0_2.length : Int)
                  · rw [if_pos c27] at H
                    have c27b0 : decide (x3_3 < (l0_2.length : Int)) = true := decide_eq_true c27
                    clear c27
                    by_cases c28 : 0 ≤ x3_3
                    · rw [if_pos c28] at H
                      have c28b0 : decide (0 ≤ x3_3) = true := decide_eq_true c28
                      clear c28
                      by_cases c29 : (rd l0_2 x3_3) < 1
                      · rw [if_pos c29] at H
                        have c29b0 : decide ((rd l0_2 x3_3) < 1) = true := decide_eq_true c29
                        clear c29
                        obtain rfl := Option.some.inj H
                        have hcz30_0 : wr.cell? ⟨gb123, 0, none⟩ = some (.int .i64 a0_0) := (blk_cell BK123.out 0).trans rfl
                        have hcz30_1 : wr.cell? ⟨gb123, 1, none⟩ = some (.int .i64 a0_1) := (blk_cell BK123.out 1).trans rfl
                        have hcz30_2 : wr.cell? ⟨gb123, 2, none⟩ = some (.slice A0_2 l0_2.length c0_2) := (blk_cell BK123.out 2).trans rfl
                        have hcz30_3 : wr.cell? ⟨gb123, 3, none⟩ = some (.int .i64 a0_3) := (blk_cell BK123.out 3).trans rfl
                        have hcz30_4 : wr.cell? ⟨gb123, 4, none⟩ = some (.int .i64 a0_4) := (blk_cell BK123.out 4).trans rfl
                        have hcz30_5 : wr.cell? ⟨gb123, 5, none⟩ = some (.int .i64 a0_5) := (blk_cell BK123.out 5).trans rfl
                        have hcz30_6 : wr.cell? ⟨gb123, 6, none⟩ = some (.int .i64 a0_6) := (blk_cell BK123.out 6).trans rfl
                        have hcz30_7 : wr.cell? ⟨gb123, 7, none⟩ = some (.int .i64 a0_7) := (blk_cell BK123.out 7).trans rfl
                        have hfz30_0 := blk_frozen BK123.out 0
                        have hfz30_1 := blk_frozen BK123.out 1
                        have hfz30_2 := blk_frozen BK123.out 2
                        have hfz30_3 := blk_frozen BK123.out 3
                        have hfz30_4 := blk_frozen BK123.out 4
                        have hfz30_5 := blk_frozen BK123.out 5
                        have hfz30_6 := blk_frozen BK123.out 6
                        have hfz30_7 := blk_frozen BK123.out 7
                        have p124 : 0 ≤ (x3_3 : Int) := of_decide_eq_true (by first | (with_reducible assumption) | assumption)
                        have q124 : x3_3 < (l0_2.length : Int) := of_decide_eq_true (by first | (with_reducible assumption) | assumption)
                        obtain ⟨ad124, e124, hx124_0⟩ := Kd.at_int HR0_2.out x3_3 p124 q124
                        cases e124
                        replace hx124_0 := (HB.out.cell (World.block_lt_of_cell? w _ hx124_0)).trans hx124_0
                        replace p124 := eq_true p124
                        replace q124 := eq_true q124
                        go_wp2
                        go_ret
                        exact ⟨by first | rfl | (simp [errW_none, errW_some] <;> rfl) | (simp [*, errW_none, errW_some] <;> rfl), by repeat (first | (with_reducible first | exact HB.out | apply below_alloc | apply pw_below_drewN | apply below_drew1 | refine below_set ?_ GE123.out) | exact HB.out)⟩
                      · rw [if_neg c29] at H
                        have c29b0 : decide ((rd l0_2 x3_3) < 1) = false := decide_eq_false c29
                        clear c29
                        have H' := Aside0.mk H
                        clear H
                        have hcz31_0 : wr.cell? ⟨gb123, 0, none⟩ = some (.int .i64 a0_0) := (blk_cell BK123.out 0).trans rfl
                        have hcz31_1 : wr.cell? ⟨gb123, 1, none⟩ = some (.int .i64 a0_1) := (blk_cell BK123.out 1).trans rfl
                        have hcz31_2 : wr.cell? ⟨gb123, 2, none⟩ = some (.slice A0_2 l0_2.length c0_2) := (blk_cell BK123.out 2).trans rfl
                        have hcz31_3 : wr.cell? ⟨gb123, 3, none⟩ = some (.int .i64 a0_3) := (blk_cell BK123.out 3).trans rfl
                        have hcz31_4 : wr.cell? ⟨gb123, 4, none⟩ = some (.int .i64 a0_4) := (blk_cell BK123.out 4).trans rfl
                        have hcz31_5 : wr.cell? ⟨gb123, 5, none⟩ = some (.int .i64 a0_5) := (blk_cell BK123.out 5).trans rfl
                        have hcz31_6 : wr.cell? ⟨gb123, 6, none⟩ = some (.int .i64 a0_6) := (blk_cell BK123.out 6).trans rfl
                        have hcz31_7 : wr.cell? ⟨gb123, 7, none⟩ = some (.int .i64 a0_7) := (blk_cell BK123.out 7).trans rfl
                        have hfz31_0 := blk_frozen BK123.out 0
                        have hfz31_1 := blk_frozen BK123.out 1
                        have hfz31_2 := blk_frozen BK123.out 2
                        have hfz31_3 := blk_frozen BK123.out 3
                        have hfz31_4 := blk_frozen BK123.out 4
                        have hfz31_5 := blk_frozen BK123.out 5
                        have hfz31_6 := blk_frozen BK123.out 6
                        have hfz31_7 := blk_frozen BK123.out 7
                        have p124 : 0 ≤ (x3_3 : Int) := of_decide_eq_true (by first | (with_reducible assumption) | assumption)
                        have q124 : x3_3 < (l0_2.length : Int) := of_decide_eq_true (by first | (with_reducible assumption) | assumption)
                        obtain ⟨ad124, e124, hx124_0⟩ := Kd.at_int HR0_2.out x3_3 p124 q124
                        cases e124
                        replace hx124_0 := (HB.out.cell (World.block_lt_of_cell? w _ hx124_0)).trans hx124_0
                        replace p124 := eq_true p124
                        replace q124 := eq_true q124
                        go_wp2
                        go_roundg k3
                        case measure => have := HJ1.out; have := HJ21.out; have := HK3.out; omega
                        case rel => exact ⟨(wrap64 (x3_3 + 1)), (by first | rfl | (simp; done) | (simp [*]; done)), H', ⟨by have := HJ1.out; have := HJ21.out; have := HK3.out; omega⟩, ⟨by (with_reducible repeat (first | refine blk_drewN ?_ _ | refine blk_drew ?_ | refine blk_alloc ?_ _)); exact BK123.out⟩, ⟨by repeat (first | (with_reducible first | exact HB.out | apply below_alloc | apply pw_below_drewN | apply below_drew1 | refine below_set ?_ GE123.out) | exact HB.out)⟩⟩
                    · rw [if_neg c28] at H
                      exact absurd H (by simp)
                  · rw [if_neg c27] at H
                    have c27b0 : decide (x3_3 < (l0_2.length : Int)) = false := decide_eq_false c27
                    clear c27
                    by_cases c32 : a0_4 ≥ 1
                    · rw [if_pos c32] at H
                      have c32b0 : decide (1 ≤ a0_4) = true := decide_eq_true c32
                      clear c32
                      by_cases c33 : a0_4 ≤ 64
                      · rw [if_pos c33] at H
                        have c33b0 : decide (a0_4 ≤ 64) = true := decide_eq_true c33
                        clear c33
                        by_cases c34 : a0_5 ≥ 1
                        · rw [if_pos c34] at H
                          have c34b0 : decide (1 ≤ a0_5) = true := decide_eq_true c34
                          clear c34
                          by_cases c35 : a0_5 ≤ 1024
                          · rw [if_pos c35] at H
                            have c35b0 : decide (a0_5 ≤ 1024) = true := decide_eq_true c35
                            clear c35
                            by_cases c36 : a0_6 ≥ 1
                            · rw [if_pos c36] at H
                              have c36b0 : decide (1 ≤ a0_6) = true := decide_eq_true c36
                              clear c36
                              by_cases c37 : a0_6 ≤ 16
                              · rw [if_pos c37] at H
                                have c37b0 : decide (a0_6 ≤ 16) = true := decide_eq_true c37
                                clear c37
                                by_cases c38 : a0_7 ≥ 1
                                · rw [if_pos c38] at H
                                  have c38b0 : decide (1 ≤ a0_7) = true := decide_eq_true c38
                                  clear c38
                                  obtain rfl := Option.some.inj H
                                  have hcz39_0 : wr.cell? ⟨gb123, 0, none⟩ = some (.int .i64 a0_0) := (blk_cell BK123.out 0).trans rfl
                                  have hcz39_1 : wr.cell? ⟨gb123, 1, none⟩ = some (.int .i64 a0_1) := (blk_cell BK123.out 1).trans rfl
                                  have hcz39_2 : wr.cell? ⟨gb123, 2, none⟩ = some (.slice A0_2 l0_2.length c0_2) := (blk_cell BK123.out 2).trans rfl
                                  have hcz39_3 : wr.cell? ⟨gb123, 3, none⟩ = some (.int .i64 a0_3) := (blk_cell BK123.out 3).trans rfl
                                  have hcz39_4 : wr.cell? ⟨gb123, 4, none⟩ = some (.int .i64 a0_4) := (blk_cell BK123.out 4).trans rfl
                                  have hcz39_5 : wr.cell? ⟨gb123, 5, none⟩ = some (.int .i64 a0_5) := (blk_cell BK123.out 5).trans rfl
                                  have hcz39_6 : wr.cell? ⟨gb123, 6, none⟩ = some (.int .i64 a0_6) := (blk_cell BK123.out 6).trans rfl
                                  have hcz39_7 : wr.cell? ⟨gb123, 7, none⟩ = some (.int .i64 a0_7) := (blk_cell BK123.out 7).trans rfl
                                  have hfz39_0 := blk_frozen BK123.out 0
                                  have hfz39_1 := blk_frozen BK123.out 1
                                  have hfz39_2 := blk_frozen BK123.out 2
                                  have hfz39_3 := blk_frozen BK123.out 3
                                  have hfz39_4 := blk_frozen BK123.out 4
                                  have hfz39_5 := blk_frozen BK123.out 5
                                  have hfz39_6 := blk_frozen BK123.out 6
                                  have hfz39_7 := blk_frozen BK123.out 7
                                  go_wp2
                                  go_ret
                                  exact ⟨by first | rfl | (simp [errW_none, errW_some] <;> rfl) | (simp [*, errW_none, errW_some] <;> rfl), by repeat (first | (with_reducible first | exact HB.out | apply below_alloc | apply pw_below_drewN | apply below_drew1 | refine below_set ?_ GE123.out) | exact HB.out)⟩
                                · rw [if_neg c38] at H
                                  have c38b0 : decide (1 ≤ a0_7) = false := decide_eq_false c38
                                  clear c38
                                  obtain rfl := Option.some.inj H
                                  have hcz40_0 : wr.cell? ⟨gb123, 0, none⟩ = some (.int .i64 a0_0) := (blk_cell BK123.out 0).trans rfl
                                  have hcz40_1 : wr.cell? ⟨gb123, 1, none⟩ = some (.int .i64 a0_1) := (blk_cell BK123.out 1).trans rfl
                                  have hcz40_2 : wr.cell? ⟨gb123, 2, none⟩ = some (.slice A0_2 l0_2.length c0_2) := (blk_cell BK123.out 2).trans rfl
                                  have hcz40_3 : wr.cell? ⟨gb123, 3, none⟩ = some (.int .i64 a0_3) := (blk_cell BK123.out 3).trans rfl
                                  have hcz40_4 : wr.cell? ⟨gb123, 4, none⟩ = some (.int .i64 a0_4) := (blk_cell BK123.out 4).trans rfl
                                  have hcz40_5 : wr.cell? ⟨gb123, 5, none⟩ = some (.int .i64 a0_5) := (blk_cell BK123.out 5).trans rfl
                                  have hcz40_6 : wr.cell? ⟨gb123, 6, none⟩ = some (.int .i64 a0_6) := (blk_cell BK123.out 6).trans rfl
                                  have hcz40_7 : wr.cell? ⟨gb123, 7, none⟩ = some (.int .i64 a0_7) := (blk_cell BK123.out 7).trans rfl
                                  have hfz40_0 := blk_frozen BK123.out 0
                                  have hfz40_1 := blk_frozen BK123.out 1
                                  have hfz40_2 := blk_frozen BK123.out 2
                                  have hfz40_3 := blk_frozen BK123.out 3
                                  have hfz40_4 := blk_frozen BK123.out 4
                                  have hfz40_5 := blk_frozen BK123.out 5
                                  have hfz40_6 := blk_frozen BK123.out 6
                                  have hfz40_7 := blk_frozen BK123.out 7
                                  go_wp2
                                  go_ret
                                  exact ⟨by first | rfl | (simp [errW_none, errW_some] <;> rfl) | (simp [*, errW_none, errW_some] <;> rfl), by repeat (first | (with_reducible first | exact HB.out | apply below_alloc | apply pw_below_drewN | apply below_drew1 | refine below_set ?_ GE123.out) | exact HB.out)⟩
                              · rw [if_neg c37] at H
                                have c37b0 : decide (a0_6 ≤ 16) = false := decide_eq_false c37
                                clear c37
                                obtain rfl := Option.some.inj H
                                have hcz41_0 : wr.cell? ⟨gb123, 0, none⟩ = some (.int .i64 a0_0) := (blk_cell BK123.out 0).trans rfl
                                have hcz41_1 : wr.cell? ⟨gb123, 1, none⟩ = some (.int .i64 a0_1) := (blk_cell BK123.out 1).trans rfl
                                have hcz41_2 : wr.cell? ⟨gb123, 2, none⟩ = some (.slice A0_2 l0_2.length c0_2) := (blk_cell BK123.out 2).trans rfl
                                have hcz41_3 : wr.cell? ⟨gb123, 3, none⟩ = some (.int .i64 a0_3) := (blk_cell BK123.out 3).trans rfl
                                have hcz41_4 : wr.cell? ⟨gb123, 4, none⟩ = some (.int .i64 a0_4) := (blk_cell BK123.out 4).trans rfl
                                have hcz41_5 : wr.cell? ⟨gb123, 5, none⟩ = some (.int .i64 a0_5) := (blk_cell BK123.out 5).trans rfl
                                have hcz41_6 : wr.cell? ⟨gb123, 6, none⟩ = some (.int .i64 a0_6) := (blk_cell BK123.out 6).trans rfl
                                have hcz41_7 : wr.cell? ⟨gb123, 7, none⟩ = some (.int .i64 a0_7) := (blk_cell BK123.out 7).trans rfl
                                have hfz41_0 := blk_frozen BK123.out 0
                                have hfz41_1 := blk_frozen BK123.out 1
                                have hfz41_2 := blk_frozen BK123.out 2
                                have hfz41_3 := blk_frozen BK123.out 3
                                have hfz41_4 := blk_frozen BK123.out 4
                                have hfz41_5 := blk_frozen BK123.out 5
                                have hfz41_6 := blk_frozen BK123.out 6
                                have hfz41_7 := blk_frozen BK123.out 7
                                go_wp2
                                go_ret
                                exact ⟨by first | rfl | (simp [errW_none, errW_some] <;> rfl) | (simp [*, errW_none, errW_some] <;> rfl), by repeat (first | (with_reducible first | exact HB.out | apply below_alloc | apply pw_below_drewN | apply below_drew1 | refine below_set ?_ GE123.out) | exact HB.out)⟩
                            · rw [if_neg c36] at H
                              have c36b0 : decide (1 ≤ a0_6) = false := decide_eq_false c36
                              clear c36
                              obtain rfl := Option.some.inj H
                              have hcz42_0 : wr.cell? ⟨gb123, 0, none⟩ = some (.int .i64 a0_0) := (blk_cell BK123.out 0).trans rfl
                              have hcz42_1 : wr.cell? ⟨gb123, 1, none⟩ = some (.int .i64 a0_1) := (blk_cell BK123.out 1).trans rfl
                              have hcz42_2 : wr.cell? ⟨gb123, 2, none⟩ = some (.slice A0_2 l0_2.length c0_2) := (blk_cell BK123.out 2).trans rfl
                              have hcz42_3 : wr.cell? ⟨gb123, 3, none⟩ = some (.int .i64 a0_3) := (blk_cell BK123.out 3).trans rfl
                              have hcz42_4 : wr.cell? ⟨gb123, 4, none⟩ = some (.int .i64 a0_4) := (blk_cell BK123.out 4).trans rfl
                              have hcz42_5 : wr.cell? ⟨gb123, 5, none⟩ = some (.int .i64 a0_5) := (blk_cell BK123.out 5).trans rfl
                              have hcz42_6 : wr.cell? ⟨gb123, 6, none⟩ = some (.int .i64 a0_6) := (blk_cell BK123.out 6).trans rfl
                              have hcz42_7 : wr.cell? ⟨gb123, 7, none⟩ = some (.int .i64 a0_7) := (blk_cell BK123.out 7).trans rfl
                              have hfz42_0 := blk_frozen BK123.out 0
                              have hfz42_1 := blk_frozen BK123.out 1
                              have hfz42_2 := blk_frozen BK123.out 2
                              have hfz42_3 := blk_frozen BK123.out 3
                              have hfz42_4 := blk_frozen BK123.out 4
                              have hfz42_5 := blk_frozen BK123.out 5
                              have hfz42_6 := blk_frozen BK123.out 6
                              have hfz42_7 := blk_frozen BK123.out 7
                              go_wp2
                              go_ret
                              exact ⟨by first | rfl | (simp [errW_none, errW_some] <;> rfl) | (simp [*, errW_none, errW_some] <;> rfl), by repeat (first | (with_reducible first | exact HB.out | apply below_alloc | apply pw_below_drewN | apply below_drew1 | refine below_set ?_ GE123.out) | exact HB.out)⟩
                          · rw [if_neg c35] at H
                            have c35b0 : decide (a0_5 ≤ 1024) = false := decide_eq_false c35
                            clear c35
                            obtain rfl := Option.some.inj H
                            have hcz43_0 : wr.cell? ⟨gb123, 0, none⟩ = some (.int .i64 a0_0) := (blk_cell BK123.out 0).trans rfl
                            have hcz43_1 : wr.cell? ⟨gb123, 1, none⟩ = some (.int .i64 a0_1) := (blk_cell BK123.out 1).trans rfl
                            have hcz43_2 : wr.cell? ⟨gb123, 2, none⟩ = some (.slice A0_2 l0_2.length c0_2) := (blk_cell BK123.out 2).trans rfl
                            have hcz43_3 : wr.cell? ⟨gb123, 3, none⟩ = some (.int .i64 a0_3) := (blk_cell BK123.out 3).trans rfl
                            have hcz43_4 : wr.cell? ⟨gb123, 4, none⟩ = some (.int .i64 a0_4) := (blk_cell BK123.out 4).trans rfl
                            have hcz43_5 : wr.cell? ⟨gb123, 5, none⟩ = some (.int .i64 a0_5) := (blk_cell BK123.out 5).trans rfl
                            have hcz43_6 : wr.cell? ⟨gb123, 6, none⟩ = some (.int .i64 a0_6) := (blk_cell BK123.out 6).trans rfl
                            have hcz43_7 : wr.cell? ⟨gb123, 7, none⟩ = some (.int .i64 a0_7) := (blk_cell BK123.out 7).trans rfl
                            have hfz43_0 := blk_frozen BK123.out 0
                            have hfz43_1 := blk_frozen BK123.out 1
                            have hfz43_2 := blk_frozen BK123.out 2
                            have hfz43_3 := blk_frozen BK123.out 3
                            have hfz43_4 := blk_frozen BK123.out 4
                            have hfz43_5 := blk_frozen BK123.out 5
                            have hfz43_6 := blk_frozen BK123.out 6
                            have hfz43_7 := blk_frozen BK123.out 7
                            go_wp2
                            go_ret
                            exact ⟨by first | rfl | (simp [errW_none, errW_some] <;> rfl) | (simp [*, errW_none, errW_some] <;> rfl), by repeat (first | (with_reducible first | exact HB.out | apply below_alloc | apply pw_below_drewN | apply below_drew1 | refine below_set ?_ GE123.out) | exact HB.out)⟩
                        · rw [if_neg c34] at H
                          have c34b0 : decide (1 ≤ a0_5) = false := decide_eq_false c34
                          clear c34
                          obtain rfl := Option.some.inj H
                          have hcz44_0 : wr.cell? ⟨gb123, 0, none⟩ = some (.int .i64 a0_0) := (blk_cell BK123.out 0).trans rfl
                          have hcz44_1 : wr.cell? ⟨gb123, 1, none⟩ = some (.int .i64 a0_1) := (blk_cell BK123.out 1).trans rfl
                          have hcz44_2 : wr.cell? ⟨gb123, 2, none⟩ = some (.slice A0_2 l0_2.length c0_2) := (blk_cell BK123.out 2).trans rfl
                          have hcz44_3 : wr.cell? ⟨gb123, 3, none⟩ = some (.int .i64 a0_3) := (blk_cell BK123.out 3).trans rfl
                          have hcz44_4 : wr.cell? ⟨gb123, 4, none⟩ = some (.int .i64 a0_4) := (blk_cell BK123.out 4).trans rfl
                          have hcz44_5 : wr.cell? ⟨gb123, 5, none⟩ = some (.int .i64 a0_5) := (blk_cell BK123.out 5).trans rfl
                          have hcz44_6 : wr.cell? ⟨gb123, 6, none⟩ = some (.int .i64 a0_6) := (blk_cell BK123.out 6).trans rfl
                          have hcz44_7 : wr.cell? ⟨gb123, 7, none⟩ = some (.int .i64 a0_7) := (blk_cell BK123.out 7).trans rfl
                          have hfz44_0 := blk_frozen BK123.out 0
                          have hfz44_1 := blk_frozen BK123.out 1
                          have hfz44_2 := blk_frozen BK123.out 2
                          have hfz44_3 := blk_frozen BK123.out 3
                          have hfz44_4 := blk_frozen BK123.out 4
                          have hfz44_5 := blk_frozen BK123.out 5
                          have hfz44_6 := blk_frozen BK123.out 6
                          have hfz44_7 := blk_frozen BK123.out 7
                          go_wp2
                          go_ret
                          exact ⟨by first | rfl | (simp [errW_none, errW_some] <;> rfl) | (simp [*, errW_none, errW_some] <;> rfl), by repeat (first | (with_reducible first | exact HB.out | apply below_alloc | apply pw_below_drewN | apply below_drew1 | refine below_set ?_ GE123.out) | exact HB.out)⟩
                      · rw [if_neg c33] at H
                        have c33b0 : decide (a0_4 ≤ 64) = false := decide_eq_false c33
                        clear c33
                        obtain rfl := Option.some.inj H
                        have hcz45_0 : wr.cell? ⟨gb123, 0, none⟩ = some (.int .i64 a0_0) := (blk_cell BK123.out 0).trans rfl
                        have hcz45_1 : wr.cell? ⟨gb123, 1, none⟩ = some (.int .i64 a0_1) := (blk_cell BK123.out 1).trans rfl
                        have hcz45_2 : wr.cell? ⟨gb123, 2, none⟩ = some (.slice A0_2 l0_2.length c0_2) := (blk_cell BK123.out 2).trans rfl
                        have hcz45_3 : wr.cell? ⟨gb123, 3, none⟩ = some (.int .i64 a0_3) := (blk_cell BK123.out 3).trans rfl
                        have hcz45_4 : wr.cell? ⟨gb123, 4, none⟩ = some (.int .i64 a0_4) := (blk_cell BK123.out 4).trans rfl
                        have hcz45_5 : wr.cell? ⟨gb123, 5, none⟩ = some (.int .i64 a0_5) := (blk_cell BK123.out 5).trans rfl
                        have hcz45_6 : wr.cell? ⟨gb123, 6, none⟩ = some (.int .i64 a0_6) := (blk_cell BK123.out 6).trans rfl
                        have hcz45_7 : wr.cell? ⟨gb123, 7, none⟩ = some (.int .i64 a0_7) := (blk_cell BK123.out 7).trans rfl
                        have hfz45_0 := blk_frozen BK123.out 0
                        have hfz45_1 := blk_frozen BK123.out 1
                        have hfz45_2 := blk_frozen BK123.out 2
                        have hfz45_3 := blk_frozen BK123.out 3
                        have hfz45_4 := blk_frozen BK123.out 4
                        have hfz45_5 := blk_frozen BK123.out 5
                        have hfz45_6 := blk_frozen BK123.out 6
                        have hfz45_7 := blk_frozen BK123.out 7
                        go_wp2
                        go_ret
                        exact ⟨by first | rfl | (simp [errW_none, errW_some] <;> rfl) | (simp [*, errW_none, errW_some] <;> rfl), by repeat (first | (with_reducible first | exact HB.out | apply below_alloc | apply pw_below_drewN | apply below_drew1 | refine below_set ?_ GE123.out) | exact HB.out)⟩
                    · rw [if_neg c32] at H
                      have c32b0 : decide (1 ≤ a0_4) = false := decide_eq_false c32
                      clear c32
                      obtain rfl := Option.some.inj H
                      have hcz46_0 : wr.cell? ⟨gb123, 0, none⟩ = some (.int .i64 a0_0) := (blk_cell BK123.out 0).trans rfl
                      have hcz46_1 : wr.cell? ⟨gb123, 1, none⟩ = some (.int .i64 a0_1) := (blk_cell BK123.out 1).trans rfl
                      have hcz46_2 : wr.cell? ⟨gb123, 2, none⟩ = some (.slice A0_2 l0_2.length c0_2) := (blk_cell BK123.out 2).trans rfl
                      have hcz46_3 : wr.cell? ⟨gb123, 3, none⟩ = some (.int .i64 a0_3) := (blk_cell BK123.out 3).trans rfl
                      have hcz46_4 : wr.cell? ⟨gb123, 4, none⟩ = some (.int .i64 a0_4) := (blk_cell BK123.out 4).trans rfl
                      have hcz46_5 : wr.cell? ⟨gb123, 5, none⟩ = some (.int .i64 a0_5) := (blk_cell BK123.out 5).trans rfl
                      have hcz46_6 : wr.cell? ⟨gb123, 6, none⟩ = some (.int .i64 a0_6) := (blk_cell BK123.out 6).trans rfl
                      have hcz46_7 : wr.cell? ⟨gb123, 7, none⟩ = some (.int .i64 a0_7) := (blk_cell BK123.out 7).trans rfl
                      have hfz46_0 := blk_frozen BK123.out 0
                      have hfz46_1 := blk_frozen BK123.out 1
                      have hfz46_2 := blk_frozen BK123.out 2
                      have hfz46_3 := blk_frozen BK123.out 3
                      have hfz46_4 := blk_frozen BK123.out 4
                      have hfz46_5 := blk_frozen BK123.out 5
                      have hfz46_6 := blk_frozen BK123.out 6
                      have hfz46_7 := blk_frozen BK123.out 7
                      go_wp2
                      go_ret
                      exact ⟨by first | rfl | (simp [errW_none, errW_some] <;> rfl) | (simp [*, errW_none, errW_some] <;> rfl), by repeat (first | (with_reducible first | exact HB.out | apply below_alloc | apply pw_below_drewN | apply below_drew1 | refine below_set ?_ GE123.out) | exact HB.out)⟩

end Go.Proofs.Ytdaapjkfkfaflaa.MAll

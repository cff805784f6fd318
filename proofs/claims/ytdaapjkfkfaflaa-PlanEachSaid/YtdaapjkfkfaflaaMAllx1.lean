-- written by a program of this session's (wip/myprint.py) over the kit's print.py
import Derived.Test.YtdaapjkfkfaflaaMAllx0
namespace Go.Proofs.Ytdaapjkfkfaflaa.MAll
open Go.RowKit Go.Proofs.YtdaapjkfkfaflaaW.PrintWords Go.Proofs.YtdaapjkfkfaflaaW.PrintLast Go.Proofs.YtdaapjkfkfaflaaW.PrintMore
attribute [local go_sem] max2_int min2_int max_two min_two max_three min_three max_four min_four   -- for this text's walks alone
set_option linter.unusedVariables false
set_option linter.unusedSimpArgs false

/-! ### plan_within: function 21 -/
def plan_within.f (a0 : Int) (a1 : Int) : Option (Bool) := if a0 ≥ 1 then (some (decide (a0 ≤ a1))) else (some false)
set_option maxHeartbeats 8000000 in
set_option maxRecDepth 100000 in
theorem plan_within.calls (a0 : Int) (a1 : Int) (r : Bool) (w : World) (h : plan_within.f a0 a1 = some r) :
    Calls Try.prog 21 #[.int .i64 a0, .int .i64 a1] w fun e w' => e = .returned (.bool r) ∧ Drawn0 w w' := by
  have H : (if a0 ≥ 1 then (some (decide (a0 ≤ a1))) else (some false)) = some r := h
  clear h
  by_cases c3 : a0 ≥ 1
  · rw [if_pos c3] at H
    have c3b0 : decide (1 ≤ a0) = true := decide_eq_true c3
    clear c3
    obtain rfl := Option.some.inj H
    go_enter Try.func21, Try.ntmps21
    go_wp2
    go_ret
    exact ⟨by first | rfl | (simp; done) | (simp [*]; done), by repeat (first | exact Drawn0.refl _ | apply Drawn0.step)⟩
  · rw [if_neg c3] at H
    have c3b0 : decide (1 ≤ a0) = false := decide_eq_false c3
    clear c3
    obtain rfl := Option.some.inj H
    go_enter Try.func21, Try.ntmps21
    go_wp2
    go_ret
    exact ⟨by first | rfl | (simp; done) | (simp [*]; done), by repeat (first | exact Drawn0.refl _ | apply Drawn0.step)⟩

/-! ### slices_Min_int_int: function 22 -/
def minOf : List Int → Int
  | [] => 0
  | x :: t => t.foldl (fun a y => mn a y) x
def slices_Min_int_int.f (l0 : List Int) : Option Int := if 0 < l0.length then some (minOf l0) else none
theorem minOf_snoc (l : List Int) (y : Int) (h : 0 < l.length) : minOf (l ++ [y]) = mn (minOf l) y := by
  cases l with
  | nil => simp at h
  | cons x t => simp [minOf, List.foldl_append]
theorem minOf_take (l : List Int) (k : Nat) (hk : k < l.length) (h : 0 < k) : minOf (l.take (k + 1)) = mn (minOf (l.take k)) (l.getD k 0) := by
  rw [List.take_succ_eq_append_getElem hk, minOf_snoc _ _ (by simp; omega)]
  simp [List.getD_eq_getElem?_getD, List.getElem?_eq_getElem hk]
set_option maxHeartbeats 400000 in
theorem slices_Min_int_int.calls (A0 : Option Addr) (c0 : Nat) (l0 : List Int) (r : Int) (w : World) (hr0 : Kd.C (Kd.int .i64) w A0 l0.length l0) (hc0 : l0.length ≤ c0) (h : slices_Min_int_int.f l0 = some r) :
    Calls Try.prog 22 #[.slice A0 l0.length c0] w fun e w' => e = .returned (.int .i64 r) ∧ Drawn0 w w' := by
  unfold slices_Min_int_int.f at h
  split at h
  case isFalse => cases h
  rename_i hpos
  injection h with h
  subst h
  obtain ⟨ad, rfl, hc⟩ := (Kd.reads_of_C (d := 0) hr0).2.2 hpos
  have HC := Aside0.mk hc
  have HM := Aside0.mk (Kd.C_max hr0)
  have h0 : w.cell? ad = some (.int .i64 (l0.getD 0 0)) := by have := hc 0 hpos; rwa [Kit.add_zero'] at this
  clear hc hr0
  have b1 : decide (l0.length < 1) = false := decide_eq_false (by omega)
  go_enter Try.func22, Try.ntmps22
  go_wp2_with fail
  go_loop [3, 4] (fun m i => ∃ k : Nat, 1 ≤ k ∧ k ≤ l0.length ∧ i = .int .i64 k ∧ m = .int .i64 (minOf (l0.take k))) (fun _ i => l0.length - (intOf i).toNat)
  case atStart => exact ⟨1, Nat.le_refl _, hpos, rfl, by
    cases l0 with
    | nil => simp at hpos
    | cons x t => simp [minOf]⟩
  case round =>
    obtain ⟨k, hk1, hk, rfl, rfl⟩ := hrel
    by_cases hlt : k < l0.length
    · have hcell : w.cell? (ad.add k) = some (.int .i64 (l0.getD k 0)) := HC.out k hlt
      have hmx : k < 9223372036854775807 := by have := HM.out; omega
      have hs := Aside0.mk (minOf_take l0 k hlt hk1)
      go_wp2
      go_round
      case rel => exact ⟨k + 1, by omega, by omega, by go_num, by rw [hs.out]; unfold mn; simp [List.getD_eq_getElem?_getD, List.getElem?_eq_getElem hlt]⟩
      case measure => simp [intOf]; omega
    · go_wp2
      go_ret
      have e : l0.take k = l0 := List.take_of_length_le (by omega)
      exact ⟨by rw [e]; rfl, Drawn0.refl _⟩

/-! ### plan_Check: function 9 -/
def plan_Check.j0 : Nat → Bool → Int → Int → List Int → Int → Int → Int → Int → Int → Option (Option Int)
  | 0, _, _, _, _, _, _, _, _, _ => none
  | k + 1, x3, x102000, x102001, x102002, x102003, x102004, x102005, x102006, x102007 => if x3 = true then ((plan_within.f x102000 4).bind fun t103 => (if t103 = true then ((plan_within.f (x102002.length : Int) 3).bind fun t104 => (if t104 = true then ((slices_Min_int_int.f x102002).bind fun t105 => (if t105 < 1 then (some (some 14)) else ((plan_within.f x102003 4).bind fun t106 => (if t106 = true then ((plan_within.f x102004 64).bind fun t107 => (if t107 = true then ((plan_within.f x102005 1024).bind fun t108 => (if t108 = true then ((plan_within.f x102006 16).bind fun t109 => (if t109 = true then ((plan_within.f x102007 20).bind fun t110 => (if t110 = true then (some none) else (some (some 14)))) else (some (some 14)))) else (some (some 14)))) else (some (some 14)))) else (some (some 14)))))) else (some (some 14)))) else (some (some 14)))) else (some (some 14))
def plan_Check.f (k : Nat) (a0_0 : Int) (a0_1 : Int) (l0_2 : List Int) (a0_3 : Int) (a0_4 : Int) (a0_5 : Int) (a0_6 : Int) (a0_7 : Int) : Option (Option Int) := (plan_within.f a0_1 5).bind fun t102 => (if t102 = true then (plan_Check.j0 k ((Go.bits .and .i64 a0_1 1) == 1) a0_0 a0_1 l0_2 a0_3 a0_4 a0_5 a0_6 a0_7) else (plan_Check.j0 k false a0_0 a0_1 l0_2 a0_3 a0_4 a0_5 a0_6 a0_7))
theorem plan_Check.mono_l : ∀ k, (∀ y0 y1 y2 y3 y4 y5 y6 y7 y8, LeO (plan_Check.j0 k y0 y1 y2 y3 y4 y5 y6 y7 y8) (plan_Check.j0 (k + 1) y0 y1 y2 y3 y4 y5 y6 y7 y8))
  | 0 => fun _ _ _ _ _ _ _ _ _ r h => by simp [plan_Check.j0] at h
  | k + 1 => by
    have ih0 := plan_Check.mono_l k
    · intro y0 y1 y2 y3 y4 y5 y6 y7 y8
      unfold plan_Check.j0
      repeat' first
      | (with_reducible exact ih0 _ _ _ _ _ _ _ _ _)
      | (with_reducible exact LeO.refl _)
      | (with_reducible exact LeO.none _)
      | (with_reducible refine LeO.ite ?_ ?_)
      | (with_reducible refine LeO.bind ?_ (fun _ => ?_))
      | exact ih0 _ _ _ _ _ _ _ _ _
      | exact LeO.none _
      | refine LeO.ite ?_ ?_
      | refine LeO.bind ?_ (fun _ => ?_)
theorem plan_Check.mono : ∀ a0 a1 a2 a3 a4 a5 a6 a7 k, LeO (plan_Check.f k a0 a1 a2 a3 a4 a5 a6 a7) (plan_Check.f (k + 1) a0 a1 a2 a3 a4 a5 a6 a7) := by
  intro a0 a1 a2 a3 a4 a5 a6 a7 k
  have ih0 := plan_Check.mono_l k
  unfold plan_Check.f
  repeat' first
      | (with_reducible exact ih0 _ _ _ _ _ _ _ _ _)
      | (with_reducible exact LeO.refl _)
      | (with_reducible exact LeO.none _)
      | (with_reducible refine LeO.ite ?_ ?_)
      | (with_reducible refine LeO.bind ?_ (fun _ => ?_))
      | exact ih0 _ _ _ _ _ _ _ _ _
      | exact LeO.none _
      | refine LeO.ite ?_ ?_
      | refine LeO.bind ?_ (fun _ => ?_)
set_option maxHeartbeats 8000000 in
set_option maxRecDepth 100000 in
theorem plan_Check.calls (k : Nat) (a0_0 : Int) (a0_1 : Int) (A0_2 : Option Addr) (c0_2 : Nat) (l0_2 : List Int) (a0_3 : Int) (a0_4 : Int) (a0_5 : Int) (a0_6 : Int) (a0_7 : Int) (r : Option Int) (w : World) (hr0_2 : Kd.C (Kd.int .i64) w A0_2 l0_2.length l0_2) (hc0_2 : l0_2.length ≤ c0_2) (h : plan_Check.f k a0_0 a0_1 l0_2 a0_3 a0_4 a0_5 a0_6 a0_7 = some r) :
    Calls Try.prog 9 #[.agg #[.int .i64 a0_0, .int .i64 a0_1, .slice A0_2 l0_2.length c0_2, .int .i64 a0_3, .int .i64 a0_4, .int .i64 a0_5, .int .i64 a0_6, .int .i64 a0_7]] w fun e w' => e = .returned (errW r) ∧ Below w.heap.size w w' := by
  have hu24 := Try.underlying24
  have hu27 := Try.underlying27
  have hu29 := Try.underlying29
  have HR0_2 := Aside0.mk hr0_2
  have HC0_2 := Aside0.mk hc0_2
  clear hr0_2 hc0_2
  have HB := Aside0.mk (Below.refl w.heap.size w)
  have H : ((plan_within.f a0_1 5).bind fun t102 => (if t102 = true then (plan_Check.j0 k ((Go.bits .and .i64 a0_1 1) == 1) a0_0 a0_1 l0_2 a0_3 a0_4 a0_5 a0_6 a0_7) else (plan_Check.j0 k false a0_0 a0_1 l0_2 a0_3 a0_4 a0_5 a0_6 a0_7))) = some r := h
  clear h
  have HC2 := Aside0.mk H
  clear H
  go_enter Try.func9, Try.ntmps9
  go_upto_region 1 with (first | ((with_reducible refine gate_dst (N := 1) rfl ?_); (try (refine gate_guard (by rfl) ?_; dsimp only)); refine box_event ?hg (N := 1) ?hd (cs := #[.int .i64 a0_0, .int .i64 a0_1, .slice A0_2 l0_2.length c0_2, .int .i64 a0_3, .int .i64 a0_4, .int .i64 a0_5, .int .i64 a0_6, .int .i64 a0_7]) (t := 24) ?hr ?_; (case hd => rfl); (case hg => rfl); (case hr => first | (go_simp; done) | (go_simp; rfl)); intro gb101 hg w3 hbox hb; have n0_ := Aside0.mk (below_step (by repeat (first | (with_reducible first | exact HB.out | apply below_alloc | apply pw_below_drewN | apply below_drew1) | exact HB.out)) hb); have n1_ := Aside0.mk (hbox); have n2_ := Aside0.mk ((by rw [hg]; exact (below_size (by repeat (first | (with_reducible first | exact HB.out | apply below_alloc | apply pw_below_drewN | apply below_drew1) | exact HB.out))) : w.heap.size ≤ gb101)); have n3_ := Aside0.mk ((by rw [hg]; exact (below_size (by repeat (first | (with_reducible first | exact HB.out | apply below_alloc | apply pw_below_drewN | apply below_drew1) | exact HB.out))) : w.heap.size ≤ gb101)); clear HB; have HB := n0_; have BK101 := n1_; have GW101 := n2_; have GE101 := n3_; clear n0_ n1_ n2_ n3_; clear hb hbox hg))
  (try simp only [Act.put, List.setIfInBounds_toArray, List.set_cons_zero, List.set_cons_succ])
  go_cut [3] (fun v3 wc => ∃ (kq : Nat) (x3_1 : Bool), v3 = .bool x3_1 ∧ Aside0 (plan_Check.j0 kq x3_1 a0_0 a0_1 l0_2 a0_3 a0_4 a0_5 a0_6 a0_7 = some r) ∧ Aside0 (kq ≤ k) ∧ Aside0 (wc.heap[gb101]? = some (.cells #[.int .i64 a0_0, .int .i64 a0_1, (.slice A0_2 l0_2.length c0_2), .int .i64 a0_3, .int .i64 a0_4, .int .i64 a0_5, .int .i64 a0_6, .int .i64 a0_7] 24 (0, 0))) ∧ Aside0 (Below w.heap.size w wc))
  case first =>
    have H := HC2.out
    clear HC2
    replace H := Option.bind_eq_some_iff.mp H
    obtain ⟨t102, A40, H⟩ := H
    replace H : (if t102 = true then (plan_Check.j0 k ((Go.bits .and .i64 a0_1 1) == 1) a0_0 a0_1 l0_2 a0_3 a0_4 a0_5 a0_6 a0_7) else (plan_Check.j0 k false a0_0 a0_1 l0_2 a0_3 a0_4 a0_5 a0_6 a0_7)) = some r := H
    have A4 := Aside0.mk A40
    clear A40
    by_cases c5 : t102 = true
    · subst c5
      have H1 : (plan_Check.j0 k ((Go.bits .and .i64 a0_1 1) == 1) a0_0 a0_1 l0_2 a0_3 a0_4 a0_5 a0_6 a0_7) = some r := by rw [if_pos rfl] at H; exact H
      clear H
      have H := H1
      clear H1
      have H' := Aside0.mk H
      clear H
      have hcz6_0 : w3.cell? ⟨gb101, 0, none⟩ = some (.int .i64 a0_0) := (blk_cell BK101.out 0).trans rfl
      have hcz6_1 : w3.cell? ⟨gb101, 1, none⟩ = some (.int .i64 a0_1) := (blk_cell BK101.out 1).trans rfl
      have hcz6_2 : w3.cell? ⟨gb101, 2, none⟩ = some (.slice A0_2 l0_2.length c0_2) := (blk_cell BK101.out 2).trans rfl
      have hcz6_3 : w3.cell? ⟨gb101, 3, none⟩ = some (.int .i64 a0_3) := (blk_cell BK101.out 3).trans rfl
      have hcz6_4 : w3.cell? ⟨gb101, 4, none⟩ = some (.int .i64 a0_4) := (blk_cell BK101.out 4).trans rfl
      have hcz6_5 : w3.cell? ⟨gb101, 5, none⟩ = some (.int .i64 a0_5) := (blk_cell BK101.out 5).trans rfl
      have hcz6_6 : w3.cell? ⟨gb101, 6, none⟩ = some (.int .i64 a0_6) := (blk_cell BK101.out 6).trans rfl
      have hcz6_7 : w3.cell? ⟨gb101, 7, none⟩ = some (.int .i64 a0_7) := (blk_cell BK101.out 7).trans rfl
      have hfz6_0 := blk_frozen BK101.out 0
      have hfz6_1 := blk_frozen BK101.out 1
      have hfz6_2 := blk_frozen BK101.out 2
      have hfz6_3 := blk_frozen BK101.out 3
      have hfz6_4 := blk_frozen BK101.out 4
      have hfz6_5 := blk_frozen BK101.out 5
      have hfz6_6 := blk_frozen BK101.out 6
      have hfz6_7 := blk_frozen BK101.out 7
      go_wp2_with (first | ((with_reducible refine gate_callee (f := 21) rfl ?_); refine goesL_ (some 6) rfl rfl Try.func21 (by kernel_rfl) rfl #[.int .i64 a0_1, .int .i64 5] rfl (by (try simp only [List.map_toArray, List.map_cons, List.map_nil]); first | done | rfl | (simp only [List.length_drop, List.length_take]; rfl)) ?_; (with_reducible refine (plan_within.calls a0_1 5 true _ A4.out).mono ?_); rintro e w' ⟨rfl, ⟨nd, rfl⟩⟩; refine ⟨_, rfl, ?_⟩))
      go_meet
      case rel => exact ⟨_, (((Go.bits .and .i64 a0_1 1) == 1)), (by first | rfl | (simp; done) | (simp [*]; done)), H', ⟨by first | omega | exact Nat.le_refl _⟩, ⟨by (with_reducible repeat (first | refine blk_drewN ?_ _ | refine blk_drew ?_ | refine blk_alloc ?_ _)); exact BK101.out⟩, ⟨by repeat (first | (with_reducible first | exact HB.out | apply below_alloc | apply pw_below_drewN | apply below_drew1 | refine below_set ?_ GE101.out) | exact HB.out)⟩⟩
    · replace c5 := Bool.eq_false_iff.mpr c5
      subst c5
      have H1 : (plan_Check.j0 k false a0_0 a0_1 l0_2 a0_3 a0_4 a0_5 a0_6 a0_7) = some r := by rw [if_neg (show ¬ (false = true) by decide)] at H; exact H
      clear H
      have H := H1
      clear H1
      have H' := Aside0.mk H
      clear H
      have hcz7_0 : w3.cell? ⟨gb101, 0, none⟩ = some (.int .i64 a0_0) := (blk_cell BK101.out 0).trans rfl
      have hcz7_1 : w3.cell? ⟨gb101, 1, none⟩ = some (.int .i64 a0_1) := (blk_cell BK101.out 1).trans rfl
      have hcz7_2 : w3.cell? ⟨gb101, 2, none⟩ = some (.slice A0_2 l0_2.length c0_2) := (blk_cell BK101.out 2).trans rfl
      have hcz7_3 : w3.cell? ⟨gb101, 3, none⟩ = some (.int .i64 a0_3) := (blk_cell BK101.out 3).trans rfl
      have hcz7_4 : w3.cell? ⟨gb101, 4, none⟩ = some (.int .i64 a0_4) := (blk_cell BK101.out 4).trans rfl
      have hcz7_5 : w3.cell? ⟨gb101, 5, none⟩ = some (.int .i64 a0_5) := (blk_cell BK101.out 5).trans rfl
      have hcz7_6 : w3.cell? ⟨gb101, 6, none⟩ = some (.int .i64 a0_6) := (blk_cell BK101.out 6).trans rfl
      have hcz7_7 : w3.cell? ⟨gb101, 7, none⟩ = some (.int .i64 a0_7) := (blk_cell BK101.out 7).trans rfl
      have hfz7_0 := blk_frozen BK101.out 0
      have hfz7_1 := blk_frozen BK101.out 1
      have hfz7_2 := blk_frozen BK101.out 2
      have hfz7_3 := blk_frozen BK101.out 3
      have hfz7_4 := blk_frozen BK101.out 4
      have hfz7_5 := blk_frozen BK101.out 5
      have hfz7_6 := blk_frozen BK101.out 6
      have hfz7_7 := blk_frozen BK101.out 7
      go_wp2_with (first | ((with_reducible refine gate_callee (f := 21) rfl ?_); refine goesL_ (some 6) rfl rfl Try.func21 (by kernel_rfl) rfl #[.int .i64 a0_1, .int .i64 5] rfl (by (try simp only [List.map_toArray, List.map_cons, List.map_nil]); first | done | rfl | (simp only [List.length_drop, List.length_take]; rfl)) ?_; (with_reducible refine (plan_within.calls a0_1 5 false _ A4.out).mono ?_); rintro e w' ⟨rfl, ⟨nd, rfl⟩⟩; refine ⟨_, rfl, ?_⟩))
      go_meet
      case rel => exact ⟨_, (false), (by first | rfl | (simp; done) | (simp [*]; done)), H', ⟨by first | omega | exact Nat.le_refl _⟩, ⟨by (with_reducible repeat (first | refine blk_drewN ?_ _ | refine blk_drew ?_ | refine blk_alloc ?_ _)); exact BK101.out⟩, ⟨by repeat (first | (with_reducible first | exact HB.out | apply below_alloc | apply pw_below_drewN | apply below_drew1 | refine below_set ?_ GE101.out) | exact HB.out)⟩⟩
  case rest =>
    clear HC2
    try clear c2
    try clear p2
    try clear c5
    try clear hcz6_0
    try clear hcz6_1
    try clear hcz6_2
    try clear hcz6_3
    try clear hcz6_4
    try clear hcz6_5
    try clear hcz6_6
    try clear hcz6_7
    try clear hcz7_0
    try clear hcz7_1
    try clear hcz7_2
    try clear hcz7_3
    try clear hcz7_4
    try clear hcz7_5
    try clear hcz7_6
    try clear hcz7_7
    try clear hfz6_0
    try clear hfz6_1
    try clear hfz6_2
    try clear hfz6_3
    try clear hfz6_4
    try clear hfz6_5
    try clear hfz6_6
    try clear hfz6_7
    try clear hfz7_0
    try clear hfz7_1
    try clear hfz7_2
    try clear hfz7_3
    try clear hfz7_4
    try clear hfz7_5
    try clear hfz7_6
    try clear hfz7_7
    obtain ⟨kq, x3_1, rfl, HA, HJ1, BK101, HB⟩ := hcut
    cases kq with
    | zero => exact absurd HA.out (by simp [plan_Check.j0])
    | succ kj1 =>
      have H := HA.out
      clear HA
      simp only [plan_Check.j0] at H
      by_cases c8 : x3_1 = true
      · subst c8
        have H1 : ((plan_within.f a0_0 4).bind fun t103 => (if t103 = true then ((plan_within.f (l0_2.length : Int) 3).bind fun t104 => (if t104 = true then ((slices_Min_int_int.f l0_2).bind fun t105 => (if t105 < 1 then (some (some 14)) else ((plan_within.f a0_3 4).bind fun t106 => (if t106 = true then ((plan_within.f a0_4 64).bind fun t107 => (if t107 = true then ((plan_within.f a0_5 1024).bind fun t108 => (if t108 = true then ((plan_within.f a0_6 16).bind fun t109 => (if t109 = true then ((plan_within.f a0_7 20).bind fun t110 => (if t110 = true then (some none) else (some (some 14)))) else (some (some 14)))) else (some (some 14)))) else (some (some 14)))) else (some (some 14)))))) else (some (some 14)))) else (some (some 14)))) = some r := by rw [if_pos rfl] at H; exact H
        clear H
        have H := H1
        clear H1
        replace H := Option.bind_eq_some_iff.mp H
        obtain ⟨t103, A90, H⟩ := H
        replace H : (if t103 = true then ((plan_within.f (l0_2.length : Int) 3).bind fun t104 => (if t104 = true then ((slices_Min_int_int.f l0_2).bind fun t105 => (if t105 < 1 then (some (some 14)) else ((plan_within.f a0_3 4).bind fun t106 => (if t106 = true then ((plan_within.f a0_4 64).bind fun t107 => (if t107 = true then ((plan_within.f a0_5 1024).bind fun t108 => (if t108 = true then ((plan_within.f a0_6 16).bind fun t109 => (if t109 = true then ((plan_within.f a0_7 20).bind fun t110 => (if t110 = true then (some none) else (some (some 14)))) else (some (some 14)))) else (some (some 14)))) else (some (some 14)))) else (some (some 14)))))) else (some (some 14)))) else (some (some 14))) = some r := H
        have A9 := Aside0.mk A90
        clear A90
        by_cases c10 : t103 = true
        · subst c10
          have H1 : ((plan_within.f (l0_2.length : Int) 3).bind fun t104 => (if t104 = true then ((slices_Min_int_int.f l0_2).bind fun t105 => (if t105 < 1 then (some (some 14)) else ((plan_within.f a0_3 4).bind fun t106 => (if t106 = true then ((plan_within.f a0_4 64).bind fun t107 => (if t107 = true then ((plan_within.f a0_5 1024).bind fun t108 => (if t108 = true then ((plan_within.f a0_6 16).bind fun t109 => (if t109 = true then ((plan_within.f a0_7 20).bind fun t110 => (if t110 = true then (some none) else (some (some 14)))) else (some (some 14)))) else (some (some 14)))) else (some (some 14)))) else (some (some 14)))))) else (some (some 14)))) = some r := by rw [if_pos rfl] at H; exact H
          clear H
          have H := H1
          clear H1
          replace H := Option.bind_eq_some_iff.mp H
          obtain ⟨t104, A110, H⟩ := H
          replace H : (if t104 = true then ((slices_Min_int_int.f l0_2).bind fun t105 => (if t105 < 1 then (some (some 14)) else ((plan_within.f a0_3 4).bind fun t106 => (if t106 = true then ((plan_within.f a0_4 64).bind fun t107 => (if t107 = true then ((plan_within.f a0_5 1024).bind fun t108 => (if t108 = true then ((plan_within.f a0_6 16).bind fun t109 => (if t109 = true then ((plan_within.f a0_7 20).bind fun t110 => (if t110 = true then (some none) else (some (some 14)))) else (some (some 14)))) else (some (some 14)))) else (some (some 14)))) else (some (some 14)))))) else (some (some 14))) = some r := H
          have A11 := Aside0.mk A110
          clear A110
          by_cases c12 : t104 = true
          · subst c12
            have H1 : ((slices_Min_int_int.f l0_2).bind fun t105 => (if t105 < 1 then (some (some 14)) else ((plan_within.f a0_3 4).bind fun t106 => (if t106 = true then ((plan_within.f a0_4 64).bind fun t107 => (if t107 = true then ((plan_within.f a0_5 1024).bind fun t108 => (if t108 = true then ((plan_within.f a0_6 16).bind fun t109 => (if t109 = true then ((plan_within.f a0_7 20).bind fun t110 => (if t110 = true then (some none) else (some (some 14)))) else (some (some 14)))) else (some (some 14)))) else (some (some 14)))) else (some (some 14)))))) = some r := by rw [if_pos rfl] at H; exact H
            clear H
            have H := H1
            clear H1
            replace H := Option.bind_eq_some_iff.mp H
            obtain ⟨t105, A130, H⟩ := H
            replace H : (if t105 < 1 then (some (some 14)) else ((plan_within.f a0_3 4).bind fun t106 => (if t106 = true then ((plan_within.f a0_4 64).bind fun t107 => (if t107 = true then ((plan_within.f a0_5 1024).bind fun t108 => (if t108 = true then ((plan_within.f a0_6 16).bind fun t109 => (if t109 = true then ((plan_within.f a0_7 20).bind fun t110 => (if t110 = true then (some none) else (some (some 14)))) else (some (some 14)))) else (some (some 14)))) else (some (some 14)))) else (some (some 14))))) = some r := H
            have A13 := Aside0.mk A130
            clear A130
            by_cases c14 : t105 < 1
            · rw [if_pos c14] at H
              have c14b0 : decide (t105 < 1) = true := decide_eq_true c14
              clear c14
              obtain rfl := Option.some.inj H
              have hcz15_0 : wc.cell? ⟨gb101, 0, none⟩ = some (.int .i64 a0_0) := (blk_cell BK101.out 0).trans rfl
              have hcz15_1 : wc.cell? ⟨gb101, 1, none⟩ = some (.int .i64 a0_1) := (blk_cell BK101.out 1).trans rfl
              have hcz15_2 : wc.cell? ⟨gb101, 2, none⟩ = some (.slice A0_2 l0_2.length c0_2) := (blk_cell BK101.out 2).trans rfl
              have hcz15_3 : wc.cell? ⟨gb101, 3, none⟩ = some (.int .i64 a0_3) := (blk_cell BK101.out 3).trans rfl
              have hcz15_4 : wc.cell? ⟨gb101, 4, none⟩ = some (.int .i64 a0_4) := (blk_cell BK101.out 4).trans rfl
              have hcz15_5 : wc.cell? ⟨gb101, 5, none⟩ = some (.int .i64 a0_5) := (blk_cell BK101.out 5).trans rfl
              have hcz15_6 : wc.cell? ⟨gb101, 6, none⟩ = some (.int .i64 a0_6) := (blk_cell BK101.out 6).trans rfl
              have hcz15_7 : wc.cell? ⟨gb101, 7, none⟩ = some (.int .i64 a0_7) := (blk_cell BK101.out 7).trans rfl
              have hfz15_0 := blk_frozen BK101.out 0
              have hfz15_1 := blk_frozen BK101.out 1
              have hfz15_2 := blk_frozen BK101.out 2
              have hfz15_3 := blk_frozen BK101.out 3
              have hfz15_4 := blk_frozen BK101.out 4
              have hfz15_5 := blk_frozen BK101.out 5
              have hfz15_6 := blk_frozen BK101.out 6
              have hfz15_7 := blk_frozen BK101.out 7
              go_wp2_with (first | (go_at_call 21; (with_reducible refine (plan_within.calls a0_0 4 true _ A9.out).mono ?_); rintro e w' ⟨rfl, ⟨nd, rfl⟩⟩) | (go_at_call 21; (with_reducible refine (plan_within.calls (l0_2.length : Int) 3 true _ A11.out).mono ?_); rintro e w' ⟨rfl, ⟨nd, rfl⟩⟩) | (go_at_call 22; (with_reducible refine (slices_Min_int_int.calls _ _ l0_2 t105 _ ?side1 ?side2 A13.out).mono ?_); (case side1 => repeat (first | exact (Kd.C_below HR0_2.out (by repeat (first | (with_reducible first | exact HB.out | apply below_alloc | apply pw_below_drewN | apply below_drew1 | refine below_set ?_ GE101.out) | exact HB.out))) | (with_reducible refine Kd.C_alloc ?_ _) | (with_reducible refine Kd.C_drewN ?_ _) | (with_reducible refine Kd.C_drew ?_))); (case side2 => exact HC0_2.out); rintro e w' ⟨rfl, ⟨nd, rfl⟩⟩))
              go_ret
              exact ⟨by first | rfl | (simp [errW_none, errW_some] <;> rfl) | (simp [*, errW_none, errW_some] <;> rfl), by repeat (first | (with_reducible first | exact HB.out | apply below_alloc | apply pw_below_drewN | apply below_drew1 | refine below_set ?_ GE101.out) | exact HB.out)⟩
            · rw [if_neg c14] at H
              have c14b0 : decide (t105 < 1) = false := decide_eq_false c14
              clear c14
              replace H := Option.bind_eq_some_iff.mp H
              obtain ⟨t106, A160, H⟩ := H
              replace H : (if t106 = true then ((plan_within.f a0_4 64).bind fun t107 => (if t107 = true then ((plan_within.f a0_5 1024).bind fun t108 => (if t108 = true then ((plan_within.f a0_6 16).bind fun t109 => (if t109 = true then ((plan_within.f a0_7 20).bind fun t110 => (if t110 = true then (some none) else (some (some 14)))) else (some (some 14)))) else (some (some 14)))) else (some (some 14)))) else (some (some 14))) = some r := H
              have A16 := Aside0.mk A160
              clear A160
              by_cases c17 : t106 = true
              · subst c17
                have H1 : ((plan_within.f a0_4 64).bind fun t107 => (if t107 = true then ((plan_within.f a0_5 1024).bind fun t108 => (if t108 = true then ((plan_within.f a0_6 16).bind fun t109 => (if t109 = true then ((plan_within.f a0_7 20).bind fun t110 => (if t110 = true then (some none) else (some (some 14)))) else (some (some 14)))) else (some (some 14)))) else (some (some 14)))) = some r := by rw [if_pos rfl] at H; exact H
                clear H
                have H := H1
                clear H1
                replace H := Option.bind_eq_some_iff.mp H
                obtain ⟨t107, A180, H⟩ := H
                replace H : (if t107 = true then ((plan_within.f a0_5 1024).bind fun t108 => (if t108 = true then ((plan_within.f a0_6 16).bind fun t109 => (if t109 = true then ((plan_within.f a0_7 20).bind fun t110 => (if t110 = true then (some none) else (some (some 14)))) else (some (some 14)))) else (some (some 14)))) else (some (some 14))) = some r := H
                have A18 := Aside0.mk A180
                clear A180
                by_cases c19 : t107 = true
                · subst c19
                  have H1 : ((plan_within.f a0_5 1024).bind fun t108 => (if t108 = true then ((plan_within.f a0_6 16).bind fun t109 => (if t109 = true then ((plan_within.f a0_7 20).bind fun t110 => (if t110 = true then (some none) else (some (some 14)))) else (some (some 14)))) else (some (some 14)))) = some r := by rw [if_pos rfl] at H; exact H
                  clear H
                  have H := H1
                  clear H1
                  replace H := Option.bind_eq_some_iff.mp H
                  obtain ⟨t108, A200, H⟩ := H
                  replace H : (if t108 = true then ((plan_within.f a0_6 16).bind fun t109 => (if t109 = true then ((plan_within.f a0_7 20).bind fun t110 => (if t110 = true then (some none) else (some (some 14)))) else (some (some 14)))) else (some (some 14))) = some r := H
                  have A20 := Aside0.mk A200
                  clear A200
                  by_cases c21 : t108 = true
                  · subst c21
                    have H1 : ((plan_within.f a0_6 16).bind fun t109 => (if t109 = true then ((plan_within.f a0_7 20).bind fun t110 => (if t110 = true then (some none) else (some (some 14)))) else (some (some 14)))) = some r := by rw [if_pos rfl] at H; exact H
                    clear H
                    have H := H1
                    clear H1
                    replace H := Option.bind_eq_some_iff.mp H
                    obtain ⟨t109, A220, H⟩ := H
                    replace H : (if t109 = true then ((plan_within.f a0_7 20).bind fun t110 => (if t110 = true then (some none) else (some (some 14)))) else (some (some 14))) = some r := H
                    have A22 := Aside0.mk A220
                    clear A220
                    by_cases c23 : t109 = true
                    · subst c23
                      have H1 : ((plan_within.f a0_7 20).bind fun t110 => (if t110 = true then (some none) else (some (some 14)))) = some r := by rw [if_pos rfl] at H; exact H
                      clear H
                      have H := H1
                      clear H1
                      replace H := Option.bind_eq_some_iff.mp H
                      obtain ⟨t110, A240, H⟩ := H
                      replace H : (if t110 = true then (some none) else (some (some 14))) = some r := H
                      have A24 := Aside0.mk A240
                      clear A240
                      by_cases c25 : t110 = true
                      · subst c25
                        have H1 : (some none) = some r := by rw [if_pos rfl] at H; exact H
                        clear H
                        have H := H1
                        clear H1
                        obtain rfl := Option.some.inj H
                        have hcz26_0 : wc.cell? ⟨gb101, 0, none⟩ = some (.int .i64 a0_0) := (blk_cell BK101.out 0).trans rfl
                        have hcz26_1 : wc.cell? ⟨gb101, 1, none⟩ = some (.int .i64 a0_1) := (blk_cell BK101.out 1).trans rfl
                        have hcz26_2 : wc.cell? ⟨gb101, 2, none⟩ = some (.slice A0_2 l0_2.length c0_2) := (blk_cell BK101.out 2).trans rfl
                        have hcz26_3 : wc.cell? ⟨gb101, 3, none⟩ = some (.int .i64 a0_3) := (blk_cell BK101.out 3).trans rfl
                        have hcz26_4 : wc.cell? ⟨gb101, 4, none⟩ = some (.int .i64 a0_4) := (blk_cell BK101.out 4).trans rfl
                        have hcz26_5 : wc.cell? ⟨gb101, 5, none⟩ = some (.int .i64 a0_5) := (blk_cell BK101.out 5).trans rfl
                        have hcz26_6 : wc.cell? ⟨gb101, 6, none⟩ = some (.int .i64 a0_6) := (blk_cell BK101.out 6).trans rfl
                        have hcz26_7 : wc.cell? ⟨gb101, 7, none⟩ = some (.int .i64 a0_7) := (blk_cell BK101.out 7).trans rfl
                        have hfz26_0 := blk_frozen BK101.out 0
                        have hfz26_1 := blk_frozen BK101.out 1
                        have hfz26_2 := blk_frozen BK101.out 2
                        have hfz26_3 := blk_frozen BK101.out 3
                        have hfz26_4 := blk_frozen BK101.out 4
                        have hfz26_5 := blk_frozen BK101.out 5
                        have hfz26_6 := blk_frozen BK101.out 6
                        have hfz26_7 := blk_frozen BK101.out 7
                        go_wp2_with (first | (go_at_call 21; (with_reducible refine (plan_within.calls a0_0 4 true _ A9.out).mono ?_); rintro e w' ⟨rfl, ⟨nd, rfl⟩⟩) | (go_at_call 21; (with_reducible refine (plan_within.calls (l0_2.length : Int) 3 true _ A11.out).mono ?_); rintro e w' ⟨rfl, ⟨nd, rfl⟩⟩) | (go_at_call 22; (with_reducible refine (slices_Min_int_int.calls _ _ l0_2 t105 _ ?side1 ?side2 A13.out).mono ?_); (case side1 => repeat (first | exact (Kd.C_below HR0_2.out (by repeat (first | (with_reducible first | exact HB.out | apply below_alloc | apply pw_below_drewN | apply below_drew1 | refine below_set ?_ GE101.out) | exact HB.out))) | (with_reducible refine Kd.C_alloc ?_ _) | (with_reducible refine Kd.C_drewN ?_ _) | (with_reducible refine Kd.C_drew ?_))); (case side2 => exact HC0_2.out); rintro e w' ⟨rfl, ⟨nd, rfl⟩⟩) | (go_at_call 21; (with_reducible refine (plan_within.calls a0_3 4 true _ A16.out).mono ?_); rintro e w' ⟨rfl, ⟨nd, rfl⟩⟩) | (go_at_call 21; (with_reducible refine (plan_within.calls a0_4 64 true _ A18.out).mono ?_); rintro e w' ⟨rfl, ⟨nd, rfl⟩⟩) | (go_at_call 21; (with_reducible refine (plan_within.calls a0_5 1024 true _ A20.out).mono ?_); rintro e w' ⟨rfl, ⟨nd, rfl⟩⟩) | (go_at_call 21; (with_reducible refine (plan_within.calls a0_6 16 true _ A22.out).mono ?_); rintro e w' ⟨rfl, ⟨nd, rfl⟩⟩) | (go_at_call 21; (with_reducible refine (plan_within.calls a0_7 20 true _ A24.out).mono ?_); rintro e w' ⟨rfl, ⟨nd, rfl⟩⟩))
                        go_ret
                        exact ⟨by first | rfl | (simp [errW_none, errW_some] <;> rfl) | (simp [*, errW_none, errW_some] <;> rfl), by repeat (first | (with_reducible first | exact HB.out | apply below_alloc | apply pw_below_drewN | apply below_drew1 | refine below_set ?_ GE101.out) | exact HB.out)⟩
                      · replace c25 := Bool.eq_false_iff.mpr c25
                        subst c25
                        have H1 : (some (some 14)) = some r := by rw [if_neg (show ¬ (false = true) by decide)] at H; exact H
                        clear H
                        have H := H1
                        clear H1
                        obtain rfl := Option.some.inj H
                        have hcz27_0 : wc.cell? ⟨gb101, 0, none⟩ = some (.int .i64 a0_0) := (blk_cell BK101.out 0).trans rfl
                        have hcz27_1 : wc.cell? ⟨gb101, 1, none⟩ = some (.int .i64 a0_1) := (blk_cell BK101.out 1).trans rfl
                        have hcz27_2 : wc.cell? ⟨gb101, 2, none⟩ = some (.slice A0_2 l0_2.length c0_2) := (blk_cell BK101.out 2).trans rfl
                        have hcz27_3 : wc.cell? ⟨gb101, 3, none⟩ = some (.int .i64 a0_3) := (blk_cell BK101.out 3).trans rfl
                        have hcz27_4 : wc.cell? ⟨gb101, 4, none⟩ = some (.int .i64 a0_4) := (blk_cell BK101.out 4).trans rfl
                        have hcz27_5 : wc.cell? ⟨gb101, 5, none⟩ = some (.int .i64 a0_5) := (blk_cell BK101.out 5).trans rfl
                        have hcz27_6 : wc.cell? ⟨gb101, 6, none⟩ = some (.int .i64 a0_6) := (blk_cell BK101.out 6).trans rfl
                        have hcz27_7 : wc.cell? ⟨gb101, 7, none⟩ = some (.int .i64 a0_7) := (blk_cell BK101.out 7).trans rfl
                        have hfz27_0 := blk_frozen BK101.out 0
                        have hfz27_1 := blk_frozen BK101.out 1
                        have hfz27_2 := blk_frozen BK101.out 2
                        have hfz27_3 := blk_frozen BK101.out 3
                        have hfz27_4 := blk_frozen BK101.out 4
                        have hfz27_5 := blk_frozen BK101.out 5
                        have hfz27_6 := blk_frozen BK101.out 6
                        have hfz27_7 := blk_frozen BK101.out 7
                        go_wp2_with (first | (go_at_call 21; (with_reducible refine (plan_within.calls a0_0 4 true _ A9.out).mono ?_); rintro e w' ⟨rfl, ⟨nd, rfl⟩⟩) | (go_at_call 21; (with_reducible refine (plan_within.calls (l0_2.length : Int) 3 true _ A11.out).mono ?_); rintro e w' ⟨rfl, ⟨nd, rfl⟩⟩) | (go_at_call 22; (with_reducible refine (slices_Min_int_int.calls _ _ l0_2 t105 _ ?side1 ?side2 A13.out).mono ?_); (case side1 => repeat (first | exact (Kd.C_below HR0_2.out (by repeat (first | (with_reducible first | exact HB.out | apply below_alloc | apply pw_below_drewN | apply below_drew1 | refine below_set ?_ GE101.out) | exact HB.out))) | (with_reducible refine Kd.C_alloc ?_ _) | (with_reducible refine Kd.C_drewN ?_ _) | (with_reducible refine Kd.C_drew ?_))); (case side2 => exact HC0_2.out); rintro e w' ⟨rfl, ⟨nd, rfl⟩⟩) | (go_at_call 21; (with_reducible refine (plan_within.calls a0_3 4 true _ A16.out).mono ?_); rintro e w' ⟨rfl, ⟨nd, rfl⟩⟩) | (go_at_call 21; (with_reducible refine (plan_within.calls a0_4 64 true _ A18.out).mono ?_); rintro e w' ⟨rfl, ⟨nd, rfl⟩⟩) | (go_at_call 21; (with_reducible refine (plan_within.calls a0_5 1024 true _ A20.out).mono ?_); rintro e w' ⟨rfl, ⟨nd, rfl⟩⟩) | (go_at_call 21; (with_reducible refine (plan_within.calls a0_6 16 true _ A22.out).mono ?_); rintro e w' ⟨rfl, ⟨nd, rfl⟩⟩) | (go_at_call 21; (with_reducible refine (plan_within.calls a0_7 20 false _ A24.out).mono ?_); rintro e w' ⟨rfl, ⟨nd, rfl⟩⟩))
                        go_ret
                        exact ⟨by first | rfl | (simp [errW_none, errW_some] <;> rfl) | (simp [*, errW_none, errW_some] <;> rfl), by repeat (first | (with_reducible first | exact HB.out | apply below_alloc | apply pw_below_drewN | apply below_drew1 | refine below_set ?_ GE101.out) | exact HB.out)⟩
                    · replace c23 := Bool.eq_false_iff.mpr c23
                      subst c23
                      have H1 : (some (some 14)) = some r := by rw [if_neg (show ¬ (false = true) by decide)] at H; exact H
                      clear H
                      have H := H1
                      clear H1
                      obtain rfl := Option.some.inj H
                      have hcz28_0 : wc.cell? ⟨gb101, 0, none⟩ = some (.int .i64 a0_0) := (blk_cell BK101.out 0).trans rfl
                      have hcz28_1 : wc.cell? ⟨gb101, 1, none⟩ = some (.int .i64 a0_1) := (blk_cell BK101.out 1).trans rfl
                      have hcz28_2 : wc.cell? ⟨gb101, 2, none⟩ = some (.slice A0_2 l0_2.length c0_2) := (blk_cell BK101.out 2).trans rfl
                      have hcz28_3 : wc.cell? ⟨gb101, 3, none⟩ = some (.int .i64 a0_3) := (blk_cell BK101.out 3).trans rfl
                      have hcz28_4 : wc.cell? ⟨gb101, 4, none⟩ = some (.int .i64 a0_4) := (blk_cell BK101.out 4).trans rfl
                      have hcz28_5 : wc.cell? ⟨gb101, 5, none⟩ = some (.int .i64 a0_5) := (blk_cell BK101.out 5).trans rfl
                      have hcz28_6 : wc.cell? ⟨gb101, 6, none⟩ = some (.int .i64 a0_6) := (blk_cell BK101.out 6).trans rfl
                      have hcz28_7 : wc.cell? ⟨gb101, 7, none⟩ = some (.int .i64 a0_7) := (blk_cell BK101.out 7).trans rfl
                      have hfz28_0 := blk_frozen BK101.out 0
                      have hfz28_1 := blk_frozen BK101.out 1
                      have hfz28_2 := blk_frozen BK101.out 2
                      have hfz28_3 := blk_frozen BK101.out 3
                      have hfz28_4 := blk_frozen BK101.out 4
                      have hfz28_5 := blk_frozen BK101.out 5
                      have hfz28_6 := blk_frozen BK101.out 6
                      have hfz28_7 := blk_frozen BK101.out 7
                      go_wp2_with (first | (go_at_call 21; (with_reducible refine (plan_within.calls a0_0 4 true _ A9.out).mono ?_); rintro e w' ⟨rfl, ⟨nd, rfl⟩⟩) | (go_at_call 21; (with_reducible refine (plan_within.calls (l0_2.length : Int) 3 true _ A11.out).mono ?_); rintro e w' ⟨rfl, ⟨nd, rfl⟩⟩) | (go_at_call 22; (with_reducible refine (slices_Min_int_int.calls _ _ l0_2 t105 _ ?side1 ?side2 A13.out).mono ?_); (case side1 => repeat (first | exact (Kd.C_below HR0_2.out (by repeat (first | (with_reducible first | exact HB.out | apply below_alloc | apply pw_below_drewN | apply below_drew1 | refine below_set ?_ GE101.out) | exact HB.out))) | (with_reducible refine Kd.C_alloc ?_ _) | (with_reducible refine Kd.C_drewN ?_ _) | (with_reducible refine Kd.C_drew ?_))); (case side2 => exact HC0_2.out); rintro e w' ⟨rfl, ⟨nd, rfl⟩⟩) | (go_at_call 21; (with_reducible refine (plan_within.calls a0_3 4 true _ A16.out).mono ?_); rintro e w' ⟨rfl, ⟨nd, rfl⟩⟩) | (go_at_call 21; (with_reducible refine (plan_within.calls a0_4 64 true _ A18.out).mono ?_); rintro e w' ⟨rfl, ⟨nd, rfl⟩⟩) | (go_at_call 21; (with_reducible refine (plan_within.calls a0_5 1024 true _ A20.out).mono ?_); rintro e w' ⟨rfl, ⟨nd, rfl⟩⟩) | (go_at_call 21; (with_reducible refine (plan_within.calls a0_6 16 false _ A22.out).mono ?_); rintro e w' ⟨rfl, ⟨nd, rfl⟩⟩))
                      go_ret
                      exact ⟨by first | rfl | (simp [errW_none, errW_some] <;> rfl) | (simp [*, errW_none, errW_some] <;> rfl), by repeat (first | (with_reducible first | exact HB.out | apply below_alloc | apply pw_below_drewN | apply below_drew1 | refine below_set ?_ GE101.out) | exact HB.out)⟩
                  · replace c21 := Bool.eq_false_iff.mpr c21
                    subst c21
                    have H1 : (some (some 14)) = some r := by rw [if_neg (show ¬ (false = true) by decide)] at H; exact H
                    clear H
                    have H := H1
                    clear H1
                    obtain rfl := Option.some.inj H
                    have hcz29_0 : wc.cell? ⟨gb101, 0, none⟩ = some (.int .i64 a0_0) := (blk_cell BK101.out 0).trans rfl
                    have hcz29_1 : wc.cell? ⟨gb101, 1, none⟩ = some (.int .i64 a0_1) := (blk_cell BK101.out 1).trans rfl
                    have hcz29_2 : wc.cell? ⟨gb101, 2, none⟩ = some (.slice A0_2 l0_2.length c0_2) := (blk_cell BK101.out 2).trans rfl
                    have hcz29_3 : wc.cell? ⟨gb101, 3, none⟩ = some (.int .i64 a0_3) := (blk_cell BK101.out 3).trans rfl
                    have hcz29_4 : wc.cell? ⟨gb101, 4, none⟩ = some (.int .i64 a0_4) := (blk_cell BK101.out 4).trans rfl
                    have hcz29_5 : wc.cell? ⟨gb101, 5, none⟩ = some (.int .i64 a0_5) := (blk_cell BK101.out 5).trans rfl
                    have hcz29_6 : wc.cell? ⟨gb101, 6, none⟩ = some (.int .i64 a0_6) := (blk_cell BK101.out 6).trans rfl
                    have hcz29_7 : wc.cell? ⟨gb101, 7, none⟩ = some (.int .i64 a0_7) := (blk_cell BK101.out 7).trans rfl
                    have hfz29_0 := blk_frozen BK101.out 0
                    have hfz29_1 := blk_frozen BK101.out 1
                    have hfz29_2 := blk_frozen BK101.out 2
                    have hfz29_3 := blk_frozen BK101.out 3
                    have hfz29_4 := blk_frozen BK101.out 4
                    have hfz29_5 := blk_frozen BK101.out 5
                    have hfz29_6 := blk_frozen BK101.out 6
                    have hfz29_7 := blk_frozen BK101.out 7
                    go_wp2_with (first | (go_at_call 21; (with_reducible refine (plan_within.calls a0_0 4 true _ A9.out).mono ?_); rintro e w' ⟨rfl, ⟨nd, rfl⟩⟩) | (go_at_call 21; (with_reducible refine (plan_within.calls (l0_2.length : Int) 3 true _ A11.out).mono ?_); rintro e w' ⟨rfl, ⟨nd, rfl⟩⟩) | (go_at_call 22; (with_reducible refine (slices_Min_int_int.calls _ _ l0_2 t105 _ ?side1 ?side2 A13.out).mono ?_); (case side1 => repeat (first | exact (Kd.C_below HR0_2.out (by repeat (first | (with_reducible first | exact HB.out | apply below_alloc | apply pw_below_drewN | apply below_drew1 | refine below_set ?_ GE101.out) | exact HB.out))) | (with_reducible refine Kd.C_alloc ?_ _) | (with_reducible refine Kd.C_drewN ?_ _) | (with_reducible refine Kd.C_drew ?_))); (case side2 => exact HC0_2.out); rintro e w' ⟨rfl, ⟨nd, rfl⟩⟩) | (go_at_call 21; (with_reducible refine (plan_within.calls a0_3 4 true _ A16.out).mono ?_); rintro e w' ⟨rfl, ⟨nd, rfl⟩⟩) | (go_at_call 21; (with_reducible refine (plan_within.calls a0_4 64 true _ A18.out).mono ?_); rintro e w' ⟨rfl, ⟨nd, rfl⟩⟩) | (go_at_call 21; (with_reducible refine (plan_within.calls a0_5 1024 false _ A20.out).mono ?_); rintro e w' ⟨rfl, ⟨nd, rfl⟩⟩))
                    go_ret
                    exact ⟨by first | rfl | (simp [errW_none, errW_some] <;> rfl) | (simp [*, errW_none, errW_some] <;> rfl), by repeat (first | (with_reducible first | exact HB.out | apply below_alloc | apply pw_below_drewN | apply below_drew1 | refine below_set ?_ GE101.out) | exact HB.out)⟩
                · replace c19 := Bool.eq_false_iff.mpr c19
                  subst c19
                  have H1 : (some (some 14)) = some r := by rw [if_neg (show ¬ (false = true) by decide)] at H; exact H
                  clear H
                  have H := H1
                  clear H1
                  obtain rfl := Option.some.inj H
                  have hcz30_0 : wc.cell? ⟨gb101, 0, none⟩ = some (.int .i64 a0_0) := (blk_cell BK101.out 0).trans rfl
                  have hcz30_1 : wc.cell? ⟨gb101, 1, none⟩ = some (.int .i64 a0_1) := (blk_cell BK101.out 1).trans rfl
                  have hcz30_2 : wc.cell? ⟨gb101, 2, none⟩ = some (.slice A0_2 l0_2.length c0_2) := (blk_cell BK101.out 2).trans rfl
                  have hcz30_3 : wc.cell? ⟨gb101, 3, none⟩ = some (.int .i64 a0_3) := (blk_cell BK101.out 3).trans rfl
                  have hcz30_4 : wc.cell? ⟨gb101, 4, none⟩ = some (.int .i64 a0_4) := (blk_cell BK101.out 4).trans rfl
                  have hcz30_5 : wc.cell? ⟨gb101, 5, none⟩ = some (.int .i64 a0_5) := (blk_cell BK101.out 5).trans rfl
                  have hcz30_6 : wc.cell? ⟨gb101, 6, none⟩ = some (.int .i64 a0_6) := (blk_cell BK101.out 6).trans rfl
                  have hcz30_7 : wc.cell? ⟨gb101, 7, none⟩ = some (.int .i64 a0_7) := (blk_cell BK101.out 7).trans rfl
                  have hfz30_0 := blk_frozen BK101.out 0
                  have hfz30_1 := blk_frozen BK101.out 1
                  have hfz30_2 := blk_frozen BK101.out 2
                  have hfz30_3 := blk_frozen BK101.out 3
                  have hfz30_4 := blk_frozen BK101.out 4
                  have hfz30_5 := blk_frozen BK101.out 5
                  have hfz30_6 := blk_frozen BK101.out 6
                  have hfz30_7 := blk_frozen BK101.out 7
                  go_wp2_with (first | (go_at_call 21; (with_reducible refine (plan_within.calls a0_0 4 true _ A9.out).mono ?_); rintro e w' ⟨rfl, ⟨nd, rfl⟩⟩) | (go_at_call 21; (with_reducible refine (plan_within.calls (l0_2.length : Int) 3 true _ A11.out).mono ?_); rintro e w' ⟨rfl, ⟨nd, rfl⟩⟩) | (go_at_call 22; (with_reducible refine (slices_Min_int_int.calls _ _ l0_2 t105 _ ?side1 ?side2 A13.out).mono ?_); (case side1 => repeat (first | exact (Kd.C_below HR0_2.out (by repeat (first | (with_reducible first | exact HB.out | apply below_alloc | apply pw_below_drewN | apply below_drew1 | refine below_set ?_ GE101.out) | exact HB.out))) | (with_reducible refine Kd.C_alloc ?_ _) | (with_reducible refine Kd.C_drewN ?_ _) | (with_reducible refine Kd.C_drew ?_))); (case side2 => exact HC0_2.out); rintro e w' ⟨rfl, ⟨nd, rfl⟩⟩) | (go_at_call 21; (with_reducible refine (plan_within.calls a0_3 4 true _ A16.out).mono ?_); rintro e w' ⟨rfl, ⟨nd, rfl⟩⟩) | (go_at_call 21; (with_reducible refine (plan_within.calls a0_4 64 false _ A18.out).mono ?_); rintro e w' ⟨rfl, ⟨nd, rfl⟩⟩))
                  go_ret
                  exact ⟨by first | rfl | (simp [errW_none, errW_some] <;> rfl) | (simp [*, errW_none, errW_some] <;> rfl), by repeat (first | (with_reducible first | exact HB.out | apply below_alloc | apply pw_below_drewN | apply below_drew1 | refine below_set ?_ GE101.out) | exact HB.out)⟩
              · replace c17 := Bool.eq_false_iff.mpr c17
                subst c17
                have H1 : (some (some 14)) = some r := by rw [if_neg (show ¬ (false = true) by decide)] at H; exact H
                clear H
                have H := H1
                clear H1
                obtain rfl := Option.some.inj H
                have hcz31_0 : wc.cell? ⟨gb101, 0, none⟩ = some (.int .i64 a0_0) := (blk_cell BK101.out 0).trans rfl
                have hcz31_1 : wc.cell? ⟨gb101, 1, none⟩ = some (.int .i64 a0_1) := (blk_cell BK101.out 1).trans rfl
                have hcz31_2 : wc.cell? ⟨gb101, 2, none⟩ = some (.slice A0_2 l0_2.length c0_2) := (blk_cell BK101.out 2).trans rfl
                have hcz31_3 : wc.cell? ⟨gb101, 3, none⟩ = some (.int .i64 a0_3) := (blk_cell BK101.out 3).trans rfl
                have hcz31_4 : wc.cell? ⟨gb101, 4, none⟩ = some (.int .i64 a0_4) := (blk_cell BK101.out 4).trans rfl
                have hcz31_5 : wc.cell? ⟨gb101, 5, none⟩ = some (.int .i64 a0_5) := (blk_cell BK101.out 5).trans rfl
                have hcz31_6 : wc.cell? ⟨gb101, 6, none⟩ = some (.int .i64 a0_6) := (blk_cell BK101.out 6).trans rfl
                have hcz31_7 : wc.cell? ⟨gb101, 7, none⟩ = some (.int .i64 a0_7) := (blk_cell BK101.out 7).trans rfl
                have hfz31_0 := blk_frozen BK101.out 0
                have hfz31_1 := blk_frozen BK101.out 1
                have hfz31_2 := blk_frozen BK101.out 2
                have hfz31_3 := blk_frozen BK101.out 3
                have hfz31_4 := blk_frozen BK101.out 4
                have hfz31_5 := blk_frozen BK101.out 5
                have hfz31_6 := blk_frozen BK101.out 6
                have hfz31_7 := blk_frozen BK101.out 7
                go_wp2_with (first | (go_at_call 21; (with_reducible refine (plan_within.calls a0_0 4 true _ A9.out).mono ?_); rintro e w' ⟨rfl, ⟨nd, rfl⟩⟩) | (go_at_call 21; (with_reducible refine (plan_within.calls (l0_2.length : Int) 3 true _ A11.out).mono ?_); rintro e w' ⟨rfl, ⟨nd, rfl⟩⟩) | (go_at_call 22; (with_reducible refine (slices_Min_int_int.calls _ _ l0_2 t105 _ ?side1 ?side2 A13.out).mono ?_); (case side1 => repeat (first | exact (Kd.C_below HR0_2.out (by repeat (first | (with_reducible first | exact HB.out | apply below_alloc | apply pw_below_drewN | apply below_drew1 | refine below_set ?_ GE101.out) | exact HB.out))) | (with_reducible refine Kd.C_alloc ?_ _) | (with_reducible refine Kd.C_drewN ?_ _) | (with_reducible refine Kd.C_drew ?_))); (case side2 => exact HC0_2.out); rintro e w' ⟨rfl, ⟨nd, rfl⟩⟩) | (go_at_call 21; (with_reducible refine (plan_within.calls a0_3 4 false _ A16.out).mono ?_); rintro e w' ⟨rfl, ⟨nd, rfl⟩⟩))
                go_ret
                exact ⟨by first | rfl | (simp [errW_none, errW_some] <;> rfl) | (simp [*, errW_none, errW_some] <;> rfl), by repeat (first | (with_reducible first | exact HB.out | apply below_alloc | apply pw_below_drewN | apply below_drew1 | refine below_set ?_ GE101.out) | exact HB.out)⟩
          · replace c12 := Bool.eq_false_iff.mpr c12
            subst c12
            have H1 : (some (some 14)) = some r := by rw [if_neg (show ¬ (false = true) by decide)] at H; exact H
            clear H
            have H := H1
            clear H1
            obtain rfl := Option.some.inj H
            have hcz32_0 : wc.cell? ⟨gb101, 0, none⟩ = some (.int .i64 a0_0) := (blk_cell BK101.out 0).trans rfl
            have hcz32_1 : wc.cell? ⟨gb101, 1, none⟩ = some (.int .i64 a0_1) := (blk_cell BK101.out 1).trans rfl
            have hcz32_2 : wc.cell? ⟨gb101, 2, none⟩ = some (.slice A0_2 l0_2.length c0_2) := (blk_cell BK101.out 2).trans rfl
            have hcz32_3 : wc.cell? ⟨gb101, 3, none⟩ = some (.int .i64 a0_3) := (blk_cell BK101.out 3).trans rfl
            have hcz32_4 : wc.cell? ⟨gb101, 4, none⟩ = some (.int .i64 a0_4) := (blk_cell BK101.out 4).trans rfl
            have hcz32_5 : wc.cell? ⟨gb101, 5, none⟩ = some (.int .i64 a0_5) := (blk_cell BK101.out 5).trans rfl
            have hcz32_6 : wc.cell? ⟨gb101, 6, none⟩ = some (.int .i64 a0_6) := (blk_cell BK101.out 6).trans rfl
            have hcz32_7 : wc.cell? ⟨gb101, 7, none⟩ = some (.int .i64 a0_7) := (blk_cell BK101.out 7).trans rfl
            have hfz32_0 := blk_frozen BK101.out 0
            have hfz32_1 := blk_frozen BK101.out 1
            have hfz32_2 := blk_frozen BK101.out 2
            have hfz32_3 := blk_frozen BK101.out 3
            have hfz32_4 := blk_frozen BK101.out 4
            have hfz32_5 := blk_frozen BK101.out 5
            have hfz32_6 := blk_frozen BK101.out 6
            have hfz32_7 := blk_frozen BK101.out 7
            go_wp2_with (first | (go_at_call 21; (with_reducible refine (plan_within.calls a0_0 4 true _ A9.out).mono ?_); rintro e w' ⟨rfl, ⟨nd, rfl⟩⟩) | (go_at_call 21; (with_reducible refine (plan_within.calls (l0_2.length : Int) 3 false _ A11.out).mono ?_); rintro e w' ⟨rfl, ⟨nd, rfl⟩⟩))
            go_ret
            exact ⟨by first | rfl | (simp [errW_none, errW_some] <;> rfl) | (simp [*, errW_none, errW_some] <;> rfl), by repeat (first | (with_reducible first | exact HB.out | apply below_alloc | apply pw_below_drewN | apply below_drew1 | refine below_set ?_ GE101.out) | exact HB.out)⟩
        · replace c10 := Bool.eq_false_iff.mpr c10
          subst c10
          have H1 : (some (some 14)) = some r := by rw [if_neg (show ¬ (false = true) by decide)] at H; exact H
          clear H
          have H := H1
          clear H1
          obtain rfl := Option.some.inj H
          have hcz33_0 : wc.cell? ⟨gb101, 0, none⟩ = some (.int .i64 a0_0) := (blk_cell BK101.out 0).trans rfl
          have hcz33_1 : wc.cell? ⟨gb101, 1, none⟩ = some (.int .i64 a0_1) := (blk_cell BK101.out 1).trans rfl
          have hcz33_2 : wc.cell? ⟨gb101, 2, none⟩ = some (.slice A0_2 l0_2.length c0_2) := (blk_cell BK101.out 2).trans rfl
          have hcz33_3 : wc.cell? ⟨gb101, 3, none⟩ = some (.int .i64 a0_3) := (blk_cell BK101.out 3).trans rfl
          have hcz33_4 : wc.cell? ⟨gb101, 4, none⟩ = some (.int .i64 a0_4) := (blk_cell BK101.out 4).trans rfl
          have hcz33_5 : wc.cell? ⟨gb101, 5, none⟩ = some (.int .i64 a0_5) := (blk_cell BK101.out 5).trans rfl
          have hcz33_6 : wc.cell? ⟨gb101, 6, none⟩ = some (.int .i64 a0_6) := (blk_cell BK101.out 6).trans rfl
          have hcz33_7 : wc.cell? ⟨gb101, 7, none⟩ = some (.int .i64 a0_7) := (blk_cell BK101.out 7).trans rfl
          have hfz33_0 := blk_frozen BK101.out 0
          have hfz33_1 := blk_frozen BK101.out 1
          have hfz33_2 := blk_frozen BK101.out 2
          have hfz33_3 := blk_frozen BK101.out 3
          have hfz33_4 := blk_frozen BK101.out 4
          have hfz33_5 := blk_frozen BK101.out 5
          have hfz33_6 := blk_frozen BK101.out 6
          have hfz33_7 := blk_frozen BK101.out 7
          go_wp2_with (first | (go_at_call 21; (with_reducible refine (plan_within.calls a0_0 4 false _ A9.out).mono ?_); rintro e w' ⟨rfl, ⟨nd, rfl⟩⟩))
          go_ret
          exact ⟨by first | rfl | (simp [errW_none, errW_some] <;> rfl) | (simp [*, errW_none, errW_some] <;> rfl), by repeat (first | (with_reducible first | exact HB.out | apply below_alloc | apply pw_below_drewN | apply below_drew1 | refine below_set ?_ GE101.out) | exact HB.out)⟩
      · replace c8 := Bool.eq_false_iff.mpr c8
        subst c8
        have H1 : (some (some 14)) = some r := by rw [if_neg (show ¬ (false = true) by decide)] at H; exact H
        clear H
        have H := H1
        clear H1
        obtain rfl := Option.some.inj H
        go_wp2
        go_ret
        exact ⟨by first | rfl | (simp [errW_none, errW_some] <;> rfl) | (simp [*, errW_none, errW_some] <;> rfl), by repeat (first | (with_reducible first | exact HB.out | apply below_alloc | apply pw_below_drewN | apply below_drew1 | refine below_set ?_ GE101.out) | exact HB.out)⟩

/-! ### plan_sizes: function 23 -/
theorem within_f (a b : Int) : plan_within.f a b = some (decide (1 ≤ a ∧ a ≤ b)) := by
  unfold plan_within.f
  by_cases h : 1 ≤ a
  · rw [if_pos (by omega)]
    simp [h]
  · rw [if_neg (by omega)]
    simp [h]
/-- Is a plan good? -/
def goodP (s k : Int) (l : List Int) (sh h c b le : Int) : Bool :=
  decide (k = 1 ∨ k = 3 ∨ k = 5) && (decide (1 ≤ s ∧ s ≤ 4) && (decide (1 ≤ l.length ∧ l.length ≤ 3) && (decide (1 ≤ minOf l) && (decide (1 ≤ sh ∧ sh ≤ 4) && (decide (1 ≤ h ∧ h ≤ 64) && (decide (1 ≤ c ∧ c ≤ 1024) && (decide (1 ≤ b ∧ b ≤ 16) && decide (1 ≤ le ∧ le ≤ 20))))))))
theorem odd_five (k : Int) (h : 1 ≤ k ∧ k ≤ 5) : (Go.bits .and .i64 k 1 == 1) = decide (k = 1 ∨ k = 3 ∨ k = 5) := by
  have : k = 1 ∨ k = 2 ∨ k = 3 ∨ k = 4 ∨ k = 5 := by omega
  rcases this with rfl | rfl | rfl | rfl | rfl <;> decide +kernel
theorem check_f (s k : Int) (l : List Int) (sh h c b le : Int) : plan_Check.f 1 s k l sh h c b le = some (if goodP s k l sh h c b le then none else some 14) := by
  unfold plan_Check.f goodP
  rw [within_f]
  simp only [Option.bind_some, plan_Check.j0, within_f, slices_Min_int_int.f]
  by_cases h1 : 1 ≤ k ∧ k ≤ 5
  · rw [odd_five k h1]
    simp only [h1, and_self, decide_true, if_true]
    by_cases h2 : k = 1 ∨ k = 3 ∨ k = 5
    · simp only [h2, decide_true, if_true, Bool.true_and]
      by_cases h3 : 1 ≤ s ∧ s ≤ 4
      · simp only [h3, and_self, decide_true, if_true, Bool.true_and]
        by_cases h4 : 1 ≤ l.length ∧ l.length ≤ 3
        · have h4' : 1 ≤ (l.length : Int) ∧ (l.length : Int) ≤ 3 := by omega
          have h4'' : 0 < l.length := by omega
          simp only [h4, h4', h4'', and_self, decide_true, if_true, Bool.true_and, Option.bind_some]
          by_cases h5 : 1 ≤ minOf l
          · have h5' : ¬ minOf l < 1 := by omega
            simp only [h5, h5', decide_true, if_false, Bool.true_and]
            by_cases h6 : 1 ≤ sh ∧ sh ≤ 4 <;> by_cases h7 : 1 ≤ h ∧ h ≤ 64 <;> by_cases h8 : 1 ≤ c ∧ c ≤ 1024 <;> by_cases h9 : 1 ≤ b ∧ b ≤ 16 <;> by_cases h10 : 1 ≤ le ∧ le ≤ 20 <;> simp [h6, h7, h8, h9, h10]
          · have h5' : minOf l < 1 := by omega
            simp [h5, h5']
        · have h4' : ¬ (1 ≤ (l.length : Int) ∧ (l.length : Int) ≤ 3) := by omega
          simp [h4, h4']
      · simp [h3]
    · simp [h2]
  · have h2 : ¬ (k = 1 ∨ k = 3 ∨ k = 5) := by omega
    simp [h1, h2]
theorem check_is (q : Value) (s k : Int) (A : Option Addr) (ca : Nat) (l : List Int) (sh h c b le : Int) (w : World) (hq : errW (if goodP s k l sh h c b le then none else some 14) = q) (hr : Kd.C (Kd.int .i64) w A l.length l) (hc : l.length ≤ ca) :
    Calls Try.prog 9 #[.agg #[.int .i64 s, .int .i64 k, .slice A l.length ca, .int .i64 sh, .int .i64 h, .int .i64 c, .int .i64 b, .int .i64 le]] w fun e w' => e = .returned q ∧ Below w.heap.size w w' := by
  subst hq
  exact plan_Check.calls 1 s k A ca l sh h c b le _ w hr hc (check_f s k l sh h c b le)
theorem put5 {W : World} {g : Nat} {a b c d e x y z u v : Value} {t : TypeId} (h : W.heap[g]? = some (.cells #[a, b, c, d, e] t (0, 0))) : (((((W.setCell ⟨g, 0, none⟩ x).setCell ⟨g, 1, none⟩ y).setCell ⟨g, 2, none⟩ z).setCell ⟨g, 3, none⟩ u).setCell ⟨g, 4, none⟩ v).heap[g]? = some (.cells #[x, y, z, u, v] t (0, 0)) := by
  refine blk_put (cs := #[x, y, z, u, e]) ?_ 4 _ rfl
  refine blk_put (cs := #[x, y, z, d, e]) ?_ 3 _ rfl
  refine blk_put (cs := #[x, y, c, d, e]) ?_ 2 _ rfl
  refine blk_put (cs := #[x, b, c, d, e]) ?_ 1 _ rfl
  exact blk_put (cs := #[a, b, c, d, e]) h 0 _ rfl
theorem put5_below {w W : World} {g : Nat} {x y z u v : Value} (h : Below w.heap.size w W) (hg : w.heap.size ≤ g) : Below w.heap.size w (((((W.setCell ⟨g, 0, none⟩ x).setCell ⟨g, 1, none⟩ y).setCell ⟨g, 2, none⟩ z).setCell ⟨g, 3, none⟩ u).setCell ⟨g, 4, none⟩ v) :=
  below_set (below_set (below_set (below_set (below_set h hg) hg) hg) hg) hg
def sizesV (g : Bool) (s k : Int) : Array Value := if g then #[.int .i64 0, .int .i64 s, .int .i64 2, .int .i64 k, .int .i64 1] else #[.int .i64 0, .int .i64 0, .int .i64 0, .int .i64 0, .int .i64 0]
set_option maxHeartbeats 400000 in
set_option maxRecDepth 100000 in
theorem sizes_no (s k : Int) (A : Option Addr) (ca : Nat) (l : List Int) (sh h c b le : Int) (w : World) (hg : goodP s k l sh h c b le = false) (hr : Kd.C (Kd.int .i64) w A l.length l) (hc : l.length ≤ ca) :
    Calls Try.prog 23 #[.agg #[.int .i64 s, .int .i64 k, .slice A l.length ca, .int .i64 sh, .int .i64 h, .int .i64 c, .int .i64 b, .int .i64 le]] w fun e w' => e = .returned (.agg #[.int .i64 0, .int .i64 0, .int .i64 0, .int .i64 0, .int .i64 0]) ∧ Below w.heap.size w w' := by
  have HR := Aside0.mk hr
  have HG := Aside0.mk hg
  clear hr hg
  have hu24 := Try.underlying24
  have hu50 := Try.underlying50
  have hu27 := Try.underlying27
  go_enter Try.func23, Try.ntmps23
  obtain ⟨gr, hgr⟩ : ∃ gr, gr = w.heap.size + 1 := ⟨_, rfl⟩
  go_wp2_with fail
  refine (check_is (.iface 29 (.int .i64 14)) s k A ca l sh h c b le _ (by rw [HG.out]; rfl) (Kd.C_alloc (Kd.C_alloc HR.out _) _) hc).mono ?_
  rintro e w1 ⟨rfl, hb1⟩
  have HB := Aside0.mk (below_step (below_alloc (below_alloc (Below.refl _ w) _) _) hb1)
  have BR : Aside0 (w1.heap[gr]? = some (.cells #[.int .i64 0, .int .i64 0, .int .i64 0, .int .i64 0, .int .i64 0] 50 (0, 0))) := ⟨by subst hgr; exact (hb1.block _ (by simp)).trans (by have := blk_new (w.alloc (.cells #[.int .i64 s, .int .i64 k, .slice A l.length ca, .int .i64 sh, .int .i64 h, .int .i64 c, .int .i64 b, .int .i64 le] 24)) (.cells #[.int .i64 0, .int .i64 0, .int .i64 0, .int .i64 0, .int .i64 0] 50); simpa using this)⟩
  rw [← hgr]
  have HGR := Aside0.mk hgr
  clear hb1 hgr
  have r0 : w1.cell? ⟨gr, 0, none⟩ = some (.int .i64 0) := (blk_cell BR.out 0).trans rfl
  have r1 : w1.cell? ⟨gr, 1, none⟩ = some (.int .i64 0) := (blk_cell BR.out 1).trans rfl
  have r2 : w1.cell? ⟨gr, 2, none⟩ = some (.int .i64 0) := (blk_cell BR.out 2).trans rfl
  have r3 : w1.cell? ⟨gr, 3, none⟩ = some (.int .i64 0) := (blk_cell BR.out 3).trans rfl
  have r4 : w1.cell? ⟨gr, 4, none⟩ = some (.int .i64 0) := (blk_cell BR.out 4).trans rfl
  have f0 := blk_frozen BR.out 0
  have f1 := blk_frozen BR.out 1
  have f2 := blk_frozen BR.out 2
  have f3 := blk_frozen BR.out 3
  have f4 := blk_frozen BR.out 4
  go_wp2
  refine bodyPost_ret (results_cell_row rfl _ _ gr 50 #[.int .i64 0, .int .i64 0, .int .i64 0, .int .i64 0, .int .i64 0] (0, 0) _ rfl (put5 BR.out) hu50 rfl (by kernel_rfl)) rfl ?_
  exact ⟨rfl, put5_below HB.out (by rw [HGR.out]; omega)⟩
set_option maxHeartbeats 400000 in
set_option maxRecDepth 100000 in
theorem sizes_yes (s k : Int) (A : Option Addr) (ca : Nat) (l : List Int) (sh h c b le : Int) (w : World) (hg : goodP s k l sh h c b le = true) (hr : Kd.C (Kd.int .i64) w A l.length l) (hc : l.length ≤ ca) :
    Calls Try.prog 23 #[.agg #[.int .i64 s, .int .i64 k, .slice A l.length ca, .int .i64 sh, .int .i64 h, .int .i64 c, .int .i64 b, .int .i64 le]] w fun e w' => e = .returned (.agg #[.int .i64 0, .int .i64 s, .int .i64 2, .int .i64 k, .int .i64 1]) ∧ Below w.heap.size w w' := by
  have HR := Aside0.mk hr
  have HG := Aside0.mk hg
  clear hr hg
  have hu24 := Try.underlying24
  have hu50 := Try.underlying50
  have hu27 := Try.underlying27
  go_enter Try.func23, Try.ntmps23
  obtain ⟨gr, hgr⟩ : ∃ gr, gr = w.heap.size + 1 := ⟨_, rfl⟩
  go_wp2_with fail
  refine (check_is .nilIface s k A ca l sh h c b le _ (by rw [HG.out]; rfl) (Kd.C_alloc (Kd.C_alloc HR.out _) _) hc).mono ?_
  rintro e w1 ⟨rfl, hb1⟩
  have HB := Aside0.mk (below_step (below_alloc (below_alloc (Below.refl _ w) _) _) hb1)
  have BR : Aside0 (w1.heap[gr]? = some (.cells #[.int .i64 0, .int .i64 0, .int .i64 0, .int .i64 0, .int .i64 0] 50 (0, 0))) := ⟨by subst hgr; exact (hb1.block _ (by simp)).trans (by have := blk_new (w.alloc (.cells #[.int .i64 s, .int .i64 k, .slice A l.length ca, .int .i64 sh, .int .i64 h, .int .i64 c, .int .i64 b, .int .i64 le] 24)) (.cells #[.int .i64 0, .int .i64 0, .int .i64 0, .int .i64 0, .int .i64 0] 50); simpa using this)⟩
  rw [← hgr]
  have HGR := Aside0.mk hgr
  have z0 : w1.cell? ⟨w.heap.size, 0, none⟩ = some (.int .i64 s) := by
    have hb : ((w.alloc (.cells #[.int .i64 s, .int .i64 k, .slice A l.length ca, .int .i64 sh, .int .i64 h, .int .i64 c, .int .i64 b, .int .i64 le] 24)).alloc (.cells #[.int .i64 0, .int .i64 0, .int .i64 0, .int .i64 0, .int .i64 0] 50)).heap[w.heap.size]? = some (.cells #[.int .i64 s, .int .i64 k, .slice A l.length ca, .int .i64 sh, .int .i64 h, .int .i64 c, .int .i64 b, .int .i64 le] 24 (0, 0)) := blk_alloc (blk_new w _) _
    exact pw_cell_below hb1 ((blk_cell hb 0).trans rfl)
  have z1 : w1.cell? ⟨w.heap.size, 1, none⟩ = some (.int .i64 k) := by
    have hb : ((w.alloc (.cells #[.int .i64 s, .int .i64 k, .slice A l.length ca, .int .i64 sh, .int .i64 h, .int .i64 c, .int .i64 b, .int .i64 le] 24)).alloc (.cells #[.int .i64 0, .int .i64 0, .int .i64 0, .int .i64 0, .int .i64 0] 50)).heap[w.heap.size]? = some (.cells #[.int .i64 s, .int .i64 k, .slice A l.length ca, .int .i64 sh, .int .i64 h, .int .i64 c, .int .i64 b, .int .i64 le] 24 (0, 0)) := blk_alloc (blk_new w _) _
    exact pw_cell_below hb1 ((blk_cell hb 1).trans rfl)
  clear hb1 hgr
  have r0 : w1.cell? ⟨gr, 0, none⟩ = some (.int .i64 0) := (blk_cell BR.out 0).trans rfl
  have r1 : w1.cell? ⟨gr, 1, none⟩ = some (.int .i64 0) := (blk_cell BR.out 1).trans rfl
  have r2 : w1.cell? ⟨gr, 2, none⟩ = some (.int .i64 0) := (blk_cell BR.out 2).trans rfl
  have r3 : w1.cell? ⟨gr, 3, none⟩ = some (.int .i64 0) := (blk_cell BR.out 3).trans rfl
  have r4 : w1.cell? ⟨gr, 4, none⟩ = some (.int .i64 0) := (blk_cell BR.out 4).trans rfl
  have f0 := blk_frozen BR.out 0
  have f1 := blk_frozen BR.out 1
  have f2 := blk_frozen BR.out 2
  have f3 := blk_frozen BR.out 3
  have f4 := blk_frozen BR.out 4
  go_wp2
  refine bodyPost_ret (results_cell_row rfl _ _ gr 50 #[.int .i64 0, .int .i64 s, .int .i64 2, .int .i64 k, .int .i64 1] (0, 0) _ rfl (put5 BR.out) hu50 rfl (by kernel_rfl)) rfl ?_
  exact ⟨rfl, put5_below HB.out (by rw [HGR.out]; omega)⟩
def szA (g : Bool) (s : Int) : Int := if g then s else 0
theorem sizes_is (s k : Int) (A : Option Addr) (ca : Nat) (l : List Int) (sh h c b le : Int) (w : World) (g : Bool) (hg : goodP s k l sh h c b le = g) (hr : Kd.C (Kd.int .i64) w A l.length l) (hc : l.length ≤ ca) :
    Calls Try.prog 23 #[.agg #[.int .i64 s, .int .i64 k, .slice A l.length ca, .int .i64 sh, .int .i64 h, .int .i64 c, .int .i64 b, .int .i64 le]] w fun e w' => e = .returned (.agg #[.int .i64 0, .int .i64 (szA g s), .int .i64 (szA g 2), .int .i64 (szA g k), .int .i64 (szA g 1)]) ∧ Below w.heap.size w w' := by
  cases g
  · exact sizes_no s k A ca l sh h c b le w hg hr hc
  · exact sizes_yes s k A ca l sh h c b le w hg hr hc
theorem szA_bound {s k : Int} {l : List Int} {sh h c b le : Int} {g : Bool} (hg : goodP s k l sh h c b le = g) : (0 ≤ szA g s ∧ szA g s ≤ 4) ∧ (0 ≤ szA g 2 ∧ szA g 2 ≤ 2) ∧ (0 ≤ szA g k ∧ szA g k ≤ 5) ∧ (0 ≤ szA g 1 ∧ szA g 1 ≤ 1) := by
  cases g
  · simp [szA]
  · unfold goodP at hg
    simp only [Bool.and_eq_true, decide_eq_true_eq] at hg
    simp only [szA, if_true]
    omega

/-! ### plan_Nodes: function 12 -/
def plan_Nodes.f (a0_0 : Int) (a0_1 : Int) (l0_2 : List Int) (a0_3 : Int) (a0_4 : Int) (a0_5 : Int) (a0_6 : Int) (a0_7 : Int) : Option Int := some (if goodP a0_0 a0_1 l0_2 a0_3 a0_4 a0_5 a0_6 a0_7 then a0_0 + 2 + a0_1 + 1 else 0)
def psum (x1 x2 x3 x4 : Int) : Nat → Int
  | 0 => 0
  | 1 => 0
  | 2 => x1
  | 3 => x1 + x2
  | 4 => x1 + x2 + x3
  | _ => x1 + x2 + x3 + x4
set_option maxHeartbeats 400000 in
set_option maxRecDepth 100000 in
theorem plan_Nodes.calls (a0_0 : Int) (a0_1 : Int) (A0_2 : Option Addr) (c0_2 : Nat) (l0_2 : List Int) (a0_3 : Int) (a0_4 : Int) (a0_5 : Int) (a0_6 : Int) (a0_7 : Int) (r : Int) (w : World) (hr0_2 : Kd.C (Kd.int .i64) w A0_2 l0_2.length l0_2) (hc0_2 : l0_2.length ≤ c0_2) (h : plan_Nodes.f a0_0 a0_1 l0_2 a0_3 a0_4 a0_5 a0_6 a0_7 = some r) :
    Calls Try.prog 12 #[.agg #[.int .i64 a0_0, .int .i64 a0_1, .slice A0_2 l0_2.length c0_2, .int .i64 a0_3, .int .i64 a0_4, .int .i64 a0_5, .int .i64 a0_6, .int .i64 a0_7]] w fun e w' => e = .returned (.int .i64 r) ∧ Below w.heap.size w w' := by
  obtain ⟨g, hg⟩ : ∃ g, goodP a0_0 a0_1 l0_2 a0_3 a0_4 a0_5 a0_6 a0_7 = g := ⟨_, rfl⟩
  unfold plan_Nodes.f at h
  rw [hg] at h
  injection h with h
  have hr' : r = szA g a0_0 + szA g 2 + szA g a0_1 + szA g 1 := by subst h; cases g <;> simp [szA]
  clear h
  obtain ⟨b1, b2, b3, b4⟩ := szA_bound hg
  have HG := Aside0.mk hg
  have HR := Aside0.mk hr0_2
  have HRR := Aside0.mk hr'
  clear hg hr0_2 hr'
  have hu24 := Try.underlying24
  go_enter Try.func12, Try.ntmps12
  go_wp2_with (go_at_call 23; refine (sizes_is _ _ _ _ _ _ _ _ _ _ _ g HG.out (Kd.C_alloc HR.out _) hc0_2).mono ?_; rintro e w1 ⟨rfl, hb1⟩; have HB := Aside0.mk (below_step (below_alloc (Below.refl _ w) _) hb1); clear hb1)
  obtain ⟨x1, hx1⟩ : ∃ x, x = szA g a0_0 := ⟨_, rfl⟩
  obtain ⟨x2, hx2⟩ : ∃ x, x = szA g 2 := ⟨_, rfl⟩
  obtain ⟨x3, hx3⟩ : ∃ x, x = szA g a0_1 := ⟨_, rfl⟩
  obtain ⟨x4, hx4⟩ : ∃ x, x = szA g 1 := ⟨_, rfl⟩
  rw [← hx1, ← hx2, ← hx3, ← hx4] at HRR
  rw [← hx1] at b1 ⊢
  rw [← hx2] at b2 ⊢
  rw [← hx3] at b3 ⊢
  rw [← hx4] at b4 ⊢
  clear hx1 hx2 hx3 hx4
  have hr2 := HRR.out
  subst hr2
  obtain ⟨c1, c1'⟩ := b1
  obtain ⟨c2, c2'⟩ := b2
  obtain ⟨c3, c3'⟩ := b3
  obtain ⟨c4, c4'⟩ := b4
  have i0 : ∀ W, (Instr.index 50 (.agg #[.int .i64 0, .int .i64 x1, .int .i64 x2, .int .i64 x3, .int .i64 x4]) (.int .i64 0)).run Try.prog W = .ok (.int .i64 0) W := fun _ => by kernel_rfl
  have i1 : ∀ W, (Instr.index 50 (.agg #[.int .i64 0, .int .i64 x1, .int .i64 x2, .int .i64 x3, .int .i64 x4]) (.int .i64 1)).run Try.prog W = .ok (.int .i64 x1) W := fun _ => by kernel_rfl
  have i2 : ∀ W, (Instr.index 50 (.agg #[.int .i64 0, .int .i64 x1, .int .i64 x2, .int .i64 x3, .int .i64 x4]) (.int .i64 2)).run Try.prog W = .ok (.int .i64 x2) W := fun _ => by kernel_rfl
  have i3 : ∀ W, (Instr.index 50 (.agg #[.int .i64 0, .int .i64 x1, .int .i64 x2, .int .i64 x3, .int .i64 x4]) (.int .i64 3)).run Try.prog W = .ok (.int .i64 x3) W := fun _ => by kernel_rfl
  have i4 : ∀ W, (Instr.index 50 (.agg #[.int .i64 0, .int .i64 x1, .int .i64 x2, .int .i64 x3, .int .i64 x4]) (.int .i64 4)).run Try.prog W = .ok (.int .i64 x4) W := fun _ => by kernel_rfl
  go_loop [3, 8] (fun n i => ∃ q : Nat, q ≤ 5 ∧ i = .int .i64 q ∧ n = .int .i64 (psum x1 x2 x3 x4 q)) (fun _ i => 5 - (intOf i).toNat)
  case atStart => exact ⟨0, by omega, rfl, rfl⟩
  case round =>
    obtain ⟨q, hq, rfl, rfl⟩ := hrel
    have hq6 : q = 0 ∨ q = 1 ∨ q = 2 ∨ q = 3 ∨ q = 4 ∨ q = 5 := by omega
    rcases hq6 with rfl | rfl | rfl | rfl | rfl | rfl
    · simp only [psum]
      go_wp2
      go_round
      case rel => exact ⟨1, by omega, by first | rfl | go_num, by first | rfl | (simp; done) | go_num⟩
      case measure => simp [intOf]
    · simp only [psum]
      go_wp2
      go_round
      case rel => exact ⟨2, by omega, by first | rfl | go_num, by first | rfl | (simp; done) | go_num⟩
      case measure => simp [intOf]
    · simp only [psum]
      go_wp2
      go_round
      case rel => exact ⟨3, by omega, by first | rfl | go_num, by first | rfl | (simp; done) | go_num⟩
      case measure => simp [intOf]
    · simp only [psum]
      go_wp2
      go_round
      case rel => exact ⟨4, by omega, by first | rfl | go_num, by first | rfl | (simp; done) | go_num⟩
      case measure => simp [intOf]
    · simp only [psum]
      go_wp2
      go_round
      case rel => exact ⟨5, by omega, by first | rfl | go_num, by first | rfl | (simp; done) | go_num⟩
      case measure => simp [intOf]
    · simp only [psum]
      go_wp2
      go_ret
      exact ⟨by first | rfl | simp, HB.out⟩

end Go.Proofs.Ytdaapjkfkfaflaa.MAll

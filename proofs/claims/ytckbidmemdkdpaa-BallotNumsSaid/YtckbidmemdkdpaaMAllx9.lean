-- written by a program of this session's (wip/myprint.py) over the kit's print.py
import Derived.Test.YtckbidmemdkdpaaMAllx0
import Derived.Test.YtckbidmemdkdpaaMAllx3
namespace Go.Proofs.Ytckbidmemdkdpaa.MAll
open Go.RowKit Go.Proofs.YtckbidmemdkdpaaW.PrintWords Go.Proofs.YtckbidmemdkdpaaW.PrintLast Go.Proofs.YtckbidmemdkdpaaW.PrintMore
attribute [local go_sem] max2_int min2_int max_two min_two max_three min_three max_four min_four   -- for this text's walks alone
set_option linter.unusedVariables false
set_option linter.unusedSimpArgs false

theorem f0x9 {W : World} {gb : Nat} {p : Addr} {v : Value} (h : W.cell? p = some v) (hs : W.heap.size ≤ gb) : p.block ≠ gb := Nat.ne_of_lt (Nat.lt_of_lt_of_le (World.block_lt_of_cell? _ _ h) hs)
theorem f1x9 {W : World} {gb j : Nat} {p : Addr} {v : Value} (h : W.cell? (p.add j) = some v) (hs : W.heap.size ≤ gb) : p.block ≠ gb := by have := World.block_lt_of_cell? _ _ h; rw [add_block] at this; exact Nat.ne_of_lt (Nat.lt_of_lt_of_le this hs)
/-! ### estuaryref09_Take: function 28 -/
def estuaryref09_Take.f (l0 : List Int) : Option (Int × Int × Int × Int × Int × Int × List Int × Bool) := if (l0.length : Int) < 6 then (some (0, 0, 0, 0, 0, 0, ([] : List Int), false)) else (if 0 < (l0.length : Int) then (if 1 < (l0.length : Int) then (if 2 < (l0.length : Int) then (if 3 < (l0.length : Int) then (if 4 < (l0.length : Int) then (if 5 < (l0.length : Int) then ((some (([] : List Int) : List Int)).bind fun y229 => (if 6 ≤ (l0.length : Int) then (if y229.length + (l0.drop 6).length < 17592186044416 then ((some (y229 ++ (l0.drop 6) : List Int)).bind fun y233 => ((estuaryref09_Good.f (rd l0 0) (rd l0 1) (rd l0 2) (rd l0 3) (rd l0 4) (rd l0 5) y233).bind fun t237 => (if t237 = true then (some (rd l0 0, rd l0 1, rd l0 2, rd l0 3, rd l0 4, rd l0 5, y233, true)) else (some (0, 0, 0, 0, 0, 0, ([] : List Int), false))))) else (none)) else (none))) else (none)) else (none)) else (none)) else (none)) else (none)) else (none))
def estuaryref09_Take.T3 : Bool × List (List Nat × List Nat) := (true, [([], []), ([0], [0]), ([1], [1]), ([], []), ([3], [3]), ([4], [4]), ([], []), ([6], [6]), ([7], [7]), ([2, 5, 8], [2, 5, 8]), ([], []), ([10], [10]), ([11], [11]), ([], []), ([13], [13]), ([14], [14]), ([], []), ([16], [16]), ([17], [17]), ([12, 15, 18], [12, 15, 18]), ([], []), ([], []), ([21], [21]), ([20, 22], [20, 22]), ([9, 19, 23], [9, 19, 23]), ([], []), ([25, 24, 23, 0, 1, 2, 3, 4, 5, 6, 7, 8, 9, 10, 11, 12, 13, 14, 15, 16, 17, 18, 19, 20, 21, 22, 23, 24, 25], [24, 25])])
def estuaryref09_Take.B3 : List Nat := [0, 1, 3, 0, 8, 24, 0, 64, 192, 511, 0, 1024, 3072, 0, 8192, 24576, 0, 65536, 196608, 523264, 0, 0, 2097152, 7340032, 16777215, 0, 67108863]
theorem estuaryref09_Take.tab3 : rtab .any (opsOf Try.f28 3) = estuaryref09_Take.T3 := by kernel_rfl
theorem estuaryref09_Take.bits3 : waitsOk estuaryref09_Take.T3.2 estuaryref09_Take.B3 = true := by kernel_rfl
set_option maxHeartbeats 8000000 in
set_option maxRecDepth 100000 in
theorem estuaryref09_Take.calls (A0 : Option Addr) (c0 : Nat) (l0 : List Int) (r1 : Int) (r2 : Int) (r3 : Int) (r4 : Int) (r5 : Int) (r6 : Int) (r7 : List Int) (r8 : Bool) (w : World) (hr0 : Kd.C (Kd.int .i64) w A0 l0.length l0) (hc0 : l0.length ≤ c0) (h : estuaryref09_Take.f l0 = some (r1, r2, r3, r4, r5, r6, r7, r8)) :
    Calls Try.prog 28 #[.slice A0 l0.length c0] w fun e w' => ∃ v6_ : Value, e = .returned (.tuple #[.agg #[.int .i64 r1, .int .i64 r2, .int .i64 r3, .int .i64 r4, .int .i64 r5, .int .i64 r6, v6_], .bool r8]) ∧ Kd.R (Kd.int .i64) 3 w' w.heap.size (fun _ => True) v6_ r7 ∧ Below w.heap.size w w' := by
  have hu26 := Try.underlying26
  have hu23 := Try.underlying23
  have HR0 := Aside0.mk hr0
  have HC0 := Aside0.mk hc0
  clear hr0 hc0
  have HB := Aside0.mk (Below.refl w.heap.size w)
  have H : (if (l0.length : Int) < 6 then (some (0, 0, 0, 0, 0, 0, ([] : List Int), false)) else (if 0 < (l0.length : Int) then (if 1 < (l0.length : Int) then (if 2 < (l0.length : Int) then (if 3 < (l0.length : Int) then (if 4 < (l0.length : Int) then (if 5 < (l0.length : Int) then ((some (([] : List Int) : List Int)).bind fun y229 => (if 6 ≤ (l0.length : Int) then (if y229.length + (l0.drop 6).length < 17592186044416 then ((some (y229 ++ (l0.drop 6) : List Int)).bind fun y233 => ((estuaryref09_Good.f (rd l0 0) (rd l0 1) (rd l0 2) (rd l0 3) (rd l0 4) (rd l0 5) y233).bind fun t237 => (if t237 = true then (some (rd l0 0, rd l0 1, rd l0 2, rd l0 3, rd l0 4, rd l0 5, y233, true)) else (some (0, 0, 0, 0, 0, 0, ([] : List Int), false))))) else (none)) else (none))) else (none)) else (none)) else (none)) else (none)) else (none)) else (none))) = some (r1, r2, r3, r4, r5, r6, r7, r8) := h
  clear h
  by_cases c2 : (l0.length : Int) < 6
  · rw [if_pos c2] at H
    have c2b0 : decide ((l0.length : Int) < 6) = true := decide_eq_true c2
    have c2b1 : decide (l0.length < 6) = true := decide_eq_true (by omega)
    clear c2
    simp only [Option.some.injEq, Prod.mk.injEq] at H
    obtain ⟨rfl, rfl, rfl, rfl, rfl, rfl, rfl, rfl⟩ := H
    go_enter Try.func28, Try.ntmps28
    go_wp2_with (first | ((with_reducible refine gate_dst (N := 2) rfl ?_); refine box_event ?hg (N := 2) ?hd (cs := #[.int .i64 0, .int .i64 0, .int .i64 0, .int .i64 0, .int .i64 0, .int .i64 0, .slice none 0 0]) (t := 26) ?hr ?_; (case hd => rfl); (case hg => rfl); (case hr => first | (go_simp; done) | (go_simp; rfl)); intro gb222 hg w3 hbox hb; have n0_ := Aside0.mk (below_step (by repeat (first | (with_reducible first | exact HB.out | apply below_alloc | apply pw_below_drewN | apply below_drew1) | exact HB.out)) hb); have n1_ := Aside0.mk (hbox); have n2_ := Aside0.mk ((by rw [hg]; exact (below_size (by repeat (first | (with_reducible first | exact HB.out | apply below_alloc | apply pw_below_drewN | apply below_drew1) | exact HB.out))) : w.heap.size ≤ gb222)); have n3_ := Aside0.mk ((by rw [hg]; exact (below_size (by repeat (first | (with_reducible first | exact HB.out | apply below_alloc | apply pw_below_drewN | apply below_drew1) | exact HB.out))) : w.heap.size ≤ gb222)); clear HB; have HB := n0_; have BK222 := n1_; have GW222 := n2_; have GE222 := n3_; clear n0_ n1_ n2_ n3_; clear hb hbox hg; have hcz4_0 : w3.cell? ⟨gb222, 0, none⟩ = some (.int .i64 0) := (blk_cell BK222.out 0).trans rfl; have hcz4_1 : w3.cell? ⟨gb222, 1, none⟩ = some (.int .i64 0) := (blk_cell BK222.out 1).trans rfl; have hcz4_2 : w3.cell? ⟨gb222, 2, none⟩ = some (.int .i64 0) := (blk_cell BK222.out 2).trans rfl; have hcz4_3 : w3.cell? ⟨gb222, 3, none⟩ = some (.int .i64 0) := (blk_cell BK222.out 3).trans rfl; have hcz4_4 : w3.cell? ⟨gb222, 4, none⟩ = some (.int .i64 0) := (blk_cell BK222.out 4).trans rfl; have hcz4_5 : w3.cell? ⟨gb222, 5, none⟩ = some (.int .i64 0) := (blk_cell BK222.out 5).trans rfl; have hcz4_6 : w3.cell? ⟨gb222, 6, none⟩ = some (.slice none 0 0) := (blk_cell BK222.out 6).trans rfl; have hfz4_0 := blk_frozen BK222.out 0; have hfz4_1 := blk_frozen BK222.out 1; have hfz4_2 := blk_frozen BK222.out 2; have hfz4_3 := blk_frozen BK222.out 3; have hfz4_4 := blk_frozen BK222.out 4; have hfz4_5 := blk_frozen BK222.out 5; have hfz4_6 := blk_frozen BK222.out 6))
    refine bodyPost_ret (results_ct rfl _ _ gb222 26 #[.int .i64 0, .int .i64 0, .int .i64 0, .int .i64 0, .int .i64 0, .int .i64 0, .slice none 0 0] (0, 0) _ rfl (by (with_reducible repeat (first | refine blk_drewN ?_ _ | refine blk_drew ?_ | refine blk_alloc ?_ _)); refine blk_put (cs := #[.int .i64 0, .int .i64 0, .int .i64 0, .int .i64 0, .int .i64 0, .int .i64 0, .slice none 0 0]) ?_ 6 _ rfl; (with_reducible repeat (first | refine blk_drewN ?_ _ | refine blk_drew ?_ | refine blk_alloc ?_ _)); refine blk_put (cs := #[.int .i64 0, .int .i64 0, .int .i64 0, .int .i64 0, .int .i64 0, .int .i64 0, .slice none 0 0]) ?_ 5 _ rfl; (with_reducible repeat (first | refine blk_drewN ?_ _ | refine blk_drew ?_ | refine blk_alloc ?_ _)); refine blk_put (cs := #[.int .i64 0, .int .i64 0, .int .i64 0, .int .i64 0, .int .i64 0, .int .i64 0, .slice none 0 0]) ?_ 4 _ rfl; (with_reducible repeat (first | refine blk_drewN ?_ _ | refine blk_drew ?_ | refine blk_alloc ?_ _)); refine blk_put (cs := #[.int .i64 0, .int .i64 0, .int .i64 0, .int .i64 0, .int .i64 0, .int .i64 0, .slice none 0 0]) ?_ 3 _ rfl; (with_reducible repeat (first | refine blk_drewN ?_ _ | refine blk_drew ?_ | refine blk_alloc ?_ _)); refine blk_put (cs := #[.int .i64 0, .int .i64 0, .int .i64 0, .int .i64 0, .int .i64 0, .int .i64 0, .slice none 0 0]) ?_ 2 _ rfl; (with_reducible repeat (first | refine blk_drewN ?_ _ | refine blk_drew ?_ | refine blk_alloc ?_ _)); refine blk_put (cs := #[.int .i64 0, .int .i64 0, .int .i64 0, .int .i64 0, .int .i64 0, .int .i64 0, .slice none 0 0]) ?_ 1 _ rfl; (with_reducible repeat (first | refine blk_drewN ?_ _ | refine blk_drew ?_ | refine blk_alloc ?_ _)); refine blk_put (cs := #[.int .i64 0, .int .i64 0, .int .i64 0, .int .i64 0, .int .i64 0, .int .i64 0, .slice none 0 0]) ?_ 0 _ rfl; (with_reducible repeat (first | refine blk_drewN ?_ _ | refine blk_drew ?_ | refine blk_alloc ?_ _)); exact BK222.out) Try.underlying26 rfl (by kernel_rfl)) rfl ?_
    exact ⟨_, by first | rfl | (simp [errW_none, errW_some] <;> rfl) | (simp [*, errW_none, errW_some] <;> rfl), by first | exact Kd.R_nil _ _ _ _ _ | exact Kd.N_nil _ _ _ _ _ | exact Kd.V_nil _ _ _ _ _ | exact Kd.Q_nil _ _ _ _ _ | exact Kd.S_nil _ _ _ _ _, by repeat (first | (with_reducible first | exact HB.out | apply below_alloc | apply pw_below_drewN | apply below_drew1 | refine below_set ?_ GE222.out) | exact HB.out)⟩
  · rw [if_neg c2] at H
    have c2b0 : decide ((l0.length : Int) < 6) = false := decide_eq_false c2
    have c2b1 : decide (l0.length < 6) = false := decide_eq_false (by omega)
    clear c2
    by_cases c5 : 0 < (l0.length : Int)
    · rw [if_pos c5] at H
      have c5b0 : decide (0 < (l0.length : Int)) = true := decide_eq_true c5
      have c5b1 : decide (0 < l0.length) = true := decide_eq_true (by omega)
      clear c5
      by_cases c6 : 1 < (l0.length : Int)
      · rw [if_pos c6] at H
        have c6b0 : decide (1 < (l0.length : Int)) = true := decide_eq_true c6
        have c6b1 : decide (1 < l0.length) = true := decide_eq_true (by omega)
        clear c6
        by_cases c7 : 2 < (l0.length : Int)
        · rw [if_pos c7] at H
          have c7b0 : decide (2 < (l0.length : Int)) = true := decide_eq_true c7
          have c7b1 : decide (2 < l0.length) = true := decide_eq_true (by omega)
          clear c7
          by_cases c8 : 3 < (l0.length : Int)
          · rw [if_pos c8] at H
            have c8b0 : decide (3 < (l0.length : Int)) = true := decide_eq_true c8
            have c8b1 : decide (3 < l0.length) = true := decide_eq_true (by omega)
            clear c8
            by_cases c9 : 4 < (l0.length : Int)
            · rw [if_pos c9] at H
              have c9b0 : decide (4 < (l0.length : Int)) = true := decide_eq_true c9
              have c9b1 : decide (4 < l0.length) = true := decide_eq_true (by omega)
              clear c9
              by_cases c10 : 5 < (l0.length : Int)
              · rw [if_pos c10] at H
                have c10b0 : decide (5 < (l0.length : Int)) = true := decide_eq_true c10
                have c10b1 : decide (5 < l0.length) = true := decide_eq_true (by omega)
                clear c10
                obtain ⟨y229, hy229⟩ : ∃ y_ : List Int, y_ = (([] : List Int)) := ⟨_, rfl⟩
                replace H : (if 6 ≤ (l0.length : Int) then (if y229.length + (l0.drop 6).length < 17592186044416 then ((some (y229 ++ (l0.drop 6) : List Int)).bind fun y233 => ((estuaryref09_Good.f (rd l0 0) (rd l0 1) (rd l0 2) (rd l0 3) (rd l0 4) (rd l0 5) y233).bind fun t237 => (if t237 = true then (some (rd l0 0, rd l0 1, rd l0 2, rd l0 3, rd l0 4, rd l0 5, y233, true)) else (some (0, 0, 0, 0, 0, 0, ([] : List Int), false))))) else (none)) else (none)) = some (r1, r2, r3, r4, r5, r6, r7, r8) := by first | (rw [hy229]; with_reducible exact H) | (have H2_ := (Option.bind_some _ _).symm.trans H; rw [hy229]; with_reducible exact H2_) | (have H2_ := (Option.bind_some _ _).symm.trans H; with_reducible exact H2_) | with_reducible exact H | (rw [hy229]; exact H) | exact H
                have Ny229 := Aside0.mk hy229
                clear hy229
                by_cases c11 : 6 ≤ (l0.length : Int)
                · rw [if_pos c11] at H
                  have c11b0 := eq_true c11
                  have c11b1 : decide (6 ≤ (l0.length : Int)) = true := decide_eq_true c11
                  clear c11
                  by_cases c12 : y229.length + (l0.drop 6).length < 17592186044416
                  · rw [if_pos c12] at H
                    have LMc12 := Aside0.mk c12
                    clear c12
                    obtain ⟨y233, hy233⟩ : ∃ y_ : List Int, y_ = (y229 ++ (l0.drop 6)) := ⟨_, rfl⟩
                    replace H : ((estuaryref09_Good.f (rd l0 0) (rd l0 1) (rd l0 2) (rd l0 3) (rd l0 4) (rd l0 5) y233).bind fun t237 => (if t237 = true then (some (rd l0 0, rd l0 1, rd l0 2, rd l0 3, rd l0 4, rd l0 5, y233, true)) else (some (0, 0, 0, 0, 0, 0, ([] : List Int), false)))) = some (r1, r2, r3, r4, r5, r6, r7, r8) := by first | (rw [hy233]; with_reducible exact H) | (have H2_ := (Option.bind_some _ _).symm.trans H; rw [hy233]; with_reducible exact H2_) | (have H2_ := (Option.bind_some _ _).symm.trans H; with_reducible exact H2_) | with_reducible exact H | (rw [hy233]; exact H) | exact H
                    have Ny233 := Aside0.mk hy233
                    clear hy233
                    replace H := Option.bind_eq_some_iff.mp H
                    obtain ⟨t237, A130, H⟩ := H
                    replace H : (if t237 = true then (some (rd l0 0, rd l0 1, rd l0 2, rd l0 3, rd l0 4, rd l0 5, y233, true)) else (some (0, 0, 0, 0, 0, 0, ([] : List Int), false))) = some (r1, r2, r3, r4, r5, r6, r7, r8) := H
                    have A13 := Aside0.mk A130
                    clear A130
                    by_cases c14 : t237 = true
                    · subst c14
                      have H1 : (some (rd l0 0, rd l0 1, rd l0 2, rd l0 3, rd l0 4, rd l0 5, y233, true)) = some (r1, r2, r3, r4, r5, r6, r7, r8) := by rw [if_pos rfl] at H; exact H
                      clear H
                      have H := H1
                      clear H1
                      simp only [Option.some.injEq, Prod.mk.injEq] at H
                      obtain ⟨rfl, rfl, rfl, rfl, rfl, rfl, rfl, rfl⟩ := H
                      go_enter Try.func28, Try.ntmps28
                      try go_wp2_with (first | ((with_reducible refine gate_dst (N := 2) rfl ?_); refine box_event ?hg (N := 2) ?hd (cs := #[.int .i64 0, .int .i64 0, .int .i64 0, .int .i64 0, .int .i64 0, .int .i64 0, .slice none 0 0]) (t := 26) ?hr ?_; (case hd => rfl); (case hg => rfl); (case hr => first | (go_simp; done) | (go_simp; rfl)); intro gb222 hg w15 hbox hb; have n0_ := Aside0.mk (below_step (by repeat (first | (with_reducible first | exact HB.out | apply below_alloc | apply pw_below_drewN | apply below_drew1) | exact HB.out)) hb); have n1_ := Aside0.mk (hbox); have n2_ := Aside0.mk ((by rw [hg]; exact (below_size (by repeat (first | (with_reducible first | exact HB.out | apply below_alloc | apply pw_below_drewN | apply below_drew1) | exact HB.out))) : w.heap.size ≤ gb222)); have n3_ := Aside0.mk ((by rw [hg]; exact (below_size (by repeat (first | (with_reducible first | exact HB.out | apply below_alloc | apply pw_below_drewN | apply below_drew1) | exact HB.out))) : w.heap.size ≤ gb222)); clear HB; have HB := n0_; have BK222 := n1_; have GW222 := n2_; have GE222 := n3_; clear n0_ n1_ n2_ n3_; clear hb hbox hg))
                      have n0_ := Aside0.mk (blk_drew BK222.out)
                      have n1_ := Aside0.mk (below_drew1 HB.out)
                      clear BK222
                      clear HB
                      have BK222 := n0_
                      have HB := n1_
                      clear n0_ n1_
                      have p223 : 0 ≤ (0 : Int) := (by omega)
                      have q223 : 0 < (l0.length : Int) := of_decide_eq_true (by first | (with_reducible assumption) | assumption)
                      obtain ⟨ad223, e223, hx223_0⟩ := Kd.at_int HR0.out 0 p223 q223
                      have hw223_0 := hx223_0
                      (try rw [show ((0 : Int)).toNat = 0 from rfl] at hw223_0)
                      (try rw [show 0 * 1 = 0 from rfl] at hw223_0)
                      (try rw [Addr.add_zero'] at hw223_0)
                      cases e223
                      have qi223 : (0 < l0.length) = True := eq_true (by omega)
                      (try rw [show ((0 : Int)).toNat = 0 from rfl] at hx223_0)
                      (try rw [Addr.add_zero'] at hx223_0)
                      replace hx223_0 := (HB.out.cell (World.block_lt_of_cell? w _ hx223_0)).trans hx223_0
                      replace p223 := eq_true p223
                      replace q223 := eq_true q223
                      have p224 : 0 ≤ (1 : Int) := (by omega)
                      have q224 : 1 < (l0.length : Int) := of_decide_eq_true (by first | (with_reducible assumption) | assumption)
                      obtain ⟨ad224, e224, hx224_0⟩ := Kd.at_int HR0.out 1 p224 q224
                      have hw224_0 := hx224_0
                      (try rw [show ((1 : Int)).toNat = 1 from rfl] at hw224_0)
                      (try rw [show 1 * 1 = 1 from rfl] at hw224_0)
                      (try simp only [Nat.reduceMul, Nat.reduceEqDiff, Go.Addr.add, ↓reduceIte] at hw224_0)
                      obtain rfl : ad223 = ad224 := (by injection e224)
                      (try simp only [show (1 : Int).toNat = 1 from rfl, Nat.reduceMul, Nat.reduceEqDiff, Go.Addr.add, ↓reduceIte] at hx224_0)
                      have qi224 : (1 < l0.length) = True := eq_true (by omega)
                      (try rw [show ((1 : Int)).toNat = 1 from rfl] at hx224_0)
                      replace hx224_0 := (HB.out.cell (World.block_lt_of_cell? w _ hx224_0)).trans hx224_0
                      replace p224 := eq_true p224
                      replace q224 := eq_true q224
                      have p225 : 0 ≤ (2 : Int) := (by omega)
                      have q225 : 2 < (l0.length : Int) := of_decide_eq_true (by first | (with_reducible assumption) | assumption)
                      obtain ⟨ad225, e225, hx225_0⟩ := Kd.at_int HR0.out 2 p225 q225
                      have hw225_0 := hx225_0
                      (try rw [show ((2 : Int)).toNat = 2 from rfl] at hw225_0)
                      (try rw [show 2 * 1 = 2 from rfl] at hw225_0)
                      (try simp only [Nat.reduceMul, Nat.reduceEqDiff, Go.Addr.add, ↓reduceIte] at hw225_0)
                      obtain rfl : ad223 = ad225 := (by injection e225)
                      (try simp only [show (2 : Int).toNat = 2 from rfl, Nat.reduceMul, Nat.reduceEqDiff, Go.Addr.add, ↓reduceIte] at hx225_0)
                      have qi225 : (2 < l0.length) = True := eq_true (by omega)
                      (try rw [show ((2 : Int)).toNat = 2 from rfl] at hx225_0)
                      replace hx225_0 := (HB.out.cell (World.block_lt_of_cell? w _ hx225_0)).trans hx225_0
                      replace p225 := eq_true p225
                      replace q225 := eq_true q225
                      have p226 : 0 ≤ (3 : Int) := (by omega)
                      have q226 : 3 < (l0.length : Int) := of_decide_eq_true (by first | (with_reducible assumption) | assumption)
                      obtain ⟨ad226, e226, hx226_0⟩ := Kd.at_int HR0.out 3 p226 q226
                      have hw226_0 := hx226_0
                      (try rw [show ((3 : Int)).toNat = 3 from rfl] at hw226_0)
                      (try rw [show 3 * 1 = 3 from rfl] at hw226_0)
                      (try simp only [Nat.reduceMul, Nat.reduceEqDiff, Go.Addr.add, ↓reduceIte] at hw226_0)
                      obtain rfl : ad223 = ad226 := (by injection e226)
                      (try simp only [show (3 : Int).toNat = 3 from rfl, Nat.reduceMul, Nat.reduceEqDiff, Go.Addr.add, ↓reduceIte] at hx226_0)
                      have qi226 : (3 < l0.length) = True := eq_true (by omega)
                      (try rw [show ((3 : Int)).toNat = 3 from rfl] at hx226_0)
                      replace hx226_0 := (HB.out.cell (World.block_lt_of_cell? w _ hx226_0)).trans hx226_0
                      replace p226 := eq_true p226
                      replace q226 := eq_true q226
                      have p227 : 0 ≤ (4 : Int) := (by omega)
                      have q227 : 4 < (l0.length : Int) := of_decide_eq_true (by first | (with_reducible assumption) | assumption)
                      obtain ⟨ad227, e227, hx227_0⟩ := Kd.at_int HR0.out 4 p227 q227
                      have hw227_0 := hx227_0
                      (try rw [show ((4 : Int)).toNat = 4 from rfl] at hw227_0)
                      (try rw [show 4 * 1 = 4 from rfl] at hw227_0)
                      (try simp only [Nat.reduceMul, Nat.reduceEqDiff, Go.Addr.add, ↓reduceIte] at hw227_0)
                      obtain rfl : ad223 = ad227 := (by injection e227)
                      (try simp only [show (4 : Int).toNat = 4 from rfl, Nat.reduceMul, Nat.reduceEqDiff, Go.Addr.add, ↓reduceIte] at hx227_0)
                      have qi227 : (4 < l0.length) = True := eq_true (by omega)
                      (try rw [show ((4 : Int)).toNat = 4 from rfl] at hx227_0)
                      replace hx227_0 := (HB.out.cell (World.block_lt_of_cell? w _ hx227_0)).trans hx227_0
                      replace p227 := eq_true p227
                      replace q227 := eq_true q227
                      have p228 : 0 ≤ (5 : Int) := (by omega)
                      have q228 : 5 < (l0.length : Int) := of_decide_eq_true (by first | (with_reducible assumption) | assumption)
                      obtain ⟨ad228, e228, hx228_0⟩ := Kd.at_int HR0.out 5 p228 q228
                      have hw228_0 := hx228_0
                      (try rw [show ((5 : Int)).toNat = 5 from rfl] at hw228_0)
                      (try rw [show 5 * 1 = 5 from rfl] at hw228_0)
                      (try simp only [Nat.reduceMul, Nat.reduceEqDiff, Go.Addr.add, ↓reduceIte] at hw228_0)
                      obtain rfl : ad223 = ad228 := (by injection e228)
                      (try simp only [show (5 : Int).toNat = 5 from rfl, Nat.reduceMul, Nat.reduceEqDiff, Go.Addr.add, ↓reduceIte] at hx228_0)
                      have qi228 : (5 < l0.length) = True := eq_true (by omega)
                      (try rw [show ((5 : Int)).toNat = 5 from rfl] at hx228_0)
                      replace hx228_0 := (HB.out.cell (World.block_lt_of_cell? w _ hx228_0)).trans hx228_0
                      replace p228 := eq_true p228
                      replace q228 := eq_true q228
                      obtain ⟨i017, hi017, _, hsz17, _⟩ := info_parts info3
                      obtain ⟨A17, hcut17, hA17, hC17⟩ := print_drop_of (P := Try.prog) (Value.int .i64) 0 24 3 .i64 Try.underlying24 hi017 hsz17 (some ad223) c0 l0 6 (by omega) (of_decide_eq_true (by first | (with_reducible assumption) | assumption)) HC0.out
                      have HR232 := Aside0.mk (Kd.C_of_reads (h1 := fun _ => rfl) (hA17 _ (Kd.reads_of_C HR0.out)))
                      have HC232 := Aside0.mk hC17
                      clear hA17 hC17 hi017 hsz17
                      refine start_ (n := 27) (S := fun w' => w'.cell? ad223 = some (.int .i64 (rd l0 0)) ∧ w'.cell? ⟨ad223.block, ad223.off + 1, none⟩ = some (.int .i64 (rd l0 1)) ∧ w'.cell? ⟨ad223.block, ad223.off + 2, none⟩ = some (.int .i64 (rd l0 2)) ∧ w'.cell? ⟨ad223.block, ad223.off + 3, none⟩ = some (.int .i64 (rd l0 3)) ∧ w'.cell? ⟨ad223.block, ad223.off + 4, none⟩ = some (.int .i64 (rd l0 4)) ∧ w'.cell? ⟨ad223.block, ad223.off + 5, none⟩ = some (.int .i64 (rd l0 5))) (ds := []) #[false, false, false, false, false, false, false, false, false, false, false, false, false, false, false, false, false, false, false, false, false, false, false, false, false, false, false] (by kernel_rfl) rfl rfl ⟨((HB.out.cell (World.block_lt_of_cell? w _ hw223_0)).trans hw223_0), ((HB.out.cell (World.block_lt_of_cell? w _ hw224_0)).trans hw224_0), ((HB.out.cell (World.block_lt_of_cell? w _ hw225_0)).trans hw225_0), ((HB.out.cell (World.block_lt_of_cell? w _ hw226_0)).trans hw226_0), ((HB.out.cell (World.block_lt_of_cell? w _ hw227_0)).trans hw227_0), ((HB.out.cell (World.block_lt_of_cell? w _ hw228_0)).trans hw228_0)⟩ (fun hHeld => ?_); refine with_tabW estuaryref09_Take.tab3 estuaryref09_Take.bits3 (fun HT_ HW_ => ?_)
                      generalize w15.drew = w16 at BK222 HB HR232 hx223_0 hx224_0 hx225_0 hx226_0 hx227_0 hx228_0 hHeld ⊢
                      refine pure_ (i := 0) (N := some 9) (v := ?_) (a' := ?_) #[true, false, false, false, false, false, false, false, false, false, false, false, false, false, false, false, false, false, false, false, false, false, false, false, false, false, false] rfl rfl (any_of HT_.out (by kernel_rfl)) (fun _ _ _ h => h) (Or.inl ⟨by rfl, ?_⟩) ?_ ?_
                      rotate_left
                      · intro w'
                        go_simp
                        with_reducible rfl
                      rotate_left
                      · simp only [Act.put, List.setIfInBounds_toArray, List.set_cons_zero, List.set_cons_succ, i64_w, i32_w]
                        rfl
                      refine pure_ (i := 1) (N := some 10) (v := ?_) (a' := ?_) #[true, true, false, false, false, false, false, false, false, false, false, false, false, false, false, false, false, false, false, false, false, false, false, false, false, false, false] rfl rfl (any_of HT_.out (by kernel_rfl)) (fun _ _ _ h => h) (Or.inl ⟨by rfl, ?_⟩) ?_ ?_
                      rotate_left
                      · intro w'
                        go_simp
                        with_reducible rfl
                      rotate_left
                      · simp only [Act.put, List.setIfInBounds_toArray, List.set_cons_zero, List.set_cons_succ, i64_w, i32_w]
                        rfl
                      refine pure_ (i := 3) (N := some 12) (v := ?_) (a' := ?_) #[true, true, false, true, false, false, false, false, false, false, false, false, false, false, false, false, false, false, false, false, false, false, false, false, false, false, false] rfl rfl (any_of HT_.out (by kernel_rfl)) (fun _ _ _ h => h) (Or.inl ⟨by rfl, ?_⟩) ?_ ?_
                      rotate_left
                      · intro w'
                        go_simp
                        with_reducible rfl
                      rotate_left
                      · simp only [Act.put, List.setIfInBounds_toArray, List.set_cons_zero, List.set_cons_succ, i64_w, i32_w]
                        rfl
                      refine pure_ (i := 4) (N := some 13) (v := ?_) (a' := ?_) #[true, true, false, true, true, false, false, false, false, false, false, false, false, false, false, false, false, false, false, false, false, false, false, false, false, false, false] rfl rfl (any_of HT_.out (by kernel_rfl)) (fun _ _ _ h => h) (Or.inl ⟨by rfl, ?_⟩) ?_ ?_
                      rotate_left
                      · intro w'
                        go_simp
                        with_reducible rfl
                      rotate_left
                      · simp only [Act.put, List.setIfInBounds_toArray, List.set_cons_zero, List.set_cons_succ, i64_w, i32_w]
                        rfl
                      refine pure_ (i := 6) (N := some 15) (v := ?_) (a' := ?_) #[true, true, false, true, true, false, true, false, false, false, false, false, false, false, false, false, false, false, false, false, false, false, false, false, false, false, false] rfl rfl (any_of HT_.out (by kernel_rfl)) (fun _ _ _ h => h) (Or.inl ⟨by rfl, ?_⟩) ?_ ?_
                      rotate_left
                      · intro w'
                        go_simp
                        with_reducible rfl
                      rotate_left
                      · simp only [Act.put, List.setIfInBounds_toArray, List.set_cons_zero, List.set_cons_succ, i64_w, i32_w]
                        rfl
                      refine pure_ (i := 7) (N := some 16) (v := ?_) (a' := ?_) #[true, true, false, true, true, false, true, true, false, false, false, false, false, false, false, false, false, false, false, false, false, false, false, false, false, false, false] rfl rfl (any_of HT_.out (by kernel_rfl)) (fun _ _ _ h => h) (Or.inl ⟨by rfl, ?_⟩) ?_ ?_
                      rotate_left
                      · intro w'
                        go_simp
                        with_reducible rfl
                      rotate_left
                      · simp only [Act.put, List.setIfInBounds_toArray, List.set_cons_zero, List.set_cons_succ, i64_w, i32_w]
                        rfl
                      refine pure_ (i := 10) (N := some 19) (v := ?_) (a' := ?_) #[true, true, false, true, true, false, true, true, false, false, true, false, false, false, false, false, false, false, false, false, false, false, false, false, false, false, false] rfl rfl (any_of HT_.out (by kernel_rfl)) (fun _ _ _ h => h) (Or.inl ⟨by rfl, ?_⟩) ?_ ?_
                      rotate_left
                      · intro w'
                        go_simp
                        with_reducible rfl
                      rotate_left
                      · simp only [Act.put, List.setIfInBounds_toArray, List.set_cons_zero, List.set_cons_succ, i64_w, i32_w]
                        rfl
                      refine pure_ (i := 11) (N := some 20) (v := ?_) (a' := ?_) #[true, true, false, true, true, false, true, true, false, false, true, true, false, false, false, false, false, false, false, false, false, false, false, false, false, false, false] rfl rfl (any_of HT_.out (by kernel_rfl)) (fun _ _ _ h => h) (Or.inl ⟨by rfl, ?_⟩) ?_ ?_
                      rotate_left
                      · intro w'
                        go_simp
                        with_reducible rfl
                      rotate_left
                      · simp only [Act.put, List.setIfInBounds_toArray, List.set_cons_zero, List.set_cons_succ, i64_w, i32_w]
                        rfl
                      refine pure_ (i := 13) (N := some 22) (v := ?_) (a' := ?_) #[true, true, false, true, true, false, true, true, false, false, true, true, false, true, false, false, false, false, false, false, false, false, false, false, false, false, false] rfl rfl (any_of HT_.out (by kernel_rfl)) (fun _ _ _ h => h) (Or.inl ⟨by rfl, ?_⟩) ?_ ?_
                      rotate_left
                      · intro w'
                        go_simp
                        with_reducible rfl
                      rotate_left
                      · simp only [Act.put, List.setIfInBounds_toArray, List.set_cons_zero, List.set_cons_succ, i64_w, i32_w]
                        rfl
                      refine pure_ (i := 14) (N := some 23) (v := ?_) (a' := ?_) #[true, true, false, true, true, false, true, true, false, false, true, true, false, true, true, false, false, false, false, false, false, false, false, false, false, false, false] rfl rfl (any_of HT_.out (by kernel_rfl)) (fun _ _ _ h => h) (Or.inl ⟨by rfl, ?_⟩) ?_ ?_
                      rotate_left
                      · intro w'
                        go_simp
                        with_reducible rfl
                      rotate_left
                      · simp only [Act.put, List.setIfInBounds_toArray, List.set_cons_zero, List.set_cons_succ, i64_w, i32_w]
                        rfl
                      refine pure_ (i := 16) (N := some 25) (v := ?_) (a' := ?_) #[true, true, false, true, true, false, true, true, false, false, true, true, false, true, true, false, true, false, false, false, false, false, false, false, false, false, false] rfl rfl (any_of HT_.out (by kernel_rfl)) (fun _ _ _ h => h) (Or.inl ⟨by rfl, ?_⟩) ?_ ?_
                      rotate_left
                      · intro w'
                        go_simp
                        with_reducible rfl
                      rotate_left
                      · simp only [Act.put, List.setIfInBounds_toArray, List.set_cons_zero, List.set_cons_succ, i64_w, i32_w]
                        rfl
                      refine pure_ (i := 17) (N := some 26) (v := ?_) (a' := ?_) #[true, true, false, true, true, false, true, true, false, false, true, true, false, true, true, false, true, true, false, false, false, false, false, false, false, false, false] rfl rfl (any_of HT_.out (by kernel_rfl)) (fun _ _ _ h => h) (Or.inl ⟨by rfl, ?_⟩) ?_ ?_
                      rotate_left
                      · intro w'
                        go_simp
                        with_reducible rfl
                      rotate_left
                      · simp only [Act.put, List.setIfInBounds_toArray, List.set_cons_zero, List.set_cons_succ, i64_w, i32_w]
                        rfl
                      refine pure_ (i := 21) (N := some 30) (v := ?_) (a' := ?_) #[true, true, false, true, true, false, true, true, false, false, true, true, false, true, true, false, true, true, false, false, false, true, false, false, false, false, false] rfl rfl (any_of HT_.out (by kernel_rfl)) (fun _ _ _ h => h) (Or.inl ⟨by rfl, ?_⟩) ?_ ?_
                      rotate_left
                      · intro w'
                        go_simp
                        with_reducible rfl
                      rotate_left
                      · simp only [Act.put, List.setIfInBounds_toArray, List.set_cons_zero, List.set_cons_succ, i64_w, i32_w]
                        rfl
                      refine pure_ (i := 22) (N := some 31) (v := ?_) (a' := ?_) #[true, true, false, true, true, false, true, true, false, false, true, true, false, true, true, false, true, true, false, false, false, true, true, false, false, false, false] rfl rfl (any_of HT_.out (by kernel_rfl)) (fun _ _ _ h => h) (Or.inl ⟨by rfl, ?_⟩) ?_ ?_
                      rotate_left
                      · intro w'
                        go_simp
                        with_reducible rfl
                      rotate_left
                      · simp only [Act.put, List.setIfInBounds_toArray, List.set_cons_zero, List.set_cons_succ, i64_w, i32_w]
                        rfl
                      refine take_ (i := 2) (N := some 11) (v := ?_) (a' := ?_) #[true, true, true, true, true, false, true, true, false, false, true, true, false, true, true, false, true, true, false, false, false, true, true, false, false, false, false] rfl rfl (take_ofW HT_.out HW_.out (by kernel_rfl)) (fun _ _ _ h => h) (Or.inl ⟨by rfl, ?_⟩) hHeld ?_ ?_
                      rotate_left
                      · rintro w' ⟨s0, s1, s2, s3, s4, s5⟩
                        go_simp
                        with_reducible rfl
                      rotate_left
                      · simp only [Act.put, List.setIfInBounds_toArray, List.set_cons_zero, List.set_cons_succ, i64_w, i32_w]
                        rfl
                      refine take_ (i := 5) (N := some 14) (v := ?_) (a' := ?_) #[true, true, true, true, true, true, true, true, false, false, true, true, false, true, true, false, true, true, false, false, false, true, true, false, false, false, false] rfl rfl (take_ofW HT_.out HW_.out (by kernel_rfl)) (fun _ _ _ h => h) (Or.inl ⟨by rfl, ?_⟩) hHeld ?_ ?_
                      rotate_left
                      · rintro w' ⟨s0, s1, s2, s3, s4, s5⟩
                        go_simp
                        with_reducible rfl
                      rotate_left
                      · simp only [Act.put, List.setIfInBounds_toArray, List.set_cons_zero, List.set_cons_succ, i64_w, i32_w]
                        rfl
                      refine take_ (i := 8) (N := some 17) (v := ?_) (a' := ?_) #[true, true, true, true, true, true, true, true, true, false, true, true, false, true, true, false, true, true, false, false, false, true, true, false, false, false, false] rfl rfl (take_ofW HT_.out HW_.out (by kernel_rfl)) (fun _ _ _ h => h) (Or.inl ⟨by rfl, ?_⟩) hHeld ?_ ?_
                      rotate_left
                      · rintro w' ⟨s0, s1, s2, s3, s4, s5⟩
                        go_simp
                        with_reducible rfl
                      rotate_left
                      · simp only [Act.put, List.setIfInBounds_toArray, List.set_cons_zero, List.set_cons_succ, i64_w, i32_w]
                        rfl
                      refine pure_ (i := 9) (N := some 18) (v := ?_) (a' := ?_) #[true, true, true, true, true, true, true, true, true, true, true, true, false, true, true, false, true, true, false, false, false, true, true, false, false, false, false] rfl rfl (any_of HT_.out (by kernel_rfl)) (fun _ _ _ h => h) (Or.inl ⟨by rfl, ?_⟩) ?_ ?_
                      rotate_left
                      · intro w'
                        go_simp
                        with_reducible rfl
                      rotate_left
                      · simp only [Act.put, List.setIfInBounds_toArray, List.set_cons_zero, List.set_cons_succ, i64_w, i32_w]
                        rfl
                      refine take_ (i := 12) (N := some 21) (v := ?_) (a' := ?_) #[true, true, true, true, true, true, true, true, true, true, true, true, true, true, true, false, true, true, false, false, false, true, true, false, false, false, false] rfl rfl (take_ofW HT_.out HW_.out (by kernel_rfl)) (fun _ _ _ h => h) (Or.inl ⟨by rfl, ?_⟩) hHeld ?_ ?_
                      rotate_left
                      · rintro w' ⟨s0, s1, s2, s3, s4, s5⟩
                        go_simp
                        with_reducible rfl
                      rotate_left
                      · simp only [Act.put, List.setIfInBounds_toArray, List.set_cons_zero, List.set_cons_succ, i64_w, i32_w]
                        rfl
                      refine take_ (i := 15) (N := some 24) (v := ?_) (a' := ?_) #[true, true, true, true, true, true, true, true, true, true, true, true, true, true, true, true, true, true, false, false, false, true, true, false, false, false, false] rfl rfl (take_ofW HT_.out HW_.out (by kernel_rfl)) (fun _ _ _ h => h) (Or.inl ⟨by rfl, ?_⟩) hHeld ?_ ?_
                      rotate_left
                      · rintro w' ⟨s0, s1, s2, s3, s4, s5⟩
                        go_simp
                        with_reducible rfl
                      rotate_left
                      · simp only [Act.put, List.setIfInBounds_toArray, List.set_cons_zero, List.set_cons_succ, i64_w, i32_w]
                        rfl
                      refine take_ (i := 18) (N := some 27) (v := ?_) (a' := ?_) #[true, true, true, true, true, true, true, true, true, true, true, true, true, true, true, true, true, true, true, false, false, true, true, false, false, false, false] rfl rfl (take_ofW HT_.out HW_.out (by kernel_rfl)) (fun _ _ _ h => h) (Or.inl ⟨by rfl, ?_⟩) hHeld ?_ ?_
                      rotate_left
                      · rintro w' ⟨s0, s1, s2, s3, s4, s5⟩
                        go_simp
                        with_reducible rfl
                      rotate_left
                      · simp only [Act.put, List.setIfInBounds_toArray, List.set_cons_zero, List.set_cons_succ, i64_w, i32_w]
                        rfl
                      refine pure_ (i := 19) (N := some 28) (v := ?_) (a' := ?_) #[true, true, true, true, true, true, true, true, true, true, true, true, true, true, true, true, true, true, true, true, false, true, true, false, false, false, false] rfl rfl (any_of HT_.out (by kernel_rfl)) (fun _ _ _ h => h) (Or.inl ⟨by rfl, ?_⟩) ?_ ?_
                      rotate_left
                      · intro w'
                        go_simp
                        with_reducible rfl
                      rotate_left
                      · simp only [Act.put, List.setIfInBounds_toArray, List.set_cons_zero, List.set_cons_succ, i64_w, i32_w]
                        rfl
                      refine join_ (σ := Value × Value × Nat) 1 #[true, true, true, true, true, true, true, true, true, true, true, true, true, true, true, true, true, true, true, true, true, true, true, true, true, true, false] (fun s_ => [(29, s_.1), (32, s_.2.1), (4, .pointer (some ⟨s_.2.2, 0, none⟩)), (33, .agg #[.int .i64 (rd l0 0), .int .i64 (rd l0 1), .int .i64 (rd l0 2), .int .i64 (rd l0 3), .int .i64 (rd l0 4), .int .i64 (rd l0 5), s_.2.1])]) (fun s_ w' => (w'.cell? ad223 = some (.int .i64 (rd l0 0)) ∧ w'.cell? ⟨ad223.block, ad223.off + 1, none⟩ = some (.int .i64 (rd l0 1)) ∧ w'.cell? ⟨ad223.block, ad223.off + 2, none⟩ = some (.int .i64 (rd l0 2)) ∧ w'.cell? ⟨ad223.block, ad223.off + 3, none⟩ = some (.int .i64 (rd l0 3)) ∧ w'.cell? ⟨ad223.block, ad223.off + 4, none⟩ = some (.int .i64 (rd l0 4)) ∧ w'.cell? ⟨ad223.block, ad223.off + 5, none⟩ = some (.int .i64 (rd l0 5))) ∧ (Kd.R (Kd.int .i64) 3 w' w.heap.size (fun _ => True) s_.2.1 y233) ∧ (w'.heap[gb222]? = some (.cells #[.int .i64 0, .int .i64 0, .int .i64 0, .int .i64 0, .int .i64 0, .int .i64 0, .slice none 0 0] 26 (0, 0))) ∧ (w'.heap[s_.2.2]? = some (.cells #[.int .i64 0, .int .i64 0, .int .i64 0, .int .i64 0, .int .i64 0, .int .i64 0, .slice none 0 0] 26 (0, 0))) ∧ (w.heap.size ≤ s_.2.2) ∧ (w.heap.size ≤ s_.2.2) ∧ (gb222 ≠ s_.2.2) ∧ (s_.2.2 ≠ gb222) ∧ (Below w.heap.size w w')) ?_ ?_
                      rotate_left
                      · intro hCont
                        refine two_ (i := 20) (j := 25) (Ni := some 29) (Nj := some 4) #[true, true, true, true, true, true, true, true, true, true, true, true, true, true, true, true, true, true, true, true, true, true, true, false, false, false, false] #[true, true, true, true, true, true, true, true, true, true, true, true, true, true, true, true, true, true, true, true, false, true, true, false, false, true, false] rfl rfl rfl rfl (two_of HT_.out (by kernel_rfl)) (by decide) (by decide) (fun K hK => ?_) (fun K hK => ?_)
                        · skip
                          refine Kd.R_lit_step (Kd.int .i64) _ 3 ?hg (N := 29) ?hd (xs := ([] : List Int)) (inner := []) (ok := fun _ => True) (okp := fun _ => True) ?hr ?hp (fun _ hk => hk) trivial (Below.refl _ _) (Nat.le_refl _) (by simp) ?_; (case hd => rfl); (case hg => rfl); (case hr => first | (go_simp; done) | (go_simp; rfl)); (case hp => exact (Reps.none _ _))
                          intro v230 w18 ho19 hb hg_ hnew_
                          clear hg_ hnew_
                          (first | rw [← Ny229.out] at ho19 | (simp only [Int.reduceToNat] at ho19; rw [← Ny229.out] at ho19))
                          have n0_ := Aside0.mk (Kd.R_lower ho19 (below_size (by repeat (first | (with_reducible first | exact HB.out | apply below_alloc | apply pw_below_drewN | apply below_drew1 | refine below_set ?_ GE222.out) | exact HB.out))))
                          have n1_ := Aside0.mk (blk_below (g := gb222) (o := .cells #[.int .i64 0, .int .i64 0, .int .i64 0, .int .i64 0, .int .i64 0, .int .i64 0, .slice none 0 0] 26 (0, 0)) (by (with_reducible repeat (first | refine blk_drewN ?_ _ | refine blk_drew ?_ | refine blk_alloc ?_ _)); exact BK222.out) hb)
                          have n2_ := Aside0.mk (below_step (by repeat (first | (with_reducible first | exact HB.out | apply below_alloc | apply pw_below_drewN | apply below_drew1 | refine below_set ?_ GE222.out) | exact HB.out)) hb)
                          clear BK222
                          clear HB
                          have HO231 := n0_
                          have BK222 := n1_
                          have HB := n2_
                          clear n0_ n1_ n2_
                          clear hb ho19
                          refine hK.out _ _ ⟨((HB.out.cell (World.block_lt_of_cell? w _ hw223_0)).trans hw223_0), ((HB.out.cell (World.block_lt_of_cell? w _ hw224_0)).trans hw224_0), ((HB.out.cell (World.block_lt_of_cell? w _ hw225_0)).trans hw225_0), ((HB.out.cell (World.block_lt_of_cell? w _ hw226_0)).trans hw226_0), ((HB.out.cell (World.block_lt_of_cell? w _ hw227_0)).trans hw227_0), ((HB.out.cell (World.block_lt_of_cell? w _ hw228_0)).trans hw228_0)⟩ (fun hHeld => ?_)
                          clear hK K
                          refine norm_ (a' := ?_) ?_ ?_
                          rotate_left
                          · show Act.put _ (some 29) _ = _
                            simp only [Act.put, List.setIfInBounds_toArray, List.set_cons_zero, List.set_cons_succ, i64_w, i32_w]
                            rfl
                          refine two_ (i := 23) (j := 25) (Ni := some 32) (Nj := some 4) #[true, true, true, true, true, true, true, true, true, true, true, true, true, true, true, true, true, true, true, true, true, true, true, true, false, false, false] #[true, true, true, true, true, true, true, true, true, true, true, true, true, true, true, true, true, true, true, true, true, true, true, false, false, true, false] rfl rfl rfl rfl (two_of HT_.out (by kernel_rfl)) (by decide) (by decide) (fun K hK => ?_) (fun K hK => ?_)
                          · skip
                            refine Kd.R_append_rows_step (Kd.int .i64) (w0 := w) w.heap.size (by rfl) (.tmp 29) (.tmp 31) 24 3 (.int .i64 0) 8 rfl Try.underlying24 info3 rfl (by decide) (by omega) v230 y229 (l0.drop 6) _ _ _ (fun _ => True) (fun _ => False) rfl rfl ?aO ?aR (fun _ _ h => h) (fun _ h => h.elim) ?aF ?aB ?aS ?aL ?_
                            (case aR => first | (rw [← show (l0.drop 6).length = (l0.length - 6) from List.length_drop]; repeat (first | exact (Kd.C_below HR232.out HB.out) | (with_reducible refine Kd.C_alloc ?_ _) | (with_reducible refine Kd.C_drewN ?_ _) | (with_reducible refine Kd.C_drew ?_))) | (repeat (first | exact (Kd.C_below HR232.out HB.out) | (with_reducible refine Kd.C_alloc ?_ _) | (with_reducible refine Kd.C_drewN ?_ _) | (with_reducible refine Kd.C_drew ?_))))
                            (case aB => exact (by repeat (first | (with_reducible first | exact HB.out | apply below_alloc | apply pw_below_drewN | apply below_drew1 | refine below_set ?_ GE222.out) | exact HB.out)))
                            (case aF => exact (fun _ _ => trivial))
                            (case aO => exact (by (with_reducible repeat (first | apply Kd.R_alloc | apply Kd.R_drewN | apply Kd.R_drew)); exact HO231.out))
                            (case aS => exact (below_size (by repeat (first | (with_reducible first | exact HB.out | apply below_alloc | apply pw_below_drewN | apply below_drew1 | refine below_set ?_ GE222.out) | exact HB.out))))
                            (case aL => have := LMc12.out; have hlx_ := (show (l0.drop 6).length = (l0.length - 6) from List.length_drop); omega)
                            intro v234 w20 ho hb hg hat
                            rw [← Ny233.out] at ho
                            have n0_ := Aside0.mk (blk_grown (g := gb222) (o := .cells #[.int .i64 0, .int .i64 0, .int .i64 0, .int .i64 0, .int .i64 0, .int .i64 0, .slice none 0 0] 26 (0, 0)) (by (with_reducible repeat (first | refine blk_drewN ?_ _ | refine blk_drew ?_ | refine blk_alloc ?_ _)); exact BK222.out) hg (Kd.R_ne HO231.out BK222.out (by decide)))
                            have n1_ := Aside0.mk (hb)
                            have n2_ := Aside0.mk (ho)
                            clear BK222
                            clear HB
                            clear HO231
                            have BK222 := n0_
                            have HB := n1_
                            have HO235 := n2_
                            clear n0_ n1_ n2_
                            clear ho hb hg hat
                            obtain ⟨Ao21, co21, eo21⟩ := Kd.R_slice HO235.out
                            (first | subst eo21 | (injection eo21 with f1_ f2_ f3_; have f4_ := f1_.symm; have f5_ := f3_.symm; clear f1_ f2_ f3_; subst f4_; subst f5_))
                            refine hK.out _ _ ⟨((HB.out.cell (World.block_lt_of_cell? w _ hw223_0)).trans hw223_0), ((HB.out.cell (World.block_lt_of_cell? w _ hw224_0)).trans hw224_0), ((HB.out.cell (World.block_lt_of_cell? w _ hw225_0)).trans hw225_0), ((HB.out.cell (World.block_lt_of_cell? w _ hw226_0)).trans hw226_0), ((HB.out.cell (World.block_lt_of_cell? w _ hw227_0)).trans hw227_0), ((HB.out.cell (World.block_lt_of_cell? w _ hw228_0)).trans hw228_0)⟩ (fun hHeld => ?_)
                            clear hK K
                            refine norm_ (a' := ?_) ?_ ?_
                            rotate_left
                            · show Act.put _ (some 32) _ = _
                              simp only [Act.put, List.setIfInBounds_toArray, List.set_cons_zero, List.set_cons_succ, i64_w, i32_w]
                              rfl
                            refine pure_ (i := 24) (N := some 33) (v := ?_) (a' := ?_) #[true, true, true, true, true, true, true, true, true, true, true, true, true, true, true, true, true, true, true, true, true, true, true, true, true, false, false] rfl rfl (any_of HT_.out (by kernel_rfl)) (fun _ _ _ h => h) (Or.inl ⟨by rfl, ?_⟩) ?_ ?_
                            rotate_left
                            · intro w'
                              go_simp
                              with_reducible rfl
                            rotate_left
                            · simp only [Act.put, List.setIfInBounds_toArray, List.set_cons_zero, List.set_cons_succ, i64_w, i32_w]
                              rfl
                            refine one_ (i := 25) (N := some 4) #[true, true, true, true, true, true, true, true, true, true, true, true, true, true, true, true, true, true, true, true, true, true, true, true, true, true, false] rfl rfl (one_of HT_.out (by kernel_rfl)) (by decide) (fun K hK => ?_)
                            refine box_step ?hg (N := 4) ?hd (cs := #[.int .i64 0, .int .i64 0, .int .i64 0, .int .i64 0, .int .i64 0, .int .i64 0, .slice none 0 0]) (t := 26) ?hr ?_; (case hd => rfl); (case hg => rfl); (case hr => first | (go_simp; done) | (go_simp; rfl))
                            intro gb236 hg w22 hbox hb
                            have n0_ := Aside0.mk (Kd.R_below (by (with_reducible repeat (first | apply Kd.R_alloc | apply Kd.R_drewN | apply Kd.R_drew)); exact HO235.out) hb)
                            have n1_ := Aside0.mk (blk_below (g := gb222) (o := .cells #[.int .i64 0, .int .i64 0, .int .i64 0, .int .i64 0, .int .i64 0, .int .i64 0, .slice none 0 0] 26 (0, 0)) (by (with_reducible repeat (first | refine blk_drewN ?_ _ | refine blk_drew ?_ | refine blk_alloc ?_ _)); exact BK222.out) hb)
                            have n2_ := Aside0.mk (below_step (by repeat (first | (with_reducible first | exact HB.out | apply below_alloc | apply pw_below_drewN | apply below_drew1 | refine below_set ?_ GE222.out) | exact HB.out)) hb)
                            have n3_ := Aside0.mk (hbox)
                            have n4_ := Aside0.mk ((by rw [hg]; exact (below_size (by repeat (first | (with_reducible first | exact HB.out | apply below_alloc | apply pw_below_drewN | apply below_drew1 | refine below_set ?_ GE222.out) | exact HB.out))) : w.heap.size ≤ gb236))
                            have n5_ := Aside0.mk ((by rw [hg]; exact (below_size (by repeat (first | (with_reducible first | exact HB.out | apply below_alloc | apply pw_below_drewN | apply below_drew1 | refine below_set ?_ GE222.out) | exact HB.out))) : w.heap.size ≤ gb236))
                            have n6_ := Aside0.mk ((by rw [hg]; exact Nat.ne_of_lt (blk_lt (g := gb222) (o := .cells #[.int .i64 0, .int .i64 0, .int .i64 0, .int .i64 0, .int .i64 0, .int .i64 0, .slice none 0 0] 26 (0, 0)) (by (with_reducible repeat (first | refine blk_drewN ?_ _ | refine blk_drew ?_ | refine blk_alloc ?_ _)); exact BK222.out)) : gb222 ≠ gb236))
                            have n7_ := Aside0.mk ((by rw [hg]; exact Nat.ne_of_gt (blk_lt (g := gb222) (o := .cells #[.int .i64 0, .int .i64 0, .int .i64 0, .int .i64 0, .int .i64 0, .int .i64 0, .slice none 0 0] 26 (0, 0)) (by (with_reducible repeat (first | refine blk_drewN ?_ _ | refine blk_drew ?_ | refine blk_alloc ?_ _)); exact BK222.out)) : gb236 ≠ gb222))
                            clear HO235
                            clear BK222
                            clear HB
                            have HO235 := n0_
                            have BK222 := n1_
                            have HB := n2_
                            have BK236 := n3_
                            have GW236 := n4_
                            have GE236 := n5_
                            have NB222_236 := n6_
                            have NB236_222 := n7_
                            clear n0_ n1_ n2_ n3_ n4_ n5_ n6_ n7_
                            clear hb hbox hg
                            refine hK.out _ _ ⟨((HB.out.cell (World.block_lt_of_cell? w _ hw223_0)).trans hw223_0), ((HB.out.cell (World.block_lt_of_cell? w _ hw224_0)).trans hw224_0), ((HB.out.cell (World.block_lt_of_cell? w _ hw225_0)).trans hw225_0), ((HB.out.cell (World.block_lt_of_cell? w _ hw226_0)).trans hw226_0), ((HB.out.cell (World.block_lt_of_cell? w _ hw227_0)).trans hw227_0), ((HB.out.cell (World.block_lt_of_cell? w _ hw228_0)).trans hw228_0)⟩ (fun hHeld => ?_)
                            clear hK K
                            refine norm_ (a' := ?_) ?_ ?_
                            rotate_left
                            · show Act.put _ (some 4) _ = _
                              simp only [Act.put, List.setIfInBounds_toArray, List.set_cons_zero, List.set_cons_succ, i64_w, i32_w]
                              rfl
                            exact norm_ (by simp only [putAll, Act.put, List.setIfInBounds_toArray, List.set_cons_zero, List.set_cons_succ]) (hCont (v230, .slice Ao21 y233.length co21, gb236) _ ⟨hHeld, (by (with_reducible repeat (first | apply Kd.R_alloc | apply Kd.R_drewN | apply Kd.R_drew)); exact HO235.out), (by (with_reducible repeat (first | refine blk_drewN ?_ _ | refine blk_drew ?_ | refine blk_alloc ?_ _)); exact BK222.out), (by (with_reducible repeat (first | refine blk_drewN ?_ _ | refine blk_drew ?_ | refine blk_alloc ?_ _)); exact BK236.out), GW236.out, GE236.out, NB222_236.out, NB236_222.out, (by repeat (first | (with_reducible first | exact HB.out | apply below_alloc | apply pw_below_drewN | apply below_drew1 | refine below_set ?_ GE222.out | refine below_set ?_ GE236.out) | exact HB.out))⟩)
                          · skip
                            refine box_step ?hg (N := 4) ?hd (cs := #[.int .i64 0, .int .i64 0, .int .i64 0, .int .i64 0, .int .i64 0, .int .i64 0, .slice none 0 0]) (t := 26) ?hr ?_; (case hd => rfl); (case hg => rfl); (case hr => first | (go_simp; done) | (go_simp; rfl))
                            intro gb236 hg w20 hbox hb
                            have n0_ := Aside0.mk (Kd.R_below (by (with_reducible repeat (first | apply Kd.R_alloc | apply Kd.R_drewN | apply Kd.R_drew)); exact HO231.out) hb)
                            have n1_ := Aside0.mk (blk_below (g := gb222) (o := .cells #[.int .i64 0, .int .i64 0, .int .i64 0, .int .i64 0, .int .i64 0, .int .i64 0, .slice none 0 0] 26 (0, 0)) (by (with_reducible repeat (first | refine blk_drewN ?_ _ | refine blk_drew ?_ | refine blk_alloc ?_ _)); exact BK222.out) hb)
                            have n2_ := Aside0.mk (below_step (by repeat (first | (with_reducible first | exact HB.out | apply below_alloc | apply pw_below_drewN | apply below_drew1 | refine below_set ?_ GE222.out) | exact HB.out)) hb)
                            have n3_ := Aside0.mk (hbox)
                            have n4_ := Aside0.mk ((by rw [hg]; exact (below_size (by repeat (first | (with_reducible first | exact HB.out | apply below_alloc | apply pw_below_drewN | apply below_drew1 | refine below_set ?_ GE222.out) | exact HB.out))) : w.heap.size ≤ gb236))
                            have n5_ := Aside0.mk ((by rw [hg]; exact (below_size (by repeat (first | (with_reducible first | exact HB.out | apply below_alloc | apply pw_below_drewN | apply below_drew1 | refine below_set ?_ GE222.out) | exact HB.out))) : w.heap.size ≤ gb236))
                            have n6_ := Aside0.mk ((by rw [hg]; exact Nat.ne_of_lt (blk_lt (g := gb222) (o := .cells #[.int .i64 0, .int .i64 0, .int .i64 0, .int .i64 0, .int .i64 0, .int .i64 0, .slice none 0 0] 26 (0, 0)) (by (with_reducible repeat (first | refine blk_drewN ?_ _ | refine blk_drew ?_ | refine blk_alloc ?_ _)); exact BK222.out)) : gb222 ≠ gb236))
                            have n7_ := Aside0.mk ((by rw [hg]; exact Nat.ne_of_gt (blk_lt (g := gb222) (o := .cells #[.int .i64 0, .int .i64 0, .int .i64 0, .int .i64 0, .int .i64 0, .int .i64 0, .slice none 0 0] 26 (0, 0)) (by (with_reducible repeat (first | refine blk_drewN ?_ _ | refine blk_drew ?_ | refine blk_alloc ?_ _)); exact BK222.out)) : gb236 ≠ gb222))
                            clear HO231
                            clear BK222
                            clear HB
                            have HO231 := n0_
                            have BK222 := n1_
                            have HB := n2_
                            have BK236 := n3_
                            have GW236 := n4_
                            have GE236 := n5_
                            have NB222_236 := n6_
                            have NB236_222 := n7_
                            clear n0_ n1_ n2_ n3_ n4_ n5_ n6_ n7_
                            clear hb hbox hg
                            refine hK.out _ _ ⟨((HB.out.cell (World.block_lt_of_cell? w _ hw223_0)).trans hw223_0), ((HB.out.cell (World.block_lt_of_cell? w _ hw224_0)).trans hw224_0), ((HB.out.cell (World.block_lt_of_cell? w _ hw225_0)).trans hw225_0), ((HB.out.cell (World.block_lt_of_cell? w _ hw226_0)).trans hw226_0), ((HB.out.cell (World.block_lt_of_cell? w _ hw227_0)).trans hw227_0), ((HB.out.cell (World.block_lt_of_cell? w _ hw228_0)).trans hw228_0)⟩ (fun hHeld => ?_)
                            clear hK K
                            refine norm_ (a' := ?_) ?_ ?_
                            rotate_left
                            · show Act.put _ (some 4) _ = _
                              simp only [Act.put, List.setIfInBounds_toArray, List.set_cons_zero, List.set_cons_succ, i64_w, i32_w]
                              rfl
                            refine one_ (i := 23) (N := some 32) #[true, true, true, true, true, true, true, true, true, true, true, true, true, true, true, true, true, true, true, true, true, true, true, true, false, true, false] rfl rfl (one_of HT_.out (by kernel_rfl)) (by decide) (fun K hK => ?_)
                            refine Kd.R_append_rows_step (Kd.int .i64) (w0 := w) w.heap.size (by rfl) (.tmp 29) (.tmp 31) 24 3 (.int .i64 0) 8 rfl Try.underlying24 info3 rfl (by decide) (by omega) v230 y229 (l0.drop 6) _ _ _ (fun _ => True) (fun _ => False) rfl rfl ?aO ?aR (fun _ _ h => h) (fun _ h => h.elim) ?aF ?aB ?aS ?aL ?_
                            (case aR => first | (rw [← show (l0.drop 6).length = (l0.length - 6) from List.length_drop]; repeat (first | exact (Kd.C_below HR232.out HB.out) | (with_reducible refine Kd.C_alloc ?_ _) | (with_reducible refine Kd.C_drewN ?_ _) | (with_reducible refine Kd.C_drew ?_))) | (repeat (first | exact (Kd.C_below HR232.out HB.out) | (with_reducible refine Kd.C_alloc ?_ _) | (with_reducible refine Kd.C_drewN ?_ _) | (with_reducible refine Kd.C_drew ?_))))
                            (case aB => exact (by repeat (first | (with_reducible first | exact HB.out | apply below_alloc | apply pw_below_drewN | apply below_drew1 | refine below_set ?_ GE222.out | refine below_set ?_ GE236.out) | exact HB.out)))
                            (case aF => exact (fun _ _ => trivial))
                            (case aO => exact (by (with_reducible repeat (first | apply Kd.R_alloc | apply Kd.R_drewN | apply Kd.R_drew)); exact HO231.out))
                            (case aS => exact (below_size (by repeat (first | (with_reducible first | exact HB.out | apply below_alloc | apply pw_below_drewN | apply below_drew1 | refine below_set ?_ GE222.out | refine below_set ?_ GE236.out) | exact HB.out))))
                            (case aL => have := LMc12.out; have hlx_ := (show (l0.drop 6).length = (l0.length - 6) from List.length_drop); omega)
                            intro v234 w21 ho hb hg hat
                            rw [← Ny233.out] at ho
                            have n0_ := Aside0.mk (blk_grown (g := gb222) (o := .cells #[.int .i64 0, .int .i64 0, .int .i64 0, .int .i64 0, .int .i64 0, .int .i64 0, .slice none 0 0] 26 (0, 0)) (by (with_reducible repeat (first | refine blk_drewN ?_ _ | refine blk_drew ?_ | refine blk_alloc ?_ _)); exact BK222.out) hg (Kd.R_ne HO231.out BK222.out (by decide)))
                            have n1_ := Aside0.mk (blk_grown (g := gb236) (o := .cells #[.int .i64 0, .int .i64 0, .int .i64 0, .int .i64 0, .int .i64 0, .int .i64 0, .slice none 0 0] 26 (0, 0)) (by (with_reducible repeat (first | refine blk_drewN ?_ _ | refine blk_drew ?_ | refine blk_alloc ?_ _)); exact BK236.out) hg (Kd.R_ne HO231.out BK236.out (by decide)))
                            have n2_ := Aside0.mk (hb)
                            have n3_ := Aside0.mk (ho)
                            clear BK222
                            clear BK236
                            clear HB
                            clear HO231
                            have BK222 := n0_
                            have BK236 := n1_
                            have HB := n2_
                            have HO235 := n3_
                            clear n0_ n1_ n2_ n3_
                            clear ho hb hg hat
                            obtain ⟨Ao22, co22, eo22⟩ := Kd.R_slice HO235.out
                            (first | subst eo22 | (injection eo22 with f1_ f2_ f3_; have f4_ := f1_.symm; have f5_ := f3_.symm; clear f1_ f2_ f3_; subst f4_; subst f5_))
                            refine hK.out _ _ ⟨((HB.out.cell (World.block_lt_of_cell? w _ hw223_0)).trans hw223_0), ((HB.out.cell (World.block_lt_of_cell? w _ hw224_0)).trans hw224_0), ((HB.out.cell (World.block_lt_of_cell? w _ hw225_0)).trans hw225_0), ((HB.out.cell (World.block_lt_of_cell? w _ hw226_0)).trans hw226_0), ((HB.out.cell (World.block_lt_of_cell? w _ hw227_0)).trans hw227_0), ((HB.out.cell (World.block_lt_of_cell? w _ hw228_0)).trans hw228_0)⟩ (fun hHeld => ?_)
                            clear hK K
                            refine norm_ (a' := ?_) ?_ ?_
                            rotate_left
                            · show Act.put _ (some 32) _ = _
                              simp only [Act.put, List.setIfInBounds_toArray, List.set_cons_zero, List.set_cons_succ, i64_w, i32_w]
                              rfl
                            refine pure_ (i := 24) (N := some 33) (v := ?_) (a' := ?_) #[true, true, true, true, true, true, true, true, true, true, true, true, true, true, true, true, true, true, true, true, true, true, true, true, true, true, false] rfl rfl (any_of HT_.out (by kernel_rfl)) (fun _ _ _ h => h) (Or.inl ⟨by rfl, ?_⟩) ?_ ?_
                            rotate_left
                            · intro w'
                              go_simp
                              with_reducible rfl
                            rotate_left
                            · simp only [Act.put, List.setIfInBounds_toArray, List.set_cons_zero, List.set_cons_succ, i64_w, i32_w]
                              rfl
                            exact norm_ (by simp only [putAll, Act.put, List.setIfInBounds_toArray, List.set_cons_zero, List.set_cons_succ]) (hCont (v230, .slice Ao22 y233.length co22, gb236) _ ⟨hHeld, (by (with_reducible repeat (first | apply Kd.R_alloc | apply Kd.R_drewN | apply Kd.R_drew)); exact HO235.out), (by (with_reducible repeat (first | refine blk_drewN ?_ _ | refine blk_drew ?_ | refine blk_alloc ?_ _)); exact BK222.out), (by (with_reducible repeat (first | refine blk_drewN ?_ _ | refine blk_drew ?_ | refine blk_alloc ?_ _)); exact BK236.out), GW236.out, GE236.out, NB222_236.out, NB236_222.out, (by repeat (first | (with_reducible first | exact HB.out | apply below_alloc | apply pw_below_drewN | apply below_drew1 | refine below_set ?_ GE222.out | refine below_set ?_ GE236.out) | exact HB.out))⟩)
                        · skip
                          refine box_step ?hg (N := 4) ?hd (cs := #[.int .i64 0, .int .i64 0, .int .i64 0, .int .i64 0, .int .i64 0, .int .i64 0, .slice none 0 0]) (t := 26) ?hr ?_; (case hd => rfl); (case hg => rfl); (case hr => first | (go_simp; done) | (go_simp; rfl))
                          intro gb236 hg w18 hbox hb
                          have n0_ := Aside0.mk (blk_below (g := gb222) (o := .cells #[.int .i64 0, .int .i64 0, .int .i64 0, .int .i64 0, .int .i64 0, .int .i64 0, .slice none 0 0] 26 (0, 0)) (by (with_reducible repeat (first | refine blk_drewN ?_ _ | refine blk_drew ?_ | refine blk_alloc ?_ _)); exact BK222.out) hb)
                          have n1_ := Aside0.mk (below_step (by repeat (first | (with_reducible first | exact HB.out | apply below_alloc | apply pw_below_drewN | apply below_drew1 | refine below_set ?_ GE222.out) | exact HB.out)) hb)
                          have n2_ := Aside0.mk (hbox)
                          have n3_ := Aside0.mk ((by rw [hg]; exact (below_size (by repeat (first | (with_reducible first | exact HB.out | apply below_alloc | apply pw_below_drewN | apply below_drew1 | refine below_set ?_ GE222.out) | exact HB.out))) : w.heap.size ≤ gb236))
                          have n4_ := Aside0.mk ((by rw [hg]; exact (below_size (by repeat (first | (with_reducible first | exact HB.out | apply below_alloc | apply pw_below_drewN | apply below_drew1 | refine below_set ?_ GE222.out) | exact HB.out))) : w.heap.size ≤ gb236))
                          have n5_ := Aside0.mk ((by rw [hg]; exact Nat.ne_of_lt (blk_lt (g := gb222) (o := .cells #[.int .i64 0, .int .i64 0, .int .i64 0, .int .i64 0, .int .i64 0, .int .i64 0, .slice none 0 0] 26 (0, 0)) (by (with_reducible repeat (first | refine blk_drewN ?_ _ | refine blk_drew ?_ | refine blk_alloc ?_ _)); exact BK222.out)) : gb222 ≠ gb236))
                          have n6_ := Aside0.mk ((by rw [hg]; exact Nat.ne_of_gt (blk_lt (g := gb222) (o := .cells #[.int .i64 0, .int .i64 0, .int .i64 0, .int .i64 0, .int .i64 0, .int .i64 0, .slice none 0 0] 26 (0, 0)) (by (with_reducible repeat (first | refine blk_drewN ?_ _ | refine blk_drew ?_ | refine blk_alloc ?_ _)); exact BK222.out)) : gb236 ≠ gb222))
                          clear BK222
                          clear HB
                          have BK222 := n0_
                          have HB := n1_
                          have BK236 := n2_
                          have GW236 := n3_
                          have GE236 := n4_
                          have NB222_236 := n5_
                          have NB236_222 := n6_
                          clear n0_ n1_ n2_ n3_ n4_ n5_ n6_
                          clear hb hbox hg
                          refine hK.out _ _ ⟨((HB.out.cell (World.block_lt_of_cell? w _ hw223_0)).trans hw223_0), ((HB.out.cell (World.block_lt_of_cell? w _ hw224_0)).trans hw224_0), ((HB.out.cell (World.block_lt_of_cell? w _ hw225_0)).trans hw225_0), ((HB.out.cell (World.block_lt_of_cell? w _ hw226_0)).trans hw226_0), ((HB.out.cell (World.block_lt_of_cell? w _ hw227_0)).trans hw227_0), ((HB.out.cell (World.block_lt_of_cell? w _ hw228_0)).trans hw228_0)⟩ (fun hHeld => ?_)
                          clear hK K
                          refine norm_ (a' := ?_) ?_ ?_
                          rotate_left
                          · show Act.put _ (some 4) _ = _
                            simp only [Act.put, List.setIfInBounds_toArray, List.set_cons_zero, List.set_cons_succ, i64_w, i32_w]
                            rfl
                          refine one_ (i := 20) (N := some 29) #[true, true, true, true, true, true, true, true, true, true, true, true, true, true, true, true, true, true, true, true, true, true, true, false, false, true, false] rfl rfl (one_of HT_.out (by kernel_rfl)) (by decide) (fun K hK => ?_)
                          refine Kd.R_lit_step (Kd.int .i64) _ 3 ?hg (N := 29) ?hd (xs := ([] : List Int)) (inner := []) (ok := fun _ => True) (okp := fun _ => True) ?hr ?hp (fun _ hk => hk) trivial (Below.refl _ _) (Nat.le_refl _) (by simp) ?_; (case hd => rfl); (case hg => rfl); (case hr => first | (go_simp; done) | (go_simp; rfl)); (case hp => exact (Reps.none _ _))
                          intro v230 w19 ho20 hb hg_ hnew_
                          clear hg_ hnew_
                          (first | rw [← Ny229.out] at ho20 | (simp only [Int.reduceToNat] at ho20; rw [← Ny229.out] at ho20))
                          have n0_ := Aside0.mk (Kd.R_lower ho20 (below_size (by repeat (first | (with_reducible first | exact HB.out | apply below_alloc | apply pw_below_drewN | apply below_drew1 | refine below_set ?_ GE222.out | refine below_set ?_ GE236.out) | exact HB.out))))
                          have n1_ := Aside0.mk (blk_below (g := gb222) (o := .cells #[.int .i64 0, .int .i64 0, .int .i64 0, .int .i64 0, .int .i64 0, .int .i64 0, .slice none 0 0] 26 (0, 0)) (by (with_reducible repeat (first | refine blk_drewN ?_ _ | refine blk_drew ?_ | refine blk_alloc ?_ _)); exact BK222.out) hb)
                          have n2_ := Aside0.mk (blk_below (g := gb236) (o := .cells #[.int .i64 0, .int .i64 0, .int .i64 0, .int .i64 0, .int .i64 0, .int .i64 0, .slice none 0 0] 26 (0, 0)) (by (with_reducible repeat (first | refine blk_drewN ?_ _ | refine blk_drew ?_ | refine blk_alloc ?_ _)); exact BK236.out) hb)
                          have n3_ := Aside0.mk (below_step (by repeat (first | (with_reducible first | exact HB.out | apply below_alloc | apply pw_below_drewN | apply below_drew1 | refine below_set ?_ GE222.out | refine below_set ?_ GE236.out) | exact HB.out)) hb)
                          clear BK222
                          clear BK236
                          clear HB
                          have HO231 := n0_
                          have BK222 := n1_
                          have BK236 := n2_
                          have HB := n3_
                          clear n0_ n1_ n2_ n3_
                          clear hb ho20
                          refine hK.out _ _ ⟨((HB.out.cell (World.block_lt_of_cell? w _ hw223_0)).trans hw223_0), ((HB.out.cell (World.block_lt_of_cell? w _ hw224_0)).trans hw224_0), ((HB.out.cell (World.block_lt_of_cell? w _ hw225_0)).trans hw225_0), ((HB.out.cell (World.block_lt_of_cell? w _ hw226_0)).trans hw226_0), ((HB.out.cell (World.block_lt_of_cell? w _ hw227_0)).trans hw227_0), ((HB.out.cell (World.block_lt_of_cell? w _ hw228_0)).trans hw228_0)⟩ (fun hHeld => ?_)
                          clear hK K
                          refine norm_ (a' := ?_) ?_ ?_
                          rotate_left
                          · show Act.put _ (some 29) _ = _
                            simp only [Act.put, List.setIfInBounds_toArray, List.set_cons_zero, List.set_cons_succ, i64_w, i32_w]
                            rfl
                          refine one_ (i := 23) (N := some 32) #[true, true, true, true, true, true, true, true, true, true, true, true, true, true, true, true, true, true, true, true, true, true, true, true, false, true, false] rfl rfl (one_of HT_.out (by kernel_rfl)) (by decide) (fun K hK => ?_)
                          refine Kd.R_append_rows_step (Kd.int .i64) (w0 := w) w.heap.size (by rfl) (.tmp 29) (.tmp 31) 24 3 (.int .i64 0) 8 rfl Try.underlying24 info3 rfl (by decide) (by omega) v230 y229 (l0.drop 6) _ _ _ (fun _ => True) (fun _ => False) rfl rfl ?aO ?aR (fun _ _ h => h) (fun _ h => h.elim) ?aF ?aB ?aS ?aL ?_
                          (case aR => first | (rw [← show (l0.drop 6).length = (l0.length - 6) from List.length_drop]; repeat (first | exact (Kd.C_below HR232.out HB.out) | (with_reducible refine Kd.C_alloc ?_ _) | (with_reducible refine Kd.C_drewN ?_ _) | (with_reducible refine Kd.C_drew ?_))) | (repeat (first | exact (Kd.C_below HR232.out HB.out) | (with_reducible refine Kd.C_alloc ?_ _) | (with_reducible refine Kd.C_drewN ?_ _) | (with_reducible refine Kd.C_drew ?_))))
                          (case aB => exact (by repeat (first | (with_reducible first | exact HB.out | apply below_alloc | apply pw_below_drewN | apply below_drew1 | refine below_set ?_ GE222.out | refine below_set ?_ GE236.out) | exact HB.out)))
                          (case aF => exact (fun _ _ => trivial))
                          (case aO => exact (by (with_reducible repeat (first | apply Kd.R_alloc | apply Kd.R_drewN | apply Kd.R_drew)); exact HO231.out))
                          (case aS => exact (below_size (by repeat (first | (with_reducible first | exact HB.out | apply below_alloc | apply pw_below_drewN | apply below_drew1 | refine below_set ?_ GE222.out | refine below_set ?_ GE236.out) | exact HB.out))))
                          (case aL => have := LMc12.out; have hlx_ := (show (l0.drop 6).length = (l0.length - 6) from List.length_drop); omega)
                          intro v234 w21 ho hb hg hat
                          rw [← Ny233.out] at ho
                          have n0_ := Aside0.mk (blk_grown (g := gb222) (o := .cells #[.int .i64 0, .int .i64 0, .int .i64 0, .int .i64 0, .int .i64 0, .int .i64 0, .slice none 0 0] 26 (0, 0)) (by (with_reducible repeat (first | refine blk_drewN ?_ _ | refine blk_drew ?_ | refine blk_alloc ?_ _)); exact BK222.out) hg (Kd.R_ne HO231.out BK222.out (by decide)))
                          have n1_ := Aside0.mk (blk_grown (g := gb236) (o := .cells #[.int .i64 0, .int .i64 0, .int .i64 0, .int .i64 0, .int .i64 0, .int .i64 0, .slice none 0 0] 26 (0, 0)) (by (with_reducible repeat (first | refine blk_drewN ?_ _ | refine blk_drew ?_ | refine blk_alloc ?_ _)); exact BK236.out) hg (Kd.R_ne HO231.out BK236.out (by decide)))
                          have n2_ := Aside0.mk (hb)
                          have n3_ := Aside0.mk (ho)
                          clear BK222
                          clear BK236
                          clear HB
                          clear HO231
                          have BK222 := n0_
                          have BK236 := n1_
                          have HB := n2_
                          have HO235 := n3_
                          clear n0_ n1_ n2_ n3_
                          clear ho hb hg hat
                          obtain ⟨Ao22, co22, eo22⟩ := Kd.R_slice HO235.out
                          (first | subst eo22 | (injection eo22 with f1_ f2_ f3_; have f4_ := f1_.symm; have f5_ := f3_.symm; clear f1_ f2_ f3_; subst f4_; subst f5_))
                          refine hK.out _ _ ⟨((HB.out.cell (World.block_lt_of_cell? w _ hw223_0)).trans hw223_0), ((HB.out.cell (World.block_lt_of_cell? w _ hw224_0)).trans hw224_0), ((HB.out.cell (World.block_lt_of_cell? w _ hw225_0)).trans hw225_0), ((HB.out.cell (World.block_lt_of_cell? w _ hw226_0)).trans hw226_0), ((HB.out.cell (World.block_lt_of_cell? w _ hw227_0)).trans hw227_0), ((HB.out.cell (World.block_lt_of_cell? w _ hw228_0)).trans hw228_0)⟩ (fun hHeld => ?_)
                          clear hK K
                          refine norm_ (a' := ?_) ?_ ?_
                          rotate_left
                          · show Act.put _ (some 32) _ = _
                            simp only [Act.put, List.setIfInBounds_toArray, List.set_cons_zero, List.set_cons_succ, i64_w, i32_w]
                            rfl
                          refine pure_ (i := 24) (N := some 33) (v := ?_) (a' := ?_) #[true, true, true, true, true, true, true, true, true, true, true, true, true, true, true, true, true, true, true, true, true, true, true, true, true, true, false] rfl rfl (any_of HT_.out (by kernel_rfl)) (fun _ _ _ h => h) (Or.inl ⟨by rfl, ?_⟩) ?_ ?_
                          rotate_left
                          · intro w'
                            go_simp
                            with_reducible rfl
                          rotate_left
                          · simp only [Act.put, List.setIfInBounds_toArray, List.set_cons_zero, List.set_cons_succ, i64_w, i32_w]
                            rfl
                          exact norm_ (by simp only [putAll, Act.put, List.setIfInBounds_toArray, List.set_cons_zero, List.set_cons_succ]) (hCont (v230, .slice Ao22 y233.length co22, gb236) _ ⟨hHeld, (by (with_reducible repeat (first | apply Kd.R_alloc | apply Kd.R_drewN | apply Kd.R_drew)); exact HO235.out), (by (with_reducible repeat (first | refine blk_drewN ?_ _ | refine blk_drew ?_ | refine blk_alloc ?_ _)); exact BK222.out), (by (with_reducible repeat (first | refine blk_drewN ?_ _ | refine blk_drew ?_ | refine blk_alloc ?_ _)); exact BK236.out), GW236.out, GE236.out, NB222_236.out, NB236_222.out, (by repeat (first | (with_reducible first | exact HB.out | apply below_alloc | apply pw_below_drewN | apply below_drew1 | refine below_set ?_ GE222.out | refine below_set ?_ GE236.out) | exact HB.out))⟩)
                      rintro ⟨v230, v234, gb236⟩ w23 ⟨hS_, h0_, h1_, h2_, h3_, h4_, h5_, h6_, h7_⟩
                      have n0_ : Aside0 (Kd.R (Kd.int .i64) 3 w23 w.heap.size (fun _ => True) v234 y233) := ⟨h0_⟩
                      have n1_ : Aside0 (w23.heap[gb222]? = some (.cells #[.int .i64 0, .int .i64 0, .int .i64 0, .int .i64 0, .int .i64 0, .int .i64 0, .slice none 0 0] 26 (0, 0))) := ⟨h1_⟩
                      have n2_ : Aside0 (w23.heap[gb236]? = some (.cells #[.int .i64 0, .int .i64 0, .int .i64 0, .int .i64 0, .int .i64 0, .int .i64 0, .slice none 0 0] 26 (0, 0))) := ⟨h2_⟩
                      have n3_ : Aside0 (w.heap.size ≤ gb236) := ⟨h3_⟩
                      have n4_ : Aside0 (w.heap.size ≤ gb236) := ⟨h4_⟩
                      have n5_ : Aside0 (gb222 ≠ gb236) := ⟨h5_⟩
                      have n6_ : Aside0 (gb236 ≠ gb222) := ⟨h6_⟩
                      have n7_ : Aside0 (Below w.heap.size w w23) := ⟨h7_⟩
                      clear BK222
                      clear HB
                      clear h0_ h1_ h2_ h3_ h4_ h5_ h6_ h7_
                      have HO235 := n0_
                      have BK222 := n1_
                      have BK236 := n2_
                      have GW236 := n3_
                      have GE236 := n4_
                      have NB222_236 := n5_
                      have NB236_222 := n6_
                      have HB := n7_
                      clear n0_ n1_ n2_ n3_ n4_ n5_ n6_ n7_
                      have hHeld : w23.cell? ad223 = some (.int .i64 (rd l0 0)) ∧ w23.cell? ⟨ad223.block, ad223.off + 1, none⟩ = some (.int .i64 (rd l0 1)) ∧ w23.cell? ⟨ad223.block, ad223.off + 2, none⟩ = some (.int .i64 (rd l0 2)) ∧ w23.cell? ⟨ad223.block, ad223.off + 3, none⟩ = some (.int .i64 (rd l0 3)) ∧ w23.cell? ⟨ad223.block, ad223.off + 4, none⟩ = some (.int .i64 (rd l0 4)) ∧ w23.cell? ⟨ad223.block, ad223.off + 5, none⟩ = some (.int .i64 (rd l0 5)) := hS_
                      obtain ⟨Ao24, co24, eo24⟩ := Kd.R_slice HO235.out
                      (first | subst eo24 | (injection eo24 with f1_ f2_ f3_; have f4_ := f1_.symm; have f5_ := f3_.symm; clear f1_ f2_ f3_; subst f4_; subst f5_))
                      refine norm_ (a' := ?_) ?_ ?_
                      rotate_left
                      · simp only [putAll, Act.put, List.setIfInBounds_toArray, List.set_cons_zero, List.set_cons_succ]
                        rfl
                      refine one_ (i := 26) (N := none) #[true, true, true, true, true, true, true, true, true, true, true, true, true, true, true, true, true, true, true, true, true, true, true, true, true, true, true] rfl rfl (one_of HT_.out (by kernel_rfl)) (by decide) (fun K hK => ?_)
                      have hs25 : w23.cell? ⟨gb236, 0, none⟩ = some (.int .i64 0) := (blk_cell BK236.out 0).trans rfl
                      have hfs25 := blk_frozen BK236.out 0
                      have hns25_0 := NB222_236.out
                      have hms25_0 := NB236_222.out
                      have hs26 : w23.cell? ⟨gb236, 1, none⟩ = some (.int .i64 0) := (blk_cell BK236.out 1).trans rfl
                      have hfs26 := blk_frozen BK236.out 1
                      have hns26_0 := NB222_236.out
                      have hms26_0 := NB236_222.out
                      have hs27 : w23.cell? ⟨gb236, 2, none⟩ = some (.int .i64 0) := (blk_cell BK236.out 2).trans rfl
                      have hfs27 := blk_frozen BK236.out 2
                      have hns27_0 := NB222_236.out
                      have hms27_0 := NB236_222.out
                      have hs28 : w23.cell? ⟨gb236, 3, none⟩ = some (.int .i64 0) := (blk_cell BK236.out 3).trans rfl
                      have hfs28 := blk_frozen BK236.out 3
                      have hns28_0 := NB222_236.out
                      have hms28_0 := NB236_222.out
                      have hs29 : w23.cell? ⟨gb236, 4, none⟩ = some (.int .i64 0) := (blk_cell BK236.out 4).trans rfl
                      have hfs29 := blk_frozen BK236.out 4
                      have hns29_0 := NB222_236.out
                      have hms29_0 := NB236_222.out
                      have hs30 : w23.cell? ⟨gb236, 5, none⟩ = some (.int .i64 0) := (blk_cell BK236.out 5).trans rfl
                      have hfs30 := blk_frozen BK236.out 5
                      have hns30_0 := NB222_236.out
                      have hms30_0 := NB236_222.out
                      have hs31 : w23.cell? ⟨gb236, 6, none⟩ = some (.slice none 0 0) := (blk_cell BK236.out 6).trans rfl
                      have hfs31 := blk_frozen BK236.out 6
                      have hns31_0 := NB222_236.out
                      have hms31_0 := NB236_222.out
                      refine skip_ (w1 := ?_) (by rfl) rfl ?_ ?_
                      rotate_left
                      · go_simp
                        rfl
                      refine hK.out _ _ ⟨((cell_far (p := ⟨gb236, _, none⟩) (by first | exact f1x9 hw223_0 GW236.out | exact f0x9 hw223_0 GW236.out | (rw [add_block]; exact f1x9 hw223_0 GW236.out)) _).trans (((cell_far (p := ⟨gb236, _, none⟩) (by first | exact f1x9 hw223_0 GW236.out | exact f0x9 hw223_0 GW236.out | (rw [add_block]; exact f1x9 hw223_0 GW236.out)) _).trans (((cell_far (p := ⟨gb236, _, none⟩) (by first | exact f1x9 hw223_0 GW236.out | exact f0x9 hw223_0 GW236.out | (rw [add_block]; exact f1x9 hw223_0 GW236.out)) _).trans (((cell_far (p := ⟨gb236, _, none⟩) (by first | exact f1x9 hw223_0 GW236.out | exact f0x9 hw223_0 GW236.out | (rw [add_block]; exact f1x9 hw223_0 GW236.out)) _).trans (((cell_far (p := ⟨gb236, _, none⟩) (by first | exact f1x9 hw223_0 GW236.out | exact f0x9 hw223_0 GW236.out | (rw [add_block]; exact f1x9 hw223_0 GW236.out)) _).trans (((cell_far (p := ⟨gb236, _, none⟩) (by first | exact f1x9 hw223_0 GW236.out | exact f0x9 hw223_0 GW236.out | (rw [add_block]; exact f1x9 hw223_0 GW236.out)) _).trans (((cell_far (p := ⟨gb236, _, none⟩) (by first | exact f1x9 hw223_0 GW236.out | exact f0x9 hw223_0 GW236.out | (rw [add_block]; exact f1x9 hw223_0 GW236.out)) _).trans (hHeld.1)))))))))))))), ((cell_far (p := ⟨gb236, _, none⟩) (by first | exact f1x9 hw224_0 GW236.out | exact f0x9 hw224_0 GW236.out | (rw [add_block]; exact f1x9 hw224_0 GW236.out)) _).trans (((cell_far (p := ⟨gb236, _, none⟩) (by first | exact f1x9 hw224_0 GW236.out | exact f0x9 hw224_0 GW236.out | (rw [add_block]; exact f1x9 hw224_0 GW236.out)) _).trans (((cell_far (p := ⟨gb236, _, none⟩) (by first | exact f1x9 hw224_0 GW236.out | exact f0x9 hw224_0 GW236.out | (rw [add_block]; exact f1x9 hw224_0 GW236.out)) _).trans (((cell_far (p := ⟨gb236, _, none⟩) (by first | exact f1x9 hw224_0 GW236.out | exact f0x9 hw224_0 GW236.out | (rw [add_block]; exact f1x9 hw224_0 GW236.out)) _).trans (((cell_far (p := ⟨gb236, _, none⟩) (by first | exact f1x9 hw224_0 GW236.out | exact f0x9 hw224_0 GW236.out | (rw [add_block]; exact f1x9 hw224_0 GW236.out)) _).trans (((cell_far (p := ⟨gb236, _, none⟩) (by first | exact f1x9 hw224_0 GW236.out | exact f0x9 hw224_0 GW236.out | (rw [add_block]; exact f1x9 hw224_0 GW236.out)) _).trans (((cell_far (p := ⟨gb236, _, none⟩) (by first | exact f1x9 hw224_0 GW236.out | exact f0x9 hw224_0 GW236.out | (rw [add_block]; exact f1x9 hw224_0 GW236.out)) _).trans (hHeld.2.1)))))))))))))), ((cell_far (p := ⟨gb236, _, none⟩) (by first | exact f1x9 hw225_0 GW236.out | exact f0x9 hw225_0 GW236.out | (rw [add_block]; exact f1x9 hw225_0 GW236.out)) _).trans (((cell_far (p := ⟨gb236, _, none⟩) (by first | exact f1x9 hw225_0 GW236.out | exact f0x9 hw225_0 GW236.out | (rw [add_block]; exact f1x9 hw225_0 GW236.out)) _).trans (((cell_far (p := ⟨gb236, _, none⟩) (by first | exact f1x9 hw225_0 GW236.out | exact f0x9 hw225_0 GW236.out | (rw [add_block]; exact f1x9 hw225_0 GW236.out)) _).trans (((cell_far (p := ⟨gb236, _, none⟩) (by first | exact f1x9 hw225_0 GW236.out | exact f0x9 hw225_0 GW236.out | (rw [add_block]; exact f1x9 hw225_0 GW236.out)) _).trans (((cell_far (p := ⟨gb236, _, none⟩) (by first | exact f1x9 hw225_0 GW236.out | exact f0x9 hw225_0 GW236.out | (rw [add_block]; exact f1x9 hw225_0 GW236.out)) _).trans (((cell_far (p := ⟨gb236, _, none⟩) (by first | exact f1x9 hw225_0 GW236.out | exact f0x9 hw225_0 GW236.out | (rw [add_block]; exact f1x9 hw225_0 GW236.out)) _).trans (((cell_far (p := ⟨gb236, _, none⟩) (by first | exact f1x9 hw225_0 GW236.out | exact f0x9 hw225_0 GW236.out | (rw [add_block]; exact f1x9 hw225_0 GW236.out)) _).trans (hHeld.2.2.1)))))))))))))), ((cell_far (p := ⟨gb236, _, none⟩) (by first | exact f1x9 hw226_0 GW236.out | exact f0x9 hw226_0 GW236.out | (rw [add_block]; exact f1x9 hw226_0 GW236.out)) _).trans (((cell_far (p := ⟨gb236, _, none⟩) (by first | exact f1x9 hw226_0 GW236.out | exact f0x9 hw226_0 GW236.out | (rw [add_block]; exact f1x9 hw226_0 GW236.out)) _).trans (((cell_far (p := ⟨gb236, _, none⟩) (by first | exact f1x9 hw226_0 GW236.out | exact f0x9 hw226_0 GW236.out | (rw [add_block]; exact f1x9 hw226_0 GW236.out)) _).trans (((cell_far (p := ⟨gb236, _, none⟩) (by first | exact f1x9 hw226_0 GW236.out | exact f0x9 hw226_0 GW236.out | (rw [add_block]; exact f1x9 hw226_0 GW236.out)) _).trans (((cell_far (p := ⟨gb236, _, none⟩) (by first | exact f1x9 hw226_0 GW236.out | exact f0x9 hw226_0 GW236.out | (rw [add_block]; exact f1x9 hw226_0 GW236.out)) _).trans (((cell_far (p := ⟨gb236, _, none⟩) (by first | exact f1x9 hw226_0 GW236.out | exact f0x9 hw226_0 GW236.out | (rw [add_block]; exact f1x9 hw226_0 GW236.out)) _).trans (((cell_far (p := ⟨gb236, _, none⟩) (by first | exact f1x9 hw226_0 GW236.out | exact f0x9 hw226_0 GW236.out | (rw [add_block]; exact f1x9 hw226_0 GW236.out)) _).trans (hHeld.2.2.2.1)))))))))))))), ((cell_far (p := ⟨gb236, _, none⟩) (by first | exact f1x9 hw227_0 GW236.out | exact f0x9 hw227_0 GW236.out | (rw [add_block]; exact f1x9 hw227_0 GW236.out)) _).trans (((cell_far (p := ⟨gb236, _, none⟩) (by first | exact f1x9 hw227_0 GW236.out | exact f0x9 hw227_0 GW236.out | (rw [add_block]; exact f1x9 hw227_0 GW236.out)) _).trans (((cell_far (p := ⟨gb236, _, none⟩) (by first | exact f1x9 hw227_0 GW236.out | exact f0x9 hw227_0 GW236.out | (rw [add_block]; exact f1x9 hw227_0 GW236.out)) _).trans (((cell_far (p := ⟨gb236, _, none⟩) (by first | exact f1x9 hw227_0 GW236.out | exact f0x9 hw227_0 GW236.out | (rw [add_block]; exact f1x9 hw227_0 GW236.out)) _).trans (((cell_far (p := ⟨gb236, _, none⟩) (by first | exact f1x9 hw227_0 GW236.out | exact f0x9 hw227_0 GW236.out | (rw [add_block]; exact f1x9 hw227_0 GW236.out)) _).trans (((cell_far (p := ⟨gb236, _, none⟩) (by first | exact f1x9 hw227_0 GW236.out | exact f0x9 hw227_0 GW236.out | (rw [add_block]; exact f1x9 hw227_0 GW236.out)) _).trans (((cell_far (p := ⟨gb236, _, none⟩) (by first | exact f1x9 hw227_0 GW236.out | exact f0x9 hw227_0 GW236.out | (rw [add_block]; exact f1x9 hw227_0 GW236.out)) _).trans (hHeld.2.2.2.2.1)))))))))))))), ((cell_far (p := ⟨gb236, _, none⟩) (by first | exact f1x9 hw228_0 GW236.out | exact f0x9 hw228_0 GW236.out | (rw [add_block]; exact f1x9 hw228_0 GW236.out)) _).trans (((cell_far (p := ⟨gb236, _, none⟩) (by first | exact f1x9 hw228_0 GW236.out | exact f0x9 hw228_0 GW236.out | (rw [add_block]; exact f1x9 hw228_0 GW236.out)) _).trans (((cell_far (p := ⟨gb236, _, none⟩) (by first | exact f1x9 hw228_0 GW236.out | exact f0x9 hw228_0 GW236.out | (rw [add_block]; exact f1x9 hw228_0 GW236.out)) _).trans (((cell_far (p := ⟨gb236, _, none⟩) (by first | exact f1x9 hw228_0 GW236.out | exact f0x9 hw228_0 GW236.out | (rw [add_block]; exact f1x9 hw228_0 GW236.out)) _).trans (((cell_far (p := ⟨gb236, _, none⟩) (by first | exact f1x9 hw228_0 GW236.out | exact f0x9 hw228_0 GW236.out | (rw [add_block]; exact f1x9 hw228_0 GW236.out)) _).trans (((cell_far (p := ⟨gb236, _, none⟩) (by first | exact f1x9 hw228_0 GW236.out | exact f0x9 hw228_0 GW236.out | (rw [add_block]; exact f1x9 hw228_0 GW236.out)) _).trans (((cell_far (p := ⟨gb236, _, none⟩) (by first | exact f1x9 hw228_0 GW236.out | exact f0x9 hw228_0 GW236.out | (rw [add_block]; exact f1x9 hw228_0 GW236.out)) _).trans (hHeld.2.2.2.2.2))))))))))))))⟩ (fun hHeld => ?_)
                      clear hK K
                      refine done_ (done_of HT_.out (by kernel_rfl)) ?_
                      have hnb32 := NB236_222.out
                      have hnc32 := NB222_236.out
                      have hcz33_0 : w23.cell? ⟨gb236, 0, none⟩ = some (.int .i64 0) := (blk_cell BK236.out 0).trans rfl
                      have hcz33_1 : w23.cell? ⟨gb236, 1, none⟩ = some (.int .i64 0) := (blk_cell BK236.out 1).trans rfl
                      have hcz33_2 : w23.cell? ⟨gb236, 2, none⟩ = some (.int .i64 0) := (blk_cell BK236.out 2).trans rfl
                      have hcz33_3 : w23.cell? ⟨gb236, 3, none⟩ = some (.int .i64 0) := (blk_cell BK236.out 3).trans rfl
                      have hcz33_4 : w23.cell? ⟨gb236, 4, none⟩ = some (.int .i64 0) := (blk_cell BK236.out 4).trans rfl
                      have hcz33_5 : w23.cell? ⟨gb236, 5, none⟩ = some (.int .i64 0) := (blk_cell BK236.out 5).trans rfl
                      have hcz33_6 : w23.cell? ⟨gb236, 6, none⟩ = some (.slice none 0 0) := (blk_cell BK236.out 6).trans rfl
                      have hfz33_0 := blk_frozen BK236.out 0
                      have hfz33_1 := blk_frozen BK236.out 1
                      have hfz33_2 := blk_frozen BK236.out 2
                      have hfz33_3 := blk_frozen BK236.out 3
                      have hfz33_4 := blk_frozen BK236.out 4
                      have hfz33_5 := blk_frozen BK236.out 5
                      have hfz33_6 := blk_frozen BK236.out 6
                      try go_wp2_with (first | ((with_reducible refine gate_callee (f := 18) rfl ?_); refine goesL_ (some 35) rfl rfl Try.func18 (by kernel_rfl) rfl #[.agg #[.int .i64 (rd l0 0), .int .i64 (rd l0 1), .int .i64 (rd l0 2), .int .i64 (rd l0 3), .int .i64 (rd l0 4), .int .i64 (rd l0 5), .slice Ao24 y233.length co24]] rfl (by (try simp only [List.map_toArray, List.map_cons, List.map_nil]); first | done | rfl | (simp only [List.length_drop, List.length_take]; rfl)) ?_; (with_reducible refine (estuaryref09_Good.calls (rd l0 0) (rd l0 1) (rd l0 2) (rd l0 3) (rd l0 4) (rd l0 5) _ _ y233 true _ ?side1 ?side2 A13.out).mono ?_); (case side1 => refine (Kd.R_reads' (e := 3) (base := w.heap.size) (ok := fun k_ => True) (n := y233.length) (c := co24) ?_).2.2; exact (by (with_reducible repeat (first | apply Kd.R_alloc | apply Kd.R_drewN | apply Kd.R_drew)); exact (Kd.R_mono (Kd.R_far (p := ⟨gb236, 6, none⟩) (Kd.R_far (p := ⟨gb236, 5, none⟩) (Kd.R_far (p := ⟨gb236, 4, none⟩) (Kd.R_far (p := ⟨gb236, 3, none⟩) (Kd.R_far (p := ⟨gb236, 2, none⟩) (Kd.R_far (p := ⟨gb236, 1, none⟩) (Kd.R_far (p := ⟨gb236, 0, none⟩) (Kd.R_types HO235.out BK236.out (by decide)) (fun _ hk => hk.2) (.int .i64 (rd l0 0))) (fun _ hk => hk.2) (.int .i64 (rd l0 1))) (fun _ hk => hk.2) (.int .i64 (rd l0 2))) (fun _ hk => hk.2) (.int .i64 (rd l0 3))) (fun _ hk => hk.2) (.int .i64 (rd l0 4))) (fun _ hk => hk.2) (.int .i64 (rd l0 5))) (fun _ hk => hk.2) (.slice Ao24 y233.length co24)) (fun _ h_ => h_.1)))); (case side2 => exact (Kd.R_reads' HO235.out).2.1); rintro e w34 ⟨rfl, hb⟩; refine ⟨_, rfl, ?_⟩; have n0_ := Aside0.mk (Kd.R_below (by (with_reducible repeat (first | apply Kd.R_alloc | apply Kd.R_drewN | apply Kd.R_drew)); exact (Kd.R_mono (Kd.R_far (p := ⟨gb236, 6, none⟩) (Kd.R_far (p := ⟨gb236, 5, none⟩) (Kd.R_far (p := ⟨gb236, 4, none⟩) (Kd.R_far (p := ⟨gb236, 3, none⟩) (Kd.R_far (p := ⟨gb236, 2, none⟩) (Kd.R_far (p := ⟨gb236, 1, none⟩) (Kd.R_far (p := ⟨gb236, 0, none⟩) (Kd.R_types HO235.out BK236.out (by decide)) (fun _ hk => hk.2) (.int .i64 (rd l0 0))) (fun _ hk => hk.2) (.int .i64 (rd l0 1))) (fun _ hk => hk.2) (.int .i64 (rd l0 2))) (fun _ hk => hk.2) (.int .i64 (rd l0 3))) (fun _ hk => hk.2) (.int .i64 (rd l0 4))) (fun _ hk => hk.2) (.int .i64 (rd l0 5))) (fun _ hk => hk.2) (.slice Ao24 y233.length co24)) (fun _ h_ => h_.1))) hb); have n1_ := Aside0.mk (blk_below (g := gb222) (o := .cells #[.int .i64 0, .int .i64 0, .int .i64 0, .int .i64 0, .int .i64 0, .int .i64 0, .slice none 0 0] 26 (0, 0)) (by (with_reducible repeat (first | refine blk_drewN ?_ _ | refine blk_drew ?_ | refine blk_alloc ?_ _)); refine blk_far ?_ NB222_236.out _; (with_reducible repeat (first | refine blk_drewN ?_ _ | refine blk_drew ?_ | refine blk_alloc ?_ _)); refine blk_far ?_ NB222_236.out _; (with_reducible repeat (first | refine blk_drewN ?_ _ | refine blk_drew ?_ | refine blk_alloc ?_ _)); refine blk_far ?_ NB222_236.out _; (with_reducible repeat (first | refine blk_drewN ?_ _ | refine blk_drew ?_ | refine blk_alloc ?_ _)); refine blk_far ?_ NB222_236.out _; (with_reducible repeat (first | refine blk_drewN ?_ _ | refine blk_drew ?_ | refine blk_alloc ?_ _)); refine blk_far ?_ NB222_236.out _; (with_reducible repeat (first | refine blk_drewN ?_ _ | refine blk_drew ?_ | refine blk_alloc ?_ _)); refine blk_far ?_ NB222_236.out _; (with_reducible repeat (first | refine blk_drewN ?_ _ | refine blk_drew ?_ | refine blk_alloc ?_ _)); refine blk_far ?_ NB222_236.out _; (with_reducible repeat (first | refine blk_drewN ?_ _ | refine blk_drew ?_ | refine blk_alloc ?_ _)); exact BK222.out) hb); have n2_ := Aside0.mk (blk_below (g := gb236) (o := .cells #[.int .i64 (rd l0 0), .int .i64 (rd l0 1), .int .i64 (rd l0 2), .int .i64 (rd l0 3), .int .i64 (rd l0 4), .int .i64 (rd l0 5), .slice Ao24 y233.length co24] 26 (0, 0)) (by (with_reducible repeat (first | refine blk_drewN ?_ _ | refine blk_drew ?_ | refine blk_alloc ?_ _)); refine blk_put (cs := #[.int .i64 (rd l0 0), .int .i64 (rd l0 1), .int .i64 (rd l0 2), .int .i64 (rd l0 3), .int .i64 (rd l0 4), .int .i64 (rd l0 5), .slice none 0 0]) ?_ 6 _ rfl; (with_reducible repeat (first | refine blk_drewN ?_ _ | refine blk_drew ?_ | refine blk_alloc ?_ _)); refine blk_put (cs := #[.int .i64 (rd l0 0), .int .i64 (rd l0 1), .int .i64 (rd l0 2), .int .i64 (rd l0 3), .int .i64 (rd l0 4), .int .i64 0, .slice none 0 0]) ?_ 5 _ rfl; (with_reducible repeat (first | refine blk_drewN ?_ _ | refine blk_drew ?_ | refine blk_alloc ?_ _)); refine blk_put (cs := #[.int .i64 (rd l0 0), .int .i64 (rd l0 1), .int .i64 (rd l0 2), .int .i64 (rd l0 3), .int .i64 0, .int .i64 0, .slice none 0 0]) ?_ 4 _ rfl; (with_reducible repeat (first | refine blk_drewN ?_ _ | refine blk_drew ?_ | refine blk_alloc ?_ _)); refine blk_put (cs := #[.int .i64 (rd l0 0), .int .i64 (rd l0 1), .int .i64 (rd l0 2), .int .i64 0, .int .i64 0, .int .i64 0, .slice none 0 0]) ?_ 3 _ rfl; (with_reducible repeat (first | refine blk_drewN ?_ _ | refine blk_drew ?_ | refine blk_alloc ?_ _)); refine blk_put (cs := #[.int .i64 (rd l0 0), .int .i64 (rd l0 1), .int .i64 0, .int .i64 0, .int .i64 0, .int .i64 0, .slice none 0 0]) ?_ 2 _ rfl; (with_reducible repeat (first | refine blk_drewN ?_ _ | refine blk_drew ?_ | refine blk_alloc ?_ _)); refine blk_put (cs := #[.int .i64 (rd l0 0), .int .i64 0, .int .i64 0, .int .i64 0, .int .i64 0, .int .i64 0, .slice none 0 0]) ?_ 1 _ rfl; (with_reducible repeat (first | refine blk_drewN ?_ _ | refine blk_drew ?_ | refine blk_alloc ?_ _)); refine blk_put (cs := #[.int .i64 0, .int .i64 0, .int .i64 0, .int .i64 0, .int .i64 0, .int .i64 0, .slice none 0 0]) ?_ 0 _ rfl; (with_reducible repeat (first | refine blk_drewN ?_ _ | refine blk_drew ?_ | refine blk_alloc ?_ _)); exact BK236.out) hb); have n3_ := Aside0.mk (below_step (by repeat (first | (with_reducible first | exact HB.out | apply below_alloc | apply pw_below_drewN | apply below_drew1 | refine below_set ?_ GE222.out | refine below_set ?_ GE236.out) | exact HB.out)) hb); clear HO235; clear BK222; clear BK236; clear HB; have HO235 := n0_; have BK222 := n1_; have BK236 := n2_; have HB := n3_; clear n0_ n1_ n2_ n3_; (try clear hb); (try clear hb2); (try clear hk); (try clear hi); have hcz35_0 : w34.cell? ⟨gb236, 0, none⟩ = some (.int .i64 (rd l0 0)) := (blk_cell BK236.out 0).trans rfl; have hcz35_1 : w34.cell? ⟨gb236, 1, none⟩ = some (.int .i64 (rd l0 1)) := (blk_cell BK236.out 1).trans rfl; have hcz35_2 : w34.cell? ⟨gb236, 2, none⟩ = some (.int .i64 (rd l0 2)) := (blk_cell BK236.out 2).trans rfl; have hcz35_3 : w34.cell? ⟨gb236, 3, none⟩ = some (.int .i64 (rd l0 3)) := (blk_cell BK236.out 3).trans rfl; have hcz35_4 : w34.cell? ⟨gb236, 4, none⟩ = some (.int .i64 (rd l0 4)) := (blk_cell BK236.out 4).trans rfl; have hcz35_5 : w34.cell? ⟨gb236, 5, none⟩ = some (.int .i64 (rd l0 5)) := (blk_cell BK236.out 5).trans rfl; have hcz35_6 : w34.cell? ⟨gb236, 6, none⟩ = some (.slice Ao24 y233.length co24) := (blk_cell BK236.out 6).trans rfl; have hfz35_0 := blk_frozen BK236.out 0; have hfz35_1 := blk_frozen BK236.out 1; have hfz35_2 := blk_frozen BK236.out 2; have hfz35_3 := blk_frozen BK236.out 3; have hfz35_4 := blk_frozen BK236.out 4; have hfz35_5 := blk_frozen BK236.out 5; have hfz35_6 := blk_frozen BK236.out 6; have hcz36_0 : w34.cell? ⟨gb222, 0, none⟩ = some (.int .i64 0) := (blk_cell BK222.out 0).trans rfl; have hcz36_1 : w34.cell? ⟨gb222, 1, none⟩ = some (.int .i64 0) := (blk_cell BK222.out 1).trans rfl; have hcz36_2 : w34.cell? ⟨gb222, 2, none⟩ = some (.int .i64 0) := (blk_cell BK222.out 2).trans rfl; have hcz36_3 : w34.cell? ⟨gb222, 3, none⟩ = some (.int .i64 0) := (blk_cell BK222.out 3).trans rfl; have hcz36_4 : w34.cell? ⟨gb222, 4, none⟩ = some (.int .i64 0) := (blk_cell BK222.out 4).trans rfl; have hcz36_5 : w34.cell? ⟨gb222, 5, none⟩ = some (.int .i64 0) := (blk_cell BK222.out 5).trans rfl; have hcz36_6 : w34.cell? ⟨gb222, 6, none⟩ = some (.slice none 0 0) := (blk_cell BK222.out 6).trans rfl; have hfz36_0 := blk_frozen BK222.out 0; have hfz36_1 := blk_frozen BK222.out 1; have hfz36_2 := blk_frozen BK222.out 2; have hfz36_3 := blk_frozen BK222.out 3; have hfz36_4 := blk_frozen BK222.out 4; have hfz36_5 := blk_frozen BK222.out 5; have hfz36_6 := blk_frozen BK222.out 6))
                      refine bodyPost_ret (results_ct rfl _ _ gb222 26 #[.int .i64 (rd l0 0), .int .i64 (rd l0 1), .int .i64 (rd l0 2), .int .i64 (rd l0 3), .int .i64 (rd l0 4), .int .i64 (rd l0 5), .slice Ao24 y233.length co24] (0, 0) _ rfl (by (with_reducible repeat (first | refine blk_drewN ?_ _ | refine blk_drew ?_ | refine blk_alloc ?_ _)); refine blk_put (cs := #[.int .i64 (rd l0 0), .int .i64 (rd l0 1), .int .i64 (rd l0 2), .int .i64 (rd l0 3), .int .i64 (rd l0 4), .int .i64 (rd l0 5), .slice none 0 0]) ?_ 6 _ rfl; (with_reducible repeat (first | refine blk_drewN ?_ _ | refine blk_drew ?_ | refine blk_alloc ?_ _)); refine blk_put (cs := #[.int .i64 (rd l0 0), .int .i64 (rd l0 1), .int .i64 (rd l0 2), .int .i64 (rd l0 3), .int .i64 (rd l0 4), .int .i64 0, .slice none 0 0]) ?_ 5 _ rfl; (with_reducible repeat (first | refine blk_drewN ?_ _ | refine blk_drew ?_ | refine blk_alloc ?_ _)); refine blk_put (cs := #[.int .i64 (rd l0 0), .int .i64 (rd l0 1), .int .i64 (rd l0 2), .int .i64 (rd l0 3), .int .i64 0, .int .i64 0, .slice none 0 0]) ?_ 4 _ rfl; (with_reducible repeat (first | refine blk_drewN ?_ _ | refine blk_drew ?_ | refine blk_alloc ?_ _)); refine blk_put (cs := #[.int .i64 (rd l0 0), .int .i64 (rd l0 1), .int .i64 (rd l0 2), .int .i64 0, .int .i64 0, .int .i64 0, .slice none 0 0]) ?_ 3 _ rfl; (with_reducible repeat (first | refine blk_drewN ?_ _ | refine blk_drew ?_ | refine blk_alloc ?_ _)); refine blk_put (cs := #[.int .i64 (rd l0 0), .int .i64 (rd l0 1), .int .i64 0, .int .i64 0, .int .i64 0, .int .i64 0, .slice none 0 0]) ?_ 2 _ rfl; (with_reducible repeat (first | refine blk_drewN ?_ _ | refine blk_drew ?_ | refine blk_alloc ?_ _)); refine blk_put (cs := #[.int .i64 (rd l0 0), .int .i64 0, .int .i64 0, .int .i64 0, .int .i64 0, .int .i64 0, .slice none 0 0]) ?_ 1 _ rfl; (with_reducible repeat (first | refine blk_drewN ?_ _ | refine blk_drew ?_ | refine blk_alloc ?_ _)); refine blk_put (cs := #[.int .i64 0, .int .i64 0, .int .i64 0, .int .i64 0, .int .i64 0, .int .i64 0, .slice none 0 0]) ?_ 0 _ rfl; (with_reducible repeat (first | refine blk_drewN ?_ _ | refine blk_drew ?_ | refine blk_alloc ?_ _)); exact BK222.out) Try.underlying26 rfl (by kernel_rfl)) rfl ?_
                      exact ⟨_, by first | rfl | (simp [errW_none, errW_some] <;> rfl) | (simp [*, errW_none, errW_some] <;> rfl), by (with_reducible repeat (first | apply Kd.R_alloc | apply Kd.R_drewN | apply Kd.R_drew)); exact Kd.R_mono (Kd.R_far (p := ⟨gb222, 6, none⟩) (Kd.R_far (p := ⟨gb222, 5, none⟩) (Kd.R_far (p := ⟨gb222, 4, none⟩) (Kd.R_far (p := ⟨gb222, 3, none⟩) (Kd.R_far (p := ⟨gb222, 2, none⟩) (Kd.R_far (p := ⟨gb222, 1, none⟩) (Kd.R_far (p := ⟨gb222, 0, none⟩) (Kd.R_types HO235.out BK222.out (by decide)) (fun _ hk => hk.2) (.int .i64 (rd l0 0))) (fun _ hk => hk.2) (.int .i64 (rd l0 1))) (fun _ hk => hk.2) (.int .i64 (rd l0 2))) (fun _ hk => hk.2) (.int .i64 (rd l0 3))) (fun _ hk => hk.2) (.int .i64 (rd l0 4))) (fun _ hk => hk.2) (.int .i64 (rd l0 5))) (fun _ hk => hk.2) (.slice Ao24 y233.length co24)) (fun _ hk => trivial), by repeat (first | (with_reducible first | exact HB.out | apply below_alloc | apply pw_below_drewN | apply below_drew1 | refine below_set ?_ GE222.out | refine below_set ?_ GE236.out) | exact HB.out)⟩
                    · replace c14 := Bool.eq_false_iff.mpr c14
                      subst c14
                      have H1 : (some (0, 0, 0, 0, 0, 0, ([] : List Int), false)) = some (r1, r2, r3, r4, r5, r6, r7, r8) := by rw [if_neg (show ¬ (false = true) by decide)] at H; exact H
                      clear H
                      have H := H1
                      clear H1
                      simp only [Option.some.injEq, Prod.mk.injEq] at H
                      obtain ⟨rfl, rfl, rfl, rfl, rfl, rfl, rfl, rfl⟩ := H
                      go_enter Try.func28, Try.ntmps28
                      try go_wp2_with (first | ((with_reducible refine gate_dst (N := 2) rfl ?_); refine box_event ?hg (N := 2) ?hd (cs := #[.int .i64 0, .int .i64 0, .int .i64 0, .int .i64 0, .int .i64 0, .int .i64 0, .slice none 0 0]) (t := 26) ?hr ?_; (case hd => rfl); (case hg => rfl); (case hr => first | (go_simp; done) | (go_simp; rfl)); intro gb222 hg w37 hbox hb; have n0_ := Aside0.mk (below_step (by repeat (first | (with_reducible first | exact HB.out | apply below_alloc | apply pw_below_drewN | apply below_drew1) | exact HB.out)) hb); have n1_ := Aside0.mk (hbox); have n2_ := Aside0.mk ((by rw [hg]; exact (below_size (by repeat (first | (with_reducible first | exact HB.out | apply below_alloc | apply pw_below_drewN | apply below_drew1) | exact HB.out))) : w.heap.size ≤ gb222)); have n3_ := Aside0.mk ((by rw [hg]; exact (below_size (by repeat (first | (with_reducible first | exact HB.out | apply below_alloc | apply pw_below_drewN | apply below_drew1) | exact HB.out))) : w.heap.size ≤ gb222)); clear HB; have HB := n0_; have BK222 := n1_; have GW222 := n2_; have GE222 := n3_; clear n0_ n1_ n2_ n3_; clear hb hbox hg))
                      have n0_ := Aside0.mk (blk_drew BK222.out)
                      have n1_ := Aside0.mk (below_drew1 HB.out)
                      clear BK222
                      clear HB
                      have BK222 := n0_
                      have HB := n1_
                      clear n0_ n1_
                      have p223 : 0 ≤ (0 : Int) := (by omega)
                      have q223 : 0 < (l0.length : Int) := of_decide_eq_true (by first | (with_reducible assumption) | assumption)
                      obtain ⟨ad223, e223, hx223_0⟩ := Kd.at_int HR0.out 0 p223 q223
                      have hw223_0 := hx223_0
                      (try rw [show ((0 : Int)).toNat = 0 from rfl] at hw223_0)
                      (try rw [show 0 * 1 = 0 from rfl] at hw223_0)
                      (try rw [Addr.add_zero'] at hw223_0)
                      cases e223
                      have qi223 : (0 < l0.length) = True := eq_true (by omega)
                      (try rw [show ((0 : Int)).toNat = 0 from rfl] at hx223_0)
                      (try rw [Addr.add_zero'] at hx223_0)
                      replace hx223_0 := (HB.out.cell (World.block_lt_of_cell? w _ hx223_0)).trans hx223_0
                      replace p223 := eq_true p223
                      replace q223 := eq_true q223
                      have p224 : 0 ≤ (1 : Int) := (by omega)
                      have q224 : 1 < (l0.length : Int) := of_decide_eq_true (by first | (with_reducible assumption) | assumption)
                      obtain ⟨ad224, e224, hx224_0⟩ := Kd.at_int HR0.out 1 p224 q224
                      have hw224_0 := hx224_0
                      (try rw [show ((1 : Int)).toNat = 1 from rfl] at hw224_0)
                      (try rw [show 1 * 1 = 1 from rfl] at hw224_0)
                      (try simp only [Nat.reduceMul, Nat.reduceEqDiff, Go.Addr.add, ↓reduceIte] at hw224_0)
                      obtain rfl : ad223 = ad224 := (by injection e224)
                      (try simp only [show (1 : Int).toNat = 1 from rfl, Nat.reduceMul, Nat.reduceEqDiff, Go.Addr.add, ↓reduceIte] at hx224_0)
                      have qi224 : (1 < l0.length) = True := eq_true (by omega)
                      (try rw [show ((1 : Int)).toNat = 1 from rfl] at hx224_0)
                      replace hx224_0 := (HB.out.cell (World.block_lt_of_cell? w _ hx224_0)).trans hx224_0
                      replace p224 := eq_true p224
                      replace q224 := eq_true q224
                      have p225 : 0 ≤ (2 : Int) := (by omega)
                      have q225 : 2 < (l0.length : Int) := of_decide_eq_true (by first | (with_reducible assumption) | assumption)
                      obtain ⟨ad225, e225, hx225_0⟩ := Kd.at_int HR0.out 2 p225 q225
                      have hw225_0 := hx225_0
                      (try rw [show ((2 : Int)).toNat = 2 from rfl] at hw225_0)
                      (try rw [show 2 * 1 = 2 from rfl] at hw225_0)
                      (try simp only [Nat.reduceMul, Nat.reduceEqDiff, Go.Addr.add, ↓reduceIte] at hw225_0)
                      obtain rfl : ad223 = ad225 := (by injection e225)
                      (try simp only [show (2 : Int).toNat = 2 from rfl, Nat.reduceMul, Nat.reduceEqDiff, Go.Addr.add, ↓reduceIte] at hx225_0)
                      have qi225 : (2 < l0.length) = True := eq_true (by omega)
                      (try rw [show ((2 : Int)).toNat = 2 from rfl] at hx225_0)
                      replace hx225_0 := (HB.out.cell (World.block_lt_of_cell? w _ hx225_0)).trans hx225_0
                      replace p225 := eq_true p225
                      replace q225 := eq_true q225
                      have p226 : 0 ≤ (3 : Int) := (by omega)
                      have q226 : 3 < (l0.length : Int) := of_decide_eq_true (by first | (with_reducible assumption) | assumption)
                      obtain ⟨ad226, e226, hx226_0⟩ := Kd.at_int HR0.out 3 p226 q226
                      have hw226_0 := hx226_0
                      (try rw [show ((3 : Int)).toNat = 3 from rfl] at hw226_0)
                      (try rw [show 3 * 1 = 3 from rfl] at hw226_0)
                      (try simp only [Nat.reduceMul, Nat.reduceEqDiff, Go.Addr.add, ↓reduceIte] at hw226_0)
                      obtain rfl : ad223 = ad226 := (by injection e226)
                      (try simp only [show (3 : Int).toNat = 3 from rfl, Nat.reduceMul, Nat.reduceEqDiff, Go.Addr.add, ↓reduceIte] at hx226_0)
                      have qi226 : (3 < l0.length) = True := eq_true (by omega)
                      (try rw [show ((3 : Int)).toNat = 3 from rfl] at hx226_0)
                      replace hx226_0 := (HB.out.cell (World.block_lt_of_cell? w _ hx226_0)).trans hx226_0
                      replace p226 := eq_true p226
                      replace q226 := eq_true q226
                      have p227 : 0 ≤ (4 : Int) := (by omega)
                      have q227 : 4 < (l0.length : Int) := of_decide_eq_true (by first | (with_reducible assumption) | assumption)
                      obtain ⟨ad227, e227, hx227_0⟩ := Kd.at_int HR0.out 4 p227 q227
                      have hw227_0 := hx227_0
                      (try rw [show ((4 : Int)).toNat = 4 from rfl] at hw227_0)
                      (try rw [show 4 * 1 = 4 from rfl] at hw227_0)
                      (try simp only [Nat.reduceMul, Nat.reduceEqDiff, Go.Addr.add, ↓reduceIte] at hw227_0)
                      obtain rfl : ad223 = ad227 := (by injection e227)
                      (try simp only [show (4 : Int).toNat = 4 from rfl, Nat.reduceMul, Nat.reduceEqDiff, Go.Addr.add, ↓reduceIte] at hx227_0)
                      have qi227 : (4 < l0.length) = True := eq_true (by omega)
                      (try rw [show ((4 : Int)).toNat = 4 from rfl] at hx227_0)
                      replace hx227_0 := (HB.out.cell (World.block_lt_of_cell? w _ hx227_0)).trans hx227_0
                      replace p227 := eq_true p227
                      replace q227 := eq_true q227
                      have p228 : 0 ≤ (5 : Int) := (by omega)
                      have q228 : 5 < (l0.length : Int) := of_decide_eq_true (by first | (with_reducible assumption) | assumption)
                      obtain ⟨ad228, e228, hx228_0⟩ := Kd.at_int HR0.out 5 p228 q228
                      have hw228_0 := hx228_0
                      (try rw [show ((5 : Int)).toNat = 5 from rfl] at hw228_0)
                      (try rw [show 5 * 1 = 5 from rfl] at hw228_0)
                      (try simp only [Nat.reduceMul, Nat.reduceEqDiff, Go.Addr.add, ↓reduceIte] at hw228_0)
                      obtain rfl : ad223 = ad228 := (by injection e228)
                      (try simp only [show (5 : Int).toNat = 5 from rfl, Nat.reduceMul, Nat.reduceEqDiff, Go.Addr.add, ↓reduceIte] at hx228_0)
                      have qi228 : (5 < l0.length) = True := eq_true (by omega)
                      (try rw [show ((5 : Int)).toNat = 5 from rfl] at hx228_0)
                      replace hx228_0 := (HB.out.cell (World.block_lt_of_cell? w _ hx228_0)).trans hx228_0
                      replace p228 := eq_true p228
                      replace q228 := eq_true q228
                      obtain ⟨i039, hi039, _, hsz39, _⟩ := info_parts info3
                      obtain ⟨A39, hcut39, hA39, hC39⟩ := print_drop_of (P := Try.prog) (Value.int .i64) 0 24 3 .i64 Try.underlying24 hi039 hsz39 (some ad223) c0 l0 6 (by omega) (of_decide_eq_true (by first | (with_reducible assumption) | assumption)) HC0.out
                      have HR232 := Aside0.mk (Kd.C_of_reads (h1 := fun _ => rfl) (hA39 _ (Kd.reads_of_C HR0.out)))
                      have HC232 := Aside0.mk hC39
                      clear hA39 hC39 hi039 hsz39
                      refine start_ (n := 27) (S := fun w' => w'.cell? ad223 = some (.int .i64 (rd l0 0)) ∧ w'.cell? ⟨ad223.block, ad223.off + 1, none⟩ = some (.int .i64 (rd l0 1)) ∧ w'.cell? ⟨ad223.block, ad223.off + 2, none⟩ = some (.int .i64 (rd l0 2)) ∧ w'.cell? ⟨ad223.block, ad223.off + 3, none⟩ = some (.int .i64 (rd l0 3)) ∧ w'.cell? ⟨ad223.block, ad223.off + 4, none⟩ = some (.int .i64 (rd l0 4)) ∧ w'.cell? ⟨ad223.block, ad223.off + 5, none⟩ = some (.int .i64 (rd l0 5))) (ds := []) #[false, false, false, false, false, false, false, false, false, false, false, false, false, false, false, false, false, false, false, false, false, false, false, false, false, false, false] (by kernel_rfl) rfl rfl ⟨((HB.out.cell (World.block_lt_of_cell? w _ hw223_0)).trans hw223_0), ((HB.out.cell (World.block_lt_of_cell? w _ hw224_0)).trans hw224_0), ((HB.out.cell (World.block_lt_of_cell? w _ hw225_0)).trans hw225_0), ((HB.out.cell (World.block_lt_of_cell? w _ hw226_0)).trans hw226_0), ((HB.out.cell (World.block_lt_of_cell? w _ hw227_0)).trans hw227_0), ((HB.out.cell (World.block_lt_of_cell? w _ hw228_0)).trans hw228_0)⟩ (fun hHeld => ?_); refine with_tabW estuaryref09_Take.tab3 estuaryref09_Take.bits3 (fun HT_ HW_ => ?_)
                      generalize w37.drew = w38 at BK222 HB HR232 hx223_0 hx224_0 hx225_0 hx226_0 hx227_0 hx228_0 hHeld ⊢
                      refine pure_ (i := 0) (N := some 9) (v := ?_) (a' := ?_) #[true, false, false, false, false, false, false, false, false, false, false, false, false, false, false, false, false, false, false, false, false, false, false, false, false, false, false] rfl rfl (any_of HT_.out (by kernel_rfl)) (fun _ _ _ h => h) (Or.inl ⟨by rfl, ?_⟩) ?_ ?_
                      rotate_left
                      · intro w'
                        go_simp
                        with_reducible rfl
                      rotate_left
                      · simp only [Act.put, List.setIfInBounds_toArray, List.set_cons_zero, List.set_cons_succ, i64_w, i32_w]
                        rfl
                      refine pure_ (i := 1) (N := some 10) (v := ?_) (a' := ?_) #[true, true, false, false, false, false, false, false, false, false, false, false, false, false, false, false, false, false, false, false, false, false, false, false, false, false, false] rfl rfl (any_of HT_.out (by kernel_rfl)) (fun _ _ _ h => h) (Or.inl ⟨by rfl, ?_⟩) ?_ ?_
                      rotate_left
                      · intro w'
                        go_simp
                        with_reducible rfl
                      rotate_left
                      · simp only [Act.put, List.setIfInBounds_toArray, List.set_cons_zero, List.set_cons_succ, i64_w, i32_w]
                        rfl
                      refine pure_ (i := 3) (N := some 12) (v := ?_) (a' := ?_) #[true, true, false, true, false, false, false, false, false, false, false, false, false, false, false, false, false, false, false, false, false, false, false, false, false, false, false] rfl rfl (any_of HT_.out (by kernel_rfl)) (fun _ _ _ h => h) (Or.inl ⟨by rfl, ?_⟩) ?_ ?_
                      rotate_left
                      · intro w'
                        go_simp
                        with_reducible rfl
                      rotate_left
                      · simp only [Act.put, List.setIfInBounds_toArray, List.set_cons_zero, List.set_cons_succ, i64_w, i32_w]
                        rfl
                      refine pure_ (i := 4) (N := some 13) (v := ?_) (a' := ?_) #[true, true, false, true, true, false, false, false, false, false, false, false, false, false, false, false, false, false, false, false, false, false, false, false, false, false, false] rfl rfl (any_of HT_.out (by kernel_rfl)) (fun _ _ _ h => h) (Or.inl ⟨by rfl, ?_⟩) ?_ ?_
                      rotate_left
                      · intro w'
                        go_simp
                        with_reducible rfl
                      rotate_left
                      · simp only [Act.put, List.setIfInBounds_toArray, List.set_cons_zero, List.set_cons_succ, i64_w, i32_w]
                        rfl
                      refine pure_ (i := 6) (N := some 15) (v := ?_) (a' := ?_) #[true, true, false, true, true, false, true, false, false, false, false, false, false, false, false, false, false, false, false, false, false, false, false, false, false, false, false] rfl rfl (any_of HT_.out (by kernel_rfl)) (fun _ _ _ h => h) (Or.inl ⟨by rfl, ?_⟩) ?_ ?_
                      rotate_left
                      · intro w'
                        go_simp
                        with_reducible rfl
                      rotate_left
                      · simp only [Act.put, List.setIfInBounds_toArray, List.set_cons_zero, List.set_cons_succ, i64_w, i32_w]
                        rfl
                      refine pure_ (i := 7) (N := some 16) (v := ?_) (a' := ?_) #[true, true, false, true, true, false, true, true, false, false, false, false, false, false, false, false, false, false, false, false, false, false, false, false, false, false, false] rfl rfl (any_of HT_.out (by kernel_rfl)) (fun _ _ _ h => h) (Or.inl ⟨by rfl, ?_⟩) ?_ ?_
                      rotate_left
                      · intro w'
                        go_simp
                        with_reducible rfl
                      rotate_left
                      · simp only [Act.put, List.setIfInBounds_toArray, List.set_cons_zero, List.set_cons_succ, i64_w, i32_w]
                        rfl
                      refine pure_ (i := 10) (N := some 19) (v := ?_) (a' := ?_) #[true, true, false, true, true, false, true, true, false, false, true, false, false, false, false, false, false, false, false, false, false, false, false, false, false, false, false] rfl rfl (any_of HT_.out (by kernel_rfl)) (fun _ _ _ h => h) (Or.inl ⟨by rfl, ?_⟩) ?_ ?_
                      rotate_left
                      · intro w'
                        go_simp
                        with_reducible rfl
                      rotate_left
                      · simp only [Act.put, List.setIfInBounds_toArray, List.set_cons_zero, List.set_cons_succ, i64_w, i32_w]
                        rfl
                      refine pure_ (i := 11) (N := some 20) (v := ?_) (a' := ?_) #[true, true, false, true, true, false, true, true, false, false, true, true, false, false, false, false, false, false, false, false, false, false, false, false, false, false, false] rfl rfl (any_of HT_.out (by kernel_rfl)) (fun _ _ _ h => h) (Or.inl ⟨by rfl, ?_⟩) ?_ ?_
                      rotate_left
                      · intro w'
                        go_simp
                        with_reducible rfl
                      rotate_left
                      · simp only [Act.put, List.setIfInBounds_toArray, List.set_cons_zero, List.set_cons_succ, i64_w, i32_w]
                        rfl
                      refine pure_ (i := 13) (N := some 22) (v := ?_) (a' := ?_) #[true, true, false, true, true, false, true, true, false, false, true, true, false, true, false, false, false, false, false, false, false, false, false, false, false, false, false] rfl rfl (any_of HT_.out (by kernel_rfl)) (fun _ _ _ h => h) (Or.inl ⟨by rfl, ?_⟩) ?_ ?_
                      rotate_left
                      · intro w'
                        go_simp
                        with_reducible rfl
                      rotate_left
                      · simp only [Act.put, List.setIfInBounds_toArray, List.set_cons_zero, List.set_cons_succ, i64_w, i32_w]
                        rfl
                      refine pure_ (i := 14) (N := some 23) (v := ?_) (a' := ?_) #[true, true, false, true, true, false, true, true, false, false, true, true, false, true, true, false, false, false, false, false, false, false, false, false, false, false, false] rfl rfl (any_of HT_.out (by kernel_rfl)) (fun _ _ _ h => h) (Or.inl ⟨by rfl, ?_⟩) ?_ ?_
                      rotate_left
                      · intro w'
                        go_simp
                        with_reducible rfl
                      rotate_left
                      · simp only [Act.put, List.setIfInBounds_toArray, List.set_cons_zero, List.set_cons_succ, i64_w, i32_w]
                        rfl
                      refine pure_ (i := 16) (N := some 25) (v := ?_) (a' := ?_) #[true, true, false, true, true, false, true, true, false, false, true, true, false, true, true, false, true, false, false, false, false, false, false, false, false, false, false] rfl rfl (any_of HT_.out (by kernel_rfl)) (fun _ _ _ h => h) (Or.inl ⟨by rfl, ?_⟩) ?_ ?_
                      rotate_left
                      · intro w'
                        go_simp
                        with_reducible rfl
                      rotate_left
                      · simp only [Act.put, List.setIfInBounds_toArray, List.set_cons_zero, List.set_cons_succ, i64_w, i32_w]
                        rfl
                      refine pure_ (i := 17) (N := some 26) (v := ?_) (a' := ?_) #[true, true, false, true, true, false, true, true, false, false, true, true, false, true, true, false, true, true, false, false, false, false, false, false, false, false, false] rfl rfl (any_of HT_.out (by kernel_rfl)) (fun _ _ _ h => h) (Or.inl ⟨by rfl, ?_⟩) ?_ ?_
                      rotate_left
                      · intro w'
                        go_simp
                        with_reducible rfl
                      rotate_left
                      · simp only [Act.put, List.setIfInBounds_toArray, List.set_cons_zero, List.set_cons_succ, i64_w, i32_w]
                        rfl
                      refine pure_ (i := 21) (N := some 30) (v := ?_) (a' := ?_) #[true, true, false, true, true, false, true, true, false, false, true, true, false, true, true, false, true, true, false, false, false, true, false, false, false, false, false] rfl rfl (any_of HT_.out (by kernel_rfl)) (fun _ _ _ h => h) (Or.inl ⟨by rfl, ?_⟩) ?_ ?_
                      rotate_left
                      · intro w'
                        go_simp
                        with_reducible rfl
                      rotate_left
                      · simp only [Act.put, List.setIfInBounds_toArray, List.set_cons_zero, List.set_cons_succ, i64_w, i32_w]
                        rfl
                      refine pure_ (i := 22) (N := some 31) (v := ?_) (a' := ?_) #[true, true, false, true, true, false, true, true, false, false, true, true, false, true, true, false, true, true, false, false, false, true, true, false, false, false, false] rfl rfl (any_of HT_.out (by kernel_rfl)) (fun _ _ _ h => h) (Or.inl ⟨by rfl, ?_⟩) ?_ ?_
                      rotate_left
                      · intro w'
                        go_simp
                        with_reducible rfl
                      rotate_left
                      · simp only [Act.put, List.setIfInBounds_toArray, List.set_cons_zero, List.set_cons_succ, i64_w, i32_w]
                        rfl
                      refine take_ (i := 2) (N := some 11) (v := ?_) (a' := ?_) #[true, true, true, true, true, false, true, true, false, false, true, true, false, true, true, false, true, true, false, false, false, true, true, false, false, false, false] rfl rfl (take_ofW HT_.out HW_.out (by kernel_rfl)) (fun _ _ _ h => h) (Or.inl ⟨by rfl, ?_⟩) hHeld ?_ ?_
                      rotate_left
                      · rintro w' ⟨s0, s1, s2, s3, s4, s5⟩
                        go_simp
                        with_reducible rfl
                      rotate_left
                      · simp only [Act.put, List.setIfInBounds_toArray, List.set_cons_zero, List.set_cons_succ, i64_w, i32_w]
                        rfl
                      refine take_ (i := 5) (N := some 14) (v := ?_) (a' := ?_) #[true, true, true, true, true, true, true, true, false, false, true, true, false, true, true, false, true, true, false, false, false, true, true, false, false, false, false] rfl rfl (take_ofW HT_.out HW_.out (by kernel_rfl)) (fun _ _ _ h => h) (Or.inl ⟨by rfl, ?_⟩) hHeld ?_ ?_
                      rotate_left
                      · rintro w' ⟨s0, s1, s2, s3, s4, s5⟩
                        go_simp
                        with_reducible rfl
                      rotate_left
                      · simp only [Act.put, List.setIfInBounds_toArray, List.set_cons_zero, List.set_cons_succ, i64_w, i32_w]
                        rfl
                      refine take_ (i := 8) (N := some 17) (v := ?_) (a' := ?_) #[true, true, true, true, true, true, true, true, true, false, true, true, false, true, true, false, true, true, false, false, false, true, true, false, false, false, false] rfl rfl (take_ofW HT_.out HW_.out (by kernel_rfl)) (fun _ _ _ h => h) (Or.inl ⟨by rfl, ?_⟩) hHeld ?_ ?_
                      rotate_left
                      · rintro w' ⟨s0, s1, s2, s3, s4, s5⟩
                        go_simp
                        with_reducible rfl
                      rotate_left
                      · simp only [Act.put, List.setIfInBounds_toArray, List.set_cons_zero, List.set_cons_succ, i64_w, i32_w]
                        rfl
                      refine pure_ (i := 9) (N := some 18) (v := ?_) (a' := ?_) #[true, true, true, true, true, true, true, true, true, true, true, true, false, true, true, false, true, true, false, false, false, true, true, false, false, false, false] rfl rfl (any_of HT_.out (by kernel_rfl)) (fun _ _ _ h => h) (Or.inl ⟨by rfl, ?_⟩) ?_ ?_
                      rotate_left
                      · intro w'
                        go_simp
                        with_reducible rfl
                      rotate_left
                      · simp only [Act.put, List.setIfInBounds_toArray, List.set_cons_zero, List.set_cons_succ, i64_w, i32_w]
                        rfl
                      refine take_ (i := 12) (N := some 21) (v := ?_) (a' := ?_) #[true, true, true, true, true, true, true, true, true, true, true, true, true, true, true, false, true, true, false, false, false, true, true, false, false, false, false] rfl rfl (take_ofW HT_.out HW_.out (by kernel_rfl)) (fun _ _ _ h => h) (Or.inl ⟨by rfl, ?_⟩) hHeld ?_ ?_
                      rotate_left
                      · rintro w' ⟨s0, s1, s2, s3, s4, s5⟩
                        go_simp
                        with_reducible rfl
                      rotate_left
                      · simp only [Act.put, List.setIfInBounds_toArray, List.set_cons_zero, List.set_cons_succ, i64_w, i32_w]
                        rfl
                      refine take_ (i := 15) (N := some 24) (v := ?_) (a' := ?_) #[true, true, true, true, true, true, true, true, true, true, true, true, true, true, true, true, true, true, false, false, false, true, true, false, false, false, false] rfl rfl (take_ofW HT_.out HW_.out (by kernel_rfl)) (fun _ _ _ h => h) (Or.inl ⟨by rfl, ?_⟩) hHeld ?_ ?_
                      rotate_left
                      · rintro w' ⟨s0, s1, s2, s3, s4, s5⟩
                        go_simp
                        with_reducible rfl
                      rotate_left
                      · simp only [Act.put, List.setIfInBounds_toArray, List.set_cons_zero, List.set_cons_succ, i64_w, i32_w]
                        rfl
                      refine take_ (i := 18) (N := some 27) (v := ?_) (a' := ?_) #[true, true, true, true, true, true, true, true, true, true, true, true, true, true, true, true, true, true, true, false, false, true, true, false, false, false, false] rfl rfl (take_ofW HT_.out HW_.out (by kernel_rfl)) (fun _ _ _ h => h) (Or.inl ⟨by rfl, ?_⟩) hHeld ?_ ?_
                      rotate_left
                      · rintro w' ⟨s0, s1, s2, s3, s4, s5⟩
                        go_simp
                        with_reducible rfl
                      rotate_left
                      · simp only [Act.put, List.setIfInBounds_toArray, List.set_cons_zero, List.set_cons_succ, i64_w, i32_w]
                        rfl
                      refine pure_ (i := 19) (N := some 28) (v := ?_) (a' := ?_) #[true, true, true, true, true, true, true, true, true, true, true, true, true, true, true, true, true, true, true, true, false, true, true, false, false, false, false] rfl rfl (any_of HT_.out (by kernel_rfl)) (fun _ _ _ h => h) (Or.inl ⟨by rfl, ?_⟩) ?_ ?_
                      rotate_left
                      · intro w'
                        go_simp
                        with_reducible rfl
                      rotate_left
                      · simp only [Act.put, List.setIfInBounds_toArray, List.set_cons_zero, List.set_cons_succ, i64_w, i32_w]
                        rfl
                      refine join_ (σ := Value × Value × Nat) 1 #[true, true, true, true, true, true, true, true, true, true, true, true, true, true, true, true, true, true, true, true, true, true, true, true, true, true, false] (fun s_ => [(29, s_.1), (32, s_.2.1), (4, .pointer (some ⟨s_.2.2, 0, none⟩)), (33, .agg #[.int .i64 (rd l0 0), .int .i64 (rd l0 1), .int .i64 (rd l0 2), .int .i64 (rd l0 3), .int .i64 (rd l0 4), .int .i64 (rd l0 5), s_.2.1])]) (fun s_ w' => (w'.cell? ad223 = some (.int .i64 (rd l0 0)) ∧ w'.cell? ⟨ad223.block, ad223.off + 1, none⟩ = some (.int .i64 (rd l0 1)) ∧ w'.cell? ⟨ad223.block, ad223.off + 2, none⟩ = some (.int .i64 (rd l0 2)) ∧ w'.cell? ⟨ad223.block, ad223.off + 3, none⟩ = some (.int .i64 (rd l0 3)) ∧ w'.cell? ⟨ad223.block, ad223.off + 4, none⟩ = some (.int .i64 (rd l0 4)) ∧ w'.cell? ⟨ad223.block, ad223.off + 5, none⟩ = some (.int .i64 (rd l0 5))) ∧ (Kd.R (Kd.int .i64) 3 w' w.heap.size (fun _ => True) s_.2.1 y233) ∧ (w'.heap[gb222]? = some (.cells #[.int .i64 0, .int .i64 0, .int .i64 0, .int .i64 0, .int .i64 0, .int .i64 0, .slice none 0 0] 26 (0, 0))) ∧ (w'.heap[s_.2.2]? = some (.cells #[.int .i64 0, .int .i64 0, .int .i64 0, .int .i64 0, .int .i64 0, .int .i64 0, .slice none 0 0] 26 (0, 0))) ∧ (w.heap.size ≤ s_.2.2) ∧ (w.heap.size ≤ s_.2.2) ∧ (gb222 ≠ s_.2.2) ∧ (s_.2.2 ≠ gb222) ∧ (Below w.heap.size w w')) ?_ ?_
                      rotate_left
                      · intro hCont
                        refine two_ (i := 20) (j := 25) (Ni := some 29) (Nj := some 4) #[true, true, true, true, true, true, true, true, true, true, true, true, true, true, true, true, true, true, true, true, true, true, true, false, false, false, false] #[true, true, true, true, true, true, true, true, true, true, true, true, true, true, true, true, true, true, true, true, false, true, true, false, false, true, false] rfl rfl rfl rfl (two_of HT_.out (by kernel_rfl)) (by decide) (by decide) (fun K hK => ?_) (fun K hK => ?_)
                        · skip
                          refine Kd.R_lit_step (Kd.int .i64) _ 3 ?hg (N := 29) ?hd (xs := ([] : List Int)) (inner := []) (ok := fun _ => True) (okp := fun _ => True) ?hr ?hp (fun _ hk => hk) trivial (Below.refl _ _) (Nat.le_refl _) (by simp) ?_; (case hd => rfl); (case hg => rfl); (case hr => first | (go_simp; done) | (go_simp; rfl)); (case hp => exact (Reps.none _ _))
                          intro v230 w40 ho41 hb hg_ hnew_
                          clear hg_ hnew_
                          (first | rw [← Ny229.out] at ho41 | (simp only [Int.reduceToNat] at ho41; rw [← Ny229.out] at ho41))
                          have n0_ := Aside0.mk (Kd.R_lower ho41 (below_size (by repeat (first | (with_reducible first | exact HB.out | apply below_alloc | apply pw_below_drewN | apply below_drew1 | refine below_set ?_ GE222.out) | exact HB.out))))
                          have n1_ := Aside0.mk (blk_below (g := gb222) (o := .cells #[.int .i64 0, .int .i64 0, .int .i64 0, .int .i64 0, .int .i64 0, .int .i64 0, .slice none 0 0] 26 (0, 0)) (by (with_reducible repeat (first | refine blk_drewN ?_ _ | refine blk_drew ?_ | refine blk_alloc ?_ _)); exact BK222.out) hb)
                          have n2_ := Aside0.mk (below_step (by repeat (first | (with_reducible first | exact HB.out | apply below_alloc | apply pw_below_drewN | apply below_drew1 | refine below_set ?_ GE222.out) | exact HB.out)) hb)
                          clear BK222
                          clear HB
                          have HO231 := n0_
                          have BK222 := n1_
                          have HB := n2_
                          clear n0_ n1_ n2_
                          clear hb ho41
                          refine hK.out _ _ ⟨((HB.out.cell (World.block_lt_of_cell? w _ hw223_0)).trans hw223_0), ((HB.out.cell (World.block_lt_of_cell? w _ hw224_0)).trans hw224_0), ((HB.out.cell (World.block_lt_of_cell? w _ hw225_0)).trans hw225_0), ((HB.out.cell (World.block_lt_of_cell? w _ hw226_0)).trans hw226_0), ((HB.out.cell (World.block_lt_of_cell? w _ hw227_0)).trans hw227_0), ((HB.out.cell (World.block_lt_of_cell? w _ hw228_0)).trans hw228_0)⟩ (fun hHeld => ?_)
                          clear hK K
                          refine norm_ (a' := ?_) ?_ ?_
                          rotate_left
                          · show Act.put _ (some 29) _ = _
                            simp only [Act.put, List.setIfInBounds_toArray, List.set_cons_zero, List.set_cons_succ, i64_w, i32_w]
                            rfl
                          refine two_ (i := 23) (j := 25) (Ni := some 32) (Nj := some 4) #[true, true, true, true, true, true, true, true, true, true, true, true, true, true, true, true, true, true, true, true, true, true, true, true, false, false, false] #[true, true, true, true, true, true, true, true, true, true, true, true, true, true, true, true, true, true, true, true, true, true, true, false, false, true, false] rfl rfl rfl rfl (two_of HT_.out (by kernel_rfl)) (by decide) (by decide) (fun K hK => ?_) (fun K hK => ?_)
                          · skip
                            refine Kd.R_append_rows_step (Kd.int .i64) (w0 := w) w.heap.size (by rfl) (.tmp 29) (.tmp 31) 24 3 (.int .i64 0) 8 rfl Try.underlying24 info3 rfl (by decide) (by omega) v230 y229 (l0.drop 6) _ _ _ (fun _ => True) (fun _ => False) rfl rfl ?aO ?aR (fun _ _ h => h) (fun _ h => h.elim) ?aF ?aB ?aS ?aL ?_
                            (case aR => first | (rw [← show (l0.drop 6).length = (l0.length - 6) from List.length_drop]; repeat (first | exact (Kd.C_below HR232.out HB.out) | (with_reducible refine Kd.C_alloc ?_ _) | (with_reducible refine Kd.C_drewN ?_ _) | (with_reducible refine Kd.C_drew ?_))) | (repeat (first | exact (Kd.C_below HR232.out HB.out) | (with_reducible refine Kd.C_alloc ?_ _) | (with_reducible refine Kd.C_drewN ?_ _) | (with_reducible refine Kd.C_drew ?_))))
                            (case aB => exact (by repeat (first | (with_reducible first | exact HB.out | apply below_alloc | apply pw_below_drewN | apply below_drew1 | refine below_set ?_ GE222.out) | exact HB.out)))
                            (case aF => exact (fun _ _ => trivial))
                            (case aO => exact (by (with_reducible repeat (first | apply Kd.R_alloc | apply Kd.R_drewN | apply Kd.R_drew)); exact HO231.out))
                            (case aS => exact (below_size (by repeat (first | (with_reducible first | exact HB.out | apply below_alloc | apply pw_below_drewN | apply below_drew1 | refine below_set ?_ GE222.out) | exact HB.out))))
                            (case aL => have := LMc12.out; have hlx_ := (show (l0.drop 6).length = (l0.length - 6) from List.length_drop); omega)
                            intro v234 w42 ho hb hg hat
                            rw [← Ny233.out] at ho
                            have n0_ := Aside0.mk (blk_grown (g := gb222) (o := .cells #[.int .i64 0, .int .i64 0, .int .i64 0, .int .i64 0, .int .i64 0, .int .i64 0, .slice none 0 0] 26 (0, 0)) (by (with_reducible repeat (first | refine blk_drewN ?_ _ | refine blk_drew ?_ | refine blk_alloc ?_ _)); exact BK222.out) hg (Kd.R_ne HO231.out BK222.out (by decide)))
                            have n1_ := Aside0.mk (hb)
                            have n2_ := Aside0.mk (ho)
                            clear BK222
                            clear HB
                            clear HO231
                            have BK222 := n0_
                            have HB := n1_
                            have HO235 := n2_
                            clear n0_ n1_ n2_
                            clear ho hb hg hat
                            obtain ⟨Ao43, co43, eo43⟩ := Kd.R_slice HO235.out
                            (first | subst eo43 | (injection eo43 with f1_ f2_ f3_; have f4_ := f1_.symm; have f5_ := f3_.symm; clear f1_ f2_ f3_; subst f4_; subst f5_))
                            refine hK.out _ _ ⟨((HB.out.cell (World.block_lt_of_cell? w _ hw223_0)).trans hw223_0), ((HB.out.cell (World.block_lt_of_cell? w _ hw224_0)).trans hw224_0), ((HB.out.cell (World.block_lt_of_cell? w _ hw225_0)).trans hw225_0), ((HB.out.cell (World.block_lt_of_cell? w _ hw226_0)).trans hw226_0), ((HB.out.cell (World.block_lt_of_cell? w _ hw227_0)).trans hw227_0), ((HB.out.cell (World.block_lt_of_cell? w _ hw228_0)).trans hw228_0)⟩ (fun hHeld => ?_)
                            clear hK K
                            refine norm_ (a' := ?_) ?_ ?_
                            rotate_left
                            · show Act.put _ (some 32) _ = _
                              simp only [Act.put, List.setIfInBounds_toArray, List.set_cons_zero, List.set_cons_succ, i64_w, i32_w]
                              rfl
                            refine pure_ (i := 24) (N := some 33) (v := ?_) (a' := ?_) #[true, true, true, true, true, true, true, true, true, true, true, true, true, true, true, true, true, true, true, true, true, true, true, true, true, false, false] rfl rfl (any_of HT_.out (by kernel_rfl)) (fun _ _ _ h => h) (Or.inl ⟨by rfl, ?_⟩) ?_ ?_
                            rotate_left
                            · intro w'
                              go_simp
                              with_reducible rfl
                            rotate_left
                            · simp only [Act.put, List.setIfInBounds_toArray, List.set_cons_zero, List.set_cons_succ, i64_w, i32_w]
                              rfl
                            refine one_ (i := 25) (N := some 4) #[true, true, true, true, true, true, true, true, true, true, true, true, true, true, true, true, true, true, true, true, true, true, true, true, true, true, false] rfl rfl (one_of HT_.out (by kernel_rfl)) (by decide) (fun K hK => ?_)
                            refine box_step ?hg (N := 4) ?hd (cs := #[.int .i64 0, .int .i64 0, .int .i64 0, .int .i64 0, .int .i64 0, .int .i64 0, .slice none 0 0]) (t := 26) ?hr ?_; (case hd => rfl); (case hg => rfl); (case hr => first | (go_simp; done) | (go_simp; rfl))
                            intro gb236 hg w44 hbox hb
                            have n0_ := Aside0.mk (Kd.R_below (by (with_reducible repeat (first | apply Kd.R_alloc | apply Kd.R_drewN | apply Kd.R_drew)); exact HO235.out) hb)
                            have n1_ := Aside0.mk (blk_below (g := gb222) (o := .cells #[.int .i64 0, .int .i64 0, .int .i64 0, .int .i64 0, .int .i64 0, .int .i64 0, .slice none 0 0] 26 (0, 0)) (by (with_reducible repeat (first | refine blk_drewN ?_ _ | refine blk_drew ?_ | refine blk_alloc ?_ _)); exact BK222.out) hb)
                            have n2_ := Aside0.mk (below_step (by repeat (first | (with_reducible first | exact HB.out | apply below_alloc | apply pw_below_drewN | apply below_drew1 | refine below_set ?_ GE222.out) | exact HB.out)) hb)
                            have n3_ := Aside0.mk (hbox)
                            have n4_ := Aside0.mk ((by rw [hg]; exact (below_size (by repeat (first | (with_reducible first | exact HB.out | apply below_alloc | apply pw_below_drewN | apply below_drew1 | refine below_set ?_ GE222.out) | exact HB.out))) : w.heap.size ≤ gb236))
                            have n5_ := Aside0.mk ((by rw [hg]; exact (below_size (by repeat (first | (with_reducible first | exact HB.out | apply below_alloc | apply pw_below_drewN | apply below_drew1 | refine below_set ?_ GE222.out) | exact HB.out))) : w.heap.size ≤ gb236))
                            have n6_ := Aside0.mk ((by rw [hg]; exact Nat.ne_of_lt (blk_lt (g := gb222) (o := .cells #[.int .i64 0, .int .i64 0, .int .i64 0, .int .i64 0, .int .i64 0, .int .i64 0, .slice none 0 0] 26 (0, 0)) (by (with_reducible repeat (first | refine blk_drewN ?_ _ | refine blk_drew ?_ | refine blk_alloc ?_ _)); exact BK222.out)) : gb222 ≠ gb236))
                            have n7_ := Aside0.mk ((by rw [hg]; exact Nat.ne_of_gt (blk_lt (g := gb222) (o := .cells #[.int .i64 0, .int .i64 0, .int .i64 0, .int .i64 0, .int .i64 0, .int .i64 0, .slice none 0 0] 26 (0, 0)) (by (with_reducible repeat (first | refine blk_drewN ?_ _ | refine blk_drew ?_ | refine blk_alloc ?_ _)); exact BK222.out)) : gb236 ≠ gb222))
                            clear HO235
                            clear BK222
                            clear HB
                            have HO235 := n0_
                            have BK222 := n1_
                            have HB := n2_
                            have BK236 := n3_
                            have GW236 := n4_
                            have GE236 := n5_
                            have NB222_236 := n6_
                            have NB236_222 := n7_
                            clear n0_ n1_ n2_ n3_ n4_ n5_ n6_ n7_
                            clear hb hbox hg
                            refine hK.out _ _ ⟨((HB.out.cell (World.block_lt_of_cell? w _ hw223_0)).trans hw223_0), ((HB.out.cell (World.block_lt_of_cell? w _ hw224_0)).trans hw224_0), ((HB.out.cell (World.block_lt_of_cell? w _ hw225_0)).trans hw225_0), ((HB.out.cell (World.block_lt_of_cell? w _ hw226_0)).trans hw226_0), ((HB.out.cell (World.block_lt_of_cell? w _ hw227_0)).trans hw227_0), ((HB.out.cell (World.block_lt_of_cell? w _ hw228_0)).trans hw228_0)⟩ (fun hHeld => ?_)
                            clear hK K
                            refine norm_ (a' := ?_) ?_ ?_
                            rotate_left
                            · show Act.put _ (some 4) _ = _
                              simp only [Act.put, List.setIfInBounds_toArray, List.set_cons_zero, List.set_cons_succ, i64_w, i32_w]
                              rfl
                            exact norm_ (by simp only [putAll, Act.put, List.setIfInBounds_toArray, List.set_cons_zero, List.set_cons_succ]) (hCont (v230, .slice Ao43 y233.length co43, gb236) _ ⟨hHeld, (by (with_reducible repeat (first | apply Kd.R_alloc | apply Kd.R_drewN | apply Kd.R_drew)); exact HO235.out), (by (with_reducible repeat (first | refine blk_drewN ?_ _ | refine blk_drew ?_ | refine blk_alloc ?_ _)); exact BK222.out), (by (with_reducible repeat (first | refine blk_drewN ?_ _ | refine blk_drew ?_ | refine blk_alloc ?_ _)); exact BK236.out), GW236.out, GE236.out, NB222_236.out, NB236_222.out, (by repeat (first | (with_reducible first | exact HB.out | apply below_alloc | apply pw_below_drewN | apply below_drew1 | refine below_set ?_ GE222.out | refine below_set ?_ GE236.out) | exact HB.out))⟩)
                          · skip
                            refine box_step ?hg (N := 4) ?hd (cs := #[.int .i64 0, .int .i64 0, .int .i64 0, .int .i64 0, .int .i64 0, .int .i64 0, .slice none 0 0]) (t := 26) ?hr ?_; (case hd => rfl); (case hg => rfl); (case hr => first | (go_simp; done) | (go_simp; rfl))
                            intro gb236 hg w42 hbox hb
                            have n0_ := Aside0.mk (Kd.R_below (by (with_reducible repeat (first | apply Kd.R_alloc | apply Kd.R_drewN | apply Kd.R_drew)); exact HO231.out) hb)
                            have n1_ := Aside0.mk (blk_below (g := gb222) (o := .cells #[.int .i64 0, .int .i64 0, .int .i64 0, .int .i64 0, .int .i64 0, .int .i64 0, .slice none 0 0] 26 (0, 0)) (by (with_reducible repeat (first | refine blk_drewN ?_ _ | refine blk_drew ?_ | refine blk_alloc ?_ _)); exact BK222.out) hb)
                            have n2_ := Aside0.mk (below_step (by repeat (first | (with_reducible first | exact HB.out | apply below_alloc | apply pw_below_drewN | apply below_drew1 | refine below_set ?_ GE222.out) | exact HB.out)) hb)
                            have n3_ := Aside0.mk (hbox)
                            have n4_ := Aside0.mk ((by rw [hg]; exact (below_size (by repeat (first | (with_reducible first | exact HB.out | apply below_alloc | apply pw_below_drewN | apply below_drew1 | refine below_set ?_ GE222.out) | exact HB.out))) : w.heap.size ≤ gb236))
                            have n5_ := Aside0.mk ((by rw [hg]; exact (below_size (by repeat (first | (with_reducible first | exact HB.out | apply below_alloc | apply pw_below_drewN | apply below_drew1 | refine below_set ?_ GE222.out) | exact HB.out))) : w.heap.size ≤ gb236))
                            have n6_ := Aside0.mk ((by rw [hg]; exact Nat.ne_of_lt (blk_lt (g := gb222) (o := .cells #[.int .i64 0, .int .i64 0, .int .i64 0, .int .i64 0, .int .i64 0, .int .i64 0, .slice none 0 0] 26 (0, 0)) (by (with_reducible repeat (first | refine blk_drewN ?_ _ | refine blk_drew ?_ | refine blk_alloc ?_ _)); exact BK222.out)) : gb222 ≠ gb236))
                            have n7_ := Aside0.mk ((by rw [hg]; exact Nat.ne_of_gt (blk_lt (g := gb222) (o := .cells #[.int .i64 0, .int .i64 0, .int .i64 0, .int .i64 0, .int .i64 0, .int .i64 0, .slice none 0 0] 26 (0, 0)) (by (with_reducible repeat (first | refine blk_drewN ?_ _ | refine blk_drew ?_ | refine blk_alloc ?_ _)); exact BK222.out)) : gb236 ≠ gb222))
                            clear HO231
                            clear BK222
                            clear HB
                            have HO231 := n0_
                            have BK222 := n1_
                            have HB := n2_
                            have BK236 := n3_
                            have GW236 := n4_
                            have GE236 := n5_
                            have NB222_236 := n6_
                            have NB236_222 := n7_
                            clear n0_ n1_ n2_ n3_ n4_ n5_ n6_ n7_
                            clear hb hbox hg
                            refine hK.out _ _ ⟨((HB.out.cell (World.block_lt_of_cell? w _ hw223_0)).trans hw223_0), ((HB.out.cell (World.block_lt_of_cell? w _ hw224_0)).trans hw224_0), ((HB.out.cell (World.block_lt_of_cell? w _ hw225_0)).trans hw225_0), ((HB.out.cell (World.block_lt_of_cell? w _ hw226_0)).trans hw226_0), ((HB.out.cell (World.block_lt_of_cell? w _ hw227_0)).trans hw227_0), ((HB.out.cell (World.block_lt_of_cell? w _ hw228_0)).trans hw228_0)⟩ (fun hHeld => ?_)
                            clear hK K
                            refine norm_ (a' := ?_) ?_ ?_
                            rotate_left
                            · show Act.put _ (some 4) _ = _
                              simp only [Act.put, List.setIfInBounds_toArray, List.set_cons_zero, List.set_cons_succ, i64_w, i32_w]
                              rfl
                            refine one_ (i := 23) (N := some 32) #[true, true, true, true, true, true, true, true, true, true, true, true, true, true, true, true, true, true, true, true, true, true, true, true, false, true, false] rfl rfl (one_of HT_.out (by kernel_rfl)) (by decide) (fun K hK => ?_)
                            refine Kd.R_append_rows_step (Kd.int .i64) (w0 := w) w.heap.size (by rfl) (.tmp 29) (.tmp 31) 24 3 (.int .i64 0) 8 rfl Try.underlying24 info3 rfl (by decide) (by omega) v230 y229 (l0.drop 6) _ _ _ (fun _ => True) (fun _ => False) rfl rfl ?aO ?aR (fun _ _ h => h) (fun _ h => h.elim) ?aF ?aB ?aS ?aL ?_
                            (case aR => first | (rw [← show (l0.drop 6).length = (l0.length - 6) from List.length_drop]; repeat (first | exact (Kd.C_below HR232.out HB.out) | (with_reducible refine Kd.C_alloc ?_ _) | (with_reducible refine Kd.C_drewN ?_ _) | (with_reducible refine Kd.C_drew ?_))) | (repeat (first | exact (Kd.C_below HR232.out HB.out) | (with_reducible refine Kd.C_alloc ?_ _) | (with_reducible refine Kd.C_drewN ?_ _) | (with_reducible refine Kd.C_drew ?_))))
                            (case aB => exact (by repeat (first | (with_reducible first | exact HB.out | apply below_alloc | apply pw_below_drewN | apply below_drew1 | refine below_set ?_ GE222.out | refine below_set ?_ GE236.out) | exact HB.out)))
                            (case aF => exact (fun _ _ => trivial))
                            (case aO => exact (by (with_reducible repeat (first | apply Kd.R_alloc | apply Kd.R_drewN | apply Kd.R_drew)); exact HO231.out))
                            (case aS => exact (below_size (by repeat (first | (with_reducible first | exact HB.out | apply below_alloc | apply pw_below_drewN | apply below_drew1 | refine below_set ?_ GE222.out | refine below_set ?_ GE236.out) | exact HB.out))))
                            (case aL => have := LMc12.out; have hlx_ := (show (l0.drop 6).length = (l0.length - 6) from List.length_drop); omega)
                            intro v234 w43 ho hb hg hat
                            rw [← Ny233.out] at ho
                            have n0_ := Aside0.mk (blk_grown (g := gb222) (o := .cells #[.int .i64 0, .int .i64 0, .int .i64 0, .int .i64 0, .int .i64 0, .int .i64 0, .slice none 0 0] 26 (0, 0)) (by (with_reducible repeat (first | refine blk_drewN ?_ _ | refine blk_drew ?_ | refine blk_alloc ?_ _)); exact BK222.out) hg (Kd.R_ne HO231.out BK222.out (by decide)))
                            have n1_ := Aside0.mk (blk_grown (g := gb236) (o := .cells #[.int .i64 0, .int .i64 0, .int .i64 0, .int .i64 0, .int .i64 0, .int .i64 0, .slice none 0 0] 26 (0, 0)) (by (with_reducible repeat (first | refine blk_drewN ?_ _ | refine blk_drew ?_ | refine blk_alloc ?_ _)); exact BK236.out) hg (Kd.R_ne HO231.out BK236.out (by decide)))
                            have n2_ := Aside0.mk (hb)
                            have n3_ := Aside0.mk (ho)
                            clear BK222
                            clear BK236
                            clear HB
                            clear HO231
                            have BK222 := n0_
                            have BK236 := n1_
                            have HB := n2_
                            have HO235 := n3_
                            clear n0_ n1_ n2_ n3_
                            clear ho hb hg hat
                            obtain ⟨Ao44, co44, eo44⟩ := Kd.R_slice HO235.out
                            (first | subst eo44 | (injection eo44 with f1_ f2_ f3_; have f4_ := f1_.symm; have f5_ := f3_.symm; clear f1_ f2_ f3_; subst f4_; subst f5_))
                            refine hK.out _ _ ⟨((HB.out.cell (World.block_lt_of_cell? w _ hw223_0)).trans hw223_0), ((HB.out.cell (World.block_lt_of_cell? w _ hw224_0)).trans hw224_0), ((HB.out.cell (World.block_lt_of_cell? w _ hw225_0)).trans hw225_0), ((HB.out.cell (World.block_lt_of_cell? w _ hw226_0)).trans hw226_0), ((HB.out.cell (World.block_lt_of_cell? w _ hw227_0)).trans hw227_0), ((HB.out.cell (World.block_lt_of_cell? w _ hw228_0)).trans hw228_0)⟩ (fun hHeld => ?_)
                            clear hK K
                            refine norm_ (a' := ?_) ?_ ?_
                            rotate_left
                            · show Act.put _ (some 32) _ = _
                              simp only [Act.put, List.setIfInBounds_toArray, List.set_cons_zero, List.set_cons_succ, i64_w, i32_w]
                              rfl
                            refine pure_ (i := 24) (N := some 33) (v := ?_) (a' := ?_) #[true, true, true, true, true, true, true, true, true, true, true, true, true, true, true, true, true, true, true, true, true, true, true, true, true, true, false] rfl rfl (any_of HT_.out (by kernel_rfl)) (fun _ _ _ h => h) (Or.inl ⟨by rfl, ?_⟩) ?_ ?_
                            rotate_left
                            · intro w'
                              go_simp
                              with_reducible rfl
                            rotate_left
                            · simp only [Act.put, List.setIfInBounds_toArray, List.set_cons_zero, List.set_cons_succ, i64_w, i32_w]
                              rfl
                            exact norm_ (by simp only [putAll, Act.put, List.setIfInBounds_toArray, List.set_cons_zero, List.set_cons_succ]) (hCont (v230, .slice Ao44 y233.length co44, gb236) _ ⟨hHeld, (by (with_reducible repeat (first | apply Kd.R_alloc | apply Kd.R_drewN | apply Kd.R_drew)); exact HO235.out), (by (with_reducible repeat (first | refine blk_drewN ?_ _ | refine blk_drew ?_ | refine blk_alloc ?_ _)); exact BK222.out), (by (with_reducible repeat (first | refine blk_drewN ?_ _ | refine blk_drew ?_ | refine blk_alloc ?_ _)); exact BK236.out), GW236.out, GE236.out, NB222_236.out, NB236_222.out, (by repeat (first | (with_reducible first | exact HB.out | apply below_alloc | apply pw_below_drewN | apply below_drew1 | refine below_set ?_ GE222.out | refine below_set ?_ GE236.out) | exact HB.out))⟩)
                        · skip
                          refine box_step ?hg (N := 4) ?hd (cs := #[.int .i64 0, .int .i64 0, .int .i64 0, .int .i64 0, .int .i64 0, .int .i64 0, .slice none 0 0]) (t := 26) ?hr ?_; (case hd => rfl); (case hg => rfl); (case hr => first | (go_simp; done) | (go_simp; rfl))
                          intro gb236 hg w40 hbox hb
                          have n0_ := Aside0.mk (blk_below (g := gb222) (o := .cells #[.int .i64 0, .int .i64 0, .int .i64 0, .int .i64 0, .int .i64 0, .int .i64 0, .slice none 0 0] 26 (0, 0)) (by (with_reducible repeat (first | refine blk_drewN ?_ _ | refine blk_drew ?_ | refine blk_alloc ?_ _)); exact BK222.out) hb)
                          have n1_ := Aside0.mk (below_step (by repeat (first | (with_reducible first | exact HB.out | apply below_alloc | apply pw_below_drewN | apply below_drew1 | refine below_set ?_ GE222.out) | exact HB.out)) hb)
                          have n2_ := Aside0.mk (hbox)
                          have n3_ := Aside0.mk ((by rw [hg]; exact (below_size (by repeat (first | (with_reducible first | exact HB.out | apply below_alloc | apply pw_below_drewN | apply below_drew1 | refine below_set ?_ GE222.out) | exact HB.out))) : w.heap.size ≤ gb236))
                          have n4_ := Aside0.mk ((by rw [hg]; exact (below_size (by repeat (first | (with_reducible first | exact HB.out | apply below_alloc | apply pw_below_drewN | apply below_drew1 | refine below_set ?_ GE222.out) | exact HB.out))) : w.heap.size ≤ gb236))
                          have n5_ := Aside0.mk ((by rw [hg]; exact Nat.ne_of_lt (blk_lt (g := gb222) (o := .cells #[.int .i64 0, .int .i64 0, .int .i64 0, .int .i64 0, .int .i64 0, .int .i64 0, .slice none 0 0] 26 (0, 0)) (by (with_reducible repeat (first | refine blk_drewN ?_ _ | refine blk_drew ?_ | refine blk_alloc ?_ _)); exact BK222.out)) : gb222 ≠ gb236))
                          have n6_ := Aside0.mk ((by rw [hg]; exact Nat.ne_of_gt (blk_lt (g := gb222) (o := .cells #[.int .i64 0, .int .i64 0, .int .i64 0, .int .i64 0, .int .i64 0, .int .i64 0, .slice none 0 0] 26 (0, 0)) (by (with_reducible repeat (first | refine blk_drewN ?_ _ | refine blk_drew ?_ | refine blk_alloc ?_ _)); exact BK222.out)) : gb236 ≠ gb222))
                          clear BK222
                          clear HB
                          have BK222 := n0_
                          have HB := n1_
                          have BK236 := n2_
                          have GW236 := n3_
                          have GE236 := n4_
                          have NB222_236 := n5_
                          have NB236_222 := n6_
                          clear n0_ n1_ n2_ n3_ n4_ n5_ n6_
                          clear hb hbox hg
                          refine hK.out _ _ ⟨((HB.out.cell (World.block_lt_of_cell? w _ hw223_0)).trans hw223_0), ((HB.out.cell (World.block_lt_of_cell? w _ hw224_0)).trans hw224_0), ((HB.out.cell (World.block_lt_of_cell? w _ hw225_0)).trans hw225_0), ((HB.out.cell (World.block_lt_of_cell? w _ hw226_0)).trans hw226_0), ((HB.out.cell (World.block_lt_of_cell? w _ hw227_0)).trans hw227_0), ((HB.out.cell (World.block_lt_of_cell? w _ hw228_0)).trans hw228_0)⟩ (fun hHeld => ?_)
                          clear hK K
                          refine norm_ (a' := ?_) ?_ ?_
                          rotate_left
                          · show Act.put _ (some 4) _ = _
                            simp only [Act.put, List.setIfInBounds_toArray, List.set_cons_zero, List.set_cons_succ, i64_w, i32_w]
                            rfl
                          refine one_ (i := 20) (N := some 29) #[true, true, true, true, true, true, true, true, true, true, true, true, true, true, true, true, true, true, true, true, true, true, true, false, false, true, false] rfl rfl (one_of HT_.out (by kernel_rfl)) (by decide) (fun K hK => ?_)
                          refine Kd.R_lit_step (Kd.int .i64) _ 3 ?hg (N := 29) ?hd (xs := ([] : List Int)) (inner := []) (ok := fun _ => True) (okp := fun _ => True) ?hr ?hp (fun _ hk => hk) trivial (Below.refl _ _) (Nat.le_refl _) (by simp) ?_; (case hd => rfl); (case hg => rfl); (case hr => first | (go_simp; done) | (go_simp; rfl)); (case hp => exact (Reps.none _ _))
                          intro v230 w41 ho42 hb hg_ hnew_
                          clear hg_ hnew_
                          (first | rw [← Ny229.out] at ho42 | (simp only [Int.reduceToNat] at ho42; rw [← Ny229.out] at ho42))
                          have n0_ := Aside0.mk (Kd.R_lower ho42 (below_size (by repeat (first | (with_reducible first | exact HB.out | apply below_alloc | apply pw_below_drewN | apply below_drew1 | refine below_set ?_ GE222.out | refine below_set ?_ GE236.out) | exact HB.out))))
                          have n1_ := Aside0.mk (blk_below (g := gb222) (o := .cells #[.int .i64 0, .int .i64 0, .int .i64 0, .int .i64 0, .int .i64 0, .int .i64 0, .slice none 0 0] 26 (0, 0)) (by (with_reducible repeat (first | refine blk_drewN ?_ _ | refine blk_drew ?_ | refine blk_alloc ?_ _)); exact BK222.out) hb)
                          have n2_ := Aside0.mk (blk_below (g := gb236) (o := .cells #[.int .i64 0, .int .i64 0, .int .i64 0, .int .i64 0, .int .i64 0, .int .i64 0, .slice none 0 0] 26 (0, 0)) (by (with_reducible repeat (first | refine blk_drewN ?_ _ | refine blk_drew ?_ | refine blk_alloc ?_ _)); exact BK236.out) hb)
                          have n3_ := Aside0.mk (below_step (by repeat (first | (with_reducible first | exact HB.out | apply below_alloc | apply pw_below_drewN | apply below_drew1 | refine below_set ?_ GE222.out | refine below_set ?_ GE236.out) | exact HB.out)) hb)
                          clear BK222
                          clear BK236
                          clear HB
                          have HO231 := n0_
                          have BK222 := n1_
                          have BK236 := n2_
                          have HB := n3_
                          clear n0_ n1_ n2_ n3_
                          clear hb ho42
                          refine hK.out _ _ ⟨((HB.out.cell (World.block_lt_of_cell? w _ hw223_0)).trans hw223_0), ((HB.out.cell (World.block_lt_of_cell? w _ hw224_0)).trans hw224_0), ((HB.out.cell (World.block_lt_of_cell? w _ hw225_0)).trans hw225_0), ((HB.out.cell (World.block_lt_of_cell? w _ hw226_0)).trans hw226_0), ((HB.out.cell (World.block_lt_of_cell? w _ hw227_0)).trans hw227_0), ((HB.out.cell (World.block_lt_of_cell? w _ hw228_0)).trans hw228_0)⟩ (fun hHeld => ?_)
                          clear hK K
                          refine norm_ (a' := ?_) ?_ ?_
                          rotate_left
                          · show Act.put _ (some 29) _ = _
                            simp only [Act.put, List.setIfInBounds_toArray, List.set_cons_zero, List.set_cons_succ, i64_w, i32_w]
                            rfl
                          refine one_ (i := 23) (N := some 32) #[true, true, true, true, true, true, true, true, true, true, true, true, true, true, true, true, true, true, true, true, true, true, true, true, false, true, false] rfl rfl (one_of HT_.out (by kernel_rfl)) (by decide) (fun K hK => ?_)
                          refine Kd.R_append_rows_step (Kd.int .i64) (w0 := w) w.heap.size (by rfl) (.tmp 29) (.tmp 31) 24 3 (.int .i64 0) 8 rfl Try.underlying24 info3 rfl (by decide) (by omega) v230 y229 (l0.drop 6) _ _ _ (fun _ => True) (fun _ => False) rfl rfl ?aO ?aR (fun _ _ h => h) (fun _ h => h.elim) ?aF ?aB ?aS ?aL ?_
                          (case aR => first | (rw [← show (l0.drop 6).length = (l0.length - 6) from List.length_drop]; repeat (first | exact (Kd.C_below HR232.out HB.out) | (with_reducible refine Kd.C_alloc ?_ _) | (with_reducible refine Kd.C_drewN ?_ _) | (with_reducible refine Kd.C_drew ?_))) | (repeat (first | exact (Kd.C_below HR232.out HB.out) | (with_reducible refine Kd.C_alloc ?_ _) | (with_reducible refine Kd.C_drewN ?_ _) | (with_reducible refine Kd.C_drew ?_))))
                          (case aB => exact (by repeat (first | (with_reducible first | exact HB.out | apply below_alloc | apply pw_below_drewN | apply below_drew1 | refine below_set ?_ GE222.out | refine below_set ?_ GE236.out) | exact HB.out)))
                          (case aF => exact (fun _ _ => trivial))
                          (case aO => exact (by (with_reducible repeat (first | apply Kd.R_alloc | apply Kd.R_drewN | apply Kd.R_drew)); exact HO231.out))
                          (case aS => exact (below_size (by repeat (first | (with_reducible first | exact HB.out | apply below_alloc | apply pw_below_drewN | apply below_drew1 | refine below_set ?_ GE222.out | refine below_set ?_ GE236.out) | exact HB.out))))
                          (case aL => have := LMc12.out; have hlx_ := (show (l0.drop 6).length = (l0.length - 6) from List.length_drop); omega)
                          intro v234 w43 ho hb hg hat
                          rw [← Ny233.out] at ho
                          have n0_ := Aside0.mk (blk_grown (g := gb222) (o := .cells #[.int .i64 0, .int .i64 0, .int .i64 0, .int .i64 0, .int .i64 0, .int .i64 0, .slice none 0 0] 26 (0, 0)) (by (with_reducible repeat (first | refine blk_drewN ?_ _ | refine blk_drew ?_ | refine blk_alloc ?_ _)); exact BK222.out) hg (Kd.R_ne HO231.out BK222.out (by decide)))
                          have n1_ := Aside0.mk (blk_grown (g := gb236) (o := .cells #[.int .i64 0, .int .i64 0, .int .i64 0, .int .i64 0, .int .i64 0, .int .i64 0, .slice none 0 0] 26 (0, 0)) (by (with_reducible repeat (first | refine blk_drewN ?_ _ | refine blk_drew ?_ | refine blk_alloc ?_ _)); exact BK236.out) hg (Kd.R_ne HO231.out BK236.out (by decide)))
                          have n2_ := Aside0.mk (hb)
                          have n3_ := Aside0.mk (ho)
                          clear BK222
                          clear BK236
                          clear HB
                          clear HO231
                          have BK222 := n0_
                          have BK236 := n1_
                          have HB := n2_
                          have HO235 := n3_
                          clear n0_ n1_ n2_ n3_
                          clear ho hb hg hat
                          obtain ⟨Ao44, co44, eo44⟩ := Kd.R_slice HO235.out
                          (first | subst eo44 | (injection eo44 with f1_ f2_ f3_; have f4_ := f1_.symm; have f5_ := f3_.symm; clear f1_ f2_ f3_; subst f4_; subst f5_))
                          refine hK.out _ _ ⟨((HB.out.cell (World.block_lt_of_cell? w _ hw223_0)).trans hw223_0), ((HB.out.cell (World.block_lt_of_cell? w _ hw224_0)).trans hw224_0), ((HB.out.cell (World.block_lt_of_cell? w _ hw225_0)).trans hw225_0), ((HB.out.cell (World.block_lt_of_cell? w _ hw226_0)).trans hw226_0), ((HB.out.cell (World.block_lt_of_cell? w _ hw227_0)).trans hw227_0), ((HB.out.cell (World.block_lt_of_cell? w _ hw228_0)).trans hw228_0)⟩ (fun hHeld => ?_)
                          clear hK K
                          refine norm_ (a' := ?_) ?_ ?_
                          rotate_left
                          · show Act.put _ (some 32) _ = _
                            simp only [Act.put, List.setIfInBounds_toArray, List.set_cons_zero, List.set_cons_succ, i64_w, i32_w]
                            rfl
                          refine pure_ (i := 24) (N := some 33) (v := ?_) (a' := ?_) #[true, true, true, true, true, true, true, true, true, true, true, true, true, true, true, true, true, true, true, true, true, true, true, true, true, true, false] rfl rfl (any_of HT_.out (by kernel_rfl)) (fun _ _ _ h => h) (Or.inl ⟨by rfl, ?_⟩) ?_ ?_
                          rotate_left
                          · intro w'
                            go_simp
                            with_reducible rfl
                          rotate_left
                          · simp only [Act.put, List.setIfInBounds_toArray, List.set_cons_zero, List.set_cons_succ, i64_w, i32_w]
                            rfl
                          exact norm_ (by simp only [putAll, Act.put, List.setIfInBounds_toArray, List.set_cons_zero, List.set_cons_succ]) (hCont (v230, .slice Ao44 y233.length co44, gb236) _ ⟨hHeld, (by (with_reducible repeat (first | apply Kd.R_alloc | apply Kd.R_drewN | apply Kd.R_drew)); exact HO235.out), (by (with_reducible repeat (first | refine blk_drewN ?_ _ | refine blk_drew ?_ | refine blk_alloc ?_ _)); exact BK222.out), (by (with_reducible repeat (first | refine blk_drewN ?_ _ | refine blk_drew ?_ | refine blk_alloc ?_ _)); exact BK236.out), GW236.out, GE236.out, NB222_236.out, NB236_222.out, (by repeat (first | (with_reducible first | exact HB.out | apply below_alloc | apply pw_below_drewN | apply below_drew1 | refine below_set ?_ GE222.out | refine below_set ?_ GE236.out) | exact HB.out))⟩)
                      rintro ⟨v230, v234, gb236⟩ w45 ⟨hS_, h0_, h1_, h2_, h3_, h4_, h5_, h6_, h7_⟩
                      have n0_ : Aside0 (Kd.R (Kd.int .i64) 3 w45 w.heap.size (fun _ => True) v234 y233) := ⟨h0_⟩
                      have n1_ : Aside0 (w45.heap[gb222]? = some (.cells #[.int .i64 0, .int .i64 0, .int .i64 0, .int .i64 0, .int .i64 0, .int .i64 0, .slice none 0 0] 26 (0, 0))) := ⟨h1_⟩
                      have n2_ : Aside0 (w45.heap[gb236]? = some (.cells #[.int .i64 0, .int .i64 0, .int .i64 0, .int .i64 0, .int .i64 0, .int .i64 0, .slice none 0 0] 26 (0, 0))) := ⟨h2_⟩
                      have n3_ : Aside0 (w.heap.size ≤ gb236) := ⟨h3_⟩
                      have n4_ : Aside0 (w.heap.size ≤ gb236) := ⟨h4_⟩
                      have n5_ : Aside0 (gb222 ≠ gb236) := ⟨h5_⟩
                      have n6_ : Aside0 (gb236 ≠ gb222) := ⟨h6_⟩
                      have n7_ : Aside0 (Below w.heap.size w w45) := ⟨h7_⟩
                      clear BK222
                      clear HB
                      clear h0_ h1_ h2_ h3_ h4_ h5_ h6_ h7_
                      have HO235 := n0_
                      have BK222 := n1_
                      have BK236 := n2_
                      have GW236 := n3_
                      have GE236 := n4_
                      have NB222_236 := n5_
                      have NB236_222 := n6_
                      have HB := n7_
                      clear n0_ n1_ n2_ n3_ n4_ n5_ n6_ n7_
                      have hHeld : w45.cell? ad223 = some (.int .i64 (rd l0 0)) ∧ w45.cell? ⟨ad223.block, ad223.off + 1, none⟩ = some (.int .i64 (rd l0 1)) ∧ w45.cell? ⟨ad223.block, ad223.off + 2, none⟩ = some (.int .i64 (rd l0 2)) ∧ w45.cell? ⟨ad223.block, ad223.off + 3, none⟩ = some (.int .i64 (rd l0 3)) ∧ w45.cell? ⟨ad223.block, ad223.off + 4, none⟩ = some (.int .i64 (rd l0 4)) ∧ w45.cell? ⟨ad223.block, ad223.off + 5, none⟩ = some (.int .i64 (rd l0 5)) := hS_
                      obtain ⟨Ao46, co46, eo46⟩ := Kd.R_slice HO235.out
                      (first | subst eo46 | (injection eo46 with f1_ f2_ f3_; have f4_ := f1_.symm; have f5_ := f3_.symm; clear f1_ f2_ f3_; subst f4_; subst f5_))
                      refine norm_ (a' := ?_) ?_ ?_
                      rotate_left
                      · simp only [putAll, Act.put, List.setIfInBounds_toArray, List.set_cons_zero, List.set_cons_succ]
                        rfl
                      refine one_ (i := 26) (N := none) #[true, true, true, true, true, true, true, true, true, true, true, true, true, true, true, true, true, true, true, true, true, true, true, true, true, true, true] rfl rfl (one_of HT_.out (by kernel_rfl)) (by decide) (fun K hK => ?_)
                      have hs47 : w45.cell? ⟨gb236, 0, none⟩ = some (.int .i64 0) := (blk_cell BK236.out 0).trans rfl
                      have hfs47 := blk_frozen BK236.out 0
                      have hns47_0 := NB222_236.out
                      have hms47_0 := NB236_222.out
                      have hs48 : w45.cell? ⟨gb236, 1, none⟩ = some (.int .i64 0) := (blk_cell BK236.out 1).trans rfl
                      have hfs48 := blk_frozen BK236.out 1
                      have hns48_0 := NB222_236.out
                      have hms48_0 := NB236_222.out
                      have hs49 : w45.cell? ⟨gb236, 2, none⟩ = some (.int .i64 0) := (blk_cell BK236.out 2).trans rfl
                      have hfs49 := blk_frozen BK236.out 2
                      have hns49_0 := NB222_236.out
                      have hms49_0 := NB236_222.out
                      have hs50 : w45.cell? ⟨gb236, 3, none⟩ = some (.int .i64 0) := (blk_cell BK236.out 3).trans rfl
                      have hfs50 := blk_frozen BK236.out 3
                      have hns50_0 := NB222_236.out
                      have hms50_0 := NB236_222.out
                      have hs51 : w45.cell? ⟨gb236, 4, none⟩ = some (.int .i64 0) := (blk_cell BK236.out 4).trans rfl
                      have hfs51 := blk_frozen BK236.out 4
                      have hns51_0 := NB222_236.out
                      have hms51_0 := NB236_222.out
                      have hs52 : w45.cell? ⟨gb236, 5, none⟩ = some (.int .i64 0) := (blk_cell BK236.out 5).trans rfl
                      have hfs52 := blk_frozen BK236.out 5
                      have hns52_0 := NB222_236.out
                      have hms52_0 := NB236_222.out
                      have hs53 : w45.cell? ⟨gb236, 6, none⟩ = some (.slice none 0 0) := (blk_cell BK236.out 6).trans rfl
                      have hfs53 := blk_frozen BK236.out 6
                      have hns53_0 := NB222_236.out
                      have hms53_0 := NB236_222.out
                      refine skip_ (w1 := ?_) (by rfl) rfl ?_ ?_
                      rotate_left
                      · go_simp
                        rfl
                      refine hK.out _ _ ⟨((cell_far (p := ⟨gb236, _, none⟩) (by first | exact f1x9 hw223_0 GW236.out | exact f0x9 hw223_0 GW236.out | (rw [add_block]; exact f1x9 hw223_0 GW236.out)) _).trans (((cell_far (p := ⟨gb236, _, none⟩) (by first | exact f1x9 hw223_0 GW236.out | exact f0x9 hw223_0 GW236.out | (rw [add_block]; exact f1x9 hw223_0 GW236.out)) _).trans (((cell_far (p := ⟨gb236, _, none⟩) (by first | exact f1x9 hw223_0 GW236.out | exact f0x9 hw223_0 GW236.out | (rw [add_block]; exact f1x9 hw223_0 GW236.out)) _).trans (((cell_far (p := ⟨gb236, _, none⟩) (by first | exact f1x9 hw223_0 GW236.out | exact f0x9 hw223_0 GW236.out | (rw [add_block]; exact f1x9 hw223_0 GW236.out)) _).trans (((cell_far (p := ⟨gb236, _, none⟩) (by first | exact f1x9 hw223_0 GW236.out | exact f0x9 hw223_0 GW236.out | (rw [add_block]; exact f1x9 hw223_0 GW236.out)) _).trans (((cell_far (p := ⟨gb236, _, none⟩) (by first | exact f1x9 hw223_0 GW236.out | exact f0x9 hw223_0 GW236.out | (rw [add_block]; exact f1x9 hw223_0 GW236.out)) _).trans (((cell_far (p := ⟨gb236, _, none⟩) (by first | exact f1x9 hw223_0 GW236.out | exact f0x9 hw223_0 GW236.out | (rw [add_block]; exact f1x9 hw223_0 GW236.out)) _).trans (hHeld.1)))))))))))))), ((cell_far (p := ⟨gb236, _, none⟩) (by first | exact f1x9 hw224_0 GW236.out | exact f0x9 hw224_0 GW236.out | (rw [add_block]; exact f1x9 hw224_0 GW236.out)) _).trans (((cell_far (p := ⟨gb236, _, none⟩) (by first | exact f1x9 hw224_0 GW236.out | exact f0x9 hw224_0 GW236.out | (rw [add_block]; exact f1x9 hw224_0 GW236.out)) _).trans (((cell_far (p := ⟨gb236, _, none⟩) (by first | exact f1x9 hw224_0 GW236.out | exact f0x9 hw224_0 GW236.out | (rw [add_block]; exact f1x9 hw224_0 GW236.out)) _).trans (((cell_far (p := ⟨gb236, _, none⟩) (by first | exact f1x9 hw224_0 GW236.out | exact f0x9 hw224_0 GW236.out | (rw [add_block]; exact f1x9 hw224_0 GW236.out)) _).trans (((cell_far (p := ⟨gb236, _, none⟩) (by first | exact f1x9 hw224_0 GW236.out | exact f0x9 hw224_0 GW236.out | (rw [add_block]; exact f1x9 hw224_0 GW236.out)) _).trans (((cell_far (p := ⟨gb236, _, none⟩) (by first | exact f1x9 hw224_0 GW236.out | exact f0x9 hw224_0 GW236.out | (rw [add_block]; exact f1x9 hw224_0 GW236.out)) _).trans (((cell_far (p := ⟨gb236, _, none⟩) (by first | exact f1x9 hw224_0 GW236.out | exact f0x9 hw224_0 GW236.out | (rw [add_block]; exact f1x9 hw224_0 GW236.out)) _).trans (hHeld.2.1)))))))))))))), ((cell_far (p := ⟨gb236, _, none⟩) (by first | exact f1x9 hw225_0 GW236.out | exact f0x9 hw225_0 GW236.out | (rw [add_block]; exact f1x9 hw225_0 GW236.out)) _).trans (((cell_far (p := ⟨gb236, _, none⟩) (by first | exact f1x9 hw225_0 GW236.out | exact f0x9 hw225_0 GW236.out | (rw [add_block]; exact f1x9 hw225_0 GW236.out)) _).trans (((cell_far (p := ⟨gb236, _, none⟩) (by first | exact f1x9 hw225_0 GW236.out | exact f0x9 hw225_0 GW236.out | (rw [add_block]; exact f1x9 hw225_0 GW236.out)) _).trans (((cell_far (p := ⟨gb236, _, none⟩) (by first | exact f1x9 hw225_0 GW236.out | exact f0x9 hw225_0 GW236.out | (rw [add_block]; exact f1x9 hw225_0 GW236.out)) _).trans (((cell_far (p := ⟨gb236, _, none⟩) (by first | exact f1x9 hw225_0 GW236.out | exact f0x9 hw225_0 GW236.out | (rw [add_block]; exact f1x9 hw225_0 GW236.out)) _).trans (((cell_far (p := ⟨gb236, _, none⟩) (by first | exact f1x9 hw225_0 GW236.out | exact f0x9 hw225_0 GW236.out | (rw [add_block]; exact f1x9 hw225_0 GW236.out)) _).trans (((cell_far (p := ⟨gb236, _, none⟩) (by first | exact f1x9 hw225_0 GW236.out | exact f0x9 hw225_0 GW236.out | (rw [add_block]; exact f1x9 hw225_0 GW236.out)) _).trans (hHeld.2.2.1)))))))))))))), ((cell_far (p := ⟨gb236, _, none⟩) (by first | exact f1x9 hw226_0 GW236.out | exact f0x9 hw226_0 GW236.out | (rw [add_block]; exact f1x9 hw226_0 GW236.out)) _).trans (((cell_far (p := ⟨gb236, _, none⟩) (by first | exact f1x9 hw226_0 GW236.out | exact f0x9 hw226_0 GW236.out | (rw [add_block]; exact f1x9 hw226_0 GW236.out)) _).trans (((cell_far (p := ⟨gb236, _, none⟩) (by first | exact f1x9 hw226_0 GW236.out | exact f0x9 hw226_0 GW236.out | (rw [add_block]; exact f1x9 hw226_0 GW236.out)) _).trans (((cell_far (p := ⟨gb236, _, none⟩) (by first | exact f1x9 hw226_0 GW236.out | exact f0x9 hw226_0 GW236.out | (rw [add_block]; exact f1x9 hw226_0 GW236.out)) _).trans (((cell_far (p := ⟨gb236, _, none⟩) (by first | exact f1x9 hw226_0 GW236.out | exact f0x9 hw226_0 GW236.out | (rw [add_block]; exact f1x9 hw226_0 GW236.out)) _).trans (((cell_far (p := ⟨gb236, _, none⟩) (by first | exact f1x9 hw226_0 GW236.out | exact f0x9 hw226_0 GW236.out | (rw [add_block]; exact f1x9 hw226_0 GW236.out)) _).trans (((cell_far (p := ⟨gb236, _, none⟩) (by first | exact f1x9 hw226_0 GW236.out | exact f0x9 hw226_0 GW236.out | (rw [add_block]; exact f1x9 hw226_0 GW236.out)) _).trans (hHeld.2.2.2.1)))))))))))))), ((cell_far (p := ⟨gb236, _, none⟩) (by first | exact f1x9 hw227_0 GW236.out | exact f0x9 hw227_0 GW236.out | (rw [add_block]; exact f1x9 hw227_0 GW236.out)) _).trans (((cell_far (p := ⟨gb236, _, none⟩) (by first | exact f1x9 hw227_0 GW236.out | exact f0x9 hw227_0 GW236.out | (rw [add_block]; exact f1x9 hw227_0 GW236.out)) _).trans (((cell_far (p := ⟨gb236, _, none⟩) (by first | exact f1x9 hw227_0 GW236.out | exact f0x9 hw227_0 GW236.out | (rw [add_block]; exact f1x9 hw227_0 GW236.out)) _).trans (((cell_far (p := ⟨gb236, _, none⟩) (by first | exact f1x9 hw227_0 GW236.out | exact f0x9 hw227_0 GW236.out | (rw [add_block]; exact f1x9 hw227_0 GW236.out)) _).trans (((cell_far (p := ⟨gb236, _, none⟩) (by first | exact f1x9 hw227_0 GW236.out | exact f0x9 hw227_0 GW236.out | (rw [add_block]; exact f1x9 hw227_0 GW236.out)) _).trans (((cell_far (p := ⟨gb236, _, none⟩) (by first | exact f1x9 hw227_0 GW236.out | exact f0x9 hw227_0 GW236.out | (rw [add_block]; exact f1x9 hw227_0 GW236.out)) _).trans (((cell_far (p := ⟨gb236, _, none⟩) (by first | exact f1x9 hw227_0 GW236.out | exact f0x9 hw227_0 GW236.out | (rw [add_block]; exact f1x9 hw227_0 GW236.out)) _).trans (hHeld.2.2.2.2.1)))))))))))))), ((cell_far (p := ⟨gb236, _, none⟩) (by first | exact f1x9 hw228_0 GW236.out | exact f0x9 hw228_0 GW236.out | (rw [add_block]; exact f1x9 hw228_0 GW236.out)) _).trans (((cell_far (p := ⟨gb236, _, none⟩) (by first | exact f1x9 hw228_0 GW236.out | exact f0x9 hw228_0 GW236.out | (rw [add_block]; exact f1x9 hw228_0 GW236.out)) _).trans (((cell_far (p := ⟨gb236, _, none⟩) (by first | exact f1x9 hw228_0 GW236.out | exact f0x9 hw228_0 GW236.out | (rw [add_block]; exact f1x9 hw228_0 GW236.out)) _).trans (((cell_far (p := ⟨gb236, _, none⟩) (by first | exact f1x9 hw228_0 GW236.out | exact f0x9 hw228_0 GW236.out | (rw [add_block]; exact f1x9 hw228_0 GW236.out)) _).trans (((cell_far (p := ⟨gb236, _, none⟩) (by first | exact f1x9 hw228_0 GW236.out | exact f0x9 hw228_0 GW236.out | (rw [add_block]; exact f1x9 hw228_0 GW236.out)) _).trans (((cell_far (p := ⟨gb236, _, none⟩) (by first | exact f1x9 hw228_0 GW236.out | exact f0x9 hw228_0 GW236.out | (rw [add_block]; exact f1x9 hw228_0 GW236.out)) _).trans (((cell_far (p := ⟨gb236, _, none⟩) (by first | exact f1x9 hw228_0 GW236.out | exact f0x9 hw228_0 GW236.out | (rw [add_block]; exact f1x9 hw228_0 GW236.out)) _).trans (hHeld.2.2.2.2.2))))))))))))))⟩ (fun hHeld => ?_)
                      clear hK K
                      refine done_ (done_of HT_.out (by kernel_rfl)) ?_
                      have hnb54 := NB236_222.out
                      have hnc54 := NB222_236.out
                      have hcz55_0 : w45.cell? ⟨gb236, 0, none⟩ = some (.int .i64 0) := (blk_cell BK236.out 0).trans rfl
                      have hcz55_1 : w45.cell? ⟨gb236, 1, none⟩ = some (.int .i64 0) := (blk_cell BK236.out 1).trans rfl
                      have hcz55_2 : w45.cell? ⟨gb236, 2, none⟩ = some (.int .i64 0) := (blk_cell BK236.out 2).trans rfl
                      have hcz55_3 : w45.cell? ⟨gb236, 3, none⟩ = some (.int .i64 0) := (blk_cell BK236.out 3).trans rfl
                      have hcz55_4 : w45.cell? ⟨gb236, 4, none⟩ = some (.int .i64 0) := (blk_cell BK236.out 4).trans rfl
                      have hcz55_5 : w45.cell? ⟨gb236, 5, none⟩ = some (.int .i64 0) := (blk_cell BK236.out 5).trans rfl
                      have hcz55_6 : w45.cell? ⟨gb236, 6, none⟩ = some (.slice none 0 0) := (blk_cell BK236.out 6).trans rfl
                      have hfz55_0 := blk_frozen BK236.out 0
                      have hfz55_1 := blk_frozen BK236.out 1
                      have hfz55_2 := blk_frozen BK236.out 2
                      have hfz55_3 := blk_frozen BK236.out 3
                      have hfz55_4 := blk_frozen BK236.out 4
                      have hfz55_5 := blk_frozen BK236.out 5
                      have hfz55_6 := blk_frozen BK236.out 6
                      try go_wp2_with (first | ((with_reducible refine gate_callee (f := 18) rfl ?_); refine goesL_ (some 35) rfl rfl Try.func18 (by kernel_rfl) rfl #[.agg #[.int .i64 (rd l0 0), .int .i64 (rd l0 1), .int .i64 (rd l0 2), .int .i64 (rd l0 3), .int .i64 (rd l0 4), .int .i64 (rd l0 5), .slice Ao46 y233.length co46]] rfl (by (try simp only [List.map_toArray, List.map_cons, List.map_nil]); first | done | rfl | (simp only [List.length_drop, List.length_take]; rfl)) ?_; (with_reducible refine (estuaryref09_Good.calls (rd l0 0) (rd l0 1) (rd l0 2) (rd l0 3) (rd l0 4) (rd l0 5) _ _ y233 false _ ?side1 ?side2 A13.out).mono ?_); (case side1 => refine (Kd.R_reads' (e := 3) (base := w.heap.size) (ok := fun k_ => True) (n := y233.length) (c := co46) ?_).2.2; exact (by (with_reducible repeat (first | apply Kd.R_alloc | apply Kd.R_drewN | apply Kd.R_drew)); exact (Kd.R_mono (Kd.R_far (p := ⟨gb236, 6, none⟩) (Kd.R_far (p := ⟨gb236, 5, none⟩) (Kd.R_far (p := ⟨gb236, 4, none⟩) (Kd.R_far (p := ⟨gb236, 3, none⟩) (Kd.R_far (p := ⟨gb236, 2, none⟩) (Kd.R_far (p := ⟨gb236, 1, none⟩) (Kd.R_far (p := ⟨gb236, 0, none⟩) (Kd.R_types HO235.out BK236.out (by decide)) (fun _ hk => hk.2) (.int .i64 (rd l0 0))) (fun _ hk => hk.2) (.int .i64 (rd l0 1))) (fun _ hk => hk.2) (.int .i64 (rd l0 2))) (fun _ hk => hk.2) (.int .i64 (rd l0 3))) (fun _ hk => hk.2) (.int .i64 (rd l0 4))) (fun _ hk => hk.2) (.int .i64 (rd l0 5))) (fun _ hk => hk.2) (.slice Ao46 y233.length co46)) (fun _ h_ => h_.1)))); (case side2 => exact (Kd.R_reads' HO235.out).2.1); rintro e w56 ⟨rfl, hb⟩; refine ⟨_, rfl, ?_⟩; have n0_ := Aside0.mk (Kd.R_below (by (with_reducible repeat (first | apply Kd.R_alloc | apply Kd.R_drewN | apply Kd.R_drew)); exact (Kd.R_mono (Kd.R_far (p := ⟨gb236, 6, none⟩) (Kd.R_far (p := ⟨gb236, 5, none⟩) (Kd.R_far (p := ⟨gb236, 4, none⟩) (Kd.R_far (p := ⟨gb236, 3, none⟩) (Kd.R_far (p := ⟨gb236, 2, none⟩) (Kd.R_far (p := ⟨gb236, 1, none⟩) (Kd.R_far (p := ⟨gb236, 0, none⟩) (Kd.R_types HO235.out BK236.out (by decide)) (fun _ hk => hk.2) (.int .i64 (rd l0 0))) (fun _ hk => hk.2) (.int .i64 (rd l0 1))) (fun _ hk => hk.2) (.int .i64 (rd l0 2))) (fun _ hk => hk.2) (.int .i64 (rd l0 3))) (fun _ hk => hk.2) (.int .i64 (rd l0 4))) (fun _ hk => hk.2) (.int .i64 (rd l0 5))) (fun _ hk => hk.2) (.slice Ao46 y233.length co46)) (fun _ h_ => h_.1))) hb); have n1_ := Aside0.mk (blk_below (g := gb222) (o := .cells #[.int .i64 0, .int .i64 0, .int .i64 0, .int .i64 0, .int .i64 0, .int .i64 0, .slice none 0 0] 26 (0, 0)) (by (with_reducible repeat (first | refine blk_drewN ?_ _ | refine blk_drew ?_ | refine blk_alloc ?_ _)); refine blk_far ?_ NB222_236.out _; (with_reducible repeat (first | refine blk_drewN ?_ _ | refine blk_drew ?_ | refine blk_alloc ?_ _)); refine blk_far ?_ NB222_236.out _; (with_reducible repeat (first | refine blk_drewN ?_ _ | refine blk_drew ?_ | refine blk_alloc ?_ _)); refine blk_far ?_ NB222_236.out _; (with_reducible repeat (first | refine blk_drewN ?_ _ | refine blk_drew ?_ | refine blk_alloc ?_ _)); refine blk_far ?_ NB222_236.out _; (with_reducible repeat (first | refine blk_drewN ?_ _ | refine blk_drew ?_ | refine blk_alloc ?_ _)); refine blk_far ?_ NB222_236.out _; (with_reducible repeat (first | refine blk_drewN ?_ _ | refine blk_drew ?_ | refine blk_alloc ?_ _)); refine blk_far ?_ NB222_236.out _; (with_reducible repeat (first | refine blk_drewN ?_ _ | refine blk_drew ?_ | refine blk_alloc ?_ _)); refine blk_far ?_ NB222_236.out _; (with_reducible repeat (first | refine blk_drewN ?_ _ | refine blk_drew ?_ | refine blk_alloc ?_ _)); exact BK222.out) hb); have n2_ := Aside0.mk (blk_below (g := gb236) (o := .cells #[.int .i64 (rd l0 0), .int .i64 (rd l0 1), .int .i64 (rd l0 2), .int .i64 (rd l0 3), .int .i64 (rd l0 4), .int .i64 (rd l0 5), .slice Ao46 y233.length co46] 26 (0, 0)) (by (with_reducible repeat (first | refine blk_drewN ?_ _ | refine blk_drew ?_ | refine blk_alloc ?_ _)); refine blk_put (cs := #[.int .i64 (rd l0 0), .int .i64 (rd l0 1), .int .i64 (rd l0 2), .int .i64 (rd l0 3), .int .i64 (rd l0 4), .int .i64 (rd l0 5), .slice none 0 0]) ?_ 6 _ rfl; (with_reducible repeat (first | refine blk_drewN ?_ _ | refine blk_drew ?_ | refine blk_alloc ?_ _)); refine blk_put (cs := #[.int .i64 (rd l0 0), .int .i64 (rd l0 1), .int .i64 (rd l0 2), .int .i64 (rd l0 3), .int .i64 (rd l0 4), .int .i64 0, .slice none 0 0]) ?_ 5 _ rfl; (with_reducible repeat (first | refine blk_drewN ?_ _ | refine blk_drew ?_ | refine blk_alloc ?_ _)); refine blk_put (cs := #[.int .i64 (rd l0 0), .int .i64 (rd l0 1), .int .i64 (rd l0 2), .int .i64 (rd l0 3), .int .i64 0, .int .i64 0, .slice none 0 0]) ?_ 4 _ rfl; (with_reducible repeat (first | refine blk_drewN ?_ _ | refine blk_drew ?_ | refine blk_alloc ?_ _)); refine blk_put (cs := #[.int .i64 (rd l0 0), .int .i64 (rd l0 1), .int .i64 (rd l0 2), .int .i64 0, .int .i64 0, .int .i64 0, .slice none 0 0]) ?_ 3 _ rfl; (with_reducible repeat (first | refine blk_drewN ?_ _ | refine blk_drew ?_ | refine blk_alloc ?_ _)); refine blk_put (cs := #[.int .i64 (rd l0 0), .int .i64 (rd l0 1), .int .i64 0, .int .i64 0, .int .i64 0, .int .i64 0, .slice none 0 0]) ?_ 2 _ rfl; (with_reducible repeat (first | refine blk_drewN ?_ _ | refine blk_drew ?_ | refine blk_alloc ?_ _)); refine blk_put (cs := #[.int .i64 (rd l0 0), .int .i64 0, .int .i64 0, .int .i64 0, .int .i64 0, .int .i64 0, .slice none 0 0]) ?_ 1 _ rfl; (with_reducible repeat (first | refine blk_drewN ?_ _ | refine blk_drew ?_ | refine blk_alloc ?_ _)); refine blk_put (cs := #[.int .i64 0, .int .i64 0, .int .i64 0, .int .i64 0, .int .i64 0, .int .i64 0, .slice none 0 0]) ?_ 0 _ rfl; (with_reducible repeat (first | refine blk_drewN ?_ _ | refine blk_drew ?_ | refine blk_alloc ?_ _)); exact BK236.out) hb); have n3_ := Aside0.mk (below_step (by repeat (first | (with_reducible first | exact HB.out | apply below_alloc | apply pw_below_drewN | apply below_drew1 | refine below_set ?_ GE222.out | refine below_set ?_ GE236.out) | exact HB.out)) hb); clear HO235; clear BK222; clear BK236; clear HB; have HO235 := n0_; have BK222 := n1_; have BK236 := n2_; have HB := n3_; clear n0_ n1_ n2_ n3_; (try clear hb); (try clear hb2); (try clear hk); (try clear hi); have hcz57_0 : w56.cell? ⟨gb222, 0, none⟩ = some (.int .i64 0) := (blk_cell BK222.out 0).trans rfl; have hcz57_1 : w56.cell? ⟨gb222, 1, none⟩ = some (.int .i64 0) := (blk_cell BK222.out 1).trans rfl; have hcz57_2 : w56.cell? ⟨gb222, 2, none⟩ = some (.int .i64 0) := (blk_cell BK222.out 2).trans rfl; have hcz57_3 : w56.cell? ⟨gb222, 3, none⟩ = some (.int .i64 0) := (blk_cell BK222.out 3).trans rfl; have hcz57_4 : w56.cell? ⟨gb222, 4, none⟩ = some (.int .i64 0) := (blk_cell BK222.out 4).trans rfl; have hcz57_5 : w56.cell? ⟨gb222, 5, none⟩ = some (.int .i64 0) := (blk_cell BK222.out 5).trans rfl; have hcz57_6 : w56.cell? ⟨gb222, 6, none⟩ = some (.slice none 0 0) := (blk_cell BK222.out 6).trans rfl; have hfz57_0 := blk_frozen BK222.out 0; have hfz57_1 := blk_frozen BK222.out 1; have hfz57_2 := blk_frozen BK222.out 2; have hfz57_3 := blk_frozen BK222.out 3; have hfz57_4 := blk_frozen BK222.out 4; have hfz57_5 := blk_frozen BK222.out 5; have hfz57_6 := blk_frozen BK222.out 6))
                      refine bodyPost_ret (results_ct rfl _ _ gb222 26 #[.int .i64 0, .int .i64 0, .int .i64 0, .int .i64 0, .int .i64 0, .int .i64 0, .slice none 0 0] (0, 0) _ rfl (by (with_reducible repeat (first | refine blk_drewN ?_ _ | refine blk_drew ?_ | refine blk_alloc ?_ _)); refine blk_put (cs := #[.int .i64 0, .int .i64 0, .int .i64 0, .int .i64 0, .int .i64 0, .int .i64 0, .slice none 0 0]) ?_ 6 _ rfl; (with_reducible repeat (first | refine blk_drewN ?_ _ | refine blk_drew ?_ | refine blk_alloc ?_ _)); refine blk_put (cs := #[.int .i64 0, .int .i64 0, .int .i64 0, .int .i64 0, .int .i64 0, .int .i64 0, .slice none 0 0]) ?_ 5 _ rfl; (with_reducible repeat (first | refine blk_drewN ?_ _ | refine blk_drew ?_ | refine blk_alloc ?_ _)); refine blk_put (cs := #[.int .i64 0, .int .i64 0, .int .i64 0, .int .i64 0, .int .i64 0, .int .i64 0, .slice none 0 0]) ?_ 4 _ rfl; (with_reducible repeat (first | refine blk_drewN ?_ _ | refine blk_drew ?_ | refine blk_alloc ?_ _)); refine blk_put (cs := #[.int .i64 0, .int .i64 0, .int .i64 0, .int .i64 0, .int .i64 0, .int .i64 0, .slice none 0 0]) ?_ 3 _ rfl; (with_reducible repeat (first | refine blk_drewN ?_ _ | refine blk_drew ?_ | refine blk_alloc ?_ _)); refine blk_put (cs := #[.int .i64 0, .int .i64 0, .int .i64 0, .int .i64 0, .int .i64 0, .int .i64 0, .slice none 0 0]) ?_ 2 _ rfl; (with_reducible repeat (first | refine blk_drewN ?_ _ | refine blk_drew ?_ | refine blk_alloc ?_ _)); refine blk_put (cs := #[.int .i64 0, .int .i64 0, .int .i64 0, .int .i64 0, .int .i64 0, .int .i64 0, .slice none 0 0]) ?_ 1 _ rfl; (with_reducible repeat (first | refine blk_drewN ?_ _ | refine blk_drew ?_ | refine blk_alloc ?_ _)); refine blk_put (cs := #[.int .i64 0, .int .i64 0, .int .i64 0, .int .i64 0, .int .i64 0, .int .i64 0, .slice none 0 0]) ?_ 0 _ rfl; (with_reducible repeat (first | refine blk_drewN ?_ _ | refine blk_drew ?_ | refine blk_alloc ?_ _)); exact BK222.out) Try.underlying26 rfl (by kernel_rfl)) rfl ?_
                      exact ⟨_, by first | rfl | (simp [errW_none, errW_some] <;> rfl) | (simp [*, errW_none, errW_some] <;> rfl), by first | exact Kd.R_nil _ _ _ _ _ | exact Kd.N_nil _ _ _ _ _ | exact Kd.V_nil _ _ _ _ _ | exact Kd.Q_nil _ _ _ _ _ | exact Kd.S_nil _ _ _ _ _, by repeat (first | (with_reducible first | exact HB.out | apply below_alloc | apply pw_below_drewN | apply below_drew1 | refine below_set ?_ GE222.out | refine below_set ?_ GE236.out) | exact HB.out)⟩
                  · rw [if_neg c12] at H
                    exact absurd H (by simp)
                · rw [if_neg c11] at H
                  exact absurd H (by simp)
              · rw [if_neg c10] at H
                exact absurd H (by simp)
            · rw [if_neg c9] at H
              exact absurd H (by simp)
          · rw [if_neg c8] at H
            exact absurd H (by simp)
        · rw [if_neg c7] at H
          exact absurd H (by simp)
      · rw [if_neg c6] at H
        exact absurd H (by simp)
    · rw [if_neg c5] at H
      exact absurd H (by simp)

end Go.Proofs.Ytckbidmemdkdpaa.MAll

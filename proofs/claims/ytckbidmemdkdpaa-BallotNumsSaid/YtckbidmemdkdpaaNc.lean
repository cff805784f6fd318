/- BallotNums: a register's numbers; the walk. -/
import Derived.Test.YtckbidmemdkdpaaNa
import Derived.Test.YtckbidmemdkdpaaKinds
import Derived.Test.YtckbidmemdkdpaaBt
import Derived.Test.YtckbidmemdkdpaaMAllx10
import Derived.Lib.AppendZerosOnto
set_option linter.unusedVariables false
set_option linter.unusedSimpArgs false
namespace Go.Proofs.Ytckbidmemdkdpaa.MAll
open Go.RowKit Go.Lib Go.Proofs.YtckbidmemdkdpaaW.PrintWords Go.Proofs.YtckbidmemdkdpaaW.PrintLast Go.Proofs.YtckbidmemdkdpaaW.PrintMore
attribute [local go_sem ↓] Go.wp_at_zero Go.wp_at_succ
/-- 'append(s, make(..)...)' by an equation of its run. -/
theorem wpList_zeros {P : Program} {w w1 : World} {ops : Array Oper} {rest : List Oper} {o : Oper} {a : Act} {Q : Exit → Act → World → Prop} {v1 sv xv : Value} (hg : o.guard = none) (s x : Operand) (t tn : TypeId) (hop : o.op = Op.call { callee := Callee.builtin Builtin.append, args := #[s, x], argTypes := #[t, tn] })
    (hs : a.eval s = sv) (hx : a.eval x = xv) (hrz : ∀ ty, (Builtin.append_ #[t, tn] ty #[sv, xv]).run P w = .ok v1 w1) (hK : wpList P ops Q rest (a.put o.dst v1) w1) : wpList P ops Q (o :: rest) a w := by
  refine wpList_plain hg fun K' hK' => ?_
  unfold Oper.wp
  simp [execOp, hop, resolve, invoke, builtin, hs, hx, hrz, Result.andThen]
  exact hK' _ _ hK
set_option maxHeartbeats 4000000 in
set_option maxRecDepth 100000 in
theorem grow_c (n : Nat) (w : World) (h0 : 0 < n) (h1 : n < 1000000) :
    Calls Try.prog 38 #[.slice none 0 0, .int .i64 n] w fun e w' => ∃ B d, e = .returned (.slice B 0 d) ∧ (Kd.int .i64).R 3 w' w.heap.size (fun _ => True) (.slice B 0 d) [] ∧ Below w.heap.size w w' := by
  have hu24 := Try.underlying24
  have hu3 := Try.underlying3
  obtain ⟨i0, hi, hz0, hz1, hz2⟩ := info_parts info3'
  have hz1' : i0.size = 1 := hz1
  have hold : (Builtin.firstCells i0.size 0 (.slice none 0 0)).run Try.prog w.drew = .ok ([] : List Value).toArray w.drew := run_firstCells_none w.drew i0.size 0 0 0
  obtain ⟨G, hG⟩ : ∃ G, G = grownCap w n 0 3 := ⟨_, rfl⟩
  obtain ⟨X, hX⟩ : ∃ X, X = ([] : List Value).toArray ++ Builtin.zeroCells (Value.int .i64 0).cells n ++ Builtin.zeroCells (Value.int .i64 0).cells (G - n) := ⟨_, rfl⟩
  have hrz : ∀ ty, (Builtin.append_ #[24, 3] ty #[.slice none 0 0, .int .i64 (n : Int)]).run Try.prog w = .ok (.slice (some ⟨w.heap.size, 0, none⟩) n G) (w.drew.alloc (.cells X 3)) := fun ty => by
    have h := run_append_grow_zeros w 24 3 ty 3 i0 (.int .i64 0) .i64 .i64 hu24 hu3 hi hz0 none 0 0 [] hold n h0 (by omega) (by omega) (by omega) (by rw [hz2]; omega) (growslice_fits (by omega) (by rw [hz2]; omega))
    rw [Nat.zero_add] at h
    rw [hX, hG]
    exact h
  have hGn : n ≤ G := by rw [hG]; exact grownCap_ge w _ _ _
  have hGm : G ≤ 9223372036854775807 := by have := grownCap_le_maxLen w n 0 3 (by unfold maxLen; omega); rw [← hG] at this; unfold maxLen at this; omega
  have HX : Aside0 (X.size = G) := ⟨by rw [hX]; simp [size_zeroCells, Value.cells]; omega⟩
  have hw : wrap64 (n : Int) = (n : Int) := by unfold wrap64; omega
  have hn0 : decide ((n : Int) < 0) = false := decide_eq_false (by omega)
  have hn1 : decide (0 < (n : Int)) = true := decide_eq_true (by omega)
  have hn2 : decide (0 < n) = true := decide_eq_true h0
  have HRZ := Aside0.mk hrz
  clear hold hG hX hi hz0 hz1 hz2 hz1' hrz
  go_enter Try.func38, Try.ntmps38
  go_wp2_with (at_builtin; refine wpList_zeros rfl (.tmp 20) (.tmp 21) 24 3 rfl rfl rfl HRZ.out ?_)
  go_ret
  refine ⟨some ⟨w.heap.size, 0, none⟩, G, rfl, Kd.R_of_own ⟨rfl, .inr ⟨w.heap.size, G, X, rfl, Nat.le_refl _, blk_new w.drew _, Nat.zero_le _, by unfold maxLen; omega, by rw [Nat.mul_one]; exact HX.out, rfl⟩⟩ (fun _ _ => trivial), below_alloc (below_drew (Below.refl _ _)) _⟩
def sumL (l1 l2 : List Int) (i : Nat) : Int := if i = 0 then 0 else if i = 1 then (l1.length : Int) else (l1.length : Int) + l2.length
def accL (l1 l2 : List Int) (i : Nat) : List Int := if i = 0 then [] else if i = 1 then l1 else l1 ++ l2
set_option maxHeartbeats 8000000 in
set_option maxRecDepth 100000 in
theorem concat_c (g : Nat) (A1 A2 : Option Addr) (c1 c2 : Nat) (l1 l2 : List Int) (w : World) (hg : w.heap[g]? = some (.cells #[.slice A1 l1.length c1, .slice A2 l2.length c2] 24 (0, 0))) (hC1 : (Kd.int .i64).C w A1 l1.length l1) (hC2 : (Kd.int .i64).C w A2 l2.length l2) (hn : 0 < l1.length) (h1 : l1.length < 100000) (h2 : l2.length < 100000) :
    Calls Try.prog 36 #[.slice (some ⟨g, 0, none⟩) 2 2] w fun e w' => ∃ B d, e = .returned (.slice B (l1 ++ l2).length d) ∧ (Kd.int .i64).R 3 w' w.heap.size (fun _ => True) (.slice B (l1 ++ l2).length d) (l1 ++ l2) ∧ Below w.heap.size w w' := by
  have hu24 := Try.underlying24
  have hu73 := Try.underlying73
  have BG := Aside0.mk hg
  have HC1 := Aside0.mk hC1
  have HC2 := Aside0.mk hC2
  clear hg hC1 hC2
  go_enter Try.func36, Try.ntmps36
  go_wp2_with fail
  go_loopw [11, 3] (fun v11 v3 w' => ∃ i : Nat, i ≤ 2 ∧ v11 = .int .i64 i ∧ v3 = .int .i64 (sumL l1 l2 i) ∧ Aside0 (Below w.heap.size w w')) (fun v _ _ => 2 - (intOf v).toNat)
  case atStart => exact ⟨0, by omega, rfl, rfl, ⟨Below.refl _ _⟩⟩
  case round =>
    obtain ⟨i, hi, rfl, rfl, HW⟩ := hrel
    have z0 := pw_cell_below HW.out (show w.cell? ⟨g, 0, none⟩ = some (.slice A1 l1.length c1) from (blk_cell BG.out 0).trans rfl)
    have z1 := pw_cell_below HW.out (show w.cell? ⟨g, 1, none⟩ = some (.slice A2 l2.length c2) from (blk_cell BG.out 1).trans rfl)
    rcases (by omega : i = 0 ∨ i = 1 ∨ i = 2) with rfl | rfl | rfl
    · have e0 : sumL l1 l2 0 = 0 := rfl
      have hw0 : wrap64 (0 + (l1.length : Int)) = (l1.length : Int) := by unfold wrap64; omega
      have hw1 : wrap64 (l1.length : Int) = (l1.length : Int) := by unfold wrap64; omega
      have hd : decide ((l1.length : Int) < 0) = false := decide_eq_false (by omega)
      go_wp2_with fail
      go_roundw
      case rel => exact ⟨1, by omega, by go_num, rfl, HW⟩
      case measure => simp [intOf]
    · have e0 : sumL l1 l2 1 = (l1.length : Int) := rfl
      have hw0 : wrap64 ((l1.length : Int) + (l2.length : Int)) = (l1.length : Int) + (l2.length : Int) := by unfold wrap64; omega
      have hd : decide ((l1.length : Int) + (l2.length : Int) < 0) = false := decide_eq_false (by omega)
      go_wp2_with fail
      go_roundw
      case rel => exact ⟨2, by omega, by go_num, rfl, HW⟩
      case measure => simp [intOf]
    have e0 : sumL l1 l2 2 = ((l1.length + l2.length : Nat) : Int) := by show (l1.length : Int) + l2.length = _; omega
    obtain ⟨n, hnn⟩ : ∃ n, n = l1.length + l2.length := ⟨_, rfl⟩
    rw [← hnn] at e0
    rw [e0]
    have HNN := Aside0.mk hnn
    clear z0 z1 e0 hnn
    go_wp2_with fail
    refine (grow_c n _ (by have := HNN.out; omega) (by have := HNN.out; omega)).mono ?_
    rintro e w3 ⟨B, d, rfl, hR, hb⟩
    have HR3 := Aside0.mk (Kd.R_lower hR HW.out.size)
    have HB3 := Aside0.mk (below_step HW.out hb)
    clear hR hb
    go_wp2_with fail
    go_loopw [27, 6] (fun v27 v6 w' => ∃ (i : Nat) (B : Option Addr) (d : Nat), i ≤ 2 ∧ v27 = .int .i64 i ∧ v6 = .slice B (accL l1 l2 i).length d ∧ Aside0 ((Kd.int .i64).R 3 w' w.heap.size (fun _ => True) (.slice B (accL l1 l2 i).length d) (accL l1 l2 i)) ∧ Aside0 (Below w.heap.size w w')) (fun v _ _ => 2 - (intOf v).toNat)
    case atStart => exact ⟨0, B, d, by omega, rfl, rfl, HR3, HB3⟩
    case round =>
      clear HR3 HB3 HW
      obtain ⟨i, B, d, hi, rfl, rfl, HR, HB⟩ := hrel
      have z0 := pw_cell_below HB.out (show w.cell? ⟨g, 0, none⟩ = some (.slice A1 l1.length c1) from (blk_cell BG.out 0).trans rfl)
      have z1 := pw_cell_below HB.out (show w.cell? ⟨g, 1, none⟩ = some (.slice A2 l2.length c2) from (blk_cell BG.out 1).trans rfl)
      rcases (by omega : i = 0 ∨ i = 1 ∨ i = 2) with rfl | rfl | rfl
      · have HR0 : Aside0 ((Kd.int .i64).R 3 wr w.heap.size (fun _ => True) (.slice B (accL l1 l2 0).length d) (([] : List Int))) := HR
        go_wp2_with (at_builtin; refine Kd.R_append_row (Value.int .i64) 0 (h1 := fun _ => rfl) (w0 := w) w.heap.size rfl (.tmp 31) (.tmp 32) 24 3 (.int .i64 0) 8 rfl Try.underlying24 info3' rfl (by decide) _ (([] : List Int)) (l1) (A1) (l1).length c1 (fun _ => True) rfl rfl (fun _ _ => trivial) HR0.out (Kd.C_below HC1.out HB.out) HB.out HB.out.size (by first | (simp; omega) | omega) ?_; intro v1 w1 ho hb hg hat; obtain ⟨B1, d1, hv1⟩ := Kd.R_slice ho; subst hv1; have HR1 := Aside0.mk ho; have HB1 := Aside0.mk hb; clear ho hb hg hat)
        go_roundw
        case rel => exact ⟨1, B1, d1, by omega, by go_num, by first | rfl | (simp [accL]; done), ⟨HR1.out⟩, HB1⟩
        case measure => simp [intOf]
      · have HR0 : Aside0 ((Kd.int .i64).R 3 wr w.heap.size (fun _ => True) (.slice B (accL l1 l2 1).length d) (l1)) := HR
        go_wp2_with (at_builtin; refine Kd.R_append_row (Value.int .i64) 0 (h1 := fun _ => rfl) (w0 := w) w.heap.size rfl (.tmp 31) (.tmp 32) 24 3 (.int .i64 0) 8 rfl Try.underlying24 info3' rfl (by decide) _ (l1) (l2) (A2) (l2).length c2 (fun _ => True) rfl rfl (fun _ _ => trivial) HR0.out (Kd.C_below HC2.out HB.out) HB.out HB.out.size (by first | (simp; omega) | omega) ?_; intro v1 w1 ho hb hg hat; obtain ⟨B1, d1, hv1⟩ := Kd.R_slice ho; subst hv1; have HR1 := Aside0.mk ho; have HB1 := Aside0.mk hb; clear ho hb hg hat)
        go_roundw
        case rel => exact ⟨2, B1, d1, by omega, by go_num, by first | rfl | (simp [accL]; done), ⟨HR1.out⟩, HB1⟩
        case measure => simp [intOf]
      go_wp2_with fail
      go_ret
      exact ⟨B, d, rfl, HR.out, HB.out⟩
def numsL (r : Reg) : List Int := [r.1.1, r.1.2.1, r.1.2.2, r.2.1.1, r.2.1.2.1, r.2.1.2.2] ++ r.2.2
theorem numsL_take (r : Reg) : takeR (numsL r) = r := rfl
theorem numsL_is (r : Reg) : takesB (numsL r) = goodR r := by
  unfold takesB
  rw [numsL_take]
  have : decide (6 ≤ (numsL r).length) = true := decide_eq_true (by unfold numsL; simp)
  rw [this, Bool.true_and]
theorem refnums_c (r : Reg) (A : Option Addr) (c : Nat) (w : World) (hr : (Kd.int .i64).C w A r.2.2.length r.2.2) (hc : r.2.2.length ≤ c) (hl : r.2.2.length < 100000) :
    Calls Try.prog 29 #[.agg (regA r A c)] w fun e w' => ∃ B d, e = .returned (.slice B (numsL r).length d) ∧ (Kd.int .i64).R 3 w' w.heap.size (fun _ => True) (.slice B (numsL r).length d) (numsL r) ∧ Below w.heap.size w w' := by
  refine (estuaryref09_Nums.calls _ _ _ _ _ _ A c r.2.2 (numsL r) w hr hc ?_).mono ?_
  · unfold estuaryref09_Nums.f
    simp only [Option.bind_some]
    rw [if_pos (by simp; omega)]
    rfl
  · rintro e w' ⟨u, rfl, hR, hb⟩
    obtain ⟨B, d, rfl⟩ := Kd.R_slice hR
    exact ⟨B, d, rfl, hR, hb⟩
set_option maxHeartbeats 4000000 in
set_option maxRecDepth 100000 in
theorem nums_c (r : Reg) (A : Option Addr) (c : Nat) (w : World) (hr : (Kd.int .i64).C w A r.2.2.length r.2.2) (hc : r.2.2.length ≤ c) (hl : r.2.2.length < 90000) :
    Calls Try.prog 26 #[.agg (regA r A c)] w fun e w' => ∃ B d, e = .returned (.slice B (numsL r).length d) ∧ (Kd.int .i64).R 3 w' w.heap.size (fun _ => True) (.slice B (numsL r).length d) (numsL r) ∧ Below w.heap.size w w' := by
  have hu26 := Try.underlying26
  have hu23 := Try.underlying23
  have hu24 := Try.underlying24
  have hu73 := Try.underlying73
  have HR := Aside0.mk hr
  clear hr
  go_enter Try.func26, Try.ntmps26
  go_upto_region 1 with fail
  obtain ⟨W1, hw1⟩ : ∃ x : World, x = w.alloc (.cells #[.int .i64 r.1.1, .int .i64 r.1.2.1, .int .i64 r.1.2.2, .int .i64 r.2.1.1, .int .i64 r.2.1.2.1, .int .i64 r.2.1.2.2, .slice A r.2.2.length c] 26) := ⟨_, rfl⟩
  have hbs1 : Below w.heap.size w W1 := by rw [hw1]; repeat (first | exact Below.refl _ _ | refine below_alloc ?_ _ | refine below_drew ?_)
  obtain ⟨gx1, hgx1⟩ : ∃ x, x = w.heap.size := ⟨_, rfl⟩
  have GSx1 : Aside0 (w.heap.size ≤ gx1) := ⟨by rw [hgx1]; omega⟩
  have Bx1 : Aside0 (W1.heap[gx1]? = some (.cells #[.int .i64 r.1.1, .int .i64 r.1.2.1, .int .i64 r.1.2.2, .int .i64 r.2.1.1, .int .i64 r.2.1.2.1, .int .i64 r.2.1.2.2, .slice A r.2.2.length c] 26 (0, 0))) := ⟨by rw [hw1, hgx1]; exact blk_new _ _⟩
  rw [← hw1]
  rw [← hgx1]
  clear hw1 hgx1
  have HB2 := Aside0.mk hbs1
  have Cv2 := Aside0.mk (Kd.C_below HR.out hbs1)
  clear hbs1
  have zx3_0 : W1.cell? ⟨gx1, 0, none⟩ = some (.int .i64 r.1.1) := (blk_cell Bx1.out 0).trans rfl
  have zx3_1 : W1.cell? ⟨gx1, 1, none⟩ = some (.int .i64 r.1.2.1) := (blk_cell Bx1.out 1).trans rfl
  have zx3_2 : W1.cell? ⟨gx1, 2, none⟩ = some (.int .i64 r.1.2.2) := (blk_cell Bx1.out 2).trans rfl
  have zx3_3 : W1.cell? ⟨gx1, 3, none⟩ = some (.int .i64 r.2.1.1) := (blk_cell Bx1.out 3).trans rfl
  have zx3_4 : W1.cell? ⟨gx1, 4, none⟩ = some (.int .i64 r.2.1.2.1) := (blk_cell Bx1.out 4).trans rfl
  have zx3_5 : W1.cell? ⟨gx1, 5, none⟩ = some (.int .i64 r.2.1.2.2) := (blk_cell Bx1.out 5).trans rfl
  have zx3_6 : W1.cell? ⟨gx1, 6, none⟩ = some (.slice A r.2.2.length c) := (blk_cell Bx1.out 6).trans rfl
  have zax4_0 : ∀ o, (W1.alloc o).cell? ⟨gx1, 0, none⟩ = some (.int .i64 r.1.1) := fun o => (blk_cell (blk_alloc Bx1.out o) 0).trans rfl
  have zax4_1 : ∀ o, (W1.alloc o).cell? ⟨gx1, 1, none⟩ = some (.int .i64 r.1.2.1) := fun o => (blk_cell (blk_alloc Bx1.out o) 1).trans rfl
  have zax4_2 : ∀ o, (W1.alloc o).cell? ⟨gx1, 2, none⟩ = some (.int .i64 r.1.2.2) := fun o => (blk_cell (blk_alloc Bx1.out o) 2).trans rfl
  have zax4_3 : ∀ o, (W1.alloc o).cell? ⟨gx1, 3, none⟩ = some (.int .i64 r.2.1.1) := fun o => (blk_cell (blk_alloc Bx1.out o) 3).trans rfl
  have zax4_4 : ∀ o, (W1.alloc o).cell? ⟨gx1, 4, none⟩ = some (.int .i64 r.2.1.2.1) := fun o => (blk_cell (blk_alloc Bx1.out o) 4).trans rfl
  have zax4_5 : ∀ o, (W1.alloc o).cell? ⟨gx1, 5, none⟩ = some (.int .i64 r.2.1.2.2) := fun o => (blk_cell (blk_alloc Bx1.out o) 5).trans rfl
  have zax4_6 : ∀ o, (W1.alloc o).cell? ⟨gx1, 6, none⟩ = some (.slice A r.2.2.length c) := fun o => (blk_cell (blk_alloc Bx1.out o) 6).trans rfl
  go_wp2_with fail
  clear zx3_0 zx3_1 zx3_2 zx3_3 zx3_4 zx3_5 zx3_6 zax4_0 zax4_1 zax4_2 zax4_3 zax4_4 zax4_5 zax4_6
  obtain ⟨gn, hgn⟩ : ∃ x, x = W1.heap.size := ⟨_, rfl⟩
  obtain ⟨wz, hwz⟩ : ∃ x : World, x = (W1.alloc (.cells #[.int .i64 r.1.1, .int .i64 r.1.2.1, .int .i64 r.1.2.2, .int .i64 r.2.1.1, .int .i64 r.2.1.2.1, .int .i64 r.2.1.2.2] 3)).alloc (.cells #[.slice (some ⟨W1.heap.size, 0, none⟩) 6 6, .slice A r.2.2.length c] 24) := ⟨_, rfl⟩
  have BN : Aside0 (wz.heap[gn]? = some (.cells #[.int .i64 r.1.1, .int .i64 r.1.2.1, .int .i64 r.1.2.2, .int .i64 r.2.1.1, .int .i64 r.2.1.2.1, .int .i64 r.2.1.2.2] 3 (0, 0))) := ⟨by rw [hwz, hgn]; exact blk_alloc (blk_new _ _) _⟩
  have BH : Aside0 (wz.heap[gn + 1]? = some (.cells #[.slice (some ⟨gn, 0, none⟩) 6 6, .slice A r.2.2.length c] 24 (0, 0))) := ⟨by rw [hwz, hgn]; have h := blk_new (W1.alloc (.cells #[.int .i64 r.1.1, .int .i64 r.1.2.1, .int .i64 r.1.2.2, .int .i64 r.2.1.1, .int .i64 r.2.1.2.1, .int .i64 r.2.1.2.2] 3)) (.cells #[.slice (some ⟨W1.heap.size, 0, none⟩) 6 6, .slice A r.2.2.length c] 24); rwa [World.size_alloc] at h⟩
  have hbz : Below W1.heap.size W1 wz := by rw [hwz]; exact below_alloc (below_alloc (Below.refl _ _) _) _
  rw [← hgn] at hwz
  rw [← hgn]
  rw [← hwz]
  clear hwz hgn
  have HB5 := Aside0.mk (below_step HB2.out hbz)
  have Bx5 : Aside0 (wz.heap[gx1]? = some (.cells #[.int .i64 r.1.1, .int .i64 r.1.2.1, .int .i64 r.1.2.2, .int .i64 r.2.1.1, .int .i64 r.2.1.2.1, .int .i64 r.2.1.2.2, .slice A r.2.2.length c] 26 (0, 0))) := ⟨(hbz.block _ (blk_lt Bx1.out)).trans Bx1.out⟩
  have Cv5 := Aside0.mk (Kd.C_below Cv2.out hbz)
  clear hbz
  refine (concat_c (gn + 1) (some ⟨gn, 0, none⟩) A 6 c [r.1.1, r.1.2.1, r.1.2.2, r.2.1.1, r.2.1.2.1, r.2.1.2.2] r.2.2 wz BH.out (C_blk _ BN.out rfl (by simp)) Cv5.out (by simp) (by simp) (by omega)).mono ?_
  rintro e w9 ⟨B, d, rfl, hR, hb⟩
  have HR9 := Aside0.mk (Kd.R_lower hR HB5.out.size)
  clear hR
  have HB6 := Aside0.mk (below_step HB5.out hb)
  have Bx6 : Aside0 (w9.heap[gx1]? = some (.cells #[.int .i64 r.1.1, .int .i64 r.1.2.1, .int .i64 r.1.2.2, .int .i64 r.2.1.1, .int .i64 r.2.1.2.1, .int .i64 r.2.1.2.2, .slice A r.2.2.length c] 26 (0, 0))) := ⟨(hb.block _ (blk_lt Bx5.out)).trans Bx5.out⟩
  have Cv6 := Aside0.mk (Kd.C_below Cv5.out hb)
  clear hb
  go_wp2_with fail
  go_ret
  exact ⟨B, d, rfl, HR9.out, HB6.out⟩
set_option maxHeartbeats 16000000 in
set_option maxRecDepth 100000 in
theorem nums_any (r : Reg) (A : Option Addr) (c : Nat) (V : Option Addr) (cv : Nat) (v : List Int) (W : World) (hr : (Kd.int .i64).C W A r.2.2.length r.2.2) (hc : r.2.2.length ≤ c) (hv : (Kd.int .i64).C W V v.length v) (hcv : v.length ≤ cv) (hok : regOk r) (hro : ∀ x ∈ r.2.2, i64ok x) (hvo : ∀ x ∈ v, i64ok x) :
    Calls Try.prog 8 #[.agg (regA r A c), .slice V v.length cv] W fun e w' => e = .returned (.bool true) ∧ Below W.heap.size W w' := by
  have HR := Aside0.mk hr
  have HC := Aside0.mk hc
  have HV := Aside0.mk hv
  have HCV := Aside0.mk hcv
  have HVO := Aside0.mk hvo
  have HNO : Aside0 (∀ x ∈ numsL r, i64ok x) := ⟨fun x hx => by
    unfold numsL at hx
    rcases List.mem_append.1 hx with hx | hx
    · simp only [List.mem_cons, List.not_mem_nil, or_false] at hx
      obtain ⟨⟨a1, a2, a3⟩, b1, b2, b3⟩ := hok
      rcases hx with rfl | rfl | rfl | rfl | rfl | rfl <;> assumption
    · exact hro x hx⟩
  have HOKR := Aside0.mk hok
  clear hr hc hv hcv hok hro hvo
  have hu26 := Try.underlying26
  have hu23 := Try.underlying23
  have hu24 := Try.underlying24
  have h3 : ¬ r.2.2.length ≤ 500 ∨ (r.2.2.length ≤ 500 ∧ ¬ v.length ≤ 500) ∨ (r.2.2.length ≤ 500 ∧ v.length ≤ 500) := by omega
  rcases h3 with h1 | ⟨h1, h2⟩ | ⟨h1, h2⟩
  · skip
    have d1 : decide (500 < (r.2.2.length : Int)) = true := decide_eq_true (by omega)
    have d1' : decide (500 < r.2.2.length) = true := decide_eq_true (by omega)
    go_enter Try.func8, Try.ntmps8
    go_upto_region 1 with fail
    obtain ⟨W1, hw1⟩ : ∃ x : World, x = W.alloc (.cells #[.int .i64 r.1.1, .int .i64 r.1.2.1, .int .i64 r.1.2.2, .int .i64 r.2.1.1, .int .i64 r.2.1.2.1, .int .i64 r.2.1.2.2, .slice A r.2.2.length c] 26) := ⟨_, rfl⟩
    have hbs1 : Below W.heap.size W W1 := by rw [hw1]; repeat (first | exact Below.refl _ _ | refine below_alloc ?_ _ | refine below_drew ?_)
    obtain ⟨gx1, hgx1⟩ : ∃ x, x = W.heap.size := ⟨_, rfl⟩
    have GSx1 : Aside0 (W.heap.size ≤ gx1) := ⟨by rw [hgx1]; omega⟩
    have Bx1 : Aside0 (W1.heap[gx1]? = some (.cells #[.int .i64 r.1.1, .int .i64 r.1.2.1, .int .i64 r.1.2.2, .int .i64 r.2.1.1, .int .i64 r.2.1.2.1, .int .i64 r.2.1.2.2, .slice A r.2.2.length c] 26 (0, 0))) := ⟨by rw [hw1, hgx1]; exact blk_new _ _⟩
    rw [← hw1]
    rw [← hgx1]
    clear hw1 hgx1
    have HB2 := Aside0.mk hbs1
    have Cv2 := Aside0.mk (Kd.C_below HR.out hbs1)
    have CV2 := Aside0.mk (Kd.C_below HV.out hbs1)
    clear hbs1
    go_wp2_with fail
    refine (alive_any _).mono ?_
    rintro e w3 ⟨rfl, hb3⟩
    have HB4 := Aside0.mk (below_step HB2.out hb3)
    have Bx4 : Aside0 (w3.heap[gx1]? = some (.cells #[.int .i64 r.1.1, .int .i64 r.1.2.1, .int .i64 r.1.2.2, .int .i64 r.2.1.1, .int .i64 r.2.1.2.1, .int .i64 r.2.1.2.2, .slice A r.2.2.length c] 26 (0, 0))) := ⟨(hb3.block _ (blk_lt Bx1.out)).trans Bx1.out⟩
    have Cv4 := Aside0.mk (Kd.C_below Cv2.out hb3)
    have CV4 := Aside0.mk (Kd.C_below CV2.out hb3)
    clear hb3
    have zx5_0 : w3.cell? ⟨gx1, 0, none⟩ = some (.int .i64 r.1.1) := (blk_cell Bx4.out 0).trans rfl
    have zx5_1 : w3.cell? ⟨gx1, 1, none⟩ = some (.int .i64 r.1.2.1) := (blk_cell Bx4.out 1).trans rfl
    have zx5_2 : w3.cell? ⟨gx1, 2, none⟩ = some (.int .i64 r.1.2.2) := (blk_cell Bx4.out 2).trans rfl
    have zx5_3 : w3.cell? ⟨gx1, 3, none⟩ = some (.int .i64 r.2.1.1) := (blk_cell Bx4.out 3).trans rfl
    have zx5_4 : w3.cell? ⟨gx1, 4, none⟩ = some (.int .i64 r.2.1.2.1) := (blk_cell Bx4.out 4).trans rfl
    have zx5_5 : w3.cell? ⟨gx1, 5, none⟩ = some (.int .i64 r.2.1.2.2) := (blk_cell Bx4.out 5).trans rfl
    have zx5_6 : w3.cell? ⟨gx1, 6, none⟩ = some (.slice A r.2.2.length c) := (blk_cell Bx4.out 6).trans rfl
    go_wp2_with fail
    go_ret
    exact ⟨rfl, HB4.out⟩
  · skip
    have d1 : decide (500 < (r.2.2.length : Int)) = false := decide_eq_false (by omega)
    have d1' : decide (500 < r.2.2.length) = false := decide_eq_false (by omega)
    have d2 : decide (500 < (v.length : Int)) = true := decide_eq_true (by omega)
    have d2' : decide (500 < v.length) = true := decide_eq_true (by omega)
    go_enter Try.func8, Try.ntmps8
    go_upto_region 1 with fail
    obtain ⟨W1, hw1⟩ : ∃ x : World, x = W.alloc (.cells #[.int .i64 r.1.1, .int .i64 r.1.2.1, .int .i64 r.1.2.2, .int .i64 r.2.1.1, .int .i64 r.2.1.2.1, .int .i64 r.2.1.2.2, .slice A r.2.2.length c] 26) := ⟨_, rfl⟩
    have hbs1 : Below W.heap.size W W1 := by rw [hw1]; repeat (first | exact Below.refl _ _ | refine below_alloc ?_ _ | refine below_drew ?_)
    obtain ⟨gx1, hgx1⟩ : ∃ x, x = W.heap.size := ⟨_, rfl⟩
    have GSx1 : Aside0 (W.heap.size ≤ gx1) := ⟨by rw [hgx1]; omega⟩
    have Bx1 : Aside0 (W1.heap[gx1]? = some (.cells #[.int .i64 r.1.1, .int .i64 r.1.2.1, .int .i64 r.1.2.2, .int .i64 r.2.1.1, .int .i64 r.2.1.2.1, .int .i64 r.2.1.2.2, .slice A r.2.2.length c] 26 (0, 0))) := ⟨by rw [hw1, hgx1]; exact blk_new _ _⟩
    rw [← hw1]
    rw [← hgx1]
    clear hw1 hgx1
    have HB2 := Aside0.mk hbs1
    have Cv2 := Aside0.mk (Kd.C_below HR.out hbs1)
    have CV2 := Aside0.mk (Kd.C_below HV.out hbs1)
    clear hbs1
    go_wp2_with fail
    refine (alive_any _).mono ?_
    rintro e w3 ⟨rfl, hb3⟩
    have HB4 := Aside0.mk (below_step HB2.out hb3)
    have Bx4 : Aside0 (w3.heap[gx1]? = some (.cells #[.int .i64 r.1.1, .int .i64 r.1.2.1, .int .i64 r.1.2.2, .int .i64 r.2.1.1, .int .i64 r.2.1.2.1, .int .i64 r.2.1.2.2, .slice A r.2.2.length c] 26 (0, 0))) := ⟨(hb3.block _ (blk_lt Bx1.out)).trans Bx1.out⟩
    have Cv4 := Aside0.mk (Kd.C_below Cv2.out hb3)
    have CV4 := Aside0.mk (Kd.C_below CV2.out hb3)
    clear hb3
    have zx5_0 : w3.cell? ⟨gx1, 0, none⟩ = some (.int .i64 r.1.1) := (blk_cell Bx4.out 0).trans rfl
    have zx5_1 : w3.cell? ⟨gx1, 1, none⟩ = some (.int .i64 r.1.2.1) := (blk_cell Bx4.out 1).trans rfl
    have zx5_2 : w3.cell? ⟨gx1, 2, none⟩ = some (.int .i64 r.1.2.2) := (blk_cell Bx4.out 2).trans rfl
    have zx5_3 : w3.cell? ⟨gx1, 3, none⟩ = some (.int .i64 r.2.1.1) := (blk_cell Bx4.out 3).trans rfl
    have zx5_4 : w3.cell? ⟨gx1, 4, none⟩ = some (.int .i64 r.2.1.2.1) := (blk_cell Bx4.out 4).trans rfl
    have zx5_5 : w3.cell? ⟨gx1, 5, none⟩ = some (.int .i64 r.2.1.2.2) := (blk_cell Bx4.out 5).trans rfl
    have zx5_6 : w3.cell? ⟨gx1, 6, none⟩ = some (.slice A r.2.2.length c) := (blk_cell Bx4.out 6).trans rfl
    go_wp2_with fail
    go_ret
    exact ⟨rfl, HB4.out⟩
  · skip
    have d1 : decide (500 < (r.2.2.length : Int)) = false := decide_eq_false (by omega)
    have d1' : decide (500 < r.2.2.length) = false := decide_eq_false (by omega)
    have d2 : decide (500 < (v.length : Int)) = false := decide_eq_false (by omega)
    have d2' : decide (500 < v.length) = false := decide_eq_false (by omega)
    go_enter Try.func8, Try.ntmps8
    go_upto_region 1 with fail
    obtain ⟨W1, hw1⟩ : ∃ x : World, x = W.alloc (.cells #[.int .i64 r.1.1, .int .i64 r.1.2.1, .int .i64 r.1.2.2, .int .i64 r.2.1.1, .int .i64 r.2.1.2.1, .int .i64 r.2.1.2.2, .slice A r.2.2.length c] 26) := ⟨_, rfl⟩
    have hbs1 : Below W.heap.size W W1 := by rw [hw1]; repeat (first | exact Below.refl _ _ | refine below_alloc ?_ _ | refine below_drew ?_)
    obtain ⟨gx1, hgx1⟩ : ∃ x, x = W.heap.size := ⟨_, rfl⟩
    have GSx1 : Aside0 (W.heap.size ≤ gx1) := ⟨by rw [hgx1]; omega⟩
    have Bx1 : Aside0 (W1.heap[gx1]? = some (.cells #[.int .i64 r.1.1, .int .i64 r.1.2.1, .int .i64 r.1.2.2, .int .i64 r.2.1.1, .int .i64 r.2.1.2.1, .int .i64 r.2.1.2.2, .slice A r.2.2.length c] 26 (0, 0))) := ⟨by rw [hw1, hgx1]; exact blk_new _ _⟩
    rw [← hw1]
    rw [← hgx1]
    clear hw1 hgx1
    have HB2 := Aside0.mk hbs1
    have Cv2 := Aside0.mk (Kd.C_below HR.out hbs1)
    have CV2 := Aside0.mk (Kd.C_below HV.out hbs1)
    clear hbs1
    go_wp2_with fail
    refine (alive_any _).mono ?_
    rintro e w3 ⟨rfl, hb3⟩
    have HB4 := Aside0.mk (below_step HB2.out hb3)
    have Bx4 : Aside0 (w3.heap[gx1]? = some (.cells #[.int .i64 r.1.1, .int .i64 r.1.2.1, .int .i64 r.1.2.2, .int .i64 r.2.1.1, .int .i64 r.2.1.2.1, .int .i64 r.2.1.2.2, .slice A r.2.2.length c] 26 (0, 0))) := ⟨(hb3.block _ (blk_lt Bx1.out)).trans Bx1.out⟩
    have Cv4 := Aside0.mk (Kd.C_below Cv2.out hb3)
    have CV4 := Aside0.mk (Kd.C_below CV2.out hb3)
    clear hb3
    have zx5_0 : w3.cell? ⟨gx1, 0, none⟩ = some (.int .i64 r.1.1) := (blk_cell Bx4.out 0).trans rfl
    have zx5_1 : w3.cell? ⟨gx1, 1, none⟩ = some (.int .i64 r.1.2.1) := (blk_cell Bx4.out 1).trans rfl
    have zx5_2 : w3.cell? ⟨gx1, 2, none⟩ = some (.int .i64 r.1.2.2) := (blk_cell Bx4.out 2).trans rfl
    have zx5_3 : w3.cell? ⟨gx1, 3, none⟩ = some (.int .i64 r.2.1.1) := (blk_cell Bx4.out 3).trans rfl
    have zx5_4 : w3.cell? ⟨gx1, 4, none⟩ = some (.int .i64 r.2.1.2.1) := (blk_cell Bx4.out 4).trans rfl
    have zx5_5 : w3.cell? ⟨gx1, 5, none⟩ = some (.int .i64 r.2.1.2.2) := (blk_cell Bx4.out 5).trans rfl
    have zx5_6 : w3.cell? ⟨gx1, 6, none⟩ = some (.slice A r.2.2.length c) := (blk_cell Bx4.out 6).trans rfl
    go_wp2_with fail
    clear d1 d1' d2 d2'
    refine (copied_any r A c _ Cv4.out HC.out (by omega)).mono ?_
    rintro e w10 ⟨B, b', rfl, hM, hb6⟩
    clear zx5_0 zx5_1 zx5_2 zx5_3 zx5_4 zx5_5 zx5_6
    have HB7 := Aside0.mk (below_step HB4.out hb6)
    have Bx7 : Aside0 (w10.heap[gx1]? = some (.cells #[.int .i64 r.1.1, .int .i64 r.1.2.1, .int .i64 r.1.2.2, .int .i64 r.2.1.1, .int .i64 r.2.1.2.1, .int .i64 r.2.1.2.2, .slice A r.2.2.length c] 26 (0, 0))) := ⟨(hb6.block _ (blk_lt Bx4.out)).trans Bx4.out⟩
    have Cv7 := Aside0.mk (Kd.C_below Cv4.out hb6)
    have CV7 := Aside0.mk (Kd.C_below CV4.out hb6)
    clear hb6
    have HM := Aside0.mk hM
    clear hM
    go_upto_region 6 with fail
    obtain ⟨W8, hw8⟩ : ∃ x : World, x = w10.alloc (.cells #[.int .i64 r.1.1, .int .i64 r.1.2.1, .int .i64 r.1.2.2, .int .i64 r.2.1.1, .int .i64 r.2.1.2.1, .int .i64 r.2.1.2.2, .slice B r.2.2.length b'] 26) := ⟨_, rfl⟩
    have hbs8 : Below w10.heap.size w10 W8 := by rw [hw8]; repeat (first | exact Below.refl _ _ | refine below_alloc ?_ _ | refine below_drew ?_)
    obtain ⟨gc8, hgc8⟩ : ∃ x, x = w10.heap.size := ⟨_, rfl⟩
    have GSc8 : Aside0 (W.heap.size ≤ gc8) := ⟨by rw [hgc8]; have := HB7.out.size; omega⟩
    have Bc8 : Aside0 (W8.heap[gc8]? = some (.cells #[.int .i64 r.1.1, .int .i64 r.1.2.1, .int .i64 r.1.2.2, .int .i64 r.2.1.1, .int .i64 r.2.1.2.1, .int .i64 r.2.1.2.2, .slice B r.2.2.length b'] 26 (0, 0))) := ⟨by rw [hw8, hgc8]; exact blk_new _ _⟩
    rw [← hw8]
    rw [← hgc8]
    clear hw8 hgc8
    have HB9 := Aside0.mk (below_step HB7.out hbs8)
    have Bx9 : Aside0 (W8.heap[gx1]? = some (.cells #[.int .i64 r.1.1, .int .i64 r.1.2.1, .int .i64 r.1.2.2, .int .i64 r.2.1.1, .int .i64 r.2.1.2.1, .int .i64 r.2.1.2.2, .slice A r.2.2.length c] 26 (0, 0))) := ⟨(hbs8.block _ (blk_lt Bx7.out)).trans Bx7.out⟩
    have Cv9 := Aside0.mk (Kd.C_below Cv7.out hbs8)
    have CV9 := Aside0.mk (Kd.C_below CV7.out hbs8)
    have CM9 := Aside0.mk (MarkC.below HM.out hbs8)
    clear hbs8
    have zc10_0 : W8.cell? ⟨gc8, 0, none⟩ = some (.int .i64 r.1.1) := (blk_cell Bc8.out 0).trans rfl
    have zc10_1 : W8.cell? ⟨gc8, 1, none⟩ = some (.int .i64 r.1.2.1) := (blk_cell Bc8.out 1).trans rfl
    have zc10_2 : W8.cell? ⟨gc8, 2, none⟩ = some (.int .i64 r.1.2.2) := (blk_cell Bc8.out 2).trans rfl
    have zc10_3 : W8.cell? ⟨gc8, 3, none⟩ = some (.int .i64 r.2.1.1) := (blk_cell Bc8.out 3).trans rfl
    have zc10_4 : W8.cell? ⟨gc8, 4, none⟩ = some (.int .i64 r.2.1.2.1) := (blk_cell Bc8.out 4).trans rfl
    have zc10_5 : W8.cell? ⟨gc8, 5, none⟩ = some (.int .i64 r.2.1.2.2) := (blk_cell Bc8.out 5).trans rfl
    have zc10_6 : W8.cell? ⟨gc8, 6, none⟩ = some (.slice B r.2.2.length b') := (blk_cell Bc8.out 6).trans rfl
    go_wp2_with fail
    refine (nums_c r B b' _ (MarkC.C CM9.out) CM9.out.cap (by omega)).mono ?_
    obtain ⟨L, hL⟩ : ∃ L, numsL r = L := ⟨_, rfl⟩
    have HL := Aside0.mk hL
    have HLN : Aside0 (L.length < 1000) := ⟨by rw [← hL]; unfold numsL; simp; omega⟩
    rw [hL]
    rw [hL] at HNO
    clear hL
    rintro e w11 ⟨B6, c6, rfl, hR6, hb11⟩
    have HR6 := Aside0.mk hR6
    clear hR6
    clear zc10_0 zc10_1 zc10_2 zc10_3 zc10_4 zc10_5 zc10_6
    have HB11 := Aside0.mk (below_step HB9.out hb11)
    have Bx11 : Aside0 (w11.heap[gx1]? = some (.cells #[.int .i64 r.1.1, .int .i64 r.1.2.1, .int .i64 r.1.2.2, .int .i64 r.2.1.1, .int .i64 r.2.1.2.1, .int .i64 r.2.1.2.2, .slice A r.2.2.length c] 26 (0, 0))) := ⟨(hb11.block _ (blk_lt Bx9.out)).trans Bx9.out⟩
    have Bc11 : Aside0 (w11.heap[gc8]? = some (.cells #[.int .i64 r.1.1, .int .i64 r.1.2.1, .int .i64 r.1.2.2, .int .i64 r.2.1.1, .int .i64 r.2.1.2.1, .int .i64 r.2.1.2.2, .slice B r.2.2.length b'] 26 (0, 0))) := ⟨(hb11.block _ (blk_lt Bc8.out)).trans Bc8.out⟩
    have Cv11 := Aside0.mk (Kd.C_below Cv9.out hb11)
    have CV11 := Aside0.mk (Kd.C_below CV9.out hb11)
    have CM11 := Aside0.mk (MarkC.below CM9.out hb11)
    clear hb11
    go_wp2_with fail
    obtain ⟨X, hX⟩ : ∃ X, takenR v = X := ⟨_, rfl⟩
    obtain ⟨tb, htb⟩ : ∃ t, takesB v = t := ⟨_, rfl⟩
    have hct := take_v V cv v _ CV11.out HCV.out (by omega) HVO.out
    rw [hX, htb] at hct
    have CR2 : Aside0 (∀ w, (Kd.int .i64).C w V v.length v → Calls Try.prog 28 #[.slice V v.length cv] w fun e w' => ∃ B cb, e = .returned (.tuple #[.agg (regA X B cb), .bool tb]) ∧ (Kd.int .i64).R 3 w' w.heap.size (fun _ => True) (.slice B X.2.2.length cb) X.2.2 ∧ Below w.heap.size w w') := ⟨fun w h => by rw [← hX, ← htb]; exact reftake_v V cv v w h HCV.out (by omega)⟩
    have HXL : Aside0 (X.2.2.length ≤ 500) := ⟨by rw [← hX]; unfold takenR; split; (show (v.drop 6).length ≤ 500; rw [List.length_drop]; omega); simp [zeroR]⟩
    clear hX htb
    refine hct.mono ?_
    rintro e w12 ⟨B7, c7, rfl, hR7, hb12⟩
    have HR7 := Aside0.mk hR7
    clear hR7 hct
    have HB12 := Aside0.mk (below_step HB11.out hb12)
    have Bx12 : Aside0 (w12.heap[gx1]? = some (.cells #[.int .i64 r.1.1, .int .i64 r.1.2.1, .int .i64 r.1.2.2, .int .i64 r.2.1.1, .int .i64 r.2.1.2.1, .int .i64 r.2.1.2.2, .slice A r.2.2.length c] 26 (0, 0))) := ⟨(hb12.block _ (blk_lt Bx11.out)).trans Bx11.out⟩
    have Bc12 : Aside0 (w12.heap[gc8]? = some (.cells #[.int .i64 r.1.1, .int .i64 r.1.2.1, .int .i64 r.1.2.2, .int .i64 r.2.1.1, .int .i64 r.2.1.2.1, .int .i64 r.2.1.2.2, .slice B r.2.2.length b'] 26 (0, 0))) := ⟨(hb12.block _ (blk_lt Bc11.out)).trans Bc11.out⟩
    have Cv12 := Aside0.mk (Kd.C_below Cv11.out hb12)
    have CV12 := Aside0.mk (Kd.C_below CV11.out hb12)
    have CM12 := Aside0.mk (MarkC.below CM11.out hb12)
    have Rl12 := Aside0.mk (Kd.R_below HR6.out hb12)
    clear hb12
    go_upto_region 8 with fail
    obtain ⟨W13, hw13⟩ : ∃ x : World, x = w12.alloc (.cells #[.int .i64 X.1.1, .int .i64 X.1.2.1, .int .i64 X.1.2.2, .int .i64 X.2.1.1, .int .i64 X.2.1.2.1, .int .i64 X.2.1.2.2, .slice B7 X.2.2.length c7] 26) := ⟨_, rfl⟩
    have hbs13 : Below w12.heap.size w12 W13 := by rw [hw13]; repeat (first | exact Below.refl _ _ | refine below_alloc ?_ _ | refine below_drew ?_)
    obtain ⟨gs13, hgs13⟩ : ∃ x, x = w12.heap.size := ⟨_, rfl⟩
    have GSs13 : Aside0 (W.heap.size ≤ gs13) := ⟨by rw [hgs13]; have := HB12.out.size; omega⟩
    have Bs13 : Aside0 (W13.heap[gs13]? = some (.cells #[.int .i64 X.1.1, .int .i64 X.1.2.1, .int .i64 X.1.2.2, .int .i64 X.2.1.1, .int .i64 X.2.1.2.1, .int .i64 X.2.1.2.2, .slice B7 X.2.2.length c7] 26 (0, 0))) := ⟨by rw [hw13, hgs13]; exact blk_new _ _⟩
    rw [← hw13]
    rw [← hgs13]
    clear hw13 hgs13
    have HB14 := Aside0.mk (below_step HB12.out hbs13)
    have Bx14 : Aside0 (W13.heap[gx1]? = some (.cells #[.int .i64 r.1.1, .int .i64 r.1.2.1, .int .i64 r.1.2.2, .int .i64 r.2.1.1, .int .i64 r.2.1.2.1, .int .i64 r.2.1.2.2, .slice A r.2.2.length c] 26 (0, 0))) := ⟨(hbs13.block _ (blk_lt Bx12.out)).trans Bx12.out⟩
    have Bc14 : Aside0 (W13.heap[gc8]? = some (.cells #[.int .i64 r.1.1, .int .i64 r.1.2.1, .int .i64 r.1.2.2, .int .i64 r.2.1.1, .int .i64 r.2.1.2.1, .int .i64 r.2.1.2.2, .slice B r.2.2.length b'] 26 (0, 0))) := ⟨(hbs13.block _ (blk_lt Bc12.out)).trans Bc12.out⟩
    have Cv14 := Aside0.mk (Kd.C_below Cv12.out hbs13)
    have CV14 := Aside0.mk (Kd.C_below CV12.out hbs13)
    have CM14 := Aside0.mk (MarkC.below CM12.out hbs13)
    have Rl14 := Aside0.mk (Kd.R_below Rl12.out hbs13)
    have Rs14 := Aside0.mk (Kd.R_below HR7.out hbs13)
    clear hbs13
    go_wp2_with fail
    refine (CR2.out _ CV14.out).mono ?_
    rintro e w13 ⟨B8, c8, rfl, hR8, hb13⟩
    have HR8 := Aside0.mk hR8
    clear hR8
    have HB15 := Aside0.mk (below_step HB14.out hb13)
    have Bx15 : Aside0 (w13.heap[gx1]? = some (.cells #[.int .i64 r.1.1, .int .i64 r.1.2.1, .int .i64 r.1.2.2, .int .i64 r.2.1.1, .int .i64 r.2.1.2.1, .int .i64 r.2.1.2.2, .slice A r.2.2.length c] 26 (0, 0))) := ⟨(hb13.block _ (blk_lt Bx14.out)).trans Bx14.out⟩
    have Bc15 : Aside0 (w13.heap[gc8]? = some (.cells #[.int .i64 r.1.1, .int .i64 r.1.2.1, .int .i64 r.1.2.2, .int .i64 r.2.1.1, .int .i64 r.2.1.2.1, .int .i64 r.2.1.2.2, .slice B r.2.2.length b'] 26 (0, 0))) := ⟨(hb13.block _ (blk_lt Bc14.out)).trans Bc14.out⟩
    have Bs15 : Aside0 (w13.heap[gs13]? = some (.cells #[.int .i64 X.1.1, .int .i64 X.1.2.1, .int .i64 X.1.2.2, .int .i64 X.2.1.1, .int .i64 X.2.1.2.1, .int .i64 X.2.1.2.2, .slice B7 X.2.2.length c7] 26 (0, 0))) := ⟨(hb13.block _ (blk_lt Bs13.out)).trans Bs13.out⟩
    have Cv15 := Aside0.mk (Kd.C_below Cv14.out hb13)
    have CV15 := Aside0.mk (Kd.C_below CV14.out hb13)
    have CM15 := Aside0.mk (MarkC.below CM14.out hb13)
    have Rl15 := Aside0.mk (Kd.R_below Rl14.out hb13)
    have Rs15 := Aside0.mk (Kd.R_below Rs14.out hb13)
    clear hb13
    go_upto_region 9 with fail
    obtain ⟨W16, hw16⟩ : ∃ x : World, x = w13.alloc (.cells #[.int .i64 X.1.1, .int .i64 X.1.2.1, .int .i64 X.1.2.2, .int .i64 X.2.1.1, .int .i64 X.2.1.2.1, .int .i64 X.2.1.2.2, .slice B8 X.2.2.length c8] 26) := ⟨_, rfl⟩
    have hbs16 : Below w13.heap.size w13 W16 := by rw [hw16]; repeat (first | exact Below.refl _ _ | refine below_alloc ?_ _ | refine below_drew ?_)
    obtain ⟨gu16, hgu16⟩ : ∃ x, x = w13.heap.size := ⟨_, rfl⟩
    have GSu16 : Aside0 (W.heap.size ≤ gu16) := ⟨by rw [hgu16]; have := HB15.out.size; omega⟩
    have Bu16 : Aside0 (W16.heap[gu16]? = some (.cells #[.int .i64 X.1.1, .int .i64 X.1.2.1, .int .i64 X.1.2.2, .int .i64 X.2.1.1, .int .i64 X.2.1.2.1, .int .i64 X.2.1.2.2, .slice B8 X.2.2.length c8] 26 (0, 0))) := ⟨by rw [hw16, hgu16]; exact blk_new _ _⟩
    rw [← hw16]
    rw [← hgu16]
    clear hw16 hgu16
    have HB17 := Aside0.mk (below_step HB15.out hbs16)
    have Bx17 : Aside0 (W16.heap[gx1]? = some (.cells #[.int .i64 r.1.1, .int .i64 r.1.2.1, .int .i64 r.1.2.2, .int .i64 r.2.1.1, .int .i64 r.2.1.2.1, .int .i64 r.2.1.2.2, .slice A r.2.2.length c] 26 (0, 0))) := ⟨(hbs16.block _ (blk_lt Bx15.out)).trans Bx15.out⟩
    have Bc17 : Aside0 (W16.heap[gc8]? = some (.cells #[.int .i64 r.1.1, .int .i64 r.1.2.1, .int .i64 r.1.2.2, .int .i64 r.2.1.1, .int .i64 r.2.1.2.1, .int .i64 r.2.1.2.2, .slice B r.2.2.length b'] 26 (0, 0))) := ⟨(hbs16.block _ (blk_lt Bc15.out)).trans Bc15.out⟩
    have Bs17 : Aside0 (W16.heap[gs13]? = some (.cells #[.int .i64 X.1.1, .int .i64 X.1.2.1, .int .i64 X.1.2.2, .int .i64 X.2.1.1, .int .i64 X.2.1.2.1, .int .i64 X.2.1.2.2, .slice B7 X.2.2.length c7] 26 (0, 0))) := ⟨(hbs16.block _ (blk_lt Bs15.out)).trans Bs15.out⟩
    have Cv17 := Aside0.mk (Kd.C_below Cv15.out hbs16)
    have CV17 := Aside0.mk (Kd.C_below CV15.out hbs16)
    have CM17 := Aside0.mk (MarkC.below CM15.out hbs16)
    have Rl17 := Aside0.mk (Kd.R_below Rl15.out hbs16)
    have Rs17 := Aside0.mk (Kd.R_below Rs15.out hbs16)
    have Ru17 := Aside0.mk (Kd.R_below HR8.out hbs16)
    clear hbs16
    have zx18_0 : W16.cell? ⟨gx1, 0, none⟩ = some (.int .i64 r.1.1) := (blk_cell Bx17.out 0).trans rfl
    have zx18_1 : W16.cell? ⟨gx1, 1, none⟩ = some (.int .i64 r.1.2.1) := (blk_cell Bx17.out 1).trans rfl
    have zx18_2 : W16.cell? ⟨gx1, 2, none⟩ = some (.int .i64 r.1.2.2) := (blk_cell Bx17.out 2).trans rfl
    have zx18_3 : W16.cell? ⟨gx1, 3, none⟩ = some (.int .i64 r.2.1.1) := (blk_cell Bx17.out 3).trans rfl
    have zx18_4 : W16.cell? ⟨gx1, 4, none⟩ = some (.int .i64 r.2.1.2.1) := (blk_cell Bx17.out 4).trans rfl
    have zx18_5 : W16.cell? ⟨gx1, 5, none⟩ = some (.int .i64 r.2.1.2.2) := (blk_cell Bx17.out 5).trans rfl
    have zx18_6 : W16.cell? ⟨gx1, 6, none⟩ = some (.slice A r.2.2.length c) := (blk_cell Bx17.out 6).trans rfl
    go_wp2_with fail
    have hrn := refnums_c r A c _ Cv17.out HC.out (by omega)
    rw [HL.out] at hrn
    refine hrn.mono ?_
    rintro e w14 ⟨B9, c9, rfl, hR9, hb14⟩
    have HR9 := Aside0.mk hR9
    clear hR9 hrn
    clear zx18_0 zx18_1 zx18_2 zx18_3 zx18_4 zx18_5 zx18_6
    have HB19 := Aside0.mk (below_step HB17.out hb14)
    have Bx19 : Aside0 (w14.heap[gx1]? = some (.cells #[.int .i64 r.1.1, .int .i64 r.1.2.1, .int .i64 r.1.2.2, .int .i64 r.2.1.1, .int .i64 r.2.1.2.1, .int .i64 r.2.1.2.2, .slice A r.2.2.length c] 26 (0, 0))) := ⟨(hb14.block _ (blk_lt Bx17.out)).trans Bx17.out⟩
    have Bc19 : Aside0 (w14.heap[gc8]? = some (.cells #[.int .i64 r.1.1, .int .i64 r.1.2.1, .int .i64 r.1.2.2, .int .i64 r.2.1.1, .int .i64 r.2.1.2.1, .int .i64 r.2.1.2.2, .slice B r.2.2.length b'] 26 (0, 0))) := ⟨(hb14.block _ (blk_lt Bc17.out)).trans Bc17.out⟩
    have Bs19 : Aside0 (w14.heap[gs13]? = some (.cells #[.int .i64 X.1.1, .int .i64 X.1.2.1, .int .i64 X.1.2.2, .int .i64 X.2.1.1, .int .i64 X.2.1.2.1, .int .i64 X.2.1.2.2, .slice B7 X.2.2.length c7] 26 (0, 0))) := ⟨(hb14.block _ (blk_lt Bs17.out)).trans Bs17.out⟩
    have Bu19 : Aside0 (w14.heap[gu16]? = some (.cells #[.int .i64 X.1.1, .int .i64 X.1.2.1, .int .i64 X.1.2.2, .int .i64 X.2.1.1, .int .i64 X.2.1.2.1, .int .i64 X.2.1.2.2, .slice B8 X.2.2.length c8] 26 (0, 0))) := ⟨(hb14.block _ (blk_lt Bu16.out)).trans Bu16.out⟩
    have Cv19 := Aside0.mk (Kd.C_below Cv17.out hb14)
    have CV19 := Aside0.mk (Kd.C_below CV17.out hb14)
    have CM19 := Aside0.mk (MarkC.below CM17.out hb14)
    have Rl19 := Aside0.mk (Kd.R_below Rl17.out hb14)
    have Rs19 := Aside0.mk (Kd.R_below Rs17.out hb14)
    have Ru19 := Aside0.mk (Kd.R_below Ru17.out hb14)
    clear hb14
    go_wp2_with fail
    refine (ints_v true B6 c6 L B9 c9 L _ (decide_eq_true rfl) (Kd.R_reads' Rl19.out).2.2 (Kd.R_reads' Rl19.out).2.1 (Kd.R_reads' HR9.out).2.2 (Kd.R_reads' HR9.out).2.1 (by have := HLN.out; omega)).mono ?_
    rintro e w20 ⟨rfl, hb20⟩
    have HB21 := Aside0.mk (below_step HB19.out hb20)
    have Bx21 : Aside0 (w20.heap[gx1]? = some (.cells #[.int .i64 r.1.1, .int .i64 r.1.2.1, .int .i64 r.1.2.2, .int .i64 r.2.1.1, .int .i64 r.2.1.2.1, .int .i64 r.2.1.2.2, .slice A r.2.2.length c] 26 (0, 0))) := ⟨(hb20.block _ (blk_lt Bx19.out)).trans Bx19.out⟩
    have Bc21 : Aside0 (w20.heap[gc8]? = some (.cells #[.int .i64 r.1.1, .int .i64 r.1.2.1, .int .i64 r.1.2.2, .int .i64 r.2.1.1, .int .i64 r.2.1.2.1, .int .i64 r.2.1.2.2, .slice B r.2.2.length b'] 26 (0, 0))) := ⟨(hb20.block _ (blk_lt Bc19.out)).trans Bc19.out⟩
    have Bs21 : Aside0 (w20.heap[gs13]? = some (.cells #[.int .i64 X.1.1, .int .i64 X.1.2.1, .int .i64 X.1.2.2, .int .i64 X.2.1.1, .int .i64 X.2.1.2.1, .int .i64 X.2.1.2.2, .slice B7 X.2.2.length c7] 26 (0, 0))) := ⟨(hb20.block _ (blk_lt Bs19.out)).trans Bs19.out⟩
    have Bu21 : Aside0 (w20.heap[gu16]? = some (.cells #[.int .i64 X.1.1, .int .i64 X.1.2.1, .int .i64 X.1.2.2, .int .i64 X.2.1.1, .int .i64 X.2.1.2.1, .int .i64 X.2.1.2.2, .slice B8 X.2.2.length c8] 26 (0, 0))) := ⟨(hb20.block _ (blk_lt Bu19.out)).trans Bu19.out⟩
    have Cv21 := Aside0.mk (Kd.C_below Cv19.out hb20)
    have CV21 := Aside0.mk (Kd.C_below CV19.out hb20)
    have CM21 := Aside0.mk (MarkC.below CM19.out hb20)
    have Rl21 := Aside0.mk (Kd.R_below Rl19.out hb20)
    have Rs21 := Aside0.mk (Kd.R_below Rs19.out hb20)
    have Ru21 := Aside0.mk (Kd.R_below Ru19.out hb20)
    have Rn21 := Aside0.mk (Kd.R_below HR9.out hb20)
    clear hb20
    have e1 : (tb != tb) = false := by simp
    have zs22_0 : w20.cell? ⟨gs13, 0, none⟩ = some (.int .i64 X.1.1) := (blk_cell Bs21.out 0).trans rfl
    have zs22_1 : w20.cell? ⟨gs13, 1, none⟩ = some (.int .i64 X.1.2.1) := (blk_cell Bs21.out 1).trans rfl
    have zs22_2 : w20.cell? ⟨gs13, 2, none⟩ = some (.int .i64 X.1.2.2) := (blk_cell Bs21.out 2).trans rfl
    have zs22_3 : w20.cell? ⟨gs13, 3, none⟩ = some (.int .i64 X.2.1.1) := (blk_cell Bs21.out 3).trans rfl
    have zs22_4 : w20.cell? ⟨gs13, 4, none⟩ = some (.int .i64 X.2.1.2.1) := (blk_cell Bs21.out 4).trans rfl
    have zs22_5 : w20.cell? ⟨gs13, 5, none⟩ = some (.int .i64 X.2.1.2.2) := (blk_cell Bs21.out 5).trans rfl
    have zs22_6 : w20.cell? ⟨gs13, 6, none⟩ = some (.slice B7 X.2.2.length c7) := (blk_cell Bs21.out 6).trans rfl
    have zu22_0 : w20.cell? ⟨gu16, 0, none⟩ = some (.int .i64 X.1.1) := (blk_cell Bu21.out 0).trans rfl
    have zu22_1 : w20.cell? ⟨gu16, 1, none⟩ = some (.int .i64 X.1.2.1) := (blk_cell Bu21.out 1).trans rfl
    have zu22_2 : w20.cell? ⟨gu16, 2, none⟩ = some (.int .i64 X.1.2.2) := (blk_cell Bu21.out 2).trans rfl
    have zu22_3 : w20.cell? ⟨gu16, 3, none⟩ = some (.int .i64 X.2.1.1) := (blk_cell Bu21.out 3).trans rfl
    have zu22_4 : w20.cell? ⟨gu16, 4, none⟩ = some (.int .i64 X.2.1.2.1) := (blk_cell Bu21.out 4).trans rfl
    have zu22_5 : w20.cell? ⟨gu16, 5, none⟩ = some (.int .i64 X.2.1.2.2) := (blk_cell Bu21.out 5).trans rfl
    have zu22_6 : w20.cell? ⟨gu16, 6, none⟩ = some (.slice B8 X.2.2.length c8) := (blk_cell Bu21.out 6).trans rfl
    go_wp2_with fail
    refine (same_v X B7 c7 _ (Kd.R_reads' Rs21.out).2.2 (Kd.R_reads' Rs21.out).2.1 true X B8 c8 (Kd.R_reads' Ru21.out).2.2 (Kd.R_reads' Ru21.out).2.1 (decide_eq_true rfl) (by have := HXL.out; omega)).mono ?_
    rintro e w23 ⟨rfl, hb23⟩
    clear zs22_0 zs22_1 zs22_2 zs22_3 zs22_4 zs22_5 zs22_6 zu22_0 zu22_1 zu22_2 zu22_3 zu22_4 zu22_5 zu22_6
    have HB24 := Aside0.mk (below_step HB21.out hb23)
    have Bx24 : Aside0 (w23.heap[gx1]? = some (.cells #[.int .i64 r.1.1, .int .i64 r.1.2.1, .int .i64 r.1.2.2, .int .i64 r.2.1.1, .int .i64 r.2.1.2.1, .int .i64 r.2.1.2.2, .slice A r.2.2.length c] 26 (0, 0))) := ⟨(hb23.block _ (blk_lt Bx21.out)).trans Bx21.out⟩
    have Bc24 : Aside0 (w23.heap[gc8]? = some (.cells #[.int .i64 r.1.1, .int .i64 r.1.2.1, .int .i64 r.1.2.2, .int .i64 r.2.1.1, .int .i64 r.2.1.2.1, .int .i64 r.2.1.2.2, .slice B r.2.2.length b'] 26 (0, 0))) := ⟨(hb23.block _ (blk_lt Bc21.out)).trans Bc21.out⟩
    have Bs24 : Aside0 (w23.heap[gs13]? = some (.cells #[.int .i64 X.1.1, .int .i64 X.1.2.1, .int .i64 X.1.2.2, .int .i64 X.2.1.1, .int .i64 X.2.1.2.1, .int .i64 X.2.1.2.2, .slice B7 X.2.2.length c7] 26 (0, 0))) := ⟨(hb23.block _ (blk_lt Bs21.out)).trans Bs21.out⟩
    have Bu24 : Aside0 (w23.heap[gu16]? = some (.cells #[.int .i64 X.1.1, .int .i64 X.1.2.1, .int .i64 X.1.2.2, .int .i64 X.2.1.1, .int .i64 X.2.1.2.1, .int .i64 X.2.1.2.2, .slice B8 X.2.2.length c8] 26 (0, 0))) := ⟨(hb23.block _ (blk_lt Bu21.out)).trans Bu21.out⟩
    have Cv24 := Aside0.mk (Kd.C_below Cv21.out hb23)
    have CV24 := Aside0.mk (Kd.C_below CV21.out hb23)
    have CM24 := Aside0.mk (MarkC.below CM21.out hb23)
    have Rl24 := Aside0.mk (Kd.R_below Rl21.out hb23)
    have Rs24 := Aside0.mk (Kd.R_below Rs21.out hb23)
    have Ru24 := Aside0.mk (Kd.R_below Ru21.out hb23)
    have Rn24 := Aside0.mk (Kd.R_below Rn21.out hb23)
    clear hb23
    have zx25_0 : w23.cell? ⟨gx1, 0, none⟩ = some (.int .i64 r.1.1) := (blk_cell Bx24.out 0).trans rfl
    have zx25_1 : w23.cell? ⟨gx1, 1, none⟩ = some (.int .i64 r.1.2.1) := (blk_cell Bx24.out 1).trans rfl
    have zx25_2 : w23.cell? ⟨gx1, 2, none⟩ = some (.int .i64 r.1.2.2) := (blk_cell Bx24.out 2).trans rfl
    have zx25_3 : w23.cell? ⟨gx1, 3, none⟩ = some (.int .i64 r.2.1.1) := (blk_cell Bx24.out 3).trans rfl
    have zx25_4 : w23.cell? ⟨gx1, 4, none⟩ = some (.int .i64 r.2.1.2.1) := (blk_cell Bx24.out 4).trans rfl
    have zx25_5 : w23.cell? ⟨gx1, 5, none⟩ = some (.int .i64 r.2.1.2.2) := (blk_cell Bx24.out 5).trans rfl
    have zx25_6 : w23.cell? ⟨gx1, 6, none⟩ = some (.slice A r.2.2.length c) := (blk_cell Bx24.out 6).trans rfl
    have zc25_0 : w23.cell? ⟨gc8, 0, none⟩ = some (.int .i64 r.1.1) := (blk_cell Bc24.out 0).trans rfl
    have zc25_1 : w23.cell? ⟨gc8, 1, none⟩ = some (.int .i64 r.1.2.1) := (blk_cell Bc24.out 1).trans rfl
    have zc25_2 : w23.cell? ⟨gc8, 2, none⟩ = some (.int .i64 r.1.2.2) := (blk_cell Bc24.out 2).trans rfl
    have zc25_3 : w23.cell? ⟨gc8, 3, none⟩ = some (.int .i64 r.2.1.1) := (blk_cell Bc24.out 3).trans rfl
    have zc25_4 : w23.cell? ⟨gc8, 4, none⟩ = some (.int .i64 r.2.1.2.1) := (blk_cell Bc24.out 4).trans rfl
    have zc25_5 : w23.cell? ⟨gc8, 5, none⟩ = some (.int .i64 r.2.1.2.2) := (blk_cell Bc24.out 5).trans rfl
    have zc25_6 : w23.cell? ⟨gc8, 6, none⟩ = some (.slice B r.2.2.length b') := (blk_cell Bc24.out 6).trans rfl
    go_wp2_with fail
    refine (kept_any r B b' A c _ CM24.out Cv24.out HC.out (by omega)).mono ?_
    rintro e w26 ⟨rfl, hb26⟩
    clear zx25_0 zx25_1 zx25_2 zx25_3 zx25_4 zx25_5 zx25_6 zc25_0 zc25_1 zc25_2 zc25_3 zc25_4 zc25_5 zc25_6
    have HB27 := Aside0.mk (below_step HB24.out hb26)
    have Bx27 : Aside0 (w26.heap[gx1]? = some (.cells #[.int .i64 r.1.1, .int .i64 r.1.2.1, .int .i64 r.1.2.2, .int .i64 r.2.1.1, .int .i64 r.2.1.2.1, .int .i64 r.2.1.2.2, .slice A r.2.2.length c] 26 (0, 0))) := ⟨(hb26.block _ (blk_lt Bx24.out)).trans Bx24.out⟩
    have Bc27 : Aside0 (w26.heap[gc8]? = some (.cells #[.int .i64 r.1.1, .int .i64 r.1.2.1, .int .i64 r.1.2.2, .int .i64 r.2.1.1, .int .i64 r.2.1.2.1, .int .i64 r.2.1.2.2, .slice B r.2.2.length b'] 26 (0, 0))) := ⟨(hb26.block _ (blk_lt Bc24.out)).trans Bc24.out⟩
    have Bs27 : Aside0 (w26.heap[gs13]? = some (.cells #[.int .i64 X.1.1, .int .i64 X.1.2.1, .int .i64 X.1.2.2, .int .i64 X.2.1.1, .int .i64 X.2.1.2.1, .int .i64 X.2.1.2.2, .slice B7 X.2.2.length c7] 26 (0, 0))) := ⟨(hb26.block _ (blk_lt Bs24.out)).trans Bs24.out⟩
    have Bu27 : Aside0 (w26.heap[gu16]? = some (.cells #[.int .i64 X.1.1, .int .i64 X.1.2.1, .int .i64 X.1.2.2, .int .i64 X.2.1.1, .int .i64 X.2.1.2.1, .int .i64 X.2.1.2.2, .slice B8 X.2.2.length c8] 26 (0, 0))) := ⟨(hb26.block _ (blk_lt Bu24.out)).trans Bu24.out⟩
    have Cv27 := Aside0.mk (Kd.C_below Cv24.out hb26)
    have CV27 := Aside0.mk (Kd.C_below CV24.out hb26)
    have CM27 := Aside0.mk (MarkC.below CM24.out hb26)
    have Rl27 := Aside0.mk (Kd.R_below Rl24.out hb26)
    have Rs27 := Aside0.mk (Kd.R_below Rs24.out hb26)
    have Ru27 := Aside0.mk (Kd.R_below Ru24.out hb26)
    have Rn27 := Aside0.mk (Kd.R_below Rn24.out hb26)
    clear hb26
    clear e1
    go_wp2_with fail
    obtain ⟨gg, hgg⟩ : ∃ g, goodR r = g := ⟨_, rfl⟩
    have HGG := Aside0.mk hgg
    clear hgg
    have hct := take_v B6 c6 L _ (Kd.R_reads' Rl27.out).2.2 (Kd.R_reads' Rl27.out).2.1 (by have := HLN.out; omega) HNO.out
    obtain ⟨Z, hZ⟩ : ∃ Z, takenR L = Z := ⟨_, rfl⟩
    have htk : takesB L = gg := by rw [← HL.out, numsL_is, HGG.out]
    have HZ : Aside0 (gg = true → Z = r) := ⟨fun h => by rw [← hZ]; unfold takenR; rw [htk, if_pos h, ← HL.out, numsL_take]⟩
    rw [hZ, htk] at hct
    clear hZ htk
    refine hct.mono ?_
    rintro e w15 ⟨B10, c10, rfl, hR10, hb15⟩
    have HR10 := Aside0.mk hR10
    clear hR10 hct
    have HB28 := Aside0.mk (below_step HB27.out hb15)
    have Bx28 : Aside0 (w15.heap[gx1]? = some (.cells #[.int .i64 r.1.1, .int .i64 r.1.2.1, .int .i64 r.1.2.2, .int .i64 r.2.1.1, .int .i64 r.2.1.2.1, .int .i64 r.2.1.2.2, .slice A r.2.2.length c] 26 (0, 0))) := ⟨(hb15.block _ (blk_lt Bx27.out)).trans Bx27.out⟩
    have Bc28 : Aside0 (w15.heap[gc8]? = some (.cells #[.int .i64 r.1.1, .int .i64 r.1.2.1, .int .i64 r.1.2.2, .int .i64 r.2.1.1, .int .i64 r.2.1.2.1, .int .i64 r.2.1.2.2, .slice B r.2.2.length b'] 26 (0, 0))) := ⟨(hb15.block _ (blk_lt Bc27.out)).trans Bc27.out⟩
    have Bs28 : Aside0 (w15.heap[gs13]? = some (.cells #[.int .i64 X.1.1, .int .i64 X.1.2.1, .int .i64 X.1.2.2, .int .i64 X.2.1.1, .int .i64 X.2.1.2.1, .int .i64 X.2.1.2.2, .slice B7 X.2.2.length c7] 26 (0, 0))) := ⟨(hb15.block _ (blk_lt Bs27.out)).trans Bs27.out⟩
    have Bu28 : Aside0 (w15.heap[gu16]? = some (.cells #[.int .i64 X.1.1, .int .i64 X.1.2.1, .int .i64 X.1.2.2, .int .i64 X.2.1.1, .int .i64 X.2.1.2.1, .int .i64 X.2.1.2.2, .slice B8 X.2.2.length c8] 26 (0, 0))) := ⟨(hb15.block _ (blk_lt Bu27.out)).trans Bu27.out⟩
    have Cv28 := Aside0.mk (Kd.C_below Cv27.out hb15)
    have CV28 := Aside0.mk (Kd.C_below CV27.out hb15)
    have CM28 := Aside0.mk (MarkC.below CM27.out hb15)
    have Rl28 := Aside0.mk (Kd.R_below Rl27.out hb15)
    have Rs28 := Aside0.mk (Kd.R_below Rs27.out hb15)
    have Ru28 := Aside0.mk (Kd.R_below Ru27.out hb15)
    have Rn28 := Aside0.mk (Kd.R_below Rn27.out hb15)
    clear hb15
    go_upto_region 12 with fail
    obtain ⟨W29, hw29⟩ : ∃ x : World, x = w15.alloc (.cells #[.int .i64 Z.1.1, .int .i64 Z.1.2.1, .int .i64 Z.1.2.2, .int .i64 Z.2.1.1, .int .i64 Z.2.1.2.1, .int .i64 Z.2.1.2.2, .slice B10 Z.2.2.length c10] 26) := ⟨_, rfl⟩
    have hbs29 : Below w15.heap.size w15 W29 := by rw [hw29]; repeat (first | exact Below.refl _ _ | refine below_alloc ?_ _ | refine below_drew ?_)
    obtain ⟨gz29, hgz29⟩ : ∃ x, x = w15.heap.size := ⟨_, rfl⟩
    have GSz29 : Aside0 (W.heap.size ≤ gz29) := ⟨by rw [hgz29]; have := HB28.out.size; omega⟩
    have Bz29 : Aside0 (W29.heap[gz29]? = some (.cells #[.int .i64 Z.1.1, .int .i64 Z.1.2.1, .int .i64 Z.1.2.2, .int .i64 Z.2.1.1, .int .i64 Z.2.1.2.1, .int .i64 Z.2.1.2.2, .slice B10 Z.2.2.length c10] 26 (0, 0))) := ⟨by rw [hw29, hgz29]; exact blk_new _ _⟩
    rw [← hw29]
    rw [← hgz29]
    clear hw29 hgz29
    have HB30 := Aside0.mk (below_step HB28.out hbs29)
    have Bx30 : Aside0 (W29.heap[gx1]? = some (.cells #[.int .i64 r.1.1, .int .i64 r.1.2.1, .int .i64 r.1.2.2, .int .i64 r.2.1.1, .int .i64 r.2.1.2.1, .int .i64 r.2.1.2.2, .slice A r.2.2.length c] 26 (0, 0))) := ⟨(hbs29.block _ (blk_lt Bx28.out)).trans Bx28.out⟩
    have Bc30 : Aside0 (W29.heap[gc8]? = some (.cells #[.int .i64 r.1.1, .int .i64 r.1.2.1, .int .i64 r.1.2.2, .int .i64 r.2.1.1, .int .i64 r.2.1.2.1, .int .i64 r.2.1.2.2, .slice B r.2.2.length b'] 26 (0, 0))) := ⟨(hbs29.block _ (blk_lt Bc28.out)).trans Bc28.out⟩
    have Bs30 : Aside0 (W29.heap[gs13]? = some (.cells #[.int .i64 X.1.1, .int .i64 X.1.2.1, .int .i64 X.1.2.2, .int .i64 X.2.1.1, .int .i64 X.2.1.2.1, .int .i64 X.2.1.2.2, .slice B7 X.2.2.length c7] 26 (0, 0))) := ⟨(hbs29.block _ (blk_lt Bs28.out)).trans Bs28.out⟩
    have Bu30 : Aside0 (W29.heap[gu16]? = some (.cells #[.int .i64 X.1.1, .int .i64 X.1.2.1, .int .i64 X.1.2.2, .int .i64 X.2.1.1, .int .i64 X.2.1.2.1, .int .i64 X.2.1.2.2, .slice B8 X.2.2.length c8] 26 (0, 0))) := ⟨(hbs29.block _ (blk_lt Bu28.out)).trans Bu28.out⟩
    have Cv30 := Aside0.mk (Kd.C_below Cv28.out hbs29)
    have CV30 := Aside0.mk (Kd.C_below CV28.out hbs29)
    have CM30 := Aside0.mk (MarkC.below CM28.out hbs29)
    have Rl30 := Aside0.mk (Kd.R_below Rl28.out hbs29)
    have Rs30 := Aside0.mk (Kd.R_below Rs28.out hbs29)
    have Ru30 := Aside0.mk (Kd.R_below Ru28.out hbs29)
    have Rn30 := Aside0.mk (Kd.R_below Rn28.out hbs29)
    have Rz30 := Aside0.mk (Kd.R_below HR10.out hbs29)
    clear hbs29
    have zx31_0 : W29.cell? ⟨gx1, 0, none⟩ = some (.int .i64 r.1.1) := (blk_cell Bx30.out 0).trans rfl
    have zx31_1 : W29.cell? ⟨gx1, 1, none⟩ = some (.int .i64 r.1.2.1) := (blk_cell Bx30.out 1).trans rfl
    have zx31_2 : W29.cell? ⟨gx1, 2, none⟩ = some (.int .i64 r.1.2.2) := (blk_cell Bx30.out 2).trans rfl
    have zx31_3 : W29.cell? ⟨gx1, 3, none⟩ = some (.int .i64 r.2.1.1) := (blk_cell Bx30.out 3).trans rfl
    have zx31_4 : W29.cell? ⟨gx1, 4, none⟩ = some (.int .i64 r.2.1.2.1) := (blk_cell Bx30.out 4).trans rfl
    have zx31_5 : W29.cell? ⟨gx1, 5, none⟩ = some (.int .i64 r.2.1.2.2) := (blk_cell Bx30.out 5).trans rfl
    have zx31_6 : W29.cell? ⟨gx1, 6, none⟩ = some (.slice A r.2.2.length c) := (blk_cell Bx30.out 6).trans rfl
    go_wp2_with fail
    have hrg := good_v r A c _ Cv30.out HC.out HOKR.out
    rw [HGG.out] at hrg
    refine hrg.mono ?_
    rintro e w16 ⟨rfl, hb16⟩
    clear hrg
    clear zx31_0 zx31_1 zx31_2 zx31_3 zx31_4 zx31_5 zx31_6
    have HB32 := Aside0.mk (below_step HB30.out hb16)
    have Bx32 : Aside0 (w16.heap[gx1]? = some (.cells #[.int .i64 r.1.1, .int .i64 r.1.2.1, .int .i64 r.1.2.2, .int .i64 r.2.1.1, .int .i64 r.2.1.2.1, .int .i64 r.2.1.2.2, .slice A r.2.2.length c] 26 (0, 0))) := ⟨(hb16.block _ (blk_lt Bx30.out)).trans Bx30.out⟩
    have Bc32 : Aside0 (w16.heap[gc8]? = some (.cells #[.int .i64 r.1.1, .int .i64 r.1.2.1, .int .i64 r.1.2.2, .int .i64 r.2.1.1, .int .i64 r.2.1.2.1, .int .i64 r.2.1.2.2, .slice B r.2.2.length b'] 26 (0, 0))) := ⟨(hb16.block _ (blk_lt Bc30.out)).trans Bc30.out⟩
    have Bs32 : Aside0 (w16.heap[gs13]? = some (.cells #[.int .i64 X.1.1, .int .i64 X.1.2.1, .int .i64 X.1.2.2, .int .i64 X.2.1.1, .int .i64 X.2.1.2.1, .int .i64 X.2.1.2.2, .slice B7 X.2.2.length c7] 26 (0, 0))) := ⟨(hb16.block _ (blk_lt Bs30.out)).trans Bs30.out⟩
    have Bu32 : Aside0 (w16.heap[gu16]? = some (.cells #[.int .i64 X.1.1, .int .i64 X.1.2.1, .int .i64 X.1.2.2, .int .i64 X.2.1.1, .int .i64 X.2.1.2.1, .int .i64 X.2.1.2.2, .slice B8 X.2.2.length c8] 26 (0, 0))) := ⟨(hb16.block _ (blk_lt Bu30.out)).trans Bu30.out⟩
    have Bz32 : Aside0 (w16.heap[gz29]? = some (.cells #[.int .i64 Z.1.1, .int .i64 Z.1.2.1, .int .i64 Z.1.2.2, .int .i64 Z.2.1.1, .int .i64 Z.2.1.2.1, .int .i64 Z.2.1.2.2, .slice B10 Z.2.2.length c10] 26 (0, 0))) := ⟨(hb16.block _ (blk_lt Bz29.out)).trans Bz29.out⟩
    have Cv32 := Aside0.mk (Kd.C_below Cv30.out hb16)
    have CV32 := Aside0.mk (Kd.C_below CV30.out hb16)
    have CM32 := Aside0.mk (MarkC.below CM30.out hb16)
    have Rl32 := Aside0.mk (Kd.R_below Rl30.out hb16)
    have Rs32 := Aside0.mk (Kd.R_below Rs30.out hb16)
    have Ru32 := Aside0.mk (Kd.R_below Ru30.out hb16)
    have Rn32 := Aside0.mk (Kd.R_below Rn30.out hb16)
    have Rz32 := Aside0.mk (Kd.R_below Rz30.out hb16)
    clear hb16
    have zx33_0 : w16.cell? ⟨gx1, 0, none⟩ = some (.int .i64 r.1.1) := (blk_cell Bx32.out 0).trans rfl
    have zx33_1 : w16.cell? ⟨gx1, 1, none⟩ = some (.int .i64 r.1.2.1) := (blk_cell Bx32.out 1).trans rfl
    have zx33_2 : w16.cell? ⟨gx1, 2, none⟩ = some (.int .i64 r.1.2.2) := (blk_cell Bx32.out 2).trans rfl
    have zx33_3 : w16.cell? ⟨gx1, 3, none⟩ = some (.int .i64 r.2.1.1) := (blk_cell Bx32.out 3).trans rfl
    have zx33_4 : w16.cell? ⟨gx1, 4, none⟩ = some (.int .i64 r.2.1.2.1) := (blk_cell Bx32.out 4).trans rfl
    have zx33_5 : w16.cell? ⟨gx1, 5, none⟩ = some (.int .i64 r.2.1.2.2) := (blk_cell Bx32.out 5).trans rfl
    have zx33_6 : w16.cell? ⟨gx1, 6, none⟩ = some (.slice A r.2.2.length c) := (blk_cell Bx32.out 6).trans rfl
    have zz33_0 : w16.cell? ⟨gz29, 0, none⟩ = some (.int .i64 Z.1.1) := (blk_cell Bz32.out 0).trans rfl
    have zz33_1 : w16.cell? ⟨gz29, 1, none⟩ = some (.int .i64 Z.1.2.1) := (blk_cell Bz32.out 1).trans rfl
    have zz33_2 : w16.cell? ⟨gz29, 2, none⟩ = some (.int .i64 Z.1.2.2) := (blk_cell Bz32.out 2).trans rfl
    have zz33_3 : w16.cell? ⟨gz29, 3, none⟩ = some (.int .i64 Z.2.1.1) := (blk_cell Bz32.out 3).trans rfl
    have zz33_4 : w16.cell? ⟨gz29, 4, none⟩ = some (.int .i64 Z.2.1.2.1) := (blk_cell Bz32.out 4).trans rfl
    have zz33_5 : w16.cell? ⟨gz29, 5, none⟩ = some (.int .i64 Z.2.1.2.2) := (blk_cell Bz32.out 5).trans rfl
    have zz33_6 : w16.cell? ⟨gz29, 6, none⟩ = some (.slice B10 Z.2.2.length c10) := (blk_cell Bz32.out 6).trans rfl
    cases gg
    · skip
      go_wp2_with fail
      go_ret
      exact ⟨rfl, HB32.out⟩
    · have hzr := (HZ.out rfl).symm
      subst hzr
      go_wp2_with fail
      refine (same_v r B10 c10 _ (Kd.R_reads' Rz32.out).2.2 (Kd.R_reads' Rz32.out).2.1 true r A c Cv32.out HC.out (decide_eq_true rfl) (by omega)).mono ?_
      rintro e w701 ⟨rfl, hb701⟩
      clear zx33_0 zx33_1 zx33_2 zx33_3 zx33_4 zx33_5 zx33_6 zz33_0 zz33_1 zz33_2 zz33_3 zz33_4 zz33_5 zz33_6
      have HB702 := Aside0.mk (below_step HB32.out hb701)
      have Bx702 : Aside0 (w701.heap[gx1]? = some (.cells #[.int .i64 r.1.1, .int .i64 r.1.2.1, .int .i64 r.1.2.2, .int .i64 r.2.1.1, .int .i64 r.2.1.2.1, .int .i64 r.2.1.2.2, .slice A r.2.2.length c] 26 (0, 0))) := ⟨(hb701.block _ (blk_lt Bx32.out)).trans Bx32.out⟩
      have Bc702 : Aside0 (w701.heap[gc8]? = some (.cells #[.int .i64 r.1.1, .int .i64 r.1.2.1, .int .i64 r.1.2.2, .int .i64 r.2.1.1, .int .i64 r.2.1.2.1, .int .i64 r.2.1.2.2, .slice B r.2.2.length b'] 26 (0, 0))) := ⟨(hb701.block _ (blk_lt Bc32.out)).trans Bc32.out⟩
      have Bs702 : Aside0 (w701.heap[gs13]? = some (.cells #[.int .i64 X.1.1, .int .i64 X.1.2.1, .int .i64 X.1.2.2, .int .i64 X.2.1.1, .int .i64 X.2.1.2.1, .int .i64 X.2.1.2.2, .slice B7 X.2.2.length c7] 26 (0, 0))) := ⟨(hb701.block _ (blk_lt Bs32.out)).trans Bs32.out⟩
      have Bu702 : Aside0 (w701.heap[gu16]? = some (.cells #[.int .i64 X.1.1, .int .i64 X.1.2.1, .int .i64 X.1.2.2, .int .i64 X.2.1.1, .int .i64 X.2.1.2.1, .int .i64 X.2.1.2.2, .slice B8 X.2.2.length c8] 26 (0, 0))) := ⟨(hb701.block _ (blk_lt Bu32.out)).trans Bu32.out⟩
      have Bz702 : Aside0 (w701.heap[gz29]? = some (.cells #[.int .i64 r.1.1, .int .i64 r.1.2.1, .int .i64 r.1.2.2, .int .i64 r.2.1.1, .int .i64 r.2.1.2.1, .int .i64 r.2.1.2.2, .slice B10 r.2.2.length c10] 26 (0, 0))) := ⟨(hb701.block _ (blk_lt Bz32.out)).trans Bz32.out⟩
      have Cv702 := Aside0.mk (Kd.C_below Cv32.out hb701)
      have CV702 := Aside0.mk (Kd.C_below CV32.out hb701)
      have CM702 := Aside0.mk (MarkC.below CM32.out hb701)
      have Rl702 := Aside0.mk (Kd.R_below Rl32.out hb701)
      have Rs702 := Aside0.mk (Kd.R_below Rs32.out hb701)
      have Ru702 := Aside0.mk (Kd.R_below Ru32.out hb701)
      have Rn702 := Aside0.mk (Kd.R_below Rn32.out hb701)
      have Rz702 := Aside0.mk (Kd.R_below Rz32.out hb701)
      clear hb701
      go_wp2_with fail
      go_ret
      exact ⟨rfl, HB702.out⟩
theorem nums_walk (w : World) (cs : Array Value) (y : Reg) (hK : kReg.K w y cs.toList) (hq : BalQ y.1 ∧ BalQ y.2.1 ∧ (y.2.2.length * Try.prog.bytesOf 3 ≤ 140737488351232 ∧ ∀ x ∈ y.2.2, (Lit.int .i64 x).wf = true)) (V : Option Addr) (cv : Nat) (v : List Int) (hv : (Kd.int .i64).C w V v.length v) (hcv : v.length ≤ cv) (hvq : v.length * Try.prog.bytesOf 3 ≤ 140737488351232 ∧ ∀ x ∈ v, (Lit.int .i64 x).wf = true) :
    Calls Try.prog 8 #[.agg cs, .slice V v.length cv] w fun e w' => e = .returned (.bool true) ∧ Below w.heap.size w w' := by
  obtain ⟨A, ca, he, hc, hC⟩ := reg_cells hK
  obtain rfl : cs = regA y A ca := by rw [← Array.toArray_toList (xs := cs), he]
  exact nums_any y A ca V cv v w hC hc hv hcv ⟨balq_ok hq.1, balq_ok hq.2.1⟩ (fun x hx => wf_ok (hq.2.2.2 x hx)) (fun x hx => wf_ok (hvq.2 x hx))
end Go.Proofs.Ytckbidmemdkdpaa.MAll

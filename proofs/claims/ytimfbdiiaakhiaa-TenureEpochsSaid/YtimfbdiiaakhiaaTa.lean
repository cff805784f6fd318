/- Watches in memory; the contracts of their methods. -/
import Derived.Test.YtimfbdiiaakhiaaMAllx3
import Derived.Test.YtimfbdiiaakhiaaMAllx2
import Derived.Test.YtimfbdiiaakhiaaKit
import Derived.Test.YtimfbdiiaakhiaaErr
import Derived.OpenShut
import Derived.KernelRfl
import Derived.Deep.DrawnRows
set_option linter.unusedVariables false
set_option linter.unusedSimpArgs false
namespace Go.Proofs.Ytimfbdiiaakhiaa.MAll
open Go.RowKit Go.Proofs.YtimfbdiiaakhiaaW.PrintWords Go.Proofs.YtimfbdiiaakhiaaW.PrintLast Go.Proofs.YtimfbdiiaakhiaaW.PrintMore
attribute [local go_sem ↓] Go.wp_at_zero Go.wp_at_succ

def i64ok (x : Int) : Prop := -9223372036854775808 ≤ x ∧ x ≤ 9223372036854775807
theorem wf_ok {x : Int} (h : (Lit.int .i64 x).wf = true) : i64ok x := bounds_i64 h
abbrev LeaseT := Int × Int × Int × Int
abbrev leaA (l : LeaseT) : Array Value := #[.int .i64 l.1, .int .i64 l.2.1, .int .i64 l.2.2.1, .int .i64 l.2.2.2]
def okL (v : List Int) : Bool := decide (v.length = 4) && (decide (1 ≤ rd v 0) && (decide (0 ≤ rd v 1) && (decide (0 ≤ rd v 2) && decide (0 ≤ rd v 3))))
def leaseOf (v : List Int) : LeaseT := if okL v then (rd v 0, rd v 1, rd v 2, rd v 3) else (0, 0, 0, 0)
theorem four {v : List Int} (h : v.length = 4) : ∃ a b c d, v = [a, b, c, d] := by
  match v, h with
  | [a, b, c, d], _ => exact ⟨a, b, c, d, rfl⟩
theorem min4 (a b c d : Int) : minOf [a, b, c, d] < 0 ↔ (a < 0 ∨ b < 0 ∨ c < 0 ∨ d < 0) := by
  show mn (mn (mn a b) c) d < 0 ↔ _
  have k : ∀ x y : Int, mn x y < 0 ↔ (x < 0 ∨ y < 0) := fun x y => by unfold mn; split <;> omega
  rw [k, k, k]
  omega
theorem take_f (v : List Int) : tenure_Take.f v = some ((leaseOf v).1, (leaseOf v).2.1, (leaseOf v).2.2.1, (leaseOf v).2.2.2, okL v) := by
  unfold tenure_Take.f leaseOf okL
  by_cases h : v.length = 4
  · obtain ⟨a, b, c, d, rfl⟩ := four h
    have e0 : rd [a, b, c, d] 0 = a := rfl
    have e1 : rd [a, b, c, d] 1 = b := rfl
    have e2 : rd [a, b, c, d] 2 = c := rfl
    have e3 : rd [a, b, c, d] 3 = d := rfl
    have hm : slices_Min_int_int.f [a, b, c, d] = some (minOf [a, b, c, d]) := by unfold slices_Min_int_int.f; rw [if_pos (by simp)]
    have hl : ([a, b, c, d].length : Int) = 4 := rfl
    rw [hm, hl]
    simp only [Option.bind_some, e0, e1, e2, e3, if_true, h]
    by_cases hs : minOf [a, b, c, d] < 0
    · rw [if_pos hs]
      rw [min4] at hs
      have : ¬ (1 ≤ a ∧ 0 ≤ b ∧ 0 ≤ c ∧ 0 ≤ d) := by omega
      have hf : (decide True && (decide (1 ≤ a) && (decide (0 ≤ b) && (decide (0 ≤ c) && decide (0 ≤ d))))) = false := by
        rw [Bool.eq_false_iff]; simp only [ne_eq, Bool.and_eq_true, decide_eq_true_eq]; omega
      rw [hf]; rfl
    · rw [if_neg hs, if_pos (by omega)]
      rw [min4] at hs
      by_cases ha : a < 1
      · rw [if_pos ha]
        have hf : (decide True && (decide (1 ≤ a) && (decide (0 ≤ b) && (decide (0 ≤ c) && decide (0 ≤ d))))) = false := by
          rw [Bool.eq_false_iff]; simp only [ne_eq, Bool.and_eq_true, decide_eq_true_eq]; omega
        rw [hf]; rfl
      · rw [if_neg ha, if_pos (by omega), if_pos (by omega), if_pos (by omega)]
        have hf : (decide True && (decide (1 ≤ a) && (decide (0 ≤ b) && (decide (0 ≤ c) && decide (0 ≤ d))))) = true := by
          simp only [Bool.and_eq_true, decide_eq_true_eq, true_and]; omega
        rw [hf]; rfl
  · rw [if_neg (by omega)]
    simp [h]
theorem reftake_f (v : List Int) : estuaryref13_Take.f v = some ((leaseOf v).1, (leaseOf v).2.1, (leaseOf v).2.2.1, (leaseOf v).2.2.2, okL v) := by
  unfold estuaryref13_Take.f leaseOf okL
  by_cases h : v.length = 4
  · obtain ⟨a, b, c, d, rfl⟩ := four h
    have e0 : rd [a, b, c, d] 0 = a := rfl
    have e1 : rd [a, b, c, d] 1 = b := rfl
    have e2 : rd [a, b, c, d] 2 = c := rfl
    have e3 : rd [a, b, c, d] 3 = d := rfl
    have hl : ([a, b, c, d].length : Int) = 4 := rfl
    rw [hl]
    simp only [e0, e1, e2, e3, if_true, h]
    by_cases h0 : a < 1
    · simp [h0, show ¬ 1 ≤ a by omega]
    · by_cases h1 : b < 0
      · simp [h0, h1, show ¬ 0 ≤ b by omega]
      · by_cases h2 : c < 0
        · simp [h0, h1, h2, show ¬ 0 ≤ c by omega]
        · by_cases h3 : d < 0
          · simp [h0, h1, h2, h3, show ¬ 0 ≤ d by omega]
          · simp [h0, h1, h2, h3, show 1 ≤ a by omega, show 0 ≤ b by omega, show 0 ≤ c by omega, show 0 ≤ d by omega]
  · rw [if_neg (by omega)]
    simp [h]
section
variable (A : Option Addr) (c : Nat) (v : List Int) (w : World) (hr : (Kd.int .i64).C w A v.length v) (hc : v.length ≤ c)
include hr hc
theorem take_v : Calls Try.prog 10 #[.slice A v.length c] w fun e w' => e = .returned (.tuple #[.agg (leaA (leaseOf v)), .bool (okL v)]) ∧ Below w.heap.size w w' := tenure_Take.calls A c v _ _ _ _ _ w hr hc (take_f v)
theorem reftake_v : Calls Try.prog 11 #[.slice A v.length c] w fun e w' => e = .returned (.tuple #[.agg (leaA (leaseOf v)), .bool (okL v)]) ∧ Below w.heap.size w w' := estuaryref13_Take.calls A c v _ _ _ _ _ w hr hc (reftake_f v)
end
theorem ints_l0 (l0 l1 : List Int) (hl : l0.length = l1.length) (hm : l0.length < 9223372036854775807) : ∀ n i : Nat, i + n = l0.length → estuarynum_Ints.l0 (n + 1) l0 l1 (l0.length : Int) i = some (decide (l0.drop i = l1.drop i)) := by
  intro n
  induction n with
  | zero =>
    intro i hi
    rw [estuarynum_Ints.l0, if_neg (by omega), List.drop_eq_nil_of_le (by omega), List.drop_eq_nil_of_le (by omega)]
    simp
  | succ n ih =>
    intro i hi
    have h0 : i < l0.length := by omega
    have h1 : i < l1.length := by omega
    have e0 : rd l0 (i : Int) = l0[i] := by simp [rd, List.getD_eq_getElem?_getD, List.getElem?_eq_getElem h0]
    have e1 : rd l1 (i : Int) = l1[i] := by simp [rd, List.getD_eq_getElem?_getD, List.getElem?_eq_getElem h1]
    have hw : wrap64 ((i : Int) + 1) = ((i + 1 : Nat) : Int) := by unfold wrap64; omega
    rw [estuarynum_Ints.l0, if_pos (by omega), if_pos (by omega), if_pos (by omega), if_pos (by omega), e0, e1, hw, ih (i + 1) (by omega), List.drop_eq_getElem_cons h0, List.drop_eq_getElem_cons h1]
    split
    · rename_i h; simp only [List.cons.injEq, h, true_and, false_and, decide_false]
    · rename_i h; simp only [List.cons.injEq, h, true_and, false_and, decide_false]
theorem ints_f (l0 l1 : List Int) (hm : l0.length < 9223372036854775807) : estuarynum_Ints.f (l0.length + 1) l0 l1 = some (decide (l0 = l1)) := by
  unfold estuarynum_Ints.f
  by_cases hl : l0.length = l1.length
  · have := ints_l0 l0 l1 hl hm l0.length 0 (by omega)
    rw [if_pos (by omega)]
    simpa using this
  · rw [if_neg (by omega)]
    congr 1
    exact (decide_eq_false (fun e => hl (by rw [e]))).symm
theorem equal_l0 (l0 l1 : List Int) : ∀ k i n, slices_Equal_int_int.l0 k l0 l1 n i = estuarynum_Ints.l0 k l0 l1 n i := by
  intro k
  induction k with
  | zero => intro i n; rfl
  | succ k ih => intro i n; simp only [slices_Equal_int_int.l0, estuarynum_Ints.l0, ih]
theorem same_f (l0 l1 : List Int) (hm : l0.length < 9223372036854775807) : change_Same.f (l0.length + 1) l0 l1 = some (decide (l0 = l1)) := by
  have h := ints_f l0 l1 hm
  unfold estuarynum_Ints.f at h
  unfold change_Same.f slices_Equal_int_int.f
  rw [equal_l0, h]; rfl
theorem refsame_l0 (l0 l1 : List Int) : ∀ k i, estuaryref10_Same.l0 k l0 l1 i = estuarynum_Ints.l0 k l0 l1 (l0.length : Int) i := by
  intro k
  induction k with
  | zero => intro i; rfl
  | succ k ih =>
    intro i
    simp only [estuaryref10_Same.l0, estuarynum_Ints.l0, ih]
    by_cases h1 : i < (l0.length : Int) <;> simp [h1]
theorem refsame_f (l0 l1 : List Int) (hm : l0.length < 9223372036854775807) : estuaryref10_Same.f (l0.length + 1) l0 l1 = some (decide (l0 = l1)) := by
  have h := ints_f l0 l1 hm
  unfold estuarynum_Ints.f at h
  unfold estuaryref10_Same.f
  rw [refsame_l0, h]
section
variable (b : Bool) (A0 : Option Addr) (c0 : Nat) (l0 : List Int) (A1 : Option Addr) (c1 : Nat) (l1 : List Int) (w : World) (hb : decide (l0 = l1) = b) (hr0 : (Kd.int .i64).C w A0 l0.length l0) (hc0 : l0.length ≤ c0) (hr1 : (Kd.int .i64).C w A1 l1.length l1) (hc1 : l1.length ≤ c1) (hm : l0.length < 9223372036854775807)
include hb hr0 hc0 hr1 hc1 hm
theorem ints_v : Calls Try.prog 13 #[.slice A0 l0.length c0, .slice A1 l1.length c1] w fun e w' => e = .returned (.bool b) ∧ Below w.heap.size w w' :=
  (estuarynum_Ints.calls (l0.length + 1) A0 c0 l0 A1 c1 l1 b w hr0 hc0 hr1 hc1 (by rw [ints_f l0 l1 hm, hb])).mono fun _ _ ⟨he, hd⟩ => ⟨he, hd.below⟩
theorem same_v : Calls Try.prog 25 #[.slice A0 l0.length c0, .slice A1 l1.length c1] w fun e w' => e = .returned (.bool b) ∧ Below w.heap.size w w' :=
  (change_Same.calls (l0.length + 1) A0 c0 l0 A1 c1 l1 b w hr0 hc0 hr1 hc1 (by rw [same_f l0 l1 hm, hb])).mono fun _ _ ⟨he, hd⟩ => ⟨he, hd.below⟩
theorem refsame_v : Calls Try.prog 38 #[.slice A0 l0.length c0, .slice A1 l1.length c1] w fun e w' => e = .returned (.bool b) ∧ Below w.heap.size w w' :=
  (estuaryref10_Same.calls (l0.length + 1) A0 c0 l0 A1 c1 l1 b w hr0 hc0 hr1 hc1 (by rw [refsame_f l0 l1 hm, hb])).mono fun _ _ ⟨he, hd⟩ => ⟨he, hd.below⟩
end
theorem num_v (q : Int) (a : Option Int) (w : World) (hq : a.getD 0 = q) (ha : a ≠ some 0) : Calls Try.prog 30 #[errW a] w fun e w' => e = .returned (.int .i64 q) ∧ Below w.heap.size w w' := by
  subst hq
  refine (estuarynum_Num.calls a (a.getD 0) w ?_).mono fun _ _ ⟨he, hd⟩ => ⟨he, hd.below⟩
  unfold estuarynum_Num.f
  cases a with
  | none => rfl
  | some c =>
    have hc : ¬ c = 0 := fun e => ha (by rw [e])
    simp [hc]
theorem clone_v (A : Option Addr) (c : Nat) (v : List Int) (w : World) (hr : (Kd.int .i64).C w A v.length v) (hc : v.length ≤ c) (hl : v.length < 17592186044416) :
    Calls Try.prog 26 #[.slice A v.length c] w fun e w' => ∃ B d, e = .returned (.slice B v.length d) ∧ (Kd.int .i64).R 3 w' w.heap.size (fun _ => True) (.slice B v.length d) v ∧ Below w.heap.size w w' := by
  refine (slices_Clone_int_int.calls A c v v w hr hc (by unfold slices_Clone_int_int.f; rw [if_pos hl])).mono ?_
  rintro e w' ⟨u, rfl, hR, hb⟩
  obtain ⟨B, d, rfl⟩ := Kd.R_slice hR
  exact ⟨B, d, rfl, hR, hb⟩
theorem nums_v (l : LeaseT) (w : World) : Calls Try.prog 12 #[.agg (leaA l)] w fun e w' => ∃ B d, e = .returned (.slice B 4 d) ∧ (Kd.int .i64).R 3 w' w.heap.size (fun _ => True) (.slice B 4 d) [l.1, l.2.1, l.2.2.1, l.2.2.2] ∧ Below w.heap.size w w' := by
  refine (tenure_Nums.calls _ _ _ _ _ w rfl).mono ?_
  rintro e w' ⟨u, rfl, hR, hb⟩
  obtain ⟨B, d, rfl⟩ := Kd.R_slice hR
  exact ⟨B, d, rfl, hR, hb⟩
abbrev ChT := Int × List Int × List Int
theorem read_v (w : World) : Calls Try.prog 27 #[] w fun e w' => ∃ B d B' d', e = .returned (.agg #[.int .i64 1, .slice B 0 d, .slice B' 0 d']) ∧ (Kd.int .i64).R 3 w' w.heap.size (fun _ => True) (.slice B 0 d) [] ∧ (Kd.int .i64).R 3 w' w.heap.size (fun k => some k ≠ (Value.slice B 0 d).ownBlock) (.slice B' 0 d') [] ∧ Below w.heap.size w w' := by
  refine (change_Read.calls 1 [] [] w rfl).mono ?_
  rintro e w' ⟨u, u', rfl, hR, hR', hb⟩
  obtain ⟨B, d, rfl⟩ := Kd.R_slice hR
  obtain ⟨B', d', rfl⟩ := Kd.R_slice hR'
  exact ⟨B, d, B', d', rfl, Kd.R_mono hR (fun _ _ => trivial), hR', hb⟩
theorem swap_v (A0 : Option Addr) (c0 : Nat) (l0 : List Int) (A1 : Option Addr) (c1 : Nat) (l1 : List Int) (w : World) (hr0 : (Kd.int .i64).C w A0 l0.length l0) (hc0 : l0.length ≤ c0) (hr1 : (Kd.int .i64).C w A1 l1.length l1) (hc1 : l1.length ≤ c1) (hl0 : l0.length < 17592186044416) (hl1 : l1.length < 17592186044416) :
    Calls Try.prog 28 #[.slice A0 l0.length c0, .slice A1 l1.length c1] w fun e w' => ∃ B d B' d', e = .returned (.agg #[.int .i64 2, .slice B l0.length d, .slice B' l1.length d']) ∧ (Kd.int .i64).R 3 w' w.heap.size (fun _ => True) (.slice B l0.length d) l0 ∧ (Kd.int .i64).R 3 w' w.heap.size (fun k => some k ≠ (Value.slice B l0.length d).ownBlock) (.slice B' l1.length d') l1 ∧ Below w.heap.size w w' := by
  refine (change_Swap.calls A0 c0 l0 A1 c1 l1 2 l0 l1 w hr0 hc0 hr1 hc1 (by unfold change_Swap.f slices_Clone_int_int.f; rw [if_pos hl0, if_pos hl1]; rfl)).mono ?_
  rintro e w' ⟨u, u', rfl, hR, hR', hb⟩
  obtain ⟨B, d, rfl⟩ := Kd.R_slice hR
  obtain ⟨B', d', rfl⟩ := Kd.R_slice hR'
  exact ⟨B, d, B', d', rfl, Kd.R_mono hR (fun _ _ => trivial), hR', hb⟩

/-! a watch in memory -/
abbrev watC (nd lf tk : Int) (sw : Bool) (A : Option Addr) (n c : Nat) (ag : Int) : Array Value := #[.int .i64 nd, .int .i64 lf, .int .i64 tk, .bool sw, .slice A n c, .int .i64 ag]
def WAt (W : World) (g : Nat) (nd lf tk : Int) (sw : Bool) (v : List Int) (ag : Int) : Prop :=
  ∃ A c, W.heap[g]? = some (.cells (watC nd lf tk sw A v.length c ag) 68 (0, 0)) ∧ (Kd.int .i64).R 3 W (g + 1) (fun _ => True) (.slice A v.length c) v ∧ v.length < 17592186044416
theorem WAt.below {W W1 : World} {g : Nat} {nd lf tk : Int} {sw : Bool} {v : List Int} {ag : Int} (h : WAt W g nd lf tk sw v ag) (hb : Below W.heap.size W W1) : WAt W1 g nd lf tk sw v ag := by
  obtain ⟨A, c, h1, h2, h3⟩ := h
  exact ⟨A, c, blk_below h1 hb, Kd.R_below h2 hb, h3⟩
theorem WAt.lt {W : World} {g : Nat} {nd lf tk : Int} {sw : Bool} {v : List Int} {ag : Int} (h : WAt W g nd lf tk sw v ag) : g < W.heap.size := by
  obtain ⟨A, c, h1, h2⟩ := h
  exact blk_lt h1
theorem WAt.grown {W W1 : World} {g g' : Nat} {nd lf tk : Int} {sw : Bool} {v : List Int} {ag : Int} {nd' lf' tk' : Int} {sw' : Bool} {v' : List Int} {ag' : Int} (h : WAt W g nd lf tk sw v ag) (h' : WAt W g' nd' lf' tk' sw' v' ag') (hne : g' ≠ g) (hg : W.grownBy W1 (some g')) : WAt W1 g nd lf tk sw v ag := by
  obtain ⟨A, c, h1, h2, h3⟩ := h
  obtain ⟨A', c', h1', _⟩ := h'
  refine ⟨A, c, blk_grown h1 hg (by simpa using hne.symm), Kd.R_mono (Kd.R_grown (Kd.R_types h2 h1' (by decide)) hg (fun k hk => by simpa using hk.2)) (fun _ _ => trivial), h3⟩
theorem grown_set (W : World) (g j : Nat) (v : Value) : W.grownBy (W.setCell ⟨g, j, none⟩ v) (some g) := ⟨rfl, rfl, rfl, by simp [World.setCell], fun k _ hk => Below.heap_setCell _ _ _ k (fun e => hk (by rw [e]))⟩
/-- What a row holds is kept where a watch is written. -/
theorem R_watch {W W1 : World} {g e b : Nat} {nd lf tk : Int} {sw : Bool} {v : List Int} {ag : Int} {u : Value} {xs : List Int} {ok : Nat → Prop} (hR : (Kd.int .i64).R 3 W b ok u xs) (h : WAt W g nd lf tk sw v ag) (hg : W.grownBy W1 (some g)) : (Kd.int .i64).R 3 W1 b ok u xs := by
  obtain ⟨A', c', h1', _⟩ := h
  exact Kd.R_mono (Kd.R_grown (Kd.R_types hR h1' (by decide)) hg (fun k hk => by simpa using hk.2)) (fun _ hk => hk.1)
theorem below_watch {w W W1 : World} {g : Nat} (h : Below w.heap.size w W) (hg : W.grownBy W1 (some g)) (hw : w.heap.size ≤ g) : Below w.heap.size w W1 := pw_below_grown h (some g) h.size hg (fun k hk => by injection hk with hk; omega)

set_option maxHeartbeats 2000000 in
set_option maxRecDepth 100000 in
theorem age_c (W : World) (g : Nat) (nd lf tk : Int) (sw : Bool) (v : List Int) (ag : Int) (h : WAt W g nd lf tk sw v ag) :
    Calls Try.prog 19 #[.pointer (some ⟨g, 0, none⟩)] W fun e w' => e = .returned (.int .i64 ag) ∧ Below W.heap.size W w' := by
  have hu32 := Try.underlying32
  obtain ⟨A, c, hB0, hR0, hvl⟩ := h
  have BW0 := Aside0.mk hB0
  have HR0 := Aside0.mk hR0
  have hlc := (Kd.R_reads' hR0).2.1
  have hmax := Kd.C_max (Kd.R_reads' hR0).2.2
  clear hB0 hR0
  have zW1_0 : W.cell? ⟨g, 0, none⟩ = some (.int .i64 nd) := (blk_cell BW0.out 0).trans rfl
  have zW1_1 : W.cell? ⟨g, 1, none⟩ = some (.int .i64 lf) := (blk_cell BW0.out 1).trans rfl
  have zW1_2 : W.cell? ⟨g, 2, none⟩ = some (.int .i64 tk) := (blk_cell BW0.out 2).trans rfl
  have zW1_3 : W.cell? ⟨g, 3, none⟩ = some (.bool sw) := (blk_cell BW0.out 3).trans rfl
  have zW1_4 : W.cell? ⟨g, 4, none⟩ = some (.slice A v.length c) := (blk_cell BW0.out 4).trans rfl
  have zW1_5 : W.cell? ⟨g, 5, none⟩ = some (.int .i64 ag) := (blk_cell BW0.out 5).trans rfl
  go_enter Try.func19, Try.ntmps19
  go_wp2
  go_ret
  exact ⟨rfl, by repeat (first | exact Below.refl _ _ | apply below_drew | apply pw_below_drewN)⟩
def ageUp (a : Int) : Int := if a < 1000 then a + 1 else 1000
set_option maxHeartbeats 2000000 in
set_option maxRecDepth 100000 in
theorem tick_c (W : World) (g : Nat) (nd lf tk : Int) (sw : Bool) (v : List Int) (ag : Int) (h : WAt W g nd lf tk sw v ag) (ha : 0 ≤ ag ∧ ag ≤ 1000) :
    Calls Try.prog 16 #[.pointer (some ⟨g, 0, none⟩)] W fun e w' => e = .returned (.tuple #[]) ∧ WAt w' g nd lf tk sw v (ageUp ag) ∧ W.grownBy w' (some g) := by
  have hu32 := Try.underlying32
  obtain ⟨A, c, hB0, hR0, hvl⟩ := h
  have BW0 := Aside0.mk hB0
  have HR0 := Aside0.mk hR0
  have hlc := (Kd.R_reads' hR0).2.1
  have hmax := Kd.C_max (Kd.R_reads' hR0).2.2
  clear hB0 hR0
  have zW1_0 : W.cell? ⟨g, 0, none⟩ = some (.int .i64 nd) := (blk_cell BW0.out 0).trans rfl
  have zW1_1 : W.cell? ⟨g, 1, none⟩ = some (.int .i64 lf) := (blk_cell BW0.out 1).trans rfl
  have zW1_2 : W.cell? ⟨g, 2, none⟩ = some (.int .i64 tk) := (blk_cell BW0.out 2).trans rfl
  have zW1_3 : W.cell? ⟨g, 3, none⟩ = some (.bool sw) := (blk_cell BW0.out 3).trans rfl
  have zW1_4 : W.cell? ⟨g, 4, none⟩ = some (.slice A v.length c) := (blk_cell BW0.out 4).trans rfl
  have zW1_5 : W.cell? ⟨g, 5, none⟩ = some (.int .i64 ag) := (blk_cell BW0.out 5).trans rfl
  obtain ⟨ha0, ha1⟩ := ha
  have hfz := blk_frozen BW0.out 5
  by_cases hlt : ag < 1000
  · have hm : ag + 1 ≤ 1000 := by omega
    have hmd : decide (1000 < ag + 1) = false := decide_eq_false (by omega)
    have hag := Aside0.mk (show ageUp ag = ag + 1 by unfold ageUp; rw [if_pos hlt])
    clear hlt
    go_enter Try.func16, Try.ntmps16
    go_wp2
    first | go_end0 | ((try simp only [Exit.inBlock, Exit.then]); refine bodyPost_ret (results_none rfl _ _ _) rfl ?_)
    rw [hag.out]
    refine ⟨rfl, ⟨A, c, blk_put (cs := #[.int .i64 nd, .int .i64 lf, .int .i64 tk, .bool sw, .slice A v.length c, .int .i64 ag]) BW0.out 5 _ rfl, Kd.R_mono (Kd.R_far (p := ⟨g, 5, none⟩) (Kd.R_types HR0.out BW0.out (by decide)) (fun _ hk => hk.2) _) (fun _ _ => trivial), hvl⟩, grown_set _ _ _ _⟩
  · have hm : 1000 < ag + 1 := by omega
    have hmd : decide (1000 < ag + 1) = true := decide_eq_true hm
    have hag := Aside0.mk (show ageUp ag = 1000 by unfold ageUp; rw [if_neg hlt])
    clear hlt
    go_enter Try.func16, Try.ntmps16
    go_wp2
    first | go_end0 | ((try simp only [Exit.inBlock, Exit.then]); refine bodyPost_ret (results_none rfl _ _ _) rfl ?_)
    rw [hag.out]
    refine ⟨rfl, ⟨A, c, blk_put (cs := #[.int .i64 nd, .int .i64 lf, .int .i64 tk, .bool sw, .slice A v.length c, .int .i64 ag]) BW0.out 5 _ rfl, Kd.R_mono (Kd.R_far (p := ⟨g, 5, none⟩) (Kd.R_types HR0.out BW0.out (by decide)) (fun _ hk => hk.2) _) (fun _ _ => trivial), hvl⟩, grown_set _ _ _ _⟩
def sawAge (sw : Bool) (v x : List Int) (ag : Int) : Int := if sw = true ∧ v = x then ag else 0
set_option maxHeartbeats 2000000 in
set_option maxRecDepth 100000 in
theorem saw_c (W : World) (g : Nat) (nd lf tk : Int) (sw : Bool) (v : List Int) (ag : Int) (h : WAt W g nd lf tk sw v ag) (B : Option Addr) (d : Nat) (x : List Int) (hx : (Kd.int .i64).C W B x.length x) (hd : x.length ≤ d) (hl : x.length < 17592186044416) :
    Calls Try.prog 15 #[.pointer (some ⟨g, 0, none⟩), .slice B x.length d] W fun e w' => e = .returned (.tuple #[]) ∧ WAt w' g nd lf tk true x (sawAge sw v x ag) ∧ W.grownBy w' (some g) := by
  have hu32 := Try.underlying32
  obtain ⟨A, c, hB0, hR0, hvl⟩ := h
  have BW0 := Aside0.mk hB0
  have HR0 := Aside0.mk hR0
  have hlc := (Kd.R_reads' hR0).2.1
  have hmax := Kd.C_max (Kd.R_reads' hR0).2.2
  clear hB0 hR0
  have HX := Aside0.mk hx
  clear hx
  have zW1_0 : W.cell? ⟨g, 0, none⟩ = some (.int .i64 nd) := (blk_cell BW0.out 0).trans rfl
  have zW1_1 : W.cell? ⟨g, 1, none⟩ = some (.int .i64 lf) := (blk_cell BW0.out 1).trans rfl
  have zW1_2 : W.cell? ⟨g, 2, none⟩ = some (.int .i64 tk) := (blk_cell BW0.out 2).trans rfl
  have zW1_3 : W.cell? ⟨g, 3, none⟩ = some (.bool sw) := (blk_cell BW0.out 3).trans rfl
  have zW1_4 : W.cell? ⟨g, 4, none⟩ = some (.slice A v.length c) := (blk_cell BW0.out 4).trans rfl
  have zW1_5 : W.cell? ⟨g, 5, none⟩ = some (.int .i64 ag) := (blk_cell BW0.out 5).trans rfl
  by_cases hsv : sw = true ∧ v = x
  · obtain ⟨rfl, hv⟩ := hsv
    have HV := Aside0.mk hv
    clear hv
    go_enter Try.func15, Try.ntmps15
    go_wp2_with fail
    refine (same_v true A c v B d x _ (decide_eq_true HV.out) (Kd.R_reads' HR0.out).2.2 hlc HX.out hd (by omega)).mono ?_
    rintro e w2 ⟨rfl, hb2⟩
    clear zW1_0 zW1_1 zW1_2 zW1_3 zW1_4 zW1_5
    have HB3 := Aside0.mk hb2
    have BW3 : Aside0 (w2.heap[g]? = some (.cells #[.int .i64 nd, .int .i64 lf, .int .i64 tk, .bool true, .slice A v.length c, .int .i64 ag] 68 (0, 0))) := ⟨(hb2.block _ (blk_lt BW0.out)).trans BW0.out⟩
    have CX3 := Aside0.mk (Kd.C_below HX.out hb2)
    have RV3 := Aside0.mk (Kd.R_below HR0.out hb2)
    clear hb2
    go_wp2_with fail
    first | go_end0 | ((try simp only [Exit.inBlock, Exit.then]); refine bodyPost_ret (results_none rfl _ _ _) rfl ?_)
    have hv := HV.out
    subst hv
    rw [show sawAge true v v ag = ag from if_pos ⟨rfl, rfl⟩]
    exact ⟨rfl, ⟨A, c, BW3.out, RV3.out, hvl⟩, grown_of_below HB3.out _⟩
  · have HS := Aside0.mk hsv
    clear hsv
    cases sw
    · skip
      have HA := Aside0.mk (show sawAge false v x ag = 0 from if_neg HS.out)
      clear HS
      go_enter Try.func15, Try.ntmps15
      go_wp2_with fail
      refine (clone_v B d x _ HX.out hd hl).mono ?_
      rintro e w9 ⟨B2, d2, rfl, hR2, hb2⟩
      clear zW1_0 zW1_1 zW1_2 zW1_3 zW1_4 zW1_5
      have HB3 := Aside0.mk hb2
      have BW3 : Aside0 (w9.heap[g]? = some (.cells #[.int .i64 nd, .int .i64 lf, .int .i64 tk, .bool false, .slice A v.length c, .int .i64 ag] 68 (0, 0))) := ⟨(hb2.block _ (blk_lt BW0.out)).trans BW0.out⟩
      have CX3 := Aside0.mk (Kd.C_below HX.out hb2)
      have RV3 := Aside0.mk (Kd.R_below HR0.out hb2)
      clear hb2
      have HR2 := Aside0.mk hR2
      clear hR2
      have hf3 := blk_frozen BW3.out 3
      have hf4 := blk_frozen BW3.out 4
      have hf5 := blk_frozen BW3.out 5
      have zW4_0 : w9.cell? ⟨g, 0, none⟩ = some (.int .i64 nd) := (blk_cell BW3.out 0).trans rfl
      have zW4_1 : w9.cell? ⟨g, 1, none⟩ = some (.int .i64 lf) := (blk_cell BW3.out 1).trans rfl
      have zW4_2 : w9.cell? ⟨g, 2, none⟩ = some (.int .i64 tk) := (blk_cell BW3.out 2).trans rfl
      have zW4_3 : w9.cell? ⟨g, 3, none⟩ = some (.bool false) := (blk_cell BW3.out 3).trans rfl
      have zW4_4 : w9.cell? ⟨g, 4, none⟩ = some (.slice A v.length c) := (blk_cell BW3.out 4).trans rfl
      have zW4_5 : w9.cell? ⟨g, 5, none⟩ = some (.int .i64 ag) := (blk_cell BW3.out 5).trans rfl
      go_wp2_with fail
      first | go_end0 | ((try simp only [Exit.inBlock, Exit.then]); refine bodyPost_ret (results_none rfl _ _ _) rfl ?_)
      rw [HA.out]
      have hlt : g < w9.heap.size := blk_lt BW3.out
      have hR3 := Kd.R_types HR2.out BW3.out (by decide)
      refine ⟨rfl, ⟨B2, d2, blk_put (cs := #[.int .i64 nd, .int .i64 lf, .int .i64 tk, .bool true, .slice B2 x.length d2, .int .i64 ag]) (blk_put (cs := #[.int .i64 nd, .int .i64 lf, .int .i64 tk, .bool true, .slice A v.length c, .int .i64 ag]) (blk_put (cs := #[.int .i64 nd, .int .i64 lf, .int .i64 tk, .bool false, .slice A v.length c, .int .i64 ag]) BW3.out 3 _ rfl) 4 _ rfl) 5 _ rfl, ?_, hl⟩, ?_⟩
      · refine Kd.R_mono (Kd.R_far (p := ⟨g, 5, none⟩) (Kd.R_far (p := ⟨g, 4, none⟩) (Kd.R_far (p := ⟨g, 3, none⟩) (Kd.R_lower hR3 ?_) (fun _ hk => hk.2) _) (fun _ hk => hk.2) _) (fun _ hk => hk.2) _) (fun _ _ => trivial)
        exact blk_lt BW0.out
      · exact (((grown_of_below HB3.out (some g)).trans (grown_set _ _ _ _)).trans (grown_set _ _ _ _)).trans (grown_set _ _ _ _)
    · skip
      have HA := Aside0.mk (show sawAge true v x ag = 0 from if_neg HS.out)
      have hvx := Aside0.mk (show decide (v = x) = false from decide_eq_false (fun e => HS.out ⟨rfl, e⟩))
      clear HS
      go_enter Try.func15, Try.ntmps15
      go_wp2_with fail
      refine (same_v false A c v B d x _ hvx.out (Kd.R_reads' HR0.out).2.2 hlc HX.out hd (by omega)).mono ?_
      rintro e w2 ⟨rfl, hb2⟩
      clear zW1_0 zW1_1 zW1_2 zW1_3 zW1_4 zW1_5
      have HB3 := Aside0.mk hb2
      have BW3 : Aside0 (w2.heap[g]? = some (.cells #[.int .i64 nd, .int .i64 lf, .int .i64 tk, .bool true, .slice A v.length c, .int .i64 ag] 68 (0, 0))) := ⟨(hb2.block _ (blk_lt BW0.out)).trans BW0.out⟩
      have CX3 := Aside0.mk (Kd.C_below HX.out hb2)
      have RV3 := Aside0.mk (Kd.R_below HR0.out hb2)
      clear hb2
      go_wp2_with fail
      refine (clone_v B d x _ CX3.out hd hl).mono ?_
      rintro e w9 ⟨B2, d2, rfl, hR2, hb4⟩
      have HB5 := Aside0.mk (below_step HB3.out hb4)
      have BW5 : Aside0 (w9.heap[g]? = some (.cells #[.int .i64 nd, .int .i64 lf, .int .i64 tk, .bool true, .slice A v.length c, .int .i64 ag] 68 (0, 0))) := ⟨(hb4.block _ (blk_lt BW3.out)).trans BW3.out⟩
      have CX5 := Aside0.mk (Kd.C_below CX3.out hb4)
      have RV5 := Aside0.mk (Kd.R_below RV3.out hb4)
      clear hb4
      have HR2 := Aside0.mk hR2
      clear hR2
      have hf3 := blk_frozen BW5.out 3
      have hf4 := blk_frozen BW5.out 4
      have hf5 := blk_frozen BW5.out 5
      have zW6_0 : w9.cell? ⟨g, 0, none⟩ = some (.int .i64 nd) := (blk_cell BW5.out 0).trans rfl
      have zW6_1 : w9.cell? ⟨g, 1, none⟩ = some (.int .i64 lf) := (blk_cell BW5.out 1).trans rfl
      have zW6_2 : w9.cell? ⟨g, 2, none⟩ = some (.int .i64 tk) := (blk_cell BW5.out 2).trans rfl
      have zW6_3 : w9.cell? ⟨g, 3, none⟩ = some (.bool true) := (blk_cell BW5.out 3).trans rfl
      have zW6_4 : w9.cell? ⟨g, 4, none⟩ = some (.slice A v.length c) := (blk_cell BW5.out 4).trans rfl
      have zW6_5 : w9.cell? ⟨g, 5, none⟩ = some (.int .i64 ag) := (blk_cell BW5.out 5).trans rfl
      go_wp2_with fail
      first | go_end0 | ((try simp only [Exit.inBlock, Exit.then]); refine bodyPost_ret (results_none rfl _ _ _) rfl ?_)
      rw [HA.out]
      have hlt : g < w9.heap.size := blk_lt BW5.out
      have hR3 := Kd.R_types HR2.out BW5.out (by decide)
      refine ⟨rfl, ⟨B2, d2, blk_put (cs := #[.int .i64 nd, .int .i64 lf, .int .i64 tk, .bool true, .slice B2 x.length d2, .int .i64 ag]) (blk_put (cs := #[.int .i64 nd, .int .i64 lf, .int .i64 tk, .bool true, .slice A v.length c, .int .i64 ag]) (blk_put (cs := #[.int .i64 nd, .int .i64 lf, .int .i64 tk, .bool true, .slice A v.length c, .int .i64 ag]) BW5.out 3 _ rfl) 4 _ rfl) 5 _ rfl, ?_, hl⟩, ?_⟩
      · refine Kd.R_mono (Kd.R_far (p := ⟨g, 5, none⟩) (Kd.R_far (p := ⟨g, 4, none⟩) (Kd.R_far (p := ⟨g, 3, none⟩) (Kd.R_lower hR3 ?_) (fun _ hk => hk.2) _) (fun _ hk => hk.2) _) (fun _ hk => hk.2) _) (fun _ _ => trivial)
        first | exact blk_lt BW0.out | exact Nat.le_trans (blk_lt BW0.out) (by first | exact HB1.out.size | exact HB2.out.size | exact HB3.out.size)
      · exact (((grown_of_below HB5.out (some g)).trans (grown_set _ _ _ _)).trans (grown_set _ _ _ _)).trans (grown_set _ _ _ _)
set_option maxHeartbeats 2000000 in
set_option maxRecDepth 100000 in
theorem lease_c (W : World) (g : Nat) (nd lf tk : Int) (sw : Bool) (v : List Int) (ag : Int) (h : WAt W g nd lf tk sw v ag) :
    Calls Try.prog 21 #[.pointer (some ⟨g, 0, none⟩)] W fun e w' => e = .returned (.tuple #[.agg (leaA (leaseOf v)), .bool (okL v)]) ∧ Below W.heap.size W w' := by
  have hu32 := Try.underlying32
  have hu24 := Try.underlying24
  obtain ⟨A, c, hB0, hR0, hvl⟩ := h
  have BW0 := Aside0.mk hB0
  have HR0 := Aside0.mk hR0
  have hlc := (Kd.R_reads' hR0).2.1
  have hmax := Kd.C_max (Kd.R_reads' hR0).2.2
  clear hB0 hR0
  have zW1_0 : W.cell? ⟨g, 0, none⟩ = some (.int .i64 nd) := (blk_cell BW0.out 0).trans rfl
  have zW1_1 : W.cell? ⟨g, 1, none⟩ = some (.int .i64 lf) := (blk_cell BW0.out 1).trans rfl
  have zW1_2 : W.cell? ⟨g, 2, none⟩ = some (.int .i64 tk) := (blk_cell BW0.out 2).trans rfl
  have zW1_3 : W.cell? ⟨g, 3, none⟩ = some (.bool sw) := (blk_cell BW0.out 3).trans rfl
  have zW1_4 : W.cell? ⟨g, 4, none⟩ = some (.slice A v.length c) := (blk_cell BW0.out 4).trans rfl
  have zW1_5 : W.cell? ⟨g, 5, none⟩ = some (.int .i64 ag) := (blk_cell BW0.out 5).trans rfl
  go_enter Try.func21, Try.ntmps21
  go_wp2_with ((with_reducible refine gate_dst (N := 2) rfl ?_); refine box_event ?hg (N := 2) ?hd (cs := #[.int .i64 0, .int .i64 0, .int .i64 0, .int .i64 0]) (t := 24) ?hr ?_; (case hd => rfl); (case hg => rfl); (case hr => first | (go_simp; done) | (go_simp; rfl)); intro gb2 hg2 W2 hbox2 hb2; have GSb2 : Aside0 (W.heap.size ≤ gb2) := ⟨by rw [hg2]; exact Nat.le_refl _⟩; have Bb2 := Aside0.mk hbox2; have Gb2 : Aside0 (W.heap.size ≤ gb2) := ⟨by rw [hg2]; exact Nat.le_refl _⟩; have hbk2 := hb2; clear hg2 hbox2; clear zW1_0 zW1_1 zW1_2 zW1_3 zW1_4 zW1_5; have HB3 := Aside0.mk hbk2; have BW3 : Aside0 (W2.heap[g]? = some (.cells #[.int .i64 nd, .int .i64 lf, .int .i64 tk, .bool sw, .slice A v.length c, .int .i64 ag] 68 (0, 0))) := ⟨(hbk2.block _ (blk_lt BW0.out)).trans BW0.out⟩; have RV3 := Aside0.mk (Kd.R_below HR0.out hbk2); clear hbk2; clear hb2; have zW4_0 : W2.cell? ⟨g, 0, none⟩ = some (.int .i64 nd) := (blk_cell BW3.out 0).trans rfl; have zW4_1 : W2.cell? ⟨g, 1, none⟩ = some (.int .i64 lf) := (blk_cell BW3.out 1).trans rfl; have zW4_2 : W2.cell? ⟨g, 2, none⟩ = some (.int .i64 tk) := (blk_cell BW3.out 2).trans rfl; have zW4_3 : W2.cell? ⟨g, 3, none⟩ = some (.bool sw) := (blk_cell BW3.out 3).trans rfl; have zW4_4 : W2.cell? ⟨g, 4, none⟩ = some (.slice A v.length c) := (blk_cell BW3.out 4).trans rfl; have zW4_5 : W2.cell? ⟨g, 5, none⟩ = some (.int .i64 ag) := (blk_cell BW3.out 5).trans rfl; have zb4_0 : W2.cell? ⟨gb2, 0, none⟩ = some (.int .i64 0) := (blk_cell Bb2.out 0).trans rfl; have zb4_1 : W2.cell? ⟨gb2, 1, none⟩ = some (.int .i64 0) := (blk_cell Bb2.out 1).trans rfl; have zb4_2 : W2.cell? ⟨gb2, 2, none⟩ = some (.int .i64 0) := (blk_cell Bb2.out 2).trans rfl; have zb4_3 : W2.cell? ⟨gb2, 3, none⟩ = some (.int .i64 0) := (blk_cell Bb2.out 3).trans rfl)
  refine (take_v A c v _ (Kd.R_reads' RV3.out).2.2 hlc).mono ?_
  rintro e w9 ⟨rfl, hb5⟩
  clear zW4_0 zW4_1 zW4_2 zW4_3 zW4_4 zW4_5 zb4_0 zb4_1 zb4_2 zb4_3
  have HB6 := Aside0.mk (below_step HB3.out hb5)
  have BW6 : Aside0 (w9.heap[g]? = some (.cells #[.int .i64 nd, .int .i64 lf, .int .i64 tk, .bool sw, .slice A v.length c, .int .i64 ag] 68 (0, 0))) := ⟨(hb5.block _ (blk_lt BW3.out)).trans BW3.out⟩
  have Bb6 : Aside0 (w9.heap[gb2]? = some (.cells #[.int .i64 0, .int .i64 0, .int .i64 0, .int .i64 0] 24 (0, 0))) := ⟨(hb5.block _ (blk_lt Bb2.out)).trans Bb2.out⟩
  have RV6 := Aside0.mk (Kd.R_below RV3.out hb5)
  clear hb5
  have hf0 := blk_frozen Bb6.out 0
  have hf1 := blk_frozen Bb6.out 1
  have hf2 := blk_frozen Bb6.out 2
  have hf3 := blk_frozen Bb6.out 3
  obtain ⟨l, hl⟩ : ∃ l, leaseOf v = l := ⟨_, rfl⟩
  have HLL := Aside0.mk hl
  rw [hl]
  clear hl
  have zW7_0 : w9.cell? ⟨g, 0, none⟩ = some (.int .i64 nd) := (blk_cell BW6.out 0).trans rfl
  have zW7_1 : w9.cell? ⟨g, 1, none⟩ = some (.int .i64 lf) := (blk_cell BW6.out 1).trans rfl
  have zW7_2 : w9.cell? ⟨g, 2, none⟩ = some (.int .i64 tk) := (blk_cell BW6.out 2).trans rfl
  have zW7_3 : w9.cell? ⟨g, 3, none⟩ = some (.bool sw) := (blk_cell BW6.out 3).trans rfl
  have zW7_4 : w9.cell? ⟨g, 4, none⟩ = some (.slice A v.length c) := (blk_cell BW6.out 4).trans rfl
  have zW7_5 : w9.cell? ⟨g, 5, none⟩ = some (.int .i64 ag) := (blk_cell BW6.out 5).trans rfl
  have zb7_0 : w9.cell? ⟨gb2, 0, none⟩ = some (.int .i64 0) := (blk_cell Bb6.out 0).trans rfl
  have zb7_1 : w9.cell? ⟨gb2, 1, none⟩ = some (.int .i64 0) := (blk_cell Bb6.out 1).trans rfl
  have zb7_2 : w9.cell? ⟨gb2, 2, none⟩ = some (.int .i64 0) := (blk_cell Bb6.out 2).trans rfl
  have zb7_3 : w9.cell? ⟨gb2, 3, none⟩ = some (.int .i64 0) := (blk_cell Bb6.out 3).trans rfl
  go_wp2_with fail
  refine bodyPost_ret (results_ct rfl _ _ gb2 24 #[.int .i64 l.1, .int .i64 l.2.1, .int .i64 l.2.2.1, .int .i64 l.2.2.2] (0, 0) _ rfl (by refine blk_put (cs := #[.int .i64 l.1, .int .i64 l.2.1, .int .i64 l.2.2.1, .int .i64 0]) ?_ 3 _ rfl; refine blk_put (cs := #[.int .i64 l.1, .int .i64 l.2.1, .int .i64 0, .int .i64 0]) ?_ 2 _ rfl; refine blk_put (cs := #[.int .i64 l.1, .int .i64 0, .int .i64 0, .int .i64 0]) ?_ 1 _ rfl; refine blk_put (cs := #[.int .i64 0, .int .i64 0, .int .i64 0, .int .i64 0]) ?_ 0 _ rfl; exact Bb6.out) Try.underlying24 rfl (by kernel_rfl)) rfl ?_
  rw [HLL.out]
  exact ⟨rfl, by repeat (first | exact HB6.out | refine below_set ?_ Gb2.out)⟩
end Go.Proofs.Ytimfbdiiaakhiaa.MAll

/- Plan: the contracts, in plain terms. -/
import Derived.Test.YtdaapjkfkfaflaaPk
set_option linter.unusedVariables false
set_option linter.unusedSimpArgs false
namespace Go.Proofs.Ytdaapjkfkfaflaa.MAll
open Go.RowKit Go.Proofs.YtdaapjkfkfaflaaW.PrintWords Go.Proofs.YtdaapjkfkfaflaaW.PrintLast Go.Proofs.YtdaapjkfkfaflaaW.PrintMore

theorem alive_any (w : World) : Calls Try.prog 8 #[] w fun e w' => e = .returned (.bool true) ∧ Below w.heap.size w w' := estuarylaw19_alive.calls 2 true w alive_f
section
variable (g : Bool) (s k : Int) (A : Option Addr) (ca : Nat) (l : List Int) (sh h c b le : Int) (w : World) (hg : goodP s k l sh h c b le = g) (hr : (Kd.int .i64).C w A l.length l) (hc : l.length ≤ ca)
include hg hr hc
theorem check_v : Calls Try.prog 9 #[.agg (planCells s k A l.length ca sh h c b le)] w fun e w' => e = .returned (errW (if g then none else some 14)) ∧ Below w.heap.size w w' :=
  check_is _ s k A ca l sh h c b le w (by rw [hg]) hr hc
theorem nodes_v : Calls Try.prog 12 #[.agg (planCells s k A l.length ca sh h c b le)] w fun e w' => e = .returned (.int .i64 (if g then s + 2 + k + 1 else 0)) ∧ Below w.heap.size w w' :=
  plan_Nodes.calls s k A ca l sh h c b le _ w hr hc (by unfold plan_Nodes.f; rw [hg])
theorem lanes_v : Calls Try.prog 11 #[.agg (planCells s k A l.length ca sh h c b le)] w fun e w' => e = .returned (.int .i64 (if g then (l.length : Int) * sh else 0)) ∧ Below w.heap.size w w' :=
  plan_Lanes.calls 1 s k A ca l sh h c b le _ w hr hc (lanes_f g s k l sh h c b le hg)
theorem refgood_v : Calls Try.prog 10 #[.agg (planCells s k A l.length ca sh h c b le)] w fun e w' => e = .returned (.bool g) ∧ Below w.heap.size w w' :=
  estuaryref19_Good.calls 9 s k A ca l sh h c b le _ w hr hc (by rw [refgood_f, hg])
theorem refroles_v : Calls Try.prog 13 #[.agg (planCells s k A l.length ca sh h c b le)] w fun e w' => ∃ u : Value, e = .returned u ∧ (Kd.int .i64).R 3 w' w.heap.size (fun _ => True) u (if g then rolesL s k else []) ∧ Below w.heap.size w w' :=
  estuaryref19_Roles.calls 20 s k A ca l sh h c b le _ w hr hc (roles_f g s k l sh h c b le hg)
theorem of_v (ro : Int) : Calls Try.prog 16 #[.agg (planCells s k A l.length ca sh h c b le), .int .i64 ro] w fun e w' => ∃ u : Value, e = .returned u ∧ (Kd.int .i64).R 3 w' w.heap.size (fun _ => True) u (if g then ofL s k ro else []) ∧ Below w.heap.size w w' :=
  plan_Of.calls 20 s k A ca l sh h c b le ro _ w hr hc (of_f g s k l sh h c b le ro hg)
theorem refof_v (ro : Int) : Calls Try.prog 24 #[.agg (planCells s k A l.length ca sh h c b le), .int .i64 ro] w fun e w' => ∃ u : Value, e = .returned u ∧ (Kd.int .i64).R 3 w' w.heap.size (fun _ => True) u (if g then ofL s k ro else []) ∧ Below w.heap.size w w' :=
  estuaryref19_Of.calls 20 s k A ca l sh h c b le ro _ w hr hc (refof_f g s k l sh h c b le ro hg)
theorem role_v (n : Int) (hn : i64ok n) : Calls Try.prog 17 #[.agg (planCells s k A l.length ca sh h c b le), .int .i64 n] w fun e w' => e = .returned (.tuple #[.int .i64 (roleAt (szA g s) (szA g 2) (szA g k) (szA g 1) n).1, .int .i64 (roleAt (szA g s) (szA g 2) (szA g k) (szA g 1) n).2.1, .bool (roleAt (szA g s) (szA g 2) (szA g k) (szA g 1) n).2.2]) ∧ Below w.heap.size w w' :=
  plan_Role.calls s k A ca l sh h c b le n _ _ _ w hr hc (by unfold plan_Role.f; rw [if_pos hn.2, hg])
theorem node_v (ro i : Int) : Calls Try.prog 18 #[.agg (planCells s k A l.length ca sh h c b le), .int .i64 ro, .int .i64 i] w fun e w' => e = .returned (.tuple #[.int .i64 (nodeAt (szA g s) (szA g 2) (szA g k) (szA g 1) ro i).1, .bool (nodeAt (szA g s) (szA g 2) (szA g k) (szA g 1) ro i).2]) ∧ Below w.heap.size w w' :=
  plan_Node.calls s k A ca l sh h c b le ro i _ _ w hr hc (by unfold plan_Node.f; rw [hg])
end
theorem ints_l0 (l0 l1 : List Int) (hl : l0.length = l1.length) (hm : l0.length < 9223372036854775807) : ∀ n i : Nat, i + n = l0.length → estuarynum_Ints.l0 (n + 1) l0 l1 (l0.length : Int) i = some (decide (l0.drop i = l1.drop i)) := by
  intro n
  induction n with
  | zero =>
    intro i hi
    rw [estuarynum_Ints.l0, if_neg (by omega), List.drop_eq_nil_of_le (by omega), List.drop_eq_nil_of_le (by omega)]
    simp
  | succ n ih =>
    intro i hi
    have h0 : i < l0.length := by omega
    have h1 : i < l1.length := by omega
    have e0 : rd l0 (i : Int) = l0[i] := by simp [rd, List.getD_eq_getElem?_getD, List.getElem?_eq_getElem h0]
    have e1 : rd l1 (i : Int) = l1[i] := by simp [rd, List.getD_eq_getElem?_getD, List.getElem?_eq_getElem h1]
    have hw : wrap64 ((i : Int) + 1) = ((i + 1 : Nat) : Int) := by unfold wrap64; omega
    rw [estuarynum_Ints.l0, if_pos (by omega), if_pos (by omega), if_pos (by omega), if_pos (by omega), e0, e1, hw, ih (i + 1) (by omega), List.drop_eq_getElem_cons h0, List.drop_eq_getElem_cons h1]
    split
    · rename_i h; simp only [List.cons.injEq, h, true_and, false_and, decide_false]
    · rename_i h; simp only [List.cons.injEq, h, true_and, false_and, decide_false]
theorem ints_v (b : Bool) (A0 : Option Addr) (c0 : Nat) (l0 : List Int) (A1 : Option Addr) (c1 : Nat) (l1 : List Int) (w : World) (hb : decide (l0 = l1) = b) (hr0 : (Kd.int .i64).C w A0 l0.length l0) (hc0 : l0.length ≤ c0) (hr1 : (Kd.int .i64).C w A1 l1.length l1) (hc1 : l1.length ≤ c1) (hm : l0.length < 9223372036854775807) :
    Calls Try.prog 14 #[.slice A0 l0.length c0, .slice A1 l1.length c1] w fun e w' => e = .returned (.bool b) ∧ Below w.heap.size w w' := by
  refine (estuarynum_Ints.calls (l0.length + 1) A0 c0 l0 A1 c1 l1 b w hr0 hc0 hr1 hc1 ?_).mono fun _ _ ⟨he, hd⟩ => ⟨he, hd.below⟩
  unfold estuarynum_Ints.f
  by_cases hl : l0.length = l1.length
  · have := ints_l0 l0 l1 hl hm l0.length 0 (by omega)
    rw [if_pos (by omega)]
    rw [← hb]
    simpa using this
  · rw [if_neg (by omega), ← hb]
    congr 1
    exact (decide_eq_false (fun e => hl (by rw [e]))).symm
end Go.Proofs.Ytdaapjkfkfaflaa.MAll

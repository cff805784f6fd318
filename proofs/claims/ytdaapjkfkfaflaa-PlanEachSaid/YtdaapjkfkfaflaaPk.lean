/- Plan: a plan's cells; PlanLanes, the walk. -/
import Derived.Test.YtdaapjkfkfaflaaPm
import Derived.OpenShut
set_option linter.unusedVariables false
set_option linter.unusedSimpArgs false
namespace Go.Proofs.Ytdaapjkfkfaflaa.MAll
open Go.RowKit Go.Proofs.YtdaapjkfkfaflaaW.PrintWords Go.Proofs.YtdaapjkfkfaflaaW.PrintLast Go.Proofs.YtdaapjkfkfaflaaW.PrintMore

abbrev PlanT := Int × Int × List Int × Int × Int × Int × Int × Int
abbrev ki : Kd Int := Kd.int .i64
def kPlan : Kd PlanT := Kd.iso (Kd.pair ki (Kd.pair ki (Kd.pair (Kd.slice 3 ki) (Kd.pair ki (Kd.pair ki (Kd.pair ki (Kd.pair ki ki))))))) id
abbrev planCells (s k : Int) (A : Option Addr) (n ca : Nat) (sh h c b le : Int) : Array Value := #[.int .i64 s, .int .i64 k, .slice A n ca, .int .i64 sh, .int .i64 h, .int .i64 c, .int .i64 b, .int .i64 le]
theorem plan_cells {w : World} {y : PlanT} {cs : List Value} (h : kPlan.K w y cs) :
    ∃ A ca, cs = (planCells y.1 y.2.1 A y.2.2.1.length ca y.2.2.2.1 y.2.2.2.2.1 y.2.2.2.2.2.1 y.2.2.2.2.2.2.1 y.2.2.2.2.2.2.2).toList ∧ y.2.2.1.length ≤ ca ∧ (Kd.int .i64).C w A y.2.2.1.length y.2.2.1 := by
  obtain ⟨a0, _, rfl, e0, a1, _, rfl, e1, a2, _, rfl, ⟨A, ca, rfl, hc, hC⟩, a3, _, rfl, e3, a4, _, rfl, e4, a5, _, rfl, e5, a6, _, rfl, e6, e7⟩ := h
  obtain rfl : a0 = [.int .i64 y.1] := e0
  obtain rfl : a1 = [.int .i64 y.2.1] := e1
  obtain rfl : a3 = [.int .i64 y.2.2.2.1] := e3
  obtain rfl : a4 = [.int .i64 y.2.2.2.2.1] := e4
  obtain rfl : a5 = [.int .i64 y.2.2.2.2.2.1] := e5
  obtain rfl : a6 = [.int .i64 y.2.2.2.2.2.2.1] := e6
  rw [show _ = [Value.int .i64 y.2.2.2.2.2.2.2] from e7]
  exact ⟨A, ca, rfl, hc, hC⟩
abbrev PlanQ (y : PlanT) : Prop := (Lit.int .i64 y.1).wf = true ∧ (Lit.int .i64 y.2.1).wf = true ∧ (y.2.2.1.length * Try.prog.bytesOf 3 ≤ 140737488351232 ∧ ∀ x ∈ y.2.2.1, (Lit.int .i64 x).wf = true) ∧ (Lit.int .i64 y.2.2.2.1).wf = true ∧ (Lit.int .i64 y.2.2.2.2.1).wf = true ∧ (Lit.int .i64 y.2.2.2.2.2.1).wf = true ∧ (Lit.int .i64 y.2.2.2.2.2.2.1).wf = true ∧ (Lit.int .i64 y.2.2.2.2.2.2.2).wf = true
theorem wf_ok {x : Int} (h : (Lit.int .i64 x).wf = true) : i64ok x := bounds_i64 h
theorem lanes_walk (w : World) (cs : Array Value) (y : PlanT) (hK : kPlan.K w y cs.toList) (hq : PlanQ y) (i : Int) (hi : (Lit.int .i64 i).wf = true) (key : Int) (hk : (Lit.int .i64 key).wf = true) :
    Calls Try.prog 7 #[.agg cs, .int .i64 i, .int .i64 key] w fun e w' => e = .returned (.bool true) ∧ Below w.heap.size w w' := by
  obtain ⟨A, ca, he, hc, hC⟩ := plan_cells hK
  obtain rfl : cs = planCells y.1 y.2.1 A y.2.2.1.length ca y.2.2.2.1 y.2.2.2.2.1 y.2.2.2.2.2.1 y.2.2.2.2.2.2.1 y.2.2.2.2.2.2.2 := by
    rw [← Array.toArray_toList (xs := cs), he]
  exact estuarylaw19_PlanLanes.calls 9 _ _ A ca _ _ _ _ _ _ i key true w hC hc (planlanes_f _ _ _ _ _ _ _ _ i key (wf_ok hk))
end Go.Proofs.Ytdaapjkfkfaflaa.MAll

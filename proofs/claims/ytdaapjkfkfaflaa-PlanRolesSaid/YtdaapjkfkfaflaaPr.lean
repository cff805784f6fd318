/- PlanRoles: the law's own walk. -/
import Derived.Test.YtdaapjkfkfaflaaPn
set_option linter.unusedVariables false
set_option linter.unusedSimpArgs false
namespace Go.Proofs.Ytdaapjkfkfaflaa.MAll
open Go.RowKit Go.Proofs.YtdaapjkfkfaflaaW.PrintWords Go.Proofs.YtdaapjkfkfaflaaW.PrintLast Go.Proofs.YtdaapjkfkfaflaaW.PrintMore

abbrev AskedT := PlanT × Int × Int × Int
set_option maxHeartbeats 1000000 in
set_option maxRecDepth 100000 in
theorem roles_any (s k : Int) (A : Option Addr) (ca : Nat) (l : List Int) (sh h c b le ro i n : Int) (w : World) (hr : (Kd.int .i64).C w A l.length l) (hc : l.length ≤ ca) (hn : i64ok n) :
    Calls Try.prog 5 #[.agg #[.int .i64 s, .int .i64 k, .slice A l.length ca, .int .i64 sh, .int .i64 h, .int .i64 c, .int .i64 b, .int .i64 le, .int .i64 ro, .int .i64 i, .int .i64 n]] w fun e w' => e = .returned (.bool true) ∧ Below w.heap.size w w' := by
  have HR := Aside0.mk hr
  have HN := Aside0.mk hn
  clear hr hn
  have hu24 := Try.underlying24
  have hu39 := Try.underlying39
  go_enter Try.func5, Try.ntmps5
  go_wp2_with fail
  refine (nodes_any s k A ca l sh h c b le ro i n _ (Kd.C_alloc HR.out _) hc HN.out).mono ?_
  rintro e w1 ⟨rfl, hb1⟩
  have HB := Aside0.mk (below_step (below_alloc (Below.refl _ w) _) hb1)
  clear hb1
  go_wp2_with fail
  go_ret
  exact ⟨rfl, HB.out⟩
def kAsked : Kd AskedT := Kd.iso (Kd.pair kPlan (Kd.pair ki (Kd.pair ki ki))) id
abbrev AskedQ (y : AskedT) : Prop := PlanQ y.1 ∧ (Lit.int .i64 y.2.1).wf = true ∧ (Lit.int .i64 y.2.2.1).wf = true ∧ (Lit.int .i64 y.2.2.2).wf = true
theorem roles_walk (w : World) (cs : Array Value) (y : AskedT) (hK : kAsked.K w y cs.toList) (hq : AskedQ y) :
    Calls Try.prog 5 #[.agg cs] w fun e w' => e = .returned (.bool true) ∧ Below w.heap.size w w' := by
  obtain ⟨a0, a1, he, e0, a2, a3, rfl, e1, a4, a5, rfl, e2, e3⟩ := hK
  obtain ⟨A, ca, rfl, hc, hC⟩ := plan_cells e0
  obtain rfl : a2 = [.int .i64 y.2.1] := e1
  obtain rfl : a4 = [.int .i64 y.2.2.1] := e2
  obtain rfl : a5 = [.int .i64 y.2.2.2] := e3
  obtain rfl : cs = #[.int .i64 y.1.1, .int .i64 y.1.2.1, .slice A y.1.2.2.1.length ca, .int .i64 y.1.2.2.2.1, .int .i64 y.1.2.2.2.2.1, .int .i64 y.1.2.2.2.2.2.1, .int .i64 y.1.2.2.2.2.2.2.1, .int .i64 y.1.2.2.2.2.2.2.2, .int .i64 y.2.1, .int .i64 y.2.2.1, .int .i64 y.2.2.2] := by
    rw [← Array.toArray_toList (xs := cs), he]
    rfl
  exact roles_any _ _ A ca _ _ _ _ _ _ _ _ _ w hC hc (wf_ok hq.2.2.2)
end Go.Proofs.Ytdaapjkfkfaflaa.MAll

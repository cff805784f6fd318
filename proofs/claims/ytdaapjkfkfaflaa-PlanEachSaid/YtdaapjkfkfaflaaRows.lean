/-
  No cell of these rows narrows 'for every input' (looked for: loops, veiled, ifaces, maps, wideKeys, modest, calm, conditions, laid).
  DERIVED. THE GIVEN ROWS OF THIS SEAT. 5 by the template 'for every input the law returns true; each argument reads behind the call as it read before'; 0 by the template 'total and deterministic' (their statements: YtdaapjkfkfaflaaTotals.lean).
  GIVEN WITH THE SEED: the statements are not yours to turn. If you find one false, say at which input.
  Laid BY PROGRAM, IN A SANDBOX (cutbox-rows.mjs): the forced cells as the released guide's own fill.sh prints them over the translation ecd74a4757f69536… (all of the seat's roots in one cut). By AI agents, Wed Nov 11 2026. No macro, syntax, notation, axiom, sorry.
-/
import Derived.Test.YtdaapjkfkfaflaaChecked
import GoSem.Claim
import GoSem.ClaimJoined
import GoSem.ClaimMapViews
import Derived.JoinedTies
import Derived.KernelRfl
namespace Go.Proofs.Ytdaapjkfkfaflaa
/- THE CELL 'sum', in the pinned program and in every row, IS THE sha256 OF THE DUMP (.gsa) THAT YtdaapjkfkfaflaaProg.lean LOADS. Nothing in Lean hashes anything: it is a label: what it is worth is what the hold of that sum in a sandbox is worth. -/
noncomputable def Try.pinned : Pinned := { name := "ytdaapjkfkfaflaa", sum := "ecd74a4757f695365e2cbaad5162bc2b1edee92ce1e5e3c3e35694684aaa4751", checked := Try.checked }
namespace Rows
def none {H : Type} : Left H := { results := [], args := [] }

/-- 'estuarylaw19.PlanChecks': WHATEVER THE INPUT: true; the input reads as it did. -/
def planChecksSpec : ChangeSpec := { name := "planChecks", fn := fun _ => fun
  | [d] => { results := [.lit (.bool true)], args := [d] }
  | _ => none }
def planChecksRow : OpenClaim := { program := "ytdaapjkfkfaflaa", sum := "ecd74a4757f695365e2cbaad5162bc2b1edee92ce1e5e3c3e35694684aaa4751", func := "estuary/estuarylaw19.PlanChecks", spec := "planChecks", apart := false }
def PlanChecksSaid : Prop := planChecksRow.holds Try.pinned (OpenSpec.ofChange planChecksSpec)

/-- ITS FALSE NEIGHBOUR: 'it returns false'. Refute it at one input. -/
def planChecksWrong : ChangeSpec := { name := "planChecks", fn := fun _ => fun
  | [d] => { results := [.lit (.bool false)], args := [d] }
  | _ => none }
def PlanChecksWrongFalsely : Prop := planChecksRow.holds Try.pinned (OpenSpec.ofChange planChecksWrong)

/-- 'estuarylaw19.PlanBounds': WHATEVER THE INPUT: true; the input reads as it did. -/
def planBoundsSpec : ChangeSpec := { name := "planBounds", fn := fun _ => fun
  | [d1, d2] => { results := [.lit (.bool true)], args := [d1, d2] }
  | _ => none }
def planBoundsRow : OpenClaim := { program := "ytdaapjkfkfaflaa", sum := "ecd74a4757f695365e2cbaad5162bc2b1edee92ce1e5e3c3e35694684aaa4751", func := "estuary/estuarylaw19.PlanBounds", spec := "planBounds", apart := false }
def PlanBoundsSaid : Prop := planBoundsRow.holds Try.pinned (OpenSpec.ofChange planBoundsSpec)

/-- ITS FALSE NEIGHBOUR: 'it returns false'. Refute it at one input. -/
def planBoundsWrong : ChangeSpec := { name := "planBounds", fn := fun _ => fun
  | [d1, d2] => { results := [.lit (.bool false)], args := [d1, d2] }
  | _ => none }
def PlanBoundsWrongFalsely : Prop := planBoundsRow.holds Try.pinned (OpenSpec.ofChange planBoundsWrong)

/-- 'estuarylaw19.PlanRoles': WHATEVER THE INPUT: true; the input reads as it did. -/
def planRolesSpec : ChangeSpec := { name := "planRoles", fn := fun _ => fun
  | [d] => { results := [.lit (.bool true)], args := [d] }
  | _ => none }
def planRolesRow : OpenClaim := { program := "ytdaapjkfkfaflaa", sum := "ecd74a4757f695365e2cbaad5162bc2b1edee92ce1e5e3c3e35694684aaa4751", func := "estuary/estuarylaw19.PlanRoles", spec := "planRoles", apart := false }
def PlanRolesSaid : Prop := planRolesRow.holds Try.pinned (OpenSpec.ofChange planRolesSpec)

/-- ITS FALSE NEIGHBOUR: 'it returns false'. Refute it at one input. -/
def planRolesWrong : ChangeSpec := { name := "planRoles", fn := fun _ => fun
  | [d] => { results := [.lit (.bool false)], args := [d] }
  | _ => none }
def PlanRolesWrongFalsely : Prop := planRolesRow.holds Try.pinned (OpenSpec.ofChange planRolesWrong)

/-- 'estuarylaw19.PlanEach': WHATEVER THE INPUT: true; the input reads as it did. -/
def planEachSpec : ChangeSpec := { name := "planEach", fn := fun _ => fun
  | [d] => { results := [.lit (.bool true)], args := [d] }
  | _ => none }
def planEachRow : OpenClaim := { program := "ytdaapjkfkfaflaa", sum := "ecd74a4757f695365e2cbaad5162bc2b1edee92ce1e5e3c3e35694684aaa4751", func := "estuary/estuarylaw19.PlanEach", spec := "planEach", apart := false }
def PlanEachSaid : Prop := planEachRow.holds Try.pinned (OpenSpec.ofChange planEachSpec)

/-- ITS FALSE NEIGHBOUR: 'it returns false'. Refute it at one input. -/
def planEachWrong : ChangeSpec := { name := "planEach", fn := fun _ => fun
  | [d] => { results := [.lit (.bool false)], args := [d] }
  | _ => none }
def PlanEachWrongFalsely : Prop := planEachRow.holds Try.pinned (OpenSpec.ofChange planEachWrong)

/-- 'estuarylaw19.PlanLanes': WHATEVER THE INPUT: true; the input reads as it did. -/
def planLanesSpec : ChangeSpec := { name := "planLanes", fn := fun _ => fun
  | [d1, d2, d3] => { results := [.lit (.bool true)], args := [d1, d2, d3] }
  | _ => none }
def planLanesRow : OpenClaim := { program := "ytdaapjkfkfaflaa", sum := "ecd74a4757f695365e2cbaad5162bc2b1edee92ce1e5e3c3e35694684aaa4751", func := "estuary/estuarylaw19.PlanLanes", spec := "planLanes", apart := false }
def PlanLanesSaid : Prop := planLanesRow.holds Try.pinned (OpenSpec.ofChange planLanesSpec)

/-- ITS FALSE NEIGHBOUR: 'it returns false'. Refute it at one input. -/
def planLanesWrong : ChangeSpec := { name := "planLanes", fn := fun _ => fun
  | [d1, d2, d3] => { results := [.lit (.bool false)], args := [d1, d2, d3] }
  | _ => none }
def PlanLanesWrongFalsely : Prop := planLanesRow.holds Try.pinned (OpenSpec.ofChange planLanesWrong)

/- THE SECOND FORM. 'bulk': how many values and letters a reading holds, each counted each time it is reached (what is shared counts as often as it is met; a slice's spare places count too). A statement '..UptoSaid' is the law's where the arguments, and the package variables that the reading takes, are together of bulk at most 1048576: NARROWER than '..Said'. Prove '..Said' where nothing that the law and all that it calls make is longer than what came in: it says more and counts as full. Else prove '..UptoSaid'. A law counts once. -/
mutual
def uptoBulk {H : Type} : DataW H → Nat
  | .lit (.string bytes) => bytes.length + 1
  | .lit _ => 1
  | .nil => 1
  | .ptr d => uptoBulk d + 1
  | .slice elems spare => uptoBulkAll elems + uptoBulkAll spare + 1
  | .agg parts => uptoBulkAll parts + 1
  | .iface _ d => uptoBulk d + 1
  | .map entries => uptoBulkEntries entries + 1
  | .held _ => 1
def uptoBulkAll {H : Type} : List (DataW H) → Nat
  | [] => 0
  | d :: r => uptoBulk d + uptoBulkAll r
def uptoBulkEntries {H : Type} : List (Lit × DataW H) → Nat
  | [] => 0
  | x :: r => uptoBulkEntry x + uptoBulkEntries r
def uptoBulkEntry {H : Type} : Lit × DataW H → Nat
  | (.string bytes, d) => bytes.length + uptoBulk d + 1
  | (_, d) => uptoBulk d + 1
 end
def uptoSmall : (H : Type) → List (DataW H) → Bool := fun _ ds => decide (uptoBulkAll ds ≤ 1048576)
def OpenSpec.upto (s : _root_.Go.ChangeSpec) : _root_.Go.OpenSpec := { _root_.Go.OpenSpec.ofChange s with cond := some uptoSmall }

/-- 'estuarylaw19.PlanChecks', WHERE WHAT IT READS IS OF BULK AT MOST 1048576: true; the input reads as it did. -/
def planChecksUptoRow : OpenClaim := { program := "ytdaapjkfkfaflaa", sum := "ecd74a4757f695365e2cbaad5162bc2b1edee92ce1e5e3c3e35694684aaa4751", func := "estuary/estuarylaw19.PlanChecks", spec := "planChecks", apart := false, narrowed := true }
def PlanChecksUptoSaid : Prop := planChecksUptoRow.holds Try.pinned (OpenSpec.upto planChecksSpec)

/-- 'estuarylaw19.PlanBounds', WHERE WHAT IT READS IS OF BULK AT MOST 1048576: true; the input reads as it did. -/
def planBoundsUptoRow : OpenClaim := { program := "ytdaapjkfkfaflaa", sum := "ecd74a4757f695365e2cbaad5162bc2b1edee92ce1e5e3c3e35694684aaa4751", func := "estuary/estuarylaw19.PlanBounds", spec := "planBounds", apart := false, narrowed := true }
def PlanBoundsUptoSaid : Prop := planBoundsUptoRow.holds Try.pinned (OpenSpec.upto planBoundsSpec)

/-- 'estuarylaw19.PlanRoles', WHERE WHAT IT READS IS OF BULK AT MOST 1048576: true; the input reads as it did. -/
def planRolesUptoRow : OpenClaim := { program := "ytdaapjkfkfaflaa", sum := "ecd74a4757f695365e2cbaad5162bc2b1edee92ce1e5e3c3e35694684aaa4751", func := "estuary/estuarylaw19.PlanRoles", spec := "planRoles", apart := false, narrowed := true }
def PlanRolesUptoSaid : Prop := planRolesUptoRow.holds Try.pinned (OpenSpec.upto planRolesSpec)

/-- 'estuarylaw19.PlanEach', WHERE WHAT IT READS IS OF BULK AT MOST 1048576: true; the input reads as it did. -/
def planEachUptoRow : OpenClaim := { program := "ytdaapjkfkfaflaa", sum := "ecd74a4757f695365e2cbaad5162bc2b1edee92ce1e5e3c3e35694684aaa4751", func := "estuary/estuarylaw19.PlanEach", spec := "planEach", apart := false, narrowed := true }
def PlanEachUptoSaid : Prop := planEachUptoRow.holds Try.pinned (OpenSpec.upto planEachSpec)

/-- 'estuarylaw19.PlanLanes', WHERE WHAT IT READS IS OF BULK AT MOST 1048576: true; the input reads as it did. -/
def planLanesUptoRow : OpenClaim := { program := "ytdaapjkfkfaflaa", sum := "ecd74a4757f695365e2cbaad5162bc2b1edee92ce1e5e3c3e35694684aaa4751", func := "estuary/estuarylaw19.PlanLanes", spec := "planLanes", apart := false, narrowed := true }
def PlanLanesUptoSaid : Prop := planLanesUptoRow.holds Try.pinned (OpenSpec.upto planLanesSpec)

end Rows
end Go.Proofs.Ytdaapjkfkfaflaa

/-
  No cell of these rows narrows 'for every input' (looked for: loops, veiled, ifaces, maps, wideKeys, modest, calm, conditions, laid).
  DERIVED. THE GIVEN ROWS OF THIS SEAT. 6 by the template 'for every input the law returns true; each argument reads behind the call as it read before'; 0 by the template 'total and deterministic' (their statements: YtckbidmemdkdpaaTotals.lean).
  GIVEN WITH THE SEED: the statements are not yours to turn. If you find one false, say at which input.
  Laid BY PROGRAM, IN A SANDBOX (cutbox-rows.mjs): the forced cells as the released guide's own fill.sh prints them over the translation 0916baf35f886c27… (all of the seat's roots in one cut). By AI agents, Wed Nov 11 2026. No macro, syntax, notation, axiom, sorry.
-/
import Derived.Test.YtckbidmemdkdpaaChecked
import GoSem.Claim
import GoSem.ClaimJoined
import GoSem.ClaimMapViews
import Derived.JoinedTies
import Derived.KernelRfl
namespace Go.Proofs.Ytckbidmemdkdpaa
/- THE CELL 'sum', in the pinned program and in every row, IS THE sha256 OF THE DUMP (.gsa) THAT YtckbidmemdkdpaaProg.lean LOADS. Nothing in Lean hashes anything: it is a label: what it is worth is what the hold of that sum in a sandbox is worth. -/
noncomputable def Try.pinned : Pinned := { name := "ytckbidmemdkdpaa", sum := "0916baf35f886c27ab6a3742c94cd8a9731a673a7407e1cf4917f0790096ee15", checked := Try.checked }
namespace Rows
def none {H : Type} : Left H := { results := [], args := [] }

/-- 'estuarylaw09.BallotAsks': WHATEVER THE INPUT: true; the input reads as it did. -/
def ballotAsksSpec : ChangeSpec := { name := "ballotAsks", fn := fun _ => fun
  | [d1, d2, d3] => { results := [.lit (.bool true)], args := [d1, d2, d3] }
  | _ => none }
def ballotAsksRow : OpenClaim := { program := "ytckbidmemdkdpaa", sum := "0916baf35f886c27ab6a3742c94cd8a9731a673a7407e1cf4917f0790096ee15", func := "estuary/estuarylaw09.BallotAsks", spec := "ballotAsks", apart := false }
def BallotAsksSaid : Prop := ballotAsksRow.holds Try.pinned (OpenSpec.ofChange ballotAsksSpec)

/-- ITS FALSE NEIGHBOUR: 'it returns false'. Refute it at one input. -/
def ballotAsksWrong : ChangeSpec := { name := "ballotAsks", fn := fun _ => fun
  | [d1, d2, d3] => { results := [.lit (.bool false)], args := [d1, d2, d3] }
  | _ => none }
def BallotAsksWrongFalsely : Prop := ballotAsksRow.holds Try.pinned (OpenSpec.ofChange ballotAsksWrong)

/-- 'estuarylaw09.BallotRises': WHATEVER THE INPUT: true; the input reads as it did. -/
def ballotRisesSpec : ChangeSpec := { name := "ballotRises", fn := fun _ => fun
  | [d] => { results := [.lit (.bool true)], args := [d] }
  | _ => none }
def ballotRisesRow : OpenClaim := { program := "ytckbidmemdkdpaa", sum := "0916baf35f886c27ab6a3742c94cd8a9731a673a7407e1cf4917f0790096ee15", func := "estuary/estuarylaw09.BallotRises", spec := "ballotRises", apart := false }
def BallotRisesSaid : Prop := ballotRisesRow.holds Try.pinned (OpenSpec.ofChange ballotRisesSpec)

/-- ITS FALSE NEIGHBOUR: 'it returns false'. Refute it at one input. -/
def ballotRisesWrong : ChangeSpec := { name := "ballotRises", fn := fun _ => fun
  | [d] => { results := [.lit (.bool false)], args := [d] }
  | _ => none }
def BallotRisesWrongFalsely : Prop := ballotRisesRow.holds Try.pinned (OpenSpec.ofChange ballotRisesWrong)

/-- 'estuarylaw09.BallotRivals': WHATEVER THE INPUT: true; the input reads as it did. -/
def ballotRivalsSpec : ChangeSpec := { name := "ballotRivals", fn := fun _ => fun
  | [d] => { results := [.lit (.bool true)], args := [d] }
  | _ => none }
def ballotRivalsRow : OpenClaim := { program := "ytckbidmemdkdpaa", sum := "0916baf35f886c27ab6a3742c94cd8a9731a673a7407e1cf4917f0790096ee15", func := "estuary/estuarylaw09.BallotRivals", spec := "ballotRivals", unfollowed := true, recurses := true, apart := false }
def BallotRivalsSaid : Prop := ballotRivalsRow.holds Try.pinned (OpenSpec.ofChange ballotRivalsSpec)

/-- ITS FALSE NEIGHBOUR: 'it returns false'. Refute it at one input. -/
def ballotRivalsWrong : ChangeSpec := { name := "ballotRivals", fn := fun _ => fun
  | [d] => { results := [.lit (.bool false)], args := [d] }
  | _ => none }
def BallotRivalsWrongFalsely : Prop := ballotRivalsRow.holds Try.pinned (OpenSpec.ofChange ballotRivalsWrong)

/-- 'estuarylaw09.BallotLess': WHATEVER THE INPUT: true; the input reads as it did. -/
def ballotLessSpec : ChangeSpec := { name := "ballotLess", fn := fun _ => fun
  | [d] => { results := [.lit (.bool true)], args := [d] }
  | _ => none }
def ballotLessRow : OpenClaim := { program := "ytckbidmemdkdpaa", sum := "0916baf35f886c27ab6a3742c94cd8a9731a673a7407e1cf4917f0790096ee15", func := "estuary/estuarylaw09.BallotLess", spec := "ballotLess", apart := false }
def BallotLessSaid : Prop := ballotLessRow.holds Try.pinned (OpenSpec.ofChange ballotLessSpec)

/-- ITS FALSE NEIGHBOUR: 'it returns false'. Refute it at one input. -/
def ballotLessWrong : ChangeSpec := { name := "ballotLess", fn := fun _ => fun
  | [d] => { results := [.lit (.bool false)], args := [d] }
  | _ => none }
def BallotLessWrongFalsely : Prop := ballotLessRow.holds Try.pinned (OpenSpec.ofChange ballotLessWrong)

/-- 'estuarylaw09.BallotNexts': WHATEVER THE INPUT: true; the input reads as it did. -/
def ballotNextsSpec : ChangeSpec := { name := "ballotNexts", fn := fun _ => fun
  | [d] => { results := [.lit (.bool true)], args := [d] }
  | _ => none }
def ballotNextsRow : OpenClaim := { program := "ytckbidmemdkdpaa", sum := "0916baf35f886c27ab6a3742c94cd8a9731a673a7407e1cf4917f0790096ee15", func := "estuary/estuarylaw09.BallotNexts", spec := "ballotNexts", apart := false }
def BallotNextsSaid : Prop := ballotNextsRow.holds Try.pinned (OpenSpec.ofChange ballotNextsSpec)

/-- ITS FALSE NEIGHBOUR: 'it returns false'. Refute it at one input. -/
def ballotNextsWrong : ChangeSpec := { name := "ballotNexts", fn := fun _ => fun
  | [d] => { results := [.lit (.bool false)], args := [d] }
  | _ => none }
def BallotNextsWrongFalsely : Prop := ballotNextsRow.holds Try.pinned (OpenSpec.ofChange ballotNextsWrong)

/-- 'estuarylaw09.BallotNums': WHATEVER THE INPUT: true; the input reads as it did. -/
def ballotNumsSpec : ChangeSpec := { name := "ballotNums", fn := fun _ => fun
  | [d1, d2] => { results := [.lit (.bool true)], args := [d1, d2] }
  | _ => none }
def ballotNumsRow : OpenClaim := { program := "ytckbidmemdkdpaa", sum := "0916baf35f886c27ab6a3742c94cd8a9731a673a7407e1cf4917f0790096ee15", func := "estuary/estuarylaw09.BallotNums", spec := "ballotNums", apart := false }
def BallotNumsSaid : Prop := ballotNumsRow.holds Try.pinned (OpenSpec.ofChange ballotNumsSpec)

/-- ITS FALSE NEIGHBOUR: 'it returns false'. Refute it at one input. -/
def ballotNumsWrong : ChangeSpec := { name := "ballotNums", fn := fun _ => fun
  | [d1, d2] => { results := [.lit (.bool false)], args := [d1, d2] }
  | _ => none }
def BallotNumsWrongFalsely : Prop := ballotNumsRow.holds Try.pinned (OpenSpec.ofChange ballotNumsWrong)

/- THE SECOND FORM. 'bulk': how many values and letters a reading holds, each counted each time it is reached (what is shared counts as often as it is met; a slice's spare places count too). A statement '..UptoSaid' is the law's where the arguments, and the package variables that the reading takes, are together of bulk at most 1048576: NARROWER than '..Said'. Prove '..Said' where nothing that the law and all that it calls make is longer than what came in: it says more and counts as full. Else prove '..UptoSaid'. A law counts once. -/
mutual
def uptoBulk {H : Type} : DataW H → Nat
  | .lit (.string bytes) => bytes.length + 1
  | .lit _ => 1
  | .nil => 1
  | .ptr d => uptoBulk d + 1
  | .slice elems spare => uptoBulkAll elems + uptoBulkAll spare + 1
  | .agg parts => uptoBulkAll parts + 1
  | .iface _ d => uptoBulk d + 1
  | .map entries => uptoBulkEntries entries + 1
  | .held _ => 1
def uptoBulkAll {H : Type} : List (DataW H) → Nat
  | [] => 0
  | d :: r => uptoBulk d + uptoBulkAll r
def uptoBulkEntries {H : Type} : List (Lit × DataW H) → Nat
  | [] => 0
  | x :: r => uptoBulkEntry x + uptoBulkEntries r
def uptoBulkEntry {H : Type} : Lit × DataW H → Nat
  | (.string bytes, d) => bytes.length + uptoBulk d + 1
  | (_, d) => uptoBulk d + 1
 end
def uptoSmall : (H : Type) → List (DataW H) → Bool := fun _ ds => decide (uptoBulkAll ds ≤ 1048576)
def OpenSpec.upto (s : _root_.Go.ChangeSpec) : _root_.Go.OpenSpec := { _root_.Go.OpenSpec.ofChange s with cond := some uptoSmall }

/-- 'estuarylaw09.BallotAsks', WHERE WHAT IT READS IS OF BULK AT MOST 1048576: true; the input reads as it did. -/
def ballotAsksUptoRow : OpenClaim := { program := "ytckbidmemdkdpaa", sum := "0916baf35f886c27ab6a3742c94cd8a9731a673a7407e1cf4917f0790096ee15", func := "estuary/estuarylaw09.BallotAsks", spec := "ballotAsks", apart := false, narrowed := true }
def BallotAsksUptoSaid : Prop := ballotAsksUptoRow.holds Try.pinned (OpenSpec.upto ballotAsksSpec)

/-- 'estuarylaw09.BallotRises', WHERE WHAT IT READS IS OF BULK AT MOST 1048576: true; the input reads as it did. -/
def ballotRisesUptoRow : OpenClaim := { program := "ytckbidmemdkdpaa", sum := "0916baf35f886c27ab6a3742c94cd8a9731a673a7407e1cf4917f0790096ee15", func := "estuary/estuarylaw09.BallotRises", spec := "ballotRises", apart := false, narrowed := true }
def BallotRisesUptoSaid : Prop := ballotRisesUptoRow.holds Try.pinned (OpenSpec.upto ballotRisesSpec)

/-- 'estuarylaw09.BallotRivals', WHERE WHAT IT READS IS OF BULK AT MOST 1048576: true; the input reads as it did. -/
def ballotRivalsUptoRow : OpenClaim := { program := "ytckbidmemdkdpaa", sum := "0916baf35f886c27ab6a3742c94cd8a9731a673a7407e1cf4917f0790096ee15", func := "estuary/estuarylaw09.BallotRivals", spec := "ballotRivals", unfollowed := true, recurses := true, apart := false, narrowed := true }
def BallotRivalsUptoSaid : Prop := ballotRivalsUptoRow.holds Try.pinned (OpenSpec.upto ballotRivalsSpec)

/-- 'estuarylaw09.BallotLess', WHERE WHAT IT READS IS OF BULK AT MOST 1048576: true; the input reads as it did. -/
def ballotLessUptoRow : OpenClaim := { program := "ytckbidmemdkdpaa", sum := "0916baf35f886c27ab6a3742c94cd8a9731a673a7407e1cf4917f0790096ee15", func := "estuary/estuarylaw09.BallotLess", spec := "ballotLess", apart := false, narrowed := true }
def BallotLessUptoSaid : Prop := ballotLessUptoRow.holds Try.pinned (OpenSpec.upto ballotLessSpec)

/-- 'estuarylaw09.BallotNexts', WHERE WHAT IT READS IS OF BULK AT MOST 1048576: true; the input reads as it did. -/
def ballotNextsUptoRow : OpenClaim := { program := "ytckbidmemdkdpaa", sum := "0916baf35f886c27ab6a3742c94cd8a9731a673a7407e1cf4917f0790096ee15", func := "estuary/estuarylaw09.BallotNexts", spec := "ballotNexts", apart := false, narrowed := true }
def BallotNextsUptoSaid : Prop := ballotNextsUptoRow.holds Try.pinned (OpenSpec.upto ballotNextsSpec)

/-- 'estuarylaw09.BallotNums', WHERE WHAT IT READS IS OF BULK AT MOST 1048576: true; the input reads as it did. -/
def ballotNumsUptoRow : OpenClaim := { program := "ytckbidmemdkdpaa", sum := "0916baf35f886c27ab6a3742c94cd8a9731a673a7407e1cf4917f0790096ee15", func := "estuary/estuarylaw09.BallotNums", spec := "ballotNums", apart := false, narrowed := true }
def BallotNumsUptoSaid : Prop := ballotNumsUptoRow.holds Try.pinned (OpenSpec.upto ballotNumsSpec)

end Rows
end Go.Proofs.Ytckbidmemdkdpaa

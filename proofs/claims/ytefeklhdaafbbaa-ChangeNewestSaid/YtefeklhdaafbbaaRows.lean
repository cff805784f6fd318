/-
  No cell of these rows narrows 'for every input' (looked for: loops, veiled, ifaces, maps, wideKeys, modest, calm, conditions, laid).
  DERIVED. THE GIVEN ROWS OF THIS SEAT. 5 by the template 'for every input the law returns true; each argument reads behind the call as it read before'; 0 by the template 'total and deterministic' (their statements: YtefeklhdaafbbaaTotals.lean).
  GIVEN WITH THE SEED: the statements are not yours to turn. If you find one false, say at which input.
  Laid BY PROGRAM, IN A SANDBOX (cutbox-rows.mjs): the forced cells as the released guide's own fill.sh prints them over the translation ec2a8368ade1751a… (all of the seat's roots in one cut). By AI agents, Wed Nov 11 2026. No macro, syntax, notation, axiom, sorry.
-/
import Derived.Test.YtefeklhdaafbbaaChecked
import GoSem.Claim
import GoSem.ClaimJoined
import GoSem.ClaimMapViews
import Derived.JoinedTies
import Derived.KernelRfl
namespace Go.Proofs.Ytefeklhdaafbbaa
/- THE CELL 'sum', in the pinned program and in every row, IS THE sha256 OF THE DUMP (.gsa) THAT YtefeklhdaafbbaaProg.lean LOADS. Nothing in Lean hashes anything: it is a label: what it is worth is what the hold of that sum in a sandbox is worth. -/
noncomputable def Try.pinned : Pinned := { name := "ytefeklhdaafbbaa", sum := "ec2a8368ade1751a202af353a17832396adfe6019f7802e3fb592d219f390a42", checked := Try.checked }
namespace Rows
def none {H : Type} : Left H := { results := [], args := [] }

/-- 'estuarylaw10.ChangeDoes': WHATEVER THE INPUT: true; the input reads as it did. -/
def changeDoesSpec : ChangeSpec := { name := "changeDoes", fn := fun _ => fun
  | [d1, d2] => { results := [.lit (.bool true)], args := [d1, d2] }
  | _ => none }
def changeDoesRow : OpenClaim := { program := "ytefeklhdaafbbaa", sum := "ec2a8368ade1751a202af353a17832396adfe6019f7802e3fb592d219f390a42", func := "estuary/estuarylaw10.ChangeDoes", spec := "changeDoes", apart := false }
def ChangeDoesSaid : Prop := changeDoesRow.holds Try.pinned (OpenSpec.ofChange changeDoesSpec)

/-- ITS FALSE NEIGHBOUR: 'it returns false'. Refute it at one input. -/
def changeDoesWrong : ChangeSpec := { name := "changeDoes", fn := fun _ => fun
  | [d1, d2] => { results := [.lit (.bool false)], args := [d1, d2] }
  | _ => none }
def ChangeDoesWrongFalsely : Prop := changeDoesRow.holds Try.pinned (OpenSpec.ofChange changeDoesWrong)

/-- 'estuarylaw10.ChangeOnce': WHATEVER THE INPUT: true; the input reads as it did. -/
def changeOnceSpec : ChangeSpec := { name := "changeOnce", fn := fun _ => fun
  | [d1, d2] => { results := [.lit (.bool true)], args := [d1, d2] }
  | _ => none }
def changeOnceRow : OpenClaim := { program := "ytefeklhdaafbbaa", sum := "ec2a8368ade1751a202af353a17832396adfe6019f7802e3fb592d219f390a42", func := "estuary/estuarylaw10.ChangeOnce", spec := "changeOnce", apart := false }
def ChangeOnceSaid : Prop := changeOnceRow.holds Try.pinned (OpenSpec.ofChange changeOnceSpec)

/-- ITS FALSE NEIGHBOUR: 'it returns false'. Refute it at one input. -/
def changeOnceWrong : ChangeSpec := { name := "changeOnce", fn := fun _ => fun
  | [d1, d2] => { results := [.lit (.bool false)], args := [d1, d2] }
  | _ => none }
def ChangeOnceWrongFalsely : Prop := changeOnceRow.holds Try.pinned (OpenSpec.ofChange changeOnceWrong)

/-- 'estuarylaw10.ChangeMakes': WHATEVER THE INPUT: true; the input reads as it did. -/
def changeMakesSpec : ChangeSpec := { name := "changeMakes", fn := fun _ => fun
  | [d1, d2] => { results := [.lit (.bool true)], args := [d1, d2] }
  | _ => none }
def changeMakesRow : OpenClaim := { program := "ytefeklhdaafbbaa", sum := "ec2a8368ade1751a202af353a17832396adfe6019f7802e3fb592d219f390a42", func := "estuary/estuarylaw10.ChangeMakes", spec := "changeMakes", apart := false }
def ChangeMakesSaid : Prop := changeMakesRow.holds Try.pinned (OpenSpec.ofChange changeMakesSpec)

/-- ITS FALSE NEIGHBOUR: 'it returns false'. Refute it at one input. -/
def changeMakesWrong : ChangeSpec := { name := "changeMakes", fn := fun _ => fun
  | [d1, d2] => { results := [.lit (.bool false)], args := [d1, d2] }
  | _ => none }
def ChangeMakesWrongFalsely : Prop := changeMakesRow.holds Try.pinned (OpenSpec.ofChange changeMakesWrong)

/-- 'estuarylaw10.ChangeChains': WHATEVER THE INPUT: true; the input reads as it did. -/
def changeChainsSpec : ChangeSpec := { name := "changeChains", fn := fun _ => fun
  | [d1, d2] => { results := [.lit (.bool true)], args := [d1, d2] }
  | _ => none }
def changeChainsRow : OpenClaim := { program := "ytefeklhdaafbbaa", sum := "ec2a8368ade1751a202af353a17832396adfe6019f7802e3fb592d219f390a42", func := "estuary/estuarylaw10.ChangeChains", spec := "changeChains", apart := false }
def ChangeChainsSaid : Prop := changeChainsRow.holds Try.pinned (OpenSpec.ofChange changeChainsSpec)

/-- ITS FALSE NEIGHBOUR: 'it returns false'. Refute it at one input. -/
def changeChainsWrong : ChangeSpec := { name := "changeChains", fn := fun _ => fun
  | [d1, d2] => { results := [.lit (.bool false)], args := [d1, d2] }
  | _ => none }
def ChangeChainsWrongFalsely : Prop := changeChainsRow.holds Try.pinned (OpenSpec.ofChange changeChainsWrong)

/-- 'estuarylaw10.ChangeNewest': WHATEVER THE INPUT: true; the input reads as it did. -/
def changeNewestSpec : ChangeSpec := { name := "changeNewest", fn := fun _ => fun
  | [d] => { results := [.lit (.bool true)], args := [d] }
  | _ => none }
def changeNewestRow : OpenClaim := { program := "ytefeklhdaafbbaa", sum := "ec2a8368ade1751a202af353a17832396adfe6019f7802e3fb592d219f390a42", func := "estuary/estuarylaw10.ChangeNewest", spec := "changeNewest", apart := false }
def ChangeNewestSaid : Prop := changeNewestRow.holds Try.pinned (OpenSpec.ofChange changeNewestSpec)

/-- ITS FALSE NEIGHBOUR: 'it returns false'. Refute it at one input. -/
def changeNewestWrong : ChangeSpec := { name := "changeNewest", fn := fun _ => fun
  | [d] => { results := [.lit (.bool false)], args := [d] }
  | _ => none }
def ChangeNewestWrongFalsely : Prop := changeNewestRow.holds Try.pinned (OpenSpec.ofChange changeNewestWrong)

/- THE SECOND FORM. 'bulk': how many values and letters a reading holds, each counted each time it is reached (what is shared counts as often as it is met; a slice's spare places count too). A statement '..UptoSaid' is the law's where the arguments, and the package variables that the reading takes, are together of bulk at most 1048576: NARROWER than '..Said'. Prove '..Said' where nothing that the law and all that it calls make is longer than what came in: it says more and counts as full. Else prove '..UptoSaid'. A law counts once. -/
mutual
def uptoBulk {H : Type} : DataW H → Nat
  | .lit (.string bytes) => bytes.length + 1
  | .lit _ => 1
  | .nil => 1
  | .ptr d => uptoBulk d + 1
  | .slice elems spare => uptoBulkAll elems + uptoBulkAll spare + 1
  | .agg parts => uptoBulkAll parts + 1
  | .iface _ d => uptoBulk d + 1
  | .map entries => uptoBulkEntries entries + 1
  | .held _ => 1
def uptoBulkAll {H : Type} : List (DataW H) → Nat
  | [] => 0
  | d :: r => uptoBulk d + uptoBulkAll r
def uptoBulkEntries {H : Type} : List (Lit × DataW H) → Nat
  | [] => 0
  | x :: r => uptoBulkEntry x + uptoBulkEntries r
def uptoBulkEntry {H : Type} : Lit × DataW H → Nat
  | (.string bytes, d) => bytes.length + uptoBulk d + 1
  | (_, d) => uptoBulk d + 1
 end
def uptoSmall : (H : Type) → List (DataW H) → Bool := fun _ ds => decide (uptoBulkAll ds ≤ 1048576)
def OpenSpec.upto (s : _root_.Go.ChangeSpec) : _root_.Go.OpenSpec := { _root_.Go.OpenSpec.ofChange s with cond := some uptoSmall }

/-- 'estuarylaw10.ChangeDoes', WHERE WHAT IT READS IS OF BULK AT MOST 1048576: true; the input reads as it did. -/
def changeDoesUptoRow : OpenClaim := { program := "ytefeklhdaafbbaa", sum := "ec2a8368ade1751a202af353a17832396adfe6019f7802e3fb592d219f390a42", func := "estuary/estuarylaw10.ChangeDoes", spec := "changeDoes", apart := false, narrowed := true }
def ChangeDoesUptoSaid : Prop := changeDoesUptoRow.holds Try.pinned (OpenSpec.upto changeDoesSpec)

/-- 'estuarylaw10.ChangeOnce', WHERE WHAT IT READS IS OF BULK AT MOST 1048576: true; the input reads as it did. -/
def changeOnceUptoRow : OpenClaim := { program := "ytefeklhdaafbbaa", sum := "ec2a8368ade1751a202af353a17832396adfe6019f7802e3fb592d219f390a42", func := "estuary/estuarylaw10.ChangeOnce", spec := "changeOnce", apart := false, narrowed := true }
def ChangeOnceUptoSaid : Prop := changeOnceUptoRow.holds Try.pinned (OpenSpec.upto changeOnceSpec)

/-- 'estuarylaw10.ChangeMakes', WHERE WHAT IT READS IS OF BULK AT MOST 1048576: true; the input reads as it did. -/
def changeMakesUptoRow : OpenClaim := { program := "ytefeklhdaafbbaa", sum := "ec2a8368ade1751a202af353a17832396adfe6019f7802e3fb592d219f390a42", func := "estuary/estuarylaw10.ChangeMakes", spec := "changeMakes", apart := false, narrowed := true }
def ChangeMakesUptoSaid : Prop := changeMakesUptoRow.holds Try.pinned (OpenSpec.upto changeMakesSpec)

/-- 'estuarylaw10.ChangeChains', WHERE WHAT IT READS IS OF BULK AT MOST 1048576: true; the input reads as it did. -/
def changeChainsUptoRow : OpenClaim := { program := "ytefeklhdaafbbaa", sum := "ec2a8368ade1751a202af353a17832396adfe6019f7802e3fb592d219f390a42", func := "estuary/estuarylaw10.ChangeChains", spec := "changeChains", apart := false, narrowed := true }
def ChangeChainsUptoSaid : Prop := changeChainsUptoRow.holds Try.pinned (OpenSpec.upto changeChainsSpec)

/-- 'estuarylaw10.ChangeNewest', WHERE WHAT IT READS IS OF BULK AT MOST 1048576: true; the input reads as it did. -/
def changeNewestUptoRow : OpenClaim := { program := "ytefeklhdaafbbaa", sum := "ec2a8368ade1751a202af353a17832396adfe6019f7802e3fb592d219f390a42", func := "estuary/estuarylaw10.ChangeNewest", spec := "changeNewest", apart := false, narrowed := true }
def ChangeNewestUptoSaid : Prop := changeNewestUptoRow.holds Try.pinned (OpenSpec.upto changeNewestSpec)

end Rows
end Go.Proofs.Ytefeklhdaafbbaa

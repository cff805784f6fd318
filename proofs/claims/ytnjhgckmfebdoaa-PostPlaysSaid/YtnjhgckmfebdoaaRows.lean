/-
  No cell of these rows narrows 'for every input' (looked for: loops, veiled, ifaces, maps, wideKeys, modest, calm, conditions, laid).
  DERIVED. THE GIVEN ROWS OF THIS SEAT. 6 by the template 'for every input the law returns true; each argument reads behind the call as it read before'; 0 by the template 'total and deterministic' (their statements: YtnjhgckmfebdoaaTotals.lean).
  GIVEN WITH THE SEED: the statements are not yours to turn. If you find one false, say at which input.
  Laid BY PROGRAM, IN A SANDBOX (cutbox-rows.mjs): the forced cells as the released guide's own fill.sh prints them over the translation f40ef88fadc97e2d… (all of the seat's roots in one cut). By AI agents, Wed Nov 11 2026. No macro, syntax, notation, axiom, sorry.
-/
import Derived.Test.YtnjhgckmfebdoaaChecked
import GoSem.Claim
import GoSem.ClaimJoined
import GoSem.ClaimMapViews
import Derived.JoinedTies
import Derived.KernelRfl
namespace Go.Proofs.Ytnjhgckmfebdoaa
/- THE CELL 'sum', in the pinned program and in every row, IS THE sha256 OF THE DUMP (.gsa) THAT YtnjhgckmfebdoaaProg.lean LOADS. Nothing in Lean hashes anything: it is a label: what it is worth is what the hold of that sum in a sandbox is worth. -/
noncomputable def Try.pinned : Pinned := { name := "ytnjhgckmfebdoaa", sum := "f40ef88fadc97e2da09550017e5a11bf8077c0084dca2f6180da027e4d9b7ab2", checked := Try.checked }
namespace Rows
def none {H : Type} : Left H := { results := [], args := [] }

/-- 'estuarylaw08.PostPlays': WHATEVER THE INPUT: true; the input reads as it did. -/
def postPlaysSpec : ChangeSpec := { name := "postPlays", fn := fun _ => fun
  | [d] => { results := [.lit (.bool true)], args := [d] }
  | _ => none }
def postPlaysRow : OpenClaim := { program := "ytnjhgckmfebdoaa", sum := "f40ef88fadc97e2da09550017e5a11bf8077c0084dca2f6180da027e4d9b7ab2", func := "estuary/estuarylaw08.PostPlays", spec := "postPlays", apart := false }
def PostPlaysSaid : Prop := postPlaysRow.holds Try.pinned (OpenSpec.ofChange postPlaysSpec)

/-- ITS FALSE NEIGHBOUR: 'it returns false'. Refute it at one input. -/
def postPlaysWrong : ChangeSpec := { name := "postPlays", fn := fun _ => fun
  | [d] => { results := [.lit (.bool false)], args := [d] }
  | _ => none }
def PostPlaysWrongFalsely : Prop := postPlaysRow.holds Try.pinned (OpenSpec.ofChange postPlaysWrong)

/-- 'estuarylaw08.PostCounts': WHATEVER THE INPUT: true; the input reads as it did. -/
def postCountsSpec : ChangeSpec := { name := "postCounts", fn := fun _ => fun
  | [d] => { results := [.lit (.bool true)], args := [d] }
  | _ => none }
def postCountsRow : OpenClaim := { program := "ytnjhgckmfebdoaa", sum := "f40ef88fadc97e2da09550017e5a11bf8077c0084dca2f6180da027e4d9b7ab2", func := "estuary/estuarylaw08.PostCounts", spec := "postCounts", apart := false }
def PostCountsSaid : Prop := postCountsRow.holds Try.pinned (OpenSpec.ofChange postCountsSpec)

/-- ITS FALSE NEIGHBOUR: 'it returns false'. Refute it at one input. -/
def postCountsWrong : ChangeSpec := { name := "postCounts", fn := fun _ => fun
  | [d] => { results := [.lit (.bool false)], args := [d] }
  | _ => none }
def PostCountsWrongFalsely : Prop := postCountsRow.holds Try.pinned (OpenSpec.ofChange postCountsWrong)

/-- 'estuarylaw08.PostFull': WHATEVER THE INPUT: true; the input reads as it did. -/
def postFullSpec : ChangeSpec := { name := "postFull", fn := fun _ => fun
  | [d] => { results := [.lit (.bool true)], args := [d] }
  | _ => none }
def postFullRow : OpenClaim := { program := "ytnjhgckmfebdoaa", sum := "f40ef88fadc97e2da09550017e5a11bf8077c0084dca2f6180da027e4d9b7ab2", func := "estuary/estuarylaw08.PostFull", spec := "postFull", apart := false }
def PostFullSaid : Prop := postFullRow.holds Try.pinned (OpenSpec.ofChange postFullSpec)

/-- ITS FALSE NEIGHBOUR: 'it returns false'. Refute it at one input. -/
def postFullWrong : ChangeSpec := { name := "postFull", fn := fun _ => fun
  | [d] => { results := [.lit (.bool false)], args := [d] }
  | _ => none }
def PostFullWrongFalsely : Prop := postFullRow.holds Try.pinned (OpenSpec.ofChange postFullWrong)

/-- 'estuarylaw08.PostOrder': WHATEVER THE INPUT: true; the input reads as it did. -/
def postOrderSpec : ChangeSpec := { name := "postOrder", fn := fun _ => fun
  | [d] => { results := [.lit (.bool true)], args := [d] }
  | _ => none }
def postOrderRow : OpenClaim := { program := "ytnjhgckmfebdoaa", sum := "f40ef88fadc97e2da09550017e5a11bf8077c0084dca2f6180da027e4d9b7ab2", func := "estuary/estuarylaw08.PostOrder", spec := "postOrder", apart := false }
def PostOrderSaid : Prop := postOrderRow.holds Try.pinned (OpenSpec.ofChange postOrderSpec)

/-- ITS FALSE NEIGHBOUR: 'it returns false'. Refute it at one input. -/
def postOrderWrong : ChangeSpec := { name := "postOrder", fn := fun _ => fun
  | [d] => { results := [.lit (.bool false)], args := [d] }
  | _ => none }
def PostOrderWrongFalsely : Prop := postOrderRow.holds Try.pinned (OpenSpec.ofChange postOrderWrong)

/-- 'estuarylaw08.PostNone': WHATEVER THE INPUT: true; the input reads as it did. -/
def postNoneSpec : ChangeSpec := { name := "postNone", fn := fun _ => fun
  | [d1, d2] => { results := [.lit (.bool true)], args := [d1, d2] }
  | _ => none }
def postNoneRow : OpenClaim := { program := "ytnjhgckmfebdoaa", sum := "f40ef88fadc97e2da09550017e5a11bf8077c0084dca2f6180da027e4d9b7ab2", func := "estuary/estuarylaw08.PostNone", spec := "postNone", apart := false }
def PostNoneSaid : Prop := postNoneRow.holds Try.pinned (OpenSpec.ofChange postNoneSpec)

/-- ITS FALSE NEIGHBOUR: 'it returns false'. Refute it at one input. -/
def postNoneWrong : ChangeSpec := { name := "postNone", fn := fun _ => fun
  | [d1, d2] => { results := [.lit (.bool false)], args := [d1, d2] }
  | _ => none }
def PostNoneWrongFalsely : Prop := postNoneRow.holds Try.pinned (OpenSpec.ofChange postNoneWrong)

/-- 'estuarylaw08.PostCopies': WHATEVER THE INPUT: true; the input reads as it did. -/
def postCopiesSpec : ChangeSpec := { name := "postCopies", fn := fun _ => fun
  | [d1, d2, d3] => { results := [.lit (.bool true)], args := [d1, d2, d3] }
  | _ => none }
def postCopiesRow : OpenClaim := { program := "ytnjhgckmfebdoaa", sum := "f40ef88fadc97e2da09550017e5a11bf8077c0084dca2f6180da027e4d9b7ab2", func := "estuary/estuarylaw08.PostCopies", spec := "postCopies", apart := false }
def PostCopiesSaid : Prop := postCopiesRow.holds Try.pinned (OpenSpec.ofChange postCopiesSpec)

/-- ITS FALSE NEIGHBOUR: 'it returns false'. Refute it at one input. -/
def postCopiesWrong : ChangeSpec := { name := "postCopies", fn := fun _ => fun
  | [d1, d2, d3] => { results := [.lit (.bool false)], args := [d1, d2, d3] }
  | _ => none }
def PostCopiesWrongFalsely : Prop := postCopiesRow.holds Try.pinned (OpenSpec.ofChange postCopiesWrong)

/- THE SECOND FORM. 'bulk': how many values and letters a reading holds, each counted each time it is reached (what is shared counts as often as it is met; a slice's spare places count too). A statement '..UptoSaid' is the law's where the arguments, and the package variables that the reading takes, are together of bulk at most 1048576: NARROWER than '..Said'. Prove '..Said' where nothing that the law and all that it calls make is longer than what came in: it says more and counts as full. Else prove '..UptoSaid'. A law counts once. -/
mutual
def uptoBulk {H : Type} : DataW H → Nat
  | .lit (.string bytes) => bytes.length + 1
  | .lit _ => 1
  | .nil => 1
  | .ptr d => uptoBulk d + 1
  | .slice elems spare => uptoBulkAll elems + uptoBulkAll spare + 1
  | .agg parts => uptoBulkAll parts + 1
  | .iface _ d => uptoBulk d + 1
  | .map entries => uptoBulkEntries entries + 1
  | .held _ => 1
def uptoBulkAll {H : Type} : List (DataW H) → Nat
  | [] => 0
  | d :: r => uptoBulk d + uptoBulkAll r
def uptoBulkEntries {H : Type} : List (Lit × DataW H) → Nat
  | [] => 0
  | x :: r => uptoBulkEntry x + uptoBulkEntries r
def uptoBulkEntry {H : Type} : Lit × DataW H → Nat
  | (.string bytes, d) => bytes.length + uptoBulk d + 1
  | (_, d) => uptoBulk d + 1
 end
def uptoSmall : (H : Type) → List (DataW H) → Bool := fun _ ds => decide (uptoBulkAll ds ≤ 1048576)
def OpenSpec.upto (s : _root_.Go.ChangeSpec) : _root_.Go.OpenSpec := { _root_.Go.OpenSpec.ofChange s with cond := some uptoSmall }

/-- 'estuarylaw08.PostPlays', WHERE WHAT IT READS IS OF BULK AT MOST 1048576: true; the input reads as it did. -/
def postPlaysUptoRow : OpenClaim := { program := "ytnjhgckmfebdoaa", sum := "f40ef88fadc97e2da09550017e5a11bf8077c0084dca2f6180da027e4d9b7ab2", func := "estuary/estuarylaw08.PostPlays", spec := "postPlays", apart := false, narrowed := true }
def PostPlaysUptoSaid : Prop := postPlaysUptoRow.holds Try.pinned (OpenSpec.upto postPlaysSpec)

/-- 'estuarylaw08.PostCounts', WHERE WHAT IT READS IS OF BULK AT MOST 1048576: true; the input reads as it did. -/
def postCountsUptoRow : OpenClaim := { program := "ytnjhgckmfebdoaa", sum := "f40ef88fadc97e2da09550017e5a11bf8077c0084dca2f6180da027e4d9b7ab2", func := "estuary/estuarylaw08.PostCounts", spec := "postCounts", apart := false, narrowed := true }
def PostCountsUptoSaid : Prop := postCountsUptoRow.holds Try.pinned (OpenSpec.upto postCountsSpec)

/-- 'estuarylaw08.PostFull', WHERE WHAT IT READS IS OF BULK AT MOST 1048576: true; the input reads as it did. -/
def postFullUptoRow : OpenClaim := { program := "ytnjhgckmfebdoaa", sum := "f40ef88fadc97e2da09550017e5a11bf8077c0084dca2f6180da027e4d9b7ab2", func := "estuary/estuarylaw08.PostFull", spec := "postFull", apart := false, narrowed := true }
def PostFullUptoSaid : Prop := postFullUptoRow.holds Try.pinned (OpenSpec.upto postFullSpec)

/-- 'estuarylaw08.PostOrder', WHERE WHAT IT READS IS OF BULK AT MOST 1048576: true; the input reads as it did. -/
def postOrderUptoRow : OpenClaim := { program := "ytnjhgckmfebdoaa", sum := "f40ef88fadc97e2da09550017e5a11bf8077c0084dca2f6180da027e4d9b7ab2", func := "estuary/estuarylaw08.PostOrder", spec := "postOrder", apart := false, narrowed := true }
def PostOrderUptoSaid : Prop := postOrderUptoRow.holds Try.pinned (OpenSpec.upto postOrderSpec)

/-- 'estuarylaw08.PostNone', WHERE WHAT IT READS IS OF BULK AT MOST 1048576: true; the input reads as it did. -/
def postNoneUptoRow : OpenClaim := { program := "ytnjhgckmfebdoaa", sum := "f40ef88fadc97e2da09550017e5a11bf8077c0084dca2f6180da027e4d9b7ab2", func := "estuary/estuarylaw08.PostNone", spec := "postNone", apart := false, narrowed := true }
def PostNoneUptoSaid : Prop := postNoneUptoRow.holds Try.pinned (OpenSpec.upto postNoneSpec)

/-- 'estuarylaw08.PostCopies', WHERE WHAT IT READS IS OF BULK AT MOST 1048576: true; the input reads as it did. -/
def postCopiesUptoRow : OpenClaim := { program := "ytnjhgckmfebdoaa", sum := "f40ef88fadc97e2da09550017e5a11bf8077c0084dca2f6180da027e4d9b7ab2", func := "estuary/estuarylaw08.PostCopies", spec := "postCopies", apart := false, narrowed := true }
def PostCopiesUptoSaid : Prop := postCopiesUptoRow.holds Try.pinned (OpenSpec.upto postCopiesSpec)

end Rows
end Go.Proofs.Ytnjhgckmfebdoaa

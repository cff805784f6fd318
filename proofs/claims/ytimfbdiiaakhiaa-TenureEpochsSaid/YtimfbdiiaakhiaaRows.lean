/-
  No cell of these rows narrows 'for every input' (looked for: loops, veiled, ifaces, maps, wideKeys, modest, calm, conditions, laid).
  DERIVED. THE GIVEN ROWS OF THIS SEAT. 6 by the template 'for every input the law returns true; each argument reads behind the call as it read before'; 0 by the template 'total and deterministic' (their statements: YtimfbdiiaakhiaaTotals.lean).
  GIVEN WITH THE SEED: the statements are not yours to turn. If you find one false, say at which input.
  Laid BY PROGRAM, IN A SANDBOX (cutbox-rows.mjs): the forced cells as the released guide's own fill.sh prints them over the translation 2c28fa7d135a3ae1… (all of the seat's roots in one cut). By AI agents, Wed Nov 11 2026. No macro, syntax, notation, axiom, sorry.
-/
import Derived.Test.YtimfbdiiaakhiaaChecked
import GoSem.Claim
import GoSem.ClaimJoined
import GoSem.ClaimMapViews
import Derived.JoinedTies
import Derived.KernelRfl
namespace Go.Proofs.Ytimfbdiiaakhiaa
/- THE CELL 'sum', in the pinned program and in every row, IS THE sha256 OF THE DUMP (.gsa) THAT YtimfbdiiaakhiaaProg.lean LOADS. Nothing in Lean hashes anything: it is a label: what it is worth is what the hold of that sum in a sandbox is worth. -/
noncomputable def Try.pinned : Pinned := { name := "ytimfbdiiaakhiaa", sum := "2c28fa7d135a3ae1d6ca09e33840f162d1c209bf1a49d064594dd31f042b23c8", checked := Try.checked }
namespace Rows
def none {H : Type} : Left H := { results := [], args := [] }

/-- 'estuarylaw13.TenureTakes': WHATEVER THE INPUT: true; the input reads as it did. -/
def tenureTakesSpec : ChangeSpec := { name := "tenureTakes", fn := fun _ => fun
  | [d1, d2] => { results := [.lit (.bool true)], args := [d1, d2] }
  | _ => none }
def tenureTakesRow : OpenClaim := { program := "ytimfbdiiaakhiaa", sum := "2c28fa7d135a3ae1d6ca09e33840f162d1c209bf1a49d064594dd31f042b23c8", func := "estuary/estuarylaw13.TenureTakes", spec := "tenureTakes", apart := false }
def TenureTakesSaid : Prop := tenureTakesRow.holds Try.pinned (OpenSpec.ofChange tenureTakesSpec)

/-- ITS FALSE NEIGHBOUR: 'it returns false'. Refute it at one input. -/
def tenureTakesWrong : ChangeSpec := { name := "tenureTakes", fn := fun _ => fun
  | [d1, d2] => { results := [.lit (.bool false)], args := [d1, d2] }
  | _ => none }
def TenureTakesWrongFalsely : Prop := tenureTakesRow.holds Try.pinned (OpenSpec.ofChange tenureTakesWrong)

/-- 'estuarylaw13.TenureWaits': WHATEVER THE INPUT: true; the input reads as it did. -/
def tenureWaitsSpec : ChangeSpec := { name := "tenureWaits", fn := fun _ => fun
  | [d1, d2, d3] => { results := [.lit (.bool true)], args := [d1, d2, d3] }
  | _ => none }
def tenureWaitsRow : OpenClaim := { program := "ytimfbdiiaakhiaa", sum := "2c28fa7d135a3ae1d6ca09e33840f162d1c209bf1a49d064594dd31f042b23c8", func := "estuary/estuarylaw13.TenureWaits", spec := "tenureWaits", apart := false }
def TenureWaitsSaid : Prop := tenureWaitsRow.holds Try.pinned (OpenSpec.ofChange tenureWaitsSpec)

/-- ITS FALSE NEIGHBOUR: 'it returns false'. Refute it at one input. -/
def tenureWaitsWrong : ChangeSpec := { name := "tenureWaits", fn := fun _ => fun
  | [d1, d2, d3] => { results := [.lit (.bool false)], args := [d1, d2, d3] }
  | _ => none }
def TenureWaitsWrongFalsely : Prop := tenureWaitsRow.holds Try.pinned (OpenSpec.ofChange tenureWaitsWrong)

/-- 'estuarylaw13.TenureSees': WHATEVER THE INPUT: true; the input reads as it did. -/
def tenureSeesSpec : ChangeSpec := { name := "tenureSees", fn := fun _ => fun
  | [d1, d2] => { results := [.lit (.bool true)], args := [d1, d2] }
  | _ => none }
def tenureSeesRow : OpenClaim := { program := "ytimfbdiiaakhiaa", sum := "2c28fa7d135a3ae1d6ca09e33840f162d1c209bf1a49d064594dd31f042b23c8", func := "estuary/estuarylaw13.TenureSees", spec := "tenureSees", apart := false }
def TenureSeesSaid : Prop := tenureSeesRow.holds Try.pinned (OpenSpec.ofChange tenureSeesSpec)

/-- ITS FALSE NEIGHBOUR: 'it returns false'. Refute it at one input. -/
def tenureSeesWrong : ChangeSpec := { name := "tenureSees", fn := fun _ => fun
  | [d1, d2] => { results := [.lit (.bool false)], args := [d1, d2] }
  | _ => none }
def TenureSeesWrongFalsely : Prop := tenureSeesRow.holds Try.pinned (OpenSpec.ofChange tenureSeesWrong)

/-- 'estuarylaw13.TenureWatches': WHATEVER THE INPUT: true; the input reads as it did. -/
def tenureWatchesSpec : ChangeSpec := { name := "tenureWatches", fn := fun _ => fun
  | [d] => { results := [.lit (.bool true)], args := [d] }
  | _ => none }
def tenureWatchesRow : OpenClaim := { program := "ytimfbdiiaakhiaa", sum := "2c28fa7d135a3ae1d6ca09e33840f162d1c209bf1a49d064594dd31f042b23c8", func := "estuary/estuarylaw13.TenureWatches", spec := "tenureWatches", apart := false }
def TenureWatchesSaid : Prop := tenureWatchesRow.holds Try.pinned (OpenSpec.ofChange tenureWatchesSpec)

/-- ITS FALSE NEIGHBOUR: 'it returns false'. Refute it at one input. -/
def tenureWatchesWrong : ChangeSpec := { name := "tenureWatches", fn := fun _ => fun
  | [d] => { results := [.lit (.bool false)], args := [d] }
  | _ => none }
def TenureWatchesWrongFalsely : Prop := tenureWatchesRow.holds Try.pinned (OpenSpec.ofChange tenureWatchesWrong)

/-- 'estuarylaw13.TenureNone': WHATEVER THE INPUT: true; the input reads as it did. -/
def tenureNoneSpec : ChangeSpec := { name := "tenureNone", fn := fun _ => fun
  | [d] => { results := [.lit (.bool true)], args := [d] }
  | _ => none }
def tenureNoneRow : OpenClaim := { program := "ytimfbdiiaakhiaa", sum := "2c28fa7d135a3ae1d6ca09e33840f162d1c209bf1a49d064594dd31f042b23c8", func := "estuary/estuarylaw13.TenureNone", spec := "tenureNone", apart := false }
def TenureNoneSaid : Prop := tenureNoneRow.holds Try.pinned (OpenSpec.ofChange tenureNoneSpec)

/-- ITS FALSE NEIGHBOUR: 'it returns false'. Refute it at one input. -/
def tenureNoneWrong : ChangeSpec := { name := "tenureNone", fn := fun _ => fun
  | [d] => { results := [.lit (.bool false)], args := [d] }
  | _ => none }
def TenureNoneWrongFalsely : Prop := tenureNoneRow.holds Try.pinned (OpenSpec.ofChange tenureNoneWrong)

/-- 'estuarylaw13.TenureEpochs': WHATEVER THE INPUT: true; the input reads as it did. -/
def tenureEpochsSpec : ChangeSpec := { name := "tenureEpochs", fn := fun _ => fun
  | [d1, d2] => { results := [.lit (.bool true)], args := [d1, d2] }
  | _ => none }
def tenureEpochsRow : OpenClaim := { program := "ytimfbdiiaakhiaa", sum := "2c28fa7d135a3ae1d6ca09e33840f162d1c209bf1a49d064594dd31f042b23c8", func := "estuary/estuarylaw13.TenureEpochs", spec := "tenureEpochs", apart := false }
def TenureEpochsSaid : Prop := tenureEpochsRow.holds Try.pinned (OpenSpec.ofChange tenureEpochsSpec)

/-- ITS FALSE NEIGHBOUR: 'it returns false'. Refute it at one input. -/
def tenureEpochsWrong : ChangeSpec := { name := "tenureEpochs", fn := fun _ => fun
  | [d1, d2] => { results := [.lit (.bool false)], args := [d1, d2] }
  | _ => none }
def TenureEpochsWrongFalsely : Prop := tenureEpochsRow.holds Try.pinned (OpenSpec.ofChange tenureEpochsWrong)

/- THE SECOND FORM. 'bulk': how many values and letters a reading holds, each counted each time it is reached (what is shared counts as often as it is met; a slice's spare places count too). A statement '..UptoSaid' is the law's where the arguments, and the package variables that the reading takes, are together of bulk at most 1048576: NARROWER than '..Said'. Prove '..Said' where nothing that the law and all that it calls make is longer than what came in: it says more and counts as full. Else prove '..UptoSaid'. A law counts once. -/
mutual
def uptoBulk {H : Type} : DataW H → Nat
  | .lit (.string bytes) => bytes.length + 1
  | .lit _ => 1
  | .nil => 1
  | .ptr d => uptoBulk d + 1
  | .slice elems spare => uptoBulkAll elems + uptoBulkAll spare + 1
  | .agg parts => uptoBulkAll parts + 1
  | .iface _ d => uptoBulk d + 1
  | .map entries => uptoBulkEntries entries + 1
  | .held _ => 1
def uptoBulkAll {H : Type} : List (DataW H) → Nat
  | [] => 0
  | d :: r => uptoBulk d + uptoBulkAll r
def uptoBulkEntries {H : Type} : List (Lit × DataW H) → Nat
  | [] => 0
  | x :: r => uptoBulkEntry x + uptoBulkEntries r
def uptoBulkEntry {H : Type} : Lit × DataW H → Nat
  | (.string bytes, d) => bytes.length + uptoBulk d + 1
  | (_, d) => uptoBulk d + 1
 end
def uptoSmall : (H : Type) → List (DataW H) → Bool := fun _ ds => decide (uptoBulkAll ds ≤ 1048576)
def OpenSpec.upto (s : _root_.Go.ChangeSpec) : _root_.Go.OpenSpec := { _root_.Go.OpenSpec.ofChange s with cond := some uptoSmall }

/-- 'estuarylaw13.TenureTakes', WHERE WHAT IT READS IS OF BULK AT MOST 1048576: true; the input reads as it did. -/
def tenureTakesUptoRow : OpenClaim := { program := "ytimfbdiiaakhiaa", sum := "2c28fa7d135a3ae1d6ca09e33840f162d1c209bf1a49d064594dd31f042b23c8", func := "estuary/estuarylaw13.TenureTakes", spec := "tenureTakes", apart := false, narrowed := true }
def TenureTakesUptoSaid : Prop := tenureTakesUptoRow.holds Try.pinned (OpenSpec.upto tenureTakesSpec)

/-- 'estuarylaw13.TenureWaits', WHERE WHAT IT READS IS OF BULK AT MOST 1048576: true; the input reads as it did. -/
def tenureWaitsUptoRow : OpenClaim := { program := "ytimfbdiiaakhiaa", sum := "2c28fa7d135a3ae1d6ca09e33840f162d1c209bf1a49d064594dd31f042b23c8", func := "estuary/estuarylaw13.TenureWaits", spec := "tenureWaits", apart := false, narrowed := true }
def TenureWaitsUptoSaid : Prop := tenureWaitsUptoRow.holds Try.pinned (OpenSpec.upto tenureWaitsSpec)

/-- 'estuarylaw13.TenureSees', WHERE WHAT IT READS IS OF BULK AT MOST 1048576: true; the input reads as it did. -/
def tenureSeesUptoRow : OpenClaim := { program := "ytimfbdiiaakhiaa", sum := "2c28fa7d135a3ae1d6ca09e33840f162d1c209bf1a49d064594dd31f042b23c8", func := "estuary/estuarylaw13.TenureSees", spec := "tenureSees", apart := false, narrowed := true }
def TenureSeesUptoSaid : Prop := tenureSeesUptoRow.holds Try.pinned (OpenSpec.upto tenureSeesSpec)

/-- 'estuarylaw13.TenureWatches', WHERE WHAT IT READS IS OF BULK AT MOST 1048576: true; the input reads as it did. -/
def tenureWatchesUptoRow : OpenClaim := { program := "ytimfbdiiaakhiaa", sum := "2c28fa7d135a3ae1d6ca09e33840f162d1c209bf1a49d064594dd31f042b23c8", func := "estuary/estuarylaw13.TenureWatches", spec := "tenureWatches", apart := false, narrowed := true }
def TenureWatchesUptoSaid : Prop := tenureWatchesUptoRow.holds Try.pinned (OpenSpec.upto tenureWatchesSpec)

/-- 'estuarylaw13.TenureNone', WHERE WHAT IT READS IS OF BULK AT MOST 1048576: true; the input reads as it did. -/
def tenureNoneUptoRow : OpenClaim := { program := "ytimfbdiiaakhiaa", sum := "2c28fa7d135a3ae1d6ca09e33840f162d1c209bf1a49d064594dd31f042b23c8", func := "estuary/estuarylaw13.TenureNone", spec := "tenureNone", apart := false, narrowed := true }
def TenureNoneUptoSaid : Prop := tenureNoneUptoRow.holds Try.pinned (OpenSpec.upto tenureNoneSpec)

/-- 'estuarylaw13.TenureEpochs', WHERE WHAT IT READS IS OF BULK AT MOST 1048576: true; the input reads as it did. -/
def tenureEpochsUptoRow : OpenClaim := { program := "ytimfbdiiaakhiaa", sum := "2c28fa7d135a3ae1d6ca09e33840f162d1c209bf1a49d064594dd31f042b23c8", func := "estuary/estuarylaw13.TenureEpochs", spec := "tenureEpochs", apart := false, narrowed := true }
def TenureEpochsUptoSaid : Prop := tenureEpochsUptoRow.holds Try.pinned (OpenSpec.upto tenureEpochsSpec)

end Rows
end Go.Proofs.Ytimfbdiiaakhiaa

/- PostPlays holds: whatever list of calls it is given, the call returns true, and the arguments read as before. -/
import Derived.Test.YtnjhgckmfebdoaaRows
import Derived.Test.YtnjhgckmfebdoaaOpen
import Derived.Test.YtnjhgckmfebdoaaQh
import Derived.WalkKit
import Derived.ProofKit
import Derived.OpenShut
import Derived.ShutString
import Derived.ChangeOld
import Derived.Below
import Derived.SizedLaws
set_option linter.unusedVariables false
namespace Go.Proofs.Ytnjhgckmfebdoaa.postPlays
open Go.ChangeShapes Go.WideShapes Go.ChangeAt Go.RowKit Go.Proofs.Ytnjhgckmfebdoaa.Op Go.Proofs.YtnjhgckmfebdoaaW.PrintWords
open Go.ChangeMaps (open_string shut_string)
theorem own : ownKnob Try.prog.godebug = none := by kernel_rfl
theorem laidOut : laidOutB Try.prog = true := by kernel_rfl
theorem open0 : Opens Try.prog (Kd.slice 33 Go.Proofs.Ytnjhgckmfebdoaa.MAll.kOp) 22 (fun xs => xs.length * Try.prog.bytesOf 33 ≤ 140737488351232 ∧ ∀ x ∈ xs, (fun y => (fun x => (fun n => (Lit.int .i64 n).wf = true) x.1 ∧ (fun x => (fun xs => xs.length * Try.prog.bytesOf 34 ≤ 140737488351232 ∧ ∀ x ∈ xs, (fun xs => xs.length * Try.prog.bytesOf 5 ≤ 140737488351232 ∧ ∀ x ∈ xs, (fun n => (Lit.int .u8 n).wf = true) x) x) x.1 ∧ (fun n => (Lit.int .i64 n).wf = true) x.2) x.2) (id y)) x) := (opens_slice Try.underlying22 (by kernel_rfl) (opens_struct (d := (Kd.pair (Kd.int .i64) (Kd.pair (Kd.slice 34 (Kd.slice 5 (Kd.int .u8))) (Kd.int .i64)))) (g := id) Try.underlying33 (by kernel_rfl) (fields_cons rfl (opens_int Try.underlying3 (by kernel_rfl)) (fields_cons rfl (opens_slice Try.underlying31 (by kernel_rfl) (opens_slice Try.underlying34 (by kernel_rfl) (opens_int Try.underlying5 (by kernel_rfl)))) (fields_one rfl (opens_int Try.underlying3 (by kernel_rfl))))) id (fun _ => rfl)))
set_option maxRecDepth 100000 in
theorem lifted (os : Os) (started : os.Started) (H : Type) (enc : TypeId × Value → H) :
    ReturnsInHanded {} Try.checked os 3 .any (Rows.postPlaysSpec.pre6 enc Try.prog Try.f3 Rows.postPlaysRow.domain false) (Rows.postPlaysSpec.post enc Try.prog Try.f3 false true false false) := by
  refine returnsInHanded_of_change_sized (C := Try.checked) own started (by kernel_rfl) Try.func3
    (ChangeSpec.witness6 (enc := enc) (C := Try.checked) false ⟨#[], #[.slice none 0 0], []⟩ 8 (by kernel_rfl) (by kernel_rfl) (by kernel_rfl) (by kernel_rfl)) ?_
  intro W base args ds gs before hval0 hW hcnd hsz0 _
  have hsz : (DataW.weightsEach Try.prog (Try.f3.params.toList ++ Rows.postPlaysSpec.plain.varTypes Try.prog) (ds ++ gs)).all (· ≤ reachBytes) = true := hsz0
  have hval : ∀ (j : Nat) t v, Try.f3.params[j]? = some t → args[j]? = some v → Value.okWide Try.prog W .any base t v := hval0
  have hW' := hW
  obtain ⟨p, q, hA0, hV, rfl, hfz, hnd⟩ := hW
  have hA : DataW.TrodAll enc Try.prog W 0 (fun _ => true) true Try.f3.params.toList args.toList ds p := hA0
  rw [Try.params3] at hA hval hsz
  obtain ⟨v0, vs0, d0, ds0, p0, q0, hargs, rfl, rfl, h0, r0⟩ := trodAll_cons hA
  obtain ⟨rfl, rfl, rfl⟩ := trodAll_nil r0
  obtain rfl : args = #[v0] := by cases args; simp_all
  obtain ⟨rfl, rfl⟩ := trodVars_none hV
  have k0 := h0
  have lt0 : ∀ x ∈ p0, x.block < W.heap.size := by obtain ⟨m, hm⟩ := k0; exact DataW.trod_lt m _ _ _ hm
  have wt0 : ∀ n ∈ d0.weights Try.prog 22, n ≤ 140737488351232 := fun n hn => by have := List.all_eq_true.1 hsz _ (DataW.weights_mem_each (j := 0) (t := 22) (d := d0) rfl rfl n hn); exact of_decide_eq_true this
  obtain ⟨a0, len0, cap0, rfl⟩ := okWide_slice Try.underlying22 (hval 0 22 v0 rfl rfl)
  obtain ⟨y0, hK0, hq0⟩ := let ⟨fuel, hf⟩ := h0; open0.2 enc W fuel _ _ hf wt0
  obtain ⟨A0, c0, he0, hc0, hC0⟩ := hK0
  obtain ⟨rfl, rfl, rfl⟩ : a0 = A0 ∧ len0 = y0.length ∧ cap0 = c0 := by simpa [Value.cells] using he0
  clear hA0 hval0 hsz0 hsz
  refine (Go.Proofs.Ytnjhgckmfebdoaa.MAll.plays_walk W _ _ y0 hC0 hc0 hq0).mono fun e W' ⟨he, bel⟩ => ?_
  subst he
  exact ⟨_, rfl, _, _, _, [], _, [], hW', trodAll_mk1 (shut_bool Try.underlying4 _), (trodAll_cons_mk (Below.trod laidOut (by kernel_rfl) (of_decide_eq_true (by kernel_rfl)) k0 bel lt0) trodAll_mk0), rfl, bel.frame _, fun h => by cases h⟩
theorem over : Rows.postPlaysRow.holds Try.pinned (OpenSpec.ofChange Rows.postPlaysSpec) :=
  OpenClaim.holds_of_wide 3 Try.f3 rfl rfl rfl rfl rfl rfl rfl ⟨rfl, rfl, rfl, rfl, rfl⟩ rfl rfl rfl rfl rfl (by kernel_rfl) Try.func3 (by kernel_rfl)
    (of_decide_eq_true (by kernel_rfl)) (by unfold Func.isWrapper; first | (rw [if_pos (by decide +kernel)]; kernel_rfl) | (rw [if_neg (by decide +kernel)]; exact ⟨rfl, rfl⟩))
    (fun os started H enc _ => lifted os started H enc)
theorem proved : Rows.PostPlaysSaid := over
#print axioms proved
end Go.Proofs.Ytnjhgckmfebdoaa.postPlays
namespace Go.Proofs.Ytnjhgckmfebdoaa
/-- The row, under a short name, for the claim. -/
theorem postPlays_holds : Rows.PostPlaysSaid := postPlays.proved
end Go.Proofs.Ytnjhgckmfebdoaa

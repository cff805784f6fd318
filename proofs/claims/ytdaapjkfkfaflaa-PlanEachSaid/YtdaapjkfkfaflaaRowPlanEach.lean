/- PlanEach holds: whatever plan it is given, the call returns true, and the argument reads as before. -/
import Derived.Test.YtdaapjkfkfaflaaRows
import Derived.Test.YtdaapjkfkfaflaaOpen
import Derived.Test.YtdaapjkfkfaflaaPx
import Derived.WalkKit
import Derived.ProofKit
import Derived.OpenShut
import Derived.ShutString
import Derived.ChangeOld
import Derived.Below
import Derived.SizedLaws
set_option linter.unusedVariables false
namespace Go.Proofs.Ytdaapjkfkfaflaa.planEach
open Go.ChangeShapes Go.WideShapes Go.ChangeAt Go.RowKit Go.Proofs.Ytdaapjkfkfaflaa.Op Go.Proofs.YtdaapjkfkfaflaaW.PrintWords
open Go.ChangeMaps (open_string shut_string)
theorem own : ownKnob Try.prog.godebug = none := by kernel_rfl
theorem laidOut : laidOutB Try.prog = true := by kernel_rfl
theorem open0 : Opens Try.prog Go.Proofs.Ytdaapjkfkfaflaa.MAll.kPlan 24 (fun y => (fun x => (fun n => (Lit.int .i64 n).wf = true) x.1 ∧ (fun x => (fun n => (Lit.int .i64 n).wf = true) x.1 ∧ (fun x => (fun xs => xs.length * Try.prog.bytesOf 3 ≤ 140737488351232 ∧ ∀ x ∈ xs, (fun n => (Lit.int .i64 n).wf = true) x) x.1 ∧ (fun x => (fun n => (Lit.int .i64 n).wf = true) x.1 ∧ (fun x => (fun n => (Lit.int .i64 n).wf = true) x.1 ∧ (fun x => (fun n => (Lit.int .i64 n).wf = true) x.1 ∧ (fun x => (fun n => (Lit.int .i64 n).wf = true) x.1 ∧ (fun n => (Lit.int .i64 n).wf = true) x.2) x.2) x.2) x.2) x.2) x.2) x.2) (id y)) := (opens_struct (d := (Kd.pair (Kd.int .i64) (Kd.pair (Kd.int .i64) (Kd.pair (Kd.slice 3 (Kd.int .i64)) (Kd.pair (Kd.int .i64) (Kd.pair (Kd.int .i64) (Kd.pair (Kd.int .i64) (Kd.pair (Kd.int .i64) (Kd.int .i64))))))))) (g := id) Try.underlying24 (by kernel_rfl) (fields_cons rfl (opens_int Try.underlying3 (by kernel_rfl)) (fields_cons rfl (opens_int Try.underlying3 (by kernel_rfl)) (fields_cons rfl (opens_slice Try.underlying22 (by kernel_rfl) (opens_int Try.underlying3 (by kernel_rfl))) (fields_cons rfl (opens_int Try.underlying3 (by kernel_rfl)) (fields_cons rfl (opens_int Try.underlying3 (by kernel_rfl)) (fields_cons rfl (opens_int Try.underlying3 (by kernel_rfl)) (fields_cons rfl (opens_int Try.underlying3 (by kernel_rfl)) (fields_one rfl (opens_int Try.underlying3 (by kernel_rfl)))))))))) id (fun _ => rfl))
set_option maxRecDepth 100000 in
theorem lifted (os : Os) (started : os.Started) (H : Type) (enc : TypeId × Value → H) :
    ReturnsInHanded {} Try.checked os 6 .any (Rows.planEachSpec.pre6 enc Try.prog Try.f6 Rows.planEachRow.domain false) (Rows.planEachSpec.post enc Try.prog Try.f6 false true false false) := by
  refine returnsInHanded_of_change_sized (C := Try.checked) own started (by kernel_rfl) Try.func6
    (ChangeSpec.witness6 (enc := enc) (C := Try.checked) false ⟨#[], #[.agg #[.int .i64 0, .int .i64 0, .slice none 0 0, .int .i64 0, .int .i64 0, .int .i64 0, .int .i64 0, .int .i64 0]], []⟩ 8 (by kernel_rfl) (by kernel_rfl) (by kernel_rfl) (by kernel_rfl)) ?_
  intro W base args ds gs before hval0 hW hcnd hsz0 _
  have hsz : (DataW.weightsEach Try.prog (Try.f6.params.toList ++ Rows.planEachSpec.plain.varTypes Try.prog) (ds ++ gs)).all (· ≤ reachBytes) = true := hsz0
  have hval : ∀ (j : Nat) t v, Try.f6.params[j]? = some t → args[j]? = some v → Value.okWide Try.prog W .any base t v := hval0
  have hW' := hW
  obtain ⟨p, q, hA0, hV, rfl, hfz, hnd⟩ := hW
  have hA : DataW.TrodAll enc Try.prog W 0 (fun _ => true) true Try.f6.params.toList args.toList ds p := hA0
  rw [Try.params6] at hA hval hsz
  obtain ⟨v0, vs0, d0, ds0, p0, q0, hargs, rfl, rfl, h0, r0⟩ := trodAll_cons hA
  obtain ⟨rfl, rfl, rfl⟩ := trodAll_nil r0
  obtain rfl : args = #[v0] := by cases args; simp_all
  obtain ⟨rfl, rfl⟩ := trodVars_none hV
  have k0 := h0
  have lt0 : ∀ x ∈ p0, x.block < W.heap.size := by obtain ⟨m, hm⟩ := k0; exact DataW.trod_lt m _ _ _ hm
  have wt0 : ∀ n ∈ d0.weights Try.prog 24, n ≤ 140737488351232 := fun n hn => by have := List.all_eq_true.1 hsz _ (DataW.weights_mem_each (j := 0) (t := 24) (d := d0) rfl rfl n hn); exact of_decide_eq_true this
  obtain ⟨cs0, rfl⟩ := okWide_agg Try.underlying24 (hval 0 24 v0 rfl rfl)
  obtain ⟨y0, hK0, hq0⟩ := let ⟨fuel, hf⟩ := h0; open0.2 enc W fuel _ _ hf wt0
  clear hA0 hval0 hsz0 hsz
  refine (Go.Proofs.Ytdaapjkfkfaflaa.MAll.each_walk W cs0 y0 (by simpa [Value.cells] using hK0) hq0).mono fun e W' ⟨he, bel⟩ => ?_
  subst he
  exact ⟨_, rfl, _, _, _, [], _, [], hW', trodAll_mk1 (shut_bool Try.underlying4 _), (trodAll_cons_mk (Below.trod laidOut (by kernel_rfl) (of_decide_eq_true (by kernel_rfl)) k0 bel lt0) trodAll_mk0), rfl, bel.frame _, fun h => by cases h⟩
theorem over : Rows.planEachRow.holds Try.pinned (OpenSpec.ofChange Rows.planEachSpec) :=
  OpenClaim.holds_of_wide 6 Try.f6 rfl rfl rfl rfl rfl rfl rfl ⟨rfl, rfl, rfl, rfl, rfl⟩ rfl rfl rfl rfl rfl (by kernel_rfl) Try.func6 (by kernel_rfl)
    (of_decide_eq_true (by kernel_rfl)) (by unfold Func.isWrapper; first | (rw [if_pos (by decide +kernel)]; kernel_rfl) | (rw [if_neg (by decide +kernel)]; exact ⟨rfl, rfl⟩))
    (fun os started H enc _ => lifted os started H enc)
theorem proved : Rows.PlanEachSaid := over
#print axioms proved
end Go.Proofs.Ytdaapjkfkfaflaa.planEach
namespace Go.Proofs.Ytdaapjkfkfaflaa
/-- The row, under a short name, for the claim. -/
theorem planEach_holds : Rows.PlanEachSaid := planEach.proved
end Go.Proofs.Ytdaapjkfkfaflaa

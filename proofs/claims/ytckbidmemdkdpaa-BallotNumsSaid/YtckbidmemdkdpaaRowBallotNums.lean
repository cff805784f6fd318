/- BallotNums holds: whatever register and numbers it is given, the call returns true, and the arguments read as before. -/
import Derived.Test.YtckbidmemdkdpaaRows
import Derived.Test.YtckbidmemdkdpaaOpen
import Derived.Test.YtckbidmemdkdpaaNc
import Derived.WalkKit
import Derived.ProofKit
import Derived.OpenShut
import Derived.ShutString
import Derived.ChangeOld
import Derived.Below
import Derived.SizedLaws
set_option linter.unusedVariables false
namespace Go.Proofs.Ytckbidmemdkdpaa.ballotNums
open Go.ChangeShapes Go.WideShapes Go.ChangeAt Go.RowKit Go.Proofs.Ytckbidmemdkdpaa.Op Go.Proofs.YtckbidmemdkdpaaW.PrintWords
open Go.ChangeMaps (open_string shut_string)
theorem own : ownKnob Try.prog.godebug = none := by kernel_rfl
theorem laidOut : laidOutB Try.prog = true := by kernel_rfl
theorem open0 : Opens Try.prog Go.Proofs.Ytckbidmemdkdpaa.MAll.kReg 26 (fun y => (fun x => (fun y => (fun x => (fun n => (Lit.int .i64 n).wf = true) x.1 ∧ (fun x => (fun n => (Lit.int .i64 n).wf = true) x.1 ∧ (fun n => (Lit.int .i64 n).wf = true) x.2) x.2) (id y)) x.1 ∧ (fun x => (fun y => (fun x => (fun n => (Lit.int .i64 n).wf = true) x.1 ∧ (fun x => (fun n => (Lit.int .i64 n).wf = true) x.1 ∧ (fun n => (Lit.int .i64 n).wf = true) x.2) x.2) (id y)) x.1 ∧ (fun xs => xs.length * Try.prog.bytesOf 3 ≤ 140737488351232 ∧ ∀ x ∈ xs, (fun n => (Lit.int .i64 n).wf = true) x) x.2) x.2) (id y)) := (opens_struct (d := (Kd.pair Go.Proofs.Ytckbidmemdkdpaa.MAll.kBal (Kd.pair Go.Proofs.Ytckbidmemdkdpaa.MAll.kBal (Kd.slice 3 (Kd.int .i64))))) (g := id) Try.underlying26 (by kernel_rfl) (fields_cons rfl (opens_struct (d := (Kd.pair (Kd.int .i64) (Kd.pair (Kd.int .i64) (Kd.int .i64)))) (g := id) Try.underlying23 (by kernel_rfl) (fields_cons rfl (opens_int Try.underlying3 (by kernel_rfl)) (fields_cons rfl (opens_int Try.underlying3 (by kernel_rfl)) (fields_one rfl (opens_int Try.underlying3 (by kernel_rfl))))) id (fun _ => rfl)) (fields_cons rfl (opens_struct (d := (Kd.pair (Kd.int .i64) (Kd.pair (Kd.int .i64) (Kd.int .i64)))) (g := id) Try.underlying23 (by kernel_rfl) (fields_cons rfl (opens_int Try.underlying3 (by kernel_rfl)) (fields_cons rfl (opens_int Try.underlying3 (by kernel_rfl)) (fields_one rfl (opens_int Try.underlying3 (by kernel_rfl))))) id (fun _ => rfl)) (fields_one rfl (opens_slice Try.underlying24 (by kernel_rfl) (opens_int Try.underlying3 (by kernel_rfl)))))) id (fun _ => rfl))
theorem open1 : Opens Try.prog (Kd.slice 3 (Kd.int .i64)) 24 (fun xs => xs.length * Try.prog.bytesOf 3 ≤ 140737488351232 ∧ ∀ x ∈ xs, (fun n => (Lit.int .i64 n).wf = true) x) := (opens_slice Try.underlying24 (by kernel_rfl) (opens_int Try.underlying3 (by kernel_rfl)))
set_option maxRecDepth 100000 in
theorem lifted (os : Os) (started : os.Started) (H : Type) (enc : TypeId × Value → H) :
    ReturnsInHanded {} Try.checked os 8 .any (Rows.ballotNumsSpec.pre6 enc Try.prog Try.f8 Rows.ballotNumsRow.domain false) (Rows.ballotNumsSpec.post enc Try.prog Try.f8 false true false false) := by
  refine returnsInHanded_of_change_sized (C := Try.checked) own started (by kernel_rfl) Try.func8
    (ChangeSpec.witness6 (enc := enc) (C := Try.checked) false ⟨#[], #[.agg #[.int .i64 0, .int .i64 0, .int .i64 0, .int .i64 0, .int .i64 0, .int .i64 0, .slice none 0 0], .slice none 0 0], []⟩ 8 (by kernel_rfl) (by kernel_rfl) (by kernel_rfl) (by kernel_rfl)) ?_
  intro W base args ds gs before hval0 hW hcnd hsz0 _
  have hsz : (DataW.weightsEach Try.prog (Try.f8.params.toList ++ Rows.ballotNumsSpec.plain.varTypes Try.prog) (ds ++ gs)).all (· ≤ reachBytes) = true := hsz0
  have hval : ∀ (j : Nat) t v, Try.f8.params[j]? = some t → args[j]? = some v → Value.okWide Try.prog W .any base t v := hval0
  have hW' := hW
  obtain ⟨p, q, hA0, hV, rfl, hfz, hnd⟩ := hW
  have hA : DataW.TrodAll enc Try.prog W 0 (fun _ => true) true Try.f8.params.toList args.toList ds p := hA0
  rw [Try.params8] at hA hval hsz
  obtain ⟨v0, vs0, d0, ds0, p0, q0, hargs, rfl, rfl, h0, r0⟩ := trodAll_cons hA
  obtain ⟨v1, vs1, d1, ds1, p1, q1, rfl, rfl, rfl, h1, r1⟩ := trodAll_cons r0
  obtain ⟨rfl, rfl, rfl⟩ := trodAll_nil r1
  obtain rfl : args = #[v0, v1] := by cases args; simp_all
  obtain ⟨rfl, rfl⟩ := trodVars_none hV
  have k0 := h0
  have lt0 : ∀ x ∈ p0, x.block < W.heap.size := by obtain ⟨m, hm⟩ := k0; exact DataW.trod_lt m _ _ _ hm
  have wt0 : ∀ n ∈ d0.weights Try.prog 26, n ≤ 140737488351232 := fun n hn => by have := List.all_eq_true.1 hsz _ (DataW.weights_mem_each (j := 0) (t := 26) (d := d0) rfl rfl n hn); exact of_decide_eq_true this
  obtain ⟨cs0, rfl⟩ := okWide_agg Try.underlying26 (hval 0 26 v0 rfl rfl)
  obtain ⟨y0, hK0, hq0⟩ := let ⟨fuel, hf⟩ := h0; open0.2 enc W fuel _ _ hf wt0
  have k1 := h1
  have lt1 : ∀ x ∈ p1, x.block < W.heap.size := by obtain ⟨m, hm⟩ := k1; exact DataW.trod_lt m _ _ _ hm
  have wt1 : ∀ n ∈ d1.weights Try.prog 24, n ≤ 140737488351232 := fun n hn => by have := List.all_eq_true.1 hsz _ (DataW.weights_mem_each (j := 1) (t := 24) (d := d1) rfl rfl n hn); exact of_decide_eq_true this
  obtain ⟨a1, len1, cap1, rfl⟩ := okWide_slice Try.underlying24 (hval 1 24 v1 rfl rfl)
  obtain ⟨y1, hK1, hq1⟩ := let ⟨fuel, hf⟩ := h1; open1.2 enc W fuel _ _ hf wt1
  obtain ⟨A1, c1, he1, hc1, hC1⟩ := hK1
  obtain ⟨rfl, rfl, rfl⟩ : a1 = A1 ∧ len1 = y1.length ∧ cap1 = c1 := by simpa [Value.cells] using he1
  clear hA0 hval0 hsz0 hsz
  refine (Go.Proofs.Ytckbidmemdkdpaa.MAll.nums_walk W cs0 y0 (by simpa [Value.cells] using hK0) hq0 _ _ y1 hC1 hc1 hq1).mono fun e W' ⟨he, bel⟩ => ?_
  subst he
  exact ⟨_, rfl, _, _, _, [], _, [], hW', trodAll_mk1 (shut_bool Try.underlying4 _), (trodAll_cons_mk (Below.trod laidOut (by kernel_rfl) (of_decide_eq_true (by kernel_rfl)) k0 bel lt0) (trodAll_cons_mk (Below.trod laidOut (by kernel_rfl) (of_decide_eq_true (by kernel_rfl)) k1 bel lt1) trodAll_mk0)), rfl, bel.frame _, fun h => by cases h⟩
theorem over : Rows.ballotNumsRow.holds Try.pinned (OpenSpec.ofChange Rows.ballotNumsSpec) :=
  OpenClaim.holds_of_wide 8 Try.f8 rfl rfl rfl rfl rfl rfl rfl ⟨rfl, rfl, rfl, rfl, rfl⟩ rfl rfl rfl rfl rfl (by kernel_rfl) Try.func8 (by kernel_rfl)
    (of_decide_eq_true (by kernel_rfl)) (by unfold Func.isWrapper; first | (rw [if_pos (by decide +kernel)]; kernel_rfl) | (rw [if_neg (by decide +kernel)]; exact ⟨rfl, rfl⟩))
    (fun os started H enc _ => lifted os started H enc)
theorem proved : Rows.BallotNumsSaid := over
#print axioms proved
end Go.Proofs.Ytckbidmemdkdpaa.ballotNums
namespace Go.Proofs.Ytckbidmemdkdpaa
/-- The row, under a short name, for the claim. -/
theorem ballotNums_holds : Rows.BallotNumsSaid := ballotNums.proved
end Go.Proofs.Ytckbidmemdkdpaa

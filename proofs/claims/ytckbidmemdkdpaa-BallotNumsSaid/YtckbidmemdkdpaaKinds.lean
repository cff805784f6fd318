/- Ballots and registers as kinds. -/
import Derived.Test.YtckbidmemdkdpaaBv
set_option linter.unusedVariables false
set_option linter.unusedSimpArgs false
namespace Go.Proofs.Ytckbidmemdkdpaa.MAll
open Go.RowKit Go.Proofs.YtckbidmemdkdpaaW.PrintWords Go.Proofs.YtckbidmemdkdpaaW.PrintLast Go.Proofs.YtckbidmemdkdpaaW.PrintMore

/-! kinds -/
def kBal : Kd Bal := Kd.iso (Kd.pair (Kd.int .i64) (Kd.pair (Kd.int .i64) (Kd.int .i64))) id
def kReg : Kd Reg := Kd.iso (Kd.pair kBal (Kd.pair kBal (Kd.slice 3 (Kd.int .i64)))) id
theorem bal_cells {w : World} {b : Bal} {cs : List Value} (h : kBal.K w b cs) : cs = (balA b).toList := by
  obtain ⟨a0, a1, rfl, e0, a2, a3, rfl, e1, e2⟩ := h
  obtain rfl : a0 = [.int .i64 b.1] := e0
  obtain rfl : a2 = [.int .i64 b.2.1] := e1
  obtain rfl : a3 = [.int .i64 b.2.2] := e2
  rfl
theorem reg_cells {w : World} {r : Reg} {cs : List Value} (h : kReg.K w r cs) : ∃ A ca, cs = (regA r A ca).toList ∧ r.2.2.length ≤ ca ∧ (Kd.int .i64).C w A r.2.2.length r.2.2 := by
  obtain ⟨a0, a1, rfl, e0, a2, a3, rfl, e1, ⟨A, ca, rfl, hc, hC⟩⟩ := h
  obtain rfl := bal_cells e0
  obtain rfl := bal_cells e1
  exact ⟨A, ca, rfl, hc, hC⟩
abbrev BalQ (b : Bal) : Prop := (Lit.int .i64 b.1).wf = true ∧ (Lit.int .i64 b.2.1).wf = true ∧ (Lit.int .i64 b.2.2).wf = true
theorem balq_ok {b : Bal} (h : BalQ b) : balOk b := ⟨wf_ok h.1, wf_ok h.2.1, wf_ok h.2.2⟩
end Go.Proofs.Ytckbidmemdkdpaa.MAll

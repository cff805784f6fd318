/- Ballots: the reference's Accept. -/
import Derived.Test.YtckbidmemdkdpaaBv
import Derived.Test.YtckbidmemdkdpaaMAllx5
set_option linter.unusedVariables false
set_option linter.unusedSimpArgs false
namespace Go.Proofs.Ytckbidmemdkdpaa.MAll
open Go.RowKit Go.Proofs.YtckbidmemdkdpaaW.PrintWords Go.Proofs.YtckbidmemdkdpaaW.PrintLast Go.Proofs.YtckbidmemdkdpaaW.PrintMore

theorem refaccept_f (r : Reg) (b : Bal) (v : List Int) : estuaryref09_Accept.f 1 r.1.1 r.1.2.1 r.1.2.2 r.2.1.1 r.2.1.2.1 r.2.1.2.2 r.2.2 b.1 b.2.1 b.2.2 v = some (tup8 (accR r b v) ((accE r b v).getD 0)) := by
  unfold estuaryref09_Accept.f accR accE askedE
  rw [refgood_f, refsound_f, isZero]
  simp only [Option.bind_some]
  have hj : ∀ q, estuaryref09_Accept.j0 1 v q r.1.1 r.1.2.1 r.1.2.2 r.2.1.1 r.2.1.2.1 r.2.1.2.2 r.2.2 b.1 b.2.1 b.2.2 = if q = true then some (tup8 zeroR 2) else if lessB b r.1 = true then some (tup8 zeroR 11) else if v.length < 17592186044416 then some (tup8 ((b, b, v) : Reg) 0) else none := by
    intro q
    rw [estuaryref09_Accept.j0, refless_f]
    simp only [Option.bind_some]
    split
    · rfl
    · split
      · rfl
      · simp only [List.length_nil, Nat.zero_add, List.nil_append]
        try (split <;> rfl)
  simp only [hj]
  cases goodR r
  · simp
  · cases soundB b
    · simp
    · by_cases hz : b = zeroB
      · simp [hz]
      · by_cases hv : v.length ≤ 32
        · have e : decide ((v.length : Int) > 32) = false := decide_eq_false (by omega)
          have hvl : v.length < 17592186044416 := by omega
          cases hb : lessB b r.1 <;> simp [hz, hv, e, hvl]
        · have e : decide ((v.length : Int) > 32) = true := decide_eq_true (by omega)
          simp [hz, hv, e]
theorem refaccept_v (r : Reg) (A : Option Addr) (ca : Nat) (w : World) (hr : (Kd.int .i64).C w A r.2.2.length r.2.2) (hc : r.2.2.length ≤ ca) (b : Bal) (V : Option Addr) (cv : Nat) (v : List Int) (hr2 : (Kd.int .i64).C w V v.length v) (hc2 : v.length ≤ cv) :
    Calls Try.prog 14 #[.agg (regA r A ca), .agg (balA b), .slice V v.length cv] w fun e w' => ∃ B cb, e = .returned (.tuple #[.agg (regA (accR r b v) B cb), .int .i64 ((accE r b v).getD 0)]) ∧ (Kd.int .i64).R 3 w' w.heap.size (fun _ => True) (.slice B (accR r b v).2.2.length cb) (accR r b v).2.2 ∧ Below w.heap.size w w' := by
  refine (estuaryref09_Accept.calls 1 _ _ _ _ _ _ A ca _ _ _ _ V cv v _ _ _ _ _ _ _ _ w hr hc hr2 hc2 (refaccept_f r b v)).mono ?_
  rintro e w' ⟨u, rfl, hR, hb⟩
  obtain ⟨B, cb, rfl⟩ := Kd.R_slice hR
  exact ⟨B, cb, rfl, hR, hb⟩
end Go.Proofs.Ytckbidmemdkdpaa.MAll

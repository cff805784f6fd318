/- Ballots: Take, the program's and the reference's. -/
import Derived.Test.YtckbidmemdkdpaaBv
import Derived.Test.YtckbidmemdkdpaaMAllx8
import Derived.Test.YtckbidmemdkdpaaMAllx9
set_option linter.unusedVariables false
set_option linter.unusedSimpArgs false
namespace Go.Proofs.Ytckbidmemdkdpaa.MAll
open Go.RowKit Go.Proofs.YtckbidmemdkdpaaW.PrintWords Go.Proofs.YtckbidmemdkdpaaW.PrintLast Go.Proofs.YtckbidmemdkdpaaW.PrintMore

/-- What numbers are a register. -/
def takeR (l : List Int) : Reg := ((l.getD 0 0, l.getD 1 0, l.getD 2 0), (l.getD 3 0, l.getD 4 0, l.getD 5 0), l.drop 6)
def takesB (l : List Int) : Bool := decide (6 ≤ l.length) && goodR (takeR l)
def takenR (l : List Int) : Reg := if takesB l then takeR l else zeroR
theorem take_f (l : List Int) (hl : l.length < 17592186044416) (hw : ∀ x ∈ l, i64ok x) : ballot_Take.f 4 l = some (tup8 (takenR l) (takesB l)) := by
  unfold ballot_Take.f takenR takesB
  by_cases h6 : l.length < 6
  · rw [if_pos (by omega)]
    simp [show ¬ 6 ≤ l.length by omega, tup8, zeroR, zeroB]
  · rw [if_neg (by omega), if_pos (by omega), if_pos (by omega), if_pos (by omega), if_pos (by omega), if_pos (by omega), if_pos (by omega), if_pos (by omega)]
    unfold slices_Clone_int_int.f
    rw [if_pos (by rw [List.length_drop]; omega)]
    have hg : ∀ j, j < 6 → i64ok (l.getD j 0) := by
      intro j hj
      have hlt : j < l.length := by omega
      simp only [List.getD_eq_getElem?_getD, List.getElem?_eq_getElem hlt, Option.getD_some]
      exact hw _ (List.getElem_mem hlt)
    have h := good_f (takeR l) ⟨hg 0 (by omega), hg 1 (by omega), hg 2 (by omega)⟩ ⟨hg 3 (by omega), hg 4 (by omega), hg 5 (by omega)⟩
    have e : ballot_Good.f 4 (rd l 0) (rd l 1) (rd l 2) (rd l 3) (rd l 4) (rd l 5) (l.drop 6) = some (goodR (takeR l)) := h
    simp only [Option.bind_some]
    rw [e]
    simp only [Option.bind_some, show 6 ≤ l.length by omega, decide_true, Bool.true_and]
    cases goodR (takeR l) <;> rfl
theorem reftake_f (l : List Int) (hl : l.length < 17592186044416) : estuaryref09_Take.f l = some (tup8 (takenR l) (takesB l)) := by
  unfold estuaryref09_Take.f takenR takesB
  by_cases h6 : l.length < 6
  · rw [if_pos (by omega)]
    simp [show ¬ 6 ≤ l.length by omega, tup8, zeroR, zeroB]
  · rw [if_neg (by omega), if_pos (by omega), if_pos (by omega), if_pos (by omega), if_pos (by omega), if_pos (by omega), if_pos (by omega)]
    have h := refgood_f (takeR l)
    have e : estuaryref09_Good.f (rd l 0) (rd l 1) (rd l 2) (rd l 3) (rd l 4) (rd l 5) (l.drop 6) = some (goodR (takeR l)) := h
    simp only [Option.bind_some]
    rw [if_pos (by omega), if_pos (by simp; omega)]
    simp only [Option.bind_some, List.nil_append]
    rw [e]
    simp only [Option.bind_some, show 6 ≤ l.length by omega, decide_true, Bool.true_and]
    cases goodR (takeR l) <;> rfl
theorem take_v (A : Option Addr) (c : Nat) (l : List Int) (w : World) (hr : (Kd.int .i64).C w A l.length l) (hc : l.length ≤ c) (hl : l.length < 17592186044416) (hw : ∀ x ∈ l, i64ok x) :
    Calls Try.prog 27 #[.slice A l.length c] w fun e w' => ∃ B cb, e = .returned (.tuple #[.agg (regA (takenR l) B cb), .bool (takesB l)]) ∧ (Kd.int .i64).R 3 w' w.heap.size (fun _ => True) (.slice B (takenR l).2.2.length cb) (takenR l).2.2 ∧ Below w.heap.size w w' := by
  refine (ballot_Take.calls 4 A c l _ _ _ _ _ _ _ _ w hr hc (take_f l hl hw)).mono ?_
  rintro e w' ⟨u, rfl, hR, hb⟩
  obtain ⟨B, cb, rfl⟩ := Kd.R_slice hR
  exact ⟨B, cb, rfl, hR, hb⟩
theorem reftake_v (A : Option Addr) (c : Nat) (l : List Int) (w : World) (hr : (Kd.int .i64).C w A l.length l) (hc : l.length ≤ c) (hl : l.length < 17592186044416) :
    Calls Try.prog 28 #[.slice A l.length c] w fun e w' => ∃ B cb, e = .returned (.tuple #[.agg (regA (takenR l) B cb), .bool (takesB l)]) ∧ (Kd.int .i64).R 3 w' w.heap.size (fun _ => True) (.slice B (takenR l).2.2.length cb) (takenR l).2.2 ∧ Below w.heap.size w w' := by
  refine (estuaryref09_Take.calls A c l _ _ _ _ _ _ _ _ w hr hc (reftake_f l hl)).mono ?_
  rintro e w' ⟨u, rfl, hR, hb⟩
  obtain ⟨B, cb, rfl⟩ := Kd.R_slice hR
  exact ⟨B, cb, rfl, hR, hb⟩
end Go.Proofs.Ytckbidmemdkdpaa.MAll

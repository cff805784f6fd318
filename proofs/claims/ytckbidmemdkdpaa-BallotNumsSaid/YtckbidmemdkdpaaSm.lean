/- Ballots: small lemmas: how ballots are ordered; blocks that are written. -/
import Derived.Test.YtckbidmemdkdpaaAlive09
import Derived.Test.YtckbidmemdkdpaaKinds
set_option linter.unusedVariables false
set_option linter.unusedSimpArgs false
namespace Go.Proofs.Ytckbidmemdkdpaa.MAll
open Go.RowKit Go.Proofs.YtckbidmemdkdpaaW.PrintWords Go.Proofs.YtckbidmemdkdpaaW.PrintLast Go.Proofs.YtckbidmemdkdpaaW.PrintMore
theorem less_iff (a b : Bal) : lessB a b = true ↔ (a.1 < b.1 ∨ (a.1 = b.1 ∧ (a.2.1 < b.2.1 ∨ (a.2.1 = b.2.1 ∧ a.2.2 < b.2.2)))) := by
  unfold lessB
  by_cases h1 : a.1 = b.1
  · by_cases h2 : a.2.1 = b.2.1
    · rw [if_pos h1, if_pos h2, decide_eq_true_eq]; omega
    · rw [if_pos h1, if_neg h2, decide_eq_true_eq]; omega
  · rw [if_neg h1, decide_eq_true_eq]; omega
theorem C_blk {W : World} {g e : Nat} {cs : Array Value} (xs : List Int) (h : W.heap[g]? = some (.cells cs e (0, 0))) (hcs : cs = (nums .i64 xs).toArray) (hm : xs.length ≤ 9223372036854775807) : (Kd.int .i64).C W (some ⟨g, 0, none⟩) xs.length xs := by
  subst hcs
  refine Kd.C_of_reads (d := 0) ⟨rfl, hm, fun _ => ⟨_, rfl, fun j hj => ?_⟩⟩
  rw [add_plain]
  refine (blk_cell h j).trans ?_
  simp [nums, List.getD_eq_getElem?_getD, List.getElem?_eq_getElem hj]
theorem grown_set (W : World) (g j : Nat) (v : Value) : W.grownBy (W.setCell ⟨g, j, none⟩ v) (some g) := ⟨rfl, rfl, rfl, by simp [World.setCell], fun k _ hk => Below.heap_setCell _ _ _ k (fun e => hk (by rw [e]))⟩
theorem b_true {b : Bool} (h : ¬ b = false) : b = true := by cases b <;> simp_all
theorem b_false {b : Bool} (h : ¬ b = true) : b = false := by cases b <;> simp_all
end Go.Proofs.Ytckbidmemdkdpaa.MAll

/- Small lemmas over the print's words, for the walks that are written by hand in this seat: literals, first cells, errors held against each other. -/
import Derived.Test.YtefeklhdaafbbaaWWords
import Derived.Test.YtefeklhdaafbbaaWLast
import Derived.Test.YtefeklhdaafbbaaWMore
import Derived.Test.YtefeklhdaafbbaaProg
import Derived.Lib.SliceRun
import Derived.LaidEql
import Derived.KernelRfl
namespace Go.Proofs.Ytefeklhdaafbbaa.Kit
open Go.RowKit Go.Proofs.YtefeklhdaafbbaaW.PrintWords Go.Proofs.YtefeklhdaafbbaaW.PrintLast Go.Proofs.YtefeklhdaafbbaaW.PrintMore

theorem add_zero' (a : Addr) : a.add 0 = a := by
  unfold Addr.add
  obtain ⟨b, o, v⟩ := a
  cases v <;> simp
theorem R_lits (W : World) (e : Nat) (xs : List Int) (hm : xs.length ≤ 9223372036854775807) (cs : Array Value) (hcs : cs = (nums .i64 xs).toArray) : (Kd.int .i64).R e (W.alloc (.cells cs e)) W.heap.size (fun _ => True) (.slice (some ⟨W.heap.size, 0, none⟩) xs.length xs.length) xs := by
  subst hcs
  exact Kd.R_of_own (own_lit W W.heap.size e .i64 xs (Nat.le_refl _) hm) (fun _ _ => trivial)
theorem C_lits (W : World) (e : Nat) (xs : List Int) (hm : xs.length ≤ 9223372036854775807) (cs : Array Value) (hcs : cs = (nums .i64 xs).toArray) : (Kd.int .i64).C (W.alloc (.cells cs e)) (some ⟨W.heap.size, 0, none⟩) xs.length xs := by
  obtain ⟨A, c, he, _, hr⟩ := Kd.R_reads (R_lits W e xs hm cs hcs)
  injection he with h1 h2 h3
  subst h1
  exact hr
theorem C_first {w : World} {A : Option Addr} {x : Int} {l : List Int} (h : (Kd.int .i64).C w A (x :: l).length (x :: l)) : ∃ a, A = some a ∧ w.cell? a = some (.int .i64 x) := by
  obtain ⟨ad, rfl, hc⟩ := ReadsOf.at_ (Kd.reads_of_C (d := 0) h) 0 (by omega) (by simp)
  have e : (0 : Int).toNat = 0 := rfl
  rw [e, add_zero'] at hc
  exact ⟨ad, rfl, by simpa [rdOf] using hc⟩
end Go.Proofs.Ytefeklhdaafbbaa.Kit

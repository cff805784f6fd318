/- PlanBounds: what the eight cases share. -/
import Derived.Test.YtdaapjkfkfaflaaPv
import Derived.Test.YtdaapjkfkfaflaaKit
import Derived.Test.YtdaapjkfkfaflaaErr
import Derived.Deep.DrawnRows
import Derived.LoopN
import Derived.Handy
set_option linter.unusedVariables false
set_option linter.unusedSimpArgs false
namespace Go.Proofs.Ytdaapjkfkfaflaa.MAll
open Go.RowKit Go.Proofs.YtdaapjkfkfaflaaW.PrintWords Go.Proofs.YtdaapjkfkfaflaaW.PrintLast Go.Proofs.YtdaapjkfkfaflaaW.PrintMore
attribute [local go_sem ↓] Go.wp_at_zero Go.wp_at_succ

theorem C_blk {W : World} {g e : Nat} {cs : Array Value} (xs : List Int) (h : W.heap[g]? = some (.cells cs e (0, 0))) (hcs : cs = (nums .i64 xs).toArray) (hm : xs.length ≤ 9223372036854775807) : (Kd.int .i64).C W (some ⟨g, 0, none⟩) xs.length xs := by
  subst hcs
  refine Kd.C_of_reads (d := 0) ⟨rfl, hm, fun _ => ⟨_, rfl, fun j hj => ?_⟩⟩
  rw [add_plain]
  refine (blk_cell h j).trans ?_
  simp [nums, List.getD_eq_getElem?_getD, List.getElem?_eq_getElem hj]
theorem R_blk {W : World} {g e base : Nat} {cs : Array Value} (xs : List Int) (h : W.heap[g]? = some (.cells cs e (0, 0))) (hcs : cs = (nums .i64 xs).toArray) (hb : base ≤ g) (hm : xs.length ≤ 9223372036854775807) : (Kd.int .i64).R e W base (fun _ => True) (.slice (some ⟨g, 0, none⟩) xs.length xs.length) xs := by
  subst hcs
  exact Kd.R_of_own ⟨by simp [encs], .inr ⟨g, xs.length, _, rfl, hb, h, Nat.le_refl _, by simpa [maxLen] using hm, by simp [nums], by rw [Nat.mul_one]; simp only [encs, nums]; exact List.take_of_length_le (by simp)⟩⟩ (fun _ _ => trivial)
theorem grown_set (W : World) (g j : Nat) (v : Value) : W.grownBy (W.setCell ⟨g, j, none⟩ v) (some g) := ⟨rfl, rfl, rfl, by simp [World.setCell], fun k _ hk => Below.heap_setCell _ _ _ k (fun e => hk (by rw [e]))⟩
theorem umod (x k : Int) (hk : 0 < k) : 0 ≤ (IntKind.u64.wrap x).tmod k ∧ (IntKind.u64.wrap x).tmod k < k := by
  have h : 0 ≤ IntKind.u64.wrap x := by show 0 ≤ x % _; exact Int.emod_nonneg _ (by decide)
  rw [Int.tmod_eq_emod_of_nonneg h]
  exact ⟨Int.emod_nonneg _ (by omega), Int.emod_lt_of_pos _ hk⟩
theorem umod_by (x : Int) : ∃ t : Int, wrap64 (1 + wrap64 ((IntKind.u64.wrap x).tmod 1000)) = t ∧ 1 ≤ t ∧ t ≤ 1000 := by
  obtain ⟨h0, h1⟩ := umod x 1000 (by omega)
  generalize (IntKind.u64.wrap x).tmod 1000 = r at *
  refine ⟨_, rfl, ?_, ?_⟩ <;> (unfold wrap64; omega)
theorem bad_of {s k : Int} {l : List Int} {sh h c b le : Int} (hn : ¬ ((k = 1 ∨ k = 3 ∨ k = 5) ∧ (1 ≤ s ∧ s ≤ 4) ∧ (1 ≤ l.length ∧ l.length ≤ 3) ∧ 1 ≤ minOf l ∧ (1 ≤ sh ∧ sh ≤ 4) ∧ (1 ≤ h ∧ h ≤ 64) ∧ (1 ≤ c ∧ c ≤ 1024) ∧ (1 ≤ b ∧ b ≤ 16) ∧ (1 ≤ le ∧ le ≤ 20))) : goodP s k l sh h c b le = false := by
  cases hg : goodP s k l sh h c b le
  · rfl
  · exact absurd (good_iff.1 hg) hn
theorem low_good : goodP 1 1 [1] 1 1 1 1 1 = true := by decide +kernel
theorem high_good : goodP 4 5 [9223372036854775807, 1, 7] 4 64 1024 16 20 = true := by decide +kernel
theorem check_at (g : Bool) (q : Value) (s k : Int) (A : Option Addr) (n ca : Nat) (l : List Int) (hn : l.length = n) (sh h c b le : Int) (w : World) (hg : goodP s k l sh h c b le = g) (hq : errW (if g then none else some 14) = q) (hr : (Kd.int .i64).C w A l.length l) (hc : n ≤ ca) :
    Calls Try.prog 9 #[.agg (planCells s k A n ca sh h c b le)] w fun e w' => e = .returned q ∧ Below w.heap.size w w' := by
  subst hq hn
  exact check_v g s k A ca l sh h c b le w hg hr hc
theorem nodes_at (g : Bool) (q : Int) (s k : Int) (A : Option Addr) (n ca : Nat) (l : List Int) (hn : l.length = n) (sh h c b le : Int) (w : World) (hg : goodP s k l sh h c b le = g) (hq : (if g then s + 2 + k + 1 else 0) = q) (hr : (Kd.int .i64).C w A l.length l) (hc : n ≤ ca) :
    Calls Try.prog 12 #[.agg (planCells s k A n ca sh h c b le)] w fun e w' => e = .returned (.int .i64 q) ∧ Below w.heap.size w w' := by
  subst hq hn
  exact nodes_v g s k A ca l sh h c b le w hg hr hc
theorem lanes_at (g : Bool) (q : Int) (s k : Int) (A : Option Addr) (n ca : Nat) (l : List Int) (hn : l.length = n) (sh h c b le : Int) (w : World) (hg : goodP s k l sh h c b le = g) (hq : (if g then (l.length : Int) * sh else 0) = q) (hr : (Kd.int .i64).C w A l.length l) (hc : n ≤ ca) :
    Calls Try.prog 11 #[.agg (planCells s k A n ca sh h c b le)] w fun e w' => e = .returned (.int .i64 q) ∧ Below w.heap.size w w' := by
  subst hq hn
  exact lanes_v g s k A ca l sh h c b le w hg hr hc
end Go.Proofs.Ytdaapjkfkfaflaa.MAll

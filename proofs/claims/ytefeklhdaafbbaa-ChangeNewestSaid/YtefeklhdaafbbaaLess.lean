/- How ballots are ordered: the printed functions in plain words; registers as kinds. -/
import Derived.Test.YtefeklhdaafbbaaMark
set_option linter.unusedVariables false
set_option linter.unusedSimpArgs false
namespace Go.Proofs.Ytefeklhdaafbbaa.MAll
open Go.RowKit Go.Proofs.YtefeklhdaafbbaaW.PrintWords Go.Proofs.YtefeklhdaafbbaaW.PrintLast Go.Proofs.YtefeklhdaafbbaaW.PrintMore

abbrev Bal := Int × Int × Int
def lessB (a b : Bal) : Bool := if a.1 = b.1 then (if a.2.1 = b.2.1 then decide (a.2.2 < b.2.2) else decide (a.2.1 < b.2.1)) else decide (a.1 < b.1)
def cmpI (a b : Int) : Int := if a < b then -1 else if a > b then 1 else 0
theorem compare_f (a b : Int) : cmp_Compare_int.f a b = some (cmpI a b) := by
  unfold cmp_Compare_int.f cmp_isNaN_int.f cmpI
  simp only [Option.bind_some, bne_self_eq_false]
  by_cases h1 : a < b
  · simp [h1]
  · by_cases h2 : a > b
    · have h2' : b < a := h2
      simp [h1, h2']
    · have h2' : ¬ b < a := h2
      simp [h1, h2']
def orI (l : List Int) : Int := l.foldr (fun x r => if x = 0 then r else x) 0
theorem or3_f (x y z : Int) : cmp_Or_int.f 4 [x, y, z] = some (if x = 0 then (if y = 0 then z else y) else x) := by
  unfold cmp_Or_int.f
  have e1 : wrap64 1 = 1 := by decide +kernel
  have e2 : wrap64 2 = 2 := by decide +kernel
  have e3 : wrap64 3 = 3 := by decide +kernel
  simp only [cmp_Or_int.l0, List.length_cons, List.length_nil]
  by_cases hx : x = 0
  · subst hx
    by_cases hy : y = 0
    · subst hy
      by_cases hz : z = 0
      · subst hz
        simp [rd, e1, e2, e3]
      · simp [rd, e1, e2, e3, hz]
    · simp [rd, e1, e2, e3, hy]
  · simp [rd, e1, e2, e3, hx]
theorem ballot_compare_f (a b : Bal) : ballot_compare.f 4 a.1 a.2.1 a.2.2 b.1 b.2.1 b.2.2 = some (if cmpI a.1 b.1 = 0 then (if cmpI a.2.1 b.2.1 = 0 then cmpI a.2.2 b.2.2 else cmpI a.2.1 b.2.1) else cmpI a.1 b.1) := by
  unfold ballot_compare.f
  simp only [compare_f, Option.bind_some, or3_f]
theorem less_f (a b : Bal) : ballot_Less.f 4 a.1 a.2.1 a.2.2 b.1 b.2.1 b.2.2 = some (lessB a b) := by
  unfold ballot_Less.f
  rw [ballot_compare_f]
  simp only [Option.bind_some]
  congr 1
  have key : ∀ x y : Int, (cmpI x y = 0 ↔ x = y) ∧ (decide (cmpI x y < 0) = decide (x < y)) := by
    intro x y
    unfold cmpI
    by_cases h1 : x < y
    · rw [if_pos h1]; constructor <;> simp <;> omega
    · rw [if_neg h1]
      by_cases h2 : x > y
      · rw [if_pos h2]; constructor <;> simp <;> omega
      · rw [if_neg h2]; constructor <;> simp <;> omega
  unfold lessB
  by_cases h1 : a.1 = b.1
  · rw [if_pos ((key _ _).1.2 h1), if_pos h1]
    by_cases h2 : a.2.1 = b.2.1
    · rw [if_pos ((key _ _).1.2 h2), if_pos h2]
      exact (key _ _).2
    · rw [if_neg (fun e => h2 ((key _ _).1.1 e)), if_neg h2]
      exact (key _ _).2
  · rw [if_neg (fun e => h1 ((key _ _).1.1 e)), if_neg h1]
    exact (key _ _).2
theorem refless_f (a b : Bal) : estuaryref09_Less.f a.1 a.2.1 a.2.2 b.1 b.2.1 b.2.2 = some (lessB a b) := by
  unfold estuaryref09_Less.f lessB
  split
  · split <;> rfl
  · rfl
theorem less_is (b : Bool) (x y : Bal) (w : World) (hb : lessB x y = b) : Calls Try.prog 25 #[.agg #[.int .i64 x.1, .int .i64 x.2.1, .int .i64 x.2.2], .agg #[.int .i64 y.1, .int .i64 y.2.1, .int .i64 y.2.2]] w fun e w' => e = .returned (.bool b) ∧ Below w.heap.size w w' := by
  subst hb
  exact ballot_Less.calls 4 _ _ _ _ _ _ _ w (less_f x y)
theorem refless_is (b : Bool) (x y : Bal) (w : World) (hb : lessB x y = b) : Calls Try.prog 26 #[.agg #[.int .i64 x.1, .int .i64 x.2.1, .int .i64 x.2.2], .agg #[.int .i64 y.1, .int .i64 y.2.1, .int .i64 y.2.2]] w fun e w' => e = .returned (.bool b) ∧ Below w.heap.size w w' := by
  subst hb
  exact estuaryref09_Less.calls _ _ _ _ _ _ _ w (refless_f x y)

/-! registers -/
abbrev Reg := Bal × Bal × List Int
def kBal : Kd Bal := Kd.iso (Kd.pair (Kd.int .i64) (Kd.pair (Kd.int .i64) (Kd.int .i64))) id
def kReg : Kd Reg := Kd.iso (Kd.pair kBal (Kd.pair kBal (Kd.slice 3 (Kd.int .i64)))) id
def stepN (b r : Reg) : Reg := if lessB b.2.1 r.2.1 then r else b
def zeroR : Reg := ((0, 0, 0), (0, 0, 0), [])
def newestR (l : List Reg) : Reg := l.foldl stepN zeroR
theorem newest_take (l : List Reg) (k : Nat) (hk : k < l.length) : newestR (l.take (k + 1)) = stepN (newestR (l.take k)) (l[k]'hk) := by
  rw [List.take_succ_eq_append_getElem hk]
  unfold newestR
  rw [List.foldl_append]
  rfl
theorem newest_mem (l : List Reg) (P : Reg → Prop) (h0 : P zeroR) (h : ∀ r ∈ l, P r) : P (newestR l) := by
  unfold newestR
  have : ∀ (l : List Reg) (b : Reg), P b → (∀ r ∈ l, P r) → P (l.foldl stepN b) := by
    intro l
    induction l with
    | nil => intro b hb _; exact hb
    | cons x t ih =>
      intro b hb hx
      refine ih _ ?_ (fun r hr => hx r (List.mem_cons_of_mem _ hr))
      unfold stepN
      split
      · exact hx x (List.mem_cons_self ..)
      · exact hb
  exact this l zeroR h0 h
end Go.Proofs.Ytefeklhdaafbbaa.MAll

/- Ballots: what the printed functions compute, in plain terms. -/
import Derived.Test.YtckbidmemdkdpaaMAllx0
import Derived.Test.YtckbidmemdkdpaaMAllx1
import Derived.Test.YtckbidmemdkdpaaMAllx2
import Derived.Test.YtckbidmemdkdpaaMAllx3
import Derived.Test.YtckbidmemdkdpaaMAllx6
import Derived.OpenShut
import Derived.KernelRfl
set_option linter.unusedVariables false
set_option linter.unusedSimpArgs false
namespace Go.Proofs.Ytckbidmemdkdpaa.MAll
open Go.RowKit Go.Proofs.YtckbidmemdkdpaaW.PrintWords Go.Proofs.YtckbidmemdkdpaaW.PrintLast Go.Proofs.YtckbidmemdkdpaaW.PrintMore

abbrev Bal := Int × Int × Int
def lessB (a b : Bal) : Bool := if a.1 = b.1 then (if a.2.1 = b.2.1 then decide (a.2.2 < b.2.2) else decide (a.2.1 < b.2.1)) else decide (a.1 < b.1)
def cmpI (a b : Int) : Int := if a < b then -1 else if a > b then 1 else 0
theorem compare_f (a b : Int) : cmp_Compare_int.f a b = some (cmpI a b) := by
  unfold cmp_Compare_int.f cmp_isNaN_int.f cmpI
  simp only [Option.bind_some, bne_self_eq_false]
  by_cases h1 : a < b
  · simp [h1]
  · by_cases h2 : a > b
    · have h2' : b < a := h2
      simp [h1, h2']
    · have h2' : ¬ b < a := h2
      simp [h1, h2']
def orI (l : List Int) : Int := l.foldr (fun x r => if x = 0 then r else x) 0
theorem or3_f (x y z : Int) : cmp_Or_int.f 4 [x, y, z] = some (if x = 0 then (if y = 0 then z else y) else x) := by
  unfold cmp_Or_int.f
  have e1 : wrap64 1 = 1 := by decide +kernel
  have e2 : wrap64 2 = 2 := by decide +kernel
  have e3 : wrap64 3 = 3 := by decide +kernel
  simp only [cmp_Or_int.l0, List.length_cons, List.length_nil]
  by_cases hx : x = 0
  · subst hx
    by_cases hy : y = 0
    · subst hy
      by_cases hz : z = 0
      · subst hz
        simp [rd, e1, e2, e3]
      · simp [rd, e1, e2, e3, hz]
    · simp [rd, e1, e2, e3, hy]
  · simp [rd, e1, e2, e3, hx]
theorem ballot_compare_f (a b : Bal) : ballot_compare.f 4 a.1 a.2.1 a.2.2 b.1 b.2.1 b.2.2 = some (if cmpI a.1 b.1 = 0 then (if cmpI a.2.1 b.2.1 = 0 then cmpI a.2.2 b.2.2 else cmpI a.2.1 b.2.1) else cmpI a.1 b.1) := by
  unfold ballot_compare.f
  simp only [compare_f, Option.bind_some, or3_f]
theorem less_f (a b : Bal) : ballot_Less.f 4 a.1 a.2.1 a.2.2 b.1 b.2.1 b.2.2 = some (lessB a b) := by
  unfold ballot_Less.f
  rw [ballot_compare_f]
  simp only [Option.bind_some]
  congr 1
  have key : ∀ x y : Int, (cmpI x y = 0 ↔ x = y) ∧ (decide (cmpI x y < 0) = decide (x < y)) := by
    intro x y
    unfold cmpI
    by_cases h1 : x < y
    · rw [if_pos h1]; constructor <;> simp <;> omega
    · rw [if_neg h1]
      by_cases h2 : x > y
      · rw [if_pos h2]; constructor <;> simp <;> omega
      · rw [if_neg h2]; constructor <;> simp <;> omega
  unfold lessB
  by_cases h1 : a.1 = b.1
  · rw [if_pos ((key _ _).1.2 h1), if_pos h1]
    by_cases h2 : a.2.1 = b.2.1
    · rw [if_pos ((key _ _).1.2 h2), if_pos h2]
      exact (key _ _).2
    · rw [if_neg (fun e => h2 ((key _ _).1.1 e)), if_neg h2]
      exact (key _ _).2
  · rw [if_neg (fun e => h1 ((key _ _).1.1 e)), if_neg h1]
    exact (key _ _).2
theorem refless_f (a b : Bal) : estuaryref09_Less.f a.1 a.2.1 a.2.2 b.1 b.2.1 b.2.2 = some (lessB a b) := by
  unfold estuaryref09_Less.f lessB
  split
  · split <;> rfl
  · rfl

/-! no part below 0 -/
def i64ok (x : Int) : Prop := -9223372036854775808 ≤ x ∧ x ≤ 9223372036854775807
theorem wf_ok {x : Int} (h : (Lit.int .i64 x).wf = true) : i64ok x := bounds_i64 h
theorem wrap_toInt (x : BitVec 64) : wrap64 (x.toNat : Int) = x.toInt := by
  have := x.isLt
  rw [BitVec.toInt_eq_toNat_cond]
  unfold wrap64
  split <;> omega
theorem ofInt_toInt (a : Int) (h : i64ok a) : (BitVec.ofInt 64 a).toInt = a := by
  unfold i64ok at h
  rw [BitVec.toInt_ofInt, Int.bmod_def]
  simp only [Nat.reducePow]
  omega
theorem or_sign (a b : Int) (ha : i64ok a) (hb : i64ok b) : (Go.bits .or .i64 a b ≥ 0 ↔ a ≥ 0 ∧ b ≥ 0) ∧ i64ok (Go.bits .or .i64 a b) := by
  have e : Go.bits .or .i64 a b = (BitVec.ofInt 64 a ||| BitVec.ofInt 64 b).toInt := by
    have h1 : Go.bits .or .i64 a b = IntKind.i64.wrap ((BitVec.ofInt 64 a ||| BitVec.ofInt 64 b).toNat : Int) := rfl
    rw [h1, i64_w, wrap_toInt]
  rw [e]
  constructor
  · have hm : (BitVec.ofInt 64 a ||| BitVec.ofInt 64 b).msb = ((BitVec.ofInt 64 a).msb || (BitVec.ofInt 64 b).msb) := BitVec.msb_or
    rw [BitVec.msb_eq_toInt, BitVec.msb_eq_toInt, BitVec.msb_eq_toInt, ofInt_toInt a ha, ofInt_toInt b hb] at hm
    generalize (BitVec.ofInt 64 a ||| BitVec.ofInt 64 b).toInt = t at hm ⊢
    by_cases h1 : a < 0 <;> by_cases h2 : b < 0 <;> simp [h1, h2] at hm <;> omega
  · have h1 := BitVec.toInt_lt (x := BitVec.ofInt 64 a ||| BitVec.ofInt 64 b)
    have h2 := BitVec.le_toInt (x := BitVec.ofInt 64 a ||| BitVec.ofInt 64 b)
    simp only [Nat.add_one_sub_one, Nat.reduceSub] at h1 h2
    unfold i64ok
    omega
def balOk (a : Bal) : Prop := i64ok a.1 ∧ i64ok a.2.1 ∧ i64ok a.2.2
def soundB (a : Bal) : Bool := decide (0 ≤ a.1 ∧ 0 ≤ a.2.1 ∧ 0 ≤ a.2.2)
theorem sound_f (a : Bal) (h : balOk a) : ballot_sound.f a.1 a.2.1 a.2.2 = some (soundB a) := by
  obtain ⟨h1, h2, h3⟩ := h
  have s1 := or_sign a.1 a.2.1 h1 h2
  have s2 := or_sign _ a.2.2 s1.2 h3
  unfold ballot_sound.f soundB
  congr 1
  rw [decide_eq_decide]
  rw [s2.1, s1.1]
  omega
theorem refsound_f (a : Bal) : estuaryref09_sound.f a.1 a.2.1 a.2.2 = some (soundB a) := by
  unfold estuaryref09_sound.f soundB
  split
  · split
    · congr 1; rw [decide_eq_decide]; omega
    · congr 1; exact (decide_eq_false (by omega)).symm
  · congr 1; exact (decide_eq_false (by omega)).symm
abbrev Reg := Bal × Bal × List Int
def zeroB : Bal := (0, 0, 0)
def zeroR : Reg := (zeroB, zeroB, [])
/-- Is a register in form? -/
def goodR (r : Reg) : Bool := soundB r.1 && (soundB r.2.1 && (!lessB r.1 r.2.1 && (decide (r.2.2.length ≤ 32) && !(decide (r.2.1 = zeroB) && decide (0 < r.2.2.length)))))
theorem isZero (a : Bal) : (a.1 == 0 && (a.2.1 == 0 && (a.2.2 == 0))) = decide (a = zeroB) := by
  obtain ⟨x, y, z⟩ := a
  unfold zeroB
  simp only [Prod.mk.injEq]
  by_cases h1 : x = 0 <;> by_cases h2 : y = 0 <;> by_cases h3 : z = 0 <;> simp [h1, h2, h3]
theorem eqBal (a b : Bal) : (a.1 == b.1 && (a.2.1 == b.2.1 && (a.2.2 == b.2.2))) = decide (a = b) := by
  obtain ⟨x, y, z⟩ := a
  obtain ⟨x', y', z'⟩ := b
  simp only [Prod.mk.injEq]
  by_cases h1 : x = x' <;> by_cases h2 : y = y' <;> by_cases h3 : z = z' <;> simp [h1, h2, h3]
theorem good_f (r : Reg) (h1 : balOk r.1) (h2 : balOk r.2.1) : ballot_Good.f 4 r.1.1 r.1.2.1 r.1.2.2 r.2.1.1 r.2.1.2.1 r.2.1.2.2 r.2.2 = some (goodR r) := by
  unfold ballot_Good.f goodR
  rw [sound_f r.1 h1, sound_f r.2.1 h2, less_f, isZero]
  simp only [Option.bind_some]
  cases soundB r.1 <;> cases soundB r.2.1 <;> cases lessB r.1 r.2.1 <;> simp
  by_cases h3 : r.2.2.length ≤ 32
  · by_cases h4 : r.2.1 = zeroB
    · simp [h3, h4, show (r.2.2.length : Int) ≤ 32 by omega]
    · simp [h3, h4, show (r.2.2.length : Int) ≤ 32 by omega]
  · simp [h3, show ¬ (r.2.2.length : Int) ≤ 32 by omega]
theorem refgood_f (r : Reg) : estuaryref09_Good.f r.1.1 r.1.2.1 r.1.2.2 r.2.1.1 r.2.1.2.1 r.2.1.2.2 r.2.2 = some (goodR r) := by
  unfold estuaryref09_Good.f goodR
  rw [refsound_f r.1, refsound_f r.2.1, refless_f]
  have hz : (!(r.2.1.1 == 0) || (!(r.2.1.2.1 == 0) || !(r.2.1.2.2 == 0))) = !decide (r.2.1 = zeroB) := by
    rw [← isZero]
    cases r.2.1.1 == 0 <;> cases r.2.1.2.1 == 0 <;> cases r.2.1.2.2 == 0 <;> rfl
  rw [hz]
  simp only [Option.bind_some]
  cases soundB r.1 <;> cases soundB r.2.1 <;> cases lessB r.1 r.2.1 <;> simp
  by_cases h3 : r.2.2.length ≤ 32
  · by_cases h4 : r.2.1 = zeroB
    · simp [h3, h4, show ¬ (r.2.2.length : Int) > 32 by omega]
      rw [Bool.eq_iff_iff]
      simp only [beq_iff_eq, Bool.not_eq_true', decide_eq_false_iff_not]
      omega
    · simp [h3, h4, show ¬ (r.2.2.length : Int) > 32 by omega]
  · simp [h3, show (r.2.2.length : Int) > 32 by omega]
/-- Which error, where a ballot may not be asked with. -/
def askedE (r : Reg) (b : Bal) : Option Int := if goodR r = true ∧ soundB b = true ∧ b ≠ zeroB then none else some 2
theorem asked_f (r : Reg) (b : Bal) (h1 : balOk r.1) (h2 : balOk r.2.1) (h3 : balOk b) : ballot_asked.f 4 r.1.1 r.1.2.1 r.1.2.2 r.2.1.1 r.2.1.2.1 r.2.1.2.2 r.2.2 b.1 b.2.1 b.2.2 = some (askedE r b) := by
  unfold ballot_asked.f askedE
  rw [good_f r h1 h2, sound_f b h3, isZero]
  simp only [Option.bind_some]
  cases goodR r <;> cases soundB b <;> by_cases hz : b = zeroB <;> simp [hz]
def prepR (r : Reg) (b : Bal) : Reg := if askedE r b = none ∧ lessB r.1 b = true then (b, r.2.1, r.2.2) else zeroR
def prepE (r : Reg) (b : Bal) : Option Int := if askedE r b = none then (if lessB r.1 b = true then none else some 11) else some 2
def accR (r : Reg) (b : Bal) (v : List Int) : Reg := if askedE r b = none ∧ v.length ≤ 32 ∧ lessB b r.1 = false then (b, b, v) else zeroR
def accE (r : Reg) (b : Bal) (v : List Int) : Option Int := if askedE r b = none ∧ v.length ≤ 32 then (if lessB b r.1 = true then some 11 else none) else some 2
abbrev tup8 {α : Type} (r : Reg) (e : α) : Int × Int × Int × Int × Int × Int × List Int × α := (r.1.1, r.1.2.1, r.1.2.2, r.2.1.1, r.2.1.2.1, r.2.1.2.2, r.2.2, e)
theorem asked_cases (r : Reg) (b : Bal) : askedE r b = none ∨ askedE r b = some 2 := by unfold askedE; split <;> simp
theorem prepare_f (r : Reg) (b : Bal) (h1 : balOk r.1) (h2 : balOk r.2.1) (h3 : balOk b) (hl : r.2.2.length < 17592186044416) :
    ballot_Prepare.f 4 r.1.1 r.1.2.1 r.1.2.2 r.2.1.1 r.2.1.2.1 r.2.1.2.2 r.2.2 b.1 b.2.1 b.2.2 = some (tup8 (prepR r b) (prepE r b)) := by
  unfold ballot_Prepare.f prepR prepE
  rw [asked_f r b h1 h2 h3, less_f]
  unfold slices_Clone_int_int.f
  rw [if_pos hl]
  simp only [Option.bind_some]
  rcases asked_cases r b with h | h
  · simp only [h]
    cases lessB r.1 b <;> rfl
  · simp only [h]; rfl
theorem accept_f (r : Reg) (b : Bal) (v : List Int) (h1 : balOk r.1) (h2 : balOk r.2.1) (h3 : balOk b) :
    ballot_Accept.f 4 r.1.1 r.1.2.1 r.1.2.2 r.2.1.1 r.2.1.2.1 r.2.1.2.2 r.2.2 b.1 b.2.1 b.2.2 v = some (tup8 (accR r b v) (accE r b v)) := by
  unfold ballot_Accept.f accR accE
  rw [asked_f r b h1 h2 h3, less_f]
  simp only [Option.bind_some]
  rcases asked_cases r b with h | h
  · simp only [h]
    by_cases hv : v.length ≤ 32
    · rw [if_pos (show (none : Option Int).isNone = true from rfl), if_neg (by omega)]
      have hcl : slices_Clone_int_int.f v = some v := by unfold slices_Clone_int_int.f; rw [if_pos (by omega)]
      rw [hcl]
      cases lessB b r.1 <;> simp [hv, zeroR, zeroB]
    · rw [if_pos (show (none : Option Int).isNone = true from rfl), if_pos (by omega)]
      simp [hv, zeroR, zeroB]
  · simp only [h]; simp [zeroR, zeroB]
end Go.Proofs.Ytckbidmemdkdpaa.MAll

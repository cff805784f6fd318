/- Ballots: the contracts, in plain terms. -/
import Derived.Test.YtckbidmemdkdpaaBp
set_option linter.unusedVariables false
set_option linter.unusedSimpArgs false
namespace Go.Proofs.Ytckbidmemdkdpaa.MAll
open Go.RowKit Go.Proofs.YtckbidmemdkdpaaW.PrintWords Go.Proofs.YtckbidmemdkdpaaW.PrintLast Go.Proofs.YtckbidmemdkdpaaW.PrintMore

abbrev balA (b : Bal) : Array Value := #[.int .i64 b.1, .int .i64 b.2.1, .int .i64 b.2.2]
abbrev regA (r : Reg) (A : Option Addr) (ca : Nat) : Array Value := #[.int .i64 r.1.1, .int .i64 r.1.2.1, .int .i64 r.1.2.2, .int .i64 r.2.1.1, .int .i64 r.2.1.2.1, .int .i64 r.2.1.2.2, .slice A r.2.2.length ca]
def regOk (r : Reg) : Prop := balOk r.1 ∧ balOk r.2.1
/-! what the reference computes -/
def eqlB (l m : List Int) : Bool := decide (l = m)
theorem same_l0 (x y : Reg) (hl : x.2.2.length = y.2.2.length) (hm : x.2.2.length < 9223372036854775807) : ∀ n i : Nat, i + n = x.2.2.length →
    estuaryref09_Same.l0 (n + 1) i x.1.1 x.1.2.1 x.1.2.2 x.2.1.1 x.2.1.2.1 x.2.1.2.2 x.2.2 y.1.1 y.1.2.1 y.1.2.2 y.2.1.1 y.2.1.2.1 y.2.1.2.2 y.2.2 = some (decide (x.2.2.drop i = y.2.2.drop i)) := by
  intro n
  induction n with
  | zero =>
    intro i hi
    rw [estuaryref09_Same.l0, if_neg (by omega), List.drop_eq_nil_of_le (by omega), List.drop_eq_nil_of_le (by omega)]
    simp
  | succ n ih =>
    intro i hi
    have h0 : i < x.2.2.length := by omega
    have h1 : i < y.2.2.length := by omega
    have e0 : rd x.2.2 (i : Int) = x.2.2[i] := by simp [rd, List.getD_eq_getElem?_getD, List.getElem?_eq_getElem h0]
    have e1 : rd y.2.2 (i : Int) = y.2.2[i] := by simp [rd, List.getD_eq_getElem?_getD, List.getElem?_eq_getElem h1]
    have hw : wrap64 ((i : Int) + 1) = ((i + 1 : Nat) : Int) := by unfold wrap64; omega
    rw [estuaryref09_Same.l0, if_pos (by omega), if_pos (by omega), if_pos (by omega), e0, e1, hw, ih (i + 1) (by omega), List.drop_eq_getElem_cons h0, List.drop_eq_getElem_cons h1]
    split
    · rename_i h; simp only [List.cons.injEq, h, true_and, false_and, decide_false]
    · rename_i h; simp only [List.cons.injEq, h, true_and, false_and, decide_false]
theorem neBal (a b : Bal) : (!(a.1 == b.1) || (!(a.2.1 == b.2.1) || (!(a.2.2 == b.2.2)))) = !decide (a = b) := by
  rw [← eqBal]
  cases a.1 == b.1 <;> cases a.2.1 == b.2.1 <;> cases a.2.2 == b.2.2 <;> rfl
theorem same_f (x y : Reg) (hm : x.2.2.length < 9223372036854775807) :
    estuaryref09_Same.f (x.2.2.length + 2) x.1.1 x.1.2.1 x.1.2.2 x.2.1.1 x.2.1.2.1 x.2.1.2.2 x.2.2 y.1.1 y.1.2.1 y.1.2.2 y.2.1.1 y.2.1.2.1 y.2.1.2.2 y.2.2 = some (decide (x = y)) := by
  unfold estuaryref09_Same.f
  rw [neBal, neBal]
  have hext : x = y ↔ x.1 = y.1 ∧ x.2.1 = y.2.1 ∧ x.2.2 = y.2.2 := by
    obtain ⟨a, b, c⟩ := x
    obtain ⟨a', b', c'⟩ := y
    simp only [Prod.mk.injEq]
  by_cases h1 : x.1 = y.1
  · by_cases h2 : x.2.1 = y.2.1
    · by_cases hl : x.2.2.length = y.2.2.length
      · have h3 := same_l0 x y hl hm x.2.2.length 0 (by omega)
        have e : ((x.2.2.length : Int) != (y.2.2.length : Int)) = false := by simp; omega
        simp only [h1, h2, e, decide_true, Bool.not_true, if_neg Bool.false_ne_true]
        rw [estuaryref09_Same.j0, if_neg Bool.false_ne_true]
        rw [h1, h2] at h3
        rw [show ((0 : Nat) : Int) = 0 from rfl] at h3
        rw [h3, List.drop_zero, List.drop_zero]
        congr 1
        rw [decide_eq_decide, hext]
        simp [h1, h2]
      · have e : ((x.2.2.length : Int) != (y.2.2.length : Int)) = true := by simp; omega
        simp only [h1, h2, e, decide_true, Bool.not_true, if_neg Bool.false_ne_true]
        rw [estuaryref09_Same.j0, if_pos rfl]
        congr 1
        exact (decide_eq_false (fun h => hl (by rw [h]))).symm
    · simp only [h1, h2, decide_true, Bool.not_true, if_neg Bool.false_ne_true, decide_false, Bool.not_false, if_true]
      rw [estuaryref09_Same.j0, if_pos rfl]
      congr 1
      exact (decide_eq_false (fun h => h2 (by rw [h]))).symm
  · simp only [h1, decide_false, Bool.not_false, if_true]
    rw [estuaryref09_Same.j0, if_pos rfl]
    congr 1
    exact (decide_eq_false (fun h => h1 (by rw [h]))).symm

section
variable (r : Reg) (A : Option Addr) (ca : Nat) (w : World) (hr : (Kd.int .i64).C w A r.2.2.length r.2.2) (hc : r.2.2.length ≤ ca)
include hr hc
theorem good_v (h : regOk r) : Calls Try.prog 17 #[.agg (regA r A ca)] w fun e w' => e = .returned (.bool (goodR r)) ∧ Below w.heap.size w w' :=
  ballot_Good.calls 4 _ _ _ _ _ _ A ca _ _ w hr hc (good_f r h.1 h.2)
theorem refgood_v : Calls Try.prog 18 #[.agg (regA r A ca)] w fun e w' => e = .returned (.bool (goodR r)) ∧ Below w.heap.size w w' :=
  estuaryref09_Good.calls _ _ _ _ _ _ A ca _ _ w hr hc (refgood_f r)
theorem prepare_v (b : Bal) (h : regOk r) (h3 : balOk b) (hl : r.2.2.length < 17592186044416) :
    Calls Try.prog 11 #[.agg (regA r A ca), .agg (balA b)] w fun e w' => ∃ B cb, e = .returned (.tuple #[.agg (regA (prepR r b) B cb), errW (prepE r b)]) ∧ (Kd.int .i64).R 3 w' w.heap.size (fun _ => True) (.slice B (prepR r b).2.2.length cb) (prepR r b).2.2 ∧ Below w.heap.size w w' := by
  refine (ballot_Prepare.calls 4 _ _ _ _ _ _ A ca _ _ _ _ _ _ _ _ _ _ _ _ w hr hc (prepare_f r b h.1 h.2 h3 hl)).mono ?_
  rintro e w' ⟨u, rfl, hR, hb⟩
  obtain ⟨B, cb, rfl⟩ := Kd.R_slice hR
  exact ⟨B, cb, rfl, hR, hb⟩
theorem accept_v (b : Bal) (V : Option Addr) (cv : Nat) (v : List Int) (h : regOk r) (h3 : balOk b) (hr2 : (Kd.int .i64).C w V v.length v) (hc2 : v.length ≤ cv) :
    Calls Try.prog 13 #[.agg (regA r A ca), .agg (balA b), .slice V v.length cv] w fun e w' => ∃ B cb, e = .returned (.tuple #[.agg (regA (accR r b v) B cb), errW (accE r b v)]) ∧ (Kd.int .i64).R 3 w' w.heap.size (fun _ => True) (.slice B (accR r b v).2.2.length cb) (accR r b v).2.2 ∧ Below w.heap.size w w' := by
  refine (ballot_Accept.calls 4 _ _ _ _ _ _ A ca _ _ _ _ V cv v _ _ _ _ _ _ _ _ w hr hc hr2 hc2 (accept_f r b v h.1 h.2 h3)).mono ?_
  rintro e w' ⟨u, rfl, hR, hb⟩
  obtain ⟨B, cb, rfl⟩ := Kd.R_slice hR
  exact ⟨B, cb, rfl, hR, hb⟩
theorem same_v (q : Bool) (x : Reg) (B : Option Addr) (cb : Nat) (hr2 : (Kd.int .i64).C w B x.2.2.length x.2.2) (hc2 : x.2.2.length ≤ cb) (hq : decide (r = x) = q) (hm : r.2.2.length < 9223372036854775807) :
    Calls Try.prog 15 #[.agg (regA r A ca), .agg (regA x B cb)] w fun e w' => e = .returned (.bool q) ∧ Below w.heap.size w w' := by
  subst hq
  exact estuaryref09_Same.calls _ _ _ _ _ _ _ A ca _ _ _ _ _ _ _ B cb _ _ w hr hc hr2 hc2 (same_f r x hm)
end
theorem less_v (q : Bool) (x y : Bal) (w : World) (hq : lessB x y = q) : Calls Try.prog 31 #[.agg (balA x), .agg (balA y)] w fun e w' => e = .returned (.bool q) ∧ Below w.heap.size w w' := by
  subst hq
  exact ballot_Less.calls 4 _ _ _ _ _ _ _ w (less_f x y)
theorem refless_v (q : Bool) (x y : Bal) (w : World) (hq : lessB x y = q) : Calls Try.prog 21 #[.agg (balA x), .agg (balA y)] w fun e w' => e = .returned (.bool q) ∧ Below w.heap.size w w' := by
  subst hq
  exact estuaryref09_Less.calls _ _ _ _ _ _ _ w (refless_f x y)
theorem refsound_v (q : Bool) (x : Bal) (w : World) (hq : soundB x = q) : Calls Try.prog 33 #[.agg (balA x)] w fun e w' => e = .returned (.bool q) ∧ Below w.heap.size w w' := by
  subst hq
  exact estuaryref09_sound.calls _ _ _ _ w (refsound_f x)
theorem ints_l0 (l0 l1 : List Int) (hl : l0.length = l1.length) (hm : l0.length < 9223372036854775807) : ∀ n i : Nat, i + n = l0.length → estuarynum_Ints.l0 (n + 1) l0 l1 (l0.length : Int) i = some (decide (l0.drop i = l1.drop i)) := by
  intro n
  induction n with
  | zero =>
    intro i hi
    rw [estuarynum_Ints.l0, if_neg (by omega), List.drop_eq_nil_of_le (by omega), List.drop_eq_nil_of_le (by omega)]
    simp
  | succ n ih =>
    intro i hi
    have h0 : i < l0.length := by omega
    have h1 : i < l1.length := by omega
    have e0 : rd l0 (i : Int) = l0[i] := by simp [rd, List.getD_eq_getElem?_getD, List.getElem?_eq_getElem h0]
    have e1 : rd l1 (i : Int) = l1[i] := by simp [rd, List.getD_eq_getElem?_getD, List.getElem?_eq_getElem h1]
    have hw : wrap64 ((i : Int) + 1) = ((i + 1 : Nat) : Int) := by unfold wrap64; omega
    rw [estuarynum_Ints.l0, if_pos (by omega), if_pos (by omega), if_pos (by omega), if_pos (by omega), e0, e1, hw, ih (i + 1) (by omega), List.drop_eq_getElem_cons h0, List.drop_eq_getElem_cons h1]
    split
    · rename_i h; simp only [List.cons.injEq, h, true_and, false_and, decide_false]
    · rename_i h; simp only [List.cons.injEq, h, true_and, false_and, decide_false]
theorem ints_v (b : Bool) (A0 : Option Addr) (c0 : Nat) (l0 : List Int) (A1 : Option Addr) (c1 : Nat) (l1 : List Int) (w : World) (hb : decide (l0 = l1) = b) (hr0 : (Kd.int .i64).C w A0 l0.length l0) (hc0 : l0.length ≤ c0) (hr1 : (Kd.int .i64).C w A1 l1.length l1) (hc1 : l1.length ≤ c1) (hm : l0.length < 9223372036854775807) :
    Calls Try.prog 20 #[.slice A0 l0.length c0, .slice A1 l1.length c1] w fun e w' => e = .returned (.bool b) ∧ Below w.heap.size w w' := by
  refine (estuarynum_Ints.calls (l0.length + 1) A0 c0 l0 A1 c1 l1 b w hr0 hc0 hr1 hc1 ?_).mono fun _ _ ⟨he, hd⟩ => ⟨he, hd.below⟩
  unfold estuarynum_Ints.f
  by_cases hl : l0.length = l1.length
  · have := ints_l0 l0 l1 hl hm l0.length 0 (by omega)
    rw [if_pos (by omega)]
    rw [← hb]
    simpa using this
  · rw [if_neg (by omega), ← hb]
    congr 1
    exact (decide_eq_false (fun e => hl (by rw [e]))).symm
theorem num_v (q : Int) (a : Option Int) (w : World) (hq : a.getD 0 = q) (ha : a ≠ some 0) : Calls Try.prog 16 #[errW a] w fun e w' => e = .returned (.int .i64 q) ∧ Below w.heap.size w w' := by
  subst hq
  refine (estuarynum_Num.calls a (a.getD 0) w ?_).mono fun _ _ ⟨he, hd⟩ => ⟨he, hd.below⟩
  unfold estuarynum_Num.f
  cases a with
  | none => rfl
  | some c =>
    have hc : ¬ c = 0 := fun e => ha (by rw [e])
    simp [hc]
theorem prepE_ne (r : Reg) (b : Bal) : prepE r b ≠ some 0 := by unfold prepE; split <;> (try split) <;> simp
theorem accE_ne (r : Reg) (b : Bal) (v : List Int) : accE r b v ≠ some 0 := by unfold accE; split <;> (try split) <;> simp
end Go.Proofs.Ytckbidmemdkdpaa.MAll

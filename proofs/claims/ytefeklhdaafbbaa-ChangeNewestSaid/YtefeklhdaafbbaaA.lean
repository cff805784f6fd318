/- What the printed functions of package change and of its reference answer, in plain words; and their contracts in these words. -/
import Derived.Test.YtefeklhdaafbbaaMAllx
set_option linter.unusedVariables false
set_option linter.unusedSimpArgs false
namespace Go.Proofs.Ytefeklhdaafbbaa.MAll
open Go.RowKit Go.Proofs.YtefeklhdaafbbaaW.PrintWords Go.Proofs.YtefeklhdaafbbaaW.PrintLast Go.Proofs.YtefeklhdaafbbaaW.PrintMore

theorem wrap_up {i : Int} {n : Nat} (h0 : 0 ≤ i) (h : i < (n : Int)) (hn : n ≤ 9223372036854775807) : wrap64 (i + 1) = i + 1 := by
  unfold wrap64
  omega
theorem drop_rd {l : List Int} {i : Nat} (h : i < l.length) : l.drop i = rd l i :: l.drop (i + 1) := by
  rw [List.drop_eq_getElem_cons h]
  simp [rd, List.getD_eq_getElem?_getD, List.getElem?_eq_getElem h]
theorem eq_step (l0 l1 : List Int) (i : Nat) (h0 : i < l0.length) (h1 : i < l1.length) : decide (l0.drop i = l1.drop i) = if rd l0 i = rd l1 i then decide (l0.drop (i + 1) = l1.drop (i + 1)) else false := by
  rw [drop_rd h0, drop_rd h1]
  by_cases h : rd l0 i = rd l1 i <;> simp [h]

theorem ints_loop (l0 l1 : List Int) (hl : l0.length = l1.length) (hm : l0.length ≤ 9223372036854775807) (d : Nat) : ∀ (k i : Nat), i + d = l0.length → d < k →
    estuarynum_Ints.l0 k l0 l1 (l0.length : Int) (i : Int) = some (decide (l0.drop i = l1.drop i)) := by
  induction d with
  | zero =>
    intro k i hi hk
    obtain ⟨k, rfl⟩ : ∃ m, k = m + 1 := ⟨k - 1, by omega⟩
    simp only [estuarynum_Ints.l0]
    rw [if_neg (by omega), List.drop_eq_nil_of_le (by omega), List.drop_eq_nil_of_le (by omega)]
    rfl
  | succ d ih =>
    intro k i hi hk
    obtain ⟨k, rfl⟩ : ∃ m, k = m + 1 := ⟨k - 1, by omega⟩
    simp only [estuarynum_Ints.l0]
    rw [if_pos (by omega), if_pos (by omega), if_pos (by omega), if_pos (by omega), eq_step l0 l1 i (by omega) (by omega), wrap_up (n := l0.length) (by omega) (by omega) hm]
    split
    · have := ih k (i + 1) (by omega) (by omega)
      simpa using this
    · rfl
theorem ints_f (l0 l1 : List Int) (hm : l0.length ≤ 9223372036854775807) : estuarynum_Ints.f (l0.length + 1) l0 l1 = some (decide (l0 = l1)) := by
  unfold estuarynum_Ints.f
  by_cases h : l0.length = l1.length
  · rw [if_pos (by omega)]
    simpa using ints_loop l0 l1 h hm l0.length (l0.length + 1) 0 (by omega) (by omega)
  · rw [if_neg (by omega)]
    congr 1
    exact (decide_eq_false (fun e => h (by rw [e]))).symm
theorem ints_any (A0 : Option Addr) (c0 : Nat) (l0 : List Int) (A1 : Option Addr) (c1 : Nat) (l1 : List Int) (w : World) (hr0 : Kd.C (Kd.int .i64) w A0 l0.length l0) (hc0 : l0.length ≤ c0) (hr1 : Kd.C (Kd.int .i64) w A1 l1.length l1) (hc1 : l1.length ≤ c1) :
    Calls Try.prog 12 #[.slice A0 l0.length c0, .slice A1 l1.length c1] w fun e w' => e = .returned (.bool (decide (l0 = l1))) ∧ Drawn0 w w' :=
  estuarynum_Ints.calls _ A0 c0 l0 A1 c1 l1 _ w hr0 hc0 hr1 hc1 (ints_f l0 l1 (Kd.C_max hr0))

theorem equal_loop (l0 l1 : List Int) (hl : l0.length = l1.length) (hm : l0.length ≤ 9223372036854775807) (d : Nat) : ∀ (k i : Nat), i + d = l0.length → d < k →
    slices_Equal_int_int.l0 k l0 l1 (l0.length : Int) (i : Int) = some (decide (l0.drop i = l1.drop i)) := by
  induction d with
  | zero =>
    intro k i hi hk
    obtain ⟨k, rfl⟩ : ∃ m, k = m + 1 := ⟨k - 1, by omega⟩
    simp only [slices_Equal_int_int.l0]
    rw [if_neg (by omega), List.drop_eq_nil_of_le (by omega), List.drop_eq_nil_of_le (by omega)]
    rfl
  | succ d ih =>
    intro k i hi hk
    obtain ⟨k, rfl⟩ : ∃ m, k = m + 1 := ⟨k - 1, by omega⟩
    simp only [slices_Equal_int_int.l0]
    rw [if_pos (by omega), if_pos (by omega), if_pos (by omega), if_pos (by omega), eq_step l0 l1 i (by omega) (by omega), wrap_up (n := l0.length) (by omega) (by omega) hm]
    split
    · have := ih k (i + 1) (by omega) (by omega)
      simpa using this
    · rfl
theorem equal_f (l0 l1 : List Int) (hm : l0.length ≤ 9223372036854775807) : slices_Equal_int_int.f (l0.length + 1) l0 l1 = some (decide (l0 = l1)) := by
  unfold slices_Equal_int_int.f
  by_cases h : l0.length = l1.length
  · rw [if_pos (by omega)]
    simpa using equal_loop l0 l1 h hm l0.length (l0.length + 1) 0 (by omega) (by omega)
  · rw [if_neg (by omega)]
    congr 1
    exact (decide_eq_false (fun e => h (by rw [e]))).symm
theorem same_f (l0 l1 : List Int) (hm : l0.length ≤ 9223372036854775807) : change_Same.f (l0.length + 1) l0 l1 = some (decide (l0 = l1)) := by
  unfold change_Same.f
  rw [equal_f l0 l1 hm]
  rfl
theorem same_any (A0 : Option Addr) (c0 : Nat) (l0 : List Int) (A1 : Option Addr) (c1 : Nat) (l1 : List Int) (w : World) (hr0 : Kd.C (Kd.int .i64) w A0 l0.length l0) (hc0 : l0.length ≤ c0) (hr1 : Kd.C (Kd.int .i64) w A1 l1.length l1) (hc1 : l1.length ≤ c1) :
    Calls Try.prog 17 #[.slice A0 l0.length c0, .slice A1 l1.length c1] w fun e w' => e = .returned (.bool (decide (l0 = l1))) ∧ Drawn0 w w' :=
  change_Same.calls _ A0 c0 l0 A1 c1 l1 _ w hr0 hc0 hr1 hc1 (same_f l0 l1 (Kd.C_max hr0))

theorem ints_is (b : Bool) (A0 : Option Addr) (c0 : Nat) (l0 : List Int) (A1 : Option Addr) (c1 : Nat) (l1 : List Int) (w : World) (hb : decide (l0 = l1) = b) (hr0 : Kd.C (Kd.int .i64) w A0 l0.length l0) (hc0 : l0.length ≤ c0) (hr1 : Kd.C (Kd.int .i64) w A1 l1.length l1) (hc1 : l1.length ≤ c1) :
    Calls Try.prog 12 #[.slice A0 l0.length c0, .slice A1 l1.length c1] w fun e w' => e = .returned (.bool b) ∧ Below w.heap.size w w' :=
  (ints_any A0 c0 l0 A1 c1 l1 w hr0 hc0 hr1 hc1).mono fun _ _ ⟨he, hd⟩ => ⟨by rw [he, hb], hd.below⟩
theorem same_is (b : Bool) (A0 : Option Addr) (c0 : Nat) (l0 : List Int) (A1 : Option Addr) (c1 : Nat) (l1 : List Int) (w : World) (hb : decide (l0 = l1) = b) (hr0 : Kd.C (Kd.int .i64) w A0 l0.length l0) (hc0 : l0.length ≤ c0) (hr1 : Kd.C (Kd.int .i64) w A1 l1.length l1) (hc1 : l1.length ≤ c1) :
    Calls Try.prog 17 #[.slice A0 l0.length c0, .slice A1 l1.length c1] w fun e w' => e = .returned (.bool b) ∧ Below w.heap.size w w' :=
  (same_any A0 c0 l0 A1 c1 l1 w hr0 hc0 hr1 hc1).mono fun _ _ ⟨he, hd⟩ => ⟨by rw [he, hb], hd.below⟩
theorem refsame_loop (l0 l1 : List Int) (hl : l0.length = l1.length) (hm : l0.length ≤ 9223372036854775807) (d : Nat) : ∀ (k i : Nat), i + d = l0.length → d < k →
    estuaryref10_Same.l0 k l0 l1 (i : Int) = some (decide (l0.drop i = l1.drop i)) := by
  induction d with
  | zero =>
    intro k i hi hk
    obtain ⟨k, rfl⟩ : ∃ m, k = m + 1 := ⟨k - 1, by omega⟩
    simp only [estuaryref10_Same.l0]
    rw [if_neg (by omega), List.drop_eq_nil_of_le (by omega), List.drop_eq_nil_of_le (by omega)]
    rfl
  | succ d ih =>
    intro k i hi hk
    obtain ⟨k, rfl⟩ : ∃ m, k = m + 1 := ⟨k - 1, by omega⟩
    simp only [estuaryref10_Same.l0]
    rw [if_pos (by omega), if_pos (by omega), if_pos (by omega), eq_step l0 l1 i (by omega) (by omega), wrap_up (n := l0.length) (by omega) (by omega) hm]
    split
    · have := ih k (i + 1) (by omega) (by omega)
      simpa using this
    · rfl
theorem refsame_f (l0 l1 : List Int) (hm : l0.length ≤ 9223372036854775807) : estuaryref10_Same.f (l0.length + 1) l0 l1 = some (decide (l0 = l1)) := by
  unfold estuaryref10_Same.f
  by_cases h : l0.length = l1.length
  · rw [if_pos (by omega)]
    simpa using refsame_loop l0 l1 h hm l0.length (l0.length + 1) 0 (by omega) (by omega)
  · rw [if_neg (by omega)]
    congr 1
    exact (decide_eq_false (fun e => h (by rw [e]))).symm
theorem refsame_is (b : Bool) (A0 : Option Addr) (c0 : Nat) (l0 : List Int) (A1 : Option Addr) (c1 : Nat) (l1 : List Int) (w : World) (hb : decide (l0 = l1) = b) (hr0 : Kd.C (Kd.int .i64) w A0 l0.length l0) (hc0 : l0.length ≤ c0) (hr1 : Kd.C (Kd.int .i64) w A1 l1.length l1) (hc1 : l1.length ≤ c1) :
    Calls Try.prog 20 #[.slice A0 l0.length c0, .slice A1 l1.length c1] w fun e w' => e = .returned (.bool b) ∧ Below w.heap.size w w' :=
  (estuaryref10_Same.calls _ A0 c0 l0 A1 c1 l1 _ w hr0 hc0 hr1 hc1 (refsame_f l0 l1 (Kd.C_max hr0))).mono fun _ _ ⟨he, hd⟩ => ⟨by rw [he, hb], hd.below⟩
/-- An element of a row of rows of numbers. -/
theorem row_at {α : Type} {d : Kd α} {e : Nat} {w : World} {A : Option Addr} {xs : List (List α)} (h : (Kd.slice e d).C w A xs.length xs) (k : Nat) (hk : k < xs.length) :
    ∃ ad B c, A = some ad ∧ w.cell? (ad.add k) = some (.slice B (xs[k]'hk).length c) ∧ (xs[k]'hk).length ≤ c ∧ d.C w B (xs[k]'hk).length (xs[k]'hk) := by
  obtain ⟨ad, cs, rfl, _, hK, hc⟩ := Kd.C_get h [] k (by omega) (by omega)
  obtain ⟨B, c, rfl, h1, h2⟩ := hK
  have he : xs.getD (k : Int).toNat [] = xs[k]'hk := by simp [List.getD_eq_getElem?_getD, List.getElem?_eq_getElem hk]
  rw [he] at h1 h2 hc
  have := hc 0 _ rfl
  refine ⟨ad, B, c, rfl, ?_, h1, h2⟩
  simpa [Kd.slice] using this
/-- Is a change in form? -/
def good (kind : Int) (old new : List Int) : Bool := (kind == 1 && (old.length == 0 && new.length == 0)) || (kind == 2 && (decide (old.length ≤ 32) && decide (new.length ≤ 32)))
theorem check_f (kind : Int) (old new : List Int) (h0 : old.length < 2305843009213693952) (h1 : new.length < 2305843009213693952) : change_Check.f 1 kind old new = some (if good kind old new then none else some 2) := by
  have hw : wrap64 ((old.length : Int) + (new.length : Int)) = (old.length : Int) + (new.length : Int) := by unfold wrap64; omega
  unfold change_Check.f good
  simp only [change_Check.j0, hw]
  by_cases h1 : kind = 1
  · subst h1
    by_cases h2 : old.length = 0 <;> by_cases h3 : new.length = 0 <;> simp [h2, h3] <;> omega
  · by_cases h4 : kind = 2
    · subst h4
      have e0 : ((old.length : Int) ≤ 32) = (old.length ≤ 32) := propext ⟨fun h => by omega, fun h => by omega⟩
      have e1 : ((new.length : Int) ≤ 32) = (new.length ≤ 32) := propext ⟨fun h => by omega, fun h => by omega⟩
      simp only [e0, e1]
      by_cases h2 : old.length ≤ 32 <;> by_cases h3 : new.length ≤ 32 <;> simp [h2, h3]
    · simp [h1, h4]
theorem check_any (kind : Int) (A0 : Option Addr) (c0 : Nat) (old : List Int) (A1 : Option Addr) (c1 : Nat) (new : List Int) (w : World) (hr0 : Kd.C (Kd.int .i64) w A0 old.length old) (hc0 : old.length ≤ c0) (hr1 : Kd.C (Kd.int .i64) w A1 new.length new) (hc1 : new.length ≤ c1)
    (h0 : old.length < 2305843009213693952) (h1 : new.length < 2305843009213693952) :
    Calls Try.prog 14 #[.agg #[.int .i64 kind, .slice A0 old.length c0, .slice A1 new.length c1]] w fun e w' => e = .returned (errW (if good kind old new then none else some 2)) ∧ Below w.heap.size w w' :=
  change_Check.calls 1 kind A0 c0 old A1 c1 new _ w hr0 hc0 hr1 hc1 (check_f kind old new h0 h1)

/-- What a change does: the value, the error. -/
def doV (kind : Int) (old new v : List Int) : List Int := if good kind old new && (kind == 2 && decide (old = v)) then new else v
def doE (kind : Int) (old new v : List Int) : Option Int := if good kind old new then (if kind = 1 then none else if old = v then none else some 11) else some 2
theorem do_f (kind : Int) (old new v : List Int) (h0 : old.length < 17592186044416) (h1 : new.length < 17592186044416) (h2 : v.length < 17592186044416) :
    change_Do.f (old.length + 1) kind old new v = some (doV kind old new v, doE kind old new v) := by
  have hc : change_Check.f (old.length + 1) kind old new = some (if good kind old new then none else some 2) := by
    have := check_f kind old new (by omega) (by omega)
    unfold change_Check.f at this ⊢
    simpa only [change_Check.j0] using this
  unfold change_Do.f slices_Clone_int_int.f
  rw [if_pos h2, if_pos h1, hc, same_f old v (by omega)]
  unfold doV doE
  cases hg : good kind old new
  · simp
  · by_cases hk : kind = 1
    · simp [hk]
    · have hk2 : kind = 2 := by
        unfold good at hg
        simp only [Bool.or_eq_true, Bool.and_eq_true, beq_iff_eq] at hg
        rcases hg with hg | hg
        · exact absurd hg.1 hk
        · exact hg.1
      subst hk2
      by_cases he : old = v <;> simp [he]
theorem do_any (kind : Int) (A0 : Option Addr) (c0 : Nat) (old : List Int) (A1 : Option Addr) (c1 : Nat) (new : List Int) (A2 : Option Addr) (c2 : Nat) (v : List Int) (w : World) (hr0 : Kd.C (Kd.int .i64) w A0 old.length old) (hc0 : old.length ≤ c0) (hr1 : Kd.C (Kd.int .i64) w A1 new.length new) (hc1 : new.length ≤ c1) (hr2 : Kd.C (Kd.int .i64) w A2 v.length v) (hc2 : v.length ≤ c2)
    (h0 : old.length < 17592186044416) (h1 : new.length < 17592186044416) (h2 : v.length < 17592186044416) :
    Calls Try.prog 10 #[.agg #[.int .i64 kind, .slice A0 old.length c0, .slice A1 new.length c1], .slice A2 v.length c2] w fun e w' => ∃ u : Value, e = .returned (.tuple #[u, errW (doE kind old new v)]) ∧ Kd.R (Kd.int .i64) 3 w' w.heap.size (fun _ => True) u (doV kind old new v) ∧ Below w.heap.size w w' :=
  change_Do.calls _ kind A0 c0 old A1 c1 new A2 c2 v _ _ w hr0 hc0 hr1 hc1 hr2 hc2 (do_f kind old new v h0 h1 h2)
theorem hit_v (old n : List Int) (h : old.length ≤ 32) (hn : n.length ≤ 32) : doV 2 old n old = n := by
  have hg : good 2 old n = true := by unfold good; simp [h, hn]
  unfold doV
  simp [hg]
theorem hit_e (old n : List Int) (h : old.length ≤ 32) (hn : n.length ≤ 32) : errW (doE 2 old n old) = .nilIface := by
  have hg : good 2 old n = true := by unfold good; simp [h, hn]
  unfold doE
  simp [hg, errW]
theorem miss_v (old n v : List Int) (h : old.length ≤ 32) (hn : n.length ≤ 32) (hne : v ≠ old) : doV 2 old n v = v := by
  have hne' : ¬ old = v := fun e => hne e.symm
  unfold doV
  simp [hne']
theorem miss_e (old n v : List Int) (h : old.length ≤ 32) (hn : n.length ≤ 32) (hne : v ≠ old) : errW (doE 2 old n v) = .iface 40 (.int .i64 11) := by
  have hg : good 2 old n = true := by unfold good; simp [h, hn]
  have hne' : ¬ old = v := fun e => hne e.symm
  unfold doE
  simp [hg, errW, hne']
/-- The same, the value's and the error's words chosen by the caller. -/
theorem do_is (x : List Int) (q : Value) (kind : Int) (A0 : Option Addr) (c0 : Nat) (old : List Int) (A1 : Option Addr) (c1 : Nat) (new : List Int) (A2 : Option Addr) (c2 : Nat) (v : List Int) (w : World) (hx : doV kind old new v = x) (hq : errW (doE kind old new v) = q) (hr0 : Kd.C (Kd.int .i64) w A0 old.length old) (hc0 : old.length ≤ c0) (hr1 : Kd.C (Kd.int .i64) w A1 new.length new) (hc1 : new.length ≤ c1) (hr2 : Kd.C (Kd.int .i64) w A2 v.length v) (hc2 : v.length ≤ c2)
    (h0 : old.length < 17592186044416) (h1 : new.length < 17592186044416) (h2 : v.length < 17592186044416) :
    Calls Try.prog 10 #[.agg #[.int .i64 kind, .slice A0 old.length c0, .slice A1 new.length c1], .slice A2 v.length c2] w fun e w' => ∃ A c, e = .returned (.tuple #[.slice A x.length c, q]) ∧ x.length ≤ c ∧ (Kd.int .i64).C w' A x.length x ∧ Below w.heap.size w w' := by
  subst hx hq
  refine (do_any kind A0 c0 old A1 c1 new A2 c2 v w hr0 hc0 hr1 hc1 hr2 hc2 h0 h1 h2).mono ?_
  rintro e w' ⟨u, rfl, hR, hb⟩
  obtain ⟨A, c, rfl, hl, hC⟩ := Kd.R_reads hR
  exact ⟨A, c, rfl, hl, hC, hb⟩
theorem do_any' (kind : Int) (A0 : Option Addr) (c0 : Nat) (old : List Int) (A1 : Option Addr) (c1 : Nat) (new : List Int) (A2 : Option Addr) (c2 : Nat) (v : List Int) (w : World) (hr0 : Kd.C (Kd.int .i64) w A0 old.length old) (hc0 : old.length ≤ c0) (hr1 : Kd.C (Kd.int .i64) w A1 new.length new) (hc1 : new.length ≤ c1) (hr2 : Kd.C (Kd.int .i64) w A2 v.length v) (hc2 : v.length ≤ c2)
    (h0 : old.length < 17592186044416) (h1 : new.length < 17592186044416) (h2 : v.length < 17592186044416) :
    Calls Try.prog 10 #[.agg #[.int .i64 kind, .slice A0 old.length c0, .slice A1 new.length c1], .slice A2 v.length c2] w fun e w' => ∃ A c, e = .returned (.tuple #[.slice A (doV kind old new v).length c, errW (doE kind old new v)]) ∧ (doV kind old new v).length ≤ c ∧ (Kd.int .i64).C w' A (doV kind old new v).length (doV kind old new v) ∧ Below w.heap.size w w' :=
  do_is _ _ kind A0 c0 old A1 c1 new A2 c2 v w rfl rfl hr0 hc0 hr1 hc1 hr2 hc2 h0 h1 h2
theorem swap_is (A0 : Option Addr) (c0 : Nat) (l0 : List Int) (A1 : Option Addr) (c1 : Nat) (l1 : List Int) (w : World) (hr0 : Kd.C (Kd.int .i64) w A0 l0.length l0) (hc0 : l0.length ≤ c0) (hr1 : Kd.C (Kd.int .i64) w A1 l1.length l1) (hc1 : l1.length ≤ c1) (h0 : l0.length < 17592186044416) (h1 : l1.length < 17592186044416) :
    Calls Try.prog 18 #[.slice A0 l0.length c0, .slice A1 l1.length c1] w fun e w' => ∃ B0 d0 B1 d1, e = .returned (.agg #[.int .i64 2, .slice B0 l0.length d0, .slice B1 l1.length d1]) ∧ l0.length ≤ d0 ∧ l1.length ≤ d1 ∧ (Kd.int .i64).C w' B0 l0.length l0 ∧ (Kd.int .i64).C w' B1 l1.length l1 ∧ Below w.heap.size w w' := by
  refine (change_Swap.calls A0 c0 l0 A1 c1 l1 2 l0 l1 w hr0 hc0 hr1 hc1 (by unfold change_Swap.f slices_Clone_int_int.f; rw [if_pos h0, if_pos h1]; rfl)).mono ?_
  rintro e w' ⟨v1, v2, rfl, hR1, hR2, hb⟩
  obtain ⟨B0, d0, rfl, hl0, hC0⟩ := Kd.R_reads hR1
  obtain ⟨B1, d1, rfl, hl1, hC1⟩ := Kd.R_reads hR2
  exact ⟨B0, d0, B1, d1, rfl, hl0, hl1, hC0, hC1, hb⟩
theorem swap_any (A0 : Option Addr) (c0 : Nat) (l0 : List Int) (A1 : Option Addr) (c1 : Nat) (l1 : List Int) (w : World) (hr0 : Kd.C (Kd.int .i64) w A0 l0.length l0) (hc0 : l0.length ≤ c0) (hr1 : Kd.C (Kd.int .i64) w A1 l1.length l1) (hc1 : l1.length ≤ c1) (h0 : l0.length < 17592186044416) (h1 : l1.length < 17592186044416) :
    Calls Try.prog 18 #[.slice A0 l0.length c0, .slice A1 l1.length c1] w fun e w' => ∃ v1_ v2_ : Value, e = .returned (.agg #[.int .i64 2, v1_, v2_]) ∧ Kd.R (Kd.int .i64) 3 w' w.heap.size (fun k_ => some k_ ≠ (v2_ : Value).ownBlock) v1_ l0 ∧ Kd.R (Kd.int .i64) 3 w' w.heap.size (fun k_ => some k_ ≠ (v1_ : Value).ownBlock) v2_ l1 ∧ Below w.heap.size w w' :=
  change_Swap.calls A0 c0 l0 A1 c1 l1 2 l0 l1 w hr0 hc0 hr1 hc1 (by unfold change_Swap.f slices_Clone_int_int.f; rw [if_pos h0, if_pos h1]; rfl)
theorem check_is (q : Value) (kind : Int) (A0 : Option Addr) (c0 : Nat) (old : List Int) (A1 : Option Addr) (c1 : Nat) (new : List Int) (w : World) (hq : errW (if good kind old new then none else some 2) = q) (hr0 : Kd.C (Kd.int .i64) w A0 old.length old) (hc0 : old.length ≤ c0) (hr1 : Kd.C (Kd.int .i64) w A1 new.length new) (hc1 : new.length ≤ c1)
    (h0 : old.length < 2305843009213693952) (h1 : new.length < 2305843009213693952) :
    Calls Try.prog 14 #[.agg #[.int .i64 kind, .slice A0 old.length c0, .slice A1 new.length c1]] w fun e w' => e = .returned q ∧ Below w.heap.size w w' := by
  subst hq
  exact check_any kind A0 c0 old A1 c1 new w hr0 hc0 hr1 hc1 h0 h1
theorem read_is (w : World) : Calls Try.prog 19 #[] w fun e w' => ∃ A c B d, e = .returned (.agg #[.int .i64 1, .slice A 0 c, .slice B 0 d]) ∧ (Kd.int .i64).C w' A 0 [] ∧ (Kd.int .i64).C w' B 0 [] ∧ Below w.heap.size w w' := by
  refine (change_Read.calls 1 [] [] w rfl).mono ?_
  rintro e w' ⟨v1, v2, rfl, hR1, hR2, hb⟩
  obtain ⟨B0, d0, rfl, hl0, hC0⟩ := Kd.R_reads hR1
  obtain ⟨B1, d1, rfl, hl1, hC1⟩ := Kd.R_reads hR2
  exact ⟨B0, d0, B1, d1, rfl, hC0, hC1, hb⟩
theorem grown_setCell (W : World) (g j : Nat) (v : Value) : W.grownBy (W.setCell ⟨g, j, none⟩ v) (some g) :=
  ⟨rfl, rfl, rfl, by simp [World.setCell], fun k _ hne => Below.heap_setCell W ⟨g, j, none⟩ v k (fun e => hne (by rw [e]))⟩
theorem blk_setCell {W : World} {g j : Nat} {cs : Array Value} {t : TypeId} {fr : Nat × Nat} (h : W.heap[g]? = some (.cells cs t fr)) (v : Value) : ∃ cs', (W.setCell ⟨g, j, none⟩ v).heap[g]? = some (.cells cs' t fr) ∧ cs'.size = cs.size := by
  rw [setCell_eq_setRow W g j cs t fr v h]
  exact ⟨_, setRow_heap W g _ _ t _ h, by simp⟩
theorem alive_any (w : World) : Calls Try.prog 8 #[] w fun e w' => e = .returned (.bool true) ∧ Below w.heap.size w w' := estuarylaw10_alive.calls true w rfl
end Go.Proofs.Ytefeklhdaafbbaa.MAll

/- The reference's Want, whole; both watches side by side. -/
import Derived.Test.YtimfbdiiaakhiaaTi
set_option linter.unusedVariables false
set_option linter.unusedSimpArgs false
namespace Go.Proofs.Ytimfbdiiaakhiaa.MAll
open Go.RowKit Go.Proofs.YtimfbdiiaakhiaaW.PrintWords Go.Proofs.YtimfbdiiaakhiaaW.PrintLast Go.Proofs.YtimfbdiiaakhiaaW.PrintMore
theorem rwant_c (W : World) (g : Nat) (nd lf tk : Int) (seen : List (List Int)) (ag : Int) (v : List Int) (hv : lastOf seen = v) (h : RWAt W g nd lf tk seen ag) : Calls Try.prog 35 #[.pointer (some ⟨g, 0, none⟩)] W (RWantPost W (wantOf nd lf tk (decide (seen ≠ [])) v ag)) := by
  by_cases hs : seen = []
  · subst hs
    exact rwant_unseen W g nd lf tk [] ag v hv h rfl
  have hd : decide (seen ≠ []) = true := decide_eq_true hs
  have hs' : (seen.length = 0) = False := eq_false (fun e => hs (List.eq_nil_of_length_eq_zero e))
  rw [hd]
  obtain ⟨l, hl⟩ : ∃ l, leaseOf v = l := ⟨_, rfl⟩
  unfold wantOf
  rw [if_pos rfl, hl]
  cases hlb : leadsB nd lf v
  · rw [if_neg (by decide)]
    cases hq : okL v
    · rw [if_neg (fun e => by cases e.1)]
      have h0 : l = (0, 0, 0, 0) := by rw [← hl]; unfold leaseOf; rw [hq]; rfl
      have h1 := rwant_none W g nd lf tk seen ag v hv h l false false hl hq hlb hs' rfl rfl
      rw [h0, show wrap64 (((0, 0, 0, 0) : LeaseT).1 + 1) = 1 by decide +kernel]
      exact h1
    · by_cases hage : ag < tk
      · rw [if_pos ⟨rfl, hage⟩]
        exact rwant_fresh W g nd lf tk seen ag v hv h l true false hl hq hlb hs' rfl rfl hage
      · rw [if_neg (fun e => hage e.2)]
        exact rwant_old W g nd lf tk seen ag v hv h l true false hl hq hlb hs' rfl rfl hage
  · rw [if_pos rfl]
    obtain ⟨q, hq⟩ : ∃ q, okL v = q := ⟨_, rfl⟩
    exact rwant_leads W g nd lf tk seen ag v hv h l q true hl hq hlb hs' rfl
theorem lastOf_snoc (seen : List (List Int)) (v : List Int) : lastOf (seen ++ [v]) = v := by unfold lastOf; simp
theorem snoc_ne (seen : List (List Int)) (v : List Int) : decide (seen ++ [v] ≠ []) = true := decide_eq_true (by simp)
/-- The reference's Saw, whole. -/
theorem rsaw_c (W : World) (g : Nat) (nd lf tk : Int) (seen : List (List Int)) (ag : Int) (h : RWAt W g nd lf tk seen ag) (A0 : Option Addr) (c0 : Nat) (v : List Int) (hv : (Kd.int .i64).C W A0 v.length v) (hc : v.length ≤ c0) (hvl : v.length < 17592186044416) (hsl : seen.length < 100000) :
    Calls Try.prog 31 #[.pointer (some ⟨g, 0, none⟩), .slice A0 v.length c0] W fun e w' => e = .returned (.tuple #[]) ∧ ∃ seen', RWAt w' g nd lf tk seen' (sawAge (decide (seen ≠ [])) (lastOf seen) v ag) ∧ lastOf seen' = v ∧ seen' ≠ [] ∧ seen'.length ≤ seen.length + 1 ∧ FRT g W w' := by
  by_cases hs : seen = []
  · refine (rsaw_first W g nd lf tk seen ag h A0 c0 v hv hc hvl hs).mono ?_
    rintro e w' ⟨rfl, h1, h2⟩
    refine ⟨rfl, seen ++ [v], ?_, lastOf_snoc _ _, by simp, by simp, h2⟩
    have : sawAge (decide (seen ≠ [])) (lastOf seen) v ag = 0 := by unfold sawAge; rw [if_neg]; rintro ⟨e, _⟩; exact of_decide_eq_true e hs
    rw [this]; exact h1
  · by_cases hl : lastOf seen = v
    · refine (rsaw_same W g nd lf tk seen ag h A0 c0 v hv hc hvl hs hl).mono ?_
      rintro e w' ⟨rfl, h1, h2⟩
      refine ⟨rfl, seen, ?_, hl, hs, by omega, FRT.of_below (Nat.le_of_lt h.lt) h2⟩
      have : sawAge (decide (seen ≠ [])) (lastOf seen) v ag = ag := by unfold sawAge; rw [if_pos ⟨decide_eq_true hs, hl⟩]
      rw [this]; exact h1
    · refine (rsaw_next W g nd lf tk seen ag h A0 c0 v hv hc hvl hs hl hsl).mono ?_
      rintro e w' ⟨rfl, h1, h2⟩
      refine ⟨rfl, seen ++ [v], ?_, lastOf_snoc _ _, by simp, by simp, h2⟩
      have : sawAge (decide (seen ≠ [])) (lastOf seen) v ag = 0 := by unfold sawAge; rw [if_neg (fun e => hl e.2)]
      rw [this]; exact h1
theorem rage_eq (a : Int) (h : a ≤ 1000) : rageUp a = ageUp a := by
  unfold rageUp ageUp
  split
  · rfl
  · omega
end Go.Proofs.Ytimfbdiiaakhiaa.MAll

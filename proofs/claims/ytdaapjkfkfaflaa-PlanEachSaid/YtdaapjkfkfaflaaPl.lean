/- Plan: what the printed functions compute, in plain terms. -/
import Derived.Test.YtdaapjkfkfaflaaMAllx
import Derived.KernelRfl
set_option linter.unusedVariables false
set_option linter.unusedSimpArgs false
namespace Go.Proofs.Ytdaapjkfkfaflaa.MAll
open Go.RowKit Go.Proofs.YtdaapjkfkfaflaaW.PrintWords Go.Proofs.YtdaapjkfkfaflaaW.PrintLast Go.Proofs.YtdaapjkfkfaflaaW.PrintMore

theorem good_iff {s k : Int} {l : List Int} {sh h c b le : Int} : goodP s k l sh h c b le = true ↔ ((k = 1 ∨ k = 3 ∨ k = 5) ∧ (1 ≤ s ∧ s ≤ 4) ∧ (1 ≤ l.length ∧ l.length ≤ 3) ∧ 1 ≤ minOf l ∧ (1 ≤ sh ∧ sh ≤ 4) ∧ (1 ≤ h ∧ h ≤ 64) ∧ (1 ≤ c ∧ c ≤ 1024) ∧ (1 ≤ b ∧ b ≤ 16) ∧ (1 ≤ le ∧ le ≤ 20)) := by
  unfold goodP
  simp only [Bool.and_eq_true, decide_eq_true_eq]
theorem rd_zero (a : Int) (l : List Int) : rd (a :: l) 0 = a := by simp [rd]
theorem min1 (a : Int) : minOf [a] = a := rfl
theorem min2 (a b : Int) : 1 ≤ minOf [a, b] ↔ 1 ≤ a ∧ 1 ≤ b := by
  show 1 ≤ mn a b ↔ _
  unfold mn; split <;> omega
theorem min3 (a b c : Int) : 1 ≤ minOf [a, b, c] ↔ 1 ≤ a ∧ 1 ≤ b ∧ 1 ≤ c := by
  show 1 ≤ mn (mn a b) c ↔ _
  unfold mn; split <;> split <;> omega
theorem refgood_tail (q : Nat) (s k : Int) (l : List Int) (sh h c b le : Int) (i : Int) (hi : (l.length : Int) ≤ i) :
    estuaryref19_Good.l0 (q + 1) i s k l sh h c b le = some (decide (1 ≤ h ∧ h ≤ 64) && (decide (1 ≤ c ∧ c ≤ 1024) && (decide (1 ≤ b ∧ b ≤ 16) && decide (1 ≤ le ∧ le ≤ 20)))) := by
  rw [estuaryref19_Good.l0, if_neg (by omega)]
  by_cases h1 : h ≥ 1 <;> by_cases h2 : h ≤ 64 <;> by_cases h3 : c ≥ 1 <;> by_cases h4 : c ≤ 1024 <;> by_cases h5 : b ≥ 1 <;> by_cases h6 : b ≤ 16 <;> by_cases h7 : le ≥ 1 <;> simp [h1, h2, h3, h4, h5, h6, h7, show (1 ≤ h ↔ h ≥ 1) from Iff.rfl, show (1 ≤ c ↔ c ≥ 1) from Iff.rfl, show (1 ≤ b ↔ b ≥ 1) from Iff.rfl, show (1 ≤ le ↔ le ≥ 1) from Iff.rfl]
theorem refgood_l0 (s k : Int) (l : List Int) (sh h c b le : Int) (hl : 1 ≤ l.length ∧ l.length ≤ 3) :
    estuaryref19_Good.l0 7 0 s k l sh h c b le = some (decide (1 ≤ minOf l) && (decide (1 ≤ h ∧ h ≤ 64) && (decide (1 ≤ c ∧ c ≤ 1024) && (decide (1 ≤ b ∧ b ≤ 16) && decide (1 ≤ le ∧ le ≤ 20))))) := by
  have w1 : wrap64 ((0 : Int) + 1) = 1 := by unfold wrap64; omega
  have w2 : wrap64 ((1 : Int) + 1) = 2 := by unfold wrap64; omega
  have w3 : wrap64 ((2 : Int) + 1) = 3 := by unfold wrap64; omega
  match l, hl with
  | [x], _ =>
    rw [estuaryref19_Good.l0]
    simp only [min1, rd_zero, List.length_singleton, w1]
    by_cases hx : x < 1
    · simp [hx, show ¬ 1 ≤ x by omega]
    · rw [refgood_tail _ _ _ _ _ _ _ _ _ _ (by simp)]
      simp [hx, show 1 ≤ x by omega]
  | [x, y], _ =>
    rw [estuaryref19_Good.l0, estuaryref19_Good.l0]
    have e : rd [x, y] 1 = y := rfl
    simp only [rd_zero, e, w1, w2]
    rw [refgood_tail _ _ _ _ _ _ _ _ _ 2 (by simp)]
    have e2 := min2 x y
    by_cases hx : x < 1
    · have : ¬ 1 ≤ minOf [x, y] := by omega
      simp [hx, this]
    · by_cases hy : y < 1
      · have : ¬ 1 ≤ minOf [x, y] := by omega
        simp [hx, hy, this]
      · have : 1 ≤ minOf [x, y] := by omega
        simp [hx, hy, this]
  | [x, y, z], _ =>
    rw [estuaryref19_Good.l0, estuaryref19_Good.l0, estuaryref19_Good.l0]
    have e : rd [x, y, z] 1 = y := rfl
    have e' : rd [x, y, z] 2 = z := rfl
    simp only [rd_zero, e, e', w1, w2, w3]
    rw [refgood_tail _ _ _ _ _ _ _ _ _ 3 (by simp)]
    have e2 := min3 x y z
    by_cases hx : x < 1
    · have : ¬ 1 ≤ minOf [x, y, z] := by omega
      simp [hx, this]
    · by_cases hy : y < 1
      · have : ¬ 1 ≤ minOf [x, y, z] := by omega
        simp [hx, hy, this]
      · by_cases hz : z < 1
        · have : ¬ 1 ≤ minOf [x, y, z] := by omega
          simp [hx, hy, hz, this]
        · have : 1 ≤ minOf [x, y, z] := by omega
          simp [hx, hy, hz, this]
theorem refgood_j1 (b0 : Bool) (s k : Int) (l : List Int) (sh h c b le : Int) (hb : b0 = !decide (1 ≤ l.length ∧ l.length ≤ 3)) :
    estuaryref19_Good.j1 8 b0 s k l sh h c b le = some (decide (1 ≤ l.length ∧ l.length ≤ 3) && (decide (1 ≤ minOf l) && (decide (1 ≤ h ∧ h ≤ 64) && (decide (1 ≤ c ∧ c ≤ 1024) && (decide (1 ≤ b ∧ b ≤ 16) && decide (1 ≤ le ∧ le ≤ 20)))))) := by
  rw [estuaryref19_Good.j1]
  subst hb
  by_cases hl : 1 ≤ l.length ∧ l.length ≤ 3
  · rw [decide_eq_true hl, Bool.not_true, if_neg (by decide), refgood_l0 s k l sh h c b le hl, Bool.true_and]
  · rw [decide_eq_false hl, Bool.not_false, if_pos rfl, Bool.false_and]
theorem refgood_j0 (b0 : Bool) (s k : Int) (l : List Int) (sh h c b le : Int) :
    estuaryref19_Good.j0 9 b0 s k l sh h c b le = some (!b0 && (decide (1 ≤ l.length ∧ l.length ≤ 3) && (decide (1 ≤ minOf l) && (decide (1 ≤ h ∧ h ≤ 64) && (decide (1 ≤ c ∧ c ≤ 1024) && (decide (1 ≤ b ∧ b ≤ 16) && decide (1 ≤ le ∧ le ≤ 20))))))) := by
  rw [estuaryref19_Good.j0]
  cases b0
  · rw [if_neg (by decide), Bool.not_false, Bool.true_and]
    by_cases h1 : (l.length : Int) < 1
    · rw [if_pos h1, refgood_j1]
      rw [decide_eq_false (by omega)]; rfl
    · rw [if_neg h1, refgood_j1]
      by_cases h3 : (l.length : Int) > 3
      · rw [decide_eq_true h3, decide_eq_false (by omega)]; rfl
      · rw [decide_eq_false h3, decide_eq_true (by omega)]; rfl
  · simp
theorem refgood_f (s k : Int) (l : List Int) (sh h c b le : Int) : estuaryref19_Good.f 9 s k l sh h c b le = some (goodP s k l sh h c b le) := by
  unfold estuaryref19_Good.f goodP
  simp only [refgood_j0]
  by_cases h1 : s < 1
  · rw [if_pos h1]
    simp [show ¬ (1 ≤ s ∧ s ≤ 4) by omega]
  by_cases h2 : s > 4
  · rw [if_neg h1, if_pos h2]
    simp [show ¬ (1 ≤ s ∧ s ≤ 4) by omega]
  rw [if_neg h1, if_neg h2]
  have hs : 1 ≤ s ∧ s ≤ 4 := by omega
  have hshow : ∀ g : Bool, (if sh < 1 then some (!true && g) else some (!decide (sh > 4) && g)) = some (decide (1 ≤ sh ∧ sh ≤ 4) && g) := by
    intro g
    split
    · simp [show ¬ (1 ≤ sh ∧ sh ≤ 4) by omega]
    · by_cases h4 : sh > 4
      · simp [h4, show ¬ (1 ≤ sh ∧ sh ≤ 4) by omega]
      · simp [h4, show (1 ≤ sh ∧ sh ≤ 4) by omega]
  simp only [hshow]
  have hord : ∀ (x y z v : Bool), (z && (x && (y && v))) = (x && (y && (z && v))) := by decide
  by_cases h3 : k = 1
  · rw [if_pos h3, hord]; simp [h3, hs]
  rw [if_neg h3]
  by_cases h4 : k = 3
  · rw [if_pos h4, hord]; simp [h4, hs]
  rw [if_neg h4]
  by_cases h5 : k = 5
  · rw [if_pos h5, hord]; simp [h5, hs]
  rw [if_neg h5]
  simp [h3, h4, h5]
end Go.Proofs.Ytdaapjkfkfaflaa.MAll

/- Plan: roles, nodes of a role, lanes: in plain terms. -/
import Derived.Test.YtdaapjkfkfaflaaPl
set_option linter.unusedVariables false
set_option linter.unusedSimpArgs false
namespace Go.Proofs.Ytdaapjkfkfaflaa.MAll
open Go.RowKit Go.Proofs.YtdaapjkfkfaflaaW.PrintWords Go.Proofs.YtdaapjkfkfaflaaW.PrintLast Go.Proofs.YtdaapjkfkfaflaaW.PrintMore

/-- Each node's role. -/
def rolesL (s k : Int) : List Int := List.replicate s.toNat 1 ++ [2, 2] ++ List.replicate k.toNat 3 ++ [4]
/-- The nodes of a role. -/
def ofL (s k ro : Int) : List Int := ((rolesL s k).zipIdx.filter (fun p => p.1 == ro)).map (fun p => (p.2 : Int))

def small (s k : Int) : Prop := (s = 1 ∨ s = 2 ∨ s = 3 ∨ s = 4) ∧ (k = 1 ∨ k = 3 ∨ k = 5)
theorem good_small {s k : Int} {l : List Int} {sh h c b le : Int} (hg : goodP s k l sh h c b le = true) : small s k := by
  have := good_iff.1 hg
  unfold small
  omega
theorem roles_l0 (s k : Int) (l : List Int) (sh h c b le : Int) (h0 : small s k) : estuaryref19_Roles.l0 20 [] 0 s k l sh h c b le = some (rolesL s k) := by
  obtain ⟨rfl | rfl | rfl | rfl, rfl | rfl | rfl⟩ := h0 <;> kernel_rfl
theorem roles_f (g : Bool) (s k : Int) (l : List Int) (sh h c b le : Int) (hg : goodP s k l sh h c b le = g) : estuaryref19_Roles.f 20 s k l sh h c b le = some (if g then rolesL s k else []) := by
  unfold estuaryref19_Roles.f
  have h20 : estuaryref19_Good.f 20 s k l sh h c b le = some g := at_rounds (estuaryref19_Good.mono s k l sh h c b le) (by omega : 9 ≤ 20) (by rw [refgood_f, hg])
  rw [h20, Option.bind_some]
  cases g
  · rfl
  · rw [if_pos rfl, roles_l0 s k l sh h c b le (good_small hg)]; rfl

/-! the nodes of a role, the reference's -/
theorem refof_none (ro : Int) (L : List Int) (h : ∀ x ∈ L, x ≠ ro) (hL : L.length < 17592186044416) : ∀ n i : Nat, i + n = L.length → estuaryref19_Of.l0 (n + 1) ro L [] i = some [] := by
  intro n
  induction n with
  | zero => intro i hi; rw [estuaryref19_Of.l0, if_neg (by omega)]
  | succ n ih =>
    intro i hi
    have hm : rd L (i : Int) ≠ ro := by
      have hlt : i < L.length := by omega
      have : rd L (i : Int) = L[i] := by simp [rd, List.getD_eq_getElem?_getD, List.getElem?_eq_getElem hlt]
      rw [this]
      exact h _ (List.getElem_mem hlt)
    have hw : wrap64 ((i : Int) + 1) = ((i + 1 : Nat) : Int) := by unfold wrap64; omega
    rw [estuaryref19_Of.l0, if_pos (by omega), if_pos (by omega), if_neg hm, hw]
    exact ih (i + 1) (by omega)
theorem roles_mem (s k x : Int) (h : x ∈ rolesL s k) : x = 1 ∨ x = 2 ∨ x = 3 ∨ x = 4 := by
  unfold rolesL at h
  simp only [List.mem_append, List.mem_replicate, List.mem_cons, List.not_mem_nil, or_false] at h
  omega
theorem roles_len (s k : Int) (h0 : small s k) : (rolesL s k).length = (s + k + 3).toNat ∧ (rolesL s k).length ≤ 12 := by
  obtain ⟨rfl | rfl | rfl | rfl, rfl | rfl | rfl⟩ := h0 <;> decide
theorem of_none (s k ro : Int) (hro : ¬ (ro = 1 ∨ ro = 2 ∨ ro = 3 ∨ ro = 4)) : ofL s k ro = [] := by
  unfold ofL
  rw [List.map_eq_nil_iff, List.filter_eq_nil_iff]
  rintro ⟨x, i⟩ hp
  have hx := roles_mem s k x (List.fst_mem_of_mem_zipIdx hp)
  simp only [beq_iff_eq]
  rintro rfl
  exact hro hx
theorem refof_l0 (s k ro : Int) (h0 : small s k) : estuaryref19_Of.l0 20 ro (rolesL s k) [] 0 = some (ofL s k ro) := by
  by_cases hro : ro = 1 ∨ ro = 2 ∨ ro = 3 ∨ ro = 4
  · obtain ⟨rfl | rfl | rfl | rfl, rfl | rfl | rfl⟩ := h0 <;> obtain rfl | rfl | rfl | rfl := hro <;> kernel_rfl
  · have hl := (roles_len s k h0).2
    rw [of_none s k ro hro]
    exact at_rounds (g := fun q => estuaryref19_Of.l0 q ro (rolesL s k) [] 0) (fun q => (estuaryref19_Of.mono_l q) _ _ _ _) (by omega : (rolesL s k).length + 1 ≤ 20)
      (refof_none ro _ (fun x hx e => hro (by rw [← e]; exact roles_mem s k x hx)) (by omega) _ 0 (by omega))
theorem refof_f (g : Bool) (s k : Int) (l : List Int) (sh h c b le ro : Int) (hg : goodP s k l sh h c b le = g) : estuaryref19_Of.f 20 s k l sh h c b le ro = some (if g then ofL s k ro else []) := by
  unfold estuaryref19_Of.f
  rw [roles_f g s k l sh h c b le hg, Option.bind_some]
  cases g
  · rfl
  · exact refof_l0 s k ro (good_small hg)

/-! the nodes of a role, the program's -/
def ofLoop (x1 x2 x3 x4 ro : Int) : Nat → List Int → Int → Option (List Int)
  | 0, _, _ => none
  | q + 1, out, i => if (nodeAt x1 x2 x3 x4 ro i).2 = true then (if out.length < 17592186044416 then ofLoop x1 x2 x3 x4 ro q (out ++ [(nodeAt x1 x2 x3 x4 ro i).1]) (wrap64 (i + 1)) else none) else some out
theorem of_loop (g : Bool) (s k : Int) (l : List Int) (sh h c b le ro : Int) (hg : goodP s k l sh h c b le = g) : ∀ q out i, plan_Of.l0 q ro out i s k l sh h c b le = ofLoop (szA g s) (szA g 2) (szA g k) (szA g 1) ro q out i := by
  intro q
  induction q with
  | zero => intro out i; rfl
  | succ q ih =>
    intro out i
    rw [plan_Of.l0, ofLoop]
    simp only [plan_Node.f, hg, Option.bind_some, ih]
theorem ofLoop_is (s k ro : Int) (h0 : small s k) (hro : ro = 1 ∨ ro = 2 ∨ ro = 3 ∨ ro = 4) : ofLoop s 2 k 1 ro 20 [] 0 = some (ofL s k ro) := by
  obtain ⟨rfl | rfl | rfl | rfl, rfl | rfl | rfl⟩ := h0 <;> obtain rfl | rfl | rfl | rfl := hro <;> kernel_rfl
theorem of_f (g : Bool) (s k : Int) (l : List Int) (sh h c b le ro : Int) (hg : goodP s k l sh h c b le = g) : plan_Of.f 20 s k l sh h c b le ro = some (if g then ofL s k ro else []) := by
  unfold plan_Of.f
  rw [of_loop g s k l sh h c b le ro hg]
  cases g
  · have : nodeAt 0 0 0 0 ro 0 = (0, false) := by unfold nodeAt; simp
    simp [szA, ofLoop, this]
  · have h0 := good_small hg
    simp only [szA, if_true]
    by_cases hro : ro = 1 ∨ ro = 2 ∨ ro = 3 ∨ ro = 4
    · exact ofLoop_is s k ro h0 hro
    · rw [of_none s k ro hro]
      have : nodeAt s 2 k 1 ro 0 = (0, false) := by unfold nodeAt; rw [if_neg (by omega), if_neg (by omega), if_neg (by omega), if_neg (by omega), if_neg (by omega)]
      simp [ofLoop, this]

/-! lanes -/
def i64ok (x : Int) : Prop := -9223372036854775808 ≤ x ∧ x ≤ 9223372036854775807
theorem tmod_pos (x n : Int) (hn : 0 < n) (hx : 0 ≤ x) : Int.tmod x n = x % n := Int.tmod_eq_emod_of_nonneg hx
theorem tmod_neg (x n : Int) (hn : 0 < n) (hx : x < 0) : Int.tmod x n = - ((-x) % n) := by
  rw [← tmod_pos (-x) n hn (by omega), Int.neg_tmod, Int.neg_neg]
theorem mod_f (x n : Int) (hx : i64ok x) (hn : 1 ≤ n ∧ n ≤ 4) : floor_Mod.f x n = some (x % n) := by
  unfold floor_Mod.f
  rw [if_neg (by omega), if_neg (by omega)]
  have b0 : ∀ n : Int, n = 1 ∨ n = 2 ∨ n = 3 ∨ n = 4 → Go.bits .and .i64 n 0 = 0 ∧ Go.bits .and .i64 n (-1) = n := by rintro n (rfl | rfl | rfl | rfl) <;> decide
  have hn' : n = 1 ∨ n = 2 ∨ n = 3 ∨ n = 4 := by omega
  obtain ⟨h0, h1⟩ := b0 n hn'
  unfold i64ok at hx
  by_cases hx0 : 0 ≤ x
  · rw [tmod_pos x n (by omega) hx0]
    have : x % n / 9223372036854775808 = 0 := by rcases hn' with rfl | rfl | rfl | rfl <;> omega
    rw [this, h0]
    congr 1
    unfold wrap64
    rcases hn' with rfl | rfl | rfl | rfl <;> omega
  · rw [tmod_neg x n (by omega) (by omega)]
    by_cases hz : (-x) % n = 0
    · rw [hz]
      have : (-0 : Int) / 9223372036854775808 = 0 := by omega
      rw [this, h0]
      congr 1
      unfold wrap64
      rcases hn' with rfl | rfl | rfl | rfl <;> omega
    · have : (-(-x % n)) / 9223372036854775808 = -1 := by rcases hn' with rfl | rfl | rfl | rfl <;> omega
      rw [this, h1]
      congr 1
      unfold wrap64
      rcases hn' with rfl | rfl | rfl | rfl <;> omega
theorem refmod_f (x n : Int) (hx : i64ok x) (hn : 1 ≤ n ∧ n ≤ 4) : estuaryref01_Mod.f x n = some (x % n) := by
  unfold estuaryref01_Mod.f
  have hn' : n = 1 ∨ n = 2 ∨ n = 3 ∨ n = 4 := by omega
  unfold i64ok at hx
  rw [if_neg (by omega)]
  by_cases hx0 : 0 ≤ x
  · rw [if_pos hx0, if_neg (by omega), tmod_pos x n (by omega) hx0]
  · rw [if_neg (by omega), if_neg (by omega)]
    have e1 : wrap64 (x + 1) = x + 1 := by unfold wrap64; omega
    have e2 : wrap64 (-(x + 1)) = -(x + 1) := by unfold wrap64; omega
    rw [e1, e2, tmod_pos _ n (by omega) (by omega)]
    congr 1
    unfold wrap64
    rcases hn' with rfl | rfl | rfl | rfl <;> omega
def laneOf (g : Bool) (n : Nat) (sh i key : Int) : Int × Bool := if g = true ∧ 0 ≤ i ∧ i < n then (i * sh + key % sh, true) else (0, false)
theorem lane_mul (i sh key : Int) (hi : 0 ≤ i ∧ i < 3) (hs : 1 ≤ sh ∧ sh ≤ 4) : wrap64 (wrap64 (i * sh) + key % sh) = i * sh + key % sh := by
  have hn' : sh = 1 ∨ sh = 2 ∨ sh = 3 ∨ sh = 4 := by omega
  unfold wrap64
  rcases hn' with rfl | rfl | rfl | rfl <;> omega
theorem lane_f (g : Bool) (s k : Int) (l : List Int) (sh h c b le i key : Int) (hg : goodP s k l sh h c b le = g) (hk : i64ok key) : plan_Lane.f 2 s k l sh h c b le i key = some (laneOf g l.length sh i key) := by
  unfold plan_Lane.f
  have hc2 := at_rounds (plan_Check.mono s k l sh h c b le) (by omega : 1 ≤ 2) (check_f s k l sh h c b le)
  rw [hc2, Option.bind_some, hg]
  have hj : ∀ v, plan_Lane.j0 2 i key v s k l sh h c b le = if v = true then some (0, false) else ((place_Shard.f key sh).bind fun t => (place_Lane.f i t sh).bind fun u => some (u, true)) := fun v => by rw [plan_Lane.j0]
  cases g
  · simp only [Bool.false_eq_true, if_false, Option.isNone_some, hj, if_true]
    unfold laneOf
    simp
  · obtain ⟨_, _, hl, _, hsh, _⟩ := good_iff.1 hg
    simp only [if_true, Option.isNone_none, hj]
    unfold laneOf
    by_cases h1 : i < 0
    · rw [if_pos h1, if_neg (by omega)]
    · rw [if_neg h1]
      by_cases h2 : i ≥ (l.length : Int)
      · rw [if_pos (decide_eq_true h2), if_neg (by omega)]
      · rw [if_neg (by simp; omega), if_pos ⟨rfl, by omega, by omega⟩]
        unfold place_Shard.f place_Lane.f
        rw [mod_f key sh hk hsh]
        simp only [Option.bind_some]
        rw [lane_mul i sh key (by omega) hsh]
theorem reflane_f (g : Bool) (s k : Int) (l : List Int) (sh h c b le i key : Int) (hg : goodP s k l sh h c b le = g) (hk : i64ok key) : estuaryref19_Lane.f 9 s k l sh h c b le i key = some (laneOf g l.length sh i key) := by
  unfold estuaryref19_Lane.f
  rw [refgood_f, Option.bind_some, hg]
  unfold laneOf
  cases g
  · simp
  · obtain ⟨_, _, hl, _, hsh, _⟩ := good_iff.1 hg
    rw [if_pos rfl]
    by_cases h1 : i < 0
    · rw [if_pos h1, if_neg (by omega)]
    · rw [if_neg h1]
      by_cases h2 : i ≥ (l.length : Int)
      · rw [if_pos h2, if_neg (by omega)]
      · rw [if_neg h2, if_pos ⟨rfl, by omega, by omega⟩, refmod_f key sh hk hsh, Option.bind_some, lane_mul i sh key (by omega) hsh]
theorem lanes_f (g : Bool) (s k : Int) (l : List Int) (sh h c b le : Int) (hg : goodP s k l sh h c b le = g) : plan_Lanes.f 1 s k l sh h c b le = some (if g then (l.length : Int) * sh else 0) := by
  unfold plan_Lanes.f
  rw [check_f, Option.bind_some, hg]
  cases g
  · rfl
  · obtain ⟨_, _, hl, _, hsh, _⟩ := good_iff.1 hg
    have hn' : sh = 1 ∨ sh = 2 ∨ sh = 3 ∨ sh = 4 := by omega
    have : wrap64 ((l.length : Int) * sh) = (l.length : Int) * sh := by
      unfold wrap64
      rcases hn' with rfl | rfl | rfl | rfl <;> omega
    simp [this]
theorem alive_f : estuarylaw19_alive.f 2 = some true := by kernel_rfl
theorem planlanes_f (s k : Int) (l : List Int) (sh h c b le i key : Int) (hk : i64ok key) : estuarylaw19_PlanLanes.f 9 s k l sh h c b le i key = some true := by
  unfold estuarylaw19_PlanLanes.f
  rw [at_rounds estuarylaw19_alive.mono (by omega : 2 ≤ 9) alive_f, Option.bind_some, if_pos rfl]
  by_cases hl : (l.length : Int) > 1000
  · rw [if_pos hl]
  · rw [if_neg hl]
    obtain ⟨g, hg⟩ : ∃ g, goodP s k l sh h c b le = g := ⟨_, rfl⟩
    rw [at_rounds (plan_Lane.mono s k l sh h c b le i key) (by omega : 2 ≤ 9) (lane_f g s k l sh h c b le i key hg hk), reflane_f g s k l sh h c b le i key hg hk,
      at_rounds (plan_Lanes.mono s k l sh h c b le) (by omega : 1 ≤ 9) (lanes_f g s k l sh h c b le hg)]
    simp only [Option.bind_some, if_true, beq_self_eq_true]
    unfold laneOf
    by_cases hq : g = true ∧ 0 ≤ i ∧ i < l.length
    · obtain ⟨_, _, hl, _, hsh, _⟩ := good_iff.1 (hg.trans hq.1)
      rw [if_pos hq, if_pos rfl]
      have hn' : sh = 1 ∨ sh = 2 ∨ sh = 3 ∨ sh = 4 := by omega
      have hl' : l.length = 1 ∨ l.length = 2 ∨ l.length = 3 := by omega
      obtain ⟨h1, h2, h3⟩ := hq
      rw [if_pos (by rcases hn' with rfl | rfl | rfl | rfl <;> simp <;> omega), h1]
      simp only [if_true]
      rw [decide_eq_true]
      rcases hl' with e | e | e <;> rw [e] at h3 ⊢ <;> rcases hn' with rfl | rfl | rfl | rfl <;> omega
    · rw [if_neg hq]
      rfl
end Go.Proofs.Ytdaapjkfkfaflaa.MAll

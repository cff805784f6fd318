/- PlanEach: the walk. -/
import Derived.Test.YtdaapjkfkfaflaaPn
import Derived.Maps.OwnOps
import Derived.Maps.OwnSet
import Derived.Maps.Views
import Derived.Maps.RangeWalk
import Derived.Deep.DrawnRows
set_option linter.unusedVariables false
set_option linter.unusedSimpArgs false
namespace Go.Proofs.Ytdaapjkfkfaflaa.MAll
open Go.RowKit Go.Maps Go.Proofs.YtdaapjkfkfaflaaW.PrintWords Go.Proofs.YtdaapjkfkfaflaaW.PrintLast Go.Proofs.YtdaapjkfkfaflaaW.PrintMore
attribute [local go_sem ↓] Go.wp_at_zero Go.wp_at_succ
theorem law3 : Keyed Try.prog 3 := int_keyed Try.underlying3
theorem zero3 (w : World) : (zeroValue 3).run Try.prog w = .ok (.int .i64 0) w := by kernel_rfl
abbrev DD := DataW Unit
def iN (c : Int) : DD := .lit (.int .i64 c)
theorem iN_inj {a b : Int} (h : iN a = iN b) : a = b := by
  unfold iN at h
  injection h with h
  injection h
def MapAt (w : World) (b n : Nat) (D : DD) : Prop := w.ownsMap Try.prog 3 (plainElem Try.prog 3) b n D
theorem MapAt.keep {W w : World} {b n : Nat} {D : DD} (h : MapAt W b n D) (he : w.heap[b]? = W.heap[b]?) : MapAt w b n D := by
  obtain ⟨es, clock, hb, r⟩ := h
  exact ⟨es, clock, he.trans hb, r⟩
theorem MapAt.lt {W : World} {b n : Nat} {D : DD} (h : MapAt W b n D) : b < W.heap.size := World.ownsMap.lt h
theorem MapAt.below {W w : World} {b n : Nat} {D : DD} (h : MapAt W b n D) (hb : Below W.heap.size W w) : MapAt w b n D := h.keep (hb.block _ h.lt)
/-- No block of cells is the map. -/
theorem MapAt.ne {W : World} {b n : Nat} {D : DD} (h : MapAt W b n D) {k t : Nat} {cs : Array Value} {f : Nat × Nat} (hk : W.heap[k]? = some (.cells cs t f)) : k ≠ b := by
  rintro rfl
  obtain ⟨es, clock, hb, _⟩ := h
  rw [hb] at hk
  cases hk
theorem R_map {W w : World} {b n bb : Nat} {D : DD} {u : Value} {xs : List Int} {ok : Nat → Prop} (hR : (Kd.int .i64).R 3 W bb ok u xs) (h : MapAt W b n D) (hg : W.grownBy w (some b)) : (Kd.int .i64).R 3 w bb ok u xs := by
  refine Kd.R_mono (Kd.R_grown (Kd.R_bound hR) hg (fun k hk e => ?_)) (fun _ hk => hk.1)
  obtain ⟨_, _, _, q, _, cells, hc⟩ := hk
  exact h.ne hc (by injection e)
/-! the nodes counted so far: each once -/
def keysL (m : Nat) : List Lit := (List.range m).map fun (i : Nat) => Lit.int .i64 (i : Int)
def DM (m : Nat) : DD := setOf (iN 1) (keysL m)
theorem keys_ok (m : Nat) : ∀ x ∈ keysL m, WideAt.IsKeyLit x := by
  intro x hx
  obtain ⟨i, _, rfl⟩ := List.mem_map.1 hx
  trivial
theorem keys_succ (m : Nat) : keysL (m + 1) = keysL m ++ [Lit.int .i64 (m : Int)] := by simp [keysL, List.range_succ]
theorem DM_succ (m : Nat) : DM (m + 1) = (DM m).put (.int .i64 (m : Int)) (iN 1) := by unfold DM; rw [keys_succ, setOf_snoc]
theorem DM_isMap (m : Nat) : IsMap (DM m) := (tidy_setOf _ _ (keys_ok m)).isMap
theorem DM_at (m : Nat) (x : Int) (z : DD) : (DM m).atKey (.int .i64 x) z = if 0 ≤ x ∧ x < m then iN 1 else z := by
  induction m with
  | zero => rw [if_neg (by omega)]; rfl
  | succ m ih =>
    rw [DM_succ]
    by_cases hx : x = m
    · subst hx
      rw [atKey_put_same (DM_isMap m) (show WideAt.IsKeyLit (.int .i64 (m : Int)) from trivial), if_pos (by omega)]
    · rw [atKey_put_other (fun e => hx (by injection e)), ih]
      by_cases h : 0 ≤ x ∧ x < m
      · rw [if_pos h, if_pos (by omega)]
      · rw [if_neg h, if_neg (by omega)]
theorem DM_new (m : Nat) (c : Int) (h : (DM m).atKey (.int .i64 (m : Int)) (iN 0) = iN c) : c = 0 := by
  rw [DM_at, if_neg (by omega)] at h
  exact (iN_inj h).symm
theorem DM_one (m : Nat) (x c : Int) (h : ∀ z : DD, (DM m).atKey (.int .i64 x) z = iN c) : c = 1 := by
  by_cases hx : 0 ≤ x ∧ x < m
  · have := h (iN 0)
    rw [DM_at, if_pos hx] at this
    exact (iN_inj this).symm
  · have h1 := h (iN 5)
    have h2 := h (iN 6)
    rw [DM_at, if_neg hx] at h1 h2
    have := iN_inj h1
    have := iN_inj h2
    omega
theorem DM_size (m : Nat) (h : m < 13) : Maps.size (DM m) = m := by
  unfold DM
  rw [size_setOf _ _ (keys_ok m)]
  have : ∀ m < 13, ((keysL m).foldl addKey []).length = m := by decide +kernel
  exact this m h
def stA (s k : Int) (r : Nat) : Nat := if r = 1 then 0 else if r = 2 then s.toNat else if r = 3 then s.toNat + 2 else if r = 4 then s.toNat + 2 + k.toNat else s.toNat + k.toNat + 3
theorem each_fin : ∀ s ∈ ([1, 2, 3, 4] : List Int), ∀ k ∈ ([1, 3, 5] : List Int), ∀ r ∈ ([1, 2, 3, 4] : List Nat), (ofL s k r).length + stA s k r = stA s k (r + 1) ∧ stA s k (r + 1) < 13 ∧ ∀ j < 12, j < (ofL s k r).length → rd (ofL s k r) (j : Int) = ((stA s k r + j : Nat) : Int) ∧ roleAt s 2 k 1 ((stA s k r + j : Nat) : Int) = ((r : Int), (j : Int), true) ∧ nodeAt s 2 k 1 (r : Int) (j : Int) = (((stA s k r + j : Nat) : Int), true) := by decide +kernel
theorem each_end : ∀ s ∈ ([1, 2, 3, 4] : List Int), ∀ k ∈ ([1, 3, 5] : List Int), ((stA s k 5 : Nat) : Int) = s + 2 + k + 1 ∧ ∀ r ∈ ([1, 2, 3, 4] : List Nat), stA s k (r + 1) ≤ stA s k 5 := by decide +kernel
/-- The iterator is no block of cells. -/
theorem rng_ne {w : World} {m0 it n cnt : Nat} {D : DD} {left : Lit → Bool} (h : w.ranges Try.prog 3 (plainElem Try.prog 3) m0 it n D left cnt) {k t : Nat} {cs : Array Value} {f : Nat × Nat} (hk : w.heap[k]? = some (.cells cs t f)) : k ≠ it := by
  rintro rfl
  obtain ⟨es, clock, since, seen, c0, _, _, _, _, hr, _⟩ := h
  rw [hr] at hk
  cases hk
/-- A row of the call's own has a block. -/
theorem row_bi {w : World} {base n c : Nat} {ok : Nat → Prop} {A : Option Addr} {xs : List Int} (h : (Kd.int .i64).R 3 w base ok (.slice A n c) xs) (hn : 0 < n) : ∃ b, A = some ⟨b, 0, none⟩ := by
  obtain ⟨_, inner, ho, _⟩ := h
  rcases ho.2 with ⟨hv, hz⟩ | ⟨g, cap', cur, hv, _⟩
  · exfalso; injection hv with _ hv _; omega
  · injection hv with ha _ _
    subst ha
    exact ⟨g, rfl⟩
set_option maxHeartbeats 8000000 in
set_option maxRecDepth 100000 in
theorem each_any (s k : Int) (A : Option Addr) (ca : Nat) (l : List Int) (sh h c b le : Int) (W : World) (hr : (Kd.int .i64).C W A l.length l) (hc : l.length ≤ ca) :
    Calls Try.prog 6 #[.agg (planCells s k A l.length ca sh h c b le)] W fun e w' => e = .returned (.bool true) ∧ Below W.heap.size W w' := by
  have hu24 := Try.underlying24
  have hmm := @run_makeMap Try.prog
  have HR := Aside0.mk hr
  clear hr
  obtain ⟨g, hg⟩ : ∃ g, goodP s k l sh h c b le = g := ⟨_, rfl⟩
  have HG := Aside0.mk hg
  clear hg
  obtain ⟨n, hn⟩ : ∃ n, n = l.length := ⟨_, rfl⟩
  have HN := Aside0.mk hn
  rw [← hn]
  have CK : Aside0 (∀ w, (Kd.int .i64).C w A l.length l → Calls Try.prog 9 #[.agg (planCells s k A n ca sh h c b le)] w fun e w' => e = .returned (errW (if g then none else some 14)) ∧ Below w.heap.size w w') := ⟨fun w hw => by rw [hn]; exact check_v g s k A ca l sh h c b le w HG.out hw hc⟩
  have CN : Aside0 (∀ w, (Kd.int .i64).C w A l.length l → Calls Try.prog 12 #[.agg (planCells s k A n ca sh h c b le)] w fun e w' => e = .returned (.int .i64 (if g then s + 2 + k + 1 else 0)) ∧ Below w.heap.size w w') := ⟨fun w hw => by rw [hn]; exact nodes_v g s k A ca l sh h c b le w HG.out hw hc⟩
  have CO : Aside0 (∀ (ro : Int) w, (Kd.int .i64).C w A l.length l → Calls Try.prog 16 #[.agg (planCells s k A n ca sh h c b le), .int .i64 ro] w fun e w' => ∃ B d, e = .returned (.slice B (if g then ofL s k ro else []).length d) ∧ (Kd.int .i64).R 3 w' w.heap.size (fun _ => True) (.slice B (if g then ofL s k ro else []).length d) (if g then ofL s k ro else []) ∧ Below w.heap.size w w') := ⟨fun ro w hw => by
    rw [hn]
    refine (of_v g s k A ca l sh h c b le w HG.out hw hc ro).mono ?_
    rintro e w' ⟨u, rfl, hR, hb⟩
    obtain ⟨B, d, rfl⟩ := Kd.R_slice hR
    exact ⟨B, d, rfl, hR, hb⟩⟩
  have CR : Aside0 (∀ (x r0 k0 : Int) (is0 : Bool) w, i64ok x → roleAt (szA g s) (szA g 2) (szA g k) (szA g 1) x = (r0, k0, is0) → (Kd.int .i64).C w A l.length l → Calls Try.prog 17 #[.agg (planCells s k A n ca sh h c b le), .int .i64 x] w fun e w' => e = .returned (.tuple #[.int .i64 r0, .int .i64 k0, .bool is0]) ∧ Below w.heap.size w w') := ⟨fun x r0 k0 is0 w hx hq hw => by rw [hn]; have := role_v g s k A ca l sh h c b le w HG.out hw hc x hx; rw [hq] at this; exact this⟩
  have CD : Aside0 (∀ (ro i n0 : Int) (ok0 : Bool) w, nodeAt (szA g s) (szA g 2) (szA g k) (szA g 1) ro i = (n0, ok0) → (Kd.int .i64).C w A l.length l → Calls Try.prog 18 #[.agg (planCells s k A n ca sh h c b le), .int .i64 ro, .int .i64 i] w fun e w' => e = .returned (.tuple #[.int .i64 n0, .bool ok0]) ∧ Below w.heap.size w w') := ⟨fun ro i n0 ok0 w hq hw => by rw [hn]; have := node_v g s k A ca l sh h c b le w HG.out hw hc ro i; rw [hq] at this; exact this⟩
  clear hn hc
  go_enter Try.func6, Try.ntmps6
  go_upto_region 1 with fail
  obtain ⟨W1, hw1⟩ : ∃ x : World, x = W.alloc (.cells #[.int .i64 s, .int .i64 k, .slice A n ca, .int .i64 sh, .int .i64 h, .int .i64 c, .int .i64 b, .int .i64 le] 24) := ⟨_, rfl⟩
  have hbs1 : Below W.heap.size W W1 := by rw [hw1]; repeat (first | exact Below.refl _ _ | refine below_alloc ?_ _ | refine below_drew ?_)
  obtain ⟨gx1, hgx1⟩ : ∃ x, x = W.heap.size := ⟨_, rfl⟩
  have GSx1 : Aside0 (W.heap.size ≤ gx1) := ⟨by rw [hgx1]; omega⟩
  have Bx1 : Aside0 (W1.heap[gx1]? = some (.cells #[.int .i64 s, .int .i64 k, .slice A n ca, .int .i64 sh, .int .i64 h, .int .i64 c, .int .i64 b, .int .i64 le] 24 (0, 0))) := ⟨by rw [hw1, hgx1]; exact blk_new _ _⟩
  rw [← hw1]
  rw [← hgx1]
  clear hw1 hgx1
  have HB2 := Aside0.mk hbs1
  have Cl2 := Aside0.mk (Kd.C_below HR.out hbs1)
  clear hbs1
  go_wp2_with fail
  refine (alive_any _).mono ?_
  rintro e w3 ⟨rfl, hb3⟩
  have HB4 := Aside0.mk (below_step HB2.out hb3)
  have Bx4 : Aside0 (w3.heap[gx1]? = some (.cells #[.int .i64 s, .int .i64 k, .slice A n ca, .int .i64 sh, .int .i64 h, .int .i64 c, .int .i64 b, .int .i64 le] 24 (0, 0))) := ⟨(hb3.block _ (blk_lt Bx1.out)).trans Bx1.out⟩
  have Cl4 := Aside0.mk (Kd.C_below Cl2.out hb3)
  clear hb3
  have zx5_0 : w3.cell? ⟨gx1, 0, none⟩ = some (.int .i64 s) := (blk_cell Bx4.out 0).trans rfl
  have zx5_1 : w3.cell? ⟨gx1, 1, none⟩ = some (.int .i64 k) := (blk_cell Bx4.out 1).trans rfl
  have zx5_2 : w3.cell? ⟨gx1, 2, none⟩ = some (.slice A n ca) := (blk_cell Bx4.out 2).trans rfl
  have zx5_3 : w3.cell? ⟨gx1, 3, none⟩ = some (.int .i64 sh) := (blk_cell Bx4.out 3).trans rfl
  have zx5_4 : w3.cell? ⟨gx1, 4, none⟩ = some (.int .i64 h) := (blk_cell Bx4.out 4).trans rfl
  have zx5_5 : w3.cell? ⟨gx1, 5, none⟩ = some (.int .i64 c) := (blk_cell Bx4.out 5).trans rfl
  have zx5_6 : w3.cell? ⟨gx1, 6, none⟩ = some (.int .i64 b) := (blk_cell Bx4.out 6).trans rfl
  have zx5_7 : w3.cell? ⟨gx1, 7, none⟩ = some (.int .i64 le) := (blk_cell Bx4.out 7).trans rfl
  go_wp2_with fail
  have hck := CK.out _ Cl4.out
  cases g
  · rw [show errW (if (false : Bool) = true then none else some 14) = .iface 29 (.int .i64 14) from rfl] at hck
    simp only [Bool.false_eq_true, if_false] at CN CO
    refine hck.mono ?_
    rintro e w5 ⟨rfl, hb5⟩
    clear hck
    clear zx5_0 zx5_1 zx5_2 zx5_3 zx5_4 zx5_5 zx5_6 zx5_7
    have HB6 := Aside0.mk (below_step HB4.out hb5)
    have Bx6 : Aside0 (w5.heap[gx1]? = some (.cells #[.int .i64 s, .int .i64 k, .slice A n ca, .int .i64 sh, .int .i64 h, .int .i64 c, .int .i64 b, .int .i64 le] 24 (0, 0))) := ⟨(hb5.block _ (blk_lt Bx4.out)).trans Bx4.out⟩
    have Cl6 := Aside0.mk (Kd.C_below Cl4.out hb5)
    clear hb5
    have zx7_0 : w5.cell? ⟨gx1, 0, none⟩ = some (.int .i64 s) := (blk_cell Bx6.out 0).trans rfl
    have zx7_1 : w5.cell? ⟨gx1, 1, none⟩ = some (.int .i64 k) := (blk_cell Bx6.out 1).trans rfl
    have zx7_2 : w5.cell? ⟨gx1, 2, none⟩ = some (.slice A n ca) := (blk_cell Bx6.out 2).trans rfl
    have zx7_3 : w5.cell? ⟨gx1, 3, none⟩ = some (.int .i64 sh) := (blk_cell Bx6.out 3).trans rfl
    have zx7_4 : w5.cell? ⟨gx1, 4, none⟩ = some (.int .i64 h) := (blk_cell Bx6.out 4).trans rfl
    have zx7_5 : w5.cell? ⟨gx1, 5, none⟩ = some (.int .i64 c) := (blk_cell Bx6.out 5).trans rfl
    have zx7_6 : w5.cell? ⟨gx1, 6, none⟩ = some (.int .i64 b) := (blk_cell Bx6.out 6).trans rfl
    have zx7_7 : w5.cell? ⟨gx1, 7, none⟩ = some (.int .i64 le) := (blk_cell Bx6.out 7).trans rfl
    go_wp2_with fail
    refine (CN.out _ Cl6.out).mono ?_
    rintro e w6 ⟨rfl, hb8⟩
    clear zx7_0 zx7_1 zx7_2 zx7_3 zx7_4 zx7_5 zx7_6 zx7_7
    have HB9 := Aside0.mk (below_step HB6.out hb8)
    have Bx9 : Aside0 (w6.heap[gx1]? = some (.cells #[.int .i64 s, .int .i64 k, .slice A n ca, .int .i64 sh, .int .i64 h, .int .i64 c, .int .i64 b, .int .i64 le] 24 (0, 0))) := ⟨(hb8.block _ (blk_lt Bx6.out)).trans Bx6.out⟩
    have Cl9 := Aside0.mk (Kd.C_below Cl6.out hb8)
    clear hb8
    have zx10_0 : w6.cell? ⟨gx1, 0, none⟩ = some (.int .i64 s) := (blk_cell Bx9.out 0).trans rfl
    have zx10_1 : w6.cell? ⟨gx1, 1, none⟩ = some (.int .i64 k) := (blk_cell Bx9.out 1).trans rfl
    have zx10_2 : w6.cell? ⟨gx1, 2, none⟩ = some (.slice A n ca) := (blk_cell Bx9.out 2).trans rfl
    have zx10_3 : w6.cell? ⟨gx1, 3, none⟩ = some (.int .i64 sh) := (blk_cell Bx9.out 3).trans rfl
    have zx10_4 : w6.cell? ⟨gx1, 4, none⟩ = some (.int .i64 h) := (blk_cell Bx9.out 4).trans rfl
    have zx10_5 : w6.cell? ⟨gx1, 5, none⟩ = some (.int .i64 c) := (blk_cell Bx9.out 5).trans rfl
    have zx10_6 : w6.cell? ⟨gx1, 6, none⟩ = some (.int .i64 b) := (blk_cell Bx9.out 6).trans rfl
    have zx10_7 : w6.cell? ⟨gx1, 7, none⟩ = some (.int .i64 le) := (blk_cell Bx9.out 7).trans rfl
    go_wp2_with fail
    refine (CO.out 4 _ Cl9.out).mono ?_
    rintro e w7 ⟨B, d, rfl, hR7, hb7⟩
    clear hR7
    clear zx10_0 zx10_1 zx10_2 zx10_3 zx10_4 zx10_5 zx10_6 zx10_7
    have HB11 := Aside0.mk (below_step HB9.out hb7)
    have Bx11 : Aside0 (w7.heap[gx1]? = some (.cells #[.int .i64 s, .int .i64 k, .slice A n ca, .int .i64 sh, .int .i64 h, .int .i64 c, .int .i64 b, .int .i64 le] 24 (0, 0))) := ⟨(hb7.block _ (blk_lt Bx9.out)).trans Bx9.out⟩
    have Cl11 := Aside0.mk (Kd.C_below Cl9.out hb7)
    clear hb7
    go_wp2_with fail
    go_ret
    exact ⟨rfl, HB11.out⟩
  · rw [show errW (if (true : Bool) = true then none else some 14) = .nilIface from rfl] at hck
    simp only [if_true] at CN CO
    have HSM := Aside0.mk (small_mem (good_small HG.out))
    refine hck.mono ?_
    rintro e w5 ⟨rfl, hb5⟩
    clear hck
    clear zx5_0 zx5_1 zx5_2 zx5_3 zx5_4 zx5_5 zx5_6 zx5_7
    have HB6 := Aside0.mk (below_step HB4.out hb5)
    have Bx6 : Aside0 (w5.heap[gx1]? = some (.cells #[.int .i64 s, .int .i64 k, .slice A n ca, .int .i64 sh, .int .i64 h, .int .i64 c, .int .i64 b, .int .i64 le] 24 (0, 0))) := ⟨(hb5.block _ (blk_lt Bx4.out)).trans Bx4.out⟩
    have Cl6 := Aside0.mk (Kd.C_below Cl4.out hb5)
    clear hb5
    have zx7_0 : w5.cell? ⟨gx1, 0, none⟩ = some (.int .i64 s) := (blk_cell Bx6.out 0).trans rfl
    have zx7_1 : w5.cell? ⟨gx1, 1, none⟩ = some (.int .i64 k) := (blk_cell Bx6.out 1).trans rfl
    have zx7_2 : w5.cell? ⟨gx1, 2, none⟩ = some (.slice A n ca) := (blk_cell Bx6.out 2).trans rfl
    have zx7_3 : w5.cell? ⟨gx1, 3, none⟩ = some (.int .i64 sh) := (blk_cell Bx6.out 3).trans rfl
    have zx7_4 : w5.cell? ⟨gx1, 4, none⟩ = some (.int .i64 h) := (blk_cell Bx6.out 4).trans rfl
    have zx7_5 : w5.cell? ⟨gx1, 5, none⟩ = some (.int .i64 c) := (blk_cell Bx6.out 5).trans rfl
    have zx7_6 : w5.cell? ⟨gx1, 6, none⟩ = some (.int .i64 b) := (blk_cell Bx6.out 6).trans rfl
    have zx7_7 : w5.cell? ⟨gx1, 7, none⟩ = some (.int .i64 le) := (blk_cell Bx6.out 7).trans rfl
    go_wp2_with fail
    clear zx7_0 zx7_1 zx7_2 zx7_3 zx7_4 zx7_5 zx7_6 zx7_7
    obtain ⟨m0, hm0⟩ : ∃ m, m = w5.heap.size := ⟨_, rfl⟩
    obtain ⟨w6, hw6⟩ : ∃ w, w = w5.alloc (.map #[] 0) := ⟨_, rfl⟩
    have HM6 : Aside0 (MapAt w6 m0 0 (DM 0)) := ⟨by rw [hw6, hm0]; exact World.ownsMap_made _ _ _ _⟩
    have hb6 : Below w5.heap.size w5 w6 := by rw [hw6]; exact below_alloc (Below.refl _ _) _
    have GM : Aside0 (W.heap.size ≤ m0) := ⟨by rw [hm0]; exact HB6.out.size⟩
    rw [← hw6, ← hm0]
    clear hw6 hm0
    have HB9 := Aside0.mk (below_step HB6.out hb6)
    have Bx9 : Aside0 (w6.heap[gx1]? = some (.cells #[.int .i64 s, .int .i64 k, .slice A n ca, .int .i64 sh, .int .i64 h, .int .i64 c, .int .i64 b, .int .i64 le] 24 (0, 0))) := ⟨(hb6.block _ (blk_lt Bx6.out)).trans Bx6.out⟩
    have Cl9 := Aside0.mk (Kd.C_below Cl6.out hb6)
    clear hb6
    go_loopw [4] (fun v4 w' => ∃ r : Nat, 1 ≤ r ∧ r ≤ 5 ∧ v4 = .int .i64 r ∧ Aside0 (MapAt w' m0 (stA s k r) (DM (stA s k r))) ∧ Aside0 (w'.heap[gx1]? = some (.cells #[.int .i64 s, .int .i64 k, .slice A n ca, .int .i64 sh, .int .i64 h, .int .i64 c, .int .i64 b, .int .i64 le] 24 (0, 0))) ∧ Aside0 (Below W.heap.size W w')) (fun v _ => 5 - (intOf v).toNat)
    case atStart => exact ⟨1, by omega, by omega, rfl, HM6, Bx9, HB9⟩
    case round =>
      obtain ⟨r, hr1, hr5, rfl, HM, HX, HW⟩ := hrel
      by_cases hlt : r ≤ 4
      case pos =>
        have HRW100 := Aside0.mk (Kd.C_below HR.out HW.out)
        have hrm : r ∈ ([1, 2, 3, 4] : List Nat) := by rcases (by omega : r = 1 ∨ r = 2 ∨ r = 3 ∨ r = 4) with rfl | rfl | rfl | rfl <;> simp
        obtain ⟨hst, hs13, hall⟩ := each_fin s HSM.out.1 k HSM.out.2 r hrm
        have d1 : decide ((r : Int) ≤ 4) = true := decide_eq_true (by omega)
        skip
        have zx101_0 : wr.cell? ⟨gx1, 0, none⟩ = some (.int .i64 s) := (blk_cell HX.out 0).trans rfl
        have zx101_1 : wr.cell? ⟨gx1, 1, none⟩ = some (.int .i64 k) := (blk_cell HX.out 1).trans rfl
        have zx101_2 : wr.cell? ⟨gx1, 2, none⟩ = some (.slice A n ca) := (blk_cell HX.out 2).trans rfl
        have zx101_3 : wr.cell? ⟨gx1, 3, none⟩ = some (.int .i64 sh) := (blk_cell HX.out 3).trans rfl
        have zx101_4 : wr.cell? ⟨gx1, 4, none⟩ = some (.int .i64 h) := (blk_cell HX.out 4).trans rfl
        have zx101_5 : wr.cell? ⟨gx1, 5, none⟩ = some (.int .i64 c) := (blk_cell HX.out 5).trans rfl
        have zx101_6 : wr.cell? ⟨gx1, 6, none⟩ = some (.int .i64 b) := (blk_cell HX.out 6).trans rfl
        have zx101_7 : wr.cell? ⟨gx1, 7, none⟩ = some (.int .i64 le) := (blk_cell HX.out 7).trans rfl
        go_wp2_with fail
        have hco := CO.out (r : Int) _ HRW100.out
        obtain ⟨L, hL⟩ : ∃ L, ofL s k (r : Int) = L := ⟨_, rfl⟩
        rw [hL] at hco hst hall
        have HALL := Aside0.mk hall
        have HST := Aside0.mk hst
        clear hL hall
        refine hco.mono ?_
        rintro e w7 ⟨B, d, rfl, hR7, hb7⟩
        have HR7 := Aside0.mk hR7
        clear hco hR7
        clear zx101_0 zx101_1 zx101_2 zx101_3 zx101_4 zx101_5 zx101_6 zx101_7
        have HB102 := Aside0.mk (below_step HW.out hb7)
        have Bx102 : Aside0 (w7.heap[gx1]? = some (.cells #[.int .i64 s, .int .i64 k, .slice A n ca, .int .i64 sh, .int .i64 h, .int .i64 c, .int .i64 b, .int .i64 le] 24 (0, 0))) := ⟨(hb7.block _ (blk_lt HX.out)).trans HX.out⟩
        have Cl102 := Aside0.mk (Kd.C_below HRW100.out hb7)
        have CM102 := Aside0.mk (MapAt.below HM.out hb7)
        clear hb7
        have hL12 : L.length ≤ 12 := by omega
        obtain ⟨m, hm⟩ : ∃ m, m = stA s k r := ⟨_, rfl⟩
        have HMr : Aside0 (m = stA s k r) := ⟨hm⟩
        have HM7 : Aside0 (MapAt w7 m0 (m + 0) (DM (m + 0))) := ⟨by rw [Nat.add_zero, hm]; exact CM102.out⟩
        have HALL2 : Aside0 (∀ j < 12, j < L.length → rd L (j : Int) = ((m + j : Nat) : Int) ∧ roleAt s 2 k 1 ((m + j : Nat) : Int) = ((r : Int), (j : Int), true) ∧ nodeAt s 2 k 1 (r : Int) (j : Int) = (((m + j : Nat) : Int), true)) := ⟨by rw [hm]; exact HALL.out⟩
        rw [← hm] at hst
        have hm13 : m + L.length < 13 := by omega
        clear hm hst hs13
        go_wp2_with fail
        go_loopw [37] (fun v37 w' => ∃ j : Nat, j ≤ L.length ∧ v37 = .int .i64 j ∧ Aside0 (MapAt w' m0 (m + j) (DM (m + j))) ∧ Aside0 ((Kd.int .i64).R 3 w' wr.heap.size (fun _ => True) (.slice B L.length d) L) ∧ Aside0 (w'.heap[gx1]? = some (.cells #[.int .i64 s, .int .i64 k, .slice A n ca, .int .i64 sh, .int .i64 h, .int .i64 c, .int .i64 b, .int .i64 le] 24 (0, 0))) ∧ Aside0 (Below W.heap.size W w')) (fun v _ => L.length - (intOf v).toNat)
        case atStart => exact ⟨0, by omega, rfl, HM7, HR7, Bx102, HB102⟩
        case round =>
          clear HM HX HW
          obtain ⟨j, hj, rfl, HM, HRL, HX, HW⟩ := hrel
          by_cases hlt2 : j < L.length
          case neg =>
            have hje : j = L.length := by omega
            have d2 : decide ((j : Int) < (L.length : Int)) = false := decide_eq_false (by omega)
            have HMN : Aside0 (m + j = stA s k (r + 1)) := ⟨by have h1 := HST.out; have h2 := HMr.out; omega⟩
            go_wp2_with fail
            go_roundw
            case rel => exact ⟨r + 1, by omega, by omega, by go_num, ⟨by rw [← HMN.out]; exact HM.out⟩, HX, HW⟩
            case measure => simp [intOf]; omega
          have HRW200 := Aside0.mk (Kd.C_below HR.out HW.out)
          obtain ⟨bb, hbb⟩ := row_bi HRL.out (by omega)
          subst hbb
          obtain ⟨hc0, _⟩ := Kd.R_celln 0 HRL.out (j : Int) (by omega) (by omega)
          rw [Int.toNat_natCast] at hc0
          obtain ⟨hrd, hro, hno⟩ := HALL2.out j (by omega) hlt2
          rw [show rdOf 0 L (j : Int) = rd L (j : Int) from rfl, hrd] at hc0
          have HRO := Aside0.mk hro
          have HNO := Aside0.mk hno
          clear hrd hro hno
          obtain ⟨x, hx⟩ : ∃ x : Nat, x = m + j := ⟨_, rfl⟩
          rw [← hx] at hc0 HRO HNO HM
          have hxs : x < 13 := by omega
          have HXE := Aside0.mk hx
          clear hx
          have hkey : keyOf Try.prog 3 (.int .i64 (x : Int)) = some (.int .i64 (x : Int)) := keyOf_int_mk Try.underlying3 (WalkArith.wf_i64 (by omega))
          have d2 : decide ((j : Int) < (L.length : Int)) = true := decide_eq_true (by omega)
          have zx201_0 : wr.cell? ⟨gx1, 0, none⟩ = some (.int .i64 s) := (blk_cell HX.out 0).trans rfl
          have zx201_1 : wr.cell? ⟨gx1, 1, none⟩ = some (.int .i64 k) := (blk_cell HX.out 1).trans rfl
          have zx201_2 : wr.cell? ⟨gx1, 2, none⟩ = some (.slice A n ca) := (blk_cell HX.out 2).trans rfl
          have zx201_3 : wr.cell? ⟨gx1, 3, none⟩ = some (.int .i64 sh) := (blk_cell HX.out 3).trans rfl
          have zx201_4 : wr.cell? ⟨gx1, 4, none⟩ = some (.int .i64 h) := (blk_cell HX.out 4).trans rfl
          have zx201_5 : wr.cell? ⟨gx1, 5, none⟩ = some (.int .i64 c) := (blk_cell HX.out 5).trans rfl
          have zx201_6 : wr.cell? ⟨gx1, 6, none⟩ = some (.int .i64 b) := (blk_cell HX.out 6).trans rfl
          have zx201_7 : wr.cell? ⟨gx1, 7, none⟩ = some (.int .i64 le) := (blk_cell HX.out 7).trans rfl
          go_wp2_with (first | (at_lookup; refine wpList_lookup_own_int _ rfl _ _ 43 rfl 3 3 .i64 law3 Try.underlying43 Try.underlying3 (zero3 _) m0 x (DM x) rfl HM.out _ _ rfl hkey ?_; intro c1 hat hwc; have HAT : Aside0 (c1 = 0) := ⟨DM_new x c1 hat⟩; clear hat hwc) | (at_mapUpdate; refine wpList_mapUpdate_own _ rfl _ _ _ 43 rfl 3 3 law3 Try.underlying43 _ m0 x (DM x) rfl HM.out (by unfold maxLen; omega) _ _ _ rfl rfl hkey (iN (wrap64 (c1 + 1))) [] (plainElem_int Try.underlying3 (wrap64_wf _)) ?_; intro w8 hown8 hgrow8; have HM8 : Aside0 (MapAt w8 m0 (x + 1) (DM (x + 1))) := ⟨by rw [DM_succ]; have h8 := hown8; rw [HAT.out, show wrap64 (0 + 1) = 1 by decide +kernel] at h8; exact h8⟩; have HG8 := Aside0.mk hgrow8; clear hown8 hgrow8; have HX8 : Aside0 (w8.heap[gx1]? = some (.cells #[.int .i64 s, .int .i64 k, .slice A n ca, .int .i64 sh, .int .i64 h, .int .i64 c, .int .i64 b, .int .i64 le] 24 (0, 0))) := ⟨blk_grown HX.out HG8.out (fun e => HM.out.ne HX.out (by injection e))⟩; have HR8 := Aside0.mk (R_map HRL.out HM.out HG8.out); have HB8 : Aside0 (Below W.heap.size W w8) := ⟨pw_below_grown HW.out (some m0) HW.out.size HG8.out (fun k hk => by injection hk with hk; have := GM.out; omega)⟩; have y0 : w8.cell? ⟨gx1, 0, none⟩ = some (.int .i64 s) := (blk_cell HX8.out 0).trans rfl; have y1 : w8.cell? ⟨gx1, 1, none⟩ = some (.int .i64 k) := (blk_cell HX8.out 1).trans rfl; have y2 : w8.cell? ⟨gx1, 2, none⟩ = some (.slice A n ca) := (blk_cell HX8.out 2).trans rfl; have y3 : w8.cell? ⟨gx1, 3, none⟩ = some (.int .i64 sh) := (blk_cell HX8.out 3).trans rfl; have y4 : w8.cell? ⟨gx1, 4, none⟩ = some (.int .i64 h) := (blk_cell HX8.out 4).trans rfl; have y5 : w8.cell? ⟨gx1, 5, none⟩ = some (.int .i64 c) := (blk_cell HX8.out 5).trans rfl; have y6 : w8.cell? ⟨gx1, 6, none⟩ = some (.int .i64 b) := (blk_cell HX8.out 6).trans rfl; have y7 : w8.cell? ⟨gx1, 7, none⟩ = some (.int .i64 le) := (blk_cell HX8.out 7).trans rfl))
          clear y0 y1 y2 y3 y4 y5 y6 y7 zx201_0 zx201_1 zx201_2 zx201_3 zx201_4 zx201_5 zx201_6 zx201_7 hc0
          have HRW300 := Aside0.mk (Kd.C_below HR.out HB8.out)
          refine (CR.out (x : Int) (r : Int) (j : Int) true _ (by constructor <;> omega) HRO.out HRW300.out).mono ?_
          rintro e w301 ⟨rfl, hb301⟩
          have HB302 := Aside0.mk (below_step HB8.out hb301)
          have Bx302 : Aside0 (w301.heap[gx1]? = some (.cells #[.int .i64 s, .int .i64 k, .slice A n ca, .int .i64 sh, .int .i64 h, .int .i64 c, .int .i64 b, .int .i64 le] 24 (0, 0))) := ⟨(hb301.block _ (blk_lt HX8.out)).trans HX8.out⟩
          have Cl302 := Aside0.mk (Kd.C_below HRW300.out hb301)
          have CM302 := Aside0.mk (MapAt.below HM8.out hb301)
          have RL302 := Aside0.mk (Kd.R_below HR8.out hb301)
          clear hb301
          have zx303_0 : w301.cell? ⟨gx1, 0, none⟩ = some (.int .i64 s) := (blk_cell Bx302.out 0).trans rfl
          have zx303_1 : w301.cell? ⟨gx1, 1, none⟩ = some (.int .i64 k) := (blk_cell Bx302.out 1).trans rfl
          have zx303_2 : w301.cell? ⟨gx1, 2, none⟩ = some (.slice A n ca) := (blk_cell Bx302.out 2).trans rfl
          have zx303_3 : w301.cell? ⟨gx1, 3, none⟩ = some (.int .i64 sh) := (blk_cell Bx302.out 3).trans rfl
          have zx303_4 : w301.cell? ⟨gx1, 4, none⟩ = some (.int .i64 h) := (blk_cell Bx302.out 4).trans rfl
          have zx303_5 : w301.cell? ⟨gx1, 5, none⟩ = some (.int .i64 c) := (blk_cell Bx302.out 5).trans rfl
          have zx303_6 : w301.cell? ⟨gx1, 6, none⟩ = some (.int .i64 b) := (blk_cell Bx302.out 6).trans rfl
          have zx303_7 : w301.cell? ⟨gx1, 7, none⟩ = some (.int .i64 le) := (blk_cell Bx302.out 7).trans rfl
          go_wp2_with fail
          refine (CD.out (r : Int) (j : Int) (x : Int) true _ HNO.out Cl302.out).mono ?_
          rintro e w304 ⟨rfl, hb304⟩
          clear zx303_0 zx303_1 zx303_2 zx303_3 zx303_4 zx303_5 zx303_6 zx303_7
          have HB305 := Aside0.mk (below_step HB302.out hb304)
          have Bx305 : Aside0 (w304.heap[gx1]? = some (.cells #[.int .i64 s, .int .i64 k, .slice A n ca, .int .i64 sh, .int .i64 h, .int .i64 c, .int .i64 b, .int .i64 le] 24 (0, 0))) := ⟨(hb304.block _ (blk_lt Bx302.out)).trans Bx302.out⟩
          have Cl305 := Aside0.mk (Kd.C_below Cl302.out hb304)
          have CM305 := Aside0.mk (MapAt.below CM302.out hb304)
          have RL305 := Aside0.mk (Kd.R_below RL302.out hb304)
          clear hb304
          have zx306_0 : w304.cell? ⟨gx1, 0, none⟩ = some (.int .i64 s) := (blk_cell Bx305.out 0).trans rfl
          have zx306_1 : w304.cell? ⟨gx1, 1, none⟩ = some (.int .i64 k) := (blk_cell Bx305.out 1).trans rfl
          have zx306_2 : w304.cell? ⟨gx1, 2, none⟩ = some (.slice A n ca) := (blk_cell Bx305.out 2).trans rfl
          have zx306_3 : w304.cell? ⟨gx1, 3, none⟩ = some (.int .i64 sh) := (blk_cell Bx305.out 3).trans rfl
          have zx306_4 : w304.cell? ⟨gx1, 4, none⟩ = some (.int .i64 h) := (blk_cell Bx305.out 4).trans rfl
          have zx306_5 : w304.cell? ⟨gx1, 5, none⟩ = some (.int .i64 c) := (blk_cell Bx305.out 5).trans rfl
          have zx306_6 : w304.cell? ⟨gx1, 6, none⟩ = some (.int .i64 b) := (blk_cell Bx305.out 6).trans rfl
          have zx306_7 : w304.cell? ⟨gx1, 7, none⟩ = some (.int .i64 le) := (blk_cell Bx305.out 7).trans rfl
          have e1 : ((r : Int) != (r : Int)) = false := by simp
          have e2 : ((x : Int) != (x : Int)) = false := by simp
          have e3 : decide ((x : Int) < 0) = false := decide_eq_false (by omega)
          go_wp2_with fail
          refine (CN.out _ Cl305.out).mono ?_
          rintro e w307 ⟨rfl, hb307⟩
          clear zx306_0 zx306_1 zx306_2 zx306_3 zx306_4 zx306_5 zx306_6 zx306_7
          have HB308 := Aside0.mk (below_step HB305.out hb307)
          have Bx308 : Aside0 (w307.heap[gx1]? = some (.cells #[.int .i64 s, .int .i64 k, .slice A n ca, .int .i64 sh, .int .i64 h, .int .i64 c, .int .i64 b, .int .i64 le] 24 (0, 0))) := ⟨(hb307.block _ (blk_lt Bx305.out)).trans Bx305.out⟩
          have Cl308 := Aside0.mk (Kd.C_below Cl305.out hb307)
          have CM308 := Aside0.mk (MapAt.below CM305.out hb307)
          have RL308 := Aside0.mk (Kd.R_below RL305.out hb307)
          clear hb307
          have HEN := each_end s HSM.out.1 k HSM.out.2
          have hxlt : (x : Int) < s + 2 + k + 1 := by have h1 := HEN.1; have h2 := HEN.2 r (by rcases (by omega : r = 1 ∨ r = 2 ∨ r = 3 ∨ r = 4) with rfl | rfl | rfl | rfl <;> simp); have h3 := HST.out; have h4 := HMr.out; have h5 := HXE.out; omega
          have e4 : decide (s + 2 + k + 1 ≤ (x : Int)) = false := decide_eq_false (by omega)
          clear HEN hxlt
          go_wp2_with fail
          clear e1 e2 e3 e4
          go_roundw
          case rel => exact ⟨j + 1, by omega, by go_num, ⟨by have h := CM308.out; have hx := HXE.out; rw [show m + (j + 1) = x + 1 by omega]; exact h⟩, RL308, Bx308, HB308⟩
          case measure => simp [intOf]; omega
      case neg =>
        have HRW400 := Aside0.mk (Kd.C_below HR.out HW.out)
        have hr5' : r = 5 := by omega
        subst hr5'
        clear hlt hr1 hr5
        have d1 : decide (((5 : Nat) : Int) ≤ 4) = false := by decide
        obtain ⟨hen, hle⟩ := each_end s HSM.out.1 k HSM.out.2
        have hs13 := (each_fin s HSM.out.1 k HSM.out.2 4 (by simp)).2.1
        obtain ⟨m, hm⟩ : ∃ m, m = stA s k 5 := ⟨_, rfl⟩
        rw [← hm] at HM hen
        rw [← hm] at hs13
        have HEN := Aside0.mk hen
        have HSZ := Aside0.mk (DM_size m hs13)
        clear hm hen hle hs13
        have zx401_0 : wr.cell? ⟨gx1, 0, none⟩ = some (.int .i64 s) := (blk_cell HX.out 0).trans rfl
        have zx401_1 : wr.cell? ⟨gx1, 1, none⟩ = some (.int .i64 k) := (blk_cell HX.out 1).trans rfl
        have zx401_2 : wr.cell? ⟨gx1, 2, none⟩ = some (.slice A n ca) := (blk_cell HX.out 2).trans rfl
        have zx401_3 : wr.cell? ⟨gx1, 3, none⟩ = some (.int .i64 sh) := (blk_cell HX.out 3).trans rfl
        have zx401_4 : wr.cell? ⟨gx1, 4, none⟩ = some (.int .i64 h) := (blk_cell HX.out 4).trans rfl
        have zx401_5 : wr.cell? ⟨gx1, 5, none⟩ = some (.int .i64 c) := (blk_cell HX.out 5).trans rfl
        have zx401_6 : wr.cell? ⟨gx1, 6, none⟩ = some (.int .i64 b) := (blk_cell HX.out 6).trans rfl
        have zx401_7 : wr.cell? ⟨gx1, 7, none⟩ = some (.int .i64 le) := (blk_cell HX.out 7).trans rfl
        go_wp2_with (at_len; refine wpList_len_own _ rfl _ 43 rfl 3 3 Try.underlying43 _ m0 m (DM m) rfl HM.out ?_; rw [HSZ.out])
        refine (CN.out _ HRW400.out).mono ?_
        rintro e w402 ⟨rfl, hb402⟩
        clear zx401_0 zx401_1 zx401_2 zx401_3 zx401_4 zx401_5 zx401_6 zx401_7
        have HB403 := Aside0.mk (below_step HW.out hb402)
        have Bx403 : Aside0 (w402.heap[gx1]? = some (.cells #[.int .i64 s, .int .i64 k, .slice A n ca, .int .i64 sh, .int .i64 h, .int .i64 c, .int .i64 b, .int .i64 le] 24 (0, 0))) := ⟨(hb402.block _ (blk_lt HX.out)).trans HX.out⟩
        have Cl403 := Aside0.mk (Kd.C_below HRW400.out hb402)
        have CM403 := Aside0.mk (MapAt.below HM.out hb402)
        clear hb402
        have zx404_0 : w402.cell? ⟨gx1, 0, none⟩ = some (.int .i64 s) := (blk_cell Bx403.out 0).trans rfl
        have zx404_1 : w402.cell? ⟨gx1, 1, none⟩ = some (.int .i64 k) := (blk_cell Bx403.out 1).trans rfl
        have zx404_2 : w402.cell? ⟨gx1, 2, none⟩ = some (.slice A n ca) := (blk_cell Bx403.out 2).trans rfl
        have zx404_3 : w402.cell? ⟨gx1, 3, none⟩ = some (.int .i64 sh) := (blk_cell Bx403.out 3).trans rfl
        have zx404_4 : w402.cell? ⟨gx1, 4, none⟩ = some (.int .i64 h) := (blk_cell Bx403.out 4).trans rfl
        have zx404_5 : w402.cell? ⟨gx1, 5, none⟩ = some (.int .i64 c) := (blk_cell Bx403.out 5).trans rfl
        have zx404_6 : w402.cell? ⟨gx1, 6, none⟩ = some (.int .i64 b) := (blk_cell Bx403.out 6).trans rfl
        have zx404_7 : w402.cell? ⟨gx1, 7, none⟩ = some (.int .i64 le) := (blk_cell Bx403.out 7).trans rfl
        have e4 : ((m : Int) != s + 2 + k + 1) = false := by rw [HEN.out]; simp
        go_wp2_with (at_range; refine wpList_range_own _ rfl _ 43 rfl 3 3 law3 Try.underlying43 _ m0 m (DM m) rfl CM403.out ?_; intro w0 hrg0 hg0 hs0)
        clear e4
        clear zx404_0 zx404_1 zx404_2 zx404_3 zx404_4 zx404_5 zx404_6 zx404_7
        have hb0 : Below w402.heap.size w402 w0 := pw_below_grown (Below.refl _ _) none (Nat.le_refl _) hg0 (fun k hk => by cases hk)
        have HRG := Aside0.mk hrg0
        have HIT := Aside0.mk (show W.heap.size ≤ w402.heap.size from HB403.out.size)
        obtain ⟨it, hit⟩ : ∃ it, it = w402.heap.size := ⟨_, rfl⟩
        rw [← hit] at HRG HIT
        rw [← hit]
        clear hrg0 hg0 hs0 hit
        have HB405 := Aside0.mk (below_step HB403.out hb0)
        have Bx405 : Aside0 (w0.heap[gx1]? = some (.cells #[.int .i64 s, .int .i64 k, .slice A n ca, .int .i64 sh, .int .i64 h, .int .i64 c, .int .i64 b, .int .i64 le] 24 (0, 0))) := ⟨(hb0.block _ (blk_lt Bx403.out)).trans Bx403.out⟩
        have Cl405 := Aside0.mk (Kd.C_below Cl403.out hb0)
        have CM405 := Aside0.mk (MapAt.below CM403.out hb0)
        clear hb0
        go_frame
        go_loopw [13] (fun _ w' => ∃ (left : Lit → Bool) (cnt : Nat), Aside0 (w'.ranges Try.prog 3 (plainElem Try.prog 3) m0 it m (DM m) left cnt) ∧ Aside0 (w'.heap[gx1]? = some (.cells #[.int .i64 s, .int .i64 k, .slice A n ca, .int .i64 sh, .int .i64 h, .int .i64 c, .int .i64 b, .int .i64 le] 24 (0, 0))) ∧ Aside0 (Below W.heap.size W w')) (fun _ w' => w'.rangeLeft m0 it)
        case atStart => exact ⟨_, _, HRG, Bx405, HB405⟩
        case round =>
          clear HM HX HW HRG
          obtain ⟨left, cnt, HRG, HX, HW⟩ := hrel
          go_wp2_with (first | (at_next; refine wpList_next_ranges_ii _ rfl _ rfl 3 3 .i64 .i64 law3 Try.underlying3 Try.underlying3 m0 it m _ _ _ rfl HRG.out ?_ ?_) | fail)
          rotate_left
          · intro x c1 w1 cnt1 hwx hwc hlx hat hrg1 hlt hg1 hs1 hen
            have hc1 : c1 = 1 := DM_one m x c1 hat
            subst hc1
            have HRG1 := Aside0.mk hrg1
            have HLT := Aside0.mk hlt
            have HX1 : Aside0 (w1.heap[gx1]? = some (.cells #[.int .i64 s, .int .i64 k, .slice A n ca, .int .i64 sh, .int .i64 h, .int .i64 c, .int .i64 b, .int .i64 le] 24 (0, 0))) := ⟨blk_grown HX.out hg1 (fun e => rng_ne HRG.out HX.out (by injection e))⟩
            have HB1 : Aside0 (Below W.heap.size W w1) := ⟨pw_below_grown HW.out (some it) HW.out.size hg1 (fun k hk => by injection hk with hk; have := HIT.out; omega)⟩
            clear hat hrg1 hlt hg1 hs1 hlx
            go_wp2_with fail
            go_roundw
            case rel => exact ⟨_, cnt1, HRG1, HX1, HB1⟩
            case measure => rw [HRG1.out.left_eq, HRG.out.left_eq]; exact HLT.out
          · intro _ hl0
            clear hl0
            have HRW500 := Aside0.mk (Kd.C_below HR.out HW.out)
            go_upto_region 25 with fail
            have zx501_0 : wr.cell? ⟨gx1, 0, none⟩ = some (.int .i64 s) := (blk_cell HX.out 0).trans rfl
            have zx501_1 : wr.cell? ⟨gx1, 1, none⟩ = some (.int .i64 k) := (blk_cell HX.out 1).trans rfl
            have zx501_2 : wr.cell? ⟨gx1, 2, none⟩ = some (.slice A n ca) := (blk_cell HX.out 2).trans rfl
            have zx501_3 : wr.cell? ⟨gx1, 3, none⟩ = some (.int .i64 sh) := (blk_cell HX.out 3).trans rfl
            have zx501_4 : wr.cell? ⟨gx1, 4, none⟩ = some (.int .i64 h) := (blk_cell HX.out 4).trans rfl
            have zx501_5 : wr.cell? ⟨gx1, 5, none⟩ = some (.int .i64 c) := (blk_cell HX.out 5).trans rfl
            have zx501_6 : wr.cell? ⟨gx1, 6, none⟩ = some (.int .i64 b) := (blk_cell HX.out 6).trans rfl
            have zx501_7 : wr.cell? ⟨gx1, 7, none⟩ = some (.int .i64 le) := (blk_cell HX.out 7).trans rfl
            have hl2 : (ofL s k 2).length = 2 := (of_len s HSM.out.1 k HSM.out.2).2.1
            have hl3 : ((ofL s k 3).length : Int) = k := (of_len s HSM.out.1 k HSM.out.2).2.2.1
            have CO2 := Aside0.mk (CO.out 2)
            have CO3 := Aside0.mk (CO.out 3)
            obtain ⟨L2, hL2⟩ : ∃ L, ofL s k 2 = L := ⟨_, rfl⟩
            obtain ⟨L3, hL3⟩ : ∃ L, ofL s k 3 = L := ⟨_, rfl⟩
            rw [hL2] at CO2 hl2
            rw [hL3] at CO3 hl3
            clear hL2 hL3
            have e5 : ((L2.length : Int) == 2) = true := by rw [hl2]; rfl
            have e6 : ((L3.length : Int) == k) = true := by rw [hl3]; simp
            clear hl2 hl3
            refine start_ (n := 13) (S := fun w' => w'.cell? ⟨gx1, 0, none⟩ = some (.int .i64 s) ∧ w'.cell? ⟨gx1, 1, none⟩ = some (.int .i64 k) ∧ w'.cell? ⟨gx1, 2, none⟩ = some (.slice A n ca) ∧ w'.cell? ⟨gx1, 3, none⟩ = some (.int .i64 sh) ∧ w'.cell? ⟨gx1, 4, none⟩ = some (.int .i64 h) ∧ w'.cell? ⟨gx1, 5, none⟩ = some (.int .i64 c) ∧ w'.cell? ⟨gx1, 6, none⟩ = some (.int .i64 b) ∧ w'.cell? ⟨gx1, 7, none⟩ = some (.int .i64 le)) (ds := []) #[false, false, false, false, false, false, false, false, false, false, false, false, false] (by kernel_rfl) rfl rfl ⟨zx501_0, zx501_1, zx501_2, zx501_3, zx501_4, zx501_5, zx501_6, zx501_7⟩ (fun hHeld => ?_)
            refine take_ (i := 0) (N := some 99) (v := ?_) (a' := ?_) #[true, false, false, false, false, false, false, false, false, false, false, false, false] rfl rfl (by kernel_rfl) (fun _ _ _ h => h) (Or.inl ⟨by rfl, ?_⟩) hHeld ?_ ?_
            rotate_left
            · rintro w' ⟨s0, s1, s2, s3, s4, s5, s6, s7⟩
              go_simp
              with_reducible rfl
            rotate_left
            · simp only [Act.put, List.setIfInBounds_toArray, List.set_cons_zero, List.set_cons_succ, i64_w, i32_w]
              rfl
            refine one_ (i := 1) (N := some 100) #[true, true, false, false, false, false, false, false, false, false, false, false, false] rfl rfl (by kernel_rfl) (by decide) (fun K hK => ?_)
            refine goes_ Try.func16 (by kernel_rfl) rfl #[.agg (planCells s k A n ca sh h c b le), .int .i64 2] (by rfl) rfl rfl (by simp only [List.map_toArray, List.map_cons, List.map_nil]; rfl) ?_
            with_reducible refine (CO2.out _ (Kd.C_drew HRW500.out)).mono ?_
            rintro e v1 ⟨B2, d2, rfl, _, hb1⟩
            refine ⟨_, rfl, ?_⟩
            have HB1 := Aside0.mk (below_step (below_drew (Below.refl _ wr)) hb1)
            clear hb1
            refine hK.out _ _ ⟨pw_cell_below HB1.out zx501_0, pw_cell_below HB1.out zx501_1, pw_cell_below HB1.out zx501_2, pw_cell_below HB1.out zx501_3, pw_cell_below HB1.out zx501_4, pw_cell_below HB1.out zx501_5, pw_cell_below HB1.out zx501_6, pw_cell_below HB1.out zx501_7⟩ (fun hHeld => ?_)
            clear hK K
            refine norm_ (a' := ?_) ?_ ?_
            rotate_left
            · show Act.put _ (some 100) _ = _
              simp only [Act.put, List.setIfInBounds_toArray, List.set_cons_zero, List.set_cons_succ, i64_w, i32_w]
              rfl
            refine pure_ (i := 2) (N := some 101) (v := ?_) (a' := ?_) #[true, true, true, false, false, false, false, false, false, false, false, false, false] rfl rfl (by kernel_rfl) (fun _ _ _ h => h) (Or.inl ⟨by rfl, ?_⟩) ?_ ?_
            rotate_left
            · intro w'
              go_simp
              with_reducible rfl
            rotate_left
            · simp only [Act.put, List.setIfInBounds_toArray, List.set_cons_zero, List.set_cons_succ, i64_w, i32_w]
              rfl
            refine pure_ (i := 3) (N := some 102) (v := ?_) (a' := ?_) #[true, true, true, true, false, false, false, false, false, false, false, false, false] rfl rfl (by kernel_rfl) (fun _ _ _ h => h) (Or.inl ⟨by rfl, ?_⟩) ?_ ?_
            rotate_left
            · intro w'
              go_simp
              with_reducible rfl
            rotate_left
            · simp only [Act.put, List.setIfInBounds_toArray, List.set_cons_zero, List.set_cons_succ, i64_w, i32_w]
              rfl
            refine pure_ (i := 4) (N := some 103) (v := ?_) (a' := ?_) #[true, true, true, true, true, false, false, false, false, false, false, false, false] rfl rfl (by kernel_rfl) (fun _ _ _ h => h) (Or.inl ⟨by rfl, ?_⟩) ?_ ?_
            rotate_left
            · intro w'
              go_simp
              with_reducible rfl
            rotate_left
            · simp only [Act.put, List.setIfInBounds_toArray, List.set_cons_zero, List.set_cons_succ, i64_w, i32_w]
              rfl
            refine pure_ (i := 8) (N := some 107) (v := ?_) (a' := ?_) #[true, true, true, true, true, false, false, false, true, false, false, false, false] rfl rfl (by kernel_rfl) (fun _ _ _ h => h) (Or.inl ⟨by rfl, ?_⟩) ?_ ?_
            rotate_left
            · intro w'
              go_simp
              with_reducible rfl
            rotate_left
            · simp only [Act.put, List.setIfInBounds_toArray, List.set_cons_zero, List.set_cons_succ, i64_w, i32_w]
              rfl
            refine take_ (i := 5) (N := some 104) (v := ?_) (a' := ?_) #[true, true, true, true, true, true, false, false, true, false, false, false, false] rfl rfl (by kernel_rfl) (fun _ _ _ h => h) (Or.inl ⟨by rfl, ?_⟩) hHeld ?_ ?_
            rotate_left
            · rintro w' ⟨s0, s1, s2, s3, s4, s5, s6, s7⟩
              go_simp
              with_reducible rfl
            rotate_left
            · simp only [Act.put, List.setIfInBounds_toArray, List.set_cons_zero, List.set_cons_succ, i64_w, i32_w]
              rfl
            refine take_ (i := 9) (N := some 108) (v := ?_) (a' := ?_) #[true, true, true, true, true, true, false, false, true, true, false, false, false] rfl rfl (by kernel_rfl) (fun _ _ _ h => h) (Or.inl ⟨by rfl, ?_⟩) hHeld ?_ ?_
            rotate_left
            · rintro w' ⟨s0, s1, s2, s3, s4, s5, s6, s7⟩
              go_simp
              with_reducible rfl
            rotate_left
            · simp only [Act.put, List.setIfInBounds_toArray, List.set_cons_zero, List.set_cons_succ, i64_w, i32_w]
              rfl
            refine one_ (i := 6) (N := some 105) #[true, true, true, true, true, true, true, false, true, true, false, false, false] rfl rfl (by kernel_rfl) (by decide) (fun K hK => ?_)
            refine goes_ Try.func16 (by kernel_rfl) rfl #[.agg (planCells s k A n ca sh h c b le), .int .i64 3] (by rfl) rfl rfl (by simp only [List.map_toArray, List.map_cons, List.map_nil]; rfl) ?_
            with_reducible refine (CO3.out _ (Kd.C_below HRW500.out HB1.out)).mono ?_
            rintro e v6 ⟨B3, d3, rfl, _, hb6⟩
            refine ⟨_, rfl, ?_⟩
            have HB6 := Aside0.mk (below_step HB1.out hb6)
            clear hb6
            refine hK.out _ _ ⟨pw_cell_below HB6.out zx501_0, pw_cell_below HB6.out zx501_1, pw_cell_below HB6.out zx501_2, pw_cell_below HB6.out zx501_3, pw_cell_below HB6.out zx501_4, pw_cell_below HB6.out zx501_5, pw_cell_below HB6.out zx501_6, pw_cell_below HB6.out zx501_7⟩ (fun hHeld => ?_)
            clear hK K
            refine norm_ (a' := ?_) ?_ ?_
            rotate_left
            · show Act.put _ (some 105) _ = _
              simp only [Act.put, List.setIfInBounds_toArray, List.set_cons_zero, List.set_cons_succ, i64_w, i32_w]
              rfl
            refine pure_ (i := 7) (N := some 106) (v := ?_) (a' := ?_) #[true, true, true, true, true, true, true, true, true, true, false, false, false] rfl rfl (by kernel_rfl) (fun _ _ _ h => h) (Or.inl ⟨by rfl, ?_⟩) ?_ ?_
            rotate_left
            · intro w'
              go_simp
              with_reducible rfl
            rotate_left
            · simp only [Act.put, List.setIfInBounds_toArray, List.set_cons_zero, List.set_cons_succ, i64_w, i32_w]
              rfl
            refine pure_ (i := 10) (N := some 109) (v := ?_) (a' := ?_) #[true, true, true, true, true, true, true, true, true, true, true, false, false] rfl rfl (by kernel_rfl) (fun _ _ _ h => h) (Or.inl ⟨by rfl, ?_⟩) ?_ ?_
            rotate_left
            · intro w'
              go_simp
              with_reducible rfl
            rotate_left
            · simp only [Act.put, List.setIfInBounds_toArray, List.set_cons_zero, List.set_cons_succ, i64_w, i32_w]
              rfl
            refine pure_ (i := 11) (N := some 110) (v := ?_) (a' := ?_) #[true, true, true, true, true, true, true, true, true, true, true, true, false] rfl rfl (by kernel_rfl) (fun _ _ _ h => h) (Or.inl ⟨by rfl, ?_⟩) ?_ ?_
            rotate_left
            · intro w'
              go_simp
              with_reducible rfl
            rotate_left
            · simp only [Act.put, List.setIfInBounds_toArray, List.set_cons_zero, List.set_cons_succ, i64_w, i32_w]
              rfl
            refine pure_ (i := 12) (N := some 2) (v := ?_) (a' := ?_) #[true, true, true, true, true, true, true, true, true, true, true, true, true] rfl rfl (by kernel_rfl) (fun _ _ _ h => h) (Or.inl ⟨by rfl, ?_⟩) ?_ ?_
            rotate_left
            · intro w'
              go_simp
              with_reducible rfl
            rotate_left
            · simp only [Act.put, List.setIfInBounds_toArray, List.set_cons_zero, List.set_cons_succ, i64_w, i32_w]
              rfl
            refine done_ (by kernel_rfl) ?_
            have hbe := HB6.out
            clear zx501_0 zx501_1 zx501_2 zx501_3 zx501_4 zx501_5 zx501_6 zx501_7 e5 e6
            have HB502 := Aside0.mk (below_step HW.out hbe)
            have Bx502 : Aside0 (v6.heap[gx1]? = some (.cells #[.int .i64 s, .int .i64 k, .slice A n ca, .int .i64 sh, .int .i64 h, .int .i64 c, .int .i64 b, .int .i64 le] 24 (0, 0))) := ⟨(hbe.block _ (blk_lt HX.out)).trans HX.out⟩
            have Cl502 := Aside0.mk (Kd.C_below HRW500.out hbe)
            clear hbe
            go_wp2_with fail
            go_ret
            exact ⟨rfl, HB502.out⟩
theorem each_walk (w : World) (cs : Array Value) (y : PlanT) (hK : kPlan.K w y cs.toList) (hq : PlanQ y) :
    Calls Try.prog 6 #[.agg cs] w fun e w' => e = .returned (.bool true) ∧ Below w.heap.size w w' := by
  obtain ⟨A, ca, he, hc, hC⟩ := plan_cells hK
  obtain rfl : cs = planCells y.1 y.2.1 A y.2.2.1.length ca y.2.2.2.1 y.2.2.2.2.1 y.2.2.2.2.2.1 y.2.2.2.2.2.2.1 y.2.2.2.2.2.2.2 := by
    rw [← Array.toArray_toList (xs := cs), he]
  exact each_any _ _ A ca _ _ _ _ _ _ w hC hc
end Go.Proofs.Ytdaapjkfkfaflaa.MAll

/- PlanRoles: which node is what: the walk. -/
import Derived.Test.YtdaapjkfkfaflaaPv
import Derived.Test.YtdaapjkfkfaflaaKit
import Derived.Deep.DrawnRows
set_option linter.unusedVariables false
set_option linter.unusedSimpArgs false
namespace Go.Proofs.Ytdaapjkfkfaflaa.MAll
open Go.RowKit Go.Proofs.YtdaapjkfkfaflaaW.PrintWords Go.Proofs.YtdaapjkfkfaflaaW.PrintLast Go.Proofs.YtdaapjkfkfaflaaW.PrintMore

/-- How many of the first are the same. -/
def cntB (l : List Int) (r : Int) (j : Nat) : Int := (((l.take j).filter (· == r)).length : Int)
theorem cntB_le (l : List Int) (r : Int) (j : Nat) : 0 ≤ cntB l r j ∧ cntB l r j ≤ j := by
  unfold cntB
  have h1 := List.length_filter_le (fun x => x == r) (l.take j)
  have h2 : (l.take j).length ≤ j := List.length_take_le _ _
  omega
theorem cntB_succ (l : List Int) (r : Int) (j : Nat) (hj : j < l.length) : cntB l r (j + 1) = if rd l j = r then cntB l r j + 1 else cntB l r j := by
  unfold cntB
  have e : rd l (j : Int) = l[j] := by simp [rd, List.getD_eq_getElem?_getD, List.getElem?_eq_getElem hj]
  rw [List.take_succ_eq_append_getElem hj, List.filter_append, e]
  by_cases h : l[j] = r
  · simp [List.filter_cons, h]
  · simp [List.filter_cons, h]
theorem node_fin : ∀ s ∈ ([1, 2, 3, 4] : List Int), ∀ k ∈ ([1, 3, 5] : List Int), ∀ ro ∈ ([1, 2, 3, 4] : List Int), ∀ j < 12, j < (ofL s k ro).length → nodeAt s 2 k 1 ro (j : Int) = (rd (ofL s k ro) (j : Int), true) := by decide +kernel
theorem of_len : ∀ s ∈ ([1, 2, 3, 4] : List Int), ∀ k ∈ ([1, 3, 5] : List Int), ((ofL s k 1).length : Int) = s ∧ (ofL s k 2).length = 2 ∧ ((ofL s k 3).length : Int) = k ∧ (ofL s k 4).length = 1 := by decide +kernel
theorem role_fin : ∀ s ∈ ([1, 2, 3, 4] : List Int), ∀ k ∈ ([1, 3, 5] : List Int), ∀ j < 12, j < (rolesL s k).length → roleAt s 2 k 1 (j : Int) = (rd (rolesL s k) (j : Int), cntB (rolesL s k) (rd (rolesL s k) (j : Int)) j, true) := by decide +kernel
theorem small_mem {s k : Int} (h : small s k) : s ∈ ([1, 2, 3, 4] : List Int) ∧ k ∈ ([1, 3, 5] : List Int) := by
  obtain ⟨h1, h2⟩ := h
  simp only [List.mem_cons, List.not_mem_nil, or_false]
  exact ⟨h1, h2⟩
theorem ofL_len (s k ro : Int) (h : small s k) : (ofL s k ro).length ≤ 12 := by
  unfold ofL
  rw [List.length_map]
  refine Nat.le_trans (List.length_filter_le _ _) ?_
  rw [List.length_zipIdx]
  exact (roles_len s k h).2
theorem node_cases (g : Bool) (s k : Int) (l : List Int) (sh h c b le ro i : Int) (hg : goodP s k l sh h c b le = g) (L : List Int) (hL : (if g then ofL s k ro else []) = L) :
    (i < 0 ∧ nodeAt (szA g s) (szA g 2) (szA g k) (szA g 1) ro i = (0, false)) ∨ (0 ≤ i ∧ (L.length : Int) ≤ i ∧ nodeAt (szA g s) (szA g 2) (szA g k) (szA g 1) ro i = (0, false)) ∨ (0 ≤ i ∧ i < L.length ∧ nodeAt (szA g s) (szA g 2) (szA g k) (szA g 1) ro i = (rd L i, true)) := by
  by_cases h0 : i < 0
  · exact .inl ⟨h0, nodeAt_neg h0⟩
  · refine .inr ?_
    cases g
    · refine .inl ⟨by omega, by rw [← hL]; simp; omega, ?_⟩
      unfold nodeAt
      simp [szA, h0]
    · have hs := good_small hg
      obtain ⟨m1, m2⟩ := small_mem hs
      have e : ofL s k ro = L := by rw [← hL]; rfl
      have hl := ofL_len s k ro hs
      simp only [szA, if_true]
      by_cases hro : ro = 1 ∨ ro = 2 ∨ ro = 3 ∨ ro = 4
      · have m3 : ro ∈ ([1, 2, 3, 4] : List Int) := by simpa using hro
        by_cases hi : i < L.length
        · refine .inr ⟨by omega, hi, ?_⟩
          obtain ⟨j, rfl⟩ := Int.eq_ofNat_of_zero_le (show 0 ≤ i by omega)
          have := node_fin s m1 k m2 ro m3 j (by rw [e] at hl; omega) (by rw [e]; omega)
          rw [e] at this
          exact this
        · refine .inl ⟨by omega, by omega, ?_⟩
          obtain ⟨l1, l2, l3, l4⟩ := of_len s m1 k m2
          unfold nodeAt
          rw [if_neg h0]
          rcases hro with rfl | rfl | rfl | rfl
          · rw [if_pos rfl, if_neg (by rw [← e] at hi; omega)]
          · rw [if_neg (by decide), if_pos rfl, if_neg (by rw [← e] at hi; omega)]
          · rw [if_neg (by decide), if_neg (by decide), if_pos rfl, if_neg (by rw [← e] at hi; omega)]
          · rw [if_neg (by decide), if_neg (by decide), if_neg (by decide), if_pos rfl, if_neg (by rw [← e] at hi; omega)]
      · refine .inl ⟨by omega, ?_, nodeAt_out (by omega)⟩
        rw [← e, of_none s k ro hro]
        simp; omega
theorem role_cases (g : Bool) (s k : Int) (l : List Int) (sh h c b le n : Int) (hg : goodP s k l sh h c b le = g) (L : List Int) (hL : (if g then rolesL s k else []) = L) :
    (n < 0 ∧ roleAt (szA g s) (szA g 2) (szA g k) (szA g 1) n = (0, 0, false)) ∨ (0 ≤ n ∧ (L.length : Int) ≤ n ∧ roleAt (szA g s) (szA g 2) (szA g k) (szA g 1) n = (0, 0, false)) ∨ (0 ≤ n ∧ n < L.length ∧ roleAt (szA g s) (szA g 2) (szA g k) (szA g 1) n = (rd L n, cntB L (rd L n) n.toNat, true)) := by
  by_cases h0 : n < 0
  · exact .inl ⟨h0, roleAt_0 h0⟩
  · refine .inr ?_
    cases g
    · refine .inl ⟨by omega, by rw [← hL]; simp; omega, ?_⟩
      simp only [szA, Bool.false_eq_true, if_false]
      exact roleAt_5 (by omega) (by omega) (by omega) (by omega) (by omega)
    · have hs := good_small hg
      obtain ⟨m1, m2⟩ := small_mem hs
      have e : rolesL s k = L := by rw [← hL]; rfl
      obtain ⟨hl1, hl⟩ := roles_len s k hs
      simp only [szA, if_true]
      by_cases hi : n < L.length
      · refine .inr ⟨by omega, hi, ?_⟩
        obtain ⟨j, rfl⟩ := Int.eq_ofNat_of_zero_le (show 0 ≤ n by omega)
        have := role_fin s m1 k m2 j (by rw [e] at hl; omega) (by rw [e]; omega)
        rw [e] at this
        exact this
      · refine .inl ⟨by omega, by omega, ?_⟩
        have h2 := hs
        unfold small at h2
        rw [e] at hl1
        exact roleAt_5 (by omega) (by omega) (by omega) (by omega) (by omega)
def NodesRel (Rl : List Int) (j : Nat) (t16 t96 : Value) : Prop := ∃ q : Nat, q ≤ j ∧ t96 = .int .i64 q ∧ t16 = .int .i64 (cntB Rl (rd Rl j) q)
set_option maxHeartbeats 8000000 in
set_option maxRecDepth 100000 in
theorem nodes_any (s k : Int) (A : Option Addr) (ca : Nat) (l : List Int) (sh h c b le ro i n : Int) (w : World) (hr : (Kd.int .i64).C w A l.length l) (hc : l.length ≤ ca) (hn : i64ok n) :
    Calls Try.prog 15 #[.agg (planCells s k A l.length ca sh h c b le), .int .i64 ro, .int .i64 i, .int .i64 n] w fun e w' => e = .returned (.bool true) ∧ Below w.heap.size w w' := by
  have HR := Aside0.mk hr
  have HN := Aside0.mk hn
  clear hr hn
  have hu24 := Try.underlying24
  obtain ⟨g, hg⟩ : ∃ g, goodP s k l sh h c b le = g := ⟨_, rfl⟩
  have HG := Aside0.mk hg
  obtain ⟨L, hL⟩ : ∃ L, (if g then ofL s k ro else []) = L := ⟨_, rfl⟩
  obtain ⟨Rl, hRl⟩ : ∃ L, (if g then rolesL s k else []) = L := ⟨_, rfl⟩
  have CA := Aside0.mk (node_cases g s k l sh h c b le ro i hg L hL)
  have CB := Aside0.mk (role_cases g s k l sh h c b le n hg Rl hRl)
  have hR12 : Rl.length ≤ 12 := by
    rw [← hRl]
    cases g
    · simp
    · exact (roles_len s k (good_small hg)).2
  have hL12 : L.length ≤ 12 := by
    rw [← hL]
    cases g
    · simp
    · exact ofL_len s k ro (good_small hg)
  have RO : Aside0 (∀ W, (Kd.int .i64).C W A l.length l → Calls Try.prog 24 #[.agg (planCells s k A l.length ca sh h c b le), .int .i64 ro] W fun e w' => ∃ u : Value, e = .returned u ∧ (Kd.int .i64).R 3 w' W.heap.size (fun _ => True) u L ∧ Below W.heap.size W w') := ⟨fun W hW => by rw [← hL]; exact refof_v g s k A ca l sh h c b le W hg hW hc ro⟩
  have OO : Aside0 (∀ W, (Kd.int .i64).C W A l.length l → Calls Try.prog 16 #[.agg (planCells s k A l.length ca sh h c b le), .int .i64 ro] W fun e w' => ∃ u : Value, e = .returned u ∧ (Kd.int .i64).R 3 w' W.heap.size (fun _ => True) u L ∧ Below W.heap.size W w') := ⟨fun W hW => by rw [← hL]; exact of_v g s k A ca l sh h c b le W hg hW hc ro⟩
  have RR : Aside0 (∀ W, (Kd.int .i64).C W A l.length l → Calls Try.prog 13 #[.agg (planCells s k A l.length ca sh h c b le)] W fun e w' => ∃ u : Value, e = .returned u ∧ (Kd.int .i64).R 3 w' W.heap.size (fun _ => True) u Rl ∧ Below W.heap.size W w') := ⟨fun W hW => by rw [← hRl]; exact refroles_v g s k A ca l sh h c b le W hg hW hc⟩
  have NO : Aside0 (∀ W n0 ok0, nodeAt (szA g s) (szA g 2) (szA g k) (szA g 1) ro i = (n0, ok0) → (Kd.int .i64).C W A l.length l → Calls Try.prog 18 #[.agg (planCells s k A l.length ca sh h c b le), .int .i64 ro, .int .i64 i] W fun e w' => e = .returned (.tuple #[.int .i64 n0, .bool ok0]) ∧ Below W.heap.size W w') := ⟨fun W n0 ok0 hq hW => by have := node_v g s k A ca l sh h c b le W hg hW hc ro i; rw [hq] at this; exact this⟩
  have RE : Aside0 (∀ W r0 k0 is0, roleAt (szA g s) (szA g 2) (szA g k) (szA g 1) n = (r0, k0, is0) → (Kd.int .i64).C W A l.length l → Calls Try.prog 17 #[.agg (planCells s k A l.length ca sh h c b le), .int .i64 n] W fun e w' => e = .returned (.tuple #[.int .i64 r0, .int .i64 k0, .bool is0]) ∧ Below W.heap.size W w') := ⟨fun W r0 k0 is0 hq hW => by have := role_v g s k A ca l sh h c b le W hg hW hc n HN.out; rw [hq] at this; exact this⟩
  clear hg hL hRl
  obtain ⟨gc, hgc⟩ : ∃ gc, gc = w.heap.size := ⟨_, rfl⟩
  have BK0 : Aside0 ((w.alloc (.cells (planCells s k A l.length ca sh h c b le) 24)).heap[gc]? = some (.cells (planCells s k A l.length ca sh h c b le) 24 (0, 0))) := ⟨by rw [hgc]; exact blk_new w _⟩
  have HB0 := Aside0.mk (below_alloc (Below.refl _ w) (.cells (planCells s k A l.length ca sh h c b le) 24))
  have HGC := Aside0.mk hgc
  clear hgc
  by_cases h1 : l.length ≤ 1000
  case neg =>
    have h1b : decide (1000 < (l.length : Int)) = true := decide_eq_true (by omega)
    go_enter Try.func15, Try.ntmps15
    go_wp2_with (go_at_call 8; with_reducible refine (alive_any _).mono ?_; rintro e w1 ⟨rfl, hb1⟩; have HB1 := Aside0.mk (below_step HB0.out hb1); have BK1 := Aside0.mk ((hb1.block _ (blk_lt BK0.out)).trans BK0.out); have HX1 := Aside0.mk (Kd.C_below HR.out HB1.out); rw [← HGC.out]; have z0 : w1.cell? ⟨gc, 0, none⟩ = some (.int .i64 s) := (blk_cell BK1.out 0).trans rfl; have z1 : w1.cell? ⟨gc, 1, none⟩ = some (.int .i64 k) := (blk_cell BK1.out 1).trans rfl; have z2 : w1.cell? ⟨gc, 2, none⟩ = some (.slice A l.length ca) := (blk_cell BK1.out 2).trans rfl; have z3 : w1.cell? ⟨gc, 3, none⟩ = some (.int .i64 sh) := (blk_cell BK1.out 3).trans rfl; have z4 : w1.cell? ⟨gc, 4, none⟩ = some (.int .i64 h) := (blk_cell BK1.out 4).trans rfl; have z5 : w1.cell? ⟨gc, 5, none⟩ = some (.int .i64 c) := (blk_cell BK1.out 5).trans rfl; have z6 : w1.cell? ⟨gc, 6, none⟩ = some (.int .i64 b) := (blk_cell BK1.out 6).trans rfl; have z7 : w1.cell? ⟨gc, 7, none⟩ = some (.int .i64 le) := (blk_cell BK1.out 7).trans rfl; clear hb1)
    go_ret
    exact ⟨rfl, HB1.out⟩
  have h1b : decide (1000 < (l.length : Int)) = false := decide_eq_false (by omega)
  go_enter Try.func15, Try.ntmps15
  go_upto_region 6 with (first | (go_at_call 8; with_reducible refine (alive_any _).mono ?_; rintro e w1 ⟨rfl, hb1⟩; have HB1 := Aside0.mk (below_step HB0.out hb1); have BK1 := Aside0.mk ((hb1.block _ (blk_lt BK0.out)).trans BK0.out); have HX1 := Aside0.mk (Kd.C_below HR.out HB1.out); rw [← HGC.out]; have z0 : w1.cell? ⟨gc, 0, none⟩ = some (.int .i64 s) := (blk_cell BK1.out 0).trans rfl; have z1 : w1.cell? ⟨gc, 1, none⟩ = some (.int .i64 k) := (blk_cell BK1.out 1).trans rfl; have z2 : w1.cell? ⟨gc, 2, none⟩ = some (.slice A l.length ca) := (blk_cell BK1.out 2).trans rfl; have z3 : w1.cell? ⟨gc, 3, none⟩ = some (.int .i64 sh) := (blk_cell BK1.out 3).trans rfl; have z4 : w1.cell? ⟨gc, 4, none⟩ = some (.int .i64 h) := (blk_cell BK1.out 4).trans rfl; have z5 : w1.cell? ⟨gc, 5, none⟩ = some (.int .i64 c) := (blk_cell BK1.out 5).trans rfl; have z6 : w1.cell? ⟨gc, 6, none⟩ = some (.int .i64 b) := (blk_cell BK1.out 6).trans rfl; have z7 : w1.cell? ⟨gc, 7, none⟩ = some (.int .i64 le) := (blk_cell BK1.out 7).trans rfl; clear hb1) | (go_at_call 24; with_reducible refine (RO.out _ HX1.out).mono ?_; rintro e w2 ⟨u, rfl, hR2, hb2⟩; have HB2 := Aside0.mk (below_step HB1.out hb2); have BK2 := Aside0.mk ((hb2.block _ (blk_lt BK1.out)).trans BK1.out); have HX2 := Aside0.mk (Kd.C_below HR.out HB2.out); have HL := Aside0.mk hR2; clear hR2; clear z0 z1 z2 z3 z4 z5 z6 z7; have y0 : w2.cell? ⟨gc, 0, none⟩ = some (.int .i64 s) := (blk_cell BK2.out 0).trans rfl; have y1 : w2.cell? ⟨gc, 1, none⟩ = some (.int .i64 k) := (blk_cell BK2.out 1).trans rfl; have y2 : w2.cell? ⟨gc, 2, none⟩ = some (.slice A l.length ca) := (blk_cell BK2.out 2).trans rfl; have y3 : w2.cell? ⟨gc, 3, none⟩ = some (.int .i64 sh) := (blk_cell BK2.out 3).trans rfl; have y4 : w2.cell? ⟨gc, 4, none⟩ = some (.int .i64 h) := (blk_cell BK2.out 4).trans rfl; have y5 : w2.cell? ⟨gc, 5, none⟩ = some (.int .i64 c) := (blk_cell BK2.out 5).trans rfl; have y6 : w2.cell? ⟨gc, 6, none⟩ = some (.int .i64 b) := (blk_cell BK2.out 6).trans rfl; have y7 : w2.cell? ⟨gc, 7, none⟩ = some (.int .i64 le) := (blk_cell BK2.out 7).trans rfl; clear hb2))
  obtain ⟨A2, c2, rfl⟩ := Kd.R_slice HL.out
  rcases CA.out with ⟨a1, a2⟩ | ⟨a0, a1, a2⟩ | ⟨a0, a1, a2⟩
  · have HQ := Aside0.mk a2
    clear a2
    have d1 : decide (i < 0) = true := decide_eq_true a1
    go_upto_region 12 with (first | (go_at_call 18; with_reducible refine (NO.out _ 0 false HQ.out HX2.out).mono ?_; rintro e w3 ⟨rfl, hb3⟩; have HB3 := Aside0.mk (below_step HB2.out hb3); have BK3 := Aside0.mk ((hb3.block _ (blk_lt BK2.out)).trans BK2.out); have HX3 := Aside0.mk (Kd.C_below HR.out HB3.out); have HL3 := Aside0.mk (Kd.R_below HL.out hb3); clear y0 y1 y2 y3 y4 y5 y6 y7; have z0 : w3.cell? ⟨gc, 0, none⟩ = some (.int .i64 s) := (blk_cell BK3.out 0).trans rfl; have z1 : w3.cell? ⟨gc, 1, none⟩ = some (.int .i64 k) := (blk_cell BK3.out 1).trans rfl; have z2 : w3.cell? ⟨gc, 2, none⟩ = some (.slice A l.length ca) := (blk_cell BK3.out 2).trans rfl; have z3 : w3.cell? ⟨gc, 3, none⟩ = some (.int .i64 sh) := (blk_cell BK3.out 3).trans rfl; have z4 : w3.cell? ⟨gc, 4, none⟩ = some (.int .i64 h) := (blk_cell BK3.out 4).trans rfl; have z5 : w3.cell? ⟨gc, 5, none⟩ = some (.int .i64 c) := (blk_cell BK3.out 5).trans rfl; have z6 : w3.cell? ⟨gc, 6, none⟩ = some (.int .i64 b) := (blk_cell BK3.out 6).trans rfl; have z7 : w3.cell? ⟨gc, 7, none⟩ = some (.int .i64 le) := (blk_cell BK3.out 7).trans rfl; clear hb3))
    clear d1
    go_upto_region 13 with (first | (go_at_call 13; with_reducible refine (RR.out _ HX3.out).mono ?_; rintro e w4 ⟨ur, rfl, hR4, hb4⟩; have HB4 := Aside0.mk (below_step HB3.out hb4); have BK4 := Aside0.mk ((hb4.block _ (blk_lt BK3.out)).trans BK3.out); have HX4 := Aside0.mk (Kd.C_below HR.out HB4.out); have HL4 := Aside0.mk (Kd.R_below HL3.out hb4); have HRl := Aside0.mk hR4; clear hR4; clear z0 z1 z2 z3 z4 z5 z6 z7; have y0 : w4.cell? ⟨gc, 0, none⟩ = some (.int .i64 s) := (blk_cell BK4.out 0).trans rfl; have y1 : w4.cell? ⟨gc, 1, none⟩ = some (.int .i64 k) := (blk_cell BK4.out 1).trans rfl; have y2 : w4.cell? ⟨gc, 2, none⟩ = some (.slice A l.length ca) := (blk_cell BK4.out 2).trans rfl; have y3 : w4.cell? ⟨gc, 3, none⟩ = some (.int .i64 sh) := (blk_cell BK4.out 3).trans rfl; have y4 : w4.cell? ⟨gc, 4, none⟩ = some (.int .i64 h) := (blk_cell BK4.out 4).trans rfl; have y5 : w4.cell? ⟨gc, 5, none⟩ = some (.int .i64 c) := (blk_cell BK4.out 5).trans rfl; have y6 : w4.cell? ⟨gc, 6, none⟩ = some (.int .i64 b) := (blk_cell BK4.out 6).trans rfl; have y7 : w4.cell? ⟨gc, 7, none⟩ = some (.int .i64 le) := (blk_cell BK4.out 7).trans rfl; clear hb4))
    obtain ⟨A4, c4, rfl⟩ := Kd.R_slice HRl.out
    have HLC := Aside0.mk (Kd.R_reads' HL4.out)
    rcases CB.out with ⟨b1, b2⟩ | ⟨b0, b1, b2⟩ | ⟨b0, b1, b2⟩
    · skip
      have HQ2 := Aside0.mk b2
      clear b2
      have d1 : decide (n < 0) = true := decide_eq_true b1
      go_wp2_with (first | (go_at_call 17; with_reducible refine (RE.out _ 0 0 false HQ2.out HX4.out).mono ?_; rintro e w5 ⟨rfl, hb5⟩; have HB5 := Aside0.mk (below_step HB4.out hb5); have BK5 := Aside0.mk ((hb5.block _ (blk_lt BK4.out)).trans BK4.out); have HX5 := Aside0.mk (Kd.C_below HR.out HB5.out); have HL5 := Aside0.mk (Kd.R_below HL4.out hb5); have HR5 := Aside0.mk (Kd.R_below HRl.out hb5); clear y0 y1 y2 y3 y4 y5 y6 y7; have z0 : w5.cell? ⟨gc, 0, none⟩ = some (.int .i64 s) := (blk_cell BK5.out 0).trans rfl; have z1 : w5.cell? ⟨gc, 1, none⟩ = some (.int .i64 k) := (blk_cell BK5.out 1).trans rfl; have z2 : w5.cell? ⟨gc, 2, none⟩ = some (.slice A l.length ca) := (blk_cell BK5.out 2).trans rfl; have z3 : w5.cell? ⟨gc, 3, none⟩ = some (.int .i64 sh) := (blk_cell BK5.out 3).trans rfl; have z4 : w5.cell? ⟨gc, 4, none⟩ = some (.int .i64 h) := (blk_cell BK5.out 4).trans rfl; have z5 : w5.cell? ⟨gc, 5, none⟩ = some (.int .i64 c) := (blk_cell BK5.out 5).trans rfl; have z6 : w5.cell? ⟨gc, 6, none⟩ = some (.int .i64 b) := (blk_cell BK5.out 6).trans rfl; have z7 : w5.cell? ⟨gc, 7, none⟩ = some (.int .i64 le) := (blk_cell BK5.out 7).trans rfl; clear hb5) | (go_at_call 16; with_reducible refine (OO.out _ HX5.out).mono ?_; rintro e w6 ⟨uo, rfl, hR6, hb6⟩; have HB6 := Aside0.mk (below_step HB5.out hb6); have BK6 := Aside0.mk ((hb6.block _ (blk_lt BK5.out)).trans BK5.out); have HX6 := Aside0.mk (Kd.C_below HR.out HB6.out); obtain ⟨A6, c6, rfl⟩ := Kd.R_slice hR6; have HO6 := Aside0.mk (Kd.R_reads' hR6); have HL6 := Aside0.mk (Kd.R_reads' (Kd.R_below HL5.out hb6)); clear hR6; clear z0 z1 z2 z3 z4 z5 z6 z7; have y0 : w6.cell? ⟨gc, 0, none⟩ = some (.int .i64 s) := (blk_cell BK6.out 0).trans rfl; have y1 : w6.cell? ⟨gc, 1, none⟩ = some (.int .i64 k) := (blk_cell BK6.out 1).trans rfl; have y2 : w6.cell? ⟨gc, 2, none⟩ = some (.slice A l.length ca) := (blk_cell BK6.out 2).trans rfl; have y3 : w6.cell? ⟨gc, 3, none⟩ = some (.int .i64 sh) := (blk_cell BK6.out 3).trans rfl; have y4 : w6.cell? ⟨gc, 4, none⟩ = some (.int .i64 h) := (blk_cell BK6.out 4).trans rfl; have y5 : w6.cell? ⟨gc, 5, none⟩ = some (.int .i64 c) := (blk_cell BK6.out 5).trans rfl; have y6 : w6.cell? ⟨gc, 6, none⟩ = some (.int .i64 b) := (blk_cell BK6.out 6).trans rfl; have y7 : w6.cell? ⟨gc, 7, none⟩ = some (.int .i64 le) := (blk_cell BK6.out 7).trans rfl; clear hb6) | (go_at_call 14; with_reducible refine (ints_v true _ c6 L _ c2 L _ (decide_eq_true rfl) HO6.out.2.2 HO6.out.2.1 HL6.out.2.2 HL6.out.2.1 (by omega)).mono ?_; rintro e w7 ⟨rfl, hb7⟩; have HB7 := Aside0.mk (below_step HB6.out hb7); clear hb7))
      go_ret
      exact ⟨rfl, HB7.out⟩
    · skip
      have HQ2 := Aside0.mk b2
      clear b2
      have d1 : decide (n < 0) = false := decide_eq_false (by omega)
      have d2 : decide ((Rl.length : Int) ≤ n) = true := decide_eq_true b1
      go_wp2_with (first | (go_at_call 17; with_reducible refine (RE.out _ 0 0 false HQ2.out HX4.out).mono ?_; rintro e w5 ⟨rfl, hb5⟩; have HB5 := Aside0.mk (below_step HB4.out hb5); have BK5 := Aside0.mk ((hb5.block _ (blk_lt BK4.out)).trans BK4.out); have HX5 := Aside0.mk (Kd.C_below HR.out HB5.out); have HL5 := Aside0.mk (Kd.R_below HL4.out hb5); have HR5 := Aside0.mk (Kd.R_below HRl.out hb5); clear y0 y1 y2 y3 y4 y5 y6 y7; have z0 : w5.cell? ⟨gc, 0, none⟩ = some (.int .i64 s) := (blk_cell BK5.out 0).trans rfl; have z1 : w5.cell? ⟨gc, 1, none⟩ = some (.int .i64 k) := (blk_cell BK5.out 1).trans rfl; have z2 : w5.cell? ⟨gc, 2, none⟩ = some (.slice A l.length ca) := (blk_cell BK5.out 2).trans rfl; have z3 : w5.cell? ⟨gc, 3, none⟩ = some (.int .i64 sh) := (blk_cell BK5.out 3).trans rfl; have z4 : w5.cell? ⟨gc, 4, none⟩ = some (.int .i64 h) := (blk_cell BK5.out 4).trans rfl; have z5 : w5.cell? ⟨gc, 5, none⟩ = some (.int .i64 c) := (blk_cell BK5.out 5).trans rfl; have z6 : w5.cell? ⟨gc, 6, none⟩ = some (.int .i64 b) := (blk_cell BK5.out 6).trans rfl; have z7 : w5.cell? ⟨gc, 7, none⟩ = some (.int .i64 le) := (blk_cell BK5.out 7).trans rfl; clear hb5) | (go_at_call 16; with_reducible refine (OO.out _ HX5.out).mono ?_; rintro e w6 ⟨uo, rfl, hR6, hb6⟩; have HB6 := Aside0.mk (below_step HB5.out hb6); have BK6 := Aside0.mk ((hb6.block _ (blk_lt BK5.out)).trans BK5.out); have HX6 := Aside0.mk (Kd.C_below HR.out HB6.out); obtain ⟨A6, c6, rfl⟩ := Kd.R_slice hR6; have HO6 := Aside0.mk (Kd.R_reads' hR6); have HL6 := Aside0.mk (Kd.R_reads' (Kd.R_below HL5.out hb6)); clear hR6; clear z0 z1 z2 z3 z4 z5 z6 z7; have y0 : w6.cell? ⟨gc, 0, none⟩ = some (.int .i64 s) := (blk_cell BK6.out 0).trans rfl; have y1 : w6.cell? ⟨gc, 1, none⟩ = some (.int .i64 k) := (blk_cell BK6.out 1).trans rfl; have y2 : w6.cell? ⟨gc, 2, none⟩ = some (.slice A l.length ca) := (blk_cell BK6.out 2).trans rfl; have y3 : w6.cell? ⟨gc, 3, none⟩ = some (.int .i64 sh) := (blk_cell BK6.out 3).trans rfl; have y4 : w6.cell? ⟨gc, 4, none⟩ = some (.int .i64 h) := (blk_cell BK6.out 4).trans rfl; have y5 : w6.cell? ⟨gc, 5, none⟩ = some (.int .i64 c) := (blk_cell BK6.out 5).trans rfl; have y6 : w6.cell? ⟨gc, 6, none⟩ = some (.int .i64 b) := (blk_cell BK6.out 6).trans rfl; have y7 : w6.cell? ⟨gc, 7, none⟩ = some (.int .i64 le) := (blk_cell BK6.out 7).trans rfl; clear hb6) | (go_at_call 14; with_reducible refine (ints_v true _ c6 L _ c2 L _ (decide_eq_true rfl) HO6.out.2.2 HO6.out.2.1 HL6.out.2.2 HL6.out.2.1 (by omega)).mono ?_; rintro e w7 ⟨rfl, hb7⟩; have HB7 := Aside0.mk (below_step HB6.out hb7); clear hb7))
      go_ret
      exact ⟨rfl, HB7.out⟩
    · skip
      obtain ⟨j, rfl⟩ := Int.eq_ofNat_of_zero_le b0
      rw [Int.toNat_natCast] at b2
      have HQ2 := Aside0.mk b2
      clear b2
      have d1 : decide ((j : Int) < 0) = false := decide_eq_false (by omega)
      have d2 : decide ((Rl.length : Int) ≤ (j : Int)) = false := decide_eq_false (by omega)
      have hj : j < Rl.length := by omega
      have hcl : (j : Int) ≤ (c4 : Int) := by have := (Kd.R_reads' HRl.out).2.1; omega
      go_wp2_with (first | (go_at_call 17; with_reducible refine (RE.out _ (rd Rl (j : Int)) (cntB Rl (rd Rl (j : Int)) j) true HQ2.out HX4.out).mono ?_; rintro e w5 ⟨rfl, hb5⟩; have HB5 := Aside0.mk (below_step HB4.out hb5); have BK5 := Aside0.mk ((hb5.block _ (blk_lt BK4.out)).trans BK4.out); have HX5 := Aside0.mk (Kd.C_below HR.out HB5.out); have HL5 := Aside0.mk (Kd.R_below HL4.out hb5); have HR5 := Aside0.mk (Kd.R_below HRl.out hb5); clear y0 y1 y2 y3 y4 y5 y6 y7; have z0 : w5.cell? ⟨gc, 0, none⟩ = some (.int .i64 s) := (blk_cell BK5.out 0).trans rfl; have z1 : w5.cell? ⟨gc, 1, none⟩ = some (.int .i64 k) := (blk_cell BK5.out 1).trans rfl; have z2 : w5.cell? ⟨gc, 2, none⟩ = some (.slice A l.length ca) := (blk_cell BK5.out 2).trans rfl; have z3 : w5.cell? ⟨gc, 3, none⟩ = some (.int .i64 sh) := (blk_cell BK5.out 3).trans rfl; have z4 : w5.cell? ⟨gc, 4, none⟩ = some (.int .i64 h) := (blk_cell BK5.out 4).trans rfl; have z5 : w5.cell? ⟨gc, 5, none⟩ = some (.int .i64 c) := (blk_cell BK5.out 5).trans rfl; have z6 : w5.cell? ⟨gc, 6, none⟩ = some (.int .i64 b) := (blk_cell BK5.out 6).trans rfl; have z7 : w5.cell? ⟨gc, 7, none⟩ = some (.int .i64 le) := (blk_cell BK5.out 7).trans rfl; clear hb5))
      obtain ⟨adr, hAdr, _⟩ := Kd.at_int (Kd.R_reads' HR5.out).2.2 j (by omega) (by omega)
      obtain rfl := hAdr
      have HC := Aside0.mk (show ∀ q : Nat, q < Rl.length → w5.cell? (adr.add q) = some (.int .i64 (rd Rl q)) from fun q hq => by obtain ⟨ad', hA', hx⟩ := Kd.at_int (Kd.R_reads' HR5.out).2.2 q (by omega) (by omega); injection hA' with hA'; subst hA'; simpa using hx)
      go_loop [16, 96] (fun v16 v96 => NodesRel Rl j v16 v96) (fun _ v => j - (intOf v).toNat)
      case atStart => exact ⟨0, Nat.zero_le _, rfl, by simp [cntB]⟩
      case round =>
        obtain ⟨q, hq, rfl, rfl⟩ := hrel
        have hcb := cntB_le Rl (rd Rl j) q
        have c0 := HC.out j hj
        by_cases hlt : q < j
        · have c1 := HC.out q (by omega)
          have hsu := Aside0.mk (cntB_succ Rl (rd Rl j) q (by omega))
          by_cases heq : rd Rl q = rd Rl j
          · have e1 : (rd Rl q == rd Rl j) = true := beq_iff_eq.2 heq
            have Heq := Aside0.mk heq
            clear heq
            go_wp2
            go_round
            case rel => exact ⟨q + 1, by omega, by go_num, by rw [hsu.out, if_pos Heq.out]⟩
            case measure => simp [intOf]; omega
          · have e1 : (rd Rl q == rd Rl j) = false := beq_eq_false_iff_ne.2 heq
            have Heq := Aside0.mk heq
            clear heq
            go_wp2
            go_round
            case rel => exact ⟨q + 1, by omega, by go_num, by rw [hsu.out, if_neg Heq.out]⟩
            case measure => simp [intOf]; omega
        · obtain rfl : q = j := by omega
          have er : (rd Rl q == rd Rl q) = true := beq_self_eq_true _
          have ec : (cntB Rl (rd Rl q) q == cntB Rl (rd Rl q) q) = true := beq_self_eq_true _
          clear hcb hlt hq
          go_wp2_with (first | (go_at_call 16; with_reducible refine (OO.out _ HX5.out).mono ?_; rintro e w6 ⟨uo, rfl, hR6, hb6⟩; have HB6 := Aside0.mk (below_step HB5.out hb6); have BK6 := Aside0.mk ((hb6.block _ (blk_lt BK5.out)).trans BK5.out); have HX6 := Aside0.mk (Kd.C_below HR.out HB6.out); obtain ⟨A6, c6, rfl⟩ := Kd.R_slice hR6; have HO6 := Aside0.mk (Kd.R_reads' hR6); have HL6 := Aside0.mk (Kd.R_reads' (Kd.R_below HL5.out hb6)); clear hR6; clear z0 z1 z2 z3 z4 z5 z6 z7; have y0 : w6.cell? ⟨gc, 0, none⟩ = some (.int .i64 s) := (blk_cell BK6.out 0).trans rfl; have y1 : w6.cell? ⟨gc, 1, none⟩ = some (.int .i64 k) := (blk_cell BK6.out 1).trans rfl; have y2 : w6.cell? ⟨gc, 2, none⟩ = some (.slice A l.length ca) := (blk_cell BK6.out 2).trans rfl; have y3 : w6.cell? ⟨gc, 3, none⟩ = some (.int .i64 sh) := (blk_cell BK6.out 3).trans rfl; have y4 : w6.cell? ⟨gc, 4, none⟩ = some (.int .i64 h) := (blk_cell BK6.out 4).trans rfl; have y5 : w6.cell? ⟨gc, 5, none⟩ = some (.int .i64 c) := (blk_cell BK6.out 5).trans rfl; have y6 : w6.cell? ⟨gc, 6, none⟩ = some (.int .i64 b) := (blk_cell BK6.out 6).trans rfl; have y7 : w6.cell? ⟨gc, 7, none⟩ = some (.int .i64 le) := (blk_cell BK6.out 7).trans rfl; clear hb6) | (go_at_call 14; with_reducible refine (ints_v true _ c6 L _ c2 L _ (decide_eq_true rfl) HO6.out.2.2 HO6.out.2.1 HL6.out.2.2 HL6.out.2.1 (by omega)).mono ?_; rintro e w7 ⟨rfl, hb7⟩; have HB7 := Aside0.mk (below_step HB6.out hb7); clear hb7))
          go_ret
          exact ⟨rfl, HB7.out⟩
  · have HQ := Aside0.mk a2
    clear a2
    have d1 : decide (i < 0) = false := decide_eq_false (by omega)
    have d2 : decide ((L.length : Int) ≤ i) = true := decide_eq_true a1
    go_upto_region 12 with (first | (go_at_call 18; with_reducible refine (NO.out _ 0 false HQ.out HX2.out).mono ?_; rintro e w3 ⟨rfl, hb3⟩; have HB3 := Aside0.mk (below_step HB2.out hb3); have BK3 := Aside0.mk ((hb3.block _ (blk_lt BK2.out)).trans BK2.out); have HX3 := Aside0.mk (Kd.C_below HR.out HB3.out); have HL3 := Aside0.mk (Kd.R_below HL.out hb3); clear y0 y1 y2 y3 y4 y5 y6 y7; have z0 : w3.cell? ⟨gc, 0, none⟩ = some (.int .i64 s) := (blk_cell BK3.out 0).trans rfl; have z1 : w3.cell? ⟨gc, 1, none⟩ = some (.int .i64 k) := (blk_cell BK3.out 1).trans rfl; have z2 : w3.cell? ⟨gc, 2, none⟩ = some (.slice A l.length ca) := (blk_cell BK3.out 2).trans rfl; have z3 : w3.cell? ⟨gc, 3, none⟩ = some (.int .i64 sh) := (blk_cell BK3.out 3).trans rfl; have z4 : w3.cell? ⟨gc, 4, none⟩ = some (.int .i64 h) := (blk_cell BK3.out 4).trans rfl; have z5 : w3.cell? ⟨gc, 5, none⟩ = some (.int .i64 c) := (blk_cell BK3.out 5).trans rfl; have z6 : w3.cell? ⟨gc, 6, none⟩ = some (.int .i64 b) := (blk_cell BK3.out 6).trans rfl; have z7 : w3.cell? ⟨gc, 7, none⟩ = some (.int .i64 le) := (blk_cell BK3.out 7).trans rfl; clear hb3))
    clear d1 d2
    go_upto_region 13 with (first | (go_at_call 13; with_reducible refine (RR.out _ HX3.out).mono ?_; rintro e w4 ⟨ur, rfl, hR4, hb4⟩; have HB4 := Aside0.mk (below_step HB3.out hb4); have BK4 := Aside0.mk ((hb4.block _ (blk_lt BK3.out)).trans BK3.out); have HX4 := Aside0.mk (Kd.C_below HR.out HB4.out); have HL4 := Aside0.mk (Kd.R_below HL3.out hb4); have HRl := Aside0.mk hR4; clear hR4; clear z0 z1 z2 z3 z4 z5 z6 z7; have y0 : w4.cell? ⟨gc, 0, none⟩ = some (.int .i64 s) := (blk_cell BK4.out 0).trans rfl; have y1 : w4.cell? ⟨gc, 1, none⟩ = some (.int .i64 k) := (blk_cell BK4.out 1).trans rfl; have y2 : w4.cell? ⟨gc, 2, none⟩ = some (.slice A l.length ca) := (blk_cell BK4.out 2).trans rfl; have y3 : w4.cell? ⟨gc, 3, none⟩ = some (.int .i64 sh) := (blk_cell BK4.out 3).trans rfl; have y4 : w4.cell? ⟨gc, 4, none⟩ = some (.int .i64 h) := (blk_cell BK4.out 4).trans rfl; have y5 : w4.cell? ⟨gc, 5, none⟩ = some (.int .i64 c) := (blk_cell BK4.out 5).trans rfl; have y6 : w4.cell? ⟨gc, 6, none⟩ = some (.int .i64 b) := (blk_cell BK4.out 6).trans rfl; have y7 : w4.cell? ⟨gc, 7, none⟩ = some (.int .i64 le) := (blk_cell BK4.out 7).trans rfl; clear hb4))
    obtain ⟨A4, c4, rfl⟩ := Kd.R_slice HRl.out
    have HLC := Aside0.mk (Kd.R_reads' HL4.out)
    rcases CB.out with ⟨b1, b2⟩ | ⟨b0, b1, b2⟩ | ⟨b0, b1, b2⟩
    · skip
      have HQ2 := Aside0.mk b2
      clear b2
      have d1 : decide (n < 0) = true := decide_eq_true b1
      go_wp2_with (first | (go_at_call 17; with_reducible refine (RE.out _ 0 0 false HQ2.out HX4.out).mono ?_; rintro e w5 ⟨rfl, hb5⟩; have HB5 := Aside0.mk (below_step HB4.out hb5); have BK5 := Aside0.mk ((hb5.block _ (blk_lt BK4.out)).trans BK4.out); have HX5 := Aside0.mk (Kd.C_below HR.out HB5.out); have HL5 := Aside0.mk (Kd.R_below HL4.out hb5); have HR5 := Aside0.mk (Kd.R_below HRl.out hb5); clear y0 y1 y2 y3 y4 y5 y6 y7; have z0 : w5.cell? ⟨gc, 0, none⟩ = some (.int .i64 s) := (blk_cell BK5.out 0).trans rfl; have z1 : w5.cell? ⟨gc, 1, none⟩ = some (.int .i64 k) := (blk_cell BK5.out 1).trans rfl; have z2 : w5.cell? ⟨gc, 2, none⟩ = some (.slice A l.length ca) := (blk_cell BK5.out 2).trans rfl; have z3 : w5.cell? ⟨gc, 3, none⟩ = some (.int .i64 sh) := (blk_cell BK5.out 3).trans rfl; have z4 : w5.cell? ⟨gc, 4, none⟩ = some (.int .i64 h) := (blk_cell BK5.out 4).trans rfl; have z5 : w5.cell? ⟨gc, 5, none⟩ = some (.int .i64 c) := (blk_cell BK5.out 5).trans rfl; have z6 : w5.cell? ⟨gc, 6, none⟩ = some (.int .i64 b) := (blk_cell BK5.out 6).trans rfl; have z7 : w5.cell? ⟨gc, 7, none⟩ = some (.int .i64 le) := (blk_cell BK5.out 7).trans rfl; clear hb5) | (go_at_call 16; with_reducible refine (OO.out _ HX5.out).mono ?_; rintro e w6 ⟨uo, rfl, hR6, hb6⟩; have HB6 := Aside0.mk (below_step HB5.out hb6); have BK6 := Aside0.mk ((hb6.block _ (blk_lt BK5.out)).trans BK5.out); have HX6 := Aside0.mk (Kd.C_below HR.out HB6.out); obtain ⟨A6, c6, rfl⟩ := Kd.R_slice hR6; have HO6 := Aside0.mk (Kd.R_reads' hR6); have HL6 := Aside0.mk (Kd.R_reads' (Kd.R_below HL5.out hb6)); clear hR6; clear z0 z1 z2 z3 z4 z5 z6 z7; have y0 : w6.cell? ⟨gc, 0, none⟩ = some (.int .i64 s) := (blk_cell BK6.out 0).trans rfl; have y1 : w6.cell? ⟨gc, 1, none⟩ = some (.int .i64 k) := (blk_cell BK6.out 1).trans rfl; have y2 : w6.cell? ⟨gc, 2, none⟩ = some (.slice A l.length ca) := (blk_cell BK6.out 2).trans rfl; have y3 : w6.cell? ⟨gc, 3, none⟩ = some (.int .i64 sh) := (blk_cell BK6.out 3).trans rfl; have y4 : w6.cell? ⟨gc, 4, none⟩ = some (.int .i64 h) := (blk_cell BK6.out 4).trans rfl; have y5 : w6.cell? ⟨gc, 5, none⟩ = some (.int .i64 c) := (blk_cell BK6.out 5).trans rfl; have y6 : w6.cell? ⟨gc, 6, none⟩ = some (.int .i64 b) := (blk_cell BK6.out 6).trans rfl; have y7 : w6.cell? ⟨gc, 7, none⟩ = some (.int .i64 le) := (blk_cell BK6.out 7).trans rfl; clear hb6) | (go_at_call 14; with_reducible refine (ints_v true _ c6 L _ c2 L _ (decide_eq_true rfl) HO6.out.2.2 HO6.out.2.1 HL6.out.2.2 HL6.out.2.1 (by omega)).mono ?_; rintro e w7 ⟨rfl, hb7⟩; have HB7 := Aside0.mk (below_step HB6.out hb7); clear hb7))
      go_ret
      exact ⟨rfl, HB7.out⟩
    · skip
      have HQ2 := Aside0.mk b2
      clear b2
      have d1 : decide (n < 0) = false := decide_eq_false (by omega)
      have d2 : decide ((Rl.length : Int) ≤ n) = true := decide_eq_true b1
      go_wp2_with (first | (go_at_call 17; with_reducible refine (RE.out _ 0 0 false HQ2.out HX4.out).mono ?_; rintro e w5 ⟨rfl, hb5⟩; have HB5 := Aside0.mk (below_step HB4.out hb5); have BK5 := Aside0.mk ((hb5.block _ (blk_lt BK4.out)).trans BK4.out); have HX5 := Aside0.mk (Kd.C_below HR.out HB5.out); have HL5 := Aside0.mk (Kd.R_below HL4.out hb5); have HR5 := Aside0.mk (Kd.R_below HRl.out hb5); clear y0 y1 y2 y3 y4 y5 y6 y7; have z0 : w5.cell? ⟨gc, 0, none⟩ = some (.int .i64 s) := (blk_cell BK5.out 0).trans rfl; have z1 : w5.cell? ⟨gc, 1, none⟩ = some (.int .i64 k) := (blk_cell BK5.out 1).trans rfl; have z2 : w5.cell? ⟨gc, 2, none⟩ = some (.slice A l.length ca) := (blk_cell BK5.out 2).trans rfl; have z3 : w5.cell? ⟨gc, 3, none⟩ = some (.int .i64 sh) := (blk_cell BK5.out 3).trans rfl; have z4 : w5.cell? ⟨gc, 4, none⟩ = some (.int .i64 h) := (blk_cell BK5.out 4).trans rfl; have z5 : w5.cell? ⟨gc, 5, none⟩ = some (.int .i64 c) := (blk_cell BK5.out 5).trans rfl; have z6 : w5.cell? ⟨gc, 6, none⟩ = some (.int .i64 b) := (blk_cell BK5.out 6).trans rfl; have z7 : w5.cell? ⟨gc, 7, none⟩ = some (.int .i64 le) := (blk_cell BK5.out 7).trans rfl; clear hb5) | (go_at_call 16; with_reducible refine (OO.out _ HX5.out).mono ?_; rintro e w6 ⟨uo, rfl, hR6, hb6⟩; have HB6 := Aside0.mk (below_step HB5.out hb6); have BK6 := Aside0.mk ((hb6.block _ (blk_lt BK5.out)).trans BK5.out); have HX6 := Aside0.mk (Kd.C_below HR.out HB6.out); obtain ⟨A6, c6, rfl⟩ := Kd.R_slice hR6; have HO6 := Aside0.mk (Kd.R_reads' hR6); have HL6 := Aside0.mk (Kd.R_reads' (Kd.R_below HL5.out hb6)); clear hR6; clear z0 z1 z2 z3 z4 z5 z6 z7; have y0 : w6.cell? ⟨gc, 0, none⟩ = some (.int .i64 s) := (blk_cell BK6.out 0).trans rfl; have y1 : w6.cell? ⟨gc, 1, none⟩ = some (.int .i64 k) := (blk_cell BK6.out 1).trans rfl; have y2 : w6.cell? ⟨gc, 2, none⟩ = some (.slice A l.length ca) := (blk_cell BK6.out 2).trans rfl; have y3 : w6.cell? ⟨gc, 3, none⟩ = some (.int .i64 sh) := (blk_cell BK6.out 3).trans rfl; have y4 : w6.cell? ⟨gc, 4, none⟩ = some (.int .i64 h) := (blk_cell BK6.out 4).trans rfl; have y5 : w6.cell? ⟨gc, 5, none⟩ = some (.int .i64 c) := (blk_cell BK6.out 5).trans rfl; have y6 : w6.cell? ⟨gc, 6, none⟩ = some (.int .i64 b) := (blk_cell BK6.out 6).trans rfl; have y7 : w6.cell? ⟨gc, 7, none⟩ = some (.int .i64 le) := (blk_cell BK6.out 7).trans rfl; clear hb6) | (go_at_call 14; with_reducible refine (ints_v true _ c6 L _ c2 L _ (decide_eq_true rfl) HO6.out.2.2 HO6.out.2.1 HL6.out.2.2 HL6.out.2.1 (by omega)).mono ?_; rintro e w7 ⟨rfl, hb7⟩; have HB7 := Aside0.mk (below_step HB6.out hb7); clear hb7))
      go_ret
      exact ⟨rfl, HB7.out⟩
    · skip
      obtain ⟨j, rfl⟩ := Int.eq_ofNat_of_zero_le b0
      rw [Int.toNat_natCast] at b2
      have HQ2 := Aside0.mk b2
      clear b2
      have d1 : decide ((j : Int) < 0) = false := decide_eq_false (by omega)
      have d2 : decide ((Rl.length : Int) ≤ (j : Int)) = false := decide_eq_false (by omega)
      have hj : j < Rl.length := by omega
      have hcl : (j : Int) ≤ (c4 : Int) := by have := (Kd.R_reads' HRl.out).2.1; omega
      go_wp2_with (first | (go_at_call 17; with_reducible refine (RE.out _ (rd Rl (j : Int)) (cntB Rl (rd Rl (j : Int)) j) true HQ2.out HX4.out).mono ?_; rintro e w5 ⟨rfl, hb5⟩; have HB5 := Aside0.mk (below_step HB4.out hb5); have BK5 := Aside0.mk ((hb5.block _ (blk_lt BK4.out)).trans BK4.out); have HX5 := Aside0.mk (Kd.C_below HR.out HB5.out); have HL5 := Aside0.mk (Kd.R_below HL4.out hb5); have HR5 := Aside0.mk (Kd.R_below HRl.out hb5); clear y0 y1 y2 y3 y4 y5 y6 y7; have z0 : w5.cell? ⟨gc, 0, none⟩ = some (.int .i64 s) := (blk_cell BK5.out 0).trans rfl; have z1 : w5.cell? ⟨gc, 1, none⟩ = some (.int .i64 k) := (blk_cell BK5.out 1).trans rfl; have z2 : w5.cell? ⟨gc, 2, none⟩ = some (.slice A l.length ca) := (blk_cell BK5.out 2).trans rfl; have z3 : w5.cell? ⟨gc, 3, none⟩ = some (.int .i64 sh) := (blk_cell BK5.out 3).trans rfl; have z4 : w5.cell? ⟨gc, 4, none⟩ = some (.int .i64 h) := (blk_cell BK5.out 4).trans rfl; have z5 : w5.cell? ⟨gc, 5, none⟩ = some (.int .i64 c) := (blk_cell BK5.out 5).trans rfl; have z6 : w5.cell? ⟨gc, 6, none⟩ = some (.int .i64 b) := (blk_cell BK5.out 6).trans rfl; have z7 : w5.cell? ⟨gc, 7, none⟩ = some (.int .i64 le) := (blk_cell BK5.out 7).trans rfl; clear hb5))
      obtain ⟨adr, hAdr, _⟩ := Kd.at_int (Kd.R_reads' HR5.out).2.2 j (by omega) (by omega)
      obtain rfl := hAdr
      have HC := Aside0.mk (show ∀ q : Nat, q < Rl.length → w5.cell? (adr.add q) = some (.int .i64 (rd Rl q)) from fun q hq => by obtain ⟨ad', hA', hx⟩ := Kd.at_int (Kd.R_reads' HR5.out).2.2 q (by omega) (by omega); injection hA' with hA'; subst hA'; simpa using hx)
      go_loop [16, 96] (fun v16 v96 => NodesRel Rl j v16 v96) (fun _ v => j - (intOf v).toNat)
      case atStart => exact ⟨0, Nat.zero_le _, rfl, by simp [cntB]⟩
      case round =>
        obtain ⟨q, hq, rfl, rfl⟩ := hrel
        have hcb := cntB_le Rl (rd Rl j) q
        have c0 := HC.out j hj
        by_cases hlt : q < j
        · have c1 := HC.out q (by omega)
          have hsu := Aside0.mk (cntB_succ Rl (rd Rl j) q (by omega))
          by_cases heq : rd Rl q = rd Rl j
          · have e1 : (rd Rl q == rd Rl j) = true := beq_iff_eq.2 heq
            have Heq := Aside0.mk heq
            clear heq
            go_wp2
            go_round
            case rel => exact ⟨q + 1, by omega, by go_num, by rw [hsu.out, if_pos Heq.out]⟩
            case measure => simp [intOf]; omega
          · have e1 : (rd Rl q == rd Rl j) = false := beq_eq_false_iff_ne.2 heq
            have Heq := Aside0.mk heq
            clear heq
            go_wp2
            go_round
            case rel => exact ⟨q + 1, by omega, by go_num, by rw [hsu.out, if_neg Heq.out]⟩
            case measure => simp [intOf]; omega
        · obtain rfl : q = j := by omega
          have er : (rd Rl q == rd Rl q) = true := beq_self_eq_true _
          have ec : (cntB Rl (rd Rl q) q == cntB Rl (rd Rl q) q) = true := beq_self_eq_true _
          clear hcb hlt hq
          go_wp2_with (first | (go_at_call 16; with_reducible refine (OO.out _ HX5.out).mono ?_; rintro e w6 ⟨uo, rfl, hR6, hb6⟩; have HB6 := Aside0.mk (below_step HB5.out hb6); have BK6 := Aside0.mk ((hb6.block _ (blk_lt BK5.out)).trans BK5.out); have HX6 := Aside0.mk (Kd.C_below HR.out HB6.out); obtain ⟨A6, c6, rfl⟩ := Kd.R_slice hR6; have HO6 := Aside0.mk (Kd.R_reads' hR6); have HL6 := Aside0.mk (Kd.R_reads' (Kd.R_below HL5.out hb6)); clear hR6; clear z0 z1 z2 z3 z4 z5 z6 z7; have y0 : w6.cell? ⟨gc, 0, none⟩ = some (.int .i64 s) := (blk_cell BK6.out 0).trans rfl; have y1 : w6.cell? ⟨gc, 1, none⟩ = some (.int .i64 k) := (blk_cell BK6.out 1).trans rfl; have y2 : w6.cell? ⟨gc, 2, none⟩ = some (.slice A l.length ca) := (blk_cell BK6.out 2).trans rfl; have y3 : w6.cell? ⟨gc, 3, none⟩ = some (.int .i64 sh) := (blk_cell BK6.out 3).trans rfl; have y4 : w6.cell? ⟨gc, 4, none⟩ = some (.int .i64 h) := (blk_cell BK6.out 4).trans rfl; have y5 : w6.cell? ⟨gc, 5, none⟩ = some (.int .i64 c) := (blk_cell BK6.out 5).trans rfl; have y6 : w6.cell? ⟨gc, 6, none⟩ = some (.int .i64 b) := (blk_cell BK6.out 6).trans rfl; have y7 : w6.cell? ⟨gc, 7, none⟩ = some (.int .i64 le) := (blk_cell BK6.out 7).trans rfl; clear hb6) | (go_at_call 14; with_reducible refine (ints_v true _ c6 L _ c2 L _ (decide_eq_true rfl) HO6.out.2.2 HO6.out.2.1 HL6.out.2.2 HL6.out.2.1 (by omega)).mono ?_; rintro e w7 ⟨rfl, hb7⟩; have HB7 := Aside0.mk (below_step HB6.out hb7); clear hb7))
          go_ret
          exact ⟨rfl, HB7.out⟩
  · have HQ := Aside0.mk a2
    clear a2
    have d1 : decide (i < 0) = false := decide_eq_false (by omega)
    have d2 : decide ((L.length : Int) ≤ i) = false := decide_eq_false (by omega)
    obtain ⟨ad, hAd, _⟩ := Kd.at_int (Kd.R_reads' HL.out).2.2 i a0 a1
    obtain rfl := hAd
    have HI := Aside0.mk (And.intro a0 a1)
    go_upto_region 12 with (first | (go_at_call 18; with_reducible refine (NO.out _ (rd L i) true HQ.out HX2.out).mono ?_; rintro e w3 ⟨rfl, hb3⟩; have HB3 := Aside0.mk (below_step HB2.out hb3); have BK3 := Aside0.mk ((hb3.block _ (blk_lt BK2.out)).trans BK2.out); have HX3 := Aside0.mk (Kd.C_below HR.out HB3.out); have HL3 := Aside0.mk (Kd.R_below HL.out hb3); obtain ⟨ad', hA', hCell⟩ := Kd.at_int (Kd.R_reads' HL3.out).2.2 i HI.out.1 HI.out.2; injection hA' with hA'; subst hA'; have hne0 : ((rd L i) != (rd L i)) = false := (by simp); clear y0 y1 y2 y3 y4 y5 y6 y7; have z0 : w3.cell? ⟨gc, 0, none⟩ = some (.int .i64 s) := (blk_cell BK3.out 0).trans rfl; have z1 : w3.cell? ⟨gc, 1, none⟩ = some (.int .i64 k) := (blk_cell BK3.out 1).trans rfl; have z2 : w3.cell? ⟨gc, 2, none⟩ = some (.slice A l.length ca) := (blk_cell BK3.out 2).trans rfl; have z3 : w3.cell? ⟨gc, 3, none⟩ = some (.int .i64 sh) := (blk_cell BK3.out 3).trans rfl; have z4 : w3.cell? ⟨gc, 4, none⟩ = some (.int .i64 h) := (blk_cell BK3.out 4).trans rfl; have z5 : w3.cell? ⟨gc, 5, none⟩ = some (.int .i64 c) := (blk_cell BK3.out 5).trans rfl; have z6 : w3.cell? ⟨gc, 6, none⟩ = some (.int .i64 b) := (blk_cell BK3.out 6).trans rfl; have z7 : w3.cell? ⟨gc, 7, none⟩ = some (.int .i64 le) := (blk_cell BK3.out 7).trans rfl; clear hb3))
    try clear hne0
    try clear hCell
    clear d1 d2
    go_upto_region 13 with (first | (go_at_call 13; with_reducible refine (RR.out _ HX3.out).mono ?_; rintro e w4 ⟨ur, rfl, hR4, hb4⟩; have HB4 := Aside0.mk (below_step HB3.out hb4); have BK4 := Aside0.mk ((hb4.block _ (blk_lt BK3.out)).trans BK3.out); have HX4 := Aside0.mk (Kd.C_below HR.out HB4.out); have HL4 := Aside0.mk (Kd.R_below HL3.out hb4); have HRl := Aside0.mk hR4; clear hR4; clear z0 z1 z2 z3 z4 z5 z6 z7; have y0 : w4.cell? ⟨gc, 0, none⟩ = some (.int .i64 s) := (blk_cell BK4.out 0).trans rfl; have y1 : w4.cell? ⟨gc, 1, none⟩ = some (.int .i64 k) := (blk_cell BK4.out 1).trans rfl; have y2 : w4.cell? ⟨gc, 2, none⟩ = some (.slice A l.length ca) := (blk_cell BK4.out 2).trans rfl; have y3 : w4.cell? ⟨gc, 3, none⟩ = some (.int .i64 sh) := (blk_cell BK4.out 3).trans rfl; have y4 : w4.cell? ⟨gc, 4, none⟩ = some (.int .i64 h) := (blk_cell BK4.out 4).trans rfl; have y5 : w4.cell? ⟨gc, 5, none⟩ = some (.int .i64 c) := (blk_cell BK4.out 5).trans rfl; have y6 : w4.cell? ⟨gc, 6, none⟩ = some (.int .i64 b) := (blk_cell BK4.out 6).trans rfl; have y7 : w4.cell? ⟨gc, 7, none⟩ = some (.int .i64 le) := (blk_cell BK4.out 7).trans rfl; clear hb4))
    obtain ⟨A4, c4, rfl⟩ := Kd.R_slice HRl.out
    have HLC := Aside0.mk (Kd.R_reads' HL4.out)
    rcases CB.out with ⟨b1, b2⟩ | ⟨b0, b1, b2⟩ | ⟨b0, b1, b2⟩
    · skip
      have HQ2 := Aside0.mk b2
      clear b2
      have d1 : decide (n < 0) = true := decide_eq_true b1
      go_wp2_with (first | (go_at_call 17; with_reducible refine (RE.out _ 0 0 false HQ2.out HX4.out).mono ?_; rintro e w5 ⟨rfl, hb5⟩; have HB5 := Aside0.mk (below_step HB4.out hb5); have BK5 := Aside0.mk ((hb5.block _ (blk_lt BK4.out)).trans BK4.out); have HX5 := Aside0.mk (Kd.C_below HR.out HB5.out); have HL5 := Aside0.mk (Kd.R_below HL4.out hb5); have HR5 := Aside0.mk (Kd.R_below HRl.out hb5); clear y0 y1 y2 y3 y4 y5 y6 y7; have z0 : w5.cell? ⟨gc, 0, none⟩ = some (.int .i64 s) := (blk_cell BK5.out 0).trans rfl; have z1 : w5.cell? ⟨gc, 1, none⟩ = some (.int .i64 k) := (blk_cell BK5.out 1).trans rfl; have z2 : w5.cell? ⟨gc, 2, none⟩ = some (.slice A l.length ca) := (blk_cell BK5.out 2).trans rfl; have z3 : w5.cell? ⟨gc, 3, none⟩ = some (.int .i64 sh) := (blk_cell BK5.out 3).trans rfl; have z4 : w5.cell? ⟨gc, 4, none⟩ = some (.int .i64 h) := (blk_cell BK5.out 4).trans rfl; have z5 : w5.cell? ⟨gc, 5, none⟩ = some (.int .i64 c) := (blk_cell BK5.out 5).trans rfl; have z6 : w5.cell? ⟨gc, 6, none⟩ = some (.int .i64 b) := (blk_cell BK5.out 6).trans rfl; have z7 : w5.cell? ⟨gc, 7, none⟩ = some (.int .i64 le) := (blk_cell BK5.out 7).trans rfl; clear hb5) | (go_at_call 16; with_reducible refine (OO.out _ HX5.out).mono ?_; rintro e w6 ⟨uo, rfl, hR6, hb6⟩; have HB6 := Aside0.mk (below_step HB5.out hb6); have BK6 := Aside0.mk ((hb6.block _ (blk_lt BK5.out)).trans BK5.out); have HX6 := Aside0.mk (Kd.C_below HR.out HB6.out); obtain ⟨A6, c6, rfl⟩ := Kd.R_slice hR6; have HO6 := Aside0.mk (Kd.R_reads' hR6); have HL6 := Aside0.mk (Kd.R_reads' (Kd.R_below HL5.out hb6)); clear hR6; clear z0 z1 z2 z3 z4 z5 z6 z7; have y0 : w6.cell? ⟨gc, 0, none⟩ = some (.int .i64 s) := (blk_cell BK6.out 0).trans rfl; have y1 : w6.cell? ⟨gc, 1, none⟩ = some (.int .i64 k) := (blk_cell BK6.out 1).trans rfl; have y2 : w6.cell? ⟨gc, 2, none⟩ = some (.slice A l.length ca) := (blk_cell BK6.out 2).trans rfl; have y3 : w6.cell? ⟨gc, 3, none⟩ = some (.int .i64 sh) := (blk_cell BK6.out 3).trans rfl; have y4 : w6.cell? ⟨gc, 4, none⟩ = some (.int .i64 h) := (blk_cell BK6.out 4).trans rfl; have y5 : w6.cell? ⟨gc, 5, none⟩ = some (.int .i64 c) := (blk_cell BK6.out 5).trans rfl; have y6 : w6.cell? ⟨gc, 6, none⟩ = some (.int .i64 b) := (blk_cell BK6.out 6).trans rfl; have y7 : w6.cell? ⟨gc, 7, none⟩ = some (.int .i64 le) := (blk_cell BK6.out 7).trans rfl; clear hb6) | (go_at_call 14; with_reducible refine (ints_v true _ c6 L _ c2 L _ (decide_eq_true rfl) HO6.out.2.2 HO6.out.2.1 HL6.out.2.2 HL6.out.2.1 (by omega)).mono ?_; rintro e w7 ⟨rfl, hb7⟩; have HB7 := Aside0.mk (below_step HB6.out hb7); clear hb7))
      go_ret
      exact ⟨rfl, HB7.out⟩
    · skip
      have HQ2 := Aside0.mk b2
      clear b2
      have d1 : decide (n < 0) = false := decide_eq_false (by omega)
      have d2 : decide ((Rl.length : Int) ≤ n) = true := decide_eq_true b1
      go_wp2_with (first | (go_at_call 17; with_reducible refine (RE.out _ 0 0 false HQ2.out HX4.out).mono ?_; rintro e w5 ⟨rfl, hb5⟩; have HB5 := Aside0.mk (below_step HB4.out hb5); have BK5 := Aside0.mk ((hb5.block _ (blk_lt BK4.out)).trans BK4.out); have HX5 := Aside0.mk (Kd.C_below HR.out HB5.out); have HL5 := Aside0.mk (Kd.R_below HL4.out hb5); have HR5 := Aside0.mk (Kd.R_below HRl.out hb5); clear y0 y1 y2 y3 y4 y5 y6 y7; have z0 : w5.cell? ⟨gc, 0, none⟩ = some (.int .i64 s) := (blk_cell BK5.out 0).trans rfl; have z1 : w5.cell? ⟨gc, 1, none⟩ = some (.int .i64 k) := (blk_cell BK5.out 1).trans rfl; have z2 : w5.cell? ⟨gc, 2, none⟩ = some (.slice A l.length ca) := (blk_cell BK5.out 2).trans rfl; have z3 : w5.cell? ⟨gc, 3, none⟩ = some (.int .i64 sh) := (blk_cell BK5.out 3).trans rfl; have z4 : w5.cell? ⟨gc, 4, none⟩ = some (.int .i64 h) := (blk_cell BK5.out 4).trans rfl; have z5 : w5.cell? ⟨gc, 5, none⟩ = some (.int .i64 c) := (blk_cell BK5.out 5).trans rfl; have z6 : w5.cell? ⟨gc, 6, none⟩ = some (.int .i64 b) := (blk_cell BK5.out 6).trans rfl; have z7 : w5.cell? ⟨gc, 7, none⟩ = some (.int .i64 le) := (blk_cell BK5.out 7).trans rfl; clear hb5) | (go_at_call 16; with_reducible refine (OO.out _ HX5.out).mono ?_; rintro e w6 ⟨uo, rfl, hR6, hb6⟩; have HB6 := Aside0.mk (below_step HB5.out hb6); have BK6 := Aside0.mk ((hb6.block _ (blk_lt BK5.out)).trans BK5.out); have HX6 := Aside0.mk (Kd.C_below HR.out HB6.out); obtain ⟨A6, c6, rfl⟩ := Kd.R_slice hR6; have HO6 := Aside0.mk (Kd.R_reads' hR6); have HL6 := Aside0.mk (Kd.R_reads' (Kd.R_below HL5.out hb6)); clear hR6; clear z0 z1 z2 z3 z4 z5 z6 z7; have y0 : w6.cell? ⟨gc, 0, none⟩ = some (.int .i64 s) := (blk_cell BK6.out 0).trans rfl; have y1 : w6.cell? ⟨gc, 1, none⟩ = some (.int .i64 k) := (blk_cell BK6.out 1).trans rfl; have y2 : w6.cell? ⟨gc, 2, none⟩ = some (.slice A l.length ca) := (blk_cell BK6.out 2).trans rfl; have y3 : w6.cell? ⟨gc, 3, none⟩ = some (.int .i64 sh) := (blk_cell BK6.out 3).trans rfl; have y4 : w6.cell? ⟨gc, 4, none⟩ = some (.int .i64 h) := (blk_cell BK6.out 4).trans rfl; have y5 : w6.cell? ⟨gc, 5, none⟩ = some (.int .i64 c) := (blk_cell BK6.out 5).trans rfl; have y6 : w6.cell? ⟨gc, 6, none⟩ = some (.int .i64 b) := (blk_cell BK6.out 6).trans rfl; have y7 : w6.cell? ⟨gc, 7, none⟩ = some (.int .i64 le) := (blk_cell BK6.out 7).trans rfl; clear hb6) | (go_at_call 14; with_reducible refine (ints_v true _ c6 L _ c2 L _ (decide_eq_true rfl) HO6.out.2.2 HO6.out.2.1 HL6.out.2.2 HL6.out.2.1 (by omega)).mono ?_; rintro e w7 ⟨rfl, hb7⟩; have HB7 := Aside0.mk (below_step HB6.out hb7); clear hb7))
      go_ret
      exact ⟨rfl, HB7.out⟩
    · skip
      obtain ⟨j, rfl⟩ := Int.eq_ofNat_of_zero_le b0
      rw [Int.toNat_natCast] at b2
      have HQ2 := Aside0.mk b2
      clear b2
      have d1 : decide ((j : Int) < 0) = false := decide_eq_false (by omega)
      have d2 : decide ((Rl.length : Int) ≤ (j : Int)) = false := decide_eq_false (by omega)
      have hj : j < Rl.length := by omega
      have hcl : (j : Int) ≤ (c4 : Int) := by have := (Kd.R_reads' HRl.out).2.1; omega
      go_wp2_with (first | (go_at_call 17; with_reducible refine (RE.out _ (rd Rl (j : Int)) (cntB Rl (rd Rl (j : Int)) j) true HQ2.out HX4.out).mono ?_; rintro e w5 ⟨rfl, hb5⟩; have HB5 := Aside0.mk (below_step HB4.out hb5); have BK5 := Aside0.mk ((hb5.block _ (blk_lt BK4.out)).trans BK4.out); have HX5 := Aside0.mk (Kd.C_below HR.out HB5.out); have HL5 := Aside0.mk (Kd.R_below HL4.out hb5); have HR5 := Aside0.mk (Kd.R_below HRl.out hb5); clear y0 y1 y2 y3 y4 y5 y6 y7; have z0 : w5.cell? ⟨gc, 0, none⟩ = some (.int .i64 s) := (blk_cell BK5.out 0).trans rfl; have z1 : w5.cell? ⟨gc, 1, none⟩ = some (.int .i64 k) := (blk_cell BK5.out 1).trans rfl; have z2 : w5.cell? ⟨gc, 2, none⟩ = some (.slice A l.length ca) := (blk_cell BK5.out 2).trans rfl; have z3 : w5.cell? ⟨gc, 3, none⟩ = some (.int .i64 sh) := (blk_cell BK5.out 3).trans rfl; have z4 : w5.cell? ⟨gc, 4, none⟩ = some (.int .i64 h) := (blk_cell BK5.out 4).trans rfl; have z5 : w5.cell? ⟨gc, 5, none⟩ = some (.int .i64 c) := (blk_cell BK5.out 5).trans rfl; have z6 : w5.cell? ⟨gc, 6, none⟩ = some (.int .i64 b) := (blk_cell BK5.out 6).trans rfl; have z7 : w5.cell? ⟨gc, 7, none⟩ = some (.int .i64 le) := (blk_cell BK5.out 7).trans rfl; clear hb5))
      obtain ⟨adr, hAdr, _⟩ := Kd.at_int (Kd.R_reads' HR5.out).2.2 j (by omega) (by omega)
      obtain rfl := hAdr
      have HC := Aside0.mk (show ∀ q : Nat, q < Rl.length → w5.cell? (adr.add q) = some (.int .i64 (rd Rl q)) from fun q hq => by obtain ⟨ad', hA', hx⟩ := Kd.at_int (Kd.R_reads' HR5.out).2.2 q (by omega) (by omega); injection hA' with hA'; subst hA'; simpa using hx)
      go_loop [16, 96] (fun v16 v96 => NodesRel Rl j v16 v96) (fun _ v => j - (intOf v).toNat)
      case atStart => exact ⟨0, Nat.zero_le _, rfl, by simp [cntB]⟩
      case round =>
        obtain ⟨q, hq, rfl, rfl⟩ := hrel
        have hcb := cntB_le Rl (rd Rl j) q
        have c0 := HC.out j hj
        by_cases hlt : q < j
        · have c1 := HC.out q (by omega)
          have hsu := Aside0.mk (cntB_succ Rl (rd Rl j) q (by omega))
          by_cases heq : rd Rl q = rd Rl j
          · have e1 : (rd Rl q == rd Rl j) = true := beq_iff_eq.2 heq
            have Heq := Aside0.mk heq
            clear heq
            go_wp2
            go_round
            case rel => exact ⟨q + 1, by omega, by go_num, by rw [hsu.out, if_pos Heq.out]⟩
            case measure => simp [intOf]; omega
          · have e1 : (rd Rl q == rd Rl j) = false := beq_eq_false_iff_ne.2 heq
            have Heq := Aside0.mk heq
            clear heq
            go_wp2
            go_round
            case rel => exact ⟨q + 1, by omega, by go_num, by rw [hsu.out, if_neg Heq.out]⟩
            case measure => simp [intOf]; omega
        · obtain rfl : q = j := by omega
          have er : (rd Rl q == rd Rl q) = true := beq_self_eq_true _
          have ec : (cntB Rl (rd Rl q) q == cntB Rl (rd Rl q) q) = true := beq_self_eq_true _
          clear hcb hlt hq
          go_wp2_with (first | (go_at_call 16; with_reducible refine (OO.out _ HX5.out).mono ?_; rintro e w6 ⟨uo, rfl, hR6, hb6⟩; have HB6 := Aside0.mk (below_step HB5.out hb6); have BK6 := Aside0.mk ((hb6.block _ (blk_lt BK5.out)).trans BK5.out); have HX6 := Aside0.mk (Kd.C_below HR.out HB6.out); obtain ⟨A6, c6, rfl⟩ := Kd.R_slice hR6; have HO6 := Aside0.mk (Kd.R_reads' hR6); have HL6 := Aside0.mk (Kd.R_reads' (Kd.R_below HL5.out hb6)); clear hR6; clear z0 z1 z2 z3 z4 z5 z6 z7; have y0 : w6.cell? ⟨gc, 0, none⟩ = some (.int .i64 s) := (blk_cell BK6.out 0).trans rfl; have y1 : w6.cell? ⟨gc, 1, none⟩ = some (.int .i64 k) := (blk_cell BK6.out 1).trans rfl; have y2 : w6.cell? ⟨gc, 2, none⟩ = some (.slice A l.length ca) := (blk_cell BK6.out 2).trans rfl; have y3 : w6.cell? ⟨gc, 3, none⟩ = some (.int .i64 sh) := (blk_cell BK6.out 3).trans rfl; have y4 : w6.cell? ⟨gc, 4, none⟩ = some (.int .i64 h) := (blk_cell BK6.out 4).trans rfl; have y5 : w6.cell? ⟨gc, 5, none⟩ = some (.int .i64 c) := (blk_cell BK6.out 5).trans rfl; have y6 : w6.cell? ⟨gc, 6, none⟩ = some (.int .i64 b) := (blk_cell BK6.out 6).trans rfl; have y7 : w6.cell? ⟨gc, 7, none⟩ = some (.int .i64 le) := (blk_cell BK6.out 7).trans rfl; clear hb6) | (go_at_call 14; with_reducible refine (ints_v true _ c6 L _ c2 L _ (decide_eq_true rfl) HO6.out.2.2 HO6.out.2.1 HL6.out.2.2 HL6.out.2.1 (by omega)).mono ?_; rintro e w7 ⟨rfl, hb7⟩; have HB7 := Aside0.mk (below_step HB6.out hb7); clear hb7))
          go_ret
          exact ⟨rfl, HB7.out⟩
end Go.Proofs.Ytdaapjkfkfaflaa.MAll

/- TenureTakes: the walk. -/
import Derived.Test.YtimfbdiiaakhiaaTc
set_option linter.unusedVariables false
set_option linter.unusedSimpArgs false
namespace Go.Proofs.Ytimfbdiiaakhiaa.MAll
open Go.RowKit Go.Proofs.YtimfbdiiaakhiaaW.PrintWords Go.Proofs.YtimfbdiiaakhiaaW.PrintLast Go.Proofs.YtimfbdiiaakhiaaW.PrintMore

theorem eqA24 (d : Nat) (w : World) (x0 y0 x1 y1 x2 y2 x3 y3 : Int) :
    (Op.equalIn (d + 2) 24 (.agg #[.int .i64 x0, .int .i64 x1, .int .i64 x2, .int .i64 x3]) (.agg #[.int .i64 y0, .int .i64 y1, .int .i64 y2, .int .i64 y3])).run Try.prog w = .ok (x0 == y0 && (x1 == y1 && (x2 == y2 && (x3 == y3)))) w := by
  refine eqA_of Try.underlying24 (by kernel_rfl) ?_
  refine eqf_cons (by rfl) (by go_simp; rfl) (by go_simp; rfl) (by go_simp) ?_
  refine eqf_cons (by rfl) (by go_simp; rfl) (by go_simp; rfl) (by go_simp) ?_
  refine eqf_cons (by rfl) (by go_simp; rfl) (by go_simp; rfl) (by go_simp) ?_
  exact eqf_last (by rfl) (by go_simp; rfl) (by go_simp; rfl) (by go_simp)
attribute [local go_sem high] eqA24
theorem okL_nums {v : List Int} (h : okL v = true) : [(leaseOf v).1, (leaseOf v).2.1, (leaseOf v).2.2.1, (leaseOf v).2.2.2] = v := by
  have h4 : v.length = 4 := by unfold okL at h; rw [Bool.and_eq_true, decide_eq_true_eq] at h; exact h.1
  unfold leaseOf
  rw [if_pos h]
  obtain ⟨a, b, c, d, rfl⟩ := four h4
  rfl
theorem okL4 (a b c d : Int) : okL [a, b, c, d] = decide (1 ≤ a ∧ 0 ≤ b ∧ 0 ≤ c ∧ 0 ≤ d) := by
  have e0 : rd [a, b, c, d] 0 = a := rfl
  have e1 : rd [a, b, c, d] 1 = b := rfl
  have e2 : rd [a, b, c, d] 2 = c := rfl
  have e3 : rd [a, b, c, d] 3 = d := rfl
  unfold okL
  rw [e0, e1, e2, e3, Bool.eq_iff_iff]
  simp only [Bool.and_eq_true, decide_eq_true_eq, List.length_cons, List.length_nil, Nat.zero_add, Nat.reduceAdd, true_and]
theorem take4_v (a b c d : Int) (q : Bool) (hq : decide (1 ≤ a ∧ 0 ≤ b ∧ 0 ≤ c ∧ 0 ≤ d) = q) (A : Option Addr) (k : Nat) (w : World) (hr : (Kd.int .i64).C w A 4 [a, b, c, d]) (hk : 4 ≤ k) :
    Calls Try.prog 10 #[.slice A 4 k] w fun e w' => e = .returned (.tuple #[.agg (leaA (if q = true then (a, b, c, d) else (0, 0, 0, 0))), .bool q]) ∧ Below w.heap.size w w' := by
  have h := take_v A k [a, b, c, d] w hr hk
  have e : leaseOf [a, b, c, d] = if q = true then (a, b, c, d) else (0, 0, 0, 0) := by unfold leaseOf; rw [okL4, hq]; rfl
  rw [e, okL4, hq] at h
  exact h
set_option maxHeartbeats 8000000 in
set_option maxRecDepth 100000 in
theorem takes_any (A0 : Option Addr) (c0 : Nat) (v : List Int) (l0 l1 l2 l3 : Int) (W : World) (hr : (Kd.int .i64).C W A0 v.length v) (hc : v.length ≤ c0) : Calls Try.prog 3 #[.slice A0 v.length c0, .agg #[.int .i64 l0, .int .i64 l1, .int .i64 l2, .int .i64 l3]] W fun e w' => e = .returned (.bool true) ∧ Below W.heap.size W w' := by
  have hu24 := Try.underlying24
  have HR := Aside0.mk hr
  clear hr
  obtain ⟨q, hq⟩ : ∃ q, okL v = q := ⟨_, rfl⟩
  obtain ⟨l, hl⟩ : ∃ l, leaseOf v = l := ⟨_, rfl⟩
  have HQ := Aside0.mk hq
  have HL := Aside0.mk hl
  clear hq hl
  by_cases h5 : v.length ≤ 500
  case neg =>
    have h5b : decide (500 < (v.length : Int)) = true := decide_eq_true (by omega)
    go_enter Try.func3, Try.ntmps3
    go_wp2_with fail
    obtain ⟨W1, hw1⟩ : ∃ x : World, x = W.alloc (.cells #[.int .i64 l0, .int .i64 l1, .int .i64 l2, .int .i64 l3] 24) := ⟨_, rfl⟩
    have hbs1 : Below W.heap.size W W1 := by rw [hw1]; repeat (first | exact Below.refl _ _ | refine below_alloc ?_ _ | refine below_drew ?_)
    obtain ⟨gx1, hgx1⟩ : ∃ x, x = W.heap.size := ⟨_, rfl⟩
    have GSx1 : Aside0 (W.heap.size ≤ gx1) := ⟨by rw [hgx1]; omega⟩
    have Bx1 : Aside0 (W1.heap[gx1]? = some (.cells #[.int .i64 l0, .int .i64 l1, .int .i64 l2, .int .i64 l3] 24 (0, 0))) := ⟨by rw [hw1, hgx1]; exact blk_new _ _⟩
    rw [← hw1]
    rw [← hgx1]
    clear hw1 hgx1
    have HB2 := Aside0.mk hbs1
    have Cv2 := Aside0.mk (Kd.C_below HR.out hbs1)
    clear hbs1
    refine (alive_any _).mono ?_
    rintro e w3 ⟨rfl, hb3⟩
    have HB4 := Aside0.mk (below_step HB2.out hb3)
    have Bx4 : Aside0 (w3.heap[gx1]? = some (.cells #[.int .i64 l0, .int .i64 l1, .int .i64 l2, .int .i64 l3] 24 (0, 0))) := ⟨(hb3.block _ (blk_lt Bx1.out)).trans Bx1.out⟩
    have Cv4 := Aside0.mk (Kd.C_below Cv2.out hb3)
    clear hb3
    go_wp2_with fail
    go_ret
    exact ⟨rfl, HB4.out⟩
  have h5b : decide (500 < (v.length : Int)) = false := decide_eq_false (by omega)
  go_enter Try.func3, Try.ntmps3
  go_wp2_with fail
  obtain ⟨W1, hw1⟩ : ∃ x : World, x = W.alloc (.cells #[.int .i64 l0, .int .i64 l1, .int .i64 l2, .int .i64 l3] 24) := ⟨_, rfl⟩
  have hbs1 : Below W.heap.size W W1 := by rw [hw1]; repeat (first | exact Below.refl _ _ | refine below_alloc ?_ _ | refine below_drew ?_)
  obtain ⟨gx1, hgx1⟩ : ∃ x, x = W.heap.size := ⟨_, rfl⟩
  have GSx1 : Aside0 (W.heap.size ≤ gx1) := ⟨by rw [hgx1]; omega⟩
  have Bx1 : Aside0 (W1.heap[gx1]? = some (.cells #[.int .i64 l0, .int .i64 l1, .int .i64 l2, .int .i64 l3] 24 (0, 0))) := ⟨by rw [hw1, hgx1]; exact blk_new _ _⟩
  rw [← hw1]
  rw [← hgx1]
  clear hw1 hgx1
  have HB2 := Aside0.mk hbs1
  have Cv2 := Aside0.mk (Kd.C_below HR.out hbs1)
  clear hbs1
  refine (alive_any _).mono ?_
  rintro e w3 ⟨rfl, hb3⟩
  have HB4 := Aside0.mk (below_step HB2.out hb3)
  have Bx4 : Aside0 (w3.heap[gx1]? = some (.cells #[.int .i64 l0, .int .i64 l1, .int .i64 l2, .int .i64 l3] 24 (0, 0))) := ⟨(hb3.block _ (blk_lt Bx1.out)).trans Bx1.out⟩
  have Cv4 := Aside0.mk (Kd.C_below Cv2.out hb3)
  clear hb3
  go_wp2_with fail
  refine (take_v A0 c0 v _ Cv4.out hc).mono ?_
  rw [HL.out, HQ.out]
  rintro e wa ⟨rfl, hba⟩
  have HB5 := Aside0.mk (below_step HB4.out hba)
  have Bx5 : Aside0 (wa.heap[gx1]? = some (.cells #[.int .i64 l0, .int .i64 l1, .int .i64 l2, .int .i64 l3] 24 (0, 0))) := ⟨(hba.block _ (blk_lt Bx4.out)).trans Bx4.out⟩
  have Cv5 := Aside0.mk (Kd.C_below Cv4.out hba)
  clear hba
  go_wp2_with fail
  obtain ⟨W6, hw6⟩ : ∃ x : World, x = wa.alloc (.cells #[.int .i64 l.1, .int .i64 l.2.1, .int .i64 l.2.2.1, .int .i64 l.2.2.2] 24) := ⟨_, rfl⟩
  have hbs6 : Below wa.heap.size wa W6 := by rw [hw6]; repeat (first | exact Below.refl _ _ | refine below_alloc ?_ _ | refine below_drew ?_)
  obtain ⟨ga6, hga6⟩ : ∃ x, x = wa.heap.size := ⟨_, rfl⟩
  have GSa6 : Aside0 (W.heap.size ≤ ga6) := ⟨by rw [hga6]; have := HB5.out.size; omega⟩
  have Ba6 : Aside0 (W6.heap[ga6]? = some (.cells #[.int .i64 l.1, .int .i64 l.2.1, .int .i64 l.2.2.1, .int .i64 l.2.2.2] 24 (0, 0))) := ⟨by rw [hw6, hga6]; exact blk_new _ _⟩
  rw [← hw6]
  rw [← hga6]
  clear hw6 hga6
  have HB7 := Aside0.mk (below_step HB5.out hbs6)
  have Bx7 : Aside0 (W6.heap[gx1]? = some (.cells #[.int .i64 l0, .int .i64 l1, .int .i64 l2, .int .i64 l3] 24 (0, 0))) := ⟨(hbs6.block _ (blk_lt Bx5.out)).trans Bx5.out⟩
  have Cv7 := Aside0.mk (Kd.C_below Cv5.out hbs6)
  clear hbs6
  refine (reftake_v A0 c0 v _ Cv7.out hc).mono ?_
  rw [HL.out, HQ.out]
  rintro e wb ⟨rfl, hbb⟩
  have HB8 := Aside0.mk (below_step HB7.out hbb)
  have Bx8 : Aside0 (wb.heap[gx1]? = some (.cells #[.int .i64 l0, .int .i64 l1, .int .i64 l2, .int .i64 l3] 24 (0, 0))) := ⟨(hbb.block _ (blk_lt Bx7.out)).trans Bx7.out⟩
  have Ba8 : Aside0 (wb.heap[ga6]? = some (.cells #[.int .i64 l.1, .int .i64 l.2.1, .int .i64 l.2.2.1, .int .i64 l.2.2.2] 24 (0, 0))) := ⟨(hbb.block _ (blk_lt Ba6.out)).trans Ba6.out⟩
  have Cv8 := Aside0.mk (Kd.C_below Cv7.out hbb)
  clear hbb
  have zx9_0 : wb.cell? ⟨gx1, 0, none⟩ = some (.int .i64 l0) := (blk_cell Bx8.out 0).trans rfl
  have zx9_1 : wb.cell? ⟨gx1, 1, none⟩ = some (.int .i64 l1) := (blk_cell Bx8.out 1).trans rfl
  have zx9_2 : wb.cell? ⟨gx1, 2, none⟩ = some (.int .i64 l2) := (blk_cell Bx8.out 2).trans rfl
  have zx9_3 : wb.cell? ⟨gx1, 3, none⟩ = some (.int .i64 l3) := (blk_cell Bx8.out 3).trans rfl
  have za9_0 : wb.cell? ⟨ga6, 0, none⟩ = some (.int .i64 l.1) := (blk_cell Ba8.out 0).trans rfl
  have za9_1 : wb.cell? ⟨ga6, 1, none⟩ = some (.int .i64 l.2.1) := (blk_cell Ba8.out 1).trans rfl
  have za9_2 : wb.cell? ⟨ga6, 2, none⟩ = some (.int .i64 l.2.2.1) := (blk_cell Ba8.out 2).trans rfl
  have za9_3 : wb.cell? ⟨ga6, 3, none⟩ = some (.int .i64 l.2.2.2) := (blk_cell Ba8.out 3).trans rfl
  have zax10_0 : ∀ o, (wb.alloc o).cell? ⟨gx1, 0, none⟩ = some (.int .i64 l0) := fun o => (blk_cell (blk_alloc Bx8.out o) 0).trans rfl
  have zax10_1 : ∀ o, (wb.alloc o).cell? ⟨gx1, 1, none⟩ = some (.int .i64 l1) := fun o => (blk_cell (blk_alloc Bx8.out o) 1).trans rfl
  have zax10_2 : ∀ o, (wb.alloc o).cell? ⟨gx1, 2, none⟩ = some (.int .i64 l2) := fun o => (blk_cell (blk_alloc Bx8.out o) 2).trans rfl
  have zax10_3 : ∀ o, (wb.alloc o).cell? ⟨gx1, 3, none⟩ = some (.int .i64 l3) := fun o => (blk_cell (blk_alloc Bx8.out o) 3).trans rfl
  have zaa10_0 : ∀ o, (wb.alloc o).cell? ⟨ga6, 0, none⟩ = some (.int .i64 l.1) := fun o => (blk_cell (blk_alloc Ba8.out o) 0).trans rfl
  have zaa10_1 : ∀ o, (wb.alloc o).cell? ⟨ga6, 1, none⟩ = some (.int .i64 l.2.1) := fun o => (blk_cell (blk_alloc Ba8.out o) 1).trans rfl
  have zaa10_2 : ∀ o, (wb.alloc o).cell? ⟨ga6, 2, none⟩ = some (.int .i64 l.2.2.1) := fun o => (blk_cell (blk_alloc Ba8.out o) 2).trans rfl
  have zaa10_3 : ∀ o, (wb.alloc o).cell? ⟨ga6, 3, none⟩ = some (.int .i64 l.2.2.2) := fun o => (blk_cell (blk_alloc Ba8.out o) 3).trans rfl
  go_wp2_with fail
  obtain ⟨W11, hw11⟩ : ∃ x : World, x = wb.alloc (.cells #[.int .i64 l.1, .int .i64 l.2.1, .int .i64 l.2.2.1, .int .i64 l.2.2.2] 24) := ⟨_, rfl⟩
  have hbs11 : Below wb.heap.size wb W11 := by rw [hw11]; repeat (first | exact Below.refl _ _ | refine below_alloc ?_ _ | refine below_drew ?_)
  obtain ⟨gb11, hgb11⟩ : ∃ x, x = wb.heap.size := ⟨_, rfl⟩
  have GSb11 : Aside0 (W.heap.size ≤ gb11) := ⟨by rw [hgb11]; have := HB8.out.size; omega⟩
  have Bb11 : Aside0 (W11.heap[gb11]? = some (.cells #[.int .i64 l.1, .int .i64 l.2.1, .int .i64 l.2.2.1, .int .i64 l.2.2.2] 24 (0, 0))) := ⟨by rw [hw11, hgb11]; exact blk_new _ _⟩
  rw [← hw11]
  rw [← hgb11]
  clear hw11 hgb11
  clear zx9_0 zx9_1 zx9_2 zx9_3 za9_0 za9_1 za9_2 za9_3 zax10_0 zax10_1 zax10_2 zax10_3 zaa10_0 zaa10_1 zaa10_2 zaa10_3
  have HB12 := Aside0.mk (below_step HB8.out hbs11)
  have Bx12 : Aside0 (W11.heap[gx1]? = some (.cells #[.int .i64 l0, .int .i64 l1, .int .i64 l2, .int .i64 l3] 24 (0, 0))) := ⟨(hbs11.block _ (blk_lt Bx8.out)).trans Bx8.out⟩
  have Ba12 : Aside0 (W11.heap[ga6]? = some (.cells #[.int .i64 l.1, .int .i64 l.2.1, .int .i64 l.2.2.1, .int .i64 l.2.2.2] 24 (0, 0))) := ⟨(hbs11.block _ (blk_lt Ba8.out)).trans Ba8.out⟩
  have Cv12 := Aside0.mk (Kd.C_below Cv8.out hbs11)
  clear hbs11
  refine (nums4_v l0 l1 l2 l3 _).mono ?_
  rintro e wc ⟨Bn, dn, rfl, hRn, hbc⟩
  have HB13 := Aside0.mk (below_step HB12.out hbc)
  have Bx13 : Aside0 (wc.heap[gx1]? = some (.cells #[.int .i64 l0, .int .i64 l1, .int .i64 l2, .int .i64 l3] 24 (0, 0))) := ⟨(hbc.block _ (blk_lt Bx12.out)).trans Bx12.out⟩
  have Ba13 : Aside0 (wc.heap[ga6]? = some (.cells #[.int .i64 l.1, .int .i64 l.2.1, .int .i64 l.2.2.1, .int .i64 l.2.2.2] 24 (0, 0))) := ⟨(hbc.block _ (blk_lt Ba12.out)).trans Ba12.out⟩
  have Bb13 : Aside0 (wc.heap[gb11]? = some (.cells #[.int .i64 l.1, .int .i64 l.2.1, .int .i64 l.2.2.1, .int .i64 l.2.2.2] 24 (0, 0))) := ⟨(hbc.block _ (blk_lt Bb11.out)).trans Bb11.out⟩
  have Cv13 := Aside0.mk (Kd.C_below Cv12.out hbc)
  clear hbc
  have HRn := Aside0.mk hRn
  clear hRn
  go_wp2_with fail
  have hcases : (¬ 1 ≤ l0) ∨ (1 ≤ l0 ∧ ¬ 0 ≤ l1) ∨ (1 ≤ l0 ∧ 0 ≤ l1 ∧ ¬ 0 ≤ l2) ∨ (1 ≤ l0 ∧ 0 ≤ l1 ∧ 0 ≤ l2 ∧ ¬ 0 ≤ l3) ∨ (1 ≤ l0 ∧ 0 ≤ l1 ∧ 0 ≤ l2 ∧ 0 ≤ l3) := by omega
  rcases hcases with a0 | ⟨a0, a1⟩ | ⟨a0, a1, a2⟩ | ⟨a0, a1, a2, a3⟩ | ⟨a0, a1, a2, a3⟩
  · skip
    have d0 : decide (1 ≤ l0) = false := decide_eq_false a0
    have HQ2 := Aside0.mk (show decide (1 ≤ l0 ∧ 0 ≤ l1 ∧ 0 ≤ l2 ∧ 0 ≤ l3) = false from decide_eq_false (by omega))
    clear a0
    refine (take4_v l0 l1 l2 l3 false HQ2.out Bn dn _ (show (Kd.int .i64).C _ Bn 4 [l0, l1, l2, l3] from (Kd.R_reads' HRn.out).2.2) (Kd.R_reads' HRn.out).2.1).mono ?_
    rintro e wd ⟨rfl, hbd⟩
    have HB15 := Aside0.mk (below_step HB13.out hbd)
    have Bx15 : Aside0 (wd.heap[gx1]? = some (.cells #[.int .i64 l0, .int .i64 l1, .int .i64 l2, .int .i64 l3] 24 (0, 0))) := ⟨(hbd.block _ (blk_lt Bx13.out)).trans Bx13.out⟩
    have Ba15 : Aside0 (wd.heap[ga6]? = some (.cells #[.int .i64 l.1, .int .i64 l.2.1, .int .i64 l.2.2.1, .int .i64 l.2.2.2] 24 (0, 0))) := ⟨(hbd.block _ (blk_lt Ba13.out)).trans Ba13.out⟩
    have Bb15 : Aside0 (wd.heap[gb11]? = some (.cells #[.int .i64 l.1, .int .i64 l.2.1, .int .i64 l.2.2.1, .int .i64 l.2.2.2] 24 (0, 0))) := ⟨(hbd.block _ (blk_lt Bb13.out)).trans Bb13.out⟩
    have Cv15 := Aside0.mk (Kd.C_below Cv13.out hbd)
    have Rn15 := Aside0.mk (Kd.R_below HRn.out hbd)
    clear hbd
    have zx16_0 : wd.cell? ⟨gx1, 0, none⟩ = some (.int .i64 l0) := (blk_cell Bx15.out 0).trans rfl
    have zx16_1 : wd.cell? ⟨gx1, 1, none⟩ = some (.int .i64 l1) := (blk_cell Bx15.out 1).trans rfl
    have zx16_2 : wd.cell? ⟨gx1, 2, none⟩ = some (.int .i64 l2) := (blk_cell Bx15.out 2).trans rfl
    have zx16_3 : wd.cell? ⟨gx1, 3, none⟩ = some (.int .i64 l3) := (blk_cell Bx15.out 3).trans rfl
    have za16_0 : wd.cell? ⟨ga6, 0, none⟩ = some (.int .i64 l.1) := (blk_cell Ba15.out 0).trans rfl
    have za16_1 : wd.cell? ⟨ga6, 1, none⟩ = some (.int .i64 l.2.1) := (blk_cell Ba15.out 1).trans rfl
    have za16_2 : wd.cell? ⟨ga6, 2, none⟩ = some (.int .i64 l.2.2.1) := (blk_cell Ba15.out 2).trans rfl
    have za16_3 : wd.cell? ⟨ga6, 3, none⟩ = some (.int .i64 l.2.2.2) := (blk_cell Ba15.out 3).trans rfl
    have zb16_0 : wd.cell? ⟨gb11, 0, none⟩ = some (.int .i64 l.1) := (blk_cell Bb15.out 0).trans rfl
    have zb16_1 : wd.cell? ⟨gb11, 1, none⟩ = some (.int .i64 l.2.1) := (blk_cell Bb15.out 1).trans rfl
    have zb16_2 : wd.cell? ⟨gb11, 2, none⟩ = some (.int .i64 l.2.2.1) := (blk_cell Bb15.out 2).trans rfl
    have zb16_3 : wd.cell? ⟨gb11, 3, none⟩ = some (.int .i64 l.2.2.2) := (blk_cell Bb15.out 3).trans rfl
    have zax17_0 : ∀ o, (wd.alloc o).cell? ⟨gx1, 0, none⟩ = some (.int .i64 l0) := fun o => (blk_cell (blk_alloc Bx15.out o) 0).trans rfl
    have zax17_1 : ∀ o, (wd.alloc o).cell? ⟨gx1, 1, none⟩ = some (.int .i64 l1) := fun o => (blk_cell (blk_alloc Bx15.out o) 1).trans rfl
    have zax17_2 : ∀ o, (wd.alloc o).cell? ⟨gx1, 2, none⟩ = some (.int .i64 l2) := fun o => (blk_cell (blk_alloc Bx15.out o) 2).trans rfl
    have zax17_3 : ∀ o, (wd.alloc o).cell? ⟨gx1, 3, none⟩ = some (.int .i64 l3) := fun o => (blk_cell (blk_alloc Bx15.out o) 3).trans rfl
    have zaa17_0 : ∀ o, (wd.alloc o).cell? ⟨ga6, 0, none⟩ = some (.int .i64 l.1) := fun o => (blk_cell (blk_alloc Ba15.out o) 0).trans rfl
    have zaa17_1 : ∀ o, (wd.alloc o).cell? ⟨ga6, 1, none⟩ = some (.int .i64 l.2.1) := fun o => (blk_cell (blk_alloc Ba15.out o) 1).trans rfl
    have zaa17_2 : ∀ o, (wd.alloc o).cell? ⟨ga6, 2, none⟩ = some (.int .i64 l.2.2.1) := fun o => (blk_cell (blk_alloc Ba15.out o) 2).trans rfl
    have zaa17_3 : ∀ o, (wd.alloc o).cell? ⟨ga6, 3, none⟩ = some (.int .i64 l.2.2.2) := fun o => (blk_cell (blk_alloc Ba15.out o) 3).trans rfl
    have zab17_0 : ∀ o, (wd.alloc o).cell? ⟨gb11, 0, none⟩ = some (.int .i64 l.1) := fun o => (blk_cell (blk_alloc Bb15.out o) 0).trans rfl
    have zab17_1 : ∀ o, (wd.alloc o).cell? ⟨gb11, 1, none⟩ = some (.int .i64 l.2.1) := fun o => (blk_cell (blk_alloc Bb15.out o) 1).trans rfl
    have zab17_2 : ∀ o, (wd.alloc o).cell? ⟨gb11, 2, none⟩ = some (.int .i64 l.2.2.1) := fun o => (blk_cell (blk_alloc Bb15.out o) 2).trans rfl
    have zab17_3 : ∀ o, (wd.alloc o).cell? ⟨gb11, 3, none⟩ = some (.int .i64 l.2.2.2) := fun o => (blk_cell (blk_alloc Bb15.out o) 3).trans rfl
    simp only [leaA, if_true, Bool.false_eq_true, if_false]
    cases q
    · skip
      go_wp2_with fail
      go_ret
      exact ⟨rfl, by repeat (first | exact HB15.out | apply below_alloc)⟩
    · skip
      go_wp2_with fail
      obtain ⟨W18, hw18⟩ : ∃ x : World, x = wd.alloc (.cells #[.int .i64 0, .int .i64 0, .int .i64 0, .int .i64 0] 24) := ⟨_, rfl⟩
      have hbs18 : Below wd.heap.size wd W18 := by rw [hw18]; repeat (first | exact Below.refl _ _ | refine below_alloc ?_ _ | refine below_drew ?_)
      obtain ⟨gc18, hgc18⟩ : ∃ x, x = wd.heap.size := ⟨_, rfl⟩
      have GSc18 : Aside0 (W.heap.size ≤ gc18) := ⟨by rw [hgc18]; have := HB15.out.size; omega⟩
      have Bc18 : Aside0 (W18.heap[gc18]? = some (.cells #[.int .i64 0, .int .i64 0, .int .i64 0, .int .i64 0] 24 (0, 0))) := ⟨by rw [hw18, hgc18]; exact blk_new _ _⟩
      rw [← hw18]
      rw [← hgc18]
      clear hw18 hgc18
      clear zx16_0 zx16_1 zx16_2 zx16_3 za16_0 za16_1 za16_2 za16_3 zb16_0 zb16_1 zb16_2 zb16_3 zax17_0 zax17_1 zax17_2 zax17_3 zaa17_0 zaa17_1 zaa17_2 zaa17_3 zab17_0 zab17_1 zab17_2 zab17_3
      have HB19 := Aside0.mk (below_step HB15.out hbs18)
      have Bx19 : Aside0 (W18.heap[gx1]? = some (.cells #[.int .i64 l0, .int .i64 l1, .int .i64 l2, .int .i64 l3] 24 (0, 0))) := ⟨(hbs18.block _ (blk_lt Bx15.out)).trans Bx15.out⟩
      have Ba19 : Aside0 (W18.heap[ga6]? = some (.cells #[.int .i64 l.1, .int .i64 l.2.1, .int .i64 l.2.2.1, .int .i64 l.2.2.2] 24 (0, 0))) := ⟨(hbs18.block _ (blk_lt Ba15.out)).trans Ba15.out⟩
      have Bb19 : Aside0 (W18.heap[gb11]? = some (.cells #[.int .i64 l.1, .int .i64 l.2.1, .int .i64 l.2.2.1, .int .i64 l.2.2.2] 24 (0, 0))) := ⟨(hbs18.block _ (blk_lt Bb15.out)).trans Bb15.out⟩
      have Cv19 := Aside0.mk (Kd.C_below Cv15.out hbs18)
      have Rn19 := Aside0.mk (Kd.R_below Rn15.out hbs18)
      clear hbs18
      refine (nums4_v l.1 l.2.1 l.2.2.1 l.2.2.2 _).mono ?_
      rintro e we ⟨Bm, dm, rfl, hRm, hbe⟩
      have HB20 := Aside0.mk (below_step HB19.out hbe)
      have Bx20 : Aside0 (we.heap[gx1]? = some (.cells #[.int .i64 l0, .int .i64 l1, .int .i64 l2, .int .i64 l3] 24 (0, 0))) := ⟨(hbe.block _ (blk_lt Bx19.out)).trans Bx19.out⟩
      have Ba20 : Aside0 (we.heap[ga6]? = some (.cells #[.int .i64 l.1, .int .i64 l.2.1, .int .i64 l.2.2.1, .int .i64 l.2.2.2] 24 (0, 0))) := ⟨(hbe.block _ (blk_lt Ba19.out)).trans Ba19.out⟩
      have Bb20 : Aside0 (we.heap[gb11]? = some (.cells #[.int .i64 l.1, .int .i64 l.2.1, .int .i64 l.2.2.1, .int .i64 l.2.2.2] 24 (0, 0))) := ⟨(hbe.block _ (blk_lt Bb19.out)).trans Bb19.out⟩
      have Bc20 : Aside0 (we.heap[gc18]? = some (.cells #[.int .i64 0, .int .i64 0, .int .i64 0, .int .i64 0] 24 (0, 0))) := ⟨(hbe.block _ (blk_lt Bc18.out)).trans Bc18.out⟩
      have Cv20 := Aside0.mk (Kd.C_below Cv19.out hbe)
      have Rn20 := Aside0.mk (Kd.R_below Rn19.out hbe)
      clear hbe
      have HRm := Aside0.mk hRm
      clear hRm
      go_wp2_with fail
      refine (ints_v true Bm dm [l.1, l.2.1, l.2.2.1, l.2.2.2] A0 c0 v _ (decide_eq_true (by rw [← HL.out]; exact okL_nums HQ.out)) (Kd.R_reads' HRm.out).2.2 (Kd.R_reads' HRm.out).2.1 Cv20.out hc (by simp)).mono ?_
      rintro e wf ⟨rfl, hbf⟩
      have HB21 := Aside0.mk (below_step HB20.out hbf)
      have Bx21 : Aside0 (wf.heap[gx1]? = some (.cells #[.int .i64 l0, .int .i64 l1, .int .i64 l2, .int .i64 l3] 24 (0, 0))) := ⟨(hbf.block _ (blk_lt Bx20.out)).trans Bx20.out⟩
      have Ba21 : Aside0 (wf.heap[ga6]? = some (.cells #[.int .i64 l.1, .int .i64 l.2.1, .int .i64 l.2.2.1, .int .i64 l.2.2.2] 24 (0, 0))) := ⟨(hbf.block _ (blk_lt Ba20.out)).trans Ba20.out⟩
      have Bb21 : Aside0 (wf.heap[gb11]? = some (.cells #[.int .i64 l.1, .int .i64 l.2.1, .int .i64 l.2.2.1, .int .i64 l.2.2.2] 24 (0, 0))) := ⟨(hbf.block _ (blk_lt Bb20.out)).trans Bb20.out⟩
      have Bc21 : Aside0 (wf.heap[gc18]? = some (.cells #[.int .i64 0, .int .i64 0, .int .i64 0, .int .i64 0] 24 (0, 0))) := ⟨(hbf.block _ (blk_lt Bc20.out)).trans Bc20.out⟩
      have Cv21 := Aside0.mk (Kd.C_below Cv20.out hbf)
      have Rn21 := Aside0.mk (Kd.R_below Rn20.out hbf)
      have Rm21 := Aside0.mk (Kd.R_below HRm.out hbf)
      clear hbf
      go_wp2_with fail
      go_ret
      exact ⟨rfl, HB21.out⟩
  · skip
    have d0 : decide (1 ≤ l0) = true := decide_eq_true a0
    have d1 : decide (0 ≤ l1) = false := decide_eq_false a1
    have HQ2 := Aside0.mk (show decide (1 ≤ l0 ∧ 0 ≤ l1 ∧ 0 ≤ l2 ∧ 0 ≤ l3) = false from decide_eq_false (by omega))
    clear a0 a1
    refine (take4_v l0 l1 l2 l3 false HQ2.out Bn dn _ (show (Kd.int .i64).C _ Bn 4 [l0, l1, l2, l3] from (Kd.R_reads' HRn.out).2.2) (Kd.R_reads' HRn.out).2.1).mono ?_
    rintro e wd ⟨rfl, hbd⟩
    have HB15 := Aside0.mk (below_step HB13.out hbd)
    have Bx15 : Aside0 (wd.heap[gx1]? = some (.cells #[.int .i64 l0, .int .i64 l1, .int .i64 l2, .int .i64 l3] 24 (0, 0))) := ⟨(hbd.block _ (blk_lt Bx13.out)).trans Bx13.out⟩
    have Ba15 : Aside0 (wd.heap[ga6]? = some (.cells #[.int .i64 l.1, .int .i64 l.2.1, .int .i64 l.2.2.1, .int .i64 l.2.2.2] 24 (0, 0))) := ⟨(hbd.block _ (blk_lt Ba13.out)).trans Ba13.out⟩
    have Bb15 : Aside0 (wd.heap[gb11]? = some (.cells #[.int .i64 l.1, .int .i64 l.2.1, .int .i64 l.2.2.1, .int .i64 l.2.2.2] 24 (0, 0))) := ⟨(hbd.block _ (blk_lt Bb13.out)).trans Bb13.out⟩
    have Cv15 := Aside0.mk (Kd.C_below Cv13.out hbd)
    have Rn15 := Aside0.mk (Kd.R_below HRn.out hbd)
    clear hbd
    have zx16_0 : wd.cell? ⟨gx1, 0, none⟩ = some (.int .i64 l0) := (blk_cell Bx15.out 0).trans rfl
    have zx16_1 : wd.cell? ⟨gx1, 1, none⟩ = some (.int .i64 l1) := (blk_cell Bx15.out 1).trans rfl
    have zx16_2 : wd.cell? ⟨gx1, 2, none⟩ = some (.int .i64 l2) := (blk_cell Bx15.out 2).trans rfl
    have zx16_3 : wd.cell? ⟨gx1, 3, none⟩ = some (.int .i64 l3) := (blk_cell Bx15.out 3).trans rfl
    have za16_0 : wd.cell? ⟨ga6, 0, none⟩ = some (.int .i64 l.1) := (blk_cell Ba15.out 0).trans rfl
    have za16_1 : wd.cell? ⟨ga6, 1, none⟩ = some (.int .i64 l.2.1) := (blk_cell Ba15.out 1).trans rfl
    have za16_2 : wd.cell? ⟨ga6, 2, none⟩ = some (.int .i64 l.2.2.1) := (blk_cell Ba15.out 2).trans rfl
    have za16_3 : wd.cell? ⟨ga6, 3, none⟩ = some (.int .i64 l.2.2.2) := (blk_cell Ba15.out 3).trans rfl
    have zb16_0 : wd.cell? ⟨gb11, 0, none⟩ = some (.int .i64 l.1) := (blk_cell Bb15.out 0).trans rfl
    have zb16_1 : wd.cell? ⟨gb11, 1, none⟩ = some (.int .i64 l.2.1) := (blk_cell Bb15.out 1).trans rfl
    have zb16_2 : wd.cell? ⟨gb11, 2, none⟩ = some (.int .i64 l.2.2.1) := (blk_cell Bb15.out 2).trans rfl
    have zb16_3 : wd.cell? ⟨gb11, 3, none⟩ = some (.int .i64 l.2.2.2) := (blk_cell Bb15.out 3).trans rfl
    have zax17_0 : ∀ o, (wd.alloc o).cell? ⟨gx1, 0, none⟩ = some (.int .i64 l0) := fun o => (blk_cell (blk_alloc Bx15.out o) 0).trans rfl
    have zax17_1 : ∀ o, (wd.alloc o).cell? ⟨gx1, 1, none⟩ = some (.int .i64 l1) := fun o => (blk_cell (blk_alloc Bx15.out o) 1).trans rfl
    have zax17_2 : ∀ o, (wd.alloc o).cell? ⟨gx1, 2, none⟩ = some (.int .i64 l2) := fun o => (blk_cell (blk_alloc Bx15.out o) 2).trans rfl
    have zax17_3 : ∀ o, (wd.alloc o).cell? ⟨gx1, 3, none⟩ = some (.int .i64 l3) := fun o => (blk_cell (blk_alloc Bx15.out o) 3).trans rfl
    have zaa17_0 : ∀ o, (wd.alloc o).cell? ⟨ga6, 0, none⟩ = some (.int .i64 l.1) := fun o => (blk_cell (blk_alloc Ba15.out o) 0).trans rfl
    have zaa17_1 : ∀ o, (wd.alloc o).cell? ⟨ga6, 1, none⟩ = some (.int .i64 l.2.1) := fun o => (blk_cell (blk_alloc Ba15.out o) 1).trans rfl
    have zaa17_2 : ∀ o, (wd.alloc o).cell? ⟨ga6, 2, none⟩ = some (.int .i64 l.2.2.1) := fun o => (blk_cell (blk_alloc Ba15.out o) 2).trans rfl
    have zaa17_3 : ∀ o, (wd.alloc o).cell? ⟨ga6, 3, none⟩ = some (.int .i64 l.2.2.2) := fun o => (blk_cell (blk_alloc Ba15.out o) 3).trans rfl
    have zab17_0 : ∀ o, (wd.alloc o).cell? ⟨gb11, 0, none⟩ = some (.int .i64 l.1) := fun o => (blk_cell (blk_alloc Bb15.out o) 0).trans rfl
    have zab17_1 : ∀ o, (wd.alloc o).cell? ⟨gb11, 1, none⟩ = some (.int .i64 l.2.1) := fun o => (blk_cell (blk_alloc Bb15.out o) 1).trans rfl
    have zab17_2 : ∀ o, (wd.alloc o).cell? ⟨gb11, 2, none⟩ = some (.int .i64 l.2.2.1) := fun o => (blk_cell (blk_alloc Bb15.out o) 2).trans rfl
    have zab17_3 : ∀ o, (wd.alloc o).cell? ⟨gb11, 3, none⟩ = some (.int .i64 l.2.2.2) := fun o => (blk_cell (blk_alloc Bb15.out o) 3).trans rfl
    simp only [leaA, if_true, Bool.false_eq_true, if_false]
    cases q
    · skip
      go_wp2_with fail
      go_ret
      exact ⟨rfl, by repeat (first | exact HB15.out | apply below_alloc)⟩
    · skip
      go_wp2_with fail
      obtain ⟨W18, hw18⟩ : ∃ x : World, x = wd.alloc (.cells #[.int .i64 0, .int .i64 0, .int .i64 0, .int .i64 0] 24) := ⟨_, rfl⟩
      have hbs18 : Below wd.heap.size wd W18 := by rw [hw18]; repeat (first | exact Below.refl _ _ | refine below_alloc ?_ _ | refine below_drew ?_)
      obtain ⟨gc18, hgc18⟩ : ∃ x, x = wd.heap.size := ⟨_, rfl⟩
      have GSc18 : Aside0 (W.heap.size ≤ gc18) := ⟨by rw [hgc18]; have := HB15.out.size; omega⟩
      have Bc18 : Aside0 (W18.heap[gc18]? = some (.cells #[.int .i64 0, .int .i64 0, .int .i64 0, .int .i64 0] 24 (0, 0))) := ⟨by rw [hw18, hgc18]; exact blk_new _ _⟩
      rw [← hw18]
      rw [← hgc18]
      clear hw18 hgc18
      clear zx16_0 zx16_1 zx16_2 zx16_3 za16_0 za16_1 za16_2 za16_3 zb16_0 zb16_1 zb16_2 zb16_3 zax17_0 zax17_1 zax17_2 zax17_3 zaa17_0 zaa17_1 zaa17_2 zaa17_3 zab17_0 zab17_1 zab17_2 zab17_3
      have HB19 := Aside0.mk (below_step HB15.out hbs18)
      have Bx19 : Aside0 (W18.heap[gx1]? = some (.cells #[.int .i64 l0, .int .i64 l1, .int .i64 l2, .int .i64 l3] 24 (0, 0))) := ⟨(hbs18.block _ (blk_lt Bx15.out)).trans Bx15.out⟩
      have Ba19 : Aside0 (W18.heap[ga6]? = some (.cells #[.int .i64 l.1, .int .i64 l.2.1, .int .i64 l.2.2.1, .int .i64 l.2.2.2] 24 (0, 0))) := ⟨(hbs18.block _ (blk_lt Ba15.out)).trans Ba15.out⟩
      have Bb19 : Aside0 (W18.heap[gb11]? = some (.cells #[.int .i64 l.1, .int .i64 l.2.1, .int .i64 l.2.2.1, .int .i64 l.2.2.2] 24 (0, 0))) := ⟨(hbs18.block _ (blk_lt Bb15.out)).trans Bb15.out⟩
      have Cv19 := Aside0.mk (Kd.C_below Cv15.out hbs18)
      have Rn19 := Aside0.mk (Kd.R_below Rn15.out hbs18)
      clear hbs18
      refine (nums4_v l.1 l.2.1 l.2.2.1 l.2.2.2 _).mono ?_
      rintro e we ⟨Bm, dm, rfl, hRm, hbe⟩
      have HB20 := Aside0.mk (below_step HB19.out hbe)
      have Bx20 : Aside0 (we.heap[gx1]? = some (.cells #[.int .i64 l0, .int .i64 l1, .int .i64 l2, .int .i64 l3] 24 (0, 0))) := ⟨(hbe.block _ (blk_lt Bx19.out)).trans Bx19.out⟩
      have Ba20 : Aside0 (we.heap[ga6]? = some (.cells #[.int .i64 l.1, .int .i64 l.2.1, .int .i64 l.2.2.1, .int .i64 l.2.2.2] 24 (0, 0))) := ⟨(hbe.block _ (blk_lt Ba19.out)).trans Ba19.out⟩
      have Bb20 : Aside0 (we.heap[gb11]? = some (.cells #[.int .i64 l.1, .int .i64 l.2.1, .int .i64 l.2.2.1, .int .i64 l.2.2.2] 24 (0, 0))) := ⟨(hbe.block _ (blk_lt Bb19.out)).trans Bb19.out⟩
      have Bc20 : Aside0 (we.heap[gc18]? = some (.cells #[.int .i64 0, .int .i64 0, .int .i64 0, .int .i64 0] 24 (0, 0))) := ⟨(hbe.block _ (blk_lt Bc18.out)).trans Bc18.out⟩
      have Cv20 := Aside0.mk (Kd.C_below Cv19.out hbe)
      have Rn20 := Aside0.mk (Kd.R_below Rn19.out hbe)
      clear hbe
      have HRm := Aside0.mk hRm
      clear hRm
      go_wp2_with fail
      refine (ints_v true Bm dm [l.1, l.2.1, l.2.2.1, l.2.2.2] A0 c0 v _ (decide_eq_true (by rw [← HL.out]; exact okL_nums HQ.out)) (Kd.R_reads' HRm.out).2.2 (Kd.R_reads' HRm.out).2.1 Cv20.out hc (by simp)).mono ?_
      rintro e wf ⟨rfl, hbf⟩
      have HB21 := Aside0.mk (below_step HB20.out hbf)
      have Bx21 : Aside0 (wf.heap[gx1]? = some (.cells #[.int .i64 l0, .int .i64 l1, .int .i64 l2, .int .i64 l3] 24 (0, 0))) := ⟨(hbf.block _ (blk_lt Bx20.out)).trans Bx20.out⟩
      have Ba21 : Aside0 (wf.heap[ga6]? = some (.cells #[.int .i64 l.1, .int .i64 l.2.1, .int .i64 l.2.2.1, .int .i64 l.2.2.2] 24 (0, 0))) := ⟨(hbf.block _ (blk_lt Ba20.out)).trans Ba20.out⟩
      have Bb21 : Aside0 (wf.heap[gb11]? = some (.cells #[.int .i64 l.1, .int .i64 l.2.1, .int .i64 l.2.2.1, .int .i64 l.2.2.2] 24 (0, 0))) := ⟨(hbf.block _ (blk_lt Bb20.out)).trans Bb20.out⟩
      have Bc21 : Aside0 (wf.heap[gc18]? = some (.cells #[.int .i64 0, .int .i64 0, .int .i64 0, .int .i64 0] 24 (0, 0))) := ⟨(hbf.block _ (blk_lt Bc20.out)).trans Bc20.out⟩
      have Cv21 := Aside0.mk (Kd.C_below Cv20.out hbf)
      have Rn21 := Aside0.mk (Kd.R_below Rn20.out hbf)
      have Rm21 := Aside0.mk (Kd.R_below HRm.out hbf)
      clear hbf
      go_wp2_with fail
      go_ret
      exact ⟨rfl, HB21.out⟩
  · skip
    have d0 : decide (1 ≤ l0) = true := decide_eq_true a0
    have d1 : decide (0 ≤ l1) = true := decide_eq_true a1
    have d2 : decide (0 ≤ l2) = false := decide_eq_false a2
    have HQ2 := Aside0.mk (show decide (1 ≤ l0 ∧ 0 ≤ l1 ∧ 0 ≤ l2 ∧ 0 ≤ l3) = false from decide_eq_false (by omega))
    clear a0 a1 a2
    refine (take4_v l0 l1 l2 l3 false HQ2.out Bn dn _ (show (Kd.int .i64).C _ Bn 4 [l0, l1, l2, l3] from (Kd.R_reads' HRn.out).2.2) (Kd.R_reads' HRn.out).2.1).mono ?_
    rintro e wd ⟨rfl, hbd⟩
    have HB15 := Aside0.mk (below_step HB13.out hbd)
    have Bx15 : Aside0 (wd.heap[gx1]? = some (.cells #[.int .i64 l0, .int .i64 l1, .int .i64 l2, .int .i64 l3] 24 (0, 0))) := ⟨(hbd.block _ (blk_lt Bx13.out)).trans Bx13.out⟩
    have Ba15 : Aside0 (wd.heap[ga6]? = some (.cells #[.int .i64 l.1, .int .i64 l.2.1, .int .i64 l.2.2.1, .int .i64 l.2.2.2] 24 (0, 0))) := ⟨(hbd.block _ (blk_lt Ba13.out)).trans Ba13.out⟩
    have Bb15 : Aside0 (wd.heap[gb11]? = some (.cells #[.int .i64 l.1, .int .i64 l.2.1, .int .i64 l.2.2.1, .int .i64 l.2.2.2] 24 (0, 0))) := ⟨(hbd.block _ (blk_lt Bb13.out)).trans Bb13.out⟩
    have Cv15 := Aside0.mk (Kd.C_below Cv13.out hbd)
    have Rn15 := Aside0.mk (Kd.R_below HRn.out hbd)
    clear hbd
    have zx16_0 : wd.cell? ⟨gx1, 0, none⟩ = some (.int .i64 l0) := (blk_cell Bx15.out 0).trans rfl
    have zx16_1 : wd.cell? ⟨gx1, 1, none⟩ = some (.int .i64 l1) := (blk_cell Bx15.out 1).trans rfl
    have zx16_2 : wd.cell? ⟨gx1, 2, none⟩ = some (.int .i64 l2) := (blk_cell Bx15.out 2).trans rfl
    have zx16_3 : wd.cell? ⟨gx1, 3, none⟩ = some (.int .i64 l3) := (blk_cell Bx15.out 3).trans rfl
    have za16_0 : wd.cell? ⟨ga6, 0, none⟩ = some (.int .i64 l.1) := (blk_cell Ba15.out 0).trans rfl
    have za16_1 : wd.cell? ⟨ga6, 1, none⟩ = some (.int .i64 l.2.1) := (blk_cell Ba15.out 1).trans rfl
    have za16_2 : wd.cell? ⟨ga6, 2, none⟩ = some (.int .i64 l.2.2.1) := (blk_cell Ba15.out 2).trans rfl
    have za16_3 : wd.cell? ⟨ga6, 3, none⟩ = some (.int .i64 l.2.2.2) := (blk_cell Ba15.out 3).trans rfl
    have zb16_0 : wd.cell? ⟨gb11, 0, none⟩ = some (.int .i64 l.1) := (blk_cell Bb15.out 0).trans rfl
    have zb16_1 : wd.cell? ⟨gb11, 1, none⟩ = some (.int .i64 l.2.1) := (blk_cell Bb15.out 1).trans rfl
    have zb16_2 : wd.cell? ⟨gb11, 2, none⟩ = some (.int .i64 l.2.2.1) := (blk_cell Bb15.out 2).trans rfl
    have zb16_3 : wd.cell? ⟨gb11, 3, none⟩ = some (.int .i64 l.2.2.2) := (blk_cell Bb15.out 3).trans rfl
    have zax17_0 : ∀ o, (wd.alloc o).cell? ⟨gx1, 0, none⟩ = some (.int .i64 l0) := fun o => (blk_cell (blk_alloc Bx15.out o) 0).trans rfl
    have zax17_1 : ∀ o, (wd.alloc o).cell? ⟨gx1, 1, none⟩ = some (.int .i64 l1) := fun o => (blk_cell (blk_alloc Bx15.out o) 1).trans rfl
    have zax17_2 : ∀ o, (wd.alloc o).cell? ⟨gx1, 2, none⟩ = some (.int .i64 l2) := fun o => (blk_cell (blk_alloc Bx15.out o) 2).trans rfl
    have zax17_3 : ∀ o, (wd.alloc o).cell? ⟨gx1, 3, none⟩ = some (.int .i64 l3) := fun o => (blk_cell (blk_alloc Bx15.out o) 3).trans rfl
    have zaa17_0 : ∀ o, (wd.alloc o).cell? ⟨ga6, 0, none⟩ = some (.int .i64 l.1) := fun o => (blk_cell (blk_alloc Ba15.out o) 0).trans rfl
    have zaa17_1 : ∀ o, (wd.alloc o).cell? ⟨ga6, 1, none⟩ = some (.int .i64 l.2.1) := fun o => (blk_cell (blk_alloc Ba15.out o) 1).trans rfl
    have zaa17_2 : ∀ o, (wd.alloc o).cell? ⟨ga6, 2, none⟩ = some (.int .i64 l.2.2.1) := fun o => (blk_cell (blk_alloc Ba15.out o) 2).trans rfl
    have zaa17_3 : ∀ o, (wd.alloc o).cell? ⟨ga6, 3, none⟩ = some (.int .i64 l.2.2.2) := fun o => (blk_cell (blk_alloc Ba15.out o) 3).trans rfl
    have zab17_0 : ∀ o, (wd.alloc o).cell? ⟨gb11, 0, none⟩ = some (.int .i64 l.1) := fun o => (blk_cell (blk_alloc Bb15.out o) 0).trans rfl
    have zab17_1 : ∀ o, (wd.alloc o).cell? ⟨gb11, 1, none⟩ = some (.int .i64 l.2.1) := fun o => (blk_cell (blk_alloc Bb15.out o) 1).trans rfl
    have zab17_2 : ∀ o, (wd.alloc o).cell? ⟨gb11, 2, none⟩ = some (.int .i64 l.2.2.1) := fun o => (blk_cell (blk_alloc Bb15.out o) 2).trans rfl
    have zab17_3 : ∀ o, (wd.alloc o).cell? ⟨gb11, 3, none⟩ = some (.int .i64 l.2.2.2) := fun o => (blk_cell (blk_alloc Bb15.out o) 3).trans rfl
    simp only [leaA, if_true, Bool.false_eq_true, if_false]
    cases q
    · skip
      go_wp2_with fail
      go_ret
      exact ⟨rfl, by repeat (first | exact HB15.out | apply below_alloc)⟩
    · skip
      go_wp2_with fail
      obtain ⟨W18, hw18⟩ : ∃ x : World, x = wd.alloc (.cells #[.int .i64 0, .int .i64 0, .int .i64 0, .int .i64 0] 24) := ⟨_, rfl⟩
      have hbs18 : Below wd.heap.size wd W18 := by rw [hw18]; repeat (first | exact Below.refl _ _ | refine below_alloc ?_ _ | refine below_drew ?_)
      obtain ⟨gc18, hgc18⟩ : ∃ x, x = wd.heap.size := ⟨_, rfl⟩
      have GSc18 : Aside0 (W.heap.size ≤ gc18) := ⟨by rw [hgc18]; have := HB15.out.size; omega⟩
      have Bc18 : Aside0 (W18.heap[gc18]? = some (.cells #[.int .i64 0, .int .i64 0, .int .i64 0, .int .i64 0] 24 (0, 0))) := ⟨by rw [hw18, hgc18]; exact blk_new _ _⟩
      rw [← hw18]
      rw [← hgc18]
      clear hw18 hgc18
      clear zx16_0 zx16_1 zx16_2 zx16_3 za16_0 za16_1 za16_2 za16_3 zb16_0 zb16_1 zb16_2 zb16_3 zax17_0 zax17_1 zax17_2 zax17_3 zaa17_0 zaa17_1 zaa17_2 zaa17_3 zab17_0 zab17_1 zab17_2 zab17_3
      have HB19 := Aside0.mk (below_step HB15.out hbs18)
      have Bx19 : Aside0 (W18.heap[gx1]? = some (.cells #[.int .i64 l0, .int .i64 l1, .int .i64 l2, .int .i64 l3] 24 (0, 0))) := ⟨(hbs18.block _ (blk_lt Bx15.out)).trans Bx15.out⟩
      have Ba19 : Aside0 (W18.heap[ga6]? = some (.cells #[.int .i64 l.1, .int .i64 l.2.1, .int .i64 l.2.2.1, .int .i64 l.2.2.2] 24 (0, 0))) := ⟨(hbs18.block _ (blk_lt Ba15.out)).trans Ba15.out⟩
      have Bb19 : Aside0 (W18.heap[gb11]? = some (.cells #[.int .i64 l.1, .int .i64 l.2.1, .int .i64 l.2.2.1, .int .i64 l.2.2.2] 24 (0, 0))) := ⟨(hbs18.block _ (blk_lt Bb15.out)).trans Bb15.out⟩
      have Cv19 := Aside0.mk (Kd.C_below Cv15.out hbs18)
      have Rn19 := Aside0.mk (Kd.R_below Rn15.out hbs18)
      clear hbs18
      refine (nums4_v l.1 l.2.1 l.2.2.1 l.2.2.2 _).mono ?_
      rintro e we ⟨Bm, dm, rfl, hRm, hbe⟩
      have HB20 := Aside0.mk (below_step HB19.out hbe)
      have Bx20 : Aside0 (we.heap[gx1]? = some (.cells #[.int .i64 l0, .int .i64 l1, .int .i64 l2, .int .i64 l3] 24 (0, 0))) := ⟨(hbe.block _ (blk_lt Bx19.out)).trans Bx19.out⟩
      have Ba20 : Aside0 (we.heap[ga6]? = some (.cells #[.int .i64 l.1, .int .i64 l.2.1, .int .i64 l.2.2.1, .int .i64 l.2.2.2] 24 (0, 0))) := ⟨(hbe.block _ (blk_lt Ba19.out)).trans Ba19.out⟩
      have Bb20 : Aside0 (we.heap[gb11]? = some (.cells #[.int .i64 l.1, .int .i64 l.2.1, .int .i64 l.2.2.1, .int .i64 l.2.2.2] 24 (0, 0))) := ⟨(hbe.block _ (blk_lt Bb19.out)).trans Bb19.out⟩
      have Bc20 : Aside0 (we.heap[gc18]? = some (.cells #[.int .i64 0, .int .i64 0, .int .i64 0, .int .i64 0] 24 (0, 0))) := ⟨(hbe.block _ (blk_lt Bc18.out)).trans Bc18.out⟩
      have Cv20 := Aside0.mk (Kd.C_below Cv19.out hbe)
      have Rn20 := Aside0.mk (Kd.R_below Rn19.out hbe)
      clear hbe
      have HRm := Aside0.mk hRm
      clear hRm
      go_wp2_with fail
      refine (ints_v true Bm dm [l.1, l.2.1, l.2.2.1, l.2.2.2] A0 c0 v _ (decide_eq_true (by rw [← HL.out]; exact okL_nums HQ.out)) (Kd.R_reads' HRm.out).2.2 (Kd.R_reads' HRm.out).2.1 Cv20.out hc (by simp)).mono ?_
      rintro e wf ⟨rfl, hbf⟩
      have HB21 := Aside0.mk (below_step HB20.out hbf)
      have Bx21 : Aside0 (wf.heap[gx1]? = some (.cells #[.int .i64 l0, .int .i64 l1, .int .i64 l2, .int .i64 l3] 24 (0, 0))) := ⟨(hbf.block _ (blk_lt Bx20.out)).trans Bx20.out⟩
      have Ba21 : Aside0 (wf.heap[ga6]? = some (.cells #[.int .i64 l.1, .int .i64 l.2.1, .int .i64 l.2.2.1, .int .i64 l.2.2.2] 24 (0, 0))) := ⟨(hbf.block _ (blk_lt Ba20.out)).trans Ba20.out⟩
      have Bb21 : Aside0 (wf.heap[gb11]? = some (.cells #[.int .i64 l.1, .int .i64 l.2.1, .int .i64 l.2.2.1, .int .i64 l.2.2.2] 24 (0, 0))) := ⟨(hbf.block _ (blk_lt Bb20.out)).trans Bb20.out⟩
      have Bc21 : Aside0 (wf.heap[gc18]? = some (.cells #[.int .i64 0, .int .i64 0, .int .i64 0, .int .i64 0] 24 (0, 0))) := ⟨(hbf.block _ (blk_lt Bc20.out)).trans Bc20.out⟩
      have Cv21 := Aside0.mk (Kd.C_below Cv20.out hbf)
      have Rn21 := Aside0.mk (Kd.R_below Rn20.out hbf)
      have Rm21 := Aside0.mk (Kd.R_below HRm.out hbf)
      clear hbf
      go_wp2_with fail
      go_ret
      exact ⟨rfl, HB21.out⟩
  · skip
    have d0 : decide (1 ≤ l0) = true := decide_eq_true a0
    have d1 : decide (0 ≤ l1) = true := decide_eq_true a1
    have d2 : decide (0 ≤ l2) = true := decide_eq_true a2
    have d3 : decide (0 ≤ l3) = false := decide_eq_false a3
    have HQ2 := Aside0.mk (show decide (1 ≤ l0 ∧ 0 ≤ l1 ∧ 0 ≤ l2 ∧ 0 ≤ l3) = false from decide_eq_false (by omega))
    clear a0 a1 a2 a3
    refine (take4_v l0 l1 l2 l3 false HQ2.out Bn dn _ (show (Kd.int .i64).C _ Bn 4 [l0, l1, l2, l3] from (Kd.R_reads' HRn.out).2.2) (Kd.R_reads' HRn.out).2.1).mono ?_
    rintro e wd ⟨rfl, hbd⟩
    have HB15 := Aside0.mk (below_step HB13.out hbd)
    have Bx15 : Aside0 (wd.heap[gx1]? = some (.cells #[.int .i64 l0, .int .i64 l1, .int .i64 l2, .int .i64 l3] 24 (0, 0))) := ⟨(hbd.block _ (blk_lt Bx13.out)).trans Bx13.out⟩
    have Ba15 : Aside0 (wd.heap[ga6]? = some (.cells #[.int .i64 l.1, .int .i64 l.2.1, .int .i64 l.2.2.1, .int .i64 l.2.2.2] 24 (0, 0))) := ⟨(hbd.block _ (blk_lt Ba13.out)).trans Ba13.out⟩
    have Bb15 : Aside0 (wd.heap[gb11]? = some (.cells #[.int .i64 l.1, .int .i64 l.2.1, .int .i64 l.2.2.1, .int .i64 l.2.2.2] 24 (0, 0))) := ⟨(hbd.block _ (blk_lt Bb13.out)).trans Bb13.out⟩
    have Cv15 := Aside0.mk (Kd.C_below Cv13.out hbd)
    have Rn15 := Aside0.mk (Kd.R_below HRn.out hbd)
    clear hbd
    have zx16_0 : wd.cell? ⟨gx1, 0, none⟩ = some (.int .i64 l0) := (blk_cell Bx15.out 0).trans rfl
    have zx16_1 : wd.cell? ⟨gx1, 1, none⟩ = some (.int .i64 l1) := (blk_cell Bx15.out 1).trans rfl
    have zx16_2 : wd.cell? ⟨gx1, 2, none⟩ = some (.int .i64 l2) := (blk_cell Bx15.out 2).trans rfl
    have zx16_3 : wd.cell? ⟨gx1, 3, none⟩ = some (.int .i64 l3) := (blk_cell Bx15.out 3).trans rfl
    have za16_0 : wd.cell? ⟨ga6, 0, none⟩ = some (.int .i64 l.1) := (blk_cell Ba15.out 0).trans rfl
    have za16_1 : wd.cell? ⟨ga6, 1, none⟩ = some (.int .i64 l.2.1) := (blk_cell Ba15.out 1).trans rfl
    have za16_2 : wd.cell? ⟨ga6, 2, none⟩ = some (.int .i64 l.2.2.1) := (blk_cell Ba15.out 2).trans rfl
    have za16_3 : wd.cell? ⟨ga6, 3, none⟩ = some (.int .i64 l.2.2.2) := (blk_cell Ba15.out 3).trans rfl
    have zb16_0 : wd.cell? ⟨gb11, 0, none⟩ = some (.int .i64 l.1) := (blk_cell Bb15.out 0).trans rfl
    have zb16_1 : wd.cell? ⟨gb11, 1, none⟩ = some (.int .i64 l.2.1) := (blk_cell Bb15.out 1).trans rfl
    have zb16_2 : wd.cell? ⟨gb11, 2, none⟩ = some (.int .i64 l.2.2.1) := (blk_cell Bb15.out 2).trans rfl
    have zb16_3 : wd.cell? ⟨gb11, 3, none⟩ = some (.int .i64 l.2.2.2) := (blk_cell Bb15.out 3).trans rfl
    have zax17_0 : ∀ o, (wd.alloc o).cell? ⟨gx1, 0, none⟩ = some (.int .i64 l0) := fun o => (blk_cell (blk_alloc Bx15.out o) 0).trans rfl
    have zax17_1 : ∀ o, (wd.alloc o).cell? ⟨gx1, 1, none⟩ = some (.int .i64 l1) := fun o => (blk_cell (blk_alloc Bx15.out o) 1).trans rfl
    have zax17_2 : ∀ o, (wd.alloc o).cell? ⟨gx1, 2, none⟩ = some (.int .i64 l2) := fun o => (blk_cell (blk_alloc Bx15.out o) 2).trans rfl
    have zax17_3 : ∀ o, (wd.alloc o).cell? ⟨gx1, 3, none⟩ = some (.int .i64 l3) := fun o => (blk_cell (blk_alloc Bx15.out o) 3).trans rfl
    have zaa17_0 : ∀ o, (wd.alloc o).cell? ⟨ga6, 0, none⟩ = some (.int .i64 l.1) := fun o => (blk_cell (blk_alloc Ba15.out o) 0).trans rfl
    have zaa17_1 : ∀ o, (wd.alloc o).cell? ⟨ga6, 1, none⟩ = some (.int .i64 l.2.1) := fun o => (blk_cell (blk_alloc Ba15.out o) 1).trans rfl
    have zaa17_2 : ∀ o, (wd.alloc o).cell? ⟨ga6, 2, none⟩ = some (.int .i64 l.2.2.1) := fun o => (blk_cell (blk_alloc Ba15.out o) 2).trans rfl
    have zaa17_3 : ∀ o, (wd.alloc o).cell? ⟨ga6, 3, none⟩ = some (.int .i64 l.2.2.2) := fun o => (blk_cell (blk_alloc Ba15.out o) 3).trans rfl
    have zab17_0 : ∀ o, (wd.alloc o).cell? ⟨gb11, 0, none⟩ = some (.int .i64 l.1) := fun o => (blk_cell (blk_alloc Bb15.out o) 0).trans rfl
    have zab17_1 : ∀ o, (wd.alloc o).cell? ⟨gb11, 1, none⟩ = some (.int .i64 l.2.1) := fun o => (blk_cell (blk_alloc Bb15.out o) 1).trans rfl
    have zab17_2 : ∀ o, (wd.alloc o).cell? ⟨gb11, 2, none⟩ = some (.int .i64 l.2.2.1) := fun o => (blk_cell (blk_alloc Bb15.out o) 2).trans rfl
    have zab17_3 : ∀ o, (wd.alloc o).cell? ⟨gb11, 3, none⟩ = some (.int .i64 l.2.2.2) := fun o => (blk_cell (blk_alloc Bb15.out o) 3).trans rfl
    simp only [leaA, if_true, Bool.false_eq_true, if_false]
    cases q
    · skip
      go_wp2_with fail
      go_ret
      exact ⟨rfl, by repeat (first | exact HB15.out | apply below_alloc)⟩
    · skip
      go_wp2_with fail
      obtain ⟨W18, hw18⟩ : ∃ x : World, x = wd.alloc (.cells #[.int .i64 0, .int .i64 0, .int .i64 0, .int .i64 0] 24) := ⟨_, rfl⟩
      have hbs18 : Below wd.heap.size wd W18 := by rw [hw18]; repeat (first | exact Below.refl _ _ | refine below_alloc ?_ _ | refine below_drew ?_)
      obtain ⟨gc18, hgc18⟩ : ∃ x, x = wd.heap.size := ⟨_, rfl⟩
      have GSc18 : Aside0 (W.heap.size ≤ gc18) := ⟨by rw [hgc18]; have := HB15.out.size; omega⟩
      have Bc18 : Aside0 (W18.heap[gc18]? = some (.cells #[.int .i64 0, .int .i64 0, .int .i64 0, .int .i64 0] 24 (0, 0))) := ⟨by rw [hw18, hgc18]; exact blk_new _ _⟩
      rw [← hw18]
      rw [← hgc18]
      clear hw18 hgc18
      clear zx16_0 zx16_1 zx16_2 zx16_3 za16_0 za16_1 za16_2 za16_3 zb16_0 zb16_1 zb16_2 zb16_3 zax17_0 zax17_1 zax17_2 zax17_3 zaa17_0 zaa17_1 zaa17_2 zaa17_3 zab17_0 zab17_1 zab17_2 zab17_3
      have HB19 := Aside0.mk (below_step HB15.out hbs18)
      have Bx19 : Aside0 (W18.heap[gx1]? = some (.cells #[.int .i64 l0, .int .i64 l1, .int .i64 l2, .int .i64 l3] 24 (0, 0))) := ⟨(hbs18.block _ (blk_lt Bx15.out)).trans Bx15.out⟩
      have Ba19 : Aside0 (W18.heap[ga6]? = some (.cells #[.int .i64 l.1, .int .i64 l.2.1, .int .i64 l.2.2.1, .int .i64 l.2.2.2] 24 (0, 0))) := ⟨(hbs18.block _ (blk_lt Ba15.out)).trans Ba15.out⟩
      have Bb19 : Aside0 (W18.heap[gb11]? = some (.cells #[.int .i64 l.1, .int .i64 l.2.1, .int .i64 l.2.2.1, .int .i64 l.2.2.2] 24 (0, 0))) := ⟨(hbs18.block _ (blk_lt Bb15.out)).trans Bb15.out⟩
      have Cv19 := Aside0.mk (Kd.C_below Cv15.out hbs18)
      have Rn19 := Aside0.mk (Kd.R_below Rn15.out hbs18)
      clear hbs18
      refine (nums4_v l.1 l.2.1 l.2.2.1 l.2.2.2 _).mono ?_
      rintro e we ⟨Bm, dm, rfl, hRm, hbe⟩
      have HB20 := Aside0.mk (below_step HB19.out hbe)
      have Bx20 : Aside0 (we.heap[gx1]? = some (.cells #[.int .i64 l0, .int .i64 l1, .int .i64 l2, .int .i64 l3] 24 (0, 0))) := ⟨(hbe.block _ (blk_lt Bx19.out)).trans Bx19.out⟩
      have Ba20 : Aside0 (we.heap[ga6]? = some (.cells #[.int .i64 l.1, .int .i64 l.2.1, .int .i64 l.2.2.1, .int .i64 l.2.2.2] 24 (0, 0))) := ⟨(hbe.block _ (blk_lt Ba19.out)).trans Ba19.out⟩
      have Bb20 : Aside0 (we.heap[gb11]? = some (.cells #[.int .i64 l.1, .int .i64 l.2.1, .int .i64 l.2.2.1, .int .i64 l.2.2.2] 24 (0, 0))) := ⟨(hbe.block _ (blk_lt Bb19.out)).trans Bb19.out⟩
      have Bc20 : Aside0 (we.heap[gc18]? = some (.cells #[.int .i64 0, .int .i64 0, .int .i64 0, .int .i64 0] 24 (0, 0))) := ⟨(hbe.block _ (blk_lt Bc18.out)).trans Bc18.out⟩
      have Cv20 := Aside0.mk (Kd.C_below Cv19.out hbe)
      have Rn20 := Aside0.mk (Kd.R_below Rn19.out hbe)
      clear hbe
      have HRm := Aside0.mk hRm
      clear hRm
      go_wp2_with fail
      refine (ints_v true Bm dm [l.1, l.2.1, l.2.2.1, l.2.2.2] A0 c0 v _ (decide_eq_true (by rw [← HL.out]; exact okL_nums HQ.out)) (Kd.R_reads' HRm.out).2.2 (Kd.R_reads' HRm.out).2.1 Cv20.out hc (by simp)).mono ?_
      rintro e wf ⟨rfl, hbf⟩
      have HB21 := Aside0.mk (below_step HB20.out hbf)
      have Bx21 : Aside0 (wf.heap[gx1]? = some (.cells #[.int .i64 l0, .int .i64 l1, .int .i64 l2, .int .i64 l3] 24 (0, 0))) := ⟨(hbf.block _ (blk_lt Bx20.out)).trans Bx20.out⟩
      have Ba21 : Aside0 (wf.heap[ga6]? = some (.cells #[.int .i64 l.1, .int .i64 l.2.1, .int .i64 l.2.2.1, .int .i64 l.2.2.2] 24 (0, 0))) := ⟨(hbf.block _ (blk_lt Ba20.out)).trans Ba20.out⟩
      have Bb21 : Aside0 (wf.heap[gb11]? = some (.cells #[.int .i64 l.1, .int .i64 l.2.1, .int .i64 l.2.2.1, .int .i64 l.2.2.2] 24 (0, 0))) := ⟨(hbf.block _ (blk_lt Bb20.out)).trans Bb20.out⟩
      have Bc21 : Aside0 (wf.heap[gc18]? = some (.cells #[.int .i64 0, .int .i64 0, .int .i64 0, .int .i64 0] 24 (0, 0))) := ⟨(hbf.block _ (blk_lt Bc20.out)).trans Bc20.out⟩
      have Cv21 := Aside0.mk (Kd.C_below Cv20.out hbf)
      have Rn21 := Aside0.mk (Kd.R_below Rn20.out hbf)
      have Rm21 := Aside0.mk (Kd.R_below HRm.out hbf)
      clear hbf
      go_wp2_with fail
      go_ret
      exact ⟨rfl, HB21.out⟩
  · skip
    have d0 : decide (1 ≤ l0) = true := decide_eq_true a0
    have d1 : decide (0 ≤ l1) = true := decide_eq_true a1
    have d2 : decide (0 ≤ l2) = true := decide_eq_true a2
    have d3 : decide (0 ≤ l3) = true := decide_eq_true a3
    have HQ2 := Aside0.mk (show decide (1 ≤ l0 ∧ 0 ≤ l1 ∧ 0 ≤ l2 ∧ 0 ≤ l3) = true from decide_eq_true ⟨a0, a1, a2, a3⟩)
    clear a0 a1 a2 a3
    refine (take4_v l0 l1 l2 l3 true HQ2.out Bn dn _ (show (Kd.int .i64).C _ Bn 4 [l0, l1, l2, l3] from (Kd.R_reads' HRn.out).2.2) (Kd.R_reads' HRn.out).2.1).mono ?_
    rintro e wd ⟨rfl, hbd⟩
    have HB15 := Aside0.mk (below_step HB13.out hbd)
    have Bx15 : Aside0 (wd.heap[gx1]? = some (.cells #[.int .i64 l0, .int .i64 l1, .int .i64 l2, .int .i64 l3] 24 (0, 0))) := ⟨(hbd.block _ (blk_lt Bx13.out)).trans Bx13.out⟩
    have Ba15 : Aside0 (wd.heap[ga6]? = some (.cells #[.int .i64 l.1, .int .i64 l.2.1, .int .i64 l.2.2.1, .int .i64 l.2.2.2] 24 (0, 0))) := ⟨(hbd.block _ (blk_lt Ba13.out)).trans Ba13.out⟩
    have Bb15 : Aside0 (wd.heap[gb11]? = some (.cells #[.int .i64 l.1, .int .i64 l.2.1, .int .i64 l.2.2.1, .int .i64 l.2.2.2] 24 (0, 0))) := ⟨(hbd.block _ (blk_lt Bb13.out)).trans Bb13.out⟩
    have Cv15 := Aside0.mk (Kd.C_below Cv13.out hbd)
    have Rn15 := Aside0.mk (Kd.R_below HRn.out hbd)
    clear hbd
    have zx16_0 : wd.cell? ⟨gx1, 0, none⟩ = some (.int .i64 l0) := (blk_cell Bx15.out 0).trans rfl
    have zx16_1 : wd.cell? ⟨gx1, 1, none⟩ = some (.int .i64 l1) := (blk_cell Bx15.out 1).trans rfl
    have zx16_2 : wd.cell? ⟨gx1, 2, none⟩ = some (.int .i64 l2) := (blk_cell Bx15.out 2).trans rfl
    have zx16_3 : wd.cell? ⟨gx1, 3, none⟩ = some (.int .i64 l3) := (blk_cell Bx15.out 3).trans rfl
    have za16_0 : wd.cell? ⟨ga6, 0, none⟩ = some (.int .i64 l.1) := (blk_cell Ba15.out 0).trans rfl
    have za16_1 : wd.cell? ⟨ga6, 1, none⟩ = some (.int .i64 l.2.1) := (blk_cell Ba15.out 1).trans rfl
    have za16_2 : wd.cell? ⟨ga6, 2, none⟩ = some (.int .i64 l.2.2.1) := (blk_cell Ba15.out 2).trans rfl
    have za16_3 : wd.cell? ⟨ga6, 3, none⟩ = some (.int .i64 l.2.2.2) := (blk_cell Ba15.out 3).trans rfl
    have zb16_0 : wd.cell? ⟨gb11, 0, none⟩ = some (.int .i64 l.1) := (blk_cell Bb15.out 0).trans rfl
    have zb16_1 : wd.cell? ⟨gb11, 1, none⟩ = some (.int .i64 l.2.1) := (blk_cell Bb15.out 1).trans rfl
    have zb16_2 : wd.cell? ⟨gb11, 2, none⟩ = some (.int .i64 l.2.2.1) := (blk_cell Bb15.out 2).trans rfl
    have zb16_3 : wd.cell? ⟨gb11, 3, none⟩ = some (.int .i64 l.2.2.2) := (blk_cell Bb15.out 3).trans rfl
    have zax17_0 : ∀ o, (wd.alloc o).cell? ⟨gx1, 0, none⟩ = some (.int .i64 l0) := fun o => (blk_cell (blk_alloc Bx15.out o) 0).trans rfl
    have zax17_1 : ∀ o, (wd.alloc o).cell? ⟨gx1, 1, none⟩ = some (.int .i64 l1) := fun o => (blk_cell (blk_alloc Bx15.out o) 1).trans rfl
    have zax17_2 : ∀ o, (wd.alloc o).cell? ⟨gx1, 2, none⟩ = some (.int .i64 l2) := fun o => (blk_cell (blk_alloc Bx15.out o) 2).trans rfl
    have zax17_3 : ∀ o, (wd.alloc o).cell? ⟨gx1, 3, none⟩ = some (.int .i64 l3) := fun o => (blk_cell (blk_alloc Bx15.out o) 3).trans rfl
    have zaa17_0 : ∀ o, (wd.alloc o).cell? ⟨ga6, 0, none⟩ = some (.int .i64 l.1) := fun o => (blk_cell (blk_alloc Ba15.out o) 0).trans rfl
    have zaa17_1 : ∀ o, (wd.alloc o).cell? ⟨ga6, 1, none⟩ = some (.int .i64 l.2.1) := fun o => (blk_cell (blk_alloc Ba15.out o) 1).trans rfl
    have zaa17_2 : ∀ o, (wd.alloc o).cell? ⟨ga6, 2, none⟩ = some (.int .i64 l.2.2.1) := fun o => (blk_cell (blk_alloc Ba15.out o) 2).trans rfl
    have zaa17_3 : ∀ o, (wd.alloc o).cell? ⟨ga6, 3, none⟩ = some (.int .i64 l.2.2.2) := fun o => (blk_cell (blk_alloc Ba15.out o) 3).trans rfl
    have zab17_0 : ∀ o, (wd.alloc o).cell? ⟨gb11, 0, none⟩ = some (.int .i64 l.1) := fun o => (blk_cell (blk_alloc Bb15.out o) 0).trans rfl
    have zab17_1 : ∀ o, (wd.alloc o).cell? ⟨gb11, 1, none⟩ = some (.int .i64 l.2.1) := fun o => (blk_cell (blk_alloc Bb15.out o) 1).trans rfl
    have zab17_2 : ∀ o, (wd.alloc o).cell? ⟨gb11, 2, none⟩ = some (.int .i64 l.2.2.1) := fun o => (blk_cell (blk_alloc Bb15.out o) 2).trans rfl
    have zab17_3 : ∀ o, (wd.alloc o).cell? ⟨gb11, 3, none⟩ = some (.int .i64 l.2.2.2) := fun o => (blk_cell (blk_alloc Bb15.out o) 3).trans rfl
    simp only [leaA, if_true, Bool.false_eq_true, if_false]
    cases q
    · skip
      go_wp2_with fail
      go_ret
      exact ⟨rfl, by repeat (first | exact HB15.out | apply below_alloc)⟩
    · skip
      go_wp2_with fail
      obtain ⟨W18, hw18⟩ : ∃ x : World, x = wd.alloc (.cells #[.int .i64 l0, .int .i64 l1, .int .i64 l2, .int .i64 l3] 24) := ⟨_, rfl⟩
      have hbs18 : Below wd.heap.size wd W18 := by rw [hw18]; repeat (first | exact Below.refl _ _ | refine below_alloc ?_ _ | refine below_drew ?_)
      obtain ⟨gc18, hgc18⟩ : ∃ x, x = wd.heap.size := ⟨_, rfl⟩
      have GSc18 : Aside0 (W.heap.size ≤ gc18) := ⟨by rw [hgc18]; have := HB15.out.size; omega⟩
      have Bc18 : Aside0 (W18.heap[gc18]? = some (.cells #[.int .i64 l0, .int .i64 l1, .int .i64 l2, .int .i64 l3] 24 (0, 0))) := ⟨by rw [hw18, hgc18]; exact blk_new _ _⟩
      rw [← hw18]
      rw [← hgc18]
      clear hw18 hgc18
      clear zx16_0 zx16_1 zx16_2 zx16_3 za16_0 za16_1 za16_2 za16_3 zb16_0 zb16_1 zb16_2 zb16_3 zax17_0 zax17_1 zax17_2 zax17_3 zaa17_0 zaa17_1 zaa17_2 zaa17_3 zab17_0 zab17_1 zab17_2 zab17_3
      have HB19 := Aside0.mk (below_step HB15.out hbs18)
      have Bx19 : Aside0 (W18.heap[gx1]? = some (.cells #[.int .i64 l0, .int .i64 l1, .int .i64 l2, .int .i64 l3] 24 (0, 0))) := ⟨(hbs18.block _ (blk_lt Bx15.out)).trans Bx15.out⟩
      have Ba19 : Aside0 (W18.heap[ga6]? = some (.cells #[.int .i64 l.1, .int .i64 l.2.1, .int .i64 l.2.2.1, .int .i64 l.2.2.2] 24 (0, 0))) := ⟨(hbs18.block _ (blk_lt Ba15.out)).trans Ba15.out⟩
      have Bb19 : Aside0 (W18.heap[gb11]? = some (.cells #[.int .i64 l.1, .int .i64 l.2.1, .int .i64 l.2.2.1, .int .i64 l.2.2.2] 24 (0, 0))) := ⟨(hbs18.block _ (blk_lt Bb15.out)).trans Bb15.out⟩
      have Cv19 := Aside0.mk (Kd.C_below Cv15.out hbs18)
      have Rn19 := Aside0.mk (Kd.R_below Rn15.out hbs18)
      clear hbs18
      refine (nums4_v l.1 l.2.1 l.2.2.1 l.2.2.2 _).mono ?_
      rintro e we ⟨Bm, dm, rfl, hRm, hbe⟩
      have HB20 := Aside0.mk (below_step HB19.out hbe)
      have Bx20 : Aside0 (we.heap[gx1]? = some (.cells #[.int .i64 l0, .int .i64 l1, .int .i64 l2, .int .i64 l3] 24 (0, 0))) := ⟨(hbe.block _ (blk_lt Bx19.out)).trans Bx19.out⟩
      have Ba20 : Aside0 (we.heap[ga6]? = some (.cells #[.int .i64 l.1, .int .i64 l.2.1, .int .i64 l.2.2.1, .int .i64 l.2.2.2] 24 (0, 0))) := ⟨(hbe.block _ (blk_lt Ba19.out)).trans Ba19.out⟩
      have Bb20 : Aside0 (we.heap[gb11]? = some (.cells #[.int .i64 l.1, .int .i64 l.2.1, .int .i64 l.2.2.1, .int .i64 l.2.2.2] 24 (0, 0))) := ⟨(hbe.block _ (blk_lt Bb19.out)).trans Bb19.out⟩
      have Bc20 : Aside0 (we.heap[gc18]? = some (.cells #[.int .i64 l0, .int .i64 l1, .int .i64 l2, .int .i64 l3] 24 (0, 0))) := ⟨(hbe.block _ (blk_lt Bc18.out)).trans Bc18.out⟩
      have Cv20 := Aside0.mk (Kd.C_below Cv19.out hbe)
      have Rn20 := Aside0.mk (Kd.R_below Rn19.out hbe)
      clear hbe
      have HRm := Aside0.mk hRm
      clear hRm
      go_wp2_with fail
      refine (ints_v true Bm dm [l.1, l.2.1, l.2.2.1, l.2.2.2] A0 c0 v _ (decide_eq_true (by rw [← HL.out]; exact okL_nums HQ.out)) (Kd.R_reads' HRm.out).2.2 (Kd.R_reads' HRm.out).2.1 Cv20.out hc (by simp)).mono ?_
      rintro e wf ⟨rfl, hbf⟩
      have HB21 := Aside0.mk (below_step HB20.out hbf)
      have Bx21 : Aside0 (wf.heap[gx1]? = some (.cells #[.int .i64 l0, .int .i64 l1, .int .i64 l2, .int .i64 l3] 24 (0, 0))) := ⟨(hbf.block _ (blk_lt Bx20.out)).trans Bx20.out⟩
      have Ba21 : Aside0 (wf.heap[ga6]? = some (.cells #[.int .i64 l.1, .int .i64 l.2.1, .int .i64 l.2.2.1, .int .i64 l.2.2.2] 24 (0, 0))) := ⟨(hbf.block _ (blk_lt Ba20.out)).trans Ba20.out⟩
      have Bb21 : Aside0 (wf.heap[gb11]? = some (.cells #[.int .i64 l.1, .int .i64 l.2.1, .int .i64 l.2.2.1, .int .i64 l.2.2.2] 24 (0, 0))) := ⟨(hbf.block _ (blk_lt Bb20.out)).trans Bb20.out⟩
      have Bc21 : Aside0 (wf.heap[gc18]? = some (.cells #[.int .i64 l0, .int .i64 l1, .int .i64 l2, .int .i64 l3] 24 (0, 0))) := ⟨(hbf.block _ (blk_lt Bc20.out)).trans Bc20.out⟩
      have Cv21 := Aside0.mk (Kd.C_below Cv20.out hbf)
      have Rn21 := Aside0.mk (Kd.R_below Rn20.out hbf)
      have Rm21 := Aside0.mk (Kd.R_below HRm.out hbf)
      clear hbf
      go_wp2_with fail
      go_ret
      exact ⟨rfl, HB21.out⟩
def kLease : Kd LeaseT := Kd.iso (Kd.pair (Kd.int .i64) (Kd.pair (Kd.int .i64) (Kd.pair (Kd.int .i64) (Kd.int .i64)))) id
theorem takes_walk (w : World) (A0 : Option Addr) (c0 : Nat) (v : List Int) (hr : (Kd.int .i64).C w A0 v.length v) (hc : v.length ≤ c0) {Q : Prop} (hq : Q) (cs : Array Value) (y : LeaseT) (hK : kLease.K w y cs.toList) {Q' : Prop} (hq' : Q') :
    Calls Try.prog 3 #[.slice A0 v.length c0, .agg cs] w fun e w' => e = .returned (.bool true) ∧ Below w.heap.size w w' := by
  obtain ⟨a0, a1, he, e0, a2, a3, rfl, e1, a4, a5, rfl, e2, e3⟩ := hK
  obtain rfl : a0 = [.int .i64 y.1] := e0
  obtain rfl : a2 = [.int .i64 y.2.1] := e1
  obtain rfl : a4 = [.int .i64 y.2.2.1] := e2
  obtain rfl : a5 = [.int .i64 y.2.2.2] := e3
  obtain rfl : cs = #[.int .i64 y.1, .int .i64 y.2.1, .int .i64 y.2.2.1, .int .i64 y.2.2.2] := by
    rw [← Array.toArray_toList (xs := cs), he]
    rfl
  exact takes_any A0 c0 v _ _ _ _ w hr hc
end Go.Proofs.Ytimfbdiiaakhiaa.MAll

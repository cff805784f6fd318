/- BallotRivals: the walk. -/
import Derived.Test.YtckbidmemdkdpaaOr
set_option linter.unusedVariables false
set_option linter.unusedSimpArgs false
namespace Go.Proofs.Ytckbidmemdkdpaa.MAll
open Go.RowKit Go.Proofs.YtckbidmemdkdpaaW.PrintWords Go.Proofs.YtckbidmemdkdpaaW.PrintLast Go.Proofs.YtckbidmemdkdpaaW.PrintMore
attribute [local go_sem ↓] Go.wp_at_zero Go.wp_at_succ
attribute [local go_sem high] eqA23
theorem C_blk {W : World} {g e : Nat} {cs : Array Value} (xs : List Int) (h : W.heap[g]? = some (.cells cs e (0, 0))) (hcs : cs = (nums .i64 xs).toArray) (hm : xs.length ≤ 9223372036854775807) : (Kd.int .i64).C W (some ⟨g, 0, none⟩) xs.length xs := by
  subst hcs
  refine Kd.C_of_reads (d := 0) ⟨rfl, hm, fun _ => ⟨_, rfl, fun j hj => ?_⟩⟩
  rw [add_plain]
  refine (blk_cell h j).trans ?_
  simp [nums, List.getD_eq_getElem?_getD, List.getElem?_eq_getElem hj]
theorem grown_set (W : World) (g j : Nat) (v : Value) : W.grownBy (W.setCell ⟨g, j, none⟩ v) (some g) := ⟨rfl, rfl, rfl, by simp [World.setCell], fun k _ hk => Below.heap_setCell _ _ _ k (fun e => hk (by rw [e]))⟩
def cnt3 (m : Int) : Int := m % 2 + m / 2 % 2 + m / 4 % 2
theorem count_v (m : Int) (h : 0 ≤ m ∧ m ≤ 7) (w : World) : Calls Try.prog 35 #[.int .u64 m] w fun e w' => e = .returned (.int .i64 (cnt3 m)) ∧ Below w.heap.size w w' := by
  have hm : m = 0 ∨ m = 1 ∨ m = 2 ∨ m = 3 ∨ m = 4 ∨ m = 5 ∨ m = 6 ∨ m = 7 := by omega
  clear h
  rcases hm with rfl | rfl | rfl | rfl | rfl | rfl | rfl | rfl
  all_goals
    go_enter Try.func35, Try.ntmps35
    go_wp2_with fail
    go_ret
    exact ⟨by kernel_rfl, Below.refl _ _⟩
theorem b_true {b : Bool} (h : ¬ b = false) : b = true := by cases b <;> simp_all
theorem b_false {b : Bool} (h : ¬ b = true) : b = false := by cases b <;> simp_all
theorem umod8 (x : Int) : 0 ≤ (IntKind.u64.wrap x).tmod 8 ∧ (IntKind.u64.wrap x).tmod 8 ≤ 7 := by
  have h : 0 ≤ IntKind.u64.wrap x := by show 0 ≤ x % _; exact Int.emod_nonneg _ (by decide)
  rw [Int.tmod_eq_emod_of_nonneg h]
  omega
def bit3 (m : Int) (q : Nat) : Bool := m / 2 ^ q % 2 == 1
theorem bits0 (m : Int) (h : 0 ≤ m ∧ m ≤ 7) : (Go.bits .and .u64 m 1 == 1) = bit3 m 0 := by
  have hm : m = 0 ∨ m = 1 ∨ m = 2 ∨ m = 3 ∨ m = 4 ∨ m = 5 ∨ m = 6 ∨ m = 7 := by omega
  rcases hm with rfl | rfl | rfl | rfl | rfl | rfl | rfl | rfl <;> decide +kernel
theorem bits1 (m : Int) (h : 0 ≤ m ∧ m ≤ 7) : (Go.bits .and .u64 (m / 2) 1 == 1) = bit3 m 1 := by
  have hm : m = 0 ∨ m = 1 ∨ m = 2 ∨ m = 3 ∨ m = 4 ∨ m = 5 ∨ m = 6 ∨ m = 7 := by omega
  rcases hm with rfl | rfl | rfl | rfl | rfl | rfl | rfl | rfl <;> decide +kernel
theorem bits2 (m : Int) (h : 0 ≤ m ∧ m ≤ 7) : (Go.bits .and .u64 (m / 4) 1 == 1) = bit3 m 2 := by
  have hm : m = 0 ∨ m = 1 ∨ m = 2 ∨ m = 3 ∨ m = 4 ∨ m = 5 ∨ m = 6 ∨ m = 7 := by omega
  rcases hm with rfl | rfl | rfl | rfl | rfl | rfl | rfl | rfl <;> decide +kernel
def acc3 (m n : Int) : Nat → Int
  | 0 => 0
  | q + 1 => acc3 m n q + if bit3 n q && !bit3 m q then 1 else 0
theorem acc3_le (m n : Int) : ∀ q, 0 ≤ acc3 m n q ∧ acc3 m n q ≤ q
  | 0 => ⟨by simp [acc3], by simp [acc3]⟩
  | q + 1 => by
    have := acc3_le m n q
    unfold acc3
    split <;> omega
theorem acc3_end (m n : Int) (hm : 0 ≤ m ∧ m ≤ 7) (hn : 0 ≤ n ∧ n ≤ 7) (h1 : ¬ cnt3 m < 2) : acc3 m n 3 < 2 := by
  have hm : m = 0 ∨ m = 1 ∨ m = 2 ∨ m = 3 ∨ m = 4 ∨ m = 5 ∨ m = 6 ∨ m = 7 := by omega
  have hn : n = 0 ∨ n = 1 ∨ n = 2 ∨ n = 3 ∨ n = 4 ∨ n = 5 ∨ n = 6 ∨ n = 7 := by omega
  rcases hm with rfl | rfl | rfl | rfl | rfl | rfl | rfl | rfl <;> first | (exact absurd (show cnt3 _ < 2 by decide +kernel) h1) | (rcases hn with rfl | rfl | rfl | rfl | rfl | rfl | rfl | rfl <;> decide +kernel)
theorem prep_fresh (b : Bal) (hs : soundB b = true) (hb : ¬ b = zeroB) : prepR zeroR b = (b, zeroB, []) ∧ prepE zeroR b = none := by
  have hz : lessB zeroB b = true := by
    obtain ⟨x, y, z⟩ := b
    unfold soundB at hs
    have hs := of_decide_eq_true hs
    rw [less_iff]
    unfold zeroB at hb ⊢
    simp only [Prod.mk.injEq] at hb hs ⊢
    omega
  have ha : askedE zeroR b = none := by unfold askedE; rw [if_pos ⟨by decide +kernel, hs, hb⟩]
  unfold prepR prepE
  rw [ha]
  exact ⟨by rw [if_pos ⟨rfl, hz⟩]; rfl, by rw [if_pos rfl]; exact if_pos hz⟩
theorem acc_fresh (b : Bal) (hs : soundB b = true) (hb : ¬ b = zeroB) : accR zeroR b [1] = (b, b, [1]) ∧ accE zeroR b [1] = none := by
  have hz : lessB b zeroB = false := by
    obtain ⟨x, y, z⟩ := b
    unfold soundB at hs
    have hs := of_decide_eq_true hs
    rw [Bool.eq_false_iff]
    intro hl
    rw [less_iff] at hl
    unfold zeroB at hl
    simp only at hl hs
    omega
  have ha : askedE zeroR b = none := by unfold askedE; rw [if_pos ⟨by decide +kernel, hs, hb⟩]
  unfold accR accE
  rw [ha]
  exact ⟨by rw [if_pos ⟨rfl, by decide, hz⟩], by rw [if_pos ⟨rfl, by decide⟩, if_neg (by rw [show zeroR.1 = zeroB from rfl, hz]; decide)]⟩
theorem acc_stale (a b : Bal) (hs : soundB a = true) (ha : ¬ a = zeroB) (hb : soundB b = true) (hl : lessB a b = true) : accR (b, ((0, 0, 0) : Bal), []) a [1] = zeroR ∧ accE (b, ((0, 0, 0) : Bal), []) a [1] = some 11 := by
  have hz : lessB b (0, 0, 0) = false := by
    obtain ⟨x, y, z⟩ := b
    unfold soundB at hb
    have hs := of_decide_eq_true hb
    rw [Bool.eq_false_iff]
    intro hl
    rw [less_iff] at hl
    simp only at hl hs
    omega
  have hk : askedE (b, ((0, 0, 0) : Bal), []) a = none := by
    have hg : goodR (b, ((0, 0, 0) : Bal), []) = true := by
      unfold goodR
      simp only [hb, hz]
      rfl
    unfold askedE
    exact if_pos ⟨hg, hs, ha⟩
  unfold accR accE
  rw [hk]
  exact ⟨by rw [if_neg (fun e => by have := e.2.2; simp only at this; rw [hl] at this; cases this)], by rw [if_pos ⟨rfl, by decide⟩, if_pos hl]⟩
set_option maxHeartbeats 8000000 in
set_option maxRecDepth 100000 in
theorem holds_main (a b : Bal) (x y : Int) (w : World) (h0 : ¬ a.1 < 0) (h1 : ¬ a.2.1 < 0) (h2 : ¬ a.2.2 < 0) (h3 : lessB a b = true) (h4 : ¬ b.2.1 < 0) (h5 : ¬ b.2.2 < 0) (h6 : eqB a zeroB = false) (oa : balOk a) (ob : balOk b) : Calls Try.prog 22 #[.agg (balA a), .agg (balA b), .int .i64 x, .int .i64 y] w fun e w' => e = .returned (.bool true) ∧ Below w.heap.size w w' := by
  have hu23 := Try.underlying23
  have hu26 := Try.underlying26
  have SA : Aside0 (soundB a = true ∧ ¬ a = zeroB) := ⟨decide_eq_true (by omega), of_decide_eq_false h6⟩
  have SB : Aside0 (soundB b = true ∧ ¬ b = zeroB) := ⟨by
    have h := (less_iff a b).1 h3
    refine ⟨decide_eq_true (by omega), fun e => ?_⟩
    rw [e] at h
    unfold zeroB at h
    simp only at h
    omega⟩
  have OA := Aside0.mk oa
  have OB := Aside0.mk ob
  clear oa ob
  have hu30 := Try.underlying30
  have hu45 := Try.underlying45
  have H3 := Aside0.mk h3
  clear h3
  have d0 : decide (a.1 < 0) = false := decide_eq_false h0
  have d1 : decide (a.2.1 < 0) = false := decide_eq_false h1
  have d2 : decide (a.2.2 < 0) = false := decide_eq_false h2
  have d4 : decide (b.2.1 < 0) = false := decide_eq_false h4
  have d5 : decide (b.2.2 < 0) = false := decide_eq_false h5
  have hz := isZero a
  rw [show decide (a = zeroB) = false from h6] at hz
  clear h6 h0 h1 h2 h4 h5
  go_enter Try.func22, Try.ntmps22
  go_wp2_with fail
  obtain ⟨W1, hw1⟩ : ∃ x : World, x = (w.alloc (.cells (balA a) 23)).alloc (.cells (balA b) 23) := ⟨_, rfl⟩
  have hbs1 : Below w.heap.size w W1 := by rw [hw1]; repeat (first | exact Below.refl _ _ | refine below_alloc ?_ _ | refine below_drew ?_)
  obtain ⟨ga1, hga1⟩ : ∃ x, x = w.heap.size := ⟨_, rfl⟩
  have GSa1 : Aside0 (w.heap.size ≤ ga1) := ⟨by rw [hga1]; omega⟩
  have Ba1 : Aside0 (W1.heap[ga1]? = some (.cells #[.int .i64 a.1, .int .i64 a.2.1, .int .i64 a.2.2] 23 (0, 0))) := ⟨by rw [hw1, hga1]; exact blk_alloc (blk_new w _) _⟩
  obtain ⟨gb1, hgb1⟩ : ∃ x, x = w.heap.size + 1 := ⟨_, rfl⟩
  have GSb1 : Aside0 (w.heap.size ≤ gb1) := ⟨by rw [hgb1]; omega⟩
  have Bb1 : Aside0 (W1.heap[gb1]? = some (.cells #[.int .i64 b.1, .int .i64 b.2.1, .int .i64 b.2.2] 23 (0, 0))) := ⟨by rw [hw1, hgb1]; have := blk_new (w.alloc (.cells (balA a) 23)) (.cells (balA b) 23); rwa [World.size_alloc] at this⟩
  rw [← hw1]
  rw [← hgb1]
  rw [← hga1]
  clear hw1 hga1 hgb1
  have HB2 := Aside0.mk hbs1
  clear hbs1
  refine (alive_any _).mono ?_
  rintro e w3 ⟨rfl, hb3⟩
  have HB4 := Aside0.mk (below_step HB2.out hb3)
  have Ba4 : Aside0 (w3.heap[ga1]? = some (.cells #[.int .i64 a.1, .int .i64 a.2.1, .int .i64 a.2.2] 23 (0, 0))) := ⟨(hb3.block _ (blk_lt Ba1.out)).trans Ba1.out⟩
  have Bb4 : Aside0 (w3.heap[gb1]? = some (.cells #[.int .i64 b.1, .int .i64 b.2.1, .int .i64 b.2.2] 23 (0, 0))) := ⟨(hb3.block _ (blk_lt Bb1.out)).trans Bb1.out⟩
  clear hb3
  have za5_0 : w3.cell? ⟨ga1, 0, none⟩ = some (.int .i64 a.1) := (blk_cell Ba4.out 0).trans rfl
  have za5_1 : w3.cell? ⟨ga1, 1, none⟩ = some (.int .i64 a.2.1) := (blk_cell Ba4.out 1).trans rfl
  have za5_2 : w3.cell? ⟨ga1, 2, none⟩ = some (.int .i64 a.2.2) := (blk_cell Ba4.out 2).trans rfl
  have zb5_0 : w3.cell? ⟨gb1, 0, none⟩ = some (.int .i64 b.1) := (blk_cell Bb4.out 0).trans rfl
  have zb5_1 : w3.cell? ⟨gb1, 1, none⟩ = some (.int .i64 b.2.1) := (blk_cell Bb4.out 1).trans rfl
  have zb5_2 : w3.cell? ⟨gb1, 2, none⟩ = some (.int .i64 b.2.2) := (blk_cell Bb4.out 2).trans rfl
  go_wp2_with fail
  refine (refless_v true _ _ _ H3.out).mono ?_
  rintro e w6 ⟨rfl, hb6⟩
  clear za5_0 za5_1 za5_2 zb5_0 zb5_1 zb5_2
  have HB7 := Aside0.mk (below_step HB4.out hb6)
  have Ba7 : Aside0 (w6.heap[ga1]? = some (.cells #[.int .i64 a.1, .int .i64 a.2.1, .int .i64 a.2.2] 23 (0, 0))) := ⟨(hb6.block _ (blk_lt Ba4.out)).trans Ba4.out⟩
  have Bb7 : Aside0 (w6.heap[gb1]? = some (.cells #[.int .i64 b.1, .int .i64 b.2.1, .int .i64 b.2.2] 23 (0, 0))) := ⟨(hb6.block _ (blk_lt Bb4.out)).trans Bb4.out⟩
  clear hb6
  have za8_0 : w6.cell? ⟨ga1, 0, none⟩ = some (.int .i64 a.1) := (blk_cell Ba7.out 0).trans rfl
  have za8_1 : w6.cell? ⟨ga1, 1, none⟩ = some (.int .i64 a.2.1) := (blk_cell Ba7.out 1).trans rfl
  have za8_2 : w6.cell? ⟨ga1, 2, none⟩ = some (.int .i64 a.2.2) := (blk_cell Ba7.out 2).trans rfl
  have zb8_0 : w6.cell? ⟨gb1, 0, none⟩ = some (.int .i64 b.1) := (blk_cell Bb7.out 0).trans rfl
  have zb8_1 : w6.cell? ⟨gb1, 1, none⟩ = some (.int .i64 b.2.1) := (blk_cell Bb7.out 1).trans rfl
  have zb8_2 : w6.cell? ⟨gb1, 2, none⟩ = some (.int .i64 b.2.2) := (blk_cell Bb7.out 2).trans rfl
  go_wp2_with fail
  obtain ⟨m, hm⟩ : ∃ m, (IntKind.u64.wrap x).tmod 8 = m := ⟨_, rfl⟩
  obtain ⟨n, hn⟩ : ∃ n, (IntKind.u64.wrap y).tmod 8 = n := ⟨_, rfl⟩
  rw [hm, hn]
  have bm : 0 ≤ m ∧ m ≤ 7 := by rw [← hm]; exact umod8 x
  have bn : 0 ≤ n ∧ n ≤ 7 := by rw [← hn]; exact umod8 y
  have HM := Aside0.mk bm
  have HN := Aside0.mk bn
  clear hm hn bm bn
  refine (count_v m HM.out _).mono ?_
  rintro e w9 ⟨rfl, hb9⟩
  clear za8_0 za8_1 za8_2 zb8_0 zb8_1 zb8_2
  have HB10 := Aside0.mk (below_step HB7.out hb9)
  have Ba10 : Aside0 (w9.heap[ga1]? = some (.cells #[.int .i64 a.1, .int .i64 a.2.1, .int .i64 a.2.2] 23 (0, 0))) := ⟨(hb9.block _ (blk_lt Ba7.out)).trans Ba7.out⟩
  have Bb10 : Aside0 (w9.heap[gb1]? = some (.cells #[.int .i64 b.1, .int .i64 b.2.1, .int .i64 b.2.2] 23 (0, 0))) := ⟨(hb9.block _ (blk_lt Bb7.out)).trans Bb7.out⟩
  clear hb9
  have za11_0 : w9.cell? ⟨ga1, 0, none⟩ = some (.int .i64 a.1) := (blk_cell Ba10.out 0).trans rfl
  have za11_1 : w9.cell? ⟨ga1, 1, none⟩ = some (.int .i64 a.2.1) := (blk_cell Ba10.out 1).trans rfl
  have za11_2 : w9.cell? ⟨ga1, 2, none⟩ = some (.int .i64 a.2.2) := (blk_cell Ba10.out 2).trans rfl
  have zb11_0 : w9.cell? ⟨gb1, 0, none⟩ = some (.int .i64 b.1) := (blk_cell Bb10.out 0).trans rfl
  have zb11_1 : w9.cell? ⟨gb1, 1, none⟩ = some (.int .i64 b.2.1) := (blk_cell Bb10.out 1).trans rfl
  have zb11_2 : w9.cell? ⟨gb1, 2, none⟩ = some (.int .i64 b.2.2) := (blk_cell Bb10.out 2).trans rfl
  by_cases e1 : cnt3 m < 2
  · have d7 : decide (cnt3 m < 2) = true := decide_eq_true e1
    go_wp2_with fail
    go_ret
    exact ⟨rfl, HB10.out⟩
  have d7 : decide (cnt3 m < 2) = false := decide_eq_false e1
  have E1 := Aside0.mk e1
  clear e1
  go_wp2_with fail
  refine (count_v n HN.out _).mono ?_
  rintro e w12 ⟨rfl, hb12⟩
  clear za11_0 za11_1 za11_2 zb11_0 zb11_1 zb11_2
  have HB13 := Aside0.mk (below_step HB10.out hb12)
  have Ba13 : Aside0 (w12.heap[ga1]? = some (.cells #[.int .i64 a.1, .int .i64 a.2.1, .int .i64 a.2.2] 23 (0, 0))) := ⟨(hb12.block _ (blk_lt Ba10.out)).trans Ba10.out⟩
  have Bb13 : Aside0 (w12.heap[gb1]? = some (.cells #[.int .i64 b.1, .int .i64 b.2.1, .int .i64 b.2.2] 23 (0, 0))) := ⟨(hb12.block _ (blk_lt Bb10.out)).trans Bb10.out⟩
  clear hb12
  have za14_0 : w12.cell? ⟨ga1, 0, none⟩ = some (.int .i64 a.1) := (blk_cell Ba13.out 0).trans rfl
  have za14_1 : w12.cell? ⟨ga1, 1, none⟩ = some (.int .i64 a.2.1) := (blk_cell Ba13.out 1).trans rfl
  have za14_2 : w12.cell? ⟨ga1, 2, none⟩ = some (.int .i64 a.2.2) := (blk_cell Ba13.out 2).trans rfl
  have zb14_0 : w12.cell? ⟨gb1, 0, none⟩ = some (.int .i64 b.1) := (blk_cell Bb13.out 0).trans rfl
  have zb14_1 : w12.cell? ⟨gb1, 1, none⟩ = some (.int .i64 b.2.1) := (blk_cell Bb13.out 1).trans rfl
  have zb14_2 : w12.cell? ⟨gb1, 2, none⟩ = some (.int .i64 b.2.2) := (blk_cell Bb13.out 2).trans rfl
  by_cases e2 : cnt3 n < 2
  · have d8 : decide (cnt3 n < 2) = true := decide_eq_true e2
    go_wp2_with fail
    go_ret
    exact ⟨rfl, HB13.out⟩
  have d8 : decide (cnt3 n < 2) = false := decide_eq_false e2
  have E2 := Aside0.mk e2
  clear e2
  go_wp2_with fail
  go_loopw [12, 13] (fun v12 v13 w' => ∃ q : Nat, q ≤ 3 ∧ v13 = .int .u64 q ∧ v12 = .int .i64 (acc3 m n q) ∧ Aside0 (Below w12.heap.size w12 w')) (fun _ v _ => 3 - (intOf v).toNat)
  case atStart => exact ⟨0, by omega, rfl, rfl, ⟨Below.refl _ _⟩⟩
  case round =>
    obtain ⟨q, hq, rfl, rfl, HW⟩ := hrel
    have hbw := HW.out
    clear za14_0 za14_1 za14_2 zb14_0 zb14_1 zb14_2
    have HB15 := Aside0.mk hbw
    have Ba15 : Aside0 (wr.heap[ga1]? = some (.cells #[.int .i64 a.1, .int .i64 a.2.1, .int .i64 a.2.2] 23 (0, 0))) := ⟨(hbw.block _ (blk_lt Ba13.out)).trans Ba13.out⟩
    have Bb15 : Aside0 (wr.heap[gb1]? = some (.cells #[.int .i64 b.1, .int .i64 b.2.1, .int .i64 b.2.2] 23 (0, 0))) := ⟨(hbw.block _ (blk_lt Bb13.out)).trans Bb13.out⟩
    clear hbw
    have za16_0 : wr.cell? ⟨ga1, 0, none⟩ = some (.int .i64 a.1) := (blk_cell Ba15.out 0).trans rfl
    have za16_1 : wr.cell? ⟨ga1, 1, none⟩ = some (.int .i64 a.2.1) := (blk_cell Ba15.out 1).trans rfl
    have za16_2 : wr.cell? ⟨ga1, 2, none⟩ = some (.int .i64 a.2.2) := (blk_cell Ba15.out 2).trans rfl
    have zb16_0 : wr.cell? ⟨gb1, 0, none⟩ = some (.int .i64 b.1) := (blk_cell Bb15.out 0).trans rfl
    have zb16_1 : wr.cell? ⟨gb1, 1, none⟩ = some (.int .i64 b.2.1) := (blk_cell Bb15.out 1).trans rfl
    have zb16_2 : wr.cell? ⟨gb1, 2, none⟩ = some (.int .i64 b.2.2) := (blk_cell Bb15.out 2).trans rfl
    have hq4 : q = 0 ∨ q = 1 ∨ q = 2 ∨ q = 3 := by omega
    rcases hq4 with rfl | rfl | rfl | rfl
    · have KA := bits0 m HM.out
      have KB := bits0 n HN.out
      have hac := Aside0.mk (show acc3 m n (0 + 1) = acc3 m n 0 + if bit3 n 0 && !bit3 m 0 then 1 else 0 from rfl)
      have hle := acc3_le m n 0
      cases hA : bit3 m 0 <;> cases hB : bit3 n 0 <;> rw [hA] at KA hac <;> rw [hB] at KB hac <;> clear hA hB
      · skip
        have zaa17_0 : ∀ o, (wr.alloc o).cell? ⟨ga1, 0, none⟩ = some (.int .i64 a.1) := fun o => (blk_cell (blk_alloc Ba15.out o) 0).trans rfl
        have zaa17_1 : ∀ o, (wr.alloc o).cell? ⟨ga1, 1, none⟩ = some (.int .i64 a.2.1) := fun o => (blk_cell (blk_alloc Ba15.out o) 1).trans rfl
        have zaa17_2 : ∀ o, (wr.alloc o).cell? ⟨ga1, 2, none⟩ = some (.int .i64 a.2.2) := fun o => (blk_cell (blk_alloc Ba15.out o) 2).trans rfl
        have zab17_0 : ∀ o, (wr.alloc o).cell? ⟨gb1, 0, none⟩ = some (.int .i64 b.1) := fun o => (blk_cell (blk_alloc Bb15.out o) 0).trans rfl
        have zab17_1 : ∀ o, (wr.alloc o).cell? ⟨gb1, 1, none⟩ = some (.int .i64 b.2.1) := fun o => (blk_cell (blk_alloc Bb15.out o) 1).trans rfl
        have zab17_2 : ∀ o, (wr.alloc o).cell? ⟨gb1, 2, none⟩ = some (.int .i64 b.2.2) := fun o => (blk_cell (blk_alloc Bb15.out o) 2).trans rfl
        go_wp2_with fail
        go_roundw
        case rel => exact ⟨1, by omega, rfl, by rw [hac.out]; first | rfl | (simp; done) | (congr 1; simp; done), ⟨by repeat (first | exact HB15.out | apply below_alloc)⟩⟩
        case measure => simp [intOf]
      · skip
        have zaa17_0 : ∀ o, (wr.alloc o).cell? ⟨ga1, 0, none⟩ = some (.int .i64 a.1) := fun o => (blk_cell (blk_alloc Ba15.out o) 0).trans rfl
        have zaa17_1 : ∀ o, (wr.alloc o).cell? ⟨ga1, 1, none⟩ = some (.int .i64 a.2.1) := fun o => (blk_cell (blk_alloc Ba15.out o) 1).trans rfl
        have zaa17_2 : ∀ o, (wr.alloc o).cell? ⟨ga1, 2, none⟩ = some (.int .i64 a.2.2) := fun o => (blk_cell (blk_alloc Ba15.out o) 2).trans rfl
        have zab17_0 : ∀ o, (wr.alloc o).cell? ⟨gb1, 0, none⟩ = some (.int .i64 b.1) := fun o => (blk_cell (blk_alloc Bb15.out o) 0).trans rfl
        have zab17_1 : ∀ o, (wr.alloc o).cell? ⟨gb1, 1, none⟩ = some (.int .i64 b.2.1) := fun o => (blk_cell (blk_alloc Bb15.out o) 1).trans rfl
        have zab17_2 : ∀ o, (wr.alloc o).cell? ⟨gb1, 2, none⟩ = some (.int .i64 b.2.2) := fun o => (blk_cell (blk_alloc Bb15.out o) 2).trans rfl
        go_wp2_with fail
        obtain ⟨W18, hw18⟩ : ∃ x : World, x = (wr.alloc (.cells #[.int .i64 0, .int .i64 0, .int .i64 0, .int .i64 0, .int .i64 0, .int .i64 0, .slice none 0 0] 26)).alloc (.cells #[.int .i64 1] 3) := ⟨_, rfl⟩
        have hbs18 : Below wr.heap.size wr W18 := by rw [hw18]; repeat (first | exact Below.refl _ _ | refine below_alloc ?_ _ | refine below_drew ?_)
        obtain ⟨gv18, hgv18⟩ : ∃ x, x = wr.heap.size + 1 := ⟨_, rfl⟩
        have GSv18 : Aside0 (w12.heap.size ≤ gv18) := ⟨by rw [hgv18]; have := HB15.out.size; omega⟩
        have Bv18 : Aside0 (W18.heap[gv18]? = some (.cells #[.int .i64 1] 3 (0, 0))) := ⟨by rw [hw18, hgv18]; have := blk_new (wr.alloc (.cells #[.int .i64 0, .int .i64 0, .int .i64 0, .int .i64 0, .int .i64 0, .int .i64 0, .slice none 0 0] 26)) (.cells #[.int .i64 1] 3); rwa [World.size_alloc] at this⟩
        rw [← hw18]
        rw [← hgv18]
        clear hw18 hgv18
        clear za16_0 za16_1 za16_2 zb16_0 zb16_1 zb16_2 zaa17_0 zaa17_1 zaa17_2 zab17_0 zab17_1 zab17_2
        have HB19 := Aside0.mk (below_step HB15.out hbs18)
        have Ba19 : Aside0 (W18.heap[ga1]? = some (.cells #[.int .i64 a.1, .int .i64 a.2.1, .int .i64 a.2.2] 23 (0, 0))) := ⟨(hbs18.block _ (blk_lt Ba15.out)).trans Ba15.out⟩
        have Bb19 : Aside0 (W18.heap[gb1]? = some (.cells #[.int .i64 b.1, .int .i64 b.2.1, .int .i64 b.2.2] 23 (0, 0))) := ⟨(hbs18.block _ (blk_lt Bb15.out)).trans Bb15.out⟩
        clear hbs18
        refine (accept_at zeroR (a, a, [1]) .nilIface none 0 _ a (some ⟨gv18, 0, none⟩) 1 [1] (acc_fresh a SA.out.1 SA.out.2).1 (by rw [(acc_fresh a SA.out.1 SA.out.2).2]; rfl) ok0 OA.out (Kd.C_nil _ _) (Nat.le_refl _) (C_blk [1] Bv18.out rfl (by simp)) (Nat.le_refl _)).mono ?_
        rintro e wa ⟨B2, d2, rfl, _, hba⟩
        have HB20 := Aside0.mk (below_step HB19.out hba)
        have Ba20 : Aside0 (wa.heap[ga1]? = some (.cells #[.int .i64 a.1, .int .i64 a.2.1, .int .i64 a.2.2] 23 (0, 0))) := ⟨(hba.block _ (blk_lt Ba19.out)).trans Ba19.out⟩
        have Bb20 : Aside0 (wa.heap[gb1]? = some (.cells #[.int .i64 b.1, .int .i64 b.2.1, .int .i64 b.2.2] 23 (0, 0))) := ⟨(hba.block _ (blk_lt Bb19.out)).trans Bb19.out⟩
        have Bv20 : Aside0 (wa.heap[gv18]? = some (.cells #[.int .i64 1] 3 (0, 0))) := ⟨(hba.block _ (blk_lt Bv18.out)).trans Bv18.out⟩
        clear hba
        go_wp2_with fail
        go_roundw
        case rel => exact ⟨1, by omega, rfl, by rw [hac.out]; first | rfl | (simp; done) | (congr 1; simp; done), ⟨by repeat (first | exact HB20.out | apply below_alloc)⟩⟩
        case measure => simp [intOf]
      · skip
        have zaa17_0 : ∀ o, (wr.alloc o).cell? ⟨ga1, 0, none⟩ = some (.int .i64 a.1) := fun o => (blk_cell (blk_alloc Ba15.out o) 0).trans rfl
        have zaa17_1 : ∀ o, (wr.alloc o).cell? ⟨ga1, 1, none⟩ = some (.int .i64 a.2.1) := fun o => (blk_cell (blk_alloc Ba15.out o) 1).trans rfl
        have zaa17_2 : ∀ o, (wr.alloc o).cell? ⟨ga1, 2, none⟩ = some (.int .i64 a.2.2) := fun o => (blk_cell (blk_alloc Ba15.out o) 2).trans rfl
        have zab17_0 : ∀ o, (wr.alloc o).cell? ⟨gb1, 0, none⟩ = some (.int .i64 b.1) := fun o => (blk_cell (blk_alloc Bb15.out o) 0).trans rfl
        have zab17_1 : ∀ o, (wr.alloc o).cell? ⟨gb1, 1, none⟩ = some (.int .i64 b.2.1) := fun o => (blk_cell (blk_alloc Bb15.out o) 1).trans rfl
        have zab17_2 : ∀ o, (wr.alloc o).cell? ⟨gb1, 2, none⟩ = some (.int .i64 b.2.2) := fun o => (blk_cell (blk_alloc Bb15.out o) 2).trans rfl
        go_wp2_with fail
        obtain ⟨W18, hw18⟩ : ∃ x : World, x = wr.alloc (.cells #[.int .i64 0, .int .i64 0, .int .i64 0, .int .i64 0, .int .i64 0, .int .i64 0, .slice none 0 0] 26) := ⟨_, rfl⟩
        have hbs18 : Below wr.heap.size wr W18 := by rw [hw18]; repeat (first | exact Below.refl _ _ | refine below_alloc ?_ _ | refine below_drew ?_)
        obtain ⟨gr18, hgr18⟩ : ∃ x, x = wr.heap.size := ⟨_, rfl⟩
        have GSr18 : Aside0 (w12.heap.size ≤ gr18) := ⟨by rw [hgr18]; have := HB15.out.size; omega⟩
        have Br18 : Aside0 (W18.heap[gr18]? = some (.cells #[.int .i64 0, .int .i64 0, .int .i64 0, .int .i64 0, .int .i64 0, .int .i64 0, .slice none 0 0] 26 (0, 0))) := ⟨by rw [hw18, hgr18]; exact blk_new _ _⟩
        rw [← hw18]
        rw [← hgr18]
        clear hw18 hgr18
        clear za16_0 za16_1 za16_2 zb16_0 zb16_1 zb16_2 zaa17_0 zaa17_1 zaa17_2 zab17_0 zab17_1 zab17_2
        have HB19 := Aside0.mk (below_step HB15.out hbs18)
        have Ba19 : Aside0 (W18.heap[ga1]? = some (.cells #[.int .i64 a.1, .int .i64 a.2.1, .int .i64 a.2.2] 23 (0, 0))) := ⟨(hbs18.block _ (blk_lt Ba15.out)).trans Ba15.out⟩
        have Bb19 : Aside0 (W18.heap[gb1]? = some (.cells #[.int .i64 b.1, .int .i64 b.2.1, .int .i64 b.2.2] 23 (0, 0))) := ⟨(hbs18.block _ (blk_lt Bb15.out)).trans Bb15.out⟩
        clear hbs18
        refine (prepare_at zeroR (b, ((0, 0, 0) : Bal), []) .nilIface none 0 _ b (prep_fresh b SB.out.1 SB.out.2).1 (by rw [(prep_fresh b SB.out.1 SB.out.2).2]; rfl) ok0 OB.out (by decide) (Kd.C_nil _ _) (Nat.le_refl _)).mono ?_
        rintro e wp ⟨B, d, rfl, hRp, hbp⟩
        have HB20 := Aside0.mk (below_step HB19.out hbp)
        have Ba20 : Aside0 (wp.heap[ga1]? = some (.cells #[.int .i64 a.1, .int .i64 a.2.1, .int .i64 a.2.2] 23 (0, 0))) := ⟨(hbp.block _ (blk_lt Ba19.out)).trans Ba19.out⟩
        have Bb20 : Aside0 (wp.heap[gb1]? = some (.cells #[.int .i64 b.1, .int .i64 b.2.1, .int .i64 b.2.2] 23 (0, 0))) := ⟨(hbp.block _ (blk_lt Bb19.out)).trans Bb19.out⟩
        have Br20 : Aside0 (wp.heap[gr18]? = some (.cells #[.int .i64 0, .int .i64 0, .int .i64 0, .int .i64 0, .int .i64 0, .int .i64 0, .slice none 0 0] 26 (0, 0))) := ⟨(hbp.block _ (blk_lt Br18.out)).trans Br18.out⟩
        clear hbp
        have HRp := Aside0.mk hRp
        clear hRp
        have za21_0 : wp.cell? ⟨ga1, 0, none⟩ = some (.int .i64 a.1) := (blk_cell Ba20.out 0).trans rfl
        have za21_1 : wp.cell? ⟨ga1, 1, none⟩ = some (.int .i64 a.2.1) := (blk_cell Ba20.out 1).trans rfl
        have za21_2 : wp.cell? ⟨ga1, 2, none⟩ = some (.int .i64 a.2.2) := (blk_cell Ba20.out 2).trans rfl
        have zb21_0 : wp.cell? ⟨gb1, 0, none⟩ = some (.int .i64 b.1) := (blk_cell Bb20.out 0).trans rfl
        have zb21_1 : wp.cell? ⟨gb1, 1, none⟩ = some (.int .i64 b.2.1) := (blk_cell Bb20.out 1).trans rfl
        have zb21_2 : wp.cell? ⟨gb1, 2, none⟩ = some (.int .i64 b.2.2) := (blk_cell Bb20.out 2).trans rfl
        have zr21_0 : wp.cell? ⟨gr18, 0, none⟩ = some (.int .i64 0) := (blk_cell Br20.out 0).trans rfl
        have zr21_1 : wp.cell? ⟨gr18, 1, none⟩ = some (.int .i64 0) := (blk_cell Br20.out 1).trans rfl
        have zr21_2 : wp.cell? ⟨gr18, 2, none⟩ = some (.int .i64 0) := (blk_cell Br20.out 2).trans rfl
        have zr21_3 : wp.cell? ⟨gr18, 3, none⟩ = some (.int .i64 0) := (blk_cell Br20.out 3).trans rfl
        have zr21_4 : wp.cell? ⟨gr18, 4, none⟩ = some (.int .i64 0) := (blk_cell Br20.out 4).trans rfl
        have zr21_5 : wp.cell? ⟨gr18, 5, none⟩ = some (.int .i64 0) := (blk_cell Br20.out 5).trans rfl
        have zr21_6 : wp.cell? ⟨gr18, 6, none⟩ = some (.slice none 0 0) := (blk_cell Br20.out 6).trans rfl
        have zaa22_0 : ∀ o, (wp.alloc o).cell? ⟨ga1, 0, none⟩ = some (.int .i64 a.1) := fun o => (blk_cell (blk_alloc Ba20.out o) 0).trans rfl
        have zaa22_1 : ∀ o, (wp.alloc o).cell? ⟨ga1, 1, none⟩ = some (.int .i64 a.2.1) := fun o => (blk_cell (blk_alloc Ba20.out o) 1).trans rfl
        have zaa22_2 : ∀ o, (wp.alloc o).cell? ⟨ga1, 2, none⟩ = some (.int .i64 a.2.2) := fun o => (blk_cell (blk_alloc Ba20.out o) 2).trans rfl
        have zab22_0 : ∀ o, (wp.alloc o).cell? ⟨gb1, 0, none⟩ = some (.int .i64 b.1) := fun o => (blk_cell (blk_alloc Bb20.out o) 0).trans rfl
        have zab22_1 : ∀ o, (wp.alloc o).cell? ⟨gb1, 1, none⟩ = some (.int .i64 b.2.1) := fun o => (blk_cell (blk_alloc Bb20.out o) 1).trans rfl
        have zab22_2 : ∀ o, (wp.alloc o).cell? ⟨gb1, 2, none⟩ = some (.int .i64 b.2.2) := fun o => (blk_cell (blk_alloc Bb20.out o) 2).trans rfl
        have zar22_0 : ∀ o, (wp.alloc o).cell? ⟨gr18, 0, none⟩ = some (.int .i64 0) := fun o => (blk_cell (blk_alloc Br20.out o) 0).trans rfl
        have zar22_1 : ∀ o, (wp.alloc o).cell? ⟨gr18, 1, none⟩ = some (.int .i64 0) := fun o => (blk_cell (blk_alloc Br20.out o) 1).trans rfl
        have zar22_2 : ∀ o, (wp.alloc o).cell? ⟨gr18, 2, none⟩ = some (.int .i64 0) := fun o => (blk_cell (blk_alloc Br20.out o) 2).trans rfl
        have zar22_3 : ∀ o, (wp.alloc o).cell? ⟨gr18, 3, none⟩ = some (.int .i64 0) := fun o => (blk_cell (blk_alloc Br20.out o) 3).trans rfl
        have zar22_4 : ∀ o, (wp.alloc o).cell? ⟨gr18, 4, none⟩ = some (.int .i64 0) := fun o => (blk_cell (blk_alloc Br20.out o) 4).trans rfl
        have zar22_5 : ∀ o, (wp.alloc o).cell? ⟨gr18, 5, none⟩ = some (.int .i64 0) := fun o => (blk_cell (blk_alloc Br20.out o) 5).trans rfl
        have zar22_6 : ∀ o, (wp.alloc o).cell? ⟨gr18, 6, none⟩ = some (.slice none 0 0) := fun o => (blk_cell (blk_alloc Br20.out o) 6).trans rfl
        have hfr0 : ∀ o, (wp.alloc o).frozen? ⟨gr18, 0, none⟩ = false := fun o => blk_frozen (blk_alloc Br20.out o) 0
        have hfr1 : ∀ o, (wp.alloc o).frozen? ⟨gr18, 1, none⟩ = false := fun o => blk_frozen (blk_alloc Br20.out o) 1
        have hfr2 : ∀ o, (wp.alloc o).frozen? ⟨gr18, 2, none⟩ = false := fun o => blk_frozen (blk_alloc Br20.out o) 2
        have hfr3 : ∀ o, (wp.alloc o).frozen? ⟨gr18, 3, none⟩ = false := fun o => blk_frozen (blk_alloc Br20.out o) 3
        have hfr4 : ∀ o, (wp.alloc o).frozen? ⟨gr18, 4, none⟩ = false := fun o => blk_frozen (blk_alloc Br20.out o) 4
        have hfr5 : ∀ o, (wp.alloc o).frozen? ⟨gr18, 5, none⟩ = false := fun o => blk_frozen (blk_alloc Br20.out o) 5
        have hfr6 : ∀ o, (wp.alloc o).frozen? ⟨gr18, 6, none⟩ = false := fun o => blk_frozen (blk_alloc Br20.out o) 6
        go_upto_region 19 with fail
        obtain ⟨W23, hw23⟩ : ∃ x : World, x = wp.alloc (.cells #[.int .i64 b.1, .int .i64 b.2.1, .int .i64 b.2.2, .int .i64 0, .int .i64 0, .int .i64 0, .slice B 0 d] 26) := ⟨_, rfl⟩
        have hbs23 : Below wp.heap.size wp W23 := by rw [hw23]; repeat (first | exact Below.refl _ _ | refine below_alloc ?_ _ | refine below_drew ?_)
        obtain ⟨gt23, hgt23⟩ : ∃ x, x = wp.heap.size := ⟨_, rfl⟩
        have GSt23 : Aside0 (w12.heap.size ≤ gt23) := ⟨by rw [hgt23]; have := HB20.out.size; omega⟩
        have Bt23 : Aside0 (W23.heap[gt23]? = some (.cells #[.int .i64 b.1, .int .i64 b.2.1, .int .i64 b.2.2, .int .i64 0, .int .i64 0, .int .i64 0, .slice B 0 d] 26 (0, 0))) := ⟨by rw [hw23, hgt23]; exact blk_new _ _⟩
        rw [← hw23]
        rw [← hgt23]
        clear hw23 hgt23
        clear za21_0 za21_1 za21_2 zb21_0 zb21_1 zb21_2 zr21_0 zr21_1 zr21_2 zr21_3 zr21_4 zr21_5 zr21_6 zaa22_0 zaa22_1 zaa22_2 zab22_0 zab22_1 zab22_2 zar22_0 zar22_1 zar22_2 zar22_3 zar22_4 zar22_5 zar22_6
        have HB24 := Aside0.mk (below_step HB20.out hbs23)
        have Ba24 : Aside0 (W23.heap[ga1]? = some (.cells #[.int .i64 a.1, .int .i64 a.2.1, .int .i64 a.2.2] 23 (0, 0))) := ⟨(hbs23.block _ (blk_lt Ba20.out)).trans Ba20.out⟩
        have Bb24 : Aside0 (W23.heap[gb1]? = some (.cells #[.int .i64 b.1, .int .i64 b.2.1, .int .i64 b.2.2] 23 (0, 0))) := ⟨(hbs23.block _ (blk_lt Bb20.out)).trans Bb20.out⟩
        have Br24 : Aside0 (W23.heap[gr18]? = some (.cells #[.int .i64 0, .int .i64 0, .int .i64 0, .int .i64 0, .int .i64 0, .int .i64 0, .slice none 0 0] 26 (0, 0))) := ⟨(hbs23.block _ (blk_lt Br20.out)).trans Br20.out⟩
        have RP24 := Aside0.mk (Kd.R_below HRp.out hbs23)
        clear hbs23
        clear hfr0 hfr1 hfr2 hfr3 hfr4 hfr5 hfr6
        obtain ⟨W25, hw25⟩ : ∃ x : World, x = (((((((W23.setCell ⟨gr18, 0, none⟩ (.int .i64 b.1)).setCell ⟨gr18, 1, none⟩ (.int .i64 b.2.1)).setCell ⟨gr18, 2, none⟩ (.int .i64 b.2.2)).setCell ⟨gr18, 3, none⟩ (.int .i64 0)).setCell ⟨gr18, 4, none⟩ (.int .i64 0)).setCell ⟨gr18, 5, none⟩ (.int .i64 0)).setCell ⟨gr18, 6, none⟩ (.slice B 0 d)) := ⟨_, rfl⟩
        have HB25 : Aside0 (Below w12.heap.size w12 W25) := ⟨by rw [hw25]; exact (below_set (below_set (below_set (below_set (below_set (below_set (below_set HB24.out GSr18.out) GSr18.out) GSr18.out) GSr18.out) GSr18.out) GSr18.out) GSr18.out)⟩
        have hgr25 : W23.grownBy W25 (some gr18) := by rw [hw25]; exact ((((((grown_set _ _ _ _).trans (grown_set _ _ _ _)).trans (grown_set _ _ _ _)).trans (grown_set _ _ _ _)).trans (grown_set _ _ _ _)).trans (grown_set _ _ _ _)).trans (grown_set _ _ _ _)
        have Br25 : Aside0 (W25.heap[gr18]? = some (.cells #[.int .i64 b.1, .int .i64 b.2.1, .int .i64 b.2.2, .int .i64 0, .int .i64 0, .int .i64 0, .slice B 0 d] 26 (0, 0))) := ⟨by rw [hw25]; refine blk_put (cs := #[.int .i64 b.1, .int .i64 b.2.1, .int .i64 b.2.2, .int .i64 0, .int .i64 0, .int .i64 0, .slice none 0 0]) ?_ 6 _ rfl; refine blk_put (cs := #[.int .i64 b.1, .int .i64 b.2.1, .int .i64 b.2.2, .int .i64 0, .int .i64 0, .int .i64 0, .slice none 0 0]) ?_ 5 _ rfl; refine blk_put (cs := #[.int .i64 b.1, .int .i64 b.2.1, .int .i64 b.2.2, .int .i64 0, .int .i64 0, .int .i64 0, .slice none 0 0]) ?_ 4 _ rfl; refine blk_put (cs := #[.int .i64 b.1, .int .i64 b.2.1, .int .i64 b.2.2, .int .i64 0, .int .i64 0, .int .i64 0, .slice none 0 0]) ?_ 3 _ rfl; refine blk_put (cs := #[.int .i64 b.1, .int .i64 b.2.1, .int .i64 0, .int .i64 0, .int .i64 0, .int .i64 0, .slice none 0 0]) ?_ 2 _ rfl; refine blk_put (cs := #[.int .i64 b.1, .int .i64 0, .int .i64 0, .int .i64 0, .int .i64 0, .int .i64 0, .slice none 0 0]) ?_ 1 _ rfl; refine blk_put (cs := #[.int .i64 0, .int .i64 0, .int .i64 0, .int .i64 0, .int .i64 0, .int .i64 0, .slice none 0 0]) ?_ 0 _ rfl; exact Br24.out⟩
        have Ba25 : Aside0 (W25.heap[ga1]? = some (.cells #[.int .i64 a.1, .int .i64 a.2.1, .int .i64 a.2.2] 23 (0, 0))) := ⟨blk_grown Ba24.out hgr25 (fun e => (blk_ne Ba24.out Br24.out (by decide)) (by injection e))⟩
        have Bb25 : Aside0 (W25.heap[gb1]? = some (.cells #[.int .i64 b.1, .int .i64 b.2.1, .int .i64 b.2.2] 23 (0, 0))) := ⟨blk_grown Bb24.out hgr25 (fun e => (blk_ne Bb24.out Br24.out (by decide)) (by injection e))⟩
        have RP25 := Aside0.mk (Kd.R_mono (Kd.R_grown (Kd.R_types RP24.out Br24.out (by decide)) hgr25 (fun k hk => by simpa using hk.2)) (fun _ hk => hk.1))
        rw [← hw25]
        clear hw25 hgr25
        have za26_0 : W25.cell? ⟨ga1, 0, none⟩ = some (.int .i64 a.1) := (blk_cell Ba25.out 0).trans rfl
        have za26_1 : W25.cell? ⟨ga1, 1, none⟩ = some (.int .i64 a.2.1) := (blk_cell Ba25.out 1).trans rfl
        have za26_2 : W25.cell? ⟨ga1, 2, none⟩ = some (.int .i64 a.2.2) := (blk_cell Ba25.out 2).trans rfl
        have zb26_0 : W25.cell? ⟨gb1, 0, none⟩ = some (.int .i64 b.1) := (blk_cell Bb25.out 0).trans rfl
        have zb26_1 : W25.cell? ⟨gb1, 1, none⟩ = some (.int .i64 b.2.1) := (blk_cell Bb25.out 1).trans rfl
        have zb26_2 : W25.cell? ⟨gb1, 2, none⟩ = some (.int .i64 b.2.2) := (blk_cell Bb25.out 2).trans rfl
        have zr26_0 : W25.cell? ⟨gr18, 0, none⟩ = some (.int .i64 b.1) := (blk_cell Br25.out 0).trans rfl
        have zr26_1 : W25.cell? ⟨gr18, 1, none⟩ = some (.int .i64 b.2.1) := (blk_cell Br25.out 1).trans rfl
        have zr26_2 : W25.cell? ⟨gr18, 2, none⟩ = some (.int .i64 b.2.2) := (blk_cell Br25.out 2).trans rfl
        have zr26_3 : W25.cell? ⟨gr18, 3, none⟩ = some (.int .i64 0) := (blk_cell Br25.out 3).trans rfl
        have zr26_4 : W25.cell? ⟨gr18, 4, none⟩ = some (.int .i64 0) := (blk_cell Br25.out 4).trans rfl
        have zr26_5 : W25.cell? ⟨gr18, 5, none⟩ = some (.int .i64 0) := (blk_cell Br25.out 5).trans rfl
        have zr26_6 : W25.cell? ⟨gr18, 6, none⟩ = some (.slice B 0 d) := (blk_cell Br25.out 6).trans rfl
        go_wp2_with fail
        go_roundw
        case rel => exact ⟨1, by omega, rfl, by rw [hac.out]; first | rfl | (simp; done) | (congr 1; simp; done), ⟨by repeat (first | exact HB25.out | apply below_alloc)⟩⟩
        case measure => simp [intOf]
      · skip
        have zaa17_0 : ∀ o, (wr.alloc o).cell? ⟨ga1, 0, none⟩ = some (.int .i64 a.1) := fun o => (blk_cell (blk_alloc Ba15.out o) 0).trans rfl
        have zaa17_1 : ∀ o, (wr.alloc o).cell? ⟨ga1, 1, none⟩ = some (.int .i64 a.2.1) := fun o => (blk_cell (blk_alloc Ba15.out o) 1).trans rfl
        have zaa17_2 : ∀ o, (wr.alloc o).cell? ⟨ga1, 2, none⟩ = some (.int .i64 a.2.2) := fun o => (blk_cell (blk_alloc Ba15.out o) 2).trans rfl
        have zab17_0 : ∀ o, (wr.alloc o).cell? ⟨gb1, 0, none⟩ = some (.int .i64 b.1) := fun o => (blk_cell (blk_alloc Bb15.out o) 0).trans rfl
        have zab17_1 : ∀ o, (wr.alloc o).cell? ⟨gb1, 1, none⟩ = some (.int .i64 b.2.1) := fun o => (blk_cell (blk_alloc Bb15.out o) 1).trans rfl
        have zab17_2 : ∀ o, (wr.alloc o).cell? ⟨gb1, 2, none⟩ = some (.int .i64 b.2.2) := fun o => (blk_cell (blk_alloc Bb15.out o) 2).trans rfl
        go_wp2_with fail
        obtain ⟨W18, hw18⟩ : ∃ x : World, x = wr.alloc (.cells #[.int .i64 0, .int .i64 0, .int .i64 0, .int .i64 0, .int .i64 0, .int .i64 0, .slice none 0 0] 26) := ⟨_, rfl⟩
        have hbs18 : Below wr.heap.size wr W18 := by rw [hw18]; repeat (first | exact Below.refl _ _ | refine below_alloc ?_ _ | refine below_drew ?_)
        obtain ⟨gr18, hgr18⟩ : ∃ x, x = wr.heap.size := ⟨_, rfl⟩
        have GSr18 : Aside0 (w12.heap.size ≤ gr18) := ⟨by rw [hgr18]; have := HB15.out.size; omega⟩
        have Br18 : Aside0 (W18.heap[gr18]? = some (.cells #[.int .i64 0, .int .i64 0, .int .i64 0, .int .i64 0, .int .i64 0, .int .i64 0, .slice none 0 0] 26 (0, 0))) := ⟨by rw [hw18, hgr18]; exact blk_new _ _⟩
        rw [← hw18]
        rw [← hgr18]
        clear hw18 hgr18
        clear za16_0 za16_1 za16_2 zb16_0 zb16_1 zb16_2 zaa17_0 zaa17_1 zaa17_2 zab17_0 zab17_1 zab17_2
        have HB19 := Aside0.mk (below_step HB15.out hbs18)
        have Ba19 : Aside0 (W18.heap[ga1]? = some (.cells #[.int .i64 a.1, .int .i64 a.2.1, .int .i64 a.2.2] 23 (0, 0))) := ⟨(hbs18.block _ (blk_lt Ba15.out)).trans Ba15.out⟩
        have Bb19 : Aside0 (W18.heap[gb1]? = some (.cells #[.int .i64 b.1, .int .i64 b.2.1, .int .i64 b.2.2] 23 (0, 0))) := ⟨(hbs18.block _ (blk_lt Bb15.out)).trans Bb15.out⟩
        clear hbs18
        refine (prepare_at zeroR (b, ((0, 0, 0) : Bal), []) .nilIface none 0 _ b (prep_fresh b SB.out.1 SB.out.2).1 (by rw [(prep_fresh b SB.out.1 SB.out.2).2]; rfl) ok0 OB.out (by decide) (Kd.C_nil _ _) (Nat.le_refl _)).mono ?_
        rintro e wp ⟨B, d, rfl, hRp, hbp⟩
        have HB20 := Aside0.mk (below_step HB19.out hbp)
        have Ba20 : Aside0 (wp.heap[ga1]? = some (.cells #[.int .i64 a.1, .int .i64 a.2.1, .int .i64 a.2.2] 23 (0, 0))) := ⟨(hbp.block _ (blk_lt Ba19.out)).trans Ba19.out⟩
        have Bb20 : Aside0 (wp.heap[gb1]? = some (.cells #[.int .i64 b.1, .int .i64 b.2.1, .int .i64 b.2.2] 23 (0, 0))) := ⟨(hbp.block _ (blk_lt Bb19.out)).trans Bb19.out⟩
        have Br20 : Aside0 (wp.heap[gr18]? = some (.cells #[.int .i64 0, .int .i64 0, .int .i64 0, .int .i64 0, .int .i64 0, .int .i64 0, .slice none 0 0] 26 (0, 0))) := ⟨(hbp.block _ (blk_lt Br18.out)).trans Br18.out⟩
        clear hbp
        have HRp := Aside0.mk hRp
        clear hRp
        have za21_0 : wp.cell? ⟨ga1, 0, none⟩ = some (.int .i64 a.1) := (blk_cell Ba20.out 0).trans rfl
        have za21_1 : wp.cell? ⟨ga1, 1, none⟩ = some (.int .i64 a.2.1) := (blk_cell Ba20.out 1).trans rfl
        have za21_2 : wp.cell? ⟨ga1, 2, none⟩ = some (.int .i64 a.2.2) := (blk_cell Ba20.out 2).trans rfl
        have zb21_0 : wp.cell? ⟨gb1, 0, none⟩ = some (.int .i64 b.1) := (blk_cell Bb20.out 0).trans rfl
        have zb21_1 : wp.cell? ⟨gb1, 1, none⟩ = some (.int .i64 b.2.1) := (blk_cell Bb20.out 1).trans rfl
        have zb21_2 : wp.cell? ⟨gb1, 2, none⟩ = some (.int .i64 b.2.2) := (blk_cell Bb20.out 2).trans rfl
        have zr21_0 : wp.cell? ⟨gr18, 0, none⟩ = some (.int .i64 0) := (blk_cell Br20.out 0).trans rfl
        have zr21_1 : wp.cell? ⟨gr18, 1, none⟩ = some (.int .i64 0) := (blk_cell Br20.out 1).trans rfl
        have zr21_2 : wp.cell? ⟨gr18, 2, none⟩ = some (.int .i64 0) := (blk_cell Br20.out 2).trans rfl
        have zr21_3 : wp.cell? ⟨gr18, 3, none⟩ = some (.int .i64 0) := (blk_cell Br20.out 3).trans rfl
        have zr21_4 : wp.cell? ⟨gr18, 4, none⟩ = some (.int .i64 0) := (blk_cell Br20.out 4).trans rfl
        have zr21_5 : wp.cell? ⟨gr18, 5, none⟩ = some (.int .i64 0) := (blk_cell Br20.out 5).trans rfl
        have zr21_6 : wp.cell? ⟨gr18, 6, none⟩ = some (.slice none 0 0) := (blk_cell Br20.out 6).trans rfl
        have zaa22_0 : ∀ o, (wp.alloc o).cell? ⟨ga1, 0, none⟩ = some (.int .i64 a.1) := fun o => (blk_cell (blk_alloc Ba20.out o) 0).trans rfl
        have zaa22_1 : ∀ o, (wp.alloc o).cell? ⟨ga1, 1, none⟩ = some (.int .i64 a.2.1) := fun o => (blk_cell (blk_alloc Ba20.out o) 1).trans rfl
        have zaa22_2 : ∀ o, (wp.alloc o).cell? ⟨ga1, 2, none⟩ = some (.int .i64 a.2.2) := fun o => (blk_cell (blk_alloc Ba20.out o) 2).trans rfl
        have zab22_0 : ∀ o, (wp.alloc o).cell? ⟨gb1, 0, none⟩ = some (.int .i64 b.1) := fun o => (blk_cell (blk_alloc Bb20.out o) 0).trans rfl
        have zab22_1 : ∀ o, (wp.alloc o).cell? ⟨gb1, 1, none⟩ = some (.int .i64 b.2.1) := fun o => (blk_cell (blk_alloc Bb20.out o) 1).trans rfl
        have zab22_2 : ∀ o, (wp.alloc o).cell? ⟨gb1, 2, none⟩ = some (.int .i64 b.2.2) := fun o => (blk_cell (blk_alloc Bb20.out o) 2).trans rfl
        have zar22_0 : ∀ o, (wp.alloc o).cell? ⟨gr18, 0, none⟩ = some (.int .i64 0) := fun o => (blk_cell (blk_alloc Br20.out o) 0).trans rfl
        have zar22_1 : ∀ o, (wp.alloc o).cell? ⟨gr18, 1, none⟩ = some (.int .i64 0) := fun o => (blk_cell (blk_alloc Br20.out o) 1).trans rfl
        have zar22_2 : ∀ o, (wp.alloc o).cell? ⟨gr18, 2, none⟩ = some (.int .i64 0) := fun o => (blk_cell (blk_alloc Br20.out o) 2).trans rfl
        have zar22_3 : ∀ o, (wp.alloc o).cell? ⟨gr18, 3, none⟩ = some (.int .i64 0) := fun o => (blk_cell (blk_alloc Br20.out o) 3).trans rfl
        have zar22_4 : ∀ o, (wp.alloc o).cell? ⟨gr18, 4, none⟩ = some (.int .i64 0) := fun o => (blk_cell (blk_alloc Br20.out o) 4).trans rfl
        have zar22_5 : ∀ o, (wp.alloc o).cell? ⟨gr18, 5, none⟩ = some (.int .i64 0) := fun o => (blk_cell (blk_alloc Br20.out o) 5).trans rfl
        have zar22_6 : ∀ o, (wp.alloc o).cell? ⟨gr18, 6, none⟩ = some (.slice none 0 0) := fun o => (blk_cell (blk_alloc Br20.out o) 6).trans rfl
        have hfr0 : ∀ o, (wp.alloc o).frozen? ⟨gr18, 0, none⟩ = false := fun o => blk_frozen (blk_alloc Br20.out o) 0
        have hfr1 : ∀ o, (wp.alloc o).frozen? ⟨gr18, 1, none⟩ = false := fun o => blk_frozen (blk_alloc Br20.out o) 1
        have hfr2 : ∀ o, (wp.alloc o).frozen? ⟨gr18, 2, none⟩ = false := fun o => blk_frozen (blk_alloc Br20.out o) 2
        have hfr3 : ∀ o, (wp.alloc o).frozen? ⟨gr18, 3, none⟩ = false := fun o => blk_frozen (blk_alloc Br20.out o) 3
        have hfr4 : ∀ o, (wp.alloc o).frozen? ⟨gr18, 4, none⟩ = false := fun o => blk_frozen (blk_alloc Br20.out o) 4
        have hfr5 : ∀ o, (wp.alloc o).frozen? ⟨gr18, 5, none⟩ = false := fun o => blk_frozen (blk_alloc Br20.out o) 5
        have hfr6 : ∀ o, (wp.alloc o).frozen? ⟨gr18, 6, none⟩ = false := fun o => blk_frozen (blk_alloc Br20.out o) 6
        go_upto_region 19 with fail
        obtain ⟨W23, hw23⟩ : ∃ x : World, x = wp.alloc (.cells #[.int .i64 b.1, .int .i64 b.2.1, .int .i64 b.2.2, .int .i64 0, .int .i64 0, .int .i64 0, .slice B 0 d] 26) := ⟨_, rfl⟩
        have hbs23 : Below wp.heap.size wp W23 := by rw [hw23]; repeat (first | exact Below.refl _ _ | refine below_alloc ?_ _ | refine below_drew ?_)
        obtain ⟨gt23, hgt23⟩ : ∃ x, x = wp.heap.size := ⟨_, rfl⟩
        have GSt23 : Aside0 (w12.heap.size ≤ gt23) := ⟨by rw [hgt23]; have := HB20.out.size; omega⟩
        have Bt23 : Aside0 (W23.heap[gt23]? = some (.cells #[.int .i64 b.1, .int .i64 b.2.1, .int .i64 b.2.2, .int .i64 0, .int .i64 0, .int .i64 0, .slice B 0 d] 26 (0, 0))) := ⟨by rw [hw23, hgt23]; exact blk_new _ _⟩
        rw [← hw23]
        rw [← hgt23]
        clear hw23 hgt23
        clear za21_0 za21_1 za21_2 zb21_0 zb21_1 zb21_2 zr21_0 zr21_1 zr21_2 zr21_3 zr21_4 zr21_5 zr21_6 zaa22_0 zaa22_1 zaa22_2 zab22_0 zab22_1 zab22_2 zar22_0 zar22_1 zar22_2 zar22_3 zar22_4 zar22_5 zar22_6
        have HB24 := Aside0.mk (below_step HB20.out hbs23)
        have Ba24 : Aside0 (W23.heap[ga1]? = some (.cells #[.int .i64 a.1, .int .i64 a.2.1, .int .i64 a.2.2] 23 (0, 0))) := ⟨(hbs23.block _ (blk_lt Ba20.out)).trans Ba20.out⟩
        have Bb24 : Aside0 (W23.heap[gb1]? = some (.cells #[.int .i64 b.1, .int .i64 b.2.1, .int .i64 b.2.2] 23 (0, 0))) := ⟨(hbs23.block _ (blk_lt Bb20.out)).trans Bb20.out⟩
        have Br24 : Aside0 (W23.heap[gr18]? = some (.cells #[.int .i64 0, .int .i64 0, .int .i64 0, .int .i64 0, .int .i64 0, .int .i64 0, .slice none 0 0] 26 (0, 0))) := ⟨(hbs23.block _ (blk_lt Br20.out)).trans Br20.out⟩
        have RP24 := Aside0.mk (Kd.R_below HRp.out hbs23)
        clear hbs23
        clear hfr0 hfr1 hfr2 hfr3 hfr4 hfr5 hfr6
        obtain ⟨W25, hw25⟩ : ∃ x : World, x = (((((((W23.setCell ⟨gr18, 0, none⟩ (.int .i64 b.1)).setCell ⟨gr18, 1, none⟩ (.int .i64 b.2.1)).setCell ⟨gr18, 2, none⟩ (.int .i64 b.2.2)).setCell ⟨gr18, 3, none⟩ (.int .i64 0)).setCell ⟨gr18, 4, none⟩ (.int .i64 0)).setCell ⟨gr18, 5, none⟩ (.int .i64 0)).setCell ⟨gr18, 6, none⟩ (.slice B 0 d)) := ⟨_, rfl⟩
        have HB25 : Aside0 (Below w12.heap.size w12 W25) := ⟨by rw [hw25]; exact (below_set (below_set (below_set (below_set (below_set (below_set (below_set HB24.out GSr18.out) GSr18.out) GSr18.out) GSr18.out) GSr18.out) GSr18.out) GSr18.out)⟩
        have hgr25 : W23.grownBy W25 (some gr18) := by rw [hw25]; exact ((((((grown_set _ _ _ _).trans (grown_set _ _ _ _)).trans (grown_set _ _ _ _)).trans (grown_set _ _ _ _)).trans (grown_set _ _ _ _)).trans (grown_set _ _ _ _)).trans (grown_set _ _ _ _)
        have Br25 : Aside0 (W25.heap[gr18]? = some (.cells #[.int .i64 b.1, .int .i64 b.2.1, .int .i64 b.2.2, .int .i64 0, .int .i64 0, .int .i64 0, .slice B 0 d] 26 (0, 0))) := ⟨by rw [hw25]; refine blk_put (cs := #[.int .i64 b.1, .int .i64 b.2.1, .int .i64 b.2.2, .int .i64 0, .int .i64 0, .int .i64 0, .slice none 0 0]) ?_ 6 _ rfl; refine blk_put (cs := #[.int .i64 b.1, .int .i64 b.2.1, .int .i64 b.2.2, .int .i64 0, .int .i64 0, .int .i64 0, .slice none 0 0]) ?_ 5 _ rfl; refine blk_put (cs := #[.int .i64 b.1, .int .i64 b.2.1, .int .i64 b.2.2, .int .i64 0, .int .i64 0, .int .i64 0, .slice none 0 0]) ?_ 4 _ rfl; refine blk_put (cs := #[.int .i64 b.1, .int .i64 b.2.1, .int .i64 b.2.2, .int .i64 0, .int .i64 0, .int .i64 0, .slice none 0 0]) ?_ 3 _ rfl; refine blk_put (cs := #[.int .i64 b.1, .int .i64 b.2.1, .int .i64 0, .int .i64 0, .int .i64 0, .int .i64 0, .slice none 0 0]) ?_ 2 _ rfl; refine blk_put (cs := #[.int .i64 b.1, .int .i64 0, .int .i64 0, .int .i64 0, .int .i64 0, .int .i64 0, .slice none 0 0]) ?_ 1 _ rfl; refine blk_put (cs := #[.int .i64 0, .int .i64 0, .int .i64 0, .int .i64 0, .int .i64 0, .int .i64 0, .slice none 0 0]) ?_ 0 _ rfl; exact Br24.out⟩
        have Ba25 : Aside0 (W25.heap[ga1]? = some (.cells #[.int .i64 a.1, .int .i64 a.2.1, .int .i64 a.2.2] 23 (0, 0))) := ⟨blk_grown Ba24.out hgr25 (fun e => (blk_ne Ba24.out Br24.out (by decide)) (by injection e))⟩
        have Bb25 : Aside0 (W25.heap[gb1]? = some (.cells #[.int .i64 b.1, .int .i64 b.2.1, .int .i64 b.2.2] 23 (0, 0))) := ⟨blk_grown Bb24.out hgr25 (fun e => (blk_ne Bb24.out Br24.out (by decide)) (by injection e))⟩
        have RP25 := Aside0.mk (Kd.R_mono (Kd.R_grown (Kd.R_types RP24.out Br24.out (by decide)) hgr25 (fun k hk => by simpa using hk.2)) (fun _ hk => hk.1))
        rw [← hw25]
        clear hw25 hgr25
        have za26_0 : W25.cell? ⟨ga1, 0, none⟩ = some (.int .i64 a.1) := (blk_cell Ba25.out 0).trans rfl
        have za26_1 : W25.cell? ⟨ga1, 1, none⟩ = some (.int .i64 a.2.1) := (blk_cell Ba25.out 1).trans rfl
        have za26_2 : W25.cell? ⟨ga1, 2, none⟩ = some (.int .i64 a.2.2) := (blk_cell Ba25.out 2).trans rfl
        have zb26_0 : W25.cell? ⟨gb1, 0, none⟩ = some (.int .i64 b.1) := (blk_cell Bb25.out 0).trans rfl
        have zb26_1 : W25.cell? ⟨gb1, 1, none⟩ = some (.int .i64 b.2.1) := (blk_cell Bb25.out 1).trans rfl
        have zb26_2 : W25.cell? ⟨gb1, 2, none⟩ = some (.int .i64 b.2.2) := (blk_cell Bb25.out 2).trans rfl
        have zr26_0 : W25.cell? ⟨gr18, 0, none⟩ = some (.int .i64 b.1) := (blk_cell Br25.out 0).trans rfl
        have zr26_1 : W25.cell? ⟨gr18, 1, none⟩ = some (.int .i64 b.2.1) := (blk_cell Br25.out 1).trans rfl
        have zr26_2 : W25.cell? ⟨gr18, 2, none⟩ = some (.int .i64 b.2.2) := (blk_cell Br25.out 2).trans rfl
        have zr26_3 : W25.cell? ⟨gr18, 3, none⟩ = some (.int .i64 0) := (blk_cell Br25.out 3).trans rfl
        have zr26_4 : W25.cell? ⟨gr18, 4, none⟩ = some (.int .i64 0) := (blk_cell Br25.out 4).trans rfl
        have zr26_5 : W25.cell? ⟨gr18, 5, none⟩ = some (.int .i64 0) := (blk_cell Br25.out 5).trans rfl
        have zr26_6 : W25.cell? ⟨gr18, 6, none⟩ = some (.slice B 0 d) := (blk_cell Br25.out 6).trans rfl
        go_wp2_with fail
        obtain ⟨W27, hw27⟩ : ∃ x : World, x = W25.alloc (.cells #[.int .i64 1] 3) := ⟨_, rfl⟩
        have hbs27 : Below W25.heap.size W25 W27 := by rw [hw27]; repeat (first | exact Below.refl _ _ | refine below_alloc ?_ _ | refine below_drew ?_)
        obtain ⟨gv27, hgv27⟩ : ∃ x, x = W25.heap.size := ⟨_, rfl⟩
        have GSv27 : Aside0 (w12.heap.size ≤ gv27) := ⟨by rw [hgv27]; have := HB25.out.size; omega⟩
        have Bv27 : Aside0 (W27.heap[gv27]? = some (.cells #[.int .i64 1] 3 (0, 0))) := ⟨by rw [hw27, hgv27]; exact blk_new _ _⟩
        rw [← hw27]
        rw [← hgv27]
        clear hw27 hgv27
        clear za26_0 za26_1 za26_2 zb26_0 zb26_1 zb26_2 zr26_0 zr26_1 zr26_2 zr26_3 zr26_4 zr26_5 zr26_6
        have HB28 := Aside0.mk (below_step HB25.out hbs27)
        have Ba28 : Aside0 (W27.heap[ga1]? = some (.cells #[.int .i64 a.1, .int .i64 a.2.1, .int .i64 a.2.2] 23 (0, 0))) := ⟨(hbs27.block _ (blk_lt Ba25.out)).trans Ba25.out⟩
        have Bb28 : Aside0 (W27.heap[gb1]? = some (.cells #[.int .i64 b.1, .int .i64 b.2.1, .int .i64 b.2.2] 23 (0, 0))) := ⟨(hbs27.block _ (blk_lt Bb25.out)).trans Bb25.out⟩
        have Br28 : Aside0 (W27.heap[gr18]? = some (.cells #[.int .i64 b.1, .int .i64 b.2.1, .int .i64 b.2.2, .int .i64 0, .int .i64 0, .int .i64 0, .slice B 0 d] 26 (0, 0))) := ⟨(hbs27.block _ (blk_lt Br25.out)).trans Br25.out⟩
        have RP28 := Aside0.mk (Kd.R_below RP25.out hbs27)
        clear hbs27
        refine (accept_at (b, ((0, 0, 0) : Bal), []) zeroR (.iface 45 (.int .i64 11)) B d _ a (some ⟨gv27, 0, none⟩) 1 [1] (acc_stale a b SA.out.1 SA.out.2 SB.out.1 H3.out).1 (by rw [(acc_stale a b SA.out.1 SA.out.2 SB.out.1 H3.out).2]; rfl) ⟨OB.out, ok0.1⟩ OA.out (Kd.R_reads' RP28.out).2.2 (Kd.R_reads' RP28.out).2.1 (C_blk [1] Bv27.out rfl (by simp)) (Nat.le_refl _)).mono ?_
        rintro e wa ⟨B2, d2, rfl, _, hba⟩
        have HB29 := Aside0.mk (below_step HB28.out hba)
        have Ba29 : Aside0 (wa.heap[ga1]? = some (.cells #[.int .i64 a.1, .int .i64 a.2.1, .int .i64 a.2.2] 23 (0, 0))) := ⟨(hba.block _ (blk_lt Ba28.out)).trans Ba28.out⟩
        have Bb29 : Aside0 (wa.heap[gb1]? = some (.cells #[.int .i64 b.1, .int .i64 b.2.1, .int .i64 b.2.2] 23 (0, 0))) := ⟨(hba.block _ (blk_lt Bb28.out)).trans Bb28.out⟩
        have Br29 : Aside0 (wa.heap[gr18]? = some (.cells #[.int .i64 b.1, .int .i64 b.2.1, .int .i64 b.2.2, .int .i64 0, .int .i64 0, .int .i64 0, .slice B 0 d] 26 (0, 0))) := ⟨(hba.block _ (blk_lt Br28.out)).trans Br28.out⟩
        have Bv29 : Aside0 (wa.heap[gv27]? = some (.cells #[.int .i64 1] 3 (0, 0))) := ⟨(hba.block _ (blk_lt Bv27.out)).trans Bv27.out⟩
        have RP29 := Aside0.mk (Kd.R_below RP28.out hba)
        clear hba
        go_wp2_with fail
        go_roundw
        case rel => exact ⟨1, by omega, rfl, by rw [hac.out]; first | rfl | (simp; done) | (congr 1; simp; done), ⟨by repeat (first | exact HB29.out | apply below_alloc)⟩⟩
        case measure => simp [intOf]
    · have KA := bits1 m HM.out
      have KB := bits1 n HN.out
      have hac := Aside0.mk (show acc3 m n (1 + 1) = acc3 m n 1 + if bit3 n 1 && !bit3 m 1 then 1 else 0 from rfl)
      have hle := acc3_le m n 1
      cases hA : bit3 m 1 <;> cases hB : bit3 n 1 <;> rw [hA] at KA hac <;> rw [hB] at KB hac <;> clear hA hB
      · skip
        have zaa17_0 : ∀ o, (wr.alloc o).cell? ⟨ga1, 0, none⟩ = some (.int .i64 a.1) := fun o => (blk_cell (blk_alloc Ba15.out o) 0).trans rfl
        have zaa17_1 : ∀ o, (wr.alloc o).cell? ⟨ga1, 1, none⟩ = some (.int .i64 a.2.1) := fun o => (blk_cell (blk_alloc Ba15.out o) 1).trans rfl
        have zaa17_2 : ∀ o, (wr.alloc o).cell? ⟨ga1, 2, none⟩ = some (.int .i64 a.2.2) := fun o => (blk_cell (blk_alloc Ba15.out o) 2).trans rfl
        have zab17_0 : ∀ o, (wr.alloc o).cell? ⟨gb1, 0, none⟩ = some (.int .i64 b.1) := fun o => (blk_cell (blk_alloc Bb15.out o) 0).trans rfl
        have zab17_1 : ∀ o, (wr.alloc o).cell? ⟨gb1, 1, none⟩ = some (.int .i64 b.2.1) := fun o => (blk_cell (blk_alloc Bb15.out o) 1).trans rfl
        have zab17_2 : ∀ o, (wr.alloc o).cell? ⟨gb1, 2, none⟩ = some (.int .i64 b.2.2) := fun o => (blk_cell (blk_alloc Bb15.out o) 2).trans rfl
        go_wp2_with fail
        go_roundw
        case rel => exact ⟨2, by omega, rfl, by rw [hac.out]; first | rfl | (simp; done) | (congr 1; simp; done), ⟨by repeat (first | exact HB15.out | apply below_alloc)⟩⟩
        case measure => simp [intOf]
      · skip
        have zaa17_0 : ∀ o, (wr.alloc o).cell? ⟨ga1, 0, none⟩ = some (.int .i64 a.1) := fun o => (blk_cell (blk_alloc Ba15.out o) 0).trans rfl
        have zaa17_1 : ∀ o, (wr.alloc o).cell? ⟨ga1, 1, none⟩ = some (.int .i64 a.2.1) := fun o => (blk_cell (blk_alloc Ba15.out o) 1).trans rfl
        have zaa17_2 : ∀ o, (wr.alloc o).cell? ⟨ga1, 2, none⟩ = some (.int .i64 a.2.2) := fun o => (blk_cell (blk_alloc Ba15.out o) 2).trans rfl
        have zab17_0 : ∀ o, (wr.alloc o).cell? ⟨gb1, 0, none⟩ = some (.int .i64 b.1) := fun o => (blk_cell (blk_alloc Bb15.out o) 0).trans rfl
        have zab17_1 : ∀ o, (wr.alloc o).cell? ⟨gb1, 1, none⟩ = some (.int .i64 b.2.1) := fun o => (blk_cell (blk_alloc Bb15.out o) 1).trans rfl
        have zab17_2 : ∀ o, (wr.alloc o).cell? ⟨gb1, 2, none⟩ = some (.int .i64 b.2.2) := fun o => (blk_cell (blk_alloc Bb15.out o) 2).trans rfl
        go_wp2_with fail
        obtain ⟨W18, hw18⟩ : ∃ x : World, x = (wr.alloc (.cells #[.int .i64 0, .int .i64 0, .int .i64 0, .int .i64 0, .int .i64 0, .int .i64 0, .slice none 0 0] 26)).alloc (.cells #[.int .i64 1] 3) := ⟨_, rfl⟩
        have hbs18 : Below wr.heap.size wr W18 := by rw [hw18]; repeat (first | exact Below.refl _ _ | refine below_alloc ?_ _ | refine below_drew ?_)
        obtain ⟨gv18, hgv18⟩ : ∃ x, x = wr.heap.size + 1 := ⟨_, rfl⟩
        have GSv18 : Aside0 (w12.heap.size ≤ gv18) := ⟨by rw [hgv18]; have := HB15.out.size; omega⟩
        have Bv18 : Aside0 (W18.heap[gv18]? = some (.cells #[.int .i64 1] 3 (0, 0))) := ⟨by rw [hw18, hgv18]; have := blk_new (wr.alloc (.cells #[.int .i64 0, .int .i64 0, .int .i64 0, .int .i64 0, .int .i64 0, .int .i64 0, .slice none 0 0] 26)) (.cells #[.int .i64 1] 3); rwa [World.size_alloc] at this⟩
        rw [← hw18]
        rw [← hgv18]
        clear hw18 hgv18
        clear za16_0 za16_1 za16_2 zb16_0 zb16_1 zb16_2 zaa17_0 zaa17_1 zaa17_2 zab17_0 zab17_1 zab17_2
        have HB19 := Aside0.mk (below_step HB15.out hbs18)
        have Ba19 : Aside0 (W18.heap[ga1]? = some (.cells #[.int .i64 a.1, .int .i64 a.2.1, .int .i64 a.2.2] 23 (0, 0))) := ⟨(hbs18.block _ (blk_lt Ba15.out)).trans Ba15.out⟩
        have Bb19 : Aside0 (W18.heap[gb1]? = some (.cells #[.int .i64 b.1, .int .i64 b.2.1, .int .i64 b.2.2] 23 (0, 0))) := ⟨(hbs18.block _ (blk_lt Bb15.out)).trans Bb15.out⟩
        clear hbs18
        refine (accept_at zeroR (a, a, [1]) .nilIface none 0 _ a (some ⟨gv18, 0, none⟩) 1 [1] (acc_fresh a SA.out.1 SA.out.2).1 (by rw [(acc_fresh a SA.out.1 SA.out.2).2]; rfl) ok0 OA.out (Kd.C_nil _ _) (Nat.le_refl _) (C_blk [1] Bv18.out rfl (by simp)) (Nat.le_refl _)).mono ?_
        rintro e wa ⟨B2, d2, rfl, _, hba⟩
        have HB20 := Aside0.mk (below_step HB19.out hba)
        have Ba20 : Aside0 (wa.heap[ga1]? = some (.cells #[.int .i64 a.1, .int .i64 a.2.1, .int .i64 a.2.2] 23 (0, 0))) := ⟨(hba.block _ (blk_lt Ba19.out)).trans Ba19.out⟩
        have Bb20 : Aside0 (wa.heap[gb1]? = some (.cells #[.int .i64 b.1, .int .i64 b.2.1, .int .i64 b.2.2] 23 (0, 0))) := ⟨(hba.block _ (blk_lt Bb19.out)).trans Bb19.out⟩
        have Bv20 : Aside0 (wa.heap[gv18]? = some (.cells #[.int .i64 1] 3 (0, 0))) := ⟨(hba.block _ (blk_lt Bv18.out)).trans Bv18.out⟩
        clear hba
        go_wp2_with fail
        go_roundw
        case rel => exact ⟨2, by omega, rfl, by rw [hac.out]; first | rfl | (simp; done) | (congr 1; simp; done), ⟨by repeat (first | exact HB20.out | apply below_alloc)⟩⟩
        case measure => simp [intOf]
      · skip
        have zaa17_0 : ∀ o, (wr.alloc o).cell? ⟨ga1, 0, none⟩ = some (.int .i64 a.1) := fun o => (blk_cell (blk_alloc Ba15.out o) 0).trans rfl
        have zaa17_1 : ∀ o, (wr.alloc o).cell? ⟨ga1, 1, none⟩ = some (.int .i64 a.2.1) := fun o => (blk_cell (blk_alloc Ba15.out o) 1).trans rfl
        have zaa17_2 : ∀ o, (wr.alloc o).cell? ⟨ga1, 2, none⟩ = some (.int .i64 a.2.2) := fun o => (blk_cell (blk_alloc Ba15.out o) 2).trans rfl
        have zab17_0 : ∀ o, (wr.alloc o).cell? ⟨gb1, 0, none⟩ = some (.int .i64 b.1) := fun o => (blk_cell (blk_alloc Bb15.out o) 0).trans rfl
        have zab17_1 : ∀ o, (wr.alloc o).cell? ⟨gb1, 1, none⟩ = some (.int .i64 b.2.1) := fun o => (blk_cell (blk_alloc Bb15.out o) 1).trans rfl
        have zab17_2 : ∀ o, (wr.alloc o).cell? ⟨gb1, 2, none⟩ = some (.int .i64 b.2.2) := fun o => (blk_cell (blk_alloc Bb15.out o) 2).trans rfl
        go_wp2_with fail
        obtain ⟨W18, hw18⟩ : ∃ x : World, x = wr.alloc (.cells #[.int .i64 0, .int .i64 0, .int .i64 0, .int .i64 0, .int .i64 0, .int .i64 0, .slice none 0 0] 26) := ⟨_, rfl⟩
        have hbs18 : Below wr.heap.size wr W18 := by rw [hw18]; repeat (first | exact Below.refl _ _ | refine below_alloc ?_ _ | refine below_drew ?_)
        obtain ⟨gr18, hgr18⟩ : ∃ x, x = wr.heap.size := ⟨_, rfl⟩
        have GSr18 : Aside0 (w12.heap.size ≤ gr18) := ⟨by rw [hgr18]; have := HB15.out.size; omega⟩
        have Br18 : Aside0 (W18.heap[gr18]? = some (.cells #[.int .i64 0, .int .i64 0, .int .i64 0, .int .i64 0, .int .i64 0, .int .i64 0, .slice none 0 0] 26 (0, 0))) := ⟨by rw [hw18, hgr18]; exact blk_new _ _⟩
        rw [← hw18]
        rw [← hgr18]
        clear hw18 hgr18
        clear za16_0 za16_1 za16_2 zb16_0 zb16_1 zb16_2 zaa17_0 zaa17_1 zaa17_2 zab17_0 zab17_1 zab17_2
        have HB19 := Aside0.mk (below_step HB15.out hbs18)
        have Ba19 : Aside0 (W18.heap[ga1]? = some (.cells #[.int .i64 a.1, .int .i64 a.2.1, .int .i64 a.2.2] 23 (0, 0))) := ⟨(hbs18.block _ (blk_lt Ba15.out)).trans Ba15.out⟩
        have Bb19 : Aside0 (W18.heap[gb1]? = some (.cells #[.int .i64 b.1, .int .i64 b.2.1, .int .i64 b.2.2] 23 (0, 0))) := ⟨(hbs18.block _ (blk_lt Bb15.out)).trans Bb15.out⟩
        clear hbs18
        refine (prepare_at zeroR (b, ((0, 0, 0) : Bal), []) .nilIface none 0 _ b (prep_fresh b SB.out.1 SB.out.2).1 (by rw [(prep_fresh b SB.out.1 SB.out.2).2]; rfl) ok0 OB.out (by decide) (Kd.C_nil _ _) (Nat.le_refl _)).mono ?_
        rintro e wp ⟨B, d, rfl, hRp, hbp⟩
        have HB20 := Aside0.mk (below_step HB19.out hbp)
        have Ba20 : Aside0 (wp.heap[ga1]? = some (.cells #[.int .i64 a.1, .int .i64 a.2.1, .int .i64 a.2.2] 23 (0, 0))) := ⟨(hbp.block _ (blk_lt Ba19.out)).trans Ba19.out⟩
        have Bb20 : Aside0 (wp.heap[gb1]? = some (.cells #[.int .i64 b.1, .int .i64 b.2.1, .int .i64 b.2.2] 23 (0, 0))) := ⟨(hbp.block _ (blk_lt Bb19.out)).trans Bb19.out⟩
        have Br20 : Aside0 (wp.heap[gr18]? = some (.cells #[.int .i64 0, .int .i64 0, .int .i64 0, .int .i64 0, .int .i64 0, .int .i64 0, .slice none 0 0] 26 (0, 0))) := ⟨(hbp.block _ (blk_lt Br18.out)).trans Br18.out⟩
        clear hbp
        have HRp := Aside0.mk hRp
        clear hRp
        have za21_0 : wp.cell? ⟨ga1, 0, none⟩ = some (.int .i64 a.1) := (blk_cell Ba20.out 0).trans rfl
        have za21_1 : wp.cell? ⟨ga1, 1, none⟩ = some (.int .i64 a.2.1) := (blk_cell Ba20.out 1).trans rfl
        have za21_2 : wp.cell? ⟨ga1, 2, none⟩ = some (.int .i64 a.2.2) := (blk_cell Ba20.out 2).trans rfl
        have zb21_0 : wp.cell? ⟨gb1, 0, none⟩ = some (.int .i64 b.1) := (blk_cell Bb20.out 0).trans rfl
        have zb21_1 : wp.cell? ⟨gb1, 1, none⟩ = some (.int .i64 b.2.1) := (blk_cell Bb20.out 1).trans rfl
        have zb21_2 : wp.cell? ⟨gb1, 2, none⟩ = some (.int .i64 b.2.2) := (blk_cell Bb20.out 2).trans rfl
        have zr21_0 : wp.cell? ⟨gr18, 0, none⟩ = some (.int .i64 0) := (blk_cell Br20.out 0).trans rfl
        have zr21_1 : wp.cell? ⟨gr18, 1, none⟩ = some (.int .i64 0) := (blk_cell Br20.out 1).trans rfl
        have zr21_2 : wp.cell? ⟨gr18, 2, none⟩ = some (.int .i64 0) := (blk_cell Br20.out 2).trans rfl
        have zr21_3 : wp.cell? ⟨gr18, 3, none⟩ = some (.int .i64 0) := (blk_cell Br20.out 3).trans rfl
        have zr21_4 : wp.cell? ⟨gr18, 4, none⟩ = some (.int .i64 0) := (blk_cell Br20.out 4).trans rfl
        have zr21_5 : wp.cell? ⟨gr18, 5, none⟩ = some (.int .i64 0) := (blk_cell Br20.out 5).trans rfl
        have zr21_6 : wp.cell? ⟨gr18, 6, none⟩ = some (.slice none 0 0) := (blk_cell Br20.out 6).trans rfl
        have zaa22_0 : ∀ o, (wp.alloc o).cell? ⟨ga1, 0, none⟩ = some (.int .i64 a.1) := fun o => (blk_cell (blk_alloc Ba20.out o) 0).trans rfl
        have zaa22_1 : ∀ o, (wp.alloc o).cell? ⟨ga1, 1, none⟩ = some (.int .i64 a.2.1) := fun o => (blk_cell (blk_alloc Ba20.out o) 1).trans rfl
        have zaa22_2 : ∀ o, (wp.alloc o).cell? ⟨ga1, 2, none⟩ = some (.int .i64 a.2.2) := fun o => (blk_cell (blk_alloc Ba20.out o) 2).trans rfl
        have zab22_0 : ∀ o, (wp.alloc o).cell? ⟨gb1, 0, none⟩ = some (.int .i64 b.1) := fun o => (blk_cell (blk_alloc Bb20.out o) 0).trans rfl
        have zab22_1 : ∀ o, (wp.alloc o).cell? ⟨gb1, 1, none⟩ = some (.int .i64 b.2.1) := fun o => (blk_cell (blk_alloc Bb20.out o) 1).trans rfl
        have zab22_2 : ∀ o, (wp.alloc o).cell? ⟨gb1, 2, none⟩ = some (.int .i64 b.2.2) := fun o => (blk_cell (blk_alloc Bb20.out o) 2).trans rfl
        have zar22_0 : ∀ o, (wp.alloc o).cell? ⟨gr18, 0, none⟩ = some (.int .i64 0) := fun o => (blk_cell (blk_alloc Br20.out o) 0).trans rfl
        have zar22_1 : ∀ o, (wp.alloc o).cell? ⟨gr18, 1, none⟩ = some (.int .i64 0) := fun o => (blk_cell (blk_alloc Br20.out o) 1).trans rfl
        have zar22_2 : ∀ o, (wp.alloc o).cell? ⟨gr18, 2, none⟩ = some (.int .i64 0) := fun o => (blk_cell (blk_alloc Br20.out o) 2).trans rfl
        have zar22_3 : ∀ o, (wp.alloc o).cell? ⟨gr18, 3, none⟩ = some (.int .i64 0) := fun o => (blk_cell (blk_alloc Br20.out o) 3).trans rfl
        have zar22_4 : ∀ o, (wp.alloc o).cell? ⟨gr18, 4, none⟩ = some (.int .i64 0) := fun o => (blk_cell (blk_alloc Br20.out o) 4).trans rfl
        have zar22_5 : ∀ o, (wp.alloc o).cell? ⟨gr18, 5, none⟩ = some (.int .i64 0) := fun o => (blk_cell (blk_alloc Br20.out o) 5).trans rfl
        have zar22_6 : ∀ o, (wp.alloc o).cell? ⟨gr18, 6, none⟩ = some (.slice none 0 0) := fun o => (blk_cell (blk_alloc Br20.out o) 6).trans rfl
        have hfr0 : ∀ o, (wp.alloc o).frozen? ⟨gr18, 0, none⟩ = false := fun o => blk_frozen (blk_alloc Br20.out o) 0
        have hfr1 : ∀ o, (wp.alloc o).frozen? ⟨gr18, 1, none⟩ = false := fun o => blk_frozen (blk_alloc Br20.out o) 1
        have hfr2 : ∀ o, (wp.alloc o).frozen? ⟨gr18, 2, none⟩ = false := fun o => blk_frozen (blk_alloc Br20.out o) 2
        have hfr3 : ∀ o, (wp.alloc o).frozen? ⟨gr18, 3, none⟩ = false := fun o => blk_frozen (blk_alloc Br20.out o) 3
        have hfr4 : ∀ o, (wp.alloc o).frozen? ⟨gr18, 4, none⟩ = false := fun o => blk_frozen (blk_alloc Br20.out o) 4
        have hfr5 : ∀ o, (wp.alloc o).frozen? ⟨gr18, 5, none⟩ = false := fun o => blk_frozen (blk_alloc Br20.out o) 5
        have hfr6 : ∀ o, (wp.alloc o).frozen? ⟨gr18, 6, none⟩ = false := fun o => blk_frozen (blk_alloc Br20.out o) 6
        go_upto_region 19 with fail
        obtain ⟨W23, hw23⟩ : ∃ x : World, x = wp.alloc (.cells #[.int .i64 b.1, .int .i64 b.2.1, .int .i64 b.2.2, .int .i64 0, .int .i64 0, .int .i64 0, .slice B 0 d] 26) := ⟨_, rfl⟩
        have hbs23 : Below wp.heap.size wp W23 := by rw [hw23]; repeat (first | exact Below.refl _ _ | refine below_alloc ?_ _ | refine below_drew ?_)
        obtain ⟨gt23, hgt23⟩ : ∃ x, x = wp.heap.size := ⟨_, rfl⟩
        have GSt23 : Aside0 (w12.heap.size ≤ gt23) := ⟨by rw [hgt23]; have := HB20.out.size; omega⟩
        have Bt23 : Aside0 (W23.heap[gt23]? = some (.cells #[.int .i64 b.1, .int .i64 b.2.1, .int .i64 b.2.2, .int .i64 0, .int .i64 0, .int .i64 0, .slice B 0 d] 26 (0, 0))) := ⟨by rw [hw23, hgt23]; exact blk_new _ _⟩
        rw [← hw23]
        rw [← hgt23]
        clear hw23 hgt23
        clear za21_0 za21_1 za21_2 zb21_0 zb21_1 zb21_2 zr21_0 zr21_1 zr21_2 zr21_3 zr21_4 zr21_5 zr21_6 zaa22_0 zaa22_1 zaa22_2 zab22_0 zab22_1 zab22_2 zar22_0 zar22_1 zar22_2 zar22_3 zar22_4 zar22_5 zar22_6
        have HB24 := Aside0.mk (below_step HB20.out hbs23)
        have Ba24 : Aside0 (W23.heap[ga1]? = some (.cells #[.int .i64 a.1, .int .i64 a.2.1, .int .i64 a.2.2] 23 (0, 0))) := ⟨(hbs23.block _ (blk_lt Ba20.out)).trans Ba20.out⟩
        have Bb24 : Aside0 (W23.heap[gb1]? = some (.cells #[.int .i64 b.1, .int .i64 b.2.1, .int .i64 b.2.2] 23 (0, 0))) := ⟨(hbs23.block _ (blk_lt Bb20.out)).trans Bb20.out⟩
        have Br24 : Aside0 (W23.heap[gr18]? = some (.cells #[.int .i64 0, .int .i64 0, .int .i64 0, .int .i64 0, .int .i64 0, .int .i64 0, .slice none 0 0] 26 (0, 0))) := ⟨(hbs23.block _ (blk_lt Br20.out)).trans Br20.out⟩
        have RP24 := Aside0.mk (Kd.R_below HRp.out hbs23)
        clear hbs23
        clear hfr0 hfr1 hfr2 hfr3 hfr4 hfr5 hfr6
        obtain ⟨W25, hw25⟩ : ∃ x : World, x = (((((((W23.setCell ⟨gr18, 0, none⟩ (.int .i64 b.1)).setCell ⟨gr18, 1, none⟩ (.int .i64 b.2.1)).setCell ⟨gr18, 2, none⟩ (.int .i64 b.2.2)).setCell ⟨gr18, 3, none⟩ (.int .i64 0)).setCell ⟨gr18, 4, none⟩ (.int .i64 0)).setCell ⟨gr18, 5, none⟩ (.int .i64 0)).setCell ⟨gr18, 6, none⟩ (.slice B 0 d)) := ⟨_, rfl⟩
        have HB25 : Aside0 (Below w12.heap.size w12 W25) := ⟨by rw [hw25]; exact (below_set (below_set (below_set (below_set (below_set (below_set (below_set HB24.out GSr18.out) GSr18.out) GSr18.out) GSr18.out) GSr18.out) GSr18.out) GSr18.out)⟩
        have hgr25 : W23.grownBy W25 (some gr18) := by rw [hw25]; exact ((((((grown_set _ _ _ _).trans (grown_set _ _ _ _)).trans (grown_set _ _ _ _)).trans (grown_set _ _ _ _)).trans (grown_set _ _ _ _)).trans (grown_set _ _ _ _)).trans (grown_set _ _ _ _)
        have Br25 : Aside0 (W25.heap[gr18]? = some (.cells #[.int .i64 b.1, .int .i64 b.2.1, .int .i64 b.2.2, .int .i64 0, .int .i64 0, .int .i64 0, .slice B 0 d] 26 (0, 0))) := ⟨by rw [hw25]; refine blk_put (cs := #[.int .i64 b.1, .int .i64 b.2.1, .int .i64 b.2.2, .int .i64 0, .int .i64 0, .int .i64 0, .slice none 0 0]) ?_ 6 _ rfl; refine blk_put (cs := #[.int .i64 b.1, .int .i64 b.2.1, .int .i64 b.2.2, .int .i64 0, .int .i64 0, .int .i64 0, .slice none 0 0]) ?_ 5 _ rfl; refine blk_put (cs := #[.int .i64 b.1, .int .i64 b.2.1, .int .i64 b.2.2, .int .i64 0, .int .i64 0, .int .i64 0, .slice none 0 0]) ?_ 4 _ rfl; refine blk_put (cs := #[.int .i64 b.1, .int .i64 b.2.1, .int .i64 b.2.2, .int .i64 0, .int .i64 0, .int .i64 0, .slice none 0 0]) ?_ 3 _ rfl; refine blk_put (cs := #[.int .i64 b.1, .int .i64 b.2.1, .int .i64 0, .int .i64 0, .int .i64 0, .int .i64 0, .slice none 0 0]) ?_ 2 _ rfl; refine blk_put (cs := #[.int .i64 b.1, .int .i64 0, .int .i64 0, .int .i64 0, .int .i64 0, .int .i64 0, .slice none 0 0]) ?_ 1 _ rfl; refine blk_put (cs := #[.int .i64 0, .int .i64 0, .int .i64 0, .int .i64 0, .int .i64 0, .int .i64 0, .slice none 0 0]) ?_ 0 _ rfl; exact Br24.out⟩
        have Ba25 : Aside0 (W25.heap[ga1]? = some (.cells #[.int .i64 a.1, .int .i64 a.2.1, .int .i64 a.2.2] 23 (0, 0))) := ⟨blk_grown Ba24.out hgr25 (fun e => (blk_ne Ba24.out Br24.out (by decide)) (by injection e))⟩
        have Bb25 : Aside0 (W25.heap[gb1]? = some (.cells #[.int .i64 b.1, .int .i64 b.2.1, .int .i64 b.2.2] 23 (0, 0))) := ⟨blk_grown Bb24.out hgr25 (fun e => (blk_ne Bb24.out Br24.out (by decide)) (by injection e))⟩
        have RP25 := Aside0.mk (Kd.R_mono (Kd.R_grown (Kd.R_types RP24.out Br24.out (by decide)) hgr25 (fun k hk => by simpa using hk.2)) (fun _ hk => hk.1))
        rw [← hw25]
        clear hw25 hgr25
        have za26_0 : W25.cell? ⟨ga1, 0, none⟩ = some (.int .i64 a.1) := (blk_cell Ba25.out 0).trans rfl
        have za26_1 : W25.cell? ⟨ga1, 1, none⟩ = some (.int .i64 a.2.1) := (blk_cell Ba25.out 1).trans rfl
        have za26_2 : W25.cell? ⟨ga1, 2, none⟩ = some (.int .i64 a.2.2) := (blk_cell Ba25.out 2).trans rfl
        have zb26_0 : W25.cell? ⟨gb1, 0, none⟩ = some (.int .i64 b.1) := (blk_cell Bb25.out 0).trans rfl
        have zb26_1 : W25.cell? ⟨gb1, 1, none⟩ = some (.int .i64 b.2.1) := (blk_cell Bb25.out 1).trans rfl
        have zb26_2 : W25.cell? ⟨gb1, 2, none⟩ = some (.int .i64 b.2.2) := (blk_cell Bb25.out 2).trans rfl
        have zr26_0 : W25.cell? ⟨gr18, 0, none⟩ = some (.int .i64 b.1) := (blk_cell Br25.out 0).trans rfl
        have zr26_1 : W25.cell? ⟨gr18, 1, none⟩ = some (.int .i64 b.2.1) := (blk_cell Br25.out 1).trans rfl
        have zr26_2 : W25.cell? ⟨gr18, 2, none⟩ = some (.int .i64 b.2.2) := (blk_cell Br25.out 2).trans rfl
        have zr26_3 : W25.cell? ⟨gr18, 3, none⟩ = some (.int .i64 0) := (blk_cell Br25.out 3).trans rfl
        have zr26_4 : W25.cell? ⟨gr18, 4, none⟩ = some (.int .i64 0) := (blk_cell Br25.out 4).trans rfl
        have zr26_5 : W25.cell? ⟨gr18, 5, none⟩ = some (.int .i64 0) := (blk_cell Br25.out 5).trans rfl
        have zr26_6 : W25.cell? ⟨gr18, 6, none⟩ = some (.slice B 0 d) := (blk_cell Br25.out 6).trans rfl
        go_wp2_with fail
        go_roundw
        case rel => exact ⟨2, by omega, rfl, by rw [hac.out]; first | rfl | (simp; done) | (congr 1; simp; done), ⟨by repeat (first | exact HB25.out | apply below_alloc)⟩⟩
        case measure => simp [intOf]
      · skip
        have zaa17_0 : ∀ o, (wr.alloc o).cell? ⟨ga1, 0, none⟩ = some (.int .i64 a.1) := fun o => (blk_cell (blk_alloc Ba15.out o) 0).trans rfl
        have zaa17_1 : ∀ o, (wr.alloc o).cell? ⟨ga1, 1, none⟩ = some (.int .i64 a.2.1) := fun o => (blk_cell (blk_alloc Ba15.out o) 1).trans rfl
        have zaa17_2 : ∀ o, (wr.alloc o).cell? ⟨ga1, 2, none⟩ = some (.int .i64 a.2.2) := fun o => (blk_cell (blk_alloc Ba15.out o) 2).trans rfl
        have zab17_0 : ∀ o, (wr.alloc o).cell? ⟨gb1, 0, none⟩ = some (.int .i64 b.1) := fun o => (blk_cell (blk_alloc Bb15.out o) 0).trans rfl
        have zab17_1 : ∀ o, (wr.alloc o).cell? ⟨gb1, 1, none⟩ = some (.int .i64 b.2.1) := fun o => (blk_cell (blk_alloc Bb15.out o) 1).trans rfl
        have zab17_2 : ∀ o, (wr.alloc o).cell? ⟨gb1, 2, none⟩ = some (.int .i64 b.2.2) := fun o => (blk_cell (blk_alloc Bb15.out o) 2).trans rfl
        go_wp2_with fail
        obtain ⟨W18, hw18⟩ : ∃ x : World, x = wr.alloc (.cells #[.int .i64 0, .int .i64 0, .int .i64 0, .int .i64 0, .int .i64 0, .int .i64 0, .slice none 0 0] 26) := ⟨_, rfl⟩
        have hbs18 : Below wr.heap.size wr W18 := by rw [hw18]; repeat (first | exact Below.refl _ _ | refine below_alloc ?_ _ | refine below_drew ?_)
        obtain ⟨gr18, hgr18⟩ : ∃ x, x = wr.heap.size := ⟨_, rfl⟩
        have GSr18 : Aside0 (w12.heap.size ≤ gr18) := ⟨by rw [hgr18]; have := HB15.out.size; omega⟩
        have Br18 : Aside0 (W18.heap[gr18]? = some (.cells #[.int .i64 0, .int .i64 0, .int .i64 0, .int .i64 0, .int .i64 0, .int .i64 0, .slice none 0 0] 26 (0, 0))) := ⟨by rw [hw18, hgr18]; exact blk_new _ _⟩
        rw [← hw18]
        rw [← hgr18]
        clear hw18 hgr18
        clear za16_0 za16_1 za16_2 zb16_0 zb16_1 zb16_2 zaa17_0 zaa17_1 zaa17_2 zab17_0 zab17_1 zab17_2
        have HB19 := Aside0.mk (below_step HB15.out hbs18)
        have Ba19 : Aside0 (W18.heap[ga1]? = some (.cells #[.int .i64 a.1, .int .i64 a.2.1, .int .i64 a.2.2] 23 (0, 0))) := ⟨(hbs18.block _ (blk_lt Ba15.out)).trans Ba15.out⟩
        have Bb19 : Aside0 (W18.heap[gb1]? = some (.cells #[.int .i64 b.1, .int .i64 b.2.1, .int .i64 b.2.2] 23 (0, 0))) := ⟨(hbs18.block _ (blk_lt Bb15.out)).trans Bb15.out⟩
        clear hbs18
        refine (prepare_at zeroR (b, ((0, 0, 0) : Bal), []) .nilIface none 0 _ b (prep_fresh b SB.out.1 SB.out.2).1 (by rw [(prep_fresh b SB.out.1 SB.out.2).2]; rfl) ok0 OB.out (by decide) (Kd.C_nil _ _) (Nat.le_refl _)).mono ?_
        rintro e wp ⟨B, d, rfl, hRp, hbp⟩
        have HB20 := Aside0.mk (below_step HB19.out hbp)
        have Ba20 : Aside0 (wp.heap[ga1]? = some (.cells #[.int .i64 a.1, .int .i64 a.2.1, .int .i64 a.2.2] 23 (0, 0))) := ⟨(hbp.block _ (blk_lt Ba19.out)).trans Ba19.out⟩
        have Bb20 : Aside0 (wp.heap[gb1]? = some (.cells #[.int .i64 b.1, .int .i64 b.2.1, .int .i64 b.2.2] 23 (0, 0))) := ⟨(hbp.block _ (blk_lt Bb19.out)).trans Bb19.out⟩
        have Br20 : Aside0 (wp.heap[gr18]? = some (.cells #[.int .i64 0, .int .i64 0, .int .i64 0, .int .i64 0, .int .i64 0, .int .i64 0, .slice none 0 0] 26 (0, 0))) := ⟨(hbp.block _ (blk_lt Br18.out)).trans Br18.out⟩
        clear hbp
        have HRp := Aside0.mk hRp
        clear hRp
        have za21_0 : wp.cell? ⟨ga1, 0, none⟩ = some (.int .i64 a.1) := (blk_cell Ba20.out 0).trans rfl
        have za21_1 : wp.cell? ⟨ga1, 1, none⟩ = some (.int .i64 a.2.1) := (blk_cell Ba20.out 1).trans rfl
        have za21_2 : wp.cell? ⟨ga1, 2, none⟩ = some (.int .i64 a.2.2) := (blk_cell Ba20.out 2).trans rfl
        have zb21_0 : wp.cell? ⟨gb1, 0, none⟩ = some (.int .i64 b.1) := (blk_cell Bb20.out 0).trans rfl
        have zb21_1 : wp.cell? ⟨gb1, 1, none⟩ = some (.int .i64 b.2.1) := (blk_cell Bb20.out 1).trans rfl
        have zb21_2 : wp.cell? ⟨gb1, 2, none⟩ = some (.int .i64 b.2.2) := (blk_cell Bb20.out 2).trans rfl
        have zr21_0 : wp.cell? ⟨gr18, 0, none⟩ = some (.int .i64 0) := (blk_cell Br20.out 0).trans rfl
        have zr21_1 : wp.cell? ⟨gr18, 1, none⟩ = some (.int .i64 0) := (blk_cell Br20.out 1).trans rfl
        have zr21_2 : wp.cell? ⟨gr18, 2, none⟩ = some (.int .i64 0) := (blk_cell Br20.out 2).trans rfl
        have zr21_3 : wp.cell? ⟨gr18, 3, none⟩ = some (.int .i64 0) := (blk_cell Br20.out 3).trans rfl
        have zr21_4 : wp.cell? ⟨gr18, 4, none⟩ = some (.int .i64 0) := (blk_cell Br20.out 4).trans rfl
        have zr21_5 : wp.cell? ⟨gr18, 5, none⟩ = some (.int .i64 0) := (blk_cell Br20.out 5).trans rfl
        have zr21_6 : wp.cell? ⟨gr18, 6, none⟩ = some (.slice none 0 0) := (blk_cell Br20.out 6).trans rfl
        have zaa22_0 : ∀ o, (wp.alloc o).cell? ⟨ga1, 0, none⟩ = some (.int .i64 a.1) := fun o => (blk_cell (blk_alloc Ba20.out o) 0).trans rfl
        have zaa22_1 : ∀ o, (wp.alloc o).cell? ⟨ga1, 1, none⟩ = some (.int .i64 a.2.1) := fun o => (blk_cell (blk_alloc Ba20.out o) 1).trans rfl
        have zaa22_2 : ∀ o, (wp.alloc o).cell? ⟨ga1, 2, none⟩ = some (.int .i64 a.2.2) := fun o => (blk_cell (blk_alloc Ba20.out o) 2).trans rfl
        have zab22_0 : ∀ o, (wp.alloc o).cell? ⟨gb1, 0, none⟩ = some (.int .i64 b.1) := fun o => (blk_cell (blk_alloc Bb20.out o) 0).trans rfl
        have zab22_1 : ∀ o, (wp.alloc o).cell? ⟨gb1, 1, none⟩ = some (.int .i64 b.2.1) := fun o => (blk_cell (blk_alloc Bb20.out o) 1).trans rfl
        have zab22_2 : ∀ o, (wp.alloc o).cell? ⟨gb1, 2, none⟩ = some (.int .i64 b.2.2) := fun o => (blk_cell (blk_alloc Bb20.out o) 2).trans rfl
        have zar22_0 : ∀ o, (wp.alloc o).cell? ⟨gr18, 0, none⟩ = some (.int .i64 0) := fun o => (blk_cell (blk_alloc Br20.out o) 0).trans rfl
        have zar22_1 : ∀ o, (wp.alloc o).cell? ⟨gr18, 1, none⟩ = some (.int .i64 0) := fun o => (blk_cell (blk_alloc Br20.out o) 1).trans rfl
        have zar22_2 : ∀ o, (wp.alloc o).cell? ⟨gr18, 2, none⟩ = some (.int .i64 0) := fun o => (blk_cell (blk_alloc Br20.out o) 2).trans rfl
        have zar22_3 : ∀ o, (wp.alloc o).cell? ⟨gr18, 3, none⟩ = some (.int .i64 0) := fun o => (blk_cell (blk_alloc Br20.out o) 3).trans rfl
        have zar22_4 : ∀ o, (wp.alloc o).cell? ⟨gr18, 4, none⟩ = some (.int .i64 0) := fun o => (blk_cell (blk_alloc Br20.out o) 4).trans rfl
        have zar22_5 : ∀ o, (wp.alloc o).cell? ⟨gr18, 5, none⟩ = some (.int .i64 0) := fun o => (blk_cell (blk_alloc Br20.out o) 5).trans rfl
        have zar22_6 : ∀ o, (wp.alloc o).cell? ⟨gr18, 6, none⟩ = some (.slice none 0 0) := fun o => (blk_cell (blk_alloc Br20.out o) 6).trans rfl
        have hfr0 : ∀ o, (wp.alloc o).frozen? ⟨gr18, 0, none⟩ = false := fun o => blk_frozen (blk_alloc Br20.out o) 0
        have hfr1 : ∀ o, (wp.alloc o).frozen? ⟨gr18, 1, none⟩ = false := fun o => blk_frozen (blk_alloc Br20.out o) 1
        have hfr2 : ∀ o, (wp.alloc o).frozen? ⟨gr18, 2, none⟩ = false := fun o => blk_frozen (blk_alloc Br20.out o) 2
        have hfr3 : ∀ o, (wp.alloc o).frozen? ⟨gr18, 3, none⟩ = false := fun o => blk_frozen (blk_alloc Br20.out o) 3
        have hfr4 : ∀ o, (wp.alloc o).frozen? ⟨gr18, 4, none⟩ = false := fun o => blk_frozen (blk_alloc Br20.out o) 4
        have hfr5 : ∀ o, (wp.alloc o).frozen? ⟨gr18, 5, none⟩ = false := fun o => blk_frozen (blk_alloc Br20.out o) 5
        have hfr6 : ∀ o, (wp.alloc o).frozen? ⟨gr18, 6, none⟩ = false := fun o => blk_frozen (blk_alloc Br20.out o) 6
        go_upto_region 19 with fail
        obtain ⟨W23, hw23⟩ : ∃ x : World, x = wp.alloc (.cells #[.int .i64 b.1, .int .i64 b.2.1, .int .i64 b.2.2, .int .i64 0, .int .i64 0, .int .i64 0, .slice B 0 d] 26) := ⟨_, rfl⟩
        have hbs23 : Below wp.heap.size wp W23 := by rw [hw23]; repeat (first | exact Below.refl _ _ | refine below_alloc ?_ _ | refine below_drew ?_)
        obtain ⟨gt23, hgt23⟩ : ∃ x, x = wp.heap.size := ⟨_, rfl⟩
        have GSt23 : Aside0 (w12.heap.size ≤ gt23) := ⟨by rw [hgt23]; have := HB20.out.size; omega⟩
        have Bt23 : Aside0 (W23.heap[gt23]? = some (.cells #[.int .i64 b.1, .int .i64 b.2.1, .int .i64 b.2.2, .int .i64 0, .int .i64 0, .int .i64 0, .slice B 0 d] 26 (0, 0))) := ⟨by rw [hw23, hgt23]; exact blk_new _ _⟩
        rw [← hw23]
        rw [← hgt23]
        clear hw23 hgt23
        clear za21_0 za21_1 za21_2 zb21_0 zb21_1 zb21_2 zr21_0 zr21_1 zr21_2 zr21_3 zr21_4 zr21_5 zr21_6 zaa22_0 zaa22_1 zaa22_2 zab22_0 zab22_1 zab22_2 zar22_0 zar22_1 zar22_2 zar22_3 zar22_4 zar22_5 zar22_6
        have HB24 := Aside0.mk (below_step HB20.out hbs23)
        have Ba24 : Aside0 (W23.heap[ga1]? = some (.cells #[.int .i64 a.1, .int .i64 a.2.1, .int .i64 a.2.2] 23 (0, 0))) := ⟨(hbs23.block _ (blk_lt Ba20.out)).trans Ba20.out⟩
        have Bb24 : Aside0 (W23.heap[gb1]? = some (.cells #[.int .i64 b.1, .int .i64 b.2.1, .int .i64 b.2.2] 23 (0, 0))) := ⟨(hbs23.block _ (blk_lt Bb20.out)).trans Bb20.out⟩
        have Br24 : Aside0 (W23.heap[gr18]? = some (.cells #[.int .i64 0, .int .i64 0, .int .i64 0, .int .i64 0, .int .i64 0, .int .i64 0, .slice none 0 0] 26 (0, 0))) := ⟨(hbs23.block _ (blk_lt Br20.out)).trans Br20.out⟩
        have RP24 := Aside0.mk (Kd.R_below HRp.out hbs23)
        clear hbs23
        clear hfr0 hfr1 hfr2 hfr3 hfr4 hfr5 hfr6
        obtain ⟨W25, hw25⟩ : ∃ x : World, x = (((((((W23.setCell ⟨gr18, 0, none⟩ (.int .i64 b.1)).setCell ⟨gr18, 1, none⟩ (.int .i64 b.2.1)).setCell ⟨gr18, 2, none⟩ (.int .i64 b.2.2)).setCell ⟨gr18, 3, none⟩ (.int .i64 0)).setCell ⟨gr18, 4, none⟩ (.int .i64 0)).setCell ⟨gr18, 5, none⟩ (.int .i64 0)).setCell ⟨gr18, 6, none⟩ (.slice B 0 d)) := ⟨_, rfl⟩
        have HB25 : Aside0 (Below w12.heap.size w12 W25) := ⟨by rw [hw25]; exact (below_set (below_set (below_set (below_set (below_set (below_set (below_set HB24.out GSr18.out) GSr18.out) GSr18.out) GSr18.out) GSr18.out) GSr18.out) GSr18.out)⟩
        have hgr25 : W23.grownBy W25 (some gr18) := by rw [hw25]; exact ((((((grown_set _ _ _ _).trans (grown_set _ _ _ _)).trans (grown_set _ _ _ _)).trans (grown_set _ _ _ _)).trans (grown_set _ _ _ _)).trans (grown_set _ _ _ _)).trans (grown_set _ _ _ _)
        have Br25 : Aside0 (W25.heap[gr18]? = some (.cells #[.int .i64 b.1, .int .i64 b.2.1, .int .i64 b.2.2, .int .i64 0, .int .i64 0, .int .i64 0, .slice B 0 d] 26 (0, 0))) := ⟨by rw [hw25]; refine blk_put (cs := #[.int .i64 b.1, .int .i64 b.2.1, .int .i64 b.2.2, .int .i64 0, .int .i64 0, .int .i64 0, .slice none 0 0]) ?_ 6 _ rfl; refine blk_put (cs := #[.int .i64 b.1, .int .i64 b.2.1, .int .i64 b.2.2, .int .i64 0, .int .i64 0, .int .i64 0, .slice none 0 0]) ?_ 5 _ rfl; refine blk_put (cs := #[.int .i64 b.1, .int .i64 b.2.1, .int .i64 b.2.2, .int .i64 0, .int .i64 0, .int .i64 0, .slice none 0 0]) ?_ 4 _ rfl; refine blk_put (cs := #[.int .i64 b.1, .int .i64 b.2.1, .int .i64 b.2.2, .int .i64 0, .int .i64 0, .int .i64 0, .slice none 0 0]) ?_ 3 _ rfl; refine blk_put (cs := #[.int .i64 b.1, .int .i64 b.2.1, .int .i64 0, .int .i64 0, .int .i64 0, .int .i64 0, .slice none 0 0]) ?_ 2 _ rfl; refine blk_put (cs := #[.int .i64 b.1, .int .i64 0, .int .i64 0, .int .i64 0, .int .i64 0, .int .i64 0, .slice none 0 0]) ?_ 1 _ rfl; refine blk_put (cs := #[.int .i64 0, .int .i64 0, .int .i64 0, .int .i64 0, .int .i64 0, .int .i64 0, .slice none 0 0]) ?_ 0 _ rfl; exact Br24.out⟩
        have Ba25 : Aside0 (W25.heap[ga1]? = some (.cells #[.int .i64 a.1, .int .i64 a.2.1, .int .i64 a.2.2] 23 (0, 0))) := ⟨blk_grown Ba24.out hgr25 (fun e => (blk_ne Ba24.out Br24.out (by decide)) (by injection e))⟩
        have Bb25 : Aside0 (W25.heap[gb1]? = some (.cells #[.int .i64 b.1, .int .i64 b.2.1, .int .i64 b.2.2] 23 (0, 0))) := ⟨blk_grown Bb24.out hgr25 (fun e => (blk_ne Bb24.out Br24.out (by decide)) (by injection e))⟩
        have RP25 := Aside0.mk (Kd.R_mono (Kd.R_grown (Kd.R_types RP24.out Br24.out (by decide)) hgr25 (fun k hk => by simpa using hk.2)) (fun _ hk => hk.1))
        rw [← hw25]
        clear hw25 hgr25
        have za26_0 : W25.cell? ⟨ga1, 0, none⟩ = some (.int .i64 a.1) := (blk_cell Ba25.out 0).trans rfl
        have za26_1 : W25.cell? ⟨ga1, 1, none⟩ = some (.int .i64 a.2.1) := (blk_cell Ba25.out 1).trans rfl
        have za26_2 : W25.cell? ⟨ga1, 2, none⟩ = some (.int .i64 a.2.2) := (blk_cell Ba25.out 2).trans rfl
        have zb26_0 : W25.cell? ⟨gb1, 0, none⟩ = some (.int .i64 b.1) := (blk_cell Bb25.out 0).trans rfl
        have zb26_1 : W25.cell? ⟨gb1, 1, none⟩ = some (.int .i64 b.2.1) := (blk_cell Bb25.out 1).trans rfl
        have zb26_2 : W25.cell? ⟨gb1, 2, none⟩ = some (.int .i64 b.2.2) := (blk_cell Bb25.out 2).trans rfl
        have zr26_0 : W25.cell? ⟨gr18, 0, none⟩ = some (.int .i64 b.1) := (blk_cell Br25.out 0).trans rfl
        have zr26_1 : W25.cell? ⟨gr18, 1, none⟩ = some (.int .i64 b.2.1) := (blk_cell Br25.out 1).trans rfl
        have zr26_2 : W25.cell? ⟨gr18, 2, none⟩ = some (.int .i64 b.2.2) := (blk_cell Br25.out 2).trans rfl
        have zr26_3 : W25.cell? ⟨gr18, 3, none⟩ = some (.int .i64 0) := (blk_cell Br25.out 3).trans rfl
        have zr26_4 : W25.cell? ⟨gr18, 4, none⟩ = some (.int .i64 0) := (blk_cell Br25.out 4).trans rfl
        have zr26_5 : W25.cell? ⟨gr18, 5, none⟩ = some (.int .i64 0) := (blk_cell Br25.out 5).trans rfl
        have zr26_6 : W25.cell? ⟨gr18, 6, none⟩ = some (.slice B 0 d) := (blk_cell Br25.out 6).trans rfl
        go_wp2_with fail
        obtain ⟨W27, hw27⟩ : ∃ x : World, x = W25.alloc (.cells #[.int .i64 1] 3) := ⟨_, rfl⟩
        have hbs27 : Below W25.heap.size W25 W27 := by rw [hw27]; repeat (first | exact Below.refl _ _ | refine below_alloc ?_ _ | refine below_drew ?_)
        obtain ⟨gv27, hgv27⟩ : ∃ x, x = W25.heap.size := ⟨_, rfl⟩
        have GSv27 : Aside0 (w12.heap.size ≤ gv27) := ⟨by rw [hgv27]; have := HB25.out.size; omega⟩
        have Bv27 : Aside0 (W27.heap[gv27]? = some (.cells #[.int .i64 1] 3 (0, 0))) := ⟨by rw [hw27, hgv27]; exact blk_new _ _⟩
        rw [← hw27]
        rw [← hgv27]
        clear hw27 hgv27
        clear za26_0 za26_1 za26_2 zb26_0 zb26_1 zb26_2 zr26_0 zr26_1 zr26_2 zr26_3 zr26_4 zr26_5 zr26_6
        have HB28 := Aside0.mk (below_step HB25.out hbs27)
        have Ba28 : Aside0 (W27.heap[ga1]? = some (.cells #[.int .i64 a.1, .int .i64 a.2.1, .int .i64 a.2.2] 23 (0, 0))) := ⟨(hbs27.block _ (blk_lt Ba25.out)).trans Ba25.out⟩
        have Bb28 : Aside0 (W27.heap[gb1]? = some (.cells #[.int .i64 b.1, .int .i64 b.2.1, .int .i64 b.2.2] 23 (0, 0))) := ⟨(hbs27.block _ (blk_lt Bb25.out)).trans Bb25.out⟩
        have Br28 : Aside0 (W27.heap[gr18]? = some (.cells #[.int .i64 b.1, .int .i64 b.2.1, .int .i64 b.2.2, .int .i64 0, .int .i64 0, .int .i64 0, .slice B 0 d] 26 (0, 0))) := ⟨(hbs27.block _ (blk_lt Br25.out)).trans Br25.out⟩
        have RP28 := Aside0.mk (Kd.R_below RP25.out hbs27)
        clear hbs27
        refine (accept_at (b, ((0, 0, 0) : Bal), []) zeroR (.iface 45 (.int .i64 11)) B d _ a (some ⟨gv27, 0, none⟩) 1 [1] (acc_stale a b SA.out.1 SA.out.2 SB.out.1 H3.out).1 (by rw [(acc_stale a b SA.out.1 SA.out.2 SB.out.1 H3.out).2]; rfl) ⟨OB.out, ok0.1⟩ OA.out (Kd.R_reads' RP28.out).2.2 (Kd.R_reads' RP28.out).2.1 (C_blk [1] Bv27.out rfl (by simp)) (Nat.le_refl _)).mono ?_
        rintro e wa ⟨B2, d2, rfl, _, hba⟩
        have HB29 := Aside0.mk (below_step HB28.out hba)
        have Ba29 : Aside0 (wa.heap[ga1]? = some (.cells #[.int .i64 a.1, .int .i64 a.2.1, .int .i64 a.2.2] 23 (0, 0))) := ⟨(hba.block _ (blk_lt Ba28.out)).trans Ba28.out⟩
        have Bb29 : Aside0 (wa.heap[gb1]? = some (.cells #[.int .i64 b.1, .int .i64 b.2.1, .int .i64 b.2.2] 23 (0, 0))) := ⟨(hba.block _ (blk_lt Bb28.out)).trans Bb28.out⟩
        have Br29 : Aside0 (wa.heap[gr18]? = some (.cells #[.int .i64 b.1, .int .i64 b.2.1, .int .i64 b.2.2, .int .i64 0, .int .i64 0, .int .i64 0, .slice B 0 d] 26 (0, 0))) := ⟨(hba.block _ (blk_lt Br28.out)).trans Br28.out⟩
        have Bv29 : Aside0 (wa.heap[gv27]? = some (.cells #[.int .i64 1] 3 (0, 0))) := ⟨(hba.block _ (blk_lt Bv27.out)).trans Bv27.out⟩
        have RP29 := Aside0.mk (Kd.R_below RP28.out hba)
        clear hba
        go_wp2_with fail
        go_roundw
        case rel => exact ⟨2, by omega, rfl, by rw [hac.out]; first | rfl | (simp; done) | (congr 1; simp; done), ⟨by repeat (first | exact HB29.out | apply below_alloc)⟩⟩
        case measure => simp [intOf]
    · have KA := bits2 m HM.out
      have KB := bits2 n HN.out
      have hac := Aside0.mk (show acc3 m n (2 + 1) = acc3 m n 2 + if bit3 n 2 && !bit3 m 2 then 1 else 0 from rfl)
      have hle := acc3_le m n 2
      cases hA : bit3 m 2 <;> cases hB : bit3 n 2 <;> rw [hA] at KA hac <;> rw [hB] at KB hac <;> clear hA hB
      · skip
        have zaa17_0 : ∀ o, (wr.alloc o).cell? ⟨ga1, 0, none⟩ = some (.int .i64 a.1) := fun o => (blk_cell (blk_alloc Ba15.out o) 0).trans rfl
        have zaa17_1 : ∀ o, (wr.alloc o).cell? ⟨ga1, 1, none⟩ = some (.int .i64 a.2.1) := fun o => (blk_cell (blk_alloc Ba15.out o) 1).trans rfl
        have zaa17_2 : ∀ o, (wr.alloc o).cell? ⟨ga1, 2, none⟩ = some (.int .i64 a.2.2) := fun o => (blk_cell (blk_alloc Ba15.out o) 2).trans rfl
        have zab17_0 : ∀ o, (wr.alloc o).cell? ⟨gb1, 0, none⟩ = some (.int .i64 b.1) := fun o => (blk_cell (blk_alloc Bb15.out o) 0).trans rfl
        have zab17_1 : ∀ o, (wr.alloc o).cell? ⟨gb1, 1, none⟩ = some (.int .i64 b.2.1) := fun o => (blk_cell (blk_alloc Bb15.out o) 1).trans rfl
        have zab17_2 : ∀ o, (wr.alloc o).cell? ⟨gb1, 2, none⟩ = some (.int .i64 b.2.2) := fun o => (blk_cell (blk_alloc Bb15.out o) 2).trans rfl
        go_wp2_with fail
        go_roundw
        case rel => exact ⟨3, by omega, rfl, by rw [hac.out]; first | rfl | (simp; done) | (congr 1; simp; done), ⟨by repeat (first | exact HB15.out | apply below_alloc)⟩⟩
        case measure => simp [intOf]
      · skip
        have zaa17_0 : ∀ o, (wr.alloc o).cell? ⟨ga1, 0, none⟩ = some (.int .i64 a.1) := fun o => (blk_cell (blk_alloc Ba15.out o) 0).trans rfl
        have zaa17_1 : ∀ o, (wr.alloc o).cell? ⟨ga1, 1, none⟩ = some (.int .i64 a.2.1) := fun o => (blk_cell (blk_alloc Ba15.out o) 1).trans rfl
        have zaa17_2 : ∀ o, (wr.alloc o).cell? ⟨ga1, 2, none⟩ = some (.int .i64 a.2.2) := fun o => (blk_cell (blk_alloc Ba15.out o) 2).trans rfl
        have zab17_0 : ∀ o, (wr.alloc o).cell? ⟨gb1, 0, none⟩ = some (.int .i64 b.1) := fun o => (blk_cell (blk_alloc Bb15.out o) 0).trans rfl
        have zab17_1 : ∀ o, (wr.alloc o).cell? ⟨gb1, 1, none⟩ = some (.int .i64 b.2.1) := fun o => (blk_cell (blk_alloc Bb15.out o) 1).trans rfl
        have zab17_2 : ∀ o, (wr.alloc o).cell? ⟨gb1, 2, none⟩ = some (.int .i64 b.2.2) := fun o => (blk_cell (blk_alloc Bb15.out o) 2).trans rfl
        go_wp2_with fail
        obtain ⟨W18, hw18⟩ : ∃ x : World, x = (wr.alloc (.cells #[.int .i64 0, .int .i64 0, .int .i64 0, .int .i64 0, .int .i64 0, .int .i64 0, .slice none 0 0] 26)).alloc (.cells #[.int .i64 1] 3) := ⟨_, rfl⟩
        have hbs18 : Below wr.heap.size wr W18 := by rw [hw18]; repeat (first | exact Below.refl _ _ | refine below_alloc ?_ _ | refine below_drew ?_)
        obtain ⟨gv18, hgv18⟩ : ∃ x, x = wr.heap.size + 1 := ⟨_, rfl⟩
        have GSv18 : Aside0 (w12.heap.size ≤ gv18) := ⟨by rw [hgv18]; have := HB15.out.size; omega⟩
        have Bv18 : Aside0 (W18.heap[gv18]? = some (.cells #[.int .i64 1] 3 (0, 0))) := ⟨by rw [hw18, hgv18]; have := blk_new (wr.alloc (.cells #[.int .i64 0, .int .i64 0, .int .i64 0, .int .i64 0, .int .i64 0, .int .i64 0, .slice none 0 0] 26)) (.cells #[.int .i64 1] 3); rwa [World.size_alloc] at this⟩
        rw [← hw18]
        rw [← hgv18]
        clear hw18 hgv18
        clear za16_0 za16_1 za16_2 zb16_0 zb16_1 zb16_2 zaa17_0 zaa17_1 zaa17_2 zab17_0 zab17_1 zab17_2
        have HB19 := Aside0.mk (below_step HB15.out hbs18)
        have Ba19 : Aside0 (W18.heap[ga1]? = some (.cells #[.int .i64 a.1, .int .i64 a.2.1, .int .i64 a.2.2] 23 (0, 0))) := ⟨(hbs18.block _ (blk_lt Ba15.out)).trans Ba15.out⟩
        have Bb19 : Aside0 (W18.heap[gb1]? = some (.cells #[.int .i64 b.1, .int .i64 b.2.1, .int .i64 b.2.2] 23 (0, 0))) := ⟨(hbs18.block _ (blk_lt Bb15.out)).trans Bb15.out⟩
        clear hbs18
        refine (accept_at zeroR (a, a, [1]) .nilIface none 0 _ a (some ⟨gv18, 0, none⟩) 1 [1] (acc_fresh a SA.out.1 SA.out.2).1 (by rw [(acc_fresh a SA.out.1 SA.out.2).2]; rfl) ok0 OA.out (Kd.C_nil _ _) (Nat.le_refl _) (C_blk [1] Bv18.out rfl (by simp)) (Nat.le_refl _)).mono ?_
        rintro e wa ⟨B2, d2, rfl, _, hba⟩
        have HB20 := Aside0.mk (below_step HB19.out hba)
        have Ba20 : Aside0 (wa.heap[ga1]? = some (.cells #[.int .i64 a.1, .int .i64 a.2.1, .int .i64 a.2.2] 23 (0, 0))) := ⟨(hba.block _ (blk_lt Ba19.out)).trans Ba19.out⟩
        have Bb20 : Aside0 (wa.heap[gb1]? = some (.cells #[.int .i64 b.1, .int .i64 b.2.1, .int .i64 b.2.2] 23 (0, 0))) := ⟨(hba.block _ (blk_lt Bb19.out)).trans Bb19.out⟩
        have Bv20 : Aside0 (wa.heap[gv18]? = some (.cells #[.int .i64 1] 3 (0, 0))) := ⟨(hba.block _ (blk_lt Bv18.out)).trans Bv18.out⟩
        clear hba
        go_wp2_with fail
        go_roundw
        case rel => exact ⟨3, by omega, rfl, by rw [hac.out]; first | rfl | (simp; done) | (congr 1; simp; done), ⟨by repeat (first | exact HB20.out | apply below_alloc)⟩⟩
        case measure => simp [intOf]
      · skip
        have zaa17_0 : ∀ o, (wr.alloc o).cell? ⟨ga1, 0, none⟩ = some (.int .i64 a.1) := fun o => (blk_cell (blk_alloc Ba15.out o) 0).trans rfl
        have zaa17_1 : ∀ o, (wr.alloc o).cell? ⟨ga1, 1, none⟩ = some (.int .i64 a.2.1) := fun o => (blk_cell (blk_alloc Ba15.out o) 1).trans rfl
        have zaa17_2 : ∀ o, (wr.alloc o).cell? ⟨ga1, 2, none⟩ = some (.int .i64 a.2.2) := fun o => (blk_cell (blk_alloc Ba15.out o) 2).trans rfl
        have zab17_0 : ∀ o, (wr.alloc o).cell? ⟨gb1, 0, none⟩ = some (.int .i64 b.1) := fun o => (blk_cell (blk_alloc Bb15.out o) 0).trans rfl
        have zab17_1 : ∀ o, (wr.alloc o).cell? ⟨gb1, 1, none⟩ = some (.int .i64 b.2.1) := fun o => (blk_cell (blk_alloc Bb15.out o) 1).trans rfl
        have zab17_2 : ∀ o, (wr.alloc o).cell? ⟨gb1, 2, none⟩ = some (.int .i64 b.2.2) := fun o => (blk_cell (blk_alloc Bb15.out o) 2).trans rfl
        go_wp2_with fail
        obtain ⟨W18, hw18⟩ : ∃ x : World, x = wr.alloc (.cells #[.int .i64 0, .int .i64 0, .int .i64 0, .int .i64 0, .int .i64 0, .int .i64 0, .slice none 0 0] 26) := ⟨_, rfl⟩
        have hbs18 : Below wr.heap.size wr W18 := by rw [hw18]; repeat (first | exact Below.refl _ _ | refine below_alloc ?_ _ | refine below_drew ?_)
        obtain ⟨gr18, hgr18⟩ : ∃ x, x = wr.heap.size := ⟨_, rfl⟩
        have GSr18 : Aside0 (w12.heap.size ≤ gr18) := ⟨by rw [hgr18]; have := HB15.out.size; omega⟩
        have Br18 : Aside0 (W18.heap[gr18]? = some (.cells #[.int .i64 0, .int .i64 0, .int .i64 0, .int .i64 0, .int .i64 0, .int .i64 0, .slice none 0 0] 26 (0, 0))) := ⟨by rw [hw18, hgr18]; exact blk_new _ _⟩
        rw [← hw18]
        rw [← hgr18]
        clear hw18 hgr18
        clear za16_0 za16_1 za16_2 zb16_0 zb16_1 zb16_2 zaa17_0 zaa17_1 zaa17_2 zab17_0 zab17_1 zab17_2
        have HB19 := Aside0.mk (below_step HB15.out hbs18)
        have Ba19 : Aside0 (W18.heap[ga1]? = some (.cells #[.int .i64 a.1, .int .i64 a.2.1, .int .i64 a.2.2] 23 (0, 0))) := ⟨(hbs18.block _ (blk_lt Ba15.out)).trans Ba15.out⟩
        have Bb19 : Aside0 (W18.heap[gb1]? = some (.cells #[.int .i64 b.1, .int .i64 b.2.1, .int .i64 b.2.2] 23 (0, 0))) := ⟨(hbs18.block _ (blk_lt Bb15.out)).trans Bb15.out⟩
        clear hbs18
        refine (prepare_at zeroR (b, ((0, 0, 0) : Bal), []) .nilIface none 0 _ b (prep_fresh b SB.out.1 SB.out.2).1 (by rw [(prep_fresh b SB.out.1 SB.out.2).2]; rfl) ok0 OB.out (by decide) (Kd.C_nil _ _) (Nat.le_refl _)).mono ?_
        rintro e wp ⟨B, d, rfl, hRp, hbp⟩
        have HB20 := Aside0.mk (below_step HB19.out hbp)
        have Ba20 : Aside0 (wp.heap[ga1]? = some (.cells #[.int .i64 a.1, .int .i64 a.2.1, .int .i64 a.2.2] 23 (0, 0))) := ⟨(hbp.block _ (blk_lt Ba19.out)).trans Ba19.out⟩
        have Bb20 : Aside0 (wp.heap[gb1]? = some (.cells #[.int .i64 b.1, .int .i64 b.2.1, .int .i64 b.2.2] 23 (0, 0))) := ⟨(hbp.block _ (blk_lt Bb19.out)).trans Bb19.out⟩
        have Br20 : Aside0 (wp.heap[gr18]? = some (.cells #[.int .i64 0, .int .i64 0, .int .i64 0, .int .i64 0, .int .i64 0, .int .i64 0, .slice none 0 0] 26 (0, 0))) := ⟨(hbp.block _ (blk_lt Br18.out)).trans Br18.out⟩
        clear hbp
        have HRp := Aside0.mk hRp
        clear hRp
        have za21_0 : wp.cell? ⟨ga1, 0, none⟩ = some (.int .i64 a.1) := (blk_cell Ba20.out 0).trans rfl
        have za21_1 : wp.cell? ⟨ga1, 1, none⟩ = some (.int .i64 a.2.1) := (blk_cell Ba20.out 1).trans rfl
        have za21_2 : wp.cell? ⟨ga1, 2, none⟩ = some (.int .i64 a.2.2) := (blk_cell Ba20.out 2).trans rfl
        have zb21_0 : wp.cell? ⟨gb1, 0, none⟩ = some (.int .i64 b.1) := (blk_cell Bb20.out 0).trans rfl
        have zb21_1 : wp.cell? ⟨gb1, 1, none⟩ = some (.int .i64 b.2.1) := (blk_cell Bb20.out 1).trans rfl
        have zb21_2 : wp.cell? ⟨gb1, 2, none⟩ = some (.int .i64 b.2.2) := (blk_cell Bb20.out 2).trans rfl
        have zr21_0 : wp.cell? ⟨gr18, 0, none⟩ = some (.int .i64 0) := (blk_cell Br20.out 0).trans rfl
        have zr21_1 : wp.cell? ⟨gr18, 1, none⟩ = some (.int .i64 0) := (blk_cell Br20.out 1).trans rfl
        have zr21_2 : wp.cell? ⟨gr18, 2, none⟩ = some (.int .i64 0) := (blk_cell Br20.out 2).trans rfl
        have zr21_3 : wp.cell? ⟨gr18, 3, none⟩ = some (.int .i64 0) := (blk_cell Br20.out 3).trans rfl
        have zr21_4 : wp.cell? ⟨gr18, 4, none⟩ = some (.int .i64 0) := (blk_cell Br20.out 4).trans rfl
        have zr21_5 : wp.cell? ⟨gr18, 5, none⟩ = some (.int .i64 0) := (blk_cell Br20.out 5).trans rfl
        have zr21_6 : wp.cell? ⟨gr18, 6, none⟩ = some (.slice none 0 0) := (blk_cell Br20.out 6).trans rfl
        have zaa22_0 : ∀ o, (wp.alloc o).cell? ⟨ga1, 0, none⟩ = some (.int .i64 a.1) := fun o => (blk_cell (blk_alloc Ba20.out o) 0).trans rfl
        have zaa22_1 : ∀ o, (wp.alloc o).cell? ⟨ga1, 1, none⟩ = some (.int .i64 a.2.1) := fun o => (blk_cell (blk_alloc Ba20.out o) 1).trans rfl
        have zaa22_2 : ∀ o, (wp.alloc o).cell? ⟨ga1, 2, none⟩ = some (.int .i64 a.2.2) := fun o => (blk_cell (blk_alloc Ba20.out o) 2).trans rfl
        have zab22_0 : ∀ o, (wp.alloc o).cell? ⟨gb1, 0, none⟩ = some (.int .i64 b.1) := fun o => (blk_cell (blk_alloc Bb20.out o) 0).trans rfl
        have zab22_1 : ∀ o, (wp.alloc o).cell? ⟨gb1, 1, none⟩ = some (.int .i64 b.2.1) := fun o => (blk_cell (blk_alloc Bb20.out o) 1).trans rfl
        have zab22_2 : ∀ o, (wp.alloc o).cell? ⟨gb1, 2, none⟩ = some (.int .i64 b.2.2) := fun o => (blk_cell (blk_alloc Bb20.out o) 2).trans rfl
        have zar22_0 : ∀ o, (wp.alloc o).cell? ⟨gr18, 0, none⟩ = some (.int .i64 0) := fun o => (blk_cell (blk_alloc Br20.out o) 0).trans rfl
        have zar22_1 : ∀ o, (wp.alloc o).cell? ⟨gr18, 1, none⟩ = some (.int .i64 0) := fun o => (blk_cell (blk_alloc Br20.out o) 1).trans rfl
        have zar22_2 : ∀ o, (wp.alloc o).cell? ⟨gr18, 2, none⟩ = some (.int .i64 0) := fun o => (blk_cell (blk_alloc Br20.out o) 2).trans rfl
        have zar22_3 : ∀ o, (wp.alloc o).cell? ⟨gr18, 3, none⟩ = some (.int .i64 0) := fun o => (blk_cell (blk_alloc Br20.out o) 3).trans rfl
        have zar22_4 : ∀ o, (wp.alloc o).cell? ⟨gr18, 4, none⟩ = some (.int .i64 0) := fun o => (blk_cell (blk_alloc Br20.out o) 4).trans rfl
        have zar22_5 : ∀ o, (wp.alloc o).cell? ⟨gr18, 5, none⟩ = some (.int .i64 0) := fun o => (blk_cell (blk_alloc Br20.out o) 5).trans rfl
        have zar22_6 : ∀ o, (wp.alloc o).cell? ⟨gr18, 6, none⟩ = some (.slice none 0 0) := fun o => (blk_cell (blk_alloc Br20.out o) 6).trans rfl
        have hfr0 : ∀ o, (wp.alloc o).frozen? ⟨gr18, 0, none⟩ = false := fun o => blk_frozen (blk_alloc Br20.out o) 0
        have hfr1 : ∀ o, (wp.alloc o).frozen? ⟨gr18, 1, none⟩ = false := fun o => blk_frozen (blk_alloc Br20.out o) 1
        have hfr2 : ∀ o, (wp.alloc o).frozen? ⟨gr18, 2, none⟩ = false := fun o => blk_frozen (blk_alloc Br20.out o) 2
        have hfr3 : ∀ o, (wp.alloc o).frozen? ⟨gr18, 3, none⟩ = false := fun o => blk_frozen (blk_alloc Br20.out o) 3
        have hfr4 : ∀ o, (wp.alloc o).frozen? ⟨gr18, 4, none⟩ = false := fun o => blk_frozen (blk_alloc Br20.out o) 4
        have hfr5 : ∀ o, (wp.alloc o).frozen? ⟨gr18, 5, none⟩ = false := fun o => blk_frozen (blk_alloc Br20.out o) 5
        have hfr6 : ∀ o, (wp.alloc o).frozen? ⟨gr18, 6, none⟩ = false := fun o => blk_frozen (blk_alloc Br20.out o) 6
        go_upto_region 19 with fail
        obtain ⟨W23, hw23⟩ : ∃ x : World, x = wp.alloc (.cells #[.int .i64 b.1, .int .i64 b.2.1, .int .i64 b.2.2, .int .i64 0, .int .i64 0, .int .i64 0, .slice B 0 d] 26) := ⟨_, rfl⟩
        have hbs23 : Below wp.heap.size wp W23 := by rw [hw23]; repeat (first | exact Below.refl _ _ | refine below_alloc ?_ _ | refine below_drew ?_)
        obtain ⟨gt23, hgt23⟩ : ∃ x, x = wp.heap.size := ⟨_, rfl⟩
        have GSt23 : Aside0 (w12.heap.size ≤ gt23) := ⟨by rw [hgt23]; have := HB20.out.size; omega⟩
        have Bt23 : Aside0 (W23.heap[gt23]? = some (.cells #[.int .i64 b.1, .int .i64 b.2.1, .int .i64 b.2.2, .int .i64 0, .int .i64 0, .int .i64 0, .slice B 0 d] 26 (0, 0))) := ⟨by rw [hw23, hgt23]; exact blk_new _ _⟩
        rw [← hw23]
        rw [← hgt23]
        clear hw23 hgt23
        clear za21_0 za21_1 za21_2 zb21_0 zb21_1 zb21_2 zr21_0 zr21_1 zr21_2 zr21_3 zr21_4 zr21_5 zr21_6 zaa22_0 zaa22_1 zaa22_2 zab22_0 zab22_1 zab22_2 zar22_0 zar22_1 zar22_2 zar22_3 zar22_4 zar22_5 zar22_6
        have HB24 := Aside0.mk (below_step HB20.out hbs23)
        have Ba24 : Aside0 (W23.heap[ga1]? = some (.cells #[.int .i64 a.1, .int .i64 a.2.1, .int .i64 a.2.2] 23 (0, 0))) := ⟨(hbs23.block _ (blk_lt Ba20.out)).trans Ba20.out⟩
        have Bb24 : Aside0 (W23.heap[gb1]? = some (.cells #[.int .i64 b.1, .int .i64 b.2.1, .int .i64 b.2.2] 23 (0, 0))) := ⟨(hbs23.block _ (blk_lt Bb20.out)).trans Bb20.out⟩
        have Br24 : Aside0 (W23.heap[gr18]? = some (.cells #[.int .i64 0, .int .i64 0, .int .i64 0, .int .i64 0, .int .i64 0, .int .i64 0, .slice none 0 0] 26 (0, 0))) := ⟨(hbs23.block _ (blk_lt Br20.out)).trans Br20.out⟩
        have RP24 := Aside0.mk (Kd.R_below HRp.out hbs23)
        clear hbs23
        clear hfr0 hfr1 hfr2 hfr3 hfr4 hfr5 hfr6
        obtain ⟨W25, hw25⟩ : ∃ x : World, x = (((((((W23.setCell ⟨gr18, 0, none⟩ (.int .i64 b.1)).setCell ⟨gr18, 1, none⟩ (.int .i64 b.2.1)).setCell ⟨gr18, 2, none⟩ (.int .i64 b.2.2)).setCell ⟨gr18, 3, none⟩ (.int .i64 0)).setCell ⟨gr18, 4, none⟩ (.int .i64 0)).setCell ⟨gr18, 5, none⟩ (.int .i64 0)).setCell ⟨gr18, 6, none⟩ (.slice B 0 d)) := ⟨_, rfl⟩
        have HB25 : Aside0 (Below w12.heap.size w12 W25) := ⟨by rw [hw25]; exact (below_set (below_set (below_set (below_set (below_set (below_set (below_set HB24.out GSr18.out) GSr18.out) GSr18.out) GSr18.out) GSr18.out) GSr18.out) GSr18.out)⟩
        have hgr25 : W23.grownBy W25 (some gr18) := by rw [hw25]; exact ((((((grown_set _ _ _ _).trans (grown_set _ _ _ _)).trans (grown_set _ _ _ _)).trans (grown_set _ _ _ _)).trans (grown_set _ _ _ _)).trans (grown_set _ _ _ _)).trans (grown_set _ _ _ _)
        have Br25 : Aside0 (W25.heap[gr18]? = some (.cells #[.int .i64 b.1, .int .i64 b.2.1, .int .i64 b.2.2, .int .i64 0, .int .i64 0, .int .i64 0, .slice B 0 d] 26 (0, 0))) := ⟨by rw [hw25]; refine blk_put (cs := #[.int .i64 b.1, .int .i64 b.2.1, .int .i64 b.2.2, .int .i64 0, .int .i64 0, .int .i64 0, .slice none 0 0]) ?_ 6 _ rfl; refine blk_put (cs := #[.int .i64 b.1, .int .i64 b.2.1, .int .i64 b.2.2, .int .i64 0, .int .i64 0, .int .i64 0, .slice none 0 0]) ?_ 5 _ rfl; refine blk_put (cs := #[.int .i64 b.1, .int .i64 b.2.1, .int .i64 b.2.2, .int .i64 0, .int .i64 0, .int .i64 0, .slice none 0 0]) ?_ 4 _ rfl; refine blk_put (cs := #[.int .i64 b.1, .int .i64 b.2.1, .int .i64 b.2.2, .int .i64 0, .int .i64 0, .int .i64 0, .slice none 0 0]) ?_ 3 _ rfl; refine blk_put (cs := #[.int .i64 b.1, .int .i64 b.2.1, .int .i64 0, .int .i64 0, .int .i64 0, .int .i64 0, .slice none 0 0]) ?_ 2 _ rfl; refine blk_put (cs := #[.int .i64 b.1, .int .i64 0, .int .i64 0, .int .i64 0, .int .i64 0, .int .i64 0, .slice none 0 0]) ?_ 1 _ rfl; refine blk_put (cs := #[.int .i64 0, .int .i64 0, .int .i64 0, .int .i64 0, .int .i64 0, .int .i64 0, .slice none 0 0]) ?_ 0 _ rfl; exact Br24.out⟩
        have Ba25 : Aside0 (W25.heap[ga1]? = some (.cells #[.int .i64 a.1, .int .i64 a.2.1, .int .i64 a.2.2] 23 (0, 0))) := ⟨blk_grown Ba24.out hgr25 (fun e => (blk_ne Ba24.out Br24.out (by decide)) (by injection e))⟩
        have Bb25 : Aside0 (W25.heap[gb1]? = some (.cells #[.int .i64 b.1, .int .i64 b.2.1, .int .i64 b.2.2] 23 (0, 0))) := ⟨blk_grown Bb24.out hgr25 (fun e => (blk_ne Bb24.out Br24.out (by decide)) (by injection e))⟩
        have RP25 := Aside0.mk (Kd.R_mono (Kd.R_grown (Kd.R_types RP24.out Br24.out (by decide)) hgr25 (fun k hk => by simpa using hk.2)) (fun _ hk => hk.1))
        rw [← hw25]
        clear hw25 hgr25
        have za26_0 : W25.cell? ⟨ga1, 0, none⟩ = some (.int .i64 a.1) := (blk_cell Ba25.out 0).trans rfl
        have za26_1 : W25.cell? ⟨ga1, 1, none⟩ = some (.int .i64 a.2.1) := (blk_cell Ba25.out 1).trans rfl
        have za26_2 : W25.cell? ⟨ga1, 2, none⟩ = some (.int .i64 a.2.2) := (blk_cell Ba25.out 2).trans rfl
        have zb26_0 : W25.cell? ⟨gb1, 0, none⟩ = some (.int .i64 b.1) := (blk_cell Bb25.out 0).trans rfl
        have zb26_1 : W25.cell? ⟨gb1, 1, none⟩ = some (.int .i64 b.2.1) := (blk_cell Bb25.out 1).trans rfl
        have zb26_2 : W25.cell? ⟨gb1, 2, none⟩ = some (.int .i64 b.2.2) := (blk_cell Bb25.out 2).trans rfl
        have zr26_0 : W25.cell? ⟨gr18, 0, none⟩ = some (.int .i64 b.1) := (blk_cell Br25.out 0).trans rfl
        have zr26_1 : W25.cell? ⟨gr18, 1, none⟩ = some (.int .i64 b.2.1) := (blk_cell Br25.out 1).trans rfl
        have zr26_2 : W25.cell? ⟨gr18, 2, none⟩ = some (.int .i64 b.2.2) := (blk_cell Br25.out 2).trans rfl
        have zr26_3 : W25.cell? ⟨gr18, 3, none⟩ = some (.int .i64 0) := (blk_cell Br25.out 3).trans rfl
        have zr26_4 : W25.cell? ⟨gr18, 4, none⟩ = some (.int .i64 0) := (blk_cell Br25.out 4).trans rfl
        have zr26_5 : W25.cell? ⟨gr18, 5, none⟩ = some (.int .i64 0) := (blk_cell Br25.out 5).trans rfl
        have zr26_6 : W25.cell? ⟨gr18, 6, none⟩ = some (.slice B 0 d) := (blk_cell Br25.out 6).trans rfl
        go_wp2_with fail
        go_roundw
        case rel => exact ⟨3, by omega, rfl, by rw [hac.out]; first | rfl | (simp; done) | (congr 1; simp; done), ⟨by repeat (first | exact HB25.out | apply below_alloc)⟩⟩
        case measure => simp [intOf]
      · skip
        have zaa17_0 : ∀ o, (wr.alloc o).cell? ⟨ga1, 0, none⟩ = some (.int .i64 a.1) := fun o => (blk_cell (blk_alloc Ba15.out o) 0).trans rfl
        have zaa17_1 : ∀ o, (wr.alloc o).cell? ⟨ga1, 1, none⟩ = some (.int .i64 a.2.1) := fun o => (blk_cell (blk_alloc Ba15.out o) 1).trans rfl
        have zaa17_2 : ∀ o, (wr.alloc o).cell? ⟨ga1, 2, none⟩ = some (.int .i64 a.2.2) := fun o => (blk_cell (blk_alloc Ba15.out o) 2).trans rfl
        have zab17_0 : ∀ o, (wr.alloc o).cell? ⟨gb1, 0, none⟩ = some (.int .i64 b.1) := fun o => (blk_cell (blk_alloc Bb15.out o) 0).trans rfl
        have zab17_1 : ∀ o, (wr.alloc o).cell? ⟨gb1, 1, none⟩ = some (.int .i64 b.2.1) := fun o => (blk_cell (blk_alloc Bb15.out o) 1).trans rfl
        have zab17_2 : ∀ o, (wr.alloc o).cell? ⟨gb1, 2, none⟩ = some (.int .i64 b.2.2) := fun o => (blk_cell (blk_alloc Bb15.out o) 2).trans rfl
        go_wp2_with fail
        obtain ⟨W18, hw18⟩ : ∃ x : World, x = wr.alloc (.cells #[.int .i64 0, .int .i64 0, .int .i64 0, .int .i64 0, .int .i64 0, .int .i64 0, .slice none 0 0] 26) := ⟨_, rfl⟩
        have hbs18 : Below wr.heap.size wr W18 := by rw [hw18]; repeat (first | exact Below.refl _ _ | refine below_alloc ?_ _ | refine below_drew ?_)
        obtain ⟨gr18, hgr18⟩ : ∃ x, x = wr.heap.size := ⟨_, rfl⟩
        have GSr18 : Aside0 (w12.heap.size ≤ gr18) := ⟨by rw [hgr18]; have := HB15.out.size; omega⟩
        have Br18 : Aside0 (W18.heap[gr18]? = some (.cells #[.int .i64 0, .int .i64 0, .int .i64 0, .int .i64 0, .int .i64 0, .int .i64 0, .slice none 0 0] 26 (0, 0))) := ⟨by rw [hw18, hgr18]; exact blk_new _ _⟩
        rw [← hw18]
        rw [← hgr18]
        clear hw18 hgr18
        clear za16_0 za16_1 za16_2 zb16_0 zb16_1 zb16_2 zaa17_0 zaa17_1 zaa17_2 zab17_0 zab17_1 zab17_2
        have HB19 := Aside0.mk (below_step HB15.out hbs18)
        have Ba19 : Aside0 (W18.heap[ga1]? = some (.cells #[.int .i64 a.1, .int .i64 a.2.1, .int .i64 a.2.2] 23 (0, 0))) := ⟨(hbs18.block _ (blk_lt Ba15.out)).trans Ba15.out⟩
        have Bb19 : Aside0 (W18.heap[gb1]? = some (.cells #[.int .i64 b.1, .int .i64 b.2.1, .int .i64 b.2.2] 23 (0, 0))) := ⟨(hbs18.block _ (blk_lt Bb15.out)).trans Bb15.out⟩
        clear hbs18
        refine (prepare_at zeroR (b, ((0, 0, 0) : Bal), []) .nilIface none 0 _ b (prep_fresh b SB.out.1 SB.out.2).1 (by rw [(prep_fresh b SB.out.1 SB.out.2).2]; rfl) ok0 OB.out (by decide) (Kd.C_nil _ _) (Nat.le_refl _)).mono ?_
        rintro e wp ⟨B, d, rfl, hRp, hbp⟩
        have HB20 := Aside0.mk (below_step HB19.out hbp)
        have Ba20 : Aside0 (wp.heap[ga1]? = some (.cells #[.int .i64 a.1, .int .i64 a.2.1, .int .i64 a.2.2] 23 (0, 0))) := ⟨(hbp.block _ (blk_lt Ba19.out)).trans Ba19.out⟩
        have Bb20 : Aside0 (wp.heap[gb1]? = some (.cells #[.int .i64 b.1, .int .i64 b.2.1, .int .i64 b.2.2] 23 (0, 0))) := ⟨(hbp.block _ (blk_lt Bb19.out)).trans Bb19.out⟩
        have Br20 : Aside0 (wp.heap[gr18]? = some (.cells #[.int .i64 0, .int .i64 0, .int .i64 0, .int .i64 0, .int .i64 0, .int .i64 0, .slice none 0 0] 26 (0, 0))) := ⟨(hbp.block _ (blk_lt Br18.out)).trans Br18.out⟩
        clear hbp
        have HRp := Aside0.mk hRp
        clear hRp
        have za21_0 : wp.cell? ⟨ga1, 0, none⟩ = some (.int .i64 a.1) := (blk_cell Ba20.out 0).trans rfl
        have za21_1 : wp.cell? ⟨ga1, 1, none⟩ = some (.int .i64 a.2.1) := (blk_cell Ba20.out 1).trans rfl
        have za21_2 : wp.cell? ⟨ga1, 2, none⟩ = some (.int .i64 a.2.2) := (blk_cell Ba20.out 2).trans rfl
        have zb21_0 : wp.cell? ⟨gb1, 0, none⟩ = some (.int .i64 b.1) := (blk_cell Bb20.out 0).trans rfl
        have zb21_1 : wp.cell? ⟨gb1, 1, none⟩ = some (.int .i64 b.2.1) := (blk_cell Bb20.out 1).trans rfl
        have zb21_2 : wp.cell? ⟨gb1, 2, none⟩ = some (.int .i64 b.2.2) := (blk_cell Bb20.out 2).trans rfl
        have zr21_0 : wp.cell? ⟨gr18, 0, none⟩ = some (.int .i64 0) := (blk_cell Br20.out 0).trans rfl
        have zr21_1 : wp.cell? ⟨gr18, 1, none⟩ = some (.int .i64 0) := (blk_cell Br20.out 1).trans rfl
        have zr21_2 : wp.cell? ⟨gr18, 2, none⟩ = some (.int .i64 0) := (blk_cell Br20.out 2).trans rfl
        have zr21_3 : wp.cell? ⟨gr18, 3, none⟩ = some (.int .i64 0) := (blk_cell Br20.out 3).trans rfl
        have zr21_4 : wp.cell? ⟨gr18, 4, none⟩ = some (.int .i64 0) := (blk_cell Br20.out 4).trans rfl
        have zr21_5 : wp.cell? ⟨gr18, 5, none⟩ = some (.int .i64 0) := (blk_cell Br20.out 5).trans rfl
        have zr21_6 : wp.cell? ⟨gr18, 6, none⟩ = some (.slice none 0 0) := (blk_cell Br20.out 6).trans rfl
        have zaa22_0 : ∀ o, (wp.alloc o).cell? ⟨ga1, 0, none⟩ = some (.int .i64 a.1) := fun o => (blk_cell (blk_alloc Ba20.out o) 0).trans rfl
        have zaa22_1 : ∀ o, (wp.alloc o).cell? ⟨ga1, 1, none⟩ = some (.int .i64 a.2.1) := fun o => (blk_cell (blk_alloc Ba20.out o) 1).trans rfl
        have zaa22_2 : ∀ o, (wp.alloc o).cell? ⟨ga1, 2, none⟩ = some (.int .i64 a.2.2) := fun o => (blk_cell (blk_alloc Ba20.out o) 2).trans rfl
        have zab22_0 : ∀ o, (wp.alloc o).cell? ⟨gb1, 0, none⟩ = some (.int .i64 b.1) := fun o => (blk_cell (blk_alloc Bb20.out o) 0).trans rfl
        have zab22_1 : ∀ o, (wp.alloc o).cell? ⟨gb1, 1, none⟩ = some (.int .i64 b.2.1) := fun o => (blk_cell (blk_alloc Bb20.out o) 1).trans rfl
        have zab22_2 : ∀ o, (wp.alloc o).cell? ⟨gb1, 2, none⟩ = some (.int .i64 b.2.2) := fun o => (blk_cell (blk_alloc Bb20.out o) 2).trans rfl
        have zar22_0 : ∀ o, (wp.alloc o).cell? ⟨gr18, 0, none⟩ = some (.int .i64 0) := fun o => (blk_cell (blk_alloc Br20.out o) 0).trans rfl
        have zar22_1 : ∀ o, (wp.alloc o).cell? ⟨gr18, 1, none⟩ = some (.int .i64 0) := fun o => (blk_cell (blk_alloc Br20.out o) 1).trans rfl
        have zar22_2 : ∀ o, (wp.alloc o).cell? ⟨gr18, 2, none⟩ = some (.int .i64 0) := fun o => (blk_cell (blk_alloc Br20.out o) 2).trans rfl
        have zar22_3 : ∀ o, (wp.alloc o).cell? ⟨gr18, 3, none⟩ = some (.int .i64 0) := fun o => (blk_cell (blk_alloc Br20.out o) 3).trans rfl
        have zar22_4 : ∀ o, (wp.alloc o).cell? ⟨gr18, 4, none⟩ = some (.int .i64 0) := fun o => (blk_cell (blk_alloc Br20.out o) 4).trans rfl
        have zar22_5 : ∀ o, (wp.alloc o).cell? ⟨gr18, 5, none⟩ = some (.int .i64 0) := fun o => (blk_cell (blk_alloc Br20.out o) 5).trans rfl
        have zar22_6 : ∀ o, (wp.alloc o).cell? ⟨gr18, 6, none⟩ = some (.slice none 0 0) := fun o => (blk_cell (blk_alloc Br20.out o) 6).trans rfl
        have hfr0 : ∀ o, (wp.alloc o).frozen? ⟨gr18, 0, none⟩ = false := fun o => blk_frozen (blk_alloc Br20.out o) 0
        have hfr1 : ∀ o, (wp.alloc o).frozen? ⟨gr18, 1, none⟩ = false := fun o => blk_frozen (blk_alloc Br20.out o) 1
        have hfr2 : ∀ o, (wp.alloc o).frozen? ⟨gr18, 2, none⟩ = false := fun o => blk_frozen (blk_alloc Br20.out o) 2
        have hfr3 : ∀ o, (wp.alloc o).frozen? ⟨gr18, 3, none⟩ = false := fun o => blk_frozen (blk_alloc Br20.out o) 3
        have hfr4 : ∀ o, (wp.alloc o).frozen? ⟨gr18, 4, none⟩ = false := fun o => blk_frozen (blk_alloc Br20.out o) 4
        have hfr5 : ∀ o, (wp.alloc o).frozen? ⟨gr18, 5, none⟩ = false := fun o => blk_frozen (blk_alloc Br20.out o) 5
        have hfr6 : ∀ o, (wp.alloc o).frozen? ⟨gr18, 6, none⟩ = false := fun o => blk_frozen (blk_alloc Br20.out o) 6
        go_upto_region 19 with fail
        obtain ⟨W23, hw23⟩ : ∃ x : World, x = wp.alloc (.cells #[.int .i64 b.1, .int .i64 b.2.1, .int .i64 b.2.2, .int .i64 0, .int .i64 0, .int .i64 0, .slice B 0 d] 26) := ⟨_, rfl⟩
        have hbs23 : Below wp.heap.size wp W23 := by rw [hw23]; repeat (first | exact Below.refl _ _ | refine below_alloc ?_ _ | refine below_drew ?_)
        obtain ⟨gt23, hgt23⟩ : ∃ x, x = wp.heap.size := ⟨_, rfl⟩
        have GSt23 : Aside0 (w12.heap.size ≤ gt23) := ⟨by rw [hgt23]; have := HB20.out.size; omega⟩
        have Bt23 : Aside0 (W23.heap[gt23]? = some (.cells #[.int .i64 b.1, .int .i64 b.2.1, .int .i64 b.2.2, .int .i64 0, .int .i64 0, .int .i64 0, .slice B 0 d] 26 (0, 0))) := ⟨by rw [hw23, hgt23]; exact blk_new _ _⟩
        rw [← hw23]
        rw [← hgt23]
        clear hw23 hgt23
        clear za21_0 za21_1 za21_2 zb21_0 zb21_1 zb21_2 zr21_0 zr21_1 zr21_2 zr21_3 zr21_4 zr21_5 zr21_6 zaa22_0 zaa22_1 zaa22_2 zab22_0 zab22_1 zab22_2 zar22_0 zar22_1 zar22_2 zar22_3 zar22_4 zar22_5 zar22_6
        have HB24 := Aside0.mk (below_step HB20.out hbs23)
        have Ba24 : Aside0 (W23.heap[ga1]? = some (.cells #[.int .i64 a.1, .int .i64 a.2.1, .int .i64 a.2.2] 23 (0, 0))) := ⟨(hbs23.block _ (blk_lt Ba20.out)).trans Ba20.out⟩
        have Bb24 : Aside0 (W23.heap[gb1]? = some (.cells #[.int .i64 b.1, .int .i64 b.2.1, .int .i64 b.2.2] 23 (0, 0))) := ⟨(hbs23.block _ (blk_lt Bb20.out)).trans Bb20.out⟩
        have Br24 : Aside0 (W23.heap[gr18]? = some (.cells #[.int .i64 0, .int .i64 0, .int .i64 0, .int .i64 0, .int .i64 0, .int .i64 0, .slice none 0 0] 26 (0, 0))) := ⟨(hbs23.block _ (blk_lt Br20.out)).trans Br20.out⟩
        have RP24 := Aside0.mk (Kd.R_below HRp.out hbs23)
        clear hbs23
        clear hfr0 hfr1 hfr2 hfr3 hfr4 hfr5 hfr6
        obtain ⟨W25, hw25⟩ : ∃ x : World, x = (((((((W23.setCell ⟨gr18, 0, none⟩ (.int .i64 b.1)).setCell ⟨gr18, 1, none⟩ (.int .i64 b.2.1)).setCell ⟨gr18, 2, none⟩ (.int .i64 b.2.2)).setCell ⟨gr18, 3, none⟩ (.int .i64 0)).setCell ⟨gr18, 4, none⟩ (.int .i64 0)).setCell ⟨gr18, 5, none⟩ (.int .i64 0)).setCell ⟨gr18, 6, none⟩ (.slice B 0 d)) := ⟨_, rfl⟩
        have HB25 : Aside0 (Below w12.heap.size w12 W25) := ⟨by rw [hw25]; exact (below_set (below_set (below_set (below_set (below_set (below_set (below_set HB24.out GSr18.out) GSr18.out) GSr18.out) GSr18.out) GSr18.out) GSr18.out) GSr18.out)⟩
        have hgr25 : W23.grownBy W25 (some gr18) := by rw [hw25]; exact ((((((grown_set _ _ _ _).trans (grown_set _ _ _ _)).trans (grown_set _ _ _ _)).trans (grown_set _ _ _ _)).trans (grown_set _ _ _ _)).trans (grown_set _ _ _ _)).trans (grown_set _ _ _ _)
        have Br25 : Aside0 (W25.heap[gr18]? = some (.cells #[.int .i64 b.1, .int .i64 b.2.1, .int .i64 b.2.2, .int .i64 0, .int .i64 0, .int .i64 0, .slice B 0 d] 26 (0, 0))) := ⟨by rw [hw25]; refine blk_put (cs := #[.int .i64 b.1, .int .i64 b.2.1, .int .i64 b.2.2, .int .i64 0, .int .i64 0, .int .i64 0, .slice none 0 0]) ?_ 6 _ rfl; refine blk_put (cs := #[.int .i64 b.1, .int .i64 b.2.1, .int .i64 b.2.2, .int .i64 0, .int .i64 0, .int .i64 0, .slice none 0 0]) ?_ 5 _ rfl; refine blk_put (cs := #[.int .i64 b.1, .int .i64 b.2.1, .int .i64 b.2.2, .int .i64 0, .int .i64 0, .int .i64 0, .slice none 0 0]) ?_ 4 _ rfl; refine blk_put (cs := #[.int .i64 b.1, .int .i64 b.2.1, .int .i64 b.2.2, .int .i64 0, .int .i64 0, .int .i64 0, .slice none 0 0]) ?_ 3 _ rfl; refine blk_put (cs := #[.int .i64 b.1, .int .i64 b.2.1, .int .i64 0, .int .i64 0, .int .i64 0, .int .i64 0, .slice none 0 0]) ?_ 2 _ rfl; refine blk_put (cs := #[.int .i64 b.1, .int .i64 0, .int .i64 0, .int .i64 0, .int .i64 0, .int .i64 0, .slice none 0 0]) ?_ 1 _ rfl; refine blk_put (cs := #[.int .i64 0, .int .i64 0, .int .i64 0, .int .i64 0, .int .i64 0, .int .i64 0, .slice none 0 0]) ?_ 0 _ rfl; exact Br24.out⟩
        have Ba25 : Aside0 (W25.heap[ga1]? = some (.cells #[.int .i64 a.1, .int .i64 a.2.1, .int .i64 a.2.2] 23 (0, 0))) := ⟨blk_grown Ba24.out hgr25 (fun e => (blk_ne Ba24.out Br24.out (by decide)) (by injection e))⟩
        have Bb25 : Aside0 (W25.heap[gb1]? = some (.cells #[.int .i64 b.1, .int .i64 b.2.1, .int .i64 b.2.2] 23 (0, 0))) := ⟨blk_grown Bb24.out hgr25 (fun e => (blk_ne Bb24.out Br24.out (by decide)) (by injection e))⟩
        have RP25 := Aside0.mk (Kd.R_mono (Kd.R_grown (Kd.R_types RP24.out Br24.out (by decide)) hgr25 (fun k hk => by simpa using hk.2)) (fun _ hk => hk.1))
        rw [← hw25]
        clear hw25 hgr25
        have za26_0 : W25.cell? ⟨ga1, 0, none⟩ = some (.int .i64 a.1) := (blk_cell Ba25.out 0).trans rfl
        have za26_1 : W25.cell? ⟨ga1, 1, none⟩ = some (.int .i64 a.2.1) := (blk_cell Ba25.out 1).trans rfl
        have za26_2 : W25.cell? ⟨ga1, 2, none⟩ = some (.int .i64 a.2.2) := (blk_cell Ba25.out 2).trans rfl
        have zb26_0 : W25.cell? ⟨gb1, 0, none⟩ = some (.int .i64 b.1) := (blk_cell Bb25.out 0).trans rfl
        have zb26_1 : W25.cell? ⟨gb1, 1, none⟩ = some (.int .i64 b.2.1) := (blk_cell Bb25.out 1).trans rfl
        have zb26_2 : W25.cell? ⟨gb1, 2, none⟩ = some (.int .i64 b.2.2) := (blk_cell Bb25.out 2).trans rfl
        have zr26_0 : W25.cell? ⟨gr18, 0, none⟩ = some (.int .i64 b.1) := (blk_cell Br25.out 0).trans rfl
        have zr26_1 : W25.cell? ⟨gr18, 1, none⟩ = some (.int .i64 b.2.1) := (blk_cell Br25.out 1).trans rfl
        have zr26_2 : W25.cell? ⟨gr18, 2, none⟩ = some (.int .i64 b.2.2) := (blk_cell Br25.out 2).trans rfl
        have zr26_3 : W25.cell? ⟨gr18, 3, none⟩ = some (.int .i64 0) := (blk_cell Br25.out 3).trans rfl
        have zr26_4 : W25.cell? ⟨gr18, 4, none⟩ = some (.int .i64 0) := (blk_cell Br25.out 4).trans rfl
        have zr26_5 : W25.cell? ⟨gr18, 5, none⟩ = some (.int .i64 0) := (blk_cell Br25.out 5).trans rfl
        have zr26_6 : W25.cell? ⟨gr18, 6, none⟩ = some (.slice B 0 d) := (blk_cell Br25.out 6).trans rfl
        go_wp2_with fail
        obtain ⟨W27, hw27⟩ : ∃ x : World, x = W25.alloc (.cells #[.int .i64 1] 3) := ⟨_, rfl⟩
        have hbs27 : Below W25.heap.size W25 W27 := by rw [hw27]; repeat (first | exact Below.refl _ _ | refine below_alloc ?_ _ | refine below_drew ?_)
        obtain ⟨gv27, hgv27⟩ : ∃ x, x = W25.heap.size := ⟨_, rfl⟩
        have GSv27 : Aside0 (w12.heap.size ≤ gv27) := ⟨by rw [hgv27]; have := HB25.out.size; omega⟩
        have Bv27 : Aside0 (W27.heap[gv27]? = some (.cells #[.int .i64 1] 3 (0, 0))) := ⟨by rw [hw27, hgv27]; exact blk_new _ _⟩
        rw [← hw27]
        rw [← hgv27]
        clear hw27 hgv27
        clear za26_0 za26_1 za26_2 zb26_0 zb26_1 zb26_2 zr26_0 zr26_1 zr26_2 zr26_3 zr26_4 zr26_5 zr26_6
        have HB28 := Aside0.mk (below_step HB25.out hbs27)
        have Ba28 : Aside0 (W27.heap[ga1]? = some (.cells #[.int .i64 a.1, .int .i64 a.2.1, .int .i64 a.2.2] 23 (0, 0))) := ⟨(hbs27.block _ (blk_lt Ba25.out)).trans Ba25.out⟩
        have Bb28 : Aside0 (W27.heap[gb1]? = some (.cells #[.int .i64 b.1, .int .i64 b.2.1, .int .i64 b.2.2] 23 (0, 0))) := ⟨(hbs27.block _ (blk_lt Bb25.out)).trans Bb25.out⟩
        have Br28 : Aside0 (W27.heap[gr18]? = some (.cells #[.int .i64 b.1, .int .i64 b.2.1, .int .i64 b.2.2, .int .i64 0, .int .i64 0, .int .i64 0, .slice B 0 d] 26 (0, 0))) := ⟨(hbs27.block _ (blk_lt Br25.out)).trans Br25.out⟩
        have RP28 := Aside0.mk (Kd.R_below RP25.out hbs27)
        clear hbs27
        refine (accept_at (b, ((0, 0, 0) : Bal), []) zeroR (.iface 45 (.int .i64 11)) B d _ a (some ⟨gv27, 0, none⟩) 1 [1] (acc_stale a b SA.out.1 SA.out.2 SB.out.1 H3.out).1 (by rw [(acc_stale a b SA.out.1 SA.out.2 SB.out.1 H3.out).2]; rfl) ⟨OB.out, ok0.1⟩ OA.out (Kd.R_reads' RP28.out).2.2 (Kd.R_reads' RP28.out).2.1 (C_blk [1] Bv27.out rfl (by simp)) (Nat.le_refl _)).mono ?_
        rintro e wa ⟨B2, d2, rfl, _, hba⟩
        have HB29 := Aside0.mk (below_step HB28.out hba)
        have Ba29 : Aside0 (wa.heap[ga1]? = some (.cells #[.int .i64 a.1, .int .i64 a.2.1, .int .i64 a.2.2] 23 (0, 0))) := ⟨(hba.block _ (blk_lt Ba28.out)).trans Ba28.out⟩
        have Bb29 : Aside0 (wa.heap[gb1]? = some (.cells #[.int .i64 b.1, .int .i64 b.2.1, .int .i64 b.2.2] 23 (0, 0))) := ⟨(hba.block _ (blk_lt Bb28.out)).trans Bb28.out⟩
        have Br29 : Aside0 (wa.heap[gr18]? = some (.cells #[.int .i64 b.1, .int .i64 b.2.1, .int .i64 b.2.2, .int .i64 0, .int .i64 0, .int .i64 0, .slice B 0 d] 26 (0, 0))) := ⟨(hba.block _ (blk_lt Br28.out)).trans Br28.out⟩
        have Bv29 : Aside0 (wa.heap[gv27]? = some (.cells #[.int .i64 1] 3 (0, 0))) := ⟨(hba.block _ (blk_lt Bv27.out)).trans Bv27.out⟩
        have RP29 := Aside0.mk (Kd.R_below RP28.out hba)
        clear hba
        go_wp2_with fail
        go_roundw
        case rel => exact ⟨3, by omega, rfl, by rw [hac.out]; first | rfl | (simp; done) | (congr 1; simp; done), ⟨by repeat (first | exact HB29.out | apply below_alloc)⟩⟩
        case measure => simp [intOf]
    · have hend := Aside0.mk (acc3_end m n HM.out HN.out (by have := E1.out; omega))
      have hd : decide (acc3 m n 3 < 2) = true := decide_eq_true hend.out
      go_wp2_with fail
      go_ret
      exact ⟨rfl, below_step HB13.out HB15.out⟩

set_option maxHeartbeats 8000000 in
set_option maxRecDepth 100000 in
theorem holds_any (a b : Bal) (x y : Int) (w : World) (oa : balOk a) (ob : balOk b) : Calls Try.prog 22 #[.agg (balA a), .agg (balA b), .int .i64 x, .int .i64 y] w fun e w' => e = .returned (.bool true) ∧ Below w.heap.size w w' := by
  have hu23 := Try.underlying23
  by_cases h0 : a.1 < 0
  · skip
    have d0 : decide (a.1 < 0) = true := decide_eq_true h0
    clear h0
    go_enter Try.func22, Try.ntmps22
    go_wp2_with fail
    obtain ⟨W1, hw1⟩ : ∃ x : World, x = (w.alloc (.cells (balA a) 23)).alloc (.cells (balA b) 23) := ⟨_, rfl⟩
    have hbs1 : Below w.heap.size w W1 := by rw [hw1]; repeat (first | exact Below.refl _ _ | refine below_alloc ?_ _ | refine below_drew ?_)
    obtain ⟨ga1, hga1⟩ : ∃ x, x = w.heap.size := ⟨_, rfl⟩
    have GSa1 : Aside0 (w.heap.size ≤ ga1) := ⟨by rw [hga1]; omega⟩
    have Ba1 : Aside0 (W1.heap[ga1]? = some (.cells #[.int .i64 a.1, .int .i64 a.2.1, .int .i64 a.2.2] 23 (0, 0))) := ⟨by rw [hw1, hga1]; exact blk_alloc (blk_new w _) _⟩
    obtain ⟨gb1, hgb1⟩ : ∃ x, x = w.heap.size + 1 := ⟨_, rfl⟩
    have GSb1 : Aside0 (w.heap.size ≤ gb1) := ⟨by rw [hgb1]; omega⟩
    have Bb1 : Aside0 (W1.heap[gb1]? = some (.cells #[.int .i64 b.1, .int .i64 b.2.1, .int .i64 b.2.2] 23 (0, 0))) := ⟨by rw [hw1, hgb1]; have := blk_new (w.alloc (.cells (balA a) 23)) (.cells (balA b) 23); rwa [World.size_alloc] at this⟩
    rw [← hw1]
    rw [← hgb1]
    rw [← hga1]
    clear hw1 hga1 hgb1
    have HB2 := Aside0.mk hbs1
    clear hbs1
    refine (alive_any _).mono ?_
    rintro e w3 ⟨rfl, hb3⟩
    have HB4 := Aside0.mk (below_step HB2.out hb3)
    have Ba4 : Aside0 (w3.heap[ga1]? = some (.cells #[.int .i64 a.1, .int .i64 a.2.1, .int .i64 a.2.2] 23 (0, 0))) := ⟨(hb3.block _ (blk_lt Ba1.out)).trans Ba1.out⟩
    have Bb4 : Aside0 (w3.heap[gb1]? = some (.cells #[.int .i64 b.1, .int .i64 b.2.1, .int .i64 b.2.2] 23 (0, 0))) := ⟨(hb3.block _ (blk_lt Bb1.out)).trans Bb1.out⟩
    clear hb3
    have za5_0 : w3.cell? ⟨ga1, 0, none⟩ = some (.int .i64 a.1) := (blk_cell Ba4.out 0).trans rfl
    have za5_1 : w3.cell? ⟨ga1, 1, none⟩ = some (.int .i64 a.2.1) := (blk_cell Ba4.out 1).trans rfl
    have za5_2 : w3.cell? ⟨ga1, 2, none⟩ = some (.int .i64 a.2.2) := (blk_cell Ba4.out 2).trans rfl
    have zb5_0 : w3.cell? ⟨gb1, 0, none⟩ = some (.int .i64 b.1) := (blk_cell Bb4.out 0).trans rfl
    have zb5_1 : w3.cell? ⟨gb1, 1, none⟩ = some (.int .i64 b.2.1) := (blk_cell Bb4.out 1).trans rfl
    have zb5_2 : w3.cell? ⟨gb1, 2, none⟩ = some (.int .i64 b.2.2) := (blk_cell Bb4.out 2).trans rfl
    go_wp2_with fail
    go_ret
    exact ⟨rfl, HB4.out⟩
  by_cases h1 : a.2.1 < 0
  · skip
    have d0 : decide (a.1 < 0) = false := decide_eq_false h0
    have d1 : decide (a.2.1 < 0) = true := decide_eq_true h1
    clear h0 h1
    go_enter Try.func22, Try.ntmps22
    go_wp2_with fail
    obtain ⟨W1, hw1⟩ : ∃ x : World, x = (w.alloc (.cells (balA a) 23)).alloc (.cells (balA b) 23) := ⟨_, rfl⟩
    have hbs1 : Below w.heap.size w W1 := by rw [hw1]; repeat (first | exact Below.refl _ _ | refine below_alloc ?_ _ | refine below_drew ?_)
    obtain ⟨ga1, hga1⟩ : ∃ x, x = w.heap.size := ⟨_, rfl⟩
    have GSa1 : Aside0 (w.heap.size ≤ ga1) := ⟨by rw [hga1]; omega⟩
    have Ba1 : Aside0 (W1.heap[ga1]? = some (.cells #[.int .i64 a.1, .int .i64 a.2.1, .int .i64 a.2.2] 23 (0, 0))) := ⟨by rw [hw1, hga1]; exact blk_alloc (blk_new w _) _⟩
    obtain ⟨gb1, hgb1⟩ : ∃ x, x = w.heap.size + 1 := ⟨_, rfl⟩
    have GSb1 : Aside0 (w.heap.size ≤ gb1) := ⟨by rw [hgb1]; omega⟩
    have Bb1 : Aside0 (W1.heap[gb1]? = some (.cells #[.int .i64 b.1, .int .i64 b.2.1, .int .i64 b.2.2] 23 (0, 0))) := ⟨by rw [hw1, hgb1]; have := blk_new (w.alloc (.cells (balA a) 23)) (.cells (balA b) 23); rwa [World.size_alloc] at this⟩
    rw [← hw1]
    rw [← hgb1]
    rw [← hga1]
    clear hw1 hga1 hgb1
    have HB2 := Aside0.mk hbs1
    clear hbs1
    refine (alive_any _).mono ?_
    rintro e w3 ⟨rfl, hb3⟩
    have HB4 := Aside0.mk (below_step HB2.out hb3)
    have Ba4 : Aside0 (w3.heap[ga1]? = some (.cells #[.int .i64 a.1, .int .i64 a.2.1, .int .i64 a.2.2] 23 (0, 0))) := ⟨(hb3.block _ (blk_lt Ba1.out)).trans Ba1.out⟩
    have Bb4 : Aside0 (w3.heap[gb1]? = some (.cells #[.int .i64 b.1, .int .i64 b.2.1, .int .i64 b.2.2] 23 (0, 0))) := ⟨(hb3.block _ (blk_lt Bb1.out)).trans Bb1.out⟩
    clear hb3
    have za5_0 : w3.cell? ⟨ga1, 0, none⟩ = some (.int .i64 a.1) := (blk_cell Ba4.out 0).trans rfl
    have za5_1 : w3.cell? ⟨ga1, 1, none⟩ = some (.int .i64 a.2.1) := (blk_cell Ba4.out 1).trans rfl
    have za5_2 : w3.cell? ⟨ga1, 2, none⟩ = some (.int .i64 a.2.2) := (blk_cell Ba4.out 2).trans rfl
    have zb5_0 : w3.cell? ⟨gb1, 0, none⟩ = some (.int .i64 b.1) := (blk_cell Bb4.out 0).trans rfl
    have zb5_1 : w3.cell? ⟨gb1, 1, none⟩ = some (.int .i64 b.2.1) := (blk_cell Bb4.out 1).trans rfl
    have zb5_2 : w3.cell? ⟨gb1, 2, none⟩ = some (.int .i64 b.2.2) := (blk_cell Bb4.out 2).trans rfl
    go_wp2_with fail
    go_ret
    exact ⟨rfl, HB4.out⟩
  by_cases h2 : a.2.2 < 0
  · skip
    have d0 : decide (a.1 < 0) = false := decide_eq_false h0
    have d1 : decide (a.2.1 < 0) = false := decide_eq_false h1
    have d2 : decide (a.2.2 < 0) = true := decide_eq_true h2
    clear h0 h1 h2
    go_enter Try.func22, Try.ntmps22
    go_wp2_with fail
    obtain ⟨W1, hw1⟩ : ∃ x : World, x = (w.alloc (.cells (balA a) 23)).alloc (.cells (balA b) 23) := ⟨_, rfl⟩
    have hbs1 : Below w.heap.size w W1 := by rw [hw1]; repeat (first | exact Below.refl _ _ | refine below_alloc ?_ _ | refine below_drew ?_)
    obtain ⟨ga1, hga1⟩ : ∃ x, x = w.heap.size := ⟨_, rfl⟩
    have GSa1 : Aside0 (w.heap.size ≤ ga1) := ⟨by rw [hga1]; omega⟩
    have Ba1 : Aside0 (W1.heap[ga1]? = some (.cells #[.int .i64 a.1, .int .i64 a.2.1, .int .i64 a.2.2] 23 (0, 0))) := ⟨by rw [hw1, hga1]; exact blk_alloc (blk_new w _) _⟩
    obtain ⟨gb1, hgb1⟩ : ∃ x, x = w.heap.size + 1 := ⟨_, rfl⟩
    have GSb1 : Aside0 (w.heap.size ≤ gb1) := ⟨by rw [hgb1]; omega⟩
    have Bb1 : Aside0 (W1.heap[gb1]? = some (.cells #[.int .i64 b.1, .int .i64 b.2.1, .int .i64 b.2.2] 23 (0, 0))) := ⟨by rw [hw1, hgb1]; have := blk_new (w.alloc (.cells (balA a) 23)) (.cells (balA b) 23); rwa [World.size_alloc] at this⟩
    rw [← hw1]
    rw [← hgb1]
    rw [← hga1]
    clear hw1 hga1 hgb1
    have HB2 := Aside0.mk hbs1
    clear hbs1
    refine (alive_any _).mono ?_
    rintro e w3 ⟨rfl, hb3⟩
    have HB4 := Aside0.mk (below_step HB2.out hb3)
    have Ba4 : Aside0 (w3.heap[ga1]? = some (.cells #[.int .i64 a.1, .int .i64 a.2.1, .int .i64 a.2.2] 23 (0, 0))) := ⟨(hb3.block _ (blk_lt Ba1.out)).trans Ba1.out⟩
    have Bb4 : Aside0 (w3.heap[gb1]? = some (.cells #[.int .i64 b.1, .int .i64 b.2.1, .int .i64 b.2.2] 23 (0, 0))) := ⟨(hb3.block _ (blk_lt Bb1.out)).trans Bb1.out⟩
    clear hb3
    have za5_0 : w3.cell? ⟨ga1, 0, none⟩ = some (.int .i64 a.1) := (blk_cell Ba4.out 0).trans rfl
    have za5_1 : w3.cell? ⟨ga1, 1, none⟩ = some (.int .i64 a.2.1) := (blk_cell Ba4.out 1).trans rfl
    have za5_2 : w3.cell? ⟨ga1, 2, none⟩ = some (.int .i64 a.2.2) := (blk_cell Ba4.out 2).trans rfl
    have zb5_0 : w3.cell? ⟨gb1, 0, none⟩ = some (.int .i64 b.1) := (blk_cell Bb4.out 0).trans rfl
    have zb5_1 : w3.cell? ⟨gb1, 1, none⟩ = some (.int .i64 b.2.1) := (blk_cell Bb4.out 1).trans rfl
    have zb5_2 : w3.cell? ⟨gb1, 2, none⟩ = some (.int .i64 b.2.2) := (blk_cell Bb4.out 2).trans rfl
    go_wp2_with fail
    go_ret
    exact ⟨rfl, HB4.out⟩
  by_cases h3 : lessB a b = false
  · skip
    have d0 : decide (a.1 < 0) = false := decide_eq_false h0
    have d1 : decide (a.2.1 < 0) = false := decide_eq_false h1
    have d2 : decide (a.2.2 < 0) = false := decide_eq_false h2
    have H3 := Aside0.mk h3
    clear h0 h1 h2 h3
    go_enter Try.func22, Try.ntmps22
    go_wp2_with fail
    obtain ⟨W1, hw1⟩ : ∃ x : World, x = (w.alloc (.cells (balA a) 23)).alloc (.cells (balA b) 23) := ⟨_, rfl⟩
    have hbs1 : Below w.heap.size w W1 := by rw [hw1]; repeat (first | exact Below.refl _ _ | refine below_alloc ?_ _ | refine below_drew ?_)
    obtain ⟨ga1, hga1⟩ : ∃ x, x = w.heap.size := ⟨_, rfl⟩
    have GSa1 : Aside0 (w.heap.size ≤ ga1) := ⟨by rw [hga1]; omega⟩
    have Ba1 : Aside0 (W1.heap[ga1]? = some (.cells #[.int .i64 a.1, .int .i64 a.2.1, .int .i64 a.2.2] 23 (0, 0))) := ⟨by rw [hw1, hga1]; exact blk_alloc (blk_new w _) _⟩
    obtain ⟨gb1, hgb1⟩ : ∃ x, x = w.heap.size + 1 := ⟨_, rfl⟩
    have GSb1 : Aside0 (w.heap.size ≤ gb1) := ⟨by rw [hgb1]; omega⟩
    have Bb1 : Aside0 (W1.heap[gb1]? = some (.cells #[.int .i64 b.1, .int .i64 b.2.1, .int .i64 b.2.2] 23 (0, 0))) := ⟨by rw [hw1, hgb1]; have := blk_new (w.alloc (.cells (balA a) 23)) (.cells (balA b) 23); rwa [World.size_alloc] at this⟩
    rw [← hw1]
    rw [← hgb1]
    rw [← hga1]
    clear hw1 hga1 hgb1
    have HB2 := Aside0.mk hbs1
    clear hbs1
    refine (alive_any _).mono ?_
    rintro e w3 ⟨rfl, hb3⟩
    have HB4 := Aside0.mk (below_step HB2.out hb3)
    have Ba4 : Aside0 (w3.heap[ga1]? = some (.cells #[.int .i64 a.1, .int .i64 a.2.1, .int .i64 a.2.2] 23 (0, 0))) := ⟨(hb3.block _ (blk_lt Ba1.out)).trans Ba1.out⟩
    have Bb4 : Aside0 (w3.heap[gb1]? = some (.cells #[.int .i64 b.1, .int .i64 b.2.1, .int .i64 b.2.2] 23 (0, 0))) := ⟨(hb3.block _ (blk_lt Bb1.out)).trans Bb1.out⟩
    clear hb3
    have za5_0 : w3.cell? ⟨ga1, 0, none⟩ = some (.int .i64 a.1) := (blk_cell Ba4.out 0).trans rfl
    have za5_1 : w3.cell? ⟨ga1, 1, none⟩ = some (.int .i64 a.2.1) := (blk_cell Ba4.out 1).trans rfl
    have za5_2 : w3.cell? ⟨ga1, 2, none⟩ = some (.int .i64 a.2.2) := (blk_cell Ba4.out 2).trans rfl
    have zb5_0 : w3.cell? ⟨gb1, 0, none⟩ = some (.int .i64 b.1) := (blk_cell Bb4.out 0).trans rfl
    have zb5_1 : w3.cell? ⟨gb1, 1, none⟩ = some (.int .i64 b.2.1) := (blk_cell Bb4.out 1).trans rfl
    have zb5_2 : w3.cell? ⟨gb1, 2, none⟩ = some (.int .i64 b.2.2) := (blk_cell Bb4.out 2).trans rfl
    go_wp2_with fail
    refine (refless_v false _ _ _ H3.out).mono ?_
    rintro e w6 ⟨rfl, hb6⟩
    clear za5_0 za5_1 za5_2 zb5_0 zb5_1 zb5_2
    have HB7 := Aside0.mk (below_step HB4.out hb6)
    have Ba7 : Aside0 (w6.heap[ga1]? = some (.cells #[.int .i64 a.1, .int .i64 a.2.1, .int .i64 a.2.2] 23 (0, 0))) := ⟨(hb6.block _ (blk_lt Ba4.out)).trans Ba4.out⟩
    have Bb7 : Aside0 (w6.heap[gb1]? = some (.cells #[.int .i64 b.1, .int .i64 b.2.1, .int .i64 b.2.2] 23 (0, 0))) := ⟨(hb6.block _ (blk_lt Bb4.out)).trans Bb4.out⟩
    clear hb6
    have za8_0 : w6.cell? ⟨ga1, 0, none⟩ = some (.int .i64 a.1) := (blk_cell Ba7.out 0).trans rfl
    have za8_1 : w6.cell? ⟨ga1, 1, none⟩ = some (.int .i64 a.2.1) := (blk_cell Ba7.out 1).trans rfl
    have za8_2 : w6.cell? ⟨ga1, 2, none⟩ = some (.int .i64 a.2.2) := (blk_cell Ba7.out 2).trans rfl
    have zb8_0 : w6.cell? ⟨gb1, 0, none⟩ = some (.int .i64 b.1) := (blk_cell Bb7.out 0).trans rfl
    have zb8_1 : w6.cell? ⟨gb1, 1, none⟩ = some (.int .i64 b.2.1) := (blk_cell Bb7.out 1).trans rfl
    have zb8_2 : w6.cell? ⟨gb1, 2, none⟩ = some (.int .i64 b.2.2) := (blk_cell Bb7.out 2).trans rfl
    go_wp2_with fail
    go_ret
    exact ⟨rfl, HB7.out⟩
  by_cases h4 : b.2.1 < 0
  · skip
    have d0 : decide (a.1 < 0) = false := decide_eq_false h0
    have d1 : decide (a.2.1 < 0) = false := decide_eq_false h1
    have d2 : decide (a.2.2 < 0) = false := decide_eq_false h2
    have d4 : decide (b.2.1 < 0) = true := decide_eq_true h4
    have H3 := Aside0.mk (show lessB a b = true from b_true h3)
    clear h0 h1 h2 h3 h4
    go_enter Try.func22, Try.ntmps22
    go_wp2_with fail
    obtain ⟨W1, hw1⟩ : ∃ x : World, x = (w.alloc (.cells (balA a) 23)).alloc (.cells (balA b) 23) := ⟨_, rfl⟩
    have hbs1 : Below w.heap.size w W1 := by rw [hw1]; repeat (first | exact Below.refl _ _ | refine below_alloc ?_ _ | refine below_drew ?_)
    obtain ⟨ga1, hga1⟩ : ∃ x, x = w.heap.size := ⟨_, rfl⟩
    have GSa1 : Aside0 (w.heap.size ≤ ga1) := ⟨by rw [hga1]; omega⟩
    have Ba1 : Aside0 (W1.heap[ga1]? = some (.cells #[.int .i64 a.1, .int .i64 a.2.1, .int .i64 a.2.2] 23 (0, 0))) := ⟨by rw [hw1, hga1]; exact blk_alloc (blk_new w _) _⟩
    obtain ⟨gb1, hgb1⟩ : ∃ x, x = w.heap.size + 1 := ⟨_, rfl⟩
    have GSb1 : Aside0 (w.heap.size ≤ gb1) := ⟨by rw [hgb1]; omega⟩
    have Bb1 : Aside0 (W1.heap[gb1]? = some (.cells #[.int .i64 b.1, .int .i64 b.2.1, .int .i64 b.2.2] 23 (0, 0))) := ⟨by rw [hw1, hgb1]; have := blk_new (w.alloc (.cells (balA a) 23)) (.cells (balA b) 23); rwa [World.size_alloc] at this⟩
    rw [← hw1]
    rw [← hgb1]
    rw [← hga1]
    clear hw1 hga1 hgb1
    have HB2 := Aside0.mk hbs1
    clear hbs1
    refine (alive_any _).mono ?_
    rintro e w3 ⟨rfl, hb3⟩
    have HB4 := Aside0.mk (below_step HB2.out hb3)
    have Ba4 : Aside0 (w3.heap[ga1]? = some (.cells #[.int .i64 a.1, .int .i64 a.2.1, .int .i64 a.2.2] 23 (0, 0))) := ⟨(hb3.block _ (blk_lt Ba1.out)).trans Ba1.out⟩
    have Bb4 : Aside0 (w3.heap[gb1]? = some (.cells #[.int .i64 b.1, .int .i64 b.2.1, .int .i64 b.2.2] 23 (0, 0))) := ⟨(hb3.block _ (blk_lt Bb1.out)).trans Bb1.out⟩
    clear hb3
    have za5_0 : w3.cell? ⟨ga1, 0, none⟩ = some (.int .i64 a.1) := (blk_cell Ba4.out 0).trans rfl
    have za5_1 : w3.cell? ⟨ga1, 1, none⟩ = some (.int .i64 a.2.1) := (blk_cell Ba4.out 1).trans rfl
    have za5_2 : w3.cell? ⟨ga1, 2, none⟩ = some (.int .i64 a.2.2) := (blk_cell Ba4.out 2).trans rfl
    have zb5_0 : w3.cell? ⟨gb1, 0, none⟩ = some (.int .i64 b.1) := (blk_cell Bb4.out 0).trans rfl
    have zb5_1 : w3.cell? ⟨gb1, 1, none⟩ = some (.int .i64 b.2.1) := (blk_cell Bb4.out 1).trans rfl
    have zb5_2 : w3.cell? ⟨gb1, 2, none⟩ = some (.int .i64 b.2.2) := (blk_cell Bb4.out 2).trans rfl
    go_wp2_with fail
    refine (refless_v true _ _ _ H3.out).mono ?_
    rintro e w6 ⟨rfl, hb6⟩
    clear za5_0 za5_1 za5_2 zb5_0 zb5_1 zb5_2
    have HB7 := Aside0.mk (below_step HB4.out hb6)
    have Ba7 : Aside0 (w6.heap[ga1]? = some (.cells #[.int .i64 a.1, .int .i64 a.2.1, .int .i64 a.2.2] 23 (0, 0))) := ⟨(hb6.block _ (blk_lt Ba4.out)).trans Ba4.out⟩
    have Bb7 : Aside0 (w6.heap[gb1]? = some (.cells #[.int .i64 b.1, .int .i64 b.2.1, .int .i64 b.2.2] 23 (0, 0))) := ⟨(hb6.block _ (blk_lt Bb4.out)).trans Bb4.out⟩
    clear hb6
    have za8_0 : w6.cell? ⟨ga1, 0, none⟩ = some (.int .i64 a.1) := (blk_cell Ba7.out 0).trans rfl
    have za8_1 : w6.cell? ⟨ga1, 1, none⟩ = some (.int .i64 a.2.1) := (blk_cell Ba7.out 1).trans rfl
    have za8_2 : w6.cell? ⟨ga1, 2, none⟩ = some (.int .i64 a.2.2) := (blk_cell Ba7.out 2).trans rfl
    have zb8_0 : w6.cell? ⟨gb1, 0, none⟩ = some (.int .i64 b.1) := (blk_cell Bb7.out 0).trans rfl
    have zb8_1 : w6.cell? ⟨gb1, 1, none⟩ = some (.int .i64 b.2.1) := (blk_cell Bb7.out 1).trans rfl
    have zb8_2 : w6.cell? ⟨gb1, 2, none⟩ = some (.int .i64 b.2.2) := (blk_cell Bb7.out 2).trans rfl
    go_wp2_with fail
    go_ret
    exact ⟨rfl, HB7.out⟩
  by_cases h5 : b.2.2 < 0
  · skip
    have d0 : decide (a.1 < 0) = false := decide_eq_false h0
    have d1 : decide (a.2.1 < 0) = false := decide_eq_false h1
    have d2 : decide (a.2.2 < 0) = false := decide_eq_false h2
    have d4 : decide (b.2.1 < 0) = false := decide_eq_false h4
    have d5 : decide (b.2.2 < 0) = true := decide_eq_true h5
    have H3 := Aside0.mk (show lessB a b = true from b_true h3)
    clear h0 h1 h2 h3 h4 h5
    go_enter Try.func22, Try.ntmps22
    go_wp2_with fail
    obtain ⟨W1, hw1⟩ : ∃ x : World, x = (w.alloc (.cells (balA a) 23)).alloc (.cells (balA b) 23) := ⟨_, rfl⟩
    have hbs1 : Below w.heap.size w W1 := by rw [hw1]; repeat (first | exact Below.refl _ _ | refine below_alloc ?_ _ | refine below_drew ?_)
    obtain ⟨ga1, hga1⟩ : ∃ x, x = w.heap.size := ⟨_, rfl⟩
    have GSa1 : Aside0 (w.heap.size ≤ ga1) := ⟨by rw [hga1]; omega⟩
    have Ba1 : Aside0 (W1.heap[ga1]? = some (.cells #[.int .i64 a.1, .int .i64 a.2.1, .int .i64 a.2.2] 23 (0, 0))) := ⟨by rw [hw1, hga1]; exact blk_alloc (blk_new w _) _⟩
    obtain ⟨gb1, hgb1⟩ : ∃ x, x = w.heap.size + 1 := ⟨_, rfl⟩
    have GSb1 : Aside0 (w.heap.size ≤ gb1) := ⟨by rw [hgb1]; omega⟩
    have Bb1 : Aside0 (W1.heap[gb1]? = some (.cells #[.int .i64 b.1, .int .i64 b.2.1, .int .i64 b.2.2] 23 (0, 0))) := ⟨by rw [hw1, hgb1]; have := blk_new (w.alloc (.cells (balA a) 23)) (.cells (balA b) 23); rwa [World.size_alloc] at this⟩
    rw [← hw1]
    rw [← hgb1]
    rw [← hga1]
    clear hw1 hga1 hgb1
    have HB2 := Aside0.mk hbs1
    clear hbs1
    refine (alive_any _).mono ?_
    rintro e w3 ⟨rfl, hb3⟩
    have HB4 := Aside0.mk (below_step HB2.out hb3)
    have Ba4 : Aside0 (w3.heap[ga1]? = some (.cells #[.int .i64 a.1, .int .i64 a.2.1, .int .i64 a.2.2] 23 (0, 0))) := ⟨(hb3.block _ (blk_lt Ba1.out)).trans Ba1.out⟩
    have Bb4 : Aside0 (w3.heap[gb1]? = some (.cells #[.int .i64 b.1, .int .i64 b.2.1, .int .i64 b.2.2] 23 (0, 0))) := ⟨(hb3.block _ (blk_lt Bb1.out)).trans Bb1.out⟩
    clear hb3
    have za5_0 : w3.cell? ⟨ga1, 0, none⟩ = some (.int .i64 a.1) := (blk_cell Ba4.out 0).trans rfl
    have za5_1 : w3.cell? ⟨ga1, 1, none⟩ = some (.int .i64 a.2.1) := (blk_cell Ba4.out 1).trans rfl
    have za5_2 : w3.cell? ⟨ga1, 2, none⟩ = some (.int .i64 a.2.2) := (blk_cell Ba4.out 2).trans rfl
    have zb5_0 : w3.cell? ⟨gb1, 0, none⟩ = some (.int .i64 b.1) := (blk_cell Bb4.out 0).trans rfl
    have zb5_1 : w3.cell? ⟨gb1, 1, none⟩ = some (.int .i64 b.2.1) := (blk_cell Bb4.out 1).trans rfl
    have zb5_2 : w3.cell? ⟨gb1, 2, none⟩ = some (.int .i64 b.2.2) := (blk_cell Bb4.out 2).trans rfl
    go_wp2_with fail
    refine (refless_v true _ _ _ H3.out).mono ?_
    rintro e w6 ⟨rfl, hb6⟩
    clear za5_0 za5_1 za5_2 zb5_0 zb5_1 zb5_2
    have HB7 := Aside0.mk (below_step HB4.out hb6)
    have Ba7 : Aside0 (w6.heap[ga1]? = some (.cells #[.int .i64 a.1, .int .i64 a.2.1, .int .i64 a.2.2] 23 (0, 0))) := ⟨(hb6.block _ (blk_lt Ba4.out)).trans Ba4.out⟩
    have Bb7 : Aside0 (w6.heap[gb1]? = some (.cells #[.int .i64 b.1, .int .i64 b.2.1, .int .i64 b.2.2] 23 (0, 0))) := ⟨(hb6.block _ (blk_lt Bb4.out)).trans Bb4.out⟩
    clear hb6
    have za8_0 : w6.cell? ⟨ga1, 0, none⟩ = some (.int .i64 a.1) := (blk_cell Ba7.out 0).trans rfl
    have za8_1 : w6.cell? ⟨ga1, 1, none⟩ = some (.int .i64 a.2.1) := (blk_cell Ba7.out 1).trans rfl
    have za8_2 : w6.cell? ⟨ga1, 2, none⟩ = some (.int .i64 a.2.2) := (blk_cell Ba7.out 2).trans rfl
    have zb8_0 : w6.cell? ⟨gb1, 0, none⟩ = some (.int .i64 b.1) := (blk_cell Bb7.out 0).trans rfl
    have zb8_1 : w6.cell? ⟨gb1, 1, none⟩ = some (.int .i64 b.2.1) := (blk_cell Bb7.out 1).trans rfl
    have zb8_2 : w6.cell? ⟨gb1, 2, none⟩ = some (.int .i64 b.2.2) := (blk_cell Bb7.out 2).trans rfl
    go_wp2_with fail
    go_ret
    exact ⟨rfl, HB7.out⟩
  by_cases h6 : eqB a zeroB = true
  · skip
    have d0 : decide (a.1 < 0) = false := decide_eq_false h0
    have d1 : decide (a.2.1 < 0) = false := decide_eq_false h1
    have d2 : decide (a.2.2 < 0) = false := decide_eq_false h2
    have d4 : decide (b.2.1 < 0) = false := decide_eq_false h4
    have d5 : decide (b.2.2 < 0) = false := decide_eq_false h5
    have H3 := Aside0.mk (show lessB a b = true from b_true h3)
    have hz := isZero a
    rw [show decide (a = zeroB) = true from h6] at hz
    clear h0 h1 h2 h3 h4 h5 h6
    go_enter Try.func22, Try.ntmps22
    go_wp2_with fail
    obtain ⟨W1, hw1⟩ : ∃ x : World, x = (w.alloc (.cells (balA a) 23)).alloc (.cells (balA b) 23) := ⟨_, rfl⟩
    have hbs1 : Below w.heap.size w W1 := by rw [hw1]; repeat (first | exact Below.refl _ _ | refine below_alloc ?_ _ | refine below_drew ?_)
    obtain ⟨ga1, hga1⟩ : ∃ x, x = w.heap.size := ⟨_, rfl⟩
    have GSa1 : Aside0 (w.heap.size ≤ ga1) := ⟨by rw [hga1]; omega⟩
    have Ba1 : Aside0 (W1.heap[ga1]? = some (.cells #[.int .i64 a.1, .int .i64 a.2.1, .int .i64 a.2.2] 23 (0, 0))) := ⟨by rw [hw1, hga1]; exact blk_alloc (blk_new w _) _⟩
    obtain ⟨gb1, hgb1⟩ : ∃ x, x = w.heap.size + 1 := ⟨_, rfl⟩
    have GSb1 : Aside0 (w.heap.size ≤ gb1) := ⟨by rw [hgb1]; omega⟩
    have Bb1 : Aside0 (W1.heap[gb1]? = some (.cells #[.int .i64 b.1, .int .i64 b.2.1, .int .i64 b.2.2] 23 (0, 0))) := ⟨by rw [hw1, hgb1]; have := blk_new (w.alloc (.cells (balA a) 23)) (.cells (balA b) 23); rwa [World.size_alloc] at this⟩
    rw [← hw1]
    rw [← hgb1]
    rw [← hga1]
    clear hw1 hga1 hgb1
    have HB2 := Aside0.mk hbs1
    clear hbs1
    refine (alive_any _).mono ?_
    rintro e w3 ⟨rfl, hb3⟩
    have HB4 := Aside0.mk (below_step HB2.out hb3)
    have Ba4 : Aside0 (w3.heap[ga1]? = some (.cells #[.int .i64 a.1, .int .i64 a.2.1, .int .i64 a.2.2] 23 (0, 0))) := ⟨(hb3.block _ (blk_lt Ba1.out)).trans Ba1.out⟩
    have Bb4 : Aside0 (w3.heap[gb1]? = some (.cells #[.int .i64 b.1, .int .i64 b.2.1, .int .i64 b.2.2] 23 (0, 0))) := ⟨(hb3.block _ (blk_lt Bb1.out)).trans Bb1.out⟩
    clear hb3
    have za5_0 : w3.cell? ⟨ga1, 0, none⟩ = some (.int .i64 a.1) := (blk_cell Ba4.out 0).trans rfl
    have za5_1 : w3.cell? ⟨ga1, 1, none⟩ = some (.int .i64 a.2.1) := (blk_cell Ba4.out 1).trans rfl
    have za5_2 : w3.cell? ⟨ga1, 2, none⟩ = some (.int .i64 a.2.2) := (blk_cell Ba4.out 2).trans rfl
    have zb5_0 : w3.cell? ⟨gb1, 0, none⟩ = some (.int .i64 b.1) := (blk_cell Bb4.out 0).trans rfl
    have zb5_1 : w3.cell? ⟨gb1, 1, none⟩ = some (.int .i64 b.2.1) := (blk_cell Bb4.out 1).trans rfl
    have zb5_2 : w3.cell? ⟨gb1, 2, none⟩ = some (.int .i64 b.2.2) := (blk_cell Bb4.out 2).trans rfl
    go_wp2_with fail
    refine (refless_v true _ _ _ H3.out).mono ?_
    rintro e w6 ⟨rfl, hb6⟩
    clear za5_0 za5_1 za5_2 zb5_0 zb5_1 zb5_2
    have HB7 := Aside0.mk (below_step HB4.out hb6)
    have Ba7 : Aside0 (w6.heap[ga1]? = some (.cells #[.int .i64 a.1, .int .i64 a.2.1, .int .i64 a.2.2] 23 (0, 0))) := ⟨(hb6.block _ (blk_lt Ba4.out)).trans Ba4.out⟩
    have Bb7 : Aside0 (w6.heap[gb1]? = some (.cells #[.int .i64 b.1, .int .i64 b.2.1, .int .i64 b.2.2] 23 (0, 0))) := ⟨(hb6.block _ (blk_lt Bb4.out)).trans Bb4.out⟩
    clear hb6
    have za8_0 : w6.cell? ⟨ga1, 0, none⟩ = some (.int .i64 a.1) := (blk_cell Ba7.out 0).trans rfl
    have za8_1 : w6.cell? ⟨ga1, 1, none⟩ = some (.int .i64 a.2.1) := (blk_cell Ba7.out 1).trans rfl
    have za8_2 : w6.cell? ⟨ga1, 2, none⟩ = some (.int .i64 a.2.2) := (blk_cell Ba7.out 2).trans rfl
    have zb8_0 : w6.cell? ⟨gb1, 0, none⟩ = some (.int .i64 b.1) := (blk_cell Bb7.out 0).trans rfl
    have zb8_1 : w6.cell? ⟨gb1, 1, none⟩ = some (.int .i64 b.2.1) := (blk_cell Bb7.out 1).trans rfl
    have zb8_2 : w6.cell? ⟨gb1, 2, none⟩ = some (.int .i64 b.2.2) := (blk_cell Bb7.out 2).trans rfl
    go_wp2_with fail
    go_ret
    exact ⟨rfl, HB7.out⟩
  have h3' : lessB a b = true := b_true h3
  have h6' : eqB a zeroB = false := b_false h6
  exact holds_main a b x y w h0 h1 h2 h3' h4 h5 h6' oa ob
abbrev RivT := Bal × Bal × Int × Int
set_option maxHeartbeats 1000000 in
set_option maxRecDepth 100000 in
theorem rivals_any (a b : Bal) (x y : Int) (w : World) (oa : balOk a) (ob : balOk b) : Calls Try.prog 5 #[.agg #[.int .i64 a.1, .int .i64 a.2.1, .int .i64 a.2.2, .int .i64 b.1, .int .i64 b.2.1, .int .i64 b.2.2, .int .i64 x, .int .i64 y]] w fun e w' => e = .returned (.bool true) ∧ Below w.heap.size w w' := by
  have hu23 := Try.underlying23
  have hu49 := Try.underlying49
  go_enter Try.func5, Try.ntmps5
  go_wp2_with fail
  refine (holds_any a b x y _ oa ob).mono ?_
  rintro e w1 ⟨rfl, hb1⟩
  have HB := Aside0.mk (below_step (below_alloc (Below.refl _ w) _) hb1)
  clear hb1
  go_wp2_with fail
  go_ret
  exact ⟨rfl, HB.out⟩
def kRiv : Kd RivT := Kd.iso (Kd.pair kBal (Kd.pair kBal (Kd.pair (Kd.int .i64) (Kd.int .i64)))) id
theorem rivals_walk (w : World) (cs : Array Value) (y : RivT) (hK : kRiv.K w y cs.toList) (hq : BalQ y.1 ∧ BalQ y.2.1 ∧ (Lit.int .i64 y.2.2.1).wf = true ∧ (Lit.int .i64 y.2.2.2).wf = true) :
    Calls Try.prog 5 #[.agg cs] w fun e w' => e = .returned (.bool true) ∧ Below w.heap.size w w' := by
  obtain ⟨a0, a1, he, e0, a2, a3, rfl, e1, a4, a5, rfl, e2, e3⟩ := hK
  obtain rfl := bal_cells e0
  obtain rfl := bal_cells e1
  obtain rfl : a4 = [.int .i64 y.2.2.1] := e2
  obtain rfl : a5 = [.int .i64 y.2.2.2] := e3
  obtain rfl : cs = #[.int .i64 y.1.1, .int .i64 y.1.2.1, .int .i64 y.1.2.2, .int .i64 y.2.1.1, .int .i64 y.2.1.2.1, .int .i64 y.2.1.2.2, .int .i64 y.2.2.1, .int .i64 y.2.2.2] := by
    rw [← Array.toArray_toList (xs := cs), he]
    rfl
  exact rivals_any y.1 y.2.1 _ _ w (balq_ok hq.1) (balq_ok hq.2.1)
end Go.Proofs.Ytckbidmemdkdpaa.MAll

/- BallotLess: how ballots are ordered: the walk. -/
import Derived.Test.YtckbidmemdkdpaaAlive09
import Derived.Test.YtckbidmemdkdpaaKinds
import Derived.Test.YtckbidmemdkdpaaMAllx7
import Derived.Deep.DrawnRows
set_option linter.unusedVariables false
set_option linter.unusedSimpArgs false
namespace Go.Proofs.Ytckbidmemdkdpaa.MAll
open Go.RowKit Go.Proofs.YtckbidmemdkdpaaW.PrintWords Go.Proofs.YtckbidmemdkdpaaW.PrintLast Go.Proofs.YtckbidmemdkdpaaW.PrintMore
attribute [local go_sem ↓] Go.wp_at_zero Go.wp_at_succ
attribute [local go_sem high] eqA23

theorem less_cases (a b : Bal) : (lessB a b = true ∧ lessB b a = false ∧ ¬ a = b) ∨ (lessB a b = false ∧ lessB b a = true ∧ ¬ a = b) ∨ (lessB a b = false ∧ lessB b a = false ∧ a = b) := by
  obtain ⟨x, y, z⟩ := a
  obtain ⟨x', y', z'⟩ := b
  unfold lessB
  simp only [Prod.mk.injEq]
  by_cases h1 : x = x'
  · by_cases h2 : y = y'
    · rw [if_pos h1, if_pos h2, if_pos h1.symm, if_pos h2.symm]
      simp only [decide_eq_true_eq, decide_eq_false_iff_not]
      omega
    · rw [if_pos h1, if_neg h2, if_pos h1.symm, if_neg (fun e => h2 e.symm)]
      simp only [decide_eq_true_eq, decide_eq_false_iff_not]
      omega
  · rw [if_neg h1, if_neg (fun e => h1 e.symm)]
    simp only [decide_eq_true_eq, decide_eq_false_iff_not]
    omega
theorem less_iff (a b : Bal) : lessB a b = true ↔ (a.1 < b.1 ∨ (a.1 = b.1 ∧ (a.2.1 < b.2.1 ∨ (a.2.1 = b.2.1 ∧ a.2.2 < b.2.2)))) := by
  unfold lessB
  by_cases h1 : a.1 = b.1
  · by_cases h2 : a.2.1 = b.2.1
    · rw [if_pos h1, if_pos h2, decide_eq_true_eq]; omega
    · rw [if_pos h1, if_neg h2, decide_eq_true_eq]; omega
  · rw [if_neg h1, decide_eq_true_eq]; omega
theorem less_trans {a b c : Bal} (h1 : lessB a b = true) (h2 : lessB b c = true) : lessB a c = true := by
  rw [less_iff] at *
  omega
def eqB (a b : Bal) : Bool := decide (a = b)

set_option maxHeartbeats 4000000 in
set_option maxRecDepth 100000 in
theorem orders_any (a b c : Bal) (w : World) : Calls Try.prog 24 #[.agg (balA a), .agg (balA b), .agg (balA c)] w fun e w' => e = .returned (.bool true) ∧ Below w.heap.size w w' := by
  have hu23 := Try.underlying23
  have LT := Aside0.mk (less_cases a b)
  have LR := Aside0.mk (@less_trans a b c)
  go_enter Try.func24, Try.ntmps24
  go_wp2_with fail
  obtain ⟨W1, hw1⟩ : ∃ x : World, x = ((w.alloc (.cells (balA a) 23)).alloc (.cells (balA b) 23)).alloc (.cells (balA c) 23) := ⟨_, rfl⟩
  have hbs1 : Below w.heap.size w W1 := by rw [hw1]; repeat (first | exact Below.refl _ _ | refine below_alloc ?_ _ | refine below_drew ?_)
  obtain ⟨ga1, hga1⟩ : ∃ x, x = w.heap.size := ⟨_, rfl⟩
  have Ba1 : Aside0 (W1.heap[ga1]? = some (.cells #[.int .i64 a.1, .int .i64 a.2.1, .int .i64 a.2.2] 23 (0, 0))) := ⟨by rw [hw1, hga1]; exact blk_alloc (blk_alloc (blk_new w _) _) _⟩
  obtain ⟨gb1, hgb1⟩ : ∃ x, x = w.heap.size + 1 := ⟨_, rfl⟩
  have Bb1 : Aside0 (W1.heap[gb1]? = some (.cells #[.int .i64 b.1, .int .i64 b.2.1, .int .i64 b.2.2] 23 (0, 0))) := ⟨by rw [hw1, hgb1]; have := blk_alloc (blk_new (w.alloc (.cells (balA a) 23)) (.cells (balA b) 23)) (.cells (balA c) 23); rwa [World.size_alloc] at this⟩
  obtain ⟨gc1, hgc1⟩ : ∃ x, x = w.heap.size + 1 + 1 := ⟨_, rfl⟩
  have Bc1 : Aside0 (W1.heap[gc1]? = some (.cells #[.int .i64 c.1, .int .i64 c.2.1, .int .i64 c.2.2] 23 (0, 0))) := ⟨by rw [hw1, hgc1]; have := blk_new ((w.alloc (.cells (balA a) 23)).alloc (.cells (balA b) 23)) (.cells (balA c) 23); rwa [World.size_alloc, World.size_alloc] at this⟩
  rw [← hw1]
  rw [← hgc1]
  rw [← hgb1]
  rw [← hga1]
  clear hw1 hga1 hgb1 hgc1
  have HB2 := Aside0.mk hbs1
  clear hbs1
  refine (alive_any _).mono ?_
  rintro e w3 ⟨rfl, hb3⟩
  have HB4 := Aside0.mk (below_step HB2.out hb3)
  have Ba4 : Aside0 (w3.heap[ga1]? = some (.cells #[.int .i64 a.1, .int .i64 a.2.1, .int .i64 a.2.2] 23 (0, 0))) := ⟨(hb3.block _ (blk_lt Ba1.out)).trans Ba1.out⟩
  have Bb4 : Aside0 (w3.heap[gb1]? = some (.cells #[.int .i64 b.1, .int .i64 b.2.1, .int .i64 b.2.2] 23 (0, 0))) := ⟨(hb3.block _ (blk_lt Bb1.out)).trans Bb1.out⟩
  have Bc4 : Aside0 (w3.heap[gc1]? = some (.cells #[.int .i64 c.1, .int .i64 c.2.1, .int .i64 c.2.2] 23 (0, 0))) := ⟨(hb3.block _ (blk_lt Bc1.out)).trans Bc1.out⟩
  clear hb3
  have za5_0 : w3.cell? ⟨ga1, 0, none⟩ = some (.int .i64 a.1) := (blk_cell Ba4.out 0).trans rfl
  have za5_1 : w3.cell? ⟨ga1, 1, none⟩ = some (.int .i64 a.2.1) := (blk_cell Ba4.out 1).trans rfl
  have za5_2 : w3.cell? ⟨ga1, 2, none⟩ = some (.int .i64 a.2.2) := (blk_cell Ba4.out 2).trans rfl
  have zb5_0 : w3.cell? ⟨gb1, 0, none⟩ = some (.int .i64 b.1) := (blk_cell Bb4.out 0).trans rfl
  have zb5_1 : w3.cell? ⟨gb1, 1, none⟩ = some (.int .i64 b.2.1) := (blk_cell Bb4.out 1).trans rfl
  have zb5_2 : w3.cell? ⟨gb1, 2, none⟩ = some (.int .i64 b.2.2) := (blk_cell Bb4.out 2).trans rfl
  have zc5_0 : w3.cell? ⟨gc1, 0, none⟩ = some (.int .i64 c.1) := (blk_cell Bc4.out 0).trans rfl
  have zc5_1 : w3.cell? ⟨gc1, 1, none⟩ = some (.int .i64 c.2.1) := (blk_cell Bc4.out 1).trans rfl
  have zc5_2 : w3.cell? ⟨gc1, 2, none⟩ = some (.int .i64 c.2.2) := (blk_cell Bc4.out 2).trans rfl
  go_wp2_with fail
  rcases LT.out with ⟨h1, h2, h3⟩ | ⟨h1, h2, h3⟩ | ⟨h1, h2, h3⟩
  · have H1 := Aside0.mk h1
    have H2 := Aside0.mk h2
    have H3 := Aside0.mk h3
    clear h1 h2 h3
    have hEq : eqB a b = false := decide_eq_false H3.out
    have hEqv := eqBal a b
    rw [show decide (a = b) = false from hEq] at hEqv
    clear hEq
    refine start_ (n := 33) (S := fun w' => w'.cell? ⟨ga1, 0, none⟩ = some (.int .i64 a.1) ∧ w'.cell? ⟨ga1, 1, none⟩ = some (.int .i64 a.2.1) ∧ w'.cell? ⟨ga1, 2, none⟩ = some (.int .i64 a.2.2) ∧ w'.cell? ⟨gb1, 0, none⟩ = some (.int .i64 b.1) ∧ w'.cell? ⟨gb1, 1, none⟩ = some (.int .i64 b.2.1) ∧ w'.cell? ⟨gb1, 2, none⟩ = some (.int .i64 b.2.2) ∧ w'.cell? ⟨gc1, 0, none⟩ = some (.int .i64 c.1) ∧ w'.cell? ⟨gc1, 1, none⟩ = some (.int .i64 c.2.1) ∧ w'.cell? ⟨gc1, 2, none⟩ = some (.int .i64 c.2.2)) (ds := []) #[false, false, false, false, false, false, false, false, false, false, false, false, false, false, false, false, false, false, false, false, false, false, false, false, false, false, false, false, false, false, false, false, false] (by kernel_rfl) rfl rfl ⟨za5_0, za5_1, za5_2, zb5_0, zb5_1, zb5_2, zc5_0, zc5_1, zc5_2⟩ (fun hHeld => ?_)
    refine take_ (i := 0) (N := some 9) (v := ?_) (a' := ?_) #[true, false, false, false, false, false, false, false, false, false, false, false, false, false, false, false, false, false, false, false, false, false, false, false, false, false, false, false, false, false, false, false, false] rfl rfl (by kernel_rfl) (fun _ _ _ h => h) (Or.inl ⟨by rfl, ?_⟩) hHeld ?_ ?_
    rotate_left
    · rintro w' ⟨s0, s1, s2, s3, s4, s5, s6, s7, s8⟩
      go_simp
      with_reducible rfl
    rotate_left
    · simp only [Act.put, List.setIfInBounds_toArray, List.set_cons_zero, List.set_cons_succ, i64_w, i32_w]
      rfl
    refine take_ (i := 1) (N := some 10) (v := ?_) (a' := ?_) #[true, true, false, false, false, false, false, false, false, false, false, false, false, false, false, false, false, false, false, false, false, false, false, false, false, false, false, false, false, false, false, false, false] rfl rfl (by kernel_rfl) (fun _ _ _ h => h) (Or.inl ⟨by rfl, ?_⟩) hHeld ?_ ?_
    rotate_left
    · rintro w' ⟨s0, s1, s2, s3, s4, s5, s6, s7, s8⟩
      go_simp
      with_reducible rfl
    rotate_left
    · simp only [Act.put, List.setIfInBounds_toArray, List.set_cons_zero, List.set_cons_succ, i64_w, i32_w]
      rfl
    refine take_ (i := 3) (N := some 12) (v := ?_) (a' := ?_) #[true, true, false, true, false, false, false, false, false, false, false, false, false, false, false, false, false, false, false, false, false, false, false, false, false, false, false, false, false, false, false, false, false] rfl rfl (by kernel_rfl) (fun _ _ _ h => h) (Or.inl ⟨by rfl, ?_⟩) hHeld ?_ ?_
    rotate_left
    · rintro w' ⟨s0, s1, s2, s3, s4, s5, s6, s7, s8⟩
      go_simp
      with_reducible rfl
    rotate_left
    · simp only [Act.put, List.setIfInBounds_toArray, List.set_cons_zero, List.set_cons_succ, i64_w, i32_w]
      rfl
    refine take_ (i := 4) (N := some 13) (v := ?_) (a' := ?_) #[true, true, false, true, true, false, false, false, false, false, false, false, false, false, false, false, false, false, false, false, false, false, false, false, false, false, false, false, false, false, false, false, false] rfl rfl (by kernel_rfl) (fun _ _ _ h => h) (Or.inl ⟨by rfl, ?_⟩) hHeld ?_ ?_
    rotate_left
    · rintro w' ⟨s0, s1, s2, s3, s4, s5, s6, s7, s8⟩
      go_simp
      with_reducible rfl
    rotate_left
    · simp only [Act.put, List.setIfInBounds_toArray, List.set_cons_zero, List.set_cons_succ, i64_w, i32_w]
      rfl
    refine one_ (i := 2) (N := some 11) #[true, true, true, true, true, false, false, false, false, false, false, false, false, false, false, false, false, false, false, false, false, false, false, false, false, false, false, false, false, false, false, false, false] rfl rfl (by kernel_rfl) (by decide) (fun K hK => ?_)
    refine goes_ Try.func31 (by kernel_rfl) rfl #[.agg #[.int .i64 a.1, .int .i64 a.2.1, .int .i64 a.2.2], .agg #[.int .i64 b.1, .int .i64 b.2.1, .int .i64 b.2.2]] (by rfl) rfl rfl (by simp only [List.map_toArray, List.map_cons, List.map_nil]; rfl) ?_
    with_reducible refine (less_v true _ _ _ H1.out).mono ?_
    rintro e v2 ⟨rfl, hb2⟩
    refine ⟨_, rfl, ?_⟩
    have HK2 := Aside0.mk (below_step (below_drew (Below.refl _ w3)) hb2)
    clear hb2
    refine hK.out _ _ ⟨pw_cell_below HK2.out za5_0, pw_cell_below HK2.out za5_1, pw_cell_below HK2.out za5_2, pw_cell_below HK2.out zb5_0, pw_cell_below HK2.out zb5_1, pw_cell_below HK2.out zb5_2, pw_cell_below HK2.out zc5_0, pw_cell_below HK2.out zc5_1, pw_cell_below HK2.out zc5_2⟩ (fun hHeld => ?_)
    clear hK K
    refine norm_ (a' := ?_) ?_ ?_
    rotate_left
    · show Act.put _ (some 11) _ = _
      simp only [Act.put, List.setIfInBounds_toArray, List.set_cons_zero, List.set_cons_succ, i64_w, i32_w]
      rfl
    refine one_ (i := 5) (N := some 14) #[true, true, true, true, true, true, false, false, false, false, false, false, false, false, false, false, false, false, false, false, false, false, false, false, false, false, false, false, false, false, false, false, false] rfl rfl (by kernel_rfl) (by decide) (fun K hK => ?_)
    refine goes_ Try.func21 (by kernel_rfl) rfl #[.agg #[.int .i64 a.1, .int .i64 a.2.1, .int .i64 a.2.2], .agg #[.int .i64 b.1, .int .i64 b.2.1, .int .i64 b.2.2]] (by rfl) rfl rfl (by simp only [List.map_toArray, List.map_cons, List.map_nil]; rfl) ?_
    with_reducible refine (refless_v true _ _ _ H1.out).mono ?_
    rintro e v5 ⟨rfl, hb5⟩
    refine ⟨_, rfl, ?_⟩
    have HK5 := Aside0.mk (below_step HK2.out hb5)
    clear hb5
    refine hK.out _ _ ⟨pw_cell_below HK5.out za5_0, pw_cell_below HK5.out za5_1, pw_cell_below HK5.out za5_2, pw_cell_below HK5.out zb5_0, pw_cell_below HK5.out zb5_1, pw_cell_below HK5.out zb5_2, pw_cell_below HK5.out zc5_0, pw_cell_below HK5.out zc5_1, pw_cell_below HK5.out zc5_2⟩ (fun hHeld => ?_)
    clear hK K
    refine norm_ (a' := ?_) ?_ ?_
    rotate_left
    · show Act.put _ (some 14) _ = _
      simp only [Act.put, List.setIfInBounds_toArray, List.set_cons_zero, List.set_cons_succ, i64_w, i32_w]
      rfl
    refine pure_ (i := 6) (N := some 15) (v := ?_) (a' := ?_) #[true, true, true, true, true, true, true, false, false, false, false, false, false, false, false, false, false, false, false, false, false, false, false, false, false, false, false, false, false, false, false, false, false] rfl rfl (by kernel_rfl) (fun _ _ _ h => h) (Or.inl ⟨by rfl, ?_⟩) ?_ ?_
    rotate_left
    · intro w'
      go_simp
      with_reducible rfl
    rotate_left
    · simp only [Act.put, List.setIfInBounds_toArray, List.set_cons_zero, List.set_cons_succ, i64_w, i32_w]
      rfl
    refine pure_ (i := 7) (N := some 16) (v := ?_) (a' := ?_) #[true, true, true, true, true, true, true, true, false, false, false, false, false, false, false, false, false, false, false, false, false, false, false, false, false, false, false, false, false, false, false, false, false] rfl rfl (by kernel_rfl) (fun _ _ _ h => h) (Or.inl ⟨by rfl, ?_⟩) ?_ ?_
    rotate_left
    · intro w'
      go_simp
      with_reducible rfl
    rotate_left
    · simp only [Act.put, List.setIfInBounds_toArray, List.set_cons_zero, List.set_cons_succ, i64_w, i32_w]
      rfl
    refine take_ (i := 8) (N := some 17) (v := ?_) (a' := ?_) #[true, true, true, true, true, true, true, true, true, false, false, false, false, false, false, false, false, false, false, false, false, false, false, false, false, false, false, false, false, false, false, false, false] rfl rfl (by kernel_rfl) (fun _ _ _ h => h) (Or.inl ⟨by rfl, ?_⟩) hHeld ?_ ?_
    rotate_left
    · rintro w' ⟨s0, s1, s2, s3, s4, s5, s6, s7, s8⟩
      go_simp
      with_reducible rfl
    rotate_left
    · simp only [Act.put, List.setIfInBounds_toArray, List.set_cons_zero, List.set_cons_succ, i64_w, i32_w]
      rfl
    refine take_ (i := 9) (N := some 18) (v := ?_) (a' := ?_) #[true, true, true, true, true, true, true, true, true, true, false, false, false, false, false, false, false, false, false, false, false, false, false, false, false, false, false, false, false, false, false, false, false] rfl rfl (by kernel_rfl) (fun _ _ _ h => h) (Or.inl ⟨by rfl, ?_⟩) hHeld ?_ ?_
    rotate_left
    · rintro w' ⟨s0, s1, s2, s3, s4, s5, s6, s7, s8⟩
      go_simp
      with_reducible rfl
    rotate_left
    · simp only [Act.put, List.setIfInBounds_toArray, List.set_cons_zero, List.set_cons_succ, i64_w, i32_w]
      rfl
    refine one_ (i := 10) (N := some 19) #[true, true, true, true, true, true, true, true, true, true, true, false, false, false, false, false, false, false, false, false, false, false, false, false, false, false, false, false, false, false, false, false, false] rfl rfl (by kernel_rfl) (by decide) (fun K hK => ?_)
    refine goes_ Try.func31 (by kernel_rfl) rfl #[.agg #[.int .i64 a.1, .int .i64 a.2.1, .int .i64 a.2.2], .agg #[.int .i64 b.1, .int .i64 b.2.1, .int .i64 b.2.2]] (by rfl) rfl rfl (by simp only [List.map_toArray, List.map_cons, List.map_nil]; rfl) ?_
    with_reducible refine (less_v true _ _ _ H1.out).mono ?_
    rintro e v10 ⟨rfl, hb10⟩
    refine ⟨_, rfl, ?_⟩
    have HK10 := Aside0.mk (below_step HK5.out hb10)
    clear hb10
    refine hK.out _ _ ⟨pw_cell_below HK10.out za5_0, pw_cell_below HK10.out za5_1, pw_cell_below HK10.out za5_2, pw_cell_below HK10.out zb5_0, pw_cell_below HK10.out zb5_1, pw_cell_below HK10.out zb5_2, pw_cell_below HK10.out zc5_0, pw_cell_below HK10.out zc5_1, pw_cell_below HK10.out zc5_2⟩ (fun hHeld => ?_)
    clear hK K
    refine norm_ (a' := ?_) ?_ ?_
    rotate_left
    · show Act.put _ (some 19) _ = _
      simp only [Act.put, List.setIfInBounds_toArray, List.set_cons_zero, List.set_cons_succ, i64_w, i32_w]
      rfl
    refine pure_ (i := 11) (N := some 20) (v := ?_) (a' := ?_) #[true, true, true, true, true, true, true, true, true, true, true, true, false, false, false, false, false, false, false, false, false, false, false, false, false, false, false, false, false, false, false, false, false] rfl rfl (by kernel_rfl) (fun _ _ _ h => h) (Or.inl ⟨by rfl, ?_⟩) ?_ ?_
    rotate_left
    · intro w'
      go_simp
      with_reducible rfl
    rotate_left
    · simp only [Act.put, List.setIfInBounds_toArray, List.set_cons_zero, List.set_cons_succ, i64_w, i32_w]
      rfl
    refine take_ (i := 12) (N := some 21) (v := ?_) (a' := ?_) #[true, true, true, true, true, true, true, true, true, true, true, true, true, false, false, false, false, false, false, false, false, false, false, false, false, false, false, false, false, false, false, false, false] rfl rfl (by kernel_rfl) (fun _ _ _ h => h) (Or.inl ⟨by rfl, ?_⟩) hHeld ?_ ?_
    rotate_left
    · rintro w' ⟨s0, s1, s2, s3, s4, s5, s6, s7, s8⟩
      go_simp
      with_reducible rfl
    rotate_left
    · simp only [Act.put, List.setIfInBounds_toArray, List.set_cons_zero, List.set_cons_succ, i64_w, i32_w]
      rfl
    refine take_ (i := 13) (N := some 22) (v := ?_) (a' := ?_) #[true, true, true, true, true, true, true, true, true, true, true, true, true, true, false, false, false, false, false, false, false, false, false, false, false, false, false, false, false, false, false, false, false] rfl rfl (by kernel_rfl) (fun _ _ _ h => h) (Or.inl ⟨by rfl, ?_⟩) hHeld ?_ ?_
    rotate_left
    · rintro w' ⟨s0, s1, s2, s3, s4, s5, s6, s7, s8⟩
      go_simp
      with_reducible rfl
    rotate_left
    · simp only [Act.put, List.setIfInBounds_toArray, List.set_cons_zero, List.set_cons_succ, i64_w, i32_w]
      rfl
    refine one_ (i := 14) (N := some 23) #[true, true, true, true, true, true, true, true, true, true, true, true, true, true, true, false, false, false, false, false, false, false, false, false, false, false, false, false, false, false, false, false, false] rfl rfl (by kernel_rfl) (by decide) (fun K hK => ?_)
    refine goes_ Try.func31 (by kernel_rfl) rfl #[.agg #[.int .i64 b.1, .int .i64 b.2.1, .int .i64 b.2.2], .agg #[.int .i64 a.1, .int .i64 a.2.1, .int .i64 a.2.2]] (by rfl) rfl rfl (by simp only [List.map_toArray, List.map_cons, List.map_nil]; rfl) ?_
    with_reducible refine (less_v false _ _ _ H2.out).mono ?_
    rintro e v14 ⟨rfl, hb14⟩
    refine ⟨_, rfl, ?_⟩
    have HK14 := Aside0.mk (below_step HK10.out hb14)
    clear hb14
    refine hK.out _ _ ⟨pw_cell_below HK14.out za5_0, pw_cell_below HK14.out za5_1, pw_cell_below HK14.out za5_2, pw_cell_below HK14.out zb5_0, pw_cell_below HK14.out zb5_1, pw_cell_below HK14.out zb5_2, pw_cell_below HK14.out zc5_0, pw_cell_below HK14.out zc5_1, pw_cell_below HK14.out zc5_2⟩ (fun hHeld => ?_)
    clear hK K
    refine norm_ (a' := ?_) ?_ ?_
    rotate_left
    · show Act.put _ (some 23) _ = _
      simp only [Act.put, List.setIfInBounds_toArray, List.set_cons_zero, List.set_cons_succ, i64_w, i32_w]
      rfl
    refine pure_ (i := 15) (N := some 24) (v := ?_) (a' := ?_) #[true, true, true, true, true, true, true, true, true, true, true, true, true, true, true, true, false, false, false, false, false, false, false, false, false, false, false, false, false, false, false, false, false] rfl rfl (by kernel_rfl) (fun _ _ _ h => h) (Or.inl ⟨by rfl, ?_⟩) ?_ ?_
    rotate_left
    · intro w'
      go_simp
      with_reducible rfl
    rotate_left
    · simp only [Act.put, List.setIfInBounds_toArray, List.set_cons_zero, List.set_cons_succ, i64_w, i32_w]
      rfl
    refine pure_ (i := 16) (N := some 25) (v := ?_) (a' := ?_) #[true, true, true, true, true, true, true, true, true, true, true, true, true, true, true, true, true, false, false, false, false, false, false, false, false, false, false, false, false, false, false, false, false] rfl rfl (by kernel_rfl) (fun _ _ _ h => h) (Or.inl ⟨by rfl, ?_⟩) ?_ ?_
    rotate_left
    · intro w'
      go_simp
      with_reducible rfl
    rotate_left
    · simp only [Act.put, List.setIfInBounds_toArray, List.set_cons_zero, List.set_cons_succ, i64_w, i32_w]
      rfl
    refine pure_ (i := 17) (N := some 26) (v := ?_) (a' := ?_) #[true, true, true, true, true, true, true, true, true, true, true, true, true, true, true, true, true, true, false, false, false, false, false, false, false, false, false, false, false, false, false, false, false] rfl rfl (by kernel_rfl) (fun _ _ _ h => h) (Or.inl ⟨by rfl, ?_⟩) ?_ ?_
    rotate_left
    · intro w'
      go_simp
      with_reducible rfl
    rotate_left
    · simp only [Act.put, List.setIfInBounds_toArray, List.set_cons_zero, List.set_cons_succ, i64_w, i32_w]
      rfl
    refine take_ (i := 18) (N := some 27) (v := ?_) (a' := ?_) #[true, true, true, true, true, true, true, true, true, true, true, true, true, true, true, true, true, true, true, false, false, false, false, false, false, false, false, false, false, false, false, false, false] rfl rfl (by kernel_rfl) (fun _ _ _ h => h) (Or.inl ⟨by rfl, ?_⟩) hHeld ?_ ?_
    rotate_left
    · rintro w' ⟨s0, s1, s2, s3, s4, s5, s6, s7, s8⟩
      go_simp
      with_reducible rfl
    rotate_left
    · simp only [Act.put, List.setIfInBounds_toArray, List.set_cons_zero, List.set_cons_succ, i64_w, i32_w]
      rfl
    refine take_ (i := 19) (N := some 28) (v := ?_) (a' := ?_) #[true, true, true, true, true, true, true, true, true, true, true, true, true, true, true, true, true, true, true, true, false, false, false, false, false, false, false, false, false, false, false, false, false] rfl rfl (by kernel_rfl) (fun _ _ _ h => h) (Or.inl ⟨by rfl, ?_⟩) hHeld ?_ ?_
    rotate_left
    · rintro w' ⟨s0, s1, s2, s3, s4, s5, s6, s7, s8⟩
      go_simp
      with_reducible rfl
    rotate_left
    · simp only [Act.put, List.setIfInBounds_toArray, List.set_cons_zero, List.set_cons_succ, i64_w, i32_w]
      rfl
    refine pure_ (i := 20) (N := some 29) (v := ?_) (a' := ?_) #[true, true, true, true, true, true, true, true, true, true, true, true, true, true, true, true, true, true, true, true, true, false, false, false, false, false, false, false, false, false, false, false, false] rfl rfl (by kernel_rfl) (fun _ _ _ h => h) (Or.inl ⟨by rfl, ?_⟩) ?_ ?_
    rotate_left
    · intro w'
      go_simp
      with_reducible rfl
    rotate_left
    · simp only [Act.put, List.setIfInBounds_toArray, List.set_cons_zero, List.set_cons_succ, i64_w, i32_w]
      rfl
    refine take_ (i := 21) (N := some 30) (v := ?_) (a' := ?_) #[true, true, true, true, true, true, true, true, true, true, true, true, true, true, true, true, true, true, true, true, true, true, false, false, false, false, false, false, false, false, false, false, false] rfl rfl (by kernel_rfl) (fun _ _ _ h => h) (Or.inl ⟨by rfl, ?_⟩) hHeld ?_ ?_
    rotate_left
    · rintro w' ⟨s0, s1, s2, s3, s4, s5, s6, s7, s8⟩
      go_simp
      with_reducible rfl
    rotate_left
    · simp only [Act.put, List.setIfInBounds_toArray, List.set_cons_zero, List.set_cons_succ, i64_w, i32_w]
      rfl
    refine take_ (i := 22) (N := some 31) (v := ?_) (a' := ?_) #[true, true, true, true, true, true, true, true, true, true, true, true, true, true, true, true, true, true, true, true, true, true, true, false, false, false, false, false, false, false, false, false, false] rfl rfl (by kernel_rfl) (fun _ _ _ h => h) (Or.inl ⟨by rfl, ?_⟩) hHeld ?_ ?_
    rotate_left
    · rintro w' ⟨s0, s1, s2, s3, s4, s5, s6, s7, s8⟩
      go_simp
      with_reducible rfl
    rotate_left
    · simp only [Act.put, List.setIfInBounds_toArray, List.set_cons_zero, List.set_cons_succ, i64_w, i32_w]
      rfl
    refine one_ (i := 23) (N := some 32) #[true, true, true, true, true, true, true, true, true, true, true, true, true, true, true, true, true, true, true, true, true, true, true, true, false, false, false, false, false, false, false, false, false] rfl rfl (by kernel_rfl) (by decide) (fun K hK => ?_)
    refine goes_ Try.func31 (by kernel_rfl) rfl #[.agg #[.int .i64 a.1, .int .i64 a.2.1, .int .i64 a.2.2], .agg #[.int .i64 b.1, .int .i64 b.2.1, .int .i64 b.2.2]] (by rfl) rfl rfl (by simp only [List.map_toArray, List.map_cons, List.map_nil]; rfl) ?_
    with_reducible refine (less_v true _ _ _ H1.out).mono ?_
    rintro e v23 ⟨rfl, hb23⟩
    refine ⟨_, rfl, ?_⟩
    have HK23 := Aside0.mk (below_step HK14.out hb23)
    clear hb23
    refine hK.out _ _ ⟨pw_cell_below HK23.out za5_0, pw_cell_below HK23.out za5_1, pw_cell_below HK23.out za5_2, pw_cell_below HK23.out zb5_0, pw_cell_below HK23.out zb5_1, pw_cell_below HK23.out zb5_2, pw_cell_below HK23.out zc5_0, pw_cell_below HK23.out zc5_1, pw_cell_below HK23.out zc5_2⟩ (fun hHeld => ?_)
    clear hK K
    refine norm_ (a' := ?_) ?_ ?_
    rotate_left
    · show Act.put _ (some 32) _ = _
      simp only [Act.put, List.setIfInBounds_toArray, List.set_cons_zero, List.set_cons_succ, i64_w, i32_w]
      rfl
    refine pure_ (i := 24) (N := some 33) (v := ?_) (a' := ?_) #[true, true, true, true, true, true, true, true, true, true, true, true, true, true, true, true, true, true, true, true, true, true, true, true, true, false, false, false, false, false, false, false, false] rfl rfl (by kernel_rfl) (fun _ _ _ h => h) (Or.inl ⟨by rfl, ?_⟩) ?_ ?_
    rotate_left
    · intro w'
      go_simp
      with_reducible rfl
    rotate_left
    · simp only [Act.put, List.setIfInBounds_toArray, List.set_cons_zero, List.set_cons_succ, i64_w, i32_w]
      rfl
    refine pure_ (i := 25) (N := some 34) (v := ?_) (a' := ?_) #[true, true, true, true, true, true, true, true, true, true, true, true, true, true, true, true, true, true, true, true, true, true, true, true, true, true, false, false, false, false, false, false, false] rfl rfl (by kernel_rfl) (fun _ _ _ h => h) (Or.inl ⟨by rfl, ?_⟩) ?_ ?_
    rotate_left
    · intro w'
      go_simp
      with_reducible rfl
    rotate_left
    · simp only [Act.put, List.setIfInBounds_toArray, List.set_cons_zero, List.set_cons_succ, i64_w, i32_w]
      rfl
    refine pure_ (i := 26) (N := some 35) (v := undef) (a' := ?_) #[true, true, true, true, true, true, true, true, true, true, true, true, true, true, true, true, true, true, true, true, true, true, true, true, true, true, true, false, false, false, false, false, false] rfl rfl (by kernel_rfl) (fun _ _ _ h => h) (Or.inr ⟨by rfl, rfl⟩) ?_ ?_
    rotate_left
    · simp only [Act.put, List.setIfInBounds_toArray, List.set_cons_zero, List.set_cons_succ, i64_w, i32_w]
      rfl
    refine pure_ (i := 27) (N := some 36) (v := undef) (a' := ?_) #[true, true, true, true, true, true, true, true, true, true, true, true, true, true, true, true, true, true, true, true, true, true, true, true, true, true, true, true, false, false, false, false, false] rfl rfl (by kernel_rfl) (fun _ _ _ h => h) (Or.inr ⟨by rfl, rfl⟩) ?_ ?_
    rotate_left
    · simp only [Act.put, List.setIfInBounds_toArray, List.set_cons_zero, List.set_cons_succ, i64_w, i32_w]
      rfl
    refine pure_ (i := 28) (N := some 37) (v := undef) (a' := ?_) #[true, true, true, true, true, true, true, true, true, true, true, true, true, true, true, true, true, true, true, true, true, true, true, true, true, true, true, true, true, false, false, false, false] rfl rfl (by kernel_rfl) (fun _ _ _ h => h) (Or.inr ⟨by rfl, rfl⟩) ?_ ?_
    rotate_left
    · simp only [Act.put, List.setIfInBounds_toArray, List.set_cons_zero, List.set_cons_succ, i64_w, i32_w]
      rfl
    refine pure_ (i := 29) (N := some 38) (v := undef) (a' := ?_) #[true, true, true, true, true, true, true, true, true, true, true, true, true, true, true, true, true, true, true, true, true, true, true, true, true, true, true, true, true, true, false, false, false] rfl rfl (by kernel_rfl) (fun _ _ _ h => h) (Or.inr ⟨by rfl, rfl⟩) ?_ ?_
    rotate_left
    · simp only [Act.put, List.setIfInBounds_toArray, List.set_cons_zero, List.set_cons_succ, i64_w, i32_w]
      rfl
    refine pure_ (i := 30) (N := some 39) (v := ?_) (a' := ?_) #[true, true, true, true, true, true, true, true, true, true, true, true, true, true, true, true, true, true, true, true, true, true, true, true, true, true, true, true, true, true, true, false, false] rfl rfl (by kernel_rfl) (fun _ _ _ h => h) (Or.inl ⟨by rfl, ?_⟩) ?_ ?_
    rotate_left
    · intro w'
      go_simp
      with_reducible rfl
    rotate_left
    · simp only [Act.put, List.setIfInBounds_toArray, List.set_cons_zero, List.set_cons_succ, i64_w, i32_w]
      rfl
    refine pure_ (i := 31) (N := some 40) (v := ?_) (a' := ?_) #[true, true, true, true, true, true, true, true, true, true, true, true, true, true, true, true, true, true, true, true, true, true, true, true, true, true, true, true, true, true, true, true, false] rfl rfl (by kernel_rfl) (fun _ _ _ h => h) (Or.inl ⟨by rfl, ?_⟩) ?_ ?_
    rotate_left
    · intro w'
      go_simp
      with_reducible rfl
    rotate_left
    · simp only [Act.put, List.setIfInBounds_toArray, List.set_cons_zero, List.set_cons_succ, i64_w, i32_w]
      rfl
    refine pure_ (i := 32) (N := some 41) (v := ?_) (a' := ?_) #[true, true, true, true, true, true, true, true, true, true, true, true, true, true, true, true, true, true, true, true, true, true, true, true, true, true, true, true, true, true, true, true, true] rfl rfl (by kernel_rfl) (fun _ _ _ h => h) (Or.inl ⟨by rfl, ?_⟩) ?_ ?_
    rotate_left
    · intro w'
      go_simp
      with_reducible rfl
    rotate_left
    · simp only [Act.put, List.setIfInBounds_toArray, List.set_cons_zero, List.set_cons_succ, i64_w, i32_w]
      rfl
    refine done_ (by kernel_rfl) ?_
    have hb0 := HK23.out
    clear za5_0 za5_1 za5_2 zb5_0 zb5_1 zb5_2 zc5_0 zc5_1 zc5_2
    have HB6 := Aside0.mk (below_step HB4.out hb0)
    have Ba6 : Aside0 (v23.heap[ga1]? = some (.cells #[.int .i64 a.1, .int .i64 a.2.1, .int .i64 a.2.2] 23 (0, 0))) := ⟨(hb0.block _ (blk_lt Ba4.out)).trans Ba4.out⟩
    have Bb6 : Aside0 (v23.heap[gb1]? = some (.cells #[.int .i64 b.1, .int .i64 b.2.1, .int .i64 b.2.2] 23 (0, 0))) := ⟨(hb0.block _ (blk_lt Bb4.out)).trans Bb4.out⟩
    have Bc6 : Aside0 (v23.heap[gc1]? = some (.cells #[.int .i64 c.1, .int .i64 c.2.1, .int .i64 c.2.2] 23 (0, 0))) := ⟨(hb0.block _ (blk_lt Bc4.out)).trans Bc4.out⟩
    clear hb0
    have za7_0 : v23.cell? ⟨ga1, 0, none⟩ = some (.int .i64 a.1) := (blk_cell Ba6.out 0).trans rfl
    have za7_1 : v23.cell? ⟨ga1, 1, none⟩ = some (.int .i64 a.2.1) := (blk_cell Ba6.out 1).trans rfl
    have za7_2 : v23.cell? ⟨ga1, 2, none⟩ = some (.int .i64 a.2.2) := (blk_cell Ba6.out 2).trans rfl
    have zb7_0 : v23.cell? ⟨gb1, 0, none⟩ = some (.int .i64 b.1) := (blk_cell Bb6.out 0).trans rfl
    have zb7_1 : v23.cell? ⟨gb1, 1, none⟩ = some (.int .i64 b.2.1) := (blk_cell Bb6.out 1).trans rfl
    have zb7_2 : v23.cell? ⟨gb1, 2, none⟩ = some (.int .i64 b.2.2) := (blk_cell Bb6.out 2).trans rfl
    have zc7_0 : v23.cell? ⟨gc1, 0, none⟩ = some (.int .i64 c.1) := (blk_cell Bc6.out 0).trans rfl
    have zc7_1 : v23.cell? ⟨gc1, 1, none⟩ = some (.int .i64 c.2.1) := (blk_cell Bc6.out 1).trans rfl
    have zc7_2 : v23.cell? ⟨gc1, 2, none⟩ = some (.int .i64 c.2.2) := (blk_cell Bc6.out 2).trans rfl
    cases hbc : lessB b c
    · have H4 := Aside0.mk hbc
      clear hbc
      go_wp2_with fail
      refine (less_v true _ _ _ H1.out).mono ?_
      rintro e w8 ⟨rfl, hb8⟩
      clear za7_0 za7_1 za7_2 zb7_0 zb7_1 zb7_2 zc7_0 zc7_1 zc7_2
      have HB9 := Aside0.mk (below_step HB6.out hb8)
      have Ba9 : Aside0 (w8.heap[ga1]? = some (.cells #[.int .i64 a.1, .int .i64 a.2.1, .int .i64 a.2.2] 23 (0, 0))) := ⟨(hb8.block _ (blk_lt Ba6.out)).trans Ba6.out⟩
      have Bb9 : Aside0 (w8.heap[gb1]? = some (.cells #[.int .i64 b.1, .int .i64 b.2.1, .int .i64 b.2.2] 23 (0, 0))) := ⟨(hb8.block _ (blk_lt Bb6.out)).trans Bb6.out⟩
      have Bc9 : Aside0 (w8.heap[gc1]? = some (.cells #[.int .i64 c.1, .int .i64 c.2.1, .int .i64 c.2.2] 23 (0, 0))) := ⟨(hb8.block _ (blk_lt Bc6.out)).trans Bc6.out⟩
      clear hb8
      have za10_0 : w8.cell? ⟨ga1, 0, none⟩ = some (.int .i64 a.1) := (blk_cell Ba9.out 0).trans rfl
      have za10_1 : w8.cell? ⟨ga1, 1, none⟩ = some (.int .i64 a.2.1) := (blk_cell Ba9.out 1).trans rfl
      have za10_2 : w8.cell? ⟨ga1, 2, none⟩ = some (.int .i64 a.2.2) := (blk_cell Ba9.out 2).trans rfl
      have zb10_0 : w8.cell? ⟨gb1, 0, none⟩ = some (.int .i64 b.1) := (blk_cell Bb9.out 0).trans rfl
      have zb10_1 : w8.cell? ⟨gb1, 1, none⟩ = some (.int .i64 b.2.1) := (blk_cell Bb9.out 1).trans rfl
      have zb10_2 : w8.cell? ⟨gb1, 2, none⟩ = some (.int .i64 b.2.2) := (blk_cell Bb9.out 2).trans rfl
      have zc10_0 : w8.cell? ⟨gc1, 0, none⟩ = some (.int .i64 c.1) := (blk_cell Bc9.out 0).trans rfl
      have zc10_1 : w8.cell? ⟨gc1, 1, none⟩ = some (.int .i64 c.2.1) := (blk_cell Bc9.out 1).trans rfl
      have zc10_2 : w8.cell? ⟨gc1, 2, none⟩ = some (.int .i64 c.2.2) := (blk_cell Bc9.out 2).trans rfl
      go_wp2_with fail
      refine (less_v false _ _ _ H4.out).mono ?_
      rintro e w11 ⟨rfl, hb11⟩
      clear za10_0 za10_1 za10_2 zb10_0 zb10_1 zb10_2 zc10_0 zc10_1 zc10_2
      have HB12 := Aside0.mk (below_step HB9.out hb11)
      have Ba12 : Aside0 (w11.heap[ga1]? = some (.cells #[.int .i64 a.1, .int .i64 a.2.1, .int .i64 a.2.2] 23 (0, 0))) := ⟨(hb11.block _ (blk_lt Ba9.out)).trans Ba9.out⟩
      have Bb12 : Aside0 (w11.heap[gb1]? = some (.cells #[.int .i64 b.1, .int .i64 b.2.1, .int .i64 b.2.2] 23 (0, 0))) := ⟨(hb11.block _ (blk_lt Bb9.out)).trans Bb9.out⟩
      have Bc12 : Aside0 (w11.heap[gc1]? = some (.cells #[.int .i64 c.1, .int .i64 c.2.1, .int .i64 c.2.2] 23 (0, 0))) := ⟨(hb11.block _ (blk_lt Bc9.out)).trans Bc9.out⟩
      clear hb11
      have za13_0 : w11.cell? ⟨ga1, 0, none⟩ = some (.int .i64 a.1) := (blk_cell Ba12.out 0).trans rfl
      have za13_1 : w11.cell? ⟨ga1, 1, none⟩ = some (.int .i64 a.2.1) := (blk_cell Ba12.out 1).trans rfl
      have za13_2 : w11.cell? ⟨ga1, 2, none⟩ = some (.int .i64 a.2.2) := (blk_cell Ba12.out 2).trans rfl
      have zb13_0 : w11.cell? ⟨gb1, 0, none⟩ = some (.int .i64 b.1) := (blk_cell Bb12.out 0).trans rfl
      have zb13_1 : w11.cell? ⟨gb1, 1, none⟩ = some (.int .i64 b.2.1) := (blk_cell Bb12.out 1).trans rfl
      have zb13_2 : w11.cell? ⟨gb1, 2, none⟩ = some (.int .i64 b.2.2) := (blk_cell Bb12.out 2).trans rfl
      have zc13_0 : w11.cell? ⟨gc1, 0, none⟩ = some (.int .i64 c.1) := (blk_cell Bc12.out 0).trans rfl
      have zc13_1 : w11.cell? ⟨gc1, 1, none⟩ = some (.int .i64 c.2.1) := (blk_cell Bc12.out 1).trans rfl
      have zc13_2 : w11.cell? ⟨gc1, 2, none⟩ = some (.int .i64 c.2.2) := (blk_cell Bc12.out 2).trans rfl
      go_wp2_with fail
      go_ret
      exact ⟨rfl, HB12.out⟩
    · have H4 := Aside0.mk hbc
      clear hbc
      go_wp2_with fail
      refine (less_v true _ _ _ H1.out).mono ?_
      rintro e w8 ⟨rfl, hb8⟩
      clear za7_0 za7_1 za7_2 zb7_0 zb7_1 zb7_2 zc7_0 zc7_1 zc7_2
      have HB9 := Aside0.mk (below_step HB6.out hb8)
      have Ba9 : Aside0 (w8.heap[ga1]? = some (.cells #[.int .i64 a.1, .int .i64 a.2.1, .int .i64 a.2.2] 23 (0, 0))) := ⟨(hb8.block _ (blk_lt Ba6.out)).trans Ba6.out⟩
      have Bb9 : Aside0 (w8.heap[gb1]? = some (.cells #[.int .i64 b.1, .int .i64 b.2.1, .int .i64 b.2.2] 23 (0, 0))) := ⟨(hb8.block _ (blk_lt Bb6.out)).trans Bb6.out⟩
      have Bc9 : Aside0 (w8.heap[gc1]? = some (.cells #[.int .i64 c.1, .int .i64 c.2.1, .int .i64 c.2.2] 23 (0, 0))) := ⟨(hb8.block _ (blk_lt Bc6.out)).trans Bc6.out⟩
      clear hb8
      have za10_0 : w8.cell? ⟨ga1, 0, none⟩ = some (.int .i64 a.1) := (blk_cell Ba9.out 0).trans rfl
      have za10_1 : w8.cell? ⟨ga1, 1, none⟩ = some (.int .i64 a.2.1) := (blk_cell Ba9.out 1).trans rfl
      have za10_2 : w8.cell? ⟨ga1, 2, none⟩ = some (.int .i64 a.2.2) := (blk_cell Ba9.out 2).trans rfl
      have zb10_0 : w8.cell? ⟨gb1, 0, none⟩ = some (.int .i64 b.1) := (blk_cell Bb9.out 0).trans rfl
      have zb10_1 : w8.cell? ⟨gb1, 1, none⟩ = some (.int .i64 b.2.1) := (blk_cell Bb9.out 1).trans rfl
      have zb10_2 : w8.cell? ⟨gb1, 2, none⟩ = some (.int .i64 b.2.2) := (blk_cell Bb9.out 2).trans rfl
      have zc10_0 : w8.cell? ⟨gc1, 0, none⟩ = some (.int .i64 c.1) := (blk_cell Bc9.out 0).trans rfl
      have zc10_1 : w8.cell? ⟨gc1, 1, none⟩ = some (.int .i64 c.2.1) := (blk_cell Bc9.out 1).trans rfl
      have zc10_2 : w8.cell? ⟨gc1, 2, none⟩ = some (.int .i64 c.2.2) := (blk_cell Bc9.out 2).trans rfl
      go_wp2_with fail
      refine (less_v true _ _ _ H4.out).mono ?_
      rintro e w11 ⟨rfl, hb11⟩
      clear za10_0 za10_1 za10_2 zb10_0 zb10_1 zb10_2 zc10_0 zc10_1 zc10_2
      have HB12 := Aside0.mk (below_step HB9.out hb11)
      have Ba12 : Aside0 (w11.heap[ga1]? = some (.cells #[.int .i64 a.1, .int .i64 a.2.1, .int .i64 a.2.2] 23 (0, 0))) := ⟨(hb11.block _ (blk_lt Ba9.out)).trans Ba9.out⟩
      have Bb12 : Aside0 (w11.heap[gb1]? = some (.cells #[.int .i64 b.1, .int .i64 b.2.1, .int .i64 b.2.2] 23 (0, 0))) := ⟨(hb11.block _ (blk_lt Bb9.out)).trans Bb9.out⟩
      have Bc12 : Aside0 (w11.heap[gc1]? = some (.cells #[.int .i64 c.1, .int .i64 c.2.1, .int .i64 c.2.2] 23 (0, 0))) := ⟨(hb11.block _ (blk_lt Bc9.out)).trans Bc9.out⟩
      clear hb11
      have za13_0 : w11.cell? ⟨ga1, 0, none⟩ = some (.int .i64 a.1) := (blk_cell Ba12.out 0).trans rfl
      have za13_1 : w11.cell? ⟨ga1, 1, none⟩ = some (.int .i64 a.2.1) := (blk_cell Ba12.out 1).trans rfl
      have za13_2 : w11.cell? ⟨ga1, 2, none⟩ = some (.int .i64 a.2.2) := (blk_cell Ba12.out 2).trans rfl
      have zb13_0 : w11.cell? ⟨gb1, 0, none⟩ = some (.int .i64 b.1) := (blk_cell Bb12.out 0).trans rfl
      have zb13_1 : w11.cell? ⟨gb1, 1, none⟩ = some (.int .i64 b.2.1) := (blk_cell Bb12.out 1).trans rfl
      have zb13_2 : w11.cell? ⟨gb1, 2, none⟩ = some (.int .i64 b.2.2) := (blk_cell Bb12.out 2).trans rfl
      have zc13_0 : w11.cell? ⟨gc1, 0, none⟩ = some (.int .i64 c.1) := (blk_cell Bc12.out 0).trans rfl
      have zc13_1 : w11.cell? ⟨gc1, 1, none⟩ = some (.int .i64 c.2.1) := (blk_cell Bc12.out 1).trans rfl
      have zc13_2 : w11.cell? ⟨gc1, 2, none⟩ = some (.int .i64 c.2.2) := (blk_cell Bc12.out 2).trans rfl
      go_wp2_with fail
      refine (less_v true _ _ _ (LR.out H1.out H4.out)).mono ?_
      rintro e w14 ⟨rfl, hb14⟩
      clear za13_0 za13_1 za13_2 zb13_0 zb13_1 zb13_2 zc13_0 zc13_1 zc13_2
      have HB15 := Aside0.mk (below_step HB12.out hb14)
      have Ba15 : Aside0 (w14.heap[ga1]? = some (.cells #[.int .i64 a.1, .int .i64 a.2.1, .int .i64 a.2.2] 23 (0, 0))) := ⟨(hb14.block _ (blk_lt Ba12.out)).trans Ba12.out⟩
      have Bb15 : Aside0 (w14.heap[gb1]? = some (.cells #[.int .i64 b.1, .int .i64 b.2.1, .int .i64 b.2.2] 23 (0, 0))) := ⟨(hb14.block _ (blk_lt Bb12.out)).trans Bb12.out⟩
      have Bc15 : Aside0 (w14.heap[gc1]? = some (.cells #[.int .i64 c.1, .int .i64 c.2.1, .int .i64 c.2.2] 23 (0, 0))) := ⟨(hb14.block _ (blk_lt Bc12.out)).trans Bc12.out⟩
      clear hb14
      have za16_0 : w14.cell? ⟨ga1, 0, none⟩ = some (.int .i64 a.1) := (blk_cell Ba15.out 0).trans rfl
      have za16_1 : w14.cell? ⟨ga1, 1, none⟩ = some (.int .i64 a.2.1) := (blk_cell Ba15.out 1).trans rfl
      have za16_2 : w14.cell? ⟨ga1, 2, none⟩ = some (.int .i64 a.2.2) := (blk_cell Ba15.out 2).trans rfl
      have zb16_0 : w14.cell? ⟨gb1, 0, none⟩ = some (.int .i64 b.1) := (blk_cell Bb15.out 0).trans rfl
      have zb16_1 : w14.cell? ⟨gb1, 1, none⟩ = some (.int .i64 b.2.1) := (blk_cell Bb15.out 1).trans rfl
      have zb16_2 : w14.cell? ⟨gb1, 2, none⟩ = some (.int .i64 b.2.2) := (blk_cell Bb15.out 2).trans rfl
      have zc16_0 : w14.cell? ⟨gc1, 0, none⟩ = some (.int .i64 c.1) := (blk_cell Bc15.out 0).trans rfl
      have zc16_1 : w14.cell? ⟨gc1, 1, none⟩ = some (.int .i64 c.2.1) := (blk_cell Bc15.out 1).trans rfl
      have zc16_2 : w14.cell? ⟨gc1, 2, none⟩ = some (.int .i64 c.2.2) := (blk_cell Bc15.out 2).trans rfl
      go_wp2_with fail
      go_ret
      exact ⟨rfl, HB15.out⟩
  · have H1 := Aside0.mk h1
    have H2 := Aside0.mk h2
    have H3 := Aside0.mk h3
    clear h1 h2 h3
    have hEq : eqB a b = false := decide_eq_false H3.out
    have hEqv := eqBal a b
    rw [show decide (a = b) = false from hEq] at hEqv
    clear hEq
    refine start_ (n := 33) (S := fun w' => w'.cell? ⟨ga1, 0, none⟩ = some (.int .i64 a.1) ∧ w'.cell? ⟨ga1, 1, none⟩ = some (.int .i64 a.2.1) ∧ w'.cell? ⟨ga1, 2, none⟩ = some (.int .i64 a.2.2) ∧ w'.cell? ⟨gb1, 0, none⟩ = some (.int .i64 b.1) ∧ w'.cell? ⟨gb1, 1, none⟩ = some (.int .i64 b.2.1) ∧ w'.cell? ⟨gb1, 2, none⟩ = some (.int .i64 b.2.2) ∧ w'.cell? ⟨gc1, 0, none⟩ = some (.int .i64 c.1) ∧ w'.cell? ⟨gc1, 1, none⟩ = some (.int .i64 c.2.1) ∧ w'.cell? ⟨gc1, 2, none⟩ = some (.int .i64 c.2.2)) (ds := []) #[false, false, false, false, false, false, false, false, false, false, false, false, false, false, false, false, false, false, false, false, false, false, false, false, false, false, false, false, false, false, false, false, false] (by kernel_rfl) rfl rfl ⟨za5_0, za5_1, za5_2, zb5_0, zb5_1, zb5_2, zc5_0, zc5_1, zc5_2⟩ (fun hHeld => ?_)
    refine take_ (i := 0) (N := some 9) (v := ?_) (a' := ?_) #[true, false, false, false, false, false, false, false, false, false, false, false, false, false, false, false, false, false, false, false, false, false, false, false, false, false, false, false, false, false, false, false, false] rfl rfl (by kernel_rfl) (fun _ _ _ h => h) (Or.inl ⟨by rfl, ?_⟩) hHeld ?_ ?_
    rotate_left
    · rintro w' ⟨s0, s1, s2, s3, s4, s5, s6, s7, s8⟩
      go_simp
      with_reducible rfl
    rotate_left
    · simp only [Act.put, List.setIfInBounds_toArray, List.set_cons_zero, List.set_cons_succ, i64_w, i32_w]
      rfl
    refine take_ (i := 1) (N := some 10) (v := ?_) (a' := ?_) #[true, true, false, false, false, false, false, false, false, false, false, false, false, false, false, false, false, false, false, false, false, false, false, false, false, false, false, false, false, false, false, false, false] rfl rfl (by kernel_rfl) (fun _ _ _ h => h) (Or.inl ⟨by rfl, ?_⟩) hHeld ?_ ?_
    rotate_left
    · rintro w' ⟨s0, s1, s2, s3, s4, s5, s6, s7, s8⟩
      go_simp
      with_reducible rfl
    rotate_left
    · simp only [Act.put, List.setIfInBounds_toArray, List.set_cons_zero, List.set_cons_succ, i64_w, i32_w]
      rfl
    refine take_ (i := 3) (N := some 12) (v := ?_) (a' := ?_) #[true, true, false, true, false, false, false, false, false, false, false, false, false, false, false, false, false, false, false, false, false, false, false, false, false, false, false, false, false, false, false, false, false] rfl rfl (by kernel_rfl) (fun _ _ _ h => h) (Or.inl ⟨by rfl, ?_⟩) hHeld ?_ ?_
    rotate_left
    · rintro w' ⟨s0, s1, s2, s3, s4, s5, s6, s7, s8⟩
      go_simp
      with_reducible rfl
    rotate_left
    · simp only [Act.put, List.setIfInBounds_toArray, List.set_cons_zero, List.set_cons_succ, i64_w, i32_w]
      rfl
    refine take_ (i := 4) (N := some 13) (v := ?_) (a' := ?_) #[true, true, false, true, true, false, false, false, false, false, false, false, false, false, false, false, false, false, false, false, false, false, false, false, false, false, false, false, false, false, false, false, false] rfl rfl (by kernel_rfl) (fun _ _ _ h => h) (Or.inl ⟨by rfl, ?_⟩) hHeld ?_ ?_
    rotate_left
    · rintro w' ⟨s0, s1, s2, s3, s4, s5, s6, s7, s8⟩
      go_simp
      with_reducible rfl
    rotate_left
    · simp only [Act.put, List.setIfInBounds_toArray, List.set_cons_zero, List.set_cons_succ, i64_w, i32_w]
      rfl
    refine one_ (i := 2) (N := some 11) #[true, true, true, true, true, false, false, false, false, false, false, false, false, false, false, false, false, false, false, false, false, false, false, false, false, false, false, false, false, false, false, false, false] rfl rfl (by kernel_rfl) (by decide) (fun K hK => ?_)
    refine goes_ Try.func31 (by kernel_rfl) rfl #[.agg #[.int .i64 a.1, .int .i64 a.2.1, .int .i64 a.2.2], .agg #[.int .i64 b.1, .int .i64 b.2.1, .int .i64 b.2.2]] (by rfl) rfl rfl (by simp only [List.map_toArray, List.map_cons, List.map_nil]; rfl) ?_
    with_reducible refine (less_v false _ _ _ H1.out).mono ?_
    rintro e v2 ⟨rfl, hb2⟩
    refine ⟨_, rfl, ?_⟩
    have HK2 := Aside0.mk (below_step (below_drew (Below.refl _ w3)) hb2)
    clear hb2
    refine hK.out _ _ ⟨pw_cell_below HK2.out za5_0, pw_cell_below HK2.out za5_1, pw_cell_below HK2.out za5_2, pw_cell_below HK2.out zb5_0, pw_cell_below HK2.out zb5_1, pw_cell_below HK2.out zb5_2, pw_cell_below HK2.out zc5_0, pw_cell_below HK2.out zc5_1, pw_cell_below HK2.out zc5_2⟩ (fun hHeld => ?_)
    clear hK K
    refine norm_ (a' := ?_) ?_ ?_
    rotate_left
    · show Act.put _ (some 11) _ = _
      simp only [Act.put, List.setIfInBounds_toArray, List.set_cons_zero, List.set_cons_succ, i64_w, i32_w]
      rfl
    refine one_ (i := 5) (N := some 14) #[true, true, true, true, true, true, false, false, false, false, false, false, false, false, false, false, false, false, false, false, false, false, false, false, false, false, false, false, false, false, false, false, false] rfl rfl (by kernel_rfl) (by decide) (fun K hK => ?_)
    refine goes_ Try.func21 (by kernel_rfl) rfl #[.agg #[.int .i64 a.1, .int .i64 a.2.1, .int .i64 a.2.2], .agg #[.int .i64 b.1, .int .i64 b.2.1, .int .i64 b.2.2]] (by rfl) rfl rfl (by simp only [List.map_toArray, List.map_cons, List.map_nil]; rfl) ?_
    with_reducible refine (refless_v false _ _ _ H1.out).mono ?_
    rintro e v5 ⟨rfl, hb5⟩
    refine ⟨_, rfl, ?_⟩
    have HK5 := Aside0.mk (below_step HK2.out hb5)
    clear hb5
    refine hK.out _ _ ⟨pw_cell_below HK5.out za5_0, pw_cell_below HK5.out za5_1, pw_cell_below HK5.out za5_2, pw_cell_below HK5.out zb5_0, pw_cell_below HK5.out zb5_1, pw_cell_below HK5.out zb5_2, pw_cell_below HK5.out zc5_0, pw_cell_below HK5.out zc5_1, pw_cell_below HK5.out zc5_2⟩ (fun hHeld => ?_)
    clear hK K
    refine norm_ (a' := ?_) ?_ ?_
    rotate_left
    · show Act.put _ (some 14) _ = _
      simp only [Act.put, List.setIfInBounds_toArray, List.set_cons_zero, List.set_cons_succ, i64_w, i32_w]
      rfl
    refine pure_ (i := 6) (N := some 15) (v := ?_) (a' := ?_) #[true, true, true, true, true, true, true, false, false, false, false, false, false, false, false, false, false, false, false, false, false, false, false, false, false, false, false, false, false, false, false, false, false] rfl rfl (by kernel_rfl) (fun _ _ _ h => h) (Or.inl ⟨by rfl, ?_⟩) ?_ ?_
    rotate_left
    · intro w'
      go_simp
      with_reducible rfl
    rotate_left
    · simp only [Act.put, List.setIfInBounds_toArray, List.set_cons_zero, List.set_cons_succ, i64_w, i32_w]
      rfl
    refine pure_ (i := 7) (N := some 16) (v := ?_) (a' := ?_) #[true, true, true, true, true, true, true, true, false, false, false, false, false, false, false, false, false, false, false, false, false, false, false, false, false, false, false, false, false, false, false, false, false] rfl rfl (by kernel_rfl) (fun _ _ _ h => h) (Or.inl ⟨by rfl, ?_⟩) ?_ ?_
    rotate_left
    · intro w'
      go_simp
      with_reducible rfl
    rotate_left
    · simp only [Act.put, List.setIfInBounds_toArray, List.set_cons_zero, List.set_cons_succ, i64_w, i32_w]
      rfl
    refine take_ (i := 8) (N := some 17) (v := ?_) (a' := ?_) #[true, true, true, true, true, true, true, true, true, false, false, false, false, false, false, false, false, false, false, false, false, false, false, false, false, false, false, false, false, false, false, false, false] rfl rfl (by kernel_rfl) (fun _ _ _ h => h) (Or.inl ⟨by rfl, ?_⟩) hHeld ?_ ?_
    rotate_left
    · rintro w' ⟨s0, s1, s2, s3, s4, s5, s6, s7, s8⟩
      go_simp
      with_reducible rfl
    rotate_left
    · simp only [Act.put, List.setIfInBounds_toArray, List.set_cons_zero, List.set_cons_succ, i64_w, i32_w]
      rfl
    refine take_ (i := 9) (N := some 18) (v := ?_) (a' := ?_) #[true, true, true, true, true, true, true, true, true, true, false, false, false, false, false, false, false, false, false, false, false, false, false, false, false, false, false, false, false, false, false, false, false] rfl rfl (by kernel_rfl) (fun _ _ _ h => h) (Or.inl ⟨by rfl, ?_⟩) hHeld ?_ ?_
    rotate_left
    · rintro w' ⟨s0, s1, s2, s3, s4, s5, s6, s7, s8⟩
      go_simp
      with_reducible rfl
    rotate_left
    · simp only [Act.put, List.setIfInBounds_toArray, List.set_cons_zero, List.set_cons_succ, i64_w, i32_w]
      rfl
    refine one_ (i := 10) (N := some 19) #[true, true, true, true, true, true, true, true, true, true, true, false, false, false, false, false, false, false, false, false, false, false, false, false, false, false, false, false, false, false, false, false, false] rfl rfl (by kernel_rfl) (by decide) (fun K hK => ?_)
    refine goes_ Try.func31 (by kernel_rfl) rfl #[.agg #[.int .i64 a.1, .int .i64 a.2.1, .int .i64 a.2.2], .agg #[.int .i64 b.1, .int .i64 b.2.1, .int .i64 b.2.2]] (by rfl) rfl rfl (by simp only [List.map_toArray, List.map_cons, List.map_nil]; rfl) ?_
    with_reducible refine (less_v false _ _ _ H1.out).mono ?_
    rintro e v10 ⟨rfl, hb10⟩
    refine ⟨_, rfl, ?_⟩
    have HK10 := Aside0.mk (below_step HK5.out hb10)
    clear hb10
    refine hK.out _ _ ⟨pw_cell_below HK10.out za5_0, pw_cell_below HK10.out za5_1, pw_cell_below HK10.out za5_2, pw_cell_below HK10.out zb5_0, pw_cell_below HK10.out zb5_1, pw_cell_below HK10.out zb5_2, pw_cell_below HK10.out zc5_0, pw_cell_below HK10.out zc5_1, pw_cell_below HK10.out zc5_2⟩ (fun hHeld => ?_)
    clear hK K
    refine norm_ (a' := ?_) ?_ ?_
    rotate_left
    · show Act.put _ (some 19) _ = _
      simp only [Act.put, List.setIfInBounds_toArray, List.set_cons_zero, List.set_cons_succ, i64_w, i32_w]
      rfl
    refine pure_ (i := 11) (N := some 20) (v := ?_) (a' := ?_) #[true, true, true, true, true, true, true, true, true, true, true, true, false, false, false, false, false, false, false, false, false, false, false, false, false, false, false, false, false, false, false, false, false] rfl rfl (by kernel_rfl) (fun _ _ _ h => h) (Or.inl ⟨by rfl, ?_⟩) ?_ ?_
    rotate_left
    · intro w'
      go_simp
      with_reducible rfl
    rotate_left
    · simp only [Act.put, List.setIfInBounds_toArray, List.set_cons_zero, List.set_cons_succ, i64_w, i32_w]
      rfl
    refine pure_ (i := 12) (N := some 21) (v := undef) (a' := ?_) #[true, true, true, true, true, true, true, true, true, true, true, true, true, false, false, false, false, false, false, false, false, false, false, false, false, false, false, false, false, false, false, false, false] rfl rfl (by kernel_rfl) (fun _ _ _ h => h) (Or.inr ⟨by rfl, rfl⟩) ?_ ?_
    rotate_left
    · simp only [Act.put, List.setIfInBounds_toArray, List.set_cons_zero, List.set_cons_succ, i64_w, i32_w]
      rfl
    refine pure_ (i := 13) (N := some 22) (v := undef) (a' := ?_) #[true, true, true, true, true, true, true, true, true, true, true, true, true, true, false, false, false, false, false, false, false, false, false, false, false, false, false, false, false, false, false, false, false] rfl rfl (by kernel_rfl) (fun _ _ _ h => h) (Or.inr ⟨by rfl, rfl⟩) ?_ ?_
    rotate_left
    · simp only [Act.put, List.setIfInBounds_toArray, List.set_cons_zero, List.set_cons_succ, i64_w, i32_w]
      rfl
    refine pure_ (i := 14) (N := some 23) (v := undef) (a' := ?_) #[true, true, true, true, true, true, true, true, true, true, true, true, true, true, true, false, false, false, false, false, false, false, false, false, false, false, false, false, false, false, false, false, false] rfl rfl (by kernel_rfl) (fun _ _ _ h => h) (Or.inr ⟨by rfl, rfl⟩) ?_ ?_
    rotate_left
    · simp only [Act.put, List.setIfInBounds_toArray, List.set_cons_zero, List.set_cons_succ, i64_w, i32_w]
      rfl
    refine pure_ (i := 15) (N := some 24) (v := ?_) (a' := ?_) #[true, true, true, true, true, true, true, true, true, true, true, true, true, true, true, true, false, false, false, false, false, false, false, false, false, false, false, false, false, false, false, false, false] rfl rfl (by kernel_rfl) (fun _ _ _ h => h) (Or.inl ⟨by rfl, ?_⟩) ?_ ?_
    rotate_left
    · intro w'
      go_simp
      with_reducible rfl
    rotate_left
    · simp only [Act.put, List.setIfInBounds_toArray, List.set_cons_zero, List.set_cons_succ, i64_w, i32_w]
      rfl
    refine pure_ (i := 16) (N := some 25) (v := ?_) (a' := ?_) #[true, true, true, true, true, true, true, true, true, true, true, true, true, true, true, true, true, false, false, false, false, false, false, false, false, false, false, false, false, false, false, false, false] rfl rfl (by kernel_rfl) (fun _ _ _ h => h) (Or.inl ⟨by rfl, ?_⟩) ?_ ?_
    rotate_left
    · intro w'
      go_simp
      with_reducible rfl
    rotate_left
    · simp only [Act.put, List.setIfInBounds_toArray, List.set_cons_zero, List.set_cons_succ, i64_w, i32_w]
      rfl
    refine pure_ (i := 17) (N := some 26) (v := ?_) (a' := ?_) #[true, true, true, true, true, true, true, true, true, true, true, true, true, true, true, true, true, true, false, false, false, false, false, false, false, false, false, false, false, false, false, false, false] rfl rfl (by kernel_rfl) (fun _ _ _ h => h) (Or.inl ⟨by rfl, ?_⟩) ?_ ?_
    rotate_left
    · intro w'
      go_simp
      with_reducible rfl
    rotate_left
    · simp only [Act.put, List.setIfInBounds_toArray, List.set_cons_zero, List.set_cons_succ, i64_w, i32_w]
      rfl
    refine take_ (i := 18) (N := some 27) (v := ?_) (a' := ?_) #[true, true, true, true, true, true, true, true, true, true, true, true, true, true, true, true, true, true, true, false, false, false, false, false, false, false, false, false, false, false, false, false, false] rfl rfl (by kernel_rfl) (fun _ _ _ h => h) (Or.inl ⟨by rfl, ?_⟩) hHeld ?_ ?_
    rotate_left
    · rintro w' ⟨s0, s1, s2, s3, s4, s5, s6, s7, s8⟩
      go_simp
      with_reducible rfl
    rotate_left
    · simp only [Act.put, List.setIfInBounds_toArray, List.set_cons_zero, List.set_cons_succ, i64_w, i32_w]
      rfl
    refine take_ (i := 19) (N := some 28) (v := ?_) (a' := ?_) #[true, true, true, true, true, true, true, true, true, true, true, true, true, true, true, true, true, true, true, true, false, false, false, false, false, false, false, false, false, false, false, false, false] rfl rfl (by kernel_rfl) (fun _ _ _ h => h) (Or.inl ⟨by rfl, ?_⟩) hHeld ?_ ?_
    rotate_left
    · rintro w' ⟨s0, s1, s2, s3, s4, s5, s6, s7, s8⟩
      go_simp
      with_reducible rfl
    rotate_left
    · simp only [Act.put, List.setIfInBounds_toArray, List.set_cons_zero, List.set_cons_succ, i64_w, i32_w]
      rfl
    refine pure_ (i := 20) (N := some 29) (v := ?_) (a' := ?_) #[true, true, true, true, true, true, true, true, true, true, true, true, true, true, true, true, true, true, true, true, true, false, false, false, false, false, false, false, false, false, false, false, false] rfl rfl (by kernel_rfl) (fun _ _ _ h => h) (Or.inl ⟨by rfl, ?_⟩) ?_ ?_
    rotate_left
    · intro w'
      go_simp
      with_reducible rfl
    rotate_left
    · simp only [Act.put, List.setIfInBounds_toArray, List.set_cons_zero, List.set_cons_succ, i64_w, i32_w]
      rfl
    refine take_ (i := 21) (N := some 30) (v := ?_) (a' := ?_) #[true, true, true, true, true, true, true, true, true, true, true, true, true, true, true, true, true, true, true, true, true, true, false, false, false, false, false, false, false, false, false, false, false] rfl rfl (by kernel_rfl) (fun _ _ _ h => h) (Or.inl ⟨by rfl, ?_⟩) hHeld ?_ ?_
    rotate_left
    · rintro w' ⟨s0, s1, s2, s3, s4, s5, s6, s7, s8⟩
      go_simp
      with_reducible rfl
    rotate_left
    · simp only [Act.put, List.setIfInBounds_toArray, List.set_cons_zero, List.set_cons_succ, i64_w, i32_w]
      rfl
    refine take_ (i := 22) (N := some 31) (v := ?_) (a' := ?_) #[true, true, true, true, true, true, true, true, true, true, true, true, true, true, true, true, true, true, true, true, true, true, true, false, false, false, false, false, false, false, false, false, false] rfl rfl (by kernel_rfl) (fun _ _ _ h => h) (Or.inl ⟨by rfl, ?_⟩) hHeld ?_ ?_
    rotate_left
    · rintro w' ⟨s0, s1, s2, s3, s4, s5, s6, s7, s8⟩
      go_simp
      with_reducible rfl
    rotate_left
    · simp only [Act.put, List.setIfInBounds_toArray, List.set_cons_zero, List.set_cons_succ, i64_w, i32_w]
      rfl
    refine one_ (i := 23) (N := some 32) #[true, true, true, true, true, true, true, true, true, true, true, true, true, true, true, true, true, true, true, true, true, true, true, true, false, false, false, false, false, false, false, false, false] rfl rfl (by kernel_rfl) (by decide) (fun K hK => ?_)
    refine goes_ Try.func31 (by kernel_rfl) rfl #[.agg #[.int .i64 a.1, .int .i64 a.2.1, .int .i64 a.2.2], .agg #[.int .i64 b.1, .int .i64 b.2.1, .int .i64 b.2.2]] (by rfl) rfl rfl (by simp only [List.map_toArray, List.map_cons, List.map_nil]; rfl) ?_
    with_reducible refine (less_v false _ _ _ H1.out).mono ?_
    rintro e v23 ⟨rfl, hb23⟩
    refine ⟨_, rfl, ?_⟩
    have HK23 := Aside0.mk (below_step HK10.out hb23)
    clear hb23
    refine hK.out _ _ ⟨pw_cell_below HK23.out za5_0, pw_cell_below HK23.out za5_1, pw_cell_below HK23.out za5_2, pw_cell_below HK23.out zb5_0, pw_cell_below HK23.out zb5_1, pw_cell_below HK23.out zb5_2, pw_cell_below HK23.out zc5_0, pw_cell_below HK23.out zc5_1, pw_cell_below HK23.out zc5_2⟩ (fun hHeld => ?_)
    clear hK K
    refine norm_ (a' := ?_) ?_ ?_
    rotate_left
    · show Act.put _ (some 32) _ = _
      simp only [Act.put, List.setIfInBounds_toArray, List.set_cons_zero, List.set_cons_succ, i64_w, i32_w]
      rfl
    refine pure_ (i := 24) (N := some 33) (v := ?_) (a' := ?_) #[true, true, true, true, true, true, true, true, true, true, true, true, true, true, true, true, true, true, true, true, true, true, true, true, true, false, false, false, false, false, false, false, false] rfl rfl (by kernel_rfl) (fun _ _ _ h => h) (Or.inl ⟨by rfl, ?_⟩) ?_ ?_
    rotate_left
    · intro w'
      go_simp
      with_reducible rfl
    rotate_left
    · simp only [Act.put, List.setIfInBounds_toArray, List.set_cons_zero, List.set_cons_succ, i64_w, i32_w]
      rfl
    refine pure_ (i := 25) (N := some 34) (v := ?_) (a' := ?_) #[true, true, true, true, true, true, true, true, true, true, true, true, true, true, true, true, true, true, true, true, true, true, true, true, true, true, false, false, false, false, false, false, false] rfl rfl (by kernel_rfl) (fun _ _ _ h => h) (Or.inl ⟨by rfl, ?_⟩) ?_ ?_
    rotate_left
    · intro w'
      go_simp
      with_reducible rfl
    rotate_left
    · simp only [Act.put, List.setIfInBounds_toArray, List.set_cons_zero, List.set_cons_succ, i64_w, i32_w]
      rfl
    refine take_ (i := 26) (N := some 35) (v := ?_) (a' := ?_) #[true, true, true, true, true, true, true, true, true, true, true, true, true, true, true, true, true, true, true, true, true, true, true, true, true, true, true, false, false, false, false, false, false] rfl rfl (by kernel_rfl) (fun _ _ _ h => h) (Or.inl ⟨by rfl, ?_⟩) hHeld ?_ ?_
    rotate_left
    · rintro w' ⟨s0, s1, s2, s3, s4, s5, s6, s7, s8⟩
      go_simp
      with_reducible rfl
    rotate_left
    · simp only [Act.put, List.setIfInBounds_toArray, List.set_cons_zero, List.set_cons_succ, i64_w, i32_w]
      rfl
    refine take_ (i := 27) (N := some 36) (v := ?_) (a' := ?_) #[true, true, true, true, true, true, true, true, true, true, true, true, true, true, true, true, true, true, true, true, true, true, true, true, true, true, true, true, false, false, false, false, false] rfl rfl (by kernel_rfl) (fun _ _ _ h => h) (Or.inl ⟨by rfl, ?_⟩) hHeld ?_ ?_
    rotate_left
    · rintro w' ⟨s0, s1, s2, s3, s4, s5, s6, s7, s8⟩
      go_simp
      with_reducible rfl
    rotate_left
    · simp only [Act.put, List.setIfInBounds_toArray, List.set_cons_zero, List.set_cons_succ, i64_w, i32_w]
      rfl
    refine one_ (i := 28) (N := some 37) #[true, true, true, true, true, true, true, true, true, true, true, true, true, true, true, true, true, true, true, true, true, true, true, true, true, true, true, true, true, false, false, false, false] rfl rfl (by kernel_rfl) (by decide) (fun K hK => ?_)
    refine goes_ Try.func31 (by kernel_rfl) rfl #[.agg #[.int .i64 b.1, .int .i64 b.2.1, .int .i64 b.2.2], .agg #[.int .i64 a.1, .int .i64 a.2.1, .int .i64 a.2.2]] (by rfl) rfl rfl (by simp only [List.map_toArray, List.map_cons, List.map_nil]; rfl) ?_
    with_reducible refine (less_v true _ _ _ H2.out).mono ?_
    rintro e v28 ⟨rfl, hb28⟩
    refine ⟨_, rfl, ?_⟩
    have HK28 := Aside0.mk (below_step HK23.out hb28)
    clear hb28
    refine hK.out _ _ ⟨pw_cell_below HK28.out za5_0, pw_cell_below HK28.out za5_1, pw_cell_below HK28.out za5_2, pw_cell_below HK28.out zb5_0, pw_cell_below HK28.out zb5_1, pw_cell_below HK28.out zb5_2, pw_cell_below HK28.out zc5_0, pw_cell_below HK28.out zc5_1, pw_cell_below HK28.out zc5_2⟩ (fun hHeld => ?_)
    clear hK K
    refine norm_ (a' := ?_) ?_ ?_
    rotate_left
    · show Act.put _ (some 37) _ = _
      simp only [Act.put, List.setIfInBounds_toArray, List.set_cons_zero, List.set_cons_succ, i64_w, i32_w]
      rfl
    refine pure_ (i := 29) (N := some 38) (v := ?_) (a' := ?_) #[true, true, true, true, true, true, true, true, true, true, true, true, true, true, true, true, true, true, true, true, true, true, true, true, true, true, true, true, true, true, false, false, false] rfl rfl (by kernel_rfl) (fun _ _ _ h => h) (Or.inl ⟨by rfl, ?_⟩) ?_ ?_
    rotate_left
    · intro w'
      go_simp
      with_reducible rfl
    rotate_left
    · simp only [Act.put, List.setIfInBounds_toArray, List.set_cons_zero, List.set_cons_succ, i64_w, i32_w]
      rfl
    refine pure_ (i := 30) (N := some 39) (v := ?_) (a' := ?_) #[true, true, true, true, true, true, true, true, true, true, true, true, true, true, true, true, true, true, true, true, true, true, true, true, true, true, true, true, true, true, true, false, false] rfl rfl (by kernel_rfl) (fun _ _ _ h => h) (Or.inl ⟨by rfl, ?_⟩) ?_ ?_
    rotate_left
    · intro w'
      go_simp
      with_reducible rfl
    rotate_left
    · simp only [Act.put, List.setIfInBounds_toArray, List.set_cons_zero, List.set_cons_succ, i64_w, i32_w]
      rfl
    refine pure_ (i := 31) (N := some 40) (v := ?_) (a' := ?_) #[true, true, true, true, true, true, true, true, true, true, true, true, true, true, true, true, true, true, true, true, true, true, true, true, true, true, true, true, true, true, true, true, false] rfl rfl (by kernel_rfl) (fun _ _ _ h => h) (Or.inl ⟨by rfl, ?_⟩) ?_ ?_
    rotate_left
    · intro w'
      go_simp
      with_reducible rfl
    rotate_left
    · simp only [Act.put, List.setIfInBounds_toArray, List.set_cons_zero, List.set_cons_succ, i64_w, i32_w]
      rfl
    refine pure_ (i := 32) (N := some 41) (v := ?_) (a' := ?_) #[true, true, true, true, true, true, true, true, true, true, true, true, true, true, true, true, true, true, true, true, true, true, true, true, true, true, true, true, true, true, true, true, true] rfl rfl (by kernel_rfl) (fun _ _ _ h => h) (Or.inl ⟨by rfl, ?_⟩) ?_ ?_
    rotate_left
    · intro w'
      go_simp
      with_reducible rfl
    rotate_left
    · simp only [Act.put, List.setIfInBounds_toArray, List.set_cons_zero, List.set_cons_succ, i64_w, i32_w]
      rfl
    refine done_ (by kernel_rfl) ?_
    have hb0 := HK28.out
    clear za5_0 za5_1 za5_2 zb5_0 zb5_1 zb5_2 zc5_0 zc5_1 zc5_2
    have HB6 := Aside0.mk (below_step HB4.out hb0)
    have Ba6 : Aside0 (v28.heap[ga1]? = some (.cells #[.int .i64 a.1, .int .i64 a.2.1, .int .i64 a.2.2] 23 (0, 0))) := ⟨(hb0.block _ (blk_lt Ba4.out)).trans Ba4.out⟩
    have Bb6 : Aside0 (v28.heap[gb1]? = some (.cells #[.int .i64 b.1, .int .i64 b.2.1, .int .i64 b.2.2] 23 (0, 0))) := ⟨(hb0.block _ (blk_lt Bb4.out)).trans Bb4.out⟩
    have Bc6 : Aside0 (v28.heap[gc1]? = some (.cells #[.int .i64 c.1, .int .i64 c.2.1, .int .i64 c.2.2] 23 (0, 0))) := ⟨(hb0.block _ (blk_lt Bc4.out)).trans Bc4.out⟩
    clear hb0
    have za7_0 : v28.cell? ⟨ga1, 0, none⟩ = some (.int .i64 a.1) := (blk_cell Ba6.out 0).trans rfl
    have za7_1 : v28.cell? ⟨ga1, 1, none⟩ = some (.int .i64 a.2.1) := (blk_cell Ba6.out 1).trans rfl
    have za7_2 : v28.cell? ⟨ga1, 2, none⟩ = some (.int .i64 a.2.2) := (blk_cell Ba6.out 2).trans rfl
    have zb7_0 : v28.cell? ⟨gb1, 0, none⟩ = some (.int .i64 b.1) := (blk_cell Bb6.out 0).trans rfl
    have zb7_1 : v28.cell? ⟨gb1, 1, none⟩ = some (.int .i64 b.2.1) := (blk_cell Bb6.out 1).trans rfl
    have zb7_2 : v28.cell? ⟨gb1, 2, none⟩ = some (.int .i64 b.2.2) := (blk_cell Bb6.out 2).trans rfl
    have zc7_0 : v28.cell? ⟨gc1, 0, none⟩ = some (.int .i64 c.1) := (blk_cell Bc6.out 0).trans rfl
    have zc7_1 : v28.cell? ⟨gc1, 1, none⟩ = some (.int .i64 c.2.1) := (blk_cell Bc6.out 1).trans rfl
    have zc7_2 : v28.cell? ⟨gc1, 2, none⟩ = some (.int .i64 c.2.2) := (blk_cell Bc6.out 2).trans rfl
    go_wp2_with fail
    refine (less_v false _ _ _ H1.out).mono ?_
    rintro e w8 ⟨rfl, hb8⟩
    clear za7_0 za7_1 za7_2 zb7_0 zb7_1 zb7_2 zc7_0 zc7_1 zc7_2
    have HB9 := Aside0.mk (below_step HB6.out hb8)
    have Ba9 : Aside0 (w8.heap[ga1]? = some (.cells #[.int .i64 a.1, .int .i64 a.2.1, .int .i64 a.2.2] 23 (0, 0))) := ⟨(hb8.block _ (blk_lt Ba6.out)).trans Ba6.out⟩
    have Bb9 : Aside0 (w8.heap[gb1]? = some (.cells #[.int .i64 b.1, .int .i64 b.2.1, .int .i64 b.2.2] 23 (0, 0))) := ⟨(hb8.block _ (blk_lt Bb6.out)).trans Bb6.out⟩
    have Bc9 : Aside0 (w8.heap[gc1]? = some (.cells #[.int .i64 c.1, .int .i64 c.2.1, .int .i64 c.2.2] 23 (0, 0))) := ⟨(hb8.block _ (blk_lt Bc6.out)).trans Bc6.out⟩
    clear hb8
    have za10_0 : w8.cell? ⟨ga1, 0, none⟩ = some (.int .i64 a.1) := (blk_cell Ba9.out 0).trans rfl
    have za10_1 : w8.cell? ⟨ga1, 1, none⟩ = some (.int .i64 a.2.1) := (blk_cell Ba9.out 1).trans rfl
    have za10_2 : w8.cell? ⟨ga1, 2, none⟩ = some (.int .i64 a.2.2) := (blk_cell Ba9.out 2).trans rfl
    have zb10_0 : w8.cell? ⟨gb1, 0, none⟩ = some (.int .i64 b.1) := (blk_cell Bb9.out 0).trans rfl
    have zb10_1 : w8.cell? ⟨gb1, 1, none⟩ = some (.int .i64 b.2.1) := (blk_cell Bb9.out 1).trans rfl
    have zb10_2 : w8.cell? ⟨gb1, 2, none⟩ = some (.int .i64 b.2.2) := (blk_cell Bb9.out 2).trans rfl
    have zc10_0 : w8.cell? ⟨gc1, 0, none⟩ = some (.int .i64 c.1) := (blk_cell Bc9.out 0).trans rfl
    have zc10_1 : w8.cell? ⟨gc1, 1, none⟩ = some (.int .i64 c.2.1) := (blk_cell Bc9.out 1).trans rfl
    have zc10_2 : w8.cell? ⟨gc1, 2, none⟩ = some (.int .i64 c.2.2) := (blk_cell Bc9.out 2).trans rfl
    go_wp2_with fail
    go_ret
    exact ⟨rfl, HB9.out⟩
  · have H1 := Aside0.mk h1
    have H2 := Aside0.mk h2
    have H3 := Aside0.mk h3
    clear h1 h2 h3
    have hEq : eqB a b = true := decide_eq_true H3.out
    have hEqv := eqBal a b
    rw [show decide (a = b) = true from hEq] at hEqv
    clear hEq
    refine start_ (n := 33) (S := fun w' => w'.cell? ⟨ga1, 0, none⟩ = some (.int .i64 a.1) ∧ w'.cell? ⟨ga1, 1, none⟩ = some (.int .i64 a.2.1) ∧ w'.cell? ⟨ga1, 2, none⟩ = some (.int .i64 a.2.2) ∧ w'.cell? ⟨gb1, 0, none⟩ = some (.int .i64 b.1) ∧ w'.cell? ⟨gb1, 1, none⟩ = some (.int .i64 b.2.1) ∧ w'.cell? ⟨gb1, 2, none⟩ = some (.int .i64 b.2.2) ∧ w'.cell? ⟨gc1, 0, none⟩ = some (.int .i64 c.1) ∧ w'.cell? ⟨gc1, 1, none⟩ = some (.int .i64 c.2.1) ∧ w'.cell? ⟨gc1, 2, none⟩ = some (.int .i64 c.2.2)) (ds := []) #[false, false, false, false, false, false, false, false, false, false, false, false, false, false, false, false, false, false, false, false, false, false, false, false, false, false, false, false, false, false, false, false, false] (by kernel_rfl) rfl rfl ⟨za5_0, za5_1, za5_2, zb5_0, zb5_1, zb5_2, zc5_0, zc5_1, zc5_2⟩ (fun hHeld => ?_)
    refine take_ (i := 0) (N := some 9) (v := ?_) (a' := ?_) #[true, false, false, false, false, false, false, false, false, false, false, false, false, false, false, false, false, false, false, false, false, false, false, false, false, false, false, false, false, false, false, false, false] rfl rfl (by kernel_rfl) (fun _ _ _ h => h) (Or.inl ⟨by rfl, ?_⟩) hHeld ?_ ?_
    rotate_left
    · rintro w' ⟨s0, s1, s2, s3, s4, s5, s6, s7, s8⟩
      go_simp
      with_reducible rfl
    rotate_left
    · simp only [Act.put, List.setIfInBounds_toArray, List.set_cons_zero, List.set_cons_succ, i64_w, i32_w]
      rfl
    refine take_ (i := 1) (N := some 10) (v := ?_) (a' := ?_) #[true, true, false, false, false, false, false, false, false, false, false, false, false, false, false, false, false, false, false, false, false, false, false, false, false, false, false, false, false, false, false, false, false] rfl rfl (by kernel_rfl) (fun _ _ _ h => h) (Or.inl ⟨by rfl, ?_⟩) hHeld ?_ ?_
    rotate_left
    · rintro w' ⟨s0, s1, s2, s3, s4, s5, s6, s7, s8⟩
      go_simp
      with_reducible rfl
    rotate_left
    · simp only [Act.put, List.setIfInBounds_toArray, List.set_cons_zero, List.set_cons_succ, i64_w, i32_w]
      rfl
    refine take_ (i := 3) (N := some 12) (v := ?_) (a' := ?_) #[true, true, false, true, false, false, false, false, false, false, false, false, false, false, false, false, false, false, false, false, false, false, false, false, false, false, false, false, false, false, false, false, false] rfl rfl (by kernel_rfl) (fun _ _ _ h => h) (Or.inl ⟨by rfl, ?_⟩) hHeld ?_ ?_
    rotate_left
    · rintro w' ⟨s0, s1, s2, s3, s4, s5, s6, s7, s8⟩
      go_simp
      with_reducible rfl
    rotate_left
    · simp only [Act.put, List.setIfInBounds_toArray, List.set_cons_zero, List.set_cons_succ, i64_w, i32_w]
      rfl
    refine take_ (i := 4) (N := some 13) (v := ?_) (a' := ?_) #[true, true, false, true, true, false, false, false, false, false, false, false, false, false, false, false, false, false, false, false, false, false, false, false, false, false, false, false, false, false, false, false, false] rfl rfl (by kernel_rfl) (fun _ _ _ h => h) (Or.inl ⟨by rfl, ?_⟩) hHeld ?_ ?_
    rotate_left
    · rintro w' ⟨s0, s1, s2, s3, s4, s5, s6, s7, s8⟩
      go_simp
      with_reducible rfl
    rotate_left
    · simp only [Act.put, List.setIfInBounds_toArray, List.set_cons_zero, List.set_cons_succ, i64_w, i32_w]
      rfl
    refine one_ (i := 2) (N := some 11) #[true, true, true, true, true, false, false, false, false, false, false, false, false, false, false, false, false, false, false, false, false, false, false, false, false, false, false, false, false, false, false, false, false] rfl rfl (by kernel_rfl) (by decide) (fun K hK => ?_)
    refine goes_ Try.func31 (by kernel_rfl) rfl #[.agg #[.int .i64 a.1, .int .i64 a.2.1, .int .i64 a.2.2], .agg #[.int .i64 b.1, .int .i64 b.2.1, .int .i64 b.2.2]] (by rfl) rfl rfl (by simp only [List.map_toArray, List.map_cons, List.map_nil]; rfl) ?_
    with_reducible refine (less_v false _ _ _ H1.out).mono ?_
    rintro e v2 ⟨rfl, hb2⟩
    refine ⟨_, rfl, ?_⟩
    have HK2 := Aside0.mk (below_step (below_drew (Below.refl _ w3)) hb2)
    clear hb2
    refine hK.out _ _ ⟨pw_cell_below HK2.out za5_0, pw_cell_below HK2.out za5_1, pw_cell_below HK2.out za5_2, pw_cell_below HK2.out zb5_0, pw_cell_below HK2.out zb5_1, pw_cell_below HK2.out zb5_2, pw_cell_below HK2.out zc5_0, pw_cell_below HK2.out zc5_1, pw_cell_below HK2.out zc5_2⟩ (fun hHeld => ?_)
    clear hK K
    refine norm_ (a' := ?_) ?_ ?_
    rotate_left
    · show Act.put _ (some 11) _ = _
      simp only [Act.put, List.setIfInBounds_toArray, List.set_cons_zero, List.set_cons_succ, i64_w, i32_w]
      rfl
    refine one_ (i := 5) (N := some 14) #[true, true, true, true, true, true, false, false, false, false, false, false, false, false, false, false, false, false, false, false, false, false, false, false, false, false, false, false, false, false, false, false, false] rfl rfl (by kernel_rfl) (by decide) (fun K hK => ?_)
    refine goes_ Try.func21 (by kernel_rfl) rfl #[.agg #[.int .i64 a.1, .int .i64 a.2.1, .int .i64 a.2.2], .agg #[.int .i64 b.1, .int .i64 b.2.1, .int .i64 b.2.2]] (by rfl) rfl rfl (by simp only [List.map_toArray, List.map_cons, List.map_nil]; rfl) ?_
    with_reducible refine (refless_v false _ _ _ H1.out).mono ?_
    rintro e v5 ⟨rfl, hb5⟩
    refine ⟨_, rfl, ?_⟩
    have HK5 := Aside0.mk (below_step HK2.out hb5)
    clear hb5
    refine hK.out _ _ ⟨pw_cell_below HK5.out za5_0, pw_cell_below HK5.out za5_1, pw_cell_below HK5.out za5_2, pw_cell_below HK5.out zb5_0, pw_cell_below HK5.out zb5_1, pw_cell_below HK5.out zb5_2, pw_cell_below HK5.out zc5_0, pw_cell_below HK5.out zc5_1, pw_cell_below HK5.out zc5_2⟩ (fun hHeld => ?_)
    clear hK K
    refine norm_ (a' := ?_) ?_ ?_
    rotate_left
    · show Act.put _ (some 14) _ = _
      simp only [Act.put, List.setIfInBounds_toArray, List.set_cons_zero, List.set_cons_succ, i64_w, i32_w]
      rfl
    refine pure_ (i := 6) (N := some 15) (v := ?_) (a' := ?_) #[true, true, true, true, true, true, true, false, false, false, false, false, false, false, false, false, false, false, false, false, false, false, false, false, false, false, false, false, false, false, false, false, false] rfl rfl (by kernel_rfl) (fun _ _ _ h => h) (Or.inl ⟨by rfl, ?_⟩) ?_ ?_
    rotate_left
    · intro w'
      go_simp
      with_reducible rfl
    rotate_left
    · simp only [Act.put, List.setIfInBounds_toArray, List.set_cons_zero, List.set_cons_succ, i64_w, i32_w]
      rfl
    refine pure_ (i := 7) (N := some 16) (v := ?_) (a' := ?_) #[true, true, true, true, true, true, true, true, false, false, false, false, false, false, false, false, false, false, false, false, false, false, false, false, false, false, false, false, false, false, false, false, false] rfl rfl (by kernel_rfl) (fun _ _ _ h => h) (Or.inl ⟨by rfl, ?_⟩) ?_ ?_
    rotate_left
    · intro w'
      go_simp
      with_reducible rfl
    rotate_left
    · simp only [Act.put, List.setIfInBounds_toArray, List.set_cons_zero, List.set_cons_succ, i64_w, i32_w]
      rfl
    refine take_ (i := 8) (N := some 17) (v := ?_) (a' := ?_) #[true, true, true, true, true, true, true, true, true, false, false, false, false, false, false, false, false, false, false, false, false, false, false, false, false, false, false, false, false, false, false, false, false] rfl rfl (by kernel_rfl) (fun _ _ _ h => h) (Or.inl ⟨by rfl, ?_⟩) hHeld ?_ ?_
    rotate_left
    · rintro w' ⟨s0, s1, s2, s3, s4, s5, s6, s7, s8⟩
      go_simp
      with_reducible rfl
    rotate_left
    · simp only [Act.put, List.setIfInBounds_toArray, List.set_cons_zero, List.set_cons_succ, i64_w, i32_w]
      rfl
    refine take_ (i := 9) (N := some 18) (v := ?_) (a' := ?_) #[true, true, true, true, true, true, true, true, true, true, false, false, false, false, false, false, false, false, false, false, false, false, false, false, false, false, false, false, false, false, false, false, false] rfl rfl (by kernel_rfl) (fun _ _ _ h => h) (Or.inl ⟨by rfl, ?_⟩) hHeld ?_ ?_
    rotate_left
    · rintro w' ⟨s0, s1, s2, s3, s4, s5, s6, s7, s8⟩
      go_simp
      with_reducible rfl
    rotate_left
    · simp only [Act.put, List.setIfInBounds_toArray, List.set_cons_zero, List.set_cons_succ, i64_w, i32_w]
      rfl
    refine one_ (i := 10) (N := some 19) #[true, true, true, true, true, true, true, true, true, true, true, false, false, false, false, false, false, false, false, false, false, false, false, false, false, false, false, false, false, false, false, false, false] rfl rfl (by kernel_rfl) (by decide) (fun K hK => ?_)
    refine goes_ Try.func31 (by kernel_rfl) rfl #[.agg #[.int .i64 a.1, .int .i64 a.2.1, .int .i64 a.2.2], .agg #[.int .i64 b.1, .int .i64 b.2.1, .int .i64 b.2.2]] (by rfl) rfl rfl (by simp only [List.map_toArray, List.map_cons, List.map_nil]; rfl) ?_
    with_reducible refine (less_v false _ _ _ H1.out).mono ?_
    rintro e v10 ⟨rfl, hb10⟩
    refine ⟨_, rfl, ?_⟩
    have HK10 := Aside0.mk (below_step HK5.out hb10)
    clear hb10
    refine hK.out _ _ ⟨pw_cell_below HK10.out za5_0, pw_cell_below HK10.out za5_1, pw_cell_below HK10.out za5_2, pw_cell_below HK10.out zb5_0, pw_cell_below HK10.out zb5_1, pw_cell_below HK10.out zb5_2, pw_cell_below HK10.out zc5_0, pw_cell_below HK10.out zc5_1, pw_cell_below HK10.out zc5_2⟩ (fun hHeld => ?_)
    clear hK K
    refine norm_ (a' := ?_) ?_ ?_
    rotate_left
    · show Act.put _ (some 19) _ = _
      simp only [Act.put, List.setIfInBounds_toArray, List.set_cons_zero, List.set_cons_succ, i64_w, i32_w]
      rfl
    refine pure_ (i := 11) (N := some 20) (v := ?_) (a' := ?_) #[true, true, true, true, true, true, true, true, true, true, true, true, false, false, false, false, false, false, false, false, false, false, false, false, false, false, false, false, false, false, false, false, false] rfl rfl (by kernel_rfl) (fun _ _ _ h => h) (Or.inl ⟨by rfl, ?_⟩) ?_ ?_
    rotate_left
    · intro w'
      go_simp
      with_reducible rfl
    rotate_left
    · simp only [Act.put, List.setIfInBounds_toArray, List.set_cons_zero, List.set_cons_succ, i64_w, i32_w]
      rfl
    refine pure_ (i := 12) (N := some 21) (v := undef) (a' := ?_) #[true, true, true, true, true, true, true, true, true, true, true, true, true, false, false, false, false, false, false, false, false, false, false, false, false, false, false, false, false, false, false, false, false] rfl rfl (by kernel_rfl) (fun _ _ _ h => h) (Or.inr ⟨by rfl, rfl⟩) ?_ ?_
    rotate_left
    · simp only [Act.put, List.setIfInBounds_toArray, List.set_cons_zero, List.set_cons_succ, i64_w, i32_w]
      rfl
    refine pure_ (i := 13) (N := some 22) (v := undef) (a' := ?_) #[true, true, true, true, true, true, true, true, true, true, true, true, true, true, false, false, false, false, false, false, false, false, false, false, false, false, false, false, false, false, false, false, false] rfl rfl (by kernel_rfl) (fun _ _ _ h => h) (Or.inr ⟨by rfl, rfl⟩) ?_ ?_
    rotate_left
    · simp only [Act.put, List.setIfInBounds_toArray, List.set_cons_zero, List.set_cons_succ, i64_w, i32_w]
      rfl
    refine pure_ (i := 14) (N := some 23) (v := undef) (a' := ?_) #[true, true, true, true, true, true, true, true, true, true, true, true, true, true, true, false, false, false, false, false, false, false, false, false, false, false, false, false, false, false, false, false, false] rfl rfl (by kernel_rfl) (fun _ _ _ h => h) (Or.inr ⟨by rfl, rfl⟩) ?_ ?_
    rotate_left
    · simp only [Act.put, List.setIfInBounds_toArray, List.set_cons_zero, List.set_cons_succ, i64_w, i32_w]
      rfl
    refine pure_ (i := 15) (N := some 24) (v := ?_) (a' := ?_) #[true, true, true, true, true, true, true, true, true, true, true, true, true, true, true, true, false, false, false, false, false, false, false, false, false, false, false, false, false, false, false, false, false] rfl rfl (by kernel_rfl) (fun _ _ _ h => h) (Or.inl ⟨by rfl, ?_⟩) ?_ ?_
    rotate_left
    · intro w'
      go_simp
      with_reducible rfl
    rotate_left
    · simp only [Act.put, List.setIfInBounds_toArray, List.set_cons_zero, List.set_cons_succ, i64_w, i32_w]
      rfl
    refine pure_ (i := 16) (N := some 25) (v := ?_) (a' := ?_) #[true, true, true, true, true, true, true, true, true, true, true, true, true, true, true, true, true, false, false, false, false, false, false, false, false, false, false, false, false, false, false, false, false] rfl rfl (by kernel_rfl) (fun _ _ _ h => h) (Or.inl ⟨by rfl, ?_⟩) ?_ ?_
    rotate_left
    · intro w'
      go_simp
      with_reducible rfl
    rotate_left
    · simp only [Act.put, List.setIfInBounds_toArray, List.set_cons_zero, List.set_cons_succ, i64_w, i32_w]
      rfl
    refine pure_ (i := 17) (N := some 26) (v := ?_) (a' := ?_) #[true, true, true, true, true, true, true, true, true, true, true, true, true, true, true, true, true, true, false, false, false, false, false, false, false, false, false, false, false, false, false, false, false] rfl rfl (by kernel_rfl) (fun _ _ _ h => h) (Or.inl ⟨by rfl, ?_⟩) ?_ ?_
    rotate_left
    · intro w'
      go_simp
      with_reducible rfl
    rotate_left
    · simp only [Act.put, List.setIfInBounds_toArray, List.set_cons_zero, List.set_cons_succ, i64_w, i32_w]
      rfl
    refine take_ (i := 18) (N := some 27) (v := ?_) (a' := ?_) #[true, true, true, true, true, true, true, true, true, true, true, true, true, true, true, true, true, true, true, false, false, false, false, false, false, false, false, false, false, false, false, false, false] rfl rfl (by kernel_rfl) (fun _ _ _ h => h) (Or.inl ⟨by rfl, ?_⟩) hHeld ?_ ?_
    rotate_left
    · rintro w' ⟨s0, s1, s2, s3, s4, s5, s6, s7, s8⟩
      go_simp
      with_reducible rfl
    rotate_left
    · simp only [Act.put, List.setIfInBounds_toArray, List.set_cons_zero, List.set_cons_succ, i64_w, i32_w]
      rfl
    refine take_ (i := 19) (N := some 28) (v := ?_) (a' := ?_) #[true, true, true, true, true, true, true, true, true, true, true, true, true, true, true, true, true, true, true, true, false, false, false, false, false, false, false, false, false, false, false, false, false] rfl rfl (by kernel_rfl) (fun _ _ _ h => h) (Or.inl ⟨by rfl, ?_⟩) hHeld ?_ ?_
    rotate_left
    · rintro w' ⟨s0, s1, s2, s3, s4, s5, s6, s7, s8⟩
      go_simp
      with_reducible rfl
    rotate_left
    · simp only [Act.put, List.setIfInBounds_toArray, List.set_cons_zero, List.set_cons_succ, i64_w, i32_w]
      rfl
    refine pure_ (i := 20) (N := some 29) (v := ?_) (a' := ?_) #[true, true, true, true, true, true, true, true, true, true, true, true, true, true, true, true, true, true, true, true, true, false, false, false, false, false, false, false, false, false, false, false, false] rfl rfl (by kernel_rfl) (fun _ _ _ h => h) (Or.inl ⟨by rfl, ?_⟩) ?_ ?_
    rotate_left
    · intro w'
      go_simp
      with_reducible rfl
    rotate_left
    · simp only [Act.put, List.setIfInBounds_toArray, List.set_cons_zero, List.set_cons_succ, i64_w, i32_w]
      rfl
    refine take_ (i := 21) (N := some 30) (v := ?_) (a' := ?_) #[true, true, true, true, true, true, true, true, true, true, true, true, true, true, true, true, true, true, true, true, true, true, false, false, false, false, false, false, false, false, false, false, false] rfl rfl (by kernel_rfl) (fun _ _ _ h => h) (Or.inl ⟨by rfl, ?_⟩) hHeld ?_ ?_
    rotate_left
    · rintro w' ⟨s0, s1, s2, s3, s4, s5, s6, s7, s8⟩
      go_simp
      with_reducible rfl
    rotate_left
    · simp only [Act.put, List.setIfInBounds_toArray, List.set_cons_zero, List.set_cons_succ, i64_w, i32_w]
      rfl
    refine take_ (i := 22) (N := some 31) (v := ?_) (a' := ?_) #[true, true, true, true, true, true, true, true, true, true, true, true, true, true, true, true, true, true, true, true, true, true, true, false, false, false, false, false, false, false, false, false, false] rfl rfl (by kernel_rfl) (fun _ _ _ h => h) (Or.inl ⟨by rfl, ?_⟩) hHeld ?_ ?_
    rotate_left
    · rintro w' ⟨s0, s1, s2, s3, s4, s5, s6, s7, s8⟩
      go_simp
      with_reducible rfl
    rotate_left
    · simp only [Act.put, List.setIfInBounds_toArray, List.set_cons_zero, List.set_cons_succ, i64_w, i32_w]
      rfl
    refine one_ (i := 23) (N := some 32) #[true, true, true, true, true, true, true, true, true, true, true, true, true, true, true, true, true, true, true, true, true, true, true, true, false, false, false, false, false, false, false, false, false] rfl rfl (by kernel_rfl) (by decide) (fun K hK => ?_)
    refine goes_ Try.func31 (by kernel_rfl) rfl #[.agg #[.int .i64 a.1, .int .i64 a.2.1, .int .i64 a.2.2], .agg #[.int .i64 b.1, .int .i64 b.2.1, .int .i64 b.2.2]] (by rfl) rfl rfl (by simp only [List.map_toArray, List.map_cons, List.map_nil]; rfl) ?_
    with_reducible refine (less_v false _ _ _ H1.out).mono ?_
    rintro e v23 ⟨rfl, hb23⟩
    refine ⟨_, rfl, ?_⟩
    have HK23 := Aside0.mk (below_step HK10.out hb23)
    clear hb23
    refine hK.out _ _ ⟨pw_cell_below HK23.out za5_0, pw_cell_below HK23.out za5_1, pw_cell_below HK23.out za5_2, pw_cell_below HK23.out zb5_0, pw_cell_below HK23.out zb5_1, pw_cell_below HK23.out zb5_2, pw_cell_below HK23.out zc5_0, pw_cell_below HK23.out zc5_1, pw_cell_below HK23.out zc5_2⟩ (fun hHeld => ?_)
    clear hK K
    refine norm_ (a' := ?_) ?_ ?_
    rotate_left
    · show Act.put _ (some 32) _ = _
      simp only [Act.put, List.setIfInBounds_toArray, List.set_cons_zero, List.set_cons_succ, i64_w, i32_w]
      rfl
    refine pure_ (i := 24) (N := some 33) (v := ?_) (a' := ?_) #[true, true, true, true, true, true, true, true, true, true, true, true, true, true, true, true, true, true, true, true, true, true, true, true, true, false, false, false, false, false, false, false, false] rfl rfl (by kernel_rfl) (fun _ _ _ h => h) (Or.inl ⟨by rfl, ?_⟩) ?_ ?_
    rotate_left
    · intro w'
      go_simp
      with_reducible rfl
    rotate_left
    · simp only [Act.put, List.setIfInBounds_toArray, List.set_cons_zero, List.set_cons_succ, i64_w, i32_w]
      rfl
    refine pure_ (i := 25) (N := some 34) (v := ?_) (a' := ?_) #[true, true, true, true, true, true, true, true, true, true, true, true, true, true, true, true, true, true, true, true, true, true, true, true, true, true, false, false, false, false, false, false, false] rfl rfl (by kernel_rfl) (fun _ _ _ h => h) (Or.inl ⟨by rfl, ?_⟩) ?_ ?_
    rotate_left
    · intro w'
      go_simp
      with_reducible rfl
    rotate_left
    · simp only [Act.put, List.setIfInBounds_toArray, List.set_cons_zero, List.set_cons_succ, i64_w, i32_w]
      rfl
    refine take_ (i := 26) (N := some 35) (v := ?_) (a' := ?_) #[true, true, true, true, true, true, true, true, true, true, true, true, true, true, true, true, true, true, true, true, true, true, true, true, true, true, true, false, false, false, false, false, false] rfl rfl (by kernel_rfl) (fun _ _ _ h => h) (Or.inl ⟨by rfl, ?_⟩) hHeld ?_ ?_
    rotate_left
    · rintro w' ⟨s0, s1, s2, s3, s4, s5, s6, s7, s8⟩
      go_simp
      with_reducible rfl
    rotate_left
    · simp only [Act.put, List.setIfInBounds_toArray, List.set_cons_zero, List.set_cons_succ, i64_w, i32_w]
      rfl
    refine take_ (i := 27) (N := some 36) (v := ?_) (a' := ?_) #[true, true, true, true, true, true, true, true, true, true, true, true, true, true, true, true, true, true, true, true, true, true, true, true, true, true, true, true, false, false, false, false, false] rfl rfl (by kernel_rfl) (fun _ _ _ h => h) (Or.inl ⟨by rfl, ?_⟩) hHeld ?_ ?_
    rotate_left
    · rintro w' ⟨s0, s1, s2, s3, s4, s5, s6, s7, s8⟩
      go_simp
      with_reducible rfl
    rotate_left
    · simp only [Act.put, List.setIfInBounds_toArray, List.set_cons_zero, List.set_cons_succ, i64_w, i32_w]
      rfl
    refine one_ (i := 28) (N := some 37) #[true, true, true, true, true, true, true, true, true, true, true, true, true, true, true, true, true, true, true, true, true, true, true, true, true, true, true, true, true, false, false, false, false] rfl rfl (by kernel_rfl) (by decide) (fun K hK => ?_)
    refine goes_ Try.func31 (by kernel_rfl) rfl #[.agg #[.int .i64 b.1, .int .i64 b.2.1, .int .i64 b.2.2], .agg #[.int .i64 a.1, .int .i64 a.2.1, .int .i64 a.2.2]] (by rfl) rfl rfl (by simp only [List.map_toArray, List.map_cons, List.map_nil]; rfl) ?_
    with_reducible refine (less_v false _ _ _ H2.out).mono ?_
    rintro e v28 ⟨rfl, hb28⟩
    refine ⟨_, rfl, ?_⟩
    have HK28 := Aside0.mk (below_step HK23.out hb28)
    clear hb28
    refine hK.out _ _ ⟨pw_cell_below HK28.out za5_0, pw_cell_below HK28.out za5_1, pw_cell_below HK28.out za5_2, pw_cell_below HK28.out zb5_0, pw_cell_below HK28.out zb5_1, pw_cell_below HK28.out zb5_2, pw_cell_below HK28.out zc5_0, pw_cell_below HK28.out zc5_1, pw_cell_below HK28.out zc5_2⟩ (fun hHeld => ?_)
    clear hK K
    refine norm_ (a' := ?_) ?_ ?_
    rotate_left
    · show Act.put _ (some 37) _ = _
      simp only [Act.put, List.setIfInBounds_toArray, List.set_cons_zero, List.set_cons_succ, i64_w, i32_w]
      rfl
    refine pure_ (i := 29) (N := some 38) (v := ?_) (a' := ?_) #[true, true, true, true, true, true, true, true, true, true, true, true, true, true, true, true, true, true, true, true, true, true, true, true, true, true, true, true, true, true, false, false, false] rfl rfl (by kernel_rfl) (fun _ _ _ h => h) (Or.inl ⟨by rfl, ?_⟩) ?_ ?_
    rotate_left
    · intro w'
      go_simp
      with_reducible rfl
    rotate_left
    · simp only [Act.put, List.setIfInBounds_toArray, List.set_cons_zero, List.set_cons_succ, i64_w, i32_w]
      rfl
    refine pure_ (i := 30) (N := some 39) (v := ?_) (a' := ?_) #[true, true, true, true, true, true, true, true, true, true, true, true, true, true, true, true, true, true, true, true, true, true, true, true, true, true, true, true, true, true, true, false, false] rfl rfl (by kernel_rfl) (fun _ _ _ h => h) (Or.inl ⟨by rfl, ?_⟩) ?_ ?_
    rotate_left
    · intro w'
      go_simp
      with_reducible rfl
    rotate_left
    · simp only [Act.put, List.setIfInBounds_toArray, List.set_cons_zero, List.set_cons_succ, i64_w, i32_w]
      rfl
    refine pure_ (i := 31) (N := some 40) (v := ?_) (a' := ?_) #[true, true, true, true, true, true, true, true, true, true, true, true, true, true, true, true, true, true, true, true, true, true, true, true, true, true, true, true, true, true, true, true, false] rfl rfl (by kernel_rfl) (fun _ _ _ h => h) (Or.inl ⟨by rfl, ?_⟩) ?_ ?_
    rotate_left
    · intro w'
      go_simp
      with_reducible rfl
    rotate_left
    · simp only [Act.put, List.setIfInBounds_toArray, List.set_cons_zero, List.set_cons_succ, i64_w, i32_w]
      rfl
    refine pure_ (i := 32) (N := some 41) (v := ?_) (a' := ?_) #[true, true, true, true, true, true, true, true, true, true, true, true, true, true, true, true, true, true, true, true, true, true, true, true, true, true, true, true, true, true, true, true, true] rfl rfl (by kernel_rfl) (fun _ _ _ h => h) (Or.inl ⟨by rfl, ?_⟩) ?_ ?_
    rotate_left
    · intro w'
      go_simp
      with_reducible rfl
    rotate_left
    · simp only [Act.put, List.setIfInBounds_toArray, List.set_cons_zero, List.set_cons_succ, i64_w, i32_w]
      rfl
    refine done_ (by kernel_rfl) ?_
    have hb0 := HK28.out
    clear za5_0 za5_1 za5_2 zb5_0 zb5_1 zb5_2 zc5_0 zc5_1 zc5_2
    have HB6 := Aside0.mk (below_step HB4.out hb0)
    have Ba6 : Aside0 (v28.heap[ga1]? = some (.cells #[.int .i64 a.1, .int .i64 a.2.1, .int .i64 a.2.2] 23 (0, 0))) := ⟨(hb0.block _ (blk_lt Ba4.out)).trans Ba4.out⟩
    have Bb6 : Aside0 (v28.heap[gb1]? = some (.cells #[.int .i64 b.1, .int .i64 b.2.1, .int .i64 b.2.2] 23 (0, 0))) := ⟨(hb0.block _ (blk_lt Bb4.out)).trans Bb4.out⟩
    have Bc6 : Aside0 (v28.heap[gc1]? = some (.cells #[.int .i64 c.1, .int .i64 c.2.1, .int .i64 c.2.2] 23 (0, 0))) := ⟨(hb0.block _ (blk_lt Bc4.out)).trans Bc4.out⟩
    clear hb0
    have za7_0 : v28.cell? ⟨ga1, 0, none⟩ = some (.int .i64 a.1) := (blk_cell Ba6.out 0).trans rfl
    have za7_1 : v28.cell? ⟨ga1, 1, none⟩ = some (.int .i64 a.2.1) := (blk_cell Ba6.out 1).trans rfl
    have za7_2 : v28.cell? ⟨ga1, 2, none⟩ = some (.int .i64 a.2.2) := (blk_cell Ba6.out 2).trans rfl
    have zb7_0 : v28.cell? ⟨gb1, 0, none⟩ = some (.int .i64 b.1) := (blk_cell Bb6.out 0).trans rfl
    have zb7_1 : v28.cell? ⟨gb1, 1, none⟩ = some (.int .i64 b.2.1) := (blk_cell Bb6.out 1).trans rfl
    have zb7_2 : v28.cell? ⟨gb1, 2, none⟩ = some (.int .i64 b.2.2) := (blk_cell Bb6.out 2).trans rfl
    have zc7_0 : v28.cell? ⟨gc1, 0, none⟩ = some (.int .i64 c.1) := (blk_cell Bc6.out 0).trans rfl
    have zc7_1 : v28.cell? ⟨gc1, 1, none⟩ = some (.int .i64 c.2.1) := (blk_cell Bc6.out 1).trans rfl
    have zc7_2 : v28.cell? ⟨gc1, 2, none⟩ = some (.int .i64 c.2.2) := (blk_cell Bc6.out 2).trans rfl
    go_wp2_with fail
    refine (less_v false _ _ _ H1.out).mono ?_
    rintro e w8 ⟨rfl, hb8⟩
    clear za7_0 za7_1 za7_2 zb7_0 zb7_1 zb7_2 zc7_0 zc7_1 zc7_2
    have HB9 := Aside0.mk (below_step HB6.out hb8)
    have Ba9 : Aside0 (w8.heap[ga1]? = some (.cells #[.int .i64 a.1, .int .i64 a.2.1, .int .i64 a.2.2] 23 (0, 0))) := ⟨(hb8.block _ (blk_lt Ba6.out)).trans Ba6.out⟩
    have Bb9 : Aside0 (w8.heap[gb1]? = some (.cells #[.int .i64 b.1, .int .i64 b.2.1, .int .i64 b.2.2] 23 (0, 0))) := ⟨(hb8.block _ (blk_lt Bb6.out)).trans Bb6.out⟩
    have Bc9 : Aside0 (w8.heap[gc1]? = some (.cells #[.int .i64 c.1, .int .i64 c.2.1, .int .i64 c.2.2] 23 (0, 0))) := ⟨(hb8.block _ (blk_lt Bc6.out)).trans Bc6.out⟩
    clear hb8
    have za10_0 : w8.cell? ⟨ga1, 0, none⟩ = some (.int .i64 a.1) := (blk_cell Ba9.out 0).trans rfl
    have za10_1 : w8.cell? ⟨ga1, 1, none⟩ = some (.int .i64 a.2.1) := (blk_cell Ba9.out 1).trans rfl
    have za10_2 : w8.cell? ⟨ga1, 2, none⟩ = some (.int .i64 a.2.2) := (blk_cell Ba9.out 2).trans rfl
    have zb10_0 : w8.cell? ⟨gb1, 0, none⟩ = some (.int .i64 b.1) := (blk_cell Bb9.out 0).trans rfl
    have zb10_1 : w8.cell? ⟨gb1, 1, none⟩ = some (.int .i64 b.2.1) := (blk_cell Bb9.out 1).trans rfl
    have zb10_2 : w8.cell? ⟨gb1, 2, none⟩ = some (.int .i64 b.2.2) := (blk_cell Bb9.out 2).trans rfl
    have zc10_0 : w8.cell? ⟨gc1, 0, none⟩ = some (.int .i64 c.1) := (blk_cell Bc9.out 0).trans rfl
    have zc10_1 : w8.cell? ⟨gc1, 1, none⟩ = some (.int .i64 c.2.1) := (blk_cell Bc9.out 1).trans rfl
    have zc10_2 : w8.cell? ⟨gc1, 2, none⟩ = some (.int .i64 c.2.2) := (blk_cell Bc9.out 2).trans rfl
    go_wp2_with fail
    go_ret
    exact ⟨rfl, HB9.out⟩
abbrev ThreeT := Bal × Bal × Bal × Int
set_option maxHeartbeats 2000000 in
set_option maxRecDepth 100000 in
theorem balless_any (a b c : Bal) (node : Int) (w : World) : Calls Try.prog 6 #[.agg #[.int .i64 a.1, .int .i64 a.2.1, .int .i64 a.2.2, .int .i64 b.1, .int .i64 b.2.1, .int .i64 b.2.2, .int .i64 c.1, .int .i64 c.2.1, .int .i64 c.2.2, .int .i64 node]] w fun e w' => e = .returned (.bool true) ∧ Below w.heap.size w w' := by
  have hu23 := Try.underlying23
  have hu53 := Try.underlying53
  obtain ⟨n1, hn1⟩ : ∃ x, x = wrap64 (a.1 + 1) := ⟨_, rfl⟩
  have HN1 := Aside0.mk hn1
  go_enter Try.func6, Try.ntmps6
  go_wp2_with fail
  obtain ⟨W1, hw1⟩ : ∃ x : World, x = w.alloc (.cells #[.int .i64 a.1, .int .i64 a.2.1, .int .i64 a.2.2, .int .i64 b.1, .int .i64 b.2.1, .int .i64 b.2.2, .int .i64 c.1, .int .i64 c.2.1, .int .i64 c.2.2, .int .i64 node] 53) := ⟨_, rfl⟩
  have hbs1 : Below w.heap.size w W1 := by rw [hw1]; repeat (first | exact Below.refl _ _ | refine below_alloc ?_ _ | refine below_drew ?_)
  obtain ⟨gx1, hgx1⟩ : ∃ x, x = w.heap.size := ⟨_, rfl⟩
  have Bx1 : Aside0 (W1.heap[gx1]? = some (.cells #[.int .i64 a.1, .int .i64 a.2.1, .int .i64 a.2.2, .int .i64 b.1, .int .i64 b.2.1, .int .i64 b.2.2, .int .i64 c.1, .int .i64 c.2.1, .int .i64 c.2.2, .int .i64 node] 53 (0, 0))) := ⟨by rw [hw1, hgx1]; exact blk_new _ _⟩
  rw [← hw1]
  rw [← hgx1]
  clear hw1 hgx1
  have HB2 := Aside0.mk hbs1
  clear hbs1
  have zx3_0 : W1.cell? ⟨gx1, 0, none⟩ = some (.int .i64 a.1) := (blk_cell Bx1.out 0).trans rfl
  have zx3_1 : W1.cell? ⟨gx1, 1, none⟩ = some (.int .i64 a.2.1) := (blk_cell Bx1.out 1).trans rfl
  have zx3_2 : W1.cell? ⟨gx1, 2, none⟩ = some (.int .i64 a.2.2) := (blk_cell Bx1.out 2).trans rfl
  have zx3_3 : W1.cell? ⟨gx1, 3, none⟩ = some (.int .i64 b.1) := (blk_cell Bx1.out 3).trans rfl
  have zx3_4 : W1.cell? ⟨gx1, 4, none⟩ = some (.int .i64 b.2.1) := (blk_cell Bx1.out 4).trans rfl
  have zx3_5 : W1.cell? ⟨gx1, 5, none⟩ = some (.int .i64 b.2.2) := (blk_cell Bx1.out 5).trans rfl
  have zx3_6 : W1.cell? ⟨gx1, 6, none⟩ = some (.int .i64 c.1) := (blk_cell Bx1.out 6).trans rfl
  have zx3_7 : W1.cell? ⟨gx1, 7, none⟩ = some (.int .i64 c.2.1) := (blk_cell Bx1.out 7).trans rfl
  have zx3_8 : W1.cell? ⟨gx1, 8, none⟩ = some (.int .i64 c.2.2) := (blk_cell Bx1.out 8).trans rfl
  have zx3_9 : W1.cell? ⟨gx1, 9, none⟩ = some (.int .i64 node) := (blk_cell Bx1.out 9).trans rfl
  clear hn1
  refine (ballot_Next.calls a.1 a.2.1 a.2.2 node b.2.2 n1 node b.2.2 _ (by unfold ballot_Next.f; rw [HN1.out])).mono ?_
  rintro e w2 ⟨rfl, hbn⟩
  clear zx3_0 zx3_1 zx3_2 zx3_3 zx3_4 zx3_5 zx3_6 zx3_7 zx3_8 zx3_9
  have HB5 := Aside0.mk (below_step HB2.out hbn)
  have Bx5 : Aside0 (w2.heap[gx1]? = some (.cells #[.int .i64 a.1, .int .i64 a.2.1, .int .i64 a.2.2, .int .i64 b.1, .int .i64 b.2.1, .int .i64 b.2.2, .int .i64 c.1, .int .i64 c.2.1, .int .i64 c.2.2, .int .i64 node] 53 (0, 0))) := ⟨(hbn.block _ (blk_lt Bx1.out)).trans Bx1.out⟩
  clear hbn
  have zx6_0 : w2.cell? ⟨gx1, 0, none⟩ = some (.int .i64 a.1) := (blk_cell Bx5.out 0).trans rfl
  have zx6_1 : w2.cell? ⟨gx1, 1, none⟩ = some (.int .i64 a.2.1) := (blk_cell Bx5.out 1).trans rfl
  have zx6_2 : w2.cell? ⟨gx1, 2, none⟩ = some (.int .i64 a.2.2) := (blk_cell Bx5.out 2).trans rfl
  have zx6_3 : w2.cell? ⟨gx1, 3, none⟩ = some (.int .i64 b.1) := (blk_cell Bx5.out 3).trans rfl
  have zx6_4 : w2.cell? ⟨gx1, 4, none⟩ = some (.int .i64 b.2.1) := (blk_cell Bx5.out 4).trans rfl
  have zx6_5 : w2.cell? ⟨gx1, 5, none⟩ = some (.int .i64 b.2.2) := (blk_cell Bx5.out 5).trans rfl
  have zx6_6 : w2.cell? ⟨gx1, 6, none⟩ = some (.int .i64 c.1) := (blk_cell Bx5.out 6).trans rfl
  have zx6_7 : w2.cell? ⟨gx1, 7, none⟩ = some (.int .i64 c.2.1) := (blk_cell Bx5.out 7).trans rfl
  have zx6_8 : w2.cell? ⟨gx1, 8, none⟩ = some (.int .i64 c.2.2) := (blk_cell Bx5.out 8).trans rfl
  have zx6_9 : w2.cell? ⟨gx1, 9, none⟩ = some (.int .i64 node) := (blk_cell Bx5.out 9).trans rfl
  have zax7_0 : ∀ o, (w2.alloc o).cell? ⟨gx1, 0, none⟩ = some (.int .i64 a.1) := fun o => (blk_cell (blk_alloc Bx5.out o) 0).trans rfl
  have zax7_1 : ∀ o, (w2.alloc o).cell? ⟨gx1, 1, none⟩ = some (.int .i64 a.2.1) := fun o => (blk_cell (blk_alloc Bx5.out o) 1).trans rfl
  have zax7_2 : ∀ o, (w2.alloc o).cell? ⟨gx1, 2, none⟩ = some (.int .i64 a.2.2) := fun o => (blk_cell (blk_alloc Bx5.out o) 2).trans rfl
  have zax7_3 : ∀ o, (w2.alloc o).cell? ⟨gx1, 3, none⟩ = some (.int .i64 b.1) := fun o => (blk_cell (blk_alloc Bx5.out o) 3).trans rfl
  have zax7_4 : ∀ o, (w2.alloc o).cell? ⟨gx1, 4, none⟩ = some (.int .i64 b.2.1) := fun o => (blk_cell (blk_alloc Bx5.out o) 4).trans rfl
  have zax7_5 : ∀ o, (w2.alloc o).cell? ⟨gx1, 5, none⟩ = some (.int .i64 b.2.2) := fun o => (blk_cell (blk_alloc Bx5.out o) 5).trans rfl
  have zax7_6 : ∀ o, (w2.alloc o).cell? ⟨gx1, 6, none⟩ = some (.int .i64 c.1) := fun o => (blk_cell (blk_alloc Bx5.out o) 6).trans rfl
  have zax7_7 : ∀ o, (w2.alloc o).cell? ⟨gx1, 7, none⟩ = some (.int .i64 c.2.1) := fun o => (blk_cell (blk_alloc Bx5.out o) 7).trans rfl
  have zax7_8 : ∀ o, (w2.alloc o).cell? ⟨gx1, 8, none⟩ = some (.int .i64 c.2.2) := fun o => (blk_cell (blk_alloc Bx5.out o) 8).trans rfl
  have zax7_9 : ∀ o, (w2.alloc o).cell? ⟨gx1, 9, none⟩ = some (.int .i64 node) := fun o => (blk_cell (blk_alloc Bx5.out o) 9).trans rfl
  have hw1 : IntKind.i64.wrap (a.1 + 1) = n1 := by rw [HN1.out]; exact i64_w _
  have hw2 : wrap64 (a.1 + 1) = n1 := HN1.out.symm
  go_wp2_with fail
  obtain ⟨W8, hw8⟩ : ∃ x : World, x = w2.alloc (.cells #[.int .i64 n1, .int .i64 node, .int .i64 b.2.2] 23) := ⟨_, rfl⟩
  have hbs8 : Below w2.heap.size w2 W8 := by rw [hw8]; repeat (first | exact Below.refl _ _ | refine below_alloc ?_ _ | refine below_drew ?_)
  obtain ⟨gn8, hgn8⟩ : ∃ x, x = w2.heap.size := ⟨_, rfl⟩
  have Bn8 : Aside0 (W8.heap[gn8]? = some (.cells #[.int .i64 n1, .int .i64 node, .int .i64 b.2.2] 23 (0, 0))) := ⟨by rw [hw8, hgn8]; exact blk_new _ _⟩
  rw [← hw8]
  rw [← hgn8]
  clear hw8 hgn8
  clear zx6_0 zx6_1 zx6_2 zx6_3 zx6_4 zx6_5 zx6_6 zx6_7 zx6_8 zx6_9 zax7_0 zax7_1 zax7_2 zax7_3 zax7_4 zax7_5 zax7_6 zax7_7 zax7_8 zax7_9
  have HB9 := Aside0.mk (below_step HB5.out hbs8)
  have Bx9 : Aside0 (W8.heap[gx1]? = some (.cells #[.int .i64 a.1, .int .i64 a.2.1, .int .i64 a.2.2, .int .i64 b.1, .int .i64 b.2.1, .int .i64 b.2.2, .int .i64 c.1, .int .i64 c.2.1, .int .i64 c.2.2, .int .i64 node] 53 (0, 0))) := ⟨(hbs8.block _ (blk_lt Bx5.out)).trans Bx5.out⟩
  clear hbs8
  refine (orders_any a b c _).mono ?_
  rintro e w10 ⟨rfl, hb10⟩
  have HB11 := Aside0.mk (below_step HB9.out hb10)
  have Bx11 : Aside0 (w10.heap[gx1]? = some (.cells #[.int .i64 a.1, .int .i64 a.2.1, .int .i64 a.2.2, .int .i64 b.1, .int .i64 b.2.1, .int .i64 b.2.2, .int .i64 c.1, .int .i64 c.2.1, .int .i64 c.2.2, .int .i64 node] 53 (0, 0))) := ⟨(hb10.block _ (blk_lt Bx9.out)).trans Bx9.out⟩
  have Bn11 : Aside0 (w10.heap[gn8]? = some (.cells #[.int .i64 n1, .int .i64 node, .int .i64 b.2.2] 23 (0, 0))) := ⟨(hb10.block _ (blk_lt Bn8.out)).trans Bn8.out⟩
  clear hb10
  have zx12_0 : w10.cell? ⟨gx1, 0, none⟩ = some (.int .i64 a.1) := (blk_cell Bx11.out 0).trans rfl
  have zx12_1 : w10.cell? ⟨gx1, 1, none⟩ = some (.int .i64 a.2.1) := (blk_cell Bx11.out 1).trans rfl
  have zx12_2 : w10.cell? ⟨gx1, 2, none⟩ = some (.int .i64 a.2.2) := (blk_cell Bx11.out 2).trans rfl
  have zx12_3 : w10.cell? ⟨gx1, 3, none⟩ = some (.int .i64 b.1) := (blk_cell Bx11.out 3).trans rfl
  have zx12_4 : w10.cell? ⟨gx1, 4, none⟩ = some (.int .i64 b.2.1) := (blk_cell Bx11.out 4).trans rfl
  have zx12_5 : w10.cell? ⟨gx1, 5, none⟩ = some (.int .i64 b.2.2) := (blk_cell Bx11.out 5).trans rfl
  have zx12_6 : w10.cell? ⟨gx1, 6, none⟩ = some (.int .i64 c.1) := (blk_cell Bx11.out 6).trans rfl
  have zx12_7 : w10.cell? ⟨gx1, 7, none⟩ = some (.int .i64 c.2.1) := (blk_cell Bx11.out 7).trans rfl
  have zx12_8 : w10.cell? ⟨gx1, 8, none⟩ = some (.int .i64 c.2.2) := (blk_cell Bx11.out 8).trans rfl
  have zx12_9 : w10.cell? ⟨gx1, 9, none⟩ = some (.int .i64 node) := (blk_cell Bx11.out 9).trans rfl
  have zn12_0 : w10.cell? ⟨gn8, 0, none⟩ = some (.int .i64 n1) := (blk_cell Bn11.out 0).trans rfl
  have zn12_1 : w10.cell? ⟨gn8, 1, none⟩ = some (.int .i64 node) := (blk_cell Bn11.out 1).trans rfl
  have zn12_2 : w10.cell? ⟨gn8, 2, none⟩ = some (.int .i64 b.2.2) := (blk_cell Bn11.out 2).trans rfl
  go_wp2_with fail
  go_ret
  exact ⟨rfl, HB11.out⟩
def kThree : Kd ThreeT := Kd.iso (Kd.pair kBal (Kd.pair kBal (Kd.pair kBal (Kd.int .i64)))) id
theorem balless_walk (w : World) (cs : Array Value) (y : ThreeT) (hK : kThree.K w y cs.toList) {Q : Prop} (hq : Q) :
    Calls Try.prog 6 #[.agg cs] w fun e w' => e = .returned (.bool true) ∧ Below w.heap.size w w' := by
  obtain ⟨a0, a1, he, e0, a2, a3, rfl, e1, a4, a5, rfl, e2, e3⟩ := hK
  obtain rfl := bal_cells e0
  obtain rfl := bal_cells e1
  obtain rfl := bal_cells e2
  obtain rfl : a5 = [.int .i64 y.2.2.2] := e3
  obtain rfl : cs = #[.int .i64 y.1.1, .int .i64 y.1.2.1, .int .i64 y.1.2.2, .int .i64 y.2.1.1, .int .i64 y.2.1.2.1, .int .i64 y.2.1.2.2, .int .i64 y.2.2.1.1, .int .i64 y.2.2.1.2.1, .int .i64 y.2.2.1.2.2, .int .i64 y.2.2.2] := by
    rw [← Array.toArray_toList (xs := cs), he]
    rfl
  exact balless_any y.1 y.2.1 y.2.2.1 y.2.2.2 w
end Go.Proofs.Ytckbidmemdkdpaa.MAll

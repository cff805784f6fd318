/- Watches: New, Leads, Want. -/
import Derived.Test.YtimfbdiiaakhiaaTa
import Derived.Deep.DrawnRows
set_option linter.unusedVariables false
set_option linter.unusedSimpArgs false
namespace Go.Proofs.Ytimfbdiiaakhiaa.MAll
open Go.RowKit Go.Proofs.YtimfbdiiaakhiaaW.PrintWords Go.Proofs.YtimfbdiiaakhiaaW.PrintLast Go.Proofs.YtimfbdiiaakhiaaW.PrintMore
attribute [local go_sem ↓] Go.wp_at_zero Go.wp_at_succ

theorem eqA66 (d : Nat) (w : World) (x0 y0 : Int) (x1 y1 : Int) :
    (Op.equalIn (d + 2) 66 (.agg #[.int .i64 x0, .int .i64 x1]) (.agg #[.int .i64 y0, .int .i64 y1])).run Try.prog w = .ok (x0 == y0 && (x1 == y1)) w := by
  refine eqA_of Try.underlying66 (by kernel_rfl) ?_
  refine eqf_cons (by rfl) (by go_simp; rfl) (by go_simp; rfl) (by go_simp) ?_
  exact eqf_last (by rfl) (by go_simp; rfl) (by go_simp; rfl) (by go_simp)
attribute [local go_sem high] eqA66
theorem swap4_v (A0 : Option Addr) (c0 : Nat) (l0 : List Int) (A1 : Option Addr) (c1 : Nat) (x0 x1 x2 x3 : Int) (w : World) (hr0 : (Kd.int .i64).C w A0 l0.length l0) (hc0 : l0.length ≤ c0) (hr1 : (Kd.int .i64).C w A1 4 [x0, x1, x2, x3]) (hc1 : 4 ≤ c1) (hl0 : l0.length < 17592186044416) :
    Calls Try.prog 28 #[.slice A0 l0.length c0, .slice A1 4 c1] w fun e w' => ∃ B d B' d', e = .returned (.agg #[.int .i64 2, .slice B l0.length d, .slice B' 4 d']) ∧ (Kd.int .i64).R 3 w' w.heap.size (fun _ => True) (.slice B l0.length d) l0 ∧ (Kd.int .i64).R 3 w' w.heap.size (fun k => some k ≠ (Value.slice B l0.length d).ownBlock) (.slice B' 4 d') [x0, x1, x2, x3] ∧ Below w.heap.size w w' :=
  swap_v A0 c0 l0 A1 c1 [x0, x1, x2, x3] w hr0 hc0 hr1 hc1 hl0 (by simp)
theorem nums4_v (x0 x1 x2 x3 : Int) (w : World) : Calls Try.prog 12 #[.agg #[.int .i64 x0, .int .i64 x1, .int .i64 x2, .int .i64 x3]] w fun e w' => ∃ B d, e = .returned (.slice B 4 d) ∧ (Kd.int .i64).R 3 w' w.heap.size (fun _ => True) (.slice B 4 d) [x0, x1, x2, x3] ∧ Below w.heap.size w w' := nums_v (x0, x1, x2, x3) w
def newOk (nd lf tk : Int) : Bool := decide (0 ≤ nd ∧ 0 ≤ lf ∧ 1 ≤ tk ∧ tk ≤ 20)
set_option maxHeartbeats 1000000 in
theorem new_c (W : World) (nd lf tk : Int) (h : newOk nd lf tk = true) : Calls Try.prog 14 #[.int .i64 nd, .int .i64 lf, .int .i64 tk] W fun e w' => ∃ g, e = .returned (.tuple #[.pointer (some ⟨g, 0, none⟩), .nilIface]) ∧ W.heap.size ≤ g ∧ WAt w' g nd lf tk false [] 0 ∧ Below W.heap.size W w' := by
  have hu68 := Try.underlying68
  have hu66 := Try.underlying66
  unfold newOk at h
  obtain ⟨h0, h1, h2, h3⟩ := of_decide_eq_true h
  clear h
  have d0 : decide (nd < 0) = false := decide_eq_false (by omega)
  have d1 : decide (lf < 0) = false := decide_eq_false (by omega)
  have d2 : decide (tk < 1) = false := decide_eq_false (by omega)
  have d3 : decide (20 < tk) = false := decide_eq_false (by omega)
  go_enter Try.func14, Try.ntmps14
  go_wp2_with fail
  go_ret2
  exact ⟨_, rfl, Nat.le_refl _, ⟨none, 0, blk_new _ _, Kd.R_nil _ _ _ _ _, by simp⟩, below_alloc (Below.refl _ _) _⟩
set_option maxHeartbeats 1000000 in
theorem new_bad (W : World) (nd lf tk : Int) (h : newOk nd lf tk = false) : Calls Try.prog 14 #[.int .i64 nd, .int .i64 lf, .int .i64 tk] W fun e w' => e = .returned (.tuple #[.pointer none, errW (some 2)]) ∧ Below W.heap.size W w' := by
  have hu68 := Try.underlying68
  have hu66 := Try.underlying66
  unfold newOk at h
  have h := of_decide_eq_false h
  rw [errW_some]
  by_cases h0 : nd < 0
  · have d0 : decide (nd < 0) = true := decide_eq_true h0
    go_enter Try.func14, Try.ntmps14
    go_wp2_with fail
    go_ret2
    exact ⟨rfl, Below.refl _ _⟩
  · have d0 : decide (nd < 0) = false := decide_eq_false h0
    by_cases h1 : lf < 0
    · have d1 : decide (lf < 0) = true := decide_eq_true h1
      go_enter Try.func14, Try.ntmps14
      go_wp2_with fail
      go_ret2
      exact ⟨rfl, Below.refl _ _⟩
    · have d1 : decide (lf < 0) = false := decide_eq_false h1
      by_cases h2 : tk < 1
      · have d2 : decide (tk < 1) = true := decide_eq_true h2
        go_enter Try.func14, Try.ntmps14
        go_wp2_with fail
        go_ret2
        exact ⟨rfl, Below.refl _ _⟩
      · have d2 : decide (tk < 1) = false := decide_eq_false h2
        have d3 : decide (20 < tk) = true := decide_eq_true (by omega)
        go_enter Try.func14, Try.ntmps14
        go_wp2_with fail
        go_ret2
        exact ⟨rfl, Below.refl _ _⟩
def leadsB (nd lf : Int) (v : List Int) : Bool := okL v && (nd == (leaseOf v).2.1 && lf == (leaseOf v).2.2.1)
def leadsN (nd lf : Int) (v : List Int) : Int := if leadsB nd lf v then (leaseOf v).1 else 0
set_option maxHeartbeats 4000000 in
set_option maxRecDepth 100000 in
theorem leads_c (W : World) (g : Nat) (nd lf tk : Int) (sw : Bool) (v : List Int) (ag : Int) (h : WAt W g nd lf tk sw v ag) :
    Calls Try.prog 18 #[.pointer (some ⟨g, 0, none⟩)] W fun e w' => e = .returned (.tuple #[.int .i64 (leadsN nd lf v), .bool (leadsB nd lf v)]) ∧ Below W.heap.size W w' := by
  have hu68 := Try.underlying68
  have hu66 := Try.underlying66
  have hu24 := Try.underlying24
  have HW := Aside0.mk h
  obtain ⟨A, c, hB0, hR0, hvl⟩ := h
  have BW0 := Aside0.mk hB0
  have HR0 := Aside0.mk hR0
  have hlc := (Kd.R_reads' hR0).2.1
  have hmax := Kd.C_max (Kd.R_reads' hR0).2.2
  clear hB0 hR0
  obtain ⟨l, hl⟩ : ∃ l, leaseOf v = l := ⟨_, rfl⟩
  obtain ⟨q, hq⟩ : ∃ q, okL v = q := ⟨_, rfl⟩
  obtain ⟨eb, heb⟩ : ∃ b, (nd == l.2.1 && lf == l.2.2.1) = b := ⟨_, rfl⟩
  have HN := Aside0.mk (show leadsN nd lf v = if (q && eb) = true then l.1 else 0 by unfold leadsN leadsB; rw [hl, hq, heb])
  have HLB := Aside0.mk (show leadsB nd lf v = (q && eb) by unfold leadsB; rw [hl, hq, heb])
  have HL := Aside0.mk hl
  have HQ := Aside0.mk hq
  clear hl hq
  go_enter Try.func18, Try.ntmps18
  go_wp2_with fail
  refine (lease_c W g nd lf tk sw v ag HW.out).mono ?_
  rw [HL.out, HQ.out]
  rintro e w2 ⟨rfl, hb2⟩
  have HB1 := Aside0.mk hb2
  have BW1 : Aside0 (w2.heap[g]? = some (.cells #[.int .i64 nd, .int .i64 lf, .int .i64 tk, .bool sw, .slice A v.length c, .int .i64 ag] 68 (0, 0))) := ⟨(hb2.block _ (blk_lt BW0.out)).trans BW0.out⟩
  have RV1 := Aside0.mk (Kd.R_below HR0.out hb2)
  clear hb2
  have zW2_0 : w2.cell? ⟨g, 0, none⟩ = some (.int .i64 nd) := (blk_cell BW1.out 0).trans rfl
  have zW2_1 : w2.cell? ⟨g, 1, none⟩ = some (.int .i64 lf) := (blk_cell BW1.out 1).trans rfl
  have zW2_2 : w2.cell? ⟨g, 2, none⟩ = some (.int .i64 tk) := (blk_cell BW1.out 2).trans rfl
  have zW2_3 : w2.cell? ⟨g, 3, none⟩ = some (.bool sw) := (blk_cell BW1.out 3).trans rfl
  have zW2_4 : w2.cell? ⟨g, 4, none⟩ = some (.slice A v.length c) := (blk_cell BW1.out 4).trans rfl
  have zW2_5 : w2.cell? ⟨g, 5, none⟩ = some (.int .i64 ag) := (blk_cell BW1.out 5).trans rfl
  have zaW3_0 : ∀ o, (w2.alloc o).cell? ⟨g, 0, none⟩ = some (.int .i64 nd) := fun o => (blk_cell (blk_alloc BW1.out o) 0).trans rfl
  have zaW3_1 : ∀ o, (w2.alloc o).cell? ⟨g, 1, none⟩ = some (.int .i64 lf) := fun o => (blk_cell (blk_alloc BW1.out o) 1).trans rfl
  have zaW3_2 : ∀ o, (w2.alloc o).cell? ⟨g, 2, none⟩ = some (.int .i64 tk) := fun o => (blk_cell (blk_alloc BW1.out o) 2).trans rfl
  have zaW3_3 : ∀ o, (w2.alloc o).cell? ⟨g, 3, none⟩ = some (.bool sw) := fun o => (blk_cell (blk_alloc BW1.out o) 3).trans rfl
  have zaW3_4 : ∀ o, (w2.alloc o).cell? ⟨g, 4, none⟩ = some (.slice A v.length c) := fun o => (blk_cell (blk_alloc BW1.out o) 4).trans rfl
  have zaW3_5 : ∀ o, (w2.alloc o).cell? ⟨g, 5, none⟩ = some (.int .i64 ag) := fun o => (blk_cell (blk_alloc BW1.out o) 5).trans rfl
  go_wp2_with fail
  obtain ⟨W4, hw4⟩ : ∃ x : World, x = w2.alloc (.cells #[.int .i64 l.1, .int .i64 l.2.1, .int .i64 l.2.2.1, .int .i64 l.2.2.2] 24) := ⟨_, rfl⟩
  have hbs4 : Below w2.heap.size w2 W4 := by rw [hw4]; repeat (first | exact Below.refl _ _ | refine below_alloc ?_ _ | refine below_drew ?_)
  obtain ⟨gl4, hgl4⟩ : ∃ x, x = w2.heap.size := ⟨_, rfl⟩
  have GSl4 : Aside0 (W.heap.size ≤ gl4) := ⟨by rw [hgl4]; have := HB1.out.size; omega⟩
  have Bl4 : Aside0 (W4.heap[gl4]? = some (.cells #[.int .i64 l.1, .int .i64 l.2.1, .int .i64 l.2.2.1, .int .i64 l.2.2.2] 24 (0, 0))) := ⟨by rw [hw4, hgl4]; exact blk_new _ _⟩
  rw [← hw4]
  rw [← hgl4]
  clear hw4 hgl4
  clear zW2_0 zW2_1 zW2_2 zW2_3 zW2_4 zW2_5 zaW3_0 zaW3_1 zaW3_2 zaW3_3 zaW3_4 zaW3_5
  have HB5 := Aside0.mk (below_step HB1.out hbs4)
  have BW5 : Aside0 (W4.heap[g]? = some (.cells #[.int .i64 nd, .int .i64 lf, .int .i64 tk, .bool sw, .slice A v.length c, .int .i64 ag] 68 (0, 0))) := ⟨(hbs4.block _ (blk_lt BW1.out)).trans BW1.out⟩
  have RV5 := Aside0.mk (Kd.R_below RV1.out hbs4)
  clear hbs4
  have zW6_0 : W4.cell? ⟨g, 0, none⟩ = some (.int .i64 nd) := (blk_cell BW5.out 0).trans rfl
  have zW6_1 : W4.cell? ⟨g, 1, none⟩ = some (.int .i64 lf) := (blk_cell BW5.out 1).trans rfl
  have zW6_2 : W4.cell? ⟨g, 2, none⟩ = some (.int .i64 tk) := (blk_cell BW5.out 2).trans rfl
  have zW6_3 : W4.cell? ⟨g, 3, none⟩ = some (.bool sw) := (blk_cell BW5.out 3).trans rfl
  have zW6_4 : W4.cell? ⟨g, 4, none⟩ = some (.slice A v.length c) := (blk_cell BW5.out 4).trans rfl
  have zW6_5 : W4.cell? ⟨g, 5, none⟩ = some (.int .i64 ag) := (blk_cell BW5.out 5).trans rfl
  have zl6_0 : W4.cell? ⟨gl4, 0, none⟩ = some (.int .i64 l.1) := (blk_cell Bl4.out 0).trans rfl
  have zl6_1 : W4.cell? ⟨gl4, 1, none⟩ = some (.int .i64 l.2.1) := (blk_cell Bl4.out 1).trans rfl
  have zl6_2 : W4.cell? ⟨gl4, 2, none⟩ = some (.int .i64 l.2.2.1) := (blk_cell Bl4.out 2).trans rfl
  have zl6_3 : W4.cell? ⟨gl4, 3, none⟩ = some (.int .i64 l.2.2.2) := (blk_cell Bl4.out 3).trans rfl
  cases q
  · skip
    refine start_ (n := 14) (S := fun w' => w'.cell? ⟨g, 0, none⟩ = some (.int .i64 nd) ∧ w'.cell? ⟨g, 1, none⟩ = some (.int .i64 lf) ∧ w'.cell? ⟨g, 2, none⟩ = some (.int .i64 tk) ∧ w'.cell? ⟨g, 3, none⟩ = some (.bool sw) ∧ w'.cell? ⟨g, 4, none⟩ = some (.slice A v.length c) ∧ w'.cell? ⟨g, 5, none⟩ = some (.int .i64 ag) ∧ w'.cell? ⟨gl4, 0, none⟩ = some (.int .i64 l.1) ∧ w'.cell? ⟨gl4, 1, none⟩ = some (.int .i64 l.2.1) ∧ w'.cell? ⟨gl4, 2, none⟩ = some (.int .i64 l.2.2.1) ∧ w'.cell? ⟨gl4, 3, none⟩ = some (.int .i64 l.2.2.2)) (ds := []) #[false, false, false, false, false, false, false, false, false, false, false, false, false, false] (by kernel_rfl) rfl rfl ⟨zW6_0, zW6_1, zW6_2, zW6_3, zW6_4, zW6_5, zl6_0, zl6_1, zl6_2, zl6_3⟩ (fun hHeld => ?_)
    refine pure_ (i := 0) (N := some 11) (v := ?_) (a' := ?_) #[true, false, false, false, false, false, false, false, false, false, false, false, false, false] rfl rfl (by kernel_rfl) (fun _ _ _ h => h) (Or.inl ⟨by rfl, ?_⟩) ?_ ?_
    rotate_left
    · intro w'
      go_simp
      with_reducible rfl
    rotate_left
    · simp only [Act.put, List.setIfInBounds_toArray, List.set_cons_zero, List.set_cons_succ, i64_w, i32_w]
      rfl
    refine pure_ (i := 1) (N := some 12) (v := ?_) (a' := ?_) #[true, true, false, false, false, false, false, false, false, false, false, false, false, false] rfl rfl (by kernel_rfl) (fun _ _ _ h => h) (Or.inl ⟨by rfl, ?_⟩) ?_ ?_
    rotate_left
    · intro w'
      go_simp
      with_reducible rfl
    rotate_left
    · simp only [Act.put, List.setIfInBounds_toArray, List.set_cons_zero, List.set_cons_succ, i64_w, i32_w]
      rfl
    refine pure_ (i := 2) (N := some 13) (v := ?_) (a' := ?_) #[true, true, true, false, false, false, false, false, false, false, false, false, false, false] rfl rfl (by kernel_rfl) (fun _ _ _ h => h) (Or.inl ⟨by rfl, ?_⟩) ?_ ?_
    rotate_left
    · intro w'
      go_simp
      with_reducible rfl
    rotate_left
    · simp only [Act.put, List.setIfInBounds_toArray, List.set_cons_zero, List.set_cons_succ, i64_w, i32_w]
      rfl
    refine pure_ (i := 3) (N := some 14) (v := undef) (a' := ?_) #[true, true, true, true, false, false, false, false, false, false, false, false, false, false] rfl rfl (by kernel_rfl) (fun _ _ _ h => h) (Or.inr ⟨by rfl, rfl⟩) ?_ ?_
    rotate_left
    · simp only [Act.put, List.setIfInBounds_toArray, List.set_cons_zero, List.set_cons_succ, i64_w, i32_w]
      rfl
    refine pure_ (i := 4) (N := some 15) (v := undef) (a' := ?_) #[true, true, true, true, true, false, false, false, false, false, false, false, false, false] rfl rfl (by kernel_rfl) (fun _ _ _ h => h) (Or.inr ⟨by rfl, rfl⟩) ?_ ?_
    rotate_left
    · simp only [Act.put, List.setIfInBounds_toArray, List.set_cons_zero, List.set_cons_succ, i64_w, i32_w]
      rfl
    refine pure_ (i := 5) (N := some 16) (v := undef) (a' := ?_) #[true, true, true, true, true, true, false, false, false, false, false, false, false, false] rfl rfl (by kernel_rfl) (fun _ _ _ h => h) (Or.inr ⟨by rfl, rfl⟩) ?_ ?_
    rotate_left
    · simp only [Act.put, List.setIfInBounds_toArray, List.set_cons_zero, List.set_cons_succ, i64_w, i32_w]
      rfl
    refine pure_ (i := 6) (N := some 17) (v := undef) (a' := ?_) #[true, true, true, true, true, true, true, false, false, false, false, false, false, false] rfl rfl (by kernel_rfl) (fun _ _ _ h => h) (Or.inr ⟨by rfl, rfl⟩) ?_ ?_
    rotate_left
    · simp only [Act.put, List.setIfInBounds_toArray, List.set_cons_zero, List.set_cons_succ, i64_w, i32_w]
      rfl
    refine pure_ (i := 7) (N := some 18) (v := undef) (a' := ?_) #[true, true, true, true, true, true, true, true, false, false, false, false, false, false] rfl rfl (by kernel_rfl) (fun _ _ _ h => h) (Or.inr ⟨by rfl, rfl⟩) ?_ ?_
    rotate_left
    · simp only [Act.put, List.setIfInBounds_toArray, List.set_cons_zero, List.set_cons_succ, i64_w, i32_w]
      rfl
    refine pure_ (i := 8) (N := some 19) (v := undef) (a' := ?_) #[true, true, true, true, true, true, true, true, true, false, false, false, false, false] rfl rfl (by kernel_rfl) (fun _ _ _ h => h) (Or.inr ⟨by rfl, rfl⟩) ?_ ?_
    rotate_left
    · simp only [Act.put, List.setIfInBounds_toArray, List.set_cons_zero, List.set_cons_succ, i64_w, i32_w]
      rfl
    refine pure_ (i := 9) (N := some 20) (v := undef) (a' := ?_) #[true, true, true, true, true, true, true, true, true, true, false, false, false, false] rfl rfl (by kernel_rfl) (fun _ _ _ h => h) (Or.inr ⟨by rfl, rfl⟩) ?_ ?_
    rotate_left
    · simp only [Act.put, List.setIfInBounds_toArray, List.set_cons_zero, List.set_cons_succ, i64_w, i32_w]
      rfl
    refine pure_ (i := 10) (N := some 21) (v := undef) (a' := ?_) #[true, true, true, true, true, true, true, true, true, true, true, false, false, false] rfl rfl (by kernel_rfl) (fun _ _ _ h => h) (Or.inr ⟨by rfl, rfl⟩) ?_ ?_
    rotate_left
    · simp only [Act.put, List.setIfInBounds_toArray, List.set_cons_zero, List.set_cons_succ, i64_w, i32_w]
      rfl
    refine pure_ (i := 11) (N := some 22) (v := undef) (a' := ?_) #[true, true, true, true, true, true, true, true, true, true, true, true, false, false] rfl rfl (by kernel_rfl) (fun _ _ _ h => h) (Or.inr ⟨by rfl, rfl⟩) ?_ ?_
    rotate_left
    · simp only [Act.put, List.setIfInBounds_toArray, List.set_cons_zero, List.set_cons_succ, i64_w, i32_w]
      rfl
    refine pure_ (i := 12) (N := some 23) (v := undef) (a' := ?_) #[true, true, true, true, true, true, true, true, true, true, true, true, true, false] rfl rfl (by kernel_rfl) (fun _ _ _ h => h) (Or.inr ⟨by rfl, rfl⟩) ?_ ?_
    rotate_left
    · simp only [Act.put, List.setIfInBounds_toArray, List.set_cons_zero, List.set_cons_succ, i64_w, i32_w]
      rfl
    refine pure_ (i := 13) (N := some 24) (v := ?_) (a' := ?_) #[true, true, true, true, true, true, true, true, true, true, true, true, true, true] rfl rfl (by kernel_rfl) (fun _ _ _ h => h) (Or.inl ⟨by rfl, ?_⟩) ?_ ?_
    rotate_left
    · intro w'
      go_simp
      with_reducible rfl
    rotate_left
    · simp only [Act.put, List.setIfInBounds_toArray, List.set_cons_zero, List.set_cons_succ, i64_w, i32_w]
      rfl
    refine done_ (by kernel_rfl) ?_
    obtain ⟨W7, hw7⟩ : ∃ x : World, x = W4.drew := ⟨_, rfl⟩
    have hbd7 : Below W4.heap.size W4 W7 := by rw [hw7]; exact below_drew (Below.refl _ _)
    rw [← hw7]
    clear hw7
    clear zW6_0 zW6_1 zW6_2 zW6_3 zW6_4 zW6_5 zl6_0 zl6_1 zl6_2 zl6_3
    have HB8 := Aside0.mk (below_step HB5.out hbd7)
    have BW8 : Aside0 (W7.heap[g]? = some (.cells #[.int .i64 nd, .int .i64 lf, .int .i64 tk, .bool sw, .slice A v.length c, .int .i64 ag] 68 (0, 0))) := ⟨(hbd7.block _ (blk_lt BW5.out)).trans BW5.out⟩
    have Bl8 : Aside0 (W7.heap[gl4]? = some (.cells #[.int .i64 l.1, .int .i64 l.2.1, .int .i64 l.2.2.1, .int .i64 l.2.2.2] 24 (0, 0))) := ⟨(hbd7.block _ (blk_lt Bl4.out)).trans Bl4.out⟩
    have RV8 := Aside0.mk (Kd.R_below RV5.out hbd7)
    clear hbd7
    have zW9_0 : W7.cell? ⟨g, 0, none⟩ = some (.int .i64 nd) := (blk_cell BW8.out 0).trans rfl
    have zW9_1 : W7.cell? ⟨g, 1, none⟩ = some (.int .i64 lf) := (blk_cell BW8.out 1).trans rfl
    have zW9_2 : W7.cell? ⟨g, 2, none⟩ = some (.int .i64 tk) := (blk_cell BW8.out 2).trans rfl
    have zW9_3 : W7.cell? ⟨g, 3, none⟩ = some (.bool sw) := (blk_cell BW8.out 3).trans rfl
    have zW9_4 : W7.cell? ⟨g, 4, none⟩ = some (.slice A v.length c) := (blk_cell BW8.out 4).trans rfl
    have zW9_5 : W7.cell? ⟨g, 5, none⟩ = some (.int .i64 ag) := (blk_cell BW8.out 5).trans rfl
    have zl9_0 : W7.cell? ⟨gl4, 0, none⟩ = some (.int .i64 l.1) := (blk_cell Bl8.out 0).trans rfl
    have zl9_1 : W7.cell? ⟨gl4, 1, none⟩ = some (.int .i64 l.2.1) := (blk_cell Bl8.out 1).trans rfl
    have zl9_2 : W7.cell? ⟨gl4, 2, none⟩ = some (.int .i64 l.2.2.1) := (blk_cell Bl8.out 2).trans rfl
    have zl9_3 : W7.cell? ⟨gl4, 3, none⟩ = some (.int .i64 l.2.2.2) := (blk_cell Bl8.out 3).trans rfl
    go_wp2_with fail
    go_ret2
    rw [HN.out, HLB.out]
    exact ⟨rfl, HB8.out⟩
  · cases eb
    · skip
      refine start_ (n := 14) (S := fun w' => w'.cell? ⟨g, 0, none⟩ = some (.int .i64 nd) ∧ w'.cell? ⟨g, 1, none⟩ = some (.int .i64 lf) ∧ w'.cell? ⟨g, 2, none⟩ = some (.int .i64 tk) ∧ w'.cell? ⟨g, 3, none⟩ = some (.bool sw) ∧ w'.cell? ⟨g, 4, none⟩ = some (.slice A v.length c) ∧ w'.cell? ⟨g, 5, none⟩ = some (.int .i64 ag) ∧ w'.cell? ⟨gl4, 0, none⟩ = some (.int .i64 l.1) ∧ w'.cell? ⟨gl4, 1, none⟩ = some (.int .i64 l.2.1) ∧ w'.cell? ⟨gl4, 2, none⟩ = some (.int .i64 l.2.2.1) ∧ w'.cell? ⟨gl4, 3, none⟩ = some (.int .i64 l.2.2.2)) (ds := []) #[false, false, false, false, false, false, false, false, false, false, false, false, false, false] (by kernel_rfl) rfl rfl ⟨zW6_0, zW6_1, zW6_2, zW6_3, zW6_4, zW6_5, zl6_0, zl6_1, zl6_2, zl6_3⟩ (fun hHeld => ?_)
      refine pure_ (i := 0) (N := some 11) (v := ?_) (a' := ?_) #[true, false, false, false, false, false, false, false, false, false, false, false, false, false] rfl rfl (by kernel_rfl) (fun _ _ _ h => h) (Or.inl ⟨by rfl, ?_⟩) ?_ ?_
      rotate_left
      · intro w'
        go_simp
        with_reducible rfl
      rotate_left
      · simp only [Act.put, List.setIfInBounds_toArray, List.set_cons_zero, List.set_cons_succ, i64_w, i32_w]
        rfl
      refine pure_ (i := 1) (N := some 12) (v := ?_) (a' := ?_) #[true, true, false, false, false, false, false, false, false, false, false, false, false, false] rfl rfl (by kernel_rfl) (fun _ _ _ h => h) (Or.inl ⟨by rfl, ?_⟩) ?_ ?_
      rotate_left
      · intro w'
        go_simp
        with_reducible rfl
      rotate_left
      · simp only [Act.put, List.setIfInBounds_toArray, List.set_cons_zero, List.set_cons_succ, i64_w, i32_w]
        rfl
      refine pure_ (i := 2) (N := some 13) (v := ?_) (a' := ?_) #[true, true, true, false, false, false, false, false, false, false, false, false, false, false] rfl rfl (by kernel_rfl) (fun _ _ _ h => h) (Or.inl ⟨by rfl, ?_⟩) ?_ ?_
      rotate_left
      · intro w'
        go_simp
        with_reducible rfl
      rotate_left
      · simp only [Act.put, List.setIfInBounds_toArray, List.set_cons_zero, List.set_cons_succ, i64_w, i32_w]
        rfl
      refine pure_ (i := 3) (N := some 14) (v := ?_) (a' := ?_) #[true, true, true, true, false, false, false, false, false, false, false, false, false, false] rfl rfl (by kernel_rfl) (fun _ _ _ h => h) (Or.inl ⟨by rfl, ?_⟩) ?_ ?_
      rotate_left
      · intro w'
        go_simp
        with_reducible rfl
      rotate_left
      · simp only [Act.put, List.setIfInBounds_toArray, List.set_cons_zero, List.set_cons_succ, i64_w, i32_w]
        rfl
      refine pure_ (i := 4) (N := some 15) (v := ?_) (a' := ?_) #[true, true, true, true, true, false, false, false, false, false, false, false, false, false] rfl rfl (by kernel_rfl) (fun _ _ _ h => h) (Or.inl ⟨by rfl, ?_⟩) ?_ ?_
      rotate_left
      · intro w'
        go_simp
        with_reducible rfl
      rotate_left
      · simp only [Act.put, List.setIfInBounds_toArray, List.set_cons_zero, List.set_cons_succ, i64_w, i32_w]
        rfl
      refine pure_ (i := 5) (N := some 16) (v := ?_) (a' := ?_) #[true, true, true, true, true, true, false, false, false, false, false, false, false, false] rfl rfl (by kernel_rfl) (fun _ _ _ h => h) (Or.inl ⟨by rfl, ?_⟩) ?_ ?_
      rotate_left
      · intro w'
        go_simp
        with_reducible rfl
      rotate_left
      · simp only [Act.put, List.setIfInBounds_toArray, List.set_cons_zero, List.set_cons_succ, i64_w, i32_w]
        rfl
      refine pure_ (i := 7) (N := some 18) (v := ?_) (a' := ?_) #[true, true, true, true, true, true, false, true, false, false, false, false, false, false] rfl rfl (by kernel_rfl) (fun _ _ _ h => h) (Or.inl ⟨by rfl, ?_⟩) ?_ ?_
      rotate_left
      · intro w'
        go_simp
        with_reducible rfl
      rotate_left
      · simp only [Act.put, List.setIfInBounds_toArray, List.set_cons_zero, List.set_cons_succ, i64_w, i32_w]
        rfl
      refine pure_ (i := 9) (N := some 20) (v := ?_) (a' := ?_) #[true, true, true, true, true, true, false, true, false, true, false, false, false, false] rfl rfl (by kernel_rfl) (fun _ _ _ h => h) (Or.inl ⟨by rfl, ?_⟩) ?_ ?_
      rotate_left
      · intro w'
        go_simp
        with_reducible rfl
      rotate_left
      · simp only [Act.put, List.setIfInBounds_toArray, List.set_cons_zero, List.set_cons_succ, i64_w, i32_w]
        rfl
      refine take_ (i := 6) (N := some 17) (v := ?_) (a' := ?_) #[true, true, true, true, true, true, true, true, false, true, false, false, false, false] rfl rfl (by kernel_rfl) (fun _ _ _ h => h) (Or.inl ⟨by rfl, ?_⟩) hHeld ?_ ?_
      rotate_left
      · rintro w' ⟨s0, s1, s2, s3, s4, s5, s6, s7, s8, s9⟩
        go_simp
        with_reducible rfl
      rotate_left
      · simp only [Act.put, List.setIfInBounds_toArray, List.set_cons_zero, List.set_cons_succ, i64_w, i32_w]
        rfl
      refine take_ (i := 8) (N := some 19) (v := ?_) (a' := ?_) #[true, true, true, true, true, true, true, true, true, true, false, false, false, false] rfl rfl (by kernel_rfl) (fun _ _ _ h => h) (Or.inl ⟨by rfl, ?_⟩) hHeld ?_ ?_
      rotate_left
      · rintro w' ⟨s0, s1, s2, s3, s4, s5, s6, s7, s8, s9⟩
        go_simp
        with_reducible rfl
      rotate_left
      · simp only [Act.put, List.setIfInBounds_toArray, List.set_cons_zero, List.set_cons_succ, i64_w, i32_w]
        rfl
      refine take_ (i := 10) (N := some 21) (v := ?_) (a' := ?_) #[true, true, true, true, true, true, true, true, true, true, true, false, false, false] rfl rfl (by kernel_rfl) (fun _ _ _ h => h) (Or.inl ⟨by rfl, ?_⟩) hHeld ?_ ?_
      rotate_left
      · rintro w' ⟨s0, s1, s2, s3, s4, s5, s6, s7, s8, s9⟩
        go_simp
        with_reducible rfl
      rotate_left
      · simp only [Act.put, List.setIfInBounds_toArray, List.set_cons_zero, List.set_cons_succ, i64_w, i32_w]
        rfl
      refine pure_ (i := 11) (N := some 22) (v := ?_) (a' := ?_) #[true, true, true, true, true, true, true, true, true, true, true, true, false, false] rfl rfl (by kernel_rfl) (fun _ _ _ h => h) (Or.inl ⟨by rfl, ?_⟩) ?_ ?_
      rotate_left
      · intro w'
        go_simp
        with_reducible rfl
      rotate_left
      · simp only [Act.put, List.setIfInBounds_toArray, List.set_cons_zero, List.set_cons_succ, i64_w, i32_w]
        rfl
      refine pure_ (i := 12) (N := some 23) (v := ?_) (a' := ?_) #[true, true, true, true, true, true, true, true, true, true, true, true, true, false] rfl rfl (by kernel_rfl) (fun _ _ _ h => h) (Or.inl ⟨by rfl, ?_⟩) ?_ ?_
      rotate_left
      · intro w'
        go_simp
        with_reducible rfl
      rotate_left
      · simp only [Act.put, List.setIfInBounds_toArray, List.set_cons_zero, List.set_cons_succ, i64_w, i32_w]
        rfl
      refine pure_ (i := 13) (N := some 24) (v := ?_) (a' := ?_) #[true, true, true, true, true, true, true, true, true, true, true, true, true, true] rfl rfl (by kernel_rfl) (fun _ _ _ h => h) (Or.inl ⟨by rfl, ?_⟩) ?_ ?_
      rotate_left
      · intro w'
        go_simp
        with_reducible rfl
      rotate_left
      · simp only [Act.put, List.setIfInBounds_toArray, List.set_cons_zero, List.set_cons_succ, i64_w, i32_w]
        rfl
      refine done_ (by kernel_rfl) ?_
      obtain ⟨W7, hw7⟩ : ∃ x : World, x = W4.drew := ⟨_, rfl⟩
      have hbd7 : Below W4.heap.size W4 W7 := by rw [hw7]; exact below_drew (Below.refl _ _)
      rw [← hw7]
      clear hw7
      clear zW6_0 zW6_1 zW6_2 zW6_3 zW6_4 zW6_5 zl6_0 zl6_1 zl6_2 zl6_3
      have HB8 := Aside0.mk (below_step HB5.out hbd7)
      have BW8 : Aside0 (W7.heap[g]? = some (.cells #[.int .i64 nd, .int .i64 lf, .int .i64 tk, .bool sw, .slice A v.length c, .int .i64 ag] 68 (0, 0))) := ⟨(hbd7.block _ (blk_lt BW5.out)).trans BW5.out⟩
      have Bl8 : Aside0 (W7.heap[gl4]? = some (.cells #[.int .i64 l.1, .int .i64 l.2.1, .int .i64 l.2.2.1, .int .i64 l.2.2.2] 24 (0, 0))) := ⟨(hbd7.block _ (blk_lt Bl4.out)).trans Bl4.out⟩
      have RV8 := Aside0.mk (Kd.R_below RV5.out hbd7)
      clear hbd7
      have zW9_0 : W7.cell? ⟨g, 0, none⟩ = some (.int .i64 nd) := (blk_cell BW8.out 0).trans rfl
      have zW9_1 : W7.cell? ⟨g, 1, none⟩ = some (.int .i64 lf) := (blk_cell BW8.out 1).trans rfl
      have zW9_2 : W7.cell? ⟨g, 2, none⟩ = some (.int .i64 tk) := (blk_cell BW8.out 2).trans rfl
      have zW9_3 : W7.cell? ⟨g, 3, none⟩ = some (.bool sw) := (blk_cell BW8.out 3).trans rfl
      have zW9_4 : W7.cell? ⟨g, 4, none⟩ = some (.slice A v.length c) := (blk_cell BW8.out 4).trans rfl
      have zW9_5 : W7.cell? ⟨g, 5, none⟩ = some (.int .i64 ag) := (blk_cell BW8.out 5).trans rfl
      have zl9_0 : W7.cell? ⟨gl4, 0, none⟩ = some (.int .i64 l.1) := (blk_cell Bl8.out 0).trans rfl
      have zl9_1 : W7.cell? ⟨gl4, 1, none⟩ = some (.int .i64 l.2.1) := (blk_cell Bl8.out 1).trans rfl
      have zl9_2 : W7.cell? ⟨gl4, 2, none⟩ = some (.int .i64 l.2.2.1) := (blk_cell Bl8.out 2).trans rfl
      have zl9_3 : W7.cell? ⟨gl4, 3, none⟩ = some (.int .i64 l.2.2.2) := (blk_cell Bl8.out 3).trans rfl
      go_wp2_with fail
      go_ret2
      rw [HN.out, HLB.out]
      exact ⟨rfl, HB8.out⟩
    · skip
      refine start_ (n := 14) (S := fun w' => w'.cell? ⟨g, 0, none⟩ = some (.int .i64 nd) ∧ w'.cell? ⟨g, 1, none⟩ = some (.int .i64 lf) ∧ w'.cell? ⟨g, 2, none⟩ = some (.int .i64 tk) ∧ w'.cell? ⟨g, 3, none⟩ = some (.bool sw) ∧ w'.cell? ⟨g, 4, none⟩ = some (.slice A v.length c) ∧ w'.cell? ⟨g, 5, none⟩ = some (.int .i64 ag) ∧ w'.cell? ⟨gl4, 0, none⟩ = some (.int .i64 l.1) ∧ w'.cell? ⟨gl4, 1, none⟩ = some (.int .i64 l.2.1) ∧ w'.cell? ⟨gl4, 2, none⟩ = some (.int .i64 l.2.2.1) ∧ w'.cell? ⟨gl4, 3, none⟩ = some (.int .i64 l.2.2.2)) (ds := []) #[false, false, false, false, false, false, false, false, false, false, false, false, false, false] (by kernel_rfl) rfl rfl ⟨zW6_0, zW6_1, zW6_2, zW6_3, zW6_4, zW6_5, zl6_0, zl6_1, zl6_2, zl6_3⟩ (fun hHeld => ?_)
      refine pure_ (i := 0) (N := some 11) (v := ?_) (a' := ?_) #[true, false, false, false, false, false, false, false, false, false, false, false, false, false] rfl rfl (by kernel_rfl) (fun _ _ _ h => h) (Or.inl ⟨by rfl, ?_⟩) ?_ ?_
      rotate_left
      · intro w'
        go_simp
        with_reducible rfl
      rotate_left
      · simp only [Act.put, List.setIfInBounds_toArray, List.set_cons_zero, List.set_cons_succ, i64_w, i32_w]
        rfl
      refine pure_ (i := 1) (N := some 12) (v := ?_) (a' := ?_) #[true, true, false, false, false, false, false, false, false, false, false, false, false, false] rfl rfl (by kernel_rfl) (fun _ _ _ h => h) (Or.inl ⟨by rfl, ?_⟩) ?_ ?_
      rotate_left
      · intro w'
        go_simp
        with_reducible rfl
      rotate_left
      · simp only [Act.put, List.setIfInBounds_toArray, List.set_cons_zero, List.set_cons_succ, i64_w, i32_w]
        rfl
      refine pure_ (i := 2) (N := some 13) (v := ?_) (a' := ?_) #[true, true, true, false, false, false, false, false, false, false, false, false, false, false] rfl rfl (by kernel_rfl) (fun _ _ _ h => h) (Or.inl ⟨by rfl, ?_⟩) ?_ ?_
      rotate_left
      · intro w'
        go_simp
        with_reducible rfl
      rotate_left
      · simp only [Act.put, List.setIfInBounds_toArray, List.set_cons_zero, List.set_cons_succ, i64_w, i32_w]
        rfl
      refine pure_ (i := 3) (N := some 14) (v := ?_) (a' := ?_) #[true, true, true, true, false, false, false, false, false, false, false, false, false, false] rfl rfl (by kernel_rfl) (fun _ _ _ h => h) (Or.inl ⟨by rfl, ?_⟩) ?_ ?_
      rotate_left
      · intro w'
        go_simp
        with_reducible rfl
      rotate_left
      · simp only [Act.put, List.setIfInBounds_toArray, List.set_cons_zero, List.set_cons_succ, i64_w, i32_w]
        rfl
      refine pure_ (i := 4) (N := some 15) (v := ?_) (a' := ?_) #[true, true, true, true, true, false, false, false, false, false, false, false, false, false] rfl rfl (by kernel_rfl) (fun _ _ _ h => h) (Or.inl ⟨by rfl, ?_⟩) ?_ ?_
      rotate_left
      · intro w'
        go_simp
        with_reducible rfl
      rotate_left
      · simp only [Act.put, List.setIfInBounds_toArray, List.set_cons_zero, List.set_cons_succ, i64_w, i32_w]
        rfl
      refine pure_ (i := 5) (N := some 16) (v := ?_) (a' := ?_) #[true, true, true, true, true, true, false, false, false, false, false, false, false, false] rfl rfl (by kernel_rfl) (fun _ _ _ h => h) (Or.inl ⟨by rfl, ?_⟩) ?_ ?_
      rotate_left
      · intro w'
        go_simp
        with_reducible rfl
      rotate_left
      · simp only [Act.put, List.setIfInBounds_toArray, List.set_cons_zero, List.set_cons_succ, i64_w, i32_w]
        rfl
      refine pure_ (i := 7) (N := some 18) (v := ?_) (a' := ?_) #[true, true, true, true, true, true, false, true, false, false, false, false, false, false] rfl rfl (by kernel_rfl) (fun _ _ _ h => h) (Or.inl ⟨by rfl, ?_⟩) ?_ ?_
      rotate_left
      · intro w'
        go_simp
        with_reducible rfl
      rotate_left
      · simp only [Act.put, List.setIfInBounds_toArray, List.set_cons_zero, List.set_cons_succ, i64_w, i32_w]
        rfl
      refine pure_ (i := 9) (N := some 20) (v := ?_) (a' := ?_) #[true, true, true, true, true, true, false, true, false, true, false, false, false, false] rfl rfl (by kernel_rfl) (fun _ _ _ h => h) (Or.inl ⟨by rfl, ?_⟩) ?_ ?_
      rotate_left
      · intro w'
        go_simp
        with_reducible rfl
      rotate_left
      · simp only [Act.put, List.setIfInBounds_toArray, List.set_cons_zero, List.set_cons_succ, i64_w, i32_w]
        rfl
      refine take_ (i := 6) (N := some 17) (v := ?_) (a' := ?_) #[true, true, true, true, true, true, true, true, false, true, false, false, false, false] rfl rfl (by kernel_rfl) (fun _ _ _ h => h) (Or.inl ⟨by rfl, ?_⟩) hHeld ?_ ?_
      rotate_left
      · rintro w' ⟨s0, s1, s2, s3, s4, s5, s6, s7, s8, s9⟩
        go_simp
        with_reducible rfl
      rotate_left
      · simp only [Act.put, List.setIfInBounds_toArray, List.set_cons_zero, List.set_cons_succ, i64_w, i32_w]
        rfl
      refine take_ (i := 8) (N := some 19) (v := ?_) (a' := ?_) #[true, true, true, true, true, true, true, true, true, true, false, false, false, false] rfl rfl (by kernel_rfl) (fun _ _ _ h => h) (Or.inl ⟨by rfl, ?_⟩) hHeld ?_ ?_
      rotate_left
      · rintro w' ⟨s0, s1, s2, s3, s4, s5, s6, s7, s8, s9⟩
        go_simp
        with_reducible rfl
      rotate_left
      · simp only [Act.put, List.setIfInBounds_toArray, List.set_cons_zero, List.set_cons_succ, i64_w, i32_w]
        rfl
      refine take_ (i := 10) (N := some 21) (v := ?_) (a' := ?_) #[true, true, true, true, true, true, true, true, true, true, true, false, false, false] rfl rfl (by kernel_rfl) (fun _ _ _ h => h) (Or.inl ⟨by rfl, ?_⟩) hHeld ?_ ?_
      rotate_left
      · rintro w' ⟨s0, s1, s2, s3, s4, s5, s6, s7, s8, s9⟩
        go_simp
        with_reducible rfl
      rotate_left
      · simp only [Act.put, List.setIfInBounds_toArray, List.set_cons_zero, List.set_cons_succ, i64_w, i32_w]
        rfl
      refine pure_ (i := 11) (N := some 22) (v := ?_) (a' := ?_) #[true, true, true, true, true, true, true, true, true, true, true, true, false, false] rfl rfl (by kernel_rfl) (fun _ _ _ h => h) (Or.inl ⟨by rfl, ?_⟩) ?_ ?_
      rotate_left
      · intro w'
        go_simp
        with_reducible rfl
      rotate_left
      · simp only [Act.put, List.setIfInBounds_toArray, List.set_cons_zero, List.set_cons_succ, i64_w, i32_w]
        rfl
      refine pure_ (i := 12) (N := some 23) (v := ?_) (a' := ?_) #[true, true, true, true, true, true, true, true, true, true, true, true, true, false] rfl rfl (by kernel_rfl) (fun _ _ _ h => h) (Or.inl ⟨by rfl, ?_⟩) ?_ ?_
      rotate_left
      · intro w'
        go_simp
        with_reducible rfl
      rotate_left
      · simp only [Act.put, List.setIfInBounds_toArray, List.set_cons_zero, List.set_cons_succ, i64_w, i32_w]
        rfl
      refine pure_ (i := 13) (N := some 24) (v := ?_) (a' := ?_) #[true, true, true, true, true, true, true, true, true, true, true, true, true, true] rfl rfl (by kernel_rfl) (fun _ _ _ h => h) (Or.inl ⟨by rfl, ?_⟩) ?_ ?_
      rotate_left
      · intro w'
        go_simp
        with_reducible rfl
      rotate_left
      · simp only [Act.put, List.setIfInBounds_toArray, List.set_cons_zero, List.set_cons_succ, i64_w, i32_w]
        rfl
      refine done_ (by kernel_rfl) ?_
      obtain ⟨W7, hw7⟩ : ∃ x : World, x = W4.drew := ⟨_, rfl⟩
      have hbd7 : Below W4.heap.size W4 W7 := by rw [hw7]; exact below_drew (Below.refl _ _)
      rw [← hw7]
      clear hw7
      clear zW6_0 zW6_1 zW6_2 zW6_3 zW6_4 zW6_5 zl6_0 zl6_1 zl6_2 zl6_3
      have HB8 := Aside0.mk (below_step HB5.out hbd7)
      have BW8 : Aside0 (W7.heap[g]? = some (.cells #[.int .i64 nd, .int .i64 lf, .int .i64 tk, .bool sw, .slice A v.length c, .int .i64 ag] 68 (0, 0))) := ⟨(hbd7.block _ (blk_lt BW5.out)).trans BW5.out⟩
      have Bl8 : Aside0 (W7.heap[gl4]? = some (.cells #[.int .i64 l.1, .int .i64 l.2.1, .int .i64 l.2.2.1, .int .i64 l.2.2.2] 24 (0, 0))) := ⟨(hbd7.block _ (blk_lt Bl4.out)).trans Bl4.out⟩
      have RV8 := Aside0.mk (Kd.R_below RV5.out hbd7)
      clear hbd7
      have zW9_0 : W7.cell? ⟨g, 0, none⟩ = some (.int .i64 nd) := (blk_cell BW8.out 0).trans rfl
      have zW9_1 : W7.cell? ⟨g, 1, none⟩ = some (.int .i64 lf) := (blk_cell BW8.out 1).trans rfl
      have zW9_2 : W7.cell? ⟨g, 2, none⟩ = some (.int .i64 tk) := (blk_cell BW8.out 2).trans rfl
      have zW9_3 : W7.cell? ⟨g, 3, none⟩ = some (.bool sw) := (blk_cell BW8.out 3).trans rfl
      have zW9_4 : W7.cell? ⟨g, 4, none⟩ = some (.slice A v.length c) := (blk_cell BW8.out 4).trans rfl
      have zW9_5 : W7.cell? ⟨g, 5, none⟩ = some (.int .i64 ag) := (blk_cell BW8.out 5).trans rfl
      have zl9_0 : W7.cell? ⟨gl4, 0, none⟩ = some (.int .i64 l.1) := (blk_cell Bl8.out 0).trans rfl
      have zl9_1 : W7.cell? ⟨gl4, 1, none⟩ = some (.int .i64 l.2.1) := (blk_cell Bl8.out 1).trans rfl
      have zl9_2 : W7.cell? ⟨gl4, 2, none⟩ = some (.int .i64 l.2.2.1) := (blk_cell Bl8.out 2).trans rfl
      have zl9_3 : W7.cell? ⟨gl4, 3, none⟩ = some (.int .i64 l.2.2.2) := (blk_cell Bl8.out 3).trans rfl
      go_wp2_with fail
      go_ret2
      rw [HN.out, HLB.out]
      exact ⟨rfl, HB8.out⟩
def wantOf (nd lf tk : Int) (sw : Bool) (v : List Int) (ag : Int) : ChT :=
  if sw = true then (if leadsB nd lf v = true then (2, v, [(leaseOf v).1, (leaseOf v).2.1, (leaseOf v).2.2.1, wrap64 ((leaseOf v).2.2.2 + 1)])
    else if okL v = true ∧ ag < tk then (1, [], []) else (2, v, [wrap64 ((leaseOf v).1 + 1), nd, lf, 0])) else (1, [], [])
def WantPost (W : World) (c : ChT) (e : Ending) (w' : World) : Prop := ∃ B d B' d', e = .returned (.agg #[.int .i64 c.1, .slice B c.2.1.length d, .slice B' c.2.2.length d']) ∧ (Kd.int .i64).R 3 w' W.heap.size (fun _ => True) (.slice B c.2.1.length d) c.2.1 ∧ (Kd.int .i64).R 3 w' W.heap.size (fun k => some k ≠ (Value.slice B c.2.1.length d).ownBlock) (.slice B' c.2.2.length d') c.2.2 ∧ Below W.heap.size W w'
set_option maxHeartbeats 4000000 in
set_option maxRecDepth 100000 in
theorem want_unseen (W : World) (g : Nat) (nd lf tk : Int) (v : List Int) (ag : Int) (h : WAt W g nd lf tk false v ag) :
    Calls Try.prog 17 #[.pointer (some ⟨g, 0, none⟩)] W fun e w' => WantPost W (1, [], []) e w' := by
  have hu32 := Try.underlying32
  have hu39 := Try.underlying39
  have hu68 := Try.underlying68
  have hu66 := Try.underlying66
  have hu24 := Try.underlying24
  have HW := Aside0.mk h
  obtain ⟨A, c, hB0, hR0, hvl⟩ := h
  have BW0 := Aside0.mk hB0
  have HR0 := Aside0.mk hR0
  have hlc := (Kd.R_reads' hR0).2.1
  have hmax := Kd.C_max (Kd.R_reads' hR0).2.2
  clear hB0 hR0
  have zW1_0 : W.cell? ⟨g, 0, none⟩ = some (.int .i64 nd) := (blk_cell BW0.out 0).trans rfl
  have zW1_1 : W.cell? ⟨g, 1, none⟩ = some (.int .i64 lf) := (blk_cell BW0.out 1).trans rfl
  have zW1_2 : W.cell? ⟨g, 2, none⟩ = some (.int .i64 tk) := (blk_cell BW0.out 2).trans rfl
  have zW1_3 : W.cell? ⟨g, 3, none⟩ = some (.bool false) := (blk_cell BW0.out 3).trans rfl
  have zW1_4 : W.cell? ⟨g, 4, none⟩ = some (.slice A v.length c) := (blk_cell BW0.out 4).trans rfl
  have zW1_5 : W.cell? ⟨g, 5, none⟩ = some (.int .i64 ag) := (blk_cell BW0.out 5).trans rfl
  go_enter Try.func17, Try.ntmps17
  go_wp2_with ((with_reducible refine gate_dst (N := 2) rfl ?_); refine box_event ?hg (N := 2) ?hd (cs := #[.int .i64 0, .slice none 0 0, .slice none 0 0]) (t := 39) ?hr ?_; (case hd => rfl); (case hg => rfl); (case hr => first | (go_simp; done) | (go_simp; rfl)); intro gb2 hg2 W2 hbox2 hb2; have GSb2 : Aside0 (W.heap.size ≤ gb2) := ⟨by rw [hg2]; exact Nat.le_refl _⟩; have Bb2 := Aside0.mk hbox2; have Gb2 : Aside0 (W.heap.size ≤ gb2) := ⟨by rw [hg2]; exact Nat.le_refl _⟩; have hbk2 := hb2; clear hg2 hbox2; clear zW1_0 zW1_1 zW1_2 zW1_3 zW1_4 zW1_5; have HB3 := Aside0.mk hbk2; have BW3 : Aside0 (W2.heap[g]? = some (.cells #[.int .i64 nd, .int .i64 lf, .int .i64 tk, .bool false, .slice A v.length c, .int .i64 ag] 68 (0, 0))) := ⟨(hbk2.block _ (blk_lt BW0.out)).trans BW0.out⟩; have RV3 := Aside0.mk (Kd.R_below HR0.out hbk2); clear hbk2; clear hb2; have zW4_0 : W2.cell? ⟨g, 0, none⟩ = some (.int .i64 nd) := (blk_cell BW3.out 0).trans rfl; have zW4_1 : W2.cell? ⟨g, 1, none⟩ = some (.int .i64 lf) := (blk_cell BW3.out 1).trans rfl; have zW4_2 : W2.cell? ⟨g, 2, none⟩ = some (.int .i64 tk) := (blk_cell BW3.out 2).trans rfl; have zW4_3 : W2.cell? ⟨g, 3, none⟩ = some (.bool false) := (blk_cell BW3.out 3).trans rfl; have zW4_4 : W2.cell? ⟨g, 4, none⟩ = some (.slice A v.length c) := (blk_cell BW3.out 4).trans rfl; have zW4_5 : W2.cell? ⟨g, 5, none⟩ = some (.int .i64 ag) := (blk_cell BW3.out 5).trans rfl; have zb4_0 : W2.cell? ⟨gb2, 0, none⟩ = some (.int .i64 0) := (blk_cell Bb2.out 0).trans rfl; have zb4_1 : W2.cell? ⟨gb2, 1, none⟩ = some (.slice none 0 0) := (blk_cell Bb2.out 1).trans rfl; have zb4_2 : W2.cell? ⟨gb2, 2, none⟩ = some (.slice none 0 0) := (blk_cell Bb2.out 2).trans rfl)
  go_wp2_with fail
  refine (read_v _).mono ?_
  rintro e w8 ⟨B, d, B', d', rfl, hRa, hRb, hb5⟩
  clear zW4_0 zW4_1 zW4_2 zW4_3 zW4_4 zW4_5 zb4_0 zb4_1 zb4_2
  have HB6 := Aside0.mk (below_step HB3.out hb5)
  have BW6 : Aside0 (w8.heap[g]? = some (.cells #[.int .i64 nd, .int .i64 lf, .int .i64 tk, .bool false, .slice A v.length c, .int .i64 ag] 68 (0, 0))) := ⟨(hb5.block _ (blk_lt BW3.out)).trans BW3.out⟩
  have Bb6 : Aside0 (w8.heap[gb2]? = some (.cells #[.int .i64 0, .slice none 0 0, .slice none 0 0] 39 (0, 0))) := ⟨(hb5.block _ (blk_lt Bb2.out)).trans Bb2.out⟩
  have RV6 := Aside0.mk (Kd.R_below RV3.out hb5)
  clear hb5
  have HRa := Aside0.mk (Kd.R_lower hRa HB3.out.size)
  have HRb := Aside0.mk (Kd.R_lower hRb HB3.out.size)
  clear hRa hRb
  have hf0 := blk_frozen Bb6.out 0
  have hf1 := blk_frozen Bb6.out 1
  have hf2 := blk_frozen Bb6.out 2
  have zb7_0 : w8.cell? ⟨gb2, 0, none⟩ = some (.int .i64 0) := (blk_cell Bb6.out 0).trans rfl
  have zb7_1 : w8.cell? ⟨gb2, 1, none⟩ = some (.slice none 0 0) := (blk_cell Bb6.out 1).trans rfl
  have zb7_2 : w8.cell? ⟨gb2, 2, none⟩ = some (.slice none 0 0) := (blk_cell Bb6.out 2).trans rfl
  go_wp2_with fail
  refine bodyPost_ret (results_cell_row rfl _ _ gb2 39 #[.int .i64 1, .slice B 0 d, .slice B' 0 d'] (0, 0) _ rfl (by refine blk_put (cs := #[.int .i64 1, .slice B 0 d, .slice none 0 0]) ?_ 2 _ rfl; refine blk_put (cs := #[.int .i64 1, .slice none 0 0, .slice none 0 0]) ?_ 1 _ rfl; refine blk_put (cs := #[.int .i64 0, .slice none 0 0, .slice none 0 0]) ?_ 0 _ rfl; exact Bb6.out) Try.underlying39 rfl (by kernel_rfl)) rfl ?_
  exact ⟨_, _, _, _, rfl, Kd.R_mono (Kd.R_far (p := ⟨gb2, 2, none⟩) (Kd.R_far (p := ⟨gb2, 1, none⟩) (Kd.R_far (p := ⟨gb2, 0, none⟩) (Kd.R_types HRa.out Bb6.out (by decide)) (fun _ hk => hk.2) _) (fun _ hk => hk.2) _) (fun _ hk => hk.2) _) (fun _ _ => trivial), Kd.R_mono (Kd.R_far (p := ⟨gb2, 2, none⟩) (Kd.R_far (p := ⟨gb2, 1, none⟩) (Kd.R_far (p := ⟨gb2, 0, none⟩) (Kd.R_types HRb.out Bb6.out (by decide)) (fun _ hk => hk.2) _) (fun _ hk => hk.2) _) (fun _ hk => hk.2) _) (fun _ hk => hk.1), by repeat (first | exact HB6.out | refine below_set ?_ GSb2.out)⟩
set_option maxHeartbeats 4000000 in
set_option maxRecDepth 100000 in
theorem want_leads (W : World) (g : Nat) (nd lf tk : Int) (v : List Int) (ag : Int) (h : WAt W g nd lf tk true v ag) (l : LeaseT) (q : Bool) (hl : leaseOf v = l) (hq : okL v = q) (hlb : leadsB nd lf v = true) (hn : leadsN nd lf v = l.1) :
    Calls Try.prog 17 #[.pointer (some ⟨g, 0, none⟩)] W fun e w' => WantPost W (2, v, [l.1, l.2.1, l.2.2.1, wrap64 (l.2.2.2 + 1)]) e w' := by
  have hu32 := Try.underlying32
  have hu39 := Try.underlying39
  have hu68 := Try.underlying68
  have hu66 := Try.underlying66
  have hu24 := Try.underlying24
  have HL := Aside0.mk hl
  have HQ := Aside0.mk hq
  have HLB := Aside0.mk hlb
  have HN := Aside0.mk hn
  clear hl hq hlb hn
  have HW := Aside0.mk h
  obtain ⟨A, c, hB0, hR0, hvl⟩ := h
  have BW0 := Aside0.mk hB0
  have HR0 := Aside0.mk hR0
  have hlc := (Kd.R_reads' hR0).2.1
  have hmax := Kd.C_max (Kd.R_reads' hR0).2.2
  clear hB0 hR0
  have zW1_0 : W.cell? ⟨g, 0, none⟩ = some (.int .i64 nd) := (blk_cell BW0.out 0).trans rfl
  have zW1_1 : W.cell? ⟨g, 1, none⟩ = some (.int .i64 lf) := (blk_cell BW0.out 1).trans rfl
  have zW1_2 : W.cell? ⟨g, 2, none⟩ = some (.int .i64 tk) := (blk_cell BW0.out 2).trans rfl
  have zW1_3 : W.cell? ⟨g, 3, none⟩ = some (.bool true) := (blk_cell BW0.out 3).trans rfl
  have zW1_4 : W.cell? ⟨g, 4, none⟩ = some (.slice A v.length c) := (blk_cell BW0.out 4).trans rfl
  have zW1_5 : W.cell? ⟨g, 5, none⟩ = some (.int .i64 ag) := (blk_cell BW0.out 5).trans rfl
  go_enter Try.func17, Try.ntmps17
  go_wp2_with ((with_reducible refine gate_dst (N := 2) rfl ?_); refine box_event ?hg (N := 2) ?hd (cs := #[.int .i64 0, .slice none 0 0, .slice none 0 0]) (t := 39) ?hr ?_; (case hd => rfl); (case hg => rfl); (case hr => first | (go_simp; done) | (go_simp; rfl)); intro gb2 hg2 W2 hbox2 hb2; have GSb2 : Aside0 (W.heap.size ≤ gb2) := ⟨by rw [hg2]; exact Nat.le_refl _⟩; have Bb2 := Aside0.mk hbox2; have Gb2 : Aside0 (W.heap.size ≤ gb2) := ⟨by rw [hg2]; exact Nat.le_refl _⟩; have hbk2 := hb2; clear hg2 hbox2; clear zW1_0 zW1_1 zW1_2 zW1_3 zW1_4 zW1_5; have HB3 := Aside0.mk hbk2; have BW3 : Aside0 (W2.heap[g]? = some (.cells #[.int .i64 nd, .int .i64 lf, .int .i64 tk, .bool true, .slice A v.length c, .int .i64 ag] 68 (0, 0))) := ⟨(hbk2.block _ (blk_lt BW0.out)).trans BW0.out⟩; have RV3 := Aside0.mk (Kd.R_below HR0.out hbk2); clear hbk2; clear hb2; have zW4_0 : W2.cell? ⟨g, 0, none⟩ = some (.int .i64 nd) := (blk_cell BW3.out 0).trans rfl; have zW4_1 : W2.cell? ⟨g, 1, none⟩ = some (.int .i64 lf) := (blk_cell BW3.out 1).trans rfl; have zW4_2 : W2.cell? ⟨g, 2, none⟩ = some (.int .i64 tk) := (blk_cell BW3.out 2).trans rfl; have zW4_3 : W2.cell? ⟨g, 3, none⟩ = some (.bool true) := (blk_cell BW3.out 3).trans rfl; have zW4_4 : W2.cell? ⟨g, 4, none⟩ = some (.slice A v.length c) := (blk_cell BW3.out 4).trans rfl; have zW4_5 : W2.cell? ⟨g, 5, none⟩ = some (.int .i64 ag) := (blk_cell BW3.out 5).trans rfl; have zb4_0 : W2.cell? ⟨gb2, 0, none⟩ = some (.int .i64 0) := (blk_cell Bb2.out 0).trans rfl; have zb4_1 : W2.cell? ⟨gb2, 1, none⟩ = some (.slice none 0 0) := (blk_cell Bb2.out 1).trans rfl; have zb4_2 : W2.cell? ⟨gb2, 2, none⟩ = some (.slice none 0 0) := (blk_cell Bb2.out 2).trans rfl)
  refine (lease_c _ g nd lf tk true v ag ⟨A, c, BW3.out, RV3.out, hvl⟩).mono ?_
  rw [HL.out, HQ.out]
  rintro e w3 ⟨rfl, hb3⟩
  clear zW4_0 zW4_1 zW4_2 zW4_3 zW4_4 zW4_5 zb4_0 zb4_1 zb4_2
  have HB6 := Aside0.mk (below_step HB3.out hb3)
  have BW6 : Aside0 (w3.heap[g]? = some (.cells #[.int .i64 nd, .int .i64 lf, .int .i64 tk, .bool true, .slice A v.length c, .int .i64 ag] 68 (0, 0))) := ⟨(hb3.block _ (blk_lt BW3.out)).trans BW3.out⟩
  have Bb6 : Aside0 (w3.heap[gb2]? = some (.cells #[.int .i64 0, .slice none 0 0, .slice none 0 0] 39 (0, 0))) := ⟨(hb3.block _ (blk_lt Bb2.out)).trans Bb2.out⟩
  have RV6 := Aside0.mk (Kd.R_below RV3.out hb3)
  clear hb3
  have zW7_0 : w3.cell? ⟨g, 0, none⟩ = some (.int .i64 nd) := (blk_cell BW6.out 0).trans rfl
  have zW7_1 : w3.cell? ⟨g, 1, none⟩ = some (.int .i64 lf) := (blk_cell BW6.out 1).trans rfl
  have zW7_2 : w3.cell? ⟨g, 2, none⟩ = some (.int .i64 tk) := (blk_cell BW6.out 2).trans rfl
  have zW7_3 : w3.cell? ⟨g, 3, none⟩ = some (.bool true) := (blk_cell BW6.out 3).trans rfl
  have zW7_4 : w3.cell? ⟨g, 4, none⟩ = some (.slice A v.length c) := (blk_cell BW6.out 4).trans rfl
  have zW7_5 : w3.cell? ⟨g, 5, none⟩ = some (.int .i64 ag) := (blk_cell BW6.out 5).trans rfl
  have zb7_0 : w3.cell? ⟨gb2, 0, none⟩ = some (.int .i64 0) := (blk_cell Bb6.out 0).trans rfl
  have zb7_1 : w3.cell? ⟨gb2, 1, none⟩ = some (.slice none 0 0) := (blk_cell Bb6.out 1).trans rfl
  have zb7_2 : w3.cell? ⟨gb2, 2, none⟩ = some (.slice none 0 0) := (blk_cell Bb6.out 2).trans rfl
  have zaW8_0 : ∀ o, (w3.alloc o).cell? ⟨g, 0, none⟩ = some (.int .i64 nd) := fun o => (blk_cell (blk_alloc BW6.out o) 0).trans rfl
  have zaW8_1 : ∀ o, (w3.alloc o).cell? ⟨g, 1, none⟩ = some (.int .i64 lf) := fun o => (blk_cell (blk_alloc BW6.out o) 1).trans rfl
  have zaW8_2 : ∀ o, (w3.alloc o).cell? ⟨g, 2, none⟩ = some (.int .i64 tk) := fun o => (blk_cell (blk_alloc BW6.out o) 2).trans rfl
  have zaW8_3 : ∀ o, (w3.alloc o).cell? ⟨g, 3, none⟩ = some (.bool true) := fun o => (blk_cell (blk_alloc BW6.out o) 3).trans rfl
  have zaW8_4 : ∀ o, (w3.alloc o).cell? ⟨g, 4, none⟩ = some (.slice A v.length c) := fun o => (blk_cell (blk_alloc BW6.out o) 4).trans rfl
  have zaW8_5 : ∀ o, (w3.alloc o).cell? ⟨g, 5, none⟩ = some (.int .i64 ag) := fun o => (blk_cell (blk_alloc BW6.out o) 5).trans rfl
  have zab8_0 : ∀ o, (w3.alloc o).cell? ⟨gb2, 0, none⟩ = some (.int .i64 0) := fun o => (blk_cell (blk_alloc Bb6.out o) 0).trans rfl
  have zab8_1 : ∀ o, (w3.alloc o).cell? ⟨gb2, 1, none⟩ = some (.slice none 0 0) := fun o => (blk_cell (blk_alloc Bb6.out o) 1).trans rfl
  have zab8_2 : ∀ o, (w3.alloc o).cell? ⟨gb2, 2, none⟩ = some (.slice none 0 0) := fun o => (blk_cell (blk_alloc Bb6.out o) 2).trans rfl
  go_wp2_with fail
  obtain ⟨W9, hw9⟩ : ∃ x : World, x = w3.alloc (.cells #[.int .i64 l.1, .int .i64 l.2.1, .int .i64 l.2.2.1, .int .i64 l.2.2.2] 24) := ⟨_, rfl⟩
  have hbs9 : Below w3.heap.size w3 W9 := by rw [hw9]; repeat (first | exact Below.refl _ _ | refine below_alloc ?_ _ | refine below_drew ?_)
  obtain ⟨gl9, hgl9⟩ : ∃ x, x = w3.heap.size := ⟨_, rfl⟩
  have GSl9 : Aside0 (W.heap.size ≤ gl9) := ⟨by rw [hgl9]; have := HB6.out.size; omega⟩
  have Bl9 : Aside0 (W9.heap[gl9]? = some (.cells #[.int .i64 l.1, .int .i64 l.2.1, .int .i64 l.2.2.1, .int .i64 l.2.2.2] 24 (0, 0))) := ⟨by rw [hw9, hgl9]; exact blk_new _ _⟩
  rw [← hw9]
  rw [← hgl9]
  clear hw9 hgl9
  clear zW7_0 zW7_1 zW7_2 zW7_3 zW7_4 zW7_5 zb7_0 zb7_1 zb7_2 zaW8_0 zaW8_1 zaW8_2 zaW8_3 zaW8_4 zaW8_5 zab8_0 zab8_1 zab8_2
  have HB10 := Aside0.mk (below_step HB6.out hbs9)
  have BW10 : Aside0 (W9.heap[g]? = some (.cells #[.int .i64 nd, .int .i64 lf, .int .i64 tk, .bool true, .slice A v.length c, .int .i64 ag] 68 (0, 0))) := ⟨(hbs9.block _ (blk_lt BW6.out)).trans BW6.out⟩
  have Bb10 : Aside0 (W9.heap[gb2]? = some (.cells #[.int .i64 0, .slice none 0 0, .slice none 0 0] 39 (0, 0))) := ⟨(hbs9.block _ (blk_lt Bb6.out)).trans Bb6.out⟩
  have RV10 := Aside0.mk (Kd.R_below RV6.out hbs9)
  clear hbs9
  refine (leads_c _ g nd lf tk true v ag ⟨A, c, BW10.out, RV10.out, hvl⟩).mono ?_
  rw [HLB.out, HN.out]
  rintro e w4 ⟨rfl, hb4⟩
  have HB11 := Aside0.mk (below_step HB10.out hb4)
  have BW11 : Aside0 (w4.heap[g]? = some (.cells #[.int .i64 nd, .int .i64 lf, .int .i64 tk, .bool true, .slice A v.length c, .int .i64 ag] 68 (0, 0))) := ⟨(hb4.block _ (blk_lt BW10.out)).trans BW10.out⟩
  have Bb11 : Aside0 (w4.heap[gb2]? = some (.cells #[.int .i64 0, .slice none 0 0, .slice none 0 0] 39 (0, 0))) := ⟨(hb4.block _ (blk_lt Bb10.out)).trans Bb10.out⟩
  have Bl11 : Aside0 (w4.heap[gl9]? = some (.cells #[.int .i64 l.1, .int .i64 l.2.1, .int .i64 l.2.2.1, .int .i64 l.2.2.2] 24 (0, 0))) := ⟨(hb4.block _ (blk_lt Bl9.out)).trans Bl9.out⟩
  have RV11 := Aside0.mk (Kd.R_below RV10.out hb4)
  clear hb4
  have zW12_0 : w4.cell? ⟨g, 0, none⟩ = some (.int .i64 nd) := (blk_cell BW11.out 0).trans rfl
  have zW12_1 : w4.cell? ⟨g, 1, none⟩ = some (.int .i64 lf) := (blk_cell BW11.out 1).trans rfl
  have zW12_2 : w4.cell? ⟨g, 2, none⟩ = some (.int .i64 tk) := (blk_cell BW11.out 2).trans rfl
  have zW12_3 : w4.cell? ⟨g, 3, none⟩ = some (.bool true) := (blk_cell BW11.out 3).trans rfl
  have zW12_4 : w4.cell? ⟨g, 4, none⟩ = some (.slice A v.length c) := (blk_cell BW11.out 4).trans rfl
  have zW12_5 : w4.cell? ⟨g, 5, none⟩ = some (.int .i64 ag) := (blk_cell BW11.out 5).trans rfl
  have zb12_0 : w4.cell? ⟨gb2, 0, none⟩ = some (.int .i64 0) := (blk_cell Bb11.out 0).trans rfl
  have zb12_1 : w4.cell? ⟨gb2, 1, none⟩ = some (.slice none 0 0) := (blk_cell Bb11.out 1).trans rfl
  have zb12_2 : w4.cell? ⟨gb2, 2, none⟩ = some (.slice none 0 0) := (blk_cell Bb11.out 2).trans rfl
  have zl12_0 : w4.cell? ⟨gl9, 0, none⟩ = some (.int .i64 l.1) := (blk_cell Bl11.out 0).trans rfl
  have zl12_1 : w4.cell? ⟨gl9, 1, none⟩ = some (.int .i64 l.2.1) := (blk_cell Bl11.out 1).trans rfl
  have zl12_2 : w4.cell? ⟨gl9, 2, none⟩ = some (.int .i64 l.2.2.1) := (blk_cell Bl11.out 2).trans rfl
  have zl12_3 : w4.cell? ⟨gl9, 3, none⟩ = some (.int .i64 l.2.2.2) := (blk_cell Bl11.out 3).trans rfl
  have hfl := blk_frozen Bl11.out 3
  go_wp2_with fail
  clear zW12_0 zW12_1 zW12_2 zW12_3 zW12_4 zW12_5 zb12_0 zb12_1 zb12_2 zl12_0 zl12_1 zl12_2 zl12_3
  obtain ⟨W13, hw13⟩ : ∃ x : World, x = (w4.setCell ⟨gl9, 3, none⟩ (.int .i64 (wrap64 (l.2.2.2 + 1)))) := ⟨_, rfl⟩
  have HB13 : Aside0 (Below W.heap.size W W13) := ⟨by rw [hw13]; exact (below_set HB11.out GSl9.out)⟩
  have hgr13 : w4.grownBy W13 (some gl9) := by rw [hw13]; exact grown_set _ _ _ _
  have Bl13 : Aside0 (W13.heap[gl9]? = some (.cells #[.int .i64 l.1, .int .i64 l.2.1, .int .i64 l.2.2.1, .int .i64 (wrap64 (l.2.2.2 + 1))] 24 (0, 0))) := ⟨by rw [hw13]; refine blk_put (cs := #[.int .i64 l.1, .int .i64 l.2.1, .int .i64 l.2.2.1, .int .i64 l.2.2.2]) ?_ 3 _ rfl; exact Bl11.out⟩
  have BW13 : Aside0 (W13.heap[g]? = some (.cells #[.int .i64 nd, .int .i64 lf, .int .i64 tk, .bool true, .slice A v.length c, .int .i64 ag] 68 (0, 0))) := ⟨blk_grown BW11.out hgr13 (fun e => (blk_ne BW11.out Bl11.out (by decide)) (by injection e))⟩
  have Bb13 : Aside0 (W13.heap[gb2]? = some (.cells #[.int .i64 0, .slice none 0 0, .slice none 0 0] 39 (0, 0))) := ⟨blk_grown Bb11.out hgr13 (fun e => (blk_ne Bb11.out Bl11.out (by decide)) (by injection e))⟩
  have RV13 := Aside0.mk (Kd.R_mono (Kd.R_grown (Kd.R_types RV11.out Bl11.out (by decide)) hgr13 (fun k hk => by simpa using hk.2)) (fun _ hk => hk.1))
  rw [← hw13]
  clear hw13 hgr13
  have zW14_0 : W13.cell? ⟨g, 0, none⟩ = some (.int .i64 nd) := (blk_cell BW13.out 0).trans rfl
  have zW14_1 : W13.cell? ⟨g, 1, none⟩ = some (.int .i64 lf) := (blk_cell BW13.out 1).trans rfl
  have zW14_2 : W13.cell? ⟨g, 2, none⟩ = some (.int .i64 tk) := (blk_cell BW13.out 2).trans rfl
  have zW14_3 : W13.cell? ⟨g, 3, none⟩ = some (.bool true) := (blk_cell BW13.out 3).trans rfl
  have zW14_4 : W13.cell? ⟨g, 4, none⟩ = some (.slice A v.length c) := (blk_cell BW13.out 4).trans rfl
  have zW14_5 : W13.cell? ⟨g, 5, none⟩ = some (.int .i64 ag) := (blk_cell BW13.out 5).trans rfl
  have zl14_0 : W13.cell? ⟨gl9, 0, none⟩ = some (.int .i64 l.1) := (blk_cell Bl13.out 0).trans rfl
  have zl14_1 : W13.cell? ⟨gl9, 1, none⟩ = some (.int .i64 l.2.1) := (blk_cell Bl13.out 1).trans rfl
  have zl14_2 : W13.cell? ⟨gl9, 2, none⟩ = some (.int .i64 l.2.2.1) := (blk_cell Bl13.out 2).trans rfl
  have zl14_3 : W13.cell? ⟨gl9, 3, none⟩ = some (.int .i64 (wrap64 (l.2.2.2 + 1))) := (blk_cell Bl13.out 3).trans rfl
  go_wp2_with fail
  refine start_ (n := 8) (S := fun w' => w'.cell? ⟨g, 0, none⟩ = some (.int .i64 nd) ∧ w'.cell? ⟨g, 1, none⟩ = some (.int .i64 lf) ∧ w'.cell? ⟨g, 2, none⟩ = some (.int .i64 tk) ∧ w'.cell? ⟨g, 3, none⟩ = some (.bool true) ∧ w'.cell? ⟨g, 4, none⟩ = some (.slice A v.length c) ∧ w'.cell? ⟨g, 5, none⟩ = some (.int .i64 ag) ∧ w'.cell? ⟨gl9, 0, none⟩ = some (.int .i64 l.1) ∧ w'.cell? ⟨gl9, 1, none⟩ = some (.int .i64 l.2.1) ∧ w'.cell? ⟨gl9, 2, none⟩ = some (.int .i64 l.2.2.1) ∧ w'.cell? ⟨gl9, 3, none⟩ = some (.int .i64 (wrap64 (l.2.2.2 + 1)))) (ds := [7]) #[false, false, false, false, false, false, false, false] (by kernel_rfl) rfl rfl ⟨zW14_0, zW14_1, zW14_2, zW14_3, zW14_4, zW14_5, zl14_0, zl14_1, zl14_2, zl14_3⟩ (fun hHeld => ?_)
  refine pure_ (i := 0) (N := some 62) (v := ?_) (a' := ?_) #[true, false, false, false, false, false, false, false] rfl rfl (by kernel_rfl) (fun _ _ _ h => h) (Or.inl ⟨by rfl, ?_⟩) ?_ ?_
  rotate_left
  · intro w'
    go_simp
    with_reducible rfl
  rotate_left
  · simp only [Act.put, List.setIfInBounds_toArray, List.set_cons_zero, List.set_cons_succ, i64_w, i32_w]
    rfl
  refine pure_ (i := 1) (N := some 63) (v := ?_) (a' := ?_) #[true, true, false, false, false, false, false, false] rfl rfl (by kernel_rfl) (fun _ _ _ h => h) (Or.inl ⟨by rfl, ?_⟩) ?_ ?_
  rotate_left
  · intro w'
    go_simp
    with_reducible rfl
  rotate_left
  · simp only [Act.put, List.setIfInBounds_toArray, List.set_cons_zero, List.set_cons_succ, i64_w, i32_w]
    rfl
  refine pure_ (i := 2) (N := some 64) (v := ?_) (a' := ?_) #[true, true, true, false, false, false, false, false] rfl rfl (by kernel_rfl) (fun _ _ _ h => h) (Or.inl ⟨by rfl, ?_⟩) ?_ ?_
  rotate_left
  · intro w'
    go_simp
    with_reducible rfl
  rotate_left
  · simp only [Act.put, List.setIfInBounds_toArray, List.set_cons_zero, List.set_cons_succ, i64_w, i32_w]
    rfl
  refine take_ (i := 3) (N := some 65) (v := ?_) (a' := ?_) #[true, true, true, true, false, false, false, false] rfl rfl (by kernel_rfl) (fun _ _ _ h => h) (Or.inl ⟨by rfl, ?_⟩) hHeld ?_ ?_
  rotate_left
  · rintro w' ⟨s0, s1, s2, s3, s4, s5, s6, s7, s8, s9⟩
    go_simp
    with_reducible rfl
  rotate_left
  · simp only [Act.put, List.setIfInBounds_toArray, List.set_cons_zero, List.set_cons_succ, i64_w, i32_w]
    rfl
  refine take_ (i := 4) (N := some 66) (v := ?_) (a' := ?_) #[true, true, true, true, true, false, false, false] rfl rfl (by kernel_rfl) (fun _ _ _ h => h) (Or.inl ⟨by rfl, ?_⟩) hHeld ?_ ?_
  rotate_left
  · rintro w' ⟨s0, s1, s2, s3, s4, s5, s6, s7, s8, s9⟩
    go_simp
    with_reducible rfl
  rotate_left
  · simp only [Act.put, List.setIfInBounds_toArray, List.set_cons_zero, List.set_cons_succ, i64_w, i32_w]
    rfl
  refine one_ (i := 5) (N := some 67) #[true, true, true, true, true, true, false, false] rfl rfl (by kernel_rfl) (by decide) (fun K hK => ?_)
  refine goes_ Try.func12 (by kernel_rfl) rfl #[.agg #[.int .i64 l.1, .int .i64 l.2.1, .int .i64 l.2.2.1, .int .i64 (wrap64 (l.2.2.2 + 1))]] (by rfl) rfl rfl (by simp only [List.map_toArray, List.map_cons, List.map_nil]; rfl) ?_
  with_reducible refine (nums4_v (l.1) (l.2.1) (l.2.2.1) (wrap64 (l.2.2.2 + 1)) _).mono ?_
  rintro e v5 ⟨Bn, dn, rfl, hRn, hb5⟩
  refine ⟨_, rfl, ?_⟩
  have HB5 := Aside0.mk (below_step (below_drew (Below.refl _ W13)) hb5)
  have HRn := Aside0.mk hRn
  have HCn := Aside0.mk (show (Kd.int .i64).C v5 Bn 4 [l.1, l.2.1, l.2.2.1, wrap64 (l.2.2.2 + 1)] from (Kd.R_reads' hRn).2.2)
  clear hRn hb5
  refine hK.out _ _ ⟨pw_cell_below HB5.out zW14_0, pw_cell_below HB5.out zW14_1, pw_cell_below HB5.out zW14_2, pw_cell_below HB5.out zW14_3, pw_cell_below HB5.out zW14_4, pw_cell_below HB5.out zW14_5, pw_cell_below HB5.out zl14_0, pw_cell_below HB5.out zl14_1, pw_cell_below HB5.out zl14_2, pw_cell_below HB5.out zl14_3⟩ (fun hHeld => ?_)
  clear hK K
  refine norm_ (a' := ?_) ?_ ?_
  rotate_left
  · show Act.put _ (some 67) _ = _
    simp only [Act.put, List.setIfInBounds_toArray, List.set_cons_zero, List.set_cons_succ, i64_w, i32_w]
    rfl
  refine one_ (i := 6) (N := some 68) #[true, true, true, true, true, true, true, false] rfl rfl (by kernel_rfl) (by decide) (fun K hK => ?_)
  refine goes_ Try.func28 (by kernel_rfl) rfl #[.slice A v.length c, .slice Bn 4 dn] (by rfl) rfl rfl (by simp only [List.map_toArray, List.map_cons, List.map_nil]; rfl) ?_
  with_reducible refine (swap4_v A c v Bn dn (l.1) (l.2.1) (l.2.2.1) (wrap64 (l.2.2.2 + 1)) _ (Kd.C_below (Kd.R_reads' RV13.out).2.2 HB5.out) hlc HCn.out (Kd.R_reads' HRn.out).2.1 hvl).mono ?_
  rintro e v6 ⟨B, d, B', d', rfl, hRa, hRb, hb6⟩
  refine ⟨_, rfl, ?_⟩
  have HB6 := Aside0.mk (below_step HB5.out hb6)
  have HRa := Aside0.mk (Kd.R_lower hRa (Nat.le_trans HB13.out.size HB5.out.size))
  have HRb := Aside0.mk (Kd.R_lower hRb (Nat.le_trans HB13.out.size HB5.out.size))
  clear hRa hRb hb6
  have Bb6 : Aside0 (v6.heap[gb2]? = some (.cells #[.int .i64 0, .slice none 0 0, .slice none 0 0] 39 (0, 0))) := ⟨blk_below Bb13.out HB6.out⟩
  have k0 : v6.cell? ⟨gb2, 0, none⟩ = some (.int .i64 0) := (blk_cell Bb6.out 0).trans rfl
  have k1 : v6.cell? ⟨gb2, 1, none⟩ = some (.slice none 0 0) := (blk_cell Bb6.out 1).trans rfl
  have k2 : v6.cell? ⟨gb2, 2, none⟩ = some (.slice none 0 0) := (blk_cell Bb6.out 2).trans rfl
  have f0 := blk_frozen Bb6.out 0
  have f1 := blk_frozen Bb6.out 1
  have f2 := blk_frozen Bb6.out 2
  refine hK.out _ _ ⟨pw_cell_below HB6.out zW14_0, pw_cell_below HB6.out zW14_1, pw_cell_below HB6.out zW14_2, pw_cell_below HB6.out zW14_3, pw_cell_below HB6.out zW14_4, pw_cell_below HB6.out zW14_5, pw_cell_below HB6.out zl14_0, pw_cell_below HB6.out zl14_1, pw_cell_below HB6.out zl14_2, pw_cell_below HB6.out zl14_3⟩ (fun hHeld => ?_)
  clear hK K
  refine norm_ (a' := ?_) ?_ ?_
  rotate_left
  · show Act.put _ (some 68) _ = _
    simp only [Act.put, List.setIfInBounds_toArray, List.set_cons_zero, List.set_cons_succ, i64_w, i32_w]
    rfl
  refine last_ (i := 7) (N := none) #[true, true, true, true, true, true, true, true] rfl rfl (by kernel_rfl) (by decide) (fun K hK => ?_)
  refine skip_ (w1 := ?_) (by rfl) rfl ?_ ?_
  rotate_left
  · go_simp
    rfl
  refine hK.out _ _ ?_
  clear hK K
  refine done_ (by kernel_rfl) ?_
  go_wp2_with fail
  have HBE := Aside0.mk (below_step HB13.out HB6.out)
  refine bodyPost_ret (results_cell_row rfl _ _ gb2 39 #[.int .i64 2, .slice B v.length d, .slice B' 4 d'] (0, 0) _ rfl (by refine blk_put (cs := #[.int .i64 2, .slice B v.length d, .slice none 0 0]) ?_ 2 _ rfl; refine blk_put (cs := #[.int .i64 2, .slice none 0 0, .slice none 0 0]) ?_ 1 _ rfl; refine blk_put (cs := #[.int .i64 0, .slice none 0 0, .slice none 0 0]) ?_ 0 _ rfl; exact Bb6.out) Try.underlying39 rfl (by kernel_rfl)) rfl ?_
  exact ⟨_, _, _, _, rfl, Kd.R_mono (Kd.R_far (p := ⟨gb2, 2, none⟩) (Kd.R_far (p := ⟨gb2, 1, none⟩) (Kd.R_far (p := ⟨gb2, 0, none⟩) (Kd.R_types HRa.out Bb6.out (by decide)) (fun _ hk => hk.2) _) (fun _ hk => hk.2) _) (fun _ hk => hk.2) _) (fun _ _ => trivial), Kd.R_mono (Kd.R_far (p := ⟨gb2, 2, none⟩) (Kd.R_far (p := ⟨gb2, 1, none⟩) (Kd.R_far (p := ⟨gb2, 0, none⟩) (Kd.R_types HRb.out Bb6.out (by decide)) (fun _ hk => hk.2) _) (fun _ hk => hk.2) _) (fun _ hk => hk.2) _) (fun _ hk => hk.1), by repeat (first | exact HBE.out | refine below_set ?_ GSb2.out)⟩
set_option maxHeartbeats 4000000 in
set_option maxRecDepth 100000 in
theorem want_none (W : World) (g : Nat) (nd lf tk : Int) (v : List Int) (ag : Int) (h : WAt W g nd lf tk true v ag) (l : LeaseT) (hl : leaseOf v = l) (hq : okL v = false) (hlb : leadsB nd lf v = false) (hn : leadsN nd lf v = 0) :
    Calls Try.prog 17 #[.pointer (some ⟨g, 0, none⟩)] W fun e w' => WantPost W (2, v, [wrap64 (l.1 + 1), nd, lf, 0]) e w' := by
  have hu32 := Try.underlying32
  have hu39 := Try.underlying39
  have hu68 := Try.underlying68
  have hu66 := Try.underlying66
  have hu24 := Try.underlying24
  have HL := Aside0.mk hl
  have HQ := Aside0.mk hq
  have HLB := Aside0.mk hlb
  have HN := Aside0.mk hn
  clear hl hq hlb hn
  have HW := Aside0.mk h
  obtain ⟨A, c, hB0, hR0, hvl⟩ := h
  have BW0 := Aside0.mk hB0
  have HR0 := Aside0.mk hR0
  have hlc := (Kd.R_reads' hR0).2.1
  have hmax := Kd.C_max (Kd.R_reads' hR0).2.2
  clear hB0 hR0
  have zW1_0 : W.cell? ⟨g, 0, none⟩ = some (.int .i64 nd) := (blk_cell BW0.out 0).trans rfl
  have zW1_1 : W.cell? ⟨g, 1, none⟩ = some (.int .i64 lf) := (blk_cell BW0.out 1).trans rfl
  have zW1_2 : W.cell? ⟨g, 2, none⟩ = some (.int .i64 tk) := (blk_cell BW0.out 2).trans rfl
  have zW1_3 : W.cell? ⟨g, 3, none⟩ = some (.bool true) := (blk_cell BW0.out 3).trans rfl
  have zW1_4 : W.cell? ⟨g, 4, none⟩ = some (.slice A v.length c) := (blk_cell BW0.out 4).trans rfl
  have zW1_5 : W.cell? ⟨g, 5, none⟩ = some (.int .i64 ag) := (blk_cell BW0.out 5).trans rfl
  obtain ⟨e0, he0⟩ : ∃ x, x = wrap64 (l.1 + 1) := ⟨_, rfl⟩
  rw [← he0]
  have HE0 := Aside0.mk he0
  clear he0
  go_enter Try.func17, Try.ntmps17
  go_wp2_with ((with_reducible refine gate_dst (N := 2) rfl ?_); refine box_event ?hg (N := 2) ?hd (cs := #[.int .i64 0, .slice none 0 0, .slice none 0 0]) (t := 39) ?hr ?_; (case hd => rfl); (case hg => rfl); (case hr => first | (go_simp; done) | (go_simp; rfl)); intro gb2 hg2 W2 hbox2 hb2; have GSb2 : Aside0 (W.heap.size ≤ gb2) := ⟨by rw [hg2]; exact Nat.le_refl _⟩; have Bb2 := Aside0.mk hbox2; have Gb2 : Aside0 (W.heap.size ≤ gb2) := ⟨by rw [hg2]; exact Nat.le_refl _⟩; have hbk2 := hb2; clear hg2 hbox2; clear zW1_0 zW1_1 zW1_2 zW1_3 zW1_4 zW1_5; have HB3 := Aside0.mk hbk2; have BW3 : Aside0 (W2.heap[g]? = some (.cells #[.int .i64 nd, .int .i64 lf, .int .i64 tk, .bool true, .slice A v.length c, .int .i64 ag] 68 (0, 0))) := ⟨(hbk2.block _ (blk_lt BW0.out)).trans BW0.out⟩; have RV3 := Aside0.mk (Kd.R_below HR0.out hbk2); clear hbk2; clear hb2; have zW4_0 : W2.cell? ⟨g, 0, none⟩ = some (.int .i64 nd) := (blk_cell BW3.out 0).trans rfl; have zW4_1 : W2.cell? ⟨g, 1, none⟩ = some (.int .i64 lf) := (blk_cell BW3.out 1).trans rfl; have zW4_2 : W2.cell? ⟨g, 2, none⟩ = some (.int .i64 tk) := (blk_cell BW3.out 2).trans rfl; have zW4_3 : W2.cell? ⟨g, 3, none⟩ = some (.bool true) := (blk_cell BW3.out 3).trans rfl; have zW4_4 : W2.cell? ⟨g, 4, none⟩ = some (.slice A v.length c) := (blk_cell BW3.out 4).trans rfl; have zW4_5 : W2.cell? ⟨g, 5, none⟩ = some (.int .i64 ag) := (blk_cell BW3.out 5).trans rfl; have zb4_0 : W2.cell? ⟨gb2, 0, none⟩ = some (.int .i64 0) := (blk_cell Bb2.out 0).trans rfl; have zb4_1 : W2.cell? ⟨gb2, 1, none⟩ = some (.slice none 0 0) := (blk_cell Bb2.out 1).trans rfl; have zb4_2 : W2.cell? ⟨gb2, 2, none⟩ = some (.slice none 0 0) := (blk_cell Bb2.out 2).trans rfl)
  refine (lease_c _ g nd lf tk true v ag ⟨A, c, BW3.out, RV3.out, hvl⟩).mono ?_
  rw [HL.out, HQ.out]
  rintro e w3 ⟨rfl, hb3⟩
  clear zW4_0 zW4_1 zW4_2 zW4_3 zW4_4 zW4_5 zb4_0 zb4_1 zb4_2
  have HB6 := Aside0.mk (below_step HB3.out hb3)
  have BW6 : Aside0 (w3.heap[g]? = some (.cells #[.int .i64 nd, .int .i64 lf, .int .i64 tk, .bool true, .slice A v.length c, .int .i64 ag] 68 (0, 0))) := ⟨(hb3.block _ (blk_lt BW3.out)).trans BW3.out⟩
  have Bb6 : Aside0 (w3.heap[gb2]? = some (.cells #[.int .i64 0, .slice none 0 0, .slice none 0 0] 39 (0, 0))) := ⟨(hb3.block _ (blk_lt Bb2.out)).trans Bb2.out⟩
  have RV6 := Aside0.mk (Kd.R_below RV3.out hb3)
  clear hb3
  have zW7_0 : w3.cell? ⟨g, 0, none⟩ = some (.int .i64 nd) := (blk_cell BW6.out 0).trans rfl
  have zW7_1 : w3.cell? ⟨g, 1, none⟩ = some (.int .i64 lf) := (blk_cell BW6.out 1).trans rfl
  have zW7_2 : w3.cell? ⟨g, 2, none⟩ = some (.int .i64 tk) := (blk_cell BW6.out 2).trans rfl
  have zW7_3 : w3.cell? ⟨g, 3, none⟩ = some (.bool true) := (blk_cell BW6.out 3).trans rfl
  have zW7_4 : w3.cell? ⟨g, 4, none⟩ = some (.slice A v.length c) := (blk_cell BW6.out 4).trans rfl
  have zW7_5 : w3.cell? ⟨g, 5, none⟩ = some (.int .i64 ag) := (blk_cell BW6.out 5).trans rfl
  have zb7_0 : w3.cell? ⟨gb2, 0, none⟩ = some (.int .i64 0) := (blk_cell Bb6.out 0).trans rfl
  have zb7_1 : w3.cell? ⟨gb2, 1, none⟩ = some (.slice none 0 0) := (blk_cell Bb6.out 1).trans rfl
  have zb7_2 : w3.cell? ⟨gb2, 2, none⟩ = some (.slice none 0 0) := (blk_cell Bb6.out 2).trans rfl
  have zaW8_0 : ∀ o, (w3.alloc o).cell? ⟨g, 0, none⟩ = some (.int .i64 nd) := fun o => (blk_cell (blk_alloc BW6.out o) 0).trans rfl
  have zaW8_1 : ∀ o, (w3.alloc o).cell? ⟨g, 1, none⟩ = some (.int .i64 lf) := fun o => (blk_cell (blk_alloc BW6.out o) 1).trans rfl
  have zaW8_2 : ∀ o, (w3.alloc o).cell? ⟨g, 2, none⟩ = some (.int .i64 tk) := fun o => (blk_cell (blk_alloc BW6.out o) 2).trans rfl
  have zaW8_3 : ∀ o, (w3.alloc o).cell? ⟨g, 3, none⟩ = some (.bool true) := fun o => (blk_cell (blk_alloc BW6.out o) 3).trans rfl
  have zaW8_4 : ∀ o, (w3.alloc o).cell? ⟨g, 4, none⟩ = some (.slice A v.length c) := fun o => (blk_cell (blk_alloc BW6.out o) 4).trans rfl
  have zaW8_5 : ∀ o, (w3.alloc o).cell? ⟨g, 5, none⟩ = some (.int .i64 ag) := fun o => (blk_cell (blk_alloc BW6.out o) 5).trans rfl
  have zab8_0 : ∀ o, (w3.alloc o).cell? ⟨gb2, 0, none⟩ = some (.int .i64 0) := fun o => (blk_cell (blk_alloc Bb6.out o) 0).trans rfl
  have zab8_1 : ∀ o, (w3.alloc o).cell? ⟨gb2, 1, none⟩ = some (.slice none 0 0) := fun o => (blk_cell (blk_alloc Bb6.out o) 1).trans rfl
  have zab8_2 : ∀ o, (w3.alloc o).cell? ⟨gb2, 2, none⟩ = some (.slice none 0 0) := fun o => (blk_cell (blk_alloc Bb6.out o) 2).trans rfl
  go_wp2_with fail
  obtain ⟨W9, hw9⟩ : ∃ x : World, x = w3.alloc (.cells #[.int .i64 l.1, .int .i64 l.2.1, .int .i64 l.2.2.1, .int .i64 l.2.2.2] 24) := ⟨_, rfl⟩
  have hbs9 : Below w3.heap.size w3 W9 := by rw [hw9]; repeat (first | exact Below.refl _ _ | refine below_alloc ?_ _ | refine below_drew ?_)
  obtain ⟨gl9, hgl9⟩ : ∃ x, x = w3.heap.size := ⟨_, rfl⟩
  have GSl9 : Aside0 (W.heap.size ≤ gl9) := ⟨by rw [hgl9]; have := HB6.out.size; omega⟩
  have Bl9 : Aside0 (W9.heap[gl9]? = some (.cells #[.int .i64 l.1, .int .i64 l.2.1, .int .i64 l.2.2.1, .int .i64 l.2.2.2] 24 (0, 0))) := ⟨by rw [hw9, hgl9]; exact blk_new _ _⟩
  rw [← hw9]
  rw [← hgl9]
  clear hw9 hgl9
  clear zW7_0 zW7_1 zW7_2 zW7_3 zW7_4 zW7_5 zb7_0 zb7_1 zb7_2 zaW8_0 zaW8_1 zaW8_2 zaW8_3 zaW8_4 zaW8_5 zab8_0 zab8_1 zab8_2
  have HB10 := Aside0.mk (below_step HB6.out hbs9)
  have BW10 : Aside0 (W9.heap[g]? = some (.cells #[.int .i64 nd, .int .i64 lf, .int .i64 tk, .bool true, .slice A v.length c, .int .i64 ag] 68 (0, 0))) := ⟨(hbs9.block _ (blk_lt BW6.out)).trans BW6.out⟩
  have Bb10 : Aside0 (W9.heap[gb2]? = some (.cells #[.int .i64 0, .slice none 0 0, .slice none 0 0] 39 (0, 0))) := ⟨(hbs9.block _ (blk_lt Bb6.out)).trans Bb6.out⟩
  have RV10 := Aside0.mk (Kd.R_below RV6.out hbs9)
  clear hbs9
  refine (leads_c _ g nd lf tk true v ag ⟨A, c, BW10.out, RV10.out, hvl⟩).mono ?_
  rw [HLB.out, HN.out]
  rintro e w4 ⟨rfl, hb4⟩
  have HB11 := Aside0.mk (below_step HB10.out hb4)
  have BW11 : Aside0 (w4.heap[g]? = some (.cells #[.int .i64 nd, .int .i64 lf, .int .i64 tk, .bool true, .slice A v.length c, .int .i64 ag] 68 (0, 0))) := ⟨(hb4.block _ (blk_lt BW10.out)).trans BW10.out⟩
  have Bb11 : Aside0 (w4.heap[gb2]? = some (.cells #[.int .i64 0, .slice none 0 0, .slice none 0 0] 39 (0, 0))) := ⟨(hb4.block _ (blk_lt Bb10.out)).trans Bb10.out⟩
  have Bl11 : Aside0 (w4.heap[gl9]? = some (.cells #[.int .i64 l.1, .int .i64 l.2.1, .int .i64 l.2.2.1, .int .i64 l.2.2.2] 24 (0, 0))) := ⟨(hb4.block _ (blk_lt Bl9.out)).trans Bl9.out⟩
  have RV11 := Aside0.mk (Kd.R_below RV10.out hb4)
  clear hb4
  have zW12_0 : w4.cell? ⟨g, 0, none⟩ = some (.int .i64 nd) := (blk_cell BW11.out 0).trans rfl
  have zW12_1 : w4.cell? ⟨g, 1, none⟩ = some (.int .i64 lf) := (blk_cell BW11.out 1).trans rfl
  have zW12_2 : w4.cell? ⟨g, 2, none⟩ = some (.int .i64 tk) := (blk_cell BW11.out 2).trans rfl
  have zW12_3 : w4.cell? ⟨g, 3, none⟩ = some (.bool true) := (blk_cell BW11.out 3).trans rfl
  have zW12_4 : w4.cell? ⟨g, 4, none⟩ = some (.slice A v.length c) := (blk_cell BW11.out 4).trans rfl
  have zW12_5 : w4.cell? ⟨g, 5, none⟩ = some (.int .i64 ag) := (blk_cell BW11.out 5).trans rfl
  have zb12_0 : w4.cell? ⟨gb2, 0, none⟩ = some (.int .i64 0) := (blk_cell Bb11.out 0).trans rfl
  have zb12_1 : w4.cell? ⟨gb2, 1, none⟩ = some (.slice none 0 0) := (blk_cell Bb11.out 1).trans rfl
  have zb12_2 : w4.cell? ⟨gb2, 2, none⟩ = some (.slice none 0 0) := (blk_cell Bb11.out 2).trans rfl
  have zl12_0 : w4.cell? ⟨gl9, 0, none⟩ = some (.int .i64 l.1) := (blk_cell Bl11.out 0).trans rfl
  have zl12_1 : w4.cell? ⟨gl9, 1, none⟩ = some (.int .i64 l.2.1) := (blk_cell Bl11.out 1).trans rfl
  have zl12_2 : w4.cell? ⟨gl9, 2, none⟩ = some (.int .i64 l.2.2.1) := (blk_cell Bl11.out 2).trans rfl
  have zl12_3 : w4.cell? ⟨gl9, 3, none⟩ = some (.int .i64 l.2.2.2) := (blk_cell Bl11.out 3).trans rfl
  go_wp2_with fail
  refine start_ (n := 14) (S := fun w' => w'.cell? ⟨g, 0, none⟩ = some (.int .i64 nd) ∧ w'.cell? ⟨g, 1, none⟩ = some (.int .i64 lf) ∧ w'.cell? ⟨g, 2, none⟩ = some (.int .i64 tk) ∧ w'.cell? ⟨g, 3, none⟩ = some (.bool true) ∧ w'.cell? ⟨g, 4, none⟩ = some (.slice A v.length c) ∧ w'.cell? ⟨g, 5, none⟩ = some (.int .i64 ag)) (ds := []) #[false, false, false, false, false, false, false, false, false, false, false, false, false, false] (by kernel_rfl) rfl rfl ⟨zW12_0, zW12_1, zW12_2, zW12_3, zW12_4, zW12_5⟩ (fun hHeld => ?_)
  refine pure_ (i := 0) (N := some 35) (v := ?_) (a' := ?_) #[true, false, false, false, false, false, false, false, false, false, false, false, false, false] rfl rfl (by kernel_rfl) (fun _ _ _ h => h) (Or.inl ⟨by rfl, ?_⟩) ?_ ?_
  rotate_left
  · intro w'
    go_simp
    with_reducible rfl
  rotate_left
  · simp only [Act.put, List.setIfInBounds_toArray, List.set_cons_zero, List.set_cons_succ, i64_w, i32_w]
    rfl
  refine pure_ (i := 1) (N := some 36) (v := ?_) (a' := ?_) #[true, true, false, false, false, false, false, false, false, false, false, false, false, false] rfl rfl (by kernel_rfl) (fun _ _ _ h => h) (Or.inl ⟨by rfl, ?_⟩) ?_ ?_
  rotate_left
  · intro w'
    go_simp
    with_reducible rfl
  rotate_left
  · simp only [Act.put, List.setIfInBounds_toArray, List.set_cons_zero, List.set_cons_succ, i64_w, i32_w]
    rfl
  refine pure_ (i := 2) (N := some 37) (v := ?_) (a' := ?_) #[true, true, true, false, false, false, false, false, false, false, false, false, false, false] rfl rfl (by kernel_rfl) (fun _ _ _ h => h) (Or.inl ⟨by rfl, ?_⟩) ?_ ?_
  rotate_left
  · intro w'
    go_simp
    with_reducible rfl
  rotate_left
  · simp only [Act.put, List.setIfInBounds_toArray, List.set_cons_zero, List.set_cons_succ, i64_w, i32_w]
    rfl
  refine pure_ (i := 3) (N := some 38) (v := undef) (a' := ?_) #[true, true, true, true, false, false, false, false, false, false, false, false, false, false] rfl rfl (by kernel_rfl) (fun _ _ _ h => h) (Or.inr ⟨by rfl, rfl⟩) ?_ ?_
  rotate_left
  · simp only [Act.put, List.setIfInBounds_toArray, List.set_cons_zero, List.set_cons_succ, i64_w, i32_w]
    rfl
  refine pure_ (i := 4) (N := some 39) (v := undef) (a' := ?_) #[true, true, true, true, true, false, false, false, false, false, false, false, false, false] rfl rfl (by kernel_rfl) (fun _ _ _ h => h) (Or.inr ⟨by rfl, rfl⟩) ?_ ?_
  rotate_left
  · simp only [Act.put, List.setIfInBounds_toArray, List.set_cons_zero, List.set_cons_succ, i64_w, i32_w]
    rfl
  refine pure_ (i := 5) (N := some 40) (v := undef) (a' := ?_) #[true, true, true, true, true, true, false, false, false, false, false, false, false, false] rfl rfl (by kernel_rfl) (fun _ _ _ h => h) (Or.inr ⟨by rfl, rfl⟩) ?_ ?_
  rotate_left
  · simp only [Act.put, List.setIfInBounds_toArray, List.set_cons_zero, List.set_cons_succ, i64_w, i32_w]
    rfl
  refine pure_ (i := 6) (N := some 41) (v := undef) (a' := ?_) #[true, true, true, true, true, true, true, false, false, false, false, false, false, false] rfl rfl (by kernel_rfl) (fun _ _ _ h => h) (Or.inr ⟨by rfl, rfl⟩) ?_ ?_
  rotate_left
  · simp only [Act.put, List.setIfInBounds_toArray, List.set_cons_zero, List.set_cons_succ, i64_w, i32_w]
    rfl
  refine pure_ (i := 7) (N := some 42) (v := undef) (a' := ?_) #[true, true, true, true, true, true, true, true, false, false, false, false, false, false] rfl rfl (by kernel_rfl) (fun _ _ _ h => h) (Or.inr ⟨by rfl, rfl⟩) ?_ ?_
  rotate_left
  · simp only [Act.put, List.setIfInBounds_toArray, List.set_cons_zero, List.set_cons_succ, i64_w, i32_w]
    rfl
  refine pure_ (i := 8) (N := some 43) (v := undef) (a' := ?_) #[true, true, true, true, true, true, true, true, true, false, false, false, false, false] rfl rfl (by kernel_rfl) (fun _ _ _ h => h) (Or.inr ⟨by rfl, rfl⟩) ?_ ?_
  rotate_left
  · simp only [Act.put, List.setIfInBounds_toArray, List.set_cons_zero, List.set_cons_succ, i64_w, i32_w]
    rfl
  refine pure_ (i := 9) (N := some 44) (v := undef) (a' := ?_) #[true, true, true, true, true, true, true, true, true, true, false, false, false, false] rfl rfl (by kernel_rfl) (fun _ _ _ h => h) (Or.inr ⟨by rfl, rfl⟩) ?_ ?_
  rotate_left
  · simp only [Act.put, List.setIfInBounds_toArray, List.set_cons_zero, List.set_cons_succ, i64_w, i32_w]
    rfl
  refine pure_ (i := 10) (N := some 45) (v := undef) (a' := ?_) #[true, true, true, true, true, true, true, true, true, true, true, false, false, false] rfl rfl (by kernel_rfl) (fun _ _ _ h => h) (Or.inr ⟨by rfl, rfl⟩) ?_ ?_
  rotate_left
  · simp only [Act.put, List.setIfInBounds_toArray, List.set_cons_zero, List.set_cons_succ, i64_w, i32_w]
    rfl
  refine pure_ (i := 11) (N := some 46) (v := undef) (a' := ?_) #[true, true, true, true, true, true, true, true, true, true, true, true, false, false] rfl rfl (by kernel_rfl) (fun _ _ _ h => h) (Or.inr ⟨by rfl, rfl⟩) ?_ ?_
  rotate_left
  · simp only [Act.put, List.setIfInBounds_toArray, List.set_cons_zero, List.set_cons_succ, i64_w, i32_w]
    rfl
  refine pure_ (i := 12) (N := some 47) (v := ?_) (a' := ?_) #[true, true, true, true, true, true, true, true, true, true, true, true, true, false] rfl rfl (by kernel_rfl) (fun _ _ _ h => h) (Or.inl ⟨by rfl, ?_⟩) ?_ ?_
  rotate_left
  · intro w'
    go_simp
    with_reducible rfl
  rotate_left
  · simp only [Act.put, List.setIfInBounds_toArray, List.set_cons_zero, List.set_cons_succ, i64_w, i32_w]
    rfl
  refine pure_ (i := 13) (N := some 34) (v := ?_) (a' := ?_) #[true, true, true, true, true, true, true, true, true, true, true, true, true, true] rfl rfl (by kernel_rfl) (fun _ _ _ h => h) (Or.inl ⟨by rfl, ?_⟩) ?_ ?_
  rotate_left
  · intro w'
    go_simp
    with_reducible rfl
  rotate_left
  · simp only [Act.put, List.setIfInBounds_toArray, List.set_cons_zero, List.set_cons_succ, i64_w, i32_w]
    rfl
  refine done_ (by kernel_rfl) ?_
  obtain ⟨W13, hw13⟩ : ∃ x : World, x = w4.drew := ⟨_, rfl⟩
  have hbd13 : Below w4.heap.size w4 W13 := by rw [hw13]; exact below_drew (Below.refl _ _)
  rw [← hw13]
  clear hw13
  clear zW12_0 zW12_1 zW12_2 zW12_3 zW12_4 zW12_5 zb12_0 zb12_1 zb12_2 zl12_0 zl12_1 zl12_2 zl12_3
  have HB14 := Aside0.mk (below_step HB11.out hbd13)
  have BW14 : Aside0 (W13.heap[g]? = some (.cells #[.int .i64 nd, .int .i64 lf, .int .i64 tk, .bool true, .slice A v.length c, .int .i64 ag] 68 (0, 0))) := ⟨(hbd13.block _ (blk_lt BW11.out)).trans BW11.out⟩
  have Bb14 : Aside0 (W13.heap[gb2]? = some (.cells #[.int .i64 0, .slice none 0 0, .slice none 0 0] 39 (0, 0))) := ⟨(hbd13.block _ (blk_lt Bb11.out)).trans Bb11.out⟩
  have Bl14 : Aside0 (W13.heap[gl9]? = some (.cells #[.int .i64 l.1, .int .i64 l.2.1, .int .i64 l.2.2.1, .int .i64 l.2.2.2] 24 (0, 0))) := ⟨(hbd13.block _ (blk_lt Bl11.out)).trans Bl11.out⟩
  have RV14 := Aside0.mk (Kd.R_below RV11.out hbd13)
  clear hbd13
  have zW15_0 : W13.cell? ⟨g, 0, none⟩ = some (.int .i64 nd) := (blk_cell BW14.out 0).trans rfl
  have zW15_1 : W13.cell? ⟨g, 1, none⟩ = some (.int .i64 lf) := (blk_cell BW14.out 1).trans rfl
  have zW15_2 : W13.cell? ⟨g, 2, none⟩ = some (.int .i64 tk) := (blk_cell BW14.out 2).trans rfl
  have zW15_3 : W13.cell? ⟨g, 3, none⟩ = some (.bool true) := (blk_cell BW14.out 3).trans rfl
  have zW15_4 : W13.cell? ⟨g, 4, none⟩ = some (.slice A v.length c) := (blk_cell BW14.out 4).trans rfl
  have zW15_5 : W13.cell? ⟨g, 5, none⟩ = some (.int .i64 ag) := (blk_cell BW14.out 5).trans rfl
  have zb15_0 : W13.cell? ⟨gb2, 0, none⟩ = some (.int .i64 0) := (blk_cell Bb14.out 0).trans rfl
  have zb15_1 : W13.cell? ⟨gb2, 1, none⟩ = some (.slice none 0 0) := (blk_cell Bb14.out 1).trans rfl
  have zb15_2 : W13.cell? ⟨gb2, 2, none⟩ = some (.slice none 0 0) := (blk_cell Bb14.out 2).trans rfl
  have zl15_0 : W13.cell? ⟨gl9, 0, none⟩ = some (.int .i64 l.1) := (blk_cell Bl14.out 0).trans rfl
  have zl15_1 : W13.cell? ⟨gl9, 1, none⟩ = some (.int .i64 l.2.1) := (blk_cell Bl14.out 1).trans rfl
  have zl15_2 : W13.cell? ⟨gl9, 2, none⟩ = some (.int .i64 l.2.2.1) := (blk_cell Bl14.out 2).trans rfl
  have zl15_3 : W13.cell? ⟨gl9, 3, none⟩ = some (.int .i64 l.2.2.2) := (blk_cell Bl14.out 3).trans rfl
  have hg0 := blk_frozen Bl14.out 0
  have hg1 := blk_frozen Bl14.out 1
  have hg2 := blk_frozen Bl14.out 2
  have hg3 := blk_frozen Bl14.out 3
  go_wp2_with fail
  have hwr : IntKind.i64.wrap (l.1 + 1) = e0 := by rw [HE0.out]; exact i64_w _
  have hwr2 : wrap64 (l.1 + 1) = e0 := HE0.out.symm
  skip
  skip
  skip
  refine start_ (n := 15) (S := fun w' => w'.cell? ⟨g, 0, none⟩ = some (.int .i64 nd) ∧ w'.cell? ⟨g, 1, none⟩ = some (.int .i64 lf) ∧ w'.cell? ⟨g, 2, none⟩ = some (.int .i64 tk) ∧ w'.cell? ⟨g, 3, none⟩ = some (.bool true) ∧ w'.cell? ⟨g, 4, none⟩ = some (.slice A v.length c) ∧ w'.cell? ⟨g, 5, none⟩ = some (.int .i64 ag) ∧ w'.cell? ⟨gl9, 0, none⟩ = some (.int .i64 l.1) ∧ w'.cell? ⟨gl9, 1, none⟩ = some (.int .i64 l.2.1) ∧ w'.cell? ⟨gl9, 2, none⟩ = some (.int .i64 l.2.2.1) ∧ w'.cell? ⟨gl9, 3, none⟩ = some (.int .i64 l.2.2.2)) (ds := [14]) #[false, false, false, false, false, false, false, false, false, false, false, false, false, false, false] (by kernel_rfl) rfl rfl ⟨zW15_0, zW15_1, zW15_2, zW15_3, zW15_4, zW15_5, zl15_0, zl15_1, zl15_2, zl15_3⟩ (fun hHeld => ?_)
  refine pure_ (i := 0) (N := some 48) (v := ?_) (a' := ?_) #[true, false, false, false, false, false, false, false, false, false, false, false, false, false, false] rfl rfl (by kernel_rfl) (fun _ _ _ h => h) (Or.inl ⟨by rfl, ?_⟩) ?_ ?_
  rotate_left
  · intro w'
    go_simp
    with_reducible rfl
  rotate_left
  · simp only [Act.put, List.setIfInBounds_toArray, List.set_cons_zero, List.set_cons_succ, i64_w, i32_w]
    rfl
  refine pure_ (i := 3) (N := some 51) (v := ?_) (a' := ?_) #[true, false, false, true, false, false, false, false, false, false, false, false, false, false, false] rfl rfl (by kernel_rfl) (fun _ _ _ h => h) (Or.inl ⟨by rfl, ?_⟩) ?_ ?_
  rotate_left
  · intro w'
    go_simp
    with_reducible rfl
  rotate_left
  · simp only [Act.put, List.setIfInBounds_toArray, List.set_cons_zero, List.set_cons_succ, i64_w, i32_w]
    rfl
  refine pure_ (i := 4) (N := some 52) (v := ?_) (a' := ?_) #[true, false, false, true, true, false, false, false, false, false, false, false, false, false, false] rfl rfl (by kernel_rfl) (fun _ _ _ h => h) (Or.inl ⟨by rfl, ?_⟩) ?_ ?_
  rotate_left
  · intro w'
    go_simp
    with_reducible rfl
  rotate_left
  · simp only [Act.put, List.setIfInBounds_toArray, List.set_cons_zero, List.set_cons_succ, i64_w, i32_w]
    rfl
  refine pure_ (i := 5) (N := some 53) (v := ?_) (a' := ?_) #[true, false, false, true, true, true, false, false, false, false, false, false, false, false, false] rfl rfl (by kernel_rfl) (fun _ _ _ h => h) (Or.inl ⟨by rfl, ?_⟩) ?_ ?_
  rotate_left
  · intro w'
    go_simp
    with_reducible rfl
  rotate_left
  · simp only [Act.put, List.setIfInBounds_toArray, List.set_cons_zero, List.set_cons_succ, i64_w, i32_w]
    rfl
  refine pure_ (i := 6) (N := some 54) (v := ?_) (a' := ?_) #[true, false, false, true, true, true, true, false, false, false, false, false, false, false, false] rfl rfl (by kernel_rfl) (fun _ _ _ h => h) (Or.inl ⟨by rfl, ?_⟩) ?_ ?_
  rotate_left
  · intro w'
    go_simp
    with_reducible rfl
  rotate_left
  · simp only [Act.put, List.setIfInBounds_toArray, List.set_cons_zero, List.set_cons_succ, i64_w, i32_w]
    rfl
  refine pure_ (i := 8) (N := some 56) (v := ?_) (a' := ?_) #[true, false, false, true, true, true, true, false, true, false, false, false, false, false, false] rfl rfl (by kernel_rfl) (fun _ _ _ h => h) (Or.inl ⟨by rfl, ?_⟩) ?_ ?_
  rotate_left
  · intro w'
    go_simp
    with_reducible rfl
  rotate_left
  · simp only [Act.put, List.setIfInBounds_toArray, List.set_cons_zero, List.set_cons_succ, i64_w, i32_w]
    rfl
  refine pure_ (i := 9) (N := some 57) (v := ?_) (a' := ?_) #[true, false, false, true, true, true, true, false, true, true, false, false, false, false, false] rfl rfl (by kernel_rfl) (fun _ _ _ h => h) (Or.inl ⟨by rfl, ?_⟩) ?_ ?_
  rotate_left
  · intro w'
    go_simp
    with_reducible rfl
  rotate_left
  · simp only [Act.put, List.setIfInBounds_toArray, List.set_cons_zero, List.set_cons_succ, i64_w, i32_w]
    rfl
  refine pure_ (i := 10) (N := some 58) (v := ?_) (a' := ?_) #[true, false, false, true, true, true, true, false, true, true, true, false, false, false, false] rfl rfl (by kernel_rfl) (fun _ _ _ h => h) (Or.inl ⟨by rfl, ?_⟩) ?_ ?_
  rotate_left
  · intro w'
    go_simp
    with_reducible rfl
  rotate_left
  · simp only [Act.put, List.setIfInBounds_toArray, List.set_cons_zero, List.set_cons_succ, i64_w, i32_w]
    rfl
  refine pure_ (i := 11) (N := some 59) (v := ?_) (a' := ?_) #[true, false, false, true, true, true, true, false, true, true, true, true, false, false, false] rfl rfl (by kernel_rfl) (fun _ _ _ h => h) (Or.inl ⟨by rfl, ?_⟩) ?_ ?_
  rotate_left
  · intro w'
    go_simp
    with_reducible rfl
  rotate_left
  · simp only [Act.put, List.setIfInBounds_toArray, List.set_cons_zero, List.set_cons_succ, i64_w, i32_w]
    rfl
  refine take_ (i := 1) (N := some 49) (v := ?_) (a' := ?_) #[true, true, false, true, true, true, true, false, true, true, true, true, false, false, false] rfl rfl (by kernel_rfl) (fun _ _ _ h => h) (Or.inl ⟨by rfl, ?_⟩) hHeld ?_ ?_
  rotate_left
  · rintro w' ⟨s0, s1, s2, s3, s4, s5, s6, s7, s8, s9⟩
    go_simp
    with_reducible rfl
  rotate_left
  · simp only [Act.put, List.setIfInBounds_toArray, List.set_cons_zero, List.set_cons_succ, i64_w, i32_w]
    rfl
  refine pure_ (i := 2) (N := some 50) (v := ?_) (a' := ?_) #[true, true, true, true, true, true, true, false, true, true, true, true, false, false, false] rfl rfl (by kernel_rfl) (fun _ _ _ h => h) (Or.inl ⟨by rfl, ?_⟩) ?_ ?_
  rotate_left
  · intro w'
    go_simp
    with_reducible rfl
  rotate_left
  · simp only [Act.put, List.setIfInBounds_toArray, List.set_cons_zero, List.set_cons_succ, i64_w, i32_w]
    rfl
  refine take_ (i := 7) (N := some 55) (v := ?_) (a' := ?_) #[true, true, true, true, true, true, true, true, true, true, true, true, false, false, false] rfl rfl (by kernel_rfl) (fun _ _ _ h => h) (Or.inl ⟨by rfl, ?_⟩) hHeld ?_ ?_
  rotate_left
  · rintro w' ⟨s0, s1, s2, s3, s4, s5, s6, s7, s8, s9⟩
    go_simp
    with_reducible rfl
  rotate_left
  · simp only [Act.put, List.setIfInBounds_toArray, List.set_cons_zero, List.set_cons_succ, i64_w, i32_w]
    rfl
  refine take_ (i := 12) (N := some 60) (v := ?_) (a' := ?_) #[true, true, true, true, true, true, true, true, true, true, true, true, true, false, false] rfl rfl (by kernel_rfl) (fun _ _ _ h => h) (Or.inl ⟨by rfl, ?_⟩) hHeld ?_ ?_
  rotate_left
  · rintro w' ⟨s0, s1, s2, s3, s4, s5, s6, s7, s8, s9⟩
    go_simp
    with_reducible rfl
  rotate_left
  · simp only [Act.put, List.setIfInBounds_toArray, List.set_cons_zero, List.set_cons_succ, i64_w, i32_w]
    rfl
  refine pure_ (i := 13) (N := some 61) (v := ?_) (a' := ?_) #[true, true, true, true, true, true, true, true, true, true, true, true, true, true, false] rfl rfl (by kernel_rfl) (fun _ _ _ h => h) (Or.inl ⟨by rfl, ?_⟩) ?_ ?_
  rotate_left
  · intro w'
    go_simp
    with_reducible rfl
  rotate_left
  · simp only [Act.put, List.setIfInBounds_toArray, List.set_cons_zero, List.set_cons_succ, i64_w, i32_w]
    rfl
  refine last_ (i := 14) (N := none) #[true, true, true, true, true, true, true, true, true, true, true, true, true, true, true] rfl rfl (by kernel_rfl) (by decide) (fun K hK => ?_)
  refine skip_ (w1 := ?_) (by rfl) rfl ?_ ?_
  rotate_left
  · go_simp
    rfl
  refine hK.out _ _ ?_
  clear hK K
  refine done_ (by kernel_rfl) ?_
  clear zW15_0 zW15_1 zW15_2 zW15_3 zW15_4 zW15_5 zb15_0 zb15_1 zb15_2 zl15_0 zl15_1 zl15_2 zl15_3
  obtain ⟨W16, hw16⟩ : ∃ x : World, x = ((((W13.setCell ⟨gl9, 0, none⟩ (.int .i64 e0)).setCell ⟨gl9, 1, none⟩ (.int .i64 nd)).setCell ⟨gl9, 2, none⟩ (.int .i64 lf)).setCell ⟨gl9, 3, none⟩ (.int .i64 0)) := ⟨_, rfl⟩
  have HB16 : Aside0 (Below W.heap.size W W16) := ⟨by rw [hw16]; exact (below_set (below_set (below_set (below_set HB14.out GSl9.out) GSl9.out) GSl9.out) GSl9.out)⟩
  have hgr16 : W13.grownBy W16 (some gl9) := by rw [hw16]; exact (((grown_set _ _ _ _).trans (grown_set _ _ _ _)).trans (grown_set _ _ _ _)).trans (grown_set _ _ _ _)
  have Bl16 : Aside0 (W16.heap[gl9]? = some (.cells #[.int .i64 e0, .int .i64 nd, .int .i64 lf, .int .i64 0] 24 (0, 0))) := ⟨by rw [hw16]; refine blk_put (cs := #[.int .i64 e0, .int .i64 nd, .int .i64 lf, .int .i64 l.2.2.2]) ?_ 3 _ rfl; refine blk_put (cs := #[.int .i64 e0, .int .i64 nd, .int .i64 l.2.2.1, .int .i64 l.2.2.2]) ?_ 2 _ rfl; refine blk_put (cs := #[.int .i64 e0, .int .i64 l.2.1, .int .i64 l.2.2.1, .int .i64 l.2.2.2]) ?_ 1 _ rfl; refine blk_put (cs := #[.int .i64 l.1, .int .i64 l.2.1, .int .i64 l.2.2.1, .int .i64 l.2.2.2]) ?_ 0 _ rfl; exact Bl14.out⟩
  have BW16 : Aside0 (W16.heap[g]? = some (.cells #[.int .i64 nd, .int .i64 lf, .int .i64 tk, .bool true, .slice A v.length c, .int .i64 ag] 68 (0, 0))) := ⟨blk_grown BW14.out hgr16 (fun e => (blk_ne BW14.out Bl14.out (by decide)) (by injection e))⟩
  have Bb16 : Aside0 (W16.heap[gb2]? = some (.cells #[.int .i64 0, .slice none 0 0, .slice none 0 0] 39 (0, 0))) := ⟨blk_grown Bb14.out hgr16 (fun e => (blk_ne Bb14.out Bl14.out (by decide)) (by injection e))⟩
  have RV16 := Aside0.mk (Kd.R_mono (Kd.R_grown (Kd.R_types RV14.out Bl14.out (by decide)) hgr16 (fun k hk => by simpa using hk.2)) (fun _ hk => hk.1))
  rw [← hw16]
  clear hw16 hgr16
  obtain ⟨W17, hw17⟩ : ∃ x : World, x = W16.drew := ⟨_, rfl⟩
  have hbd17 : Below W16.heap.size W16 W17 := by rw [hw17]; exact below_drew (Below.refl _ _)
  rw [← hw17]
  clear hw17
  have HB18 := Aside0.mk (below_step HB16.out hbd17)
  have BW18 : Aside0 (W17.heap[g]? = some (.cells #[.int .i64 nd, .int .i64 lf, .int .i64 tk, .bool true, .slice A v.length c, .int .i64 ag] 68 (0, 0))) := ⟨(hbd17.block _ (blk_lt BW16.out)).trans BW16.out⟩
  have Bb18 : Aside0 (W17.heap[gb2]? = some (.cells #[.int .i64 0, .slice none 0 0, .slice none 0 0] 39 (0, 0))) := ⟨(hbd17.block _ (blk_lt Bb16.out)).trans Bb16.out⟩
  have Bl18 : Aside0 (W17.heap[gl9]? = some (.cells #[.int .i64 e0, .int .i64 nd, .int .i64 lf, .int .i64 0] 24 (0, 0))) := ⟨(hbd17.block _ (blk_lt Bl16.out)).trans Bl16.out⟩
  have RV18 := Aside0.mk (Kd.R_below RV16.out hbd17)
  clear hbd17
  have zW19_0 : W17.cell? ⟨g, 0, none⟩ = some (.int .i64 nd) := (blk_cell BW18.out 0).trans rfl
  have zW19_1 : W17.cell? ⟨g, 1, none⟩ = some (.int .i64 lf) := (blk_cell BW18.out 1).trans rfl
  have zW19_2 : W17.cell? ⟨g, 2, none⟩ = some (.int .i64 tk) := (blk_cell BW18.out 2).trans rfl
  have zW19_3 : W17.cell? ⟨g, 3, none⟩ = some (.bool true) := (blk_cell BW18.out 3).trans rfl
  have zW19_4 : W17.cell? ⟨g, 4, none⟩ = some (.slice A v.length c) := (blk_cell BW18.out 4).trans rfl
  have zW19_5 : W17.cell? ⟨g, 5, none⟩ = some (.int .i64 ag) := (blk_cell BW18.out 5).trans rfl
  have zl19_0 : W17.cell? ⟨gl9, 0, none⟩ = some (.int .i64 e0) := (blk_cell Bl18.out 0).trans rfl
  have zl19_1 : W17.cell? ⟨gl9, 1, none⟩ = some (.int .i64 nd) := (blk_cell Bl18.out 1).trans rfl
  have zl19_2 : W17.cell? ⟨gl9, 2, none⟩ = some (.int .i64 lf) := (blk_cell Bl18.out 2).trans rfl
  have zl19_3 : W17.cell? ⟨gl9, 3, none⟩ = some (.int .i64 0) := (blk_cell Bl18.out 3).trans rfl
  go_wp2_with fail
  refine start_ (n := 8) (S := fun w' => w'.cell? ⟨g, 0, none⟩ = some (.int .i64 nd) ∧ w'.cell? ⟨g, 1, none⟩ = some (.int .i64 lf) ∧ w'.cell? ⟨g, 2, none⟩ = some (.int .i64 tk) ∧ w'.cell? ⟨g, 3, none⟩ = some (.bool true) ∧ w'.cell? ⟨g, 4, none⟩ = some (.slice A v.length c) ∧ w'.cell? ⟨g, 5, none⟩ = some (.int .i64 ag) ∧ w'.cell? ⟨gl9, 0, none⟩ = some (.int .i64 e0) ∧ w'.cell? ⟨gl9, 1, none⟩ = some (.int .i64 nd) ∧ w'.cell? ⟨gl9, 2, none⟩ = some (.int .i64 lf) ∧ w'.cell? ⟨gl9, 3, none⟩ = some (.int .i64 0)) (ds := [7]) #[false, false, false, false, false, false, false, false] (by kernel_rfl) rfl rfl ⟨zW19_0, zW19_1, zW19_2, zW19_3, zW19_4, zW19_5, zl19_0, zl19_1, zl19_2, zl19_3⟩ (fun hHeld => ?_)
  refine pure_ (i := 0) (N := some 62) (v := ?_) (a' := ?_) #[true, false, false, false, false, false, false, false] rfl rfl (by kernel_rfl) (fun _ _ _ h => h) (Or.inl ⟨by rfl, ?_⟩) ?_ ?_
  rotate_left
  · intro w'
    go_simp
    with_reducible rfl
  rotate_left
  · simp only [Act.put, List.setIfInBounds_toArray, List.set_cons_zero, List.set_cons_succ, i64_w, i32_w]
    rfl
  refine pure_ (i := 1) (N := some 63) (v := ?_) (a' := ?_) #[true, true, false, false, false, false, false, false] rfl rfl (by kernel_rfl) (fun _ _ _ h => h) (Or.inl ⟨by rfl, ?_⟩) ?_ ?_
  rotate_left
  · intro w'
    go_simp
    with_reducible rfl
  rotate_left
  · simp only [Act.put, List.setIfInBounds_toArray, List.set_cons_zero, List.set_cons_succ, i64_w, i32_w]
    rfl
  refine pure_ (i := 2) (N := some 64) (v := ?_) (a' := ?_) #[true, true, true, false, false, false, false, false] rfl rfl (by kernel_rfl) (fun _ _ _ h => h) (Or.inl ⟨by rfl, ?_⟩) ?_ ?_
  rotate_left
  · intro w'
    go_simp
    with_reducible rfl
  rotate_left
  · simp only [Act.put, List.setIfInBounds_toArray, List.set_cons_zero, List.set_cons_succ, i64_w, i32_w]
    rfl
  refine take_ (i := 3) (N := some 65) (v := ?_) (a' := ?_) #[true, true, true, true, false, false, false, false] rfl rfl (by kernel_rfl) (fun _ _ _ h => h) (Or.inl ⟨by rfl, ?_⟩) hHeld ?_ ?_
  rotate_left
  · rintro w' ⟨s0, s1, s2, s3, s4, s5, s6, s7, s8, s9⟩
    go_simp
    with_reducible rfl
  rotate_left
  · simp only [Act.put, List.setIfInBounds_toArray, List.set_cons_zero, List.set_cons_succ, i64_w, i32_w]
    rfl
  refine take_ (i := 4) (N := some 66) (v := ?_) (a' := ?_) #[true, true, true, true, true, false, false, false] rfl rfl (by kernel_rfl) (fun _ _ _ h => h) (Or.inl ⟨by rfl, ?_⟩) hHeld ?_ ?_
  rotate_left
  · rintro w' ⟨s0, s1, s2, s3, s4, s5, s6, s7, s8, s9⟩
    go_simp
    with_reducible rfl
  rotate_left
  · simp only [Act.put, List.setIfInBounds_toArray, List.set_cons_zero, List.set_cons_succ, i64_w, i32_w]
    rfl
  refine one_ (i := 5) (N := some 67) #[true, true, true, true, true, true, false, false] rfl rfl (by kernel_rfl) (by decide) (fun K hK => ?_)
  refine goes_ Try.func12 (by kernel_rfl) rfl #[.agg #[.int .i64 e0, .int .i64 nd, .int .i64 lf, .int .i64 0]] (by rfl) rfl rfl (by simp only [List.map_toArray, List.map_cons, List.map_nil]; rfl) ?_
  with_reducible refine (nums4_v (e0) (nd) (lf) (0) _).mono ?_
  rintro e v5 ⟨Bn, dn, rfl, hRn, hb5⟩
  refine ⟨_, rfl, ?_⟩
  have HB5 := Aside0.mk (below_step (below_drew (Below.refl _ W17)) hb5)
  have HRn := Aside0.mk hRn
  have HCn := Aside0.mk (show (Kd.int .i64).C v5 Bn 4 [e0, nd, lf, 0] from (Kd.R_reads' hRn).2.2)
  clear hRn hb5
  refine hK.out _ _ ⟨pw_cell_below HB5.out zW19_0, pw_cell_below HB5.out zW19_1, pw_cell_below HB5.out zW19_2, pw_cell_below HB5.out zW19_3, pw_cell_below HB5.out zW19_4, pw_cell_below HB5.out zW19_5, pw_cell_below HB5.out zl19_0, pw_cell_below HB5.out zl19_1, pw_cell_below HB5.out zl19_2, pw_cell_below HB5.out zl19_3⟩ (fun hHeld => ?_)
  clear hK K
  refine norm_ (a' := ?_) ?_ ?_
  rotate_left
  · show Act.put _ (some 67) _ = _
    simp only [Act.put, List.setIfInBounds_toArray, List.set_cons_zero, List.set_cons_succ, i64_w, i32_w]
    rfl
  refine one_ (i := 6) (N := some 68) #[true, true, true, true, true, true, true, false] rfl rfl (by kernel_rfl) (by decide) (fun K hK => ?_)
  refine goes_ Try.func28 (by kernel_rfl) rfl #[.slice A v.length c, .slice Bn 4 dn] (by rfl) rfl rfl (by simp only [List.map_toArray, List.map_cons, List.map_nil]; rfl) ?_
  with_reducible refine (swap4_v A c v Bn dn (e0) (nd) (lf) (0) _ (Kd.C_below (Kd.R_reads' RV18.out).2.2 HB5.out) hlc HCn.out (Kd.R_reads' HRn.out).2.1 hvl).mono ?_
  rintro e v6 ⟨B, d, B', d', rfl, hRa, hRb, hb6⟩
  refine ⟨_, rfl, ?_⟩
  have HB6 := Aside0.mk (below_step HB5.out hb6)
  have HRa := Aside0.mk (Kd.R_lower hRa (Nat.le_trans HB18.out.size HB5.out.size))
  have HRb := Aside0.mk (Kd.R_lower hRb (Nat.le_trans HB18.out.size HB5.out.size))
  clear hRa hRb hb6
  have Bb6 : Aside0 (v6.heap[gb2]? = some (.cells #[.int .i64 0, .slice none 0 0, .slice none 0 0] 39 (0, 0))) := ⟨blk_below Bb18.out HB6.out⟩
  have k0 : v6.cell? ⟨gb2, 0, none⟩ = some (.int .i64 0) := (blk_cell Bb6.out 0).trans rfl
  have k1 : v6.cell? ⟨gb2, 1, none⟩ = some (.slice none 0 0) := (blk_cell Bb6.out 1).trans rfl
  have k2 : v6.cell? ⟨gb2, 2, none⟩ = some (.slice none 0 0) := (blk_cell Bb6.out 2).trans rfl
  have f0 := blk_frozen Bb6.out 0
  have f1 := blk_frozen Bb6.out 1
  have f2 := blk_frozen Bb6.out 2
  refine hK.out _ _ ⟨pw_cell_below HB6.out zW19_0, pw_cell_below HB6.out zW19_1, pw_cell_below HB6.out zW19_2, pw_cell_below HB6.out zW19_3, pw_cell_below HB6.out zW19_4, pw_cell_below HB6.out zW19_5, pw_cell_below HB6.out zl19_0, pw_cell_below HB6.out zl19_1, pw_cell_below HB6.out zl19_2, pw_cell_below HB6.out zl19_3⟩ (fun hHeld => ?_)
  clear hK K
  refine norm_ (a' := ?_) ?_ ?_
  rotate_left
  · show Act.put _ (some 68) _ = _
    simp only [Act.put, List.setIfInBounds_toArray, List.set_cons_zero, List.set_cons_succ, i64_w, i32_w]
    rfl
  refine last_ (i := 7) (N := none) #[true, true, true, true, true, true, true, true] rfl rfl (by kernel_rfl) (by decide) (fun K hK => ?_)
  refine skip_ (w1 := ?_) (by rfl) rfl ?_ ?_
  rotate_left
  · go_simp
    rfl
  refine hK.out _ _ ?_
  clear hK K
  refine done_ (by kernel_rfl) ?_
  go_wp2_with fail
  have HBE := Aside0.mk (below_step HB18.out HB6.out)
  refine bodyPost_ret (results_cell_row rfl _ _ gb2 39 #[.int .i64 2, .slice B v.length d, .slice B' 4 d'] (0, 0) _ rfl (by refine blk_put (cs := #[.int .i64 2, .slice B v.length d, .slice none 0 0]) ?_ 2 _ rfl; refine blk_put (cs := #[.int .i64 2, .slice none 0 0, .slice none 0 0]) ?_ 1 _ rfl; refine blk_put (cs := #[.int .i64 0, .slice none 0 0, .slice none 0 0]) ?_ 0 _ rfl; exact Bb6.out) Try.underlying39 rfl (by kernel_rfl)) rfl ?_
  exact ⟨_, _, _, _, rfl, Kd.R_mono (Kd.R_far (p := ⟨gb2, 2, none⟩) (Kd.R_far (p := ⟨gb2, 1, none⟩) (Kd.R_far (p := ⟨gb2, 0, none⟩) (Kd.R_types HRa.out Bb6.out (by decide)) (fun _ hk => hk.2) _) (fun _ hk => hk.2) _) (fun _ hk => hk.2) _) (fun _ _ => trivial), Kd.R_mono (Kd.R_far (p := ⟨gb2, 2, none⟩) (Kd.R_far (p := ⟨gb2, 1, none⟩) (Kd.R_far (p := ⟨gb2, 0, none⟩) (Kd.R_types HRb.out Bb6.out (by decide)) (fun _ hk => hk.2) _) (fun _ hk => hk.2) _) (fun _ hk => hk.2) _) (fun _ hk => hk.1), by repeat (first | exact HBE.out | refine below_set ?_ GSb2.out)⟩
set_option maxHeartbeats 4000000 in
set_option maxRecDepth 100000 in
theorem want_old (W : World) (g : Nat) (nd lf tk : Int) (v : List Int) (ag : Int) (h : WAt W g nd lf tk true v ag) (l : LeaseT) (hl : leaseOf v = l) (hq : okL v = true) (hlb : leadsB nd lf v = false) (hn : leadsN nd lf v = 0) (hage : tk ≤ ag) :
    Calls Try.prog 17 #[.pointer (some ⟨g, 0, none⟩)] W fun e w' => WantPost W (2, v, [wrap64 (l.1 + 1), nd, lf, 0]) e w' := by
  have hu32 := Try.underlying32
  have hu39 := Try.underlying39
  have hu68 := Try.underlying68
  have hu66 := Try.underlying66
  have hu24 := Try.underlying24
  have HL := Aside0.mk hl
  have HQ := Aside0.mk hq
  have HLB := Aside0.mk hlb
  have HN := Aside0.mk hn
  clear hl hq hlb hn
  have HW := Aside0.mk h
  obtain ⟨A, c, hB0, hR0, hvl⟩ := h
  have BW0 := Aside0.mk hB0
  have HR0 := Aside0.mk hR0
  have hlc := (Kd.R_reads' hR0).2.1
  have hmax := Kd.C_max (Kd.R_reads' hR0).2.2
  clear hB0 hR0
  have zW1_0 : W.cell? ⟨g, 0, none⟩ = some (.int .i64 nd) := (blk_cell BW0.out 0).trans rfl
  have zW1_1 : W.cell? ⟨g, 1, none⟩ = some (.int .i64 lf) := (blk_cell BW0.out 1).trans rfl
  have zW1_2 : W.cell? ⟨g, 2, none⟩ = some (.int .i64 tk) := (blk_cell BW0.out 2).trans rfl
  have zW1_3 : W.cell? ⟨g, 3, none⟩ = some (.bool true) := (blk_cell BW0.out 3).trans rfl
  have zW1_4 : W.cell? ⟨g, 4, none⟩ = some (.slice A v.length c) := (blk_cell BW0.out 4).trans rfl
  have zW1_5 : W.cell? ⟨g, 5, none⟩ = some (.int .i64 ag) := (blk_cell BW0.out 5).trans rfl
  obtain ⟨e0, he0⟩ : ∃ x, x = wrap64 (l.1 + 1) := ⟨_, rfl⟩
  rw [← he0]
  have HE0 := Aside0.mk he0
  clear he0
  go_enter Try.func17, Try.ntmps17
  go_wp2_with ((with_reducible refine gate_dst (N := 2) rfl ?_); refine box_event ?hg (N := 2) ?hd (cs := #[.int .i64 0, .slice none 0 0, .slice none 0 0]) (t := 39) ?hr ?_; (case hd => rfl); (case hg => rfl); (case hr => first | (go_simp; done) | (go_simp; rfl)); intro gb2 hg2 W2 hbox2 hb2; have GSb2 : Aside0 (W.heap.size ≤ gb2) := ⟨by rw [hg2]; exact Nat.le_refl _⟩; have Bb2 := Aside0.mk hbox2; have Gb2 : Aside0 (W.heap.size ≤ gb2) := ⟨by rw [hg2]; exact Nat.le_refl _⟩; have hbk2 := hb2; clear hg2 hbox2; clear zW1_0 zW1_1 zW1_2 zW1_3 zW1_4 zW1_5; have HB3 := Aside0.mk hbk2; have BW3 : Aside0 (W2.heap[g]? = some (.cells #[.int .i64 nd, .int .i64 lf, .int .i64 tk, .bool true, .slice A v.length c, .int .i64 ag] 68 (0, 0))) := ⟨(hbk2.block _ (blk_lt BW0.out)).trans BW0.out⟩; have RV3 := Aside0.mk (Kd.R_below HR0.out hbk2); clear hbk2; clear hb2; have zW4_0 : W2.cell? ⟨g, 0, none⟩ = some (.int .i64 nd) := (blk_cell BW3.out 0).trans rfl; have zW4_1 : W2.cell? ⟨g, 1, none⟩ = some (.int .i64 lf) := (blk_cell BW3.out 1).trans rfl; have zW4_2 : W2.cell? ⟨g, 2, none⟩ = some (.int .i64 tk) := (blk_cell BW3.out 2).trans rfl; have zW4_3 : W2.cell? ⟨g, 3, none⟩ = some (.bool true) := (blk_cell BW3.out 3).trans rfl; have zW4_4 : W2.cell? ⟨g, 4, none⟩ = some (.slice A v.length c) := (blk_cell BW3.out 4).trans rfl; have zW4_5 : W2.cell? ⟨g, 5, none⟩ = some (.int .i64 ag) := (blk_cell BW3.out 5).trans rfl; have zb4_0 : W2.cell? ⟨gb2, 0, none⟩ = some (.int .i64 0) := (blk_cell Bb2.out 0).trans rfl; have zb4_1 : W2.cell? ⟨gb2, 1, none⟩ = some (.slice none 0 0) := (blk_cell Bb2.out 1).trans rfl; have zb4_2 : W2.cell? ⟨gb2, 2, none⟩ = some (.slice none 0 0) := (blk_cell Bb2.out 2).trans rfl)
  refine (lease_c _ g nd lf tk true v ag ⟨A, c, BW3.out, RV3.out, hvl⟩).mono ?_
  rw [HL.out, HQ.out]
  rintro e w3 ⟨rfl, hb3⟩
  clear zW4_0 zW4_1 zW4_2 zW4_3 zW4_4 zW4_5 zb4_0 zb4_1 zb4_2
  have HB6 := Aside0.mk (below_step HB3.out hb3)
  have BW6 : Aside0 (w3.heap[g]? = some (.cells #[.int .i64 nd, .int .i64 lf, .int .i64 tk, .bool true, .slice A v.length c, .int .i64 ag] 68 (0, 0))) := ⟨(hb3.block _ (blk_lt BW3.out)).trans BW3.out⟩
  have Bb6 : Aside0 (w3.heap[gb2]? = some (.cells #[.int .i64 0, .slice none 0 0, .slice none 0 0] 39 (0, 0))) := ⟨(hb3.block _ (blk_lt Bb2.out)).trans Bb2.out⟩
  have RV6 := Aside0.mk (Kd.R_below RV3.out hb3)
  clear hb3
  have zW7_0 : w3.cell? ⟨g, 0, none⟩ = some (.int .i64 nd) := (blk_cell BW6.out 0).trans rfl
  have zW7_1 : w3.cell? ⟨g, 1, none⟩ = some (.int .i64 lf) := (blk_cell BW6.out 1).trans rfl
  have zW7_2 : w3.cell? ⟨g, 2, none⟩ = some (.int .i64 tk) := (blk_cell BW6.out 2).trans rfl
  have zW7_3 : w3.cell? ⟨g, 3, none⟩ = some (.bool true) := (blk_cell BW6.out 3).trans rfl
  have zW7_4 : w3.cell? ⟨g, 4, none⟩ = some (.slice A v.length c) := (blk_cell BW6.out 4).trans rfl
  have zW7_5 : w3.cell? ⟨g, 5, none⟩ = some (.int .i64 ag) := (blk_cell BW6.out 5).trans rfl
  have zb7_0 : w3.cell? ⟨gb2, 0, none⟩ = some (.int .i64 0) := (blk_cell Bb6.out 0).trans rfl
  have zb7_1 : w3.cell? ⟨gb2, 1, none⟩ = some (.slice none 0 0) := (blk_cell Bb6.out 1).trans rfl
  have zb7_2 : w3.cell? ⟨gb2, 2, none⟩ = some (.slice none 0 0) := (blk_cell Bb6.out 2).trans rfl
  have zaW8_0 : ∀ o, (w3.alloc o).cell? ⟨g, 0, none⟩ = some (.int .i64 nd) := fun o => (blk_cell (blk_alloc BW6.out o) 0).trans rfl
  have zaW8_1 : ∀ o, (w3.alloc o).cell? ⟨g, 1, none⟩ = some (.int .i64 lf) := fun o => (blk_cell (blk_alloc BW6.out o) 1).trans rfl
  have zaW8_2 : ∀ o, (w3.alloc o).cell? ⟨g, 2, none⟩ = some (.int .i64 tk) := fun o => (blk_cell (blk_alloc BW6.out o) 2).trans rfl
  have zaW8_3 : ∀ o, (w3.alloc o).cell? ⟨g, 3, none⟩ = some (.bool true) := fun o => (blk_cell (blk_alloc BW6.out o) 3).trans rfl
  have zaW8_4 : ∀ o, (w3.alloc o).cell? ⟨g, 4, none⟩ = some (.slice A v.length c) := fun o => (blk_cell (blk_alloc BW6.out o) 4).trans rfl
  have zaW8_5 : ∀ o, (w3.alloc o).cell? ⟨g, 5, none⟩ = some (.int .i64 ag) := fun o => (blk_cell (blk_alloc BW6.out o) 5).trans rfl
  have zab8_0 : ∀ o, (w3.alloc o).cell? ⟨gb2, 0, none⟩ = some (.int .i64 0) := fun o => (blk_cell (blk_alloc Bb6.out o) 0).trans rfl
  have zab8_1 : ∀ o, (w3.alloc o).cell? ⟨gb2, 1, none⟩ = some (.slice none 0 0) := fun o => (blk_cell (blk_alloc Bb6.out o) 1).trans rfl
  have zab8_2 : ∀ o, (w3.alloc o).cell? ⟨gb2, 2, none⟩ = some (.slice none 0 0) := fun o => (blk_cell (blk_alloc Bb6.out o) 2).trans rfl
  go_wp2_with fail
  obtain ⟨W9, hw9⟩ : ∃ x : World, x = w3.alloc (.cells #[.int .i64 l.1, .int .i64 l.2.1, .int .i64 l.2.2.1, .int .i64 l.2.2.2] 24) := ⟨_, rfl⟩
  have hbs9 : Below w3.heap.size w3 W9 := by rw [hw9]; repeat (first | exact Below.refl _ _ | refine below_alloc ?_ _ | refine below_drew ?_)
  obtain ⟨gl9, hgl9⟩ : ∃ x, x = w3.heap.size := ⟨_, rfl⟩
  have GSl9 : Aside0 (W.heap.size ≤ gl9) := ⟨by rw [hgl9]; have := HB6.out.size; omega⟩
  have Bl9 : Aside0 (W9.heap[gl9]? = some (.cells #[.int .i64 l.1, .int .i64 l.2.1, .int .i64 l.2.2.1, .int .i64 l.2.2.2] 24 (0, 0))) := ⟨by rw [hw9, hgl9]; exact blk_new _ _⟩
  rw [← hw9]
  rw [← hgl9]
  clear hw9 hgl9
  clear zW7_0 zW7_1 zW7_2 zW7_3 zW7_4 zW7_5 zb7_0 zb7_1 zb7_2 zaW8_0 zaW8_1 zaW8_2 zaW8_3 zaW8_4 zaW8_5 zab8_0 zab8_1 zab8_2
  have HB10 := Aside0.mk (below_step HB6.out hbs9)
  have BW10 : Aside0 (W9.heap[g]? = some (.cells #[.int .i64 nd, .int .i64 lf, .int .i64 tk, .bool true, .slice A v.length c, .int .i64 ag] 68 (0, 0))) := ⟨(hbs9.block _ (blk_lt BW6.out)).trans BW6.out⟩
  have Bb10 : Aside0 (W9.heap[gb2]? = some (.cells #[.int .i64 0, .slice none 0 0, .slice none 0 0] 39 (0, 0))) := ⟨(hbs9.block _ (blk_lt Bb6.out)).trans Bb6.out⟩
  have RV10 := Aside0.mk (Kd.R_below RV6.out hbs9)
  clear hbs9
  refine (leads_c _ g nd lf tk true v ag ⟨A, c, BW10.out, RV10.out, hvl⟩).mono ?_
  rw [HLB.out, HN.out]
  rintro e w4 ⟨rfl, hb4⟩
  have HB11 := Aside0.mk (below_step HB10.out hb4)
  have BW11 : Aside0 (w4.heap[g]? = some (.cells #[.int .i64 nd, .int .i64 lf, .int .i64 tk, .bool true, .slice A v.length c, .int .i64 ag] 68 (0, 0))) := ⟨(hb4.block _ (blk_lt BW10.out)).trans BW10.out⟩
  have Bb11 : Aside0 (w4.heap[gb2]? = some (.cells #[.int .i64 0, .slice none 0 0, .slice none 0 0] 39 (0, 0))) := ⟨(hb4.block _ (blk_lt Bb10.out)).trans Bb10.out⟩
  have Bl11 : Aside0 (w4.heap[gl9]? = some (.cells #[.int .i64 l.1, .int .i64 l.2.1, .int .i64 l.2.2.1, .int .i64 l.2.2.2] 24 (0, 0))) := ⟨(hb4.block _ (blk_lt Bl9.out)).trans Bl9.out⟩
  have RV11 := Aside0.mk (Kd.R_below RV10.out hb4)
  clear hb4
  have zW12_0 : w4.cell? ⟨g, 0, none⟩ = some (.int .i64 nd) := (blk_cell BW11.out 0).trans rfl
  have zW12_1 : w4.cell? ⟨g, 1, none⟩ = some (.int .i64 lf) := (blk_cell BW11.out 1).trans rfl
  have zW12_2 : w4.cell? ⟨g, 2, none⟩ = some (.int .i64 tk) := (blk_cell BW11.out 2).trans rfl
  have zW12_3 : w4.cell? ⟨g, 3, none⟩ = some (.bool true) := (blk_cell BW11.out 3).trans rfl
  have zW12_4 : w4.cell? ⟨g, 4, none⟩ = some (.slice A v.length c) := (blk_cell BW11.out 4).trans rfl
  have zW12_5 : w4.cell? ⟨g, 5, none⟩ = some (.int .i64 ag) := (blk_cell BW11.out 5).trans rfl
  have zb12_0 : w4.cell? ⟨gb2, 0, none⟩ = some (.int .i64 0) := (blk_cell Bb11.out 0).trans rfl
  have zb12_1 : w4.cell? ⟨gb2, 1, none⟩ = some (.slice none 0 0) := (blk_cell Bb11.out 1).trans rfl
  have zb12_2 : w4.cell? ⟨gb2, 2, none⟩ = some (.slice none 0 0) := (blk_cell Bb11.out 2).trans rfl
  have zl12_0 : w4.cell? ⟨gl9, 0, none⟩ = some (.int .i64 l.1) := (blk_cell Bl11.out 0).trans rfl
  have zl12_1 : w4.cell? ⟨gl9, 1, none⟩ = some (.int .i64 l.2.1) := (blk_cell Bl11.out 1).trans rfl
  have zl12_2 : w4.cell? ⟨gl9, 2, none⟩ = some (.int .i64 l.2.2.1) := (blk_cell Bl11.out 2).trans rfl
  have zl12_3 : w4.cell? ⟨gl9, 3, none⟩ = some (.int .i64 l.2.2.2) := (blk_cell Bl11.out 3).trans rfl
  have hd1 : decide (tk ≤ ag) = true := decide_eq_true hage
  go_wp2_with fail
  refine start_ (n := 14) (S := fun w' => w'.cell? ⟨g, 0, none⟩ = some (.int .i64 nd) ∧ w'.cell? ⟨g, 1, none⟩ = some (.int .i64 lf) ∧ w'.cell? ⟨g, 2, none⟩ = some (.int .i64 tk) ∧ w'.cell? ⟨g, 3, none⟩ = some (.bool true) ∧ w'.cell? ⟨g, 4, none⟩ = some (.slice A v.length c) ∧ w'.cell? ⟨g, 5, none⟩ = some (.int .i64 ag)) (ds := []) #[false, false, false, false, false, false, false, false, false, false, false, false, false, false] (by kernel_rfl) rfl rfl ⟨zW12_0, zW12_1, zW12_2, zW12_3, zW12_4, zW12_5⟩ (fun hHeld => ?_)
  refine pure_ (i := 0) (N := some 35) (v := ?_) (a' := ?_) #[true, false, false, false, false, false, false, false, false, false, false, false, false, false] rfl rfl (by kernel_rfl) (fun _ _ _ h => h) (Or.inl ⟨by rfl, ?_⟩) ?_ ?_
  rotate_left
  · intro w'
    go_simp
    with_reducible rfl
  rotate_left
  · simp only [Act.put, List.setIfInBounds_toArray, List.set_cons_zero, List.set_cons_succ, i64_w, i32_w]
    rfl
  refine pure_ (i := 1) (N := some 36) (v := ?_) (a' := ?_) #[true, true, false, false, false, false, false, false, false, false, false, false, false, false] rfl rfl (by kernel_rfl) (fun _ _ _ h => h) (Or.inl ⟨by rfl, ?_⟩) ?_ ?_
  rotate_left
  · intro w'
    go_simp
    with_reducible rfl
  rotate_left
  · simp only [Act.put, List.setIfInBounds_toArray, List.set_cons_zero, List.set_cons_succ, i64_w, i32_w]
    rfl
  refine pure_ (i := 2) (N := some 37) (v := ?_) (a' := ?_) #[true, true, true, false, false, false, false, false, false, false, false, false, false, false] rfl rfl (by kernel_rfl) (fun _ _ _ h => h) (Or.inl ⟨by rfl, ?_⟩) ?_ ?_
  rotate_left
  · intro w'
    go_simp
    with_reducible rfl
  rotate_left
  · simp only [Act.put, List.setIfInBounds_toArray, List.set_cons_zero, List.set_cons_succ, i64_w, i32_w]
    rfl
  refine pure_ (i := 3) (N := some 38) (v := ?_) (a' := ?_) #[true, true, true, true, false, false, false, false, false, false, false, false, false, false] rfl rfl (by kernel_rfl) (fun _ _ _ h => h) (Or.inl ⟨by rfl, ?_⟩) ?_ ?_
  rotate_left
  · intro w'
    go_simp
    with_reducible rfl
  rotate_left
  · simp only [Act.put, List.setIfInBounds_toArray, List.set_cons_zero, List.set_cons_succ, i64_w, i32_w]
    rfl
  refine pure_ (i := 4) (N := some 39) (v := ?_) (a' := ?_) #[true, true, true, true, true, false, false, false, false, false, false, false, false, false] rfl rfl (by kernel_rfl) (fun _ _ _ h => h) (Or.inl ⟨by rfl, ?_⟩) ?_ ?_
  rotate_left
  · intro w'
    go_simp
    with_reducible rfl
  rotate_left
  · simp only [Act.put, List.setIfInBounds_toArray, List.set_cons_zero, List.set_cons_succ, i64_w, i32_w]
    rfl
  refine pure_ (i := 5) (N := some 40) (v := ?_) (a' := ?_) #[true, true, true, true, true, true, false, false, false, false, false, false, false, false] rfl rfl (by kernel_rfl) (fun _ _ _ h => h) (Or.inl ⟨by rfl, ?_⟩) ?_ ?_
  rotate_left
  · intro w'
    go_simp
    with_reducible rfl
  rotate_left
  · simp only [Act.put, List.setIfInBounds_toArray, List.set_cons_zero, List.set_cons_succ, i64_w, i32_w]
    rfl
  refine pure_ (i := 7) (N := some 42) (v := ?_) (a' := ?_) #[true, true, true, true, true, true, false, true, false, false, false, false, false, false] rfl rfl (by kernel_rfl) (fun _ _ _ h => h) (Or.inl ⟨by rfl, ?_⟩) ?_ ?_
  rotate_left
  · intro w'
    go_simp
    with_reducible rfl
  rotate_left
  · simp only [Act.put, List.setIfInBounds_toArray, List.set_cons_zero, List.set_cons_succ, i64_w, i32_w]
    rfl
  refine pure_ (i := 8) (N := some 43) (v := ?_) (a' := ?_) #[true, true, true, true, true, true, false, true, true, false, false, false, false, false] rfl rfl (by kernel_rfl) (fun _ _ _ h => h) (Or.inl ⟨by rfl, ?_⟩) ?_ ?_
  rotate_left
  · intro w'
    go_simp
    with_reducible rfl
  rotate_left
  · simp only [Act.put, List.setIfInBounds_toArray, List.set_cons_zero, List.set_cons_succ, i64_w, i32_w]
    rfl
  refine pure_ (i := 9) (N := some 44) (v := ?_) (a' := ?_) #[true, true, true, true, true, true, false, true, true, true, false, false, false, false] rfl rfl (by kernel_rfl) (fun _ _ _ h => h) (Or.inl ⟨by rfl, ?_⟩) ?_ ?_
  rotate_left
  · intro w'
    go_simp
    with_reducible rfl
  rotate_left
  · simp only [Act.put, List.setIfInBounds_toArray, List.set_cons_zero, List.set_cons_succ, i64_w, i32_w]
    rfl
  refine take_ (i := 6) (N := some 41) (v := ?_) (a' := ?_) #[true, true, true, true, true, true, true, true, true, true, false, false, false, false] rfl rfl (by kernel_rfl) (fun _ _ _ h => h) (Or.inl ⟨by rfl, ?_⟩) hHeld ?_ ?_
  rotate_left
  · rintro w' ⟨s0, s1, s2, s3, s4, s5⟩
    go_simp
    with_reducible rfl
  rotate_left
  · simp only [Act.put, List.setIfInBounds_toArray, List.set_cons_zero, List.set_cons_succ, i64_w, i32_w]
    rfl
  refine take_ (i := 10) (N := some 45) (v := ?_) (a' := ?_) #[true, true, true, true, true, true, true, true, true, true, true, false, false, false] rfl rfl (by kernel_rfl) (fun _ _ _ h => h) (Or.inl ⟨by rfl, ?_⟩) hHeld ?_ ?_
  rotate_left
  · rintro w' ⟨s0, s1, s2, s3, s4, s5⟩
    go_simp
    with_reducible rfl
  rotate_left
  · simp only [Act.put, List.setIfInBounds_toArray, List.set_cons_zero, List.set_cons_succ, i64_w, i32_w]
    rfl
  refine pure_ (i := 11) (N := some 46) (v := ?_) (a' := ?_) #[true, true, true, true, true, true, true, true, true, true, true, true, false, false] rfl rfl (by kernel_rfl) (fun _ _ _ h => h) (Or.inl ⟨by rfl, ?_⟩) ?_ ?_
  rotate_left
  · intro w'
    go_simp
    with_reducible rfl
  rotate_left
  · simp only [Act.put, List.setIfInBounds_toArray, List.set_cons_zero, List.set_cons_succ, i64_w, i32_w]
    rfl
  refine pure_ (i := 12) (N := some 47) (v := ?_) (a' := ?_) #[true, true, true, true, true, true, true, true, true, true, true, true, true, false] rfl rfl (by kernel_rfl) (fun _ _ _ h => h) (Or.inl ⟨by rfl, ?_⟩) ?_ ?_
  rotate_left
  · intro w'
    go_simp
    with_reducible rfl
  rotate_left
  · simp only [Act.put, List.setIfInBounds_toArray, List.set_cons_zero, List.set_cons_succ, i64_w, i32_w]
    rfl
  refine pure_ (i := 13) (N := some 34) (v := ?_) (a' := ?_) #[true, true, true, true, true, true, true, true, true, true, true, true, true, true] rfl rfl (by kernel_rfl) (fun _ _ _ h => h) (Or.inl ⟨by rfl, ?_⟩) ?_ ?_
  rotate_left
  · intro w'
    go_simp
    with_reducible rfl
  rotate_left
  · simp only [Act.put, List.setIfInBounds_toArray, List.set_cons_zero, List.set_cons_succ, i64_w, i32_w]
    rfl
  refine done_ (by kernel_rfl) ?_
  obtain ⟨W13, hw13⟩ : ∃ x : World, x = w4.drew := ⟨_, rfl⟩
  have hbd13 : Below w4.heap.size w4 W13 := by rw [hw13]; exact below_drew (Below.refl _ _)
  rw [← hw13]
  clear hw13
  clear zW12_0 zW12_1 zW12_2 zW12_3 zW12_4 zW12_5 zb12_0 zb12_1 zb12_2 zl12_0 zl12_1 zl12_2 zl12_3
  have HB14 := Aside0.mk (below_step HB11.out hbd13)
  have BW14 : Aside0 (W13.heap[g]? = some (.cells #[.int .i64 nd, .int .i64 lf, .int .i64 tk, .bool true, .slice A v.length c, .int .i64 ag] 68 (0, 0))) := ⟨(hbd13.block _ (blk_lt BW11.out)).trans BW11.out⟩
  have Bb14 : Aside0 (W13.heap[gb2]? = some (.cells #[.int .i64 0, .slice none 0 0, .slice none 0 0] 39 (0, 0))) := ⟨(hbd13.block _ (blk_lt Bb11.out)).trans Bb11.out⟩
  have Bl14 : Aside0 (W13.heap[gl9]? = some (.cells #[.int .i64 l.1, .int .i64 l.2.1, .int .i64 l.2.2.1, .int .i64 l.2.2.2] 24 (0, 0))) := ⟨(hbd13.block _ (blk_lt Bl11.out)).trans Bl11.out⟩
  have RV14 := Aside0.mk (Kd.R_below RV11.out hbd13)
  clear hbd13
  have zW15_0 : W13.cell? ⟨g, 0, none⟩ = some (.int .i64 nd) := (blk_cell BW14.out 0).trans rfl
  have zW15_1 : W13.cell? ⟨g, 1, none⟩ = some (.int .i64 lf) := (blk_cell BW14.out 1).trans rfl
  have zW15_2 : W13.cell? ⟨g, 2, none⟩ = some (.int .i64 tk) := (blk_cell BW14.out 2).trans rfl
  have zW15_3 : W13.cell? ⟨g, 3, none⟩ = some (.bool true) := (blk_cell BW14.out 3).trans rfl
  have zW15_4 : W13.cell? ⟨g, 4, none⟩ = some (.slice A v.length c) := (blk_cell BW14.out 4).trans rfl
  have zW15_5 : W13.cell? ⟨g, 5, none⟩ = some (.int .i64 ag) := (blk_cell BW14.out 5).trans rfl
  have zb15_0 : W13.cell? ⟨gb2, 0, none⟩ = some (.int .i64 0) := (blk_cell Bb14.out 0).trans rfl
  have zb15_1 : W13.cell? ⟨gb2, 1, none⟩ = some (.slice none 0 0) := (blk_cell Bb14.out 1).trans rfl
  have zb15_2 : W13.cell? ⟨gb2, 2, none⟩ = some (.slice none 0 0) := (blk_cell Bb14.out 2).trans rfl
  have zl15_0 : W13.cell? ⟨gl9, 0, none⟩ = some (.int .i64 l.1) := (blk_cell Bl14.out 0).trans rfl
  have zl15_1 : W13.cell? ⟨gl9, 1, none⟩ = some (.int .i64 l.2.1) := (blk_cell Bl14.out 1).trans rfl
  have zl15_2 : W13.cell? ⟨gl9, 2, none⟩ = some (.int .i64 l.2.2.1) := (blk_cell Bl14.out 2).trans rfl
  have zl15_3 : W13.cell? ⟨gl9, 3, none⟩ = some (.int .i64 l.2.2.2) := (blk_cell Bl14.out 3).trans rfl
  have hg0 := blk_frozen Bl14.out 0
  have hg1 := blk_frozen Bl14.out 1
  have hg2 := blk_frozen Bl14.out 2
  have hg3 := blk_frozen Bl14.out 3
  go_wp2_with fail
  have hwr : IntKind.i64.wrap (l.1 + 1) = e0 := by rw [HE0.out]; exact i64_w _
  have hwr2 : wrap64 (l.1 + 1) = e0 := HE0.out.symm
  skip
  skip
  skip
  refine start_ (n := 15) (S := fun w' => w'.cell? ⟨g, 0, none⟩ = some (.int .i64 nd) ∧ w'.cell? ⟨g, 1, none⟩ = some (.int .i64 lf) ∧ w'.cell? ⟨g, 2, none⟩ = some (.int .i64 tk) ∧ w'.cell? ⟨g, 3, none⟩ = some (.bool true) ∧ w'.cell? ⟨g, 4, none⟩ = some (.slice A v.length c) ∧ w'.cell? ⟨g, 5, none⟩ = some (.int .i64 ag) ∧ w'.cell? ⟨gl9, 0, none⟩ = some (.int .i64 l.1) ∧ w'.cell? ⟨gl9, 1, none⟩ = some (.int .i64 l.2.1) ∧ w'.cell? ⟨gl9, 2, none⟩ = some (.int .i64 l.2.2.1) ∧ w'.cell? ⟨gl9, 3, none⟩ = some (.int .i64 l.2.2.2)) (ds := [14]) #[false, false, false, false, false, false, false, false, false, false, false, false, false, false, false] (by kernel_rfl) rfl rfl ⟨zW15_0, zW15_1, zW15_2, zW15_3, zW15_4, zW15_5, zl15_0, zl15_1, zl15_2, zl15_3⟩ (fun hHeld => ?_)
  refine pure_ (i := 0) (N := some 48) (v := ?_) (a' := ?_) #[true, false, false, false, false, false, false, false, false, false, false, false, false, false, false] rfl rfl (by kernel_rfl) (fun _ _ _ h => h) (Or.inl ⟨by rfl, ?_⟩) ?_ ?_
  rotate_left
  · intro w'
    go_simp
    with_reducible rfl
  rotate_left
  · simp only [Act.put, List.setIfInBounds_toArray, List.set_cons_zero, List.set_cons_succ, i64_w, i32_w]
    rfl
  refine pure_ (i := 3) (N := some 51) (v := ?_) (a' := ?_) #[true, false, false, true, false, false, false, false, false, false, false, false, false, false, false] rfl rfl (by kernel_rfl) (fun _ _ _ h => h) (Or.inl ⟨by rfl, ?_⟩) ?_ ?_
  rotate_left
  · intro w'
    go_simp
    with_reducible rfl
  rotate_left
  · simp only [Act.put, List.setIfInBounds_toArray, List.set_cons_zero, List.set_cons_succ, i64_w, i32_w]
    rfl
  refine pure_ (i := 4) (N := some 52) (v := ?_) (a' := ?_) #[true, false, false, true, true, false, false, false, false, false, false, false, false, false, false] rfl rfl (by kernel_rfl) (fun _ _ _ h => h) (Or.inl ⟨by rfl, ?_⟩) ?_ ?_
  rotate_left
  · intro w'
    go_simp
    with_reducible rfl
  rotate_left
  · simp only [Act.put, List.setIfInBounds_toArray, List.set_cons_zero, List.set_cons_succ, i64_w, i32_w]
    rfl
  refine pure_ (i := 5) (N := some 53) (v := ?_) (a' := ?_) #[true, false, false, true, true, true, false, false, false, false, false, false, false, false, false] rfl rfl (by kernel_rfl) (fun _ _ _ h => h) (Or.inl ⟨by rfl, ?_⟩) ?_ ?_
  rotate_left
  · intro w'
    go_simp
    with_reducible rfl
  rotate_left
  · simp only [Act.put, List.setIfInBounds_toArray, List.set_cons_zero, List.set_cons_succ, i64_w, i32_w]
    rfl
  refine pure_ (i := 6) (N := some 54) (v := ?_) (a' := ?_) #[true, false, false, true, true, true, true, false, false, false, false, false, false, false, false] rfl rfl (by kernel_rfl) (fun _ _ _ h => h) (Or.inl ⟨by rfl, ?_⟩) ?_ ?_
  rotate_left
  · intro w'
    go_simp
    with_reducible rfl
  rotate_left
  · simp only [Act.put, List.setIfInBounds_toArray, List.set_cons_zero, List.set_cons_succ, i64_w, i32_w]
    rfl
  refine pure_ (i := 8) (N := some 56) (v := ?_) (a' := ?_) #[true, false, false, true, true, true, true, false, true, false, false, false, false, false, false] rfl rfl (by kernel_rfl) (fun _ _ _ h => h) (Or.inl ⟨by rfl, ?_⟩) ?_ ?_
  rotate_left
  · intro w'
    go_simp
    with_reducible rfl
  rotate_left
  · simp only [Act.put, List.setIfInBounds_toArray, List.set_cons_zero, List.set_cons_succ, i64_w, i32_w]
    rfl
  refine pure_ (i := 9) (N := some 57) (v := ?_) (a' := ?_) #[true, false, false, true, true, true, true, false, true, true, false, false, false, false, false] rfl rfl (by kernel_rfl) (fun _ _ _ h => h) (Or.inl ⟨by rfl, ?_⟩) ?_ ?_
  rotate_left
  · intro w'
    go_simp
    with_reducible rfl
  rotate_left
  · simp only [Act.put, List.setIfInBounds_toArray, List.set_cons_zero, List.set_cons_succ, i64_w, i32_w]
    rfl
  refine pure_ (i := 10) (N := some 58) (v := ?_) (a' := ?_) #[true, false, false, true, true, true, true, false, true, true, true, false, false, false, false] rfl rfl (by kernel_rfl) (fun _ _ _ h => h) (Or.inl ⟨by rfl, ?_⟩) ?_ ?_
  rotate_left
  · intro w'
    go_simp
    with_reducible rfl
  rotate_left
  · simp only [Act.put, List.setIfInBounds_toArray, List.set_cons_zero, List.set_cons_succ, i64_w, i32_w]
    rfl
  refine pure_ (i := 11) (N := some 59) (v := ?_) (a' := ?_) #[true, false, false, true, true, true, true, false, true, true, true, true, false, false, false] rfl rfl (by kernel_rfl) (fun _ _ _ h => h) (Or.inl ⟨by rfl, ?_⟩) ?_ ?_
  rotate_left
  · intro w'
    go_simp
    with_reducible rfl
  rotate_left
  · simp only [Act.put, List.setIfInBounds_toArray, List.set_cons_zero, List.set_cons_succ, i64_w, i32_w]
    rfl
  refine take_ (i := 1) (N := some 49) (v := ?_) (a' := ?_) #[true, true, false, true, true, true, true, false, true, true, true, true, false, false, false] rfl rfl (by kernel_rfl) (fun _ _ _ h => h) (Or.inl ⟨by rfl, ?_⟩) hHeld ?_ ?_
  rotate_left
  · rintro w' ⟨s0, s1, s2, s3, s4, s5, s6, s7, s8, s9⟩
    go_simp
    with_reducible rfl
  rotate_left
  · simp only [Act.put, List.setIfInBounds_toArray, List.set_cons_zero, List.set_cons_succ, i64_w, i32_w]
    rfl
  refine pure_ (i := 2) (N := some 50) (v := ?_) (a' := ?_) #[true, true, true, true, true, true, true, false, true, true, true, true, false, false, false] rfl rfl (by kernel_rfl) (fun _ _ _ h => h) (Or.inl ⟨by rfl, ?_⟩) ?_ ?_
  rotate_left
  · intro w'
    go_simp
    with_reducible rfl
  rotate_left
  · simp only [Act.put, List.setIfInBounds_toArray, List.set_cons_zero, List.set_cons_succ, i64_w, i32_w]
    rfl
  refine take_ (i := 7) (N := some 55) (v := ?_) (a' := ?_) #[true, true, true, true, true, true, true, true, true, true, true, true, false, false, false] rfl rfl (by kernel_rfl) (fun _ _ _ h => h) (Or.inl ⟨by rfl, ?_⟩) hHeld ?_ ?_
  rotate_left
  · rintro w' ⟨s0, s1, s2, s3, s4, s5, s6, s7, s8, s9⟩
    go_simp
    with_reducible rfl
  rotate_left
  · simp only [Act.put, List.setIfInBounds_toArray, List.set_cons_zero, List.set_cons_succ, i64_w, i32_w]
    rfl
  refine take_ (i := 12) (N := some 60) (v := ?_) (a' := ?_) #[true, true, true, true, true, true, true, true, true, true, true, true, true, false, false] rfl rfl (by kernel_rfl) (fun _ _ _ h => h) (Or.inl ⟨by rfl, ?_⟩) hHeld ?_ ?_
  rotate_left
  · rintro w' ⟨s0, s1, s2, s3, s4, s5, s6, s7, s8, s9⟩
    go_simp
    with_reducible rfl
  rotate_left
  · simp only [Act.put, List.setIfInBounds_toArray, List.set_cons_zero, List.set_cons_succ, i64_w, i32_w]
    rfl
  refine pure_ (i := 13) (N := some 61) (v := ?_) (a' := ?_) #[true, true, true, true, true, true, true, true, true, true, true, true, true, true, false] rfl rfl (by kernel_rfl) (fun _ _ _ h => h) (Or.inl ⟨by rfl, ?_⟩) ?_ ?_
  rotate_left
  · intro w'
    go_simp
    with_reducible rfl
  rotate_left
  · simp only [Act.put, List.setIfInBounds_toArray, List.set_cons_zero, List.set_cons_succ, i64_w, i32_w]
    rfl
  refine last_ (i := 14) (N := none) #[true, true, true, true, true, true, true, true, true, true, true, true, true, true, true] rfl rfl (by kernel_rfl) (by decide) (fun K hK => ?_)
  refine skip_ (w1 := ?_) (by rfl) rfl ?_ ?_
  rotate_left
  · go_simp
    rfl
  refine hK.out _ _ ?_
  clear hK K
  refine done_ (by kernel_rfl) ?_
  clear zW15_0 zW15_1 zW15_2 zW15_3 zW15_4 zW15_5 zb15_0 zb15_1 zb15_2 zl15_0 zl15_1 zl15_2 zl15_3
  obtain ⟨W16, hw16⟩ : ∃ x : World, x = ((((W13.setCell ⟨gl9, 0, none⟩ (.int .i64 e0)).setCell ⟨gl9, 1, none⟩ (.int .i64 nd)).setCell ⟨gl9, 2, none⟩ (.int .i64 lf)).setCell ⟨gl9, 3, none⟩ (.int .i64 0)) := ⟨_, rfl⟩
  have HB16 : Aside0 (Below W.heap.size W W16) := ⟨by rw [hw16]; exact (below_set (below_set (below_set (below_set HB14.out GSl9.out) GSl9.out) GSl9.out) GSl9.out)⟩
  have hgr16 : W13.grownBy W16 (some gl9) := by rw [hw16]; exact (((grown_set _ _ _ _).trans (grown_set _ _ _ _)).trans (grown_set _ _ _ _)).trans (grown_set _ _ _ _)
  have Bl16 : Aside0 (W16.heap[gl9]? = some (.cells #[.int .i64 e0, .int .i64 nd, .int .i64 lf, .int .i64 0] 24 (0, 0))) := ⟨by rw [hw16]; refine blk_put (cs := #[.int .i64 e0, .int .i64 nd, .int .i64 lf, .int .i64 l.2.2.2]) ?_ 3 _ rfl; refine blk_put (cs := #[.int .i64 e0, .int .i64 nd, .int .i64 l.2.2.1, .int .i64 l.2.2.2]) ?_ 2 _ rfl; refine blk_put (cs := #[.int .i64 e0, .int .i64 l.2.1, .int .i64 l.2.2.1, .int .i64 l.2.2.2]) ?_ 1 _ rfl; refine blk_put (cs := #[.int .i64 l.1, .int .i64 l.2.1, .int .i64 l.2.2.1, .int .i64 l.2.2.2]) ?_ 0 _ rfl; exact Bl14.out⟩
  have BW16 : Aside0 (W16.heap[g]? = some (.cells #[.int .i64 nd, .int .i64 lf, .int .i64 tk, .bool true, .slice A v.length c, .int .i64 ag] 68 (0, 0))) := ⟨blk_grown BW14.out hgr16 (fun e => (blk_ne BW14.out Bl14.out (by decide)) (by injection e))⟩
  have Bb16 : Aside0 (W16.heap[gb2]? = some (.cells #[.int .i64 0, .slice none 0 0, .slice none 0 0] 39 (0, 0))) := ⟨blk_grown Bb14.out hgr16 (fun e => (blk_ne Bb14.out Bl14.out (by decide)) (by injection e))⟩
  have RV16 := Aside0.mk (Kd.R_mono (Kd.R_grown (Kd.R_types RV14.out Bl14.out (by decide)) hgr16 (fun k hk => by simpa using hk.2)) (fun _ hk => hk.1))
  rw [← hw16]
  clear hw16 hgr16
  obtain ⟨W17, hw17⟩ : ∃ x : World, x = W16.drew := ⟨_, rfl⟩
  have hbd17 : Below W16.heap.size W16 W17 := by rw [hw17]; exact below_drew (Below.refl _ _)
  rw [← hw17]
  clear hw17
  have HB18 := Aside0.mk (below_step HB16.out hbd17)
  have BW18 : Aside0 (W17.heap[g]? = some (.cells #[.int .i64 nd, .int .i64 lf, .int .i64 tk, .bool true, .slice A v.length c, .int .i64 ag] 68 (0, 0))) := ⟨(hbd17.block _ (blk_lt BW16.out)).trans BW16.out⟩
  have Bb18 : Aside0 (W17.heap[gb2]? = some (.cells #[.int .i64 0, .slice none 0 0, .slice none 0 0] 39 (0, 0))) := ⟨(hbd17.block _ (blk_lt Bb16.out)).trans Bb16.out⟩
  have Bl18 : Aside0 (W17.heap[gl9]? = some (.cells #[.int .i64 e0, .int .i64 nd, .int .i64 lf, .int .i64 0] 24 (0, 0))) := ⟨(hbd17.block _ (blk_lt Bl16.out)).trans Bl16.out⟩
  have RV18 := Aside0.mk (Kd.R_below RV16.out hbd17)
  clear hbd17
  have zW19_0 : W17.cell? ⟨g, 0, none⟩ = some (.int .i64 nd) := (blk_cell BW18.out 0).trans rfl
  have zW19_1 : W17.cell? ⟨g, 1, none⟩ = some (.int .i64 lf) := (blk_cell BW18.out 1).trans rfl
  have zW19_2 : W17.cell? ⟨g, 2, none⟩ = some (.int .i64 tk) := (blk_cell BW18.out 2).trans rfl
  have zW19_3 : W17.cell? ⟨g, 3, none⟩ = some (.bool true) := (blk_cell BW18.out 3).trans rfl
  have zW19_4 : W17.cell? ⟨g, 4, none⟩ = some (.slice A v.length c) := (blk_cell BW18.out 4).trans rfl
  have zW19_5 : W17.cell? ⟨g, 5, none⟩ = some (.int .i64 ag) := (blk_cell BW18.out 5).trans rfl
  have zl19_0 : W17.cell? ⟨gl9, 0, none⟩ = some (.int .i64 e0) := (blk_cell Bl18.out 0).trans rfl
  have zl19_1 : W17.cell? ⟨gl9, 1, none⟩ = some (.int .i64 nd) := (blk_cell Bl18.out 1).trans rfl
  have zl19_2 : W17.cell? ⟨gl9, 2, none⟩ = some (.int .i64 lf) := (blk_cell Bl18.out 2).trans rfl
  have zl19_3 : W17.cell? ⟨gl9, 3, none⟩ = some (.int .i64 0) := (blk_cell Bl18.out 3).trans rfl
  go_wp2_with fail
  refine start_ (n := 8) (S := fun w' => w'.cell? ⟨g, 0, none⟩ = some (.int .i64 nd) ∧ w'.cell? ⟨g, 1, none⟩ = some (.int .i64 lf) ∧ w'.cell? ⟨g, 2, none⟩ = some (.int .i64 tk) ∧ w'.cell? ⟨g, 3, none⟩ = some (.bool true) ∧ w'.cell? ⟨g, 4, none⟩ = some (.slice A v.length c) ∧ w'.cell? ⟨g, 5, none⟩ = some (.int .i64 ag) ∧ w'.cell? ⟨gl9, 0, none⟩ = some (.int .i64 e0) ∧ w'.cell? ⟨gl9, 1, none⟩ = some (.int .i64 nd) ∧ w'.cell? ⟨gl9, 2, none⟩ = some (.int .i64 lf) ∧ w'.cell? ⟨gl9, 3, none⟩ = some (.int .i64 0)) (ds := [7]) #[false, false, false, false, false, false, false, false] (by kernel_rfl) rfl rfl ⟨zW19_0, zW19_1, zW19_2, zW19_3, zW19_4, zW19_5, zl19_0, zl19_1, zl19_2, zl19_3⟩ (fun hHeld => ?_)
  refine pure_ (i := 0) (N := some 62) (v := ?_) (a' := ?_) #[true, false, false, false, false, false, false, false] rfl rfl (by kernel_rfl) (fun _ _ _ h => h) (Or.inl ⟨by rfl, ?_⟩) ?_ ?_
  rotate_left
  · intro w'
    go_simp
    with_reducible rfl
  rotate_left
  · simp only [Act.put, List.setIfInBounds_toArray, List.set_cons_zero, List.set_cons_succ, i64_w, i32_w]
    rfl
  refine pure_ (i := 1) (N := some 63) (v := ?_) (a' := ?_) #[true, true, false, false, false, false, false, false] rfl rfl (by kernel_rfl) (fun _ _ _ h => h) (Or.inl ⟨by rfl, ?_⟩) ?_ ?_
  rotate_left
  · intro w'
    go_simp
    with_reducible rfl
  rotate_left
  · simp only [Act.put, List.setIfInBounds_toArray, List.set_cons_zero, List.set_cons_succ, i64_w, i32_w]
    rfl
  refine pure_ (i := 2) (N := some 64) (v := ?_) (a' := ?_) #[true, true, true, false, false, false, false, false] rfl rfl (by kernel_rfl) (fun _ _ _ h => h) (Or.inl ⟨by rfl, ?_⟩) ?_ ?_
  rotate_left
  · intro w'
    go_simp
    with_reducible rfl
  rotate_left
  · simp only [Act.put, List.setIfInBounds_toArray, List.set_cons_zero, List.set_cons_succ, i64_w, i32_w]
    rfl
  refine take_ (i := 3) (N := some 65) (v := ?_) (a' := ?_) #[true, true, true, true, false, false, false, false] rfl rfl (by kernel_rfl) (fun _ _ _ h => h) (Or.inl ⟨by rfl, ?_⟩) hHeld ?_ ?_
  rotate_left
  · rintro w' ⟨s0, s1, s2, s3, s4, s5, s6, s7, s8, s9⟩
    go_simp
    with_reducible rfl
  rotate_left
  · simp only [Act.put, List.setIfInBounds_toArray, List.set_cons_zero, List.set_cons_succ, i64_w, i32_w]
    rfl
  refine take_ (i := 4) (N := some 66) (v := ?_) (a' := ?_) #[true, true, true, true, true, false, false, false] rfl rfl (by kernel_rfl) (fun _ _ _ h => h) (Or.inl ⟨by rfl, ?_⟩) hHeld ?_ ?_
  rotate_left
  · rintro w' ⟨s0, s1, s2, s3, s4, s5, s6, s7, s8, s9⟩
    go_simp
    with_reducible rfl
  rotate_left
  · simp only [Act.put, List.setIfInBounds_toArray, List.set_cons_zero, List.set_cons_succ, i64_w, i32_w]
    rfl
  refine one_ (i := 5) (N := some 67) #[true, true, true, true, true, true, false, false] rfl rfl (by kernel_rfl) (by decide) (fun K hK => ?_)
  refine goes_ Try.func12 (by kernel_rfl) rfl #[.agg #[.int .i64 e0, .int .i64 nd, .int .i64 lf, .int .i64 0]] (by rfl) rfl rfl (by simp only [List.map_toArray, List.map_cons, List.map_nil]; rfl) ?_
  with_reducible refine (nums4_v (e0) (nd) (lf) (0) _).mono ?_
  rintro e v5 ⟨Bn, dn, rfl, hRn, hb5⟩
  refine ⟨_, rfl, ?_⟩
  have HB5 := Aside0.mk (below_step (below_drew (Below.refl _ W17)) hb5)
  have HRn := Aside0.mk hRn
  have HCn := Aside0.mk (show (Kd.int .i64).C v5 Bn 4 [e0, nd, lf, 0] from (Kd.R_reads' hRn).2.2)
  clear hRn hb5
  refine hK.out _ _ ⟨pw_cell_below HB5.out zW19_0, pw_cell_below HB5.out zW19_1, pw_cell_below HB5.out zW19_2, pw_cell_below HB5.out zW19_3, pw_cell_below HB5.out zW19_4, pw_cell_below HB5.out zW19_5, pw_cell_below HB5.out zl19_0, pw_cell_below HB5.out zl19_1, pw_cell_below HB5.out zl19_2, pw_cell_below HB5.out zl19_3⟩ (fun hHeld => ?_)
  clear hK K
  refine norm_ (a' := ?_) ?_ ?_
  rotate_left
  · show Act.put _ (some 67) _ = _
    simp only [Act.put, List.setIfInBounds_toArray, List.set_cons_zero, List.set_cons_succ, i64_w, i32_w]
    rfl
  refine one_ (i := 6) (N := some 68) #[true, true, true, true, true, true, true, false] rfl rfl (by kernel_rfl) (by decide) (fun K hK => ?_)
  refine goes_ Try.func28 (by kernel_rfl) rfl #[.slice A v.length c, .slice Bn 4 dn] (by rfl) rfl rfl (by simp only [List.map_toArray, List.map_cons, List.map_nil]; rfl) ?_
  with_reducible refine (swap4_v A c v Bn dn (e0) (nd) (lf) (0) _ (Kd.C_below (Kd.R_reads' RV18.out).2.2 HB5.out) hlc HCn.out (Kd.R_reads' HRn.out).2.1 hvl).mono ?_
  rintro e v6 ⟨B, d, B', d', rfl, hRa, hRb, hb6⟩
  refine ⟨_, rfl, ?_⟩
  have HB6 := Aside0.mk (below_step HB5.out hb6)
  have HRa := Aside0.mk (Kd.R_lower hRa (Nat.le_trans HB18.out.size HB5.out.size))
  have HRb := Aside0.mk (Kd.R_lower hRb (Nat.le_trans HB18.out.size HB5.out.size))
  clear hRa hRb hb6
  have Bb6 : Aside0 (v6.heap[gb2]? = some (.cells #[.int .i64 0, .slice none 0 0, .slice none 0 0] 39 (0, 0))) := ⟨blk_below Bb18.out HB6.out⟩
  have k0 : v6.cell? ⟨gb2, 0, none⟩ = some (.int .i64 0) := (blk_cell Bb6.out 0).trans rfl
  have k1 : v6.cell? ⟨gb2, 1, none⟩ = some (.slice none 0 0) := (blk_cell Bb6.out 1).trans rfl
  have k2 : v6.cell? ⟨gb2, 2, none⟩ = some (.slice none 0 0) := (blk_cell Bb6.out 2).trans rfl
  have f0 := blk_frozen Bb6.out 0
  have f1 := blk_frozen Bb6.out 1
  have f2 := blk_frozen Bb6.out 2
  refine hK.out _ _ ⟨pw_cell_below HB6.out zW19_0, pw_cell_below HB6.out zW19_1, pw_cell_below HB6.out zW19_2, pw_cell_below HB6.out zW19_3, pw_cell_below HB6.out zW19_4, pw_cell_below HB6.out zW19_5, pw_cell_below HB6.out zl19_0, pw_cell_below HB6.out zl19_1, pw_cell_below HB6.out zl19_2, pw_cell_below HB6.out zl19_3⟩ (fun hHeld => ?_)
  clear hK K
  refine norm_ (a' := ?_) ?_ ?_
  rotate_left
  · show Act.put _ (some 68) _ = _
    simp only [Act.put, List.setIfInBounds_toArray, List.set_cons_zero, List.set_cons_succ, i64_w, i32_w]
    rfl
  refine last_ (i := 7) (N := none) #[true, true, true, true, true, true, true, true] rfl rfl (by kernel_rfl) (by decide) (fun K hK => ?_)
  refine skip_ (w1 := ?_) (by rfl) rfl ?_ ?_
  rotate_left
  · go_simp
    rfl
  refine hK.out _ _ ?_
  clear hK K
  refine done_ (by kernel_rfl) ?_
  go_wp2_with fail
  have HBE := Aside0.mk (below_step HB18.out HB6.out)
  refine bodyPost_ret (results_cell_row rfl _ _ gb2 39 #[.int .i64 2, .slice B v.length d, .slice B' 4 d'] (0, 0) _ rfl (by refine blk_put (cs := #[.int .i64 2, .slice B v.length d, .slice none 0 0]) ?_ 2 _ rfl; refine blk_put (cs := #[.int .i64 2, .slice none 0 0, .slice none 0 0]) ?_ 1 _ rfl; refine blk_put (cs := #[.int .i64 0, .slice none 0 0, .slice none 0 0]) ?_ 0 _ rfl; exact Bb6.out) Try.underlying39 rfl (by kernel_rfl)) rfl ?_
  exact ⟨_, _, _, _, rfl, Kd.R_mono (Kd.R_far (p := ⟨gb2, 2, none⟩) (Kd.R_far (p := ⟨gb2, 1, none⟩) (Kd.R_far (p := ⟨gb2, 0, none⟩) (Kd.R_types HRa.out Bb6.out (by decide)) (fun _ hk => hk.2) _) (fun _ hk => hk.2) _) (fun _ hk => hk.2) _) (fun _ _ => trivial), Kd.R_mono (Kd.R_far (p := ⟨gb2, 2, none⟩) (Kd.R_far (p := ⟨gb2, 1, none⟩) (Kd.R_far (p := ⟨gb2, 0, none⟩) (Kd.R_types HRb.out Bb6.out (by decide)) (fun _ hk => hk.2) _) (fun _ hk => hk.2) _) (fun _ hk => hk.2) _) (fun _ hk => hk.1), by repeat (first | exact HBE.out | refine below_set ?_ GSb2.out)⟩
set_option maxHeartbeats 4000000 in
set_option maxRecDepth 100000 in
theorem want_fresh (W : World) (g : Nat) (nd lf tk : Int) (v : List Int) (ag : Int) (h : WAt W g nd lf tk true v ag) (l : LeaseT) (hl : leaseOf v = l) (hq : okL v = true) (hlb : leadsB nd lf v = false) (hn : leadsN nd lf v = 0) (hage : ag < tk) :
    Calls Try.prog 17 #[.pointer (some ⟨g, 0, none⟩)] W fun e w' => WantPost W (1, [], []) e w' := by
  have hu32 := Try.underlying32
  have hu39 := Try.underlying39
  have hu68 := Try.underlying68
  have hu66 := Try.underlying66
  have hu24 := Try.underlying24
  have HL := Aside0.mk hl
  have HQ := Aside0.mk hq
  have HLB := Aside0.mk hlb
  have HN := Aside0.mk hn
  clear hl hq hlb hn
  have HW := Aside0.mk h
  obtain ⟨A, c, hB0, hR0, hvl⟩ := h
  have BW0 := Aside0.mk hB0
  have HR0 := Aside0.mk hR0
  have hlc := (Kd.R_reads' hR0).2.1
  have hmax := Kd.C_max (Kd.R_reads' hR0).2.2
  clear hB0 hR0
  have zW1_0 : W.cell? ⟨g, 0, none⟩ = some (.int .i64 nd) := (blk_cell BW0.out 0).trans rfl
  have zW1_1 : W.cell? ⟨g, 1, none⟩ = some (.int .i64 lf) := (blk_cell BW0.out 1).trans rfl
  have zW1_2 : W.cell? ⟨g, 2, none⟩ = some (.int .i64 tk) := (blk_cell BW0.out 2).trans rfl
  have zW1_3 : W.cell? ⟨g, 3, none⟩ = some (.bool true) := (blk_cell BW0.out 3).trans rfl
  have zW1_4 : W.cell? ⟨g, 4, none⟩ = some (.slice A v.length c) := (blk_cell BW0.out 4).trans rfl
  have zW1_5 : W.cell? ⟨g, 5, none⟩ = some (.int .i64 ag) := (blk_cell BW0.out 5).trans rfl
  go_enter Try.func17, Try.ntmps17
  go_wp2_with ((with_reducible refine gate_dst (N := 2) rfl ?_); refine box_event ?hg (N := 2) ?hd (cs := #[.int .i64 0, .slice none 0 0, .slice none 0 0]) (t := 39) ?hr ?_; (case hd => rfl); (case hg => rfl); (case hr => first | (go_simp; done) | (go_simp; rfl)); intro gb2 hg2 W2 hbox2 hb2; have GSb2 : Aside0 (W.heap.size ≤ gb2) := ⟨by rw [hg2]; exact Nat.le_refl _⟩; have Bb2 := Aside0.mk hbox2; have Gb2 : Aside0 (W.heap.size ≤ gb2) := ⟨by rw [hg2]; exact Nat.le_refl _⟩; have hbk2 := hb2; clear hg2 hbox2; clear zW1_0 zW1_1 zW1_2 zW1_3 zW1_4 zW1_5; have HB3 := Aside0.mk hbk2; have BW3 : Aside0 (W2.heap[g]? = some (.cells #[.int .i64 nd, .int .i64 lf, .int .i64 tk, .bool true, .slice A v.length c, .int .i64 ag] 68 (0, 0))) := ⟨(hbk2.block _ (blk_lt BW0.out)).trans BW0.out⟩; have RV3 := Aside0.mk (Kd.R_below HR0.out hbk2); clear hbk2; clear hb2; have zW4_0 : W2.cell? ⟨g, 0, none⟩ = some (.int .i64 nd) := (blk_cell BW3.out 0).trans rfl; have zW4_1 : W2.cell? ⟨g, 1, none⟩ = some (.int .i64 lf) := (blk_cell BW3.out 1).trans rfl; have zW4_2 : W2.cell? ⟨g, 2, none⟩ = some (.int .i64 tk) := (blk_cell BW3.out 2).trans rfl; have zW4_3 : W2.cell? ⟨g, 3, none⟩ = some (.bool true) := (blk_cell BW3.out 3).trans rfl; have zW4_4 : W2.cell? ⟨g, 4, none⟩ = some (.slice A v.length c) := (blk_cell BW3.out 4).trans rfl; have zW4_5 : W2.cell? ⟨g, 5, none⟩ = some (.int .i64 ag) := (blk_cell BW3.out 5).trans rfl; have zb4_0 : W2.cell? ⟨gb2, 0, none⟩ = some (.int .i64 0) := (blk_cell Bb2.out 0).trans rfl; have zb4_1 : W2.cell? ⟨gb2, 1, none⟩ = some (.slice none 0 0) := (blk_cell Bb2.out 1).trans rfl; have zb4_2 : W2.cell? ⟨gb2, 2, none⟩ = some (.slice none 0 0) := (blk_cell Bb2.out 2).trans rfl)
  refine (lease_c _ g nd lf tk true v ag ⟨A, c, BW3.out, RV3.out, hvl⟩).mono ?_
  rw [HL.out, HQ.out]
  rintro e w3 ⟨rfl, hb3⟩
  clear zW4_0 zW4_1 zW4_2 zW4_3 zW4_4 zW4_5 zb4_0 zb4_1 zb4_2
  have HB6 := Aside0.mk (below_step HB3.out hb3)
  have BW6 : Aside0 (w3.heap[g]? = some (.cells #[.int .i64 nd, .int .i64 lf, .int .i64 tk, .bool true, .slice A v.length c, .int .i64 ag] 68 (0, 0))) := ⟨(hb3.block _ (blk_lt BW3.out)).trans BW3.out⟩
  have Bb6 : Aside0 (w3.heap[gb2]? = some (.cells #[.int .i64 0, .slice none 0 0, .slice none 0 0] 39 (0, 0))) := ⟨(hb3.block _ (blk_lt Bb2.out)).trans Bb2.out⟩
  have RV6 := Aside0.mk (Kd.R_below RV3.out hb3)
  clear hb3
  have zW7_0 : w3.cell? ⟨g, 0, none⟩ = some (.int .i64 nd) := (blk_cell BW6.out 0).trans rfl
  have zW7_1 : w3.cell? ⟨g, 1, none⟩ = some (.int .i64 lf) := (blk_cell BW6.out 1).trans rfl
  have zW7_2 : w3.cell? ⟨g, 2, none⟩ = some (.int .i64 tk) := (blk_cell BW6.out 2).trans rfl
  have zW7_3 : w3.cell? ⟨g, 3, none⟩ = some (.bool true) := (blk_cell BW6.out 3).trans rfl
  have zW7_4 : w3.cell? ⟨g, 4, none⟩ = some (.slice A v.length c) := (blk_cell BW6.out 4).trans rfl
  have zW7_5 : w3.cell? ⟨g, 5, none⟩ = some (.int .i64 ag) := (blk_cell BW6.out 5).trans rfl
  have zb7_0 : w3.cell? ⟨gb2, 0, none⟩ = some (.int .i64 0) := (blk_cell Bb6.out 0).trans rfl
  have zb7_1 : w3.cell? ⟨gb2, 1, none⟩ = some (.slice none 0 0) := (blk_cell Bb6.out 1).trans rfl
  have zb7_2 : w3.cell? ⟨gb2, 2, none⟩ = some (.slice none 0 0) := (blk_cell Bb6.out 2).trans rfl
  have zaW8_0 : ∀ o, (w3.alloc o).cell? ⟨g, 0, none⟩ = some (.int .i64 nd) := fun o => (blk_cell (blk_alloc BW6.out o) 0).trans rfl
  have zaW8_1 : ∀ o, (w3.alloc o).cell? ⟨g, 1, none⟩ = some (.int .i64 lf) := fun o => (blk_cell (blk_alloc BW6.out o) 1).trans rfl
  have zaW8_2 : ∀ o, (w3.alloc o).cell? ⟨g, 2, none⟩ = some (.int .i64 tk) := fun o => (blk_cell (blk_alloc BW6.out o) 2).trans rfl
  have zaW8_3 : ∀ o, (w3.alloc o).cell? ⟨g, 3, none⟩ = some (.bool true) := fun o => (blk_cell (blk_alloc BW6.out o) 3).trans rfl
  have zaW8_4 : ∀ o, (w3.alloc o).cell? ⟨g, 4, none⟩ = some (.slice A v.length c) := fun o => (blk_cell (blk_alloc BW6.out o) 4).trans rfl
  have zaW8_5 : ∀ o, (w3.alloc o).cell? ⟨g, 5, none⟩ = some (.int .i64 ag) := fun o => (blk_cell (blk_alloc BW6.out o) 5).trans rfl
  have zab8_0 : ∀ o, (w3.alloc o).cell? ⟨gb2, 0, none⟩ = some (.int .i64 0) := fun o => (blk_cell (blk_alloc Bb6.out o) 0).trans rfl
  have zab8_1 : ∀ o, (w3.alloc o).cell? ⟨gb2, 1, none⟩ = some (.slice none 0 0) := fun o => (blk_cell (blk_alloc Bb6.out o) 1).trans rfl
  have zab8_2 : ∀ o, (w3.alloc o).cell? ⟨gb2, 2, none⟩ = some (.slice none 0 0) := fun o => (blk_cell (blk_alloc Bb6.out o) 2).trans rfl
  go_wp2_with fail
  obtain ⟨W9, hw9⟩ : ∃ x : World, x = w3.alloc (.cells #[.int .i64 l.1, .int .i64 l.2.1, .int .i64 l.2.2.1, .int .i64 l.2.2.2] 24) := ⟨_, rfl⟩
  have hbs9 : Below w3.heap.size w3 W9 := by rw [hw9]; repeat (first | exact Below.refl _ _ | refine below_alloc ?_ _ | refine below_drew ?_)
  obtain ⟨gl9, hgl9⟩ : ∃ x, x = w3.heap.size := ⟨_, rfl⟩
  have GSl9 : Aside0 (W.heap.size ≤ gl9) := ⟨by rw [hgl9]; have := HB6.out.size; omega⟩
  have Bl9 : Aside0 (W9.heap[gl9]? = some (.cells #[.int .i64 l.1, .int .i64 l.2.1, .int .i64 l.2.2.1, .int .i64 l.2.2.2] 24 (0, 0))) := ⟨by rw [hw9, hgl9]; exact blk_new _ _⟩
  rw [← hw9]
  rw [← hgl9]
  clear hw9 hgl9
  clear zW7_0 zW7_1 zW7_2 zW7_3 zW7_4 zW7_5 zb7_0 zb7_1 zb7_2 zaW8_0 zaW8_1 zaW8_2 zaW8_3 zaW8_4 zaW8_5 zab8_0 zab8_1 zab8_2
  have HB10 := Aside0.mk (below_step HB6.out hbs9)
  have BW10 : Aside0 (W9.heap[g]? = some (.cells #[.int .i64 nd, .int .i64 lf, .int .i64 tk, .bool true, .slice A v.length c, .int .i64 ag] 68 (0, 0))) := ⟨(hbs9.block _ (blk_lt BW6.out)).trans BW6.out⟩
  have Bb10 : Aside0 (W9.heap[gb2]? = some (.cells #[.int .i64 0, .slice none 0 0, .slice none 0 0] 39 (0, 0))) := ⟨(hbs9.block _ (blk_lt Bb6.out)).trans Bb6.out⟩
  have RV10 := Aside0.mk (Kd.R_below RV6.out hbs9)
  clear hbs9
  refine (leads_c _ g nd lf tk true v ag ⟨A, c, BW10.out, RV10.out, hvl⟩).mono ?_
  rw [HLB.out, HN.out]
  rintro e w4 ⟨rfl, hb4⟩
  have HB11 := Aside0.mk (below_step HB10.out hb4)
  have BW11 : Aside0 (w4.heap[g]? = some (.cells #[.int .i64 nd, .int .i64 lf, .int .i64 tk, .bool true, .slice A v.length c, .int .i64 ag] 68 (0, 0))) := ⟨(hb4.block _ (blk_lt BW10.out)).trans BW10.out⟩
  have Bb11 : Aside0 (w4.heap[gb2]? = some (.cells #[.int .i64 0, .slice none 0 0, .slice none 0 0] 39 (0, 0))) := ⟨(hb4.block _ (blk_lt Bb10.out)).trans Bb10.out⟩
  have Bl11 : Aside0 (w4.heap[gl9]? = some (.cells #[.int .i64 l.1, .int .i64 l.2.1, .int .i64 l.2.2.1, .int .i64 l.2.2.2] 24 (0, 0))) := ⟨(hb4.block _ (blk_lt Bl9.out)).trans Bl9.out⟩
  have RV11 := Aside0.mk (Kd.R_below RV10.out hb4)
  clear hb4
  have zW12_0 : w4.cell? ⟨g, 0, none⟩ = some (.int .i64 nd) := (blk_cell BW11.out 0).trans rfl
  have zW12_1 : w4.cell? ⟨g, 1, none⟩ = some (.int .i64 lf) := (blk_cell BW11.out 1).trans rfl
  have zW12_2 : w4.cell? ⟨g, 2, none⟩ = some (.int .i64 tk) := (blk_cell BW11.out 2).trans rfl
  have zW12_3 : w4.cell? ⟨g, 3, none⟩ = some (.bool true) := (blk_cell BW11.out 3).trans rfl
  have zW12_4 : w4.cell? ⟨g, 4, none⟩ = some (.slice A v.length c) := (blk_cell BW11.out 4).trans rfl
  have zW12_5 : w4.cell? ⟨g, 5, none⟩ = some (.int .i64 ag) := (blk_cell BW11.out 5).trans rfl
  have zb12_0 : w4.cell? ⟨gb2, 0, none⟩ = some (.int .i64 0) := (blk_cell Bb11.out 0).trans rfl
  have zb12_1 : w4.cell? ⟨gb2, 1, none⟩ = some (.slice none 0 0) := (blk_cell Bb11.out 1).trans rfl
  have zb12_2 : w4.cell? ⟨gb2, 2, none⟩ = some (.slice none 0 0) := (blk_cell Bb11.out 2).trans rfl
  have zl12_0 : w4.cell? ⟨gl9, 0, none⟩ = some (.int .i64 l.1) := (blk_cell Bl11.out 0).trans rfl
  have zl12_1 : w4.cell? ⟨gl9, 1, none⟩ = some (.int .i64 l.2.1) := (blk_cell Bl11.out 1).trans rfl
  have zl12_2 : w4.cell? ⟨gl9, 2, none⟩ = some (.int .i64 l.2.2.1) := (blk_cell Bl11.out 2).trans rfl
  have zl12_3 : w4.cell? ⟨gl9, 3, none⟩ = some (.int .i64 l.2.2.2) := (blk_cell Bl11.out 3).trans rfl
  have hd1 : decide (tk ≤ ag) = false := decide_eq_false (by omega)
  go_wp2_with fail
  refine start_ (n := 14) (S := fun w' => w'.cell? ⟨g, 0, none⟩ = some (.int .i64 nd) ∧ w'.cell? ⟨g, 1, none⟩ = some (.int .i64 lf) ∧ w'.cell? ⟨g, 2, none⟩ = some (.int .i64 tk) ∧ w'.cell? ⟨g, 3, none⟩ = some (.bool true) ∧ w'.cell? ⟨g, 4, none⟩ = some (.slice A v.length c) ∧ w'.cell? ⟨g, 5, none⟩ = some (.int .i64 ag)) (ds := []) #[false, false, false, false, false, false, false, false, false, false, false, false, false, false] (by kernel_rfl) rfl rfl ⟨zW12_0, zW12_1, zW12_2, zW12_3, zW12_4, zW12_5⟩ (fun hHeld => ?_)
  refine pure_ (i := 0) (N := some 35) (v := ?_) (a' := ?_) #[true, false, false, false, false, false, false, false, false, false, false, false, false, false] rfl rfl (by kernel_rfl) (fun _ _ _ h => h) (Or.inl ⟨by rfl, ?_⟩) ?_ ?_
  rotate_left
  · intro w'
    go_simp
    with_reducible rfl
  rotate_left
  · simp only [Act.put, List.setIfInBounds_toArray, List.set_cons_zero, List.set_cons_succ, i64_w, i32_w]
    rfl
  refine pure_ (i := 1) (N := some 36) (v := ?_) (a' := ?_) #[true, true, false, false, false, false, false, false, false, false, false, false, false, false] rfl rfl (by kernel_rfl) (fun _ _ _ h => h) (Or.inl ⟨by rfl, ?_⟩) ?_ ?_
  rotate_left
  · intro w'
    go_simp
    with_reducible rfl
  rotate_left
  · simp only [Act.put, List.setIfInBounds_toArray, List.set_cons_zero, List.set_cons_succ, i64_w, i32_w]
    rfl
  refine pure_ (i := 2) (N := some 37) (v := ?_) (a' := ?_) #[true, true, true, false, false, false, false, false, false, false, false, false, false, false] rfl rfl (by kernel_rfl) (fun _ _ _ h => h) (Or.inl ⟨by rfl, ?_⟩) ?_ ?_
  rotate_left
  · intro w'
    go_simp
    with_reducible rfl
  rotate_left
  · simp only [Act.put, List.setIfInBounds_toArray, List.set_cons_zero, List.set_cons_succ, i64_w, i32_w]
    rfl
  refine pure_ (i := 3) (N := some 38) (v := ?_) (a' := ?_) #[true, true, true, true, false, false, false, false, false, false, false, false, false, false] rfl rfl (by kernel_rfl) (fun _ _ _ h => h) (Or.inl ⟨by rfl, ?_⟩) ?_ ?_
  rotate_left
  · intro w'
    go_simp
    with_reducible rfl
  rotate_left
  · simp only [Act.put, List.setIfInBounds_toArray, List.set_cons_zero, List.set_cons_succ, i64_w, i32_w]
    rfl
  refine pure_ (i := 4) (N := some 39) (v := ?_) (a' := ?_) #[true, true, true, true, true, false, false, false, false, false, false, false, false, false] rfl rfl (by kernel_rfl) (fun _ _ _ h => h) (Or.inl ⟨by rfl, ?_⟩) ?_ ?_
  rotate_left
  · intro w'
    go_simp
    with_reducible rfl
  rotate_left
  · simp only [Act.put, List.setIfInBounds_toArray, List.set_cons_zero, List.set_cons_succ, i64_w, i32_w]
    rfl
  refine pure_ (i := 5) (N := some 40) (v := ?_) (a' := ?_) #[true, true, true, true, true, true, false, false, false, false, false, false, false, false] rfl rfl (by kernel_rfl) (fun _ _ _ h => h) (Or.inl ⟨by rfl, ?_⟩) ?_ ?_
  rotate_left
  · intro w'
    go_simp
    with_reducible rfl
  rotate_left
  · simp only [Act.put, List.setIfInBounds_toArray, List.set_cons_zero, List.set_cons_succ, i64_w, i32_w]
    rfl
  refine pure_ (i := 7) (N := some 42) (v := ?_) (a' := ?_) #[true, true, true, true, true, true, false, true, false, false, false, false, false, false] rfl rfl (by kernel_rfl) (fun _ _ _ h => h) (Or.inl ⟨by rfl, ?_⟩) ?_ ?_
  rotate_left
  · intro w'
    go_simp
    with_reducible rfl
  rotate_left
  · simp only [Act.put, List.setIfInBounds_toArray, List.set_cons_zero, List.set_cons_succ, i64_w, i32_w]
    rfl
  refine pure_ (i := 8) (N := some 43) (v := ?_) (a' := ?_) #[true, true, true, true, true, true, false, true, true, false, false, false, false, false] rfl rfl (by kernel_rfl) (fun _ _ _ h => h) (Or.inl ⟨by rfl, ?_⟩) ?_ ?_
  rotate_left
  · intro w'
    go_simp
    with_reducible rfl
  rotate_left
  · simp only [Act.put, List.setIfInBounds_toArray, List.set_cons_zero, List.set_cons_succ, i64_w, i32_w]
    rfl
  refine pure_ (i := 9) (N := some 44) (v := ?_) (a' := ?_) #[true, true, true, true, true, true, false, true, true, true, false, false, false, false] rfl rfl (by kernel_rfl) (fun _ _ _ h => h) (Or.inl ⟨by rfl, ?_⟩) ?_ ?_
  rotate_left
  · intro w'
    go_simp
    with_reducible rfl
  rotate_left
  · simp only [Act.put, List.setIfInBounds_toArray, List.set_cons_zero, List.set_cons_succ, i64_w, i32_w]
    rfl
  refine take_ (i := 6) (N := some 41) (v := ?_) (a' := ?_) #[true, true, true, true, true, true, true, true, true, true, false, false, false, false] rfl rfl (by kernel_rfl) (fun _ _ _ h => h) (Or.inl ⟨by rfl, ?_⟩) hHeld ?_ ?_
  rotate_left
  · rintro w' ⟨s0, s1, s2, s3, s4, s5⟩
    go_simp
    with_reducible rfl
  rotate_left
  · simp only [Act.put, List.setIfInBounds_toArray, List.set_cons_zero, List.set_cons_succ, i64_w, i32_w]
    rfl
  refine take_ (i := 10) (N := some 45) (v := ?_) (a' := ?_) #[true, true, true, true, true, true, true, true, true, true, true, false, false, false] rfl rfl (by kernel_rfl) (fun _ _ _ h => h) (Or.inl ⟨by rfl, ?_⟩) hHeld ?_ ?_
  rotate_left
  · rintro w' ⟨s0, s1, s2, s3, s4, s5⟩
    go_simp
    with_reducible rfl
  rotate_left
  · simp only [Act.put, List.setIfInBounds_toArray, List.set_cons_zero, List.set_cons_succ, i64_w, i32_w]
    rfl
  refine pure_ (i := 11) (N := some 46) (v := ?_) (a' := ?_) #[true, true, true, true, true, true, true, true, true, true, true, true, false, false] rfl rfl (by kernel_rfl) (fun _ _ _ h => h) (Or.inl ⟨by rfl, ?_⟩) ?_ ?_
  rotate_left
  · intro w'
    go_simp
    with_reducible rfl
  rotate_left
  · simp only [Act.put, List.setIfInBounds_toArray, List.set_cons_zero, List.set_cons_succ, i64_w, i32_w]
    rfl
  refine pure_ (i := 12) (N := some 47) (v := ?_) (a' := ?_) #[true, true, true, true, true, true, true, true, true, true, true, true, true, false] rfl rfl (by kernel_rfl) (fun _ _ _ h => h) (Or.inl ⟨by rfl, ?_⟩) ?_ ?_
  rotate_left
  · intro w'
    go_simp
    with_reducible rfl
  rotate_left
  · simp only [Act.put, List.setIfInBounds_toArray, List.set_cons_zero, List.set_cons_succ, i64_w, i32_w]
    rfl
  refine pure_ (i := 13) (N := some 34) (v := ?_) (a' := ?_) #[true, true, true, true, true, true, true, true, true, true, true, true, true, true] rfl rfl (by kernel_rfl) (fun _ _ _ h => h) (Or.inl ⟨by rfl, ?_⟩) ?_ ?_
  rotate_left
  · intro w'
    go_simp
    with_reducible rfl
  rotate_left
  · simp only [Act.put, List.setIfInBounds_toArray, List.set_cons_zero, List.set_cons_succ, i64_w, i32_w]
    rfl
  refine done_ (by kernel_rfl) ?_
  obtain ⟨W13, hw13⟩ : ∃ x : World, x = w4.drew := ⟨_, rfl⟩
  have hbd13 : Below w4.heap.size w4 W13 := by rw [hw13]; exact below_drew (Below.refl _ _)
  rw [← hw13]
  clear hw13
  clear zW12_0 zW12_1 zW12_2 zW12_3 zW12_4 zW12_5 zb12_0 zb12_1 zb12_2 zl12_0 zl12_1 zl12_2 zl12_3
  have HB14 := Aside0.mk (below_step HB11.out hbd13)
  have BW14 : Aside0 (W13.heap[g]? = some (.cells #[.int .i64 nd, .int .i64 lf, .int .i64 tk, .bool true, .slice A v.length c, .int .i64 ag] 68 (0, 0))) := ⟨(hbd13.block _ (blk_lt BW11.out)).trans BW11.out⟩
  have Bb14 : Aside0 (W13.heap[gb2]? = some (.cells #[.int .i64 0, .slice none 0 0, .slice none 0 0] 39 (0, 0))) := ⟨(hbd13.block _ (blk_lt Bb11.out)).trans Bb11.out⟩
  have Bl14 : Aside0 (W13.heap[gl9]? = some (.cells #[.int .i64 l.1, .int .i64 l.2.1, .int .i64 l.2.2.1, .int .i64 l.2.2.2] 24 (0, 0))) := ⟨(hbd13.block _ (blk_lt Bl11.out)).trans Bl11.out⟩
  have RV14 := Aside0.mk (Kd.R_below RV11.out hbd13)
  clear hbd13
  have zW15_0 : W13.cell? ⟨g, 0, none⟩ = some (.int .i64 nd) := (blk_cell BW14.out 0).trans rfl
  have zW15_1 : W13.cell? ⟨g, 1, none⟩ = some (.int .i64 lf) := (blk_cell BW14.out 1).trans rfl
  have zW15_2 : W13.cell? ⟨g, 2, none⟩ = some (.int .i64 tk) := (blk_cell BW14.out 2).trans rfl
  have zW15_3 : W13.cell? ⟨g, 3, none⟩ = some (.bool true) := (blk_cell BW14.out 3).trans rfl
  have zW15_4 : W13.cell? ⟨g, 4, none⟩ = some (.slice A v.length c) := (blk_cell BW14.out 4).trans rfl
  have zW15_5 : W13.cell? ⟨g, 5, none⟩ = some (.int .i64 ag) := (blk_cell BW14.out 5).trans rfl
  have zb15_0 : W13.cell? ⟨gb2, 0, none⟩ = some (.int .i64 0) := (blk_cell Bb14.out 0).trans rfl
  have zb15_1 : W13.cell? ⟨gb2, 1, none⟩ = some (.slice none 0 0) := (blk_cell Bb14.out 1).trans rfl
  have zb15_2 : W13.cell? ⟨gb2, 2, none⟩ = some (.slice none 0 0) := (blk_cell Bb14.out 2).trans rfl
  have zl15_0 : W13.cell? ⟨gl9, 0, none⟩ = some (.int .i64 l.1) := (blk_cell Bl14.out 0).trans rfl
  have zl15_1 : W13.cell? ⟨gl9, 1, none⟩ = some (.int .i64 l.2.1) := (blk_cell Bl14.out 1).trans rfl
  have zl15_2 : W13.cell? ⟨gl9, 2, none⟩ = some (.int .i64 l.2.2.1) := (blk_cell Bl14.out 2).trans rfl
  have zl15_3 : W13.cell? ⟨gl9, 3, none⟩ = some (.int .i64 l.2.2.2) := (blk_cell Bl14.out 3).trans rfl
  go_wp2_with fail
  refine (read_v _).mono ?_
  rintro e w8 ⟨B, d, B', d', rfl, hRa, hRb, hb16⟩
  clear zW15_0 zW15_1 zW15_2 zW15_3 zW15_4 zW15_5 zb15_0 zb15_1 zb15_2 zl15_0 zl15_1 zl15_2 zl15_3
  have HB17 := Aside0.mk (below_step HB14.out hb16)
  have BW17 : Aside0 (w8.heap[g]? = some (.cells #[.int .i64 nd, .int .i64 lf, .int .i64 tk, .bool true, .slice A v.length c, .int .i64 ag] 68 (0, 0))) := ⟨(hb16.block _ (blk_lt BW14.out)).trans BW14.out⟩
  have Bb17 : Aside0 (w8.heap[gb2]? = some (.cells #[.int .i64 0, .slice none 0 0, .slice none 0 0] 39 (0, 0))) := ⟨(hb16.block _ (blk_lt Bb14.out)).trans Bb14.out⟩
  have Bl17 : Aside0 (w8.heap[gl9]? = some (.cells #[.int .i64 l.1, .int .i64 l.2.1, .int .i64 l.2.2.1, .int .i64 l.2.2.2] 24 (0, 0))) := ⟨(hb16.block _ (blk_lt Bl14.out)).trans Bl14.out⟩
  have RV17 := Aside0.mk (Kd.R_below RV14.out hb16)
  clear hb16
  have HRa := Aside0.mk (Kd.R_lower hRa HB14.out.size)
  have HRb := Aside0.mk (Kd.R_lower hRb HB14.out.size)
  clear hRa hRb
  have hf0 := blk_frozen Bb17.out 0
  have hf1 := blk_frozen Bb17.out 1
  have hf2 := blk_frozen Bb17.out 2
  have zb18_0 : w8.cell? ⟨gb2, 0, none⟩ = some (.int .i64 0) := (blk_cell Bb17.out 0).trans rfl
  have zb18_1 : w8.cell? ⟨gb2, 1, none⟩ = some (.slice none 0 0) := (blk_cell Bb17.out 1).trans rfl
  have zb18_2 : w8.cell? ⟨gb2, 2, none⟩ = some (.slice none 0 0) := (blk_cell Bb17.out 2).trans rfl
  go_wp2_with fail
  refine bodyPost_ret (results_cell_row rfl _ _ gb2 39 #[.int .i64 1, .slice B 0 d, .slice B' 0 d'] (0, 0) _ rfl (by refine blk_put (cs := #[.int .i64 1, .slice B 0 d, .slice none 0 0]) ?_ 2 _ rfl; refine blk_put (cs := #[.int .i64 1, .slice none 0 0, .slice none 0 0]) ?_ 1 _ rfl; refine blk_put (cs := #[.int .i64 0, .slice none 0 0, .slice none 0 0]) ?_ 0 _ rfl; exact Bb17.out) Try.underlying39 rfl (by kernel_rfl)) rfl ?_
  exact ⟨_, _, _, _, rfl, Kd.R_mono (Kd.R_far (p := ⟨gb2, 2, none⟩) (Kd.R_far (p := ⟨gb2, 1, none⟩) (Kd.R_far (p := ⟨gb2, 0, none⟩) (Kd.R_types HRa.out Bb17.out (by decide)) (fun _ hk => hk.2) _) (fun _ hk => hk.2) _) (fun _ hk => hk.2) _) (fun _ _ => trivial), Kd.R_mono (Kd.R_far (p := ⟨gb2, 2, none⟩) (Kd.R_far (p := ⟨gb2, 1, none⟩) (Kd.R_far (p := ⟨gb2, 0, none⟩) (Kd.R_types HRb.out Bb17.out (by decide)) (fun _ hk => hk.2) _) (fun _ hk => hk.2) _) (fun _ hk => hk.2) _) (fun _ hk => hk.1), by repeat (first | exact HB17.out | refine below_set ?_ GSb2.out)⟩
theorem want_c (W : World) (g : Nat) (nd lf tk : Int) (sw : Bool) (v : List Int) (ag : Int) (h : WAt W g nd lf tk sw v ag) : Calls Try.prog 17 #[.pointer (some ⟨g, 0, none⟩)] W (WantPost W (wantOf nd lf tk sw v ag)) := by
  unfold wantOf
  cases sw
  · rw [if_neg (by simp)]
    exact (want_unseen W g nd lf tk v ag h)
  · rw [if_pos rfl]
    cases hlb : leadsB nd lf v
    · rw [if_neg (by simp)]
      have hn : leadsN nd lf v = 0 := by unfold leadsN; rw [hlb]; rfl
      cases hq : okL v
      · rw [if_neg (by simp)]
        exact want_none W g nd lf tk v ag h _ rfl hq hlb hn
      · by_cases ha : ag < tk
        · rw [if_pos ⟨rfl, ha⟩]
          exact want_fresh W g nd lf tk v ag h _ rfl hq hlb hn ha
        · rw [if_neg (fun e => ha e.2)]
          exact want_old W g nd lf tk v ag h _ rfl hq hlb hn (by omega)
    · rw [if_pos rfl]
      have hn : leadsN nd lf v = (leaseOf v).1 := by unfold leadsN; rw [hlb]; rfl
      exact want_leads W g nd lf tk v ag h _ _ rfl rfl hlb hn
end Go.Proofs.Ytimfbdiiaakhiaa.MAll

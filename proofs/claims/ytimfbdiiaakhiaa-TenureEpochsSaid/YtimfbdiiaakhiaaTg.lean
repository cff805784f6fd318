/- The reference's watch. -/
import Derived.Test.YtimfbdiiaakhiaaTe
import Derived.Test.YtimfbdiiaakhiaaWMore
import Derived.Deep.DrawnRows
set_option linter.unusedVariables false
set_option linter.unusedSimpArgs false
namespace Go.Proofs.Ytimfbdiiaakhiaa.MAll
open Go.RowKit Go.Proofs.YtimfbdiiaakhiaaW.PrintWords Go.Proofs.YtimfbdiiaakhiaaW.PrintLast Go.Proofs.YtimfbdiiaakhiaaW.PrintMore
attribute [local go_sem ↓] Go.wp_at_zero Go.wp_at_succ
theorem info22' : (Try.prog.info? 22).map (fun i => (i.zero, i.size, i.bytes)) = some (some (.slice none 0 0), 1, 24) := by kernel_rfl
theorem info3' : (Try.prog.info? 3).map (fun i => (i.zero, i.size, i.bytes)) = some (some (.int .i64 0), 1, 8) := by kernel_rfl
abbrev kI : Kd (List Int) := Kd.slice 3 (Kd.int .i64)
def okSeen (seen : List (List Int)) : Prop := seen.length ≤ 100000 ∧ ∀ r ∈ seen, r.length < 17592186044416
def RWAt (W : World) (g : Nat) (nd lf tk : Int) (seen : List (List Int)) (ag : Int) : Prop :=
  ∃ A c, W.heap[g]? = some (.cells #[.int .i64 nd, .int .i64 lf, .int .i64 tk, .slice A seen.length c, .int .i64 ag] 78 (0, 0)) ∧ kI.R 22 W (g + 1) (fun _ => True) (.slice A seen.length c) seen ∧ okSeen seen
theorem RWAt.below {W W1 : World} {g : Nat} {nd lf tk : Int} {seen : List (List Int)} {ag : Int} (h : RWAt W g nd lf tk seen ag) (hb : Below W.heap.size W W1) : RWAt W1 g nd lf tk seen ag := by
  obtain ⟨A, c, h1, h2, h3⟩ := h
  exact ⟨A, c, blk_below h1 hb, Kd.R_below h2 hb, h3⟩
theorem RWAt.lt {W : World} {g : Nat} {nd lf tk : Int} {seen : List (List Int)} {ag : Int} (h : RWAt W g nd lf tk seen ag) : g < W.heap.size := by
  obtain ⟨A, c, h1, h2⟩ := h
  exact blk_lt h1
/-- A watch of the ruler's own is written: the reference's stays. -/
theorem RWAt.grown {W W1 : World} {g g' : Nat} {nd lf tk : Int} {seen : List (List Int)} {ag : Int} {nd' lf' tk' : Int} {sw' : Bool} {v' : List Int} {ag' : Int} (h : RWAt W g nd lf tk seen ag) (h' : WAt W g' nd' lf' tk' sw' v' ag') (hg : W.grownBy W1 (some g')) : RWAt W1 g nd lf tk seen ag := by
  obtain ⟨A, c, h1, h2, h3⟩ := h
  obtain ⟨A', c', h1', _⟩ := h'
  refine ⟨A, c, blk_grown h1 hg (fun e => blk_ne h1 h1' (by decide) (by injection e)), Kd.R_mono (Kd.R_grown (Kd.R_types h2 h1' (by decide)) hg (fun k hk => by simpa using hk.2)) (fun _ _ => trivial), h3⟩
def lastOf (seen : List (List Int)) : List Int := seen.getLast?.getD []
theorem rnew_c (W : World) (nd lf tk : Int) (h : newOk nd lf tk = true) : Calls Try.prog 29 #[.int .i64 nd, .int .i64 lf, .int .i64 tk] W fun e w' => ∃ g, e = .returned (.tuple #[.pointer (some ⟨g, 0, none⟩), .int .i64 0]) ∧ W.heap.size ≤ g ∧ RWAt w' g nd lf tk [] 0 ∧ Below W.heap.size W w' := by
  have hu78 := Try.underlying78
  unfold newOk at h
  obtain ⟨h0, h1, h2, h3⟩ := of_decide_eq_true h
  clear h
  have d0 : decide (nd < 0) = false := decide_eq_false (by omega)
  have d1 : decide (lf < 0) = false := decide_eq_false (by omega)
  have d2 : decide (tk < 1) = false := decide_eq_false (by omega)
  have d3 : decide (20 < tk) = false := decide_eq_false (by omega)
  go_enter Try.func29, Try.ntmps29
  go_wp2_with fail
  go_ret2
  exact ⟨_, rfl, Nat.le_refl _, ⟨none, 0, blk_new _ _, Kd.R_nil _ _ _ _ _, by simp [okSeen]⟩, below_alloc (Below.refl _ _) _⟩
theorem rnew_bad (W : World) (nd lf tk : Int) (h : newOk nd lf tk = false) : Calls Try.prog 29 #[.int .i64 nd, .int .i64 lf, .int .i64 tk] W fun e w' => e = .returned (.tuple #[.pointer none, .int .i64 2]) ∧ Below W.heap.size W w' := by
  have hu78 := Try.underlying78
  unfold newOk at h
  have h' := of_decide_eq_false h
  clear h
  have hc : nd < 0 ∨ (¬ nd < 0 ∧ lf < 0) ∨ (¬ nd < 0 ∧ ¬ lf < 0 ∧ tk < 1) ∨ (¬ nd < 0 ∧ ¬ lf < 0 ∧ ¬ tk < 1 ∧ 20 < tk) := by omega
  clear h'
  rcases hc with h0 | ⟨h0, h1⟩ | ⟨h0, h1, h2⟩ | ⟨h0, h1, h2, h3⟩
  · have d0 : decide (nd < 0) = true := decide_eq_true h0
    go_enter Try.func29, Try.ntmps29
    go_wp2_with fail
    go_ret2
    exact ⟨rfl, Below.refl _ _⟩
  · have d0 : decide (nd < 0) = false := decide_eq_false h0
    have d1 : decide (lf < 0) = true := decide_eq_true h1
    go_enter Try.func29, Try.ntmps29
    go_wp2_with fail
    go_ret2
    exact ⟨rfl, Below.refl _ _⟩
  · have d0 : decide (nd < 0) = false := decide_eq_false h0
    have d1 : decide (lf < 0) = false := decide_eq_false h1
    have d2 : decide (tk < 1) = true := decide_eq_true h2
    go_enter Try.func29, Try.ntmps29
    go_wp2_with fail
    go_ret2
    exact ⟨rfl, Below.refl _ _⟩
  · have d0 : decide (nd < 0) = false := decide_eq_false h0
    have d1 : decide (lf < 0) = false := decide_eq_false h1
    have d2 : decide (tk < 1) = false := decide_eq_false h2
    have d3 : decide (20 < tk) = true := decide_eq_true h3
    go_enter Try.func29, Try.ntmps29
    go_wp2_with fail
    go_ret2
    exact ⟨rfl, Below.refl _ _⟩
/-- An element that is read. -/
theorem I_elem {w : World} {base b n c i : Nat} {rows : List (List Int)} (h : kI.R 22 w base (fun _ => True) (.slice (some ⟨b, 0, none⟩) n c) rows) (hn : rows.length = n) (r : List Int) (hr : rows[i]? = some r) :
    ∃ B d, w.cell? ⟨b, i, none⟩ = some (.slice B r.length d) ∧ r.length ≤ d ∧ kI.M w base (fun k => True ∧ some k ≠ some b) r [.slice B r.length d] ∧ (Kd.int .i64).C w B r.length r := by
  have hil : i < rows.length := (List.getElem?_eq_some_iff.1 hr).1
  obtain ⟨cs, hcl, hM, hc⟩ := Kd.R_get h [] i (by omega) (by omega)
  have he : rows.getD (i : Int).toNat [] = r := by simp [List.getD_eq_getElem?_getD, hr]
  rw [he] at hM
  obtain ⟨v, rfl, hR⟩ := hM
  obtain ⟨B, d, rfl, hl, hC⟩ := Kd.R_reads hR
  refine ⟨B, d, ?_, hl, ⟨_, rfl, hR⟩, hC⟩
  have h3 := hc 0 _ rfl
  rw [add_plain] at h3
  simpa [Kd.slice] using h3
theorem row_b {w : World} {base n c : Nat} {A : Option Addr} {rows : List (List Int)} (h : kI.R 22 w base (fun _ => True) (.slice A n c) rows) (hn : 0 < n) : ∃ b, A = some ⟨b, 0, none⟩ := by
  obtain ⟨_, inner, ho, _⟩ := h
  rcases ho.2 with ⟨hv, hz⟩ | ⟨g, cap', cur, hv, _⟩
  · exfalso; injection hv with _ hv _; omega
  · injection hv with ha _ _
    exact ⟨g, ha⟩
theorem seen_last {seen : List (List Int)} (h : seen ≠ []) : ∃ m r, seen.length = m + 1 ∧ seen[m]? = some r ∧ lastOf seen = r := by
  have hp := List.length_pos_iff.2 h
  obtain ⟨r, hr⟩ : ∃ r, seen[seen.length - 1]? = some r := ⟨_, List.getElem?_eq_getElem (by omega)⟩
  exact ⟨seen.length - 1, r, by omega, hr, by unfold lastOf; rw [List.getLast?_eq_getElem?, hr]; rfl⟩
set_option maxHeartbeats 4000000 in
set_option maxRecDepth 100000 in
theorem rlast_w (W0 : World) (W : World) (g : Nat) (nd lf tk : Int) (seen : List (List Int)) (ag : Int) (h : RWAt W0 g nd lf tk seen ag) (hb : Below W0.heap.size W0 W) : Calls Try.prog 39 #[.pointer (some ⟨g, 0, none⟩)] W fun e w' => ∃ B d, e = .returned (.slice B (lastOf seen).length d) ∧ (lastOf seen).length ≤ d ∧ (Kd.int .i64).C W0 B (lastOf seen).length (lastOf seen) ∧ Below W.heap.size W w' := by
  have hu71 := Try.underlying71
  have hu78 := Try.underlying78
  have hu42 := Try.underlying42
  have hu22 := Try.underlying22
  obtain ⟨A, c, hB0, hR0, hok⟩ := h
  by_cases hs : seen = []
  · subst hs
    have z3 : W.cell? ⟨g, 3, none⟩ = some (.slice A 0 c) := pw_cell_below hb ((blk_cell hB0 3).trans rfl)
    clear hB0
    go_enter Try.func39, Try.ntmps39
    go_wp2_with fail
    go_ret
    exact ⟨none, 0, rfl, Nat.le_refl _, (Kd.R_reads' (Kd.R_nil (Kd.int .i64) 3 W0 0 (fun _ => True))).2.2, Below.refl _ _⟩
  obtain ⟨m, r, hm, hr, hl⟩ := seen_last hs
  rw [hl]
  rw [hm] at hB0 hR0
  obtain ⟨b, rfl⟩ := row_b hR0 (by omega)
  obtain ⟨B, d, hcell0, hrd, hM, hC⟩ := I_elem hR0 hm r hr
  have hcell := pw_cell_below hb hcell0
  obtain ⟨n, hn⟩ : ∃ n, n = m + 1 := ⟨_, rfl⟩
  rw [← hn] at hB0
  have z3 : W.cell? ⟨g, 3, none⟩ = some (.slice (some ⟨b, 0, none⟩) n c) := pw_cell_below hb ((blk_cell hB0 3).trans rfl)
  have hnn : n ≤ 100000 := by have := hok.1; omega
  have hw : wrap64 ((n : Int) - 1) = (m : Int) := by unfold wrap64; omega
  have hlt : decide ((m : Int) < (n : Int)) = true := decide_eq_true (by omega)
  have hlt2 : m < n := by omega
  have hz : ((n : Int) == 0) = false := beq_eq_false_iff_ne.2 (by omega)
  have hz2 : ¬ n = 0 := by omega
  have HC := Aside0.mk hC
  have HRD := Aside0.mk hrd
  clear hB0 hR0 hok hs hm hr hl hn hM hC hrd hnn hcell0 hb
  go_enter Try.func39, Try.ntmps39
  go_upto_region 3 with fail
  refine start_ (n := 13) (S := fun w' => w'.cell? ⟨g, 3, none⟩ = some (.slice (some ⟨b, 0, none⟩) n c) ∧ w'.cell? ⟨b, m, none⟩ = some (.slice B r.length d)) (ds := []) #[false, false, false, false, false, false, false, false, false, false, false, false, false] (by kernel_rfl) rfl rfl ⟨z3, hcell⟩ (fun hHeld => ?_)
  refine pure_ (i := 0) (N := some 9) (v := ?_) (a' := ?_) #[true, false, false, false, false, false, false, false, false, false, false, false, false] rfl rfl (by kernel_rfl) (fun _ _ _ h => h) (Or.inl ⟨by rfl, ?_⟩) ?_ ?_
  rotate_left
  · intro w'
    go_simp
    with_reducible rfl
  rotate_left
  · simp only [Act.put, List.setIfInBounds_toArray, List.set_cons_zero, List.set_cons_succ, i64_w, i32_w]
    rfl
  refine pure_ (i := 1) (N := some 10) (v := ?_) (a' := ?_) #[true, true, false, false, false, false, false, false, false, false, false, false, false] rfl rfl (by kernel_rfl) (fun _ _ _ h => h) (Or.inl ⟨by rfl, ?_⟩) ?_ ?_
  rotate_left
  · intro w'
    go_simp
    with_reducible rfl
  rotate_left
  · simp only [Act.put, List.setIfInBounds_toArray, List.set_cons_zero, List.set_cons_succ, i64_w, i32_w]
    rfl
  refine pure_ (i := 2) (N := some 11) (v := ?_) (a' := ?_) #[true, true, true, false, false, false, false, false, false, false, false, false, false] rfl rfl (by kernel_rfl) (fun _ _ _ h => h) (Or.inl ⟨by rfl, ?_⟩) ?_ ?_
  rotate_left
  · intro w'
    go_simp
    with_reducible rfl
  rotate_left
  · simp only [Act.put, List.setIfInBounds_toArray, List.set_cons_zero, List.set_cons_succ, i64_w, i32_w]
    rfl
  refine pure_ (i := 4) (N := some 13) (v := ?_) (a' := ?_) #[true, true, true, false, true, false, false, false, false, false, false, false, false] rfl rfl (by kernel_rfl) (fun _ _ _ h => h) (Or.inl ⟨by rfl, ?_⟩) ?_ ?_
  rotate_left
  · intro w'
    go_simp
    with_reducible rfl
  rotate_left
  · simp only [Act.put, List.setIfInBounds_toArray, List.set_cons_zero, List.set_cons_succ, i64_w, i32_w]
    rfl
  refine pure_ (i := 5) (N := some 14) (v := ?_) (a' := ?_) #[true, true, true, false, true, true, false, false, false, false, false, false, false] rfl rfl (by kernel_rfl) (fun _ _ _ h => h) (Or.inl ⟨by rfl, ?_⟩) ?_ ?_
  rotate_left
  · intro w'
    go_simp
    with_reducible rfl
  rotate_left
  · simp only [Act.put, List.setIfInBounds_toArray, List.set_cons_zero, List.set_cons_succ, i64_w, i32_w]
    rfl
  refine pure_ (i := 6) (N := some 15) (v := ?_) (a' := ?_) #[true, true, true, false, true, true, true, false, false, false, false, false, false] rfl rfl (by kernel_rfl) (fun _ _ _ h => h) (Or.inl ⟨by rfl, ?_⟩) ?_ ?_
  rotate_left
  · intro w'
    go_simp
    with_reducible rfl
  rotate_left
  · simp only [Act.put, List.setIfInBounds_toArray, List.set_cons_zero, List.set_cons_succ, i64_w, i32_w]
    rfl
  refine take_ (i := 3) (N := some 12) (v := ?_) (a' := ?_) #[true, true, true, true, true, true, true, false, false, false, false, false, false] rfl rfl (by kernel_rfl) (fun _ _ _ h => h) (Or.inl ⟨by rfl, ?_⟩) hHeld ?_ ?_
  rotate_left
  · rintro w' ⟨s0, s1⟩
    go_simp
    with_reducible rfl
  rotate_left
  · simp only [Act.put, List.setIfInBounds_toArray, List.set_cons_zero, List.set_cons_succ, i64_w, i32_w]
    rfl
  refine take_ (i := 7) (N := some 16) (v := ?_) (a' := ?_) #[true, true, true, true, true, true, true, true, false, false, false, false, false] rfl rfl (by kernel_rfl) (fun _ _ _ h => h) (Or.inl ⟨by rfl, ?_⟩) hHeld ?_ ?_
  rotate_left
  · rintro w' ⟨s0, s1⟩
    go_simp
    with_reducible rfl
  rotate_left
  · simp only [Act.put, List.setIfInBounds_toArray, List.set_cons_zero, List.set_cons_succ, i64_w, i32_w]
    rfl
  refine pure_ (i := 8) (N := some 17) (v := ?_) (a' := ?_) #[true, true, true, true, true, true, true, true, true, false, false, false, false] rfl rfl (by kernel_rfl) (fun _ _ _ h => h) (Or.inl ⟨by rfl, ?_⟩) ?_ ?_
  rotate_left
  · intro w'
    go_simp
    with_reducible rfl
  rotate_left
  · simp only [Act.put, List.setIfInBounds_toArray, List.set_cons_zero, List.set_cons_succ, i64_w, i32_w]
    rfl
  refine pure_ (i := 9) (N := some 18) (v := ?_) (a' := ?_) #[true, true, true, true, true, true, true, true, true, true, false, false, false] rfl rfl (by kernel_rfl) (fun _ _ _ h => h) (Or.inl ⟨by rfl, ?_⟩) ?_ ?_
  rotate_left
  · intro w'
    go_simp
    with_reducible rfl
  rotate_left
  · simp only [Act.put, List.setIfInBounds_toArray, List.set_cons_zero, List.set_cons_succ, i64_w, i32_w]
    rfl
  refine pure_ (i := 10) (N := some 19) (v := ?_) (a' := ?_) #[true, true, true, true, true, true, true, true, true, true, true, false, false] rfl rfl (by kernel_rfl) (fun _ _ _ h => h) (Or.inl ⟨by rfl, ?_⟩) ?_ ?_
  rotate_left
  · intro w'
    go_simp
    with_reducible rfl
  rotate_left
  · simp only [Act.put, List.setIfInBounds_toArray, List.set_cons_zero, List.set_cons_succ, i64_w, i32_w]
    rfl
  refine take_ (i := 11) (N := some 20) (v := ?_) (a' := ?_) #[true, true, true, true, true, true, true, true, true, true, true, true, false] rfl rfl (by kernel_rfl) (fun _ _ _ h => h) (Or.inl ⟨by rfl, ?_⟩) hHeld ?_ ?_
  rotate_left
  · rintro w' ⟨s0, s1⟩
    go_simp
    with_reducible rfl
  rotate_left
  · simp only [Act.put, List.setIfInBounds_toArray, List.set_cons_zero, List.set_cons_succ, i64_w, i32_w]
    rfl
  refine pure_ (i := 12) (N := some 2) (v := ?_) (a' := ?_) #[true, true, true, true, true, true, true, true, true, true, true, true, true] rfl rfl (by kernel_rfl) (fun _ _ _ h => h) (Or.inl ⟨by rfl, ?_⟩) ?_ ?_
  rotate_left
  · intro w'
    go_simp
    with_reducible rfl
  rotate_left
  · simp only [Act.put, List.setIfInBounds_toArray, List.set_cons_zero, List.set_cons_succ, i64_w, i32_w]
    rfl
  refine done_ (by kernel_rfl) ?_
  go_wp2_with fail
  go_ret
  exact ⟨B, d, rfl, HRD.out, HC.out, below_drew (Below.refl _ _)⟩
theorem rlast_c (W : World) (g : Nat) (nd lf tk : Int) (seen : List (List Int)) (ag : Int) (h : RWAt W g nd lf tk seen ag) : Calls Try.prog 39 #[.pointer (some ⟨g, 0, none⟩)] W fun e w' => ∃ B d, e = .returned (.slice B (lastOf seen).length d) ∧ (lastOf seen).length ≤ d ∧ (Kd.int .i64).C W B (lastOf seen).length (lastOf seen) ∧ Below W.heap.size W w' := rlast_w W W g nd lf tk seen ag h (Below.refl _ _)
theorem rlast_v (W : World) (g : Nat) (nd lf tk : Int) (seen : List (List Int)) (ag : Int) (v : List Int) (hv : lastOf seen = v) (h : RWAt W g nd lf tk seen ag) : Calls Try.prog 39 #[.pointer (some ⟨g, 0, none⟩)] W fun e w' => ∃ B d, e = .returned (.slice B v.length d) ∧ v.length ≤ d ∧ (Kd.int .i64).C W B v.length v ∧ Below W.heap.size W w' := by
  subst hv
  exact rlast_c W g nd lf tk seen ag h
set_option maxHeartbeats 4000000 in
set_option maxRecDepth 100000 in
theorem rlease_c (W : World) (g : Nat) (nd lf tk : Int) (seen : List (List Int)) (ag : Int) (v : List Int) (hv : lastOf seen = v) (h : RWAt W g nd lf tk seen ag) :
    Calls Try.prog 34 #[.pointer (some ⟨g, 0, none⟩)] W fun e w' => e = .returned (.tuple #[.agg (leaA (leaseOf v)), .bool (okL v)]) ∧ Below W.heap.size W w' := by
  have hu71 := Try.underlying71
  have hu24 := Try.underlying24
  have HR := Aside0.mk h
  obtain ⟨A, c, hB0, hR0, hok⟩ := h
  have BW0 := Aside0.mk hB0
  have HV := Aside0.mk hv
  clear hB0 hR0 hok hv
  go_enter Try.func34, Try.ntmps34
  go_wp2_with ((with_reducible refine gate_dst (N := 2) rfl ?_); refine box_event ?hg (N := 2) ?hd (cs := #[.int .i64 0, .int .i64 0, .int .i64 0, .int .i64 0]) (t := 24) ?hr ?_; (case hd => rfl); (case hg => rfl); (case hr => first | (go_simp; done) | (go_simp; rfl)); intro gb1 hg1 W1 hbox1 hb1; have GSb1 : Aside0 (W.heap.size ≤ gb1) := ⟨by rw [hg1]; exact Nat.le_refl _⟩; have Bb1 := Aside0.mk hbox1; have Gb1 : Aside0 (W.heap.size ≤ gb1) := ⟨by rw [hg1]; exact Nat.le_refl _⟩; have hbk1 := hb1; clear hg1 hbox1; have HB2 := Aside0.mk hbk1; have BW2 : Aside0 (W1.heap[g]? = some (.cells #[.int .i64 nd, .int .i64 lf, .int .i64 tk, .slice A seen.length c, .int .i64 ag] 78 (0, 0))) := ⟨(hbk1.block _ (blk_lt BW0.out)).trans BW0.out⟩; have CRW2 := Aside0.mk (RWAt.below HR.out hbk1); clear hbk1; clear hb1; have zW3_0 : W1.cell? ⟨g, 0, none⟩ = some (.int .i64 nd) := (blk_cell BW2.out 0).trans rfl; have zW3_1 : W1.cell? ⟨g, 1, none⟩ = some (.int .i64 lf) := (blk_cell BW2.out 1).trans rfl; have zW3_2 : W1.cell? ⟨g, 2, none⟩ = some (.int .i64 tk) := (blk_cell BW2.out 2).trans rfl; have zW3_3 : W1.cell? ⟨g, 3, none⟩ = some (.slice A seen.length c) := (blk_cell BW2.out 3).trans rfl; have zW3_4 : W1.cell? ⟨g, 4, none⟩ = some (.int .i64 ag) := (blk_cell BW2.out 4).trans rfl; have zb3_0 : W1.cell? ⟨gb1, 0, none⟩ = some (.int .i64 0) := (blk_cell Bb1.out 0).trans rfl; have zb3_1 : W1.cell? ⟨gb1, 1, none⟩ = some (.int .i64 0) := (blk_cell Bb1.out 1).trans rfl; have zb3_2 : W1.cell? ⟨gb1, 2, none⟩ = some (.int .i64 0) := (blk_cell Bb1.out 2).trans rfl; have zb3_3 : W1.cell? ⟨gb1, 3, none⟩ = some (.int .i64 0) := (blk_cell Bb1.out 3).trans rfl)
  refine (rlast_v _ g nd lf tk seen ag v HV.out CRW2.out).mono ?_
  rintro e w8 ⟨B, d, rfl, hvd, hC, hb8⟩
  have HC0 := Aside0.mk hC
  clear hC
  clear zW3_0 zW3_1 zW3_2 zW3_3 zW3_4 zb3_0 zb3_1 zb3_2 zb3_3
  have HB4 := Aside0.mk (below_step HB2.out hb8)
  have BW4 : Aside0 (w8.heap[g]? = some (.cells #[.int .i64 nd, .int .i64 lf, .int .i64 tk, .slice A seen.length c, .int .i64 ag] 78 (0, 0))) := ⟨(hb8.block _ (blk_lt BW2.out)).trans BW2.out⟩
  have Bb4 : Aside0 (w8.heap[gb1]? = some (.cells #[.int .i64 0, .int .i64 0, .int .i64 0, .int .i64 0] 24 (0, 0))) := ⟨(hb8.block _ (blk_lt Bb1.out)).trans Bb1.out⟩
  have CRW4 := Aside0.mk (RWAt.below CRW2.out hb8)
  have Cv4 := Aside0.mk (Kd.C_below HC0.out hb8)
  clear hb8
  have zW5_0 : w8.cell? ⟨g, 0, none⟩ = some (.int .i64 nd) := (blk_cell BW4.out 0).trans rfl
  have zW5_1 : w8.cell? ⟨g, 1, none⟩ = some (.int .i64 lf) := (blk_cell BW4.out 1).trans rfl
  have zW5_2 : w8.cell? ⟨g, 2, none⟩ = some (.int .i64 tk) := (blk_cell BW4.out 2).trans rfl
  have zW5_3 : w8.cell? ⟨g, 3, none⟩ = some (.slice A seen.length c) := (blk_cell BW4.out 3).trans rfl
  have zW5_4 : w8.cell? ⟨g, 4, none⟩ = some (.int .i64 ag) := (blk_cell BW4.out 4).trans rfl
  go_wp2_with fail
  refine (reftake_v B d v _ Cv4.out hvd).mono ?_
  rintro e w9 ⟨rfl, hb6⟩
  clear zW5_0 zW5_1 zW5_2 zW5_3 zW5_4
  have HB7 := Aside0.mk (below_step HB4.out hb6)
  have BW7 : Aside0 (w9.heap[g]? = some (.cells #[.int .i64 nd, .int .i64 lf, .int .i64 tk, .slice A seen.length c, .int .i64 ag] 78 (0, 0))) := ⟨(hb6.block _ (blk_lt BW4.out)).trans BW4.out⟩
  have Bb7 : Aside0 (w9.heap[gb1]? = some (.cells #[.int .i64 0, .int .i64 0, .int .i64 0, .int .i64 0] 24 (0, 0))) := ⟨(hb6.block _ (blk_lt Bb4.out)).trans Bb4.out⟩
  have CRW7 := Aside0.mk (RWAt.below CRW4.out hb6)
  have Cv7 := Aside0.mk (Kd.C_below Cv4.out hb6)
  clear hb6
  have hf0 := blk_frozen Bb7.out 0
  have hf1 := blk_frozen Bb7.out 1
  have hf2 := blk_frozen Bb7.out 2
  have hf3 := blk_frozen Bb7.out 3
  obtain ⟨l, hl⟩ : ∃ l, leaseOf v = l := ⟨_, rfl⟩
  have HLL := Aside0.mk hl
  rw [hl]
  clear hl
  have zW8_0 : w9.cell? ⟨g, 0, none⟩ = some (.int .i64 nd) := (blk_cell BW7.out 0).trans rfl
  have zW8_1 : w9.cell? ⟨g, 1, none⟩ = some (.int .i64 lf) := (blk_cell BW7.out 1).trans rfl
  have zW8_2 : w9.cell? ⟨g, 2, none⟩ = some (.int .i64 tk) := (blk_cell BW7.out 2).trans rfl
  have zW8_3 : w9.cell? ⟨g, 3, none⟩ = some (.slice A seen.length c) := (blk_cell BW7.out 3).trans rfl
  have zW8_4 : w9.cell? ⟨g, 4, none⟩ = some (.int .i64 ag) := (blk_cell BW7.out 4).trans rfl
  have zb8_0 : w9.cell? ⟨gb1, 0, none⟩ = some (.int .i64 0) := (blk_cell Bb7.out 0).trans rfl
  have zb8_1 : w9.cell? ⟨gb1, 1, none⟩ = some (.int .i64 0) := (blk_cell Bb7.out 1).trans rfl
  have zb8_2 : w9.cell? ⟨gb1, 2, none⟩ = some (.int .i64 0) := (blk_cell Bb7.out 2).trans rfl
  have zb8_3 : w9.cell? ⟨gb1, 3, none⟩ = some (.int .i64 0) := (blk_cell Bb7.out 3).trans rfl
  go_wp2_with fail
  refine bodyPost_ret (results_ct rfl _ _ gb1 24 #[.int .i64 l.1, .int .i64 l.2.1, .int .i64 l.2.2.1, .int .i64 l.2.2.2] (0, 0) _ rfl (by refine blk_put (cs := #[.int .i64 l.1, .int .i64 l.2.1, .int .i64 l.2.2.1, .int .i64 0]) ?_ 3 _ rfl; refine blk_put (cs := #[.int .i64 l.1, .int .i64 l.2.1, .int .i64 0, .int .i64 0]) ?_ 2 _ rfl; refine blk_put (cs := #[.int .i64 l.1, .int .i64 0, .int .i64 0, .int .i64 0]) ?_ 1 _ rfl; refine blk_put (cs := #[.int .i64 0, .int .i64 0, .int .i64 0, .int .i64 0]) ?_ 0 _ rfl; exact Bb7.out) Try.underlying24 rfl (by kernel_rfl)) rfl ?_
  rw [HLL.out]
  exact ⟨rfl, by repeat (first | exact HB7.out | refine below_set ?_ GSb1.out)⟩
set_option maxHeartbeats 4000000 in
set_option maxRecDepth 100000 in
theorem rleads_c (W : World) (g : Nat) (nd lf tk : Int) (seen : List (List Int)) (ag : Int) (v : List Int) (hv : lastOf seen = v) (h : RWAt W g nd lf tk seen ag) :
    Calls Try.prog 33 #[.pointer (some ⟨g, 0, none⟩)] W fun e w' => e = .returned (.tuple #[.int .i64 (leadsN nd lf v), .bool (leadsB nd lf v)]) ∧ Below W.heap.size W w' := by
  have hu71 := Try.underlying71
  have hu78 := Try.underlying78
  have hu24 := Try.underlying24
  have HR := Aside0.mk h
  obtain ⟨A, c, hB0, hR0, hok⟩ := h
  have BW0 := Aside0.mk hB0
  have HV := Aside0.mk hv
  clear hB0 hR0 hok hv
  obtain ⟨l, hl⟩ : ∃ l, leaseOf v = l := ⟨_, rfl⟩
  obtain ⟨q, hq⟩ : ∃ q, okL v = q := ⟨_, rfl⟩
  obtain ⟨e1, he1⟩ : ∃ b, (l.2.1 == nd) = b := ⟨_, rfl⟩
  obtain ⟨e2, he2⟩ : ∃ b, (l.2.2.1 == lf) = b := ⟨_, rfl⟩
  have HLB := Aside0.mk (show leadsB nd lf v = (q && (e1 && e2)) by unfold leadsB; rw [hl, hq, ← he1, ← he2, BEq.comm (a := nd), BEq.comm (a := lf)])
  have HN := Aside0.mk (show leadsN nd lf v = if (q && (e1 && e2)) = true then l.1 else 0 by unfold leadsN; rw [HLB.out, hl])
  have HL := Aside0.mk hl
  have HQ := Aside0.mk hq
  clear hl hq
  go_enter Try.func33, Try.ntmps33
  go_wp2_with fail
  refine (rlease_c W g nd lf tk seen ag v HV.out HR.out).mono ?_
  rw [HL.out, HQ.out]
  rintro e w2 ⟨rfl, hb2⟩
  have HB1 := Aside0.mk hb2
  have BW1 : Aside0 (w2.heap[g]? = some (.cells #[.int .i64 nd, .int .i64 lf, .int .i64 tk, .slice A seen.length c, .int .i64 ag] 78 (0, 0))) := ⟨(hb2.block _ (blk_lt BW0.out)).trans BW0.out⟩
  have CRW1 := Aside0.mk (RWAt.below HR.out hb2)
  clear hb2
  have zW2_0 : w2.cell? ⟨g, 0, none⟩ = some (.int .i64 nd) := (blk_cell BW1.out 0).trans rfl
  have zW2_1 : w2.cell? ⟨g, 1, none⟩ = some (.int .i64 lf) := (blk_cell BW1.out 1).trans rfl
  have zW2_2 : w2.cell? ⟨g, 2, none⟩ = some (.int .i64 tk) := (blk_cell BW1.out 2).trans rfl
  have zW2_3 : w2.cell? ⟨g, 3, none⟩ = some (.slice A seen.length c) := (blk_cell BW1.out 3).trans rfl
  have zW2_4 : w2.cell? ⟨g, 4, none⟩ = some (.int .i64 ag) := (blk_cell BW1.out 4).trans rfl
  have zaW3_0 : ∀ o, (w2.alloc o).cell? ⟨g, 0, none⟩ = some (.int .i64 nd) := fun o => (blk_cell (blk_alloc BW1.out o) 0).trans rfl
  have zaW3_1 : ∀ o, (w2.alloc o).cell? ⟨g, 1, none⟩ = some (.int .i64 lf) := fun o => (blk_cell (blk_alloc BW1.out o) 1).trans rfl
  have zaW3_2 : ∀ o, (w2.alloc o).cell? ⟨g, 2, none⟩ = some (.int .i64 tk) := fun o => (blk_cell (blk_alloc BW1.out o) 2).trans rfl
  have zaW3_3 : ∀ o, (w2.alloc o).cell? ⟨g, 3, none⟩ = some (.slice A seen.length c) := fun o => (blk_cell (blk_alloc BW1.out o) 3).trans rfl
  have zaW3_4 : ∀ o, (w2.alloc o).cell? ⟨g, 4, none⟩ = some (.int .i64 ag) := fun o => (blk_cell (blk_alloc BW1.out o) 4).trans rfl
  go_wp2_with fail
  obtain ⟨W4, hw4⟩ : ∃ x : World, x = w2.alloc (.cells #[.int .i64 l.1, .int .i64 l.2.1, .int .i64 l.2.2.1, .int .i64 l.2.2.2] 24) := ⟨_, rfl⟩
  have hbs4 : Below w2.heap.size w2 W4 := by rw [hw4]; repeat (first | exact Below.refl _ _ | refine below_alloc ?_ _ | refine below_drew ?_)
  obtain ⟨gl4, hgl4⟩ : ∃ x, x = w2.heap.size := ⟨_, rfl⟩
  have GSl4 : Aside0 (W.heap.size ≤ gl4) := ⟨by rw [hgl4]; have := HB1.out.size; omega⟩
  have Bl4 : Aside0 (W4.heap[gl4]? = some (.cells #[.int .i64 l.1, .int .i64 l.2.1, .int .i64 l.2.2.1, .int .i64 l.2.2.2] 24 (0, 0))) := ⟨by rw [hw4, hgl4]; exact blk_new _ _⟩
  rw [← hw4]
  rw [← hgl4]
  clear hw4 hgl4
  clear zW2_0 zW2_1 zW2_2 zW2_3 zW2_4 zaW3_0 zaW3_1 zaW3_2 zaW3_3 zaW3_4
  have HB5 := Aside0.mk (below_step HB1.out hbs4)
  have BW5 : Aside0 (W4.heap[g]? = some (.cells #[.int .i64 nd, .int .i64 lf, .int .i64 tk, .slice A seen.length c, .int .i64 ag] 78 (0, 0))) := ⟨(hbs4.block _ (blk_lt BW1.out)).trans BW1.out⟩
  have CRW5 := Aside0.mk (RWAt.below CRW1.out hbs4)
  clear hbs4
  have zW6_0 : W4.cell? ⟨g, 0, none⟩ = some (.int .i64 nd) := (blk_cell BW5.out 0).trans rfl
  have zW6_1 : W4.cell? ⟨g, 1, none⟩ = some (.int .i64 lf) := (blk_cell BW5.out 1).trans rfl
  have zW6_2 : W4.cell? ⟨g, 2, none⟩ = some (.int .i64 tk) := (blk_cell BW5.out 2).trans rfl
  have zW6_3 : W4.cell? ⟨g, 3, none⟩ = some (.slice A seen.length c) := (blk_cell BW5.out 3).trans rfl
  have zW6_4 : W4.cell? ⟨g, 4, none⟩ = some (.int .i64 ag) := (blk_cell BW5.out 4).trans rfl
  have zl6_0 : W4.cell? ⟨gl4, 0, none⟩ = some (.int .i64 l.1) := (blk_cell Bl4.out 0).trans rfl
  have zl6_1 : W4.cell? ⟨gl4, 1, none⟩ = some (.int .i64 l.2.1) := (blk_cell Bl4.out 1).trans rfl
  have zl6_2 : W4.cell? ⟨gl4, 2, none⟩ = some (.int .i64 l.2.2.1) := (blk_cell Bl4.out 2).trans rfl
  have zl6_3 : W4.cell? ⟨gl4, 3, none⟩ = some (.int .i64 l.2.2.2) := (blk_cell Bl4.out 3).trans rfl
  cases q
  · skip
    refine start_ (n := 19) (S := fun w' => w'.cell? ⟨g, 0, none⟩ = some (.int .i64 nd) ∧ w'.cell? ⟨g, 1, none⟩ = some (.int .i64 lf) ∧ w'.cell? ⟨g, 2, none⟩ = some (.int .i64 tk) ∧ w'.cell? ⟨g, 3, none⟩ = some (.slice A seen.length c) ∧ w'.cell? ⟨g, 4, none⟩ = some (.int .i64 ag) ∧ w'.cell? ⟨gl4, 0, none⟩ = some (.int .i64 l.1) ∧ w'.cell? ⟨gl4, 1, none⟩ = some (.int .i64 l.2.1) ∧ w'.cell? ⟨gl4, 2, none⟩ = some (.int .i64 l.2.2.1) ∧ w'.cell? ⟨gl4, 3, none⟩ = some (.int .i64 l.2.2.2)) (ds := []) #[false, false, false, false, false, false, false, false, false, false, false, false, false, false, false, false, false, false, false] (by kernel_rfl) rfl rfl ⟨zW6_0, zW6_1, zW6_2, zW6_3, zW6_4, zl6_0, zl6_1, zl6_2, zl6_3⟩ (fun hHeld => ?_)
    refine pure_ (i := 0) (N := some 11) (v := ?_) (a' := ?_) #[true, false, false, false, false, false, false, false, false, false, false, false, false, false, false, false, false, false, false] rfl rfl (by kernel_rfl) (fun _ _ _ h => h) (Or.inl ⟨by rfl, ?_⟩) ?_ ?_
    rotate_left
    · intro w'
      go_simp
      with_reducible rfl
    rotate_left
    · simp only [Act.put, List.setIfInBounds_toArray, List.set_cons_zero, List.set_cons_succ, i64_w, i32_w]
      rfl
    refine pure_ (i := 1) (N := some 12) (v := ?_) (a' := ?_) #[true, true, false, false, false, false, false, false, false, false, false, false, false, false, false, false, false, false, false] rfl rfl (by kernel_rfl) (fun _ _ _ h => h) (Or.inl ⟨by rfl, ?_⟩) ?_ ?_
    rotate_left
    · intro w'
      go_simp
      with_reducible rfl
    rotate_left
    · simp only [Act.put, List.setIfInBounds_toArray, List.set_cons_zero, List.set_cons_succ, i64_w, i32_w]
      rfl
    refine pure_ (i := 2) (N := some 13) (v := undef) (a' := ?_) #[true, true, true, false, false, false, false, false, false, false, false, false, false, false, false, false, false, false, false] rfl rfl (by kernel_rfl) (fun _ _ _ h => h) (Or.inr ⟨by rfl, rfl⟩) ?_ ?_
    rotate_left
    · simp only [Act.put, List.setIfInBounds_toArray, List.set_cons_zero, List.set_cons_succ, i64_w, i32_w]
      rfl
    refine pure_ (i := 3) (N := some 14) (v := undef) (a' := ?_) #[true, true, true, true, false, false, false, false, false, false, false, false, false, false, false, false, false, false, false] rfl rfl (by kernel_rfl) (fun _ _ _ h => h) (Or.inr ⟨by rfl, rfl⟩) ?_ ?_
    rotate_left
    · simp only [Act.put, List.setIfInBounds_toArray, List.set_cons_zero, List.set_cons_succ, i64_w, i32_w]
      rfl
    refine pure_ (i := 4) (N := some 15) (v := undef) (a' := ?_) #[true, true, true, true, true, false, false, false, false, false, false, false, false, false, false, false, false, false, false] rfl rfl (by kernel_rfl) (fun _ _ _ h => h) (Or.inr ⟨by rfl, rfl⟩) ?_ ?_
    rotate_left
    · simp only [Act.put, List.setIfInBounds_toArray, List.set_cons_zero, List.set_cons_succ, i64_w, i32_w]
      rfl
    refine pure_ (i := 5) (N := some 16) (v := undef) (a' := ?_) #[true, true, true, true, true, true, false, false, false, false, false, false, false, false, false, false, false, false, false] rfl rfl (by kernel_rfl) (fun _ _ _ h => h) (Or.inr ⟨by rfl, rfl⟩) ?_ ?_
    rotate_left
    · simp only [Act.put, List.setIfInBounds_toArray, List.set_cons_zero, List.set_cons_succ, i64_w, i32_w]
      rfl
    refine pure_ (i := 6) (N := some 17) (v := undef) (a' := ?_) #[true, true, true, true, true, true, true, false, false, false, false, false, false, false, false, false, false, false, false] rfl rfl (by kernel_rfl) (fun _ _ _ h => h) (Or.inr ⟨by rfl, rfl⟩) ?_ ?_
    rotate_left
    · simp only [Act.put, List.setIfInBounds_toArray, List.set_cons_zero, List.set_cons_succ, i64_w, i32_w]
      rfl
    refine pure_ (i := 7) (N := some 18) (v := undef) (a' := ?_) #[true, true, true, true, true, true, true, true, false, false, false, false, false, false, false, false, false, false, false] rfl rfl (by kernel_rfl) (fun _ _ _ h => h) (Or.inr ⟨by rfl, rfl⟩) ?_ ?_
    rotate_left
    · simp only [Act.put, List.setIfInBounds_toArray, List.set_cons_zero, List.set_cons_succ, i64_w, i32_w]
      rfl
    refine pure_ (i := 8) (N := some 19) (v := undef) (a' := ?_) #[true, true, true, true, true, true, true, true, true, false, false, false, false, false, false, false, false, false, false] rfl rfl (by kernel_rfl) (fun _ _ _ h => h) (Or.inr ⟨by rfl, rfl⟩) ?_ ?_
    rotate_left
    · simp only [Act.put, List.setIfInBounds_toArray, List.set_cons_zero, List.set_cons_succ, i64_w, i32_w]
      rfl
    refine pure_ (i := 9) (N := some 20) (v := ?_) (a' := ?_) #[true, true, true, true, true, true, true, true, true, true, false, false, false, false, false, false, false, false, false] rfl rfl (by kernel_rfl) (fun _ _ _ h => h) (Or.inl ⟨by rfl, ?_⟩) ?_ ?_
    rotate_left
    · intro w'
      go_simp
      with_reducible rfl
    rotate_left
    · simp only [Act.put, List.setIfInBounds_toArray, List.set_cons_zero, List.set_cons_succ, i64_w, i32_w]
      rfl
    refine pure_ (i := 10) (N := some 21) (v := ?_) (a' := ?_) #[true, true, true, true, true, true, true, true, true, true, true, false, false, false, false, false, false, false, false] rfl rfl (by kernel_rfl) (fun _ _ _ h => h) (Or.inl ⟨by rfl, ?_⟩) ?_ ?_
    rotate_left
    · intro w'
      go_simp
      with_reducible rfl
    rotate_left
    · simp only [Act.put, List.setIfInBounds_toArray, List.set_cons_zero, List.set_cons_succ, i64_w, i32_w]
      rfl
    refine pure_ (i := 11) (N := some 22) (v := undef) (a' := ?_) #[true, true, true, true, true, true, true, true, true, true, true, true, false, false, false, false, false, false, false] rfl rfl (by kernel_rfl) (fun _ _ _ h => h) (Or.inr ⟨by rfl, rfl⟩) ?_ ?_
    rotate_left
    · simp only [Act.put, List.setIfInBounds_toArray, List.set_cons_zero, List.set_cons_succ, i64_w, i32_w]
      rfl
    refine pure_ (i := 12) (N := some 23) (v := undef) (a' := ?_) #[true, true, true, true, true, true, true, true, true, true, true, true, true, false, false, false, false, false, false] rfl rfl (by kernel_rfl) (fun _ _ _ h => h) (Or.inr ⟨by rfl, rfl⟩) ?_ ?_
    rotate_left
    · simp only [Act.put, List.setIfInBounds_toArray, List.set_cons_zero, List.set_cons_succ, i64_w, i32_w]
      rfl
    refine pure_ (i := 13) (N := some 24) (v := undef) (a' := ?_) #[true, true, true, true, true, true, true, true, true, true, true, true, true, true, false, false, false, false, false] rfl rfl (by kernel_rfl) (fun _ _ _ h => h) (Or.inr ⟨by rfl, rfl⟩) ?_ ?_
    rotate_left
    · simp only [Act.put, List.setIfInBounds_toArray, List.set_cons_zero, List.set_cons_succ, i64_w, i32_w]
      rfl
    refine pure_ (i := 14) (N := some 25) (v := undef) (a' := ?_) #[true, true, true, true, true, true, true, true, true, true, true, true, true, true, true, false, false, false, false] rfl rfl (by kernel_rfl) (fun _ _ _ h => h) (Or.inr ⟨by rfl, rfl⟩) ?_ ?_
    rotate_left
    · simp only [Act.put, List.setIfInBounds_toArray, List.set_cons_zero, List.set_cons_succ, i64_w, i32_w]
      rfl
    refine pure_ (i := 15) (N := some 26) (v := undef) (a' := ?_) #[true, true, true, true, true, true, true, true, true, true, true, true, true, true, true, true, false, false, false] rfl rfl (by kernel_rfl) (fun _ _ _ h => h) (Or.inr ⟨by rfl, rfl⟩) ?_ ?_
    rotate_left
    · simp only [Act.put, List.setIfInBounds_toArray, List.set_cons_zero, List.set_cons_succ, i64_w, i32_w]
      rfl
    refine pure_ (i := 16) (N := some 27) (v := undef) (a' := ?_) #[true, true, true, true, true, true, true, true, true, true, true, true, true, true, true, true, true, false, false] rfl rfl (by kernel_rfl) (fun _ _ _ h => h) (Or.inr ⟨by rfl, rfl⟩) ?_ ?_
    rotate_left
    · simp only [Act.put, List.setIfInBounds_toArray, List.set_cons_zero, List.set_cons_succ, i64_w, i32_w]
      rfl
    refine pure_ (i := 17) (N := some 28) (v := undef) (a' := ?_) #[true, true, true, true, true, true, true, true, true, true, true, true, true, true, true, true, true, true, false] rfl rfl (by kernel_rfl) (fun _ _ _ h => h) (Or.inr ⟨by rfl, rfl⟩) ?_ ?_
    rotate_left
    · simp only [Act.put, List.setIfInBounds_toArray, List.set_cons_zero, List.set_cons_succ, i64_w, i32_w]
      rfl
    refine pure_ (i := 18) (N := some 29) (v := ?_) (a' := ?_) #[true, true, true, true, true, true, true, true, true, true, true, true, true, true, true, true, true, true, true] rfl rfl (by kernel_rfl) (fun _ _ _ h => h) (Or.inl ⟨by rfl, ?_⟩) ?_ ?_
    rotate_left
    · intro w'
      go_simp
      with_reducible rfl
    rotate_left
    · simp only [Act.put, List.setIfInBounds_toArray, List.set_cons_zero, List.set_cons_succ, i64_w, i32_w]
      rfl
    refine done_ (by kernel_rfl) ?_
    obtain ⟨W7, hw7⟩ : ∃ x : World, x = W4.drew := ⟨_, rfl⟩
    have hbd7 : Below W4.heap.size W4 W7 := by rw [hw7]; exact below_drew (Below.refl _ _)
    rw [← hw7]
    clear hw7
    clear zW6_0 zW6_1 zW6_2 zW6_3 zW6_4 zl6_0 zl6_1 zl6_2 zl6_3
    have HB8 := Aside0.mk (below_step HB5.out hbd7)
    have BW8 : Aside0 (W7.heap[g]? = some (.cells #[.int .i64 nd, .int .i64 lf, .int .i64 tk, .slice A seen.length c, .int .i64 ag] 78 (0, 0))) := ⟨(hbd7.block _ (blk_lt BW5.out)).trans BW5.out⟩
    have Bl8 : Aside0 (W7.heap[gl4]? = some (.cells #[.int .i64 l.1, .int .i64 l.2.1, .int .i64 l.2.2.1, .int .i64 l.2.2.2] 24 (0, 0))) := ⟨(hbd7.block _ (blk_lt Bl4.out)).trans Bl4.out⟩
    have CRW8 := Aside0.mk (RWAt.below CRW5.out hbd7)
    clear hbd7
    have zW9_0 : W7.cell? ⟨g, 0, none⟩ = some (.int .i64 nd) := (blk_cell BW8.out 0).trans rfl
    have zW9_1 : W7.cell? ⟨g, 1, none⟩ = some (.int .i64 lf) := (blk_cell BW8.out 1).trans rfl
    have zW9_2 : W7.cell? ⟨g, 2, none⟩ = some (.int .i64 tk) := (blk_cell BW8.out 2).trans rfl
    have zW9_3 : W7.cell? ⟨g, 3, none⟩ = some (.slice A seen.length c) := (blk_cell BW8.out 3).trans rfl
    have zW9_4 : W7.cell? ⟨g, 4, none⟩ = some (.int .i64 ag) := (blk_cell BW8.out 4).trans rfl
    have zl9_0 : W7.cell? ⟨gl4, 0, none⟩ = some (.int .i64 l.1) := (blk_cell Bl8.out 0).trans rfl
    have zl9_1 : W7.cell? ⟨gl4, 1, none⟩ = some (.int .i64 l.2.1) := (blk_cell Bl8.out 1).trans rfl
    have zl9_2 : W7.cell? ⟨gl4, 2, none⟩ = some (.int .i64 l.2.2.1) := (blk_cell Bl8.out 2).trans rfl
    have zl9_3 : W7.cell? ⟨gl4, 3, none⟩ = some (.int .i64 l.2.2.2) := (blk_cell Bl8.out 3).trans rfl
    go_wp2_with fail
    go_ret2
    rw [HN.out, HLB.out]
    exact ⟨rfl, HB8.out⟩
  · cases e1
    · skip
      refine start_ (n := 19) (S := fun w' => w'.cell? ⟨g, 0, none⟩ = some (.int .i64 nd) ∧ w'.cell? ⟨g, 1, none⟩ = some (.int .i64 lf) ∧ w'.cell? ⟨g, 2, none⟩ = some (.int .i64 tk) ∧ w'.cell? ⟨g, 3, none⟩ = some (.slice A seen.length c) ∧ w'.cell? ⟨g, 4, none⟩ = some (.int .i64 ag) ∧ w'.cell? ⟨gl4, 0, none⟩ = some (.int .i64 l.1) ∧ w'.cell? ⟨gl4, 1, none⟩ = some (.int .i64 l.2.1) ∧ w'.cell? ⟨gl4, 2, none⟩ = some (.int .i64 l.2.2.1) ∧ w'.cell? ⟨gl4, 3, none⟩ = some (.int .i64 l.2.2.2)) (ds := []) #[false, false, false, false, false, false, false, false, false, false, false, false, false, false, false, false, false, false, false] (by kernel_rfl) rfl rfl ⟨zW6_0, zW6_1, zW6_2, zW6_3, zW6_4, zl6_0, zl6_1, zl6_2, zl6_3⟩ (fun hHeld => ?_)
      refine pure_ (i := 0) (N := some 11) (v := ?_) (a' := ?_) #[true, false, false, false, false, false, false, false, false, false, false, false, false, false, false, false, false, false, false] rfl rfl (by kernel_rfl) (fun _ _ _ h => h) (Or.inl ⟨by rfl, ?_⟩) ?_ ?_
      rotate_left
      · intro w'
        go_simp
        with_reducible rfl
      rotate_left
      · simp only [Act.put, List.setIfInBounds_toArray, List.set_cons_zero, List.set_cons_succ, i64_w, i32_w]
        rfl
      refine pure_ (i := 1) (N := some 12) (v := ?_) (a' := ?_) #[true, true, false, false, false, false, false, false, false, false, false, false, false, false, false, false, false, false, false] rfl rfl (by kernel_rfl) (fun _ _ _ h => h) (Or.inl ⟨by rfl, ?_⟩) ?_ ?_
      rotate_left
      · intro w'
        go_simp
        with_reducible rfl
      rotate_left
      · simp only [Act.put, List.setIfInBounds_toArray, List.set_cons_zero, List.set_cons_succ, i64_w, i32_w]
        rfl
      refine pure_ (i := 2) (N := some 13) (v := ?_) (a' := ?_) #[true, true, true, false, false, false, false, false, false, false, false, false, false, false, false, false, false, false, false] rfl rfl (by kernel_rfl) (fun _ _ _ h => h) (Or.inl ⟨by rfl, ?_⟩) ?_ ?_
      rotate_left
      · intro w'
        go_simp
        with_reducible rfl
      rotate_left
      · simp only [Act.put, List.setIfInBounds_toArray, List.set_cons_zero, List.set_cons_succ, i64_w, i32_w]
        rfl
      refine pure_ (i := 4) (N := some 15) (v := ?_) (a' := ?_) #[true, true, true, false, true, false, false, false, false, false, false, false, false, false, false, false, false, false, false] rfl rfl (by kernel_rfl) (fun _ _ _ h => h) (Or.inl ⟨by rfl, ?_⟩) ?_ ?_
      rotate_left
      · intro w'
        go_simp
        with_reducible rfl
      rotate_left
      · simp only [Act.put, List.setIfInBounds_toArray, List.set_cons_zero, List.set_cons_succ, i64_w, i32_w]
        rfl
      refine pure_ (i := 5) (N := some 16) (v := ?_) (a' := ?_) #[true, true, true, false, true, true, false, false, false, false, false, false, false, false, false, false, false, false, false] rfl rfl (by kernel_rfl) (fun _ _ _ h => h) (Or.inl ⟨by rfl, ?_⟩) ?_ ?_
      rotate_left
      · intro w'
        go_simp
        with_reducible rfl
      rotate_left
      · simp only [Act.put, List.setIfInBounds_toArray, List.set_cons_zero, List.set_cons_succ, i64_w, i32_w]
        rfl
      refine pure_ (i := 6) (N := some 17) (v := ?_) (a' := ?_) #[true, true, true, false, true, true, true, false, false, false, false, false, false, false, false, false, false, false, false] rfl rfl (by kernel_rfl) (fun _ _ _ h => h) (Or.inl ⟨by rfl, ?_⟩) ?_ ?_
      rotate_left
      · intro w'
        go_simp
        with_reducible rfl
      rotate_left
      · simp only [Act.put, List.setIfInBounds_toArray, List.set_cons_zero, List.set_cons_succ, i64_w, i32_w]
        rfl
      refine take_ (i := 3) (N := some 14) (v := ?_) (a' := ?_) #[true, true, true, true, true, true, true, false, false, false, false, false, false, false, false, false, false, false, false] rfl rfl (by kernel_rfl) (fun _ _ _ h => h) (Or.inl ⟨by rfl, ?_⟩) hHeld ?_ ?_
      rotate_left
      · rintro w' ⟨s0, s1, s2, s3, s4, s5, s6, s7, s8⟩
        go_simp
        with_reducible rfl
      rotate_left
      · simp only [Act.put, List.setIfInBounds_toArray, List.set_cons_zero, List.set_cons_succ, i64_w, i32_w]
        rfl
      refine take_ (i := 7) (N := some 18) (v := ?_) (a' := ?_) #[true, true, true, true, true, true, true, true, false, false, false, false, false, false, false, false, false, false, false] rfl rfl (by kernel_rfl) (fun _ _ _ h => h) (Or.inl ⟨by rfl, ?_⟩) hHeld ?_ ?_
      rotate_left
      · rintro w' ⟨s0, s1, s2, s3, s4, s5, s6, s7, s8⟩
        go_simp
        with_reducible rfl
      rotate_left
      · simp only [Act.put, List.setIfInBounds_toArray, List.set_cons_zero, List.set_cons_succ, i64_w, i32_w]
        rfl
      refine pure_ (i := 8) (N := some 19) (v := ?_) (a' := ?_) #[true, true, true, true, true, true, true, true, true, false, false, false, false, false, false, false, false, false, false] rfl rfl (by kernel_rfl) (fun _ _ _ h => h) (Or.inl ⟨by rfl, ?_⟩) ?_ ?_
      rotate_left
      · intro w'
        go_simp
        with_reducible rfl
      rotate_left
      · simp only [Act.put, List.setIfInBounds_toArray, List.set_cons_zero, List.set_cons_succ, i64_w, i32_w]
        rfl
      refine pure_ (i := 9) (N := some 20) (v := ?_) (a' := ?_) #[true, true, true, true, true, true, true, true, true, true, false, false, false, false, false, false, false, false, false] rfl rfl (by kernel_rfl) (fun _ _ _ h => h) (Or.inl ⟨by rfl, ?_⟩) ?_ ?_
      rotate_left
      · intro w'
        go_simp
        with_reducible rfl
      rotate_left
      · simp only [Act.put, List.setIfInBounds_toArray, List.set_cons_zero, List.set_cons_succ, i64_w, i32_w]
        rfl
      refine pure_ (i := 10) (N := some 21) (v := ?_) (a' := ?_) #[true, true, true, true, true, true, true, true, true, true, true, false, false, false, false, false, false, false, false] rfl rfl (by kernel_rfl) (fun _ _ _ h => h) (Or.inl ⟨by rfl, ?_⟩) ?_ ?_
      rotate_left
      · intro w'
        go_simp
        with_reducible rfl
      rotate_left
      · simp only [Act.put, List.setIfInBounds_toArray, List.set_cons_zero, List.set_cons_succ, i64_w, i32_w]
        rfl
      refine pure_ (i := 11) (N := some 22) (v := undef) (a' := ?_) #[true, true, true, true, true, true, true, true, true, true, true, true, false, false, false, false, false, false, false] rfl rfl (by kernel_rfl) (fun _ _ _ h => h) (Or.inr ⟨by rfl, rfl⟩) ?_ ?_
      rotate_left
      · simp only [Act.put, List.setIfInBounds_toArray, List.set_cons_zero, List.set_cons_succ, i64_w, i32_w]
        rfl
      refine pure_ (i := 12) (N := some 23) (v := undef) (a' := ?_) #[true, true, true, true, true, true, true, true, true, true, true, true, true, false, false, false, false, false, false] rfl rfl (by kernel_rfl) (fun _ _ _ h => h) (Or.inr ⟨by rfl, rfl⟩) ?_ ?_
      rotate_left
      · simp only [Act.put, List.setIfInBounds_toArray, List.set_cons_zero, List.set_cons_succ, i64_w, i32_w]
        rfl
      refine pure_ (i := 13) (N := some 24) (v := undef) (a' := ?_) #[true, true, true, true, true, true, true, true, true, true, true, true, true, true, false, false, false, false, false] rfl rfl (by kernel_rfl) (fun _ _ _ h => h) (Or.inr ⟨by rfl, rfl⟩) ?_ ?_
      rotate_left
      · simp only [Act.put, List.setIfInBounds_toArray, List.set_cons_zero, List.set_cons_succ, i64_w, i32_w]
        rfl
      refine pure_ (i := 14) (N := some 25) (v := undef) (a' := ?_) #[true, true, true, true, true, true, true, true, true, true, true, true, true, true, true, false, false, false, false] rfl rfl (by kernel_rfl) (fun _ _ _ h => h) (Or.inr ⟨by rfl, rfl⟩) ?_ ?_
      rotate_left
      · simp only [Act.put, List.setIfInBounds_toArray, List.set_cons_zero, List.set_cons_succ, i64_w, i32_w]
        rfl
      refine pure_ (i := 15) (N := some 26) (v := undef) (a' := ?_) #[true, true, true, true, true, true, true, true, true, true, true, true, true, true, true, true, false, false, false] rfl rfl (by kernel_rfl) (fun _ _ _ h => h) (Or.inr ⟨by rfl, rfl⟩) ?_ ?_
      rotate_left
      · simp only [Act.put, List.setIfInBounds_toArray, List.set_cons_zero, List.set_cons_succ, i64_w, i32_w]
        rfl
      refine pure_ (i := 16) (N := some 27) (v := undef) (a' := ?_) #[true, true, true, true, true, true, true, true, true, true, true, true, true, true, true, true, true, false, false] rfl rfl (by kernel_rfl) (fun _ _ _ h => h) (Or.inr ⟨by rfl, rfl⟩) ?_ ?_
      rotate_left
      · simp only [Act.put, List.setIfInBounds_toArray, List.set_cons_zero, List.set_cons_succ, i64_w, i32_w]
        rfl
      refine pure_ (i := 17) (N := some 28) (v := undef) (a' := ?_) #[true, true, true, true, true, true, true, true, true, true, true, true, true, true, true, true, true, true, false] rfl rfl (by kernel_rfl) (fun _ _ _ h => h) (Or.inr ⟨by rfl, rfl⟩) ?_ ?_
      rotate_left
      · simp only [Act.put, List.setIfInBounds_toArray, List.set_cons_zero, List.set_cons_succ, i64_w, i32_w]
        rfl
      refine pure_ (i := 18) (N := some 29) (v := ?_) (a' := ?_) #[true, true, true, true, true, true, true, true, true, true, true, true, true, true, true, true, true, true, true] rfl rfl (by kernel_rfl) (fun _ _ _ h => h) (Or.inl ⟨by rfl, ?_⟩) ?_ ?_
      rotate_left
      · intro w'
        go_simp
        with_reducible rfl
      rotate_left
      · simp only [Act.put, List.setIfInBounds_toArray, List.set_cons_zero, List.set_cons_succ, i64_w, i32_w]
        rfl
      refine done_ (by kernel_rfl) ?_
      obtain ⟨W7, hw7⟩ : ∃ x : World, x = W4.drew := ⟨_, rfl⟩
      have hbd7 : Below W4.heap.size W4 W7 := by rw [hw7]; exact below_drew (Below.refl _ _)
      rw [← hw7]
      clear hw7
      clear zW6_0 zW6_1 zW6_2 zW6_3 zW6_4 zl6_0 zl6_1 zl6_2 zl6_3
      have HB8 := Aside0.mk (below_step HB5.out hbd7)
      have BW8 : Aside0 (W7.heap[g]? = some (.cells #[.int .i64 nd, .int .i64 lf, .int .i64 tk, .slice A seen.length c, .int .i64 ag] 78 (0, 0))) := ⟨(hbd7.block _ (blk_lt BW5.out)).trans BW5.out⟩
      have Bl8 : Aside0 (W7.heap[gl4]? = some (.cells #[.int .i64 l.1, .int .i64 l.2.1, .int .i64 l.2.2.1, .int .i64 l.2.2.2] 24 (0, 0))) := ⟨(hbd7.block _ (blk_lt Bl4.out)).trans Bl4.out⟩
      have CRW8 := Aside0.mk (RWAt.below CRW5.out hbd7)
      clear hbd7
      have zW9_0 : W7.cell? ⟨g, 0, none⟩ = some (.int .i64 nd) := (blk_cell BW8.out 0).trans rfl
      have zW9_1 : W7.cell? ⟨g, 1, none⟩ = some (.int .i64 lf) := (blk_cell BW8.out 1).trans rfl
      have zW9_2 : W7.cell? ⟨g, 2, none⟩ = some (.int .i64 tk) := (blk_cell BW8.out 2).trans rfl
      have zW9_3 : W7.cell? ⟨g, 3, none⟩ = some (.slice A seen.length c) := (blk_cell BW8.out 3).trans rfl
      have zW9_4 : W7.cell? ⟨g, 4, none⟩ = some (.int .i64 ag) := (blk_cell BW8.out 4).trans rfl
      have zl9_0 : W7.cell? ⟨gl4, 0, none⟩ = some (.int .i64 l.1) := (blk_cell Bl8.out 0).trans rfl
      have zl9_1 : W7.cell? ⟨gl4, 1, none⟩ = some (.int .i64 l.2.1) := (blk_cell Bl8.out 1).trans rfl
      have zl9_2 : W7.cell? ⟨gl4, 2, none⟩ = some (.int .i64 l.2.2.1) := (blk_cell Bl8.out 2).trans rfl
      have zl9_3 : W7.cell? ⟨gl4, 3, none⟩ = some (.int .i64 l.2.2.2) := (blk_cell Bl8.out 3).trans rfl
      go_wp2_with fail
      go_ret2
      rw [HN.out, HLB.out]
      exact ⟨rfl, HB8.out⟩
    · cases e2
      · skip
        refine start_ (n := 19) (S := fun w' => w'.cell? ⟨g, 0, none⟩ = some (.int .i64 nd) ∧ w'.cell? ⟨g, 1, none⟩ = some (.int .i64 lf) ∧ w'.cell? ⟨g, 2, none⟩ = some (.int .i64 tk) ∧ w'.cell? ⟨g, 3, none⟩ = some (.slice A seen.length c) ∧ w'.cell? ⟨g, 4, none⟩ = some (.int .i64 ag) ∧ w'.cell? ⟨gl4, 0, none⟩ = some (.int .i64 l.1) ∧ w'.cell? ⟨gl4, 1, none⟩ = some (.int .i64 l.2.1) ∧ w'.cell? ⟨gl4, 2, none⟩ = some (.int .i64 l.2.2.1) ∧ w'.cell? ⟨gl4, 3, none⟩ = some (.int .i64 l.2.2.2)) (ds := []) #[false, false, false, false, false, false, false, false, false, false, false, false, false, false, false, false, false, false, false] (by kernel_rfl) rfl rfl ⟨zW6_0, zW6_1, zW6_2, zW6_3, zW6_4, zl6_0, zl6_1, zl6_2, zl6_3⟩ (fun hHeld => ?_)
        refine pure_ (i := 0) (N := some 11) (v := ?_) (a' := ?_) #[true, false, false, false, false, false, false, false, false, false, false, false, false, false, false, false, false, false, false] rfl rfl (by kernel_rfl) (fun _ _ _ h => h) (Or.inl ⟨by rfl, ?_⟩) ?_ ?_
        rotate_left
        · intro w'
          go_simp
          with_reducible rfl
        rotate_left
        · simp only [Act.put, List.setIfInBounds_toArray, List.set_cons_zero, List.set_cons_succ, i64_w, i32_w]
          rfl
        refine pure_ (i := 1) (N := some 12) (v := ?_) (a' := ?_) #[true, true, false, false, false, false, false, false, false, false, false, false, false, false, false, false, false, false, false] rfl rfl (by kernel_rfl) (fun _ _ _ h => h) (Or.inl ⟨by rfl, ?_⟩) ?_ ?_
        rotate_left
        · intro w'
          go_simp
          with_reducible rfl
        rotate_left
        · simp only [Act.put, List.setIfInBounds_toArray, List.set_cons_zero, List.set_cons_succ, i64_w, i32_w]
          rfl
        refine pure_ (i := 2) (N := some 13) (v := ?_) (a' := ?_) #[true, true, true, false, false, false, false, false, false, false, false, false, false, false, false, false, false, false, false] rfl rfl (by kernel_rfl) (fun _ _ _ h => h) (Or.inl ⟨by rfl, ?_⟩) ?_ ?_
        rotate_left
        · intro w'
          go_simp
          with_reducible rfl
        rotate_left
        · simp only [Act.put, List.setIfInBounds_toArray, List.set_cons_zero, List.set_cons_succ, i64_w, i32_w]
          rfl
        refine pure_ (i := 4) (N := some 15) (v := ?_) (a' := ?_) #[true, true, true, false, true, false, false, false, false, false, false, false, false, false, false, false, false, false, false] rfl rfl (by kernel_rfl) (fun _ _ _ h => h) (Or.inl ⟨by rfl, ?_⟩) ?_ ?_
        rotate_left
        · intro w'
          go_simp
          with_reducible rfl
        rotate_left
        · simp only [Act.put, List.setIfInBounds_toArray, List.set_cons_zero, List.set_cons_succ, i64_w, i32_w]
          rfl
        refine pure_ (i := 5) (N := some 16) (v := ?_) (a' := ?_) #[true, true, true, false, true, true, false, false, false, false, false, false, false, false, false, false, false, false, false] rfl rfl (by kernel_rfl) (fun _ _ _ h => h) (Or.inl ⟨by rfl, ?_⟩) ?_ ?_
        rotate_left
        · intro w'
          go_simp
          with_reducible rfl
        rotate_left
        · simp only [Act.put, List.setIfInBounds_toArray, List.set_cons_zero, List.set_cons_succ, i64_w, i32_w]
          rfl
        refine pure_ (i := 6) (N := some 17) (v := ?_) (a' := ?_) #[true, true, true, false, true, true, true, false, false, false, false, false, false, false, false, false, false, false, false] rfl rfl (by kernel_rfl) (fun _ _ _ h => h) (Or.inl ⟨by rfl, ?_⟩) ?_ ?_
        rotate_left
        · intro w'
          go_simp
          with_reducible rfl
        rotate_left
        · simp only [Act.put, List.setIfInBounds_toArray, List.set_cons_zero, List.set_cons_succ, i64_w, i32_w]
          rfl
        refine take_ (i := 3) (N := some 14) (v := ?_) (a' := ?_) #[true, true, true, true, true, true, true, false, false, false, false, false, false, false, false, false, false, false, false] rfl rfl (by kernel_rfl) (fun _ _ _ h => h) (Or.inl ⟨by rfl, ?_⟩) hHeld ?_ ?_
        rotate_left
        · rintro w' ⟨s0, s1, s2, s3, s4, s5, s6, s7, s8⟩
          go_simp
          with_reducible rfl
        rotate_left
        · simp only [Act.put, List.setIfInBounds_toArray, List.set_cons_zero, List.set_cons_succ, i64_w, i32_w]
          rfl
        refine take_ (i := 7) (N := some 18) (v := ?_) (a' := ?_) #[true, true, true, true, true, true, true, true, false, false, false, false, false, false, false, false, false, false, false] rfl rfl (by kernel_rfl) (fun _ _ _ h => h) (Or.inl ⟨by rfl, ?_⟩) hHeld ?_ ?_
        rotate_left
        · rintro w' ⟨s0, s1, s2, s3, s4, s5, s6, s7, s8⟩
          go_simp
          with_reducible rfl
        rotate_left
        · simp only [Act.put, List.setIfInBounds_toArray, List.set_cons_zero, List.set_cons_succ, i64_w, i32_w]
          rfl
        refine pure_ (i := 8) (N := some 19) (v := ?_) (a' := ?_) #[true, true, true, true, true, true, true, true, true, false, false, false, false, false, false, false, false, false, false] rfl rfl (by kernel_rfl) (fun _ _ _ h => h) (Or.inl ⟨by rfl, ?_⟩) ?_ ?_
        rotate_left
        · intro w'
          go_simp
          with_reducible rfl
        rotate_left
        · simp only [Act.put, List.setIfInBounds_toArray, List.set_cons_zero, List.set_cons_succ, i64_w, i32_w]
          rfl
        refine pure_ (i := 9) (N := some 20) (v := ?_) (a' := ?_) #[true, true, true, true, true, true, true, true, true, true, false, false, false, false, false, false, false, false, false] rfl rfl (by kernel_rfl) (fun _ _ _ h => h) (Or.inl ⟨by rfl, ?_⟩) ?_ ?_
        rotate_left
        · intro w'
          go_simp
          with_reducible rfl
        rotate_left
        · simp only [Act.put, List.setIfInBounds_toArray, List.set_cons_zero, List.set_cons_succ, i64_w, i32_w]
          rfl
        refine pure_ (i := 10) (N := some 21) (v := ?_) (a' := ?_) #[true, true, true, true, true, true, true, true, true, true, true, false, false, false, false, false, false, false, false] rfl rfl (by kernel_rfl) (fun _ _ _ h => h) (Or.inl ⟨by rfl, ?_⟩) ?_ ?_
        rotate_left
        · intro w'
          go_simp
          with_reducible rfl
        rotate_left
        · simp only [Act.put, List.setIfInBounds_toArray, List.set_cons_zero, List.set_cons_succ, i64_w, i32_w]
          rfl
        refine pure_ (i := 11) (N := some 22) (v := ?_) (a' := ?_) #[true, true, true, true, true, true, true, true, true, true, true, true, false, false, false, false, false, false, false] rfl rfl (by kernel_rfl) (fun _ _ _ h => h) (Or.inl ⟨by rfl, ?_⟩) ?_ ?_
        rotate_left
        · intro w'
          go_simp
          with_reducible rfl
        rotate_left
        · simp only [Act.put, List.setIfInBounds_toArray, List.set_cons_zero, List.set_cons_succ, i64_w, i32_w]
          rfl
        refine pure_ (i := 13) (N := some 24) (v := ?_) (a' := ?_) #[true, true, true, true, true, true, true, true, true, true, true, true, false, true, false, false, false, false, false] rfl rfl (by kernel_rfl) (fun _ _ _ h => h) (Or.inl ⟨by rfl, ?_⟩) ?_ ?_
        rotate_left
        · intro w'
          go_simp
          with_reducible rfl
        rotate_left
        · simp only [Act.put, List.setIfInBounds_toArray, List.set_cons_zero, List.set_cons_succ, i64_w, i32_w]
          rfl
        refine pure_ (i := 14) (N := some 25) (v := ?_) (a' := ?_) #[true, true, true, true, true, true, true, true, true, true, true, true, false, true, true, false, false, false, false] rfl rfl (by kernel_rfl) (fun _ _ _ h => h) (Or.inl ⟨by rfl, ?_⟩) ?_ ?_
        rotate_left
        · intro w'
          go_simp
          with_reducible rfl
        rotate_left
        · simp only [Act.put, List.setIfInBounds_toArray, List.set_cons_zero, List.set_cons_succ, i64_w, i32_w]
          rfl
        refine pure_ (i := 15) (N := some 26) (v := ?_) (a' := ?_) #[true, true, true, true, true, true, true, true, true, true, true, true, false, true, true, true, false, false, false] rfl rfl (by kernel_rfl) (fun _ _ _ h => h) (Or.inl ⟨by rfl, ?_⟩) ?_ ?_
        rotate_left
        · intro w'
          go_simp
          with_reducible rfl
        rotate_left
        · simp only [Act.put, List.setIfInBounds_toArray, List.set_cons_zero, List.set_cons_succ, i64_w, i32_w]
          rfl
        refine take_ (i := 12) (N := some 23) (v := ?_) (a' := ?_) #[true, true, true, true, true, true, true, true, true, true, true, true, true, true, true, true, false, false, false] rfl rfl (by kernel_rfl) (fun _ _ _ h => h) (Or.inl ⟨by rfl, ?_⟩) hHeld ?_ ?_
        rotate_left
        · rintro w' ⟨s0, s1, s2, s3, s4, s5, s6, s7, s8⟩
          go_simp
          with_reducible rfl
        rotate_left
        · simp only [Act.put, List.setIfInBounds_toArray, List.set_cons_zero, List.set_cons_succ, i64_w, i32_w]
          rfl
        refine take_ (i := 16) (N := some 27) (v := ?_) (a' := ?_) #[true, true, true, true, true, true, true, true, true, true, true, true, true, true, true, true, true, false, false] rfl rfl (by kernel_rfl) (fun _ _ _ h => h) (Or.inl ⟨by rfl, ?_⟩) hHeld ?_ ?_
        rotate_left
        · rintro w' ⟨s0, s1, s2, s3, s4, s5, s6, s7, s8⟩
          go_simp
          with_reducible rfl
        rotate_left
        · simp only [Act.put, List.setIfInBounds_toArray, List.set_cons_zero, List.set_cons_succ, i64_w, i32_w]
          rfl
        refine pure_ (i := 17) (N := some 28) (v := ?_) (a' := ?_) #[true, true, true, true, true, true, true, true, true, true, true, true, true, true, true, true, true, true, false] rfl rfl (by kernel_rfl) (fun _ _ _ h => h) (Or.inl ⟨by rfl, ?_⟩) ?_ ?_
        rotate_left
        · intro w'
          go_simp
          with_reducible rfl
        rotate_left
        · simp only [Act.put, List.setIfInBounds_toArray, List.set_cons_zero, List.set_cons_succ, i64_w, i32_w]
          rfl
        refine pure_ (i := 18) (N := some 29) (v := ?_) (a' := ?_) #[true, true, true, true, true, true, true, true, true, true, true, true, true, true, true, true, true, true, true] rfl rfl (by kernel_rfl) (fun _ _ _ h => h) (Or.inl ⟨by rfl, ?_⟩) ?_ ?_
        rotate_left
        · intro w'
          go_simp
          with_reducible rfl
        rotate_left
        · simp only [Act.put, List.setIfInBounds_toArray, List.set_cons_zero, List.set_cons_succ, i64_w, i32_w]
          rfl
        refine done_ (by kernel_rfl) ?_
        obtain ⟨W7, hw7⟩ : ∃ x : World, x = W4.drew := ⟨_, rfl⟩
        have hbd7 : Below W4.heap.size W4 W7 := by rw [hw7]; exact below_drew (Below.refl _ _)
        rw [← hw7]
        clear hw7
        clear zW6_0 zW6_1 zW6_2 zW6_3 zW6_4 zl6_0 zl6_1 zl6_2 zl6_3
        have HB8 := Aside0.mk (below_step HB5.out hbd7)
        have BW8 : Aside0 (W7.heap[g]? = some (.cells #[.int .i64 nd, .int .i64 lf, .int .i64 tk, .slice A seen.length c, .int .i64 ag] 78 (0, 0))) := ⟨(hbd7.block _ (blk_lt BW5.out)).trans BW5.out⟩
        have Bl8 : Aside0 (W7.heap[gl4]? = some (.cells #[.int .i64 l.1, .int .i64 l.2.1, .int .i64 l.2.2.1, .int .i64 l.2.2.2] 24 (0, 0))) := ⟨(hbd7.block _ (blk_lt Bl4.out)).trans Bl4.out⟩
        have CRW8 := Aside0.mk (RWAt.below CRW5.out hbd7)
        clear hbd7
        have zW9_0 : W7.cell? ⟨g, 0, none⟩ = some (.int .i64 nd) := (blk_cell BW8.out 0).trans rfl
        have zW9_1 : W7.cell? ⟨g, 1, none⟩ = some (.int .i64 lf) := (blk_cell BW8.out 1).trans rfl
        have zW9_2 : W7.cell? ⟨g, 2, none⟩ = some (.int .i64 tk) := (blk_cell BW8.out 2).trans rfl
        have zW9_3 : W7.cell? ⟨g, 3, none⟩ = some (.slice A seen.length c) := (blk_cell BW8.out 3).trans rfl
        have zW9_4 : W7.cell? ⟨g, 4, none⟩ = some (.int .i64 ag) := (blk_cell BW8.out 4).trans rfl
        have zl9_0 : W7.cell? ⟨gl4, 0, none⟩ = some (.int .i64 l.1) := (blk_cell Bl8.out 0).trans rfl
        have zl9_1 : W7.cell? ⟨gl4, 1, none⟩ = some (.int .i64 l.2.1) := (blk_cell Bl8.out 1).trans rfl
        have zl9_2 : W7.cell? ⟨gl4, 2, none⟩ = some (.int .i64 l.2.2.1) := (blk_cell Bl8.out 2).trans rfl
        have zl9_3 : W7.cell? ⟨gl4, 3, none⟩ = some (.int .i64 l.2.2.2) := (blk_cell Bl8.out 3).trans rfl
        go_wp2_with fail
        go_ret2
        rw [HN.out, HLB.out]
        exact ⟨rfl, HB8.out⟩
      · skip
        refine start_ (n := 19) (S := fun w' => w'.cell? ⟨g, 0, none⟩ = some (.int .i64 nd) ∧ w'.cell? ⟨g, 1, none⟩ = some (.int .i64 lf) ∧ w'.cell? ⟨g, 2, none⟩ = some (.int .i64 tk) ∧ w'.cell? ⟨g, 3, none⟩ = some (.slice A seen.length c) ∧ w'.cell? ⟨g, 4, none⟩ = some (.int .i64 ag) ∧ w'.cell? ⟨gl4, 0, none⟩ = some (.int .i64 l.1) ∧ w'.cell? ⟨gl4, 1, none⟩ = some (.int .i64 l.2.1) ∧ w'.cell? ⟨gl4, 2, none⟩ = some (.int .i64 l.2.2.1) ∧ w'.cell? ⟨gl4, 3, none⟩ = some (.int .i64 l.2.2.2)) (ds := []) #[false, false, false, false, false, false, false, false, false, false, false, false, false, false, false, false, false, false, false] (by kernel_rfl) rfl rfl ⟨zW6_0, zW6_1, zW6_2, zW6_3, zW6_4, zl6_0, zl6_1, zl6_2, zl6_3⟩ (fun hHeld => ?_)
        refine pure_ (i := 0) (N := some 11) (v := ?_) (a' := ?_) #[true, false, false, false, false, false, false, false, false, false, false, false, false, false, false, false, false, false, false] rfl rfl (by kernel_rfl) (fun _ _ _ h => h) (Or.inl ⟨by rfl, ?_⟩) ?_ ?_
        rotate_left
        · intro w'
          go_simp
          with_reducible rfl
        rotate_left
        · simp only [Act.put, List.setIfInBounds_toArray, List.set_cons_zero, List.set_cons_succ, i64_w, i32_w]
          rfl
        refine pure_ (i := 1) (N := some 12) (v := ?_) (a' := ?_) #[true, true, false, false, false, false, false, false, false, false, false, false, false, false, false, false, false, false, false] rfl rfl (by kernel_rfl) (fun _ _ _ h => h) (Or.inl ⟨by rfl, ?_⟩) ?_ ?_
        rotate_left
        · intro w'
          go_simp
          with_reducible rfl
        rotate_left
        · simp only [Act.put, List.setIfInBounds_toArray, List.set_cons_zero, List.set_cons_succ, i64_w, i32_w]
          rfl
        refine pure_ (i := 2) (N := some 13) (v := ?_) (a' := ?_) #[true, true, true, false, false, false, false, false, false, false, false, false, false, false, false, false, false, false, false] rfl rfl (by kernel_rfl) (fun _ _ _ h => h) (Or.inl ⟨by rfl, ?_⟩) ?_ ?_
        rotate_left
        · intro w'
          go_simp
          with_reducible rfl
        rotate_left
        · simp only [Act.put, List.setIfInBounds_toArray, List.set_cons_zero, List.set_cons_succ, i64_w, i32_w]
          rfl
        refine pure_ (i := 4) (N := some 15) (v := ?_) (a' := ?_) #[true, true, true, false, true, false, false, false, false, false, false, false, false, false, false, false, false, false, false] rfl rfl (by kernel_rfl) (fun _ _ _ h => h) (Or.inl ⟨by rfl, ?_⟩) ?_ ?_
        rotate_left
        · intro w'
          go_simp
          with_reducible rfl
        rotate_left
        · simp only [Act.put, List.setIfInBounds_toArray, List.set_cons_zero, List.set_cons_succ, i64_w, i32_w]
          rfl
        refine pure_ (i := 5) (N := some 16) (v := ?_) (a' := ?_) #[true, true, true, false, true, true, false, false, false, false, false, false, false, false, false, false, false, false, false] rfl rfl (by kernel_rfl) (fun _ _ _ h => h) (Or.inl ⟨by rfl, ?_⟩) ?_ ?_
        rotate_left
        · intro w'
          go_simp
          with_reducible rfl
        rotate_left
        · simp only [Act.put, List.setIfInBounds_toArray, List.set_cons_zero, List.set_cons_succ, i64_w, i32_w]
          rfl
        refine pure_ (i := 6) (N := some 17) (v := ?_) (a' := ?_) #[true, true, true, false, true, true, true, false, false, false, false, false, false, false, false, false, false, false, false] rfl rfl (by kernel_rfl) (fun _ _ _ h => h) (Or.inl ⟨by rfl, ?_⟩) ?_ ?_
        rotate_left
        · intro w'
          go_simp
          with_reducible rfl
        rotate_left
        · simp only [Act.put, List.setIfInBounds_toArray, List.set_cons_zero, List.set_cons_succ, i64_w, i32_w]
          rfl
        refine take_ (i := 3) (N := some 14) (v := ?_) (a' := ?_) #[true, true, true, true, true, true, true, false, false, false, false, false, false, false, false, false, false, false, false] rfl rfl (by kernel_rfl) (fun _ _ _ h => h) (Or.inl ⟨by rfl, ?_⟩) hHeld ?_ ?_
        rotate_left
        · rintro w' ⟨s0, s1, s2, s3, s4, s5, s6, s7, s8⟩
          go_simp
          with_reducible rfl
        rotate_left
        · simp only [Act.put, List.setIfInBounds_toArray, List.set_cons_zero, List.set_cons_succ, i64_w, i32_w]
          rfl
        refine take_ (i := 7) (N := some 18) (v := ?_) (a' := ?_) #[true, true, true, true, true, true, true, true, false, false, false, false, false, false, false, false, false, false, false] rfl rfl (by kernel_rfl) (fun _ _ _ h => h) (Or.inl ⟨by rfl, ?_⟩) hHeld ?_ ?_
        rotate_left
        · rintro w' ⟨s0, s1, s2, s3, s4, s5, s6, s7, s8⟩
          go_simp
          with_reducible rfl
        rotate_left
        · simp only [Act.put, List.setIfInBounds_toArray, List.set_cons_zero, List.set_cons_succ, i64_w, i32_w]
          rfl
        refine pure_ (i := 8) (N := some 19) (v := ?_) (a' := ?_) #[true, true, true, true, true, true, true, true, true, false, false, false, false, false, false, false, false, false, false] rfl rfl (by kernel_rfl) (fun _ _ _ h => h) (Or.inl ⟨by rfl, ?_⟩) ?_ ?_
        rotate_left
        · intro w'
          go_simp
          with_reducible rfl
        rotate_left
        · simp only [Act.put, List.setIfInBounds_toArray, List.set_cons_zero, List.set_cons_succ, i64_w, i32_w]
          rfl
        refine pure_ (i := 9) (N := some 20) (v := ?_) (a' := ?_) #[true, true, true, true, true, true, true, true, true, true, false, false, false, false, false, false, false, false, false] rfl rfl (by kernel_rfl) (fun _ _ _ h => h) (Or.inl ⟨by rfl, ?_⟩) ?_ ?_
        rotate_left
        · intro w'
          go_simp
          with_reducible rfl
        rotate_left
        · simp only [Act.put, List.setIfInBounds_toArray, List.set_cons_zero, List.set_cons_succ, i64_w, i32_w]
          rfl
        refine pure_ (i := 10) (N := some 21) (v := ?_) (a' := ?_) #[true, true, true, true, true, true, true, true, true, true, true, false, false, false, false, false, false, false, false] rfl rfl (by kernel_rfl) (fun _ _ _ h => h) (Or.inl ⟨by rfl, ?_⟩) ?_ ?_
        rotate_left
        · intro w'
          go_simp
          with_reducible rfl
        rotate_left
        · simp only [Act.put, List.setIfInBounds_toArray, List.set_cons_zero, List.set_cons_succ, i64_w, i32_w]
          rfl
        refine pure_ (i := 11) (N := some 22) (v := ?_) (a' := ?_) #[true, true, true, true, true, true, true, true, true, true, true, true, false, false, false, false, false, false, false] rfl rfl (by kernel_rfl) (fun _ _ _ h => h) (Or.inl ⟨by rfl, ?_⟩) ?_ ?_
        rotate_left
        · intro w'
          go_simp
          with_reducible rfl
        rotate_left
        · simp only [Act.put, List.setIfInBounds_toArray, List.set_cons_zero, List.set_cons_succ, i64_w, i32_w]
          rfl
        refine pure_ (i := 13) (N := some 24) (v := ?_) (a' := ?_) #[true, true, true, true, true, true, true, true, true, true, true, true, false, true, false, false, false, false, false] rfl rfl (by kernel_rfl) (fun _ _ _ h => h) (Or.inl ⟨by rfl, ?_⟩) ?_ ?_
        rotate_left
        · intro w'
          go_simp
          with_reducible rfl
        rotate_left
        · simp only [Act.put, List.setIfInBounds_toArray, List.set_cons_zero, List.set_cons_succ, i64_w, i32_w]
          rfl
        refine pure_ (i := 14) (N := some 25) (v := ?_) (a' := ?_) #[true, true, true, true, true, true, true, true, true, true, true, true, false, true, true, false, false, false, false] rfl rfl (by kernel_rfl) (fun _ _ _ h => h) (Or.inl ⟨by rfl, ?_⟩) ?_ ?_
        rotate_left
        · intro w'
          go_simp
          with_reducible rfl
        rotate_left
        · simp only [Act.put, List.setIfInBounds_toArray, List.set_cons_zero, List.set_cons_succ, i64_w, i32_w]
          rfl
        refine pure_ (i := 15) (N := some 26) (v := ?_) (a' := ?_) #[true, true, true, true, true, true, true, true, true, true, true, true, false, true, true, true, false, false, false] rfl rfl (by kernel_rfl) (fun _ _ _ h => h) (Or.inl ⟨by rfl, ?_⟩) ?_ ?_
        rotate_left
        · intro w'
          go_simp
          with_reducible rfl
        rotate_left
        · simp only [Act.put, List.setIfInBounds_toArray, List.set_cons_zero, List.set_cons_succ, i64_w, i32_w]
          rfl
        refine take_ (i := 12) (N := some 23) (v := ?_) (a' := ?_) #[true, true, true, true, true, true, true, true, true, true, true, true, true, true, true, true, false, false, false] rfl rfl (by kernel_rfl) (fun _ _ _ h => h) (Or.inl ⟨by rfl, ?_⟩) hHeld ?_ ?_
        rotate_left
        · rintro w' ⟨s0, s1, s2, s3, s4, s5, s6, s7, s8⟩
          go_simp
          with_reducible rfl
        rotate_left
        · simp only [Act.put, List.setIfInBounds_toArray, List.set_cons_zero, List.set_cons_succ, i64_w, i32_w]
          rfl
        refine take_ (i := 16) (N := some 27) (v := ?_) (a' := ?_) #[true, true, true, true, true, true, true, true, true, true, true, true, true, true, true, true, true, false, false] rfl rfl (by kernel_rfl) (fun _ _ _ h => h) (Or.inl ⟨by rfl, ?_⟩) hHeld ?_ ?_
        rotate_left
        · rintro w' ⟨s0, s1, s2, s3, s4, s5, s6, s7, s8⟩
          go_simp
          with_reducible rfl
        rotate_left
        · simp only [Act.put, List.setIfInBounds_toArray, List.set_cons_zero, List.set_cons_succ, i64_w, i32_w]
          rfl
        refine pure_ (i := 17) (N := some 28) (v := ?_) (a' := ?_) #[true, true, true, true, true, true, true, true, true, true, true, true, true, true, true, true, true, true, false] rfl rfl (by kernel_rfl) (fun _ _ _ h => h) (Or.inl ⟨by rfl, ?_⟩) ?_ ?_
        rotate_left
        · intro w'
          go_simp
          with_reducible rfl
        rotate_left
        · simp only [Act.put, List.setIfInBounds_toArray, List.set_cons_zero, List.set_cons_succ, i64_w, i32_w]
          rfl
        refine pure_ (i := 18) (N := some 29) (v := ?_) (a' := ?_) #[true, true, true, true, true, true, true, true, true, true, true, true, true, true, true, true, true, true, true] rfl rfl (by kernel_rfl) (fun _ _ _ h => h) (Or.inl ⟨by rfl, ?_⟩) ?_ ?_
        rotate_left
        · intro w'
          go_simp
          with_reducible rfl
        rotate_left
        · simp only [Act.put, List.setIfInBounds_toArray, List.set_cons_zero, List.set_cons_succ, i64_w, i32_w]
          rfl
        refine done_ (by kernel_rfl) ?_
        obtain ⟨W7, hw7⟩ : ∃ x : World, x = W4.drew := ⟨_, rfl⟩
        have hbd7 : Below W4.heap.size W4 W7 := by rw [hw7]; exact below_drew (Below.refl _ _)
        rw [← hw7]
        clear hw7
        clear zW6_0 zW6_1 zW6_2 zW6_3 zW6_4 zl6_0 zl6_1 zl6_2 zl6_3
        have HB8 := Aside0.mk (below_step HB5.out hbd7)
        have BW8 : Aside0 (W7.heap[g]? = some (.cells #[.int .i64 nd, .int .i64 lf, .int .i64 tk, .slice A seen.length c, .int .i64 ag] 78 (0, 0))) := ⟨(hbd7.block _ (blk_lt BW5.out)).trans BW5.out⟩
        have Bl8 : Aside0 (W7.heap[gl4]? = some (.cells #[.int .i64 l.1, .int .i64 l.2.1, .int .i64 l.2.2.1, .int .i64 l.2.2.2] 24 (0, 0))) := ⟨(hbd7.block _ (blk_lt Bl4.out)).trans Bl4.out⟩
        have CRW8 := Aside0.mk (RWAt.below CRW5.out hbd7)
        clear hbd7
        have zW9_0 : W7.cell? ⟨g, 0, none⟩ = some (.int .i64 nd) := (blk_cell BW8.out 0).trans rfl
        have zW9_1 : W7.cell? ⟨g, 1, none⟩ = some (.int .i64 lf) := (blk_cell BW8.out 1).trans rfl
        have zW9_2 : W7.cell? ⟨g, 2, none⟩ = some (.int .i64 tk) := (blk_cell BW8.out 2).trans rfl
        have zW9_3 : W7.cell? ⟨g, 3, none⟩ = some (.slice A seen.length c) := (blk_cell BW8.out 3).trans rfl
        have zW9_4 : W7.cell? ⟨g, 4, none⟩ = some (.int .i64 ag) := (blk_cell BW8.out 4).trans rfl
        have zl9_0 : W7.cell? ⟨gl4, 0, none⟩ = some (.int .i64 l.1) := (blk_cell Bl8.out 0).trans rfl
        have zl9_1 : W7.cell? ⟨gl4, 1, none⟩ = some (.int .i64 l.2.1) := (blk_cell Bl8.out 1).trans rfl
        have zl9_2 : W7.cell? ⟨gl4, 2, none⟩ = some (.int .i64 l.2.2.1) := (blk_cell Bl8.out 2).trans rfl
        have zl9_3 : W7.cell? ⟨gl4, 3, none⟩ = some (.int .i64 l.2.2.2) := (blk_cell Bl8.out 3).trans rfl
        go_wp2_with fail
        go_ret2
        rw [HN.out, HLB.out]
        exact ⟨rfl, HB8.out⟩
end Go.Proofs.Ytimfbdiiaakhiaa.MAll

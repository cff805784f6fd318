/- The reference's watch: Saw, Tick. -/
import Derived.Test.YtimfbdiiaakhiaaTg
set_option linter.unusedVariables false
set_option linter.unusedSimpArgs false
namespace Go.Proofs.Ytimfbdiiaakhiaa.MAll
open Go.RowKit Go.Proofs.YtimfbdiiaakhiaaW.PrintWords Go.Proofs.YtimfbdiiaakhiaaW.PrintLast Go.Proofs.YtimfbdiiaakhiaaW.PrintMore
attribute [local go_sem ↓] Go.wp_at_zero Go.wp_at_succ
/-- What the reference's watch writes: its own block and rows of rows. -/
structure FRT (g : Nat) (W w : World) : Prop where
  below : Below g W w
  block : ∀ (k : Nat) (cs : Array Value) (t : Nat), W.heap[k]? = some (Obj.cells cs t (0, 0)) → t ≠ 78 → t ≠ 22 → w.heap[k]? = W.heap[k]?
theorem FRT.trans {g : Nat} {W w1 w2 : World} (h : FRT g W w1) (h2 : FRT g w1 w2) : FRT g W w2 :=
  ⟨h.below.trans h2.below, fun k cs t hk h78 h22 => (h2.block k cs t ((h.block k cs t hk h78 h22).trans hk) h78 h22).trans (h.block k cs t hk h78 h22)⟩
theorem FRT.of_below {g : Nat} {W w : World} (hg : g ≤ W.heap.size) (h : Below W.heap.size W w) : FRT g W w :=
  ⟨⟨h.os, h.tape, h.output, h.size, fun k hk => h.block k (by omega)⟩, fun k cs t hk _ _ => h.block k (blk_lt hk)⟩
theorem FRT.after {g : Nat} {W w w2 : World} (hB : Below W.heap.size W w) (hF : FRT g w w2) (hg : W.heap.size ≤ g) : Below W.heap.size W w2 :=
  have h := hF.below
  ⟨h.os.trans hB.os, h.tape.trans hB.tape, h.output.trans hB.output, Nat.le_trans hB.size h.size, fun k hk => (h.block k (Nat.lt_of_lt_of_le hk hg)).trans (hB.block k hk)⟩
theorem WAt.frt {W W1 : World} {g g' : Nat} {nd lf tk : Int} {sw : Bool} {v : List Int} {ag : Int} (h : WAt W g nd lf tk sw v ag) (hf : FRT g' W W1) : WAt W1 g nd lf tk sw v ag := by
  obtain ⟨A, c, h1, h2, h3⟩ := h
  refine ⟨A, c, (hf.block g _ 68 h1 (by decide) (by decide)).trans h1, ?_, h3⟩
  refine Kd.R_mono (Kd.R_move (Kd.R_bound h2) (fun k hk => ?_)) (fun _ _ => trivial)
  obtain ⟨_, _, _, q, hq, cells, hc⟩ := hk
  have hq3 : q = 3 := by simpa [Kd.int, Kd.scalar] using hq
  subst hq3
  exact hf.block k cells 3 hc (by decide) (by decide)
theorem FRT.made {g : Nat} {W w2 w : World} {A : Option Addr} {n c : Nat} {a0 a1 a2 a4 : Value} {seen : List (List Int)} (h : W.heap[g]? = some (.cells #[a0, a1, a2, .slice A n c, a4] 78 (0, 0))) (hR : kI.R 22 W (g + 1) (fun _ => True) (.slice A n c) seen) (hg : W.grownBy w2 (Value.slice A n c).ownBlock) (hs : w2.grownBy w (some g)) : FRT g W w := by
  obtain ⟨_, inner, ho, _⟩ := hR
  have hlt := blk_lt h
  refine ⟨⟨hs.os.trans hg.os, hs.tape.trans hg.tape, hs.output.trans hg.output, Nat.le_trans hg.size hs.size, fun k hk => ?_⟩, fun k cs t hk h78 h22 => ?_⟩
  · refine (hs.block k (Nat.lt_of_lt_of_le (Nat.lt_trans hk hlt) hg.size) (fun e => by injection e with e; omega)).trans (hg.block k (Nat.lt_trans hk hlt) (fun e => ?_))
    have := own_base ho k e.symm
    omega
  · have hkl := blk_lt hk
    refine (hs.block k (Nat.lt_of_lt_of_le hkl hg.size) (fun e => ?_)).trans (hg.block k hkl (fun e => ?_))
    · injection e with e
      subst e
      rw [h] at hk
      injection hk with hk
      injection hk with _ hk
      exact h78 hk.symm
    · obtain ⟨cells, hc⟩ := own_typed ho k e.symm
      rw [hc] at hk
      injection hk with hk
      injection hk with _ hk
      exact h22 hk.symm
theorem ok_seen {seen : List (List Int)} (h : okSeen seen) (hl : seen.length < 100000) {v : List Int} (hv : v.length < 17592186044416) : okSeen (seen ++ [v]) := by
  refine ⟨by rw [List.length_append]; simp; omega, fun x hx => ?_⟩
  rcases List.mem_append.1 hx with hx | hx
  · exact h.2 x hx
  · rw [List.mem_singleton.1 hx]; exact hv
set_option maxHeartbeats 8000000 in
set_option maxRecDepth 100000 in
theorem rsaw_first (W : World) (g : Nat) (nd lf tk : Int) (seen : List (List Int)) (ag : Int) (h : RWAt W g nd lf tk seen ag) (A0 : Option Addr) (c0 : Nat) (v : List Int) (hv : (Kd.int .i64).C W A0 v.length v) (hc : v.length ≤ c0) (hvl : v.length < 17592186044416) (hs : seen = []) : Calls Try.prog 31 #[.pointer (some ⟨g, 0, none⟩), .slice A0 v.length c0] W fun e w' => e = .returned (.tuple #[]) ∧ RWAt w' g nd lf tk (seen ++ [v]) 0 ∧ FRT g W w' := by
  have hu71 := Try.underlying71
  have hu78 := Try.underlying78
  have hu42 := Try.underlying42
  have hu22 := Try.underlying22
  have hgl := h.lt
  obtain ⟨A, c, hB0, hR0, hok⟩ := h
  have BW0 := Aside0.mk hB0
  have HR0 := Aside0.mk hR0
  have HOK := Aside0.mk hok
  have HV := Aside0.mk hv
  have hn0 : seen.length = 0 := by rw [hs]; rfl
  have hsl : seen.length < 100000 := by omega
  have d0 : decide (0 < seen.length) = false := decide_eq_false (by omega)
  have d1 : decide (0 < (seen.length : Int)) = false := decide_eq_false (by omega)
  clear hs hB0 hR0 hok hv hn0
  have zW1_0 : W.cell? ⟨g, 0, none⟩ = some (.int .i64 nd) := (blk_cell BW0.out 0).trans rfl
  have zW1_1 : W.cell? ⟨g, 1, none⟩ = some (.int .i64 lf) := (blk_cell BW0.out 1).trans rfl
  have zW1_2 : W.cell? ⟨g, 2, none⟩ = some (.int .i64 tk) := (blk_cell BW0.out 2).trans rfl
  have zW1_3 : W.cell? ⟨g, 3, none⟩ = some (.slice A seen.length c) := (blk_cell BW0.out 3).trans rfl
  have zW1_4 : W.cell? ⟨g, 4, none⟩ = some (.int .i64 ag) := (blk_cell BW0.out 4).trans rfl
  go_enter Try.func31, Try.ntmps31
  clear zW1_0 zW1_1 zW1_2 zW1_3 zW1_4
  have zW2_0 : W.cell? ⟨g, 0, none⟩ = some (.int .i64 nd) := (blk_cell BW0.out 0).trans rfl
  have zW2_1 : W.cell? ⟨g, 1, none⟩ = some (.int .i64 lf) := (blk_cell BW0.out 1).trans rfl
  have zW2_2 : W.cell? ⟨g, 2, none⟩ = some (.int .i64 tk) := (blk_cell BW0.out 2).trans rfl
  have zW2_3 : W.cell? ⟨g, 3, none⟩ = some (.slice A seen.length c) := (blk_cell BW0.out 3).trans rfl
  have zW2_4 : W.cell? ⟨g, 4, none⟩ = some (.int .i64 ag) := (blk_cell BW0.out 4).trans rfl
  have HSZ := Aside0.mk (show g + 1 ≤ W.heap.size from blk_lt BW0.out)
  go_upto_region 2 with fail
  refine start_ (n := 13) (S := fun w' => w'.cell? ⟨g, 0, none⟩ = some (.int .i64 nd) ∧ w'.cell? ⟨g, 1, none⟩ = some (.int .i64 lf) ∧ w'.cell? ⟨g, 2, none⟩ = some (.int .i64 tk) ∧ w'.cell? ⟨g, 3, none⟩ = some (.slice A seen.length c) ∧ w'.cell? ⟨g, 4, none⟩ = some (.int .i64 ag)) (ds := [12]) #[false, false, false, false, false, false, false, false, false, false, false, false, false] (by kernel_rfl) rfl rfl ⟨zW2_0, zW2_1, zW2_2, zW2_3, zW2_4⟩ (fun hHeld => ?_)
  refine pure_ (i := 0) (N := some 24) (v := ?_) (a' := ?_) #[true, false, false, false, false, false, false, false, false, false, false, false, false] rfl rfl (by kernel_rfl) (fun _ _ _ h => h) (Or.inl ⟨by rfl, ?_⟩) ?_ ?_
  rotate_left
  · intro w'
    go_simp
    with_reducible rfl
  rotate_left
  · simp only [Act.put, List.setIfInBounds_toArray, List.set_cons_zero, List.set_cons_succ, i64_w, i32_w]
    rfl
  refine pure_ (i := 1) (N := some 25) (v := ?_) (a' := ?_) #[true, true, false, false, false, false, false, false, false, false, false, false, false] rfl rfl (by kernel_rfl) (fun _ _ _ h => h) (Or.inl ⟨by rfl, ?_⟩) ?_ ?_
  rotate_left
  · intro w'
    go_simp
    with_reducible rfl
  rotate_left
  · simp only [Act.put, List.setIfInBounds_toArray, List.set_cons_zero, List.set_cons_succ, i64_w, i32_w]
    rfl
  refine pure_ (i := 2) (N := some 26) (v := ?_) (a' := ?_) #[true, true, true, false, false, false, false, false, false, false, false, false, false] rfl rfl (by kernel_rfl) (fun _ _ _ h => h) (Or.inl ⟨by rfl, ?_⟩) ?_ ?_
  rotate_left
  · intro w'
    go_simp
    with_reducible rfl
  rotate_left
  · simp only [Act.put, List.setIfInBounds_toArray, List.set_cons_zero, List.set_cons_succ, i64_w, i32_w]
    rfl
  refine pure_ (i := 3) (N := some 27) (v := ?_) (a' := ?_) #[true, true, true, true, false, false, false, false, false, false, false, false, false] rfl rfl (by kernel_rfl) (fun _ _ _ h => h) (Or.inl ⟨by rfl, ?_⟩) ?_ ?_
  rotate_left
  · intro w'
    go_simp
    with_reducible rfl
  rotate_left
  · simp only [Act.put, List.setIfInBounds_toArray, List.set_cons_zero, List.set_cons_succ, i64_w, i32_w]
    rfl
  refine pure_ (i := 6) (N := some 30) (v := ?_) (a' := ?_) #[true, true, true, true, false, false, true, false, false, false, false, false, false] rfl rfl (by kernel_rfl) (fun _ _ _ h => h) (Or.inl ⟨by rfl, ?_⟩) ?_ ?_
  rotate_left
  · intro w'
    go_simp
    with_reducible rfl
  rotate_left
  · simp only [Act.put, List.setIfInBounds_toArray, List.set_cons_zero, List.set_cons_succ, i64_w, i32_w]
    rfl
  refine take_ (i := 4) (N := some 28) (v := ?_) (a' := ?_) #[true, true, true, true, true, false, true, false, false, false, false, false, false] rfl rfl (by kernel_rfl) (fun _ _ _ h => h) (Or.inl ⟨by rfl, ?_⟩) hHeld ?_ ?_
  rotate_left
  · rintro w' ⟨s0, s1, s2, s3, s4⟩
    go_simp
    with_reducible rfl
  rotate_left
  · simp only [Act.put, List.setIfInBounds_toArray, List.set_cons_zero, List.set_cons_succ, i64_w, i32_w]
    rfl
  refine one_ (i := 5) (N := some 29) #[true, true, true, true, true, true, true, false, false, false, false, false, false] rfl rfl (by kernel_rfl) (by decide) (fun K hK => ?_)
  refine value_ (w1 := ?_) (v := ?_) (by rfl) rfl ?_ ?_
  rotate_left 2
  · go_simp
    constructor
    · rfl
    · rfl
  refine hK.out _ _ ⟨pw_cell_below (below_alloc (below_drew (Below.refl _ _)) _) zW2_0, pw_cell_below (below_alloc (below_drew (Below.refl _ _)) _) zW2_1, pw_cell_below (below_alloc (below_drew (Below.refl _ _)) _) zW2_2, pw_cell_below (below_alloc (below_drew (Below.refl _ _)) _) zW2_3, pw_cell_below (below_alloc (below_drew (Below.refl _ _)) _) zW2_4⟩ (fun hHeld => ?_)
  clear hK K
  refine norm_ (a' := ?_) ?_ ?_
  rotate_left
  · show Act.put _ (some 29) _ = _
    simp only [Act.put, List.setIfInBounds_toArray, List.set_cons_zero, List.set_cons_succ, i64_w, i32_w]
    rfl
  refine one_ (i := 7) (N := some 31) #[true, true, true, true, true, true, true, true, false, false, false, false, false] rfl rfl (by kernel_rfl) (by decide) (fun K hK => ?_)
  refine Kd.R_append_rows_step (Kd.int .i64) (w0 := W) W.heap.size (by rfl) (.tmp 29) (.tmp 30) 22 3 (.int .i64 0) 8 rfl Try.underlying22 info3' rfl (by decide) (by decide) (.slice (some ⟨W.heap.size, 0, none⟩) 0 0) [] v A0 v.length c0 (fun _ => True) (fun _ => False) rfl rfl ?aO ?aR (fun _ _ h => h) (fun _ h => h.elim) (fun _ _ => trivial) ?aB ?aS ?aL ?_
  (case aO => exact Kd.R_of_own (own_lit W.drew W.heap.size 3 .i64 [] (Nat.le_refl _) (by simp)) (fun _ _ => trivial))
  (case aR => exact Kd.C_alloc (Kd.C_drew HV.out) _)
  (case aB => exact below_alloc (below_drew (Below.refl _ _)) _)
  (case aS => show W.heap.size ≤ (W.alloc _).heap.size; rw [World.size_alloc]; exact Nat.le_succ _)
  (case aL => simp; omega)
  intro v7 w7 hR7 hb7 hg7 hat7
  rw [List.nil_append] at hR7
  obtain ⟨B7, c7, rfl⟩ := Kd.R_slice hR7
  have HB7 := Aside0.mk hb7
  have B7W : Aside0 (w7.heap[g]? = some (.cells #[.int .i64 nd, .int .i64 lf, .int .i64 tk, .slice A seen.length c, .int .i64 ag] 78 (0, 0))) := ⟨blk_below BW0.out hb7⟩
  have R7L := Aside0.mk (Kd.R_below HR0.out hb7)
  have HM7 : Aside0 (kI.M w7 (g + 1) (fun k => True ∧ some k ≠ (Value.slice A seen.length c).ownBlock) v [.slice B7 v.length c7]) := ⟨⟨_, rfl, Kd.R_lower (Kd.R_newR hR7 HR0.out) HSZ.out⟩⟩
  clear hR7 hb7 hg7 hat7
  refine hK.out _ _ ⟨pw_cell_below HB7.out zW2_0, pw_cell_below HB7.out zW2_1, pw_cell_below HB7.out zW2_2, pw_cell_below HB7.out zW2_3, pw_cell_below HB7.out zW2_4⟩ (fun hHeld => ?_)
  clear hK K
  refine norm_ (a' := ?_) ?_ ?_
  rotate_left
  · show Act.put _ (some 31) _ = _
    simp only [Act.put, List.setIfInBounds_toArray, List.set_cons_zero, List.set_cons_succ, i64_w, i32_w]
    rfl
  refine one_ (i := 8) (N := some 32) #[true, true, true, true, true, true, true, true, true, false, false, false, false] rfl rfl (by kernel_rfl) (by decide) (fun K hK => ?_)
  refine value_ (w1 := ?_) (v := ?_) (by rfl) rfl ?_ ?_
  rotate_left 2
  · go_simp
    constructor
    · rfl
    · rfl
  refine hK.out _ _ ⟨pw_cell_below (below_alloc (Below.refl _ _) _) (pw_cell_below HB7.out zW2_0), pw_cell_below (below_alloc (Below.refl _ _) _) (pw_cell_below HB7.out zW2_1), pw_cell_below (below_alloc (Below.refl _ _) _) (pw_cell_below HB7.out zW2_2), pw_cell_below (below_alloc (Below.refl _ _) _) (pw_cell_below HB7.out zW2_3), pw_cell_below (below_alloc (Below.refl _ _) _) (pw_cell_below HB7.out zW2_4)⟩ (fun hHeld => ?_)
  clear hK K
  refine norm_ (a' := ?_) ?_ ?_
  rotate_left
  · show Act.put _ (some 32) _ = _
    simp only [Act.put, List.setIfInBounds_toArray, List.set_cons_zero, List.set_cons_succ, i64_w, i32_w]
    rfl
  refine one_ (i := 9) (N := some 33) #[true, true, true, true, true, true, true, true, true, true, false, false, false] rfl rfl (by kernel_rfl) (by decide) (fun K hK => ?_)
  refine Kd.R_append_step kI (w0 := w7) (g + 1) (by rfl) (.tmp 28) (.tmp 32) 42 22 (.slice none 0 0) 24 rfl Try.underlying42 info22' rfl (by decide) (by decide) (.slice A seen.length c) seen v [.slice B7 v.length c7] (fun _ => True) (fun k => True ∧ some k ≠ (Value.slice A seen.length c).ownBlock) rfl rfl HM7.out (fun _ hk => hk) (fun _ _ => trivial) R7L.out (Below.refl _ _) (Nat.le_trans HSZ.out HB7.out.size) (by omega) ?_
  intro v9 w9 hR9 hb9 hg9 hat9
  have hln : (seen ++ [v]).length = seen.length + 1 := by simp
  obtain ⟨A9, c9, rfl⟩ := Kd.R_slice hR9
  rw [hln] at hR9
  have HR9 := Aside0.mk hR9
  have HG9 := Aside0.mk hg9
  have B9W : Aside0 (w9.heap[g]? = some (.cells #[.int .i64 nd, .int .i64 lf, .int .i64 tk, .slice A seen.length c, .int .i64 ag] 78 (0, 0))) := ⟨blk_grown B7W.out hg9 (Kd.R_ne R7L.out B7W.out (by decide))⟩
  clear hR9 hb9 hg9 hat9
  have k2 : w9.cell? ⟨g, 3, none⟩ = some (.slice A seen.length c) := (blk_cell B9W.out 3).trans rfl
  have f2 := blk_frozen B9W.out 3
  refine hK.out _ _ ⟨(blk_cell B9W.out 0).trans rfl, (blk_cell B9W.out 1).trans rfl, (blk_cell B9W.out 2).trans rfl, (blk_cell B9W.out 3).trans rfl, (blk_cell B9W.out 4).trans rfl⟩ (fun hHeld => ?_)
  clear hK K
  refine norm_ (a' := ?_) ?_ ?_
  rotate_left
  · show Act.put _ (some 33) _ = _
    simp only [Act.put, List.setIfInBounds_toArray, List.set_cons_zero, List.set_cons_succ, i64_w, i32_w]
    rfl
  refine pure_ (i := 10) (N := some 34) (v := ?_) (a' := ?_) #[true, true, true, true, true, true, true, true, true, true, true, false, false] rfl rfl (by kernel_rfl) (fun _ _ _ h => h) (Or.inl ⟨by rfl, ?_⟩) ?_ ?_
  rotate_left
  · intro w'
    go_simp
    with_reducible rfl
  rotate_left
  · simp only [Act.put, List.setIfInBounds_toArray, List.set_cons_zero, List.set_cons_succ, i64_w, i32_w]
    rfl
  refine pure_ (i := 11) (N := some 35) (v := ?_) (a' := ?_) #[true, true, true, true, true, true, true, true, true, true, true, true, false] rfl rfl (by kernel_rfl) (fun _ _ _ h => h) (Or.inl ⟨by rfl, ?_⟩) ?_ ?_
  rotate_left
  · intro w'
    go_simp
    with_reducible rfl
  rotate_left
  · simp only [Act.put, List.setIfInBounds_toArray, List.set_cons_zero, List.set_cons_succ, i64_w, i32_w]
    rfl
  refine last_ (i := 12) (N := none) #[true, true, true, true, true, true, true, true, true, true, true, true, true] rfl rfl (by kernel_rfl) (by decide) (fun K hK => ?_)
  refine skip_ (w1 := ?_) (by rfl) rfl ?_ ?_
  rotate_left
  · go_simp
    rfl
  refine hK.out _ _ ?_
  clear hK K
  refine done_ (by kernel_rfl) ?_
  clear zW2_0 zW2_1 zW2_2 zW2_3 zW2_4
  clear k2 f2
  have hln : (seen ++ [v]).length = seen.length + 1 := by simp
  obtain ⟨wA, hwA⟩ : ∃ x : World, x = w9.setCell ⟨g, 3, none⟩ (.slice A9 (seen.length + 1) c9) := ⟨_, rfl⟩
  have BA : Aside0 (wA.heap[g]? = some (.cells #[.int .i64 nd, .int .i64 lf, .int .i64 tk, .slice A9 (seen.length + 1) c9, .int .i64 ag] 78 (0, 0))) := ⟨by rw [hwA]; exact blk_put (cs := #[.int .i64 nd, .int .i64 lf, .int .i64 tk, .slice A seen.length c, .int .i64 ag]) B9W.out 3 _ rfl⟩
  have HGA : Aside0 (w9.grownBy wA (some g)) := ⟨by rw [hwA]; exact grown_set _ _ _ _⟩
  have RA : Aside0 (kI.R 22 wA (g + 1) (fun _ => True) (.slice A9 (seen.length + 1) c9) (seen ++ [v])) := ⟨by rw [hwA]; exact Kd.R_set HR9.out B9W.out (by decide) 3 _⟩
  first | rw [← hwA] | (rw [← hln, ← hwA]) | (rw [hln, ← hwA])
  clear hwA
  have kA : wA.cell? ⟨g, 4, none⟩ = some (.int .i64 ag) := (blk_cell BA.out 4).trans rfl
  have fA := blk_frozen BA.out 4
  go_wp2_with fail
  first | go_end0 | ((try simp only [Exit.inBlock, Exit.then]); refine bodyPost_ret (results_none rfl _ _ _) rfl ?_)
  have hpost : (wA.setCell ⟨g, 4, none⟩ (.int .i64 0)).heap[g]? = some (.cells #[.int .i64 nd, .int .i64 lf, .int .i64 tk, .slice A9 (seen.length + 1) c9, .int .i64 0] 78 (0, 0)) := blk_put (cs := #[.int .i64 nd, .int .i64 lf, .int .i64 tk, .slice A9 (seen.length + 1) c9, .int .i64 ag]) BA.out 4 _ rfl
  refine ⟨rfl, ⟨A9, c9, by rw [hln]; exact hpost, by rw [hln]; exact Kd.R_set RA.out BA.out (by decide) 4 _, ok_seen HOK.out hsl hvl⟩, ?_⟩
  exact FRT.trans (FRT.of_below (Nat.le_of_succ_le HSZ.out) HB7.out) (FRT.made B7W.out R7L.out HG9.out (HGA.out.trans (grown_set _ _ _ _)))
set_option maxHeartbeats 8000000 in
set_option maxRecDepth 100000 in
theorem rsaw_same (W : World) (g : Nat) (nd lf tk : Int) (seen : List (List Int)) (ag : Int) (h : RWAt W g nd lf tk seen ag) (A0 : Option Addr) (c0 : Nat) (v : List Int) (hv : (Kd.int .i64).C W A0 v.length v) (hc : v.length ≤ c0) (hvl : v.length < 17592186044416) (hs : seen ≠ []) (hl : lastOf seen = v) : Calls Try.prog 31 #[.pointer (some ⟨g, 0, none⟩), .slice A0 v.length c0] W fun e w' => e = .returned (.tuple #[]) ∧ RWAt w' g nd lf tk seen ag ∧ Below W.heap.size W w' := by
  have hu71 := Try.underlying71
  have hu78 := Try.underlying78
  have hu42 := Try.underlying42
  have hu22 := Try.underlying22
  have HRW := Aside0.mk h
  have hgl := h.lt
  obtain ⟨A, c, hB0, hR0, hok⟩ := h
  have BW0 := Aside0.mk hB0
  have HR0 := Aside0.mk hR0
  have HOK := Aside0.mk hok
  have HV := Aside0.mk hv
  obtain ⟨m, r, hm, hr, hlr⟩ := seen_last hs
  rw [hlr] at hl
  obtain rfl : m = seen.length - 1 := by omega
  obtain ⟨b, rfl⟩ := row_b hR0 (by omega)
  obtain ⟨B, d, hcell, hrd, hM, hCr⟩ := I_elem hR0 rfl r hr
  have hn4 : seen.length ≤ 100000 := hok.1
  have hlt2 : seen.length - 1 < seen.length := by omega
  have d0 : decide (0 < seen.length) = true := decide_eq_true (by omega)
  have d1 : decide (0 < (seen.length : Int)) = true := decide_eq_true (by omega)
  have hpos : 0 < seen.length := by omega
  have HCR := Aside0.mk hCr
  have HRD := Aside0.mk hrd
  have HLV := Aside0.mk (show decide (r = v) = true from decide_eq_true hl)
  have HRLN := Aside0.mk (hok.2 r (List.mem_of_getElem? hr))
  clear hs hB0 hR0 hok hv hM hCr hrd hl hlr hr hm
  have zW1_0 : W.cell? ⟨g, 0, none⟩ = some (.int .i64 nd) := (blk_cell BW0.out 0).trans rfl
  have zW1_1 : W.cell? ⟨g, 1, none⟩ = some (.int .i64 lf) := (blk_cell BW0.out 1).trans rfl
  have zW1_2 : W.cell? ⟨g, 2, none⟩ = some (.int .i64 tk) := (blk_cell BW0.out 2).trans rfl
  have zW1_3 : W.cell? ⟨g, 3, none⟩ = some (.slice (some ⟨b, 0, none⟩) seen.length c) := (blk_cell BW0.out 3).trans rfl
  have zW1_4 : W.cell? ⟨g, 4, none⟩ = some (.int .i64 ag) := (blk_cell BW0.out 4).trans rfl
  go_enter Try.func31, Try.ntmps31
  go_wp2_with fail
  clear hcell
  refine (refsame_v true B d r A0 c0 v _ HLV.out HCR.out HRD.out HV.out hc (by have := HRLN.out; omega)).mono ?_
  rintro e w2 ⟨rfl, hb2⟩
  clear zW1_0 zW1_1 zW1_2 zW1_3 zW1_4
  have HB3 := Aside0.mk hb2
  have BW3 : Aside0 (w2.heap[g]? = some (.cells #[.int .i64 nd, .int .i64 lf, .int .i64 tk, .slice (some ⟨b, 0, none⟩) seen.length c, .int .i64 ag] 78 (0, 0))) := ⟨(hb2.block _ (blk_lt BW0.out)).trans BW0.out⟩
  have Cv3 := Aside0.mk (Kd.C_below HV.out hb2)
  have Cr3 := Aside0.mk (Kd.C_below HCR.out hb2)
  have CRW3 := Aside0.mk (RWAt.below HRW.out hb2)
  have RL3 := Aside0.mk (Kd.R_below HR0.out hb2)
  clear hb2
  go_wp2_with fail
  first | go_end0 | ((try simp only [Exit.inBlock, Exit.then]); refine bodyPost_ret (results_none rfl _ _ _) rfl ?_)
  exact ⟨rfl, CRW3.out, HB3.out⟩
set_option maxHeartbeats 8000000 in
set_option maxRecDepth 100000 in
theorem rsaw_next (W : World) (g : Nat) (nd lf tk : Int) (seen : List (List Int)) (ag : Int) (h : RWAt W g nd lf tk seen ag) (A0 : Option Addr) (c0 : Nat) (v : List Int) (hv : (Kd.int .i64).C W A0 v.length v) (hc : v.length ≤ c0) (hvl : v.length < 17592186044416) (hs : seen ≠ []) (hl : lastOf seen ≠ v) (hsl : seen.length < 100000) : Calls Try.prog 31 #[.pointer (some ⟨g, 0, none⟩), .slice A0 v.length c0] W fun e w' => e = .returned (.tuple #[]) ∧ RWAt w' g nd lf tk (seen ++ [v]) 0 ∧ FRT g W w' := by
  have hu71 := Try.underlying71
  have hu78 := Try.underlying78
  have hu42 := Try.underlying42
  have hu22 := Try.underlying22
  have HRW := Aside0.mk h
  have hgl := h.lt
  obtain ⟨A, c, hB0, hR0, hok⟩ := h
  have BW0 := Aside0.mk hB0
  have HR0 := Aside0.mk hR0
  have HOK := Aside0.mk hok
  have HV := Aside0.mk hv
  obtain ⟨m, r, hm, hr, hlr⟩ := seen_last hs
  rw [hlr] at hl
  obtain rfl : m = seen.length - 1 := by omega
  obtain ⟨b, rfl⟩ := row_b hR0 (by omega)
  obtain ⟨B, d, hcell, hrd, hM, hCr⟩ := I_elem hR0 rfl r hr
  have hn4 : seen.length ≤ 100000 := hok.1
  have hlt2 : seen.length - 1 < seen.length := by omega
  have d0 : decide (0 < seen.length) = true := decide_eq_true (by omega)
  have d1 : decide (0 < (seen.length : Int)) = true := decide_eq_true (by omega)
  have hpos : 0 < seen.length := by omega
  have HCR := Aside0.mk hCr
  have HRD := Aside0.mk hrd
  have HLV := Aside0.mk (show decide (r = v) = false from decide_eq_false hl)
  have HRLN := Aside0.mk (hok.2 r (List.mem_of_getElem? hr))
  clear hs hB0 hR0 hok hv hM hCr hrd hl hlr hr hm
  have zW1_0 : W.cell? ⟨g, 0, none⟩ = some (.int .i64 nd) := (blk_cell BW0.out 0).trans rfl
  have zW1_1 : W.cell? ⟨g, 1, none⟩ = some (.int .i64 lf) := (blk_cell BW0.out 1).trans rfl
  have zW1_2 : W.cell? ⟨g, 2, none⟩ = some (.int .i64 tk) := (blk_cell BW0.out 2).trans rfl
  have zW1_3 : W.cell? ⟨g, 3, none⟩ = some (.slice (some ⟨b, 0, none⟩) seen.length c) := (blk_cell BW0.out 3).trans rfl
  have zW1_4 : W.cell? ⟨g, 4, none⟩ = some (.int .i64 ag) := (blk_cell BW0.out 4).trans rfl
  go_enter Try.func31, Try.ntmps31
  go_wp2_with fail
  clear hcell
  refine (refsame_v false B d r A0 c0 v _ HLV.out HCR.out HRD.out HV.out hc (by have := HRLN.out; omega)).mono ?_
  rintro e w2 ⟨rfl, hb2⟩
  clear zW1_0 zW1_1 zW1_2 zW1_3 zW1_4
  have HB3 := Aside0.mk hb2
  have BW3 : Aside0 (w2.heap[g]? = some (.cells #[.int .i64 nd, .int .i64 lf, .int .i64 tk, .slice (some ⟨b, 0, none⟩) seen.length c, .int .i64 ag] 78 (0, 0))) := ⟨(hb2.block _ (blk_lt BW0.out)).trans BW0.out⟩
  have Cv3 := Aside0.mk (Kd.C_below HV.out hb2)
  have Cr3 := Aside0.mk (Kd.C_below HCR.out hb2)
  have CRW3 := Aside0.mk (RWAt.below HRW.out hb2)
  have RL3 := Aside0.mk (Kd.R_below HR0.out hb2)
  clear hb2
  clear hlt2 d0 d1 hpos
  have zW4_0 : w2.cell? ⟨g, 0, none⟩ = some (.int .i64 nd) := (blk_cell BW3.out 0).trans rfl
  have zW4_1 : w2.cell? ⟨g, 1, none⟩ = some (.int .i64 lf) := (blk_cell BW3.out 1).trans rfl
  have zW4_2 : w2.cell? ⟨g, 2, none⟩ = some (.int .i64 tk) := (blk_cell BW3.out 2).trans rfl
  have zW4_3 : w2.cell? ⟨g, 3, none⟩ = some (.slice (some ⟨b, 0, none⟩) seen.length c) := (blk_cell BW3.out 3).trans rfl
  have zW4_4 : w2.cell? ⟨g, 4, none⟩ = some (.int .i64 ag) := (blk_cell BW3.out 4).trans rfl
  have HSZ := Aside0.mk (show g + 1 ≤ w2.heap.size from blk_lt BW3.out)
  go_upto_region 2 with fail
  refine start_ (n := 13) (S := fun w' => w'.cell? ⟨g, 0, none⟩ = some (.int .i64 nd) ∧ w'.cell? ⟨g, 1, none⟩ = some (.int .i64 lf) ∧ w'.cell? ⟨g, 2, none⟩ = some (.int .i64 tk) ∧ w'.cell? ⟨g, 3, none⟩ = some (.slice (some ⟨b, 0, none⟩) seen.length c) ∧ w'.cell? ⟨g, 4, none⟩ = some (.int .i64 ag)) (ds := [12]) #[false, false, false, false, false, false, false, false, false, false, false, false, false] (by kernel_rfl) rfl rfl ⟨zW4_0, zW4_1, zW4_2, zW4_3, zW4_4⟩ (fun hHeld => ?_)
  refine pure_ (i := 0) (N := some 24) (v := ?_) (a' := ?_) #[true, false, false, false, false, false, false, false, false, false, false, false, false] rfl rfl (by kernel_rfl) (fun _ _ _ h => h) (Or.inl ⟨by rfl, ?_⟩) ?_ ?_
  rotate_left
  · intro w'
    go_simp
    with_reducible rfl
  rotate_left
  · simp only [Act.put, List.setIfInBounds_toArray, List.set_cons_zero, List.set_cons_succ, i64_w, i32_w]
    rfl
  refine pure_ (i := 1) (N := some 25) (v := ?_) (a' := ?_) #[true, true, false, false, false, false, false, false, false, false, false, false, false] rfl rfl (by kernel_rfl) (fun _ _ _ h => h) (Or.inl ⟨by rfl, ?_⟩) ?_ ?_
  rotate_left
  · intro w'
    go_simp
    with_reducible rfl
  rotate_left
  · simp only [Act.put, List.setIfInBounds_toArray, List.set_cons_zero, List.set_cons_succ, i64_w, i32_w]
    rfl
  refine pure_ (i := 2) (N := some 26) (v := ?_) (a' := ?_) #[true, true, true, false, false, false, false, false, false, false, false, false, false] rfl rfl (by kernel_rfl) (fun _ _ _ h => h) (Or.inl ⟨by rfl, ?_⟩) ?_ ?_
  rotate_left
  · intro w'
    go_simp
    with_reducible rfl
  rotate_left
  · simp only [Act.put, List.setIfInBounds_toArray, List.set_cons_zero, List.set_cons_succ, i64_w, i32_w]
    rfl
  refine pure_ (i := 3) (N := some 27) (v := ?_) (a' := ?_) #[true, true, true, true, false, false, false, false, false, false, false, false, false] rfl rfl (by kernel_rfl) (fun _ _ _ h => h) (Or.inl ⟨by rfl, ?_⟩) ?_ ?_
  rotate_left
  · intro w'
    go_simp
    with_reducible rfl
  rotate_left
  · simp only [Act.put, List.setIfInBounds_toArray, List.set_cons_zero, List.set_cons_succ, i64_w, i32_w]
    rfl
  refine pure_ (i := 6) (N := some 30) (v := ?_) (a' := ?_) #[true, true, true, true, false, false, true, false, false, false, false, false, false] rfl rfl (by kernel_rfl) (fun _ _ _ h => h) (Or.inl ⟨by rfl, ?_⟩) ?_ ?_
  rotate_left
  · intro w'
    go_simp
    with_reducible rfl
  rotate_left
  · simp only [Act.put, List.setIfInBounds_toArray, List.set_cons_zero, List.set_cons_succ, i64_w, i32_w]
    rfl
  refine take_ (i := 4) (N := some 28) (v := ?_) (a' := ?_) #[true, true, true, true, true, false, true, false, false, false, false, false, false] rfl rfl (by kernel_rfl) (fun _ _ _ h => h) (Or.inl ⟨by rfl, ?_⟩) hHeld ?_ ?_
  rotate_left
  · rintro w' ⟨s0, s1, s2, s3, s4⟩
    go_simp
    with_reducible rfl
  rotate_left
  · simp only [Act.put, List.setIfInBounds_toArray, List.set_cons_zero, List.set_cons_succ, i64_w, i32_w]
    rfl
  refine one_ (i := 5) (N := some 29) #[true, true, true, true, true, true, true, false, false, false, false, false, false] rfl rfl (by kernel_rfl) (by decide) (fun K hK => ?_)
  refine value_ (w1 := ?_) (v := ?_) (by rfl) rfl ?_ ?_
  rotate_left 2
  · go_simp
    constructor
    · rfl
    · rfl
  refine hK.out _ _ ⟨pw_cell_below (below_alloc (below_drew (Below.refl _ _)) _) zW4_0, pw_cell_below (below_alloc (below_drew (Below.refl _ _)) _) zW4_1, pw_cell_below (below_alloc (below_drew (Below.refl _ _)) _) zW4_2, pw_cell_below (below_alloc (below_drew (Below.refl _ _)) _) zW4_3, pw_cell_below (below_alloc (below_drew (Below.refl _ _)) _) zW4_4⟩ (fun hHeld => ?_)
  clear hK K
  refine norm_ (a' := ?_) ?_ ?_
  rotate_left
  · show Act.put _ (some 29) _ = _
    simp only [Act.put, List.setIfInBounds_toArray, List.set_cons_zero, List.set_cons_succ, i64_w, i32_w]
    rfl
  refine one_ (i := 7) (N := some 31) #[true, true, true, true, true, true, true, true, false, false, false, false, false] rfl rfl (by kernel_rfl) (by decide) (fun K hK => ?_)
  refine Kd.R_append_rows_step (Kd.int .i64) (w0 := w2) w2.heap.size (by rfl) (.tmp 29) (.tmp 30) 22 3 (.int .i64 0) 8 rfl Try.underlying22 info3' rfl (by decide) (by decide) (.slice (some ⟨w2.heap.size, 0, none⟩) 0 0) [] v A0 v.length c0 (fun _ => True) (fun _ => False) rfl rfl ?aO ?aR (fun _ _ h => h) (fun _ h => h.elim) (fun _ _ => trivial) ?aB ?aS ?aL ?_
  (case aO => exact Kd.R_of_own (own_lit w2.drew w2.heap.size 3 .i64 [] (Nat.le_refl _) (by simp)) (fun _ _ => trivial))
  (case aR => exact Kd.C_alloc (Kd.C_drew Cv3.out) _)
  (case aB => exact below_alloc (below_drew (Below.refl _ _)) _)
  (case aS => show w2.heap.size ≤ (w2.alloc _).heap.size; rw [World.size_alloc]; exact Nat.le_succ _)
  (case aL => simp; omega)
  intro v7 w7 hR7 hb7 hg7 hat7
  rw [List.nil_append] at hR7
  obtain ⟨B7, c7, rfl⟩ := Kd.R_slice hR7
  have HB7 := Aside0.mk hb7
  have B7W : Aside0 (w7.heap[g]? = some (.cells #[.int .i64 nd, .int .i64 lf, .int .i64 tk, .slice (some ⟨b, 0, none⟩) seen.length c, .int .i64 ag] 78 (0, 0))) := ⟨blk_below BW3.out hb7⟩
  have R7L := Aside0.mk (Kd.R_below RL3.out hb7)
  have HM7 : Aside0 (kI.M w7 (g + 1) (fun k => True ∧ some k ≠ (Value.slice (some ⟨b, 0, none⟩) seen.length c).ownBlock) v [.slice B7 v.length c7]) := ⟨⟨_, rfl, Kd.R_lower (Kd.R_newR hR7 RL3.out) HSZ.out⟩⟩
  clear hR7 hb7 hg7 hat7
  refine hK.out _ _ ⟨pw_cell_below HB7.out zW4_0, pw_cell_below HB7.out zW4_1, pw_cell_below HB7.out zW4_2, pw_cell_below HB7.out zW4_3, pw_cell_below HB7.out zW4_4⟩ (fun hHeld => ?_)
  clear hK K
  refine norm_ (a' := ?_) ?_ ?_
  rotate_left
  · show Act.put _ (some 31) _ = _
    simp only [Act.put, List.setIfInBounds_toArray, List.set_cons_zero, List.set_cons_succ, i64_w, i32_w]
    rfl
  refine one_ (i := 8) (N := some 32) #[true, true, true, true, true, true, true, true, true, false, false, false, false] rfl rfl (by kernel_rfl) (by decide) (fun K hK => ?_)
  refine value_ (w1 := ?_) (v := ?_) (by rfl) rfl ?_ ?_
  rotate_left 2
  · go_simp
    constructor
    · rfl
    · rfl
  refine hK.out _ _ ⟨pw_cell_below (below_alloc (Below.refl _ _) _) (pw_cell_below HB7.out zW4_0), pw_cell_below (below_alloc (Below.refl _ _) _) (pw_cell_below HB7.out zW4_1), pw_cell_below (below_alloc (Below.refl _ _) _) (pw_cell_below HB7.out zW4_2), pw_cell_below (below_alloc (Below.refl _ _) _) (pw_cell_below HB7.out zW4_3), pw_cell_below (below_alloc (Below.refl _ _) _) (pw_cell_below HB7.out zW4_4)⟩ (fun hHeld => ?_)
  clear hK K
  refine norm_ (a' := ?_) ?_ ?_
  rotate_left
  · show Act.put _ (some 32) _ = _
    simp only [Act.put, List.setIfInBounds_toArray, List.set_cons_zero, List.set_cons_succ, i64_w, i32_w]
    rfl
  refine one_ (i := 9) (N := some 33) #[true, true, true, true, true, true, true, true, true, true, false, false, false] rfl rfl (by kernel_rfl) (by decide) (fun K hK => ?_)
  refine Kd.R_append_step kI (w0 := w7) (g + 1) (by rfl) (.tmp 28) (.tmp 32) 42 22 (.slice none 0 0) 24 rfl Try.underlying42 info22' rfl (by decide) (by decide) (.slice (some ⟨b, 0, none⟩) seen.length c) seen v [.slice B7 v.length c7] (fun _ => True) (fun k => True ∧ some k ≠ (Value.slice (some ⟨b, 0, none⟩) seen.length c).ownBlock) rfl rfl HM7.out (fun _ hk => hk) (fun _ _ => trivial) R7L.out (Below.refl _ _) (Nat.le_trans HSZ.out HB7.out.size) (by omega) ?_
  intro v9 w9 hR9 hb9 hg9 hat9
  have hln : (seen ++ [v]).length = seen.length + 1 := by simp
  obtain ⟨A9, c9, rfl⟩ := Kd.R_slice hR9
  rw [hln] at hR9
  have HR9 := Aside0.mk hR9
  have HG9 := Aside0.mk hg9
  have B9W : Aside0 (w9.heap[g]? = some (.cells #[.int .i64 nd, .int .i64 lf, .int .i64 tk, .slice (some ⟨b, 0, none⟩) seen.length c, .int .i64 ag] 78 (0, 0))) := ⟨blk_grown B7W.out hg9 (Kd.R_ne R7L.out B7W.out (by decide))⟩
  clear hR9 hb9 hg9 hat9
  have k2 : w9.cell? ⟨g, 3, none⟩ = some (.slice (some ⟨b, 0, none⟩) seen.length c) := (blk_cell B9W.out 3).trans rfl
  have f2 := blk_frozen B9W.out 3
  refine hK.out _ _ ⟨(blk_cell B9W.out 0).trans rfl, (blk_cell B9W.out 1).trans rfl, (blk_cell B9W.out 2).trans rfl, (blk_cell B9W.out 3).trans rfl, (blk_cell B9W.out 4).trans rfl⟩ (fun hHeld => ?_)
  clear hK K
  refine norm_ (a' := ?_) ?_ ?_
  rotate_left
  · show Act.put _ (some 33) _ = _
    simp only [Act.put, List.setIfInBounds_toArray, List.set_cons_zero, List.set_cons_succ, i64_w, i32_w]
    rfl
  refine pure_ (i := 10) (N := some 34) (v := ?_) (a' := ?_) #[true, true, true, true, true, true, true, true, true, true, true, false, false] rfl rfl (by kernel_rfl) (fun _ _ _ h => h) (Or.inl ⟨by rfl, ?_⟩) ?_ ?_
  rotate_left
  · intro w'
    go_simp
    with_reducible rfl
  rotate_left
  · simp only [Act.put, List.setIfInBounds_toArray, List.set_cons_zero, List.set_cons_succ, i64_w, i32_w]
    rfl
  refine pure_ (i := 11) (N := some 35) (v := ?_) (a' := ?_) #[true, true, true, true, true, true, true, true, true, true, true, true, false] rfl rfl (by kernel_rfl) (fun _ _ _ h => h) (Or.inl ⟨by rfl, ?_⟩) ?_ ?_
  rotate_left
  · intro w'
    go_simp
    with_reducible rfl
  rotate_left
  · simp only [Act.put, List.setIfInBounds_toArray, List.set_cons_zero, List.set_cons_succ, i64_w, i32_w]
    rfl
  refine last_ (i := 12) (N := none) #[true, true, true, true, true, true, true, true, true, true, true, true, true] rfl rfl (by kernel_rfl) (by decide) (fun K hK => ?_)
  refine skip_ (w1 := ?_) (by rfl) rfl ?_ ?_
  rotate_left
  · go_simp
    rfl
  refine hK.out _ _ ?_
  clear hK K
  refine done_ (by kernel_rfl) ?_
  clear zW4_0 zW4_1 zW4_2 zW4_3 zW4_4
  clear k2 f2
  have hln : (seen ++ [v]).length = seen.length + 1 := by simp
  obtain ⟨wA, hwA⟩ : ∃ x : World, x = w9.setCell ⟨g, 3, none⟩ (.slice A9 (seen.length + 1) c9) := ⟨_, rfl⟩
  have BA : Aside0 (wA.heap[g]? = some (.cells #[.int .i64 nd, .int .i64 lf, .int .i64 tk, .slice A9 (seen.length + 1) c9, .int .i64 ag] 78 (0, 0))) := ⟨by rw [hwA]; exact blk_put (cs := #[.int .i64 nd, .int .i64 lf, .int .i64 tk, .slice (some ⟨b, 0, none⟩) seen.length c, .int .i64 ag]) B9W.out 3 _ rfl⟩
  have HGA : Aside0 (w9.grownBy wA (some g)) := ⟨by rw [hwA]; exact grown_set _ _ _ _⟩
  have RA : Aside0 (kI.R 22 wA (g + 1) (fun _ => True) (.slice A9 (seen.length + 1) c9) (seen ++ [v])) := ⟨by rw [hwA]; exact Kd.R_set HR9.out B9W.out (by decide) 3 _⟩
  first | rw [← hwA] | (rw [← hln, ← hwA]) | (rw [hln, ← hwA])
  clear hwA
  have kA : wA.cell? ⟨g, 4, none⟩ = some (.int .i64 ag) := (blk_cell BA.out 4).trans rfl
  have fA := blk_frozen BA.out 4
  go_wp2_with fail
  first | go_end0 | ((try simp only [Exit.inBlock, Exit.then]); refine bodyPost_ret (results_none rfl _ _ _) rfl ?_)
  have hpost : (wA.setCell ⟨g, 4, none⟩ (.int .i64 0)).heap[g]? = some (.cells #[.int .i64 nd, .int .i64 lf, .int .i64 tk, .slice A9 (seen.length + 1) c9, .int .i64 0] 78 (0, 0)) := blk_put (cs := #[.int .i64 nd, .int .i64 lf, .int .i64 tk, .slice A9 (seen.length + 1) c9, .int .i64 ag]) BA.out 4 _ rfl
  refine ⟨rfl, ⟨A9, c9, by rw [hln]; exact hpost, by rw [hln]; exact Kd.R_set RA.out BA.out (by decide) 4 _, ok_seen HOK.out hsl hvl⟩, ?_⟩
  exact FRT.trans (FRT.of_below (Nat.le_of_lt hgl) HB3.out) (FRT.trans (FRT.of_below (Nat.le_of_succ_le HSZ.out) HB7.out) (FRT.made B7W.out R7L.out HG9.out (HGA.out.trans (grown_set _ _ _ _))))
end Go.Proofs.Ytimfbdiiaakhiaa.MAll

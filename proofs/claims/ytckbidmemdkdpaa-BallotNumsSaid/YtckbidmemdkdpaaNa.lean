/- Registers: copies with a mark behind the value. -/
import Derived.Test.YtckbidmemdkdpaaSm
import Derived.Test.YtckbidmemdkdpaaAlive09
import Derived.Test.YtckbidmemdkdpaaKit
import Derived.Deep.DrawnRows
set_option linter.unusedVariables false
set_option linter.unusedSimpArgs false
namespace Go.Proofs.Ytckbidmemdkdpaa.MAll
open Go.RowKit Go.Proofs.YtckbidmemdkdpaaW.PrintWords Go.Proofs.YtckbidmemdkdpaaW.PrintLast Go.Proofs.YtckbidmemdkdpaaW.PrintMore
attribute [local go_sem ↓] Go.wp_at_zero Go.wp_at_succ
theorem info3' : (Try.prog.info? 3).map (fun i => (i.zero, i.size, i.bytes)) = some (some (.int .i64 0), 1, 8) := by kernel_rfl
/-- A value with room for a mark behind it, and the mark. -/
def MarkC (w : World) (A : Option Addr) (c : Nat) (l : List Int) : Prop := l.length + 1 ≤ c ∧ (Kd.int .i64).C w A (l.length + 1) (l ++ [-77])
theorem MarkC.below {w w1 : World} {A : Option Addr} {c : Nat} {l : List Int} (h : MarkC w A c l) (hb : Below w.heap.size w w1) : MarkC w1 A c l := ⟨h.1, Kd.C_below h.2 hb⟩
theorem MarkC.C {w : World} {A : Option Addr} {c : Nat} {l : List Int} (h : MarkC w A c l) : (Kd.int .i64).C w A l.length l := by
  have hm := Kd.C_max h.2
  obtain ⟨_, _, hc0⟩ := Kd.reads_of_C (d := 0) h.2
  obtain ⟨ad, rfl, hc⟩ := hc0 (by omega)
  refine Kd.C_of_reads (d := 0) ⟨rfl, by omega, fun h0 => ⟨ad, rfl, fun j hj => ?_⟩⟩
  rw [hc j (by omega)]
  simp [List.getD_eq_getElem?_getD, List.getElem?_append_left hj]
theorem MarkC.mark {w : World} {A : Option Addr} {c : Nat} {l : List Int} (h : MarkC w A c l) : ∃ ad, A = some ad ∧ w.cell? (ad.add l.length) = some (.int .i64 (-77)) := by
  obtain ⟨_, _, hc0⟩ := Kd.reads_of_C (d := 0) h.2
  obtain ⟨ad, rfl, hc⟩ := hc0 (by omega)
  refine ⟨ad, rfl, ?_⟩
  rw [hc l.length (by omega)]
  simp [rdOf]
theorem made_R (W : World) (base n : Nat) (hb : base ≤ W.heap.size) (hn : n ≤ 9223372036854775807) : (Kd.int .i64).R 3 (W.alloc (.cells (madeCells #[.int .i64 0] n) 3)) base (fun _ => True) (.slice (some ⟨W.heap.size, 0, none⟩) 0 n) [] :=
  Kd.R_of_own (World.ownsRow_made W _ _ hb (by simpa [maxLen] using hn) (by rw [size_madeCells]; simp)) (fun _ _ => trivial)
theorem lit_C {W : World} {g : Nat} (h : W.heap[g]? = some (.cells #[.int .i64 (-77)] 3 (0, 0))) : (Kd.int .i64).C W (some ⟨g, 0, none⟩) 1 [-77] :=
  Kd.C_of_reads (d := 0) ⟨rfl, by simp, fun _ => ⟨_, rfl, fun j hj => by
    obtain rfl : j = 0 := by simp at hj; omega
    rw [add_plain]
    exact (blk_cell h 0).trans rfl⟩⟩
theorem lit_before {wb w2 : World} {m : Nat} {row : Option Nat} (hg : ((wb.drew.alloc (.cells #[.int .i64 (-77)] 3)).alloc (.cells (madeCells #[.int .i64 0] m) 3)).grownBy w2 row) (hne : row ≠ some wb.heap.size) : w2.heap[wb.heap.size]? = some (.cells #[.int .i64 (-77)] 3 (0, 0)) := by
  refine (hg.block _ (by simp; omega) (fun e => hne e.symm)).trans (blk_alloc ?_ _)
  exact blk_new wb.drew _
theorem lit_behind {wb w2 : World} {m : Nat} {row : Option Nat} (hg : ((wb.drew.alloc (.cells (madeCells #[.int .i64 0] m) 3)).alloc (.cells #[.int .i64 (-77)] 3)).grownBy w2 row) (hne : row ≠ some (wb.heap.size + 1)) : w2.heap[wb.heap.size + 1]? = some (.cells #[.int .i64 (-77)] 3 (0, 0)) := by
  refine (hg.block _ (by simp) (fun e => hne e.symm)).trans ?_
  have := blk_new (wb.drew.alloc (.cells (madeCells #[.int .i64 0] m) 3)) (.cells #[.int .i64 (-77)] 3)
  rwa [World.size_alloc] at this

theorem R_far3 {W W1 : World} {q t bb : Nat} {cs : Array Value} {u : Value} {xs : List Int} (h : (Kd.int .i64).R 3 W bb (fun _ => True) u xs) (hq : W.heap[q]? = some (.cells cs t (0, 0))) (h3 : 3 ≠ t) (hg : W.grownBy W1 (some q)) : (Kd.int .i64).R 3 W1 bb (fun _ => True) u xs := by
  refine Kd.R_mono (Kd.R_grown (Kd.R_types h hq (fun q hq => ?_)) hg (fun k hk => by simpa using hk.2)) (fun _ _ => trivial)
  have hq3 : q = 3 := by simpa [Kd.int, Kd.scalar] using hq
  rw [hq3]; exact h3
theorem C_of_R {w : World} {bb n c : Nat} {A : Option Addr} {xs : List Int} {ok : Nat → Prop} (h : (Kd.int .i64).R 3 w bb ok (.slice A n c) xs) : (Kd.int .i64).C w A n xs := by
  obtain ⟨rfl, _, h⟩ := Kd.R_reads' h
  exact h
set_option maxHeartbeats 4000000 in
set_option maxRecDepth 100000 in
theorem copied_any (r : Reg) (A : Option Addr) (c : Nat) (w : World) (hr : (Kd.int .i64).C w A r.2.2.length r.2.2) (hc : r.2.2.length ≤ c) (hl : r.2.2.length < 1000000) :
    Calls Try.prog 10 #[.agg (regA r A c)] w fun e w' => ∃ B b, e = .returned (.agg (regA r B b)) ∧ MarkC w' B b r.2.2 ∧ Below w.heap.size w w' := by
  have HR := Aside0.mk hr
  clear hr
  have hmk := Go.run_make_room (P := Try.prog) 24 3 (.int .i64 0) 8 Try.underlying24 info3' rfl .i64 .i64 (r.2.2.length + 1) (by omega) (by omega)
  rw [show ((r.2.2.length + 1 : Nat) : Int) = (r.2.2.length : Int) + 1 by omega] at hmk
  have hw2 : wrap64 ((r.2.2.length : Int) + 1) = (r.2.2.length : Int) + 1 := by unfold wrap64; omega
  have hu26 := Try.underlying26
  have hu23 := Try.underlying23
  have hu24 := Try.underlying24
  go_enter Try.func10, Try.ntmps10
  go_upto_region 1 with fail
  obtain ⟨W1, hw1⟩ : ∃ x : World, x = (w.alloc (.cells #[.int .i64 r.1.1, .int .i64 r.1.2.1, .int .i64 r.1.2.2, .int .i64 r.2.1.1, .int .i64 r.2.1.2.1, .int .i64 r.2.1.2.2, .slice A r.2.2.length c] 26)).alloc (.cells #[.int .i64 0, .int .i64 0, .int .i64 0, .int .i64 0, .int .i64 0, .int .i64 0, .slice none 0 0] 26) := ⟨_, rfl⟩
  have hbs1 : Below w.heap.size w W1 := by rw [hw1]; repeat (first | exact Below.refl _ _ | refine below_alloc ?_ _ | refine below_drew ?_)
  obtain ⟨gc1, hgc1⟩ : ∃ x, x = w.heap.size := ⟨_, rfl⟩
  have GSc1 : Aside0 (w.heap.size ≤ gc1) := ⟨by rw [hgc1]; omega⟩
  have Bc1 : Aside0 (W1.heap[gc1]? = some (.cells #[.int .i64 r.1.1, .int .i64 r.1.2.1, .int .i64 r.1.2.2, .int .i64 r.2.1.1, .int .i64 r.2.1.2.1, .int .i64 r.2.1.2.2, .slice A r.2.2.length c] 26 (0, 0))) := ⟨by rw [hw1, hgc1]; exact blk_alloc (blk_new _ _) _⟩
  obtain ⟨gr1, hgr1⟩ : ∃ x, x = w.heap.size + 1 := ⟨_, rfl⟩
  have GSr1 : Aside0 (w.heap.size ≤ gr1) := ⟨by rw [hgr1]; omega⟩
  have Br1 : Aside0 (W1.heap[gr1]? = some (.cells #[.int .i64 0, .int .i64 0, .int .i64 0, .int .i64 0, .int .i64 0, .int .i64 0, .slice none 0 0] 26 (0, 0))) := ⟨by rw [hw1, hgr1]; have := blk_new (w.alloc (.cells #[.int .i64 r.1.1, .int .i64 r.1.2.1, .int .i64 r.1.2.2, .int .i64 r.2.1.1, .int .i64 r.2.1.2.1, .int .i64 r.2.1.2.2, .slice A r.2.2.length c] 26)) (.cells #[.int .i64 0, .int .i64 0, .int .i64 0, .int .i64 0, .int .i64 0, .int .i64 0, .slice none 0 0] 26); rwa [World.size_alloc] at this⟩
  rw [← hw1]
  rw [← hgr1]
  rw [← hgc1]
  have HNEcr := Aside0.mk (show gc1 ≠ gr1 by omega)
  clear hw1 hgc1 hgr1
  have HB2 := Aside0.mk hbs1
  have Cv2 := Aside0.mk (Kd.C_below HR.out hbs1)
  clear hbs1
  have z6 : W1.cell? ⟨gc1, 6, none⟩ = some (.slice A r.2.2.length c) := (blk_cell Bc1.out 6).trans rfl
  refine start_ (n := 16) (S := fun w' => w'.cell? ⟨gc1, 6, none⟩ = some (.slice A r.2.2.length c)) (ds := [15]) #[false, false, false, false, false, false, false, false, false, false, false, false, false, false, false, false] (by kernel_rfl) rfl rfl (z6) (fun hHeld => ?_)
  refine pure_ (i := 0) (N := some 3) (v := ?_) (a' := ?_) #[true, false, false, false, false, false, false, false, false, false, false, false, false, false, false, false] rfl rfl (by kernel_rfl) (fun _ _ _ h => h) (Or.inl ⟨by rfl, ?_⟩) ?_ ?_
  rotate_left
  · intro w'
    go_simp
    with_reducible rfl
  rotate_left
  · simp only [Act.put, List.setIfInBounds_toArray, List.set_cons_zero, List.set_cons_succ, i64_w, i32_w]
    rfl
  refine pure_ (i := 5) (N := some 8) (v := ?_) (a' := ?_) #[true, false, false, false, false, true, false, false, false, false, false, false, false, false, false, false] rfl rfl (by kernel_rfl) (fun _ _ _ h => h) (Or.inl ⟨by rfl, ?_⟩) ?_ ?_
  rotate_left
  · intro w'
    go_simp
    with_reducible rfl
  rotate_left
  · simp only [Act.put, List.setIfInBounds_toArray, List.set_cons_zero, List.set_cons_succ, i64_w, i32_w]
    rfl
  refine pure_ (i := 10) (N := some 13) (v := ?_) (a' := ?_) #[true, false, false, false, false, true, false, false, false, false, true, false, false, false, false, false] rfl rfl (by kernel_rfl) (fun _ _ _ h => h) (Or.inl ⟨by rfl, ?_⟩) ?_ ?_
  rotate_left
  · intro w'
    go_simp
    with_reducible rfl
  rotate_left
  · simp only [Act.put, List.setIfInBounds_toArray, List.set_cons_zero, List.set_cons_succ, i64_w, i32_w]
    rfl
  refine take_ (i := 1) (N := some 4) (v := ?_) (a' := ?_) #[true, true, false, false, false, true, false, false, false, false, true, false, false, false, false, false] rfl rfl (by kernel_rfl) (fun _ _ _ h => h) (Or.inl ⟨by rfl, ?_⟩) hHeld ?_ ?_
  rotate_left
  · intro w' s0
    go_simp
    with_reducible rfl
  rotate_left
  · simp only [Act.put, List.setIfInBounds_toArray, List.set_cons_zero, List.set_cons_succ, i64_w, i32_w]
    rfl
  refine pure_ (i := 2) (N := some 5) (v := ?_) (a' := ?_) #[true, true, true, false, false, true, false, false, false, false, true, false, false, false, false, false] rfl rfl (by kernel_rfl) (fun _ _ _ h => h) (Or.inl ⟨by rfl, ?_⟩) ?_ ?_
  rotate_left
  · intro w'
    go_simp
    with_reducible rfl
  rotate_left
  · simp only [Act.put, List.setIfInBounds_toArray, List.set_cons_zero, List.set_cons_succ, i64_w, i32_w]
    rfl
  refine pure_ (i := 3) (N := some 6) (v := ?_) (a' := ?_) #[true, true, true, true, false, true, false, false, false, false, true, false, false, false, false, false] rfl rfl (by kernel_rfl) (fun _ _ _ h => h) (Or.inl ⟨by rfl, ?_⟩) ?_ ?_
  rotate_left
  · intro w'
    go_simp
    with_reducible rfl
  rotate_left
  · simp only [Act.put, List.setIfInBounds_toArray, List.set_cons_zero, List.set_cons_succ, i64_w, i32_w]
    rfl
  refine take_ (i := 6) (N := some 9) (v := ?_) (a' := ?_) #[true, true, true, true, false, true, true, false, false, false, true, false, false, false, false, false] rfl rfl (by kernel_rfl) (fun _ _ _ h => h) (Or.inl ⟨by rfl, ?_⟩) hHeld ?_ ?_
  rotate_left
  · intro w' s0
    go_simp
    with_reducible rfl
  rotate_left
  · simp only [Act.put, List.setIfInBounds_toArray, List.set_cons_zero, List.set_cons_succ, i64_w, i32_w]
    rfl
  refine take_ (i := 11) (N := some 14) (v := ?_) (a' := ?_) #[true, true, true, true, false, true, true, false, false, false, true, true, false, false, false, false] rfl rfl (by kernel_rfl) (fun _ _ _ h => h) (Or.inl ⟨by rfl, ?_⟩) hHeld ?_ ?_
  rotate_left
  · intro w' s0
    go_simp
    with_reducible rfl
  rotate_left
  · simp only [Act.put, List.setIfInBounds_toArray, List.set_cons_zero, List.set_cons_succ, i64_w, i32_w]
    rfl
  refine pure_ (i := 12) (N := some 15) (v := ?_) (a' := ?_) #[true, true, true, true, false, true, true, false, false, false, true, true, true, false, false, false] rfl rfl (by kernel_rfl) (fun _ _ _ h => h) (Or.inl ⟨by rfl, ?_⟩) ?_ ?_
  rotate_left
  · intro w'
    go_simp
    with_reducible rfl
  rotate_left
  · simp only [Act.put, List.setIfInBounds_toArray, List.set_cons_zero, List.set_cons_succ, i64_w, i32_w]
    rfl
  refine join_ (σ := Nat × Value × Nat) 4 #[true, true, true, true, true, true, true, true, true, false, true, true, true, false, false, false] (fun s => [(7, .slice (some ⟨s.1, 0, none⟩) 0 (r.2.2.length + 1)), (10, s.2.1), (11, .slice (some ⟨s.2.2, 0, none⟩) 1 1)]) (fun s w' => w'.cell? ⟨gc1, 6, none⟩ = some (.slice A r.2.2.length c) ∧ (Kd.int .i64).R 3 w' W1.heap.size (fun _ => True) s.2.1 r.2.2 ∧ (Kd.int .i64).C w' (some ⟨s.2.2, 0, none⟩) 1 [-77] ∧ Below W1.heap.size W1 w') ?_ ?_
  rotate_left
  · intro hCont
    refine two_ (i := 4) (j := 8) (Ni := some 7) (Nj := some 11) #[true, true, true, true, true, true, true, false, false, false, true, true, true, false, false, false] #[true, true, true, true, false, true, true, false, true, false, true, true, true, false, false, false] rfl rfl rfl rfl (by kernel_rfl) (by decide) (by decide) (fun K hK => ?_) (fun K hK => ?_)
    · skip
      refine value_ (w1 := ?_) (v := ?_) (by rfl) rfl ?_ ?_
      rotate_left 2
      · go_simp
        constructor
        · rfl
        · rfl
      refine hK.out _ _ (pw_cell_below (by repeat (first | exact Below.refl _ _ | apply below_alloc | apply below_drew)) z6) (fun hHeld => ?_)
      clear hK K
      refine norm_ (a' := ?_) ?_ ?_
      rotate_left
      · show Act.put _ (some 7) _ = _
        simp only [Act.put, List.setIfInBounds_toArray, List.set_cons_zero, List.set_cons_succ, i64_w, i32_w]
        rfl
      refine two_ (i := 7) (j := 8) (Ni := some 10) (Nj := some 11) #[true, true, true, true, true, true, true, true, false, false, true, true, true, false, false, false] #[true, true, true, true, true, true, true, false, true, false, true, true, true, false, false, false] rfl rfl rfl rfl (by kernel_rfl) (by decide) (by decide) (fun K hK => ?_) (fun K hK => ?_)
      · skip
        refine Kd.R_append_rows_step (Kd.int .i64) (w0 := W1) W1.heap.size (by rfl) (.tmp 7) (.tmp 9) 24 3 (.int .i64 0) 8 rfl Try.underlying24 info3' rfl (by decide) (by decide) (.slice (some ⟨W1.heap.size, 0, none⟩) 0 (r.2.2.length + 1)) [] r.2.2 A r.2.2.length c (fun _ => True) (fun _ => False) rfl rfl ?aO ?aR (fun _ _ h => h) (fun _ h => h.elim) (fun _ _ => trivial) ?aB ?aS ?aL ?_
        (case aO => exact made_R W1.drew _ _ (by simp) (by omega))
        (case aR => repeat (first | exact Cv2.out | apply Kd.C_alloc | apply Kd.C_drew))
        (case aB => repeat (first | exact Below.refl _ _ | apply below_alloc | apply below_drew))
        (case aS => first | (simp; done) | (simp; omega))
        (case aL => simp; omega)
        intro v7 w7 hR7 hb7 hg7 hat7
        rw [List.nil_append] at hR7
        have HO7 := Aside0.mk hR7
        have HB7 := Aside0.mk hb7
        clear hR7 hb7 hg7 hat7
        refine hK.out _ _ (pw_cell_below HB7.out z6) (fun hHeld => ?_)
        clear hK K
        refine norm_ (a' := ?_) ?_ ?_
        rotate_left
        · show Act.put _ (some 10) _ = _
          simp only [Act.put, List.setIfInBounds_toArray, List.set_cons_zero, List.set_cons_succ, i64_w, i32_w]
          rfl
        refine one_ (i := 8) (N := some 11) #[true, true, true, true, true, true, true, true, true, false, true, true, true, false, false, false] rfl rfl (by kernel_rfl) (by decide) (fun K hK => ?_)
        refine value_ (w1 := ?_) (v := ?_) (by rfl) rfl ?_ ?_
        rotate_left 2
        · go_simp
          constructor
          · rfl
          · rfl
        refine hK.out _ _ (pw_cell_below (below_alloc (Below.refl _ _) _) (pw_cell_below HB7.out z6)) (fun hHeld => ?_)
        clear hK K
        refine norm_ (a' := ?_) ?_ ?_
        rotate_left
        · show Act.put _ (some 11) _ = _
          simp only [Act.put, List.setIfInBounds_toArray, List.set_cons_zero, List.set_cons_succ, i64_w, i32_w]
          rfl
        exact norm_ (by simp only [putAll, Act.put, List.setIfInBounds_toArray, List.set_cons_zero, List.set_cons_succ]) (hCont (W1.heap.size, v7, w7.heap.size) _ ⟨pw_cell_below (below_alloc (Below.refl _ _) _) (pw_cell_below HB7.out z6), Kd.R_alloc HO7.out _, lit_C (blk_new w7 _), below_alloc HB7.out _⟩)
      · skip
        refine value_ (w1 := ?_) (v := ?_) (by rfl) rfl ?_ ?_
        rotate_left 2
        · go_simp
          constructor
          · rfl
          · rfl
        refine hK.out _ _ (pw_cell_below (by repeat (first | exact Below.refl _ _ | apply below_alloc | apply below_drew)) z6) (fun hHeld => ?_)
        clear hK K
        refine norm_ (a' := ?_) ?_ ?_
        rotate_left
        · show Act.put _ (some 11) _ = _
          simp only [Act.put, List.setIfInBounds_toArray, List.set_cons_zero, List.set_cons_succ, i64_w, i32_w]
          rfl
        refine one_ (i := 7) (N := some 10) #[true, true, true, true, true, true, true, true, true, false, true, true, true, false, false, false] rfl rfl (by kernel_rfl) (by decide) (fun K hK => ?_)
        refine Kd.R_append_rows_step (Kd.int .i64) (w0 := W1) W1.heap.size (by rfl) (.tmp 7) (.tmp 9) 24 3 (.int .i64 0) 8 rfl Try.underlying24 info3' rfl (by decide) (by decide) (.slice (some ⟨W1.heap.size, 0, none⟩) 0 (r.2.2.length + 1)) [] r.2.2 A r.2.2.length c (fun _ => True) (fun _ => False) rfl rfl ?aO ?aR (fun _ _ h => h) (fun _ h => h.elim) (fun _ _ => trivial) ?aB ?aS ?aL ?_
        (case aO => exact Kd.R_alloc (made_R W1.drew _ _ (by simp) (by omega)) _)
        (case aR => repeat (first | exact Cv2.out | apply Kd.C_alloc | apply Kd.C_drew))
        (case aB => repeat (first | exact Below.refl _ _ | apply below_alloc | apply below_drew))
        (case aS => first | (simp; done) | (simp; omega))
        (case aL => simp; omega)
        intro v7 w7 hR7 hb7 hg7 hat7
        rw [List.nil_append] at hR7
        have HO7 := Aside0.mk hR7
        have HB7 := Aside0.mk hb7
        have HLT := Aside0.mk (lit_C (lit_behind hg7 (by simp [Value.ownBlock])))
        clear hR7 hb7 hg7 hat7
        refine hK.out _ _ (pw_cell_below HB7.out z6) (fun hHeld => ?_)
        clear hK K
        refine norm_ (a' := ?_) ?_ ?_
        rotate_left
        · show Act.put _ (some 10) _ = _
          simp only [Act.put, List.setIfInBounds_toArray, List.set_cons_zero, List.set_cons_succ, i64_w, i32_w]
          rfl
        exact norm_ (by simp only [putAll, Act.put, List.setIfInBounds_toArray, List.set_cons_zero, List.set_cons_succ]) (hCont (W1.heap.size, v7, W1.heap.size + 1) _ ⟨pw_cell_below HB7.out z6, HO7.out, HLT.out, HB7.out⟩)
    · skip
      refine value_ (w1 := ?_) (v := ?_) (by rfl) rfl ?_ ?_
      rotate_left 2
      · go_simp
        constructor
        · rfl
        · rfl
      refine hK.out _ _ (pw_cell_below (by repeat (first | exact Below.refl _ _ | apply below_alloc | apply below_drew)) z6) (fun hHeld => ?_)
      clear hK K
      refine norm_ (a' := ?_) ?_ ?_
      rotate_left
      · show Act.put _ (some 11) _ = _
        simp only [Act.put, List.setIfInBounds_toArray, List.set_cons_zero, List.set_cons_succ, i64_w, i32_w]
        rfl
      refine one_ (i := 4) (N := some 7) #[true, true, true, true, true, true, true, false, true, false, true, true, true, false, false, false] rfl rfl (by kernel_rfl) (by decide) (fun K hK => ?_)
      refine value_ (w1 := ?_) (v := ?_) (by rfl) rfl ?_ ?_
      rotate_left 2
      · go_simp
        constructor
        · rfl
        · rfl
      refine hK.out _ _ (pw_cell_below (by repeat (first | exact Below.refl _ _ | apply below_alloc | apply below_drew)) z6) (fun hHeld => ?_)
      clear hK K
      refine norm_ (a' := ?_) ?_ ?_
      rotate_left
      · show Act.put _ (some 7) _ = _
        simp only [Act.put, List.setIfInBounds_toArray, List.set_cons_zero, List.set_cons_succ, i64_w, i32_w]
        rfl
      refine one_ (i := 7) (N := some 10) #[true, true, true, true, true, true, true, true, true, false, true, true, true, false, false, false] rfl rfl (by kernel_rfl) (by decide) (fun K hK => ?_)
      refine Kd.R_append_rows_step (Kd.int .i64) (w0 := W1) W1.heap.size (by rfl) (.tmp 7) (.tmp 9) 24 3 (.int .i64 0) 8 rfl Try.underlying24 info3' rfl (by decide) (by decide) (.slice (some ⟨W1.heap.size + 1, 0, none⟩) 0 (r.2.2.length + 1)) [] r.2.2 A r.2.2.length c (fun _ => True) (fun _ => False) rfl rfl ?aO ?aR (fun _ _ h => h) (fun _ h => h.elim) (fun _ _ => trivial) ?aB ?aS ?aL ?_
      (case aO => exact (by have h := made_R (W1.drew.alloc (.cells #[.int .i64 (-77)] 3)) W1.heap.size (r.2.2.length + 1) (by simp) (by omega); rw [show (W1.drew.alloc (.cells #[.int .i64 (-77)] 3)).heap.size = W1.heap.size + 1 from World.size_alloc _ _] at h; exact h))
      (case aR => repeat (first | exact Cv2.out | apply Kd.C_alloc | apply Kd.C_drew))
      (case aB => repeat (first | exact Below.refl _ _ | apply below_alloc | apply below_drew))
      (case aS => first | (simp; done) | (simp; omega))
      (case aL => simp; omega)
      intro v7 w7 hR7 hb7 hg7 hat7
      rw [List.nil_append] at hR7
      have HO7 := Aside0.mk hR7
      have HB7 := Aside0.mk hb7
      have HLT := Aside0.mk (lit_C (lit_before hg7 (by simp [Value.ownBlock])))
      clear hR7 hb7 hg7 hat7
      refine hK.out _ _ (pw_cell_below HB7.out z6) (fun hHeld => ?_)
      clear hK K
      refine norm_ (a' := ?_) ?_ ?_
      rotate_left
      · show Act.put _ (some 10) _ = _
        simp only [Act.put, List.setIfInBounds_toArray, List.set_cons_zero, List.set_cons_succ, i64_w, i32_w]
        rfl
      exact norm_ (by simp only [putAll, Act.put, List.setIfInBounds_toArray, List.set_cons_zero, List.set_cons_succ]) (hCont (W1.heap.size + 1, v7, W1.heap.size) _ ⟨pw_cell_below HB7.out z6, HO7.out, HLT.out, HB7.out⟩)
  rintro ⟨g4, v7, g8⟩ w8 ⟨hHeld, hR8, hC8, hb8⟩
  have y6 := hHeld
  have HO8 := Aside0.mk hR8
  have HC8 := Aside0.mk hC8
  have HB8 := Aside0.mk hb8
  clear hR8 hC8 hb8
  refine norm_ (a' := ?_) ?_ ?_
  rotate_left
  · simp only [putAll, Act.put, List.setIfInBounds_toArray, List.set_cons_zero, List.set_cons_succ]
    rfl
  refine one_ (i := 9) (N := some 12) #[true, true, true, true, true, true, true, true, true, true, true, true, true, false, false, false] rfl rfl (by kernel_rfl) (by decide) (fun K hK => ?_)
  refine Kd.R_append_rows_step (Kd.int .i64) (w0 := W1) W1.heap.size (by rfl) (.tmp 10) (.tmp 11) 24 3 (.int .i64 0) 8 rfl Try.underlying24 info3' rfl (by decide) (by decide) v7 r.2.2 [-77] (some ⟨g8, 0, none⟩) 1 1 (fun _ => True) (fun _ => False) rfl rfl HO8.out HC8.out (fun _ _ h => h) (fun _ h => h.elim) (fun _ _ => trivial) HB8.out HB8.out.size (by omega) ?_
  intro v9 w9 hR9 hb9 hg9 hat9
  obtain ⟨A9, c9, rfl⟩ := Kd.R_slice hR9
  have hlc : r.2.2.length ≤ c9 := by have := (Kd.R_reads' hR9).2.1; simp at this; omega
  have hll : (r.2.2 ++ [-77]).length = r.2.2.length + 1 := by simp
  rw [hll] at hR9
  have HR9 := Aside0.mk hR9
  have HB9 := Aside0.mk hb9
  have BC9 : Aside0 (w9.heap[gc1]? = some (.cells #[.int .i64 r.1.1, .int .i64 r.1.2.1, .int .i64 r.1.2.2, .int .i64 r.2.1.1, .int .i64 r.2.1.2.1, .int .i64 r.2.1.2.2, .slice A r.2.2.length c] 26 (0, 0))) := ⟨blk_below Bc1.out hb9⟩
  have BR9 : Aside0 (w9.heap[gr1]? = some (.cells #[.int .i64 0, .int .i64 0, .int .i64 0, .int .i64 0, .int .i64 0, .int .i64 0, .slice none 0 0] 26 (0, 0))) := ⟨blk_below Br1.out hb9⟩
  clear hR9 hb9 hg9 hat9 y6
  have k6 : w9.cell? ⟨gc1, 6, none⟩ = some (.slice A r.2.2.length c) := (blk_cell BC9.out 6).trans rfl
  have f6 := blk_frozen BC9.out 6
  refine hK.out _ _ (k6) (fun hHeld => ?_)
  clear hK K
  refine norm_ (a' := ?_) ?_ ?_
  rotate_left
  · show Act.put _ (some 12) _ = _
    simp only [Act.put, List.setIfInBounds_toArray, List.set_cons_zero, List.set_cons_succ, i64_w, i32_w]
    rfl
  refine pure_ (i := 13) (N := some 16) (v := ?_) (a' := ?_) #[true, true, true, true, true, true, true, true, true, true, true, true, true, true, false, false] rfl rfl (by kernel_rfl) (fun _ _ _ h => h) (Or.inl ⟨by rfl, ?_⟩) ?_ ?_
  rotate_left
  · intro w'
    go_simp
    with_reducible rfl
  rotate_left
  · simp only [Act.put, List.setIfInBounds_toArray, List.set_cons_zero, List.set_cons_succ, i64_w, i32_w]
    rfl
  refine pure_ (i := 14) (N := some 17) (v := ?_) (a' := ?_) #[true, true, true, true, true, true, true, true, true, true, true, true, true, true, true, false] rfl rfl (by kernel_rfl) (fun _ _ _ h => h) (Or.inl ⟨by rfl, ?_⟩) ?_ ?_
  rotate_left
  · intro w'
    go_simp
    with_reducible rfl
  rotate_left
  · simp only [Act.put, List.setIfInBounds_toArray, List.set_cons_zero, List.set_cons_succ, i64_w, i32_w]
    rfl
  refine last_ (i := 15) (N := none) #[true, true, true, true, true, true, true, true, true, true, true, true, true, true, true, true] rfl rfl (by kernel_rfl) (by decide) (fun K hK => ?_)
  refine skip_ (w1 := ?_) (by rfl) rfl ?_ ?_
  rotate_left
  · go_simp
    rfl
  refine hK.out _ _ ?_
  clear hK K
  refine done_ (by kernel_rfl) ?_
  have BCZ : Aside0 ((w9.setCell ⟨gc1, 6, none⟩ (.slice A9 r.2.2.length c9)).heap[gc1]? = some (.cells #[.int .i64 r.1.1, .int .i64 r.1.2.1, .int .i64 r.1.2.2, .int .i64 r.2.1.1, .int .i64 r.2.1.2.1, .int .i64 r.2.1.2.2, .slice A9 r.2.2.length c9] 26 (0, 0))) := ⟨blk_put (cs := #[.int .i64 r.1.1, .int .i64 r.1.2.1, .int .i64 r.1.2.2, .int .i64 r.2.1.1, .int .i64 r.2.1.2.1, .int .i64 r.2.1.2.2, .slice A r.2.2.length c]) BC9.out 6 _ rfl⟩
  have HRZ := Aside0.mk (R_far3 HR9.out BC9.out (by decide) (grown_set _ _ 6 (.slice A9 r.2.2.length c9)))
  have BRZ : Aside0 ((w9.setCell ⟨gc1, 6, none⟩ (.slice A9 r.2.2.length c9)).heap[gr1]? = some (.cells #[.int .i64 0, .int .i64 0, .int .i64 0, .int .i64 0, .int .i64 0, .int .i64 0, .slice none 0 0] 26 (0, 0))) := ⟨blk_grown BR9.out (grown_set _ _ _ _) (fun e => HNEcr.out (by injection e with e; exact e.symm))⟩
  have HBZ : Aside0 (Below w.heap.size w (w9.setCell ⟨gc1, 6, none⟩ (.slice A9 r.2.2.length c9))) := ⟨below_set (below_step HB2.out HB9.out) GSc1.out⟩
  clear k6 f6 hmk
  obtain ⟨wz, hwz⟩ : ∃ x : World, x = w9.setCell ⟨gc1, 6, none⟩ (.slice A9 r.2.2.length c9) := ⟨_, rfl⟩
  rw [← hwz] at BCZ BRZ HBZ HRZ
  rw [← hwz]
  clear hwz BC9 BR9
  have zc0 : wz.cell? ⟨gc1, 0, none⟩ = some (.int .i64 r.1.1) := (blk_cell BCZ.out 0).trans rfl
  have fr0 := blk_frozen BRZ.out 0
  have zr0 : wz.cell? ⟨gr1, 0, none⟩ = some (.int .i64 0) := (blk_cell BRZ.out 0).trans rfl
  have zc1 : wz.cell? ⟨gc1, 1, none⟩ = some (.int .i64 r.1.2.1) := (blk_cell BCZ.out 1).trans rfl
  have fr1 := blk_frozen BRZ.out 1
  have zr1 : wz.cell? ⟨gr1, 1, none⟩ = some (.int .i64 0) := (blk_cell BRZ.out 1).trans rfl
  have zc2 : wz.cell? ⟨gc1, 2, none⟩ = some (.int .i64 r.1.2.2) := (blk_cell BCZ.out 2).trans rfl
  have fr2 := blk_frozen BRZ.out 2
  have zr2 : wz.cell? ⟨gr1, 2, none⟩ = some (.int .i64 0) := (blk_cell BRZ.out 2).trans rfl
  have zc3 : wz.cell? ⟨gc1, 3, none⟩ = some (.int .i64 r.2.1.1) := (blk_cell BCZ.out 3).trans rfl
  have fr3 := blk_frozen BRZ.out 3
  have zr3 : wz.cell? ⟨gr1, 3, none⟩ = some (.int .i64 0) := (blk_cell BRZ.out 3).trans rfl
  have zc4 : wz.cell? ⟨gc1, 4, none⟩ = some (.int .i64 r.2.1.2.1) := (blk_cell BCZ.out 4).trans rfl
  have fr4 := blk_frozen BRZ.out 4
  have zr4 : wz.cell? ⟨gr1, 4, none⟩ = some (.int .i64 0) := (blk_cell BRZ.out 4).trans rfl
  have zc5 : wz.cell? ⟨gc1, 5, none⟩ = some (.int .i64 r.2.1.2.2) := (blk_cell BCZ.out 5).trans rfl
  have fr5 := blk_frozen BRZ.out 5
  have zr5 : wz.cell? ⟨gr1, 5, none⟩ = some (.int .i64 0) := (blk_cell BRZ.out 5).trans rfl
  have zc6 : wz.cell? ⟨gc1, 6, none⟩ = some (.slice A9 r.2.2.length c9) := (blk_cell BCZ.out 6).trans rfl
  have fr6 := blk_frozen BRZ.out 6
  have zr6 : wz.cell? ⟨gr1, 6, none⟩ = some (.slice none 0 0) := (blk_cell BRZ.out 6).trans rfl
  go_wp2_with fail
  refine bodyPost_ret (results_cell_row rfl _ _ gr1 26 #[.int .i64 r.1.1, .int .i64 r.1.2.1, .int .i64 r.1.2.2, .int .i64 r.2.1.1, .int .i64 r.2.1.2.1, .int .i64 r.2.1.2.2, .slice A9 r.2.2.length c9] (0, 0) _ rfl (by refine blk_put (cs := #[.int .i64 r.1.1, .int .i64 r.1.2.1, .int .i64 r.1.2.2, .int .i64 r.2.1.1, .int .i64 r.2.1.2.1, .int .i64 r.2.1.2.2, .slice none 0 0]) ?_ 6 _ rfl; refine blk_put (cs := #[.int .i64 r.1.1, .int .i64 r.1.2.1, .int .i64 r.1.2.2, .int .i64 r.2.1.1, .int .i64 r.2.1.2.1, .int .i64 0, .slice none 0 0]) ?_ 5 _ rfl; refine blk_put (cs := #[.int .i64 r.1.1, .int .i64 r.1.2.1, .int .i64 r.1.2.2, .int .i64 r.2.1.1, .int .i64 0, .int .i64 0, .slice none 0 0]) ?_ 4 _ rfl; refine blk_put (cs := #[.int .i64 r.1.1, .int .i64 r.1.2.1, .int .i64 r.1.2.2, .int .i64 0, .int .i64 0, .int .i64 0, .slice none 0 0]) ?_ 3 _ rfl; refine blk_put (cs := #[.int .i64 r.1.1, .int .i64 r.1.2.1, .int .i64 0, .int .i64 0, .int .i64 0, .int .i64 0, .slice none 0 0]) ?_ 2 _ rfl; refine blk_put (cs := #[.int .i64 r.1.1, .int .i64 0, .int .i64 0, .int .i64 0, .int .i64 0, .int .i64 0, .slice none 0 0]) ?_ 1 _ rfl; refine blk_put (cs := #[.int .i64 0, .int .i64 0, .int .i64 0, .int .i64 0, .int .i64 0, .int .i64 0, .slice none 0 0]) ?_ 0 _ rfl; exact BRZ.out) Try.underlying26 rfl (by kernel_rfl)) rfl ?_
  refine ⟨A9, c9, rfl, ⟨(Kd.R_reads' HR9.out).2.1, ?_⟩, (below_set (below_set (below_set (below_set (below_set (below_set (below_set HBZ.out GSr1.out) GSr1.out) GSr1.out) GSr1.out) GSr1.out) GSr1.out) GSr1.out)⟩
  exact C_of_R (R_far3 HRZ.out BRZ.out (by decide) (((((((grown_set _ _ _ _).trans (grown_set _ _ _ _)).trans (grown_set _ _ _ _)).trans (grown_set _ _ _ _)).trans (grown_set _ _ _ _)).trans (grown_set _ _ _ _)).trans (grown_set _ _ _ _)))
set_option maxHeartbeats 4000000 in
set_option maxRecDepth 100000 in
theorem kept_any (r : Reg) (B : Option Addr) (b : Nat) (A : Option Addr) (c : Nat) (w : World) (hm : MarkC w B b r.2.2) (hr : (Kd.int .i64).C w A r.2.2.length r.2.2) (hc : r.2.2.length ≤ c) (hl : r.2.2.length < 1000000) :
    Calls Try.prog 19 #[.agg (regA r B b), .agg (regA r A c)] w fun e w' => e = .returned (.bool true) ∧ Below w.heap.size w w' := by
  have HM := Aside0.mk hm
  have HR := Aside0.mk hr
  have hbc : r.2.2.length + 1 ≤ b := hm.1
  clear hr hm
  have hw2 : wrap64 ((r.2.2.length : Int) + 1) = (r.2.2.length : Int) + 1 := by unfold wrap64; omega
  have hu26 := Try.underlying26
  have hu24 := Try.underlying24
  go_enter Try.func19, Try.ntmps19
  go_upto_region 1 with fail
  obtain ⟨W1, hw1⟩ : ∃ x : World, x = (w.alloc (.cells #[.int .i64 r.1.1, .int .i64 r.1.2.1, .int .i64 r.1.2.2, .int .i64 r.2.1.1, .int .i64 r.2.1.2.1, .int .i64 r.2.1.2.2, .slice B r.2.2.length b] 26)).alloc (.cells #[.int .i64 r.1.1, .int .i64 r.1.2.1, .int .i64 r.1.2.2, .int .i64 r.2.1.1, .int .i64 r.2.1.2.1, .int .i64 r.2.1.2.2, .slice A r.2.2.length c] 26) := ⟨_, rfl⟩
  have hbs1 : Below w.heap.size w W1 := by rw [hw1]; repeat (first | exact Below.refl _ _ | refine below_alloc ?_ _ | refine below_drew ?_)
  obtain ⟨gx1, hgx1⟩ : ∃ x, x = w.heap.size := ⟨_, rfl⟩
  have GSx1 : Aside0 (w.heap.size ≤ gx1) := ⟨by rw [hgx1]; omega⟩
  have Bx1 : Aside0 (W1.heap[gx1]? = some (.cells #[.int .i64 r.1.1, .int .i64 r.1.2.1, .int .i64 r.1.2.2, .int .i64 r.2.1.1, .int .i64 r.2.1.2.1, .int .i64 r.2.1.2.2, .slice B r.2.2.length b] 26 (0, 0))) := ⟨by rw [hw1, hgx1]; exact blk_alloc (blk_new _ _) _⟩
  obtain ⟨gy1, hgy1⟩ : ∃ x, x = w.heap.size + 1 := ⟨_, rfl⟩
  have GSy1 : Aside0 (w.heap.size ≤ gy1) := ⟨by rw [hgy1]; omega⟩
  have By1 : Aside0 (W1.heap[gy1]? = some (.cells #[.int .i64 r.1.1, .int .i64 r.1.2.1, .int .i64 r.1.2.2, .int .i64 r.2.1.1, .int .i64 r.2.1.2.1, .int .i64 r.2.1.2.2, .slice A r.2.2.length c] 26 (0, 0))) := ⟨by rw [hw1, hgy1]; have := blk_new (w.alloc (.cells #[.int .i64 r.1.1, .int .i64 r.1.2.1, .int .i64 r.1.2.2, .int .i64 r.2.1.1, .int .i64 r.2.1.2.1, .int .i64 r.2.1.2.2, .slice B r.2.2.length b] 26)) (.cells #[.int .i64 r.1.1, .int .i64 r.1.2.1, .int .i64 r.1.2.2, .int .i64 r.2.1.1, .int .i64 r.2.1.2.1, .int .i64 r.2.1.2.2, .slice A r.2.2.length c] 26); rwa [World.size_alloc] at this⟩
  rw [← hw1]
  rw [← hgy1]
  rw [← hgx1]
  clear hw1 hgx1 hgy1
  have HB2 := Aside0.mk hbs1
  have Cv2 := Aside0.mk (Kd.C_below HR.out hbs1)
  have CM2 := Aside0.mk (MarkC.below HM.out hbs1)
  clear hbs1
  obtain ⟨ad, hB, hmk⟩ := MarkC.mark CM2.out
  subst hB
  have zx3_0 : W1.cell? ⟨gx1, 0, none⟩ = some (.int .i64 r.1.1) := (blk_cell Bx1.out 0).trans rfl
  have zx3_1 : W1.cell? ⟨gx1, 1, none⟩ = some (.int .i64 r.1.2.1) := (blk_cell Bx1.out 1).trans rfl
  have zx3_2 : W1.cell? ⟨gx1, 2, none⟩ = some (.int .i64 r.1.2.2) := (blk_cell Bx1.out 2).trans rfl
  have zx3_3 : W1.cell? ⟨gx1, 3, none⟩ = some (.int .i64 r.2.1.1) := (blk_cell Bx1.out 3).trans rfl
  have zx3_4 : W1.cell? ⟨gx1, 4, none⟩ = some (.int .i64 r.2.1.2.1) := (blk_cell Bx1.out 4).trans rfl
  have zx3_5 : W1.cell? ⟨gx1, 5, none⟩ = some (.int .i64 r.2.1.2.2) := (blk_cell Bx1.out 5).trans rfl
  have zx3_6 : W1.cell? ⟨gx1, 6, none⟩ = some (.slice (some ad) r.2.2.length b) := (blk_cell Bx1.out 6).trans rfl
  have zy3_0 : W1.cell? ⟨gy1, 0, none⟩ = some (.int .i64 r.1.1) := (blk_cell By1.out 0).trans rfl
  have zy3_1 : W1.cell? ⟨gy1, 1, none⟩ = some (.int .i64 r.1.2.1) := (blk_cell By1.out 1).trans rfl
  have zy3_2 : W1.cell? ⟨gy1, 2, none⟩ = some (.int .i64 r.1.2.2) := (blk_cell By1.out 2).trans rfl
  have zy3_3 : W1.cell? ⟨gy1, 3, none⟩ = some (.int .i64 r.2.1.1) := (blk_cell By1.out 3).trans rfl
  have zy3_4 : W1.cell? ⟨gy1, 4, none⟩ = some (.int .i64 r.2.1.2.1) := (blk_cell By1.out 4).trans rfl
  have zy3_5 : W1.cell? ⟨gy1, 5, none⟩ = some (.int .i64 r.2.1.2.2) := (blk_cell By1.out 5).trans rfl
  have zy3_6 : W1.cell? ⟨gy1, 6, none⟩ = some (.slice A r.2.2.length c) := (blk_cell By1.out 6).trans rfl
  have hlb : (r.2.2.length : Int) + 1 ≤ (b : Int) := by omega
  have h01 : (0 : Int) ≤ (r.2.2.length : Int) + 1 := by omega
  have hl0 : (r.2.2.length : Int) < (r.2.2.length : Int) + 1 := by omega
  have hl1 : decide ((r.2.2.length : Int) < (r.2.2.length : Int) + 1) = true := decide_eq_true (by omega)
  refine start_ (n := 19) (S := fun w' => w'.cell? ⟨gx1, 0, none⟩ = some (.int .i64 r.1.1) ∧ w'.cell? ⟨gx1, 1, none⟩ = some (.int .i64 r.1.2.1) ∧ w'.cell? ⟨gx1, 2, none⟩ = some (.int .i64 r.1.2.2) ∧ w'.cell? ⟨gx1, 3, none⟩ = some (.int .i64 r.2.1.1) ∧ w'.cell? ⟨gx1, 4, none⟩ = some (.int .i64 r.2.1.2.1) ∧ w'.cell? ⟨gx1, 5, none⟩ = some (.int .i64 r.2.1.2.2) ∧ w'.cell? ⟨gx1, 6, none⟩ = some (.slice (some ad) r.2.2.length b) ∧ w'.cell? ⟨gy1, 0, none⟩ = some (.int .i64 r.1.1) ∧ w'.cell? ⟨gy1, 1, none⟩ = some (.int .i64 r.1.2.1) ∧ w'.cell? ⟨gy1, 2, none⟩ = some (.int .i64 r.1.2.2) ∧ w'.cell? ⟨gy1, 3, none⟩ = some (.int .i64 r.2.1.1) ∧ w'.cell? ⟨gy1, 4, none⟩ = some (.int .i64 r.2.1.2.1) ∧ w'.cell? ⟨gy1, 5, none⟩ = some (.int .i64 r.2.1.2.2) ∧ w'.cell? ⟨gy1, 6, none⟩ = some (.slice A r.2.2.length c) ∧ w'.cell? (ad.add r.2.2.length) = some (.int .i64 (-77))) (ds := []) #[false, false, false, false, false, false, false, false, false, false, false, false, false, false, false, false, false, false, false] (by kernel_rfl) rfl rfl ⟨zx3_0, zx3_1, zx3_2, zx3_3, zx3_4, zx3_5, zx3_6, zy3_0, zy3_1, zy3_2, zy3_3, zy3_4, zy3_5, zy3_6, hmk⟩ (fun hHeld => ?_)
  refine take_ (i := 0) (N := some 5) (v := ?_) (a' := ?_) #[true, false, false, false, false, false, false, false, false, false, false, false, false, false, false, false, false, false, false] rfl rfl (by kernel_rfl) (fun _ _ _ h => h) (Or.inl ⟨by rfl, ?_⟩) hHeld ?_ ?_
  rotate_left
  · rintro w' ⟨s0, s1, s2, s3, s4, s5, s6, s7, s8, s9, s10, s11, s12, s13, s14⟩
    go_simp
    with_reducible rfl
  rotate_left
  · simp only [Act.put, List.setIfInBounds_toArray, List.set_cons_zero, List.set_cons_succ, i64_w, i32_w]
    rfl
  refine take_ (i := 1) (N := some 6) (v := ?_) (a' := ?_) #[true, true, false, false, false, false, false, false, false, false, false, false, false, false, false, false, false, false, false] rfl rfl (by kernel_rfl) (fun _ _ _ h => h) (Or.inl ⟨by rfl, ?_⟩) hHeld ?_ ?_
  rotate_left
  · rintro w' ⟨s0, s1, s2, s3, s4, s5, s6, s7, s8, s9, s10, s11, s12, s13, s14⟩
    go_simp
    with_reducible rfl
  rotate_left
  · simp only [Act.put, List.setIfInBounds_toArray, List.set_cons_zero, List.set_cons_succ, i64_w, i32_w]
    rfl
  refine one_ (i := 2) (N := some 7) #[true, true, true, false, false, false, false, false, false, false, false, false, false, false, false, false, false, false, false] rfl rfl (by kernel_rfl) (by decide) (fun K hK => ?_)
  refine goes_ Try.func15 (by kernel_rfl) rfl #[.agg #[.int .i64 r.1.1, .int .i64 r.1.2.1, .int .i64 r.1.2.2, .int .i64 r.2.1.1, .int .i64 r.2.1.2.1, .int .i64 r.2.1.2.2, .slice (some ad) r.2.2.length b], .agg #[.int .i64 r.1.1, .int .i64 r.1.2.1, .int .i64 r.1.2.2, .int .i64 r.2.1.1, .int .i64 r.2.1.2.1, .int .i64 r.2.1.2.2, .slice A r.2.2.length c]] (by rfl) rfl rfl (by simp only [List.map_toArray, List.map_cons, List.map_nil]; rfl) ?_
  with_reducible refine (same_v r (some ad) b _ (Kd.C_drew (MarkC.C CM2.out)) (by omega) true r A c (Kd.C_drew Cv2.out) hc (decide_eq_true rfl) (by omega)).mono ?_
  rintro e v2 ⟨rfl, hb2⟩
  refine ⟨_, rfl, ?_⟩
  have HQ2 := Aside0.mk (below_step (below_drew (Below.refl _ W1)) hb2)
  clear hb2
  refine hK.out _ _ ⟨pw_cell_below HQ2.out zx3_0, pw_cell_below HQ2.out zx3_1, pw_cell_below HQ2.out zx3_2, pw_cell_below HQ2.out zx3_3, pw_cell_below HQ2.out zx3_4, pw_cell_below HQ2.out zx3_5, pw_cell_below HQ2.out zx3_6, pw_cell_below HQ2.out zy3_0, pw_cell_below HQ2.out zy3_1, pw_cell_below HQ2.out zy3_2, pw_cell_below HQ2.out zy3_3, pw_cell_below HQ2.out zy3_4, pw_cell_below HQ2.out zy3_5, pw_cell_below HQ2.out zy3_6, pw_cell_below HQ2.out hmk⟩ (fun hHeld => ?_)
  clear hK K
  refine norm_ (a' := ?_) ?_ ?_
  rotate_left
  · show Act.put _ (some 7) _ = _
    simp only [Act.put, List.setIfInBounds_toArray, List.set_cons_zero, List.set_cons_succ, i64_w, i32_w]
    rfl
  refine pure_ (i := 3) (N := some 8) (v := ?_) (a' := ?_) #[true, true, true, true, false, false, false, false, false, false, false, false, false, false, false, false, false, false, false] rfl rfl (by kernel_rfl) (fun _ _ _ h => h) (Or.inl ⟨by rfl, ?_⟩) ?_ ?_
  rotate_left
  · intro w'
    go_simp
    with_reducible rfl
  rotate_left
  · simp only [Act.put, List.setIfInBounds_toArray, List.set_cons_zero, List.set_cons_succ, i64_w, i32_w]
    rfl
  refine pure_ (i := 4) (N := some 9) (v := ?_) (a' := ?_) #[true, true, true, true, true, false, false, false, false, false, false, false, false, false, false, false, false, false, false] rfl rfl (by kernel_rfl) (fun _ _ _ h => h) (Or.inl ⟨by rfl, ?_⟩) ?_ ?_
  rotate_left
  · intro w'
    go_simp
    with_reducible rfl
  rotate_left
  · simp only [Act.put, List.setIfInBounds_toArray, List.set_cons_zero, List.set_cons_succ, i64_w, i32_w]
    rfl
  refine pure_ (i := 6) (N := some 11) (v := ?_) (a' := ?_) #[true, true, true, true, true, false, true, false, false, false, false, false, false, false, false, false, false, false, false] rfl rfl (by kernel_rfl) (fun _ _ _ h => h) (Or.inl ⟨by rfl, ?_⟩) ?_ ?_
  rotate_left
  · intro w'
    go_simp
    with_reducible rfl
  rotate_left
  · simp only [Act.put, List.setIfInBounds_toArray, List.set_cons_zero, List.set_cons_succ, i64_w, i32_w]
    rfl
  refine pure_ (i := 11) (N := some 16) (v := ?_) (a' := ?_) #[true, true, true, true, true, false, true, false, false, false, false, true, false, false, false, false, false, false, false] rfl rfl (by kernel_rfl) (fun _ _ _ h => h) (Or.inl ⟨by rfl, ?_⟩) ?_ ?_
  rotate_left
  · intro w'
    go_simp
    with_reducible rfl
  rotate_left
  · simp only [Act.put, List.setIfInBounds_toArray, List.set_cons_zero, List.set_cons_succ, i64_w, i32_w]
    rfl
  refine take_ (i := 5) (N := some 10) (v := ?_) (a' := ?_) #[true, true, true, true, true, true, true, false, false, false, false, true, false, false, false, false, false, false, false] rfl rfl (by kernel_rfl) (fun _ _ _ h => h) (Or.inl ⟨by rfl, ?_⟩) hHeld ?_ ?_
  rotate_left
  · rintro w' ⟨s0, s1, s2, s3, s4, s5, s6, s7, s8, s9, s10, s11, s12, s13, s14⟩
    go_simp
    with_reducible rfl
  rotate_left
  · simp only [Act.put, List.setIfInBounds_toArray, List.set_cons_zero, List.set_cons_succ, i64_w, i32_w]
    rfl
  refine take_ (i := 7) (N := some 12) (v := ?_) (a' := ?_) #[true, true, true, true, true, true, true, true, false, false, false, true, false, false, false, false, false, false, false] rfl rfl (by kernel_rfl) (fun _ _ _ h => h) (Or.inl ⟨by rfl, ?_⟩) hHeld ?_ ?_
  rotate_left
  · rintro w' ⟨s0, s1, s2, s3, s4, s5, s6, s7, s8, s9, s10, s11, s12, s13, s14⟩
    go_simp
    with_reducible rfl
  rotate_left
  · simp only [Act.put, List.setIfInBounds_toArray, List.set_cons_zero, List.set_cons_succ, i64_w, i32_w]
    rfl
  refine pure_ (i := 8) (N := some 13) (v := ?_) (a' := ?_) #[true, true, true, true, true, true, true, true, true, false, false, true, false, false, false, false, false, false, false] rfl rfl (by kernel_rfl) (fun _ _ _ h => h) (Or.inl ⟨by rfl, ?_⟩) ?_ ?_
  rotate_left
  · intro w'
    go_simp
    with_reducible rfl
  rotate_left
  · simp only [Act.put, List.setIfInBounds_toArray, List.set_cons_zero, List.set_cons_succ, i64_w, i32_w]
    rfl
  refine pure_ (i := 9) (N := some 14) (v := ?_) (a' := ?_) #[true, true, true, true, true, true, true, true, true, true, false, true, false, false, false, false, false, false, false] rfl rfl (by kernel_rfl) (fun _ _ _ h => h) (Or.inl ⟨by rfl, ?_⟩) ?_ ?_
  rotate_left
  · intro w'
    go_simp
    with_reducible rfl
  rotate_left
  · simp only [Act.put, List.setIfInBounds_toArray, List.set_cons_zero, List.set_cons_succ, i64_w, i32_w]
    rfl
  refine pure_ (i := 10) (N := some 15) (v := ?_) (a' := ?_) #[true, true, true, true, true, true, true, true, true, true, true, true, false, false, false, false, false, false, false] rfl rfl (by kernel_rfl) (fun _ _ _ h => h) (Or.inl ⟨by rfl, ?_⟩) ?_ ?_
  rotate_left
  · intro w'
    go_simp
    with_reducible rfl
  rotate_left
  · simp only [Act.put, List.setIfInBounds_toArray, List.set_cons_zero, List.set_cons_succ, i64_w, i32_w]
    rfl
  refine take_ (i := 12) (N := some 17) (v := ?_) (a' := ?_) #[true, true, true, true, true, true, true, true, true, true, true, true, true, false, false, false, false, false, false] rfl rfl (by kernel_rfl) (fun _ _ _ h => h) (Or.inl ⟨by rfl, ?_⟩) hHeld ?_ ?_
  rotate_left
  · rintro w' ⟨s0, s1, s2, s3, s4, s5, s6, s7, s8, s9, s10, s11, s12, s13, s14⟩
    go_simp
    with_reducible rfl
  rotate_left
  · simp only [Act.put, List.setIfInBounds_toArray, List.set_cons_zero, List.set_cons_succ, i64_w, i32_w]
    rfl
  refine pure_ (i := 13) (N := some 18) (v := ?_) (a' := ?_) #[true, true, true, true, true, true, true, true, true, true, true, true, true, true, false, false, false, false, false] rfl rfl (by kernel_rfl) (fun _ _ _ h => h) (Or.inl ⟨by rfl, ?_⟩) ?_ ?_
  rotate_left
  · intro w'
    go_simp
    with_reducible rfl
  rotate_left
  · simp only [Act.put, List.setIfInBounds_toArray, List.set_cons_zero, List.set_cons_succ, i64_w, i32_w]
    rfl
  refine pure_ (i := 14) (N := some 19) (v := ?_) (a' := ?_) #[true, true, true, true, true, true, true, true, true, true, true, true, true, true, true, false, false, false, false] rfl rfl (by kernel_rfl) (fun _ _ _ h => h) (Or.inl ⟨by rfl, ?_⟩) ?_ ?_
  rotate_left
  · intro w'
    go_simp
    with_reducible rfl
  rotate_left
  · simp only [Act.put, List.setIfInBounds_toArray, List.set_cons_zero, List.set_cons_succ, i64_w, i32_w]
    rfl
  refine take_ (i := 15) (N := some 20) (v := ?_) (a' := ?_) #[true, true, true, true, true, true, true, true, true, true, true, true, true, true, true, true, false, false, false] rfl rfl (by kernel_rfl) (fun _ _ _ h => h) (Or.inl ⟨by rfl, ?_⟩) hHeld ?_ ?_
  rotate_left
  · rintro w' ⟨s0, s1, s2, s3, s4, s5, s6, s7, s8, s9, s10, s11, s12, s13, s14⟩
    go_simp
    with_reducible rfl
  rotate_left
  · simp only [Act.put, List.setIfInBounds_toArray, List.set_cons_zero, List.set_cons_succ, i64_w, i32_w]
    rfl
  refine pure_ (i := 16) (N := some 21) (v := ?_) (a' := ?_) #[true, true, true, true, true, true, true, true, true, true, true, true, true, true, true, true, true, false, false] rfl rfl (by kernel_rfl) (fun _ _ _ h => h) (Or.inl ⟨by rfl, ?_⟩) ?_ ?_
  rotate_left
  · intro w'
    go_simp
    with_reducible rfl
  rotate_left
  · simp only [Act.put, List.setIfInBounds_toArray, List.set_cons_zero, List.set_cons_succ, i64_w, i32_w]
    rfl
  refine pure_ (i := 17) (N := some 22) (v := ?_) (a' := ?_) #[true, true, true, true, true, true, true, true, true, true, true, true, true, true, true, true, true, true, false] rfl rfl (by kernel_rfl) (fun _ _ _ h => h) (Or.inl ⟨by rfl, ?_⟩) ?_ ?_
  rotate_left
  · intro w'
    go_simp
    with_reducible rfl
  rotate_left
  · simp only [Act.put, List.setIfInBounds_toArray, List.set_cons_zero, List.set_cons_succ, i64_w, i32_w]
    rfl
  refine pure_ (i := 18) (N := some 4) (v := ?_) (a' := ?_) #[true, true, true, true, true, true, true, true, true, true, true, true, true, true, true, true, true, true, true] rfl rfl (by kernel_rfl) (fun _ _ _ h => h) (Or.inl ⟨by rfl, ?_⟩) ?_ ?_
  rotate_left
  · intro w'
    go_simp
    with_reducible rfl
  rotate_left
  · simp only [Act.put, List.setIfInBounds_toArray, List.set_cons_zero, List.set_cons_succ, i64_w, i32_w]
    rfl
  refine done_ (by kernel_rfl) ?_
  have hbe := HQ2.out
  clear zx3_0 zx3_1 zx3_2 zx3_3 zx3_4 zx3_5 zx3_6 zy3_0 zy3_1 zy3_2 zy3_3 zy3_4 zy3_5 zy3_6 hmk
  have HB4 := Aside0.mk (below_step HB2.out hbe)
  have Bx4 : Aside0 (v2.heap[gx1]? = some (.cells #[.int .i64 r.1.1, .int .i64 r.1.2.1, .int .i64 r.1.2.2, .int .i64 r.2.1.1, .int .i64 r.2.1.2.1, .int .i64 r.2.1.2.2, .slice (some ad) r.2.2.length b] 26 (0, 0))) := ⟨(hbe.block _ (blk_lt Bx1.out)).trans Bx1.out⟩
  have By4 : Aside0 (v2.heap[gy1]? = some (.cells #[.int .i64 r.1.1, .int .i64 r.1.2.1, .int .i64 r.1.2.2, .int .i64 r.2.1.1, .int .i64 r.2.1.2.1, .int .i64 r.2.1.2.2, .slice A r.2.2.length c] 26 (0, 0))) := ⟨(hbe.block _ (blk_lt By1.out)).trans By1.out⟩
  have Cv4 := Aside0.mk (Kd.C_below Cv2.out hbe)
  have CM4 := Aside0.mk (MarkC.below CM2.out hbe)
  clear hbe
  go_wp2_with fail
  go_ret
  exact ⟨rfl, HB4.out⟩
theorem MarkC.cap {w : World} {A : Option Addr} {c : Nat} {l : List Int} (h : MarkC w A c l) : l.length ≤ c := Nat.le_of_succ_le h.1
end Go.Proofs.Ytckbidmemdkdpaa.MAll

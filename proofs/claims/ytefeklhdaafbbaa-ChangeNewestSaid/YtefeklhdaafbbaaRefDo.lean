/- The reference's Do. -/
import Derived.Test.YtefeklhdaafbbaaA
set_option linter.unusedVariables false
set_option linter.unusedSimpArgs false
namespace Go.Proofs.Ytefeklhdaafbbaa.MAll
open Go.RowKit Go.Proofs.YtefeklhdaafbbaaW.PrintWords Go.Proofs.YtefeklhdaafbbaaW.PrintLast Go.Proofs.YtefeklhdaafbbaaW.PrintMore

theorem refgood_f (kind : Int) (old new : List Int) : estuaryref10_Good.f kind old new = some (good kind old new) := by
  have e0 : ((old.length : Int) ≤ 32) = (old.length ≤ 32) := propext ⟨fun h => by omega, fun h => by omega⟩
  have e1 : ((new.length : Int) ≤ 32) = (new.length ≤ 32) := propext ⟨fun h => by omega, fun h => by omega⟩
  have e2 : ((old.length : Int) = 0) = (old.length = 0) := propext ⟨fun h => by omega, fun h => by omega⟩
  have e3 : ((new.length : Int) == 0) = (new.length == 0) := by
    rw [Bool.eq_iff_iff, beq_iff_eq, beq_iff_eq]
    omega
  unfold estuaryref10_Good.f good
  simp only [e0, e1, e2, e3]
  by_cases h1 : kind = 1
  · subst h1
    by_cases h2 : old.length = 0 <;> by_cases h3 : new.length = 0 <;> simp [h2, h3]
  · by_cases h4 : kind = 2
    · subst h4
      by_cases h2 : old.length ≤ 32 <;> by_cases h3 : new.length ≤ 32 <;> simp [h2, h3]
    · simp [h1, h4]
theorem refgood_is (b : Bool) (kind : Int) (A0 : Option Addr) (c0 : Nat) (old : List Int) (A1 : Option Addr) (c1 : Nat) (new : List Int) (w : World) (hb : good kind old new = b) (hr0 : Kd.C (Kd.int .i64) w A0 old.length old) (hc0 : old.length ≤ c0) (hr1 : Kd.C (Kd.int .i64) w A1 new.length new) (hc1 : new.length ≤ c1) :
    Calls Try.prog 15 #[.agg #[.int .i64 kind, .slice A0 old.length c0, .slice A1 new.length c1]] w fun e w' => e = .returned (.bool b) ∧ Below w.heap.size w w' := by
  subst hb
  exact estuaryref10_Good.calls kind A0 c0 old A1 c1 new _ w hr0 hc0 hr1 hc1 (refgood_f kind old new)
theorem good_kind {kind : Int} {old new : List Int} (h : good kind old new = true) : kind = 1 ∨ kind = 2 := by
  unfold good at h
  simp only [Bool.or_eq_true, Bool.and_eq_true, beq_iff_eq] at h
  rcases h with h | h
  · exact .inl h.1
  · exact .inr h.1

set_option maxHeartbeats 400000 in
theorem refdo_is (x : List Int) (q : Int) (kind : Int) (A0 : Option Addr) (c0 : Nat) (old : List Int) (A1 : Option Addr) (c1 : Nat) (new : List Int) (A2 : Option Addr) (c2 : Nat) (v : List Int) (w : World) (hx : doV kind old new v = x) (hq : (doE kind old new v).getD 0 = q) (hr0 : Kd.C (Kd.int .i64) w A0 old.length old) (hc0 : old.length ≤ c0) (hr1 : Kd.C (Kd.int .i64) w A1 new.length new) (hc1 : new.length ≤ c1) (hr2 : Kd.C (Kd.int .i64) w A2 v.length v) (hc2 : v.length ≤ c2) :
    Calls Try.prog 11 #[.agg #[.int .i64 kind, .slice A0 old.length c0, .slice A1 new.length c1], .slice A2 v.length c2] w fun e w' => ∃ A c, e = .returned (.tuple #[.slice A x.length c, .int .i64 q]) ∧ x.length ≤ c ∧ (Kd.int .i64).C w' A x.length x ∧ Below w.heap.size w w' := by
  have HX := Aside0.mk hx
  have HQ := Aside0.mk hq
  obtain ⟨gc, hgc⟩ : ∃ gc, gc = w.heap.size := ⟨_, rfl⟩
  have hbox : Aside0 ((w.alloc (.cells #[.int .i64 kind, .slice A0 old.length c0, .slice A1 new.length c1] 24)).heap[gc]? = some (.cells #[.int .i64 kind, .slice A0 old.length c0, .slice A1 new.length c1] 24 (0, 0))) := ⟨by rw [hgc]; exact blk_new w _⟩
  have HR0 := Aside0.mk (Kd.C_alloc hr0 (.cells #[.int .i64 kind, .slice A0 old.length c0, .slice A1 new.length c1] 24))
  have HR1 := Aside0.mk (Kd.C_alloc hr1 (.cells #[.int .i64 kind, .slice A0 old.length c0, .slice A1 new.length c1] 24))
  have HR2 := Aside0.mk (Kd.C_alloc hr2 (.cells #[.int .i64 kind, .slice A0 old.length c0, .slice A1 new.length c1] 24))
  have HB := Aside0.mk (below_alloc (Below.refl _ w) (.cells #[.int .i64 kind, .slice A0 old.length c0, .slice A1 new.length c1] 24))
  have HGC := Aside0.mk hgc
  clear hr0 hr1 hr2 hgc hx hq
  obtain ⟨b, hb⟩ : ∃ b, good kind old new = b := ⟨_, rfl⟩
  have HG := Aside0.mk hb
  clear hb
  cases b
  · have e1 : doV kind old new v = v := by unfold doV; rw [HG.out]; rfl
    have e2 : doE kind old new v = some 2 := by unfold doE; rw [HG.out]; rfl
    have hxx := HX.out
    have hqq := HQ.out
    rw [e1] at hxx
    rw [e2] at hqq
    subst hxx
    have hq2 : q = 2 := hqq.symm
    subst hq2
    clear e1 e2 hqq
    go_enter Try.func11, Try.ntmps11
    go_wp2_with (go_at_call 15; refine (refgood_is false _ _ _ _ _ _ _ _ HG.out HR0.out hc0 HR1.out hc1).mono ?_; rintro e w1 ⟨rfl, hb1⟩; have HB1 := Aside0.mk hb1; clear hb1)
    go_ret2
    exact ⟨A2, c2, rfl, hc2, Kd.C_below HR2.out HB1.out, below_step HB.out HB1.out⟩
  · rcases good_kind HG.out with hk | hk
    · subst hk
      have e1 : doV 1 old new v = v := by unfold doV; simp
      have e2 : doE 1 old new v = none := by unfold doE; rw [HG.out]; rfl
      have hxx := HX.out
      have hqq := HQ.out
      rw [e1] at hxx
      rw [e2] at hqq
      subst hxx
      have hq2 : q = 0 := hqq.symm
      subst hq2
      clear e1 e2 hqq
      go_enter Try.func11, Try.ntmps11
      go_wp2_with (go_at_call 15; refine (refgood_is true _ _ _ _ _ _ _ _ HG.out HR0.out hc0 HR1.out hc1).mono ?_; rintro e w1 ⟨rfl, hb1⟩; have HB1 := Aside0.mk hb1; have BKC := Aside0.mk ((hb1.block _ (blk_lt hbox.out)).trans hbox.out); rw [← HGC.out]; have z0 : w1.cell? ⟨gc, 0, none⟩ = some (.int .i64 1) := (blk_cell BKC.out 0).trans rfl; have z1 : w1.cell? ⟨gc, 1, none⟩ = some (.slice A0 old.length c0) := (blk_cell BKC.out 1).trans rfl; have z2 : w1.cell? ⟨gc, 2, none⟩ = some (.slice A1 new.length c1) := (blk_cell BKC.out 2).trans rfl; clear hb1)
      go_ret2
      exact ⟨A2, c2, rfl, hc2, Kd.C_below HR2.out HB1.out, below_step HB.out HB1.out⟩
    · subst hk
      by_cases ho : old = v
      · have e1 : doV 2 old new v = new := by unfold doV; rw [HG.out]; simp [ho]
        have e2 : doE 2 old new v = none := by unfold doE; rw [HG.out]; simp [ho]
        have hxx := HX.out
        have hqq := HQ.out
        rw [e1] at hxx
        rw [e2] at hqq
        subst hxx
        have hq2 : q = 0 := hqq.symm
        subst hq2
        have HO := Aside0.mk ho
        clear e1 e2 hqq ho
        go_enter Try.func11, Try.ntmps11
        go_wp2_with (go_at_call 15; refine (refgood_is true _ _ _ _ _ _ _ _ HG.out HR0.out hc0 HR1.out hc1).mono ?_; rintro e w1 ⟨rfl, hb1⟩; have HB1 := Aside0.mk hb1; have BKC := Aside0.mk ((hb1.block _ (blk_lt hbox.out)).trans hbox.out); rw [← HGC.out]; have z0 : w1.cell? ⟨gc, 0, none⟩ = some (.int .i64 2) := (blk_cell BKC.out 0).trans rfl; have z1 : w1.cell? ⟨gc, 1, none⟩ = some (.slice A0 old.length c0) := (blk_cell BKC.out 1).trans rfl; have z2 : w1.cell? ⟨gc, 2, none⟩ = some (.slice A1 new.length c1) := (blk_cell BKC.out 2).trans rfl; clear hb1)
        refine (refsame_is true _ _ _ _ _ _ _ (decide_eq_true HO.out) (Kd.C_below HR0.out HB1.out) hc0 (Kd.C_below HR2.out HB1.out) hc2).mono ?_
        rintro e w2 ⟨rfl, hb2⟩
        have HB2 := Aside0.mk (below_step HB1.out hb2)
        have y0 : w2.cell? ⟨gc, 0, none⟩ = some (.int .i64 2) := pw_cell_below hb2 z0
        have y2 : w2.cell? ⟨gc, 2, none⟩ = some (.slice A1 new.length c1) := pw_cell_below hb2 z2
        clear hb2 z0 z1 z2
        go_wp2
        go_ret2
        exact ⟨A1, c1, rfl, hc1, Kd.C_below HR1.out HB2.out, below_step HB.out HB2.out⟩
      · have e1 : doV 2 old new v = v := by unfold doV; simp [ho]
        have e2 : doE 2 old new v = some 11 := by unfold doE; rw [HG.out]; simp [ho]
        have hxx := HX.out
        have hqq := HQ.out
        rw [e1] at hxx
        rw [e2] at hqq
        subst hxx
        have hq2 : q = 11 := hqq.symm
        subst hq2
        have HO := Aside0.mk ho
        clear e1 e2 hqq ho
        go_enter Try.func11, Try.ntmps11
        go_wp2_with (go_at_call 15; refine (refgood_is true _ _ _ _ _ _ _ _ HG.out HR0.out hc0 HR1.out hc1).mono ?_; rintro e w1 ⟨rfl, hb1⟩; have HB1 := Aside0.mk hb1; have BKC := Aside0.mk ((hb1.block _ (blk_lt hbox.out)).trans hbox.out); rw [← HGC.out]; have z0 : w1.cell? ⟨gc, 0, none⟩ = some (.int .i64 2) := (blk_cell BKC.out 0).trans rfl; have z1 : w1.cell? ⟨gc, 1, none⟩ = some (.slice A0 old.length c0) := (blk_cell BKC.out 1).trans rfl; have z2 : w1.cell? ⟨gc, 2, none⟩ = some (.slice A1 new.length c1) := (blk_cell BKC.out 2).trans rfl; clear hb1)
        refine (refsame_is false _ _ _ _ _ _ _ (decide_eq_false HO.out) (Kd.C_below HR0.out HB1.out) hc0 (Kd.C_below HR2.out HB1.out) hc2).mono ?_
        rintro e w2 ⟨rfl, hb2⟩
        have HB2 := Aside0.mk (below_step HB1.out hb2)
        clear hb2 z0 z1 z2
        go_wp2
        go_ret2
        exact ⟨A2, c2, rfl, hc2, Kd.C_below HR2.out HB2.out, below_step HB.out HB2.out⟩
end Go.Proofs.Ytefeklhdaafbbaa.MAll

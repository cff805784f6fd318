/- The reference's watch: Tick, Want. -/
import Derived.Test.YtimfbdiiaakhiaaTh
set_option linter.unusedVariables false
set_option linter.unusedSimpArgs false
namespace Go.Proofs.Ytimfbdiiaakhiaa.MAll
open Go.RowKit Go.Proofs.YtimfbdiiaakhiaaW.PrintWords Go.Proofs.YtimfbdiiaakhiaaW.PrintLast Go.Proofs.YtimfbdiiaakhiaaW.PrintMore
attribute [local go_sem ↓] Go.wp_at_zero Go.wp_at_succ
def rageUp (a : Int) : Int := if a < 1000 then a + 1 else a
set_option maxHeartbeats 4000000 in
set_option maxRecDepth 100000 in
theorem rtick_c (W : World) (g : Nat) (nd lf tk : Int) (seen : List (List Int)) (ag : Int) (h : RWAt W g nd lf tk seen ag) (ha : 0 ≤ ag) : Calls Try.prog 32 #[.pointer (some ⟨g, 0, none⟩)] W fun e w' => e = .returned (.tuple #[]) ∧ RWAt w' g nd lf tk seen (rageUp ag) ∧ FRT g W w' := by
  have hu71 := Try.underlying71
  have hu78 := Try.underlying78
  obtain ⟨A, c, hB0, hR0, hok⟩ := h
  have BW0 := Aside0.mk hB0
  have HR0 := Aside0.mk hR0
  have HOK := Aside0.mk hok
  clear hB0 hR0 hok
  have z4 : W.cell? ⟨g, 4, none⟩ = some (.int .i64 ag) := (blk_cell BW0.out 4).trans rfl
  have f4 := blk_frozen BW0.out 4
  by_cases hlt : ag < 1000
  · have hd : decide (ag < 1000) = true := decide_eq_true hlt
    have hw : wrap64 (ag + 1) = ag + 1 := by unfold wrap64; omega
    have HIF := Aside0.mk (show rageUp ag = ag + 1 from if_pos hlt)
    clear hlt
    go_enter Try.func32, Try.ntmps32
    go_wp2_with fail
    first | go_end0 | ((try simp only [Exit.inBlock, Exit.then]); refine bodyPost_ret (results_none rfl _ _ _) rfl ?_)
    have hpost : (W.setCell ⟨g, 4, none⟩ (.int .i64 (ag + 1))).heap[g]? = some (.cells #[.int .i64 nd, .int .i64 lf, .int .i64 tk, .slice A seen.length c, .int .i64 (ag + 1)] 78 (0, 0)) := blk_put (cs := #[.int .i64 nd, .int .i64 lf, .int .i64 tk, .slice A seen.length c, .int .i64 ag]) BW0.out 4 _ rfl
    rw [HIF.out]
    exact ⟨rfl, ⟨A, c, hpost, Kd.R_set HR0.out BW0.out (by decide) 4 _, HOK.out⟩, FRT.made BW0.out HR0.out (World.grownBy.refl W _) (grown_set _ _ _ _)⟩
  · have hd : decide (ag < 1000) = false := decide_eq_false hlt
    have HIF := Aside0.mk (show rageUp ag = ag from if_neg hlt)
    clear hlt
    go_enter Try.func32, Try.ntmps32
    go_wp2_with fail
    first | go_end0 | ((try simp only [Exit.inBlock, Exit.then]); refine bodyPost_ret (results_none rfl _ _ _) rfl ?_)
    rw [HIF.out]
    exact ⟨rfl, ⟨A, c, BW0.out, HR0.out, HOK.out⟩, FRT.of_below (Nat.le_of_lt (blk_lt BW0.out)) (Below.refl _ _)⟩
def RWantPost (W : World) (c : ChT) (e : Ending) (w' : World) : Prop := ∃ B d B' d', e = .returned (.agg #[.int .i64 c.1, .slice B c.2.1.length d, .slice B' c.2.2.length d']) ∧ (Kd.int .i64).C w' B c.2.1.length c.2.1 ∧ c.2.1.length ≤ d ∧ (Kd.int .i64).C w' B' c.2.2.length c.2.2 ∧ c.2.2.length ≤ d' ∧ Below W.heap.size W w'
theorem C_nil (w : World) : (Kd.int .i64).C w none 0 [] := (Kd.R_reads' (Kd.R_nil (Kd.int .i64) 3 w 0 (fun _ => True))).2.2
theorem set3_other {W : World} {g q : Nat} (h : q ≠ g) (a b c : Value) : (((W.setCell ⟨g, 0, none⟩ a).setCell ⟨g, 1, none⟩ b).setCell ⟨g, 2, none⟩ c).heap[q]? = W.heap[q]? :=
  (Below.heap_setCell _ ⟨g, 2, none⟩ c q h).trans ((Below.heap_setCell _ ⟨g, 1, none⟩ b q h).trans (Below.heap_setCell _ ⟨g, 0, none⟩ a q h))
set_option maxHeartbeats 8000000 in
set_option maxRecDepth 100000 in
theorem rwant_unseen (W : World) (g : Nat) (nd lf tk : Int) (seen : List (List Int)) (ag : Int) (v : List Int) (hv : lastOf seen = v) (h : RWAt W g nd lf tk seen ag) (hs : seen.length = 0) : Calls Try.prog 35 #[.pointer (some ⟨g, 0, none⟩)] W (RWantPost W (1, [], [])) := by
  have hu71 := Try.underlying71
  have hu78 := Try.underlying78
  have hu42 := Try.underlying42
  have hu39 := Try.underlying39
  have hu24 := Try.underlying24
  have hu22 := Try.underlying22
  have HR := Aside0.mk h
  obtain ⟨A, c, hB0, hR0, hok⟩ := h
  have BW0 := Aside0.mk hB0
  have HV := Aside0.mk hv
  clear hB0 hR0 hok hv
  have hz2 : seen = [] := List.eq_nil_of_length_eq_zero hs
  subst hz2
  clear hs
  go_enter Try.func35, Try.ntmps35
  go_upto_region 2 with fail
  obtain ⟨W1, hw1⟩ : ∃ x : World, x = (W.alloc (.cells #[.int .i64 0, .slice none 0 0, .slice none 0 0] 39)).alloc (.cells #[.int .i64 1, .slice none 0 0, .slice none 0 0] 39) := ⟨_, rfl⟩
  have hbs1 : Below W.heap.size W W1 := by rw [hw1]; repeat (first | exact Below.refl _ _ | refine below_alloc ?_ _ | refine below_drew ?_)
  obtain ⟨gb1, hgb1⟩ : ∃ x, x = W.heap.size := ⟨_, rfl⟩
  have GSb1 : Aside0 (W.heap.size ≤ gb1) := ⟨by rw [hgb1]; omega⟩
  have Bb1 : Aside0 (W1.heap[gb1]? = some (.cells #[.int .i64 0, .slice none 0 0, .slice none 0 0] 39 (0, 0))) := ⟨by rw [hw1, hgb1]; exact blk_alloc (blk_new _ _) _⟩
  obtain ⟨gk1, hgk1⟩ : ∃ x, x = W.heap.size + 1 := ⟨_, rfl⟩
  have GSk1 : Aside0 (W.heap.size ≤ gk1) := ⟨by rw [hgk1]; omega⟩
  have Bk1 : Aside0 (W1.heap[gk1]? = some (.cells #[.int .i64 1, .slice none 0 0, .slice none 0 0] 39 (0, 0))) := ⟨by rw [hw1, hgk1]; have := blk_new (W.alloc (.cells #[.int .i64 0, .slice none 0 0, .slice none 0 0] 39)) (.cells #[.int .i64 1, .slice none 0 0, .slice none 0 0] 39); rwa [World.size_alloc] at this⟩
  rw [← hw1]
  rw [← hgk1]
  rw [← hgb1]
  have HNEbk := Aside0.mk (show gb1 ≠ gk1 by omega)
  clear hw1 hgb1 hgk1
  have HB2 := Aside0.mk hbs1
  have BW2 : Aside0 (W1.heap[g]? = some (.cells #[.int .i64 nd, .int .i64 lf, .int .i64 tk, .slice A ([] : List (List Int)).length c, .int .i64 ag] 78 (0, 0))) := ⟨(hbs1.block _ (blk_lt BW0.out)).trans BW0.out⟩
  have CRW2 := Aside0.mk (RWAt.below HR.out hbs1)
  clear hbs1
  have zW3_0 : W1.cell? ⟨g, 0, none⟩ = some (.int .i64 nd) := (blk_cell BW2.out 0).trans rfl
  have zW3_1 : W1.cell? ⟨g, 1, none⟩ = some (.int .i64 lf) := (blk_cell BW2.out 1).trans rfl
  have zW3_2 : W1.cell? ⟨g, 2, none⟩ = some (.int .i64 tk) := (blk_cell BW2.out 2).trans rfl
  have zW3_3 : W1.cell? ⟨g, 3, none⟩ = some (.slice A ([] : List (List Int)).length c) := (blk_cell BW2.out 3).trans rfl
  have zW3_4 : W1.cell? ⟨g, 4, none⟩ = some (.int .i64 ag) := (blk_cell BW2.out 4).trans rfl
  have zb3_0 : W1.cell? ⟨gb1, 0, none⟩ = some (.int .i64 0) := (blk_cell Bb1.out 0).trans rfl
  have zb3_1 : W1.cell? ⟨gb1, 1, none⟩ = some (.slice none 0 0) := (blk_cell Bb1.out 1).trans rfl
  have zb3_2 : W1.cell? ⟨gb1, 2, none⟩ = some (.slice none 0 0) := (blk_cell Bb1.out 2).trans rfl
  have zk3_0 : W1.cell? ⟨gk1, 0, none⟩ = some (.int .i64 1) := (blk_cell Bk1.out 0).trans rfl
  have zk3_1 : W1.cell? ⟨gk1, 1, none⟩ = some (.slice none 0 0) := (blk_cell Bk1.out 1).trans rfl
  have zk3_2 : W1.cell? ⟨gk1, 2, none⟩ = some (.slice none 0 0) := (blk_cell Bk1.out 2).trans rfl
  skip
  clear zW3_0 zW3_1 zW3_2 zW3_3 zW3_4 zb3_0 zb3_1 zb3_2 zk3_0 zk3_1 zk3_2
  have zW4_0 : W1.cell? ⟨g, 0, none⟩ = some (.int .i64 nd) := (blk_cell BW2.out 0).trans rfl
  have zW4_1 : W1.cell? ⟨g, 1, none⟩ = some (.int .i64 lf) := (blk_cell BW2.out 1).trans rfl
  have zW4_2 : W1.cell? ⟨g, 2, none⟩ = some (.int .i64 tk) := (blk_cell BW2.out 2).trans rfl
  have zW4_3 : W1.cell? ⟨g, 3, none⟩ = some (.slice A ([] : List (List Int)).length c) := (blk_cell BW2.out 3).trans rfl
  have zW4_4 : W1.cell? ⟨g, 4, none⟩ = some (.int .i64 ag) := (blk_cell BW2.out 4).trans rfl
  have zb4_0 : W1.cell? ⟨gb1, 0, none⟩ = some (.int .i64 0) := (blk_cell Bb1.out 0).trans rfl
  have zb4_1 : W1.cell? ⟨gb1, 1, none⟩ = some (.slice none 0 0) := (blk_cell Bb1.out 1).trans rfl
  have zb4_2 : W1.cell? ⟨gb1, 2, none⟩ = some (.slice none 0 0) := (blk_cell Bb1.out 2).trans rfl
  have zk4_0 : W1.cell? ⟨gk1, 0, none⟩ = some (.int .i64 1) := (blk_cell Bk1.out 0).trans rfl
  have zk4_1 : W1.cell? ⟨gk1, 1, none⟩ = some (.slice none 0 0) := (blk_cell Bk1.out 1).trans rfl
  have zk4_2 : W1.cell? ⟨gk1, 2, none⟩ = some (.slice none 0 0) := (blk_cell Bk1.out 2).trans rfl
  have hf0 := blk_frozen Bb1.out 0
  have hf1 := blk_frozen Bb1.out 1
  have hf2 := blk_frozen Bb1.out 2
  go_wp2_with fail
  refine bodyPost_ret (results_cell_row rfl _ _ gb1 39 #[.int .i64 1, .slice none 0 0, .slice none 0 0] (0, 0) _ rfl (by refine blk_put (cs := #[.int .i64 1, .slice none 0 0, .slice none 0 0]) ?_ 2 _ rfl; refine blk_put (cs := #[.int .i64 1, .slice none 0 0, .slice none 0 0]) ?_ 1 _ rfl; refine blk_put (cs := #[.int .i64 0, .slice none 0 0, .slice none 0 0]) ?_ 0 _ rfl; exact Bb1.out) Try.underlying39 rfl (by kernel_rfl)) rfl ?_
  have hbl : Below W.heap.size W (((W1.setCell ⟨gb1, 0, none⟩ (.int .i64 1)).setCell ⟨gb1, 1, none⟩ (.slice none 0 0)).setCell ⟨gb1, 2, none⟩ (.slice none 0 0)) := below_set (below_set (below_set HB2.out GSb1.out) GSb1.out) GSb1.out
  exact ⟨_, _, _, _, rfl, C_nil _, Nat.le_refl _, C_nil _, Nat.le_refl _, hbl⟩
set_option maxHeartbeats 8000000 in
set_option maxRecDepth 100000 in
theorem rwant_leads (W : World) (g : Nat) (nd lf tk : Int) (seen : List (List Int)) (ag : Int) (v : List Int) (hv : lastOf seen = v) (h : RWAt W g nd lf tk seen ag) (l : LeaseT) (q lb : Bool) (hl : leaseOf v = l) (hq : okL v = q) (hlb : leadsB nd lf v = lb) (hs : (seen.length = 0) = False) (hx : lb = true) : Calls Try.prog 35 #[.pointer (some ⟨g, 0, none⟩)] W (RWantPost W (2, v, [l.1, l.2.1, l.2.2.1, wrap64 (l.2.2.2 + 1)])) := by
  have hu71 := Try.underlying71
  have hu78 := Try.underlying78
  have hu42 := Try.underlying42
  have hu39 := Try.underlying39
  have hu24 := Try.underlying24
  have hu22 := Try.underlying22
  have HR := Aside0.mk h
  obtain ⟨A, c, hB0, hR0, hok⟩ := h
  have BW0 := Aside0.mk hB0
  have HV := Aside0.mk hv
  clear hB0 hR0 hok hv
  have HL := Aside0.mk hl
  have HQ := Aside0.mk hq
  have HLB := Aside0.mk hlb
  clear hl hq hlb
  have hs1 : ((seen.length : Int) == 0) = false := beq_eq_false_iff_ne.2 (fun e => by rw [← hs]; omega)
  have hs2 : ¬ seen = [] := fun e => by rw [← hs, e]; rfl
  have hs3 : ¬ seen.length = 0 := fun e => by rw [← hs]; exact e
  go_enter Try.func35, Try.ntmps35
  go_upto_region 2 with fail
  obtain ⟨W1, hw1⟩ : ∃ x : World, x = (W.alloc (.cells #[.int .i64 0, .slice none 0 0, .slice none 0 0] 39)).alloc (.cells #[.int .i64 1, .slice none 0 0, .slice none 0 0] 39) := ⟨_, rfl⟩
  have hbs1 : Below W.heap.size W W1 := by rw [hw1]; repeat (first | exact Below.refl _ _ | refine below_alloc ?_ _ | refine below_drew ?_)
  obtain ⟨gb1, hgb1⟩ : ∃ x, x = W.heap.size := ⟨_, rfl⟩
  have GSb1 : Aside0 (W.heap.size ≤ gb1) := ⟨by rw [hgb1]; omega⟩
  have Bb1 : Aside0 (W1.heap[gb1]? = some (.cells #[.int .i64 0, .slice none 0 0, .slice none 0 0] 39 (0, 0))) := ⟨by rw [hw1, hgb1]; exact blk_alloc (blk_new _ _) _⟩
  obtain ⟨gk1, hgk1⟩ : ∃ x, x = W.heap.size + 1 := ⟨_, rfl⟩
  have GSk1 : Aside0 (W.heap.size ≤ gk1) := ⟨by rw [hgk1]; omega⟩
  have Bk1 : Aside0 (W1.heap[gk1]? = some (.cells #[.int .i64 1, .slice none 0 0, .slice none 0 0] 39 (0, 0))) := ⟨by rw [hw1, hgk1]; have := blk_new (W.alloc (.cells #[.int .i64 0, .slice none 0 0, .slice none 0 0] 39)) (.cells #[.int .i64 1, .slice none 0 0, .slice none 0 0] 39); rwa [World.size_alloc] at this⟩
  rw [← hw1]
  rw [← hgk1]
  rw [← hgb1]
  have HNEbk := Aside0.mk (show gb1 ≠ gk1 by omega)
  clear hw1 hgb1 hgk1
  have HB2 := Aside0.mk hbs1
  have BW2 : Aside0 (W1.heap[g]? = some (.cells #[.int .i64 nd, .int .i64 lf, .int .i64 tk, .slice A seen.length c, .int .i64 ag] 78 (0, 0))) := ⟨(hbs1.block _ (blk_lt BW0.out)).trans BW0.out⟩
  have CRW2 := Aside0.mk (RWAt.below HR.out hbs1)
  clear hbs1
  have zW3_0 : W1.cell? ⟨g, 0, none⟩ = some (.int .i64 nd) := (blk_cell BW2.out 0).trans rfl
  have zW3_1 : W1.cell? ⟨g, 1, none⟩ = some (.int .i64 lf) := (blk_cell BW2.out 1).trans rfl
  have zW3_2 : W1.cell? ⟨g, 2, none⟩ = some (.int .i64 tk) := (blk_cell BW2.out 2).trans rfl
  have zW3_3 : W1.cell? ⟨g, 3, none⟩ = some (.slice A seen.length c) := (blk_cell BW2.out 3).trans rfl
  have zW3_4 : W1.cell? ⟨g, 4, none⟩ = some (.int .i64 ag) := (blk_cell BW2.out 4).trans rfl
  have zb3_0 : W1.cell? ⟨gb1, 0, none⟩ = some (.int .i64 0) := (blk_cell Bb1.out 0).trans rfl
  have zb3_1 : W1.cell? ⟨gb1, 1, none⟩ = some (.slice none 0 0) := (blk_cell Bb1.out 1).trans rfl
  have zb3_2 : W1.cell? ⟨gb1, 2, none⟩ = some (.slice none 0 0) := (blk_cell Bb1.out 2).trans rfl
  have zk3_0 : W1.cell? ⟨gk1, 0, none⟩ = some (.int .i64 1) := (blk_cell Bk1.out 0).trans rfl
  have zk3_1 : W1.cell? ⟨gk1, 1, none⟩ = some (.slice none 0 0) := (blk_cell Bk1.out 1).trans rfl
  have zk3_2 : W1.cell? ⟨gk1, 2, none⟩ = some (.slice none 0 0) := (blk_cell Bk1.out 2).trans rfl
  go_wp2_with fail
  have hrl := rlast_w W _ g nd lf tk seen ag HR.out HB2.out
  rw [HV.out] at hrl
  refine hrl.mono ?_
  rintro e w8 ⟨B, d, rfl, hvd, hC, hb8⟩
  have HC0 := Aside0.mk hC
  clear hC hrl
  clear zW3_0 zW3_1 zW3_2 zW3_3 zW3_4 zb3_0 zb3_1 zb3_2 zk3_0 zk3_1 zk3_2
  have HB4 := Aside0.mk (below_step HB2.out hb8)
  have BW4 : Aside0 (w8.heap[g]? = some (.cells #[.int .i64 nd, .int .i64 lf, .int .i64 tk, .slice A seen.length c, .int .i64 ag] 78 (0, 0))) := ⟨(hb8.block _ (blk_lt BW2.out)).trans BW2.out⟩
  have Bb4 : Aside0 (w8.heap[gb1]? = some (.cells #[.int .i64 0, .slice none 0 0, .slice none 0 0] 39 (0, 0))) := ⟨(hb8.block _ (blk_lt Bb1.out)).trans Bb1.out⟩
  have Bk4 : Aside0 (w8.heap[gk1]? = some (.cells #[.int .i64 1, .slice none 0 0, .slice none 0 0] 39 (0, 0))) := ⟨(hb8.block _ (blk_lt Bk1.out)).trans Bk1.out⟩
  have CRW4 := Aside0.mk (RWAt.below CRW2.out hb8)
  clear hb8
  have zW5_0 : w8.cell? ⟨g, 0, none⟩ = some (.int .i64 nd) := (blk_cell BW4.out 0).trans rfl
  have zW5_1 : w8.cell? ⟨g, 1, none⟩ = some (.int .i64 lf) := (blk_cell BW4.out 1).trans rfl
  have zW5_2 : w8.cell? ⟨g, 2, none⟩ = some (.int .i64 tk) := (blk_cell BW4.out 2).trans rfl
  have zW5_3 : w8.cell? ⟨g, 3, none⟩ = some (.slice A seen.length c) := (blk_cell BW4.out 3).trans rfl
  have zW5_4 : w8.cell? ⟨g, 4, none⟩ = some (.int .i64 ag) := (blk_cell BW4.out 4).trans rfl
  have zb5_0 : w8.cell? ⟨gb1, 0, none⟩ = some (.int .i64 0) := (blk_cell Bb4.out 0).trans rfl
  have zb5_1 : w8.cell? ⟨gb1, 1, none⟩ = some (.slice none 0 0) := (blk_cell Bb4.out 1).trans rfl
  have zb5_2 : w8.cell? ⟨gb1, 2, none⟩ = some (.slice none 0 0) := (blk_cell Bb4.out 2).trans rfl
  have zk5_0 : w8.cell? ⟨gk1, 0, none⟩ = some (.int .i64 1) := (blk_cell Bk4.out 0).trans rfl
  have zk5_1 : w8.cell? ⟨gk1, 1, none⟩ = some (.slice none 0 0) := (blk_cell Bk4.out 1).trans rfl
  have zk5_2 : w8.cell? ⟨gk1, 2, none⟩ = some (.slice none 0 0) := (blk_cell Bk4.out 2).trans rfl
  go_wp2_with fail
  refine (rlease_c _ g nd lf tk seen ag v HV.out CRW4.out).mono ?_
  rw [HL.out, HQ.out]
  rintro e w9 ⟨rfl, hb9⟩
  clear zW5_0 zW5_1 zW5_2 zW5_3 zW5_4 zb5_0 zb5_1 zb5_2 zk5_0 zk5_1 zk5_2
  have HB6 := Aside0.mk (below_step HB4.out hb9)
  have BW6 : Aside0 (w9.heap[g]? = some (.cells #[.int .i64 nd, .int .i64 lf, .int .i64 tk, .slice A seen.length c, .int .i64 ag] 78 (0, 0))) := ⟨(hb9.block _ (blk_lt BW4.out)).trans BW4.out⟩
  have Bb6 : Aside0 (w9.heap[gb1]? = some (.cells #[.int .i64 0, .slice none 0 0, .slice none 0 0] 39 (0, 0))) := ⟨(hb9.block _ (blk_lt Bb4.out)).trans Bb4.out⟩
  have Bk6 : Aside0 (w9.heap[gk1]? = some (.cells #[.int .i64 1, .slice none 0 0, .slice none 0 0] 39 (0, 0))) := ⟨(hb9.block _ (blk_lt Bk4.out)).trans Bk4.out⟩
  have CRW6 := Aside0.mk (RWAt.below CRW4.out hb9)
  clear hb9
  have zW7_0 : w9.cell? ⟨g, 0, none⟩ = some (.int .i64 nd) := (blk_cell BW6.out 0).trans rfl
  have zW7_1 : w9.cell? ⟨g, 1, none⟩ = some (.int .i64 lf) := (blk_cell BW6.out 1).trans rfl
  have zW7_2 : w9.cell? ⟨g, 2, none⟩ = some (.int .i64 tk) := (blk_cell BW6.out 2).trans rfl
  have zW7_3 : w9.cell? ⟨g, 3, none⟩ = some (.slice A seen.length c) := (blk_cell BW6.out 3).trans rfl
  have zW7_4 : w9.cell? ⟨g, 4, none⟩ = some (.int .i64 ag) := (blk_cell BW6.out 4).trans rfl
  have zb7_0 : w9.cell? ⟨gb1, 0, none⟩ = some (.int .i64 0) := (blk_cell Bb6.out 0).trans rfl
  have zb7_1 : w9.cell? ⟨gb1, 1, none⟩ = some (.slice none 0 0) := (blk_cell Bb6.out 1).trans rfl
  have zb7_2 : w9.cell? ⟨gb1, 2, none⟩ = some (.slice none 0 0) := (blk_cell Bb6.out 2).trans rfl
  have zk7_0 : w9.cell? ⟨gk1, 0, none⟩ = some (.int .i64 1) := (blk_cell Bk6.out 0).trans rfl
  have zk7_1 : w9.cell? ⟨gk1, 1, none⟩ = some (.slice none 0 0) := (blk_cell Bk6.out 1).trans rfl
  have zk7_2 : w9.cell? ⟨gk1, 2, none⟩ = some (.slice none 0 0) := (blk_cell Bk6.out 2).trans rfl
  have zaW8_0 : ∀ o, (w9.alloc o).cell? ⟨g, 0, none⟩ = some (.int .i64 nd) := fun o => (blk_cell (blk_alloc BW6.out o) 0).trans rfl
  have zaW8_1 : ∀ o, (w9.alloc o).cell? ⟨g, 1, none⟩ = some (.int .i64 lf) := fun o => (blk_cell (blk_alloc BW6.out o) 1).trans rfl
  have zaW8_2 : ∀ o, (w9.alloc o).cell? ⟨g, 2, none⟩ = some (.int .i64 tk) := fun o => (blk_cell (blk_alloc BW6.out o) 2).trans rfl
  have zaW8_3 : ∀ o, (w9.alloc o).cell? ⟨g, 3, none⟩ = some (.slice A seen.length c) := fun o => (blk_cell (blk_alloc BW6.out o) 3).trans rfl
  have zaW8_4 : ∀ o, (w9.alloc o).cell? ⟨g, 4, none⟩ = some (.int .i64 ag) := fun o => (blk_cell (blk_alloc BW6.out o) 4).trans rfl
  have zab8_0 : ∀ o, (w9.alloc o).cell? ⟨gb1, 0, none⟩ = some (.int .i64 0) := fun o => (blk_cell (blk_alloc Bb6.out o) 0).trans rfl
  have zab8_1 : ∀ o, (w9.alloc o).cell? ⟨gb1, 1, none⟩ = some (.slice none 0 0) := fun o => (blk_cell (blk_alloc Bb6.out o) 1).trans rfl
  have zab8_2 : ∀ o, (w9.alloc o).cell? ⟨gb1, 2, none⟩ = some (.slice none 0 0) := fun o => (blk_cell (blk_alloc Bb6.out o) 2).trans rfl
  have zak8_0 : ∀ o, (w9.alloc o).cell? ⟨gk1, 0, none⟩ = some (.int .i64 1) := fun o => (blk_cell (blk_alloc Bk6.out o) 0).trans rfl
  have zak8_1 : ∀ o, (w9.alloc o).cell? ⟨gk1, 1, none⟩ = some (.slice none 0 0) := fun o => (blk_cell (blk_alloc Bk6.out o) 1).trans rfl
  have zak8_2 : ∀ o, (w9.alloc o).cell? ⟨gk1, 2, none⟩ = some (.slice none 0 0) := fun o => (blk_cell (blk_alloc Bk6.out o) 2).trans rfl
  go_wp2_with fail
  obtain ⟨W9, hw9⟩ : ∃ x : World, x = w9.alloc (.cells #[.int .i64 l.1, .int .i64 l.2.1, .int .i64 l.2.2.1, .int .i64 l.2.2.2] 24) := ⟨_, rfl⟩
  have hbs9 : Below w9.heap.size w9 W9 := by rw [hw9]; repeat (first | exact Below.refl _ _ | refine below_alloc ?_ _ | refine below_drew ?_)
  obtain ⟨gl9, hgl9⟩ : ∃ x, x = w9.heap.size := ⟨_, rfl⟩
  have GSl9 : Aside0 (W.heap.size ≤ gl9) := ⟨by rw [hgl9]; have := HB6.out.size; omega⟩
  have Bl9 : Aside0 (W9.heap[gl9]? = some (.cells #[.int .i64 l.1, .int .i64 l.2.1, .int .i64 l.2.2.1, .int .i64 l.2.2.2] 24 (0, 0))) := ⟨by rw [hw9, hgl9]; exact blk_new _ _⟩
  rw [← hw9]
  rw [← hgl9]
  clear hw9 hgl9
  clear zW7_0 zW7_1 zW7_2 zW7_3 zW7_4 zb7_0 zb7_1 zb7_2 zk7_0 zk7_1 zk7_2 zaW8_0 zaW8_1 zaW8_2 zaW8_3 zaW8_4 zab8_0 zab8_1 zab8_2 zak8_0 zak8_1 zak8_2
  have HB10 := Aside0.mk (below_step HB6.out hbs9)
  have BW10 : Aside0 (W9.heap[g]? = some (.cells #[.int .i64 nd, .int .i64 lf, .int .i64 tk, .slice A seen.length c, .int .i64 ag] 78 (0, 0))) := ⟨(hbs9.block _ (blk_lt BW6.out)).trans BW6.out⟩
  have Bb10 : Aside0 (W9.heap[gb1]? = some (.cells #[.int .i64 0, .slice none 0 0, .slice none 0 0] 39 (0, 0))) := ⟨(hbs9.block _ (blk_lt Bb6.out)).trans Bb6.out⟩
  have Bk10 : Aside0 (W9.heap[gk1]? = some (.cells #[.int .i64 1, .slice none 0 0, .slice none 0 0] 39 (0, 0))) := ⟨(hbs9.block _ (blk_lt Bk6.out)).trans Bk6.out⟩
  have CRW10 := Aside0.mk (RWAt.below CRW6.out hbs9)
  clear hbs9
  refine (rleads_c _ g nd lf tk seen ag v HV.out CRW10.out).mono ?_
  rw [HLB.out]
  rintro e w10 ⟨rfl, hb10⟩
  have HB11 := Aside0.mk (below_step HB10.out hb10)
  have BW11 : Aside0 (w10.heap[g]? = some (.cells #[.int .i64 nd, .int .i64 lf, .int .i64 tk, .slice A seen.length c, .int .i64 ag] 78 (0, 0))) := ⟨(hb10.block _ (blk_lt BW10.out)).trans BW10.out⟩
  have Bb11 : Aside0 (w10.heap[gb1]? = some (.cells #[.int .i64 0, .slice none 0 0, .slice none 0 0] 39 (0, 0))) := ⟨(hb10.block _ (blk_lt Bb10.out)).trans Bb10.out⟩
  have Bk11 : Aside0 (w10.heap[gk1]? = some (.cells #[.int .i64 1, .slice none 0 0, .slice none 0 0] 39 (0, 0))) := ⟨(hb10.block _ (blk_lt Bk10.out)).trans Bk10.out⟩
  have Bl11 : Aside0 (w10.heap[gl9]? = some (.cells #[.int .i64 l.1, .int .i64 l.2.1, .int .i64 l.2.2.1, .int .i64 l.2.2.2] 24 (0, 0))) := ⟨(hb10.block _ (blk_lt Bl9.out)).trans Bl9.out⟩
  have CRW11 := Aside0.mk (RWAt.below CRW10.out hb10)
  clear hb10
  have zW12_0 : w10.cell? ⟨g, 0, none⟩ = some (.int .i64 nd) := (blk_cell BW11.out 0).trans rfl
  have zW12_1 : w10.cell? ⟨g, 1, none⟩ = some (.int .i64 lf) := (blk_cell BW11.out 1).trans rfl
  have zW12_2 : w10.cell? ⟨g, 2, none⟩ = some (.int .i64 tk) := (blk_cell BW11.out 2).trans rfl
  have zW12_3 : w10.cell? ⟨g, 3, none⟩ = some (.slice A seen.length c) := (blk_cell BW11.out 3).trans rfl
  have zW12_4 : w10.cell? ⟨g, 4, none⟩ = some (.int .i64 ag) := (blk_cell BW11.out 4).trans rfl
  have zb12_0 : w10.cell? ⟨gb1, 0, none⟩ = some (.int .i64 0) := (blk_cell Bb11.out 0).trans rfl
  have zb12_1 : w10.cell? ⟨gb1, 1, none⟩ = some (.slice none 0 0) := (blk_cell Bb11.out 1).trans rfl
  have zb12_2 : w10.cell? ⟨gb1, 2, none⟩ = some (.slice none 0 0) := (blk_cell Bb11.out 2).trans rfl
  have zk12_0 : w10.cell? ⟨gk1, 0, none⟩ = some (.int .i64 1) := (blk_cell Bk11.out 0).trans rfl
  have zk12_1 : w10.cell? ⟨gk1, 1, none⟩ = some (.slice none 0 0) := (blk_cell Bk11.out 1).trans rfl
  have zk12_2 : w10.cell? ⟨gk1, 2, none⟩ = some (.slice none 0 0) := (blk_cell Bk11.out 2).trans rfl
  have zl12_0 : w10.cell? ⟨gl9, 0, none⟩ = some (.int .i64 l.1) := (blk_cell Bl11.out 0).trans rfl
  have zl12_1 : w10.cell? ⟨gl9, 1, none⟩ = some (.int .i64 l.2.1) := (blk_cell Bl11.out 1).trans rfl
  have zl12_2 : w10.cell? ⟨gl9, 2, none⟩ = some (.int .i64 l.2.2.1) := (blk_cell Bl11.out 2).trans rfl
  have zl12_3 : w10.cell? ⟨gl9, 3, none⟩ = some (.int .i64 l.2.2.2) := (blk_cell Bl11.out 3).trans rfl
  have hf0 := blk_frozen Bb11.out 0
  have hf1 := blk_frozen Bb11.out 1
  have hf2 := blk_frozen Bb11.out 2
  have hfa : ∀ o j, (w10.alloc o).frozen? ⟨gb1, j, none⟩ = false := fun o j => blk_frozen (blk_alloc Bb11.out o) j
  have zaW13_0 : ∀ o, (w10.alloc o).cell? ⟨g, 0, none⟩ = some (.int .i64 nd) := fun o => (blk_cell (blk_alloc BW11.out o) 0).trans rfl
  have zaW13_1 : ∀ o, (w10.alloc o).cell? ⟨g, 1, none⟩ = some (.int .i64 lf) := fun o => (blk_cell (blk_alloc BW11.out o) 1).trans rfl
  have zaW13_2 : ∀ o, (w10.alloc o).cell? ⟨g, 2, none⟩ = some (.int .i64 tk) := fun o => (blk_cell (blk_alloc BW11.out o) 2).trans rfl
  have zaW13_3 : ∀ o, (w10.alloc o).cell? ⟨g, 3, none⟩ = some (.slice A seen.length c) := fun o => (blk_cell (blk_alloc BW11.out o) 3).trans rfl
  have zaW13_4 : ∀ o, (w10.alloc o).cell? ⟨g, 4, none⟩ = some (.int .i64 ag) := fun o => (blk_cell (blk_alloc BW11.out o) 4).trans rfl
  have zab13_0 : ∀ o, (w10.alloc o).cell? ⟨gb1, 0, none⟩ = some (.int .i64 0) := fun o => (blk_cell (blk_alloc Bb11.out o) 0).trans rfl
  have zab13_1 : ∀ o, (w10.alloc o).cell? ⟨gb1, 1, none⟩ = some (.slice none 0 0) := fun o => (blk_cell (blk_alloc Bb11.out o) 1).trans rfl
  have zab13_2 : ∀ o, (w10.alloc o).cell? ⟨gb1, 2, none⟩ = some (.slice none 0 0) := fun o => (blk_cell (blk_alloc Bb11.out o) 2).trans rfl
  have zak13_0 : ∀ o, (w10.alloc o).cell? ⟨gk1, 0, none⟩ = some (.int .i64 1) := fun o => (blk_cell (blk_alloc Bk11.out o) 0).trans rfl
  have zak13_1 : ∀ o, (w10.alloc o).cell? ⟨gk1, 1, none⟩ = some (.slice none 0 0) := fun o => (blk_cell (blk_alloc Bk11.out o) 1).trans rfl
  have zak13_2 : ∀ o, (w10.alloc o).cell? ⟨gk1, 2, none⟩ = some (.slice none 0 0) := fun o => (blk_cell (blk_alloc Bk11.out o) 2).trans rfl
  have zal13_0 : ∀ o, (w10.alloc o).cell? ⟨gl9, 0, none⟩ = some (.int .i64 l.1) := fun o => (blk_cell (blk_alloc Bl11.out o) 0).trans rfl
  have zal13_1 : ∀ o, (w10.alloc o).cell? ⟨gl9, 1, none⟩ = some (.int .i64 l.2.1) := fun o => (blk_cell (blk_alloc Bl11.out o) 1).trans rfl
  have zal13_2 : ∀ o, (w10.alloc o).cell? ⟨gl9, 2, none⟩ = some (.int .i64 l.2.2.1) := fun o => (blk_cell (blk_alloc Bl11.out o) 2).trans rfl
  have zal13_3 : ∀ o, (w10.alloc o).cell? ⟨gl9, 3, none⟩ = some (.int .i64 l.2.2.2) := fun o => (blk_cell (blk_alloc Bl11.out o) 3).trans rfl
  subst hx
  go_wp2_with fail
  obtain ⟨W14, hw14⟩ : ∃ x : World, x = w10.alloc (.cells #[.int .i64 l.1, .int .i64 l.2.1, .int .i64 l.2.2.1, .int .i64 (wrap64 (l.2.2.2 + 1))] 3) := ⟨_, rfl⟩
  have hbs14 : Below w10.heap.size w10 W14 := by rw [hw14]; repeat (first | exact Below.refl _ _ | refine below_alloc ?_ _ | refine below_drew ?_)
  obtain ⟨gn14, hgn14⟩ : ∃ x, x = w10.heap.size := ⟨_, rfl⟩
  have GSn14 : Aside0 (W.heap.size ≤ gn14) := ⟨by rw [hgn14]; have := HB11.out.size; omega⟩
  have Bn14 : Aside0 (W14.heap[gn14]? = some (.cells #[.int .i64 l.1, .int .i64 l.2.1, .int .i64 l.2.2.1, .int .i64 (wrap64 (l.2.2.2 + 1))] 3 (0, 0))) := ⟨by rw [hw14, hgn14]; exact blk_new _ _⟩
  rw [← hw14]
  rw [← hgn14]
  clear hw14 hgn14
  clear zW12_0 zW12_1 zW12_2 zW12_3 zW12_4 zb12_0 zb12_1 zb12_2 zk12_0 zk12_1 zk12_2 zl12_0 zl12_1 zl12_2 zl12_3 zaW13_0 zaW13_1 zaW13_2 zaW13_3 zaW13_4 zab13_0 zab13_1 zab13_2 zak13_0 zak13_1 zak13_2 zal13_0 zal13_1 zal13_2 zal13_3
  have HB15 := Aside0.mk (below_step HB11.out hbs14)
  have BW15 : Aside0 (W14.heap[g]? = some (.cells #[.int .i64 nd, .int .i64 lf, .int .i64 tk, .slice A seen.length c, .int .i64 ag] 78 (0, 0))) := ⟨(hbs14.block _ (blk_lt BW11.out)).trans BW11.out⟩
  have Bb15 : Aside0 (W14.heap[gb1]? = some (.cells #[.int .i64 0, .slice none 0 0, .slice none 0 0] 39 (0, 0))) := ⟨(hbs14.block _ (blk_lt Bb11.out)).trans Bb11.out⟩
  have Bk15 : Aside0 (W14.heap[gk1]? = some (.cells #[.int .i64 1, .slice none 0 0, .slice none 0 0] 39 (0, 0))) := ⟨(hbs14.block _ (blk_lt Bk11.out)).trans Bk11.out⟩
  have Bl15 : Aside0 (W14.heap[gl9]? = some (.cells #[.int .i64 l.1, .int .i64 l.2.1, .int .i64 l.2.2.1, .int .i64 l.2.2.2] 24 (0, 0))) := ⟨(hbs14.block _ (blk_lt Bl11.out)).trans Bl11.out⟩
  have CRW15 := Aside0.mk (RWAt.below CRW11.out hbs14)
  clear hbs14
  have hne := blk_ne Bn14.out Bb15.out (by decide)
  refine bodyPost_ret (results_cell_row rfl _ _ gb1 39 #[.int .i64 2, .slice B v.length d, .slice (some ⟨gn14, 0, none⟩) 4 4] (0, 0) _ rfl (by refine blk_put (cs := #[.int .i64 2, .slice B v.length d, .slice none 0 0]) ?_ 2 _ rfl; refine blk_put (cs := #[.int .i64 2, .slice none 0 0, .slice none 0 0]) ?_ 1 _ rfl; refine blk_put (cs := #[.int .i64 0, .slice none 0 0, .slice none 0 0]) ?_ 0 _ rfl; exact Bb15.out) Try.underlying39 rfl (by kernel_rfl)) rfl ?_
  have hbl : Below W.heap.size W (((W14.setCell ⟨gb1, 0, none⟩ (.int .i64 2)).setCell ⟨gb1, 1, none⟩ (.slice B v.length d)).setCell ⟨gb1, 2, none⟩ (.slice (some ⟨gn14, 0, none⟩) 4 4)) := below_set (below_set (below_set HB15.out GSb1.out) GSb1.out) GSb1.out
  exact ⟨_, _, _, _, rfl, Kd.C_below HC0.out hbl, hvd, C_blk [l.1, l.2.1, l.2.2.1, (wrap64 (l.2.2.2 + 1))] ((set3_other hne _ _ _).trans Bn14.out) rfl (by simp), (Nat.le_refl _), hbl⟩
set_option maxHeartbeats 8000000 in
set_option maxRecDepth 100000 in
theorem rwant_fresh (W : World) (g : Nat) (nd lf tk : Int) (seen : List (List Int)) (ag : Int) (v : List Int) (hv : lastOf seen = v) (h : RWAt W g nd lf tk seen ag) (l : LeaseT) (q lb : Bool) (hl : leaseOf v = l) (hq : okL v = q) (hlb : leadsB nd lf v = lb) (hs : (seen.length = 0) = False) (hx : lb = false) (hy : q = true) (hage : ag < tk) : Calls Try.prog 35 #[.pointer (some ⟨g, 0, none⟩)] W (RWantPost W (1, [], [])) := by
  have hu71 := Try.underlying71
  have hu78 := Try.underlying78
  have hu42 := Try.underlying42
  have hu39 := Try.underlying39
  have hu24 := Try.underlying24
  have hu22 := Try.underlying22
  have HR := Aside0.mk h
  obtain ⟨A, c, hB0, hR0, hok⟩ := h
  have BW0 := Aside0.mk hB0
  have HV := Aside0.mk hv
  clear hB0 hR0 hok hv
  have HL := Aside0.mk hl
  have HQ := Aside0.mk hq
  have HLB := Aside0.mk hlb
  clear hl hq hlb
  have hs1 : ((seen.length : Int) == 0) = false := beq_eq_false_iff_ne.2 (fun e => by rw [← hs]; omega)
  have hs2 : ¬ seen = [] := fun e => by rw [← hs, e]; rfl
  have hs3 : ¬ seen.length = 0 := fun e => by rw [← hs]; exact e
  go_enter Try.func35, Try.ntmps35
  go_upto_region 2 with fail
  obtain ⟨W1, hw1⟩ : ∃ x : World, x = (W.alloc (.cells #[.int .i64 0, .slice none 0 0, .slice none 0 0] 39)).alloc (.cells #[.int .i64 1, .slice none 0 0, .slice none 0 0] 39) := ⟨_, rfl⟩
  have hbs1 : Below W.heap.size W W1 := by rw [hw1]; repeat (first | exact Below.refl _ _ | refine below_alloc ?_ _ | refine below_drew ?_)
  obtain ⟨gb1, hgb1⟩ : ∃ x, x = W.heap.size := ⟨_, rfl⟩
  have GSb1 : Aside0 (W.heap.size ≤ gb1) := ⟨by rw [hgb1]; omega⟩
  have Bb1 : Aside0 (W1.heap[gb1]? = some (.cells #[.int .i64 0, .slice none 0 0, .slice none 0 0] 39 (0, 0))) := ⟨by rw [hw1, hgb1]; exact blk_alloc (blk_new _ _) _⟩
  obtain ⟨gk1, hgk1⟩ : ∃ x, x = W.heap.size + 1 := ⟨_, rfl⟩
  have GSk1 : Aside0 (W.heap.size ≤ gk1) := ⟨by rw [hgk1]; omega⟩
  have Bk1 : Aside0 (W1.heap[gk1]? = some (.cells #[.int .i64 1, .slice none 0 0, .slice none 0 0] 39 (0, 0))) := ⟨by rw [hw1, hgk1]; have := blk_new (W.alloc (.cells #[.int .i64 0, .slice none 0 0, .slice none 0 0] 39)) (.cells #[.int .i64 1, .slice none 0 0, .slice none 0 0] 39); rwa [World.size_alloc] at this⟩
  rw [← hw1]
  rw [← hgk1]
  rw [← hgb1]
  have HNEbk := Aside0.mk (show gb1 ≠ gk1 by omega)
  clear hw1 hgb1 hgk1
  have HB2 := Aside0.mk hbs1
  have BW2 : Aside0 (W1.heap[g]? = some (.cells #[.int .i64 nd, .int .i64 lf, .int .i64 tk, .slice A seen.length c, .int .i64 ag] 78 (0, 0))) := ⟨(hbs1.block _ (blk_lt BW0.out)).trans BW0.out⟩
  have CRW2 := Aside0.mk (RWAt.below HR.out hbs1)
  clear hbs1
  have zW3_0 : W1.cell? ⟨g, 0, none⟩ = some (.int .i64 nd) := (blk_cell BW2.out 0).trans rfl
  have zW3_1 : W1.cell? ⟨g, 1, none⟩ = some (.int .i64 lf) := (blk_cell BW2.out 1).trans rfl
  have zW3_2 : W1.cell? ⟨g, 2, none⟩ = some (.int .i64 tk) := (blk_cell BW2.out 2).trans rfl
  have zW3_3 : W1.cell? ⟨g, 3, none⟩ = some (.slice A seen.length c) := (blk_cell BW2.out 3).trans rfl
  have zW3_4 : W1.cell? ⟨g, 4, none⟩ = some (.int .i64 ag) := (blk_cell BW2.out 4).trans rfl
  have zb3_0 : W1.cell? ⟨gb1, 0, none⟩ = some (.int .i64 0) := (blk_cell Bb1.out 0).trans rfl
  have zb3_1 : W1.cell? ⟨gb1, 1, none⟩ = some (.slice none 0 0) := (blk_cell Bb1.out 1).trans rfl
  have zb3_2 : W1.cell? ⟨gb1, 2, none⟩ = some (.slice none 0 0) := (blk_cell Bb1.out 2).trans rfl
  have zk3_0 : W1.cell? ⟨gk1, 0, none⟩ = some (.int .i64 1) := (blk_cell Bk1.out 0).trans rfl
  have zk3_1 : W1.cell? ⟨gk1, 1, none⟩ = some (.slice none 0 0) := (blk_cell Bk1.out 1).trans rfl
  have zk3_2 : W1.cell? ⟨gk1, 2, none⟩ = some (.slice none 0 0) := (blk_cell Bk1.out 2).trans rfl
  go_wp2_with fail
  have hrl := rlast_w W _ g nd lf tk seen ag HR.out HB2.out
  rw [HV.out] at hrl
  refine hrl.mono ?_
  rintro e w8 ⟨B, d, rfl, hvd, hC, hb8⟩
  have HC0 := Aside0.mk hC
  clear hC hrl
  clear zW3_0 zW3_1 zW3_2 zW3_3 zW3_4 zb3_0 zb3_1 zb3_2 zk3_0 zk3_1 zk3_2
  have HB4 := Aside0.mk (below_step HB2.out hb8)
  have BW4 : Aside0 (w8.heap[g]? = some (.cells #[.int .i64 nd, .int .i64 lf, .int .i64 tk, .slice A seen.length c, .int .i64 ag] 78 (0, 0))) := ⟨(hb8.block _ (blk_lt BW2.out)).trans BW2.out⟩
  have Bb4 : Aside0 (w8.heap[gb1]? = some (.cells #[.int .i64 0, .slice none 0 0, .slice none 0 0] 39 (0, 0))) := ⟨(hb8.block _ (blk_lt Bb1.out)).trans Bb1.out⟩
  have Bk4 : Aside0 (w8.heap[gk1]? = some (.cells #[.int .i64 1, .slice none 0 0, .slice none 0 0] 39 (0, 0))) := ⟨(hb8.block _ (blk_lt Bk1.out)).trans Bk1.out⟩
  have CRW4 := Aside0.mk (RWAt.below CRW2.out hb8)
  clear hb8
  have zW5_0 : w8.cell? ⟨g, 0, none⟩ = some (.int .i64 nd) := (blk_cell BW4.out 0).trans rfl
  have zW5_1 : w8.cell? ⟨g, 1, none⟩ = some (.int .i64 lf) := (blk_cell BW4.out 1).trans rfl
  have zW5_2 : w8.cell? ⟨g, 2, none⟩ = some (.int .i64 tk) := (blk_cell BW4.out 2).trans rfl
  have zW5_3 : w8.cell? ⟨g, 3, none⟩ = some (.slice A seen.length c) := (blk_cell BW4.out 3).trans rfl
  have zW5_4 : w8.cell? ⟨g, 4, none⟩ = some (.int .i64 ag) := (blk_cell BW4.out 4).trans rfl
  have zb5_0 : w8.cell? ⟨gb1, 0, none⟩ = some (.int .i64 0) := (blk_cell Bb4.out 0).trans rfl
  have zb5_1 : w8.cell? ⟨gb1, 1, none⟩ = some (.slice none 0 0) := (blk_cell Bb4.out 1).trans rfl
  have zb5_2 : w8.cell? ⟨gb1, 2, none⟩ = some (.slice none 0 0) := (blk_cell Bb4.out 2).trans rfl
  have zk5_0 : w8.cell? ⟨gk1, 0, none⟩ = some (.int .i64 1) := (blk_cell Bk4.out 0).trans rfl
  have zk5_1 : w8.cell? ⟨gk1, 1, none⟩ = some (.slice none 0 0) := (blk_cell Bk4.out 1).trans rfl
  have zk5_2 : w8.cell? ⟨gk1, 2, none⟩ = some (.slice none 0 0) := (blk_cell Bk4.out 2).trans rfl
  go_wp2_with fail
  refine (rlease_c _ g nd lf tk seen ag v HV.out CRW4.out).mono ?_
  rw [HL.out, HQ.out]
  rintro e w9 ⟨rfl, hb9⟩
  clear zW5_0 zW5_1 zW5_2 zW5_3 zW5_4 zb5_0 zb5_1 zb5_2 zk5_0 zk5_1 zk5_2
  have HB6 := Aside0.mk (below_step HB4.out hb9)
  have BW6 : Aside0 (w9.heap[g]? = some (.cells #[.int .i64 nd, .int .i64 lf, .int .i64 tk, .slice A seen.length c, .int .i64 ag] 78 (0, 0))) := ⟨(hb9.block _ (blk_lt BW4.out)).trans BW4.out⟩
  have Bb6 : Aside0 (w9.heap[gb1]? = some (.cells #[.int .i64 0, .slice none 0 0, .slice none 0 0] 39 (0, 0))) := ⟨(hb9.block _ (blk_lt Bb4.out)).trans Bb4.out⟩
  have Bk6 : Aside0 (w9.heap[gk1]? = some (.cells #[.int .i64 1, .slice none 0 0, .slice none 0 0] 39 (0, 0))) := ⟨(hb9.block _ (blk_lt Bk4.out)).trans Bk4.out⟩
  have CRW6 := Aside0.mk (RWAt.below CRW4.out hb9)
  clear hb9
  have zW7_0 : w9.cell? ⟨g, 0, none⟩ = some (.int .i64 nd) := (blk_cell BW6.out 0).trans rfl
  have zW7_1 : w9.cell? ⟨g, 1, none⟩ = some (.int .i64 lf) := (blk_cell BW6.out 1).trans rfl
  have zW7_2 : w9.cell? ⟨g, 2, none⟩ = some (.int .i64 tk) := (blk_cell BW6.out 2).trans rfl
  have zW7_3 : w9.cell? ⟨g, 3, none⟩ = some (.slice A seen.length c) := (blk_cell BW6.out 3).trans rfl
  have zW7_4 : w9.cell? ⟨g, 4, none⟩ = some (.int .i64 ag) := (blk_cell BW6.out 4).trans rfl
  have zb7_0 : w9.cell? ⟨gb1, 0, none⟩ = some (.int .i64 0) := (blk_cell Bb6.out 0).trans rfl
  have zb7_1 : w9.cell? ⟨gb1, 1, none⟩ = some (.slice none 0 0) := (blk_cell Bb6.out 1).trans rfl
  have zb7_2 : w9.cell? ⟨gb1, 2, none⟩ = some (.slice none 0 0) := (blk_cell Bb6.out 2).trans rfl
  have zk7_0 : w9.cell? ⟨gk1, 0, none⟩ = some (.int .i64 1) := (blk_cell Bk6.out 0).trans rfl
  have zk7_1 : w9.cell? ⟨gk1, 1, none⟩ = some (.slice none 0 0) := (blk_cell Bk6.out 1).trans rfl
  have zk7_2 : w9.cell? ⟨gk1, 2, none⟩ = some (.slice none 0 0) := (blk_cell Bk6.out 2).trans rfl
  have zaW8_0 : ∀ o, (w9.alloc o).cell? ⟨g, 0, none⟩ = some (.int .i64 nd) := fun o => (blk_cell (blk_alloc BW6.out o) 0).trans rfl
  have zaW8_1 : ∀ o, (w9.alloc o).cell? ⟨g, 1, none⟩ = some (.int .i64 lf) := fun o => (blk_cell (blk_alloc BW6.out o) 1).trans rfl
  have zaW8_2 : ∀ o, (w9.alloc o).cell? ⟨g, 2, none⟩ = some (.int .i64 tk) := fun o => (blk_cell (blk_alloc BW6.out o) 2).trans rfl
  have zaW8_3 : ∀ o, (w9.alloc o).cell? ⟨g, 3, none⟩ = some (.slice A seen.length c) := fun o => (blk_cell (blk_alloc BW6.out o) 3).trans rfl
  have zaW8_4 : ∀ o, (w9.alloc o).cell? ⟨g, 4, none⟩ = some (.int .i64 ag) := fun o => (blk_cell (blk_alloc BW6.out o) 4).trans rfl
  have zab8_0 : ∀ o, (w9.alloc o).cell? ⟨gb1, 0, none⟩ = some (.int .i64 0) := fun o => (blk_cell (blk_alloc Bb6.out o) 0).trans rfl
  have zab8_1 : ∀ o, (w9.alloc o).cell? ⟨gb1, 1, none⟩ = some (.slice none 0 0) := fun o => (blk_cell (blk_alloc Bb6.out o) 1).trans rfl
  have zab8_2 : ∀ o, (w9.alloc o).cell? ⟨gb1, 2, none⟩ = some (.slice none 0 0) := fun o => (blk_cell (blk_alloc Bb6.out o) 2).trans rfl
  have zak8_0 : ∀ o, (w9.alloc o).cell? ⟨gk1, 0, none⟩ = some (.int .i64 1) := fun o => (blk_cell (blk_alloc Bk6.out o) 0).trans rfl
  have zak8_1 : ∀ o, (w9.alloc o).cell? ⟨gk1, 1, none⟩ = some (.slice none 0 0) := fun o => (blk_cell (blk_alloc Bk6.out o) 1).trans rfl
  have zak8_2 : ∀ o, (w9.alloc o).cell? ⟨gk1, 2, none⟩ = some (.slice none 0 0) := fun o => (blk_cell (blk_alloc Bk6.out o) 2).trans rfl
  go_wp2_with fail
  obtain ⟨W9, hw9⟩ : ∃ x : World, x = w9.alloc (.cells #[.int .i64 l.1, .int .i64 l.2.1, .int .i64 l.2.2.1, .int .i64 l.2.2.2] 24) := ⟨_, rfl⟩
  have hbs9 : Below w9.heap.size w9 W9 := by rw [hw9]; repeat (first | exact Below.refl _ _ | refine below_alloc ?_ _ | refine below_drew ?_)
  obtain ⟨gl9, hgl9⟩ : ∃ x, x = w9.heap.size := ⟨_, rfl⟩
  have GSl9 : Aside0 (W.heap.size ≤ gl9) := ⟨by rw [hgl9]; have := HB6.out.size; omega⟩
  have Bl9 : Aside0 (W9.heap[gl9]? = some (.cells #[.int .i64 l.1, .int .i64 l.2.1, .int .i64 l.2.2.1, .int .i64 l.2.2.2] 24 (0, 0))) := ⟨by rw [hw9, hgl9]; exact blk_new _ _⟩
  rw [← hw9]
  rw [← hgl9]
  clear hw9 hgl9
  clear zW7_0 zW7_1 zW7_2 zW7_3 zW7_4 zb7_0 zb7_1 zb7_2 zk7_0 zk7_1 zk7_2 zaW8_0 zaW8_1 zaW8_2 zaW8_3 zaW8_4 zab8_0 zab8_1 zab8_2 zak8_0 zak8_1 zak8_2
  have HB10 := Aside0.mk (below_step HB6.out hbs9)
  have BW10 : Aside0 (W9.heap[g]? = some (.cells #[.int .i64 nd, .int .i64 lf, .int .i64 tk, .slice A seen.length c, .int .i64 ag] 78 (0, 0))) := ⟨(hbs9.block _ (blk_lt BW6.out)).trans BW6.out⟩
  have Bb10 : Aside0 (W9.heap[gb1]? = some (.cells #[.int .i64 0, .slice none 0 0, .slice none 0 0] 39 (0, 0))) := ⟨(hbs9.block _ (blk_lt Bb6.out)).trans Bb6.out⟩
  have Bk10 : Aside0 (W9.heap[gk1]? = some (.cells #[.int .i64 1, .slice none 0 0, .slice none 0 0] 39 (0, 0))) := ⟨(hbs9.block _ (blk_lt Bk6.out)).trans Bk6.out⟩
  have CRW10 := Aside0.mk (RWAt.below CRW6.out hbs9)
  clear hbs9
  refine (rleads_c _ g nd lf tk seen ag v HV.out CRW10.out).mono ?_
  rw [HLB.out]
  rintro e w10 ⟨rfl, hb10⟩
  have HB11 := Aside0.mk (below_step HB10.out hb10)
  have BW11 : Aside0 (w10.heap[g]? = some (.cells #[.int .i64 nd, .int .i64 lf, .int .i64 tk, .slice A seen.length c, .int .i64 ag] 78 (0, 0))) := ⟨(hb10.block _ (blk_lt BW10.out)).trans BW10.out⟩
  have Bb11 : Aside0 (w10.heap[gb1]? = some (.cells #[.int .i64 0, .slice none 0 0, .slice none 0 0] 39 (0, 0))) := ⟨(hb10.block _ (blk_lt Bb10.out)).trans Bb10.out⟩
  have Bk11 : Aside0 (w10.heap[gk1]? = some (.cells #[.int .i64 1, .slice none 0 0, .slice none 0 0] 39 (0, 0))) := ⟨(hb10.block _ (blk_lt Bk10.out)).trans Bk10.out⟩
  have Bl11 : Aside0 (w10.heap[gl9]? = some (.cells #[.int .i64 l.1, .int .i64 l.2.1, .int .i64 l.2.2.1, .int .i64 l.2.2.2] 24 (0, 0))) := ⟨(hb10.block _ (blk_lt Bl9.out)).trans Bl9.out⟩
  have CRW11 := Aside0.mk (RWAt.below CRW10.out hb10)
  clear hb10
  have zW12_0 : w10.cell? ⟨g, 0, none⟩ = some (.int .i64 nd) := (blk_cell BW11.out 0).trans rfl
  have zW12_1 : w10.cell? ⟨g, 1, none⟩ = some (.int .i64 lf) := (blk_cell BW11.out 1).trans rfl
  have zW12_2 : w10.cell? ⟨g, 2, none⟩ = some (.int .i64 tk) := (blk_cell BW11.out 2).trans rfl
  have zW12_3 : w10.cell? ⟨g, 3, none⟩ = some (.slice A seen.length c) := (blk_cell BW11.out 3).trans rfl
  have zW12_4 : w10.cell? ⟨g, 4, none⟩ = some (.int .i64 ag) := (blk_cell BW11.out 4).trans rfl
  have zb12_0 : w10.cell? ⟨gb1, 0, none⟩ = some (.int .i64 0) := (blk_cell Bb11.out 0).trans rfl
  have zb12_1 : w10.cell? ⟨gb1, 1, none⟩ = some (.slice none 0 0) := (blk_cell Bb11.out 1).trans rfl
  have zb12_2 : w10.cell? ⟨gb1, 2, none⟩ = some (.slice none 0 0) := (blk_cell Bb11.out 2).trans rfl
  have zk12_0 : w10.cell? ⟨gk1, 0, none⟩ = some (.int .i64 1) := (blk_cell Bk11.out 0).trans rfl
  have zk12_1 : w10.cell? ⟨gk1, 1, none⟩ = some (.slice none 0 0) := (blk_cell Bk11.out 1).trans rfl
  have zk12_2 : w10.cell? ⟨gk1, 2, none⟩ = some (.slice none 0 0) := (blk_cell Bk11.out 2).trans rfl
  have zl12_0 : w10.cell? ⟨gl9, 0, none⟩ = some (.int .i64 l.1) := (blk_cell Bl11.out 0).trans rfl
  have zl12_1 : w10.cell? ⟨gl9, 1, none⟩ = some (.int .i64 l.2.1) := (blk_cell Bl11.out 1).trans rfl
  have zl12_2 : w10.cell? ⟨gl9, 2, none⟩ = some (.int .i64 l.2.2.1) := (blk_cell Bl11.out 2).trans rfl
  have zl12_3 : w10.cell? ⟨gl9, 3, none⟩ = some (.int .i64 l.2.2.2) := (blk_cell Bl11.out 3).trans rfl
  have hf0 := blk_frozen Bb11.out 0
  have hf1 := blk_frozen Bb11.out 1
  have hf2 := blk_frozen Bb11.out 2
  have hfa : ∀ o j, (w10.alloc o).frozen? ⟨gb1, j, none⟩ = false := fun o j => blk_frozen (blk_alloc Bb11.out o) j
  have zaW13_0 : ∀ o, (w10.alloc o).cell? ⟨g, 0, none⟩ = some (.int .i64 nd) := fun o => (blk_cell (blk_alloc BW11.out o) 0).trans rfl
  have zaW13_1 : ∀ o, (w10.alloc o).cell? ⟨g, 1, none⟩ = some (.int .i64 lf) := fun o => (blk_cell (blk_alloc BW11.out o) 1).trans rfl
  have zaW13_2 : ∀ o, (w10.alloc o).cell? ⟨g, 2, none⟩ = some (.int .i64 tk) := fun o => (blk_cell (blk_alloc BW11.out o) 2).trans rfl
  have zaW13_3 : ∀ o, (w10.alloc o).cell? ⟨g, 3, none⟩ = some (.slice A seen.length c) := fun o => (blk_cell (blk_alloc BW11.out o) 3).trans rfl
  have zaW13_4 : ∀ o, (w10.alloc o).cell? ⟨g, 4, none⟩ = some (.int .i64 ag) := fun o => (blk_cell (blk_alloc BW11.out o) 4).trans rfl
  have zab13_0 : ∀ o, (w10.alloc o).cell? ⟨gb1, 0, none⟩ = some (.int .i64 0) := fun o => (blk_cell (blk_alloc Bb11.out o) 0).trans rfl
  have zab13_1 : ∀ o, (w10.alloc o).cell? ⟨gb1, 1, none⟩ = some (.slice none 0 0) := fun o => (blk_cell (blk_alloc Bb11.out o) 1).trans rfl
  have zab13_2 : ∀ o, (w10.alloc o).cell? ⟨gb1, 2, none⟩ = some (.slice none 0 0) := fun o => (blk_cell (blk_alloc Bb11.out o) 2).trans rfl
  have zak13_0 : ∀ o, (w10.alloc o).cell? ⟨gk1, 0, none⟩ = some (.int .i64 1) := fun o => (blk_cell (blk_alloc Bk11.out o) 0).trans rfl
  have zak13_1 : ∀ o, (w10.alloc o).cell? ⟨gk1, 1, none⟩ = some (.slice none 0 0) := fun o => (blk_cell (blk_alloc Bk11.out o) 1).trans rfl
  have zak13_2 : ∀ o, (w10.alloc o).cell? ⟨gk1, 2, none⟩ = some (.slice none 0 0) := fun o => (blk_cell (blk_alloc Bk11.out o) 2).trans rfl
  have zal13_0 : ∀ o, (w10.alloc o).cell? ⟨gl9, 0, none⟩ = some (.int .i64 l.1) := fun o => (blk_cell (blk_alloc Bl11.out o) 0).trans rfl
  have zal13_1 : ∀ o, (w10.alloc o).cell? ⟨gl9, 1, none⟩ = some (.int .i64 l.2.1) := fun o => (blk_cell (blk_alloc Bl11.out o) 1).trans rfl
  have zal13_2 : ∀ o, (w10.alloc o).cell? ⟨gl9, 2, none⟩ = some (.int .i64 l.2.2.1) := fun o => (blk_cell (blk_alloc Bl11.out o) 2).trans rfl
  have zal13_3 : ∀ o, (w10.alloc o).cell? ⟨gl9, 3, none⟩ = some (.int .i64 l.2.2.2) := fun o => (blk_cell (blk_alloc Bl11.out o) 3).trans rfl
  subst hx hy
  have hd1 : decide (ag < tk) = true := decide_eq_true hage
  go_wp2_with fail
  refine start_ (n := 12) (S := fun w' => w'.cell? ⟨g, 0, none⟩ = some (.int .i64 nd) ∧ w'.cell? ⟨g, 1, none⟩ = some (.int .i64 lf) ∧ w'.cell? ⟨g, 2, none⟩ = some (.int .i64 tk) ∧ w'.cell? ⟨g, 3, none⟩ = some (.slice A seen.length c) ∧ w'.cell? ⟨g, 4, none⟩ = some (.int .i64 ag)) (ds := []) #[false, false, false, false, false, false, false, false, false, false, false, false] (by kernel_rfl) rfl rfl ⟨zW12_0, zW12_1, zW12_2, zW12_3, zW12_4⟩ (fun hHeld => ?_)
  refine pure_ (i := 0) (N := some 43) (v := ?_) (a' := ?_) #[true, false, false, false, false, false, false, false, false, false, false, false] rfl rfl (by kernel_rfl) (fun _ _ _ h => h) (Or.inl ⟨by rfl, ?_⟩) ?_ ?_
  rotate_left
  · intro w'
    go_simp
    with_reducible rfl
  rotate_left
  · simp only [Act.put, List.setIfInBounds_toArray, List.set_cons_zero, List.set_cons_succ, i64_w, i32_w]
    rfl
  refine pure_ (i := 1) (N := some 44) (v := ?_) (a' := ?_) #[true, true, false, false, false, false, false, false, false, false, false, false] rfl rfl (by kernel_rfl) (fun _ _ _ h => h) (Or.inl ⟨by rfl, ?_⟩) ?_ ?_
  rotate_left
  · intro w'
    go_simp
    with_reducible rfl
  rotate_left
  · simp only [Act.put, List.setIfInBounds_toArray, List.set_cons_zero, List.set_cons_succ, i64_w, i32_w]
    rfl
  refine pure_ (i := 2) (N := some 45) (v := ?_) (a' := ?_) #[true, true, true, false, false, false, false, false, false, false, false, false] rfl rfl (by kernel_rfl) (fun _ _ _ h => h) (Or.inl ⟨by rfl, ?_⟩) ?_ ?_
  rotate_left
  · intro w'
    go_simp
    with_reducible rfl
  rotate_left
  · simp only [Act.put, List.setIfInBounds_toArray, List.set_cons_zero, List.set_cons_succ, i64_w, i32_w]
    rfl
  refine pure_ (i := 3) (N := some 46) (v := ?_) (a' := ?_) #[true, true, true, true, false, false, false, false, false, false, false, false] rfl rfl (by kernel_rfl) (fun _ _ _ h => h) (Or.inl ⟨by rfl, ?_⟩) ?_ ?_
  rotate_left
  · intro w'
    go_simp
    with_reducible rfl
  rotate_left
  · simp only [Act.put, List.setIfInBounds_toArray, List.set_cons_zero, List.set_cons_succ, i64_w, i32_w]
    rfl
  refine pure_ (i := 4) (N := some 47) (v := ?_) (a' := ?_) #[true, true, true, true, true, false, false, false, false, false, false, false] rfl rfl (by kernel_rfl) (fun _ _ _ h => h) (Or.inl ⟨by rfl, ?_⟩) ?_ ?_
  rotate_left
  · intro w'
    go_simp
    with_reducible rfl
  rotate_left
  · simp only [Act.put, List.setIfInBounds_toArray, List.set_cons_zero, List.set_cons_succ, i64_w, i32_w]
    rfl
  refine pure_ (i := 6) (N := some 49) (v := ?_) (a' := ?_) #[true, true, true, true, true, false, true, false, false, false, false, false] rfl rfl (by kernel_rfl) (fun _ _ _ h => h) (Or.inl ⟨by rfl, ?_⟩) ?_ ?_
  rotate_left
  · intro w'
    go_simp
    with_reducible rfl
  rotate_left
  · simp only [Act.put, List.setIfInBounds_toArray, List.set_cons_zero, List.set_cons_succ, i64_w, i32_w]
    rfl
  refine pure_ (i := 7) (N := some 50) (v := ?_) (a' := ?_) #[true, true, true, true, true, false, true, true, false, false, false, false] rfl rfl (by kernel_rfl) (fun _ _ _ h => h) (Or.inl ⟨by rfl, ?_⟩) ?_ ?_
  rotate_left
  · intro w'
    go_simp
    with_reducible rfl
  rotate_left
  · simp only [Act.put, List.setIfInBounds_toArray, List.set_cons_zero, List.set_cons_succ, i64_w, i32_w]
    rfl
  refine pure_ (i := 8) (N := some 51) (v := ?_) (a' := ?_) #[true, true, true, true, true, false, true, true, true, false, false, false] rfl rfl (by kernel_rfl) (fun _ _ _ h => h) (Or.inl ⟨by rfl, ?_⟩) ?_ ?_
  rotate_left
  · intro w'
    go_simp
    with_reducible rfl
  rotate_left
  · simp only [Act.put, List.setIfInBounds_toArray, List.set_cons_zero, List.set_cons_succ, i64_w, i32_w]
    rfl
  refine take_ (i := 5) (N := some 48) (v := ?_) (a' := ?_) #[true, true, true, true, true, true, true, true, true, false, false, false] rfl rfl (by kernel_rfl) (fun _ _ _ h => h) (Or.inl ⟨by rfl, ?_⟩) hHeld ?_ ?_
  rotate_left
  · rintro w' ⟨s0, s1, s2, s3, s4⟩
    go_simp
    with_reducible rfl
  rotate_left
  · simp only [Act.put, List.setIfInBounds_toArray, List.set_cons_zero, List.set_cons_succ, i64_w, i32_w]
    rfl
  refine take_ (i := 9) (N := some 52) (v := ?_) (a' := ?_) #[true, true, true, true, true, true, true, true, true, true, false, false] rfl rfl (by kernel_rfl) (fun _ _ _ h => h) (Or.inl ⟨by rfl, ?_⟩) hHeld ?_ ?_
  rotate_left
  · rintro w' ⟨s0, s1, s2, s3, s4⟩
    go_simp
    with_reducible rfl
  rotate_left
  · simp only [Act.put, List.setIfInBounds_toArray, List.set_cons_zero, List.set_cons_succ, i64_w, i32_w]
    rfl
  refine pure_ (i := 10) (N := some 53) (v := ?_) (a' := ?_) #[true, true, true, true, true, true, true, true, true, true, true, false] rfl rfl (by kernel_rfl) (fun _ _ _ h => h) (Or.inl ⟨by rfl, ?_⟩) ?_ ?_
  rotate_left
  · intro w'
    go_simp
    with_reducible rfl
  rotate_left
  · simp only [Act.put, List.setIfInBounds_toArray, List.set_cons_zero, List.set_cons_succ, i64_w, i32_w]
    rfl
  refine pure_ (i := 11) (N := some 54) (v := ?_) (a' := ?_) #[true, true, true, true, true, true, true, true, true, true, true, true] rfl rfl (by kernel_rfl) (fun _ _ _ h => h) (Or.inl ⟨by rfl, ?_⟩) ?_ ?_
  rotate_left
  · intro w'
    go_simp
    with_reducible rfl
  rotate_left
  · simp only [Act.put, List.setIfInBounds_toArray, List.set_cons_zero, List.set_cons_succ, i64_w, i32_w]
    rfl
  refine done_ (by kernel_rfl) ?_
  obtain ⟨W14, hw14⟩ : ∃ x : World, x = w10.drew := ⟨_, rfl⟩
  have hbd14 : Below w10.heap.size w10 W14 := by rw [hw14]; exact below_drew (Below.refl _ _)
  rw [← hw14]
  clear hw14
  clear zW12_0 zW12_1 zW12_2 zW12_3 zW12_4 zb12_0 zb12_1 zb12_2 zk12_0 zk12_1 zk12_2 zl12_0 zl12_1 zl12_2 zl12_3 zaW13_0 zaW13_1 zaW13_2 zaW13_3 zaW13_4 zab13_0 zab13_1 zab13_2 zak13_0 zak13_1 zak13_2 zal13_0 zal13_1 zal13_2 zal13_3
  have HB15 := Aside0.mk (below_step HB11.out hbd14)
  have BW15 : Aside0 (W14.heap[g]? = some (.cells #[.int .i64 nd, .int .i64 lf, .int .i64 tk, .slice A seen.length c, .int .i64 ag] 78 (0, 0))) := ⟨(hbd14.block _ (blk_lt BW11.out)).trans BW11.out⟩
  have Bb15 : Aside0 (W14.heap[gb1]? = some (.cells #[.int .i64 0, .slice none 0 0, .slice none 0 0] 39 (0, 0))) := ⟨(hbd14.block _ (blk_lt Bb11.out)).trans Bb11.out⟩
  have Bk15 : Aside0 (W14.heap[gk1]? = some (.cells #[.int .i64 1, .slice none 0 0, .slice none 0 0] 39 (0, 0))) := ⟨(hbd14.block _ (blk_lt Bk11.out)).trans Bk11.out⟩
  have Bl15 : Aside0 (W14.heap[gl9]? = some (.cells #[.int .i64 l.1, .int .i64 l.2.1, .int .i64 l.2.2.1, .int .i64 l.2.2.2] 24 (0, 0))) := ⟨(hbd14.block _ (blk_lt Bl11.out)).trans Bl11.out⟩
  have CRW15 := Aside0.mk (RWAt.below CRW11.out hbd14)
  clear hbd14
  clear hf0 hf1 hf2 hfa
  have zW16_0 : W14.cell? ⟨g, 0, none⟩ = some (.int .i64 nd) := (blk_cell BW15.out 0).trans rfl
  have zW16_1 : W14.cell? ⟨g, 1, none⟩ = some (.int .i64 lf) := (blk_cell BW15.out 1).trans rfl
  have zW16_2 : W14.cell? ⟨g, 2, none⟩ = some (.int .i64 tk) := (blk_cell BW15.out 2).trans rfl
  have zW16_3 : W14.cell? ⟨g, 3, none⟩ = some (.slice A seen.length c) := (blk_cell BW15.out 3).trans rfl
  have zW16_4 : W14.cell? ⟨g, 4, none⟩ = some (.int .i64 ag) := (blk_cell BW15.out 4).trans rfl
  have zb16_0 : W14.cell? ⟨gb1, 0, none⟩ = some (.int .i64 0) := (blk_cell Bb15.out 0).trans rfl
  have zb16_1 : W14.cell? ⟨gb1, 1, none⟩ = some (.slice none 0 0) := (blk_cell Bb15.out 1).trans rfl
  have zb16_2 : W14.cell? ⟨gb1, 2, none⟩ = some (.slice none 0 0) := (blk_cell Bb15.out 2).trans rfl
  have zk16_0 : W14.cell? ⟨gk1, 0, none⟩ = some (.int .i64 1) := (blk_cell Bk15.out 0).trans rfl
  have zk16_1 : W14.cell? ⟨gk1, 1, none⟩ = some (.slice none 0 0) := (blk_cell Bk15.out 1).trans rfl
  have zk16_2 : W14.cell? ⟨gk1, 2, none⟩ = some (.slice none 0 0) := (blk_cell Bk15.out 2).trans rfl
  have zl16_0 : W14.cell? ⟨gl9, 0, none⟩ = some (.int .i64 l.1) := (blk_cell Bl15.out 0).trans rfl
  have zl16_1 : W14.cell? ⟨gl9, 1, none⟩ = some (.int .i64 l.2.1) := (blk_cell Bl15.out 1).trans rfl
  have zl16_2 : W14.cell? ⟨gl9, 2, none⟩ = some (.int .i64 l.2.2.1) := (blk_cell Bl15.out 2).trans rfl
  have zl16_3 : W14.cell? ⟨gl9, 3, none⟩ = some (.int .i64 l.2.2.2) := (blk_cell Bl15.out 3).trans rfl
  have hf0 := blk_frozen Bb15.out 0
  have hf1 := blk_frozen Bb15.out 1
  have hf2 := blk_frozen Bb15.out 2
  go_wp2_with fail
  refine bodyPost_ret (results_cell_row rfl _ _ gb1 39 #[.int .i64 1, .slice none 0 0, .slice none 0 0] (0, 0) _ rfl (by refine blk_put (cs := #[.int .i64 1, .slice none 0 0, .slice none 0 0]) ?_ 2 _ rfl; refine blk_put (cs := #[.int .i64 1, .slice none 0 0, .slice none 0 0]) ?_ 1 _ rfl; refine blk_put (cs := #[.int .i64 0, .slice none 0 0, .slice none 0 0]) ?_ 0 _ rfl; exact Bb15.out) Try.underlying39 rfl (by kernel_rfl)) rfl ?_
  have hbl : Below W.heap.size W (((W14.setCell ⟨gb1, 0, none⟩ (.int .i64 1)).setCell ⟨gb1, 1, none⟩ (.slice none 0 0)).setCell ⟨gb1, 2, none⟩ (.slice none 0 0)) := below_set (below_set (below_set HB15.out GSb1.out) GSb1.out) GSb1.out
  exact ⟨_, _, _, _, rfl, C_nil _, Nat.le_refl _, C_nil _, Nat.le_refl _, hbl⟩
set_option maxHeartbeats 8000000 in
set_option maxRecDepth 100000 in
theorem rwant_old (W : World) (g : Nat) (nd lf tk : Int) (seen : List (List Int)) (ag : Int) (v : List Int) (hv : lastOf seen = v) (h : RWAt W g nd lf tk seen ag) (l : LeaseT) (q lb : Bool) (hl : leaseOf v = l) (hq : okL v = q) (hlb : leadsB nd lf v = lb) (hs : (seen.length = 0) = False) (hx : lb = false) (hy : q = true) (hage : ¬ ag < tk) : Calls Try.prog 35 #[.pointer (some ⟨g, 0, none⟩)] W (RWantPost W (2, v, [wrap64 (l.1 + 1), nd, lf, 0])) := by
  have hu71 := Try.underlying71
  have hu78 := Try.underlying78
  have hu42 := Try.underlying42
  have hu39 := Try.underlying39
  have hu24 := Try.underlying24
  have hu22 := Try.underlying22
  have HR := Aside0.mk h
  obtain ⟨A, c, hB0, hR0, hok⟩ := h
  have BW0 := Aside0.mk hB0
  have HV := Aside0.mk hv
  clear hB0 hR0 hok hv
  have HL := Aside0.mk hl
  have HQ := Aside0.mk hq
  have HLB := Aside0.mk hlb
  clear hl hq hlb
  have hs1 : ((seen.length : Int) == 0) = false := beq_eq_false_iff_ne.2 (fun e => by rw [← hs]; omega)
  have hs2 : ¬ seen = [] := fun e => by rw [← hs, e]; rfl
  have hs3 : ¬ seen.length = 0 := fun e => by rw [← hs]; exact e
  go_enter Try.func35, Try.ntmps35
  go_upto_region 2 with fail
  obtain ⟨W1, hw1⟩ : ∃ x : World, x = (W.alloc (.cells #[.int .i64 0, .slice none 0 0, .slice none 0 0] 39)).alloc (.cells #[.int .i64 1, .slice none 0 0, .slice none 0 0] 39) := ⟨_, rfl⟩
  have hbs1 : Below W.heap.size W W1 := by rw [hw1]; repeat (first | exact Below.refl _ _ | refine below_alloc ?_ _ | refine below_drew ?_)
  obtain ⟨gb1, hgb1⟩ : ∃ x, x = W.heap.size := ⟨_, rfl⟩
  have GSb1 : Aside0 (W.heap.size ≤ gb1) := ⟨by rw [hgb1]; omega⟩
  have Bb1 : Aside0 (W1.heap[gb1]? = some (.cells #[.int .i64 0, .slice none 0 0, .slice none 0 0] 39 (0, 0))) := ⟨by rw [hw1, hgb1]; exact blk_alloc (blk_new _ _) _⟩
  obtain ⟨gk1, hgk1⟩ : ∃ x, x = W.heap.size + 1 := ⟨_, rfl⟩
  have GSk1 : Aside0 (W.heap.size ≤ gk1) := ⟨by rw [hgk1]; omega⟩
  have Bk1 : Aside0 (W1.heap[gk1]? = some (.cells #[.int .i64 1, .slice none 0 0, .slice none 0 0] 39 (0, 0))) := ⟨by rw [hw1, hgk1]; have := blk_new (W.alloc (.cells #[.int .i64 0, .slice none 0 0, .slice none 0 0] 39)) (.cells #[.int .i64 1, .slice none 0 0, .slice none 0 0] 39); rwa [World.size_alloc] at this⟩
  rw [← hw1]
  rw [← hgk1]
  rw [← hgb1]
  have HNEbk := Aside0.mk (show gb1 ≠ gk1 by omega)
  clear hw1 hgb1 hgk1
  have HB2 := Aside0.mk hbs1
  have BW2 : Aside0 (W1.heap[g]? = some (.cells #[.int .i64 nd, .int .i64 lf, .int .i64 tk, .slice A seen.length c, .int .i64 ag] 78 (0, 0))) := ⟨(hbs1.block _ (blk_lt BW0.out)).trans BW0.out⟩
  have CRW2 := Aside0.mk (RWAt.below HR.out hbs1)
  clear hbs1
  have zW3_0 : W1.cell? ⟨g, 0, none⟩ = some (.int .i64 nd) := (blk_cell BW2.out 0).trans rfl
  have zW3_1 : W1.cell? ⟨g, 1, none⟩ = some (.int .i64 lf) := (blk_cell BW2.out 1).trans rfl
  have zW3_2 : W1.cell? ⟨g, 2, none⟩ = some (.int .i64 tk) := (blk_cell BW2.out 2).trans rfl
  have zW3_3 : W1.cell? ⟨g, 3, none⟩ = some (.slice A seen.length c) := (blk_cell BW2.out 3).trans rfl
  have zW3_4 : W1.cell? ⟨g, 4, none⟩ = some (.int .i64 ag) := (blk_cell BW2.out 4).trans rfl
  have zb3_0 : W1.cell? ⟨gb1, 0, none⟩ = some (.int .i64 0) := (blk_cell Bb1.out 0).trans rfl
  have zb3_1 : W1.cell? ⟨gb1, 1, none⟩ = some (.slice none 0 0) := (blk_cell Bb1.out 1).trans rfl
  have zb3_2 : W1.cell? ⟨gb1, 2, none⟩ = some (.slice none 0 0) := (blk_cell Bb1.out 2).trans rfl
  have zk3_0 : W1.cell? ⟨gk1, 0, none⟩ = some (.int .i64 1) := (blk_cell Bk1.out 0).trans rfl
  have zk3_1 : W1.cell? ⟨gk1, 1, none⟩ = some (.slice none 0 0) := (blk_cell Bk1.out 1).trans rfl
  have zk3_2 : W1.cell? ⟨gk1, 2, none⟩ = some (.slice none 0 0) := (blk_cell Bk1.out 2).trans rfl
  go_wp2_with fail
  have hrl := rlast_w W _ g nd lf tk seen ag HR.out HB2.out
  rw [HV.out] at hrl
  refine hrl.mono ?_
  rintro e w8 ⟨B, d, rfl, hvd, hC, hb8⟩
  have HC0 := Aside0.mk hC
  clear hC hrl
  clear zW3_0 zW3_1 zW3_2 zW3_3 zW3_4 zb3_0 zb3_1 zb3_2 zk3_0 zk3_1 zk3_2
  have HB4 := Aside0.mk (below_step HB2.out hb8)
  have BW4 : Aside0 (w8.heap[g]? = some (.cells #[.int .i64 nd, .int .i64 lf, .int .i64 tk, .slice A seen.length c, .int .i64 ag] 78 (0, 0))) := ⟨(hb8.block _ (blk_lt BW2.out)).trans BW2.out⟩
  have Bb4 : Aside0 (w8.heap[gb1]? = some (.cells #[.int .i64 0, .slice none 0 0, .slice none 0 0] 39 (0, 0))) := ⟨(hb8.block _ (blk_lt Bb1.out)).trans Bb1.out⟩
  have Bk4 : Aside0 (w8.heap[gk1]? = some (.cells #[.int .i64 1, .slice none 0 0, .slice none 0 0] 39 (0, 0))) := ⟨(hb8.block _ (blk_lt Bk1.out)).trans Bk1.out⟩
  have CRW4 := Aside0.mk (RWAt.below CRW2.out hb8)
  clear hb8
  have zW5_0 : w8.cell? ⟨g, 0, none⟩ = some (.int .i64 nd) := (blk_cell BW4.out 0).trans rfl
  have zW5_1 : w8.cell? ⟨g, 1, none⟩ = some (.int .i64 lf) := (blk_cell BW4.out 1).trans rfl
  have zW5_2 : w8.cell? ⟨g, 2, none⟩ = some (.int .i64 tk) := (blk_cell BW4.out 2).trans rfl
  have zW5_3 : w8.cell? ⟨g, 3, none⟩ = some (.slice A seen.length c) := (blk_cell BW4.out 3).trans rfl
  have zW5_4 : w8.cell? ⟨g, 4, none⟩ = some (.int .i64 ag) := (blk_cell BW4.out 4).trans rfl
  have zb5_0 : w8.cell? ⟨gb1, 0, none⟩ = some (.int .i64 0) := (blk_cell Bb4.out 0).trans rfl
  have zb5_1 : w8.cell? ⟨gb1, 1, none⟩ = some (.slice none 0 0) := (blk_cell Bb4.out 1).trans rfl
  have zb5_2 : w8.cell? ⟨gb1, 2, none⟩ = some (.slice none 0 0) := (blk_cell Bb4.out 2).trans rfl
  have zk5_0 : w8.cell? ⟨gk1, 0, none⟩ = some (.int .i64 1) := (blk_cell Bk4.out 0).trans rfl
  have zk5_1 : w8.cell? ⟨gk1, 1, none⟩ = some (.slice none 0 0) := (blk_cell Bk4.out 1).trans rfl
  have zk5_2 : w8.cell? ⟨gk1, 2, none⟩ = some (.slice none 0 0) := (blk_cell Bk4.out 2).trans rfl
  go_wp2_with fail
  refine (rlease_c _ g nd lf tk seen ag v HV.out CRW4.out).mono ?_
  rw [HL.out, HQ.out]
  rintro e w9 ⟨rfl, hb9⟩
  clear zW5_0 zW5_1 zW5_2 zW5_3 zW5_4 zb5_0 zb5_1 zb5_2 zk5_0 zk5_1 zk5_2
  have HB6 := Aside0.mk (below_step HB4.out hb9)
  have BW6 : Aside0 (w9.heap[g]? = some (.cells #[.int .i64 nd, .int .i64 lf, .int .i64 tk, .slice A seen.length c, .int .i64 ag] 78 (0, 0))) := ⟨(hb9.block _ (blk_lt BW4.out)).trans BW4.out⟩
  have Bb6 : Aside0 (w9.heap[gb1]? = some (.cells #[.int .i64 0, .slice none 0 0, .slice none 0 0] 39 (0, 0))) := ⟨(hb9.block _ (blk_lt Bb4.out)).trans Bb4.out⟩
  have Bk6 : Aside0 (w9.heap[gk1]? = some (.cells #[.int .i64 1, .slice none 0 0, .slice none 0 0] 39 (0, 0))) := ⟨(hb9.block _ (blk_lt Bk4.out)).trans Bk4.out⟩
  have CRW6 := Aside0.mk (RWAt.below CRW4.out hb9)
  clear hb9
  have zW7_0 : w9.cell? ⟨g, 0, none⟩ = some (.int .i64 nd) := (blk_cell BW6.out 0).trans rfl
  have zW7_1 : w9.cell? ⟨g, 1, none⟩ = some (.int .i64 lf) := (blk_cell BW6.out 1).trans rfl
  have zW7_2 : w9.cell? ⟨g, 2, none⟩ = some (.int .i64 tk) := (blk_cell BW6.out 2).trans rfl
  have zW7_3 : w9.cell? ⟨g, 3, none⟩ = some (.slice A seen.length c) := (blk_cell BW6.out 3).trans rfl
  have zW7_4 : w9.cell? ⟨g, 4, none⟩ = some (.int .i64 ag) := (blk_cell BW6.out 4).trans rfl
  have zb7_0 : w9.cell? ⟨gb1, 0, none⟩ = some (.int .i64 0) := (blk_cell Bb6.out 0).trans rfl
  have zb7_1 : w9.cell? ⟨gb1, 1, none⟩ = some (.slice none 0 0) := (blk_cell Bb6.out 1).trans rfl
  have zb7_2 : w9.cell? ⟨gb1, 2, none⟩ = some (.slice none 0 0) := (blk_cell Bb6.out 2).trans rfl
  have zk7_0 : w9.cell? ⟨gk1, 0, none⟩ = some (.int .i64 1) := (blk_cell Bk6.out 0).trans rfl
  have zk7_1 : w9.cell? ⟨gk1, 1, none⟩ = some (.slice none 0 0) := (blk_cell Bk6.out 1).trans rfl
  have zk7_2 : w9.cell? ⟨gk1, 2, none⟩ = some (.slice none 0 0) := (blk_cell Bk6.out 2).trans rfl
  have zaW8_0 : ∀ o, (w9.alloc o).cell? ⟨g, 0, none⟩ = some (.int .i64 nd) := fun o => (blk_cell (blk_alloc BW6.out o) 0).trans rfl
  have zaW8_1 : ∀ o, (w9.alloc o).cell? ⟨g, 1, none⟩ = some (.int .i64 lf) := fun o => (blk_cell (blk_alloc BW6.out o) 1).trans rfl
  have zaW8_2 : ∀ o, (w9.alloc o).cell? ⟨g, 2, none⟩ = some (.int .i64 tk) := fun o => (blk_cell (blk_alloc BW6.out o) 2).trans rfl
  have zaW8_3 : ∀ o, (w9.alloc o).cell? ⟨g, 3, none⟩ = some (.slice A seen.length c) := fun o => (blk_cell (blk_alloc BW6.out o) 3).trans rfl
  have zaW8_4 : ∀ o, (w9.alloc o).cell? ⟨g, 4, none⟩ = some (.int .i64 ag) := fun o => (blk_cell (blk_alloc BW6.out o) 4).trans rfl
  have zab8_0 : ∀ o, (w9.alloc o).cell? ⟨gb1, 0, none⟩ = some (.int .i64 0) := fun o => (blk_cell (blk_alloc Bb6.out o) 0).trans rfl
  have zab8_1 : ∀ o, (w9.alloc o).cell? ⟨gb1, 1, none⟩ = some (.slice none 0 0) := fun o => (blk_cell (blk_alloc Bb6.out o) 1).trans rfl
  have zab8_2 : ∀ o, (w9.alloc o).cell? ⟨gb1, 2, none⟩ = some (.slice none 0 0) := fun o => (blk_cell (blk_alloc Bb6.out o) 2).trans rfl
  have zak8_0 : ∀ o, (w9.alloc o).cell? ⟨gk1, 0, none⟩ = some (.int .i64 1) := fun o => (blk_cell (blk_alloc Bk6.out o) 0).trans rfl
  have zak8_1 : ∀ o, (w9.alloc o).cell? ⟨gk1, 1, none⟩ = some (.slice none 0 0) := fun o => (blk_cell (blk_alloc Bk6.out o) 1).trans rfl
  have zak8_2 : ∀ o, (w9.alloc o).cell? ⟨gk1, 2, none⟩ = some (.slice none 0 0) := fun o => (blk_cell (blk_alloc Bk6.out o) 2).trans rfl
  go_wp2_with fail
  obtain ⟨W9, hw9⟩ : ∃ x : World, x = w9.alloc (.cells #[.int .i64 l.1, .int .i64 l.2.1, .int .i64 l.2.2.1, .int .i64 l.2.2.2] 24) := ⟨_, rfl⟩
  have hbs9 : Below w9.heap.size w9 W9 := by rw [hw9]; repeat (first | exact Below.refl _ _ | refine below_alloc ?_ _ | refine below_drew ?_)
  obtain ⟨gl9, hgl9⟩ : ∃ x, x = w9.heap.size := ⟨_, rfl⟩
  have GSl9 : Aside0 (W.heap.size ≤ gl9) := ⟨by rw [hgl9]; have := HB6.out.size; omega⟩
  have Bl9 : Aside0 (W9.heap[gl9]? = some (.cells #[.int .i64 l.1, .int .i64 l.2.1, .int .i64 l.2.2.1, .int .i64 l.2.2.2] 24 (0, 0))) := ⟨by rw [hw9, hgl9]; exact blk_new _ _⟩
  rw [← hw9]
  rw [← hgl9]
  clear hw9 hgl9
  clear zW7_0 zW7_1 zW7_2 zW7_3 zW7_4 zb7_0 zb7_1 zb7_2 zk7_0 zk7_1 zk7_2 zaW8_0 zaW8_1 zaW8_2 zaW8_3 zaW8_4 zab8_0 zab8_1 zab8_2 zak8_0 zak8_1 zak8_2
  have HB10 := Aside0.mk (below_step HB6.out hbs9)
  have BW10 : Aside0 (W9.heap[g]? = some (.cells #[.int .i64 nd, .int .i64 lf, .int .i64 tk, .slice A seen.length c, .int .i64 ag] 78 (0, 0))) := ⟨(hbs9.block _ (blk_lt BW6.out)).trans BW6.out⟩
  have Bb10 : Aside0 (W9.heap[gb1]? = some (.cells #[.int .i64 0, .slice none 0 0, .slice none 0 0] 39 (0, 0))) := ⟨(hbs9.block _ (blk_lt Bb6.out)).trans Bb6.out⟩
  have Bk10 : Aside0 (W9.heap[gk1]? = some (.cells #[.int .i64 1, .slice none 0 0, .slice none 0 0] 39 (0, 0))) := ⟨(hbs9.block _ (blk_lt Bk6.out)).trans Bk6.out⟩
  have CRW10 := Aside0.mk (RWAt.below CRW6.out hbs9)
  clear hbs9
  refine (rleads_c _ g nd lf tk seen ag v HV.out CRW10.out).mono ?_
  rw [HLB.out]
  rintro e w10 ⟨rfl, hb10⟩
  have HB11 := Aside0.mk (below_step HB10.out hb10)
  have BW11 : Aside0 (w10.heap[g]? = some (.cells #[.int .i64 nd, .int .i64 lf, .int .i64 tk, .slice A seen.length c, .int .i64 ag] 78 (0, 0))) := ⟨(hb10.block _ (blk_lt BW10.out)).trans BW10.out⟩
  have Bb11 : Aside0 (w10.heap[gb1]? = some (.cells #[.int .i64 0, .slice none 0 0, .slice none 0 0] 39 (0, 0))) := ⟨(hb10.block _ (blk_lt Bb10.out)).trans Bb10.out⟩
  have Bk11 : Aside0 (w10.heap[gk1]? = some (.cells #[.int .i64 1, .slice none 0 0, .slice none 0 0] 39 (0, 0))) := ⟨(hb10.block _ (blk_lt Bk10.out)).trans Bk10.out⟩
  have Bl11 : Aside0 (w10.heap[gl9]? = some (.cells #[.int .i64 l.1, .int .i64 l.2.1, .int .i64 l.2.2.1, .int .i64 l.2.2.2] 24 (0, 0))) := ⟨(hb10.block _ (blk_lt Bl9.out)).trans Bl9.out⟩
  have CRW11 := Aside0.mk (RWAt.below CRW10.out hb10)
  clear hb10
  have zW12_0 : w10.cell? ⟨g, 0, none⟩ = some (.int .i64 nd) := (blk_cell BW11.out 0).trans rfl
  have zW12_1 : w10.cell? ⟨g, 1, none⟩ = some (.int .i64 lf) := (blk_cell BW11.out 1).trans rfl
  have zW12_2 : w10.cell? ⟨g, 2, none⟩ = some (.int .i64 tk) := (blk_cell BW11.out 2).trans rfl
  have zW12_3 : w10.cell? ⟨g, 3, none⟩ = some (.slice A seen.length c) := (blk_cell BW11.out 3).trans rfl
  have zW12_4 : w10.cell? ⟨g, 4, none⟩ = some (.int .i64 ag) := (blk_cell BW11.out 4).trans rfl
  have zb12_0 : w10.cell? ⟨gb1, 0, none⟩ = some (.int .i64 0) := (blk_cell Bb11.out 0).trans rfl
  have zb12_1 : w10.cell? ⟨gb1, 1, none⟩ = some (.slice none 0 0) := (blk_cell Bb11.out 1).trans rfl
  have zb12_2 : w10.cell? ⟨gb1, 2, none⟩ = some (.slice none 0 0) := (blk_cell Bb11.out 2).trans rfl
  have zk12_0 : w10.cell? ⟨gk1, 0, none⟩ = some (.int .i64 1) := (blk_cell Bk11.out 0).trans rfl
  have zk12_1 : w10.cell? ⟨gk1, 1, none⟩ = some (.slice none 0 0) := (blk_cell Bk11.out 1).trans rfl
  have zk12_2 : w10.cell? ⟨gk1, 2, none⟩ = some (.slice none 0 0) := (blk_cell Bk11.out 2).trans rfl
  have zl12_0 : w10.cell? ⟨gl9, 0, none⟩ = some (.int .i64 l.1) := (blk_cell Bl11.out 0).trans rfl
  have zl12_1 : w10.cell? ⟨gl9, 1, none⟩ = some (.int .i64 l.2.1) := (blk_cell Bl11.out 1).trans rfl
  have zl12_2 : w10.cell? ⟨gl9, 2, none⟩ = some (.int .i64 l.2.2.1) := (blk_cell Bl11.out 2).trans rfl
  have zl12_3 : w10.cell? ⟨gl9, 3, none⟩ = some (.int .i64 l.2.2.2) := (blk_cell Bl11.out 3).trans rfl
  have hf0 := blk_frozen Bb11.out 0
  have hf1 := blk_frozen Bb11.out 1
  have hf2 := blk_frozen Bb11.out 2
  have hfa : ∀ o j, (w10.alloc o).frozen? ⟨gb1, j, none⟩ = false := fun o j => blk_frozen (blk_alloc Bb11.out o) j
  have zaW13_0 : ∀ o, (w10.alloc o).cell? ⟨g, 0, none⟩ = some (.int .i64 nd) := fun o => (blk_cell (blk_alloc BW11.out o) 0).trans rfl
  have zaW13_1 : ∀ o, (w10.alloc o).cell? ⟨g, 1, none⟩ = some (.int .i64 lf) := fun o => (blk_cell (blk_alloc BW11.out o) 1).trans rfl
  have zaW13_2 : ∀ o, (w10.alloc o).cell? ⟨g, 2, none⟩ = some (.int .i64 tk) := fun o => (blk_cell (blk_alloc BW11.out o) 2).trans rfl
  have zaW13_3 : ∀ o, (w10.alloc o).cell? ⟨g, 3, none⟩ = some (.slice A seen.length c) := fun o => (blk_cell (blk_alloc BW11.out o) 3).trans rfl
  have zaW13_4 : ∀ o, (w10.alloc o).cell? ⟨g, 4, none⟩ = some (.int .i64 ag) := fun o => (blk_cell (blk_alloc BW11.out o) 4).trans rfl
  have zab13_0 : ∀ o, (w10.alloc o).cell? ⟨gb1, 0, none⟩ = some (.int .i64 0) := fun o => (blk_cell (blk_alloc Bb11.out o) 0).trans rfl
  have zab13_1 : ∀ o, (w10.alloc o).cell? ⟨gb1, 1, none⟩ = some (.slice none 0 0) := fun o => (blk_cell (blk_alloc Bb11.out o) 1).trans rfl
  have zab13_2 : ∀ o, (w10.alloc o).cell? ⟨gb1, 2, none⟩ = some (.slice none 0 0) := fun o => (blk_cell (blk_alloc Bb11.out o) 2).trans rfl
  have zak13_0 : ∀ o, (w10.alloc o).cell? ⟨gk1, 0, none⟩ = some (.int .i64 1) := fun o => (blk_cell (blk_alloc Bk11.out o) 0).trans rfl
  have zak13_1 : ∀ o, (w10.alloc o).cell? ⟨gk1, 1, none⟩ = some (.slice none 0 0) := fun o => (blk_cell (blk_alloc Bk11.out o) 1).trans rfl
  have zak13_2 : ∀ o, (w10.alloc o).cell? ⟨gk1, 2, none⟩ = some (.slice none 0 0) := fun o => (blk_cell (blk_alloc Bk11.out o) 2).trans rfl
  have zal13_0 : ∀ o, (w10.alloc o).cell? ⟨gl9, 0, none⟩ = some (.int .i64 l.1) := fun o => (blk_cell (blk_alloc Bl11.out o) 0).trans rfl
  have zal13_1 : ∀ o, (w10.alloc o).cell? ⟨gl9, 1, none⟩ = some (.int .i64 l.2.1) := fun o => (blk_cell (blk_alloc Bl11.out o) 1).trans rfl
  have zal13_2 : ∀ o, (w10.alloc o).cell? ⟨gl9, 2, none⟩ = some (.int .i64 l.2.2.1) := fun o => (blk_cell (blk_alloc Bl11.out o) 2).trans rfl
  have zal13_3 : ∀ o, (w10.alloc o).cell? ⟨gl9, 3, none⟩ = some (.int .i64 l.2.2.2) := fun o => (blk_cell (blk_alloc Bl11.out o) 3).trans rfl
  subst hx hy
  have hd1 : decide (ag < tk) = false := decide_eq_false (by omega)
  go_wp2_with fail
  refine start_ (n := 12) (S := fun w' => w'.cell? ⟨g, 0, none⟩ = some (.int .i64 nd) ∧ w'.cell? ⟨g, 1, none⟩ = some (.int .i64 lf) ∧ w'.cell? ⟨g, 2, none⟩ = some (.int .i64 tk) ∧ w'.cell? ⟨g, 3, none⟩ = some (.slice A seen.length c) ∧ w'.cell? ⟨g, 4, none⟩ = some (.int .i64 ag)) (ds := []) #[false, false, false, false, false, false, false, false, false, false, false, false] (by kernel_rfl) rfl rfl ⟨zW12_0, zW12_1, zW12_2, zW12_3, zW12_4⟩ (fun hHeld => ?_)
  refine pure_ (i := 0) (N := some 43) (v := ?_) (a' := ?_) #[true, false, false, false, false, false, false, false, false, false, false, false] rfl rfl (by kernel_rfl) (fun _ _ _ h => h) (Or.inl ⟨by rfl, ?_⟩) ?_ ?_
  rotate_left
  · intro w'
    go_simp
    with_reducible rfl
  rotate_left
  · simp only [Act.put, List.setIfInBounds_toArray, List.set_cons_zero, List.set_cons_succ, i64_w, i32_w]
    rfl
  refine pure_ (i := 1) (N := some 44) (v := ?_) (a' := ?_) #[true, true, false, false, false, false, false, false, false, false, false, false] rfl rfl (by kernel_rfl) (fun _ _ _ h => h) (Or.inl ⟨by rfl, ?_⟩) ?_ ?_
  rotate_left
  · intro w'
    go_simp
    with_reducible rfl
  rotate_left
  · simp only [Act.put, List.setIfInBounds_toArray, List.set_cons_zero, List.set_cons_succ, i64_w, i32_w]
    rfl
  refine pure_ (i := 2) (N := some 45) (v := ?_) (a' := ?_) #[true, true, true, false, false, false, false, false, false, false, false, false] rfl rfl (by kernel_rfl) (fun _ _ _ h => h) (Or.inl ⟨by rfl, ?_⟩) ?_ ?_
  rotate_left
  · intro w'
    go_simp
    with_reducible rfl
  rotate_left
  · simp only [Act.put, List.setIfInBounds_toArray, List.set_cons_zero, List.set_cons_succ, i64_w, i32_w]
    rfl
  refine pure_ (i := 3) (N := some 46) (v := ?_) (a' := ?_) #[true, true, true, true, false, false, false, false, false, false, false, false] rfl rfl (by kernel_rfl) (fun _ _ _ h => h) (Or.inl ⟨by rfl, ?_⟩) ?_ ?_
  rotate_left
  · intro w'
    go_simp
    with_reducible rfl
  rotate_left
  · simp only [Act.put, List.setIfInBounds_toArray, List.set_cons_zero, List.set_cons_succ, i64_w, i32_w]
    rfl
  refine pure_ (i := 4) (N := some 47) (v := ?_) (a' := ?_) #[true, true, true, true, true, false, false, false, false, false, false, false] rfl rfl (by kernel_rfl) (fun _ _ _ h => h) (Or.inl ⟨by rfl, ?_⟩) ?_ ?_
  rotate_left
  · intro w'
    go_simp
    with_reducible rfl
  rotate_left
  · simp only [Act.put, List.setIfInBounds_toArray, List.set_cons_zero, List.set_cons_succ, i64_w, i32_w]
    rfl
  refine pure_ (i := 6) (N := some 49) (v := ?_) (a' := ?_) #[true, true, true, true, true, false, true, false, false, false, false, false] rfl rfl (by kernel_rfl) (fun _ _ _ h => h) (Or.inl ⟨by rfl, ?_⟩) ?_ ?_
  rotate_left
  · intro w'
    go_simp
    with_reducible rfl
  rotate_left
  · simp only [Act.put, List.setIfInBounds_toArray, List.set_cons_zero, List.set_cons_succ, i64_w, i32_w]
    rfl
  refine pure_ (i := 7) (N := some 50) (v := ?_) (a' := ?_) #[true, true, true, true, true, false, true, true, false, false, false, false] rfl rfl (by kernel_rfl) (fun _ _ _ h => h) (Or.inl ⟨by rfl, ?_⟩) ?_ ?_
  rotate_left
  · intro w'
    go_simp
    with_reducible rfl
  rotate_left
  · simp only [Act.put, List.setIfInBounds_toArray, List.set_cons_zero, List.set_cons_succ, i64_w, i32_w]
    rfl
  refine pure_ (i := 8) (N := some 51) (v := ?_) (a' := ?_) #[true, true, true, true, true, false, true, true, true, false, false, false] rfl rfl (by kernel_rfl) (fun _ _ _ h => h) (Or.inl ⟨by rfl, ?_⟩) ?_ ?_
  rotate_left
  · intro w'
    go_simp
    with_reducible rfl
  rotate_left
  · simp only [Act.put, List.setIfInBounds_toArray, List.set_cons_zero, List.set_cons_succ, i64_w, i32_w]
    rfl
  refine take_ (i := 5) (N := some 48) (v := ?_) (a' := ?_) #[true, true, true, true, true, true, true, true, true, false, false, false] rfl rfl (by kernel_rfl) (fun _ _ _ h => h) (Or.inl ⟨by rfl, ?_⟩) hHeld ?_ ?_
  rotate_left
  · rintro w' ⟨s0, s1, s2, s3, s4⟩
    go_simp
    with_reducible rfl
  rotate_left
  · simp only [Act.put, List.setIfInBounds_toArray, List.set_cons_zero, List.set_cons_succ, i64_w, i32_w]
    rfl
  refine take_ (i := 9) (N := some 52) (v := ?_) (a' := ?_) #[true, true, true, true, true, true, true, true, true, true, false, false] rfl rfl (by kernel_rfl) (fun _ _ _ h => h) (Or.inl ⟨by rfl, ?_⟩) hHeld ?_ ?_
  rotate_left
  · rintro w' ⟨s0, s1, s2, s3, s4⟩
    go_simp
    with_reducible rfl
  rotate_left
  · simp only [Act.put, List.setIfInBounds_toArray, List.set_cons_zero, List.set_cons_succ, i64_w, i32_w]
    rfl
  refine pure_ (i := 10) (N := some 53) (v := ?_) (a' := ?_) #[true, true, true, true, true, true, true, true, true, true, true, false] rfl rfl (by kernel_rfl) (fun _ _ _ h => h) (Or.inl ⟨by rfl, ?_⟩) ?_ ?_
  rotate_left
  · intro w'
    go_simp
    with_reducible rfl
  rotate_left
  · simp only [Act.put, List.setIfInBounds_toArray, List.set_cons_zero, List.set_cons_succ, i64_w, i32_w]
    rfl
  refine pure_ (i := 11) (N := some 54) (v := ?_) (a' := ?_) #[true, true, true, true, true, true, true, true, true, true, true, true] rfl rfl (by kernel_rfl) (fun _ _ _ h => h) (Or.inl ⟨by rfl, ?_⟩) ?_ ?_
  rotate_left
  · intro w'
    go_simp
    with_reducible rfl
  rotate_left
  · simp only [Act.put, List.setIfInBounds_toArray, List.set_cons_zero, List.set_cons_succ, i64_w, i32_w]
    rfl
  refine done_ (by kernel_rfl) ?_
  obtain ⟨W14, hw14⟩ : ∃ x : World, x = w10.drew := ⟨_, rfl⟩
  have hbd14 : Below w10.heap.size w10 W14 := by rw [hw14]; exact below_drew (Below.refl _ _)
  rw [← hw14]
  clear hw14
  clear zW12_0 zW12_1 zW12_2 zW12_3 zW12_4 zb12_0 zb12_1 zb12_2 zk12_0 zk12_1 zk12_2 zl12_0 zl12_1 zl12_2 zl12_3 zaW13_0 zaW13_1 zaW13_2 zaW13_3 zaW13_4 zab13_0 zab13_1 zab13_2 zak13_0 zak13_1 zak13_2 zal13_0 zal13_1 zal13_2 zal13_3
  have HB15 := Aside0.mk (below_step HB11.out hbd14)
  have BW15 : Aside0 (W14.heap[g]? = some (.cells #[.int .i64 nd, .int .i64 lf, .int .i64 tk, .slice A seen.length c, .int .i64 ag] 78 (0, 0))) := ⟨(hbd14.block _ (blk_lt BW11.out)).trans BW11.out⟩
  have Bb15 : Aside0 (W14.heap[gb1]? = some (.cells #[.int .i64 0, .slice none 0 0, .slice none 0 0] 39 (0, 0))) := ⟨(hbd14.block _ (blk_lt Bb11.out)).trans Bb11.out⟩
  have Bk15 : Aside0 (W14.heap[gk1]? = some (.cells #[.int .i64 1, .slice none 0 0, .slice none 0 0] 39 (0, 0))) := ⟨(hbd14.block _ (blk_lt Bk11.out)).trans Bk11.out⟩
  have Bl15 : Aside0 (W14.heap[gl9]? = some (.cells #[.int .i64 l.1, .int .i64 l.2.1, .int .i64 l.2.2.1, .int .i64 l.2.2.2] 24 (0, 0))) := ⟨(hbd14.block _ (blk_lt Bl11.out)).trans Bl11.out⟩
  have CRW15 := Aside0.mk (RWAt.below CRW11.out hbd14)
  clear hbd14
  clear hf0 hf1 hf2 hfa
  have zW16_0 : W14.cell? ⟨g, 0, none⟩ = some (.int .i64 nd) := (blk_cell BW15.out 0).trans rfl
  have zW16_1 : W14.cell? ⟨g, 1, none⟩ = some (.int .i64 lf) := (blk_cell BW15.out 1).trans rfl
  have zW16_2 : W14.cell? ⟨g, 2, none⟩ = some (.int .i64 tk) := (blk_cell BW15.out 2).trans rfl
  have zW16_3 : W14.cell? ⟨g, 3, none⟩ = some (.slice A seen.length c) := (blk_cell BW15.out 3).trans rfl
  have zW16_4 : W14.cell? ⟨g, 4, none⟩ = some (.int .i64 ag) := (blk_cell BW15.out 4).trans rfl
  have zb16_0 : W14.cell? ⟨gb1, 0, none⟩ = some (.int .i64 0) := (blk_cell Bb15.out 0).trans rfl
  have zb16_1 : W14.cell? ⟨gb1, 1, none⟩ = some (.slice none 0 0) := (blk_cell Bb15.out 1).trans rfl
  have zb16_2 : W14.cell? ⟨gb1, 2, none⟩ = some (.slice none 0 0) := (blk_cell Bb15.out 2).trans rfl
  have zk16_0 : W14.cell? ⟨gk1, 0, none⟩ = some (.int .i64 1) := (blk_cell Bk15.out 0).trans rfl
  have zk16_1 : W14.cell? ⟨gk1, 1, none⟩ = some (.slice none 0 0) := (blk_cell Bk15.out 1).trans rfl
  have zk16_2 : W14.cell? ⟨gk1, 2, none⟩ = some (.slice none 0 0) := (blk_cell Bk15.out 2).trans rfl
  have zl16_0 : W14.cell? ⟨gl9, 0, none⟩ = some (.int .i64 l.1) := (blk_cell Bl15.out 0).trans rfl
  have zl16_1 : W14.cell? ⟨gl9, 1, none⟩ = some (.int .i64 l.2.1) := (blk_cell Bl15.out 1).trans rfl
  have zl16_2 : W14.cell? ⟨gl9, 2, none⟩ = some (.int .i64 l.2.2.1) := (blk_cell Bl15.out 2).trans rfl
  have zl16_3 : W14.cell? ⟨gl9, 3, none⟩ = some (.int .i64 l.2.2.2) := (blk_cell Bl15.out 3).trans rfl
  go_upto_region 14 with fail
  obtain ⟨e1, he1⟩ : ∃ x, x = wrap64 (l.1 + 1) := ⟨_, rfl⟩
  rw [← he1]
  have kd0 : ∀ o, (W14.alloc o).cell? ⟨gb1, 0, none⟩ = some (.int .i64 0) := fun o => (blk_cell (blk_alloc Bb15.out o) 0).trans rfl
  have fd0 : ∀ o, (W14.alloc o).frozen? ⟨gb1, 0, none⟩ = false := fun o => blk_frozen (blk_alloc Bb15.out o) 0
  have kd1 : ∀ o, (W14.alloc o).cell? ⟨gb1, 1, none⟩ = some (.slice none 0 0) := fun o => (blk_cell (blk_alloc Bb15.out o) 1).trans rfl
  have fd1 : ∀ o, (W14.alloc o).frozen? ⟨gb1, 1, none⟩ = false := fun o => blk_frozen (blk_alloc Bb15.out o) 1
  have kd2 : ∀ o, (W14.alloc o).cell? ⟨gb1, 2, none⟩ = some (.slice none 0 0) := fun o => (blk_cell (blk_alloc Bb15.out o) 2).trans rfl
  have fd2 : ∀ o, (W14.alloc o).frozen? ⟨gb1, 2, none⟩ = false := fun o => blk_frozen (blk_alloc Bb15.out o) 2
  refine start_ (n := 13) (S := fun w' => w'.cell? ⟨g, 0, none⟩ = some (.int .i64 nd) ∧ w'.cell? ⟨g, 1, none⟩ = some (.int .i64 lf) ∧ w'.cell? ⟨g, 2, none⟩ = some (.int .i64 tk) ∧ w'.cell? ⟨g, 3, none⟩ = some (.slice A seen.length c) ∧ w'.cell? ⟨g, 4, none⟩ = some (.int .i64 ag)) (ds := [12]) #[false, false, false, false, false, false, false, false, false, false, false, false, false] (by kernel_rfl) rfl rfl ⟨zW16_0, zW16_1, zW16_2, zW16_3, zW16_4⟩ (fun hHeld => ?_)
  refine pure_ (i := 0) (N := some 60) (v := ?_) (a' := ?_) #[true, false, false, false, false, false, false, false, false, false, false, false, false] rfl rfl (by kernel_rfl) (fun _ _ _ h => h) (Or.inl ⟨by rfl, ?_⟩) ?_ ?_
  rotate_left
  · intro w'
    go_simp
    with_reducible rfl
  rotate_left
  · simp only [Act.put, List.setIfInBounds_toArray, List.set_cons_zero, List.set_cons_succ, i64_w, i32_w]
    rfl
  refine pure_ (i := 1) (N := some 61) (v := ?_) (a' := ?_) #[true, true, false, false, false, false, false, false, false, false, false, false, false] rfl rfl (by kernel_rfl) (fun _ _ _ h => h) (Or.inl ⟨by rfl, ?_⟩) ?_ ?_
  rotate_left
  · intro w'
    go_simp
    with_reducible rfl
  rotate_left
  · simp only [Act.put, List.setIfInBounds_toArray, List.set_cons_zero, List.set_cons_succ, i64_w, i32_w]
    rfl
  refine pure_ (i := 2) (N := some 62) (v := ?_) (a' := ?_) #[true, true, true, false, false, false, false, false, false, false, false, false, false] rfl rfl (by kernel_rfl) (fun _ _ _ h => h) (Or.inl ⟨by rfl, ?_⟩) ?_ ?_
  rotate_left
  · intro w'
    go_simp
    with_reducible rfl
  rotate_left
  · simp only [Act.put, List.setIfInBounds_toArray, List.set_cons_zero, List.set_cons_succ, i64_w, i32_w]
    rfl
  refine pure_ (i := 3) (N := some 63) (v := ?_) (a' := ?_) #[true, true, true, true, false, false, false, false, false, false, false, false, false] rfl rfl (by kernel_rfl) (fun _ _ _ h => h) (Or.inl ⟨by rfl, ?_⟩) ?_ ?_
  rotate_left
  · intro w'
    go_simp
    with_reducible rfl
  rotate_left
  · simp only [Act.put, List.setIfInBounds_toArray, List.set_cons_zero, List.set_cons_succ, i64_w, i32_w]
    rfl
  refine pure_ (i := 4) (N := some 64) (v := ?_) (a' := ?_) #[true, true, true, true, true, false, false, false, false, false, false, false, false] rfl rfl (by kernel_rfl) (fun _ _ _ h => h) (Or.inl ⟨by rfl, ?_⟩) ?_ ?_
  rotate_left
  · intro w'
    go_simp
    with_reducible rfl
  rotate_left
  · simp only [Act.put, List.setIfInBounds_toArray, List.set_cons_zero, List.set_cons_succ, i64_w, i32_w]
    rfl
  refine pure_ (i := 6) (N := some 66) (v := ?_) (a' := ?_) #[true, true, true, true, true, false, true, false, false, false, false, false, false] rfl rfl (by kernel_rfl) (fun _ _ _ h => h) (Or.inl ⟨by rfl, ?_⟩) ?_ ?_
  rotate_left
  · intro w'
    go_simp
    with_reducible rfl
  rotate_left
  · simp only [Act.put, List.setIfInBounds_toArray, List.set_cons_zero, List.set_cons_succ, i64_w, i32_w]
    rfl
  refine pure_ (i := 7) (N := some 67) (v := ?_) (a' := ?_) #[true, true, true, true, true, false, true, true, false, false, false, false, false] rfl rfl (by kernel_rfl) (fun _ _ _ h => h) (Or.inl ⟨by rfl, ?_⟩) ?_ ?_
  rotate_left
  · intro w'
    go_simp
    with_reducible rfl
  rotate_left
  · simp only [Act.put, List.setIfInBounds_toArray, List.set_cons_zero, List.set_cons_succ, i64_w, i32_w]
    rfl
  refine pure_ (i := 8) (N := some 68) (v := ?_) (a' := ?_) #[true, true, true, true, true, false, true, true, true, false, false, false, false] rfl rfl (by kernel_rfl) (fun _ _ _ h => h) (Or.inl ⟨by rfl, ?_⟩) ?_ ?_
  rotate_left
  · intro w'
    go_simp
    with_reducible rfl
  rotate_left
  · simp only [Act.put, List.setIfInBounds_toArray, List.set_cons_zero, List.set_cons_succ, i64_w, i32_w]
    rfl
  refine take_ (i := 5) (N := some 65) (v := ?_) (a' := ?_) #[true, true, true, true, true, true, true, true, true, false, false, false, false] rfl rfl (by kernel_rfl) (fun _ _ _ h => h) (Or.inl ⟨by rfl, ?_⟩) hHeld ?_ ?_
  rotate_left
  · rintro w' ⟨s0, s1, s2, s3, s4⟩
    go_simp
    with_reducible rfl
  rotate_left
  · simp only [Act.put, List.setIfInBounds_toArray, List.set_cons_zero, List.set_cons_succ, i64_w, i32_w]
    rfl
  refine take_ (i := 9) (N := some 69) (v := ?_) (a' := ?_) #[true, true, true, true, true, true, true, true, true, true, false, false, false] rfl rfl (by kernel_rfl) (fun _ _ _ h => h) (Or.inl ⟨by rfl, ?_⟩) hHeld ?_ ?_
  rotate_left
  · rintro w' ⟨s0, s1, s2, s3, s4⟩
    go_simp
    with_reducible rfl
  rotate_left
  · simp only [Act.put, List.setIfInBounds_toArray, List.set_cons_zero, List.set_cons_succ, i64_w, i32_w]
    rfl
  refine one_ (i := 10) (N := some 70) #[true, true, true, true, true, true, true, true, true, true, true, false, false] rfl rfl (by kernel_rfl) (by decide) (fun K hK => ?_)
  refine value_ (w1 := ?_) (v := ?_) (by rfl) rfl ?_ ?_
  rotate_left 2
  · go_simp
    constructor
    · rfl
    · rfl
  refine hK.out _ _ ⟨pw_cell_below (below_alloc (below_drew (Below.refl _ _)) _) zW16_0, pw_cell_below (below_alloc (below_drew (Below.refl _ _)) _) zW16_1, pw_cell_below (below_alloc (below_drew (Below.refl _ _)) _) zW16_2, pw_cell_below (below_alloc (below_drew (Below.refl _ _)) _) zW16_3, pw_cell_below (below_alloc (below_drew (Below.refl _ _)) _) zW16_4⟩ (fun hHeld => ?_)
  clear hK K
  refine norm_ (a' := ?_) ?_ ?_
  rotate_left
  · show Act.put _ (some 70) _ = _
    simp only [Act.put, List.setIfInBounds_toArray, List.set_cons_zero, List.set_cons_succ, i64_w, i32_w]
    rfl
  refine pure_ (i := 11) (N := some 71) (v := ?_) (a' := ?_) #[true, true, true, true, true, true, true, true, true, true, true, true, false] rfl rfl (by kernel_rfl) (fun _ _ _ h => h) (Or.inl ⟨by rfl, ?_⟩) ?_ ?_
  rotate_left
  · intro w'
    go_simp
    with_reducible rfl
  rotate_left
  · simp only [Act.put, List.setIfInBounds_toArray, List.set_cons_zero, List.set_cons_succ, i64_w, i32_w]
    rfl
  refine last_ (i := 12) (N := none) #[true, true, true, true, true, true, true, true, true, true, true, true, true] rfl rfl (by kernel_rfl) (by decide) (fun K hK => ?_)
  refine skip_ (w1 := ?_) (by rfl) rfl ?_ ?_
  rotate_left
  · go_simp
    rfl
  refine hK.out _ _ ?_
  clear hK K
  refine done_ (by kernel_rfl) ?_
  clear zW16_0 zW16_1 zW16_2 zW16_3 zW16_4 zb16_0 zb16_1 zb16_2 zk16_0 zk16_1 zk16_2 zl16_0 zl16_1 zl16_2 zl16_3
  clear kd0 fd0 kd1 fd1 kd2 fd2
  subst he1
  obtain ⟨W17, hw17⟩ : ∃ x : World, x = W14.alloc (.cells #[.int .i64 (wrap64 (l.1 + 1)), .int .i64 nd, .int .i64 lf, .int .i64 0] 3) := ⟨_, rfl⟩
  have hbs17 : Below W14.heap.size W14 W17 := by rw [hw17]; repeat (first | exact Below.refl _ _ | refine below_alloc ?_ _ | refine below_drew ?_)
  obtain ⟨gn17, hgn17⟩ : ∃ x, x = W14.heap.size := ⟨_, rfl⟩
  have GSn17 : Aside0 (W.heap.size ≤ gn17) := ⟨by rw [hgn17]; have := HB15.out.size; omega⟩
  have Bn17 : Aside0 (W17.heap[gn17]? = some (.cells #[.int .i64 (wrap64 (l.1 + 1)), .int .i64 nd, .int .i64 lf, .int .i64 0] 3 (0, 0))) := ⟨by rw [hw17, hgn17]; exact blk_new _ _⟩
  rw [← hw17]
  rw [← hgn17]
  clear hw17 hgn17
  have HB18 := Aside0.mk (below_step HB15.out hbs17)
  have BW18 : Aside0 (W17.heap[g]? = some (.cells #[.int .i64 nd, .int .i64 lf, .int .i64 tk, .slice A seen.length c, .int .i64 ag] 78 (0, 0))) := ⟨(hbs17.block _ (blk_lt BW15.out)).trans BW15.out⟩
  have Bb18 : Aside0 (W17.heap[gb1]? = some (.cells #[.int .i64 0, .slice none 0 0, .slice none 0 0] 39 (0, 0))) := ⟨(hbs17.block _ (blk_lt Bb15.out)).trans Bb15.out⟩
  have Bk18 : Aside0 (W17.heap[gk1]? = some (.cells #[.int .i64 1, .slice none 0 0, .slice none 0 0] 39 (0, 0))) := ⟨(hbs17.block _ (blk_lt Bk15.out)).trans Bk15.out⟩
  have Bl18 : Aside0 (W17.heap[gl9]? = some (.cells #[.int .i64 l.1, .int .i64 l.2.1, .int .i64 l.2.2.1, .int .i64 l.2.2.2] 24 (0, 0))) := ⟨(hbs17.block _ (blk_lt Bl15.out)).trans Bl15.out⟩
  have CRW18 := Aside0.mk (RWAt.below CRW15.out hbs17)
  clear hbs17
  obtain ⟨W19, hw19⟩ : ∃ x : World, x = (((W17.setCell ⟨gb1, 0, none⟩ (.int .i64 2)).setCell ⟨gb1, 1, none⟩ (.slice B v.length d)).setCell ⟨gb1, 2, none⟩ (.slice (some ⟨gn17, 0, none⟩) 4 4)) := ⟨_, rfl⟩
  have HB19 : Aside0 (Below W.heap.size W W19) := ⟨by rw [hw19]; exact (below_set (below_set (below_set HB18.out GSb1.out) GSb1.out) GSb1.out)⟩
  have hgr19 : W17.grownBy W19 (some gb1) := by rw [hw19]; exact ((grown_set _ _ _ _).trans (grown_set _ _ _ _)).trans (grown_set _ _ _ _)
  have Bb19 : Aside0 (W19.heap[gb1]? = some (.cells #[.int .i64 2, .slice B v.length d, .slice (some ⟨gn17, 0, none⟩) 4 4] 39 (0, 0))) := ⟨by rw [hw19]; refine blk_put (cs := #[.int .i64 2, .slice B v.length d, .slice none 0 0]) ?_ 2 _ rfl; refine blk_put (cs := #[.int .i64 2, .slice none 0 0, .slice none 0 0]) ?_ 1 _ rfl; refine blk_put (cs := #[.int .i64 0, .slice none 0 0, .slice none 0 0]) ?_ 0 _ rfl; exact Bb18.out⟩
  have BW19 : Aside0 (W19.heap[g]? = some (.cells #[.int .i64 nd, .int .i64 lf, .int .i64 tk, .slice A seen.length c, .int .i64 ag] 78 (0, 0))) := ⟨blk_grown BW18.out hgr19 (fun e => (blk_ne BW18.out Bb18.out (by decide)) (by injection e))⟩
  have Bl19 : Aside0 (W19.heap[gl9]? = some (.cells #[.int .i64 l.1, .int .i64 l.2.1, .int .i64 l.2.2.1, .int .i64 l.2.2.2] 24 (0, 0))) := ⟨blk_grown Bl18.out hgr19 (fun e => (blk_ne Bl18.out Bb18.out (by decide)) (by injection e))⟩
  have Bn19 : Aside0 (W19.heap[gn17]? = some (.cells #[.int .i64 (wrap64 (l.1 + 1)), .int .i64 nd, .int .i64 lf, .int .i64 0] 3 (0, 0))) := ⟨blk_grown Bn17.out hgr19 (fun e => (blk_ne Bn17.out Bb18.out (by decide)) (by injection e))⟩
  rw [← hw19]
  clear hw19 hgr19
  obtain ⟨W20, hw20⟩ : ∃ x : World, x = W19.drew := ⟨_, rfl⟩
  have hbd20 : Below W19.heap.size W19 W20 := by rw [hw20]; exact below_drew (Below.refl _ _)
  rw [← hw20]
  clear hw20
  have HB21 := Aside0.mk (below_step HB19.out hbd20)
  have BW21 : Aside0 (W20.heap[g]? = some (.cells #[.int .i64 nd, .int .i64 lf, .int .i64 tk, .slice A seen.length c, .int .i64 ag] 78 (0, 0))) := ⟨(hbd20.block _ (blk_lt BW19.out)).trans BW19.out⟩
  have Bb21 : Aside0 (W20.heap[gb1]? = some (.cells #[.int .i64 2, .slice B v.length d, .slice (some ⟨gn17, 0, none⟩) 4 4] 39 (0, 0))) := ⟨(hbd20.block _ (blk_lt Bb19.out)).trans Bb19.out⟩
  have Bl21 : Aside0 (W20.heap[gl9]? = some (.cells #[.int .i64 l.1, .int .i64 l.2.1, .int .i64 l.2.2.1, .int .i64 l.2.2.2] 24 (0, 0))) := ⟨(hbd20.block _ (blk_lt Bl19.out)).trans Bl19.out⟩
  have Bn21 : Aside0 (W20.heap[gn17]? = some (.cells #[.int .i64 (wrap64 (l.1 + 1)), .int .i64 nd, .int .i64 lf, .int .i64 0] 3 (0, 0))) := ⟨(hbd20.block _ (blk_lt Bn19.out)).trans Bn19.out⟩
  clear hbd20
  go_wp2_with fail
  refine bodyPost_ret (results_cell_row rfl _ _ gb1 39 #[.int .i64 2, .slice B v.length d, .slice (some ⟨gn17, 0, none⟩) 4 4] (0, 0) _ rfl Bb21.out Try.underlying39 rfl (by kernel_rfl)) rfl ?_
  exact ⟨_, _, _, _, rfl, Kd.C_below HC0.out HB21.out, hvd, C_blk [(wrap64 (l.1 + 1)), nd, lf, 0] Bn21.out rfl (by simp), (Nat.le_refl _), HB21.out⟩
set_option maxHeartbeats 8000000 in
set_option maxRecDepth 100000 in
theorem rwant_none (W : World) (g : Nat) (nd lf tk : Int) (seen : List (List Int)) (ag : Int) (v : List Int) (hv : lastOf seen = v) (h : RWAt W g nd lf tk seen ag) (l : LeaseT) (q lb : Bool) (hl : leaseOf v = l) (hq : okL v = q) (hlb : leadsB nd lf v = lb) (hs : (seen.length = 0) = False) (hx : lb = false) (hy : q = false) : Calls Try.prog 35 #[.pointer (some ⟨g, 0, none⟩)] W (RWantPost W (2, v, [1, nd, lf, 0])) := by
  have hu71 := Try.underlying71
  have hu78 := Try.underlying78
  have hu42 := Try.underlying42
  have hu39 := Try.underlying39
  have hu24 := Try.underlying24
  have hu22 := Try.underlying22
  have HR := Aside0.mk h
  obtain ⟨A, c, hB0, hR0, hok⟩ := h
  have BW0 := Aside0.mk hB0
  have HV := Aside0.mk hv
  clear hB0 hR0 hok hv
  have HL := Aside0.mk hl
  have HQ := Aside0.mk hq
  have HLB := Aside0.mk hlb
  clear hl hq hlb
  have hs1 : ((seen.length : Int) == 0) = false := beq_eq_false_iff_ne.2 (fun e => by rw [← hs]; omega)
  have hs2 : ¬ seen = [] := fun e => by rw [← hs, e]; rfl
  have hs3 : ¬ seen.length = 0 := fun e => by rw [← hs]; exact e
  go_enter Try.func35, Try.ntmps35
  go_upto_region 2 with fail
  obtain ⟨W1, hw1⟩ : ∃ x : World, x = (W.alloc (.cells #[.int .i64 0, .slice none 0 0, .slice none 0 0] 39)).alloc (.cells #[.int .i64 1, .slice none 0 0, .slice none 0 0] 39) := ⟨_, rfl⟩
  have hbs1 : Below W.heap.size W W1 := by rw [hw1]; repeat (first | exact Below.refl _ _ | refine below_alloc ?_ _ | refine below_drew ?_)
  obtain ⟨gb1, hgb1⟩ : ∃ x, x = W.heap.size := ⟨_, rfl⟩
  have GSb1 : Aside0 (W.heap.size ≤ gb1) := ⟨by rw [hgb1]; omega⟩
  have Bb1 : Aside0 (W1.heap[gb1]? = some (.cells #[.int .i64 0, .slice none 0 0, .slice none 0 0] 39 (0, 0))) := ⟨by rw [hw1, hgb1]; exact blk_alloc (blk_new _ _) _⟩
  obtain ⟨gk1, hgk1⟩ : ∃ x, x = W.heap.size + 1 := ⟨_, rfl⟩
  have GSk1 : Aside0 (W.heap.size ≤ gk1) := ⟨by rw [hgk1]; omega⟩
  have Bk1 : Aside0 (W1.heap[gk1]? = some (.cells #[.int .i64 1, .slice none 0 0, .slice none 0 0] 39 (0, 0))) := ⟨by rw [hw1, hgk1]; have := blk_new (W.alloc (.cells #[.int .i64 0, .slice none 0 0, .slice none 0 0] 39)) (.cells #[.int .i64 1, .slice none 0 0, .slice none 0 0] 39); rwa [World.size_alloc] at this⟩
  rw [← hw1]
  rw [← hgk1]
  rw [← hgb1]
  have HNEbk := Aside0.mk (show gb1 ≠ gk1 by omega)
  clear hw1 hgb1 hgk1
  have HB2 := Aside0.mk hbs1
  have BW2 : Aside0 (W1.heap[g]? = some (.cells #[.int .i64 nd, .int .i64 lf, .int .i64 tk, .slice A seen.length c, .int .i64 ag] 78 (0, 0))) := ⟨(hbs1.block _ (blk_lt BW0.out)).trans BW0.out⟩
  have CRW2 := Aside0.mk (RWAt.below HR.out hbs1)
  clear hbs1
  have zW3_0 : W1.cell? ⟨g, 0, none⟩ = some (.int .i64 nd) := (blk_cell BW2.out 0).trans rfl
  have zW3_1 : W1.cell? ⟨g, 1, none⟩ = some (.int .i64 lf) := (blk_cell BW2.out 1).trans rfl
  have zW3_2 : W1.cell? ⟨g, 2, none⟩ = some (.int .i64 tk) := (blk_cell BW2.out 2).trans rfl
  have zW3_3 : W1.cell? ⟨g, 3, none⟩ = some (.slice A seen.length c) := (blk_cell BW2.out 3).trans rfl
  have zW3_4 : W1.cell? ⟨g, 4, none⟩ = some (.int .i64 ag) := (blk_cell BW2.out 4).trans rfl
  have zb3_0 : W1.cell? ⟨gb1, 0, none⟩ = some (.int .i64 0) := (blk_cell Bb1.out 0).trans rfl
  have zb3_1 : W1.cell? ⟨gb1, 1, none⟩ = some (.slice none 0 0) := (blk_cell Bb1.out 1).trans rfl
  have zb3_2 : W1.cell? ⟨gb1, 2, none⟩ = some (.slice none 0 0) := (blk_cell Bb1.out 2).trans rfl
  have zk3_0 : W1.cell? ⟨gk1, 0, none⟩ = some (.int .i64 1) := (blk_cell Bk1.out 0).trans rfl
  have zk3_1 : W1.cell? ⟨gk1, 1, none⟩ = some (.slice none 0 0) := (blk_cell Bk1.out 1).trans rfl
  have zk3_2 : W1.cell? ⟨gk1, 2, none⟩ = some (.slice none 0 0) := (blk_cell Bk1.out 2).trans rfl
  go_wp2_with fail
  have hrl := rlast_w W _ g nd lf tk seen ag HR.out HB2.out
  rw [HV.out] at hrl
  refine hrl.mono ?_
  rintro e w8 ⟨B, d, rfl, hvd, hC, hb8⟩
  have HC0 := Aside0.mk hC
  clear hC hrl
  clear zW3_0 zW3_1 zW3_2 zW3_3 zW3_4 zb3_0 zb3_1 zb3_2 zk3_0 zk3_1 zk3_2
  have HB4 := Aside0.mk (below_step HB2.out hb8)
  have BW4 : Aside0 (w8.heap[g]? = some (.cells #[.int .i64 nd, .int .i64 lf, .int .i64 tk, .slice A seen.length c, .int .i64 ag] 78 (0, 0))) := ⟨(hb8.block _ (blk_lt BW2.out)).trans BW2.out⟩
  have Bb4 : Aside0 (w8.heap[gb1]? = some (.cells #[.int .i64 0, .slice none 0 0, .slice none 0 0] 39 (0, 0))) := ⟨(hb8.block _ (blk_lt Bb1.out)).trans Bb1.out⟩
  have Bk4 : Aside0 (w8.heap[gk1]? = some (.cells #[.int .i64 1, .slice none 0 0, .slice none 0 0] 39 (0, 0))) := ⟨(hb8.block _ (blk_lt Bk1.out)).trans Bk1.out⟩
  have CRW4 := Aside0.mk (RWAt.below CRW2.out hb8)
  clear hb8
  have zW5_0 : w8.cell? ⟨g, 0, none⟩ = some (.int .i64 nd) := (blk_cell BW4.out 0).trans rfl
  have zW5_1 : w8.cell? ⟨g, 1, none⟩ = some (.int .i64 lf) := (blk_cell BW4.out 1).trans rfl
  have zW5_2 : w8.cell? ⟨g, 2, none⟩ = some (.int .i64 tk) := (blk_cell BW4.out 2).trans rfl
  have zW5_3 : w8.cell? ⟨g, 3, none⟩ = some (.slice A seen.length c) := (blk_cell BW4.out 3).trans rfl
  have zW5_4 : w8.cell? ⟨g, 4, none⟩ = some (.int .i64 ag) := (blk_cell BW4.out 4).trans rfl
  have zb5_0 : w8.cell? ⟨gb1, 0, none⟩ = some (.int .i64 0) := (blk_cell Bb4.out 0).trans rfl
  have zb5_1 : w8.cell? ⟨gb1, 1, none⟩ = some (.slice none 0 0) := (blk_cell Bb4.out 1).trans rfl
  have zb5_2 : w8.cell? ⟨gb1, 2, none⟩ = some (.slice none 0 0) := (blk_cell Bb4.out 2).trans rfl
  have zk5_0 : w8.cell? ⟨gk1, 0, none⟩ = some (.int .i64 1) := (blk_cell Bk4.out 0).trans rfl
  have zk5_1 : w8.cell? ⟨gk1, 1, none⟩ = some (.slice none 0 0) := (blk_cell Bk4.out 1).trans rfl
  have zk5_2 : w8.cell? ⟨gk1, 2, none⟩ = some (.slice none 0 0) := (blk_cell Bk4.out 2).trans rfl
  go_wp2_with fail
  refine (rlease_c _ g nd lf tk seen ag v HV.out CRW4.out).mono ?_
  rw [HL.out, HQ.out]
  rintro e w9 ⟨rfl, hb9⟩
  clear zW5_0 zW5_1 zW5_2 zW5_3 zW5_4 zb5_0 zb5_1 zb5_2 zk5_0 zk5_1 zk5_2
  have HB6 := Aside0.mk (below_step HB4.out hb9)
  have BW6 : Aside0 (w9.heap[g]? = some (.cells #[.int .i64 nd, .int .i64 lf, .int .i64 tk, .slice A seen.length c, .int .i64 ag] 78 (0, 0))) := ⟨(hb9.block _ (blk_lt BW4.out)).trans BW4.out⟩
  have Bb6 : Aside0 (w9.heap[gb1]? = some (.cells #[.int .i64 0, .slice none 0 0, .slice none 0 0] 39 (0, 0))) := ⟨(hb9.block _ (blk_lt Bb4.out)).trans Bb4.out⟩
  have Bk6 : Aside0 (w9.heap[gk1]? = some (.cells #[.int .i64 1, .slice none 0 0, .slice none 0 0] 39 (0, 0))) := ⟨(hb9.block _ (blk_lt Bk4.out)).trans Bk4.out⟩
  have CRW6 := Aside0.mk (RWAt.below CRW4.out hb9)
  clear hb9
  have zW7_0 : w9.cell? ⟨g, 0, none⟩ = some (.int .i64 nd) := (blk_cell BW6.out 0).trans rfl
  have zW7_1 : w9.cell? ⟨g, 1, none⟩ = some (.int .i64 lf) := (blk_cell BW6.out 1).trans rfl
  have zW7_2 : w9.cell? ⟨g, 2, none⟩ = some (.int .i64 tk) := (blk_cell BW6.out 2).trans rfl
  have zW7_3 : w9.cell? ⟨g, 3, none⟩ = some (.slice A seen.length c) := (blk_cell BW6.out 3).trans rfl
  have zW7_4 : w9.cell? ⟨g, 4, none⟩ = some (.int .i64 ag) := (blk_cell BW6.out 4).trans rfl
  have zb7_0 : w9.cell? ⟨gb1, 0, none⟩ = some (.int .i64 0) := (blk_cell Bb6.out 0).trans rfl
  have zb7_1 : w9.cell? ⟨gb1, 1, none⟩ = some (.slice none 0 0) := (blk_cell Bb6.out 1).trans rfl
  have zb7_2 : w9.cell? ⟨gb1, 2, none⟩ = some (.slice none 0 0) := (blk_cell Bb6.out 2).trans rfl
  have zk7_0 : w9.cell? ⟨gk1, 0, none⟩ = some (.int .i64 1) := (blk_cell Bk6.out 0).trans rfl
  have zk7_1 : w9.cell? ⟨gk1, 1, none⟩ = some (.slice none 0 0) := (blk_cell Bk6.out 1).trans rfl
  have zk7_2 : w9.cell? ⟨gk1, 2, none⟩ = some (.slice none 0 0) := (blk_cell Bk6.out 2).trans rfl
  have zaW8_0 : ∀ o, (w9.alloc o).cell? ⟨g, 0, none⟩ = some (.int .i64 nd) := fun o => (blk_cell (blk_alloc BW6.out o) 0).trans rfl
  have zaW8_1 : ∀ o, (w9.alloc o).cell? ⟨g, 1, none⟩ = some (.int .i64 lf) := fun o => (blk_cell (blk_alloc BW6.out o) 1).trans rfl
  have zaW8_2 : ∀ o, (w9.alloc o).cell? ⟨g, 2, none⟩ = some (.int .i64 tk) := fun o => (blk_cell (blk_alloc BW6.out o) 2).trans rfl
  have zaW8_3 : ∀ o, (w9.alloc o).cell? ⟨g, 3, none⟩ = some (.slice A seen.length c) := fun o => (blk_cell (blk_alloc BW6.out o) 3).trans rfl
  have zaW8_4 : ∀ o, (w9.alloc o).cell? ⟨g, 4, none⟩ = some (.int .i64 ag) := fun o => (blk_cell (blk_alloc BW6.out o) 4).trans rfl
  have zab8_0 : ∀ o, (w9.alloc o).cell? ⟨gb1, 0, none⟩ = some (.int .i64 0) := fun o => (blk_cell (blk_alloc Bb6.out o) 0).trans rfl
  have zab8_1 : ∀ o, (w9.alloc o).cell? ⟨gb1, 1, none⟩ = some (.slice none 0 0) := fun o => (blk_cell (blk_alloc Bb6.out o) 1).trans rfl
  have zab8_2 : ∀ o, (w9.alloc o).cell? ⟨gb1, 2, none⟩ = some (.slice none 0 0) := fun o => (blk_cell (blk_alloc Bb6.out o) 2).trans rfl
  have zak8_0 : ∀ o, (w9.alloc o).cell? ⟨gk1, 0, none⟩ = some (.int .i64 1) := fun o => (blk_cell (blk_alloc Bk6.out o) 0).trans rfl
  have zak8_1 : ∀ o, (w9.alloc o).cell? ⟨gk1, 1, none⟩ = some (.slice none 0 0) := fun o => (blk_cell (blk_alloc Bk6.out o) 1).trans rfl
  have zak8_2 : ∀ o, (w9.alloc o).cell? ⟨gk1, 2, none⟩ = some (.slice none 0 0) := fun o => (blk_cell (blk_alloc Bk6.out o) 2).trans rfl
  go_wp2_with fail
  obtain ⟨W9, hw9⟩ : ∃ x : World, x = w9.alloc (.cells #[.int .i64 l.1, .int .i64 l.2.1, .int .i64 l.2.2.1, .int .i64 l.2.2.2] 24) := ⟨_, rfl⟩
  have hbs9 : Below w9.heap.size w9 W9 := by rw [hw9]; repeat (first | exact Below.refl _ _ | refine below_alloc ?_ _ | refine below_drew ?_)
  obtain ⟨gl9, hgl9⟩ : ∃ x, x = w9.heap.size := ⟨_, rfl⟩
  have GSl9 : Aside0 (W.heap.size ≤ gl9) := ⟨by rw [hgl9]; have := HB6.out.size; omega⟩
  have Bl9 : Aside0 (W9.heap[gl9]? = some (.cells #[.int .i64 l.1, .int .i64 l.2.1, .int .i64 l.2.2.1, .int .i64 l.2.2.2] 24 (0, 0))) := ⟨by rw [hw9, hgl9]; exact blk_new _ _⟩
  rw [← hw9]
  rw [← hgl9]
  clear hw9 hgl9
  clear zW7_0 zW7_1 zW7_2 zW7_3 zW7_4 zb7_0 zb7_1 zb7_2 zk7_0 zk7_1 zk7_2 zaW8_0 zaW8_1 zaW8_2 zaW8_3 zaW8_4 zab8_0 zab8_1 zab8_2 zak8_0 zak8_1 zak8_2
  have HB10 := Aside0.mk (below_step HB6.out hbs9)
  have BW10 : Aside0 (W9.heap[g]? = some (.cells #[.int .i64 nd, .int .i64 lf, .int .i64 tk, .slice A seen.length c, .int .i64 ag] 78 (0, 0))) := ⟨(hbs9.block _ (blk_lt BW6.out)).trans BW6.out⟩
  have Bb10 : Aside0 (W9.heap[gb1]? = some (.cells #[.int .i64 0, .slice none 0 0, .slice none 0 0] 39 (0, 0))) := ⟨(hbs9.block _ (blk_lt Bb6.out)).trans Bb6.out⟩
  have Bk10 : Aside0 (W9.heap[gk1]? = some (.cells #[.int .i64 1, .slice none 0 0, .slice none 0 0] 39 (0, 0))) := ⟨(hbs9.block _ (blk_lt Bk6.out)).trans Bk6.out⟩
  have CRW10 := Aside0.mk (RWAt.below CRW6.out hbs9)
  clear hbs9
  refine (rleads_c _ g nd lf tk seen ag v HV.out CRW10.out).mono ?_
  rw [HLB.out]
  rintro e w10 ⟨rfl, hb10⟩
  have HB11 := Aside0.mk (below_step HB10.out hb10)
  have BW11 : Aside0 (w10.heap[g]? = some (.cells #[.int .i64 nd, .int .i64 lf, .int .i64 tk, .slice A seen.length c, .int .i64 ag] 78 (0, 0))) := ⟨(hb10.block _ (blk_lt BW10.out)).trans BW10.out⟩
  have Bb11 : Aside0 (w10.heap[gb1]? = some (.cells #[.int .i64 0, .slice none 0 0, .slice none 0 0] 39 (0, 0))) := ⟨(hb10.block _ (blk_lt Bb10.out)).trans Bb10.out⟩
  have Bk11 : Aside0 (w10.heap[gk1]? = some (.cells #[.int .i64 1, .slice none 0 0, .slice none 0 0] 39 (0, 0))) := ⟨(hb10.block _ (blk_lt Bk10.out)).trans Bk10.out⟩
  have Bl11 : Aside0 (w10.heap[gl9]? = some (.cells #[.int .i64 l.1, .int .i64 l.2.1, .int .i64 l.2.2.1, .int .i64 l.2.2.2] 24 (0, 0))) := ⟨(hb10.block _ (blk_lt Bl9.out)).trans Bl9.out⟩
  have CRW11 := Aside0.mk (RWAt.below CRW10.out hb10)
  clear hb10
  have zW12_0 : w10.cell? ⟨g, 0, none⟩ = some (.int .i64 nd) := (blk_cell BW11.out 0).trans rfl
  have zW12_1 : w10.cell? ⟨g, 1, none⟩ = some (.int .i64 lf) := (blk_cell BW11.out 1).trans rfl
  have zW12_2 : w10.cell? ⟨g, 2, none⟩ = some (.int .i64 tk) := (blk_cell BW11.out 2).trans rfl
  have zW12_3 : w10.cell? ⟨g, 3, none⟩ = some (.slice A seen.length c) := (blk_cell BW11.out 3).trans rfl
  have zW12_4 : w10.cell? ⟨g, 4, none⟩ = some (.int .i64 ag) := (blk_cell BW11.out 4).trans rfl
  have zb12_0 : w10.cell? ⟨gb1, 0, none⟩ = some (.int .i64 0) := (blk_cell Bb11.out 0).trans rfl
  have zb12_1 : w10.cell? ⟨gb1, 1, none⟩ = some (.slice none 0 0) := (blk_cell Bb11.out 1).trans rfl
  have zb12_2 : w10.cell? ⟨gb1, 2, none⟩ = some (.slice none 0 0) := (blk_cell Bb11.out 2).trans rfl
  have zk12_0 : w10.cell? ⟨gk1, 0, none⟩ = some (.int .i64 1) := (blk_cell Bk11.out 0).trans rfl
  have zk12_1 : w10.cell? ⟨gk1, 1, none⟩ = some (.slice none 0 0) := (blk_cell Bk11.out 1).trans rfl
  have zk12_2 : w10.cell? ⟨gk1, 2, none⟩ = some (.slice none 0 0) := (blk_cell Bk11.out 2).trans rfl
  have zl12_0 : w10.cell? ⟨gl9, 0, none⟩ = some (.int .i64 l.1) := (blk_cell Bl11.out 0).trans rfl
  have zl12_1 : w10.cell? ⟨gl9, 1, none⟩ = some (.int .i64 l.2.1) := (blk_cell Bl11.out 1).trans rfl
  have zl12_2 : w10.cell? ⟨gl9, 2, none⟩ = some (.int .i64 l.2.2.1) := (blk_cell Bl11.out 2).trans rfl
  have zl12_3 : w10.cell? ⟨gl9, 3, none⟩ = some (.int .i64 l.2.2.2) := (blk_cell Bl11.out 3).trans rfl
  have hf0 := blk_frozen Bb11.out 0
  have hf1 := blk_frozen Bb11.out 1
  have hf2 := blk_frozen Bb11.out 2
  have hfa : ∀ o j, (w10.alloc o).frozen? ⟨gb1, j, none⟩ = false := fun o j => blk_frozen (blk_alloc Bb11.out o) j
  have zaW13_0 : ∀ o, (w10.alloc o).cell? ⟨g, 0, none⟩ = some (.int .i64 nd) := fun o => (blk_cell (blk_alloc BW11.out o) 0).trans rfl
  have zaW13_1 : ∀ o, (w10.alloc o).cell? ⟨g, 1, none⟩ = some (.int .i64 lf) := fun o => (blk_cell (blk_alloc BW11.out o) 1).trans rfl
  have zaW13_2 : ∀ o, (w10.alloc o).cell? ⟨g, 2, none⟩ = some (.int .i64 tk) := fun o => (blk_cell (blk_alloc BW11.out o) 2).trans rfl
  have zaW13_3 : ∀ o, (w10.alloc o).cell? ⟨g, 3, none⟩ = some (.slice A seen.length c) := fun o => (blk_cell (blk_alloc BW11.out o) 3).trans rfl
  have zaW13_4 : ∀ o, (w10.alloc o).cell? ⟨g, 4, none⟩ = some (.int .i64 ag) := fun o => (blk_cell (blk_alloc BW11.out o) 4).trans rfl
  have zab13_0 : ∀ o, (w10.alloc o).cell? ⟨gb1, 0, none⟩ = some (.int .i64 0) := fun o => (blk_cell (blk_alloc Bb11.out o) 0).trans rfl
  have zab13_1 : ∀ o, (w10.alloc o).cell? ⟨gb1, 1, none⟩ = some (.slice none 0 0) := fun o => (blk_cell (blk_alloc Bb11.out o) 1).trans rfl
  have zab13_2 : ∀ o, (w10.alloc o).cell? ⟨gb1, 2, none⟩ = some (.slice none 0 0) := fun o => (blk_cell (blk_alloc Bb11.out o) 2).trans rfl
  have zak13_0 : ∀ o, (w10.alloc o).cell? ⟨gk1, 0, none⟩ = some (.int .i64 1) := fun o => (blk_cell (blk_alloc Bk11.out o) 0).trans rfl
  have zak13_1 : ∀ o, (w10.alloc o).cell? ⟨gk1, 1, none⟩ = some (.slice none 0 0) := fun o => (blk_cell (blk_alloc Bk11.out o) 1).trans rfl
  have zak13_2 : ∀ o, (w10.alloc o).cell? ⟨gk1, 2, none⟩ = some (.slice none 0 0) := fun o => (blk_cell (blk_alloc Bk11.out o) 2).trans rfl
  have zal13_0 : ∀ o, (w10.alloc o).cell? ⟨gl9, 0, none⟩ = some (.int .i64 l.1) := fun o => (blk_cell (blk_alloc Bl11.out o) 0).trans rfl
  have zal13_1 : ∀ o, (w10.alloc o).cell? ⟨gl9, 1, none⟩ = some (.int .i64 l.2.1) := fun o => (blk_cell (blk_alloc Bl11.out o) 1).trans rfl
  have zal13_2 : ∀ o, (w10.alloc o).cell? ⟨gl9, 2, none⟩ = some (.int .i64 l.2.2.1) := fun o => (blk_cell (blk_alloc Bl11.out o) 2).trans rfl
  have zal13_3 : ∀ o, (w10.alloc o).cell? ⟨gl9, 3, none⟩ = some (.int .i64 l.2.2.2) := fun o => (blk_cell (blk_alloc Bl11.out o) 3).trans rfl
  subst hx hy
  go_wp2_with fail
  refine start_ (n := 12) (S := fun w' => w'.cell? ⟨g, 0, none⟩ = some (.int .i64 nd) ∧ w'.cell? ⟨g, 1, none⟩ = some (.int .i64 lf) ∧ w'.cell? ⟨g, 2, none⟩ = some (.int .i64 tk) ∧ w'.cell? ⟨g, 3, none⟩ = some (.slice A seen.length c) ∧ w'.cell? ⟨g, 4, none⟩ = some (.int .i64 ag)) (ds := []) #[false, false, false, false, false, false, false, false, false, false, false, false] (by kernel_rfl) rfl rfl ⟨zW12_0, zW12_1, zW12_2, zW12_3, zW12_4⟩ (fun hHeld => ?_)
  refine pure_ (i := 0) (N := some 43) (v := ?_) (a' := ?_) #[true, false, false, false, false, false, false, false, false, false, false, false] rfl rfl (by kernel_rfl) (fun _ _ _ h => h) (Or.inl ⟨by rfl, ?_⟩) ?_ ?_
  rotate_left
  · intro w'
    go_simp
    with_reducible rfl
  rotate_left
  · simp only [Act.put, List.setIfInBounds_toArray, List.set_cons_zero, List.set_cons_succ, i64_w, i32_w]
    rfl
  refine pure_ (i := 1) (N := some 44) (v := ?_) (a' := ?_) #[true, true, false, false, false, false, false, false, false, false, false, false] rfl rfl (by kernel_rfl) (fun _ _ _ h => h) (Or.inl ⟨by rfl, ?_⟩) ?_ ?_
  rotate_left
  · intro w'
    go_simp
    with_reducible rfl
  rotate_left
  · simp only [Act.put, List.setIfInBounds_toArray, List.set_cons_zero, List.set_cons_succ, i64_w, i32_w]
    rfl
  refine pure_ (i := 2) (N := some 45) (v := undef) (a' := ?_) #[true, true, true, false, false, false, false, false, false, false, false, false] rfl rfl (by kernel_rfl) (fun _ _ _ h => h) (Or.inr ⟨by rfl, rfl⟩) ?_ ?_
  rotate_left
  · simp only [Act.put, List.setIfInBounds_toArray, List.set_cons_zero, List.set_cons_succ, i64_w, i32_w]
    rfl
  refine pure_ (i := 3) (N := some 46) (v := undef) (a' := ?_) #[true, true, true, true, false, false, false, false, false, false, false, false] rfl rfl (by kernel_rfl) (fun _ _ _ h => h) (Or.inr ⟨by rfl, rfl⟩) ?_ ?_
  rotate_left
  · simp only [Act.put, List.setIfInBounds_toArray, List.set_cons_zero, List.set_cons_succ, i64_w, i32_w]
    rfl
  refine pure_ (i := 4) (N := some 47) (v := undef) (a' := ?_) #[true, true, true, true, true, false, false, false, false, false, false, false] rfl rfl (by kernel_rfl) (fun _ _ _ h => h) (Or.inr ⟨by rfl, rfl⟩) ?_ ?_
  rotate_left
  · simp only [Act.put, List.setIfInBounds_toArray, List.set_cons_zero, List.set_cons_succ, i64_w, i32_w]
    rfl
  refine pure_ (i := 5) (N := some 48) (v := undef) (a' := ?_) #[true, true, true, true, true, true, false, false, false, false, false, false] rfl rfl (by kernel_rfl) (fun _ _ _ h => h) (Or.inr ⟨by rfl, rfl⟩) ?_ ?_
  rotate_left
  · simp only [Act.put, List.setIfInBounds_toArray, List.set_cons_zero, List.set_cons_succ, i64_w, i32_w]
    rfl
  refine pure_ (i := 6) (N := some 49) (v := undef) (a' := ?_) #[true, true, true, true, true, true, true, false, false, false, false, false] rfl rfl (by kernel_rfl) (fun _ _ _ h => h) (Or.inr ⟨by rfl, rfl⟩) ?_ ?_
  rotate_left
  · simp only [Act.put, List.setIfInBounds_toArray, List.set_cons_zero, List.set_cons_succ, i64_w, i32_w]
    rfl
  refine pure_ (i := 7) (N := some 50) (v := undef) (a' := ?_) #[true, true, true, true, true, true, true, true, false, false, false, false] rfl rfl (by kernel_rfl) (fun _ _ _ h => h) (Or.inr ⟨by rfl, rfl⟩) ?_ ?_
  rotate_left
  · simp only [Act.put, List.setIfInBounds_toArray, List.set_cons_zero, List.set_cons_succ, i64_w, i32_w]
    rfl
  refine pure_ (i := 8) (N := some 51) (v := undef) (a' := ?_) #[true, true, true, true, true, true, true, true, true, false, false, false] rfl rfl (by kernel_rfl) (fun _ _ _ h => h) (Or.inr ⟨by rfl, rfl⟩) ?_ ?_
  rotate_left
  · simp only [Act.put, List.setIfInBounds_toArray, List.set_cons_zero, List.set_cons_succ, i64_w, i32_w]
    rfl
  refine pure_ (i := 9) (N := some 52) (v := undef) (a' := ?_) #[true, true, true, true, true, true, true, true, true, true, false, false] rfl rfl (by kernel_rfl) (fun _ _ _ h => h) (Or.inr ⟨by rfl, rfl⟩) ?_ ?_
  rotate_left
  · simp only [Act.put, List.setIfInBounds_toArray, List.set_cons_zero, List.set_cons_succ, i64_w, i32_w]
    rfl
  refine pure_ (i := 10) (N := some 53) (v := undef) (a' := ?_) #[true, true, true, true, true, true, true, true, true, true, true, false] rfl rfl (by kernel_rfl) (fun _ _ _ h => h) (Or.inr ⟨by rfl, rfl⟩) ?_ ?_
  rotate_left
  · simp only [Act.put, List.setIfInBounds_toArray, List.set_cons_zero, List.set_cons_succ, i64_w, i32_w]
    rfl
  refine pure_ (i := 11) (N := some 54) (v := ?_) (a' := ?_) #[true, true, true, true, true, true, true, true, true, true, true, true] rfl rfl (by kernel_rfl) (fun _ _ _ h => h) (Or.inl ⟨by rfl, ?_⟩) ?_ ?_
  rotate_left
  · intro w'
    go_simp
    with_reducible rfl
  rotate_left
  · simp only [Act.put, List.setIfInBounds_toArray, List.set_cons_zero, List.set_cons_succ, i64_w, i32_w]
    rfl
  refine done_ (by kernel_rfl) ?_
  obtain ⟨W14, hw14⟩ : ∃ x : World, x = w10.drew := ⟨_, rfl⟩
  have hbd14 : Below w10.heap.size w10 W14 := by rw [hw14]; exact below_drew (Below.refl _ _)
  rw [← hw14]
  clear hw14
  clear zW12_0 zW12_1 zW12_2 zW12_3 zW12_4 zb12_0 zb12_1 zb12_2 zk12_0 zk12_1 zk12_2 zl12_0 zl12_1 zl12_2 zl12_3 zaW13_0 zaW13_1 zaW13_2 zaW13_3 zaW13_4 zab13_0 zab13_1 zab13_2 zak13_0 zak13_1 zak13_2 zal13_0 zal13_1 zal13_2 zal13_3
  have HB15 := Aside0.mk (below_step HB11.out hbd14)
  have BW15 : Aside0 (W14.heap[g]? = some (.cells #[.int .i64 nd, .int .i64 lf, .int .i64 tk, .slice A seen.length c, .int .i64 ag] 78 (0, 0))) := ⟨(hbd14.block _ (blk_lt BW11.out)).trans BW11.out⟩
  have Bb15 : Aside0 (W14.heap[gb1]? = some (.cells #[.int .i64 0, .slice none 0 0, .slice none 0 0] 39 (0, 0))) := ⟨(hbd14.block _ (blk_lt Bb11.out)).trans Bb11.out⟩
  have Bk15 : Aside0 (W14.heap[gk1]? = some (.cells #[.int .i64 1, .slice none 0 0, .slice none 0 0] 39 (0, 0))) := ⟨(hbd14.block _ (blk_lt Bk11.out)).trans Bk11.out⟩
  have Bl15 : Aside0 (W14.heap[gl9]? = some (.cells #[.int .i64 l.1, .int .i64 l.2.1, .int .i64 l.2.2.1, .int .i64 l.2.2.2] 24 (0, 0))) := ⟨(hbd14.block _ (blk_lt Bl11.out)).trans Bl11.out⟩
  have CRW15 := Aside0.mk (RWAt.below CRW11.out hbd14)
  clear hbd14
  clear hf0 hf1 hf2 hfa
  have zW16_0 : W14.cell? ⟨g, 0, none⟩ = some (.int .i64 nd) := (blk_cell BW15.out 0).trans rfl
  have zW16_1 : W14.cell? ⟨g, 1, none⟩ = some (.int .i64 lf) := (blk_cell BW15.out 1).trans rfl
  have zW16_2 : W14.cell? ⟨g, 2, none⟩ = some (.int .i64 tk) := (blk_cell BW15.out 2).trans rfl
  have zW16_3 : W14.cell? ⟨g, 3, none⟩ = some (.slice A seen.length c) := (blk_cell BW15.out 3).trans rfl
  have zW16_4 : W14.cell? ⟨g, 4, none⟩ = some (.int .i64 ag) := (blk_cell BW15.out 4).trans rfl
  have zb16_0 : W14.cell? ⟨gb1, 0, none⟩ = some (.int .i64 0) := (blk_cell Bb15.out 0).trans rfl
  have zb16_1 : W14.cell? ⟨gb1, 1, none⟩ = some (.slice none 0 0) := (blk_cell Bb15.out 1).trans rfl
  have zb16_2 : W14.cell? ⟨gb1, 2, none⟩ = some (.slice none 0 0) := (blk_cell Bb15.out 2).trans rfl
  have zk16_0 : W14.cell? ⟨gk1, 0, none⟩ = some (.int .i64 1) := (blk_cell Bk15.out 0).trans rfl
  have zk16_1 : W14.cell? ⟨gk1, 1, none⟩ = some (.slice none 0 0) := (blk_cell Bk15.out 1).trans rfl
  have zk16_2 : W14.cell? ⟨gk1, 2, none⟩ = some (.slice none 0 0) := (blk_cell Bk15.out 2).trans rfl
  have zl16_0 : W14.cell? ⟨gl9, 0, none⟩ = some (.int .i64 l.1) := (blk_cell Bl15.out 0).trans rfl
  have zl16_1 : W14.cell? ⟨gl9, 1, none⟩ = some (.int .i64 l.2.1) := (blk_cell Bl15.out 1).trans rfl
  have zl16_2 : W14.cell? ⟨gl9, 2, none⟩ = some (.int .i64 l.2.2.1) := (blk_cell Bl15.out 2).trans rfl
  have zl16_3 : W14.cell? ⟨gl9, 3, none⟩ = some (.int .i64 l.2.2.2) := (blk_cell Bl15.out 3).trans rfl
  go_upto_region 14 with fail
  obtain ⟨e1, he1⟩ : ∃ x, x = (1 : Int) := ⟨_, rfl⟩
  have kd0 : ∀ o, (W14.alloc o).cell? ⟨gb1, 0, none⟩ = some (.int .i64 0) := fun o => (blk_cell (blk_alloc Bb15.out o) 0).trans rfl
  have fd0 : ∀ o, (W14.alloc o).frozen? ⟨gb1, 0, none⟩ = false := fun o => blk_frozen (blk_alloc Bb15.out o) 0
  have kd1 : ∀ o, (W14.alloc o).cell? ⟨gb1, 1, none⟩ = some (.slice none 0 0) := fun o => (blk_cell (blk_alloc Bb15.out o) 1).trans rfl
  have fd1 : ∀ o, (W14.alloc o).frozen? ⟨gb1, 1, none⟩ = false := fun o => blk_frozen (blk_alloc Bb15.out o) 1
  have kd2 : ∀ o, (W14.alloc o).cell? ⟨gb1, 2, none⟩ = some (.slice none 0 0) := fun o => (blk_cell (blk_alloc Bb15.out o) 2).trans rfl
  have fd2 : ∀ o, (W14.alloc o).frozen? ⟨gb1, 2, none⟩ = false := fun o => blk_frozen (blk_alloc Bb15.out o) 2
  refine start_ (n := 13) (S := fun w' => w'.cell? ⟨g, 0, none⟩ = some (.int .i64 nd) ∧ w'.cell? ⟨g, 1, none⟩ = some (.int .i64 lf) ∧ w'.cell? ⟨g, 2, none⟩ = some (.int .i64 tk) ∧ w'.cell? ⟨g, 3, none⟩ = some (.slice A seen.length c) ∧ w'.cell? ⟨g, 4, none⟩ = some (.int .i64 ag)) (ds := [12]) #[false, false, false, false, false, false, false, false, false, false, false, false, false] (by kernel_rfl) rfl rfl ⟨zW16_0, zW16_1, zW16_2, zW16_3, zW16_4⟩ (fun hHeld => ?_)
  refine pure_ (i := 0) (N := some 60) (v := ?_) (a' := ?_) #[true, false, false, false, false, false, false, false, false, false, false, false, false] rfl rfl (by kernel_rfl) (fun _ _ _ h => h) (Or.inl ⟨by rfl, ?_⟩) ?_ ?_
  rotate_left
  · intro w'
    go_simp
    with_reducible rfl
  rotate_left
  · simp only [Act.put, List.setIfInBounds_toArray, List.set_cons_zero, List.set_cons_succ, i64_w, i32_w]
    rfl
  refine pure_ (i := 1) (N := some 61) (v := ?_) (a' := ?_) #[true, true, false, false, false, false, false, false, false, false, false, false, false] rfl rfl (by kernel_rfl) (fun _ _ _ h => h) (Or.inl ⟨by rfl, ?_⟩) ?_ ?_
  rotate_left
  · intro w'
    go_simp
    with_reducible rfl
  rotate_left
  · simp only [Act.put, List.setIfInBounds_toArray, List.set_cons_zero, List.set_cons_succ, i64_w, i32_w]
    rfl
  refine pure_ (i := 2) (N := some 62) (v := ?_) (a' := ?_) #[true, true, true, false, false, false, false, false, false, false, false, false, false] rfl rfl (by kernel_rfl) (fun _ _ _ h => h) (Or.inl ⟨by rfl, ?_⟩) ?_ ?_
  rotate_left
  · intro w'
    go_simp
    with_reducible rfl
  rotate_left
  · simp only [Act.put, List.setIfInBounds_toArray, List.set_cons_zero, List.set_cons_succ, i64_w, i32_w]
    rfl
  refine pure_ (i := 3) (N := some 63) (v := ?_) (a' := ?_) #[true, true, true, true, false, false, false, false, false, false, false, false, false] rfl rfl (by kernel_rfl) (fun _ _ _ h => h) (Or.inl ⟨by rfl, ?_⟩) ?_ ?_
  rotate_left
  · intro w'
    go_simp
    with_reducible rfl
  rotate_left
  · simp only [Act.put, List.setIfInBounds_toArray, List.set_cons_zero, List.set_cons_succ, i64_w, i32_w]
    rfl
  refine pure_ (i := 4) (N := some 64) (v := ?_) (a' := ?_) #[true, true, true, true, true, false, false, false, false, false, false, false, false] rfl rfl (by kernel_rfl) (fun _ _ _ h => h) (Or.inl ⟨by rfl, ?_⟩) ?_ ?_
  rotate_left
  · intro w'
    go_simp
    with_reducible rfl
  rotate_left
  · simp only [Act.put, List.setIfInBounds_toArray, List.set_cons_zero, List.set_cons_succ, i64_w, i32_w]
    rfl
  refine pure_ (i := 6) (N := some 66) (v := ?_) (a' := ?_) #[true, true, true, true, true, false, true, false, false, false, false, false, false] rfl rfl (by kernel_rfl) (fun _ _ _ h => h) (Or.inl ⟨by rfl, ?_⟩) ?_ ?_
  rotate_left
  · intro w'
    go_simp
    with_reducible rfl
  rotate_left
  · simp only [Act.put, List.setIfInBounds_toArray, List.set_cons_zero, List.set_cons_succ, i64_w, i32_w]
    rfl
  refine pure_ (i := 7) (N := some 67) (v := ?_) (a' := ?_) #[true, true, true, true, true, false, true, true, false, false, false, false, false] rfl rfl (by kernel_rfl) (fun _ _ _ h => h) (Or.inl ⟨by rfl, ?_⟩) ?_ ?_
  rotate_left
  · intro w'
    go_simp
    with_reducible rfl
  rotate_left
  · simp only [Act.put, List.setIfInBounds_toArray, List.set_cons_zero, List.set_cons_succ, i64_w, i32_w]
    rfl
  refine pure_ (i := 8) (N := some 68) (v := ?_) (a' := ?_) #[true, true, true, true, true, false, true, true, true, false, false, false, false] rfl rfl (by kernel_rfl) (fun _ _ _ h => h) (Or.inl ⟨by rfl, ?_⟩) ?_ ?_
  rotate_left
  · intro w'
    go_simp
    with_reducible rfl
  rotate_left
  · simp only [Act.put, List.setIfInBounds_toArray, List.set_cons_zero, List.set_cons_succ, i64_w, i32_w]
    rfl
  refine take_ (i := 5) (N := some 65) (v := ?_) (a' := ?_) #[true, true, true, true, true, true, true, true, true, false, false, false, false] rfl rfl (by kernel_rfl) (fun _ _ _ h => h) (Or.inl ⟨by rfl, ?_⟩) hHeld ?_ ?_
  rotate_left
  · rintro w' ⟨s0, s1, s2, s3, s4⟩
    go_simp
    with_reducible rfl
  rotate_left
  · simp only [Act.put, List.setIfInBounds_toArray, List.set_cons_zero, List.set_cons_succ, i64_w, i32_w]
    rfl
  refine take_ (i := 9) (N := some 69) (v := ?_) (a' := ?_) #[true, true, true, true, true, true, true, true, true, true, false, false, false] rfl rfl (by kernel_rfl) (fun _ _ _ h => h) (Or.inl ⟨by rfl, ?_⟩) hHeld ?_ ?_
  rotate_left
  · rintro w' ⟨s0, s1, s2, s3, s4⟩
    go_simp
    with_reducible rfl
  rotate_left
  · simp only [Act.put, List.setIfInBounds_toArray, List.set_cons_zero, List.set_cons_succ, i64_w, i32_w]
    rfl
  refine one_ (i := 10) (N := some 70) #[true, true, true, true, true, true, true, true, true, true, true, false, false] rfl rfl (by kernel_rfl) (by decide) (fun K hK => ?_)
  refine value_ (w1 := ?_) (v := ?_) (by rfl) rfl ?_ ?_
  rotate_left 2
  · go_simp
    constructor
    · rfl
    · rfl
  refine hK.out _ _ ⟨pw_cell_below (below_alloc (below_drew (Below.refl _ _)) _) zW16_0, pw_cell_below (below_alloc (below_drew (Below.refl _ _)) _) zW16_1, pw_cell_below (below_alloc (below_drew (Below.refl _ _)) _) zW16_2, pw_cell_below (below_alloc (below_drew (Below.refl _ _)) _) zW16_3, pw_cell_below (below_alloc (below_drew (Below.refl _ _)) _) zW16_4⟩ (fun hHeld => ?_)
  clear hK K
  refine norm_ (a' := ?_) ?_ ?_
  rotate_left
  · show Act.put _ (some 70) _ = _
    simp only [Act.put, List.setIfInBounds_toArray, List.set_cons_zero, List.set_cons_succ, i64_w, i32_w]
    rfl
  refine pure_ (i := 11) (N := some 71) (v := ?_) (a' := ?_) #[true, true, true, true, true, true, true, true, true, true, true, true, false] rfl rfl (by kernel_rfl) (fun _ _ _ h => h) (Or.inl ⟨by rfl, ?_⟩) ?_ ?_
  rotate_left
  · intro w'
    go_simp
    with_reducible rfl
  rotate_left
  · simp only [Act.put, List.setIfInBounds_toArray, List.set_cons_zero, List.set_cons_succ, i64_w, i32_w]
    rfl
  refine last_ (i := 12) (N := none) #[true, true, true, true, true, true, true, true, true, true, true, true, true] rfl rfl (by kernel_rfl) (by decide) (fun K hK => ?_)
  refine skip_ (w1 := ?_) (by rfl) rfl ?_ ?_
  rotate_left
  · go_simp
    rfl
  refine hK.out _ _ ?_
  clear hK K
  refine done_ (by kernel_rfl) ?_
  clear zW16_0 zW16_1 zW16_2 zW16_3 zW16_4 zb16_0 zb16_1 zb16_2 zk16_0 zk16_1 zk16_2 zl16_0 zl16_1 zl16_2 zl16_3
  clear kd0 fd0 kd1 fd1 kd2 fd2
  obtain ⟨W17, hw17⟩ : ∃ x : World, x = W14.alloc (.cells #[.int .i64 1, .int .i64 nd, .int .i64 lf, .int .i64 0] 3) := ⟨_, rfl⟩
  have hbs17 : Below W14.heap.size W14 W17 := by rw [hw17]; repeat (first | exact Below.refl _ _ | refine below_alloc ?_ _ | refine below_drew ?_)
  obtain ⟨gn17, hgn17⟩ : ∃ x, x = W14.heap.size := ⟨_, rfl⟩
  have GSn17 : Aside0 (W.heap.size ≤ gn17) := ⟨by rw [hgn17]; have := HB15.out.size; omega⟩
  have Bn17 : Aside0 (W17.heap[gn17]? = some (.cells #[.int .i64 1, .int .i64 nd, .int .i64 lf, .int .i64 0] 3 (0, 0))) := ⟨by rw [hw17, hgn17]; exact blk_new _ _⟩
  rw [← hw17]
  rw [← hgn17]
  clear hw17 hgn17
  have HB18 := Aside0.mk (below_step HB15.out hbs17)
  have BW18 : Aside0 (W17.heap[g]? = some (.cells #[.int .i64 nd, .int .i64 lf, .int .i64 tk, .slice A seen.length c, .int .i64 ag] 78 (0, 0))) := ⟨(hbs17.block _ (blk_lt BW15.out)).trans BW15.out⟩
  have Bb18 : Aside0 (W17.heap[gb1]? = some (.cells #[.int .i64 0, .slice none 0 0, .slice none 0 0] 39 (0, 0))) := ⟨(hbs17.block _ (blk_lt Bb15.out)).trans Bb15.out⟩
  have Bk18 : Aside0 (W17.heap[gk1]? = some (.cells #[.int .i64 1, .slice none 0 0, .slice none 0 0] 39 (0, 0))) := ⟨(hbs17.block _ (blk_lt Bk15.out)).trans Bk15.out⟩
  have Bl18 : Aside0 (W17.heap[gl9]? = some (.cells #[.int .i64 l.1, .int .i64 l.2.1, .int .i64 l.2.2.1, .int .i64 l.2.2.2] 24 (0, 0))) := ⟨(hbs17.block _ (blk_lt Bl15.out)).trans Bl15.out⟩
  have CRW18 := Aside0.mk (RWAt.below CRW15.out hbs17)
  clear hbs17
  obtain ⟨W19, hw19⟩ : ∃ x : World, x = (((W17.setCell ⟨gb1, 0, none⟩ (.int .i64 2)).setCell ⟨gb1, 1, none⟩ (.slice B v.length d)).setCell ⟨gb1, 2, none⟩ (.slice (some ⟨gn17, 0, none⟩) 4 4)) := ⟨_, rfl⟩
  have HB19 : Aside0 (Below W.heap.size W W19) := ⟨by rw [hw19]; exact (below_set (below_set (below_set HB18.out GSb1.out) GSb1.out) GSb1.out)⟩
  have hgr19 : W17.grownBy W19 (some gb1) := by rw [hw19]; exact ((grown_set _ _ _ _).trans (grown_set _ _ _ _)).trans (grown_set _ _ _ _)
  have Bb19 : Aside0 (W19.heap[gb1]? = some (.cells #[.int .i64 2, .slice B v.length d, .slice (some ⟨gn17, 0, none⟩) 4 4] 39 (0, 0))) := ⟨by rw [hw19]; refine blk_put (cs := #[.int .i64 2, .slice B v.length d, .slice none 0 0]) ?_ 2 _ rfl; refine blk_put (cs := #[.int .i64 2, .slice none 0 0, .slice none 0 0]) ?_ 1 _ rfl; refine blk_put (cs := #[.int .i64 0, .slice none 0 0, .slice none 0 0]) ?_ 0 _ rfl; exact Bb18.out⟩
  have BW19 : Aside0 (W19.heap[g]? = some (.cells #[.int .i64 nd, .int .i64 lf, .int .i64 tk, .slice A seen.length c, .int .i64 ag] 78 (0, 0))) := ⟨blk_grown BW18.out hgr19 (fun e => (blk_ne BW18.out Bb18.out (by decide)) (by injection e))⟩
  have Bl19 : Aside0 (W19.heap[gl9]? = some (.cells #[.int .i64 l.1, .int .i64 l.2.1, .int .i64 l.2.2.1, .int .i64 l.2.2.2] 24 (0, 0))) := ⟨blk_grown Bl18.out hgr19 (fun e => (blk_ne Bl18.out Bb18.out (by decide)) (by injection e))⟩
  have Bn19 : Aside0 (W19.heap[gn17]? = some (.cells #[.int .i64 1, .int .i64 nd, .int .i64 lf, .int .i64 0] 3 (0, 0))) := ⟨blk_grown Bn17.out hgr19 (fun e => (blk_ne Bn17.out Bb18.out (by decide)) (by injection e))⟩
  rw [← hw19]
  clear hw19 hgr19
  obtain ⟨W20, hw20⟩ : ∃ x : World, x = W19.drew := ⟨_, rfl⟩
  have hbd20 : Below W19.heap.size W19 W20 := by rw [hw20]; exact below_drew (Below.refl _ _)
  rw [← hw20]
  clear hw20
  have HB21 := Aside0.mk (below_step HB19.out hbd20)
  have BW21 : Aside0 (W20.heap[g]? = some (.cells #[.int .i64 nd, .int .i64 lf, .int .i64 tk, .slice A seen.length c, .int .i64 ag] 78 (0, 0))) := ⟨(hbd20.block _ (blk_lt BW19.out)).trans BW19.out⟩
  have Bb21 : Aside0 (W20.heap[gb1]? = some (.cells #[.int .i64 2, .slice B v.length d, .slice (some ⟨gn17, 0, none⟩) 4 4] 39 (0, 0))) := ⟨(hbd20.block _ (blk_lt Bb19.out)).trans Bb19.out⟩
  have Bl21 : Aside0 (W20.heap[gl9]? = some (.cells #[.int .i64 l.1, .int .i64 l.2.1, .int .i64 l.2.2.1, .int .i64 l.2.2.2] 24 (0, 0))) := ⟨(hbd20.block _ (blk_lt Bl19.out)).trans Bl19.out⟩
  have Bn21 : Aside0 (W20.heap[gn17]? = some (.cells #[.int .i64 1, .int .i64 nd, .int .i64 lf, .int .i64 0] 3 (0, 0))) := ⟨(hbd20.block _ (blk_lt Bn19.out)).trans Bn19.out⟩
  clear hbd20
  go_wp2_with fail
  refine bodyPost_ret (results_cell_row rfl _ _ gb1 39 #[.int .i64 2, .slice B v.length d, .slice (some ⟨gn17, 0, none⟩) 4 4] (0, 0) _ rfl Bb21.out Try.underlying39 rfl (by kernel_rfl)) rfl ?_
  exact ⟨_, _, _, _, rfl, Kd.C_below HC0.out HB21.out, hvd, C_blk [1, nd, lf, 0] Bn21.out rfl (by simp), (Nat.le_refl _), HB21.out⟩
end Go.Proofs.Ytimfbdiiaakhiaa.MAll

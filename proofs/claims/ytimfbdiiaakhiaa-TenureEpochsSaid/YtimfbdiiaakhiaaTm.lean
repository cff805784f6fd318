/- Both watches' Saw, with the blocks that their rows may lie in. -/
import Derived.Test.YtimfbdiiaakhiaaTk
set_option linter.unusedVariables false
set_option linter.unusedSimpArgs false
namespace Go.Proofs.Ytimfbdiiaakhiaa.MAll
open Go.RowKit Go.Proofs.YtimfbdiiaakhiaaW.PrintWords Go.Proofs.YtimfbdiiaakhiaaW.PrintLast Go.Proofs.YtimfbdiiaakhiaaW.PrintMore
attribute [local go_sem ↓] Go.wp_at_zero Go.wp_at_succ
def WAtO (ok : Nat → Prop) (W : World) (g : Nat) (nd lf tk : Int) (sw : Bool) (v : List Int) (ag : Int) : Prop :=
  ∃ A c, W.heap[g]? = some (.cells (watC nd lf tk sw A v.length c ag) 68 (0, 0)) ∧ (Kd.int .i64).R 3 W (g + 1) ok (.slice A v.length c) v ∧ v.length < 17592186044416
theorem WAtO.any {ok : Nat → Prop} {W : World} {g : Nat} {nd lf tk : Int} {sw : Bool} {v : List Int} {ag : Int} (h : WAtO ok W g nd lf tk sw v ag) : WAt W g nd lf tk sw v ag := by
  obtain ⟨A, c, h1, h2, h3⟩ := h
  exact ⟨A, c, h1, Kd.R_mono h2 (fun _ _ => trivial), h3⟩
theorem WAt.lim {W : World} {g : Nat} {nd lf tk : Int} {sw : Bool} {v : List Int} {ag : Int} (h : WAt W g nd lf tk sw v ag) (ok : Nat → Prop) (hok : ∀ k, k < W.heap.size → ok k) : WAtO ok W g nd lf tk sw v ag := by
  obtain ⟨A, c, h1, h2, h3⟩ := h
  exact ⟨A, c, h1, Kd.R_mono (Kd.R_bound h2) (fun k hk => hok k hk.2.2.1), h3⟩
theorem WAtO.below {ok : Nat → Prop} {W W1 : World} {g : Nat} {nd lf tk : Int} {sw : Bool} {v : List Int} {ag : Int} (h : WAtO ok W g nd lf tk sw v ag) (hb : Below W.heap.size W W1) : WAtO ok W1 g nd lf tk sw v ag := by
  obtain ⟨A, c, h1, h2, h3⟩ := h
  exact ⟨A, c, blk_below h1 hb, Kd.R_below h2 hb, h3⟩
theorem WAtO.frt {ok : Nat → Prop} {W W1 : World} {g g' : Nat} {nd lf tk : Int} {sw : Bool} {v : List Int} {ag : Int} (h : WAtO ok W g nd lf tk sw v ag) (hf : FRT g' W W1) : WAtO ok W1 g nd lf tk sw v ag := by
  obtain ⟨A, c, h1, h2, h3⟩ := h
  refine ⟨A, c, (hf.block g _ 68 h1 (by decide) (by decide)).trans h1, ?_, h3⟩
  refine Kd.R_mono (Kd.R_move (Kd.R_bound h2) (fun k hk => ?_)) (fun _ hk => hk.1)
  obtain ⟨_, _, _, q, hq, cells, hc⟩ := hk
  have hq3 : q = 3 := by simpa [Kd.int, Kd.scalar] using hq
  subst hq3
  exact hf.block k cells 3 hc (by decide) (by decide)
theorem R_frt {ok : Nat → Prop} {W W1 : World} {g' b : Nat} {u : Value} {xs : List Int} (h2 : (Kd.int .i64).R 3 W b ok u xs) (hf : FRT g' W W1) : (Kd.int .i64).R 3 W1 b ok u xs := by
  refine Kd.R_mono (Kd.R_move (Kd.R_bound h2) (fun k hk => ?_)) (fun _ hk => hk.1)
  obtain ⟨_, _, _, q, hq, cells, hc⟩ := hk
  have hq3 : q = 3 := by simpa [Kd.int, Kd.scalar] using hq
  subst hq3
  exact hf.block k cells 3 hc (by decide) (by decide)
/-- A row of numbers is written that the watch does not lie in. -/
theorem WAtO.put {ok : Nat → Prop} {W W1 : World} {g b bb : Nat} {ok' : Nat → Prop} {u : Value} {xs : List Int} {nd lf tk : Int} {sw : Bool} {v : List Int} {ag : Int} (h : WAtO ok W g nd lf tk sw v ag) (hR : (Kd.int .i64).R 3 W bb ok' u xs) (hu : u.ownBlock = some b) (hok : ∀ k, ok k → k ≠ b) (hg : W.grownBy W1 (some b)) : WAtO ok W1 g nd lf tk sw v ag := by
  obtain ⟨A, c, h1, h2, h3⟩ := h
  refine ⟨A, c, blk_grown h1 hg (by rw [← hu]; exact Kd.R_ne hR h1 (by decide)), Kd.R_grown h2 hg (fun k hk e => hok k hk (by injection e)), h3⟩
def RWAtO (ok : Nat → Prop) (W : World) (g : Nat) (nd lf tk : Int) (seen : List (List Int)) (ag : Int) : Prop :=
  ∃ A c, W.heap[g]? = some (.cells #[.int .i64 nd, .int .i64 lf, .int .i64 tk, .slice A seen.length c, .int .i64 ag] 78 (0, 0)) ∧ kI.R 22 W (g + 1) ok (.slice A seen.length c) seen ∧ okSeen seen
theorem RWAtO.any {ok : Nat → Prop} {W : World} {g : Nat} {nd lf tk : Int} {seen : List (List Int)} {ag : Int} (h : RWAtO ok W g nd lf tk seen ag) : RWAt W g nd lf tk seen ag := by
  obtain ⟨A, c, h1, h2, h3⟩ := h
  exact ⟨A, c, h1, Kd.R_mono h2 (fun _ _ => trivial), h3⟩
theorem RWAt.lim {W : World} {g : Nat} {nd lf tk : Int} {seen : List (List Int)} {ag : Int} (h : RWAt W g nd lf tk seen ag) (ok : Nat → Prop) (hok : ∀ k, k < W.heap.size → ok k) : RWAtO ok W g nd lf tk seen ag := by
  obtain ⟨A, c, h1, h2, h3⟩ := h
  exact ⟨A, c, h1, Kd.R_mono (Kd.R_bound h2) (fun k hk => hok k hk.2.2.1), h3⟩
theorem RWAtO.below {ok : Nat → Prop} {W W1 : World} {g : Nat} {nd lf tk : Int} {seen : List (List Int)} {ag : Int} (h : RWAtO ok W g nd lf tk seen ag) (hb : Below W.heap.size W W1) : RWAtO ok W1 g nd lf tk seen ag := by
  obtain ⟨A, c, h1, h2, h3⟩ := h
  exact ⟨A, c, blk_below h1 hb, Kd.R_below h2 hb, h3⟩
theorem RWAtO.grown {ok : Nat → Prop} {W W1 : World} {g g' : Nat} {nd lf tk : Int} {seen : List (List Int)} {ag : Int} {nd' lf' tk' : Int} {sw' : Bool} {v' : List Int} {ag' : Int} (h : RWAtO ok W g nd lf tk seen ag) (h' : WAt W g' nd' lf' tk' sw' v' ag') (hg : W.grownBy W1 (some g')) : RWAtO ok W1 g nd lf tk seen ag := by
  obtain ⟨A, c, h1, h2, h3⟩ := h
  obtain ⟨A', c', h1', _⟩ := h'
  refine ⟨A, c, blk_grown h1 hg (fun e => blk_ne h1 h1' (by decide) (by injection e)), Kd.R_mono (Kd.R_grown (Kd.R_types h2 h1' (by decide)) hg (fun k hk => by simpa using hk.2)) (fun _ hk => hk.1), h3⟩
theorem RWAtO.put {ok : Nat → Prop} {W W1 : World} {g b bb : Nat} {ok' : Nat → Prop} {u : Value} {xs : List Int} {nd lf tk : Int} {seen : List (List Int)} {ag : Int} (h : RWAtO ok W g nd lf tk seen ag) (hR : (Kd.int .i64).R 3 W bb ok' u xs) (hu : u.ownBlock = some b) (hok : ∀ k, ok k → k ≠ b) (hg : W.grownBy W1 (some b)) : RWAtO ok W1 g nd lf tk seen ag := by
  obtain ⟨A, c, h1, h2, h3⟩ := h
  refine ⟨A, c, blk_grown h1 hg (by rw [← hu]; exact Kd.R_ne hR h1 (by decide)), Kd.R_grown h2 hg (fun k hk e => hok k hk (by injection e)), h3⟩
/-- A row of the call's own has a block, from its base on. -/
theorem row_bi {w : World} {base n c : Nat} {ok : Nat → Prop} {A : Option Addr} {xs : List Int} (h : (Kd.int .i64).R 3 w base ok (.slice A n c) xs) (hn : 0 < n) : ∃ b, A = some ⟨b, 0, none⟩ ∧ base ≤ b ∧ (Value.slice A n c).ownBlock = some b := by
  obtain ⟨_, inner, ho, _⟩ := h
  rcases ho.2 with ⟨hv, hz⟩ | ⟨g, cap', cur, hv, _⟩
  · exfalso; injection hv with _ hv _; omega
  · injection hv with ha _ _
    subst ha
    exact ⟨g, rfl, own_base ho g rfl, rfl⟩
set_option maxHeartbeats 2000000 in
set_option maxRecDepth 100000 in
theorem saw_o (ok : Nat → Prop) (W : World) (hok : ∀ k, W.heap.size ≤ k → ok k) (g : Nat) (nd lf tk : Int) (sw : Bool) (v : List Int) (ag : Int) (h : WAtO ok W g nd lf tk sw v ag) (B : Option Addr) (d : Nat) (x : List Int) (hx : (Kd.int .i64).C W B x.length x) (hd : x.length ≤ d) (hl : x.length < 17592186044416) :
    Calls Try.prog 15 #[.pointer (some ⟨g, 0, none⟩), .slice B x.length d] W fun e w' => e = .returned (.tuple #[]) ∧ WAtO ok w' g nd lf tk true x (sawAge sw v x ag) ∧ W.grownBy w' (some g) := by
  have hu32 := Try.underlying32
  obtain ⟨A, c, hB0, hR0, hvl⟩ := h
  have BW0 := Aside0.mk hB0
  have HR0 := Aside0.mk hR0
  have HOK := Aside0.mk hok
  clear hok
  have hlc := (Kd.R_reads' hR0).2.1
  have hmax := Kd.C_max (Kd.R_reads' hR0).2.2
  clear hB0 hR0
  have HX := Aside0.mk hx
  clear hx
  have zW1_0 : W.cell? ⟨g, 0, none⟩ = some (.int .i64 nd) := (blk_cell BW0.out 0).trans rfl
  have zW1_1 : W.cell? ⟨g, 1, none⟩ = some (.int .i64 lf) := (blk_cell BW0.out 1).trans rfl
  have zW1_2 : W.cell? ⟨g, 2, none⟩ = some (.int .i64 tk) := (blk_cell BW0.out 2).trans rfl
  have zW1_3 : W.cell? ⟨g, 3, none⟩ = some (.bool sw) := (blk_cell BW0.out 3).trans rfl
  have zW1_4 : W.cell? ⟨g, 4, none⟩ = some (.slice A v.length c) := (blk_cell BW0.out 4).trans rfl
  have zW1_5 : W.cell? ⟨g, 5, none⟩ = some (.int .i64 ag) := (blk_cell BW0.out 5).trans rfl
  by_cases hsv : sw = true ∧ v = x
  · obtain ⟨rfl, hv⟩ := hsv
    have HV := Aside0.mk hv
    clear hv
    go_enter Try.func15, Try.ntmps15
    go_wp2_with fail
    refine (same_v true A c v B d x _ (decide_eq_true HV.out) (Kd.R_reads' HR0.out).2.2 hlc HX.out hd (by omega)).mono ?_
    rintro e w2 ⟨rfl, hb2⟩
    clear zW1_0 zW1_1 zW1_2 zW1_3 zW1_4 zW1_5
    have HB3 := Aside0.mk hb2
    have BW3 : Aside0 (w2.heap[g]? = some (.cells #[.int .i64 nd, .int .i64 lf, .int .i64 tk, .bool true, .slice A v.length c, .int .i64 ag] 68 (0, 0))) := ⟨(hb2.block _ (blk_lt BW0.out)).trans BW0.out⟩
    have CX3 := Aside0.mk (Kd.C_below HX.out hb2)
    have RV3 := Aside0.mk (Kd.R_below HR0.out hb2)
    clear hb2
    go_wp2_with fail
    first | go_end0 | ((try simp only [Exit.inBlock, Exit.then]); refine bodyPost_ret (results_none rfl _ _ _) rfl ?_)
    have hv := HV.out
    subst hv
    rw [show sawAge true v v ag = ag from if_pos ⟨rfl, rfl⟩]
    exact ⟨rfl, ⟨A, c, BW3.out, RV3.out, hvl⟩, grown_of_below HB3.out _⟩
  · have HS := Aside0.mk hsv
    clear hsv
    cases sw
    · skip
      have HA := Aside0.mk (show sawAge false v x ag = 0 from if_neg HS.out)
      clear HS
      go_enter Try.func15, Try.ntmps15
      go_wp2_with fail
      refine (clone_v B d x _ HX.out hd hl).mono ?_
      rintro e w9 ⟨B2, d2, rfl, hR2, hb2⟩
      clear zW1_0 zW1_1 zW1_2 zW1_3 zW1_4 zW1_5
      have HB3 := Aside0.mk hb2
      have BW3 : Aside0 (w9.heap[g]? = some (.cells #[.int .i64 nd, .int .i64 lf, .int .i64 tk, .bool false, .slice A v.length c, .int .i64 ag] 68 (0, 0))) := ⟨(hb2.block _ (blk_lt BW0.out)).trans BW0.out⟩
      have CX3 := Aside0.mk (Kd.C_below HX.out hb2)
      have RV3 := Aside0.mk (Kd.R_below HR0.out hb2)
      clear hb2
      have HR2 := Aside0.mk (Kd.R_mono (ok' := ok) (Kd.R_bound hR2) (fun k hk => HOK.out k (Nat.le_trans (Nat.le_refl _) hk.2.1)))
      clear hR2
      have hf3 := blk_frozen BW3.out 3
      have hf4 := blk_frozen BW3.out 4
      have hf5 := blk_frozen BW3.out 5
      have zW4_0 : w9.cell? ⟨g, 0, none⟩ = some (.int .i64 nd) := (blk_cell BW3.out 0).trans rfl
      have zW4_1 : w9.cell? ⟨g, 1, none⟩ = some (.int .i64 lf) := (blk_cell BW3.out 1).trans rfl
      have zW4_2 : w9.cell? ⟨g, 2, none⟩ = some (.int .i64 tk) := (blk_cell BW3.out 2).trans rfl
      have zW4_3 : w9.cell? ⟨g, 3, none⟩ = some (.bool false) := (blk_cell BW3.out 3).trans rfl
      have zW4_4 : w9.cell? ⟨g, 4, none⟩ = some (.slice A v.length c) := (blk_cell BW3.out 4).trans rfl
      have zW4_5 : w9.cell? ⟨g, 5, none⟩ = some (.int .i64 ag) := (blk_cell BW3.out 5).trans rfl
      go_wp2_with fail
      first | go_end0 | ((try simp only [Exit.inBlock, Exit.then]); refine bodyPost_ret (results_none rfl _ _ _) rfl ?_)
      rw [HA.out]
      have hlt : g < w9.heap.size := blk_lt BW3.out
      have hR3 := Kd.R_types HR2.out BW3.out (by decide)
      refine ⟨rfl, ⟨B2, d2, blk_put (cs := #[.int .i64 nd, .int .i64 lf, .int .i64 tk, .bool true, .slice B2 x.length d2, .int .i64 ag]) (blk_put (cs := #[.int .i64 nd, .int .i64 lf, .int .i64 tk, .bool true, .slice A v.length c, .int .i64 ag]) (blk_put (cs := #[.int .i64 nd, .int .i64 lf, .int .i64 tk, .bool false, .slice A v.length c, .int .i64 ag]) BW3.out 3 _ rfl) 4 _ rfl) 5 _ rfl, ?_, hl⟩, ?_⟩
      · refine Kd.R_mono (Kd.R_far (p := ⟨g, 5, none⟩) (Kd.R_far (p := ⟨g, 4, none⟩) (Kd.R_far (p := ⟨g, 3, none⟩) (Kd.R_lower hR3 ?_) (fun _ hk => hk.2) _) (fun _ hk => hk.2) _) (fun _ hk => hk.2) _) (fun _ hk => hk.1)
        first | exact blk_lt BW0.out | exact Nat.le_trans (blk_lt BW0.out) (by first | exact HB1.out.size | exact HB2.out.size | exact HB3.out.size)
      · exact (((grown_of_below HB3.out (some g)).trans (grown_set _ _ _ _)).trans (grown_set _ _ _ _)).trans (grown_set _ _ _ _)
    · skip
      have HA := Aside0.mk (show sawAge true v x ag = 0 from if_neg HS.out)
      have hvx := Aside0.mk (show decide (v = x) = false from decide_eq_false (fun e => HS.out ⟨rfl, e⟩))
      clear HS
      go_enter Try.func15, Try.ntmps15
      go_wp2_with fail
      refine (same_v false A c v B d x _ hvx.out (Kd.R_reads' HR0.out).2.2 hlc HX.out hd (by omega)).mono ?_
      rintro e w2 ⟨rfl, hb2⟩
      clear zW1_0 zW1_1 zW1_2 zW1_3 zW1_4 zW1_5
      have HB3 := Aside0.mk hb2
      have BW3 : Aside0 (w2.heap[g]? = some (.cells #[.int .i64 nd, .int .i64 lf, .int .i64 tk, .bool true, .slice A v.length c, .int .i64 ag] 68 (0, 0))) := ⟨(hb2.block _ (blk_lt BW0.out)).trans BW0.out⟩
      have CX3 := Aside0.mk (Kd.C_below HX.out hb2)
      have RV3 := Aside0.mk (Kd.R_below HR0.out hb2)
      clear hb2
      go_wp2_with fail
      refine (clone_v B d x _ CX3.out hd hl).mono ?_
      rintro e w9 ⟨B2, d2, rfl, hR2, hb4⟩
      have HB5 := Aside0.mk (below_step HB3.out hb4)
      have BW5 : Aside0 (w9.heap[g]? = some (.cells #[.int .i64 nd, .int .i64 lf, .int .i64 tk, .bool true, .slice A v.length c, .int .i64 ag] 68 (0, 0))) := ⟨(hb4.block _ (blk_lt BW3.out)).trans BW3.out⟩
      have CX5 := Aside0.mk (Kd.C_below CX3.out hb4)
      have RV5 := Aside0.mk (Kd.R_below RV3.out hb4)
      clear hb4
      have HR2 := Aside0.mk (Kd.R_mono (ok' := ok) (Kd.R_bound hR2) (fun k hk => HOK.out k (Nat.le_trans HB3.out.size hk.2.1)))
      clear hR2
      have hf3 := blk_frozen BW5.out 3
      have hf4 := blk_frozen BW5.out 4
      have hf5 := blk_frozen BW5.out 5
      have zW6_0 : w9.cell? ⟨g, 0, none⟩ = some (.int .i64 nd) := (blk_cell BW5.out 0).trans rfl
      have zW6_1 : w9.cell? ⟨g, 1, none⟩ = some (.int .i64 lf) := (blk_cell BW5.out 1).trans rfl
      have zW6_2 : w9.cell? ⟨g, 2, none⟩ = some (.int .i64 tk) := (blk_cell BW5.out 2).trans rfl
      have zW6_3 : w9.cell? ⟨g, 3, none⟩ = some (.bool true) := (blk_cell BW5.out 3).trans rfl
      have zW6_4 : w9.cell? ⟨g, 4, none⟩ = some (.slice A v.length c) := (blk_cell BW5.out 4).trans rfl
      have zW6_5 : w9.cell? ⟨g, 5, none⟩ = some (.int .i64 ag) := (blk_cell BW5.out 5).trans rfl
      go_wp2_with fail
      first | go_end0 | ((try simp only [Exit.inBlock, Exit.then]); refine bodyPost_ret (results_none rfl _ _ _) rfl ?_)
      rw [HA.out]
      have hlt : g < w9.heap.size := blk_lt BW5.out
      have hR3 := Kd.R_types HR2.out BW5.out (by decide)
      refine ⟨rfl, ⟨B2, d2, blk_put (cs := #[.int .i64 nd, .int .i64 lf, .int .i64 tk, .bool true, .slice B2 x.length d2, .int .i64 ag]) (blk_put (cs := #[.int .i64 nd, .int .i64 lf, .int .i64 tk, .bool true, .slice A v.length c, .int .i64 ag]) (blk_put (cs := #[.int .i64 nd, .int .i64 lf, .int .i64 tk, .bool true, .slice A v.length c, .int .i64 ag]) BW5.out 3 _ rfl) 4 _ rfl) 5 _ rfl, ?_, hl⟩, ?_⟩
      · refine Kd.R_mono (Kd.R_far (p := ⟨g, 5, none⟩) (Kd.R_far (p := ⟨g, 4, none⟩) (Kd.R_far (p := ⟨g, 3, none⟩) (Kd.R_lower hR3 ?_) (fun _ hk => hk.2) _) (fun _ hk => hk.2) _) (fun _ hk => hk.2) _) (fun _ hk => hk.1)
        first | exact blk_lt BW0.out | exact Nat.le_trans (blk_lt BW0.out) (by first | exact HB1.out.size | exact HB2.out.size | exact HB3.out.size)
      · exact (((grown_of_below HB5.out (some g)).trans (grown_set _ _ _ _)).trans (grown_set _ _ _ _)).trans (grown_set _ _ _ _)
set_option maxHeartbeats 8000000 in
set_option maxRecDepth 100000 in
theorem rsawo_first (ok : Nat → Prop) (W : World) (hokk : ∀ k, W.heap.size ≤ k → ok k) (g : Nat) (nd lf tk : Int) (seen : List (List Int)) (ag : Int) (h : RWAtO ok W g nd lf tk seen ag) (A0 : Option Addr) (c0 : Nat) (v : List Int) (hv : (Kd.int .i64).C W A0 v.length v) (hc : v.length ≤ c0) (hvl : v.length < 17592186044416) (hs : seen = []) : Calls Try.prog 31 #[.pointer (some ⟨g, 0, none⟩), .slice A0 v.length c0] W fun e w' => e = .returned (.tuple #[]) ∧ RWAtO ok w' g nd lf tk (seen ++ [v]) 0 ∧ FRT g W w' := by
  have hu71 := Try.underlying71
  have hu78 := Try.underlying78
  have hu42 := Try.underlying42
  have hu22 := Try.underlying22
  have HOKK := Aside0.mk hokk
  clear hokk
  have hgl := h.any.lt
  obtain ⟨A, c, hB0, hR0, hok⟩ := h
  have BW0 := Aside0.mk hB0
  have HR0 := Aside0.mk hR0
  have HOK := Aside0.mk hok
  have HV := Aside0.mk hv
  have hn0 : seen.length = 0 := by rw [hs]; rfl
  have hsl : seen.length < 100000 := by omega
  have d0 : decide (0 < seen.length) = false := decide_eq_false (by omega)
  have d1 : decide (0 < (seen.length : Int)) = false := decide_eq_false (by omega)
  clear hs hB0 hR0 hok hv hn0
  have zW1_0 : W.cell? ⟨g, 0, none⟩ = some (.int .i64 nd) := (blk_cell BW0.out 0).trans rfl
  have zW1_1 : W.cell? ⟨g, 1, none⟩ = some (.int .i64 lf) := (blk_cell BW0.out 1).trans rfl
  have zW1_2 : W.cell? ⟨g, 2, none⟩ = some (.int .i64 tk) := (blk_cell BW0.out 2).trans rfl
  have zW1_3 : W.cell? ⟨g, 3, none⟩ = some (.slice A seen.length c) := (blk_cell BW0.out 3).trans rfl
  have zW1_4 : W.cell? ⟨g, 4, none⟩ = some (.int .i64 ag) := (blk_cell BW0.out 4).trans rfl
  go_enter Try.func31, Try.ntmps31
  clear zW1_0 zW1_1 zW1_2 zW1_3 zW1_4
  have zW2_0 : W.cell? ⟨g, 0, none⟩ = some (.int .i64 nd) := (blk_cell BW0.out 0).trans rfl
  have zW2_1 : W.cell? ⟨g, 1, none⟩ = some (.int .i64 lf) := (blk_cell BW0.out 1).trans rfl
  have zW2_2 : W.cell? ⟨g, 2, none⟩ = some (.int .i64 tk) := (blk_cell BW0.out 2).trans rfl
  have zW2_3 : W.cell? ⟨g, 3, none⟩ = some (.slice A seen.length c) := (blk_cell BW0.out 3).trans rfl
  have zW2_4 : W.cell? ⟨g, 4, none⟩ = some (.int .i64 ag) := (blk_cell BW0.out 4).trans rfl
  have HSZ := Aside0.mk (show g + 1 ≤ W.heap.size from blk_lt BW0.out)
  have HFR : Aside0 (∀ k, W.heap.size ≤ k → ok k) := ⟨fun k hk => HOKK.out k (Nat.le_trans (Nat.le_refl _) hk)⟩
  go_upto_region 2 with fail
  refine start_ (n := 13) (S := fun w' => w'.cell? ⟨g, 0, none⟩ = some (.int .i64 nd) ∧ w'.cell? ⟨g, 1, none⟩ = some (.int .i64 lf) ∧ w'.cell? ⟨g, 2, none⟩ = some (.int .i64 tk) ∧ w'.cell? ⟨g, 3, none⟩ = some (.slice A seen.length c) ∧ w'.cell? ⟨g, 4, none⟩ = some (.int .i64 ag)) (ds := [12]) #[false, false, false, false, false, false, false, false, false, false, false, false, false] (by kernel_rfl) rfl rfl ⟨zW2_0, zW2_1, zW2_2, zW2_3, zW2_4⟩ (fun hHeld => ?_)
  refine pure_ (i := 0) (N := some 24) (v := ?_) (a' := ?_) #[true, false, false, false, false, false, false, false, false, false, false, false, false] rfl rfl (by kernel_rfl) (fun _ _ _ h => h) (Or.inl ⟨by rfl, ?_⟩) ?_ ?_
  rotate_left
  · intro w'
    go_simp
    with_reducible rfl
  rotate_left
  · simp only [Act.put, List.setIfInBounds_toArray, List.set_cons_zero, List.set_cons_succ, i64_w, i32_w]
    rfl
  refine pure_ (i := 1) (N := some 25) (v := ?_) (a' := ?_) #[true, true, false, false, false, false, false, false, false, false, false, false, false] rfl rfl (by kernel_rfl) (fun _ _ _ h => h) (Or.inl ⟨by rfl, ?_⟩) ?_ ?_
  rotate_left
  · intro w'
    go_simp
    with_reducible rfl
  rotate_left
  · simp only [Act.put, List.setIfInBounds_toArray, List.set_cons_zero, List.set_cons_succ, i64_w, i32_w]
    rfl
  refine pure_ (i := 2) (N := some 26) (v := ?_) (a' := ?_) #[true, true, true, false, false, false, false, false, false, false, false, false, false] rfl rfl (by kernel_rfl) (fun _ _ _ h => h) (Or.inl ⟨by rfl, ?_⟩) ?_ ?_
  rotate_left
  · intro w'
    go_simp
    with_reducible rfl
  rotate_left
  · simp only [Act.put, List.setIfInBounds_toArray, List.set_cons_zero, List.set_cons_succ, i64_w, i32_w]
    rfl
  refine pure_ (i := 3) (N := some 27) (v := ?_) (a' := ?_) #[true, true, true, true, false, false, false, false, false, false, false, false, false] rfl rfl (by kernel_rfl) (fun _ _ _ h => h) (Or.inl ⟨by rfl, ?_⟩) ?_ ?_
  rotate_left
  · intro w'
    go_simp
    with_reducible rfl
  rotate_left
  · simp only [Act.put, List.setIfInBounds_toArray, List.set_cons_zero, List.set_cons_succ, i64_w, i32_w]
    rfl
  refine pure_ (i := 6) (N := some 30) (v := ?_) (a' := ?_) #[true, true, true, true, false, false, true, false, false, false, false, false, false] rfl rfl (by kernel_rfl) (fun _ _ _ h => h) (Or.inl ⟨by rfl, ?_⟩) ?_ ?_
  rotate_left
  · intro w'
    go_simp
    with_reducible rfl
  rotate_left
  · simp only [Act.put, List.setIfInBounds_toArray, List.set_cons_zero, List.set_cons_succ, i64_w, i32_w]
    rfl
  refine take_ (i := 4) (N := some 28) (v := ?_) (a' := ?_) #[true, true, true, true, true, false, true, false, false, false, false, false, false] rfl rfl (by kernel_rfl) (fun _ _ _ h => h) (Or.inl ⟨by rfl, ?_⟩) hHeld ?_ ?_
  rotate_left
  · rintro w' ⟨s0, s1, s2, s3, s4⟩
    go_simp
    with_reducible rfl
  rotate_left
  · simp only [Act.put, List.setIfInBounds_toArray, List.set_cons_zero, List.set_cons_succ, i64_w, i32_w]
    rfl
  refine one_ (i := 5) (N := some 29) #[true, true, true, true, true, true, true, false, false, false, false, false, false] rfl rfl (by kernel_rfl) (by decide) (fun K hK => ?_)
  refine value_ (w1 := ?_) (v := ?_) (by rfl) rfl ?_ ?_
  rotate_left 2
  · go_simp
    constructor
    · rfl
    · rfl
  refine hK.out _ _ ⟨pw_cell_below (below_alloc (below_drew (Below.refl _ _)) _) zW2_0, pw_cell_below (below_alloc (below_drew (Below.refl _ _)) _) zW2_1, pw_cell_below (below_alloc (below_drew (Below.refl _ _)) _) zW2_2, pw_cell_below (below_alloc (below_drew (Below.refl _ _)) _) zW2_3, pw_cell_below (below_alloc (below_drew (Below.refl _ _)) _) zW2_4⟩ (fun hHeld => ?_)
  clear hK K
  refine norm_ (a' := ?_) ?_ ?_
  rotate_left
  · show Act.put _ (some 29) _ = _
    simp only [Act.put, List.setIfInBounds_toArray, List.set_cons_zero, List.set_cons_succ, i64_w, i32_w]
    rfl
  refine one_ (i := 7) (N := some 31) #[true, true, true, true, true, true, true, true, false, false, false, false, false] rfl rfl (by kernel_rfl) (by decide) (fun K hK => ?_)
  refine Kd.R_append_rows_step (Kd.int .i64) (w0 := W) W.heap.size (by rfl) (.tmp 29) (.tmp 30) 22 3 (.int .i64 0) 8 rfl Try.underlying22 info3' rfl (by decide) (by decide) (.slice (some ⟨W.heap.size, 0, none⟩) 0 0) [] v A0 v.length c0 (fun _ => True) (fun _ => False) rfl rfl ?aO ?aR (fun _ _ h => h) (fun _ h => h.elim) (fun _ _ => trivial) ?aB ?aS ?aL ?_
  (case aO => exact Kd.R_of_own (own_lit W.drew W.heap.size 3 .i64 [] (Nat.le_refl _) (by simp)) (fun _ _ => trivial))
  (case aR => exact Kd.C_alloc (Kd.C_drew HV.out) _)
  (case aB => exact below_alloc (below_drew (Below.refl _ _)) _)
  (case aS => show W.heap.size ≤ (W.alloc _).heap.size; rw [World.size_alloc]; exact Nat.le_succ _)
  (case aL => simp; omega)
  intro v7 w7 hR7 hb7 hg7 hat7
  rw [List.nil_append] at hR7
  obtain ⟨B7, c7, rfl⟩ := Kd.R_slice hR7
  have HB7 := Aside0.mk hb7
  have B7W : Aside0 (w7.heap[g]? = some (.cells #[.int .i64 nd, .int .i64 lf, .int .i64 tk, .slice A seen.length c, .int .i64 ag] 78 (0, 0))) := ⟨blk_below BW0.out hb7⟩
  have R7L := Aside0.mk (Kd.R_below HR0.out hb7)
  have HM7 : Aside0 (kI.M w7 (g + 1) (fun k => ok k ∧ some k ≠ (Value.slice A seen.length c).ownBlock) v [.slice B7 v.length c7]) := ⟨⟨_, rfl, Kd.R_mono (Kd.R_lower (Kd.R_bound (Kd.R_newR hR7 HR0.out)) HSZ.out) (fun k hk => ⟨HFR.out k hk.2.1, hk.1.2⟩)⟩⟩
  clear hR7 hb7 hg7 hat7
  refine hK.out _ _ ⟨pw_cell_below HB7.out zW2_0, pw_cell_below HB7.out zW2_1, pw_cell_below HB7.out zW2_2, pw_cell_below HB7.out zW2_3, pw_cell_below HB7.out zW2_4⟩ (fun hHeld => ?_)
  clear hK K
  refine norm_ (a' := ?_) ?_ ?_
  rotate_left
  · show Act.put _ (some 31) _ = _
    simp only [Act.put, List.setIfInBounds_toArray, List.set_cons_zero, List.set_cons_succ, i64_w, i32_w]
    rfl
  refine one_ (i := 8) (N := some 32) #[true, true, true, true, true, true, true, true, true, false, false, false, false] rfl rfl (by kernel_rfl) (by decide) (fun K hK => ?_)
  refine value_ (w1 := ?_) (v := ?_) (by rfl) rfl ?_ ?_
  rotate_left 2
  · go_simp
    constructor
    · rfl
    · rfl
  refine hK.out _ _ ⟨pw_cell_below (below_alloc (Below.refl _ _) _) (pw_cell_below HB7.out zW2_0), pw_cell_below (below_alloc (Below.refl _ _) _) (pw_cell_below HB7.out zW2_1), pw_cell_below (below_alloc (Below.refl _ _) _) (pw_cell_below HB7.out zW2_2), pw_cell_below (below_alloc (Below.refl _ _) _) (pw_cell_below HB7.out zW2_3), pw_cell_below (below_alloc (Below.refl _ _) _) (pw_cell_below HB7.out zW2_4)⟩ (fun hHeld => ?_)
  clear hK K
  refine norm_ (a' := ?_) ?_ ?_
  rotate_left
  · show Act.put _ (some 32) _ = _
    simp only [Act.put, List.setIfInBounds_toArray, List.set_cons_zero, List.set_cons_succ, i64_w, i32_w]
    rfl
  refine one_ (i := 9) (N := some 33) #[true, true, true, true, true, true, true, true, true, true, false, false, false] rfl rfl (by kernel_rfl) (by decide) (fun K hK => ?_)
  refine Kd.R_append_step kI (w0 := w7) (g + 1) (by rfl) (.tmp 28) (.tmp 32) 42 22 (.slice none 0 0) 24 rfl Try.underlying42 info22' rfl (by decide) (by decide) (.slice A seen.length c) seen v [.slice B7 v.length c7] ok (fun k => ok k ∧ some k ≠ (Value.slice A seen.length c).ownBlock) rfl rfl HM7.out (fun _ hk => hk) (fun k hk => HFR.out k (Nat.le_trans HB7.out.size hk)) R7L.out (Below.refl _ _) (Nat.le_trans HSZ.out HB7.out.size) (by omega) ?_
  intro v9 w9 hR9 hb9 hg9 hat9
  have hln : (seen ++ [v]).length = seen.length + 1 := by simp
  obtain ⟨A9, c9, rfl⟩ := Kd.R_slice hR9
  rw [hln] at hR9
  have HR9 := Aside0.mk hR9
  have HG9 := Aside0.mk hg9
  have B9W : Aside0 (w9.heap[g]? = some (.cells #[.int .i64 nd, .int .i64 lf, .int .i64 tk, .slice A seen.length c, .int .i64 ag] 78 (0, 0))) := ⟨blk_grown B7W.out hg9 (Kd.R_ne R7L.out B7W.out (by decide))⟩
  clear hR9 hb9 hg9 hat9
  have k2 : w9.cell? ⟨g, 3, none⟩ = some (.slice A seen.length c) := (blk_cell B9W.out 3).trans rfl
  have f2 := blk_frozen B9W.out 3
  refine hK.out _ _ ⟨(blk_cell B9W.out 0).trans rfl, (blk_cell B9W.out 1).trans rfl, (blk_cell B9W.out 2).trans rfl, (blk_cell B9W.out 3).trans rfl, (blk_cell B9W.out 4).trans rfl⟩ (fun hHeld => ?_)
  clear hK K
  refine norm_ (a' := ?_) ?_ ?_
  rotate_left
  · show Act.put _ (some 33) _ = _
    simp only [Act.put, List.setIfInBounds_toArray, List.set_cons_zero, List.set_cons_succ, i64_w, i32_w]
    rfl
  refine pure_ (i := 10) (N := some 34) (v := ?_) (a' := ?_) #[true, true, true, true, true, true, true, true, true, true, true, false, false] rfl rfl (by kernel_rfl) (fun _ _ _ h => h) (Or.inl ⟨by rfl, ?_⟩) ?_ ?_
  rotate_left
  · intro w'
    go_simp
    with_reducible rfl
  rotate_left
  · simp only [Act.put, List.setIfInBounds_toArray, List.set_cons_zero, List.set_cons_succ, i64_w, i32_w]
    rfl
  refine pure_ (i := 11) (N := some 35) (v := ?_) (a' := ?_) #[true, true, true, true, true, true, true, true, true, true, true, true, false] rfl rfl (by kernel_rfl) (fun _ _ _ h => h) (Or.inl ⟨by rfl, ?_⟩) ?_ ?_
  rotate_left
  · intro w'
    go_simp
    with_reducible rfl
  rotate_left
  · simp only [Act.put, List.setIfInBounds_toArray, List.set_cons_zero, List.set_cons_succ, i64_w, i32_w]
    rfl
  refine last_ (i := 12) (N := none) #[true, true, true, true, true, true, true, true, true, true, true, true, true] rfl rfl (by kernel_rfl) (by decide) (fun K hK => ?_)
  refine skip_ (w1 := ?_) (by rfl) rfl ?_ ?_
  rotate_left
  · go_simp
    rfl
  refine hK.out _ _ ?_
  clear hK K
  refine done_ (by kernel_rfl) ?_
  clear zW2_0 zW2_1 zW2_2 zW2_3 zW2_4
  clear k2 f2
  have hln : (seen ++ [v]).length = seen.length + 1 := by simp
  obtain ⟨wA, hwA⟩ : ∃ x : World, x = w9.setCell ⟨g, 3, none⟩ (.slice A9 (seen.length + 1) c9) := ⟨_, rfl⟩
  have BA : Aside0 (wA.heap[g]? = some (.cells #[.int .i64 nd, .int .i64 lf, .int .i64 tk, .slice A9 (seen.length + 1) c9, .int .i64 ag] 78 (0, 0))) := ⟨by rw [hwA]; exact blk_put (cs := #[.int .i64 nd, .int .i64 lf, .int .i64 tk, .slice A seen.length c, .int .i64 ag]) B9W.out 3 _ rfl⟩
  have HGA : Aside0 (w9.grownBy wA (some g)) := ⟨by rw [hwA]; exact grown_set _ _ _ _⟩
  have RA : Aside0 (kI.R 22 wA (g + 1) ok (.slice A9 (seen.length + 1) c9) (seen ++ [v])) := ⟨by rw [hwA]; exact Kd.R_set HR9.out B9W.out (by decide) 3 _⟩
  first | rw [← hwA] | (rw [← hln, ← hwA]) | (rw [hln, ← hwA])
  clear hwA
  have kA : wA.cell? ⟨g, 4, none⟩ = some (.int .i64 ag) := (blk_cell BA.out 4).trans rfl
  have fA := blk_frozen BA.out 4
  go_wp2_with fail
  first | go_end0 | ((try simp only [Exit.inBlock, Exit.then]); refine bodyPost_ret (results_none rfl _ _ _) rfl ?_)
  have hpost : (wA.setCell ⟨g, 4, none⟩ (.int .i64 0)).heap[g]? = some (.cells #[.int .i64 nd, .int .i64 lf, .int .i64 tk, .slice A9 (seen.length + 1) c9, .int .i64 0] 78 (0, 0)) := blk_put (cs := #[.int .i64 nd, .int .i64 lf, .int .i64 tk, .slice A9 (seen.length + 1) c9, .int .i64 ag]) BA.out 4 _ rfl
  refine ⟨rfl, ⟨A9, c9, by rw [hln]; exact hpost, by rw [hln]; exact Kd.R_set RA.out BA.out (by decide) 4 _, ok_seen HOK.out hsl hvl⟩, ?_⟩
  exact FRT.trans (FRT.of_below (Nat.le_of_succ_le HSZ.out) HB7.out) (FRT.made B7W.out (Kd.R_mono R7L.out (fun _ _ => trivial)) HG9.out (HGA.out.trans (grown_set _ _ _ _)))
set_option maxHeartbeats 8000000 in
set_option maxRecDepth 100000 in
theorem rsawo_same (ok : Nat → Prop) (W : World) (hokk : ∀ k, W.heap.size ≤ k → ok k) (g : Nat) (nd lf tk : Int) (seen : List (List Int)) (ag : Int) (h : RWAtO ok W g nd lf tk seen ag) (A0 : Option Addr) (c0 : Nat) (v : List Int) (hv : (Kd.int .i64).C W A0 v.length v) (hc : v.length ≤ c0) (hvl : v.length < 17592186044416) (hs : seen ≠ []) (hl : lastOf seen = v) : Calls Try.prog 31 #[.pointer (some ⟨g, 0, none⟩), .slice A0 v.length c0] W fun e w' => e = .returned (.tuple #[]) ∧ RWAtO ok w' g nd lf tk seen ag ∧ Below W.heap.size W w' := by
  have hu71 := Try.underlying71
  have hu78 := Try.underlying78
  have hu42 := Try.underlying42
  have hu22 := Try.underlying22
  have HOKK := Aside0.mk hokk
  clear hokk
  have HRW := Aside0.mk h
  have hgl := h.any.lt
  obtain ⟨A, c, hB0, hR0, hok⟩ := h
  have BW0 := Aside0.mk hB0
  have HR0 := Aside0.mk hR0
  have HOK := Aside0.mk hok
  have HV := Aside0.mk hv
  obtain ⟨m, r, hm, hr, hlr⟩ := seen_last hs
  rw [hlr] at hl
  obtain rfl : m = seen.length - 1 := by omega
  obtain ⟨b, rfl⟩ := row_b (Kd.R_mono hR0 (fun _ _ => trivial)) (by omega)
  obtain ⟨B, d, hcell, hrd, hM, hCr⟩ := I_elem (Kd.R_mono hR0 (fun _ _ => trivial)) rfl r hr
  have hn4 : seen.length ≤ 100000 := hok.1
  have hlt2 : seen.length - 1 < seen.length := by omega
  have d0 : decide (0 < seen.length) = true := decide_eq_true (by omega)
  have d1 : decide (0 < (seen.length : Int)) = true := decide_eq_true (by omega)
  have hpos : 0 < seen.length := by omega
  have HCR := Aside0.mk hCr
  have HRD := Aside0.mk hrd
  have HLV := Aside0.mk (show decide (r = v) = true from decide_eq_true hl)
  have HRLN := Aside0.mk (hok.2 r (List.mem_of_getElem? hr))
  clear hs hB0 hR0 hok hv hM hCr hrd hl hlr hr hm
  have zW1_0 : W.cell? ⟨g, 0, none⟩ = some (.int .i64 nd) := (blk_cell BW0.out 0).trans rfl
  have zW1_1 : W.cell? ⟨g, 1, none⟩ = some (.int .i64 lf) := (blk_cell BW0.out 1).trans rfl
  have zW1_2 : W.cell? ⟨g, 2, none⟩ = some (.int .i64 tk) := (blk_cell BW0.out 2).trans rfl
  have zW1_3 : W.cell? ⟨g, 3, none⟩ = some (.slice (some ⟨b, 0, none⟩) seen.length c) := (blk_cell BW0.out 3).trans rfl
  have zW1_4 : W.cell? ⟨g, 4, none⟩ = some (.int .i64 ag) := (blk_cell BW0.out 4).trans rfl
  go_enter Try.func31, Try.ntmps31
  go_wp2_with fail
  clear hcell
  refine (refsame_v true B d r A0 c0 v _ HLV.out HCR.out HRD.out HV.out hc (by have := HRLN.out; omega)).mono ?_
  rintro e w2 ⟨rfl, hb2⟩
  clear zW1_0 zW1_1 zW1_2 zW1_3 zW1_4
  have HB3 := Aside0.mk hb2
  have BW3 : Aside0 (w2.heap[g]? = some (.cells #[.int .i64 nd, .int .i64 lf, .int .i64 tk, .slice (some ⟨b, 0, none⟩) seen.length c, .int .i64 ag] 78 (0, 0))) := ⟨(hb2.block _ (blk_lt BW0.out)).trans BW0.out⟩
  have Cv3 := Aside0.mk (Kd.C_below HV.out hb2)
  have Cr3 := Aside0.mk (Kd.C_below HCR.out hb2)
  have CRW3 := Aside0.mk (RWAtO.below HRW.out hb2)
  have RL3 := Aside0.mk (Kd.R_below HR0.out hb2)
  clear hb2
  go_wp2_with fail
  first | go_end0 | ((try simp only [Exit.inBlock, Exit.then]); refine bodyPost_ret (results_none rfl _ _ _) rfl ?_)
  exact ⟨rfl, CRW3.out, HB3.out⟩
set_option maxHeartbeats 8000000 in
set_option maxRecDepth 100000 in
theorem rsawo_next (ok : Nat → Prop) (W : World) (hokk : ∀ k, W.heap.size ≤ k → ok k) (g : Nat) (nd lf tk : Int) (seen : List (List Int)) (ag : Int) (h : RWAtO ok W g nd lf tk seen ag) (A0 : Option Addr) (c0 : Nat) (v : List Int) (hv : (Kd.int .i64).C W A0 v.length v) (hc : v.length ≤ c0) (hvl : v.length < 17592186044416) (hs : seen ≠ []) (hl : lastOf seen ≠ v) (hsl : seen.length < 100000) : Calls Try.prog 31 #[.pointer (some ⟨g, 0, none⟩), .slice A0 v.length c0] W fun e w' => e = .returned (.tuple #[]) ∧ RWAtO ok w' g nd lf tk (seen ++ [v]) 0 ∧ FRT g W w' := by
  have hu71 := Try.underlying71
  have hu78 := Try.underlying78
  have hu42 := Try.underlying42
  have hu22 := Try.underlying22
  have HOKK := Aside0.mk hokk
  clear hokk
  have HRW := Aside0.mk h
  have hgl := h.any.lt
  obtain ⟨A, c, hB0, hR0, hok⟩ := h
  have BW0 := Aside0.mk hB0
  have HR0 := Aside0.mk hR0
  have HOK := Aside0.mk hok
  have HV := Aside0.mk hv
  obtain ⟨m, r, hm, hr, hlr⟩ := seen_last hs
  rw [hlr] at hl
  obtain rfl : m = seen.length - 1 := by omega
  obtain ⟨b, rfl⟩ := row_b (Kd.R_mono hR0 (fun _ _ => trivial)) (by omega)
  obtain ⟨B, d, hcell, hrd, hM, hCr⟩ := I_elem (Kd.R_mono hR0 (fun _ _ => trivial)) rfl r hr
  have hn4 : seen.length ≤ 100000 := hok.1
  have hlt2 : seen.length - 1 < seen.length := by omega
  have d0 : decide (0 < seen.length) = true := decide_eq_true (by omega)
  have d1 : decide (0 < (seen.length : Int)) = true := decide_eq_true (by omega)
  have hpos : 0 < seen.length := by omega
  have HCR := Aside0.mk hCr
  have HRD := Aside0.mk hrd
  have HLV := Aside0.mk (show decide (r = v) = false from decide_eq_false hl)
  have HRLN := Aside0.mk (hok.2 r (List.mem_of_getElem? hr))
  clear hs hB0 hR0 hok hv hM hCr hrd hl hlr hr hm
  have zW1_0 : W.cell? ⟨g, 0, none⟩ = some (.int .i64 nd) := (blk_cell BW0.out 0).trans rfl
  have zW1_1 : W.cell? ⟨g, 1, none⟩ = some (.int .i64 lf) := (blk_cell BW0.out 1).trans rfl
  have zW1_2 : W.cell? ⟨g, 2, none⟩ = some (.int .i64 tk) := (blk_cell BW0.out 2).trans rfl
  have zW1_3 : W.cell? ⟨g, 3, none⟩ = some (.slice (some ⟨b, 0, none⟩) seen.length c) := (blk_cell BW0.out 3).trans rfl
  have zW1_4 : W.cell? ⟨g, 4, none⟩ = some (.int .i64 ag) := (blk_cell BW0.out 4).trans rfl
  go_enter Try.func31, Try.ntmps31
  go_wp2_with fail
  clear hcell
  refine (refsame_v false B d r A0 c0 v _ HLV.out HCR.out HRD.out HV.out hc (by have := HRLN.out; omega)).mono ?_
  rintro e w2 ⟨rfl, hb2⟩
  clear zW1_0 zW1_1 zW1_2 zW1_3 zW1_4
  have HB3 := Aside0.mk hb2
  have BW3 : Aside0 (w2.heap[g]? = some (.cells #[.int .i64 nd, .int .i64 lf, .int .i64 tk, .slice (some ⟨b, 0, none⟩) seen.length c, .int .i64 ag] 78 (0, 0))) := ⟨(hb2.block _ (blk_lt BW0.out)).trans BW0.out⟩
  have Cv3 := Aside0.mk (Kd.C_below HV.out hb2)
  have Cr3 := Aside0.mk (Kd.C_below HCR.out hb2)
  have CRW3 := Aside0.mk (RWAtO.below HRW.out hb2)
  have RL3 := Aside0.mk (Kd.R_below HR0.out hb2)
  clear hb2
  clear hlt2 d0 d1 hpos
  have zW4_0 : w2.cell? ⟨g, 0, none⟩ = some (.int .i64 nd) := (blk_cell BW3.out 0).trans rfl
  have zW4_1 : w2.cell? ⟨g, 1, none⟩ = some (.int .i64 lf) := (blk_cell BW3.out 1).trans rfl
  have zW4_2 : w2.cell? ⟨g, 2, none⟩ = some (.int .i64 tk) := (blk_cell BW3.out 2).trans rfl
  have zW4_3 : w2.cell? ⟨g, 3, none⟩ = some (.slice (some ⟨b, 0, none⟩) seen.length c) := (blk_cell BW3.out 3).trans rfl
  have zW4_4 : w2.cell? ⟨g, 4, none⟩ = some (.int .i64 ag) := (blk_cell BW3.out 4).trans rfl
  have HSZ := Aside0.mk (show g + 1 ≤ w2.heap.size from blk_lt BW3.out)
  have HFR : Aside0 (∀ k, w2.heap.size ≤ k → ok k) := ⟨fun k hk => HOKK.out k (Nat.le_trans HB3.out.size hk)⟩
  go_upto_region 2 with fail
  refine start_ (n := 13) (S := fun w' => w'.cell? ⟨g, 0, none⟩ = some (.int .i64 nd) ∧ w'.cell? ⟨g, 1, none⟩ = some (.int .i64 lf) ∧ w'.cell? ⟨g, 2, none⟩ = some (.int .i64 tk) ∧ w'.cell? ⟨g, 3, none⟩ = some (.slice (some ⟨b, 0, none⟩) seen.length c) ∧ w'.cell? ⟨g, 4, none⟩ = some (.int .i64 ag)) (ds := [12]) #[false, false, false, false, false, false, false, false, false, false, false, false, false] (by kernel_rfl) rfl rfl ⟨zW4_0, zW4_1, zW4_2, zW4_3, zW4_4⟩ (fun hHeld => ?_)
  refine pure_ (i := 0) (N := some 24) (v := ?_) (a' := ?_) #[true, false, false, false, false, false, false, false, false, false, false, false, false] rfl rfl (by kernel_rfl) (fun _ _ _ h => h) (Or.inl ⟨by rfl, ?_⟩) ?_ ?_
  rotate_left
  · intro w'
    go_simp
    with_reducible rfl
  rotate_left
  · simp only [Act.put, List.setIfInBounds_toArray, List.set_cons_zero, List.set_cons_succ, i64_w, i32_w]
    rfl
  refine pure_ (i := 1) (N := some 25) (v := ?_) (a' := ?_) #[true, true, false, false, false, false, false, false, false, false, false, false, false] rfl rfl (by kernel_rfl) (fun _ _ _ h => h) (Or.inl ⟨by rfl, ?_⟩) ?_ ?_
  rotate_left
  · intro w'
    go_simp
    with_reducible rfl
  rotate_left
  · simp only [Act.put, List.setIfInBounds_toArray, List.set_cons_zero, List.set_cons_succ, i64_w, i32_w]
    rfl
  refine pure_ (i := 2) (N := some 26) (v := ?_) (a' := ?_) #[true, true, true, false, false, false, false, false, false, false, false, false, false] rfl rfl (by kernel_rfl) (fun _ _ _ h => h) (Or.inl ⟨by rfl, ?_⟩) ?_ ?_
  rotate_left
  · intro w'
    go_simp
    with_reducible rfl
  rotate_left
  · simp only [Act.put, List.setIfInBounds_toArray, List.set_cons_zero, List.set_cons_succ, i64_w, i32_w]
    rfl
  refine pure_ (i := 3) (N := some 27) (v := ?_) (a' := ?_) #[true, true, true, true, false, false, false, false, false, false, false, false, false] rfl rfl (by kernel_rfl) (fun _ _ _ h => h) (Or.inl ⟨by rfl, ?_⟩) ?_ ?_
  rotate_left
  · intro w'
    go_simp
    with_reducible rfl
  rotate_left
  · simp only [Act.put, List.setIfInBounds_toArray, List.set_cons_zero, List.set_cons_succ, i64_w, i32_w]
    rfl
  refine pure_ (i := 6) (N := some 30) (v := ?_) (a' := ?_) #[true, true, true, true, false, false, true, false, false, false, false, false, false] rfl rfl (by kernel_rfl) (fun _ _ _ h => h) (Or.inl ⟨by rfl, ?_⟩) ?_ ?_
  rotate_left
  · intro w'
    go_simp
    with_reducible rfl
  rotate_left
  · simp only [Act.put, List.setIfInBounds_toArray, List.set_cons_zero, List.set_cons_succ, i64_w, i32_w]
    rfl
  refine take_ (i := 4) (N := some 28) (v := ?_) (a' := ?_) #[true, true, true, true, true, false, true, false, false, false, false, false, false] rfl rfl (by kernel_rfl) (fun _ _ _ h => h) (Or.inl ⟨by rfl, ?_⟩) hHeld ?_ ?_
  rotate_left
  · rintro w' ⟨s0, s1, s2, s3, s4⟩
    go_simp
    with_reducible rfl
  rotate_left
  · simp only [Act.put, List.setIfInBounds_toArray, List.set_cons_zero, List.set_cons_succ, i64_w, i32_w]
    rfl
  refine one_ (i := 5) (N := some 29) #[true, true, true, true, true, true, true, false, false, false, false, false, false] rfl rfl (by kernel_rfl) (by decide) (fun K hK => ?_)
  refine value_ (w1 := ?_) (v := ?_) (by rfl) rfl ?_ ?_
  rotate_left 2
  · go_simp
    constructor
    · rfl
    · rfl
  refine hK.out _ _ ⟨pw_cell_below (below_alloc (below_drew (Below.refl _ _)) _) zW4_0, pw_cell_below (below_alloc (below_drew (Below.refl _ _)) _) zW4_1, pw_cell_below (below_alloc (below_drew (Below.refl _ _)) _) zW4_2, pw_cell_below (below_alloc (below_drew (Below.refl _ _)) _) zW4_3, pw_cell_below (below_alloc (below_drew (Below.refl _ _)) _) zW4_4⟩ (fun hHeld => ?_)
  clear hK K
  refine norm_ (a' := ?_) ?_ ?_
  rotate_left
  · show Act.put _ (some 29) _ = _
    simp only [Act.put, List.setIfInBounds_toArray, List.set_cons_zero, List.set_cons_succ, i64_w, i32_w]
    rfl
  refine one_ (i := 7) (N := some 31) #[true, true, true, true, true, true, true, true, false, false, false, false, false] rfl rfl (by kernel_rfl) (by decide) (fun K hK => ?_)
  refine Kd.R_append_rows_step (Kd.int .i64) (w0 := w2) w2.heap.size (by rfl) (.tmp 29) (.tmp 30) 22 3 (.int .i64 0) 8 rfl Try.underlying22 info3' rfl (by decide) (by decide) (.slice (some ⟨w2.heap.size, 0, none⟩) 0 0) [] v A0 v.length c0 (fun _ => True) (fun _ => False) rfl rfl ?aO ?aR (fun _ _ h => h) (fun _ h => h.elim) (fun _ _ => trivial) ?aB ?aS ?aL ?_
  (case aO => exact Kd.R_of_own (own_lit w2.drew w2.heap.size 3 .i64 [] (Nat.le_refl _) (by simp)) (fun _ _ => trivial))
  (case aR => exact Kd.C_alloc (Kd.C_drew Cv3.out) _)
  (case aB => exact below_alloc (below_drew (Below.refl _ _)) _)
  (case aS => show w2.heap.size ≤ (w2.alloc _).heap.size; rw [World.size_alloc]; exact Nat.le_succ _)
  (case aL => simp; omega)
  intro v7 w7 hR7 hb7 hg7 hat7
  rw [List.nil_append] at hR7
  obtain ⟨B7, c7, rfl⟩ := Kd.R_slice hR7
  have HB7 := Aside0.mk hb7
  have B7W : Aside0 (w7.heap[g]? = some (.cells #[.int .i64 nd, .int .i64 lf, .int .i64 tk, .slice (some ⟨b, 0, none⟩) seen.length c, .int .i64 ag] 78 (0, 0))) := ⟨blk_below BW3.out hb7⟩
  have R7L := Aside0.mk (Kd.R_below RL3.out hb7)
  have HM7 : Aside0 (kI.M w7 (g + 1) (fun k => ok k ∧ some k ≠ (Value.slice (some ⟨b, 0, none⟩) seen.length c).ownBlock) v [.slice B7 v.length c7]) := ⟨⟨_, rfl, Kd.R_mono (Kd.R_lower (Kd.R_bound (Kd.R_newR hR7 RL3.out)) HSZ.out) (fun k hk => ⟨HFR.out k hk.2.1, hk.1.2⟩)⟩⟩
  clear hR7 hb7 hg7 hat7
  refine hK.out _ _ ⟨pw_cell_below HB7.out zW4_0, pw_cell_below HB7.out zW4_1, pw_cell_below HB7.out zW4_2, pw_cell_below HB7.out zW4_3, pw_cell_below HB7.out zW4_4⟩ (fun hHeld => ?_)
  clear hK K
  refine norm_ (a' := ?_) ?_ ?_
  rotate_left
  · show Act.put _ (some 31) _ = _
    simp only [Act.put, List.setIfInBounds_toArray, List.set_cons_zero, List.set_cons_succ, i64_w, i32_w]
    rfl
  refine one_ (i := 8) (N := some 32) #[true, true, true, true, true, true, true, true, true, false, false, false, false] rfl rfl (by kernel_rfl) (by decide) (fun K hK => ?_)
  refine value_ (w1 := ?_) (v := ?_) (by rfl) rfl ?_ ?_
  rotate_left 2
  · go_simp
    constructor
    · rfl
    · rfl
  refine hK.out _ _ ⟨pw_cell_below (below_alloc (Below.refl _ _) _) (pw_cell_below HB7.out zW4_0), pw_cell_below (below_alloc (Below.refl _ _) _) (pw_cell_below HB7.out zW4_1), pw_cell_below (below_alloc (Below.refl _ _) _) (pw_cell_below HB7.out zW4_2), pw_cell_below (below_alloc (Below.refl _ _) _) (pw_cell_below HB7.out zW4_3), pw_cell_below (below_alloc (Below.refl _ _) _) (pw_cell_below HB7.out zW4_4)⟩ (fun hHeld => ?_)
  clear hK K
  refine norm_ (a' := ?_) ?_ ?_
  rotate_left
  · show Act.put _ (some 32) _ = _
    simp only [Act.put, List.setIfInBounds_toArray, List.set_cons_zero, List.set_cons_succ, i64_w, i32_w]
    rfl
  refine one_ (i := 9) (N := some 33) #[true, true, true, true, true, true, true, true, true, true, false, false, false] rfl rfl (by kernel_rfl) (by decide) (fun K hK => ?_)
  refine Kd.R_append_step kI (w0 := w7) (g + 1) (by rfl) (.tmp 28) (.tmp 32) 42 22 (.slice none 0 0) 24 rfl Try.underlying42 info22' rfl (by decide) (by decide) (.slice (some ⟨b, 0, none⟩) seen.length c) seen v [.slice B7 v.length c7] ok (fun k => ok k ∧ some k ≠ (Value.slice (some ⟨b, 0, none⟩) seen.length c).ownBlock) rfl rfl HM7.out (fun _ hk => hk) (fun k hk => HFR.out k (Nat.le_trans HB7.out.size hk)) R7L.out (Below.refl _ _) (Nat.le_trans HSZ.out HB7.out.size) (by omega) ?_
  intro v9 w9 hR9 hb9 hg9 hat9
  have hln : (seen ++ [v]).length = seen.length + 1 := by simp
  obtain ⟨A9, c9, rfl⟩ := Kd.R_slice hR9
  rw [hln] at hR9
  have HR9 := Aside0.mk hR9
  have HG9 := Aside0.mk hg9
  have B9W : Aside0 (w9.heap[g]? = some (.cells #[.int .i64 nd, .int .i64 lf, .int .i64 tk, .slice (some ⟨b, 0, none⟩) seen.length c, .int .i64 ag] 78 (0, 0))) := ⟨blk_grown B7W.out hg9 (Kd.R_ne R7L.out B7W.out (by decide))⟩
  clear hR9 hb9 hg9 hat9
  have k2 : w9.cell? ⟨g, 3, none⟩ = some (.slice (some ⟨b, 0, none⟩) seen.length c) := (blk_cell B9W.out 3).trans rfl
  have f2 := blk_frozen B9W.out 3
  refine hK.out _ _ ⟨(blk_cell B9W.out 0).trans rfl, (blk_cell B9W.out 1).trans rfl, (blk_cell B9W.out 2).trans rfl, (blk_cell B9W.out 3).trans rfl, (blk_cell B9W.out 4).trans rfl⟩ (fun hHeld => ?_)
  clear hK K
  refine norm_ (a' := ?_) ?_ ?_
  rotate_left
  · show Act.put _ (some 33) _ = _
    simp only [Act.put, List.setIfInBounds_toArray, List.set_cons_zero, List.set_cons_succ, i64_w, i32_w]
    rfl
  refine pure_ (i := 10) (N := some 34) (v := ?_) (a' := ?_) #[true, true, true, true, true, true, true, true, true, true, true, false, false] rfl rfl (by kernel_rfl) (fun _ _ _ h => h) (Or.inl ⟨by rfl, ?_⟩) ?_ ?_
  rotate_left
  · intro w'
    go_simp
    with_reducible rfl
  rotate_left
  · simp only [Act.put, List.setIfInBounds_toArray, List.set_cons_zero, List.set_cons_succ, i64_w, i32_w]
    rfl
  refine pure_ (i := 11) (N := some 35) (v := ?_) (a' := ?_) #[true, true, true, true, true, true, true, true, true, true, true, true, false] rfl rfl (by kernel_rfl) (fun _ _ _ h => h) (Or.inl ⟨by rfl, ?_⟩) ?_ ?_
  rotate_left
  · intro w'
    go_simp
    with_reducible rfl
  rotate_left
  · simp only [Act.put, List.setIfInBounds_toArray, List.set_cons_zero, List.set_cons_succ, i64_w, i32_w]
    rfl
  refine last_ (i := 12) (N := none) #[true, true, true, true, true, true, true, true, true, true, true, true, true] rfl rfl (by kernel_rfl) (by decide) (fun K hK => ?_)
  refine skip_ (w1 := ?_) (by rfl) rfl ?_ ?_
  rotate_left
  · go_simp
    rfl
  refine hK.out _ _ ?_
  clear hK K
  refine done_ (by kernel_rfl) ?_
  clear zW4_0 zW4_1 zW4_2 zW4_3 zW4_4
  clear k2 f2
  have hln : (seen ++ [v]).length = seen.length + 1 := by simp
  obtain ⟨wA, hwA⟩ : ∃ x : World, x = w9.setCell ⟨g, 3, none⟩ (.slice A9 (seen.length + 1) c9) := ⟨_, rfl⟩
  have BA : Aside0 (wA.heap[g]? = some (.cells #[.int .i64 nd, .int .i64 lf, .int .i64 tk, .slice A9 (seen.length + 1) c9, .int .i64 ag] 78 (0, 0))) := ⟨by rw [hwA]; exact blk_put (cs := #[.int .i64 nd, .int .i64 lf, .int .i64 tk, .slice (some ⟨b, 0, none⟩) seen.length c, .int .i64 ag]) B9W.out 3 _ rfl⟩
  have HGA : Aside0 (w9.grownBy wA (some g)) := ⟨by rw [hwA]; exact grown_set _ _ _ _⟩
  have RA : Aside0 (kI.R 22 wA (g + 1) ok (.slice A9 (seen.length + 1) c9) (seen ++ [v])) := ⟨by rw [hwA]; exact Kd.R_set HR9.out B9W.out (by decide) 3 _⟩
  first | rw [← hwA] | (rw [← hln, ← hwA]) | (rw [hln, ← hwA])
  clear hwA
  have kA : wA.cell? ⟨g, 4, none⟩ = some (.int .i64 ag) := (blk_cell BA.out 4).trans rfl
  have fA := blk_frozen BA.out 4
  go_wp2_with fail
  first | go_end0 | ((try simp only [Exit.inBlock, Exit.then]); refine bodyPost_ret (results_none rfl _ _ _) rfl ?_)
  have hpost : (wA.setCell ⟨g, 4, none⟩ (.int .i64 0)).heap[g]? = some (.cells #[.int .i64 nd, .int .i64 lf, .int .i64 tk, .slice A9 (seen.length + 1) c9, .int .i64 0] 78 (0, 0)) := blk_put (cs := #[.int .i64 nd, .int .i64 lf, .int .i64 tk, .slice A9 (seen.length + 1) c9, .int .i64 ag]) BA.out 4 _ rfl
  refine ⟨rfl, ⟨A9, c9, by rw [hln]; exact hpost, by rw [hln]; exact Kd.R_set RA.out BA.out (by decide) 4 _, ok_seen HOK.out hsl hvl⟩, ?_⟩
  exact FRT.trans (FRT.of_below (Nat.le_of_lt hgl) HB3.out) (FRT.trans (FRT.of_below (Nat.le_of_succ_le HSZ.out) HB7.out) (FRT.made B7W.out (Kd.R_mono R7L.out (fun _ _ => trivial)) HG9.out (HGA.out.trans (grown_set _ _ _ _))))
/-- The reference's Saw, whole. -/
theorem rsaw_o (ok : Nat → Prop) (W : World) (hok : ∀ k, W.heap.size ≤ k → ok k) (g : Nat) (nd lf tk : Int) (seen : List (List Int)) (ag : Int) (h : RWAtO ok W g nd lf tk seen ag) (A0 : Option Addr) (c0 : Nat) (v : List Int) (hv : (Kd.int .i64).C W A0 v.length v) (hc : v.length ≤ c0) (hvl : v.length < 17592186044416) (hsl : seen.length < 100000) :
    Calls Try.prog 31 #[.pointer (some ⟨g, 0, none⟩), .slice A0 v.length c0] W fun e w' => e = .returned (.tuple #[]) ∧ ∃ seen', RWAtO ok w' g nd lf tk seen' (sawAge (decide (seen ≠ [])) (lastOf seen) v ag) ∧ lastOf seen' = v ∧ seen' ≠ [] ∧ seen'.length ≤ seen.length + 1 ∧ FRT g W w' := by
  by_cases hs : seen = []
  · refine (rsawo_first ok W hok g nd lf tk seen ag h A0 c0 v hv hc hvl hs).mono ?_
    rintro e w' ⟨rfl, h1, h2⟩
    refine ⟨rfl, seen ++ [v], ?_, lastOf_snoc _ _, by simp, by simp, h2⟩
    have : sawAge (decide (seen ≠ [])) (lastOf seen) v ag = 0 := by unfold sawAge; rw [if_neg]; rintro ⟨e, _⟩; exact of_decide_eq_true e hs
    rw [this]; exact h1
  · by_cases hl : lastOf seen = v
    · refine (rsawo_same ok W hok g nd lf tk seen ag h A0 c0 v hv hc hvl hs hl).mono ?_
      rintro e w' ⟨rfl, h1, h2⟩
      refine ⟨rfl, seen, ?_, hl, hs, by omega, FRT.of_below (Nat.le_of_lt h.any.lt) h2⟩
      have : sawAge (decide (seen ≠ [])) (lastOf seen) v ag = ag := by unfold sawAge; rw [if_pos ⟨decide_eq_true hs, hl⟩]
      rw [this]; exact h1
    · refine (rsawo_next ok W hok g nd lf tk seen ag h A0 c0 v hv hc hvl hs hl hsl).mono ?_
      rintro e w' ⟨rfl, h1, h2⟩
      refine ⟨rfl, seen ++ [v], ?_, lastOf_snoc _ _, by simp, by simp, h2⟩
      have : sawAge (decide (seen ≠ [])) (lastOf seen) v ag = 0 := by unfold sawAge; rw [if_neg (fun e => hl e.2)]
      rw [this]; exact h1
end Go.Proofs.Ytimfbdiiaakhiaa.MAll

/- TenureSees: the walk. -/
import Derived.Test.YtimfbdiiaakhiaaTe
import Derived.Deep.DrawnRows
set_option linter.unusedVariables false
set_option linter.unusedSimpArgs false
namespace Go.Proofs.Ytimfbdiiaakhiaa.MAll
open Go.RowKit Go.Proofs.YtimfbdiiaakhiaaW.PrintWords Go.Proofs.YtimfbdiiaakhiaaW.PrintLast Go.Proofs.YtimfbdiiaakhiaaW.PrintMore
attribute [local go_sem ↓] Go.wp_at_zero Go.wp_at_succ

theorem row_at {α : Type} {d : Kd α} {e : Nat} {w : World} {A : Option Addr} {xs : List (List α)} (h : (Kd.slice e d).C w A xs.length xs) (k : Nat) (hk : k < xs.length) :
    ∃ ad B c, A = some ad ∧ w.cell? (ad.add k) = some (.slice B (xs[k]'hk).length c) ∧ (xs[k]'hk).length ≤ c ∧ d.C w B (xs[k]'hk).length (xs[k]'hk) := by
  obtain ⟨ad, cs, rfl, _, hK, hc⟩ := Kd.C_get h [] k (by omega) (by omega)
  obtain ⟨B, c, rfl, h1, h2⟩ := hK
  have he : xs.getD (k : Int).toNat [] = xs[k]'hk := by simp [List.getD_eq_getElem?_getD, List.getElem?_eq_getElem hk]
  rw [he] at h1 h2 hc
  have := hc 0 _ rfl
  refine ⟨ad, B, c, rfl, ?_, h1, h2⟩
  simpa [Kd.slice] using this
theorem C4 {w : World} {A : Option Addr} {a b c d : Int} (h : (Kd.int .i64).C w A 4 [a, b, c, d]) : ∃ ad, A = some ad := by
  obtain ⟨ad, hA, _⟩ := Kd.at_int h 0 (by omega) (by omega)
  exact ⟨ad, hA⟩
theorem C4' {w : World} {ad : Addr} {a b c d : Int} (h : (Kd.int .i64).C w (some ad) 4 [a, b, c, d]) : w.cell? ad = some (.int .i64 a) ∧ w.cell? ⟨ad.block, ad.off + 1, none⟩ = some (.int .i64 b) ∧ w.cell? ⟨ad.block, ad.off + 2, none⟩ = some (.int .i64 c) ∧ w.cell? ⟨ad.block, ad.off + 3, none⟩ = some (.int .i64 d) := by
  obtain ⟨_, _, h2⟩ := Kd.reads_of_C (d := 0) h
  obtain ⟨ad', hA, hc⟩ := h2 (by omega)
  injection hA with hA
  subst hA
  have h0 := hc 0 (by omega)
  have h1 := hc 1 (by omega)
  have h2 := hc 2 (by omega)
  have h3 := hc 3 (by omega)
  rw [Kit.add_zero'] at h0
  simp only [Nat.reduceEqDiff, Go.Addr.add, ↓reduceIte] at h1 h2 h3
  exact ⟨h0.trans rfl, h1.trans rfl, h2.trans rfl, h3.trans rfl⟩
theorem ints4_v (A0 : Option Addr) (c0 : Nat) (A1 : Option Addr) (c1 : Nat) (x0 x1 x2 x3 : Int) (w : World) (h0 : (Kd.int .i64).C w A0 4 [x0, x1, x2, x3]) (g0 : 4 ≤ c0) (h1 : (Kd.int .i64).C w A1 4 [x0, x1, x2, x3]) (g1 : 4 ≤ c1) :
    Calls Try.prog 13 #[.slice A0 4 c0, .slice A1 4 c1] w fun e w' => e = .returned (.bool true) ∧ Below w.heap.size w w' := ints_v true A0 c0 [x0, x1, x2, x3] A1 c1 [x0, x1, x2, x3] w (decide_eq_true rfl) h0 g0 h1 g1 (by simp)
theorem okL4' (a b c d : Int) : okL [a, b, c, d] = decide (1 ≤ a ∧ 0 ≤ b ∧ 0 ≤ c ∧ 0 ≤ d) := by
  have e0 : rd [a, b, c, d] 0 = a := rfl
  have e1 : rd [a, b, c, d] 1 = b := rfl
  have e2 : rd [a, b, c, d] 2 = c := rfl
  have e3 : rd [a, b, c, d] 3 = d := rfl
  unfold okL
  rw [e0, e1, e2, e3, Bool.eq_iff_iff]
  simp only [Bool.and_eq_true, decide_eq_true_eq, List.length_cons, List.length_nil, Nat.zero_add, Nat.reduceAdd, true_and]
theorem lease_of4 (a b c d : Int) (h : okL [a, b, c, d] = true) : leaseOf [a, b, c, d] = (a, b, c, d) := by unfold leaseOf; rw [if_pos h]; rfl
/-- Not its own lease. -/
theorem no_len (v : List Int) (h : v.length ≠ 4) : leadsB 2 1 v = false := by
  have : okL v = false := by unfold okL; rw [decide_eq_false h]; rfl
  unfold leadsB
  rw [this]; rfl
theorem no_four (a b c d : Int) (h : ¬ (1 ≤ a ∧ b = 2 ∧ c = 1 ∧ 0 ≤ d)) : leadsB 2 1 [a, b, c, d] = false := by
  unfold leadsB
  cases ho : okL [a, b, c, d]
  · rfl
  · rw [lease_of4 a b c d ho]
    rw [okL4', decide_eq_true_eq] at ho
    rw [Bool.true_and]
    show ((2 : Int) == b && (1 : Int) == c) = false
    rw [Bool.and_eq_false_iff, beq_eq_false_iff_ne, beq_eq_false_iff_ne]
    omega
theorem yes_four (a d : Int) (h : 1 ≤ a ∧ 0 ≤ d) (t : Int) : leadsB 2 1 [a, 2, 1, d] = true ∧ leadsN 2 1 [a, 2, 1, d] = a ∧ wantOf 2 1 t true [a, 2, 1, d] 0 = (2, [a, 2, 1, d], [a, 2, 1, wrap64 (d + 1)]) := by
  have ho : okL [a, 2, 1, d] = true := by rw [okL4', decide_eq_true_eq]; omega
  have hb : leadsB 2 1 [a, 2, 1, d] = true := by unfold leadsB; rw [ho, lease_of4 _ _ _ _ ho]; rfl
  have hn : leadsN 2 1 [a, 2, 1, d] = a := by unfold leadsN; rw [if_pos hb, lease_of4 _ _ _ _ ho]
  refine ⟨hb, hn, ?_⟩
  unfold wantOf
  rw [if_pos rfl, if_pos hb, lease_of4 _ _ _ _ ho]
theorem saw_zero (sw : Bool) (v x : List Int) : sawAge sw v x 0 = 0 := by unfold sawAge; split <;> rfl
theorem leadsN_no {v : List Int} (h : leadsB 2 1 v = false) : leadsN 2 1 v = 0 := by unfold leadsN; rw [h]; rfl
set_option maxHeartbeats 16000000 in
set_option maxRecDepth 100000 in
theorem sees_any (A1 : Option Addr) (c1 : Nat) (vs : List (List Int)) (a : Int) (W : World) (hr : (Kd.slice 3 (Kd.int .i64)).C W A1 vs.length vs) (hc : vs.length ≤ c1) : Calls Try.prog 5 #[.slice A1 vs.length c1, .int .i64 a] W fun e w' => e = .returned (.bool true) ∧ Below W.heap.size W w' := by
  have hu32 := Try.underlying32
  have hu34 := Try.underlying34
  have hu39 := Try.underlying39
  have HV := Aside0.mk hr
  clear hr
  by_cases h2 : vs.length ≤ 200
  case neg =>
    have h2b : decide (200 < (vs.length : Int)) = true := decide_eq_true (by omega)
    go_enter Try.func5, Try.ntmps5
    go_wp2_with fail
    refine (alive_any _).mono ?_
    rintro e w1 ⟨rfl, hb1⟩
    have HB := Aside0.mk hb1
    clear hb1
    go_wp2_with fail
    go_ret
    exact ⟨rfl, HB.out⟩
  have h2b : decide (200 < (vs.length : Int)) = false := decide_eq_false (by omega)
  go_enter Try.func5, Try.ntmps5
  go_wp2_with fail
  refine (alive_any _).mono ?_
  rintro e w1 ⟨rfl, hb1⟩
  have HB2 := Aside0.mk hb1
  clear hb1
  go_wp2_with fail
  obtain ⟨t, ht, ht1, ht2⟩ := umod_one a 20 (by omega)
  rw [ht]
  clear ht
  refine (new_c _ (2) (1) ((t : Int)) (by unfold newOk; exact decide_eq_true (by omega))).mono ?_
  rintro e w3 ⟨gw3, rfl, hge3, hW3, hb3⟩
  have GSw3 : Aside0 (W.heap.size ≤ gw3) := ⟨Nat.le_trans HB2.out.size hge3⟩
  have HB4 := Aside0.mk (below_step HB2.out hb3)
  clear hb3
  have Wfw3 := Aside0.mk hW3
  clear hW3 hge3
  clear h2b
  go_wp2_with fail
  go_loopw [31] (fun v31 w' => ∃ k : Nat, k ≤ vs.length ∧ v31 = .int .i64 k ∧ Aside0 (∃ sw v, WAt w' gw3 2 1 t sw v 0) ∧ Aside0 (Below W.heap.size W w')) (fun v _ => vs.length - (intOf v).toNat)
  case atStart => exact ⟨0, by omega, rfl, ⟨⟨false, [], Wfw3.out⟩⟩, HB4⟩
  case round =>
    obtain ⟨k, hk, rfl, HO, HW⟩ := hrel
    by_cases hlt : k < vs.length
    case neg =>
      go_wp2_with fail
      go_ret
      exact ⟨rfl, HW.out⟩
    obtain ⟨ad0, B, cB, hA1, hcell0, hcB, hC0⟩ := row_at HV.out k hlt
    obtain rfl := hA1
    have hcell := pw_cell_below HW.out hcell0
    obtain ⟨n, hn⟩ : ∃ n, n = vs[k]'hlt := ⟨_, rfl⟩
    rw [← hn] at hcell hcB hC0
    have HC0 := Aside0.mk hC0
    have HcB := Aside0.mk hcB
    clear hn hcell0 hC0 hcB
    obtain ⟨sw, v, hWA⟩ := HO.out
    have HWA := Aside0.mk hWA
    clear hWA
    by_cases h100 : n.length ≤ 100
    case neg =>
      have hd : decide (100 < (n.length : Int)) = true := decide_eq_true (by omega)
      go_wp2_with fail
      go_ret
      exact ⟨rfl, HW.out⟩
    have hd : decide (100 < (n.length : Int)) = false := decide_eq_false (by omega)
    have HS := Aside0.mk (show sawAge sw v n 0 = 0 from saw_zero sw v n)
    go_upto_region 13 with fail
    clear hcell hd
    have hcases : n.length ≠ 4 ∨ n.length = 4 := by omega
    rcases hcases with h4 | h4
    · have HNO := Aside0.mk (no_len n h4)
      have HN0 := Aside0.mk (leadsN_no HNO.out)
      have h4b : ((n.length : Int) == 4) = false := beq_eq_false_iff_ne.2 (by omega)
      clear h4
      go_wp2_with fail
      refine (saw_c _ gw3 (2) (1) (t) (sw) (v) (0) HWA.out B cB n (Kd.C_below HC0.out HW.out) HcB.out (by first | omega | (simp; done))).mono ?_
      rw [show sawAge _ _ _ _ = 0 from HS.out]
      rintro e w1 ⟨rfl, hW1, hg1⟩
      have HB2 := Aside0.mk (below_watch HW.out hg1 GSw3.out)
      have Wfw2 := Aside0.mk hW1
      clear hW1 hg1
      go_wp2_with fail
      have hld := leads_c _ gw3 (2) (1) (t) (true) (n) (0) Wfw2.out
      rw [HN0.out, HNO.out] at hld
      refine hld.mono ?_
      rintro e w20 ⟨rfl, hb20⟩
      clear hld
      have HB3 := Aside0.mk (below_step HB2.out hb20)
      have Wfw3 := Aside0.mk (WAt.below Wfw2.out hb20)
      clear hb20
      go_wp2_with fail
      refine (age_c _ gw3 (2) (1) (t) (true) (n) (0) Wfw3.out).mono ?_
      rintro e w21 ⟨rfl, hb21⟩
      have HB4 := Aside0.mk (below_step HB3.out hb21)
      have Wfw4 := Aside0.mk (WAt.below Wfw3.out hb21)
      clear hb21
      go_wp2_with fail
      obtain ⟨ch, hch⟩ : ∃ ch, wantOf 2 1 t true n 0 = ch := ⟨_, rfl⟩
      have HCH := Aside0.mk hch
      clear hch
      have hwt := want_c _ gw3 (2) (1) (t) (true) (n) (0) Wfw4.out
      rw [HCH.out] at hwt
      refine hwt.mono ?_
      rintro e w22 ⟨Ba, da, Ca, fa, rfl, _, _, hb22⟩
      clear hwt
      have HB6 := Aside0.mk (below_step HB4.out hb22)
      have Wfw6 := Aside0.mk (WAt.below Wfw4.out hb22)
      clear hb22
      go_wp2_with fail
      obtain ⟨W7, hw7⟩ : ∃ x : World, x = w22.alloc (.cells #[.int .i64 ch.1, .slice Ba ch.2.1.length da, .slice Ca ch.2.2.length fa] 39) := ⟨_, rfl⟩
      have hbs7 : Below w22.heap.size w22 W7 := by rw [hw7]; repeat (first | exact Below.refl _ _ | refine below_alloc ?_ _ | refine below_drew ?_)
      obtain ⟨gc7, hgc7⟩ : ∃ x, x = w22.heap.size := ⟨_, rfl⟩
      have GSc7 : Aside0 (W.heap.size ≤ gc7) := ⟨by rw [hgc7]; have := HB6.out.size; omega⟩
      have Bc7 : Aside0 (W7.heap[gc7]? = some (.cells #[.int .i64 ch.1, .slice Ba ch.2.1.length da, .slice Ca ch.2.2.length fa] 39 (0, 0))) := ⟨by rw [hw7, hgc7]; exact blk_new _ _⟩
      rw [← hw7]
      rw [← hgc7]
      clear hw7 hgc7
      have HB8 := Aside0.mk (below_step HB6.out hbs7)
      have Wfw8 := Aside0.mk (WAt.below Wfw6.out hbs7)
      clear hbs7
      refine start_ (n := 27) (S := fun w' => True) (ds := []) #[false, false, false, false, false, false, false, false, false, false, false, false, false, false, false, false, false, false, false, false, false, false, false, false, false, false, false] (by kernel_rfl) rfl rfl trivial (fun hHeld => ?_)
      refine pure_ (i := 0) (N := some 93) (v := ?_) (a' := ?_) #[true, false, false, false, false, false, false, false, false, false, false, false, false, false, false, false, false, false, false, false, false, false, false, false, false, false, false] rfl rfl (by kernel_rfl) (fun _ _ _ h => h) (Or.inl ⟨by rfl, ?_⟩) ?_ ?_
      rotate_left
      · intro w'
        go_simp
        with_reducible rfl
      rotate_left
      · simp only [Act.put, List.setIfInBounds_toArray, List.set_cons_zero, List.set_cons_succ, i64_w, i32_w]
        rfl
      refine pure_ (i := 1) (N := some 94) (v := ?_) (a' := ?_) #[true, true, false, false, false, false, false, false, false, false, false, false, false, false, false, false, false, false, false, false, false, false, false, false, false, false, false] rfl rfl (by kernel_rfl) (fun _ _ _ h => h) (Or.inl ⟨by rfl, ?_⟩) ?_ ?_
      rotate_left
      · intro w'
        go_simp
        with_reducible rfl
      rotate_left
      · simp only [Act.put, List.setIfInBounds_toArray, List.set_cons_zero, List.set_cons_succ, i64_w, i32_w]
        rfl
      refine pure_ (i := 2) (N := some 95) (v := undef) (a' := ?_) #[true, true, true, false, false, false, false, false, false, false, false, false, false, false, false, false, false, false, false, false, false, false, false, false, false, false, false] rfl rfl (by kernel_rfl) (fun _ _ _ h => h) (Or.inr ⟨by rfl, rfl⟩) ?_ ?_
      rotate_left
      · simp only [Act.put, List.setIfInBounds_toArray, List.set_cons_zero, List.set_cons_succ, i64_w, i32_w]
        rfl
      refine pure_ (i := 3) (N := some 96) (v := undef) (a' := ?_) #[true, true, true, true, false, false, false, false, false, false, false, false, false, false, false, false, false, false, false, false, false, false, false, false, false, false, false] rfl rfl (by kernel_rfl) (fun _ _ _ h => h) (Or.inr ⟨by rfl, rfl⟩) ?_ ?_
      rotate_left
      · simp only [Act.put, List.setIfInBounds_toArray, List.set_cons_zero, List.set_cons_succ, i64_w, i32_w]
        rfl
      refine pure_ (i := 4) (N := some 97) (v := undef) (a' := ?_) #[true, true, true, true, true, false, false, false, false, false, false, false, false, false, false, false, false, false, false, false, false, false, false, false, false, false, false] rfl rfl (by kernel_rfl) (fun _ _ _ h => h) (Or.inr ⟨by rfl, rfl⟩) ?_ ?_
      rotate_left
      · simp only [Act.put, List.setIfInBounds_toArray, List.set_cons_zero, List.set_cons_succ, i64_w, i32_w]
        rfl
      refine pure_ (i := 5) (N := some 98) (v := undef) (a' := ?_) #[true, true, true, true, true, true, false, false, false, false, false, false, false, false, false, false, false, false, false, false, false, false, false, false, false, false, false] rfl rfl (by kernel_rfl) (fun _ _ _ h => h) (Or.inr ⟨by rfl, rfl⟩) ?_ ?_
      rotate_left
      · simp only [Act.put, List.setIfInBounds_toArray, List.set_cons_zero, List.set_cons_succ, i64_w, i32_w]
        rfl
      refine pure_ (i := 6) (N := some 99) (v := undef) (a' := ?_) #[true, true, true, true, true, true, true, false, false, false, false, false, false, false, false, false, false, false, false, false, false, false, false, false, false, false, false] rfl rfl (by kernel_rfl) (fun _ _ _ h => h) (Or.inr ⟨by rfl, rfl⟩) ?_ ?_
      rotate_left
      · simp only [Act.put, List.setIfInBounds_toArray, List.set_cons_zero, List.set_cons_succ, i64_w, i32_w]
        rfl
      refine pure_ (i := 7) (N := some 100) (v := undef) (a' := ?_) #[true, true, true, true, true, true, true, true, false, false, false, false, false, false, false, false, false, false, false, false, false, false, false, false, false, false, false] rfl rfl (by kernel_rfl) (fun _ _ _ h => h) (Or.inr ⟨by rfl, rfl⟩) ?_ ?_
      rotate_left
      · simp only [Act.put, List.setIfInBounds_toArray, List.set_cons_zero, List.set_cons_succ, i64_w, i32_w]
        rfl
      refine pure_ (i := 8) (N := some 101) (v := undef) (a' := ?_) #[true, true, true, true, true, true, true, true, true, false, false, false, false, false, false, false, false, false, false, false, false, false, false, false, false, false, false] rfl rfl (by kernel_rfl) (fun _ _ _ h => h) (Or.inr ⟨by rfl, rfl⟩) ?_ ?_
      rotate_left
      · simp only [Act.put, List.setIfInBounds_toArray, List.set_cons_zero, List.set_cons_succ, i64_w, i32_w]
        rfl
      refine pure_ (i := 9) (N := some 102) (v := undef) (a' := ?_) #[true, true, true, true, true, true, true, true, true, true, false, false, false, false, false, false, false, false, false, false, false, false, false, false, false, false, false] rfl rfl (by kernel_rfl) (fun _ _ _ h => h) (Or.inr ⟨by rfl, rfl⟩) ?_ ?_
      rotate_left
      · simp only [Act.put, List.setIfInBounds_toArray, List.set_cons_zero, List.set_cons_succ, i64_w, i32_w]
        rfl
      refine pure_ (i := 10) (N := some 103) (v := undef) (a' := ?_) #[true, true, true, true, true, true, true, true, true, true, true, false, false, false, false, false, false, false, false, false, false, false, false, false, false, false, false] rfl rfl (by kernel_rfl) (fun _ _ _ h => h) (Or.inr ⟨by rfl, rfl⟩) ?_ ?_
      rotate_left
      · simp only [Act.put, List.setIfInBounds_toArray, List.set_cons_zero, List.set_cons_succ, i64_w, i32_w]
        rfl
      refine pure_ (i := 11) (N := some 104) (v := undef) (a' := ?_) #[true, true, true, true, true, true, true, true, true, true, true, true, false, false, false, false, false, false, false, false, false, false, false, false, false, false, false] rfl rfl (by kernel_rfl) (fun _ _ _ h => h) (Or.inr ⟨by rfl, rfl⟩) ?_ ?_
      rotate_left
      · simp only [Act.put, List.setIfInBounds_toArray, List.set_cons_zero, List.set_cons_succ, i64_w, i32_w]
        rfl
      refine pure_ (i := 12) (N := some 105) (v := undef) (a' := ?_) #[true, true, true, true, true, true, true, true, true, true, true, true, true, false, false, false, false, false, false, false, false, false, false, false, false, false, false] rfl rfl (by kernel_rfl) (fun _ _ _ h => h) (Or.inr ⟨by rfl, rfl⟩) ?_ ?_
      rotate_left
      · simp only [Act.put, List.setIfInBounds_toArray, List.set_cons_zero, List.set_cons_succ, i64_w, i32_w]
        rfl
      refine pure_ (i := 13) (N := some 106) (v := undef) (a' := ?_) #[true, true, true, true, true, true, true, true, true, true, true, true, true, true, false, false, false, false, false, false, false, false, false, false, false, false, false] rfl rfl (by kernel_rfl) (fun _ _ _ h => h) (Or.inr ⟨by rfl, rfl⟩) ?_ ?_
      rotate_left
      · simp only [Act.put, List.setIfInBounds_toArray, List.set_cons_zero, List.set_cons_succ, i64_w, i32_w]
        rfl
      refine pure_ (i := 14) (N := some 107) (v := undef) (a' := ?_) #[true, true, true, true, true, true, true, true, true, true, true, true, true, true, true, false, false, false, false, false, false, false, false, false, false, false, false] rfl rfl (by kernel_rfl) (fun _ _ _ h => h) (Or.inr ⟨by rfl, rfl⟩) ?_ ?_
      rotate_left
      · simp only [Act.put, List.setIfInBounds_toArray, List.set_cons_zero, List.set_cons_succ, i64_w, i32_w]
        rfl
      refine pure_ (i := 15) (N := some 108) (v := undef) (a' := ?_) #[true, true, true, true, true, true, true, true, true, true, true, true, true, true, true, true, false, false, false, false, false, false, false, false, false, false, false] rfl rfl (by kernel_rfl) (fun _ _ _ h => h) (Or.inr ⟨by rfl, rfl⟩) ?_ ?_
      rotate_left
      · simp only [Act.put, List.setIfInBounds_toArray, List.set_cons_zero, List.set_cons_succ, i64_w, i32_w]
        rfl
      refine pure_ (i := 16) (N := some 109) (v := undef) (a' := ?_) #[true, true, true, true, true, true, true, true, true, true, true, true, true, true, true, true, true, false, false, false, false, false, false, false, false, false, false] rfl rfl (by kernel_rfl) (fun _ _ _ h => h) (Or.inr ⟨by rfl, rfl⟩) ?_ ?_
      rotate_left
      · simp only [Act.put, List.setIfInBounds_toArray, List.set_cons_zero, List.set_cons_succ, i64_w, i32_w]
        rfl
      refine pure_ (i := 17) (N := some 110) (v := undef) (a' := ?_) #[true, true, true, true, true, true, true, true, true, true, true, true, true, true, true, true, true, true, false, false, false, false, false, false, false, false, false] rfl rfl (by kernel_rfl) (fun _ _ _ h => h) (Or.inr ⟨by rfl, rfl⟩) ?_ ?_
      rotate_left
      · simp only [Act.put, List.setIfInBounds_toArray, List.set_cons_zero, List.set_cons_succ, i64_w, i32_w]
        rfl
      refine pure_ (i := 18) (N := some 111) (v := undef) (a' := ?_) #[true, true, true, true, true, true, true, true, true, true, true, true, true, true, true, true, true, true, true, false, false, false, false, false, false, false, false] rfl rfl (by kernel_rfl) (fun _ _ _ h => h) (Or.inr ⟨by rfl, rfl⟩) ?_ ?_
      rotate_left
      · simp only [Act.put, List.setIfInBounds_toArray, List.set_cons_zero, List.set_cons_succ, i64_w, i32_w]
        rfl
      refine pure_ (i := 19) (N := some 112) (v := undef) (a' := ?_) #[true, true, true, true, true, true, true, true, true, true, true, true, true, true, true, true, true, true, true, true, false, false, false, false, false, false, false] rfl rfl (by kernel_rfl) (fun _ _ _ h => h) (Or.inr ⟨by rfl, rfl⟩) ?_ ?_
      rotate_left
      · simp only [Act.put, List.setIfInBounds_toArray, List.set_cons_zero, List.set_cons_succ, i64_w, i32_w]
        rfl
      refine pure_ (i := 20) (N := some 113) (v := undef) (a' := ?_) #[true, true, true, true, true, true, true, true, true, true, true, true, true, true, true, true, true, true, true, true, true, false, false, false, false, false, false] rfl rfl (by kernel_rfl) (fun _ _ _ h => h) (Or.inr ⟨by rfl, rfl⟩) ?_ ?_
      rotate_left
      · simp only [Act.put, List.setIfInBounds_toArray, List.set_cons_zero, List.set_cons_succ, i64_w, i32_w]
        rfl
      refine pure_ (i := 21) (N := some 114) (v := undef) (a' := ?_) #[true, true, true, true, true, true, true, true, true, true, true, true, true, true, true, true, true, true, true, true, true, true, false, false, false, false, false] rfl rfl (by kernel_rfl) (fun _ _ _ h => h) (Or.inr ⟨by rfl, rfl⟩) ?_ ?_
      rotate_left
      · simp only [Act.put, List.setIfInBounds_toArray, List.set_cons_zero, List.set_cons_succ, i64_w, i32_w]
        rfl
      refine pure_ (i := 22) (N := some 115) (v := undef) (a' := ?_) #[true, true, true, true, true, true, true, true, true, true, true, true, true, true, true, true, true, true, true, true, true, true, true, false, false, false, false] rfl rfl (by kernel_rfl) (fun _ _ _ h => h) (Or.inr ⟨by rfl, rfl⟩) ?_ ?_
      rotate_left
      · simp only [Act.put, List.setIfInBounds_toArray, List.set_cons_zero, List.set_cons_succ, i64_w, i32_w]
        rfl
      refine pure_ (i := 23) (N := some 116) (v := undef) (a' := ?_) #[true, true, true, true, true, true, true, true, true, true, true, true, true, true, true, true, true, true, true, true, true, true, true, true, false, false, false] rfl rfl (by kernel_rfl) (fun _ _ _ h => h) (Or.inr ⟨by rfl, rfl⟩) ?_ ?_
      rotate_left
      · simp only [Act.put, List.setIfInBounds_toArray, List.set_cons_zero, List.set_cons_succ, i64_w, i32_w]
        rfl
      refine pure_ (i := 24) (N := some 117) (v := undef) (a' := ?_) #[true, true, true, true, true, true, true, true, true, true, true, true, true, true, true, true, true, true, true, true, true, true, true, true, true, false, false] rfl rfl (by kernel_rfl) (fun _ _ _ h => h) (Or.inr ⟨by rfl, rfl⟩) ?_ ?_
      rotate_left
      · simp only [Act.put, List.setIfInBounds_toArray, List.set_cons_zero, List.set_cons_succ, i64_w, i32_w]
        rfl
      refine pure_ (i := 25) (N := some 118) (v := undef) (a' := ?_) #[true, true, true, true, true, true, true, true, true, true, true, true, true, true, true, true, true, true, true, true, true, true, true, true, true, true, false] rfl rfl (by kernel_rfl) (fun _ _ _ h => h) (Or.inr ⟨by rfl, rfl⟩) ?_ ?_
      rotate_left
      · simp only [Act.put, List.setIfInBounds_toArray, List.set_cons_zero, List.set_cons_succ, i64_w, i32_w]
        rfl
      refine pure_ (i := 26) (N := some 119) (v := ?_) (a' := ?_) #[true, true, true, true, true, true, true, true, true, true, true, true, true, true, true, true, true, true, true, true, true, true, true, true, true, true, true] rfl rfl (by kernel_rfl) (fun _ _ _ h => h) (Or.inl ⟨by rfl, ?_⟩) ?_ ?_
      rotate_left
      · intro w'
        go_simp
        with_reducible rfl
      rotate_left
      · simp only [Act.put, List.setIfInBounds_toArray, List.set_cons_zero, List.set_cons_succ, i64_w, i32_w]
        rfl
      refine done_ (by kernel_rfl) ?_
      obtain ⟨W9, hw9⟩ : ∃ x : World, x = W7.drew := ⟨_, rfl⟩
      have hbd9 : Below W7.heap.size W7 W9 := by rw [hw9]; exact below_drew (Below.refl _ _)
      rw [← hw9]
      clear hw9
      have HB10 := Aside0.mk (below_step HB8.out hbd9)
      have Bc10 : Aside0 (W9.heap[gc7]? = some (.cells #[.int .i64 ch.1, .slice Ba ch.2.1.length da, .slice Ca ch.2.2.length fa] 39 (0, 0))) := ⟨(hbd9.block _ (blk_lt Bc7.out)).trans Bc7.out⟩
      have Wfw10 := Aside0.mk (WAt.below Wfw8.out hbd9)
      clear hbd9
      go_wp2_with fail
      go_roundw
      case rel => exact ⟨k + 1, by omega, by go_num, ⟨⟨true, n, Wfw10.out⟩⟩, HB10⟩
      case measure => simp [intOf]; omega
    · obtain ⟨x0, x1, x2, x3, rfl⟩ := four h4
      clear h4
      obtain ⟨ad, hAd⟩ := C4 HC0.out
      subst hAd
      have hcs : (¬ 1 ≤ x0) ∨ (1 ≤ x0 ∧ x1 ≠ 2) ∨ (1 ≤ x0 ∧ x1 = 2 ∧ x2 ≠ 1) ∨ (1 ≤ x0 ∧ x1 = 2 ∧ x2 = 1 ∧ ¬ 0 ≤ x3) ∨ (1 ≤ x0 ∧ x1 = 2 ∧ x2 = 1 ∧ 0 ≤ x3) := by omega
      rcases hcs with e0 | ⟨e0, e1⟩ | ⟨e0, e1, e2⟩ | ⟨e0, e1, e2, e3⟩ | ⟨e0, e1, e2, e3⟩
      · have HNO := Aside0.mk (no_four x0 x1 x2 x3 (by omega))
        have HN0 := Aside0.mk (leadsN_no HNO.out)
        have d0 : decide (1 ≤ x0) = false := decide_eq_false e0
        clear e0
        go_wp2_with fail
        refine (saw_c _ gw3 (2) (1) (t) (sw) (v) (0) HWA.out (some ad) cB [x0, x1, x2, x3] (Kd.C_below HC0.out HW.out) HcB.out (by first | omega | (simp; done))).mono ?_
        rw [show sawAge _ _ _ _ = 0 from HS.out]
        rintro e w1 ⟨rfl, hW1, hg1⟩
        have HB2 := Aside0.mk (below_watch HW.out hg1 GSw3.out)
        have Wfw2 := Aside0.mk hW1
        clear hW1 hg1
        obtain ⟨c0a, c1a, c2a, c3a⟩ := C4' (Kd.C_below HC0.out HB2.out)
        go_wp2_with fail
        have hld := leads_c _ gw3 (2) (1) (t) (true) ([x0, x1, x2, x3]) (0) Wfw2.out
        rw [HN0.out, HNO.out] at hld
        refine hld.mono ?_
        rintro e w20 ⟨rfl, hb20⟩
        clear hld
        clear c0a c1a c2a c3a
        have HB3 := Aside0.mk (below_step HB2.out hb20)
        have Wfw3 := Aside0.mk (WAt.below Wfw2.out hb20)
        clear hb20
        obtain ⟨c0b, c1b, c2b, c3b⟩ := C4' (Kd.C_below HC0.out HB3.out)
        go_wp2_with fail
        refine (age_c _ gw3 (2) (1) (t) (true) ([x0, x1, x2, x3]) (0) Wfw3.out).mono ?_
        rintro e w21 ⟨rfl, hb21⟩
        clear c0b c1b c2b c3b
        have HB4 := Aside0.mk (below_step HB3.out hb21)
        have Wfw4 := Aside0.mk (WAt.below Wfw3.out hb21)
        clear hb21
        go_wp2_with fail
        obtain ⟨ch, hch⟩ : ∃ ch, wantOf 2 1 t true [x0, x1, x2, x3] 0 = ch := ⟨_, rfl⟩
        have HCH := Aside0.mk hch
        clear hch
        have hwt := want_c _ gw3 (2) (1) (t) (true) ([x0, x1, x2, x3]) (0) Wfw4.out
        rw [HCH.out] at hwt
        refine hwt.mono ?_
        rintro e w22 ⟨Ba, da, Ca, fa, rfl, _, _, hb22⟩
        clear hwt
        have HB6 := Aside0.mk (below_step HB4.out hb22)
        have Wfw6 := Aside0.mk (WAt.below Wfw4.out hb22)
        clear hb22
        go_wp2_with fail
        obtain ⟨W7, hw7⟩ : ∃ x : World, x = w22.alloc (.cells #[.int .i64 ch.1, .slice Ba ch.2.1.length da, .slice Ca ch.2.2.length fa] 39) := ⟨_, rfl⟩
        have hbs7 : Below w22.heap.size w22 W7 := by rw [hw7]; repeat (first | exact Below.refl _ _ | refine below_alloc ?_ _ | refine below_drew ?_)
        obtain ⟨gc7, hgc7⟩ : ∃ x, x = w22.heap.size := ⟨_, rfl⟩
        have GSc7 : Aside0 (W.heap.size ≤ gc7) := ⟨by rw [hgc7]; have := HB6.out.size; omega⟩
        have Bc7 : Aside0 (W7.heap[gc7]? = some (.cells #[.int .i64 ch.1, .slice Ba ch.2.1.length da, .slice Ca ch.2.2.length fa] 39 (0, 0))) := ⟨by rw [hw7, hgc7]; exact blk_new _ _⟩
        rw [← hw7]
        rw [← hgc7]
        clear hw7 hgc7
        have HB8 := Aside0.mk (below_step HB6.out hbs7)
        have Wfw8 := Aside0.mk (WAt.below Wfw6.out hbs7)
        clear hbs7
        refine start_ (n := 27) (S := fun w' => True) (ds := []) #[false, false, false, false, false, false, false, false, false, false, false, false, false, false, false, false, false, false, false, false, false, false, false, false, false, false, false] (by kernel_rfl) rfl rfl trivial (fun hHeld => ?_)
        refine pure_ (i := 0) (N := some 93) (v := ?_) (a' := ?_) #[true, false, false, false, false, false, false, false, false, false, false, false, false, false, false, false, false, false, false, false, false, false, false, false, false, false, false] rfl rfl (by kernel_rfl) (fun _ _ _ h => h) (Or.inl ⟨by rfl, ?_⟩) ?_ ?_
        rotate_left
        · intro w'
          go_simp
          with_reducible rfl
        rotate_left
        · simp only [Act.put, List.setIfInBounds_toArray, List.set_cons_zero, List.set_cons_succ, i64_w, i32_w]
          rfl
        refine pure_ (i := 1) (N := some 94) (v := ?_) (a' := ?_) #[true, true, false, false, false, false, false, false, false, false, false, false, false, false, false, false, false, false, false, false, false, false, false, false, false, false, false] rfl rfl (by kernel_rfl) (fun _ _ _ h => h) (Or.inl ⟨by rfl, ?_⟩) ?_ ?_
        rotate_left
        · intro w'
          go_simp
          with_reducible rfl
        rotate_left
        · simp only [Act.put, List.setIfInBounds_toArray, List.set_cons_zero, List.set_cons_succ, i64_w, i32_w]
          rfl
        refine pure_ (i := 2) (N := some 95) (v := undef) (a' := ?_) #[true, true, true, false, false, false, false, false, false, false, false, false, false, false, false, false, false, false, false, false, false, false, false, false, false, false, false] rfl rfl (by kernel_rfl) (fun _ _ _ h => h) (Or.inr ⟨by rfl, rfl⟩) ?_ ?_
        rotate_left
        · simp only [Act.put, List.setIfInBounds_toArray, List.set_cons_zero, List.set_cons_succ, i64_w, i32_w]
          rfl
        refine pure_ (i := 3) (N := some 96) (v := undef) (a' := ?_) #[true, true, true, true, false, false, false, false, false, false, false, false, false, false, false, false, false, false, false, false, false, false, false, false, false, false, false] rfl rfl (by kernel_rfl) (fun _ _ _ h => h) (Or.inr ⟨by rfl, rfl⟩) ?_ ?_
        rotate_left
        · simp only [Act.put, List.setIfInBounds_toArray, List.set_cons_zero, List.set_cons_succ, i64_w, i32_w]
          rfl
        refine pure_ (i := 4) (N := some 97) (v := undef) (a' := ?_) #[true, true, true, true, true, false, false, false, false, false, false, false, false, false, false, false, false, false, false, false, false, false, false, false, false, false, false] rfl rfl (by kernel_rfl) (fun _ _ _ h => h) (Or.inr ⟨by rfl, rfl⟩) ?_ ?_
        rotate_left
        · simp only [Act.put, List.setIfInBounds_toArray, List.set_cons_zero, List.set_cons_succ, i64_w, i32_w]
          rfl
        refine pure_ (i := 5) (N := some 98) (v := undef) (a' := ?_) #[true, true, true, true, true, true, false, false, false, false, false, false, false, false, false, false, false, false, false, false, false, false, false, false, false, false, false] rfl rfl (by kernel_rfl) (fun _ _ _ h => h) (Or.inr ⟨by rfl, rfl⟩) ?_ ?_
        rotate_left
        · simp only [Act.put, List.setIfInBounds_toArray, List.set_cons_zero, List.set_cons_succ, i64_w, i32_w]
          rfl
        refine pure_ (i := 6) (N := some 99) (v := undef) (a' := ?_) #[true, true, true, true, true, true, true, false, false, false, false, false, false, false, false, false, false, false, false, false, false, false, false, false, false, false, false] rfl rfl (by kernel_rfl) (fun _ _ _ h => h) (Or.inr ⟨by rfl, rfl⟩) ?_ ?_
        rotate_left
        · simp only [Act.put, List.setIfInBounds_toArray, List.set_cons_zero, List.set_cons_succ, i64_w, i32_w]
          rfl
        refine pure_ (i := 7) (N := some 100) (v := undef) (a' := ?_) #[true, true, true, true, true, true, true, true, false, false, false, false, false, false, false, false, false, false, false, false, false, false, false, false, false, false, false] rfl rfl (by kernel_rfl) (fun _ _ _ h => h) (Or.inr ⟨by rfl, rfl⟩) ?_ ?_
        rotate_left
        · simp only [Act.put, List.setIfInBounds_toArray, List.set_cons_zero, List.set_cons_succ, i64_w, i32_w]
          rfl
        refine pure_ (i := 8) (N := some 101) (v := undef) (a' := ?_) #[true, true, true, true, true, true, true, true, true, false, false, false, false, false, false, false, false, false, false, false, false, false, false, false, false, false, false] rfl rfl (by kernel_rfl) (fun _ _ _ h => h) (Or.inr ⟨by rfl, rfl⟩) ?_ ?_
        rotate_left
        · simp only [Act.put, List.setIfInBounds_toArray, List.set_cons_zero, List.set_cons_succ, i64_w, i32_w]
          rfl
        refine pure_ (i := 9) (N := some 102) (v := undef) (a' := ?_) #[true, true, true, true, true, true, true, true, true, true, false, false, false, false, false, false, false, false, false, false, false, false, false, false, false, false, false] rfl rfl (by kernel_rfl) (fun _ _ _ h => h) (Or.inr ⟨by rfl, rfl⟩) ?_ ?_
        rotate_left
        · simp only [Act.put, List.setIfInBounds_toArray, List.set_cons_zero, List.set_cons_succ, i64_w, i32_w]
          rfl
        refine pure_ (i := 10) (N := some 103) (v := undef) (a' := ?_) #[true, true, true, true, true, true, true, true, true, true, true, false, false, false, false, false, false, false, false, false, false, false, false, false, false, false, false] rfl rfl (by kernel_rfl) (fun _ _ _ h => h) (Or.inr ⟨by rfl, rfl⟩) ?_ ?_
        rotate_left
        · simp only [Act.put, List.setIfInBounds_toArray, List.set_cons_zero, List.set_cons_succ, i64_w, i32_w]
          rfl
        refine pure_ (i := 11) (N := some 104) (v := undef) (a' := ?_) #[true, true, true, true, true, true, true, true, true, true, true, true, false, false, false, false, false, false, false, false, false, false, false, false, false, false, false] rfl rfl (by kernel_rfl) (fun _ _ _ h => h) (Or.inr ⟨by rfl, rfl⟩) ?_ ?_
        rotate_left
        · simp only [Act.put, List.setIfInBounds_toArray, List.set_cons_zero, List.set_cons_succ, i64_w, i32_w]
          rfl
        refine pure_ (i := 12) (N := some 105) (v := undef) (a' := ?_) #[true, true, true, true, true, true, true, true, true, true, true, true, true, false, false, false, false, false, false, false, false, false, false, false, false, false, false] rfl rfl (by kernel_rfl) (fun _ _ _ h => h) (Or.inr ⟨by rfl, rfl⟩) ?_ ?_
        rotate_left
        · simp only [Act.put, List.setIfInBounds_toArray, List.set_cons_zero, List.set_cons_succ, i64_w, i32_w]
          rfl
        refine pure_ (i := 13) (N := some 106) (v := undef) (a' := ?_) #[true, true, true, true, true, true, true, true, true, true, true, true, true, true, false, false, false, false, false, false, false, false, false, false, false, false, false] rfl rfl (by kernel_rfl) (fun _ _ _ h => h) (Or.inr ⟨by rfl, rfl⟩) ?_ ?_
        rotate_left
        · simp only [Act.put, List.setIfInBounds_toArray, List.set_cons_zero, List.set_cons_succ, i64_w, i32_w]
          rfl
        refine pure_ (i := 14) (N := some 107) (v := undef) (a' := ?_) #[true, true, true, true, true, true, true, true, true, true, true, true, true, true, true, false, false, false, false, false, false, false, false, false, false, false, false] rfl rfl (by kernel_rfl) (fun _ _ _ h => h) (Or.inr ⟨by rfl, rfl⟩) ?_ ?_
        rotate_left
        · simp only [Act.put, List.setIfInBounds_toArray, List.set_cons_zero, List.set_cons_succ, i64_w, i32_w]
          rfl
        refine pure_ (i := 15) (N := some 108) (v := undef) (a' := ?_) #[true, true, true, true, true, true, true, true, true, true, true, true, true, true, true, true, false, false, false, false, false, false, false, false, false, false, false] rfl rfl (by kernel_rfl) (fun _ _ _ h => h) (Or.inr ⟨by rfl, rfl⟩) ?_ ?_
        rotate_left
        · simp only [Act.put, List.setIfInBounds_toArray, List.set_cons_zero, List.set_cons_succ, i64_w, i32_w]
          rfl
        refine pure_ (i := 16) (N := some 109) (v := undef) (a' := ?_) #[true, true, true, true, true, true, true, true, true, true, true, true, true, true, true, true, true, false, false, false, false, false, false, false, false, false, false] rfl rfl (by kernel_rfl) (fun _ _ _ h => h) (Or.inr ⟨by rfl, rfl⟩) ?_ ?_
        rotate_left
        · simp only [Act.put, List.setIfInBounds_toArray, List.set_cons_zero, List.set_cons_succ, i64_w, i32_w]
          rfl
        refine pure_ (i := 17) (N := some 110) (v := undef) (a' := ?_) #[true, true, true, true, true, true, true, true, true, true, true, true, true, true, true, true, true, true, false, false, false, false, false, false, false, false, false] rfl rfl (by kernel_rfl) (fun _ _ _ h => h) (Or.inr ⟨by rfl, rfl⟩) ?_ ?_
        rotate_left
        · simp only [Act.put, List.setIfInBounds_toArray, List.set_cons_zero, List.set_cons_succ, i64_w, i32_w]
          rfl
        refine pure_ (i := 18) (N := some 111) (v := undef) (a' := ?_) #[true, true, true, true, true, true, true, true, true, true, true, true, true, true, true, true, true, true, true, false, false, false, false, false, false, false, false] rfl rfl (by kernel_rfl) (fun _ _ _ h => h) (Or.inr ⟨by rfl, rfl⟩) ?_ ?_
        rotate_left
        · simp only [Act.put, List.setIfInBounds_toArray, List.set_cons_zero, List.set_cons_succ, i64_w, i32_w]
          rfl
        refine pure_ (i := 19) (N := some 112) (v := undef) (a' := ?_) #[true, true, true, true, true, true, true, true, true, true, true, true, true, true, true, true, true, true, true, true, false, false, false, false, false, false, false] rfl rfl (by kernel_rfl) (fun _ _ _ h => h) (Or.inr ⟨by rfl, rfl⟩) ?_ ?_
        rotate_left
        · simp only [Act.put, List.setIfInBounds_toArray, List.set_cons_zero, List.set_cons_succ, i64_w, i32_w]
          rfl
        refine pure_ (i := 20) (N := some 113) (v := undef) (a' := ?_) #[true, true, true, true, true, true, true, true, true, true, true, true, true, true, true, true, true, true, true, true, true, false, false, false, false, false, false] rfl rfl (by kernel_rfl) (fun _ _ _ h => h) (Or.inr ⟨by rfl, rfl⟩) ?_ ?_
        rotate_left
        · simp only [Act.put, List.setIfInBounds_toArray, List.set_cons_zero, List.set_cons_succ, i64_w, i32_w]
          rfl
        refine pure_ (i := 21) (N := some 114) (v := undef) (a' := ?_) #[true, true, true, true, true, true, true, true, true, true, true, true, true, true, true, true, true, true, true, true, true, true, false, false, false, false, false] rfl rfl (by kernel_rfl) (fun _ _ _ h => h) (Or.inr ⟨by rfl, rfl⟩) ?_ ?_
        rotate_left
        · simp only [Act.put, List.setIfInBounds_toArray, List.set_cons_zero, List.set_cons_succ, i64_w, i32_w]
          rfl
        refine pure_ (i := 22) (N := some 115) (v := undef) (a' := ?_) #[true, true, true, true, true, true, true, true, true, true, true, true, true, true, true, true, true, true, true, true, true, true, true, false, false, false, false] rfl rfl (by kernel_rfl) (fun _ _ _ h => h) (Or.inr ⟨by rfl, rfl⟩) ?_ ?_
        rotate_left
        · simp only [Act.put, List.setIfInBounds_toArray, List.set_cons_zero, List.set_cons_succ, i64_w, i32_w]
          rfl
        refine pure_ (i := 23) (N := some 116) (v := undef) (a' := ?_) #[true, true, true, true, true, true, true, true, true, true, true, true, true, true, true, true, true, true, true, true, true, true, true, true, false, false, false] rfl rfl (by kernel_rfl) (fun _ _ _ h => h) (Or.inr ⟨by rfl, rfl⟩) ?_ ?_
        rotate_left
        · simp only [Act.put, List.setIfInBounds_toArray, List.set_cons_zero, List.set_cons_succ, i64_w, i32_w]
          rfl
        refine pure_ (i := 24) (N := some 117) (v := undef) (a' := ?_) #[true, true, true, true, true, true, true, true, true, true, true, true, true, true, true, true, true, true, true, true, true, true, true, true, true, false, false] rfl rfl (by kernel_rfl) (fun _ _ _ h => h) (Or.inr ⟨by rfl, rfl⟩) ?_ ?_
        rotate_left
        · simp only [Act.put, List.setIfInBounds_toArray, List.set_cons_zero, List.set_cons_succ, i64_w, i32_w]
          rfl
        refine pure_ (i := 25) (N := some 118) (v := undef) (a' := ?_) #[true, true, true, true, true, true, true, true, true, true, true, true, true, true, true, true, true, true, true, true, true, true, true, true, true, true, false] rfl rfl (by kernel_rfl) (fun _ _ _ h => h) (Or.inr ⟨by rfl, rfl⟩) ?_ ?_
        rotate_left
        · simp only [Act.put, List.setIfInBounds_toArray, List.set_cons_zero, List.set_cons_succ, i64_w, i32_w]
          rfl
        refine pure_ (i := 26) (N := some 119) (v := ?_) (a' := ?_) #[true, true, true, true, true, true, true, true, true, true, true, true, true, true, true, true, true, true, true, true, true, true, true, true, true, true, true] rfl rfl (by kernel_rfl) (fun _ _ _ h => h) (Or.inl ⟨by rfl, ?_⟩) ?_ ?_
        rotate_left
        · intro w'
          go_simp
          with_reducible rfl
        rotate_left
        · simp only [Act.put, List.setIfInBounds_toArray, List.set_cons_zero, List.set_cons_succ, i64_w, i32_w]
          rfl
        refine done_ (by kernel_rfl) ?_
        obtain ⟨W9, hw9⟩ : ∃ x : World, x = W7.drew := ⟨_, rfl⟩
        have hbd9 : Below W7.heap.size W7 W9 := by rw [hw9]; exact below_drew (Below.refl _ _)
        rw [← hw9]
        clear hw9
        have HB10 := Aside0.mk (below_step HB8.out hbd9)
        have Bc10 : Aside0 (W9.heap[gc7]? = some (.cells #[.int .i64 ch.1, .slice Ba ch.2.1.length da, .slice Ca ch.2.2.length fa] 39 (0, 0))) := ⟨(hbd9.block _ (blk_lt Bc7.out)).trans Bc7.out⟩
        have Wfw10 := Aside0.mk (WAt.below Wfw8.out hbd9)
        clear hbd9
        go_wp2_with fail
        go_roundw
        case rel => exact ⟨k + 1, by omega, by go_num, ⟨⟨true, [x0, x1, x2, x3], Wfw10.out⟩⟩, HB10⟩
        case measure => simp [intOf]; omega
      · have HNO := Aside0.mk (no_four x0 x1 x2 x3 (by omega))
        have HN0 := Aside0.mk (leadsN_no HNO.out)
        have d0 : decide (1 ≤ x0) = true := decide_eq_true e0
        have d1 : (x1 == 2) = false := beq_eq_false_iff_ne.2 e1
        clear e0 e1
        go_wp2_with fail
        refine (saw_c _ gw3 (2) (1) (t) (sw) (v) (0) HWA.out (some ad) cB [x0, x1, x2, x3] (Kd.C_below HC0.out HW.out) HcB.out (by first | omega | (simp; done))).mono ?_
        rw [show sawAge _ _ _ _ = 0 from HS.out]
        rintro e w1 ⟨rfl, hW1, hg1⟩
        have HB2 := Aside0.mk (below_watch HW.out hg1 GSw3.out)
        have Wfw2 := Aside0.mk hW1
        clear hW1 hg1
        obtain ⟨c0a, c1a, c2a, c3a⟩ := C4' (Kd.C_below HC0.out HB2.out)
        go_wp2_with fail
        have hld := leads_c _ gw3 (2) (1) (t) (true) ([x0, x1, x2, x3]) (0) Wfw2.out
        rw [HN0.out, HNO.out] at hld
        refine hld.mono ?_
        rintro e w20 ⟨rfl, hb20⟩
        clear hld
        clear c0a c1a c2a c3a
        have HB3 := Aside0.mk (below_step HB2.out hb20)
        have Wfw3 := Aside0.mk (WAt.below Wfw2.out hb20)
        clear hb20
        obtain ⟨c0b, c1b, c2b, c3b⟩ := C4' (Kd.C_below HC0.out HB3.out)
        go_wp2_with fail
        refine (age_c _ gw3 (2) (1) (t) (true) ([x0, x1, x2, x3]) (0) Wfw3.out).mono ?_
        rintro e w21 ⟨rfl, hb21⟩
        clear c0b c1b c2b c3b
        have HB4 := Aside0.mk (below_step HB3.out hb21)
        have Wfw4 := Aside0.mk (WAt.below Wfw3.out hb21)
        clear hb21
        go_wp2_with fail
        obtain ⟨ch, hch⟩ : ∃ ch, wantOf 2 1 t true [x0, x1, x2, x3] 0 = ch := ⟨_, rfl⟩
        have HCH := Aside0.mk hch
        clear hch
        have hwt := want_c _ gw3 (2) (1) (t) (true) ([x0, x1, x2, x3]) (0) Wfw4.out
        rw [HCH.out] at hwt
        refine hwt.mono ?_
        rintro e w22 ⟨Ba, da, Ca, fa, rfl, _, _, hb22⟩
        clear hwt
        have HB6 := Aside0.mk (below_step HB4.out hb22)
        have Wfw6 := Aside0.mk (WAt.below Wfw4.out hb22)
        clear hb22
        go_wp2_with fail
        obtain ⟨W7, hw7⟩ : ∃ x : World, x = w22.alloc (.cells #[.int .i64 ch.1, .slice Ba ch.2.1.length da, .slice Ca ch.2.2.length fa] 39) := ⟨_, rfl⟩
        have hbs7 : Below w22.heap.size w22 W7 := by rw [hw7]; repeat (first | exact Below.refl _ _ | refine below_alloc ?_ _ | refine below_drew ?_)
        obtain ⟨gc7, hgc7⟩ : ∃ x, x = w22.heap.size := ⟨_, rfl⟩
        have GSc7 : Aside0 (W.heap.size ≤ gc7) := ⟨by rw [hgc7]; have := HB6.out.size; omega⟩
        have Bc7 : Aside0 (W7.heap[gc7]? = some (.cells #[.int .i64 ch.1, .slice Ba ch.2.1.length da, .slice Ca ch.2.2.length fa] 39 (0, 0))) := ⟨by rw [hw7, hgc7]; exact blk_new _ _⟩
        rw [← hw7]
        rw [← hgc7]
        clear hw7 hgc7
        have HB8 := Aside0.mk (below_step HB6.out hbs7)
        have Wfw8 := Aside0.mk (WAt.below Wfw6.out hbs7)
        clear hbs7
        refine start_ (n := 27) (S := fun w' => True) (ds := []) #[false, false, false, false, false, false, false, false, false, false, false, false, false, false, false, false, false, false, false, false, false, false, false, false, false, false, false] (by kernel_rfl) rfl rfl trivial (fun hHeld => ?_)
        refine pure_ (i := 0) (N := some 93) (v := ?_) (a' := ?_) #[true, false, false, false, false, false, false, false, false, false, false, false, false, false, false, false, false, false, false, false, false, false, false, false, false, false, false] rfl rfl (by kernel_rfl) (fun _ _ _ h => h) (Or.inl ⟨by rfl, ?_⟩) ?_ ?_
        rotate_left
        · intro w'
          go_simp
          with_reducible rfl
        rotate_left
        · simp only [Act.put, List.setIfInBounds_toArray, List.set_cons_zero, List.set_cons_succ, i64_w, i32_w]
          rfl
        refine pure_ (i := 1) (N := some 94) (v := ?_) (a' := ?_) #[true, true, false, false, false, false, false, false, false, false, false, false, false, false, false, false, false, false, false, false, false, false, false, false, false, false, false] rfl rfl (by kernel_rfl) (fun _ _ _ h => h) (Or.inl ⟨by rfl, ?_⟩) ?_ ?_
        rotate_left
        · intro w'
          go_simp
          with_reducible rfl
        rotate_left
        · simp only [Act.put, List.setIfInBounds_toArray, List.set_cons_zero, List.set_cons_succ, i64_w, i32_w]
          rfl
        refine pure_ (i := 2) (N := some 95) (v := undef) (a' := ?_) #[true, true, true, false, false, false, false, false, false, false, false, false, false, false, false, false, false, false, false, false, false, false, false, false, false, false, false] rfl rfl (by kernel_rfl) (fun _ _ _ h => h) (Or.inr ⟨by rfl, rfl⟩) ?_ ?_
        rotate_left
        · simp only [Act.put, List.setIfInBounds_toArray, List.set_cons_zero, List.set_cons_succ, i64_w, i32_w]
          rfl
        refine pure_ (i := 3) (N := some 96) (v := undef) (a' := ?_) #[true, true, true, true, false, false, false, false, false, false, false, false, false, false, false, false, false, false, false, false, false, false, false, false, false, false, false] rfl rfl (by kernel_rfl) (fun _ _ _ h => h) (Or.inr ⟨by rfl, rfl⟩) ?_ ?_
        rotate_left
        · simp only [Act.put, List.setIfInBounds_toArray, List.set_cons_zero, List.set_cons_succ, i64_w, i32_w]
          rfl
        refine pure_ (i := 4) (N := some 97) (v := undef) (a' := ?_) #[true, true, true, true, true, false, false, false, false, false, false, false, false, false, false, false, false, false, false, false, false, false, false, false, false, false, false] rfl rfl (by kernel_rfl) (fun _ _ _ h => h) (Or.inr ⟨by rfl, rfl⟩) ?_ ?_
        rotate_left
        · simp only [Act.put, List.setIfInBounds_toArray, List.set_cons_zero, List.set_cons_succ, i64_w, i32_w]
          rfl
        refine pure_ (i := 5) (N := some 98) (v := undef) (a' := ?_) #[true, true, true, true, true, true, false, false, false, false, false, false, false, false, false, false, false, false, false, false, false, false, false, false, false, false, false] rfl rfl (by kernel_rfl) (fun _ _ _ h => h) (Or.inr ⟨by rfl, rfl⟩) ?_ ?_
        rotate_left
        · simp only [Act.put, List.setIfInBounds_toArray, List.set_cons_zero, List.set_cons_succ, i64_w, i32_w]
          rfl
        refine pure_ (i := 6) (N := some 99) (v := undef) (a' := ?_) #[true, true, true, true, true, true, true, false, false, false, false, false, false, false, false, false, false, false, false, false, false, false, false, false, false, false, false] rfl rfl (by kernel_rfl) (fun _ _ _ h => h) (Or.inr ⟨by rfl, rfl⟩) ?_ ?_
        rotate_left
        · simp only [Act.put, List.setIfInBounds_toArray, List.set_cons_zero, List.set_cons_succ, i64_w, i32_w]
          rfl
        refine pure_ (i := 7) (N := some 100) (v := undef) (a' := ?_) #[true, true, true, true, true, true, true, true, false, false, false, false, false, false, false, false, false, false, false, false, false, false, false, false, false, false, false] rfl rfl (by kernel_rfl) (fun _ _ _ h => h) (Or.inr ⟨by rfl, rfl⟩) ?_ ?_
        rotate_left
        · simp only [Act.put, List.setIfInBounds_toArray, List.set_cons_zero, List.set_cons_succ, i64_w, i32_w]
          rfl
        refine pure_ (i := 8) (N := some 101) (v := undef) (a' := ?_) #[true, true, true, true, true, true, true, true, true, false, false, false, false, false, false, false, false, false, false, false, false, false, false, false, false, false, false] rfl rfl (by kernel_rfl) (fun _ _ _ h => h) (Or.inr ⟨by rfl, rfl⟩) ?_ ?_
        rotate_left
        · simp only [Act.put, List.setIfInBounds_toArray, List.set_cons_zero, List.set_cons_succ, i64_w, i32_w]
          rfl
        refine pure_ (i := 9) (N := some 102) (v := undef) (a' := ?_) #[true, true, true, true, true, true, true, true, true, true, false, false, false, false, false, false, false, false, false, false, false, false, false, false, false, false, false] rfl rfl (by kernel_rfl) (fun _ _ _ h => h) (Or.inr ⟨by rfl, rfl⟩) ?_ ?_
        rotate_left
        · simp only [Act.put, List.setIfInBounds_toArray, List.set_cons_zero, List.set_cons_succ, i64_w, i32_w]
          rfl
        refine pure_ (i := 10) (N := some 103) (v := undef) (a' := ?_) #[true, true, true, true, true, true, true, true, true, true, true, false, false, false, false, false, false, false, false, false, false, false, false, false, false, false, false] rfl rfl (by kernel_rfl) (fun _ _ _ h => h) (Or.inr ⟨by rfl, rfl⟩) ?_ ?_
        rotate_left
        · simp only [Act.put, List.setIfInBounds_toArray, List.set_cons_zero, List.set_cons_succ, i64_w, i32_w]
          rfl
        refine pure_ (i := 11) (N := some 104) (v := undef) (a' := ?_) #[true, true, true, true, true, true, true, true, true, true, true, true, false, false, false, false, false, false, false, false, false, false, false, false, false, false, false] rfl rfl (by kernel_rfl) (fun _ _ _ h => h) (Or.inr ⟨by rfl, rfl⟩) ?_ ?_
        rotate_left
        · simp only [Act.put, List.setIfInBounds_toArray, List.set_cons_zero, List.set_cons_succ, i64_w, i32_w]
          rfl
        refine pure_ (i := 12) (N := some 105) (v := undef) (a' := ?_) #[true, true, true, true, true, true, true, true, true, true, true, true, true, false, false, false, false, false, false, false, false, false, false, false, false, false, false] rfl rfl (by kernel_rfl) (fun _ _ _ h => h) (Or.inr ⟨by rfl, rfl⟩) ?_ ?_
        rotate_left
        · simp only [Act.put, List.setIfInBounds_toArray, List.set_cons_zero, List.set_cons_succ, i64_w, i32_w]
          rfl
        refine pure_ (i := 13) (N := some 106) (v := undef) (a' := ?_) #[true, true, true, true, true, true, true, true, true, true, true, true, true, true, false, false, false, false, false, false, false, false, false, false, false, false, false] rfl rfl (by kernel_rfl) (fun _ _ _ h => h) (Or.inr ⟨by rfl, rfl⟩) ?_ ?_
        rotate_left
        · simp only [Act.put, List.setIfInBounds_toArray, List.set_cons_zero, List.set_cons_succ, i64_w, i32_w]
          rfl
        refine pure_ (i := 14) (N := some 107) (v := undef) (a' := ?_) #[true, true, true, true, true, true, true, true, true, true, true, true, true, true, true, false, false, false, false, false, false, false, false, false, false, false, false] rfl rfl (by kernel_rfl) (fun _ _ _ h => h) (Or.inr ⟨by rfl, rfl⟩) ?_ ?_
        rotate_left
        · simp only [Act.put, List.setIfInBounds_toArray, List.set_cons_zero, List.set_cons_succ, i64_w, i32_w]
          rfl
        refine pure_ (i := 15) (N := some 108) (v := undef) (a' := ?_) #[true, true, true, true, true, true, true, true, true, true, true, true, true, true, true, true, false, false, false, false, false, false, false, false, false, false, false] rfl rfl (by kernel_rfl) (fun _ _ _ h => h) (Or.inr ⟨by rfl, rfl⟩) ?_ ?_
        rotate_left
        · simp only [Act.put, List.setIfInBounds_toArray, List.set_cons_zero, List.set_cons_succ, i64_w, i32_w]
          rfl
        refine pure_ (i := 16) (N := some 109) (v := undef) (a' := ?_) #[true, true, true, true, true, true, true, true, true, true, true, true, true, true, true, true, true, false, false, false, false, false, false, false, false, false, false] rfl rfl (by kernel_rfl) (fun _ _ _ h => h) (Or.inr ⟨by rfl, rfl⟩) ?_ ?_
        rotate_left
        · simp only [Act.put, List.setIfInBounds_toArray, List.set_cons_zero, List.set_cons_succ, i64_w, i32_w]
          rfl
        refine pure_ (i := 17) (N := some 110) (v := undef) (a' := ?_) #[true, true, true, true, true, true, true, true, true, true, true, true, true, true, true, true, true, true, false, false, false, false, false, false, false, false, false] rfl rfl (by kernel_rfl) (fun _ _ _ h => h) (Or.inr ⟨by rfl, rfl⟩) ?_ ?_
        rotate_left
        · simp only [Act.put, List.setIfInBounds_toArray, List.set_cons_zero, List.set_cons_succ, i64_w, i32_w]
          rfl
        refine pure_ (i := 18) (N := some 111) (v := undef) (a' := ?_) #[true, true, true, true, true, true, true, true, true, true, true, true, true, true, true, true, true, true, true, false, false, false, false, false, false, false, false] rfl rfl (by kernel_rfl) (fun _ _ _ h => h) (Or.inr ⟨by rfl, rfl⟩) ?_ ?_
        rotate_left
        · simp only [Act.put, List.setIfInBounds_toArray, List.set_cons_zero, List.set_cons_succ, i64_w, i32_w]
          rfl
        refine pure_ (i := 19) (N := some 112) (v := undef) (a' := ?_) #[true, true, true, true, true, true, true, true, true, true, true, true, true, true, true, true, true, true, true, true, false, false, false, false, false, false, false] rfl rfl (by kernel_rfl) (fun _ _ _ h => h) (Or.inr ⟨by rfl, rfl⟩) ?_ ?_
        rotate_left
        · simp only [Act.put, List.setIfInBounds_toArray, List.set_cons_zero, List.set_cons_succ, i64_w, i32_w]
          rfl
        refine pure_ (i := 20) (N := some 113) (v := undef) (a' := ?_) #[true, true, true, true, true, true, true, true, true, true, true, true, true, true, true, true, true, true, true, true, true, false, false, false, false, false, false] rfl rfl (by kernel_rfl) (fun _ _ _ h => h) (Or.inr ⟨by rfl, rfl⟩) ?_ ?_
        rotate_left
        · simp only [Act.put, List.setIfInBounds_toArray, List.set_cons_zero, List.set_cons_succ, i64_w, i32_w]
          rfl
        refine pure_ (i := 21) (N := some 114) (v := undef) (a' := ?_) #[true, true, true, true, true, true, true, true, true, true, true, true, true, true, true, true, true, true, true, true, true, true, false, false, false, false, false] rfl rfl (by kernel_rfl) (fun _ _ _ h => h) (Or.inr ⟨by rfl, rfl⟩) ?_ ?_
        rotate_left
        · simp only [Act.put, List.setIfInBounds_toArray, List.set_cons_zero, List.set_cons_succ, i64_w, i32_w]
          rfl
        refine pure_ (i := 22) (N := some 115) (v := undef) (a' := ?_) #[true, true, true, true, true, true, true, true, true, true, true, true, true, true, true, true, true, true, true, true, true, true, true, false, false, false, false] rfl rfl (by kernel_rfl) (fun _ _ _ h => h) (Or.inr ⟨by rfl, rfl⟩) ?_ ?_
        rotate_left
        · simp only [Act.put, List.setIfInBounds_toArray, List.set_cons_zero, List.set_cons_succ, i64_w, i32_w]
          rfl
        refine pure_ (i := 23) (N := some 116) (v := undef) (a' := ?_) #[true, true, true, true, true, true, true, true, true, true, true, true, true, true, true, true, true, true, true, true, true, true, true, true, false, false, false] rfl rfl (by kernel_rfl) (fun _ _ _ h => h) (Or.inr ⟨by rfl, rfl⟩) ?_ ?_
        rotate_left
        · simp only [Act.put, List.setIfInBounds_toArray, List.set_cons_zero, List.set_cons_succ, i64_w, i32_w]
          rfl
        refine pure_ (i := 24) (N := some 117) (v := undef) (a' := ?_) #[true, true, true, true, true, true, true, true, true, true, true, true, true, true, true, true, true, true, true, true, true, true, true, true, true, false, false] rfl rfl (by kernel_rfl) (fun _ _ _ h => h) (Or.inr ⟨by rfl, rfl⟩) ?_ ?_
        rotate_left
        · simp only [Act.put, List.setIfInBounds_toArray, List.set_cons_zero, List.set_cons_succ, i64_w, i32_w]
          rfl
        refine pure_ (i := 25) (N := some 118) (v := undef) (a' := ?_) #[true, true, true, true, true, true, true, true, true, true, true, true, true, true, true, true, true, true, true, true, true, true, true, true, true, true, false] rfl rfl (by kernel_rfl) (fun _ _ _ h => h) (Or.inr ⟨by rfl, rfl⟩) ?_ ?_
        rotate_left
        · simp only [Act.put, List.setIfInBounds_toArray, List.set_cons_zero, List.set_cons_succ, i64_w, i32_w]
          rfl
        refine pure_ (i := 26) (N := some 119) (v := ?_) (a' := ?_) #[true, true, true, true, true, true, true, true, true, true, true, true, true, true, true, true, true, true, true, true, true, true, true, true, true, true, true] rfl rfl (by kernel_rfl) (fun _ _ _ h => h) (Or.inl ⟨by rfl, ?_⟩) ?_ ?_
        rotate_left
        · intro w'
          go_simp
          with_reducible rfl
        rotate_left
        · simp only [Act.put, List.setIfInBounds_toArray, List.set_cons_zero, List.set_cons_succ, i64_w, i32_w]
          rfl
        refine done_ (by kernel_rfl) ?_
        obtain ⟨W9, hw9⟩ : ∃ x : World, x = W7.drew := ⟨_, rfl⟩
        have hbd9 : Below W7.heap.size W7 W9 := by rw [hw9]; exact below_drew (Below.refl _ _)
        rw [← hw9]
        clear hw9
        have HB10 := Aside0.mk (below_step HB8.out hbd9)
        have Bc10 : Aside0 (W9.heap[gc7]? = some (.cells #[.int .i64 ch.1, .slice Ba ch.2.1.length da, .slice Ca ch.2.2.length fa] 39 (0, 0))) := ⟨(hbd9.block _ (blk_lt Bc7.out)).trans Bc7.out⟩
        have Wfw10 := Aside0.mk (WAt.below Wfw8.out hbd9)
        clear hbd9
        go_wp2_with fail
        go_roundw
        case rel => exact ⟨k + 1, by omega, by go_num, ⟨⟨true, [x0, x1, x2, x3], Wfw10.out⟩⟩, HB10⟩
        case measure => simp [intOf]; omega
      · have HNO := Aside0.mk (no_four x0 x1 x2 x3 (by omega))
        have HN0 := Aside0.mk (leadsN_no HNO.out)
        have d0 : decide (1 ≤ x0) = true := decide_eq_true e0
        have d1 : (x1 == 2) = true := beq_iff_eq.2 e1
        have d2 : (x2 == 1) = false := beq_eq_false_iff_ne.2 e2
        clear e0 e1 e2
        go_wp2_with fail
        refine (saw_c _ gw3 (2) (1) (t) (sw) (v) (0) HWA.out (some ad) cB [x0, x1, x2, x3] (Kd.C_below HC0.out HW.out) HcB.out (by first | omega | (simp; done))).mono ?_
        rw [show sawAge _ _ _ _ = 0 from HS.out]
        rintro e w1 ⟨rfl, hW1, hg1⟩
        have HB2 := Aside0.mk (below_watch HW.out hg1 GSw3.out)
        have Wfw2 := Aside0.mk hW1
        clear hW1 hg1
        obtain ⟨c0a, c1a, c2a, c3a⟩ := C4' (Kd.C_below HC0.out HB2.out)
        go_wp2_with fail
        have hld := leads_c _ gw3 (2) (1) (t) (true) ([x0, x1, x2, x3]) (0) Wfw2.out
        rw [HN0.out, HNO.out] at hld
        refine hld.mono ?_
        rintro e w20 ⟨rfl, hb20⟩
        clear hld
        clear c0a c1a c2a c3a
        have HB3 := Aside0.mk (below_step HB2.out hb20)
        have Wfw3 := Aside0.mk (WAt.below Wfw2.out hb20)
        clear hb20
        obtain ⟨c0b, c1b, c2b, c3b⟩ := C4' (Kd.C_below HC0.out HB3.out)
        go_wp2_with fail
        refine (age_c _ gw3 (2) (1) (t) (true) ([x0, x1, x2, x3]) (0) Wfw3.out).mono ?_
        rintro e w21 ⟨rfl, hb21⟩
        clear c0b c1b c2b c3b
        have HB4 := Aside0.mk (below_step HB3.out hb21)
        have Wfw4 := Aside0.mk (WAt.below Wfw3.out hb21)
        clear hb21
        go_wp2_with fail
        obtain ⟨ch, hch⟩ : ∃ ch, wantOf 2 1 t true [x0, x1, x2, x3] 0 = ch := ⟨_, rfl⟩
        have HCH := Aside0.mk hch
        clear hch
        have hwt := want_c _ gw3 (2) (1) (t) (true) ([x0, x1, x2, x3]) (0) Wfw4.out
        rw [HCH.out] at hwt
        refine hwt.mono ?_
        rintro e w22 ⟨Ba, da, Ca, fa, rfl, _, _, hb22⟩
        clear hwt
        have HB6 := Aside0.mk (below_step HB4.out hb22)
        have Wfw6 := Aside0.mk (WAt.below Wfw4.out hb22)
        clear hb22
        go_wp2_with fail
        obtain ⟨W7, hw7⟩ : ∃ x : World, x = w22.alloc (.cells #[.int .i64 ch.1, .slice Ba ch.2.1.length da, .slice Ca ch.2.2.length fa] 39) := ⟨_, rfl⟩
        have hbs7 : Below w22.heap.size w22 W7 := by rw [hw7]; repeat (first | exact Below.refl _ _ | refine below_alloc ?_ _ | refine below_drew ?_)
        obtain ⟨gc7, hgc7⟩ : ∃ x, x = w22.heap.size := ⟨_, rfl⟩
        have GSc7 : Aside0 (W.heap.size ≤ gc7) := ⟨by rw [hgc7]; have := HB6.out.size; omega⟩
        have Bc7 : Aside0 (W7.heap[gc7]? = some (.cells #[.int .i64 ch.1, .slice Ba ch.2.1.length da, .slice Ca ch.2.2.length fa] 39 (0, 0))) := ⟨by rw [hw7, hgc7]; exact blk_new _ _⟩
        rw [← hw7]
        rw [← hgc7]
        clear hw7 hgc7
        have HB8 := Aside0.mk (below_step HB6.out hbs7)
        have Wfw8 := Aside0.mk (WAt.below Wfw6.out hbs7)
        clear hbs7
        refine start_ (n := 27) (S := fun w' => True) (ds := []) #[false, false, false, false, false, false, false, false, false, false, false, false, false, false, false, false, false, false, false, false, false, false, false, false, false, false, false] (by kernel_rfl) rfl rfl trivial (fun hHeld => ?_)
        refine pure_ (i := 0) (N := some 93) (v := ?_) (a' := ?_) #[true, false, false, false, false, false, false, false, false, false, false, false, false, false, false, false, false, false, false, false, false, false, false, false, false, false, false] rfl rfl (by kernel_rfl) (fun _ _ _ h => h) (Or.inl ⟨by rfl, ?_⟩) ?_ ?_
        rotate_left
        · intro w'
          go_simp
          with_reducible rfl
        rotate_left
        · simp only [Act.put, List.setIfInBounds_toArray, List.set_cons_zero, List.set_cons_succ, i64_w, i32_w]
          rfl
        refine pure_ (i := 1) (N := some 94) (v := ?_) (a' := ?_) #[true, true, false, false, false, false, false, false, false, false, false, false, false, false, false, false, false, false, false, false, false, false, false, false, false, false, false] rfl rfl (by kernel_rfl) (fun _ _ _ h => h) (Or.inl ⟨by rfl, ?_⟩) ?_ ?_
        rotate_left
        · intro w'
          go_simp
          with_reducible rfl
        rotate_left
        · simp only [Act.put, List.setIfInBounds_toArray, List.set_cons_zero, List.set_cons_succ, i64_w, i32_w]
          rfl
        refine pure_ (i := 2) (N := some 95) (v := undef) (a' := ?_) #[true, true, true, false, false, false, false, false, false, false, false, false, false, false, false, false, false, false, false, false, false, false, false, false, false, false, false] rfl rfl (by kernel_rfl) (fun _ _ _ h => h) (Or.inr ⟨by rfl, rfl⟩) ?_ ?_
        rotate_left
        · simp only [Act.put, List.setIfInBounds_toArray, List.set_cons_zero, List.set_cons_succ, i64_w, i32_w]
          rfl
        refine pure_ (i := 3) (N := some 96) (v := undef) (a' := ?_) #[true, true, true, true, false, false, false, false, false, false, false, false, false, false, false, false, false, false, false, false, false, false, false, false, false, false, false] rfl rfl (by kernel_rfl) (fun _ _ _ h => h) (Or.inr ⟨by rfl, rfl⟩) ?_ ?_
        rotate_left
        · simp only [Act.put, List.setIfInBounds_toArray, List.set_cons_zero, List.set_cons_succ, i64_w, i32_w]
          rfl
        refine pure_ (i := 4) (N := some 97) (v := undef) (a' := ?_) #[true, true, true, true, true, false, false, false, false, false, false, false, false, false, false, false, false, false, false, false, false, false, false, false, false, false, false] rfl rfl (by kernel_rfl) (fun _ _ _ h => h) (Or.inr ⟨by rfl, rfl⟩) ?_ ?_
        rotate_left
        · simp only [Act.put, List.setIfInBounds_toArray, List.set_cons_zero, List.set_cons_succ, i64_w, i32_w]
          rfl
        refine pure_ (i := 5) (N := some 98) (v := undef) (a' := ?_) #[true, true, true, true, true, true, false, false, false, false, false, false, false, false, false, false, false, false, false, false, false, false, false, false, false, false, false] rfl rfl (by kernel_rfl) (fun _ _ _ h => h) (Or.inr ⟨by rfl, rfl⟩) ?_ ?_
        rotate_left
        · simp only [Act.put, List.setIfInBounds_toArray, List.set_cons_zero, List.set_cons_succ, i64_w, i32_w]
          rfl
        refine pure_ (i := 6) (N := some 99) (v := undef) (a' := ?_) #[true, true, true, true, true, true, true, false, false, false, false, false, false, false, false, false, false, false, false, false, false, false, false, false, false, false, false] rfl rfl (by kernel_rfl) (fun _ _ _ h => h) (Or.inr ⟨by rfl, rfl⟩) ?_ ?_
        rotate_left
        · simp only [Act.put, List.setIfInBounds_toArray, List.set_cons_zero, List.set_cons_succ, i64_w, i32_w]
          rfl
        refine pure_ (i := 7) (N := some 100) (v := undef) (a' := ?_) #[true, true, true, true, true, true, true, true, false, false, false, false, false, false, false, false, false, false, false, false, false, false, false, false, false, false, false] rfl rfl (by kernel_rfl) (fun _ _ _ h => h) (Or.inr ⟨by rfl, rfl⟩) ?_ ?_
        rotate_left
        · simp only [Act.put, List.setIfInBounds_toArray, List.set_cons_zero, List.set_cons_succ, i64_w, i32_w]
          rfl
        refine pure_ (i := 8) (N := some 101) (v := undef) (a' := ?_) #[true, true, true, true, true, true, true, true, true, false, false, false, false, false, false, false, false, false, false, false, false, false, false, false, false, false, false] rfl rfl (by kernel_rfl) (fun _ _ _ h => h) (Or.inr ⟨by rfl, rfl⟩) ?_ ?_
        rotate_left
        · simp only [Act.put, List.setIfInBounds_toArray, List.set_cons_zero, List.set_cons_succ, i64_w, i32_w]
          rfl
        refine pure_ (i := 9) (N := some 102) (v := undef) (a' := ?_) #[true, true, true, true, true, true, true, true, true, true, false, false, false, false, false, false, false, false, false, false, false, false, false, false, false, false, false] rfl rfl (by kernel_rfl) (fun _ _ _ h => h) (Or.inr ⟨by rfl, rfl⟩) ?_ ?_
        rotate_left
        · simp only [Act.put, List.setIfInBounds_toArray, List.set_cons_zero, List.set_cons_succ, i64_w, i32_w]
          rfl
        refine pure_ (i := 10) (N := some 103) (v := undef) (a' := ?_) #[true, true, true, true, true, true, true, true, true, true, true, false, false, false, false, false, false, false, false, false, false, false, false, false, false, false, false] rfl rfl (by kernel_rfl) (fun _ _ _ h => h) (Or.inr ⟨by rfl, rfl⟩) ?_ ?_
        rotate_left
        · simp only [Act.put, List.setIfInBounds_toArray, List.set_cons_zero, List.set_cons_succ, i64_w, i32_w]
          rfl
        refine pure_ (i := 11) (N := some 104) (v := undef) (a' := ?_) #[true, true, true, true, true, true, true, true, true, true, true, true, false, false, false, false, false, false, false, false, false, false, false, false, false, false, false] rfl rfl (by kernel_rfl) (fun _ _ _ h => h) (Or.inr ⟨by rfl, rfl⟩) ?_ ?_
        rotate_left
        · simp only [Act.put, List.setIfInBounds_toArray, List.set_cons_zero, List.set_cons_succ, i64_w, i32_w]
          rfl
        refine pure_ (i := 12) (N := some 105) (v := undef) (a' := ?_) #[true, true, true, true, true, true, true, true, true, true, true, true, true, false, false, false, false, false, false, false, false, false, false, false, false, false, false] rfl rfl (by kernel_rfl) (fun _ _ _ h => h) (Or.inr ⟨by rfl, rfl⟩) ?_ ?_
        rotate_left
        · simp only [Act.put, List.setIfInBounds_toArray, List.set_cons_zero, List.set_cons_succ, i64_w, i32_w]
          rfl
        refine pure_ (i := 13) (N := some 106) (v := undef) (a' := ?_) #[true, true, true, true, true, true, true, true, true, true, true, true, true, true, false, false, false, false, false, false, false, false, false, false, false, false, false] rfl rfl (by kernel_rfl) (fun _ _ _ h => h) (Or.inr ⟨by rfl, rfl⟩) ?_ ?_
        rotate_left
        · simp only [Act.put, List.setIfInBounds_toArray, List.set_cons_zero, List.set_cons_succ, i64_w, i32_w]
          rfl
        refine pure_ (i := 14) (N := some 107) (v := undef) (a' := ?_) #[true, true, true, true, true, true, true, true, true, true, true, true, true, true, true, false, false, false, false, false, false, false, false, false, false, false, false] rfl rfl (by kernel_rfl) (fun _ _ _ h => h) (Or.inr ⟨by rfl, rfl⟩) ?_ ?_
        rotate_left
        · simp only [Act.put, List.setIfInBounds_toArray, List.set_cons_zero, List.set_cons_succ, i64_w, i32_w]
          rfl
        refine pure_ (i := 15) (N := some 108) (v := undef) (a' := ?_) #[true, true, true, true, true, true, true, true, true, true, true, true, true, true, true, true, false, false, false, false, false, false, false, false, false, false, false] rfl rfl (by kernel_rfl) (fun _ _ _ h => h) (Or.inr ⟨by rfl, rfl⟩) ?_ ?_
        rotate_left
        · simp only [Act.put, List.setIfInBounds_toArray, List.set_cons_zero, List.set_cons_succ, i64_w, i32_w]
          rfl
        refine pure_ (i := 16) (N := some 109) (v := undef) (a' := ?_) #[true, true, true, true, true, true, true, true, true, true, true, true, true, true, true, true, true, false, false, false, false, false, false, false, false, false, false] rfl rfl (by kernel_rfl) (fun _ _ _ h => h) (Or.inr ⟨by rfl, rfl⟩) ?_ ?_
        rotate_left
        · simp only [Act.put, List.setIfInBounds_toArray, List.set_cons_zero, List.set_cons_succ, i64_w, i32_w]
          rfl
        refine pure_ (i := 17) (N := some 110) (v := undef) (a' := ?_) #[true, true, true, true, true, true, true, true, true, true, true, true, true, true, true, true, true, true, false, false, false, false, false, false, false, false, false] rfl rfl (by kernel_rfl) (fun _ _ _ h => h) (Or.inr ⟨by rfl, rfl⟩) ?_ ?_
        rotate_left
        · simp only [Act.put, List.setIfInBounds_toArray, List.set_cons_zero, List.set_cons_succ, i64_w, i32_w]
          rfl
        refine pure_ (i := 18) (N := some 111) (v := undef) (a' := ?_) #[true, true, true, true, true, true, true, true, true, true, true, true, true, true, true, true, true, true, true, false, false, false, false, false, false, false, false] rfl rfl (by kernel_rfl) (fun _ _ _ h => h) (Or.inr ⟨by rfl, rfl⟩) ?_ ?_
        rotate_left
        · simp only [Act.put, List.setIfInBounds_toArray, List.set_cons_zero, List.set_cons_succ, i64_w, i32_w]
          rfl
        refine pure_ (i := 19) (N := some 112) (v := undef) (a' := ?_) #[true, true, true, true, true, true, true, true, true, true, true, true, true, true, true, true, true, true, true, true, false, false, false, false, false, false, false] rfl rfl (by kernel_rfl) (fun _ _ _ h => h) (Or.inr ⟨by rfl, rfl⟩) ?_ ?_
        rotate_left
        · simp only [Act.put, List.setIfInBounds_toArray, List.set_cons_zero, List.set_cons_succ, i64_w, i32_w]
          rfl
        refine pure_ (i := 20) (N := some 113) (v := undef) (a' := ?_) #[true, true, true, true, true, true, true, true, true, true, true, true, true, true, true, true, true, true, true, true, true, false, false, false, false, false, false] rfl rfl (by kernel_rfl) (fun _ _ _ h => h) (Or.inr ⟨by rfl, rfl⟩) ?_ ?_
        rotate_left
        · simp only [Act.put, List.setIfInBounds_toArray, List.set_cons_zero, List.set_cons_succ, i64_w, i32_w]
          rfl
        refine pure_ (i := 21) (N := some 114) (v := undef) (a' := ?_) #[true, true, true, true, true, true, true, true, true, true, true, true, true, true, true, true, true, true, true, true, true, true, false, false, false, false, false] rfl rfl (by kernel_rfl) (fun _ _ _ h => h) (Or.inr ⟨by rfl, rfl⟩) ?_ ?_
        rotate_left
        · simp only [Act.put, List.setIfInBounds_toArray, List.set_cons_zero, List.set_cons_succ, i64_w, i32_w]
          rfl
        refine pure_ (i := 22) (N := some 115) (v := undef) (a' := ?_) #[true, true, true, true, true, true, true, true, true, true, true, true, true, true, true, true, true, true, true, true, true, true, true, false, false, false, false] rfl rfl (by kernel_rfl) (fun _ _ _ h => h) (Or.inr ⟨by rfl, rfl⟩) ?_ ?_
        rotate_left
        · simp only [Act.put, List.setIfInBounds_toArray, List.set_cons_zero, List.set_cons_succ, i64_w, i32_w]
          rfl
        refine pure_ (i := 23) (N := some 116) (v := undef) (a' := ?_) #[true, true, true, true, true, true, true, true, true, true, true, true, true, true, true, true, true, true, true, true, true, true, true, true, false, false, false] rfl rfl (by kernel_rfl) (fun _ _ _ h => h) (Or.inr ⟨by rfl, rfl⟩) ?_ ?_
        rotate_left
        · simp only [Act.put, List.setIfInBounds_toArray, List.set_cons_zero, List.set_cons_succ, i64_w, i32_w]
          rfl
        refine pure_ (i := 24) (N := some 117) (v := undef) (a' := ?_) #[true, true, true, true, true, true, true, true, true, true, true, true, true, true, true, true, true, true, true, true, true, true, true, true, true, false, false] rfl rfl (by kernel_rfl) (fun _ _ _ h => h) (Or.inr ⟨by rfl, rfl⟩) ?_ ?_
        rotate_left
        · simp only [Act.put, List.setIfInBounds_toArray, List.set_cons_zero, List.set_cons_succ, i64_w, i32_w]
          rfl
        refine pure_ (i := 25) (N := some 118) (v := undef) (a' := ?_) #[true, true, true, true, true, true, true, true, true, true, true, true, true, true, true, true, true, true, true, true, true, true, true, true, true, true, false] rfl rfl (by kernel_rfl) (fun _ _ _ h => h) (Or.inr ⟨by rfl, rfl⟩) ?_ ?_
        rotate_left
        · simp only [Act.put, List.setIfInBounds_toArray, List.set_cons_zero, List.set_cons_succ, i64_w, i32_w]
          rfl
        refine pure_ (i := 26) (N := some 119) (v := ?_) (a' := ?_) #[true, true, true, true, true, true, true, true, true, true, true, true, true, true, true, true, true, true, true, true, true, true, true, true, true, true, true] rfl rfl (by kernel_rfl) (fun _ _ _ h => h) (Or.inl ⟨by rfl, ?_⟩) ?_ ?_
        rotate_left
        · intro w'
          go_simp
          with_reducible rfl
        rotate_left
        · simp only [Act.put, List.setIfInBounds_toArray, List.set_cons_zero, List.set_cons_succ, i64_w, i32_w]
          rfl
        refine done_ (by kernel_rfl) ?_
        obtain ⟨W9, hw9⟩ : ∃ x : World, x = W7.drew := ⟨_, rfl⟩
        have hbd9 : Below W7.heap.size W7 W9 := by rw [hw9]; exact below_drew (Below.refl _ _)
        rw [← hw9]
        clear hw9
        have HB10 := Aside0.mk (below_step HB8.out hbd9)
        have Bc10 : Aside0 (W9.heap[gc7]? = some (.cells #[.int .i64 ch.1, .slice Ba ch.2.1.length da, .slice Ca ch.2.2.length fa] 39 (0, 0))) := ⟨(hbd9.block _ (blk_lt Bc7.out)).trans Bc7.out⟩
        have Wfw10 := Aside0.mk (WAt.below Wfw8.out hbd9)
        clear hbd9
        go_wp2_with fail
        go_roundw
        case rel => exact ⟨k + 1, by omega, by go_num, ⟨⟨true, [x0, x1, x2, x3], Wfw10.out⟩⟩, HB10⟩
        case measure => simp [intOf]; omega
      · have HNO := Aside0.mk (no_four x0 x1 x2 x3 (by omega))
        have HN0 := Aside0.mk (leadsN_no HNO.out)
        have d0 : decide (1 ≤ x0) = true := decide_eq_true e0
        have d1 : (x1 == 2) = true := beq_iff_eq.2 e1
        have d2 : (x2 == 1) = true := beq_iff_eq.2 e2
        have d3 : decide (0 ≤ x3) = false := decide_eq_false e3
        clear e0 e1 e2 e3
        go_wp2_with fail
        refine (saw_c _ gw3 (2) (1) (t) (sw) (v) (0) HWA.out (some ad) cB [x0, x1, x2, x3] (Kd.C_below HC0.out HW.out) HcB.out (by first | omega | (simp; done))).mono ?_
        rw [show sawAge _ _ _ _ = 0 from HS.out]
        rintro e w1 ⟨rfl, hW1, hg1⟩
        have HB2 := Aside0.mk (below_watch HW.out hg1 GSw3.out)
        have Wfw2 := Aside0.mk hW1
        clear hW1 hg1
        obtain ⟨c0a, c1a, c2a, c3a⟩ := C4' (Kd.C_below HC0.out HB2.out)
        go_wp2_with fail
        have hld := leads_c _ gw3 (2) (1) (t) (true) ([x0, x1, x2, x3]) (0) Wfw2.out
        rw [HN0.out, HNO.out] at hld
        refine hld.mono ?_
        rintro e w20 ⟨rfl, hb20⟩
        clear hld
        clear c0a c1a c2a c3a
        have HB3 := Aside0.mk (below_step HB2.out hb20)
        have Wfw3 := Aside0.mk (WAt.below Wfw2.out hb20)
        clear hb20
        obtain ⟨c0b, c1b, c2b, c3b⟩ := C4' (Kd.C_below HC0.out HB3.out)
        go_wp2_with fail
        refine (age_c _ gw3 (2) (1) (t) (true) ([x0, x1, x2, x3]) (0) Wfw3.out).mono ?_
        rintro e w21 ⟨rfl, hb21⟩
        clear c0b c1b c2b c3b
        have HB4 := Aside0.mk (below_step HB3.out hb21)
        have Wfw4 := Aside0.mk (WAt.below Wfw3.out hb21)
        clear hb21
        go_wp2_with fail
        obtain ⟨ch, hch⟩ : ∃ ch, wantOf 2 1 t true [x0, x1, x2, x3] 0 = ch := ⟨_, rfl⟩
        have HCH := Aside0.mk hch
        clear hch
        have hwt := want_c _ gw3 (2) (1) (t) (true) ([x0, x1, x2, x3]) (0) Wfw4.out
        rw [HCH.out] at hwt
        refine hwt.mono ?_
        rintro e w22 ⟨Ba, da, Ca, fa, rfl, _, _, hb22⟩
        clear hwt
        have HB6 := Aside0.mk (below_step HB4.out hb22)
        have Wfw6 := Aside0.mk (WAt.below Wfw4.out hb22)
        clear hb22
        go_wp2_with fail
        obtain ⟨W7, hw7⟩ : ∃ x : World, x = w22.alloc (.cells #[.int .i64 ch.1, .slice Ba ch.2.1.length da, .slice Ca ch.2.2.length fa] 39) := ⟨_, rfl⟩
        have hbs7 : Below w22.heap.size w22 W7 := by rw [hw7]; repeat (first | exact Below.refl _ _ | refine below_alloc ?_ _ | refine below_drew ?_)
        obtain ⟨gc7, hgc7⟩ : ∃ x, x = w22.heap.size := ⟨_, rfl⟩
        have GSc7 : Aside0 (W.heap.size ≤ gc7) := ⟨by rw [hgc7]; have := HB6.out.size; omega⟩
        have Bc7 : Aside0 (W7.heap[gc7]? = some (.cells #[.int .i64 ch.1, .slice Ba ch.2.1.length da, .slice Ca ch.2.2.length fa] 39 (0, 0))) := ⟨by rw [hw7, hgc7]; exact blk_new _ _⟩
        rw [← hw7]
        rw [← hgc7]
        clear hw7 hgc7
        have HB8 := Aside0.mk (below_step HB6.out hbs7)
        have Wfw8 := Aside0.mk (WAt.below Wfw6.out hbs7)
        clear hbs7
        refine start_ (n := 27) (S := fun w' => True) (ds := []) #[false, false, false, false, false, false, false, false, false, false, false, false, false, false, false, false, false, false, false, false, false, false, false, false, false, false, false] (by kernel_rfl) rfl rfl trivial (fun hHeld => ?_)
        refine pure_ (i := 0) (N := some 93) (v := ?_) (a' := ?_) #[true, false, false, false, false, false, false, false, false, false, false, false, false, false, false, false, false, false, false, false, false, false, false, false, false, false, false] rfl rfl (by kernel_rfl) (fun _ _ _ h => h) (Or.inl ⟨by rfl, ?_⟩) ?_ ?_
        rotate_left
        · intro w'
          go_simp
          with_reducible rfl
        rotate_left
        · simp only [Act.put, List.setIfInBounds_toArray, List.set_cons_zero, List.set_cons_succ, i64_w, i32_w]
          rfl
        refine pure_ (i := 1) (N := some 94) (v := ?_) (a' := ?_) #[true, true, false, false, false, false, false, false, false, false, false, false, false, false, false, false, false, false, false, false, false, false, false, false, false, false, false] rfl rfl (by kernel_rfl) (fun _ _ _ h => h) (Or.inl ⟨by rfl, ?_⟩) ?_ ?_
        rotate_left
        · intro w'
          go_simp
          with_reducible rfl
        rotate_left
        · simp only [Act.put, List.setIfInBounds_toArray, List.set_cons_zero, List.set_cons_succ, i64_w, i32_w]
          rfl
        refine pure_ (i := 2) (N := some 95) (v := undef) (a' := ?_) #[true, true, true, false, false, false, false, false, false, false, false, false, false, false, false, false, false, false, false, false, false, false, false, false, false, false, false] rfl rfl (by kernel_rfl) (fun _ _ _ h => h) (Or.inr ⟨by rfl, rfl⟩) ?_ ?_
        rotate_left
        · simp only [Act.put, List.setIfInBounds_toArray, List.set_cons_zero, List.set_cons_succ, i64_w, i32_w]
          rfl
        refine pure_ (i := 3) (N := some 96) (v := undef) (a' := ?_) #[true, true, true, true, false, false, false, false, false, false, false, false, false, false, false, false, false, false, false, false, false, false, false, false, false, false, false] rfl rfl (by kernel_rfl) (fun _ _ _ h => h) (Or.inr ⟨by rfl, rfl⟩) ?_ ?_
        rotate_left
        · simp only [Act.put, List.setIfInBounds_toArray, List.set_cons_zero, List.set_cons_succ, i64_w, i32_w]
          rfl
        refine pure_ (i := 4) (N := some 97) (v := undef) (a' := ?_) #[true, true, true, true, true, false, false, false, false, false, false, false, false, false, false, false, false, false, false, false, false, false, false, false, false, false, false] rfl rfl (by kernel_rfl) (fun _ _ _ h => h) (Or.inr ⟨by rfl, rfl⟩) ?_ ?_
        rotate_left
        · simp only [Act.put, List.setIfInBounds_toArray, List.set_cons_zero, List.set_cons_succ, i64_w, i32_w]
          rfl
        refine pure_ (i := 5) (N := some 98) (v := undef) (a' := ?_) #[true, true, true, true, true, true, false, false, false, false, false, false, false, false, false, false, false, false, false, false, false, false, false, false, false, false, false] rfl rfl (by kernel_rfl) (fun _ _ _ h => h) (Or.inr ⟨by rfl, rfl⟩) ?_ ?_
        rotate_left
        · simp only [Act.put, List.setIfInBounds_toArray, List.set_cons_zero, List.set_cons_succ, i64_w, i32_w]
          rfl
        refine pure_ (i := 6) (N := some 99) (v := undef) (a' := ?_) #[true, true, true, true, true, true, true, false, false, false, false, false, false, false, false, false, false, false, false, false, false, false, false, false, false, false, false] rfl rfl (by kernel_rfl) (fun _ _ _ h => h) (Or.inr ⟨by rfl, rfl⟩) ?_ ?_
        rotate_left
        · simp only [Act.put, List.setIfInBounds_toArray, List.set_cons_zero, List.set_cons_succ, i64_w, i32_w]
          rfl
        refine pure_ (i := 7) (N := some 100) (v := undef) (a' := ?_) #[true, true, true, true, true, true, true, true, false, false, false, false, false, false, false, false, false, false, false, false, false, false, false, false, false, false, false] rfl rfl (by kernel_rfl) (fun _ _ _ h => h) (Or.inr ⟨by rfl, rfl⟩) ?_ ?_
        rotate_left
        · simp only [Act.put, List.setIfInBounds_toArray, List.set_cons_zero, List.set_cons_succ, i64_w, i32_w]
          rfl
        refine pure_ (i := 8) (N := some 101) (v := undef) (a' := ?_) #[true, true, true, true, true, true, true, true, true, false, false, false, false, false, false, false, false, false, false, false, false, false, false, false, false, false, false] rfl rfl (by kernel_rfl) (fun _ _ _ h => h) (Or.inr ⟨by rfl, rfl⟩) ?_ ?_
        rotate_left
        · simp only [Act.put, List.setIfInBounds_toArray, List.set_cons_zero, List.set_cons_succ, i64_w, i32_w]
          rfl
        refine pure_ (i := 9) (N := some 102) (v := undef) (a' := ?_) #[true, true, true, true, true, true, true, true, true, true, false, false, false, false, false, false, false, false, false, false, false, false, false, false, false, false, false] rfl rfl (by kernel_rfl) (fun _ _ _ h => h) (Or.inr ⟨by rfl, rfl⟩) ?_ ?_
        rotate_left
        · simp only [Act.put, List.setIfInBounds_toArray, List.set_cons_zero, List.set_cons_succ, i64_w, i32_w]
          rfl
        refine pure_ (i := 10) (N := some 103) (v := undef) (a' := ?_) #[true, true, true, true, true, true, true, true, true, true, true, false, false, false, false, false, false, false, false, false, false, false, false, false, false, false, false] rfl rfl (by kernel_rfl) (fun _ _ _ h => h) (Or.inr ⟨by rfl, rfl⟩) ?_ ?_
        rotate_left
        · simp only [Act.put, List.setIfInBounds_toArray, List.set_cons_zero, List.set_cons_succ, i64_w, i32_w]
          rfl
        refine pure_ (i := 11) (N := some 104) (v := undef) (a' := ?_) #[true, true, true, true, true, true, true, true, true, true, true, true, false, false, false, false, false, false, false, false, false, false, false, false, false, false, false] rfl rfl (by kernel_rfl) (fun _ _ _ h => h) (Or.inr ⟨by rfl, rfl⟩) ?_ ?_
        rotate_left
        · simp only [Act.put, List.setIfInBounds_toArray, List.set_cons_zero, List.set_cons_succ, i64_w, i32_w]
          rfl
        refine pure_ (i := 12) (N := some 105) (v := undef) (a' := ?_) #[true, true, true, true, true, true, true, true, true, true, true, true, true, false, false, false, false, false, false, false, false, false, false, false, false, false, false] rfl rfl (by kernel_rfl) (fun _ _ _ h => h) (Or.inr ⟨by rfl, rfl⟩) ?_ ?_
        rotate_left
        · simp only [Act.put, List.setIfInBounds_toArray, List.set_cons_zero, List.set_cons_succ, i64_w, i32_w]
          rfl
        refine pure_ (i := 13) (N := some 106) (v := undef) (a' := ?_) #[true, true, true, true, true, true, true, true, true, true, true, true, true, true, false, false, false, false, false, false, false, false, false, false, false, false, false] rfl rfl (by kernel_rfl) (fun _ _ _ h => h) (Or.inr ⟨by rfl, rfl⟩) ?_ ?_
        rotate_left
        · simp only [Act.put, List.setIfInBounds_toArray, List.set_cons_zero, List.set_cons_succ, i64_w, i32_w]
          rfl
        refine pure_ (i := 14) (N := some 107) (v := undef) (a' := ?_) #[true, true, true, true, true, true, true, true, true, true, true, true, true, true, true, false, false, false, false, false, false, false, false, false, false, false, false] rfl rfl (by kernel_rfl) (fun _ _ _ h => h) (Or.inr ⟨by rfl, rfl⟩) ?_ ?_
        rotate_left
        · simp only [Act.put, List.setIfInBounds_toArray, List.set_cons_zero, List.set_cons_succ, i64_w, i32_w]
          rfl
        refine pure_ (i := 15) (N := some 108) (v := undef) (a' := ?_) #[true, true, true, true, true, true, true, true, true, true, true, true, true, true, true, true, false, false, false, false, false, false, false, false, false, false, false] rfl rfl (by kernel_rfl) (fun _ _ _ h => h) (Or.inr ⟨by rfl, rfl⟩) ?_ ?_
        rotate_left
        · simp only [Act.put, List.setIfInBounds_toArray, List.set_cons_zero, List.set_cons_succ, i64_w, i32_w]
          rfl
        refine pure_ (i := 16) (N := some 109) (v := undef) (a' := ?_) #[true, true, true, true, true, true, true, true, true, true, true, true, true, true, true, true, true, false, false, false, false, false, false, false, false, false, false] rfl rfl (by kernel_rfl) (fun _ _ _ h => h) (Or.inr ⟨by rfl, rfl⟩) ?_ ?_
        rotate_left
        · simp only [Act.put, List.setIfInBounds_toArray, List.set_cons_zero, List.set_cons_succ, i64_w, i32_w]
          rfl
        refine pure_ (i := 17) (N := some 110) (v := undef) (a' := ?_) #[true, true, true, true, true, true, true, true, true, true, true, true, true, true, true, true, true, true, false, false, false, false, false, false, false, false, false] rfl rfl (by kernel_rfl) (fun _ _ _ h => h) (Or.inr ⟨by rfl, rfl⟩) ?_ ?_
        rotate_left
        · simp only [Act.put, List.setIfInBounds_toArray, List.set_cons_zero, List.set_cons_succ, i64_w, i32_w]
          rfl
        refine pure_ (i := 18) (N := some 111) (v := undef) (a' := ?_) #[true, true, true, true, true, true, true, true, true, true, true, true, true, true, true, true, true, true, true, false, false, false, false, false, false, false, false] rfl rfl (by kernel_rfl) (fun _ _ _ h => h) (Or.inr ⟨by rfl, rfl⟩) ?_ ?_
        rotate_left
        · simp only [Act.put, List.setIfInBounds_toArray, List.set_cons_zero, List.set_cons_succ, i64_w, i32_w]
          rfl
        refine pure_ (i := 19) (N := some 112) (v := undef) (a' := ?_) #[true, true, true, true, true, true, true, true, true, true, true, true, true, true, true, true, true, true, true, true, false, false, false, false, false, false, false] rfl rfl (by kernel_rfl) (fun _ _ _ h => h) (Or.inr ⟨by rfl, rfl⟩) ?_ ?_
        rotate_left
        · simp only [Act.put, List.setIfInBounds_toArray, List.set_cons_zero, List.set_cons_succ, i64_w, i32_w]
          rfl
        refine pure_ (i := 20) (N := some 113) (v := undef) (a' := ?_) #[true, true, true, true, true, true, true, true, true, true, true, true, true, true, true, true, true, true, true, true, true, false, false, false, false, false, false] rfl rfl (by kernel_rfl) (fun _ _ _ h => h) (Or.inr ⟨by rfl, rfl⟩) ?_ ?_
        rotate_left
        · simp only [Act.put, List.setIfInBounds_toArray, List.set_cons_zero, List.set_cons_succ, i64_w, i32_w]
          rfl
        refine pure_ (i := 21) (N := some 114) (v := undef) (a' := ?_) #[true, true, true, true, true, true, true, true, true, true, true, true, true, true, true, true, true, true, true, true, true, true, false, false, false, false, false] rfl rfl (by kernel_rfl) (fun _ _ _ h => h) (Or.inr ⟨by rfl, rfl⟩) ?_ ?_
        rotate_left
        · simp only [Act.put, List.setIfInBounds_toArray, List.set_cons_zero, List.set_cons_succ, i64_w, i32_w]
          rfl
        refine pure_ (i := 22) (N := some 115) (v := undef) (a' := ?_) #[true, true, true, true, true, true, true, true, true, true, true, true, true, true, true, true, true, true, true, true, true, true, true, false, false, false, false] rfl rfl (by kernel_rfl) (fun _ _ _ h => h) (Or.inr ⟨by rfl, rfl⟩) ?_ ?_
        rotate_left
        · simp only [Act.put, List.setIfInBounds_toArray, List.set_cons_zero, List.set_cons_succ, i64_w, i32_w]
          rfl
        refine pure_ (i := 23) (N := some 116) (v := undef) (a' := ?_) #[true, true, true, true, true, true, true, true, true, true, true, true, true, true, true, true, true, true, true, true, true, true, true, true, false, false, false] rfl rfl (by kernel_rfl) (fun _ _ _ h => h) (Or.inr ⟨by rfl, rfl⟩) ?_ ?_
        rotate_left
        · simp only [Act.put, List.setIfInBounds_toArray, List.set_cons_zero, List.set_cons_succ, i64_w, i32_w]
          rfl
        refine pure_ (i := 24) (N := some 117) (v := undef) (a' := ?_) #[true, true, true, true, true, true, true, true, true, true, true, true, true, true, true, true, true, true, true, true, true, true, true, true, true, false, false] rfl rfl (by kernel_rfl) (fun _ _ _ h => h) (Or.inr ⟨by rfl, rfl⟩) ?_ ?_
        rotate_left
        · simp only [Act.put, List.setIfInBounds_toArray, List.set_cons_zero, List.set_cons_succ, i64_w, i32_w]
          rfl
        refine pure_ (i := 25) (N := some 118) (v := undef) (a' := ?_) #[true, true, true, true, true, true, true, true, true, true, true, true, true, true, true, true, true, true, true, true, true, true, true, true, true, true, false] rfl rfl (by kernel_rfl) (fun _ _ _ h => h) (Or.inr ⟨by rfl, rfl⟩) ?_ ?_
        rotate_left
        · simp only [Act.put, List.setIfInBounds_toArray, List.set_cons_zero, List.set_cons_succ, i64_w, i32_w]
          rfl
        refine pure_ (i := 26) (N := some 119) (v := ?_) (a' := ?_) #[true, true, true, true, true, true, true, true, true, true, true, true, true, true, true, true, true, true, true, true, true, true, true, true, true, true, true] rfl rfl (by kernel_rfl) (fun _ _ _ h => h) (Or.inl ⟨by rfl, ?_⟩) ?_ ?_
        rotate_left
        · intro w'
          go_simp
          with_reducible rfl
        rotate_left
        · simp only [Act.put, List.setIfInBounds_toArray, List.set_cons_zero, List.set_cons_succ, i64_w, i32_w]
          rfl
        refine done_ (by kernel_rfl) ?_
        obtain ⟨W9, hw9⟩ : ∃ x : World, x = W7.drew := ⟨_, rfl⟩
        have hbd9 : Below W7.heap.size W7 W9 := by rw [hw9]; exact below_drew (Below.refl _ _)
        rw [← hw9]
        clear hw9
        have HB10 := Aside0.mk (below_step HB8.out hbd9)
        have Bc10 : Aside0 (W9.heap[gc7]? = some (.cells #[.int .i64 ch.1, .slice Ba ch.2.1.length da, .slice Ca ch.2.2.length fa] 39 (0, 0))) := ⟨(hbd9.block _ (blk_lt Bc7.out)).trans Bc7.out⟩
        have Wfw10 := Aside0.mk (WAt.below Wfw8.out hbd9)
        clear hbd9
        go_wp2_with fail
        go_roundw
        case rel => exact ⟨k + 1, by omega, by go_num, ⟨⟨true, [x0, x1, x2, x3], Wfw10.out⟩⟩, HB10⟩
        case measure => simp [intOf]; omega
      · subst e1 e2
        have HY := Aside0.mk (yes_four x0 x3 ⟨e0, e3⟩ t)
        have d0 : decide (1 ≤ x0) = true := decide_eq_true e0
        have d3 : decide (0 ≤ x3) = true := decide_eq_true e3
        obtain ⟨y3, hy3⟩ : ∃ y, y = wrap64 (x3 + 1) := ⟨_, rfl⟩
        have HY3 := Aside0.mk hy3
        have hw3 : IntKind.i64.wrap (x3 + 1) = y3 := by rw [hy3]; exact i64_w _
        have hw4 : wrap64 (x3 + 1) = y3 := hy3.symm
        have HYW := Aside0.mk (show wantOf 2 1 t true [x0, 2, 1, x3] 0 = (2, [x0, 2, 1, x3], [x0, 2, 1, y3]) by rw [HY.out.2.2, hw4])
        have hne : (x0 != x0) = false := by simp
        clear e0 e3 hy3
        go_wp2_with fail
        refine (saw_c _ gw3 (2) (1) (t) (sw) (v) (0) HWA.out (some ad) cB [x0, 2, 1, x3] (Kd.C_below HC0.out HW.out) HcB.out (by first | omega | (simp; done))).mono ?_
        rw [show sawAge _ _ _ _ = 0 from HS.out]
        rintro e w1 ⟨rfl, hW1, hg1⟩
        have HB2 := Aside0.mk (below_watch HW.out hg1 GSw3.out)
        have Wfw2 := Aside0.mk hW1
        clear hW1 hg1
        obtain ⟨c0a, c1a, c2a, c3a⟩ := C4' (Kd.C_below HC0.out HB2.out)
        go_wp2_with fail
        have hld := leads_c _ gw3 (2) (1) (t) (true) ([x0, 2, 1, x3]) (0) Wfw2.out
        rw [HY.out.1, HY.out.2.1] at hld
        refine hld.mono ?_
        rintro e w20 ⟨rfl, hb20⟩
        clear hld
        clear c0a c1a c2a c3a
        have HB3 := Aside0.mk (below_step HB2.out hb20)
        have Wfw3 := Aside0.mk (WAt.below Wfw2.out hb20)
        clear hb20
        obtain ⟨c0b, c1b, c2b, c3b⟩ := C4' (Kd.C_below HC0.out HB3.out)
        go_wp2_with fail
        refine (age_c _ gw3 (2) (1) (t) (true) ([x0, 2, 1, x3]) (0) Wfw3.out).mono ?_
        rintro e w21 ⟨rfl, hb21⟩
        clear c0b c1b c2b c3b
        have HB4 := Aside0.mk (below_step HB3.out hb21)
        have Wfw4 := Aside0.mk (WAt.below Wfw3.out hb21)
        clear hb21
        go_wp2_with fail
        have hwt5 := want_c _ gw3 (2) (1) (t) (true) ([x0, 2, 1, x3]) (0) Wfw4.out
        rw [show wantOf _ _ _ _ _ _ = ((2, [x0, 2, 1, x3], [x0, 2, 1, y3]) : ChT) from HYW.out] at hwt5
        refine hwt5.mono ?_
        rintro e w5 ⟨Ba, da, Ca, fa, rfl, hRo5, hRn5, hb5⟩
        clear hwt5
        have HB6 := Aside0.mk (below_step HB4.out hb5)
        have Wfw6 := Aside0.mk (WAt.below Wfw4.out hb5)
        clear hb5
        have HRo5 := Aside0.mk hRo5
        have HRn5 := Aside0.mk hRn5
        clear hRo5 hRn5
        go_wp2_with fail
        obtain ⟨W7, hw7⟩ : ∃ x : World, x = w5.alloc (.cells #[.int .i64 2, .slice Ba 4 da, .slice Ca 4 fa] 39) := ⟨_, rfl⟩
        have hbs7 : Below w5.heap.size w5 W7 := by rw [hw7]; repeat (first | exact Below.refl _ _ | refine below_alloc ?_ _ | refine below_drew ?_)
        obtain ⟨gc7, hgc7⟩ : ∃ x, x = w5.heap.size := ⟨_, rfl⟩
        have GSc7 : Aside0 (W.heap.size ≤ gc7) := ⟨by rw [hgc7]; have := HB6.out.size; omega⟩
        have Bc7 : Aside0 (W7.heap[gc7]? = some (.cells #[.int .i64 2, .slice Ba 4 da, .slice Ca 4 fa] 39 (0, 0))) := ⟨by rw [hw7, hgc7]; exact blk_new _ _⟩
        rw [← hw7]
        rw [← hgc7]
        clear hw7 hgc7
        have HB8 := Aside0.mk (below_step HB6.out hbs7)
        have Rao8 := Aside0.mk (Kd.R_below HRo5.out hbs7)
        have Ran8 := Aside0.mk (Kd.R_below HRn5.out hbs7)
        have Wfw8 := Aside0.mk (WAt.below Wfw6.out hbs7)
        clear hbs7
        have zc9_0 : W7.cell? ⟨gc7, 0, none⟩ = some (.int .i64 2) := (blk_cell Bc7.out 0).trans rfl
        have zc9_1 : W7.cell? ⟨gc7, 1, none⟩ = some (.slice Ba 4 da) := (blk_cell Bc7.out 1).trans rfl
        have zc9_2 : W7.cell? ⟨gc7, 2, none⟩ = some (.slice Ca 4 fa) := (blk_cell Bc7.out 2).trans rfl
        obtain ⟨c0c, c1c, c2c, c3c⟩ := C4' (Kd.C_below HC0.out HB8.out)
        have HO4 := Aside0.mk (show (Kd.int .i64).C W7 Ba 4 [x0, 2, 1, x3] from (Kd.R_reads' Rao8.out).2.2)
        have HN4 := Aside0.mk (show (Kd.int .i64).C W7 Ca 4 [x0, 2, 1, y3] from (Kd.R_reads' Ran8.out).2.2)
        have HV4 := Aside0.mk (show (Kd.int .i64).C W7 (some ad) 4 [x0, 2, 1, x3] from Kd.C_below HC0.out HB8.out)
        have HO4c := Aside0.mk (show 4 ≤ da from (Kd.R_reads' Rao8.out).2.1)
        have HN4c := Aside0.mk (show 4 ≤ fa from (Kd.R_reads' Ran8.out).2.1)
        have HV4c := Aside0.mk (show 4 ≤ cB from HcB.out)
        refine start_ (n := 27) (S := fun w' => w'.cell? ⟨gc7, 0, none⟩ = some (.int .i64 2) ∧ w'.cell? ⟨gc7, 1, none⟩ = some (.slice Ba 4 da) ∧ w'.cell? ⟨gc7, 2, none⟩ = some (.slice Ca 4 fa) ∧ w'.cell? ad = some (.int .i64 x0) ∧ w'.cell? ⟨ad.block, ad.off + 1, none⟩ = some (.int .i64 2) ∧ w'.cell? ⟨ad.block, ad.off + 2, none⟩ = some (.int .i64 1) ∧ w'.cell? ⟨ad.block, ad.off + 3, none⟩ = some (.int .i64 x3)) (ds := []) #[false, false, false, false, false, false, false, false, false, false, false, false, false, false, false, false, false, false, false, false, false, false, false, false, false, false, false] (by kernel_rfl) rfl rfl ⟨zc9_0, zc9_1, zc9_2, c0c, c1c, c2c, c3c⟩ (fun hHeld => ?_)
        refine pure_ (i := 0) (N := some 93) (v := ?_) (a' := ?_) #[true, false, false, false, false, false, false, false, false, false, false, false, false, false, false, false, false, false, false, false, false, false, false, false, false, false, false] rfl rfl (by kernel_rfl) (fun _ _ _ h => h) (Or.inl ⟨by rfl, ?_⟩) ?_ ?_
        rotate_left
        · intro w'
          go_simp
          with_reducible rfl
        rotate_left
        · simp only [Act.put, List.setIfInBounds_toArray, List.set_cons_zero, List.set_cons_succ, i64_w, i32_w]
          rfl
        refine pure_ (i := 1) (N := some 94) (v := ?_) (a' := ?_) #[true, true, false, false, false, false, false, false, false, false, false, false, false, false, false, false, false, false, false, false, false, false, false, false, false, false, false] rfl rfl (by kernel_rfl) (fun _ _ _ h => h) (Or.inl ⟨by rfl, ?_⟩) ?_ ?_
        rotate_left
        · intro w'
          go_simp
          with_reducible rfl
        rotate_left
        · simp only [Act.put, List.setIfInBounds_toArray, List.set_cons_zero, List.set_cons_succ, i64_w, i32_w]
          rfl
        refine pure_ (i := 2) (N := some 95) (v := ?_) (a' := ?_) #[true, true, true, false, false, false, false, false, false, false, false, false, false, false, false, false, false, false, false, false, false, false, false, false, false, false, false] rfl rfl (by kernel_rfl) (fun _ _ _ h => h) (Or.inl ⟨by rfl, ?_⟩) ?_ ?_
        rotate_left
        · intro w'
          go_simp
          with_reducible rfl
        rotate_left
        · simp only [Act.put, List.setIfInBounds_toArray, List.set_cons_zero, List.set_cons_succ, i64_w, i32_w]
          rfl
        refine take_ (i := 3) (N := some 96) (v := ?_) (a' := ?_) #[true, true, true, true, false, false, false, false, false, false, false, false, false, false, false, false, false, false, false, false, false, false, false, false, false, false, false] rfl rfl (by kernel_rfl) (fun _ _ _ h => h) (Or.inl ⟨by rfl, ?_⟩) hHeld ?_ ?_
        rotate_left
        · rintro w' ⟨s0, s1, s2, s3, s4, s5, s6⟩
          go_simp
          with_reducible rfl
        rotate_left
        · simp only [Act.put, List.setIfInBounds_toArray, List.set_cons_zero, List.set_cons_succ, i64_w, i32_w]
          rfl
        refine pure_ (i := 4) (N := some 97) (v := ?_) (a' := ?_) #[true, true, true, true, true, false, false, false, false, false, false, false, false, false, false, false, false, false, false, false, false, false, false, false, false, false, false] rfl rfl (by kernel_rfl) (fun _ _ _ h => h) (Or.inl ⟨by rfl, ?_⟩) ?_ ?_
        rotate_left
        · intro w'
          go_simp
          with_reducible rfl
        rotate_left
        · simp only [Act.put, List.setIfInBounds_toArray, List.set_cons_zero, List.set_cons_succ, i64_w, i32_w]
          rfl
        refine pure_ (i := 5) (N := some 98) (v := ?_) (a' := ?_) #[true, true, true, true, true, true, false, false, false, false, false, false, false, false, false, false, false, false, false, false, false, false, false, false, false, false, false] rfl rfl (by kernel_rfl) (fun _ _ _ h => h) (Or.inl ⟨by rfl, ?_⟩) ?_ ?_
        rotate_left
        · intro w'
          go_simp
          with_reducible rfl
        rotate_left
        · simp only [Act.put, List.setIfInBounds_toArray, List.set_cons_zero, List.set_cons_succ, i64_w, i32_w]
          rfl
        refine pure_ (i := 6) (N := some 99) (v := ?_) (a' := ?_) #[true, true, true, true, true, true, true, false, false, false, false, false, false, false, false, false, false, false, false, false, false, false, false, false, false, false, false] rfl rfl (by kernel_rfl) (fun _ _ _ h => h) (Or.inl ⟨by rfl, ?_⟩) ?_ ?_
        rotate_left
        · intro w'
          go_simp
          with_reducible rfl
        rotate_left
        · simp only [Act.put, List.setIfInBounds_toArray, List.set_cons_zero, List.set_cons_succ, i64_w, i32_w]
          rfl
        refine pure_ (i := 8) (N := some 101) (v := ?_) (a' := ?_) #[true, true, true, true, true, true, true, false, true, false, false, false, false, false, false, false, false, false, false, false, false, false, false, false, false, false, false] rfl rfl (by kernel_rfl) (fun _ _ _ h => h) (Or.inl ⟨by rfl, ?_⟩) ?_ ?_
        rotate_left
        · intro w'
          go_simp
          with_reducible rfl
        rotate_left
        · simp only [Act.put, List.setIfInBounds_toArray, List.set_cons_zero, List.set_cons_succ, i64_w, i32_w]
          rfl
        refine take_ (i := 7) (N := some 100) (v := ?_) (a' := ?_) #[true, true, true, true, true, true, true, true, true, false, false, false, false, false, false, false, false, false, false, false, false, false, false, false, false, false, false] rfl rfl (by kernel_rfl) (fun _ _ _ h => h) (Or.inl ⟨by rfl, ?_⟩) hHeld ?_ ?_
        rotate_left
        · rintro w' ⟨s0, s1, s2, s3, s4, s5, s6⟩
          go_simp
          with_reducible rfl
        rotate_left
        · simp only [Act.put, List.setIfInBounds_toArray, List.set_cons_zero, List.set_cons_succ, i64_w, i32_w]
          rfl
        refine one_ (i := 9) (N := some 102) #[true, true, true, true, true, true, true, true, true, true, false, false, false, false, false, false, false, false, false, false, false, false, false, false, false, false, false] rfl rfl (by kernel_rfl) (by decide) (fun K hK => ?_)
        refine goes_ Try.func13 (by kernel_rfl) rfl #[.slice Ba 4 da, .slice (some ad) 4 cB] (by rfl) rfl rfl (by simp only [List.map_toArray, List.map_cons, List.map_nil]; rfl) ?_
        with_reducible refine (ints4_v Ba da (some ad) cB x0 2 1 x3 _ (Kd.C_drew HO4.out) HO4c.out (Kd.C_drew HV4.out) HV4c.out).mono ?_
        rintro e v9 ⟨rfl, hb9⟩
        refine ⟨_, rfl, ?_⟩
        have HB9 := Aside0.mk (below_step (below_drew (Below.refl _ W7)) hb9)
        have HX4 := Aside0.mk (show (Kd.int .i64).C (v9.alloc (.cells #[.int .i64 x0, .int .i64 2, .int .i64 1, .int .i64 y3] 3)) (some ⟨v9.heap.size, 0, none⟩) 4 [x0, 2, 1, y3] from C_blk [x0, 2, 1, y3] (blk_new v9 _) rfl (by simp))
        clear hb9
        refine hK.out _ _ ⟨pw_cell_below HB9.out zc9_0, pw_cell_below HB9.out zc9_1, pw_cell_below HB9.out zc9_2, pw_cell_below HB9.out c0c, pw_cell_below HB9.out c1c, pw_cell_below HB9.out c2c, pw_cell_below HB9.out c3c⟩ (fun hHeld => ?_)
        clear hK K
        refine norm_ (a' := ?_) ?_ ?_
        rotate_left
        · show Act.put _ (some 102) _ = _
          simp only [Act.put, List.setIfInBounds_toArray, List.set_cons_zero, List.set_cons_succ, i64_w, i32_w]
          rfl
        refine pure_ (i := 10) (N := some 103) (v := ?_) (a' := ?_) #[true, true, true, true, true, true, true, true, true, true, true, false, false, false, false, false, false, false, false, false, false, false, false, false, false, false, false] rfl rfl (by kernel_rfl) (fun _ _ _ h => h) (Or.inl ⟨by rfl, ?_⟩) ?_ ?_
        rotate_left
        · intro w'
          go_simp
          with_reducible rfl
        rotate_left
        · simp only [Act.put, List.setIfInBounds_toArray, List.set_cons_zero, List.set_cons_succ, i64_w, i32_w]
          rfl
        refine pure_ (i := 11) (N := some 104) (v := ?_) (a' := ?_) #[true, true, true, true, true, true, true, true, true, true, true, true, false, false, false, false, false, false, false, false, false, false, false, false, false, false, false] rfl rfl (by kernel_rfl) (fun _ _ _ h => h) (Or.inl ⟨by rfl, ?_⟩) ?_ ?_
        rotate_left
        · intro w'
          go_simp
          with_reducible rfl
        rotate_left
        · simp only [Act.put, List.setIfInBounds_toArray, List.set_cons_zero, List.set_cons_succ, i64_w, i32_w]
          rfl
        refine pure_ (i := 12) (N := some 105) (v := ?_) (a' := ?_) #[true, true, true, true, true, true, true, true, true, true, true, true, true, false, false, false, false, false, false, false, false, false, false, false, false, false, false] rfl rfl (by kernel_rfl) (fun _ _ _ h => h) (Or.inl ⟨by rfl, ?_⟩) ?_ ?_
        rotate_left
        · intro w'
          go_simp
          with_reducible rfl
        rotate_left
        · simp only [Act.put, List.setIfInBounds_toArray, List.set_cons_zero, List.set_cons_succ, i64_w, i32_w]
          rfl
        refine pure_ (i := 13) (N := some 106) (v := ?_) (a' := ?_) #[true, true, true, true, true, true, true, true, true, true, true, true, true, true, false, false, false, false, false, false, false, false, false, false, false, false, false] rfl rfl (by kernel_rfl) (fun _ _ _ h => h) (Or.inl ⟨by rfl, ?_⟩) ?_ ?_
        rotate_left
        · intro w'
          go_simp
          with_reducible rfl
        rotate_left
        · simp only [Act.put, List.setIfInBounds_toArray, List.set_cons_zero, List.set_cons_succ, i64_w, i32_w]
          rfl
        refine pure_ (i := 15) (N := some 108) (v := ?_) (a' := ?_) #[true, true, true, true, true, true, true, true, true, true, true, true, true, true, false, true, false, false, false, false, false, false, false, false, false, false, false] rfl rfl (by kernel_rfl) (fun _ _ _ h => h) (Or.inl ⟨by rfl, ?_⟩) ?_ ?_
        rotate_left
        · intro w'
          go_simp
          with_reducible rfl
        rotate_left
        · simp only [Act.put, List.setIfInBounds_toArray, List.set_cons_zero, List.set_cons_succ, i64_w, i32_w]
          rfl
        refine pure_ (i := 16) (N := some 109) (v := ?_) (a' := ?_) #[true, true, true, true, true, true, true, true, true, true, true, true, true, true, false, true, true, false, false, false, false, false, false, false, false, false, false] rfl rfl (by kernel_rfl) (fun _ _ _ h => h) (Or.inl ⟨by rfl, ?_⟩) ?_ ?_
        rotate_left
        · intro w'
          go_simp
          with_reducible rfl
        rotate_left
        · simp only [Act.put, List.setIfInBounds_toArray, List.set_cons_zero, List.set_cons_succ, i64_w, i32_w]
          rfl
        refine pure_ (i := 18) (N := some 111) (v := ?_) (a' := ?_) #[true, true, true, true, true, true, true, true, true, true, true, true, true, true, false, true, true, false, true, false, false, false, false, false, false, false, false] rfl rfl (by kernel_rfl) (fun _ _ _ h => h) (Or.inl ⟨by rfl, ?_⟩) ?_ ?_
        rotate_left
        · intro w'
          go_simp
          with_reducible rfl
        rotate_left
        · simp only [Act.put, List.setIfInBounds_toArray, List.set_cons_zero, List.set_cons_succ, i64_w, i32_w]
          rfl
        refine pure_ (i := 19) (N := some 112) (v := ?_) (a' := ?_) #[true, true, true, true, true, true, true, true, true, true, true, true, true, true, false, true, true, false, true, true, false, false, false, false, false, false, false] rfl rfl (by kernel_rfl) (fun _ _ _ h => h) (Or.inl ⟨by rfl, ?_⟩) ?_ ?_
        rotate_left
        · intro w'
          go_simp
          with_reducible rfl
        rotate_left
        · simp only [Act.put, List.setIfInBounds_toArray, List.set_cons_zero, List.set_cons_succ, i64_w, i32_w]
          rfl
        refine take_ (i := 14) (N := some 107) (v := ?_) (a' := ?_) #[true, true, true, true, true, true, true, true, true, true, true, true, true, true, true, true, true, false, true, true, false, false, false, false, false, false, false] rfl rfl (by kernel_rfl) (fun _ _ _ h => h) (Or.inl ⟨by rfl, ?_⟩) hHeld ?_ ?_
        rotate_left
        · rintro w' ⟨s0, s1, s2, s3, s4, s5, s6⟩
          go_simp
          with_reducible rfl
        rotate_left
        · simp only [Act.put, List.setIfInBounds_toArray, List.set_cons_zero, List.set_cons_succ, i64_w, i32_w]
          rfl
        refine take_ (i := 17) (N := some 110) (v := ?_) (a' := ?_) #[true, true, true, true, true, true, true, true, true, true, true, true, true, true, true, true, true, true, true, true, false, false, false, false, false, false, false] rfl rfl (by kernel_rfl) (fun _ _ _ h => h) (Or.inl ⟨by rfl, ?_⟩) hHeld ?_ ?_
        rotate_left
        · rintro w' ⟨s0, s1, s2, s3, s4, s5, s6⟩
          go_simp
          with_reducible rfl
        rotate_left
        · simp only [Act.put, List.setIfInBounds_toArray, List.set_cons_zero, List.set_cons_succ, i64_w, i32_w]
          rfl
        refine take_ (i := 20) (N := some 113) (v := ?_) (a' := ?_) #[true, true, true, true, true, true, true, true, true, true, true, true, true, true, true, true, true, true, true, true, true, false, false, false, false, false, false] rfl rfl (by kernel_rfl) (fun _ _ _ h => h) (Or.inl ⟨by rfl, ?_⟩) hHeld ?_ ?_
        rotate_left
        · rintro w' ⟨s0, s1, s2, s3, s4, s5, s6⟩
          go_simp
          with_reducible rfl
        rotate_left
        · simp only [Act.put, List.setIfInBounds_toArray, List.set_cons_zero, List.set_cons_succ, i64_w, i32_w]
          rfl
        refine pure_ (i := 21) (N := some 114) (v := ?_) (a' := ?_) #[true, true, true, true, true, true, true, true, true, true, true, true, true, true, true, true, true, true, true, true, true, true, false, false, false, false, false] rfl rfl (by kernel_rfl) (fun _ _ _ h => h) (Or.inl ⟨by rfl, ?_⟩) ?_ ?_
        rotate_left
        · intro w'
          go_simp
          with_reducible rfl
        rotate_left
        · simp only [Act.put, List.setIfInBounds_toArray, List.set_cons_zero, List.set_cons_succ, i64_w, i32_w]
          rfl
        refine one_ (i := 22) (N := some 115) #[true, true, true, true, true, true, true, true, true, true, true, true, true, true, true, true, true, true, true, true, true, true, true, false, false, false, false] rfl rfl (by kernel_rfl) (by decide) (fun K hK => ?_)
        refine value_ (w1 := ?_) (v := ?_) (by rfl) rfl ?_ ?_
        rotate_left 2
        · go_simp
          constructor
          · rfl
          · rfl
        refine hK.out _ _ ⟨pw_cell_below (below_alloc (Below.refl _ _) _) (pw_cell_below HB9.out zc9_0), pw_cell_below (below_alloc (Below.refl _ _) _) (pw_cell_below HB9.out zc9_1), pw_cell_below (below_alloc (Below.refl _ _) _) (pw_cell_below HB9.out zc9_2), pw_cell_below (below_alloc (Below.refl _ _) _) (pw_cell_below HB9.out c0c), pw_cell_below (below_alloc (Below.refl _ _) _) (pw_cell_below HB9.out c1c), pw_cell_below (below_alloc (Below.refl _ _) _) (pw_cell_below HB9.out c2c), pw_cell_below (below_alloc (Below.refl _ _) _) (pw_cell_below HB9.out c3c)⟩ (fun hHeld => ?_)
        clear hK K
        refine norm_ (a' := ?_) ?_ ?_
        rotate_left
        · show Act.put _ (some 115) _ = _
          simp only [Act.put, List.setIfInBounds_toArray, List.set_cons_zero, List.set_cons_succ, i64_w, i32_w]
          rfl
        refine one_ (i := 23) (N := some 116) #[true, true, true, true, true, true, true, true, true, true, true, true, true, true, true, true, true, true, true, true, true, true, true, true, false, false, false] rfl rfl (by kernel_rfl) (by decide) (fun K hK => ?_)
        refine goes_ Try.func13 (by kernel_rfl) rfl #[.slice Ca 4 fa, .slice (some ⟨v9.heap.size, 0, none⟩) 4 4] (by rfl) rfl rfl (by simp only [List.map_toArray, List.map_cons, List.map_nil]; rfl) ?_
        with_reducible refine (ints4_v Ca fa (some ⟨v9.heap.size, 0, none⟩) 4 x0 2 1 y3 _ (Kd.C_alloc (Kd.C_below HN4.out HB9.out) _) HN4c.out HX4.out (Nat.le_refl _)).mono ?_
        rintro e v23 ⟨rfl, hb23⟩
        refine ⟨_, rfl, ?_⟩
        have HB23 := Aside0.mk (below_step (below_alloc HB9.out _) hb23)
        clear hb23
        refine hK.out _ _ ⟨pw_cell_below HB23.out zc9_0, pw_cell_below HB23.out zc9_1, pw_cell_below HB23.out zc9_2, pw_cell_below HB23.out c0c, pw_cell_below HB23.out c1c, pw_cell_below HB23.out c2c, pw_cell_below HB23.out c3c⟩ (fun hHeld => ?_)
        clear hK K
        refine norm_ (a' := ?_) ?_ ?_
        rotate_left
        · show Act.put _ (some 116) _ = _
          simp only [Act.put, List.setIfInBounds_toArray, List.set_cons_zero, List.set_cons_succ, i64_w, i32_w]
          rfl
        refine pure_ (i := 24) (N := some 117) (v := ?_) (a' := ?_) #[true, true, true, true, true, true, true, true, true, true, true, true, true, true, true, true, true, true, true, true, true, true, true, true, true, false, false] rfl rfl (by kernel_rfl) (fun _ _ _ h => h) (Or.inl ⟨by rfl, ?_⟩) ?_ ?_
        rotate_left
        · intro w'
          go_simp
          with_reducible rfl
        rotate_left
        · simp only [Act.put, List.setIfInBounds_toArray, List.set_cons_zero, List.set_cons_succ, i64_w, i32_w]
          rfl
        refine pure_ (i := 25) (N := some 118) (v := ?_) (a' := ?_) #[true, true, true, true, true, true, true, true, true, true, true, true, true, true, true, true, true, true, true, true, true, true, true, true, true, true, false] rfl rfl (by kernel_rfl) (fun _ _ _ h => h) (Or.inl ⟨by rfl, ?_⟩) ?_ ?_
        rotate_left
        · intro w'
          go_simp
          with_reducible rfl
        rotate_left
        · simp only [Act.put, List.setIfInBounds_toArray, List.set_cons_zero, List.set_cons_succ, i64_w, i32_w]
          rfl
        refine pure_ (i := 26) (N := some 119) (v := ?_) (a' := ?_) #[true, true, true, true, true, true, true, true, true, true, true, true, true, true, true, true, true, true, true, true, true, true, true, true, true, true, true] rfl rfl (by kernel_rfl) (fun _ _ _ h => h) (Or.inl ⟨by rfl, ?_⟩) ?_ ?_
        rotate_left
        · intro w'
          go_simp
          with_reducible rfl
        rotate_left
        · simp only [Act.put, List.setIfInBounds_toArray, List.set_cons_zero, List.set_cons_succ, i64_w, i32_w]
          rfl
        refine done_ (by kernel_rfl) ?_
        have hbe := HB23.out
        clear zc9_0 zc9_1 zc9_2 c0c c1c c2c c3c
        have HB10 := Aside0.mk (below_step HB8.out hbe)
        have Bc10 : Aside0 (v23.heap[gc7]? = some (.cells #[.int .i64 2, .slice Ba 4 da, .slice Ca 4 fa] 39 (0, 0))) := ⟨(hbe.block _ (blk_lt Bc7.out)).trans Bc7.out⟩
        have Rao10 := Aside0.mk (Kd.R_below Rao8.out hbe)
        have Ran10 := Aside0.mk (Kd.R_below Ran8.out hbe)
        have Wfw10 := Aside0.mk (WAt.below Wfw8.out hbe)
        clear hbe
        go_wp2_with fail
        go_roundw
        case rel => exact ⟨k + 1, by omega, by go_num, ⟨⟨true, [x0, 2, 1, x3], Wfw10.out⟩⟩, HB10⟩
        case measure => simp [intOf]; omega
theorem sees_walk (w : World) (A1 : Option Addr) (c1 : Nat) (vs : List (List Int)) (hr : (Kd.slice 3 (Kd.int .i64)).C w A1 vs.length vs) (hc : vs.length ≤ c1) {Q : Prop} (hq : Q) (a : Int) (ha : (Lit.int .i64 a).wf = true) : Calls Try.prog 5 #[.slice A1 vs.length c1, .int .i64 a] w fun e w' => e = .returned (.bool true) ∧ Below w.heap.size w w' := sees_any A1 c1 vs a w hr hc
end Go.Proofs.Ytimfbdiiaakhiaa.MAll

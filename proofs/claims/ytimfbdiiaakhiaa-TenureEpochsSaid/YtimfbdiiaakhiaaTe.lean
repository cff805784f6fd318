/- TenureWaits: the walk. -/
import Derived.Test.YtimfbdiiaakhiaaTc
set_option linter.unusedVariables false
set_option linter.unusedSimpArgs false
namespace Go.Proofs.Ytimfbdiiaakhiaa.MAll
open Go.RowKit Go.Proofs.YtimfbdiiaakhiaaW.PrintWords Go.Proofs.YtimfbdiiaakhiaaW.PrintLast Go.Proofs.YtimfbdiiaakhiaaW.PrintMore

theorem umod (x k : Int) (hk : 0 < k) : 0 ≤ (IntKind.u64.wrap x).tmod k ∧ (IntKind.u64.wrap x).tmod k < k := by
  have h : 0 ≤ IntKind.u64.wrap x := by show 0 ≤ x % _; exact Int.emod_nonneg _ (by decide)
  rw [Int.tmod_eq_emod_of_nonneg h]
  exact ⟨Int.emod_nonneg _ (by omega), Int.emod_lt_of_pos _ hk⟩
theorem umod_nat (x k : Int) (hk : 0 < k ∧ k ≤ 100) : ∃ t : Nat, wrap64 ((IntKind.u64.wrap x).tmod k) = (t : Int) ∧ (t : Int) < k := by
  obtain ⟨h0, h1⟩ := umod x k hk.1
  refine ⟨((IntKind.u64.wrap x).tmod k).toNat, ?_, by omega⟩
  generalize (IntKind.u64.wrap x).tmod k = r at *
  unfold wrap64
  omega
theorem umod_one (x k : Int) (hk : 0 < k ∧ k ≤ 100) : ∃ t : Nat, wrap64 (1 + wrap64 ((IntKind.u64.wrap x).tmod k)) = (t : Int) ∧ 1 ≤ t ∧ (t : Int) ≤ k := by
  obtain ⟨t, h0, h1⟩ := umod_nat x k hk
  rw [h0]
  exact ⟨t + 1, by unfold wrap64; omega, by omega, by omega⟩
theorem lease7 (x : Int) (hx : 0 ≤ x) : okL [7, 4, 0, x] = true ∧ leaseOf [7, 4, 0, x] = (7, 4, 0, x) := by
  have e3 : rd [7, 4, 0, x] 3 = x := rfl
  have ho : okL [7, 4, 0, x] = true := by
    unfold okL
    rw [e3, decide_eq_true hx]
    rfl
  refine ⟨ho, ?_⟩
  unfold leaseOf
  rw [if_pos ho]
  rfl
theorem want7 (t ag x : Int) (hx : 0 ≤ x) : wantOf 5 1 t true [7, 4, 0, x] ag = if ag < t then (1, [], []) else (2, [7, 4, 0, x], [8, 5, 1, 0]) := by
  obtain ⟨h1, h2⟩ := lease7 x hx
  have hl : leadsB 5 1 [7, 4, 0, x] = false := by
    unfold leadsB
    rw [h1, h2]
    rfl
  unfold wantOf
  rw [if_pos rfl, hl, h1, h2]
  have hw : wrap64 (7 + 1) = 8 := by decide +kernel
  by_cases ha : ag < t
  · rw [if_pos ha, if_neg (by decide), if_pos ⟨rfl, ha⟩]
  · rw [if_neg ha, if_neg (by decide), if_neg (fun e => ha e.2), hw]
theorem ageUp_of (a : Int) (h : a < 1000) : ageUp a = a + 1 := by unfold ageUp; rw [if_pos h]
theorem outer_saw {sw : Bool} {v : List Int} {ag : Int} {b t : Nat} (h : (b = 0 ∧ sw = false ∧ v = [] ∧ ag = 0) ∨ (1 ≤ b ∧ sw = true ∧ v = [7, 4, 0, (b : Int) - 1] ∧ ag = (t : Int) - 1)) : sawAge sw v [7, 4, 0, (b : Int)] ag = 0 := by
  refine if_neg ?_
  rintro ⟨e1, e2⟩
  rcases h with ⟨_, h, _⟩ | ⟨_, _, h, _⟩
  · rw [h] at e1; cases e1
  · rw [h] at e2
    simp only [List.cons.injEq, and_true, true_and] at e2
    omega
def OuterRel (g : Nat) (t : Nat) (b : Nat) (w : World) : Prop := ∃ (sw : Bool) (v : List Int) (ag : Int), WAt w g 5 1 t sw v ag ∧ ((b = 0 ∧ sw = false ∧ v = [] ∧ ag = 0) ∨ (1 ≤ b ∧ sw = true ∧ v = [7, 4, 0, (b : Int) - 1] ∧ ag = (t : Int) - 1))
theorem OuterRel.end_ {g t b : Nat} {w : World} (h : OuterRel g t b w) (hb : 1 ≤ b) : WAt w g 5 1 t true [7, 4, 0, (b : Int) - 1] ((t : Int) - 1) := by
  obtain ⟨sw, v, ag, h1, h2⟩ := h
  rcases h2 with ⟨h, _⟩ | ⟨_, rfl, rfl, rfl⟩
  · omega
  · exact h1
set_option maxHeartbeats 4000000 in
set_option maxRecDepth 100000 in
theorem waits_any (a b c : Int) (W : World) : Calls Try.prog 4 #[.int .i64 a, .int .i64 b, .int .i64 c] W fun e w' => e = .returned (.bool true) ∧ Below W.heap.size W w' := by
  have hu32 := Try.underlying32
  have hu34 := Try.underlying34
  have hu39 := Try.underlying39
  have hfd := field39_0
  go_enter Try.func4, Try.ntmps4
  go_wp2_with fail
  refine (alive_any _).mono ?_
  rintro e w1 ⟨rfl, hb1⟩
  have HB2 := Aside0.mk hb1
  clear hb1
  go_wp2_with fail
  obtain ⟨t, ht, ht1, ht2⟩ := umod_one a 20 (by omega)
  obtain ⟨B, hB, hB1⟩ := umod_nat b 30 (by omega)
  obtain ⟨C, hC, hC1⟩ := umod_nat c 60 (by omega)
  rw [ht, hB, hC]
  clear ht hB hC
  refine (new_c _ (5) (1) ((t : Int)) (by unfold newOk; exact decide_eq_true (by omega))).mono ?_
  rintro e w3 ⟨gw3, rfl, hge3, hW3, hb3⟩
  have GSw3 : Aside0 (W.heap.size ≤ gw3) := ⟨Nat.le_trans HB2.out.size hge3⟩
  have HB4 := Aside0.mk (below_step HB2.out hb3)
  clear hb3
  have Wfw3 := Aside0.mk hW3
  clear hW3 hge3
  go_wp2_with fail
  go_loopw [9] (fun v9 w' => ∃ b : Nat, b ≤ B + 1 ∧ v9 = .int .i64 b ∧ Aside0 (OuterRel gw3 t b w') ∧ Aside0 (Below W.heap.size W w')) (fun v _ => B + 1 - (intOf v).toNat)
  case atStart => exact ⟨0, by omega, rfl, ⟨⟨false, [], 0, Wfw3.out, .inl ⟨rfl, rfl, rfl, rfl⟩⟩⟩, HB4⟩
  case round =>
    obtain ⟨b, hb, rfl, HO, HW⟩ := hrel
    by_cases hlt : b < B + 1
    · obtain ⟨wo, hwo⟩ : ∃ wo : World, wo = wr := ⟨_, rfl⟩
      subst hwo
      have hle : (b : Int) ≤ (B : Int) := by omega
      have hle2 : b ≤ B := by omega
      obtain ⟨sw, v, ag, HWA, hcase⟩ := HO.out
      have HWA := Aside0.mk HWA
      have HSA := Aside0.mk (show sawAge sw v [7, 4, 0, (b : Int)] ag = 0 from outer_saw hcase)
      clear hcase HO hlt
      go_wp2_with fail
      obtain ⟨W1, hw1⟩ : ∃ x : World, x = wo.alloc (.cells #[.int .i64 7, .int .i64 4, .int .i64 0, .int .i64 b] 3) := ⟨_, rfl⟩
      have hbs1 : Below wo.heap.size wo W1 := by rw [hw1]; repeat (first | exact Below.refl _ _ | refine below_alloc ?_ _ | refine below_drew ?_)
      obtain ⟨gx1, hgx1⟩ : ∃ x, x = wo.heap.size := ⟨_, rfl⟩
      have GSx1 : Aside0 (W.heap.size ≤ gx1) := ⟨by rw [hgx1]; have := HW.out.size; omega⟩
      have Bx1 : Aside0 (W1.heap[gx1]? = some (.cells #[.int .i64 7, .int .i64 4, .int .i64 0, .int .i64 b] 3 (0, 0))) := ⟨by rw [hw1, hgx1]; exact blk_new _ _⟩
      rw [← hw1]
      rw [← hgx1]
      clear hw1 hgx1
      have HB2 := Aside0.mk (below_step HW.out hbs1)
      have Wfw2 := Aside0.mk (WAt.below HWA.out hbs1)
      clear hbs1
      refine (saw_c _ gw3 (5) (1) (t) (sw) (v) (ag) Wfw2.out (some ⟨gx1, 0, none⟩) 4 [7, 4, 0, (b : Int)] (C_blk [7, 4, 0, (b : Int)] Bx1.out rfl (by simp)) (Nat.le_refl _) (by simp)).mono ?_
      rw [show sawAge _ _ _ _ = 0 from HSA.out]
      rintro e w3 ⟨rfl, hW3, hg3⟩
      have HB4 := Aside0.mk (below_watch HB2.out hg3 GSw3.out)
      have Bx4 : Aside0 (w3.heap[gx1]? = some (.cells #[.int .i64 7, .int .i64 4, .int .i64 0, .int .i64 b] 3 (0, 0))) := ⟨WAt.keep Wfw2.out hg3 Bx1.out (by decide)⟩
      have Wfw4 := Aside0.mk hW3
      clear hW3 hg3
      go_wp2_with fail
      go_loopw [10] (fun v10 w' => ∃ i : Nat, 1 ≤ i ∧ i ≤ t ∧ v10 = .int .i64 i ∧ Aside0 (WAt w' gw3 5 1 t true [7, 4, 0, (b : Int)] ((i : Int) - 1)) ∧ Aside0 (Below W.heap.size W w')) (fun v _ => t - (intOf v).toNat)
      case atStart => exact ⟨1, by omega, by omega, rfl, ⟨Wfw4.out⟩, HB4⟩
      case round =>
        obtain ⟨i, hi1, hi2, rfl, HWi, HV⟩ := hrel
        by_cases hit : i < t
        · skip
          have hit2 : (i : Int) < (t : Int) := by omega
          clear hit
          go_wp2_with fail
          refine (tick_c _ gw3 (5) (1) (t) (true) ([7, 4, 0, (b : Int)]) ((i : Int) - 1) HWi.out (by omega)).mono ?_
          rintro e w1 ⟨rfl, hW1, hg1⟩
          rw [show ageUp ((i : Int) - 1) = (i : Int) from (by rw [ageUp_of _ (by omega)]; omega)] at hW1
          have HB2 := Aside0.mk (below_watch HV.out hg1 GSw3.out)
          have Wfw2 := Aside0.mk hW1
          clear hW1 hg1
          have HWT := Aside0.mk (show wantOf 5 1 t true [7, 4, 0, (b : Int)] (i : Int) = (1, [], []) by rw [want7 _ _ _ (by omega), if_pos hit2])
          go_wp2_with fail
          have hwt3 := want_c _ gw3 (5) (1) (t) (true) ([7, 4, 0, (b : Int)]) ((i : Int)) Wfw2.out
          rw [show wantOf _ _ _ _ _ _ = ((1, [], []) : ChT) from HWT.out] at hwt3
          refine hwt3.mono ?_
          rintro e w3 ⟨Ba, da, Ca, fa, rfl, hRo3, hRn3, hb3⟩
          clear hwt3
          have HB4 := Aside0.mk (below_step HB2.out hb3)
          have Wfw4 := Aside0.mk (WAt.below Wfw2.out hb3)
          clear hb3
          have HRo3 := Aside0.mk hRo3
          have HRn3 := Aside0.mk hRn3
          clear hRo3 hRn3
          go_wp2_with fail
          go_roundw
          case rel => exact ⟨i + 1, by omega, by omega, by go_num, ⟨by have h := Wfw4.out; rw [show ((i + 1 : Nat) : Int) - 1 = (i : Int) by omega]; exact h⟩, HB4⟩
          case measure => simp [intOf]; omega
        · obtain rfl : i = t := by omega
          clear hit hi2
          go_wp2_with fail
          go_roundw
          case rel => exact ⟨b + 1, by omega, by go_num, ⟨⟨true, [7, 4, 0, (b : Int)], (i : Int) - 1, HWi.out, .inr ⟨by omega, rfl, by rw [show ((b + 1 : Nat) : Int) - 1 = (b : Int) by omega], rfl⟩⟩⟩, HV⟩
          case measure => simp [intOf]; omega
    · have hbB : B + 1 ≤ b := by omega
      have hd9 : decide (b ≤ B) = false := decide_eq_false (by omega)
      have hW9 := HO.out.end_ (by omega)
      rw [show (b : Int) - 1 = (B : Int) by omega] at hW9
      have HW9 := Aside0.mk hW9
      clear hW9 hlt HO
      go_wp2_with fail
      obtain ⟨wo, hwo⟩ : ∃ wo : World, wo = wr := ⟨_, rfl⟩
      subst hwo
      go_loopw [11] (fun v11 w' => ∃ i : Nat, i ≤ C ∧ v11 = .int .i64 i ∧ Aside0 (WAt w' gw3 5 1 t true [7, 4, 0, (B : Int)] ((t : Int) - 1 + i)) ∧ Aside0 (Below W.heap.size W w')) (fun v _ => C - (intOf v).toNat)
      case atStart => exact ⟨0, by omega, rfl, ⟨by have h := HW9.out; rw [show (t : Int) - 1 + ((0 : Nat) : Int) = (t : Int) - 1 by omega]; exact h⟩, HW⟩
      case round =>
        obtain ⟨i, hi, rfl, HWi, HV⟩ := hrel
        by_cases hic : i < C
        · skip
          have hic2 : (i : Int) < (C : Int) := by omega
          clear hic
          have HSA := Aside0.mk (show ∀ ag, sawAge true [7, 4, 0, (B : Int)] [7, 4, 0, (B : Int)] ag = ag from fun ag => if_pos ⟨rfl, rfl⟩)
          go_wp2_with fail
          refine (tick_c _ gw3 (5) (1) (t) (true) ([7, 4, 0, (B : Int)]) ((t : Int) - 1 + i) HWi.out (by omega)).mono ?_
          rintro e w1 ⟨rfl, hW1, hg1⟩
          rw [show ageUp ((t : Int) - 1 + i) = (t : Int) - 1 + ((i + 1 : Nat) : Int) from (by rw [ageUp_of _ (by omega)]; omega)] at hW1
          have HB2 := Aside0.mk (below_watch HV.out hg1 GSw3.out)
          have Wfw2 := Aside0.mk hW1
          clear hW1 hg1
          go_wp2_with fail
          obtain ⟨W3, hw3⟩ : ∃ x : World, x = w1.alloc (.cells #[.int .i64 7, .int .i64 4, .int .i64 0, .int .i64 B] 3) := ⟨_, rfl⟩
          have hbs3 : Below w1.heap.size w1 W3 := by rw [hw3]; repeat (first | exact Below.refl _ _ | refine below_alloc ?_ _ | refine below_drew ?_)
          obtain ⟨gx3, hgx3⟩ : ∃ x, x = w1.heap.size := ⟨_, rfl⟩
          have GSx3 : Aside0 (W.heap.size ≤ gx3) := ⟨by rw [hgx3]; have := HB2.out.size; omega⟩
          have Bx3 : Aside0 (W3.heap[gx3]? = some (.cells #[.int .i64 7, .int .i64 4, .int .i64 0, .int .i64 B] 3 (0, 0))) := ⟨by rw [hw3, hgx3]; exact blk_new _ _⟩
          rw [← hw3]
          rw [← hgx3]
          clear hw3 hgx3
          have HB4 := Aside0.mk (below_step HB2.out hbs3)
          have Wfw4 := Aside0.mk (WAt.below Wfw2.out hbs3)
          clear hbs3
          refine (saw_c _ gw3 (5) (1) (t) (true) ([7, 4, 0, (B : Int)]) ((t : Int) - 1 + ((i + 1 : Nat) : Int)) Wfw4.out (some ⟨gx3, 0, none⟩) 4 [7, 4, 0, (B : Int)] (C_blk [7, 4, 0, (B : Int)] Bx3.out rfl (by simp)) (Nat.le_refl _) (by simp)).mono ?_
          rw [show sawAge _ _ _ _ = (t : Int) - 1 + ((i + 1 : Nat) : Int) from HSA.out _]
          rintro e w5 ⟨rfl, hW5, hg5⟩
          have HB6 := Aside0.mk (below_watch HB4.out hg5 GSw3.out)
          have Bx6 : Aside0 (w5.heap[gx3]? = some (.cells #[.int .i64 7, .int .i64 4, .int .i64 0, .int .i64 B] 3 (0, 0))) := ⟨WAt.keep Wfw4.out hg5 Bx3.out (by decide)⟩
          have Wfw6 := Aside0.mk hW5
          clear hW5 hg5
          go_wp2_with fail
          go_roundw
          case rel => exact ⟨i + 1, by omega, by go_num, Wfw6, HB6⟩
          case measure => simp [intOf]; omega
        · obtain rfl : i = C := by omega
          clear hic hi
          go_wp2_with fail
          by_cases h0 : i = 0
          · have HWT := Aside0.mk (show wantOf 5 1 t true [7, 4, 0, (B : Int)] ((t : Int) - 1 + i) = (1, [], []) by rw [want7 _ _ _ (by omega), if_pos (by omega)])
            have hi0 : ((i : Int) == 0) = true := beq_iff_eq.2 (by omega)
            clear h0
            have hwt1 := want_c _ gw3 (5) (1) (t) (true) ([7, 4, 0, (B : Int)]) ((t : Int) - 1 + i) HWi.out
            rw [show wantOf _ _ _ _ _ _ = ((1, [], []) : ChT) from HWT.out] at hwt1
            refine hwt1.mono ?_
            rintro e w1 ⟨Ba, da, Ca, fa, rfl, hRo1, hRn1, hb1⟩
            clear hwt1
            have HB2 := Aside0.mk (below_step HV.out hb1)
            have Wfw2 := Aside0.mk (WAt.below HWi.out hb1)
            clear hb1
            have HRo1 := Aside0.mk hRo1
            have HRn1 := Aside0.mk hRn1
            clear hRo1 hRn1
            go_wp2_with fail
            go_ret
            exact ⟨rfl, by repeat (first | exact HB2.out | apply below_alloc)⟩
          · have HWT := Aside0.mk (show wantOf 5 1 t true [7, 4, 0, (B : Int)] ((t : Int) - 1 + i) = (2, [7, 4, 0, (B : Int)], [8, 5, 1, 0]) by rw [want7 _ _ _ (by omega), if_neg (by omega)])
            have hi0 : ((i : Int) == 0) = false := beq_eq_false_iff_ne.2 (by omega)
            clear h0
            have hwt1 := want_c _ gw3 (5) (1) (t) (true) ([7, 4, 0, (B : Int)]) ((t : Int) - 1 + i) HWi.out
            rw [show wantOf _ _ _ _ _ _ = ((2, [7, 4, 0, (B : Int)], [8, 5, 1, 0]) : ChT) from HWT.out] at hwt1
            refine hwt1.mono ?_
            rintro e w1 ⟨Ba, da, Ca, fa, rfl, hRo1, hRn1, hb1⟩
            clear hwt1
            have HB2 := Aside0.mk (below_step HV.out hb1)
            have Wfw2 := Aside0.mk (WAt.below HWi.out hb1)
            clear hb1
            have HRo1 := Aside0.mk hRo1
            have HRn1 := Aside0.mk hRn1
            clear hRo1 hRn1
            go_wp2_with fail
            obtain ⟨W3, hw3⟩ : ∃ x : World, x = (w1.alloc (.cells #[.int .i64 2, .slice Ba 4 da, .slice Ca 4 fa] 39)).alloc (.cells #[.int .i64 8, .int .i64 5, .int .i64 1, .int .i64 0] 3) := ⟨_, rfl⟩
            have hbs3 : Below w1.heap.size w1 W3 := by rw [hw3]; repeat (first | exact Below.refl _ _ | refine below_alloc ?_ _ | refine below_drew ?_)
            obtain ⟨gc3, hgc3⟩ : ∃ x, x = w1.heap.size := ⟨_, rfl⟩
            have GSc3 : Aside0 (W.heap.size ≤ gc3) := ⟨by rw [hgc3]; have := HB2.out.size; omega⟩
            have Bc3 : Aside0 (W3.heap[gc3]? = some (.cells #[.int .i64 2, .slice Ba 4 da, .slice Ca 4 fa] 39 (0, 0))) := ⟨by rw [hw3, hgc3]; exact blk_alloc (blk_new _ _) _⟩
            obtain ⟨gx3, hgx3⟩ : ∃ x, x = w1.heap.size + 1 := ⟨_, rfl⟩
            have GSx3 : Aside0 (W.heap.size ≤ gx3) := ⟨by rw [hgx3]; have := HB2.out.size; omega⟩
            have Bx3 : Aside0 (W3.heap[gx3]? = some (.cells #[.int .i64 8, .int .i64 5, .int .i64 1, .int .i64 0] 3 (0, 0))) := ⟨by rw [hw3, hgx3]; have := blk_new (w1.alloc (.cells #[.int .i64 2, .slice Ba 4 da, .slice Ca 4 fa] 39)) (.cells #[.int .i64 8, .int .i64 5, .int .i64 1, .int .i64 0] 3); rwa [World.size_alloc] at this⟩
            rw [← hw3]
            rw [← hgx3]
            rw [← hgc3]
            clear hw3 hgc3 hgx3
            have HB4 := Aside0.mk (below_step HB2.out hbs3)
            have Rao4 := Aside0.mk (Kd.R_below HRo1.out hbs3)
            have Ran4 := Aside0.mk (Kd.R_below HRn1.out hbs3)
            have Wfw4 := Aside0.mk (WAt.below Wfw2.out hbs3)
            clear hbs3
            refine (ints_v true Ca fa [8, 5, 1, 0] _ _ [8, 5, 1, 0] _ rfl (Kd.R_reads' Ran4.out).2.2 (Kd.R_reads' Ran4.out).2.1 (C_blk [8, 5, 1, 0] Bx3.out rfl (by simp)) (Nat.le_refl _) (by simp)).mono ?_
            rintro e w5 ⟨rfl, hb5⟩
            have HB6 := Aside0.mk (below_step HB4.out hb5)
            have Bc6 : Aside0 (w5.heap[gc3]? = some (.cells #[.int .i64 2, .slice Ba 4 da, .slice Ca 4 fa] 39 (0, 0))) := ⟨(hb5.block _ (blk_lt Bc3.out)).trans Bc3.out⟩
            have Bx6 : Aside0 (w5.heap[gx3]? = some (.cells #[.int .i64 8, .int .i64 5, .int .i64 1, .int .i64 0] 3 (0, 0))) := ⟨(hb5.block _ (blk_lt Bx3.out)).trans Bx3.out⟩
            have Rao6 := Aside0.mk (Kd.R_below Rao4.out hb5)
            have Ran6 := Aside0.mk (Kd.R_below Ran4.out hb5)
            have Wfw6 := Aside0.mk (WAt.below Wfw4.out hb5)
            clear hb5
            have zc7_0 : w5.cell? ⟨gc3, 0, none⟩ = some (.int .i64 2) := (blk_cell Bc6.out 0).trans rfl
            have zc7_1 : w5.cell? ⟨gc3, 1, none⟩ = some (.slice Ba 4 da) := (blk_cell Bc6.out 1).trans rfl
            have zc7_2 : w5.cell? ⟨gc3, 2, none⟩ = some (.slice Ca 4 fa) := (blk_cell Bc6.out 2).trans rfl
            go_wp2_with fail
            obtain ⟨W8, hw8⟩ : ∃ x : World, x = w5.alloc (.cells #[.int .i64 7, .int .i64 4, .int .i64 0, .int .i64 B] 3) := ⟨_, rfl⟩
            have hbs8 : Below w5.heap.size w5 W8 := by rw [hw8]; repeat (first | exact Below.refl _ _ | refine below_alloc ?_ _ | refine below_drew ?_)
            obtain ⟨gy8, hgy8⟩ : ∃ x, x = w5.heap.size := ⟨_, rfl⟩
            have GSy8 : Aside0 (W.heap.size ≤ gy8) := ⟨by rw [hgy8]; have := HB6.out.size; omega⟩
            have By8 : Aside0 (W8.heap[gy8]? = some (.cells #[.int .i64 7, .int .i64 4, .int .i64 0, .int .i64 B] 3 (0, 0))) := ⟨by rw [hw8, hgy8]; exact blk_new _ _⟩
            rw [← hw8]
            rw [← hgy8]
            clear hw8 hgy8
            clear zc7_0 zc7_1 zc7_2
            have HB9 := Aside0.mk (below_step HB6.out hbs8)
            have Bc9 : Aside0 (W8.heap[gc3]? = some (.cells #[.int .i64 2, .slice Ba 4 da, .slice Ca 4 fa] 39 (0, 0))) := ⟨(hbs8.block _ (blk_lt Bc6.out)).trans Bc6.out⟩
            have Bx9 : Aside0 (W8.heap[gx3]? = some (.cells #[.int .i64 8, .int .i64 5, .int .i64 1, .int .i64 0] 3 (0, 0))) := ⟨(hbs8.block _ (blk_lt Bx6.out)).trans Bx6.out⟩
            have Rao9 := Aside0.mk (Kd.R_below Rao6.out hbs8)
            have Ran9 := Aside0.mk (Kd.R_below Ran6.out hbs8)
            have Wfw9 := Aside0.mk (WAt.below Wfw6.out hbs8)
            clear hbs8
            refine (ints_v true Ba da [7, 4, 0, (B : Int)] _ _ [7, 4, 0, (B : Int)] _ (decide_eq_true rfl) (Kd.R_reads' Rao9.out).2.2 (Kd.R_reads' Rao9.out).2.1 (C_blk [7, 4, 0, (B : Int)] By8.out rfl (by simp)) (Nat.le_refl _) (by simp)).mono ?_
            rintro e w10 ⟨rfl, hb10⟩
            have HB11 := Aside0.mk (below_step HB9.out hb10)
            have Bc11 : Aside0 (w10.heap[gc3]? = some (.cells #[.int .i64 2, .slice Ba 4 da, .slice Ca 4 fa] 39 (0, 0))) := ⟨(hb10.block _ (blk_lt Bc9.out)).trans Bc9.out⟩
            have Bx11 : Aside0 (w10.heap[gx3]? = some (.cells #[.int .i64 8, .int .i64 5, .int .i64 1, .int .i64 0] 3 (0, 0))) := ⟨(hb10.block _ (blk_lt Bx9.out)).trans Bx9.out⟩
            have By11 : Aside0 (w10.heap[gy8]? = some (.cells #[.int .i64 7, .int .i64 4, .int .i64 0, .int .i64 B] 3 (0, 0))) := ⟨(hb10.block _ (blk_lt By8.out)).trans By8.out⟩
            have Rao11 := Aside0.mk (Kd.R_below Rao9.out hb10)
            have Ran11 := Aside0.mk (Kd.R_below Ran9.out hb10)
            have Wfw11 := Aside0.mk (WAt.below Wfw9.out hb10)
            clear hb10
            go_wp2_with fail
            go_ret
            exact ⟨rfl, HB11.out⟩
theorem waits_walk (w : World) (a : Int) (ha : (Lit.int .i64 a).wf = true) (b : Int) (hb : (Lit.int .i64 b).wf = true) (c : Int) (hc : (Lit.int .i64 c).wf = true) : Calls Try.prog 4 #[.int .i64 a, .int .i64 b, .int .i64 c] w fun e w' => e = .returned (.bool true) ∧ Below w.heap.size w w' := waits_any a b c w
end Go.Proofs.Ytimfbdiiaakhiaa.MAll

/- PlanBounds: the case 2. -/
import Derived.Test.YtdaapjkfkfaflaaBo
set_option linter.unusedVariables false
set_option linter.unusedSimpArgs false
namespace Go.Proofs.Ytdaapjkfkfaflaa.MAll
open Go.RowKit Go.Proofs.YtdaapjkfkfaflaaW.PrintWords Go.Proofs.YtdaapjkfkfaflaaW.PrintLast Go.Proofs.YtdaapjkfkfaflaaW.PrintMore
attribute [local go_sem ↓] Go.wp_at_zero Go.wp_at_succ

set_option maxHeartbeats 8000000 in
set_option maxRecDepth 100000 in
theorem bounds_2 (x y : Int) (w : World) (hm : (IntKind.u64.wrap x).tmod 8 = 2) : Calls Try.prog 4 #[.int .i64 x, .int .i64 y] w fun e w' => e = .returned (.bool true) ∧ Below w.heap.size w w' := by
  have hu24 := Try.underlying24
  have hu22 := Try.underlying22
  have hu27 := Try.underlying27
  have hu29 := Try.underlying29
  have eE := Err.eqE
  have eN := Err.eqN
  have nE := Err.neE
  have nN := Err.neN
  obtain ⟨d, hd, hd1, hd2⟩ := umod_by y
  have HD := Aside0.mk hd
  have HM := Aside0.mk hm
  clear hd hm
  go_enter Try.func4, Try.ntmps4
  go_wp2_with fail
  refine (alive_any _).mono ?_
  rintro e w1 ⟨rfl, hb1⟩
  have HB2 := Aside0.mk hb1
  clear hb1
  go_upto_region 5 with fail
  obtain ⟨W3, hw3⟩ : ∃ x : World, x = (((w1.alloc (.cells #[.int .i64 1] 3)).alloc (.cells #[.int .i64 1, .int .i64 1, .slice (some ⟨w1.heap.size, 0, none⟩) 1 1, .int .i64 1, .int .i64 1, .int .i64 1, .int .i64 1, .int .i64 1] 24)).alloc (.cells #[.int .i64 9223372036854775807, .int .i64 1, .int .i64 7] 3)).alloc (.cells #[.int .i64 4, .int .i64 5, .slice (some ⟨w1.heap.size + 1 + 1, 0, none⟩) 3 3, .int .i64 4, .int .i64 64, .int .i64 1024, .int .i64 16, .int .i64 20] 24) := ⟨_, rfl⟩
  have hbs3 : Below w1.heap.size w1 W3 := by rw [hw3]; repeat (first | exact Below.refl _ _ | refine below_alloc ?_ _ | refine below_drew ?_)
  obtain ⟨gA3, hgA3⟩ : ∃ x, x = w1.heap.size := ⟨_, rfl⟩
  have GSA3 : Aside0 (w.heap.size ≤ gA3) := ⟨by rw [hgA3]; have := HB2.out.size; omega⟩
  have BA3 : Aside0 (W3.heap[gA3]? = some (.cells #[.int .i64 1] 3 (0, 0))) := ⟨by rw [hw3, hgA3]; exact blk_alloc (blk_alloc (blk_alloc (blk_new _ _) _) _) _⟩
  obtain ⟨gL3, hgL3⟩ : ∃ x, x = w1.heap.size + 1 := ⟨_, rfl⟩
  have GSL3 : Aside0 (w.heap.size ≤ gL3) := ⟨by rw [hgL3]; have := HB2.out.size; omega⟩
  have BL3 : Aside0 (W3.heap[gL3]? = some (.cells #[.int .i64 1, .int .i64 1, .slice (some ⟨gA3, 0, none⟩) 1 1, .int .i64 1, .int .i64 1, .int .i64 1, .int .i64 1, .int .i64 1] 24 (0, 0))) := ⟨by rw [hw3, hgL3]; (try rw [hgA3]); have := blk_alloc (blk_alloc (blk_new (w1.alloc (.cells #[.int .i64 1] 3)) (.cells #[.int .i64 1, .int .i64 1, .slice (some ⟨w1.heap.size, 0, none⟩) 1 1, .int .i64 1, .int .i64 1, .int .i64 1, .int .i64 1, .int .i64 1] 24)) (.cells #[.int .i64 9223372036854775807, .int .i64 1, .int .i64 7] 3)) (.cells #[.int .i64 4, .int .i64 5, .slice (some ⟨w1.heap.size + 1 + 1, 0, none⟩) 3 3, .int .i64 4, .int .i64 64, .int .i64 1024, .int .i64 16, .int .i64 20] 24); rwa [World.size_alloc] at this⟩
  obtain ⟨gB3, hgB3⟩ : ∃ x, x = w1.heap.size + 1 + 1 := ⟨_, rfl⟩
  have GSB3 : Aside0 (w.heap.size ≤ gB3) := ⟨by rw [hgB3]; have := HB2.out.size; omega⟩
  have BB3 : Aside0 (W3.heap[gB3]? = some (.cells #[.int .i64 9223372036854775807, .int .i64 1, .int .i64 7] 3 (0, 0))) := ⟨by rw [hw3, hgB3]; have := blk_alloc (blk_new ((w1.alloc (.cells #[.int .i64 1] 3)).alloc (.cells #[.int .i64 1, .int .i64 1, .slice (some ⟨w1.heap.size, 0, none⟩) 1 1, .int .i64 1, .int .i64 1, .int .i64 1, .int .i64 1, .int .i64 1] 24)) (.cells #[.int .i64 9223372036854775807, .int .i64 1, .int .i64 7] 3)) (.cells #[.int .i64 4, .int .i64 5, .slice (some ⟨w1.heap.size + 1 + 1, 0, none⟩) 3 3, .int .i64 4, .int .i64 64, .int .i64 1024, .int .i64 16, .int .i64 20] 24); rwa [World.size_alloc, World.size_alloc] at this⟩
  obtain ⟨gH3, hgH3⟩ : ∃ x, x = w1.heap.size + 1 + 1 + 1 := ⟨_, rfl⟩
  have GSH3 : Aside0 (w.heap.size ≤ gH3) := ⟨by rw [hgH3]; have := HB2.out.size; omega⟩
  have BH3 : Aside0 (W3.heap[gH3]? = some (.cells #[.int .i64 4, .int .i64 5, .slice (some ⟨gB3, 0, none⟩) 3 3, .int .i64 4, .int .i64 64, .int .i64 1024, .int .i64 16, .int .i64 20] 24 (0, 0))) := ⟨by rw [hw3, hgH3]; (try rw [hgB3]); have := blk_new (((w1.alloc (.cells #[.int .i64 1] 3)).alloc (.cells #[.int .i64 1, .int .i64 1, .slice (some ⟨w1.heap.size, 0, none⟩) 1 1, .int .i64 1, .int .i64 1, .int .i64 1, .int .i64 1, .int .i64 1] 24)).alloc (.cells #[.int .i64 9223372036854775807, .int .i64 1, .int .i64 7] 3)) (.cells #[.int .i64 4, .int .i64 5, .slice (some ⟨w1.heap.size + 1 + 1, 0, none⟩) 3 3, .int .i64 4, .int .i64 64, .int .i64 1024, .int .i64 16, .int .i64 20] 24); rwa [World.size_alloc, World.size_alloc, World.size_alloc] at this⟩
  rw [← hw3]
  rw [← hgH3]
  rw [← hgB3]
  rw [← hgL3]
  rw [← hgA3]
  have HNELH := Aside0.mk (show gL3 ≠ gH3 by omega)
  have HNEAB := Aside0.mk (show gA3 ≠ gB3 by omega)
  clear hw3 hgA3 hgL3 hgB3 hgH3
  have HB4 := Aside0.mk (below_step HB2.out hbs3)
  clear hbs3
  have zL5_0 : W3.cell? ⟨gL3, 0, none⟩ = some (.int .i64 1) := (blk_cell BL3.out 0).trans rfl
  have zL5_1 : W3.cell? ⟨gL3, 1, none⟩ = some (.int .i64 1) := (blk_cell BL3.out 1).trans rfl
  have zL5_2 : W3.cell? ⟨gL3, 2, none⟩ = some (.slice (some ⟨gA3, 0, none⟩) 1 1) := (blk_cell BL3.out 2).trans rfl
  have zL5_3 : W3.cell? ⟨gL3, 3, none⟩ = some (.int .i64 1) := (blk_cell BL3.out 3).trans rfl
  have zL5_4 : W3.cell? ⟨gL3, 4, none⟩ = some (.int .i64 1) := (blk_cell BL3.out 4).trans rfl
  have zL5_5 : W3.cell? ⟨gL3, 5, none⟩ = some (.int .i64 1) := (blk_cell BL3.out 5).trans rfl
  have zL5_6 : W3.cell? ⟨gL3, 6, none⟩ = some (.int .i64 1) := (blk_cell BL3.out 6).trans rfl
  have zL5_7 : W3.cell? ⟨gL3, 7, none⟩ = some (.int .i64 1) := (blk_cell BL3.out 7).trans rfl
  go_wp2_with fail
  refine (check_at true .nilIface 1 1 (some ⟨gA3, 0, none⟩) 1 1 [1] rfl 1 1 1 1 1 _ low_good rfl (C_blk [1] BA3.out rfl (by simp)) (Nat.le_refl _)).mono ?_
  rintro e w6 ⟨rfl, hb6⟩
  clear zL5_0 zL5_1 zL5_2 zL5_3 zL5_4 zL5_5 zL5_6 zL5_7
  have HB7 := Aside0.mk (below_step HB4.out hb6)
  have BA7 : Aside0 (w6.heap[gA3]? = some (.cells #[.int .i64 1] 3 (0, 0))) := ⟨(hb6.block _ (blk_lt BA3.out)).trans BA3.out⟩
  have BL7 : Aside0 (w6.heap[gL3]? = some (.cells #[.int .i64 1, .int .i64 1, .slice (some ⟨gA3, 0, none⟩) 1 1, .int .i64 1, .int .i64 1, .int .i64 1, .int .i64 1, .int .i64 1] 24 (0, 0))) := ⟨(hb6.block _ (blk_lt BL3.out)).trans BL3.out⟩
  have BB7 : Aside0 (w6.heap[gB3]? = some (.cells #[.int .i64 9223372036854775807, .int .i64 1, .int .i64 7] 3 (0, 0))) := ⟨(hb6.block _ (blk_lt BB3.out)).trans BB3.out⟩
  have BH7 : Aside0 (w6.heap[gH3]? = some (.cells #[.int .i64 4, .int .i64 5, .slice (some ⟨gB3, 0, none⟩) 3 3, .int .i64 4, .int .i64 64, .int .i64 1024, .int .i64 16, .int .i64 20] 24 (0, 0))) := ⟨(hb6.block _ (blk_lt BH3.out)).trans BH3.out⟩
  clear hb6
  have zH8_0 : w6.cell? ⟨gH3, 0, none⟩ = some (.int .i64 4) := (blk_cell BH7.out 0).trans rfl
  have zH8_1 : w6.cell? ⟨gH3, 1, none⟩ = some (.int .i64 5) := (blk_cell BH7.out 1).trans rfl
  have zH8_2 : w6.cell? ⟨gH3, 2, none⟩ = some (.slice (some ⟨gB3, 0, none⟩) 3 3) := (blk_cell BH7.out 2).trans rfl
  have zH8_3 : w6.cell? ⟨gH3, 3, none⟩ = some (.int .i64 4) := (blk_cell BH7.out 3).trans rfl
  have zH8_4 : w6.cell? ⟨gH3, 4, none⟩ = some (.int .i64 64) := (blk_cell BH7.out 4).trans rfl
  have zH8_5 : w6.cell? ⟨gH3, 5, none⟩ = some (.int .i64 1024) := (blk_cell BH7.out 5).trans rfl
  have zH8_6 : w6.cell? ⟨gH3, 6, none⟩ = some (.int .i64 16) := (blk_cell BH7.out 6).trans rfl
  have zH8_7 : w6.cell? ⟨gH3, 7, none⟩ = some (.int .i64 20) := (blk_cell BH7.out 7).trans rfl
  go_wp2_with fail
  refine (check_at true .nilIface 4 5 (some ⟨gB3, 0, none⟩) 3 3 [9223372036854775807, 1, 7] rfl 4 64 1024 16 20 _ high_good rfl (C_blk [9223372036854775807, 1, 7] BB7.out rfl (by simp)) (Nat.le_refl _)).mono ?_
  rintro e w9 ⟨rfl, hb9⟩
  clear zH8_0 zH8_1 zH8_2 zH8_3 zH8_4 zH8_5 zH8_6 zH8_7
  have HB10 := Aside0.mk (below_step HB7.out hb9)
  have BA10 : Aside0 (w9.heap[gA3]? = some (.cells #[.int .i64 1] 3 (0, 0))) := ⟨(hb9.block _ (blk_lt BA7.out)).trans BA7.out⟩
  have BL10 : Aside0 (w9.heap[gL3]? = some (.cells #[.int .i64 1, .int .i64 1, .slice (some ⟨gA3, 0, none⟩) 1 1, .int .i64 1, .int .i64 1, .int .i64 1, .int .i64 1, .int .i64 1] 24 (0, 0))) := ⟨(hb9.block _ (blk_lt BL7.out)).trans BL7.out⟩
  have BB10 : Aside0 (w9.heap[gB3]? = some (.cells #[.int .i64 9223372036854775807, .int .i64 1, .int .i64 7] 3 (0, 0))) := ⟨(hb9.block _ (blk_lt BB7.out)).trans BB7.out⟩
  have BH10 : Aside0 (w9.heap[gH3]? = some (.cells #[.int .i64 4, .int .i64 5, .slice (some ⟨gB3, 0, none⟩) 3 3, .int .i64 4, .int .i64 64, .int .i64 1024, .int .i64 16, .int .i64 20] 24 (0, 0))) := ⟨(hb9.block _ (blk_lt BH7.out)).trans BH7.out⟩
  clear hb9
  have zL11_0 : w9.cell? ⟨gL3, 0, none⟩ = some (.int .i64 1) := (blk_cell BL10.out 0).trans rfl
  have zL11_1 : w9.cell? ⟨gL3, 1, none⟩ = some (.int .i64 1) := (blk_cell BL10.out 1).trans rfl
  have zL11_2 : w9.cell? ⟨gL3, 2, none⟩ = some (.slice (some ⟨gA3, 0, none⟩) 1 1) := (blk_cell BL10.out 2).trans rfl
  have zL11_3 : w9.cell? ⟨gL3, 3, none⟩ = some (.int .i64 1) := (blk_cell BL10.out 3).trans rfl
  have zL11_4 : w9.cell? ⟨gL3, 4, none⟩ = some (.int .i64 1) := (blk_cell BL10.out 4).trans rfl
  have zL11_5 : w9.cell? ⟨gL3, 5, none⟩ = some (.int .i64 1) := (blk_cell BL10.out 5).trans rfl
  have zL11_6 : w9.cell? ⟨gL3, 6, none⟩ = some (.int .i64 1) := (blk_cell BL10.out 6).trans rfl
  have zL11_7 : w9.cell? ⟨gL3, 7, none⟩ = some (.int .i64 1) := (blk_cell BL10.out 7).trans rfl
  go_wp2_with fail
  refine (nodes_at true 5 1 1 (some ⟨gA3, 0, none⟩) 1 1 [1] rfl 1 1 1 1 1 _ low_good rfl (C_blk [1] BA10.out rfl (by simp)) (Nat.le_refl _)).mono ?_
  rintro e w12 ⟨rfl, hb12⟩
  clear zL11_0 zL11_1 zL11_2 zL11_3 zL11_4 zL11_5 zL11_6 zL11_7
  have HB13 := Aside0.mk (below_step HB10.out hb12)
  have BA13 : Aside0 (w12.heap[gA3]? = some (.cells #[.int .i64 1] 3 (0, 0))) := ⟨(hb12.block _ (blk_lt BA10.out)).trans BA10.out⟩
  have BL13 : Aside0 (w12.heap[gL3]? = some (.cells #[.int .i64 1, .int .i64 1, .slice (some ⟨gA3, 0, none⟩) 1 1, .int .i64 1, .int .i64 1, .int .i64 1, .int .i64 1, .int .i64 1] 24 (0, 0))) := ⟨(hb12.block _ (blk_lt BL10.out)).trans BL10.out⟩
  have BB13 : Aside0 (w12.heap[gB3]? = some (.cells #[.int .i64 9223372036854775807, .int .i64 1, .int .i64 7] 3 (0, 0))) := ⟨(hb12.block _ (blk_lt BB10.out)).trans BB10.out⟩
  have BH13 : Aside0 (w12.heap[gH3]? = some (.cells #[.int .i64 4, .int .i64 5, .slice (some ⟨gB3, 0, none⟩) 3 3, .int .i64 4, .int .i64 64, .int .i64 1024, .int .i64 16, .int .i64 20] 24 (0, 0))) := ⟨(hb12.block _ (blk_lt BH10.out)).trans BH10.out⟩
  clear hb12
  have zH14_0 : w12.cell? ⟨gH3, 0, none⟩ = some (.int .i64 4) := (blk_cell BH13.out 0).trans rfl
  have zH14_1 : w12.cell? ⟨gH3, 1, none⟩ = some (.int .i64 5) := (blk_cell BH13.out 1).trans rfl
  have zH14_2 : w12.cell? ⟨gH3, 2, none⟩ = some (.slice (some ⟨gB3, 0, none⟩) 3 3) := (blk_cell BH13.out 2).trans rfl
  have zH14_3 : w12.cell? ⟨gH3, 3, none⟩ = some (.int .i64 4) := (blk_cell BH13.out 3).trans rfl
  have zH14_4 : w12.cell? ⟨gH3, 4, none⟩ = some (.int .i64 64) := (blk_cell BH13.out 4).trans rfl
  have zH14_5 : w12.cell? ⟨gH3, 5, none⟩ = some (.int .i64 1024) := (blk_cell BH13.out 5).trans rfl
  have zH14_6 : w12.cell? ⟨gH3, 6, none⟩ = some (.int .i64 16) := (blk_cell BH13.out 6).trans rfl
  have zH14_7 : w12.cell? ⟨gH3, 7, none⟩ = some (.int .i64 20) := (blk_cell BH13.out 7).trans rfl
  go_wp2_with fail
  refine (nodes_at true 12 4 5 (some ⟨gB3, 0, none⟩) 3 3 [9223372036854775807, 1, 7] rfl 4 64 1024 16 20 _ high_good rfl (C_blk [9223372036854775807, 1, 7] BB13.out rfl (by simp)) (Nat.le_refl _)).mono ?_
  rintro e w15 ⟨rfl, hb15⟩
  clear zH14_0 zH14_1 zH14_2 zH14_3 zH14_4 zH14_5 zH14_6 zH14_7
  have HB16 := Aside0.mk (below_step HB13.out hb15)
  have BA16 : Aside0 (w15.heap[gA3]? = some (.cells #[.int .i64 1] 3 (0, 0))) := ⟨(hb15.block _ (blk_lt BA13.out)).trans BA13.out⟩
  have BL16 : Aside0 (w15.heap[gL3]? = some (.cells #[.int .i64 1, .int .i64 1, .slice (some ⟨gA3, 0, none⟩) 1 1, .int .i64 1, .int .i64 1, .int .i64 1, .int .i64 1, .int .i64 1] 24 (0, 0))) := ⟨(hb15.block _ (blk_lt BL13.out)).trans BL13.out⟩
  have BB16 : Aside0 (w15.heap[gB3]? = some (.cells #[.int .i64 9223372036854775807, .int .i64 1, .int .i64 7] 3 (0, 0))) := ⟨(hb15.block _ (blk_lt BB13.out)).trans BB13.out⟩
  have BH16 : Aside0 (w15.heap[gH3]? = some (.cells #[.int .i64 4, .int .i64 5, .slice (some ⟨gB3, 0, none⟩) 3 3, .int .i64 4, .int .i64 64, .int .i64 1024, .int .i64 16, .int .i64 20] 24 (0, 0))) := ⟨(hb15.block _ (blk_lt BH13.out)).trans BH13.out⟩
  clear hb15
  have zH17_0 : w15.cell? ⟨gH3, 0, none⟩ = some (.int .i64 4) := (blk_cell BH16.out 0).trans rfl
  have zH17_1 : w15.cell? ⟨gH3, 1, none⟩ = some (.int .i64 5) := (blk_cell BH16.out 1).trans rfl
  have zH17_2 : w15.cell? ⟨gH3, 2, none⟩ = some (.slice (some ⟨gB3, 0, none⟩) 3 3) := (blk_cell BH16.out 2).trans rfl
  have zH17_3 : w15.cell? ⟨gH3, 3, none⟩ = some (.int .i64 4) := (blk_cell BH16.out 3).trans rfl
  have zH17_4 : w15.cell? ⟨gH3, 4, none⟩ = some (.int .i64 64) := (blk_cell BH16.out 4).trans rfl
  have zH17_5 : w15.cell? ⟨gH3, 5, none⟩ = some (.int .i64 1024) := (blk_cell BH16.out 5).trans rfl
  have zH17_6 : w15.cell? ⟨gH3, 6, none⟩ = some (.int .i64 16) := (blk_cell BH16.out 6).trans rfl
  have zH17_7 : w15.cell? ⟨gH3, 7, none⟩ = some (.int .i64 20) := (blk_cell BH16.out 7).trans rfl
  go_wp2_with fail
  refine (lanes_at true 12 4 5 (some ⟨gB3, 0, none⟩) 3 3 [9223372036854775807, 1, 7] rfl 4 64 1024 16 20 _ high_good rfl (C_blk [9223372036854775807, 1, 7] BB16.out rfl (by simp)) (Nat.le_refl _)).mono ?_
  rintro e w18 ⟨rfl, hb18⟩
  clear zH17_0 zH17_1 zH17_2 zH17_3 zH17_4 zH17_5 zH17_6 zH17_7
  have HB19 := Aside0.mk (below_step HB16.out hb18)
  have BA19 : Aside0 (w18.heap[gA3]? = some (.cells #[.int .i64 1] 3 (0, 0))) := ⟨(hb18.block _ (blk_lt BA16.out)).trans BA16.out⟩
  have BL19 : Aside0 (w18.heap[gL3]? = some (.cells #[.int .i64 1, .int .i64 1, .slice (some ⟨gA3, 0, none⟩) 1 1, .int .i64 1, .int .i64 1, .int .i64 1, .int .i64 1, .int .i64 1] 24 (0, 0))) := ⟨(hb18.block _ (blk_lt BL16.out)).trans BL16.out⟩
  have BB19 : Aside0 (w18.heap[gB3]? = some (.cells #[.int .i64 9223372036854775807, .int .i64 1, .int .i64 7] 3 (0, 0))) := ⟨(hb18.block _ (blk_lt BB16.out)).trans BB16.out⟩
  have BH19 : Aside0 (w18.heap[gH3]? = some (.cells #[.int .i64 4, .int .i64 5, .slice (some ⟨gB3, 0, none⟩) 3 3, .int .i64 4, .int .i64 64, .int .i64 1024, .int .i64 16, .int .i64 20] 24 (0, 0))) := ⟨(hb18.block _ (blk_lt BH16.out)).trans BH16.out⟩
  clear hb18
  go_upto_region 8 with fail
  rw [HD.out]
  go_wp2_with fail
  obtain ⟨W21, hw21⟩ : ∃ x : World, x = w18.alloc (.cells #[.pointer (some ⟨gL3, 0, none⟩), .pointer (some ⟨gH3, 0, none⟩)] 35) := ⟨_, rfl⟩
  have hbs21 : Below w18.heap.size w18 W21 := by rw [hw21]; repeat (first | exact Below.refl _ _ | refine below_alloc ?_ _ | refine below_drew ?_)
  obtain ⟨gP21, hgP21⟩ : ∃ x, x = w18.heap.size := ⟨_, rfl⟩
  have GSP21 : Aside0 (w.heap.size ≤ gP21) := ⟨by rw [hgP21]; have := HB19.out.size; omega⟩
  have BP21 : Aside0 (W21.heap[gP21]? = some (.cells #[.pointer (some ⟨gL3, 0, none⟩), .pointer (some ⟨gH3, 0, none⟩)] 35 (0, 0))) := ⟨by rw [hw21, hgP21]; exact blk_new _ _⟩
  rw [← hw21]
  rw [← hgP21]
  clear hw21 hgP21
  have HB22 := Aside0.mk (below_step HB19.out hbs21)
  have BA22 : Aside0 (W21.heap[gA3]? = some (.cells #[.int .i64 1] 3 (0, 0))) := ⟨(hbs21.block _ (blk_lt BA19.out)).trans BA19.out⟩
  have BL22 : Aside0 (W21.heap[gL3]? = some (.cells #[.int .i64 1, .int .i64 1, .slice (some ⟨gA3, 0, none⟩) 1 1, .int .i64 1, .int .i64 1, .int .i64 1, .int .i64 1, .int .i64 1] 24 (0, 0))) := ⟨(hbs21.block _ (blk_lt BL19.out)).trans BL19.out⟩
  have BB22 : Aside0 (W21.heap[gB3]? = some (.cells #[.int .i64 9223372036854775807, .int .i64 1, .int .i64 7] 3 (0, 0))) := ⟨(hbs21.block _ (blk_lt BB19.out)).trans BB19.out⟩
  have BH22 : Aside0 (W21.heap[gH3]? = some (.cells #[.int .i64 4, .int .i64 5, .slice (some ⟨gB3, 0, none⟩) 3 3, .int .i64 4, .int .i64 64, .int .i64 1024, .int .i64 16, .int .i64 20] 24 (0, 0))) := ⟨(hbs21.block _ (blk_lt BH19.out)).trans BH19.out⟩
  clear hbs21
  have hneLH : gH3 ≠ gL3 := HNELH.out.symm
  have hneHL : gL3 ≠ gH3 := HNELH.out
  refine wp_loop_rounds 3 ?_
  rw [rounds_succ]
  have hm8 := HM.out
  have HRsL := Aside0.mk (show (Kd.int .i64).R 3 W21 w.heap.size (fun _ => True) (.slice (some ⟨gA3, 0, none⟩) 1 1) [1] from R_blk [1] BA22.out rfl GSA3.out (by simp))
  have HCsL := Aside0.mk (show (Kd.int .i64).C W21 (some ⟨gA3, 0, none⟩) 1 [1] from C_blk [1] BA22.out rfl (by simp))
  have zL23_0 : W21.cell? ⟨gL3, 0, none⟩ = some (.int .i64 1) := (blk_cell BL22.out 0).trans rfl
  have zL23_1 : W21.cell? ⟨gL3, 1, none⟩ = some (.int .i64 1) := (blk_cell BL22.out 1).trans rfl
  have zL23_2 : W21.cell? ⟨gL3, 2, none⟩ = some (.slice (some ⟨gA3, 0, none⟩) 1 1) := (blk_cell BL22.out 2).trans rfl
  have zL23_3 : W21.cell? ⟨gL3, 3, none⟩ = some (.int .i64 1) := (blk_cell BL22.out 3).trans rfl
  have zL23_4 : W21.cell? ⟨gL3, 4, none⟩ = some (.int .i64 1) := (blk_cell BL22.out 4).trans rfl
  have zL23_5 : W21.cell? ⟨gL3, 5, none⟩ = some (.int .i64 1) := (blk_cell BL22.out 5).trans rfl
  have zL23_6 : W21.cell? ⟨gL3, 6, none⟩ = some (.int .i64 1) := (blk_cell BL22.out 6).trans rfl
  have zL23_7 : W21.cell? ⟨gL3, 7, none⟩ = some (.int .i64 1) := (blk_cell BL22.out 7).trans rfl
  have zP23_0 : W21.cell? ⟨gP21, 0, none⟩ = some (.pointer (some ⟨gL3, 0, none⟩)) := (blk_cell BP21.out 0).trans rfl
  have zP23_1 : W21.cell? ⟨gP21, 1, none⟩ = some (.pointer (some ⟨gH3, 0, none⟩)) := (blk_cell BP21.out 1).trans rfl
  go_upto_region 21 with fail
  refine start_ (n := 13) (S := fun w' => w'.cell? ⟨gL3, 2, none⟩ = some (.slice (some ⟨gA3, 0, none⟩) 1 1)) (ds := [12]) #[false, false, false, false, false, false, false, false, false, false, false, false, false] (by kernel_rfl) rfl rfl (zL23_2) (fun hHeld => ?_)
  refine pure_ (i := 0) (N := some 90) (v := ?_) (a' := ?_) #[true, false, false, false, false, false, false, false, false, false, false, false, false] rfl rfl (by kernel_rfl) (fun _ _ _ h => h) (Or.inl ⟨by rfl, ?_⟩) ?_ ?_
  rotate_left
  · intro w'
    go_simp
    with_reducible rfl
  rotate_left
  · simp only [Act.put, List.setIfInBounds_toArray, List.set_cons_zero, List.set_cons_succ, i64_w, i32_w]
    rfl
  refine pure_ (i := 1) (N := some 91) (v := ?_) (a' := ?_) #[true, true, false, false, false, false, false, false, false, false, false, false, false] rfl rfl (by kernel_rfl) (fun _ _ _ h => h) (Or.inl ⟨by rfl, ?_⟩) ?_ ?_
  rotate_left
  · intro w'
    go_simp
    with_reducible rfl
  rotate_left
  · simp only [Act.put, List.setIfInBounds_toArray, List.set_cons_zero, List.set_cons_succ, i64_w, i32_w]
    rfl
  refine pure_ (i := 2) (N := some 92) (v := ?_) (a' := ?_) #[true, true, true, false, false, false, false, false, false, false, false, false, false] rfl rfl (by kernel_rfl) (fun _ _ _ h => h) (Or.inl ⟨by rfl, ?_⟩) ?_ ?_
  rotate_left
  · intro w'
    go_simp
    with_reducible rfl
  rotate_left
  · simp only [Act.put, List.setIfInBounds_toArray, List.set_cons_zero, List.set_cons_succ, i64_w, i32_w]
    rfl
  refine pure_ (i := 3) (N := some 93) (v := ?_) (a' := ?_) #[true, true, true, true, false, false, false, false, false, false, false, false, false] rfl rfl (by kernel_rfl) (fun _ _ _ h => h) (Or.inl ⟨by rfl, ?_⟩) ?_ ?_
  rotate_left
  · intro w'
    go_simp
    with_reducible rfl
  rotate_left
  · simp only [Act.put, List.setIfInBounds_toArray, List.set_cons_zero, List.set_cons_succ, i64_w, i32_w]
    rfl
  refine pure_ (i := 5) (N := some 95) (v := ?_) (a' := ?_) #[true, true, true, true, false, true, false, false, false, false, false, false, false] rfl rfl (by kernel_rfl) (fun _ _ _ h => h) (Or.inl ⟨by rfl, ?_⟩) ?_ ?_
  rotate_left
  · intro w'
    go_simp
    with_reducible rfl
  rotate_left
  · simp only [Act.put, List.setIfInBounds_toArray, List.set_cons_zero, List.set_cons_succ, i64_w, i32_w]
    rfl
  refine pure_ (i := 6) (N := some 96) (v := ?_) (a' := ?_) #[true, true, true, true, false, true, true, false, false, false, false, false, false] rfl rfl (by kernel_rfl) (fun _ _ _ h => h) (Or.inl ⟨by rfl, ?_⟩) ?_ ?_
  rotate_left
  · intro w'
    go_simp
    with_reducible rfl
  rotate_left
  · simp only [Act.put, List.setIfInBounds_toArray, List.set_cons_zero, List.set_cons_succ, i64_w, i32_w]
    rfl
  refine pure_ (i := 7) (N := some 97) (v := ?_) (a' := ?_) #[true, true, true, true, false, true, true, true, false, false, false, false, false] rfl rfl (by kernel_rfl) (fun _ _ _ h => h) (Or.inl ⟨by rfl, ?_⟩) ?_ ?_
  rotate_left
  · intro w'
    go_simp
    with_reducible rfl
  rotate_left
  · simp only [Act.put, List.setIfInBounds_toArray, List.set_cons_zero, List.set_cons_succ, i64_w, i32_w]
    rfl
  refine take_ (i := 4) (N := some 94) (v := ?_) (a' := ?_) #[true, true, true, true, true, true, true, true, false, false, false, false, false] rfl rfl (by kernel_rfl) (fun _ _ _ h => h) (Or.inl ⟨by rfl, ?_⟩) hHeld ?_ ?_
  rotate_left
  · intro w' s0
    go_simp
    with_reducible rfl
  rotate_left
  · simp only [Act.put, List.setIfInBounds_toArray, List.set_cons_zero, List.set_cons_succ, i64_w, i32_w]
    rfl
  refine take_ (i := 8) (N := some 98) (v := ?_) (a' := ?_) #[true, true, true, true, true, true, true, true, true, false, false, false, false] rfl rfl (by kernel_rfl) (fun _ _ _ h => h) (Or.inl ⟨by rfl, ?_⟩) hHeld ?_ ?_
  rotate_left
  · intro w' s0
    go_simp
    with_reducible rfl
  rotate_left
  · simp only [Act.put, List.setIfInBounds_toArray, List.set_cons_zero, List.set_cons_succ, i64_w, i32_w]
    rfl
  refine one_ (i := 9) (N := some 99) #[true, true, true, true, true, true, true, true, true, true, false, false, false] rfl rfl (by kernel_rfl) (by decide) (fun K hK => ?_)
  refine Kd.R_append_rows_step (Kd.int .i64) (w0 := w) w.heap.size (by rfl) (.tmp 94) (.tmp 98) 22 3 (.int .i64 0) 8 (by rfl) Try.underlying22 info3 rfl (by decide) (by omega) (.slice (some ⟨gA3, 0, none⟩) 1 1) [1] [1] (some ⟨gA3, 0, none⟩) 1 1 (fun _ => True) (fun _ => False) (by rfl) (by rfl) (Kd.R_drew HRsL.out) (Kd.C_drew HCsL.out) (fun _ _ h => h) (fun _ h => h.elim) (fun _ _ => trivial) (below_drew HB22.out) HB22.out.size (by decide) ?_
  intro vL wqL ho hb hg hat
  have ho : (Kd.int .i64).R 3 wqL w.heap.size (fun _ => True) vL [1, 1] := ho
  obtain ⟨AqL, cqL, hxL⟩ := Kd.R_slice ho
  have hvL : vL = .slice AqL 2 cqL := hxL
  clear hxL
  subst hvL
  have HOqL := Aside0.mk ho
  have HBqL := Aside0.mk hb
  have BqLL : Aside0 (wqL.heap[gL3]? = some (.cells #[.int .i64 1, .int .i64 1, .slice (some ⟨gA3, 0, none⟩) 1 1, .int .i64 1, .int .i64 1, .int .i64 1, .int .i64 1, .int .i64 1] 24 (0, 0))) := ⟨blk_grown (blk_drew BL22.out) hg (fun e => (blk_ne BL22.out BA22.out (by decide)) (by simpa [Value.ownBlock] using e))⟩
  have BqLB : Aside0 (wqL.heap[gB3]? = some (.cells #[.int .i64 9223372036854775807, .int .i64 1, .int .i64 7] 3 (0, 0))) := ⟨blk_grown (blk_drew BB22.out) hg (fun e => HNEAB.out.symm (by simpa [Value.ownBlock] using e))⟩
  have BqLH : Aside0 (wqL.heap[gH3]? = some (.cells #[.int .i64 4, .int .i64 5, .slice (some ⟨gB3, 0, none⟩) 3 3, .int .i64 4, .int .i64 64, .int .i64 1024, .int .i64 16, .int .i64 20] 24 (0, 0))) := ⟨blk_grown (blk_drew BH22.out) hg (fun e => (blk_ne BH22.out BA22.out (by decide)) (by simpa [Value.ownBlock] using e))⟩
  have BqLP : Aside0 (wqL.heap[gP21]? = some (.cells #[.pointer (some ⟨gL3, 0, none⟩), .pointer (some ⟨gH3, 0, none⟩)] 35 (0, 0))) := ⟨blk_grown (blk_drew BP21.out) hg (fun e => (blk_ne BP21.out BA22.out (by decide)) (by simpa [Value.ownBlock] using e))⟩
  have kqL := (blk_cell BqLL.out 2).trans (show _ = some (.slice (some ⟨gA3, 0, none⟩) 1 1) from rfl)
  have fqL := blk_frozen BqLL.out 2
  clear ho hb hg hat
  refine hK.out _ _ (kqL) (fun hHeld => ?_)
  clear hK K
  refine norm_ (a' := ?_) ?_ ?_
  rotate_left
  · show Act.put _ (some 99) _ = _
    simp only [Act.put, List.setIfInBounds_toArray, List.set_cons_zero, List.set_cons_succ, i64_w, i32_w]
    rfl
  refine pure_ (i := 10) (N := some 100) (v := ?_) (a' := ?_) #[true, true, true, true, true, true, true, true, true, true, true, false, false] rfl rfl (by kernel_rfl) (fun _ _ _ h => h) (Or.inl ⟨by rfl, ?_⟩) ?_ ?_
  rotate_left
  · intro w'
    go_simp
    with_reducible rfl
  rotate_left
  · simp only [Act.put, List.setIfInBounds_toArray, List.set_cons_zero, List.set_cons_succ, i64_w, i32_w]
    rfl
  refine pure_ (i := 11) (N := some 101) (v := ?_) (a' := ?_) #[true, true, true, true, true, true, true, true, true, true, true, true, false] rfl rfl (by kernel_rfl) (fun _ _ _ h => h) (Or.inl ⟨by rfl, ?_⟩) ?_ ?_
  rotate_left
  · intro w'
    go_simp
    with_reducible rfl
  rotate_left
  · simp only [Act.put, List.setIfInBounds_toArray, List.set_cons_zero, List.set_cons_succ, i64_w, i32_w]
    rfl
  refine last_ (i := 12) (N := none) #[true, true, true, true, true, true, true, true, true, true, true, true, true] rfl rfl (by kernel_rfl) (by decide) (fun K hK => ?_)
  refine skip_ (w1 := ?_) (by rfl) rfl ?_ ?_
  rotate_left
  · go_simp
    rfl
  refine hK.out _ _ ?_
  clear hK K
  refine done_ (by kernel_rfl) ?_
  clear zL23_0 zL23_1 zL23_2 zL23_3 zL23_4 zL23_5 zL23_6 zL23_7 zP23_0 zP23_1
  clear kqL fqL
  obtain ⟨W24, hw24⟩ : ∃ x : World, x = (wqL.setCell ⟨gL3, 2, none⟩ (.slice AqL 2 cqL)) := ⟨_, rfl⟩
  have HB24 : Aside0 (Below w.heap.size w W24) := ⟨by rw [hw24]; exact (below_set HBqL.out GSL3.out)⟩
  have hgr24 : wqL.grownBy W24 (some gL3) := by rw [hw24]; exact grown_set _ _ _ _
  have BL24 : Aside0 (W24.heap[gL3]? = some (.cells #[.int .i64 1, .int .i64 1, .slice AqL 2 cqL, .int .i64 1, .int .i64 1, .int .i64 1, .int .i64 1, .int .i64 1] 24 (0, 0))) := ⟨by rw [hw24]; refine blk_put (cs := #[.int .i64 1, .int .i64 1, .slice (some ⟨gA3, 0, none⟩) 1 1, .int .i64 1, .int .i64 1, .int .i64 1, .int .i64 1, .int .i64 1]) ?_ 2 _ rfl; exact BqLL.out⟩
  have BB24 : Aside0 (W24.heap[gB3]? = some (.cells #[.int .i64 9223372036854775807, .int .i64 1, .int .i64 7] 3 (0, 0))) := ⟨blk_grown BqLB.out hgr24 (fun e => (blk_ne BqLB.out BqLL.out (by decide)) (by injection e))⟩
  have BH24 : Aside0 (W24.heap[gH3]? = some (.cells #[.int .i64 4, .int .i64 5, .slice (some ⟨gB3, 0, none⟩) 3 3, .int .i64 4, .int .i64 64, .int .i64 1024, .int .i64 16, .int .i64 20] 24 (0, 0))) := ⟨blk_grown BqLH.out hgr24 (fun e => (hneLH) (by injection e))⟩
  have BP24 : Aside0 (W24.heap[gP21]? = some (.cells #[.pointer (some ⟨gL3, 0, none⟩), .pointer (some ⟨gH3, 0, none⟩)] 35 (0, 0))) := ⟨blk_grown BqLP.out hgr24 (fun e => (blk_ne BqLP.out BqLL.out (by decide)) (by injection e))⟩
  rw [← hw24]
  clear hw24 hgr24
  have zL25_0 : W24.cell? ⟨gL3, 0, none⟩ = some (.int .i64 1) := (blk_cell BL24.out 0).trans rfl
  have zL25_1 : W24.cell? ⟨gL3, 1, none⟩ = some (.int .i64 1) := (blk_cell BL24.out 1).trans rfl
  have zL25_2 : W24.cell? ⟨gL3, 2, none⟩ = some (.slice AqL 2 cqL) := (blk_cell BL24.out 2).trans rfl
  have zL25_3 : W24.cell? ⟨gL3, 3, none⟩ = some (.int .i64 1) := (blk_cell BL24.out 3).trans rfl
  have zL25_4 : W24.cell? ⟨gL3, 4, none⟩ = some (.int .i64 1) := (blk_cell BL24.out 4).trans rfl
  have zL25_5 : W24.cell? ⟨gL3, 5, none⟩ = some (.int .i64 1) := (blk_cell BL24.out 5).trans rfl
  have zL25_6 : W24.cell? ⟨gL3, 6, none⟩ = some (.int .i64 1) := (blk_cell BL24.out 6).trans rfl
  have zL25_7 : W24.cell? ⟨gL3, 7, none⟩ = some (.int .i64 1) := (blk_cell BL24.out 7).trans rfl
  have zP25_0 : W24.cell? ⟨gP21, 0, none⟩ = some (.pointer (some ⟨gL3, 0, none⟩)) := (blk_cell BP24.out 0).trans rfl
  have zP25_1 : W24.cell? ⟨gP21, 1, none⟩ = some (.pointer (some ⟨gH3, 0, none⟩)) := (blk_cell BP24.out 1).trans rfl
  have hfl := blk_frozen BL24.out 2
  have hfa : ∀ o, (W24.alloc o).frozen? ⟨gL3, 2, none⟩ = false := fun o => blk_frozen (blk_alloc BL24.out o) 2
  have zaL26_0 : ∀ o, (W24.alloc o).cell? ⟨gL3, 0, none⟩ = some (.int .i64 1) := fun o => (blk_cell (blk_alloc BL24.out o) 0).trans rfl
  have zaL26_1 : ∀ o, (W24.alloc o).cell? ⟨gL3, 1, none⟩ = some (.int .i64 1) := fun o => (blk_cell (blk_alloc BL24.out o) 1).trans rfl
  have zaL26_2 : ∀ o, (W24.alloc o).cell? ⟨gL3, 2, none⟩ = some (.slice AqL 2 cqL) := fun o => (blk_cell (blk_alloc BL24.out o) 2).trans rfl
  have zaL26_3 : ∀ o, (W24.alloc o).cell? ⟨gL3, 3, none⟩ = some (.int .i64 1) := fun o => (blk_cell (blk_alloc BL24.out o) 3).trans rfl
  have zaL26_4 : ∀ o, (W24.alloc o).cell? ⟨gL3, 4, none⟩ = some (.int .i64 1) := fun o => (blk_cell (blk_alloc BL24.out o) 4).trans rfl
  have zaL26_5 : ∀ o, (W24.alloc o).cell? ⟨gL3, 5, none⟩ = some (.int .i64 1) := fun o => (blk_cell (blk_alloc BL24.out o) 5).trans rfl
  have zaL26_6 : ∀ o, (W24.alloc o).cell? ⟨gL3, 6, none⟩ = some (.int .i64 1) := fun o => (blk_cell (blk_alloc BL24.out o) 6).trans rfl
  have zaL26_7 : ∀ o, (W24.alloc o).cell? ⟨gL3, 7, none⟩ = some (.int .i64 1) := fun o => (blk_cell (blk_alloc BL24.out o) 7).trans rfl
  go_upto_region 32 with fail
  clear hfl hfa
  obtain ⟨W27, hw27⟩ : ∃ x : World, x = W24.alloc (.cells #[.int .i64 1, .int .i64 (1 - d)] 3) := ⟨_, rfl⟩
  have hbs27 : Below W24.heap.size W24 W27 := by rw [hw27]; repeat (first | exact Below.refl _ _ | refine below_alloc ?_ _ | refine below_drew ?_)
  obtain ⟨glit27, hglit27⟩ : ∃ x, x = W24.heap.size := ⟨_, rfl⟩
  have GSlit27 : Aside0 (w.heap.size ≤ glit27) := ⟨by rw [hglit27]; have := HB24.out.size; omega⟩
  have Blit27 : Aside0 (W27.heap[glit27]? = some (.cells #[.int .i64 1, .int .i64 (1 - d)] 3 (0, 0))) := ⟨by rw [hw27, hglit27]; exact blk_new _ _⟩
  rw [← hw27]
  rw [← hglit27]
  clear hw27 hglit27
  clear zL25_0 zL25_1 zL25_2 zL25_3 zL25_4 zL25_5 zL25_6 zL25_7 zP25_0 zP25_1 zaL26_0 zaL26_1 zaL26_2 zaL26_3 zaL26_4 zaL26_5 zaL26_6 zaL26_7
  have HB28 := Aside0.mk (below_step HB24.out hbs27)
  have BL28 : Aside0 (W27.heap[gL3]? = some (.cells #[.int .i64 1, .int .i64 1, .slice AqL 2 cqL, .int .i64 1, .int .i64 1, .int .i64 1, .int .i64 1, .int .i64 1] 24 (0, 0))) := ⟨(hbs27.block _ (blk_lt BL24.out)).trans BL24.out⟩
  have BB28 : Aside0 (W27.heap[gB3]? = some (.cells #[.int .i64 9223372036854775807, .int .i64 1, .int .i64 7] 3 (0, 0))) := ⟨(hbs27.block _ (blk_lt BB24.out)).trans BB24.out⟩
  have BH28 : Aside0 (W27.heap[gH3]? = some (.cells #[.int .i64 4, .int .i64 5, .slice (some ⟨gB3, 0, none⟩) 3 3, .int .i64 4, .int .i64 64, .int .i64 1024, .int .i64 16, .int .i64 20] 24 (0, 0))) := ⟨(hbs27.block _ (blk_lt BH24.out)).trans BH24.out⟩
  have BP28 : Aside0 (W27.heap[gP21]? = some (.cells #[.pointer (some ⟨gL3, 0, none⟩), .pointer (some ⟨gH3, 0, none⟩)] 35 (0, 0))) := ⟨(hbs27.block _ (blk_lt BP24.out)).trans BP24.out⟩
  clear hbs27
  obtain ⟨W29, hw29⟩ : ∃ x : World, x = (W27.setCell ⟨gL3, 2, none⟩ (.slice (some ⟨glit27, 0, none⟩) 2 2)) := ⟨_, rfl⟩
  have HB29 : Aside0 (Below w.heap.size w W29) := ⟨by rw [hw29]; exact (below_set HB28.out GSL3.out)⟩
  have hgr29 : W27.grownBy W29 (some gL3) := by rw [hw29]; exact grown_set _ _ _ _
  have BL29 : Aside0 (W29.heap[gL3]? = some (.cells #[.int .i64 1, .int .i64 1, .slice (some ⟨glit27, 0, none⟩) 2 2, .int .i64 1, .int .i64 1, .int .i64 1, .int .i64 1, .int .i64 1] 24 (0, 0))) := ⟨by rw [hw29]; refine blk_put (cs := #[.int .i64 1, .int .i64 1, .slice AqL 2 cqL, .int .i64 1, .int .i64 1, .int .i64 1, .int .i64 1, .int .i64 1]) ?_ 2 _ rfl; exact BL28.out⟩
  have BB29 : Aside0 (W29.heap[gB3]? = some (.cells #[.int .i64 9223372036854775807, .int .i64 1, .int .i64 7] 3 (0, 0))) := ⟨blk_grown BB28.out hgr29 (fun e => (blk_ne BB28.out BL28.out (by decide)) (by injection e))⟩
  have BH29 : Aside0 (W29.heap[gH3]? = some (.cells #[.int .i64 4, .int .i64 5, .slice (some ⟨gB3, 0, none⟩) 3 3, .int .i64 4, .int .i64 64, .int .i64 1024, .int .i64 16, .int .i64 20] 24 (0, 0))) := ⟨blk_grown BH28.out hgr29 (fun e => (hneLH) (by injection e))⟩
  have BP29 : Aside0 (W29.heap[gP21]? = some (.cells #[.pointer (some ⟨gL3, 0, none⟩), .pointer (some ⟨gH3, 0, none⟩)] 35 (0, 0))) := ⟨blk_grown BP28.out hgr29 (fun e => (blk_ne BP28.out BL28.out (by decide)) (by injection e))⟩
  have Blit29 : Aside0 (W29.heap[glit27]? = some (.cells #[.int .i64 1, .int .i64 (1 - d)] 3 (0, 0))) := ⟨blk_grown Blit27.out hgr29 (fun e => (blk_ne Blit27.out BL28.out (by decide)) (by injection e))⟩
  rw [← hw29]
  clear hw29 hgr29
  have HBAD := Aside0.mk (show goodP 1 1 [1, 1 - d] 1 1 1 1 1 = false from bad_of (by rintro ⟨h1, h2, h3, h4, h5, h6, h7, h8, h9⟩; rw [min2] at h4; omega))
  have zL30_0 : W29.cell? ⟨gL3, 0, none⟩ = some (.int .i64 1) := (blk_cell BL29.out 0).trans rfl
  have zL30_1 : W29.cell? ⟨gL3, 1, none⟩ = some (.int .i64 1) := (blk_cell BL29.out 1).trans rfl
  have zL30_2 : W29.cell? ⟨gL3, 2, none⟩ = some (.slice (some ⟨glit27, 0, none⟩) 2 2) := (blk_cell BL29.out 2).trans rfl
  have zL30_3 : W29.cell? ⟨gL3, 3, none⟩ = some (.int .i64 1) := (blk_cell BL29.out 3).trans rfl
  have zL30_4 : W29.cell? ⟨gL3, 4, none⟩ = some (.int .i64 1) := (blk_cell BL29.out 4).trans rfl
  have zL30_5 : W29.cell? ⟨gL3, 5, none⟩ = some (.int .i64 1) := (blk_cell BL29.out 5).trans rfl
  have zL30_6 : W29.cell? ⟨gL3, 6, none⟩ = some (.int .i64 1) := (blk_cell BL29.out 6).trans rfl
  have zL30_7 : W29.cell? ⟨gL3, 7, none⟩ = some (.int .i64 1) := (blk_cell BL29.out 7).trans rfl
  go_wp2_with fail
  refine (check_at false (.iface 29 (.int .i64 14)) 1 1 (some ⟨glit27, 0, none⟩) 2 2 [1, 1 - d] rfl 1 1 1 1 1 _ HBAD.out rfl (C_blk [1, 1 - d] Blit29.out rfl (by simp)) (by decide)).mono ?_
  rintro e w31 ⟨rfl, hb31⟩
  clear zL30_0 zL30_1 zL30_2 zL30_3 zL30_4 zL30_5 zL30_6 zL30_7
  have HB32 := Aside0.mk (below_step HB29.out hb31)
  have BL32 : Aside0 (w31.heap[gL3]? = some (.cells #[.int .i64 1, .int .i64 1, .slice (some ⟨glit27, 0, none⟩) 2 2, .int .i64 1, .int .i64 1, .int .i64 1, .int .i64 1, .int .i64 1] 24 (0, 0))) := ⟨(hb31.block _ (blk_lt BL29.out)).trans BL29.out⟩
  have BB32 : Aside0 (w31.heap[gB3]? = some (.cells #[.int .i64 9223372036854775807, .int .i64 1, .int .i64 7] 3 (0, 0))) := ⟨(hb31.block _ (blk_lt BB29.out)).trans BB29.out⟩
  have BH32 : Aside0 (w31.heap[gH3]? = some (.cells #[.int .i64 4, .int .i64 5, .slice (some ⟨gB3, 0, none⟩) 3 3, .int .i64 4, .int .i64 64, .int .i64 1024, .int .i64 16, .int .i64 20] 24 (0, 0))) := ⟨(hb31.block _ (blk_lt BH29.out)).trans BH29.out⟩
  have BP32 : Aside0 (w31.heap[gP21]? = some (.cells #[.pointer (some ⟨gL3, 0, none⟩), .pointer (some ⟨gH3, 0, none⟩)] 35 (0, 0))) := ⟨(hb31.block _ (blk_lt BP29.out)).trans BP29.out⟩
  have Blit32 : Aside0 (w31.heap[glit27]? = some (.cells #[.int .i64 1, .int .i64 (1 - d)] 3 (0, 0))) := ⟨(hb31.block _ (blk_lt Blit29.out)).trans Blit29.out⟩
  clear hb31
  have zL33_0 : w31.cell? ⟨gL3, 0, none⟩ = some (.int .i64 1) := (blk_cell BL32.out 0).trans rfl
  have zL33_1 : w31.cell? ⟨gL3, 1, none⟩ = some (.int .i64 1) := (blk_cell BL32.out 1).trans rfl
  have zL33_2 : w31.cell? ⟨gL3, 2, none⟩ = some (.slice (some ⟨glit27, 0, none⟩) 2 2) := (blk_cell BL32.out 2).trans rfl
  have zL33_3 : w31.cell? ⟨gL3, 3, none⟩ = some (.int .i64 1) := (blk_cell BL32.out 3).trans rfl
  have zL33_4 : w31.cell? ⟨gL3, 4, none⟩ = some (.int .i64 1) := (blk_cell BL32.out 4).trans rfl
  have zL33_5 : w31.cell? ⟨gL3, 5, none⟩ = some (.int .i64 1) := (blk_cell BL32.out 5).trans rfl
  have zL33_6 : w31.cell? ⟨gL3, 6, none⟩ = some (.int .i64 1) := (blk_cell BL32.out 6).trans rfl
  have zL33_7 : w31.cell? ⟨gL3, 7, none⟩ = some (.int .i64 1) := (blk_cell BL32.out 7).trans rfl
  go_wp2_with fail
  refine (nodes_at false 0 1 1 (some ⟨glit27, 0, none⟩) 2 2 [1, 1 - d] rfl 1 1 1 1 1 _ HBAD.out rfl (C_blk [1, 1 - d] Blit32.out rfl (by simp)) (by decide)).mono ?_
  rintro e w34 ⟨rfl, hb34⟩
  clear zL33_0 zL33_1 zL33_2 zL33_3 zL33_4 zL33_5 zL33_6 zL33_7
  have HB35 := Aside0.mk (below_step HB32.out hb34)
  have BL35 : Aside0 (w34.heap[gL3]? = some (.cells #[.int .i64 1, .int .i64 1, .slice (some ⟨glit27, 0, none⟩) 2 2, .int .i64 1, .int .i64 1, .int .i64 1, .int .i64 1, .int .i64 1] 24 (0, 0))) := ⟨(hb34.block _ (blk_lt BL32.out)).trans BL32.out⟩
  have BB35 : Aside0 (w34.heap[gB3]? = some (.cells #[.int .i64 9223372036854775807, .int .i64 1, .int .i64 7] 3 (0, 0))) := ⟨(hb34.block _ (blk_lt BB32.out)).trans BB32.out⟩
  have BH35 : Aside0 (w34.heap[gH3]? = some (.cells #[.int .i64 4, .int .i64 5, .slice (some ⟨gB3, 0, none⟩) 3 3, .int .i64 4, .int .i64 64, .int .i64 1024, .int .i64 16, .int .i64 20] 24 (0, 0))) := ⟨(hb34.block _ (blk_lt BH32.out)).trans BH32.out⟩
  have BP35 : Aside0 (w34.heap[gP21]? = some (.cells #[.pointer (some ⟨gL3, 0, none⟩), .pointer (some ⟨gH3, 0, none⟩)] 35 (0, 0))) := ⟨(hb34.block _ (blk_lt BP32.out)).trans BP32.out⟩
  have Blit35 : Aside0 (w34.heap[glit27]? = some (.cells #[.int .i64 1, .int .i64 (1 - d)] 3 (0, 0))) := ⟨(hb34.block _ (blk_lt Blit32.out)).trans Blit32.out⟩
  clear hb34
  have zL36_0 : w34.cell? ⟨gL3, 0, none⟩ = some (.int .i64 1) := (blk_cell BL35.out 0).trans rfl
  have zL36_1 : w34.cell? ⟨gL3, 1, none⟩ = some (.int .i64 1) := (blk_cell BL35.out 1).trans rfl
  have zL36_2 : w34.cell? ⟨gL3, 2, none⟩ = some (.slice (some ⟨glit27, 0, none⟩) 2 2) := (blk_cell BL35.out 2).trans rfl
  have zL36_3 : w34.cell? ⟨gL3, 3, none⟩ = some (.int .i64 1) := (blk_cell BL35.out 3).trans rfl
  have zL36_4 : w34.cell? ⟨gL3, 4, none⟩ = some (.int .i64 1) := (blk_cell BL35.out 4).trans rfl
  have zL36_5 : w34.cell? ⟨gL3, 5, none⟩ = some (.int .i64 1) := (blk_cell BL35.out 5).trans rfl
  have zL36_6 : w34.cell? ⟨gL3, 6, none⟩ = some (.int .i64 1) := (blk_cell BL35.out 6).trans rfl
  have zL36_7 : w34.cell? ⟨gL3, 7, none⟩ = some (.int .i64 1) := (blk_cell BL35.out 7).trans rfl
  go_wp2_with fail
  refine (lanes_at false 0 1 1 (some ⟨glit27, 0, none⟩) 2 2 [1, 1 - d] rfl 1 1 1 1 1 _ HBAD.out rfl (C_blk [1, 1 - d] Blit35.out rfl (by simp)) (by decide)).mono ?_
  rintro e w37 ⟨rfl, hb37⟩
  clear zL36_0 zL36_1 zL36_2 zL36_3 zL36_4 zL36_5 zL36_6 zL36_7
  have HB38 := Aside0.mk (below_step HB35.out hb37)
  have BL38 : Aside0 (w37.heap[gL3]? = some (.cells #[.int .i64 1, .int .i64 1, .slice (some ⟨glit27, 0, none⟩) 2 2, .int .i64 1, .int .i64 1, .int .i64 1, .int .i64 1, .int .i64 1] 24 (0, 0))) := ⟨(hb37.block _ (blk_lt BL35.out)).trans BL35.out⟩
  have BB38 : Aside0 (w37.heap[gB3]? = some (.cells #[.int .i64 9223372036854775807, .int .i64 1, .int .i64 7] 3 (0, 0))) := ⟨(hb37.block _ (blk_lt BB35.out)).trans BB35.out⟩
  have BH38 : Aside0 (w37.heap[gH3]? = some (.cells #[.int .i64 4, .int .i64 5, .slice (some ⟨gB3, 0, none⟩) 3 3, .int .i64 4, .int .i64 64, .int .i64 1024, .int .i64 16, .int .i64 20] 24 (0, 0))) := ⟨(hb37.block _ (blk_lt BH35.out)).trans BH35.out⟩
  have BP38 : Aside0 (w37.heap[gP21]? = some (.cells #[.pointer (some ⟨gL3, 0, none⟩), .pointer (some ⟨gH3, 0, none⟩)] 35 (0, 0))) := ⟨(hb37.block _ (blk_lt BP35.out)).trans BP35.out⟩
  have Blit38 : Aside0 (w37.heap[glit27]? = some (.cells #[.int .i64 1, .int .i64 (1 - d)] 3 (0, 0))) := ⟨(hb37.block _ (blk_lt Blit35.out)).trans Blit35.out⟩
  clear hb37
  have zH39_0 : w37.cell? ⟨gH3, 0, none⟩ = some (.int .i64 4) := (blk_cell BH38.out 0).trans rfl
  have zH39_1 : w37.cell? ⟨gH3, 1, none⟩ = some (.int .i64 5) := (blk_cell BH38.out 1).trans rfl
  have zH39_2 : w37.cell? ⟨gH3, 2, none⟩ = some (.slice (some ⟨gB3, 0, none⟩) 3 3) := (blk_cell BH38.out 2).trans rfl
  have zH39_3 : w37.cell? ⟨gH3, 3, none⟩ = some (.int .i64 4) := (blk_cell BH38.out 3).trans rfl
  have zH39_4 : w37.cell? ⟨gH3, 4, none⟩ = some (.int .i64 64) := (blk_cell BH38.out 4).trans rfl
  have zH39_5 : w37.cell? ⟨gH3, 5, none⟩ = some (.int .i64 1024) := (blk_cell BH38.out 5).trans rfl
  have zH39_6 : w37.cell? ⟨gH3, 6, none⟩ = some (.int .i64 16) := (blk_cell BH38.out 6).trans rfl
  have zH39_7 : w37.cell? ⟨gH3, 7, none⟩ = some (.int .i64 20) := (blk_cell BH38.out 7).trans rfl
  have zP39_0 : w37.cell? ⟨gP21, 0, none⟩ = some (.pointer (some ⟨gL3, 0, none⟩)) := (blk_cell BP38.out 0).trans rfl
  have zP39_1 : w37.cell? ⟨gP21, 1, none⟩ = some (.pointer (some ⟨gH3, 0, none⟩)) := (blk_cell BP38.out 1).trans rfl
  go_wp2_with fail
  rw [rounds_succ]
  have HRsH := Aside0.mk (show (Kd.int .i64).R 3 w37 w.heap.size (fun _ => True) (.slice (some ⟨gB3, 0, none⟩) 3 3) [9223372036854775807, 1, 7] from R_blk [9223372036854775807, 1, 7] BB38.out rfl GSB3.out (by simp))
  have HCsH := Aside0.mk (show (Kd.int .i64).C w37 (some ⟨gB3, 0, none⟩) 3 [9223372036854775807, 1, 7] from C_blk [9223372036854775807, 1, 7] BB38.out rfl (by simp))
  clear zH39_0 zH39_1 zH39_2 zH39_3 zH39_4 zH39_5 zH39_6 zH39_7 zP39_0 zP39_1
  have zH40_0 : w37.cell? ⟨gH3, 0, none⟩ = some (.int .i64 4) := (blk_cell BH38.out 0).trans rfl
  have zH40_1 : w37.cell? ⟨gH3, 1, none⟩ = some (.int .i64 5) := (blk_cell BH38.out 1).trans rfl
  have zH40_2 : w37.cell? ⟨gH3, 2, none⟩ = some (.slice (some ⟨gB3, 0, none⟩) 3 3) := (blk_cell BH38.out 2).trans rfl
  have zH40_3 : w37.cell? ⟨gH3, 3, none⟩ = some (.int .i64 4) := (blk_cell BH38.out 3).trans rfl
  have zH40_4 : w37.cell? ⟨gH3, 4, none⟩ = some (.int .i64 64) := (blk_cell BH38.out 4).trans rfl
  have zH40_5 : w37.cell? ⟨gH3, 5, none⟩ = some (.int .i64 1024) := (blk_cell BH38.out 5).trans rfl
  have zH40_6 : w37.cell? ⟨gH3, 6, none⟩ = some (.int .i64 16) := (blk_cell BH38.out 6).trans rfl
  have zH40_7 : w37.cell? ⟨gH3, 7, none⟩ = some (.int .i64 20) := (blk_cell BH38.out 7).trans rfl
  have zP40_0 : w37.cell? ⟨gP21, 0, none⟩ = some (.pointer (some ⟨gL3, 0, none⟩)) := (blk_cell BP38.out 0).trans rfl
  have zP40_1 : w37.cell? ⟨gP21, 1, none⟩ = some (.pointer (some ⟨gH3, 0, none⟩)) := (blk_cell BP38.out 1).trans rfl
  go_upto_region 21 with fail
  refine start_ (n := 13) (S := fun w' => w'.cell? ⟨gH3, 2, none⟩ = some (.slice (some ⟨gB3, 0, none⟩) 3 3)) (ds := [12]) #[false, false, false, false, false, false, false, false, false, false, false, false, false] (by kernel_rfl) rfl rfl (zH40_2) (fun hHeld => ?_)
  refine pure_ (i := 0) (N := some 90) (v := ?_) (a' := ?_) #[true, false, false, false, false, false, false, false, false, false, false, false, false] rfl rfl (by kernel_rfl) (fun _ _ _ h => h) (Or.inl ⟨by rfl, ?_⟩) ?_ ?_
  rotate_left
  · intro w'
    go_simp
    with_reducible rfl
  rotate_left
  · simp only [Act.put, List.setIfInBounds_toArray, List.set_cons_zero, List.set_cons_succ, i64_w, i32_w]
    rfl
  refine pure_ (i := 1) (N := some 91) (v := ?_) (a' := ?_) #[true, true, false, false, false, false, false, false, false, false, false, false, false] rfl rfl (by kernel_rfl) (fun _ _ _ h => h) (Or.inl ⟨by rfl, ?_⟩) ?_ ?_
  rotate_left
  · intro w'
    go_simp
    with_reducible rfl
  rotate_left
  · simp only [Act.put, List.setIfInBounds_toArray, List.set_cons_zero, List.set_cons_succ, i64_w, i32_w]
    rfl
  refine pure_ (i := 2) (N := some 92) (v := ?_) (a' := ?_) #[true, true, true, false, false, false, false, false, false, false, false, false, false] rfl rfl (by kernel_rfl) (fun _ _ _ h => h) (Or.inl ⟨by rfl, ?_⟩) ?_ ?_
  rotate_left
  · intro w'
    go_simp
    with_reducible rfl
  rotate_left
  · simp only [Act.put, List.setIfInBounds_toArray, List.set_cons_zero, List.set_cons_succ, i64_w, i32_w]
    rfl
  refine pure_ (i := 3) (N := some 93) (v := ?_) (a' := ?_) #[true, true, true, true, false, false, false, false, false, false, false, false, false] rfl rfl (by kernel_rfl) (fun _ _ _ h => h) (Or.inl ⟨by rfl, ?_⟩) ?_ ?_
  rotate_left
  · intro w'
    go_simp
    with_reducible rfl
  rotate_left
  · simp only [Act.put, List.setIfInBounds_toArray, List.set_cons_zero, List.set_cons_succ, i64_w, i32_w]
    rfl
  refine pure_ (i := 5) (N := some 95) (v := ?_) (a' := ?_) #[true, true, true, true, false, true, false, false, false, false, false, false, false] rfl rfl (by kernel_rfl) (fun _ _ _ h => h) (Or.inl ⟨by rfl, ?_⟩) ?_ ?_
  rotate_left
  · intro w'
    go_simp
    with_reducible rfl
  rotate_left
  · simp only [Act.put, List.setIfInBounds_toArray, List.set_cons_zero, List.set_cons_succ, i64_w, i32_w]
    rfl
  refine pure_ (i := 6) (N := some 96) (v := ?_) (a' := ?_) #[true, true, true, true, false, true, true, false, false, false, false, false, false] rfl rfl (by kernel_rfl) (fun _ _ _ h => h) (Or.inl ⟨by rfl, ?_⟩) ?_ ?_
  rotate_left
  · intro w'
    go_simp
    with_reducible rfl
  rotate_left
  · simp only [Act.put, List.setIfInBounds_toArray, List.set_cons_zero, List.set_cons_succ, i64_w, i32_w]
    rfl
  refine pure_ (i := 7) (N := some 97) (v := ?_) (a' := ?_) #[true, true, true, true, false, true, true, true, false, false, false, false, false] rfl rfl (by kernel_rfl) (fun _ _ _ h => h) (Or.inl ⟨by rfl, ?_⟩) ?_ ?_
  rotate_left
  · intro w'
    go_simp
    with_reducible rfl
  rotate_left
  · simp only [Act.put, List.setIfInBounds_toArray, List.set_cons_zero, List.set_cons_succ, i64_w, i32_w]
    rfl
  refine take_ (i := 4) (N := some 94) (v := ?_) (a' := ?_) #[true, true, true, true, true, true, true, true, false, false, false, false, false] rfl rfl (by kernel_rfl) (fun _ _ _ h => h) (Or.inl ⟨by rfl, ?_⟩) hHeld ?_ ?_
  rotate_left
  · intro w' s0
    go_simp
    with_reducible rfl
  rotate_left
  · simp only [Act.put, List.setIfInBounds_toArray, List.set_cons_zero, List.set_cons_succ, i64_w, i32_w]
    rfl
  refine take_ (i := 8) (N := some 98) (v := ?_) (a' := ?_) #[true, true, true, true, true, true, true, true, true, false, false, false, false] rfl rfl (by kernel_rfl) (fun _ _ _ h => h) (Or.inl ⟨by rfl, ?_⟩) hHeld ?_ ?_
  rotate_left
  · intro w' s0
    go_simp
    with_reducible rfl
  rotate_left
  · simp only [Act.put, List.setIfInBounds_toArray, List.set_cons_zero, List.set_cons_succ, i64_w, i32_w]
    rfl
  refine one_ (i := 9) (N := some 99) #[true, true, true, true, true, true, true, true, true, true, false, false, false] rfl rfl (by kernel_rfl) (by decide) (fun K hK => ?_)
  refine Kd.R_append_rows_step (Kd.int .i64) (w0 := w) w.heap.size (by rfl) (.tmp 94) (.tmp 98) 22 3 (.int .i64 0) 8 (by rfl) Try.underlying22 info3 rfl (by decide) (by omega) (.slice (some ⟨gB3, 0, none⟩) 3 3) [9223372036854775807, 1, 7] [9223372036854775807, 1, 7] (some ⟨gB3, 0, none⟩) 3 3 (fun _ => True) (fun _ => False) (by rfl) (by rfl) (Kd.R_drew HRsH.out) (Kd.C_drew HCsH.out) (fun _ _ h => h) (fun _ h => h.elim) (fun _ _ => trivial) (below_drew HB38.out) HB38.out.size (by decide) ?_
  intro vH wqH ho hb hg hat
  have ho : (Kd.int .i64).R 3 wqH w.heap.size (fun _ => True) vH [9223372036854775807, 1, 7, 9223372036854775807, 1, 7] := ho
  obtain ⟨AqH, cqH, hxH⟩ := Kd.R_slice ho
  have hvH : vH = .slice AqH 6 cqH := hxH
  clear hxH
  subst hvH
  have HOqH := Aside0.mk ho
  have HBqH := Aside0.mk hb
  have BqHL : Aside0 (wqH.heap[gL3]? = some (.cells #[.int .i64 1, .int .i64 1, .slice (some ⟨glit27, 0, none⟩) 2 2, .int .i64 1, .int .i64 1, .int .i64 1, .int .i64 1, .int .i64 1] 24 (0, 0))) := ⟨blk_grown (blk_drew BL38.out) hg (fun e => (blk_ne BL38.out BB38.out (by decide)) (by simpa [Value.ownBlock] using e))⟩
  have BqHH : Aside0 (wqH.heap[gH3]? = some (.cells #[.int .i64 4, .int .i64 5, .slice (some ⟨gB3, 0, none⟩) 3 3, .int .i64 4, .int .i64 64, .int .i64 1024, .int .i64 16, .int .i64 20] 24 (0, 0))) := ⟨blk_grown (blk_drew BH38.out) hg (fun e => (blk_ne BH38.out BB38.out (by decide)) (by simpa [Value.ownBlock] using e))⟩
  have BqHP : Aside0 (wqH.heap[gP21]? = some (.cells #[.pointer (some ⟨gL3, 0, none⟩), .pointer (some ⟨gH3, 0, none⟩)] 35 (0, 0))) := ⟨blk_grown (blk_drew BP38.out) hg (fun e => (blk_ne BP38.out BB38.out (by decide)) (by simpa [Value.ownBlock] using e))⟩
  have kqH := (blk_cell BqHH.out 2).trans (show _ = some (.slice (some ⟨gB3, 0, none⟩) 3 3) from rfl)
  have fqH := blk_frozen BqHH.out 2
  clear ho hb hg hat
  refine hK.out _ _ (kqH) (fun hHeld => ?_)
  clear hK K
  refine norm_ (a' := ?_) ?_ ?_
  rotate_left
  · show Act.put _ (some 99) _ = _
    simp only [Act.put, List.setIfInBounds_toArray, List.set_cons_zero, List.set_cons_succ, i64_w, i32_w]
    rfl
  refine pure_ (i := 10) (N := some 100) (v := ?_) (a' := ?_) #[true, true, true, true, true, true, true, true, true, true, true, false, false] rfl rfl (by kernel_rfl) (fun _ _ _ h => h) (Or.inl ⟨by rfl, ?_⟩) ?_ ?_
  rotate_left
  · intro w'
    go_simp
    with_reducible rfl
  rotate_left
  · simp only [Act.put, List.setIfInBounds_toArray, List.set_cons_zero, List.set_cons_succ, i64_w, i32_w]
    rfl
  refine pure_ (i := 11) (N := some 101) (v := ?_) (a' := ?_) #[true, true, true, true, true, true, true, true, true, true, true, true, false] rfl rfl (by kernel_rfl) (fun _ _ _ h => h) (Or.inl ⟨by rfl, ?_⟩) ?_ ?_
  rotate_left
  · intro w'
    go_simp
    with_reducible rfl
  rotate_left
  · simp only [Act.put, List.setIfInBounds_toArray, List.set_cons_zero, List.set_cons_succ, i64_w, i32_w]
    rfl
  refine last_ (i := 12) (N := none) #[true, true, true, true, true, true, true, true, true, true, true, true, true] rfl rfl (by kernel_rfl) (by decide) (fun K hK => ?_)
  refine skip_ (w1 := ?_) (by rfl) rfl ?_ ?_
  rotate_left
  · go_simp
    rfl
  refine hK.out _ _ ?_
  clear hK K
  refine done_ (by kernel_rfl) ?_
  clear zH40_0 zH40_1 zH40_2 zH40_3 zH40_4 zH40_5 zH40_6 zH40_7 zP40_0 zP40_1
  clear kqH fqH
  obtain ⟨W41, hw41⟩ : ∃ x : World, x = (wqH.setCell ⟨gH3, 2, none⟩ (.slice AqH 6 cqH)) := ⟨_, rfl⟩
  have HB41 : Aside0 (Below w.heap.size w W41) := ⟨by rw [hw41]; exact (below_set HBqH.out GSH3.out)⟩
  have hgr41 : wqH.grownBy W41 (some gH3) := by rw [hw41]; exact grown_set _ _ _ _
  have BH41 : Aside0 (W41.heap[gH3]? = some (.cells #[.int .i64 4, .int .i64 5, .slice AqH 6 cqH, .int .i64 4, .int .i64 64, .int .i64 1024, .int .i64 16, .int .i64 20] 24 (0, 0))) := ⟨by rw [hw41]; refine blk_put (cs := #[.int .i64 4, .int .i64 5, .slice (some ⟨gB3, 0, none⟩) 3 3, .int .i64 4, .int .i64 64, .int .i64 1024, .int .i64 16, .int .i64 20]) ?_ 2 _ rfl; exact BqHH.out⟩
  have BL41 : Aside0 (W41.heap[gL3]? = some (.cells #[.int .i64 1, .int .i64 1, .slice (some ⟨glit27, 0, none⟩) 2 2, .int .i64 1, .int .i64 1, .int .i64 1, .int .i64 1, .int .i64 1] 24 (0, 0))) := ⟨blk_grown BqHL.out hgr41 (fun e => (hneHL) (by injection e))⟩
  have BP41 : Aside0 (W41.heap[gP21]? = some (.cells #[.pointer (some ⟨gL3, 0, none⟩), .pointer (some ⟨gH3, 0, none⟩)] 35 (0, 0))) := ⟨blk_grown BqHP.out hgr41 (fun e => (blk_ne BqHP.out BqHH.out (by decide)) (by injection e))⟩
  have Rq41 := Aside0.mk (Kd.R_mono (Kd.R_grown (Kd.R_types HOqH.out BqHH.out (by decide)) hgr41 (fun k hk => by simpa using hk.2)) (fun _ hk => hk.1))
  rw [← hw41]
  clear hw41 hgr41
  have zH42_0 : W41.cell? ⟨gH3, 0, none⟩ = some (.int .i64 4) := (blk_cell BH41.out 0).trans rfl
  have zH42_1 : W41.cell? ⟨gH3, 1, none⟩ = some (.int .i64 5) := (blk_cell BH41.out 1).trans rfl
  have zH42_2 : W41.cell? ⟨gH3, 2, none⟩ = some (.slice AqH 6 cqH) := (blk_cell BH41.out 2).trans rfl
  have zH42_3 : W41.cell? ⟨gH3, 3, none⟩ = some (.int .i64 4) := (blk_cell BH41.out 3).trans rfl
  have zH42_4 : W41.cell? ⟨gH3, 4, none⟩ = some (.int .i64 64) := (blk_cell BH41.out 4).trans rfl
  have zH42_5 : W41.cell? ⟨gH3, 5, none⟩ = some (.int .i64 1024) := (blk_cell BH41.out 5).trans rfl
  have zH42_6 : W41.cell? ⟨gH3, 6, none⟩ = some (.int .i64 16) := (blk_cell BH41.out 6).trans rfl
  have zH42_7 : W41.cell? ⟨gH3, 7, none⟩ = some (.int .i64 20) := (blk_cell BH41.out 7).trans rfl
  have zP42_0 : W41.cell? ⟨gP21, 0, none⟩ = some (.pointer (some ⟨gL3, 0, none⟩)) := (blk_cell BP41.out 0).trans rfl
  have zP42_1 : W41.cell? ⟨gP21, 1, none⟩ = some (.pointer (some ⟨gH3, 0, none⟩)) := (blk_cell BP41.out 1).trans rfl
  go_upto_region 32 with fail
  have HBAD := Aside0.mk (show goodP 4 5 [9223372036854775807, 1, 7, 9223372036854775807, 1, 7] 4 64 1024 16 20 = false from bad_of (by rintro ⟨h1, h2, h3, h4, h5, h6, h7, h8, h9⟩; simp at h3))
  clear zH42_0 zH42_1 zH42_2 zH42_3 zH42_4 zH42_5 zH42_6 zH42_7 zP42_0 zP42_1
  have zH43_0 : W41.cell? ⟨gH3, 0, none⟩ = some (.int .i64 4) := (blk_cell BH41.out 0).trans rfl
  have zH43_1 : W41.cell? ⟨gH3, 1, none⟩ = some (.int .i64 5) := (blk_cell BH41.out 1).trans rfl
  have zH43_2 : W41.cell? ⟨gH3, 2, none⟩ = some (.slice AqH 6 cqH) := (blk_cell BH41.out 2).trans rfl
  have zH43_3 : W41.cell? ⟨gH3, 3, none⟩ = some (.int .i64 4) := (blk_cell BH41.out 3).trans rfl
  have zH43_4 : W41.cell? ⟨gH3, 4, none⟩ = some (.int .i64 64) := (blk_cell BH41.out 4).trans rfl
  have zH43_5 : W41.cell? ⟨gH3, 5, none⟩ = some (.int .i64 1024) := (blk_cell BH41.out 5).trans rfl
  have zH43_6 : W41.cell? ⟨gH3, 6, none⟩ = some (.int .i64 16) := (blk_cell BH41.out 6).trans rfl
  have zH43_7 : W41.cell? ⟨gH3, 7, none⟩ = some (.int .i64 20) := (blk_cell BH41.out 7).trans rfl
  go_wp2_with fail
  refine (check_at false (.iface 29 (.int .i64 14)) 4 5 AqH 6 cqH [9223372036854775807, 1, 7, 9223372036854775807, 1, 7] rfl 4 64 1024 16 20 _ HBAD.out rfl (show (Kd.int .i64).C W41 AqH 6 [9223372036854775807, 1, 7, 9223372036854775807, 1, 7] from (Kd.R_reads' Rq41.out).2.2) (show 6 ≤ cqH from (Kd.R_reads' HOqH.out).2.1)).mono ?_
  rintro e w44 ⟨rfl, hb44⟩
  clear zH43_0 zH43_1 zH43_2 zH43_3 zH43_4 zH43_5 zH43_6 zH43_7
  have HB45 := Aside0.mk (below_step HB41.out hb44)
  have BL45 : Aside0 (w44.heap[gL3]? = some (.cells #[.int .i64 1, .int .i64 1, .slice (some ⟨glit27, 0, none⟩) 2 2, .int .i64 1, .int .i64 1, .int .i64 1, .int .i64 1, .int .i64 1] 24 (0, 0))) := ⟨(hb44.block _ (blk_lt BL41.out)).trans BL41.out⟩
  have BH45 : Aside0 (w44.heap[gH3]? = some (.cells #[.int .i64 4, .int .i64 5, .slice AqH 6 cqH, .int .i64 4, .int .i64 64, .int .i64 1024, .int .i64 16, .int .i64 20] 24 (0, 0))) := ⟨(hb44.block _ (blk_lt BH41.out)).trans BH41.out⟩
  have BP45 : Aside0 (w44.heap[gP21]? = some (.cells #[.pointer (some ⟨gL3, 0, none⟩), .pointer (some ⟨gH3, 0, none⟩)] 35 (0, 0))) := ⟨(hb44.block _ (blk_lt BP41.out)).trans BP41.out⟩
  have Rq45 := Aside0.mk (Kd.R_below Rq41.out hb44)
  clear hb44
  have zH46_0 : w44.cell? ⟨gH3, 0, none⟩ = some (.int .i64 4) := (blk_cell BH45.out 0).trans rfl
  have zH46_1 : w44.cell? ⟨gH3, 1, none⟩ = some (.int .i64 5) := (blk_cell BH45.out 1).trans rfl
  have zH46_2 : w44.cell? ⟨gH3, 2, none⟩ = some (.slice AqH 6 cqH) := (blk_cell BH45.out 2).trans rfl
  have zH46_3 : w44.cell? ⟨gH3, 3, none⟩ = some (.int .i64 4) := (blk_cell BH45.out 3).trans rfl
  have zH46_4 : w44.cell? ⟨gH3, 4, none⟩ = some (.int .i64 64) := (blk_cell BH45.out 4).trans rfl
  have zH46_5 : w44.cell? ⟨gH3, 5, none⟩ = some (.int .i64 1024) := (blk_cell BH45.out 5).trans rfl
  have zH46_6 : w44.cell? ⟨gH3, 6, none⟩ = some (.int .i64 16) := (blk_cell BH45.out 6).trans rfl
  have zH46_7 : w44.cell? ⟨gH3, 7, none⟩ = some (.int .i64 20) := (blk_cell BH45.out 7).trans rfl
  go_wp2_with fail
  refine (nodes_at false 0 4 5 AqH 6 cqH [9223372036854775807, 1, 7, 9223372036854775807, 1, 7] rfl 4 64 1024 16 20 _ HBAD.out rfl (show (Kd.int .i64).C w44 AqH 6 [9223372036854775807, 1, 7, 9223372036854775807, 1, 7] from (Kd.R_reads' Rq45.out).2.2) (show 6 ≤ cqH from (Kd.R_reads' HOqH.out).2.1)).mono ?_
  rintro e w47 ⟨rfl, hb47⟩
  clear zH46_0 zH46_1 zH46_2 zH46_3 zH46_4 zH46_5 zH46_6 zH46_7
  have HB48 := Aside0.mk (below_step HB45.out hb47)
  have BL48 : Aside0 (w47.heap[gL3]? = some (.cells #[.int .i64 1, .int .i64 1, .slice (some ⟨glit27, 0, none⟩) 2 2, .int .i64 1, .int .i64 1, .int .i64 1, .int .i64 1, .int .i64 1] 24 (0, 0))) := ⟨(hb47.block _ (blk_lt BL45.out)).trans BL45.out⟩
  have BH48 : Aside0 (w47.heap[gH3]? = some (.cells #[.int .i64 4, .int .i64 5, .slice AqH 6 cqH, .int .i64 4, .int .i64 64, .int .i64 1024, .int .i64 16, .int .i64 20] 24 (0, 0))) := ⟨(hb47.block _ (blk_lt BH45.out)).trans BH45.out⟩
  have BP48 : Aside0 (w47.heap[gP21]? = some (.cells #[.pointer (some ⟨gL3, 0, none⟩), .pointer (some ⟨gH3, 0, none⟩)] 35 (0, 0))) := ⟨(hb47.block _ (blk_lt BP45.out)).trans BP45.out⟩
  have Rq48 := Aside0.mk (Kd.R_below Rq45.out hb47)
  clear hb47
  have zH49_0 : w47.cell? ⟨gH3, 0, none⟩ = some (.int .i64 4) := (blk_cell BH48.out 0).trans rfl
  have zH49_1 : w47.cell? ⟨gH3, 1, none⟩ = some (.int .i64 5) := (blk_cell BH48.out 1).trans rfl
  have zH49_2 : w47.cell? ⟨gH3, 2, none⟩ = some (.slice AqH 6 cqH) := (blk_cell BH48.out 2).trans rfl
  have zH49_3 : w47.cell? ⟨gH3, 3, none⟩ = some (.int .i64 4) := (blk_cell BH48.out 3).trans rfl
  have zH49_4 : w47.cell? ⟨gH3, 4, none⟩ = some (.int .i64 64) := (blk_cell BH48.out 4).trans rfl
  have zH49_5 : w47.cell? ⟨gH3, 5, none⟩ = some (.int .i64 1024) := (blk_cell BH48.out 5).trans rfl
  have zH49_6 : w47.cell? ⟨gH3, 6, none⟩ = some (.int .i64 16) := (blk_cell BH48.out 6).trans rfl
  have zH49_7 : w47.cell? ⟨gH3, 7, none⟩ = some (.int .i64 20) := (blk_cell BH48.out 7).trans rfl
  go_wp2_with fail
  refine (lanes_at false 0 4 5 AqH 6 cqH [9223372036854775807, 1, 7, 9223372036854775807, 1, 7] rfl 4 64 1024 16 20 _ HBAD.out rfl (show (Kd.int .i64).C w47 AqH 6 [9223372036854775807, 1, 7, 9223372036854775807, 1, 7] from (Kd.R_reads' Rq48.out).2.2) (show 6 ≤ cqH from (Kd.R_reads' HOqH.out).2.1)).mono ?_
  rintro e w50 ⟨rfl, hb50⟩
  clear zH49_0 zH49_1 zH49_2 zH49_3 zH49_4 zH49_5 zH49_6 zH49_7
  have HB51 := Aside0.mk (below_step HB48.out hb50)
  have BL51 : Aside0 (w50.heap[gL3]? = some (.cells #[.int .i64 1, .int .i64 1, .slice (some ⟨glit27, 0, none⟩) 2 2, .int .i64 1, .int .i64 1, .int .i64 1, .int .i64 1, .int .i64 1] 24 (0, 0))) := ⟨(hb50.block _ (blk_lt BL48.out)).trans BL48.out⟩
  have BH51 : Aside0 (w50.heap[gH3]? = some (.cells #[.int .i64 4, .int .i64 5, .slice AqH 6 cqH, .int .i64 4, .int .i64 64, .int .i64 1024, .int .i64 16, .int .i64 20] 24 (0, 0))) := ⟨(hb50.block _ (blk_lt BH48.out)).trans BH48.out⟩
  have BP51 : Aside0 (w50.heap[gP21]? = some (.cells #[.pointer (some ⟨gL3, 0, none⟩), .pointer (some ⟨gH3, 0, none⟩)] 35 (0, 0))) := ⟨(hb50.block _ (blk_lt BP48.out)).trans BP48.out⟩
  have Rq51 := Aside0.mk (Kd.R_below Rq48.out hb50)
  clear hb50
  go_wp2_with fail
  rw [rounds_succ]
  go_wp2_with fail
  go_ret
  exact ⟨rfl, HB51.out⟩
end Go.Proofs.Ytdaapjkfkfaflaa.MAll

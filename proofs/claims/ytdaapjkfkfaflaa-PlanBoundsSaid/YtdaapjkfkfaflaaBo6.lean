/- PlanBounds: the case 6. -/
import Derived.Test.YtdaapjkfkfaflaaBo
set_option linter.unusedVariables false
set_option linter.unusedSimpArgs false
namespace Go.Proofs.Ytdaapjkfkfaflaa.MAll
open Go.RowKit Go.Proofs.YtdaapjkfkfaflaaW.PrintWords Go.Proofs.YtdaapjkfkfaflaaW.PrintLast Go.Proofs.YtdaapjkfkfaflaaW.PrintMore
attribute [local go_sem ↓] Go.wp_at_zero Go.wp_at_succ

set_option maxHeartbeats 8000000 in
set_option maxRecDepth 100000 in
theorem bounds_6 (x y : Int) (w : World) (hm : (IntKind.u64.wrap x).tmod 8 = 6) : Calls Try.prog 4 #[.int .i64 x, .int .i64 y] w fun e w' => e = .returned (.bool true) ∧ Below w.heap.size w w' := by
  have hu24 := Try.underlying24
  have hu22 := Try.underlying22
  have hu27 := Try.underlying27
  have hu29 := Try.underlying29
  have eE := Err.eqE
  have eN := Err.eqN
  have nE := Err.neE
  have nN := Err.neN
  obtain ⟨d, hd, hd1, hd2⟩ := umod_by y
  have HD := Aside0.mk hd
  have HM := Aside0.mk hm
  clear hd hm
  go_enter Try.func4, Try.ntmps4
  go_wp2_with fail
  refine (alive_any _).mono ?_
  rintro e w1 ⟨rfl, hb1⟩
  have HB2 := Aside0.mk hb1
  clear hb1
  go_upto_region 5 with fail
  obtain ⟨W3, hw3⟩ : ∃ x : World, x = (((w1.alloc (.cells #[.int .i64 1] 3)).alloc (.cells #[.int .i64 1, .int .i64 1, .slice (some ⟨w1.heap.size, 0, none⟩) 1 1, .int .i64 1, .int .i64 1, .int .i64 1, .int .i64 1, .int .i64 1] 24)).alloc (.cells #[.int .i64 9223372036854775807, .int .i64 1, .int .i64 7] 3)).alloc (.cells #[.int .i64 4, .int .i64 5, .slice (some ⟨w1.heap.size + 1 + 1, 0, none⟩) 3 3, .int .i64 4, .int .i64 64, .int .i64 1024, .int .i64 16, .int .i64 20] 24) := ⟨_, rfl⟩
  have hbs3 : Below w1.heap.size w1 W3 := by rw [hw3]; repeat (first | exact Below.refl _ _ | refine below_alloc ?_ _ | refine below_drew ?_)
  obtain ⟨gA3, hgA3⟩ : ∃ x, x = w1.heap.size := ⟨_, rfl⟩
  have GSA3 : Aside0 (w.heap.size ≤ gA3) := ⟨by rw [hgA3]; have := HB2.out.size; omega⟩
  have BA3 : Aside0 (W3.heap[gA3]? = some (.cells #[.int .i64 1] 3 (0, 0))) := ⟨by rw [hw3, hgA3]; exact blk_alloc (blk_alloc (blk_alloc (blk_new _ _) _) _) _⟩
  obtain ⟨gL3, hgL3⟩ : ∃ x, x = w1.heap.size + 1 := ⟨_, rfl⟩
  have GSL3 : Aside0 (w.heap.size ≤ gL3) := ⟨by rw [hgL3]; have := HB2.out.size; omega⟩
  have BL3 : Aside0 (W3.heap[gL3]? = some (.cells #[.int .i64 1, .int .i64 1, .slice (some ⟨gA3, 0, none⟩) 1 1, .int .i64 1, .int .i64 1, .int .i64 1, .int .i64 1, .int .i64 1] 24 (0, 0))) := ⟨by rw [hw3, hgL3]; (try rw [hgA3]); have := blk_alloc (blk_alloc (blk_new (w1.alloc (.cells #[.int .i64 1] 3)) (.cells #[.int .i64 1, .int .i64 1, .slice (some ⟨w1.heap.size, 0, none⟩) 1 1, .int .i64 1, .int .i64 1, .int .i64 1, .int .i64 1, .int .i64 1] 24)) (.cells #[.int .i64 9223372036854775807, .int .i64 1, .int .i64 7] 3)) (.cells #[.int .i64 4, .int .i64 5, .slice (some ⟨w1.heap.size + 1 + 1, 0, none⟩) 3 3, .int .i64 4, .int .i64 64, .int .i64 1024, .int .i64 16, .int .i64 20] 24); rwa [World.size_alloc] at this⟩
  obtain ⟨gB3, hgB3⟩ : ∃ x, x = w1.heap.size + 1 + 1 := ⟨_, rfl⟩
  have GSB3 : Aside0 (w.heap.size ≤ gB3) := ⟨by rw [hgB3]; have := HB2.out.size; omega⟩
  have BB3 : Aside0 (W3.heap[gB3]? = some (.cells #[.int .i64 9223372036854775807, .int .i64 1, .int .i64 7] 3 (0, 0))) := ⟨by rw [hw3, hgB3]; have := blk_alloc (blk_new ((w1.alloc (.cells #[.int .i64 1] 3)).alloc (.cells #[.int .i64 1, .int .i64 1, .slice (some ⟨w1.heap.size, 0, none⟩) 1 1, .int .i64 1, .int .i64 1, .int .i64 1, .int .i64 1, .int .i64 1] 24)) (.cells #[.int .i64 9223372036854775807, .int .i64 1, .int .i64 7] 3)) (.cells #[.int .i64 4, .int .i64 5, .slice (some ⟨w1.heap.size + 1 + 1, 0, none⟩) 3 3, .int .i64 4, .int .i64 64, .int .i64 1024, .int .i64 16, .int .i64 20] 24); rwa [World.size_alloc, World.size_alloc] at this⟩
  obtain ⟨gH3, hgH3⟩ : ∃ x, x = w1.heap.size + 1 + 1 + 1 := ⟨_, rfl⟩
  have GSH3 : Aside0 (w.heap.size ≤ gH3) := ⟨by rw [hgH3]; have := HB2.out.size; omega⟩
  have BH3 : Aside0 (W3.heap[gH3]? = some (.cells #[.int .i64 4, .int .i64 5, .slice (some ⟨gB3, 0, none⟩) 3 3, .int .i64 4, .int .i64 64, .int .i64 1024, .int .i64 16, .int .i64 20] 24 (0, 0))) := ⟨by rw [hw3, hgH3]; (try rw [hgB3]); have := blk_new (((w1.alloc (.cells #[.int .i64 1] 3)).alloc (.cells #[.int .i64 1, .int .i64 1, .slice (some ⟨w1.heap.size, 0, none⟩) 1 1, .int .i64 1, .int .i64 1, .int .i64 1, .int .i64 1, .int .i64 1] 24)).alloc (.cells #[.int .i64 9223372036854775807, .int .i64 1, .int .i64 7] 3)) (.cells #[.int .i64 4, .int .i64 5, .slice (some ⟨w1.heap.size + 1 + 1, 0, none⟩) 3 3, .int .i64 4, .int .i64 64, .int .i64 1024, .int .i64 16, .int .i64 20] 24); rwa [World.size_alloc, World.size_alloc, World.size_alloc] at this⟩
  rw [← hw3]
  rw [← hgH3]
  rw [← hgB3]
  rw [← hgL3]
  rw [← hgA3]
  have HNELH := Aside0.mk (show gL3 ≠ gH3 by omega)
  have HNEAB := Aside0.mk (show gA3 ≠ gB3 by omega)
  clear hw3 hgA3 hgL3 hgB3 hgH3
  have HB4 := Aside0.mk (below_step HB2.out hbs3)
  clear hbs3
  have zL5_0 : W3.cell? ⟨gL3, 0, none⟩ = some (.int .i64 1) := (blk_cell BL3.out 0).trans rfl
  have zL5_1 : W3.cell? ⟨gL3, 1, none⟩ = some (.int .i64 1) := (blk_cell BL3.out 1).trans rfl
  have zL5_2 : W3.cell? ⟨gL3, 2, none⟩ = some (.slice (some ⟨gA3, 0, none⟩) 1 1) := (blk_cell BL3.out 2).trans rfl
  have zL5_3 : W3.cell? ⟨gL3, 3, none⟩ = some (.int .i64 1) := (blk_cell BL3.out 3).trans rfl
  have zL5_4 : W3.cell? ⟨gL3, 4, none⟩ = some (.int .i64 1) := (blk_cell BL3.out 4).trans rfl
  have zL5_5 : W3.cell? ⟨gL3, 5, none⟩ = some (.int .i64 1) := (blk_cell BL3.out 5).trans rfl
  have zL5_6 : W3.cell? ⟨gL3, 6, none⟩ = some (.int .i64 1) := (blk_cell BL3.out 6).trans rfl
  have zL5_7 : W3.cell? ⟨gL3, 7, none⟩ = some (.int .i64 1) := (blk_cell BL3.out 7).trans rfl
  go_wp2_with fail
  refine (check_at true .nilIface 1 1 (some ⟨gA3, 0, none⟩) 1 1 [1] rfl 1 1 1 1 1 _ low_good rfl (C_blk [1] BA3.out rfl (by simp)) (Nat.le_refl _)).mono ?_
  rintro e w6 ⟨rfl, hb6⟩
  clear zL5_0 zL5_1 zL5_2 zL5_3 zL5_4 zL5_5 zL5_6 zL5_7
  have HB7 := Aside0.mk (below_step HB4.out hb6)
  have BA7 : Aside0 (w6.heap[gA3]? = some (.cells #[.int .i64 1] 3 (0, 0))) := ⟨(hb6.block _ (blk_lt BA3.out)).trans BA3.out⟩
  have BL7 : Aside0 (w6.heap[gL3]? = some (.cells #[.int .i64 1, .int .i64 1, .slice (some ⟨gA3, 0, none⟩) 1 1, .int .i64 1, .int .i64 1, .int .i64 1, .int .i64 1, .int .i64 1] 24 (0, 0))) := ⟨(hb6.block _ (blk_lt BL3.out)).trans BL3.out⟩
  have BB7 : Aside0 (w6.heap[gB3]? = some (.cells #[.int .i64 9223372036854775807, .int .i64 1, .int .i64 7] 3 (0, 0))) := ⟨(hb6.block _ (blk_lt BB3.out)).trans BB3.out⟩
  have BH7 : Aside0 (w6.heap[gH3]? = some (.cells #[.int .i64 4, .int .i64 5, .slice (some ⟨gB3, 0, none⟩) 3 3, .int .i64 4, .int .i64 64, .int .i64 1024, .int .i64 16, .int .i64 20] 24 (0, 0))) := ⟨(hb6.block _ (blk_lt BH3.out)).trans BH3.out⟩
  clear hb6
  have zH8_0 : w6.cell? ⟨gH3, 0, none⟩ = some (.int .i64 4) := (blk_cell BH7.out 0).trans rfl
  have zH8_1 : w6.cell? ⟨gH3, 1, none⟩ = some (.int .i64 5) := (blk_cell BH7.out 1).trans rfl
  have zH8_2 : w6.cell? ⟨gH3, 2, none⟩ = some (.slice (some ⟨gB3, 0, none⟩) 3 3) := (blk_cell BH7.out 2).trans rfl
  have zH8_3 : w6.cell? ⟨gH3, 3, none⟩ = some (.int .i64 4) := (blk_cell BH7.out 3).trans rfl
  have zH8_4 : w6.cell? ⟨gH3, 4, none⟩ = some (.int .i64 64) := (blk_cell BH7.out 4).trans rfl
  have zH8_5 : w6.cell? ⟨gH3, 5, none⟩ = some (.int .i64 1024) := (blk_cell BH7.out 5).trans rfl
  have zH8_6 : w6.cell? ⟨gH3, 6, none⟩ = some (.int .i64 16) := (blk_cell BH7.out 6).trans rfl
  have zH8_7 : w6.cell? ⟨gH3, 7, none⟩ = some (.int .i64 20) := (blk_cell BH7.out 7).trans rfl
  go_wp2_with fail
  refine (check_at true .nilIface 4 5 (some ⟨gB3, 0, none⟩) 3 3 [9223372036854775807, 1, 7] rfl 4 64 1024 16 20 _ high_good rfl (C_blk [9223372036854775807, 1, 7] BB7.out rfl (by simp)) (Nat.le_refl _)).mono ?_
  rintro e w9 ⟨rfl, hb9⟩
  clear zH8_0 zH8_1 zH8_2 zH8_3 zH8_4 zH8_5 zH8_6 zH8_7
  have HB10 := Aside0.mk (below_step HB7.out hb9)
  have BA10 : Aside0 (w9.heap[gA3]? = some (.cells #[.int .i64 1] 3 (0, 0))) := ⟨(hb9.block _ (blk_lt BA7.out)).trans BA7.out⟩
  have BL10 : Aside0 (w9.heap[gL3]? = some (.cells #[.int .i64 1, .int .i64 1, .slice (some ⟨gA3, 0, none⟩) 1 1, .int .i64 1, .int .i64 1, .int .i64 1, .int .i64 1, .int .i64 1] 24 (0, 0))) := ⟨(hb9.block _ (blk_lt BL7.out)).trans BL7.out⟩
  have BB10 : Aside0 (w9.heap[gB3]? = some (.cells #[.int .i64 9223372036854775807, .int .i64 1, .int .i64 7] 3 (0, 0))) := ⟨(hb9.block _ (blk_lt BB7.out)).trans BB7.out⟩
  have BH10 : Aside0 (w9.heap[gH3]? = some (.cells #[.int .i64 4, .int .i64 5, .slice (some ⟨gB3, 0, none⟩) 3 3, .int .i64 4, .int .i64 64, .int .i64 1024, .int .i64 16, .int .i64 20] 24 (0, 0))) := ⟨(hb9.block _ (blk_lt BH7.out)).trans BH7.out⟩
  clear hb9
  have zL11_0 : w9.cell? ⟨gL3, 0, none⟩ = some (.int .i64 1) := (blk_cell BL10.out 0).trans rfl
  have zL11_1 : w9.cell? ⟨gL3, 1, none⟩ = some (.int .i64 1) := (blk_cell BL10.out 1).trans rfl
  have zL11_2 : w9.cell? ⟨gL3, 2, none⟩ = some (.slice (some ⟨gA3, 0, none⟩) 1 1) := (blk_cell BL10.out 2).trans rfl
  have zL11_3 : w9.cell? ⟨gL3, 3, none⟩ = some (.int .i64 1) := (blk_cell BL10.out 3).trans rfl
  have zL11_4 : w9.cell? ⟨gL3, 4, none⟩ = some (.int .i64 1) := (blk_cell BL10.out 4).trans rfl
  have zL11_5 : w9.cell? ⟨gL3, 5, none⟩ = some (.int .i64 1) := (blk_cell BL10.out 5).trans rfl
  have zL11_6 : w9.cell? ⟨gL3, 6, none⟩ = some (.int .i64 1) := (blk_cell BL10.out 6).trans rfl
  have zL11_7 : w9.cell? ⟨gL3, 7, none⟩ = some (.int .i64 1) := (blk_cell BL10.out 7).trans rfl
  go_wp2_with fail
  refine (nodes_at true 5 1 1 (some ⟨gA3, 0, none⟩) 1 1 [1] rfl 1 1 1 1 1 _ low_good rfl (C_blk [1] BA10.out rfl (by simp)) (Nat.le_refl _)).mono ?_
  rintro e w12 ⟨rfl, hb12⟩
  clear zL11_0 zL11_1 zL11_2 zL11_3 zL11_4 zL11_5 zL11_6 zL11_7
  have HB13 := Aside0.mk (below_step HB10.out hb12)
  have BA13 : Aside0 (w12.heap[gA3]? = some (.cells #[.int .i64 1] 3 (0, 0))) := ⟨(hb12.block _ (blk_lt BA10.out)).trans BA10.out⟩
  have BL13 : Aside0 (w12.heap[gL3]? = some (.cells #[.int .i64 1, .int .i64 1, .slice (some ⟨gA3, 0, none⟩) 1 1, .int .i64 1, .int .i64 1, .int .i64 1, .int .i64 1, .int .i64 1] 24 (0, 0))) := ⟨(hb12.block _ (blk_lt BL10.out)).trans BL10.out⟩
  have BB13 : Aside0 (w12.heap[gB3]? = some (.cells #[.int .i64 9223372036854775807, .int .i64 1, .int .i64 7] 3 (0, 0))) := ⟨(hb12.block _ (blk_lt BB10.out)).trans BB10.out⟩
  have BH13 : Aside0 (w12.heap[gH3]? = some (.cells #[.int .i64 4, .int .i64 5, .slice (some ⟨gB3, 0, none⟩) 3 3, .int .i64 4, .int .i64 64, .int .i64 1024, .int .i64 16, .int .i64 20] 24 (0, 0))) := ⟨(hb12.block _ (blk_lt BH10.out)).trans BH10.out⟩
  clear hb12
  have zH14_0 : w12.cell? ⟨gH3, 0, none⟩ = some (.int .i64 4) := (blk_cell BH13.out 0).trans rfl
  have zH14_1 : w12.cell? ⟨gH3, 1, none⟩ = some (.int .i64 5) := (blk_cell BH13.out 1).trans rfl
  have zH14_2 : w12.cell? ⟨gH3, 2, none⟩ = some (.slice (some ⟨gB3, 0, none⟩) 3 3) := (blk_cell BH13.out 2).trans rfl
  have zH14_3 : w12.cell? ⟨gH3, 3, none⟩ = some (.int .i64 4) := (blk_cell BH13.out 3).trans rfl
  have zH14_4 : w12.cell? ⟨gH3, 4, none⟩ = some (.int .i64 64) := (blk_cell BH13.out 4).trans rfl
  have zH14_5 : w12.cell? ⟨gH3, 5, none⟩ = some (.int .i64 1024) := (blk_cell BH13.out 5).trans rfl
  have zH14_6 : w12.cell? ⟨gH3, 6, none⟩ = some (.int .i64 16) := (blk_cell BH13.out 6).trans rfl
  have zH14_7 : w12.cell? ⟨gH3, 7, none⟩ = some (.int .i64 20) := (blk_cell BH13.out 7).trans rfl
  go_wp2_with fail
  refine (nodes_at true 12 4 5 (some ⟨gB3, 0, none⟩) 3 3 [9223372036854775807, 1, 7] rfl 4 64 1024 16 20 _ high_good rfl (C_blk [9223372036854775807, 1, 7] BB13.out rfl (by simp)) (Nat.le_refl _)).mono ?_
  rintro e w15 ⟨rfl, hb15⟩
  clear zH14_0 zH14_1 zH14_2 zH14_3 zH14_4 zH14_5 zH14_6 zH14_7
  have HB16 := Aside0.mk (below_step HB13.out hb15)
  have BA16 : Aside0 (w15.heap[gA3]? = some (.cells #[.int .i64 1] 3 (0, 0))) := ⟨(hb15.block _ (blk_lt BA13.out)).trans BA13.out⟩
  have BL16 : Aside0 (w15.heap[gL3]? = some (.cells #[.int .i64 1, .int .i64 1, .slice (some ⟨gA3, 0, none⟩) 1 1, .int .i64 1, .int .i64 1, .int .i64 1, .int .i64 1, .int .i64 1] 24 (0, 0))) := ⟨(hb15.block _ (blk_lt BL13.out)).trans BL13.out⟩
  have BB16 : Aside0 (w15.heap[gB3]? = some (.cells #[.int .i64 9223372036854775807, .int .i64 1, .int .i64 7] 3 (0, 0))) := ⟨(hb15.block _ (blk_lt BB13.out)).trans BB13.out⟩
  have BH16 : Aside0 (w15.heap[gH3]? = some (.cells #[.int .i64 4, .int .i64 5, .slice (some ⟨gB3, 0, none⟩) 3 3, .int .i64 4, .int .i64 64, .int .i64 1024, .int .i64 16, .int .i64 20] 24 (0, 0))) := ⟨(hb15.block _ (blk_lt BH13.out)).trans BH13.out⟩
  clear hb15
  have zH17_0 : w15.cell? ⟨gH3, 0, none⟩ = some (.int .i64 4) := (blk_cell BH16.out 0).trans rfl
  have zH17_1 : w15.cell? ⟨gH3, 1, none⟩ = some (.int .i64 5) := (blk_cell BH16.out 1).trans rfl
  have zH17_2 : w15.cell? ⟨gH3, 2, none⟩ = some (.slice (some ⟨gB3, 0, none⟩) 3 3) := (blk_cell BH16.out 2).trans rfl
  have zH17_3 : w15.cell? ⟨gH3, 3, none⟩ = some (.int .i64 4) := (blk_cell BH16.out 3).trans rfl
  have zH17_4 : w15.cell? ⟨gH3, 4, none⟩ = some (.int .i64 64) := (blk_cell BH16.out 4).trans rfl
  have zH17_5 : w15.cell? ⟨gH3, 5, none⟩ = some (.int .i64 1024) := (blk_cell BH16.out 5).trans rfl
  have zH17_6 : w15.cell? ⟨gH3, 6, none⟩ = some (.int .i64 16) := (blk_cell BH16.out 6).trans rfl
  have zH17_7 : w15.cell? ⟨gH3, 7, none⟩ = some (.int .i64 20) := (blk_cell BH16.out 7).trans rfl
  go_wp2_with fail
  refine (lanes_at true 12 4 5 (some ⟨gB3, 0, none⟩) 3 3 [9223372036854775807, 1, 7] rfl 4 64 1024 16 20 _ high_good rfl (C_blk [9223372036854775807, 1, 7] BB16.out rfl (by simp)) (Nat.le_refl _)).mono ?_
  rintro e w18 ⟨rfl, hb18⟩
  clear zH17_0 zH17_1 zH17_2 zH17_3 zH17_4 zH17_5 zH17_6 zH17_7
  have HB19 := Aside0.mk (below_step HB16.out hb18)
  have BA19 : Aside0 (w18.heap[gA3]? = some (.cells #[.int .i64 1] 3 (0, 0))) := ⟨(hb18.block _ (blk_lt BA16.out)).trans BA16.out⟩
  have BL19 : Aside0 (w18.heap[gL3]? = some (.cells #[.int .i64 1, .int .i64 1, .slice (some ⟨gA3, 0, none⟩) 1 1, .int .i64 1, .int .i64 1, .int .i64 1, .int .i64 1, .int .i64 1] 24 (0, 0))) := ⟨(hb18.block _ (blk_lt BL16.out)).trans BL16.out⟩
  have BB19 : Aside0 (w18.heap[gB3]? = some (.cells #[.int .i64 9223372036854775807, .int .i64 1, .int .i64 7] 3 (0, 0))) := ⟨(hb18.block _ (blk_lt BB16.out)).trans BB16.out⟩
  have BH19 : Aside0 (w18.heap[gH3]? = some (.cells #[.int .i64 4, .int .i64 5, .slice (some ⟨gB3, 0, none⟩) 3 3, .int .i64 4, .int .i64 64, .int .i64 1024, .int .i64 16, .int .i64 20] 24 (0, 0))) := ⟨(hb18.block _ (blk_lt BH16.out)).trans BH16.out⟩
  clear hb18
  go_upto_region 8 with fail
  rw [HD.out]
  go_wp2_with fail
  obtain ⟨W21, hw21⟩ : ∃ x : World, x = w18.alloc (.cells #[.pointer (some ⟨gL3, 0, none⟩), .pointer (some ⟨gH3, 0, none⟩)] 35) := ⟨_, rfl⟩
  have hbs21 : Below w18.heap.size w18 W21 := by rw [hw21]; repeat (first | exact Below.refl _ _ | refine below_alloc ?_ _ | refine below_drew ?_)
  obtain ⟨gP21, hgP21⟩ : ∃ x, x = w18.heap.size := ⟨_, rfl⟩
  have GSP21 : Aside0 (w.heap.size ≤ gP21) := ⟨by rw [hgP21]; have := HB19.out.size; omega⟩
  have BP21 : Aside0 (W21.heap[gP21]? = some (.cells #[.pointer (some ⟨gL3, 0, none⟩), .pointer (some ⟨gH3, 0, none⟩)] 35 (0, 0))) := ⟨by rw [hw21, hgP21]; exact blk_new _ _⟩
  rw [← hw21]
  rw [← hgP21]
  clear hw21 hgP21
  have HB22 := Aside0.mk (below_step HB19.out hbs21)
  have BA22 : Aside0 (W21.heap[gA3]? = some (.cells #[.int .i64 1] 3 (0, 0))) := ⟨(hbs21.block _ (blk_lt BA19.out)).trans BA19.out⟩
  have BL22 : Aside0 (W21.heap[gL3]? = some (.cells #[.int .i64 1, .int .i64 1, .slice (some ⟨gA3, 0, none⟩) 1 1, .int .i64 1, .int .i64 1, .int .i64 1, .int .i64 1, .int .i64 1] 24 (0, 0))) := ⟨(hbs21.block _ (blk_lt BL19.out)).trans BL19.out⟩
  have BB22 : Aside0 (W21.heap[gB3]? = some (.cells #[.int .i64 9223372036854775807, .int .i64 1, .int .i64 7] 3 (0, 0))) := ⟨(hbs21.block _ (blk_lt BB19.out)).trans BB19.out⟩
  have BH22 : Aside0 (W21.heap[gH3]? = some (.cells #[.int .i64 4, .int .i64 5, .slice (some ⟨gB3, 0, none⟩) 3 3, .int .i64 4, .int .i64 64, .int .i64 1024, .int .i64 16, .int .i64 20] 24 (0, 0))) := ⟨(hbs21.block _ (blk_lt BH19.out)).trans BH19.out⟩
  clear hbs21
  have hneLH : gH3 ≠ gL3 := HNELH.out.symm
  have hneHL : gL3 ≠ gH3 := HNELH.out
  refine wp_loop_rounds 3 ?_
  rw [rounds_succ]
  have hm8 := HM.out
  have zL23_0 : W21.cell? ⟨gL3, 0, none⟩ = some (.int .i64 1) := (blk_cell BL22.out 0).trans rfl
  have zL23_1 : W21.cell? ⟨gL3, 1, none⟩ = some (.int .i64 1) := (blk_cell BL22.out 1).trans rfl
  have zL23_2 : W21.cell? ⟨gL3, 2, none⟩ = some (.slice (some ⟨gA3, 0, none⟩) 1 1) := (blk_cell BL22.out 2).trans rfl
  have zL23_3 : W21.cell? ⟨gL3, 3, none⟩ = some (.int .i64 1) := (blk_cell BL22.out 3).trans rfl
  have zL23_4 : W21.cell? ⟨gL3, 4, none⟩ = some (.int .i64 1) := (blk_cell BL22.out 4).trans rfl
  have zL23_5 : W21.cell? ⟨gL3, 5, none⟩ = some (.int .i64 1) := (blk_cell BL22.out 5).trans rfl
  have zL23_6 : W21.cell? ⟨gL3, 6, none⟩ = some (.int .i64 1) := (blk_cell BL22.out 6).trans rfl
  have zL23_7 : W21.cell? ⟨gL3, 7, none⟩ = some (.int .i64 1) := (blk_cell BL22.out 7).trans rfl
  have zP23_0 : W21.cell? ⟨gP21, 0, none⟩ = some (.pointer (some ⟨gL3, 0, none⟩)) := (blk_cell BP21.out 0).trans rfl
  have zP23_1 : W21.cell? ⟨gP21, 1, none⟩ = some (.pointer (some ⟨gH3, 0, none⟩)) := (blk_cell BP21.out 1).trans rfl
  have hfl := blk_frozen BL22.out 6
  go_upto_region 32 with fail
  clear hfl
  clear zL23_0 zL23_1 zL23_2 zL23_3 zL23_4 zL23_5 zL23_6 zL23_7 zP23_0 zP23_1
  obtain ⟨W24, hw24⟩ : ∃ x : World, x = (W21.setCell ⟨gL3, 6, none⟩ (.int .i64 (1 + -d))) := ⟨_, rfl⟩
  have HB24 : Aside0 (Below w.heap.size w W24) := ⟨by rw [hw24]; exact (below_set HB22.out GSL3.out)⟩
  have hgr24 : W21.grownBy W24 (some gL3) := by rw [hw24]; exact grown_set _ _ _ _
  have BL24 : Aside0 (W24.heap[gL3]? = some (.cells #[.int .i64 1, .int .i64 1, .slice (some ⟨gA3, 0, none⟩) 1 1, .int .i64 1, .int .i64 1, .int .i64 1, .int .i64 (1 + -d), .int .i64 1] 24 (0, 0))) := ⟨by rw [hw24]; refine blk_put (cs := #[.int .i64 1, .int .i64 1, .slice (some ⟨gA3, 0, none⟩) 1 1, .int .i64 1, .int .i64 1, .int .i64 1, .int .i64 1, .int .i64 1]) ?_ 6 _ rfl; exact BL22.out⟩
  have BA24 : Aside0 (W24.heap[gA3]? = some (.cells #[.int .i64 1] 3 (0, 0))) := ⟨blk_grown BA22.out hgr24 (fun e => (blk_ne BA22.out BL22.out (by decide)) (by injection e))⟩
  have BB24 : Aside0 (W24.heap[gB3]? = some (.cells #[.int .i64 9223372036854775807, .int .i64 1, .int .i64 7] 3 (0, 0))) := ⟨blk_grown BB22.out hgr24 (fun e => (blk_ne BB22.out BL22.out (by decide)) (by injection e))⟩
  have BH24 : Aside0 (W24.heap[gH3]? = some (.cells #[.int .i64 4, .int .i64 5, .slice (some ⟨gB3, 0, none⟩) 3 3, .int .i64 4, .int .i64 64, .int .i64 1024, .int .i64 16, .int .i64 20] 24 (0, 0))) := ⟨blk_grown BH22.out hgr24 (fun e => (hneLH) (by injection e))⟩
  have BP24 : Aside0 (W24.heap[gP21]? = some (.cells #[.pointer (some ⟨gL3, 0, none⟩), .pointer (some ⟨gH3, 0, none⟩)] 35 (0, 0))) := ⟨blk_grown BP21.out hgr24 (fun e => (blk_ne BP21.out BL22.out (by decide)) (by injection e))⟩
  rw [← hw24]
  clear hw24 hgr24
  have HBAD := Aside0.mk (show goodP 1 1 [1] 1 1 1 (1 + -d) 1 = false from bad_of (by rintro ⟨h1, h2, h3, h4, h5, h6, h7, h8, h9⟩; omega))
  have zL25_0 : W24.cell? ⟨gL3, 0, none⟩ = some (.int .i64 1) := (blk_cell BL24.out 0).trans rfl
  have zL25_1 : W24.cell? ⟨gL3, 1, none⟩ = some (.int .i64 1) := (blk_cell BL24.out 1).trans rfl
  have zL25_2 : W24.cell? ⟨gL3, 2, none⟩ = some (.slice (some ⟨gA3, 0, none⟩) 1 1) := (blk_cell BL24.out 2).trans rfl
  have zL25_3 : W24.cell? ⟨gL3, 3, none⟩ = some (.int .i64 1) := (blk_cell BL24.out 3).trans rfl
  have zL25_4 : W24.cell? ⟨gL3, 4, none⟩ = some (.int .i64 1) := (blk_cell BL24.out 4).trans rfl
  have zL25_5 : W24.cell? ⟨gL3, 5, none⟩ = some (.int .i64 1) := (blk_cell BL24.out 5).trans rfl
  have zL25_6 : W24.cell? ⟨gL3, 6, none⟩ = some (.int .i64 (1 + -d)) := (blk_cell BL24.out 6).trans rfl
  have zL25_7 : W24.cell? ⟨gL3, 7, none⟩ = some (.int .i64 1) := (blk_cell BL24.out 7).trans rfl
  go_wp2_with fail
  refine (check_at false (.iface 29 (.int .i64 14)) 1 1 (some ⟨gA3, 0, none⟩) 1 1 [1] rfl 1 1 1 (1 + -d) 1 _ HBAD.out rfl (C_blk [1] BA24.out rfl (by simp)) (by decide)).mono ?_
  rintro e w26 ⟨rfl, hb26⟩
  clear zL25_0 zL25_1 zL25_2 zL25_3 zL25_4 zL25_5 zL25_6 zL25_7
  have HB27 := Aside0.mk (below_step HB24.out hb26)
  have BA27 : Aside0 (w26.heap[gA3]? = some (.cells #[.int .i64 1] 3 (0, 0))) := ⟨(hb26.block _ (blk_lt BA24.out)).trans BA24.out⟩
  have BL27 : Aside0 (w26.heap[gL3]? = some (.cells #[.int .i64 1, .int .i64 1, .slice (some ⟨gA3, 0, none⟩) 1 1, .int .i64 1, .int .i64 1, .int .i64 1, .int .i64 (1 + -d), .int .i64 1] 24 (0, 0))) := ⟨(hb26.block _ (blk_lt BL24.out)).trans BL24.out⟩
  have BB27 : Aside0 (w26.heap[gB3]? = some (.cells #[.int .i64 9223372036854775807, .int .i64 1, .int .i64 7] 3 (0, 0))) := ⟨(hb26.block _ (blk_lt BB24.out)).trans BB24.out⟩
  have BH27 : Aside0 (w26.heap[gH3]? = some (.cells #[.int .i64 4, .int .i64 5, .slice (some ⟨gB3, 0, none⟩) 3 3, .int .i64 4, .int .i64 64, .int .i64 1024, .int .i64 16, .int .i64 20] 24 (0, 0))) := ⟨(hb26.block _ (blk_lt BH24.out)).trans BH24.out⟩
  have BP27 : Aside0 (w26.heap[gP21]? = some (.cells #[.pointer (some ⟨gL3, 0, none⟩), .pointer (some ⟨gH3, 0, none⟩)] 35 (0, 0))) := ⟨(hb26.block _ (blk_lt BP24.out)).trans BP24.out⟩
  clear hb26
  have zL28_0 : w26.cell? ⟨gL3, 0, none⟩ = some (.int .i64 1) := (blk_cell BL27.out 0).trans rfl
  have zL28_1 : w26.cell? ⟨gL3, 1, none⟩ = some (.int .i64 1) := (blk_cell BL27.out 1).trans rfl
  have zL28_2 : w26.cell? ⟨gL3, 2, none⟩ = some (.slice (some ⟨gA3, 0, none⟩) 1 1) := (blk_cell BL27.out 2).trans rfl
  have zL28_3 : w26.cell? ⟨gL3, 3, none⟩ = some (.int .i64 1) := (blk_cell BL27.out 3).trans rfl
  have zL28_4 : w26.cell? ⟨gL3, 4, none⟩ = some (.int .i64 1) := (blk_cell BL27.out 4).trans rfl
  have zL28_5 : w26.cell? ⟨gL3, 5, none⟩ = some (.int .i64 1) := (blk_cell BL27.out 5).trans rfl
  have zL28_6 : w26.cell? ⟨gL3, 6, none⟩ = some (.int .i64 (1 + -d)) := (blk_cell BL27.out 6).trans rfl
  have zL28_7 : w26.cell? ⟨gL3, 7, none⟩ = some (.int .i64 1) := (blk_cell BL27.out 7).trans rfl
  go_wp2_with fail
  refine (nodes_at false 0 1 1 (some ⟨gA3, 0, none⟩) 1 1 [1] rfl 1 1 1 (1 + -d) 1 _ HBAD.out rfl (C_blk [1] BA27.out rfl (by simp)) (by decide)).mono ?_
  rintro e w29 ⟨rfl, hb29⟩
  clear zL28_0 zL28_1 zL28_2 zL28_3 zL28_4 zL28_5 zL28_6 zL28_7
  have HB30 := Aside0.mk (below_step HB27.out hb29)
  have BA30 : Aside0 (w29.heap[gA3]? = some (.cells #[.int .i64 1] 3 (0, 0))) := ⟨(hb29.block _ (blk_lt BA27.out)).trans BA27.out⟩
  have BL30 : Aside0 (w29.heap[gL3]? = some (.cells #[.int .i64 1, .int .i64 1, .slice (some ⟨gA3, 0, none⟩) 1 1, .int .i64 1, .int .i64 1, .int .i64 1, .int .i64 (1 + -d), .int .i64 1] 24 (0, 0))) := ⟨(hb29.block _ (blk_lt BL27.out)).trans BL27.out⟩
  have BB30 : Aside0 (w29.heap[gB3]? = some (.cells #[.int .i64 9223372036854775807, .int .i64 1, .int .i64 7] 3 (0, 0))) := ⟨(hb29.block _ (blk_lt BB27.out)).trans BB27.out⟩
  have BH30 : Aside0 (w29.heap[gH3]? = some (.cells #[.int .i64 4, .int .i64 5, .slice (some ⟨gB3, 0, none⟩) 3 3, .int .i64 4, .int .i64 64, .int .i64 1024, .int .i64 16, .int .i64 20] 24 (0, 0))) := ⟨(hb29.block _ (blk_lt BH27.out)).trans BH27.out⟩
  have BP30 : Aside0 (w29.heap[gP21]? = some (.cells #[.pointer (some ⟨gL3, 0, none⟩), .pointer (some ⟨gH3, 0, none⟩)] 35 (0, 0))) := ⟨(hb29.block _ (blk_lt BP27.out)).trans BP27.out⟩
  clear hb29
  have zL31_0 : w29.cell? ⟨gL3, 0, none⟩ = some (.int .i64 1) := (blk_cell BL30.out 0).trans rfl
  have zL31_1 : w29.cell? ⟨gL3, 1, none⟩ = some (.int .i64 1) := (blk_cell BL30.out 1).trans rfl
  have zL31_2 : w29.cell? ⟨gL3, 2, none⟩ = some (.slice (some ⟨gA3, 0, none⟩) 1 1) := (blk_cell BL30.out 2).trans rfl
  have zL31_3 : w29.cell? ⟨gL3, 3, none⟩ = some (.int .i64 1) := (blk_cell BL30.out 3).trans rfl
  have zL31_4 : w29.cell? ⟨gL3, 4, none⟩ = some (.int .i64 1) := (blk_cell BL30.out 4).trans rfl
  have zL31_5 : w29.cell? ⟨gL3, 5, none⟩ = some (.int .i64 1) := (blk_cell BL30.out 5).trans rfl
  have zL31_6 : w29.cell? ⟨gL3, 6, none⟩ = some (.int .i64 (1 + -d)) := (blk_cell BL30.out 6).trans rfl
  have zL31_7 : w29.cell? ⟨gL3, 7, none⟩ = some (.int .i64 1) := (blk_cell BL30.out 7).trans rfl
  go_wp2_with fail
  refine (lanes_at false 0 1 1 (some ⟨gA3, 0, none⟩) 1 1 [1] rfl 1 1 1 (1 + -d) 1 _ HBAD.out rfl (C_blk [1] BA30.out rfl (by simp)) (by decide)).mono ?_
  rintro e w32 ⟨rfl, hb32⟩
  clear zL31_0 zL31_1 zL31_2 zL31_3 zL31_4 zL31_5 zL31_6 zL31_7
  have HB33 := Aside0.mk (below_step HB30.out hb32)
  have BA33 : Aside0 (w32.heap[gA3]? = some (.cells #[.int .i64 1] 3 (0, 0))) := ⟨(hb32.block _ (blk_lt BA30.out)).trans BA30.out⟩
  have BL33 : Aside0 (w32.heap[gL3]? = some (.cells #[.int .i64 1, .int .i64 1, .slice (some ⟨gA3, 0, none⟩) 1 1, .int .i64 1, .int .i64 1, .int .i64 1, .int .i64 (1 + -d), .int .i64 1] 24 (0, 0))) := ⟨(hb32.block _ (blk_lt BL30.out)).trans BL30.out⟩
  have BB33 : Aside0 (w32.heap[gB3]? = some (.cells #[.int .i64 9223372036854775807, .int .i64 1, .int .i64 7] 3 (0, 0))) := ⟨(hb32.block _ (blk_lt BB30.out)).trans BB30.out⟩
  have BH33 : Aside0 (w32.heap[gH3]? = some (.cells #[.int .i64 4, .int .i64 5, .slice (some ⟨gB3, 0, none⟩) 3 3, .int .i64 4, .int .i64 64, .int .i64 1024, .int .i64 16, .int .i64 20] 24 (0, 0))) := ⟨(hb32.block _ (blk_lt BH30.out)).trans BH30.out⟩
  have BP33 : Aside0 (w32.heap[gP21]? = some (.cells #[.pointer (some ⟨gL3, 0, none⟩), .pointer (some ⟨gH3, 0, none⟩)] 35 (0, 0))) := ⟨(hb32.block _ (blk_lt BP30.out)).trans BP30.out⟩
  clear hb32
  have zH34_0 : w32.cell? ⟨gH3, 0, none⟩ = some (.int .i64 4) := (blk_cell BH33.out 0).trans rfl
  have zH34_1 : w32.cell? ⟨gH3, 1, none⟩ = some (.int .i64 5) := (blk_cell BH33.out 1).trans rfl
  have zH34_2 : w32.cell? ⟨gH3, 2, none⟩ = some (.slice (some ⟨gB3, 0, none⟩) 3 3) := (blk_cell BH33.out 2).trans rfl
  have zH34_3 : w32.cell? ⟨gH3, 3, none⟩ = some (.int .i64 4) := (blk_cell BH33.out 3).trans rfl
  have zH34_4 : w32.cell? ⟨gH3, 4, none⟩ = some (.int .i64 64) := (blk_cell BH33.out 4).trans rfl
  have zH34_5 : w32.cell? ⟨gH3, 5, none⟩ = some (.int .i64 1024) := (blk_cell BH33.out 5).trans rfl
  have zH34_6 : w32.cell? ⟨gH3, 6, none⟩ = some (.int .i64 16) := (blk_cell BH33.out 6).trans rfl
  have zH34_7 : w32.cell? ⟨gH3, 7, none⟩ = some (.int .i64 20) := (blk_cell BH33.out 7).trans rfl
  have zP34_0 : w32.cell? ⟨gP21, 0, none⟩ = some (.pointer (some ⟨gL3, 0, none⟩)) := (blk_cell BP33.out 0).trans rfl
  have zP34_1 : w32.cell? ⟨gP21, 1, none⟩ = some (.pointer (some ⟨gH3, 0, none⟩)) := (blk_cell BP33.out 1).trans rfl
  go_wp2_with fail
  rw [rounds_succ]
  have hfh := blk_frozen BH33.out 6
  go_upto_region 32 with fail
  clear hfh
  clear zH34_0 zH34_1 zH34_2 zH34_3 zH34_4 zH34_5 zH34_6 zH34_7 zP34_0 zP34_1
  obtain ⟨W35, hw35⟩ : ∃ x : World, x = (w32.setCell ⟨gH3, 6, none⟩ (.int .i64 (16 + d))) := ⟨_, rfl⟩
  have HB35 : Aside0 (Below w.heap.size w W35) := ⟨by rw [hw35]; exact (below_set HB33.out GSH3.out)⟩
  have hgr35 : w32.grownBy W35 (some gH3) := by rw [hw35]; exact grown_set _ _ _ _
  have BH35 : Aside0 (W35.heap[gH3]? = some (.cells #[.int .i64 4, .int .i64 5, .slice (some ⟨gB3, 0, none⟩) 3 3, .int .i64 4, .int .i64 64, .int .i64 1024, .int .i64 (16 + d), .int .i64 20] 24 (0, 0))) := ⟨by rw [hw35]; refine blk_put (cs := #[.int .i64 4, .int .i64 5, .slice (some ⟨gB3, 0, none⟩) 3 3, .int .i64 4, .int .i64 64, .int .i64 1024, .int .i64 16, .int .i64 20]) ?_ 6 _ rfl; exact BH33.out⟩
  have BA35 : Aside0 (W35.heap[gA3]? = some (.cells #[.int .i64 1] 3 (0, 0))) := ⟨blk_grown BA33.out hgr35 (fun e => (blk_ne BA33.out BH33.out (by decide)) (by injection e))⟩
  have BL35 : Aside0 (W35.heap[gL3]? = some (.cells #[.int .i64 1, .int .i64 1, .slice (some ⟨gA3, 0, none⟩) 1 1, .int .i64 1, .int .i64 1, .int .i64 1, .int .i64 (1 + -d), .int .i64 1] 24 (0, 0))) := ⟨blk_grown BL33.out hgr35 (fun e => (hneHL) (by injection e))⟩
  have BB35 : Aside0 (W35.heap[gB3]? = some (.cells #[.int .i64 9223372036854775807, .int .i64 1, .int .i64 7] 3 (0, 0))) := ⟨blk_grown BB33.out hgr35 (fun e => (blk_ne BB33.out BH33.out (by decide)) (by injection e))⟩
  have BP35 : Aside0 (W35.heap[gP21]? = some (.cells #[.pointer (some ⟨gL3, 0, none⟩), .pointer (some ⟨gH3, 0, none⟩)] 35 (0, 0))) := ⟨blk_grown BP33.out hgr35 (fun e => (blk_ne BP33.out BH33.out (by decide)) (by injection e))⟩
  rw [← hw35]
  clear hw35 hgr35
  have HBAD := Aside0.mk (show goodP 4 5 [9223372036854775807, 1, 7] 4 64 1024 (16 + d) 20 = false from bad_of (by rintro ⟨h1, h2, h3, h4, h5, h6, h7, h8, h9⟩; omega))
  have zH36_0 : W35.cell? ⟨gH3, 0, none⟩ = some (.int .i64 4) := (blk_cell BH35.out 0).trans rfl
  have zH36_1 : W35.cell? ⟨gH3, 1, none⟩ = some (.int .i64 5) := (blk_cell BH35.out 1).trans rfl
  have zH36_2 : W35.cell? ⟨gH3, 2, none⟩ = some (.slice (some ⟨gB3, 0, none⟩) 3 3) := (blk_cell BH35.out 2).trans rfl
  have zH36_3 : W35.cell? ⟨gH3, 3, none⟩ = some (.int .i64 4) := (blk_cell BH35.out 3).trans rfl
  have zH36_4 : W35.cell? ⟨gH3, 4, none⟩ = some (.int .i64 64) := (blk_cell BH35.out 4).trans rfl
  have zH36_5 : W35.cell? ⟨gH3, 5, none⟩ = some (.int .i64 1024) := (blk_cell BH35.out 5).trans rfl
  have zH36_6 : W35.cell? ⟨gH3, 6, none⟩ = some (.int .i64 (16 + d)) := (blk_cell BH35.out 6).trans rfl
  have zH36_7 : W35.cell? ⟨gH3, 7, none⟩ = some (.int .i64 20) := (blk_cell BH35.out 7).trans rfl
  go_wp2_with fail
  refine (check_at false (.iface 29 (.int .i64 14)) 4 5 (some ⟨gB3, 0, none⟩) 3 3 [9223372036854775807, 1, 7] rfl 4 64 1024 (16 + d) 20 _ HBAD.out rfl (C_blk [9223372036854775807, 1, 7] BB35.out rfl (by simp)) (by decide)).mono ?_
  rintro e w37 ⟨rfl, hb37⟩
  clear zH36_0 zH36_1 zH36_2 zH36_3 zH36_4 zH36_5 zH36_6 zH36_7
  have HB38 := Aside0.mk (below_step HB35.out hb37)
  have BA38 : Aside0 (w37.heap[gA3]? = some (.cells #[.int .i64 1] 3 (0, 0))) := ⟨(hb37.block _ (blk_lt BA35.out)).trans BA35.out⟩
  have BL38 : Aside0 (w37.heap[gL3]? = some (.cells #[.int .i64 1, .int .i64 1, .slice (some ⟨gA3, 0, none⟩) 1 1, .int .i64 1, .int .i64 1, .int .i64 1, .int .i64 (1 + -d), .int .i64 1] 24 (0, 0))) := ⟨(hb37.block _ (blk_lt BL35.out)).trans BL35.out⟩
  have BB38 : Aside0 (w37.heap[gB3]? = some (.cells #[.int .i64 9223372036854775807, .int .i64 1, .int .i64 7] 3 (0, 0))) := ⟨(hb37.block _ (blk_lt BB35.out)).trans BB35.out⟩
  have BH38 : Aside0 (w37.heap[gH3]? = some (.cells #[.int .i64 4, .int .i64 5, .slice (some ⟨gB3, 0, none⟩) 3 3, .int .i64 4, .int .i64 64, .int .i64 1024, .int .i64 (16 + d), .int .i64 20] 24 (0, 0))) := ⟨(hb37.block _ (blk_lt BH35.out)).trans BH35.out⟩
  have BP38 : Aside0 (w37.heap[gP21]? = some (.cells #[.pointer (some ⟨gL3, 0, none⟩), .pointer (some ⟨gH3, 0, none⟩)] 35 (0, 0))) := ⟨(hb37.block _ (blk_lt BP35.out)).trans BP35.out⟩
  clear hb37
  have zH39_0 : w37.cell? ⟨gH3, 0, none⟩ = some (.int .i64 4) := (blk_cell BH38.out 0).trans rfl
  have zH39_1 : w37.cell? ⟨gH3, 1, none⟩ = some (.int .i64 5) := (blk_cell BH38.out 1).trans rfl
  have zH39_2 : w37.cell? ⟨gH3, 2, none⟩ = some (.slice (some ⟨gB3, 0, none⟩) 3 3) := (blk_cell BH38.out 2).trans rfl
  have zH39_3 : w37.cell? ⟨gH3, 3, none⟩ = some (.int .i64 4) := (blk_cell BH38.out 3).trans rfl
  have zH39_4 : w37.cell? ⟨gH3, 4, none⟩ = some (.int .i64 64) := (blk_cell BH38.out 4).trans rfl
  have zH39_5 : w37.cell? ⟨gH3, 5, none⟩ = some (.int .i64 1024) := (blk_cell BH38.out 5).trans rfl
  have zH39_6 : w37.cell? ⟨gH3, 6, none⟩ = some (.int .i64 (16 + d)) := (blk_cell BH38.out 6).trans rfl
  have zH39_7 : w37.cell? ⟨gH3, 7, none⟩ = some (.int .i64 20) := (blk_cell BH38.out 7).trans rfl
  go_wp2_with fail
  refine (nodes_at false 0 4 5 (some ⟨gB3, 0, none⟩) 3 3 [9223372036854775807, 1, 7] rfl 4 64 1024 (16 + d) 20 _ HBAD.out rfl (C_blk [9223372036854775807, 1, 7] BB38.out rfl (by simp)) (by decide)).mono ?_
  rintro e w40 ⟨rfl, hb40⟩
  clear zH39_0 zH39_1 zH39_2 zH39_3 zH39_4 zH39_5 zH39_6 zH39_7
  have HB41 := Aside0.mk (below_step HB38.out hb40)
  have BA41 : Aside0 (w40.heap[gA3]? = some (.cells #[.int .i64 1] 3 (0, 0))) := ⟨(hb40.block _ (blk_lt BA38.out)).trans BA38.out⟩
  have BL41 : Aside0 (w40.heap[gL3]? = some (.cells #[.int .i64 1, .int .i64 1, .slice (some ⟨gA3, 0, none⟩) 1 1, .int .i64 1, .int .i64 1, .int .i64 1, .int .i64 (1 + -d), .int .i64 1] 24 (0, 0))) := ⟨(hb40.block _ (blk_lt BL38.out)).trans BL38.out⟩
  have BB41 : Aside0 (w40.heap[gB3]? = some (.cells #[.int .i64 9223372036854775807, .int .i64 1, .int .i64 7] 3 (0, 0))) := ⟨(hb40.block _ (blk_lt BB38.out)).trans BB38.out⟩
  have BH41 : Aside0 (w40.heap[gH3]? = some (.cells #[.int .i64 4, .int .i64 5, .slice (some ⟨gB3, 0, none⟩) 3 3, .int .i64 4, .int .i64 64, .int .i64 1024, .int .i64 (16 + d), .int .i64 20] 24 (0, 0))) := ⟨(hb40.block _ (blk_lt BH38.out)).trans BH38.out⟩
  have BP41 : Aside0 (w40.heap[gP21]? = some (.cells #[.pointer (some ⟨gL3, 0, none⟩), .pointer (some ⟨gH3, 0, none⟩)] 35 (0, 0))) := ⟨(hb40.block _ (blk_lt BP38.out)).trans BP38.out⟩
  clear hb40
  have zH42_0 : w40.cell? ⟨gH3, 0, none⟩ = some (.int .i64 4) := (blk_cell BH41.out 0).trans rfl
  have zH42_1 : w40.cell? ⟨gH3, 1, none⟩ = some (.int .i64 5) := (blk_cell BH41.out 1).trans rfl
  have zH42_2 : w40.cell? ⟨gH3, 2, none⟩ = some (.slice (some ⟨gB3, 0, none⟩) 3 3) := (blk_cell BH41.out 2).trans rfl
  have zH42_3 : w40.cell? ⟨gH3, 3, none⟩ = some (.int .i64 4) := (blk_cell BH41.out 3).trans rfl
  have zH42_4 : w40.cell? ⟨gH3, 4, none⟩ = some (.int .i64 64) := (blk_cell BH41.out 4).trans rfl
  have zH42_5 : w40.cell? ⟨gH3, 5, none⟩ = some (.int .i64 1024) := (blk_cell BH41.out 5).trans rfl
  have zH42_6 : w40.cell? ⟨gH3, 6, none⟩ = some (.int .i64 (16 + d)) := (blk_cell BH41.out 6).trans rfl
  have zH42_7 : w40.cell? ⟨gH3, 7, none⟩ = some (.int .i64 20) := (blk_cell BH41.out 7).trans rfl
  go_wp2_with fail
  refine (lanes_at false 0 4 5 (some ⟨gB3, 0, none⟩) 3 3 [9223372036854775807, 1, 7] rfl 4 64 1024 (16 + d) 20 _ HBAD.out rfl (C_blk [9223372036854775807, 1, 7] BB41.out rfl (by simp)) (by decide)).mono ?_
  rintro e w43 ⟨rfl, hb43⟩
  clear zH42_0 zH42_1 zH42_2 zH42_3 zH42_4 zH42_5 zH42_6 zH42_7
  have HB44 := Aside0.mk (below_step HB41.out hb43)
  have BA44 : Aside0 (w43.heap[gA3]? = some (.cells #[.int .i64 1] 3 (0, 0))) := ⟨(hb43.block _ (blk_lt BA41.out)).trans BA41.out⟩
  have BL44 : Aside0 (w43.heap[gL3]? = some (.cells #[.int .i64 1, .int .i64 1, .slice (some ⟨gA3, 0, none⟩) 1 1, .int .i64 1, .int .i64 1, .int .i64 1, .int .i64 (1 + -d), .int .i64 1] 24 (0, 0))) := ⟨(hb43.block _ (blk_lt BL41.out)).trans BL41.out⟩
  have BB44 : Aside0 (w43.heap[gB3]? = some (.cells #[.int .i64 9223372036854775807, .int .i64 1, .int .i64 7] 3 (0, 0))) := ⟨(hb43.block _ (blk_lt BB41.out)).trans BB41.out⟩
  have BH44 : Aside0 (w43.heap[gH3]? = some (.cells #[.int .i64 4, .int .i64 5, .slice (some ⟨gB3, 0, none⟩) 3 3, .int .i64 4, .int .i64 64, .int .i64 1024, .int .i64 (16 + d), .int .i64 20] 24 (0, 0))) := ⟨(hb43.block _ (blk_lt BH41.out)).trans BH41.out⟩
  have BP44 : Aside0 (w43.heap[gP21]? = some (.cells #[.pointer (some ⟨gL3, 0, none⟩), .pointer (some ⟨gH3, 0, none⟩)] 35 (0, 0))) := ⟨(hb43.block _ (blk_lt BP41.out)).trans BP41.out⟩
  clear hb43
  go_wp2_with fail
  rw [rounds_succ]
  go_wp2_with fail
  go_ret
  exact ⟨rfl, HB44.out⟩
end Go.Proofs.Ytdaapjkfkfaflaa.MAll

/- PlanChecks: the walk. -/
import Derived.Test.YtdaapjkfkfaflaaPv
import Derived.Test.YtdaapjkfkfaflaaKit
import Derived.Test.YtdaapjkfkfaflaaErr
import Derived.Deep.RegionHeld3
import Derived.Deep.RegionWith
import Derived.Deep.DrawnRows
set_option linter.unusedVariables false
set_option linter.unusedSimpArgs false
namespace Go.Proofs.Ytdaapjkfkfaflaa.MAll
open Go.RowKit Go.Proofs.YtdaapjkfkfaflaaW.PrintWords Go.Proofs.YtdaapjkfkfaflaaW.PrintLast Go.Proofs.YtdaapjkfkfaflaaW.PrintMore
attribute [local go_sem ↓] Go.wp_at_zero Go.wp_at_succ

theorem errT : errW (if true = true then none else some 14) = .nilIface := rfl
theorem errF : errW (if false = true then none else some 14) = .iface 29 (.int .i64 14) := rfl
set_option maxHeartbeats 6000000 in
set_option maxRecDepth 100000 in
theorem checks_any (s k : Int) (A : Option Addr) (ca : Nat) (l : List Int) (sh h c b le : Int) (w : World) (hr : (Kd.int .i64).C w A l.length l) (hc : l.length ≤ ca) (hl : l.length < 17592186044416) :
    Calls Try.prog 3 #[.agg (planCells s k A l.length ca sh h c b le)] w fun e w' => e = .returned (.bool true) ∧ Below w.heap.size w w' := by
  have HR := Aside0.mk hr
  have HL := Aside0.mk hl
  clear hr hl
  have hu24 := Try.underlying24
  obtain ⟨g, hg⟩ : ∃ g, goodP s k l sh h c b le = g := ⟨_, rfl⟩
  have HG := Aside0.mk hg
  obtain ⟨gc, hgc⟩ : ∃ gc, gc = w.heap.size := ⟨_, rfl⟩
  have hbox : Aside0 ((w.alloc (.cells (planCells s k A l.length ca sh h c b le) 24)).heap[gc]? = some (.cells (planCells s k A l.length ca sh h c b le) 24 (0, 0))) := ⟨by rw [hgc]; exact blk_new w _⟩
  have HBX := Aside0.mk (below_alloc (Below.refl _ w) (.cells (planCells s k A l.length ca sh h c b le) 24))
  have HGC := Aside0.mk hgc
  clear hgc hg
  have hu27 := Try.underlying27
  have hu29 := Try.underlying29
  by_cases h1 : l.length ≤ 1000
  · have h1b : decide (1000 < (l.length : Int)) = false := decide_eq_false (by omega)
    cases g
    · have tok : True := trivial
      have eE := Err.eqE
      have eN := Err.eqN
      go_enter Try.func3, Try.ntmps3
      go_upto_region 11 with (first
        | (go_at_call 8; refine (alive_any _).mono ?_; rintro e w1 ⟨rfl, hb1⟩; have HB := Aside0.mk (below_step HBX.out hb1); have BKC := Aside0.mk ((hb1.block _ (blk_lt hbox.out)).trans hbox.out); rw [← HGC.out]; have HX0 := Aside0.mk (Kd.C_below HR.out HB.out); have z0 : w1.cell? ⟨gc, 0, none⟩ = some (.int .i64 s) := (blk_cell BKC.out 0).trans rfl; have z1 : w1.cell? ⟨gc, 1, none⟩ = some (.int .i64 k) := (blk_cell BKC.out 1).trans rfl; have z2 : w1.cell? ⟨gc, 2, none⟩ = some (.slice A l.length ca) := (blk_cell BKC.out 2).trans rfl; have z3 : w1.cell? ⟨gc, 3, none⟩ = some (.int .i64 sh) := (blk_cell BKC.out 3).trans rfl; have z4 : w1.cell? ⟨gc, 4, none⟩ = some (.int .i64 h) := (blk_cell BKC.out 4).trans rfl; have z5 : w1.cell? ⟨gc, 5, none⟩ = some (.int .i64 c) := (blk_cell BKC.out 5).trans rfl; have z6 : w1.cell? ⟨gc, 6, none⟩ = some (.int .i64 b) := (blk_cell BKC.out 6).trans rfl; have z7 : w1.cell? ⟨gc, 7, none⟩ = some (.int .i64 le) := (blk_cell BKC.out 7).trans rfl; have y2 : ∀ o, (w1.alloc o).cell? ⟨gc, 2, none⟩ = some (.slice A l.length ca) := fun o => (blk_cell (blk_alloc BKC.out o) 2).trans rfl; clear hb1)
        | ((with_reducible refine gate_builtin (b := .append) (xs := #[.tmp 17, .tmp 19]) rfl ?_)
           at_builtin
           refine Kd.R_append_rows (Kd.int .i64) (w0 := w1) w1.heap.size rfl (.tmp 17) (.tmp 19) 22 3 (.int .i64 0) 8 rfl Try.underlying22 info3 rfl (by decide) (by omega) (.slice (some ⟨w1.heap.size, 0, none⟩) 0 0) [] l _ _ _ (fun _ => True) (fun _ => False) rfl rfl ?aO ?aR (fun _ _ h => h) (fun _ h => h.elim) (fun _ _ => trivial) ?aB ?aS ?aL ?_
           case aO => exact Kit.R_lits w1 3 [] (by simp) _ rfl
           case aR => exact Kd.C_alloc HX0.out _
           case aB => exact below_alloc (Below.refl _ _) _
           case aS => simp
           case aL => simp; omega
           intro v2 w2 ho hb hg hat
           rw [List.nil_append] at ho
           obtain ⟨A2, c2, rfl⟩ := Kd.R_slice ho
           have HO2 := Aside0.mk (Kd.R_reads' ho)
           have HB2 := Aside0.mk hb
           have BK2 : Aside0 (w2.heap[gc]? = some (.cells (planCells s k A l.length ca sh h c b le) 24 (0, 0))) := ⟨(hb.block _ (blk_lt BKC.out)).trans BKC.out⟩
           have x0 : w2.cell? ⟨gc, 0, none⟩ = some (.int .i64 s) := (blk_cell BK2.out 0).trans rfl; have x1 : w2.cell? ⟨gc, 1, none⟩ = some (.int .i64 k) := (blk_cell BK2.out 1).trans rfl; have x2 : w2.cell? ⟨gc, 2, none⟩ = some (.slice A l.length ca) := (blk_cell BK2.out 2).trans rfl; have x3 : w2.cell? ⟨gc, 3, none⟩ = some (.int .i64 sh) := (blk_cell BK2.out 3).trans rfl; have x4 : w2.cell? ⟨gc, 4, none⟩ = some (.int .i64 h) := (blk_cell BK2.out 4).trans rfl; have x5 : w2.cell? ⟨gc, 5, none⟩ = some (.int .i64 c) := (blk_cell BK2.out 5).trans rfl; have x6 : w2.cell? ⟨gc, 6, none⟩ = some (.int .i64 b) := (blk_cell BK2.out 6).trans rfl; have x7 : w2.cell? ⟨gc, 7, none⟩ = some (.int .i64 le) := (blk_cell BK2.out 7).trans rfl
           clear ho hb hg hat z0 z1 z2 z3 z4 z5 z6 z7 y2)
        | (go_at_call 9; refine (check_v false s k A ca l sh h c b le _ HG.out (Kd.C_below HX0.out HB2.out) hc).mono ?_; rintro e w3 ⟨rfl, hb3⟩; rw [errF]; have HB3 := Aside0.mk (below_step HB2.out hb3); have HC3 := Aside0.mk (Kd.C_below HO2.out.2.2 hb3); have BK3 := Aside0.mk ((hb3.block _ (blk_lt BK2.out)).trans BK2.out); have q0 : w3.cell? ⟨gc, 0, none⟩ = some (.int .i64 s) := (blk_cell BK3.out 0).trans rfl; have q1 : w3.cell? ⟨gc, 1, none⟩ = some (.int .i64 k) := (blk_cell BK3.out 1).trans rfl; have q2 : w3.cell? ⟨gc, 2, none⟩ = some (.slice A l.length ca) := (blk_cell BK3.out 2).trans rfl; have q3 : w3.cell? ⟨gc, 3, none⟩ = some (.int .i64 sh) := (blk_cell BK3.out 3).trans rfl; have q4 : w3.cell? ⟨gc, 4, none⟩ = some (.int .i64 h) := (blk_cell BK3.out 4).trans rfl; have q5 : w3.cell? ⟨gc, 5, none⟩ = some (.int .i64 c) := (blk_cell BK3.out 5).trans rfl; have q6 : w3.cell? ⟨gc, 6, none⟩ = some (.int .i64 b) := (blk_cell BK3.out 6).trans rfl; have q7 : w3.cell? ⟨gc, 7, none⟩ = some (.int .i64 le) := (blk_cell BK3.out 7).trans rfl; clear hb3 x0 x1 x2 x3 x4 x5 x6 x7)
        | (go_at_call 10; refine (refgood_v false s k A ca l sh h c b le _ HG.out (Kd.C_below HX0.out HB3.out) hc).mono ?_; rintro e w4 ⟨rfl, hb4⟩; have HB4 := Aside0.mk (below_step HB3.out hb4); have HC4 := Aside0.mk (Kd.C_below HC3.out hb4); have HX4 := Aside0.mk (Kd.C_below HX0.out HB4.out); have BK4 := Aside0.mk ((hb4.block _ (blk_lt BK3.out)).trans BK3.out); have z0 : w4.cell? ⟨gc, 0, none⟩ = some (.int .i64 s) := (blk_cell BK4.out 0).trans rfl; have z1 : w4.cell? ⟨gc, 1, none⟩ = some (.int .i64 k) := (blk_cell BK4.out 1).trans rfl; have z2 : w4.cell? ⟨gc, 2, none⟩ = some (.slice A l.length ca) := (blk_cell BK4.out 2).trans rfl; have z3 : w4.cell? ⟨gc, 3, none⟩ = some (.int .i64 sh) := (blk_cell BK4.out 3).trans rfl; have z4 : w4.cell? ⟨gc, 4, none⟩ = some (.int .i64 h) := (blk_cell BK4.out 4).trans rfl; have z5 : w4.cell? ⟨gc, 5, none⟩ = some (.int .i64 c) := (blk_cell BK4.out 5).trans rfl; have z6 : w4.cell? ⟨gc, 6, none⟩ = some (.int .i64 b) := (blk_cell BK4.out 6).trans rfl; have z7 : w4.cell? ⟨gc, 7, none⟩ = some (.int .i64 le) := (blk_cell BK4.out 7).trans rfl; clear hb4 q0 q1 q2 q3 q4 q5 q6 q7))
      go_region_held3 (fun w' => w'.cell? ⟨gc, 0, none⟩ = some (.int .i64 s) ∧ w'.cell? ⟨gc, 1, none⟩ = some (.int .i64 k) ∧ w'.cell? ⟨gc, 2, none⟩ = some (.slice A l.length ca) ∧ w'.cell? ⟨gc, 3, none⟩ = some (.int .i64 sh) ∧ w'.cell? ⟨gc, 4, none⟩ = some (.int .i64 h) ∧ w'.cell? ⟨gc, 5, none⟩ = some (.int .i64 c) ∧ w'.cell? ⟨gc, 6, none⟩ = some (.int .i64 b) ∧ w'.cell? ⟨gc, 7, none⟩ = some (.int .i64 le)) (go_keep)
        (first
          | (go_at_call 11; refine (lanes_v false s k A ca l sh h c b le _ HG.out (by repeat (first | exact HX4.out | apply Kd.C_alloc | apply Kd.C_drew | apply Kd.C_drewN)) hc).mono ?_; rintro e w5 ⟨rfl, hb5⟩; have HB5 := Aside0.mk (below_step (w := w4) (by repeat (first | exact Below.refl _ _ | apply below_alloc | apply below_drew | apply pw_below_drewN)) hb5); have u0 : w5.cell? ⟨gc, 0, none⟩ = some (.int .i64 s) := pw_cell_below HB5.out z0; have u1 : w5.cell? ⟨gc, 1, none⟩ = some (.int .i64 k) := pw_cell_below HB5.out z1; have u2 : w5.cell? ⟨gc, 2, none⟩ = some (.slice A l.length ca) := pw_cell_below HB5.out z2; have u3 : w5.cell? ⟨gc, 3, none⟩ = some (.int .i64 sh) := pw_cell_below HB5.out z3; have u4 : w5.cell? ⟨gc, 4, none⟩ = some (.int .i64 h) := pw_cell_below HB5.out z4; have u5 : w5.cell? ⟨gc, 5, none⟩ = some (.int .i64 c) := pw_cell_below HB5.out z5; have u6 : w5.cell? ⟨gc, 6, none⟩ = some (.int .i64 b) := pw_cell_below HB5.out z6; have u7 : w5.cell? ⟨gc, 7, none⟩ = some (.int .i64 le) := pw_cell_below HB5.out z7; clear hb5)
          | (go_at_call 12; refine (nodes_v false s k A ca l sh h c b le _ HG.out (by repeat (first | exact Kd.C_below HX4.out HB5.out | apply Kd.C_alloc | apply Kd.C_drew | apply Kd.C_drewN)) hc).mono ?_; rintro e w6 ⟨rfl, hb6⟩; have HB6 := Aside0.mk (below_step (w := w4) (by repeat (first | exact HB5.out | apply below_alloc | apply below_drew | apply pw_below_drewN)) hb6); have v0 : w6.cell? ⟨gc, 0, none⟩ = some (.int .i64 s) := pw_cell_below HB6.out z0; have v1 : w6.cell? ⟨gc, 1, none⟩ = some (.int .i64 k) := pw_cell_below HB6.out z1; have v2 : w6.cell? ⟨gc, 2, none⟩ = some (.slice A l.length ca) := pw_cell_below HB6.out z2; have v3 : w6.cell? ⟨gc, 3, none⟩ = some (.int .i64 sh) := pw_cell_below HB6.out z3; have v4 : w6.cell? ⟨gc, 4, none⟩ = some (.int .i64 h) := pw_cell_below HB6.out z4; have v5 : w6.cell? ⟨gc, 5, none⟩ = some (.int .i64 c) := pw_cell_below HB6.out z5; have v6 : w6.cell? ⟨gc, 6, none⟩ = some (.int .i64 b) := pw_cell_below HB6.out z6; have v7 : w6.cell? ⟨gc, 7, none⟩ = some (.int .i64 le) := pw_cell_below HB6.out z7; clear hb6)
          | (go_at_call 13; refine (refroles_v false s k A ca l sh h c b le _ HG.out (by repeat (first | exact Kd.C_below HX4.out HB6.out | apply Kd.C_alloc | apply Kd.C_drew | apply Kd.C_drewN)) hc).mono ?_; rintro e w7 ⟨ur, rfl, hR7, hb7⟩; have HB7 := Aside0.mk (below_step (w := w4) (by repeat (first | exact HB6.out | apply below_alloc | apply below_drew | apply pw_below_drewN)) hb7); obtain ⟨Ar, cr, rfl⟩ := Kd.R_slice hR7; have t0 : w7.cell? ⟨gc, 0, none⟩ = some (.int .i64 s) := pw_cell_below HB7.out z0; have t1 : w7.cell? ⟨gc, 1, none⟩ = some (.int .i64 k) := pw_cell_below HB7.out z1; have t2 : w7.cell? ⟨gc, 2, none⟩ = some (.slice A l.length ca) := pw_cell_below HB7.out z2; have t3 : w7.cell? ⟨gc, 3, none⟩ = some (.int .i64 sh) := pw_cell_below HB7.out z3; have t4 : w7.cell? ⟨gc, 4, none⟩ = some (.int .i64 h) := pw_cell_below HB7.out z4; have t5 : w7.cell? ⟨gc, 5, none⟩ = some (.int .i64 c) := pw_cell_below HB7.out z5; have t6 : w7.cell? ⟨gc, 6, none⟩ = some (.int .i64 b) := pw_cell_below HB7.out z6; have t7 : w7.cell? ⟨gc, 7, none⟩ = some (.int .i64 le) := pw_cell_below HB7.out z7; clear hR7 hb7)
          | (go_at_call 14; refine (ints_v true A ca l A2 c2 l _ (decide_eq_true rfl) (by repeat (first | exact Kd.C_below HX4.out HB7.out | apply Kd.C_alloc | apply Kd.C_drew | apply Kd.C_drewN)) hc (by repeat (first | exact Kd.C_below HC4.out HB7.out | apply Kd.C_alloc | apply Kd.C_drew | apply Kd.C_drewN)) HO2.out.2.1 (by omega)).mono ?_; rintro e w8 ⟨rfl, hb8⟩; have HB8 := Aside0.mk (below_step (w := w4) (by repeat (first | exact HB7.out | apply below_alloc | apply below_drew | apply pw_below_drewN)) hb8); have x0 : w8.cell? ⟨gc, 0, none⟩ = some (.int .i64 s) := pw_cell_below HB8.out z0; have x1 : w8.cell? ⟨gc, 1, none⟩ = some (.int .i64 k) := pw_cell_below HB8.out z1; have x2 : w8.cell? ⟨gc, 2, none⟩ = some (.slice A l.length ca) := pw_cell_below HB8.out z2; have x3 : w8.cell? ⟨gc, 3, none⟩ = some (.int .i64 sh) := pw_cell_below HB8.out z3; have x4 : w8.cell? ⟨gc, 4, none⟩ = some (.int .i64 h) := pw_cell_below HB8.out z4; have x5 : w8.cell? ⟨gc, 5, none⟩ = some (.int .i64 c) := pw_cell_below HB8.out z5; have x6 : w8.cell? ⟨gc, 6, none⟩ = some (.int .i64 b) := pw_cell_below HB8.out z6; have x7 : w8.cell? ⟨gc, 7, none⟩ = some (.int .i64 le) := pw_cell_below HB8.out z7; clear hb8))
      all_goals (go_wp2_with fail; go_ret; exact ⟨rfl, below_step HB.out (below_step (by repeat (first | exact below_step HB4.out HB8.out | apply below_drew)) (Below.refl _ _))⟩)

    · have tok : True := trivial
      have eE := Err.eqE
      have eN := Err.eqN
      have hwl : wrap64 ((l.length : Int) * sh) = (l.length : Int) * sh := by
        obtain ⟨_, _, hl, _, hsh, _⟩ := good_iff.1 HG.out
        have hn' : sh = 1 ∨ sh = 2 ∨ sh = 3 ∨ sh = 4 := by omega
        unfold wrap64
        rcases hn' with rfl | rfl | rfl | rfl <;> omega
      have EN : (if true = true then s + 2 + k + 1 else 0) = ((rolesL s k).length : Int) := by
        have h1 := (roles_len s k (good_small HG.out)).1
        have h2 := good_small HG.out
        unfold small at h2
        rw [if_pos rfl]
        omega
      have NV : ∀ W, (Kd.int .i64).C W A l.length l → Calls Try.prog 12 #[.agg (planCells s k A l.length ca sh h c b le)] W fun e w' => e = .returned (.int .i64 (rolesL s k).length) ∧ Below W.heap.size W w' := fun W hW => by
        rw [← EN]
        exact nodes_v true s k A ca l sh h c b le W HG.out hW hc
      clear EN
      go_enter Try.func3, Try.ntmps3
      go_upto_region 11 with (first
        | (go_at_call 8; refine (alive_any _).mono ?_; rintro e w1 ⟨rfl, hb1⟩; have HB := Aside0.mk (below_step HBX.out hb1); have BKC := Aside0.mk ((hb1.block _ (blk_lt hbox.out)).trans hbox.out); rw [← HGC.out]; have HX0 := Aside0.mk (Kd.C_below HR.out HB.out); have z0 : w1.cell? ⟨gc, 0, none⟩ = some (.int .i64 s) := (blk_cell BKC.out 0).trans rfl; have z1 : w1.cell? ⟨gc, 1, none⟩ = some (.int .i64 k) := (blk_cell BKC.out 1).trans rfl; have z2 : w1.cell? ⟨gc, 2, none⟩ = some (.slice A l.length ca) := (blk_cell BKC.out 2).trans rfl; have z3 : w1.cell? ⟨gc, 3, none⟩ = some (.int .i64 sh) := (blk_cell BKC.out 3).trans rfl; have z4 : w1.cell? ⟨gc, 4, none⟩ = some (.int .i64 h) := (blk_cell BKC.out 4).trans rfl; have z5 : w1.cell? ⟨gc, 5, none⟩ = some (.int .i64 c) := (blk_cell BKC.out 5).trans rfl; have z6 : w1.cell? ⟨gc, 6, none⟩ = some (.int .i64 b) := (blk_cell BKC.out 6).trans rfl; have z7 : w1.cell? ⟨gc, 7, none⟩ = some (.int .i64 le) := (blk_cell BKC.out 7).trans rfl; have y2 : ∀ o, (w1.alloc o).cell? ⟨gc, 2, none⟩ = some (.slice A l.length ca) := fun o => (blk_cell (blk_alloc BKC.out o) 2).trans rfl; clear hb1)
        | ((with_reducible refine gate_builtin (b := .append) (xs := #[.tmp 17, .tmp 19]) rfl ?_)
           at_builtin
           refine Kd.R_append_rows (Kd.int .i64) (w0 := w1) w1.heap.size rfl (.tmp 17) (.tmp 19) 22 3 (.int .i64 0) 8 rfl Try.underlying22 info3 rfl (by decide) (by omega) (.slice (some ⟨w1.heap.size, 0, none⟩) 0 0) [] l _ _ _ (fun _ => True) (fun _ => False) rfl rfl ?aO ?aR (fun _ _ h => h) (fun _ h => h.elim) (fun _ _ => trivial) ?aB ?aS ?aL ?_
           case aO => exact Kit.R_lits w1 3 [] (by simp) _ rfl
           case aR => exact Kd.C_alloc HX0.out _
           case aB => exact below_alloc (Below.refl _ _) _
           case aS => simp
           case aL => simp; omega
           intro v2 w2 ho hb hg hat
           rw [List.nil_append] at ho
           obtain ⟨A2, c2, rfl⟩ := Kd.R_slice ho
           have HO2 := Aside0.mk (Kd.R_reads' ho)
           have HB2 := Aside0.mk hb
           have BK2 : Aside0 (w2.heap[gc]? = some (.cells (planCells s k A l.length ca sh h c b le) 24 (0, 0))) := ⟨(hb.block _ (blk_lt BKC.out)).trans BKC.out⟩
           have x0 : w2.cell? ⟨gc, 0, none⟩ = some (.int .i64 s) := (blk_cell BK2.out 0).trans rfl; have x1 : w2.cell? ⟨gc, 1, none⟩ = some (.int .i64 k) := (blk_cell BK2.out 1).trans rfl; have x2 : w2.cell? ⟨gc, 2, none⟩ = some (.slice A l.length ca) := (blk_cell BK2.out 2).trans rfl; have x3 : w2.cell? ⟨gc, 3, none⟩ = some (.int .i64 sh) := (blk_cell BK2.out 3).trans rfl; have x4 : w2.cell? ⟨gc, 4, none⟩ = some (.int .i64 h) := (blk_cell BK2.out 4).trans rfl; have x5 : w2.cell? ⟨gc, 5, none⟩ = some (.int .i64 c) := (blk_cell BK2.out 5).trans rfl; have x6 : w2.cell? ⟨gc, 6, none⟩ = some (.int .i64 b) := (blk_cell BK2.out 6).trans rfl; have x7 : w2.cell? ⟨gc, 7, none⟩ = some (.int .i64 le) := (blk_cell BK2.out 7).trans rfl
           clear ho hb hg hat z0 z1 z2 z3 z4 z5 z6 z7 y2)
        | (go_at_call 9; refine (check_v true s k A ca l sh h c b le _ HG.out (Kd.C_below HX0.out HB2.out) hc).mono ?_; rintro e w3 ⟨rfl, hb3⟩; rw [errT]; have HB3 := Aside0.mk (below_step HB2.out hb3); have HC3 := Aside0.mk (Kd.C_below HO2.out.2.2 hb3); have BK3 := Aside0.mk ((hb3.block _ (blk_lt BK2.out)).trans BK2.out); have q0 : w3.cell? ⟨gc, 0, none⟩ = some (.int .i64 s) := (blk_cell BK3.out 0).trans rfl; have q1 : w3.cell? ⟨gc, 1, none⟩ = some (.int .i64 k) := (blk_cell BK3.out 1).trans rfl; have q2 : w3.cell? ⟨gc, 2, none⟩ = some (.slice A l.length ca) := (blk_cell BK3.out 2).trans rfl; have q3 : w3.cell? ⟨gc, 3, none⟩ = some (.int .i64 sh) := (blk_cell BK3.out 3).trans rfl; have q4 : w3.cell? ⟨gc, 4, none⟩ = some (.int .i64 h) := (blk_cell BK3.out 4).trans rfl; have q5 : w3.cell? ⟨gc, 5, none⟩ = some (.int .i64 c) := (blk_cell BK3.out 5).trans rfl; have q6 : w3.cell? ⟨gc, 6, none⟩ = some (.int .i64 b) := (blk_cell BK3.out 6).trans rfl; have q7 : w3.cell? ⟨gc, 7, none⟩ = some (.int .i64 le) := (blk_cell BK3.out 7).trans rfl; clear hb3 x0 x1 x2 x3 x4 x5 x6 x7)
        | (go_at_call 10; refine (refgood_v true s k A ca l sh h c b le _ HG.out (Kd.C_below HX0.out HB3.out) hc).mono ?_; rintro e w4 ⟨rfl, hb4⟩; have HB4 := Aside0.mk (below_step HB3.out hb4); have HC4 := Aside0.mk (Kd.C_below HC3.out hb4); have HX4 := Aside0.mk (Kd.C_below HX0.out HB4.out); have BK4 := Aside0.mk ((hb4.block _ (blk_lt BK3.out)).trans BK3.out); have z0 : w4.cell? ⟨gc, 0, none⟩ = some (.int .i64 s) := (blk_cell BK4.out 0).trans rfl; have z1 : w4.cell? ⟨gc, 1, none⟩ = some (.int .i64 k) := (blk_cell BK4.out 1).trans rfl; have z2 : w4.cell? ⟨gc, 2, none⟩ = some (.slice A l.length ca) := (blk_cell BK4.out 2).trans rfl; have z3 : w4.cell? ⟨gc, 3, none⟩ = some (.int .i64 sh) := (blk_cell BK4.out 3).trans rfl; have z4 : w4.cell? ⟨gc, 4, none⟩ = some (.int .i64 h) := (blk_cell BK4.out 4).trans rfl; have z5 : w4.cell? ⟨gc, 5, none⟩ = some (.int .i64 c) := (blk_cell BK4.out 5).trans rfl; have z6 : w4.cell? ⟨gc, 6, none⟩ = some (.int .i64 b) := (blk_cell BK4.out 6).trans rfl; have z7 : w4.cell? ⟨gc, 7, none⟩ = some (.int .i64 le) := (blk_cell BK4.out 7).trans rfl; clear hb4 q0 q1 q2 q3 q4 q5 q6 q7))
      refine start_ (n := 33) (S := fun w' => w'.cell? ⟨gc, 0, none⟩ = some (.int .i64 s) ∧ w'.cell? ⟨gc, 1, none⟩ = some (.int .i64 k) ∧ w'.cell? ⟨gc, 2, none⟩ = some (.slice A l.length ca) ∧ w'.cell? ⟨gc, 3, none⟩ = some (.int .i64 sh) ∧ w'.cell? ⟨gc, 4, none⟩ = some (.int .i64 h) ∧ w'.cell? ⟨gc, 5, none⟩ = some (.int .i64 c) ∧ w'.cell? ⟨gc, 6, none⟩ = some (.int .i64 b) ∧ w'.cell? ⟨gc, 7, none⟩ = some (.int .i64 le)) (ds := []) #[false, false, false, false, false, false, false, false, false, false, false, false, false, false, false, false, false, false, false, false, false, false, false, false, false, false, false, false, false, false, false, false, false] (by kernel_rfl) rfl rfl ⟨z0, z1, z2, z3, z4, z5, z6, z7⟩ (fun hHeld => ?_)
      refine pure_ (i := 0) (N := some 32) (v := ?_) (a' := ?_) #[true, false, false, false, false, false, false, false, false, false, false, false, false, false, false, false, false, false, false, false, false, false, false, false, false, false, false, false, false, false, false, false, false] rfl rfl (by kernel_rfl) (fun _ _ _ h => h) (Or.inl ⟨by rfl, ?_⟩) ?_ ?_
      rotate_left
      · intro w'
        go_simp
        with_reducible rfl
      rotate_left
      · simp only [Act.put, List.setIfInBounds_toArray, List.set_cons_zero, List.set_cons_succ, i64_w, i32_w]
        rfl
      refine pure_ (i := 1) (N := some 33) (v := ?_) (a' := ?_) #[true, true, false, false, false, false, false, false, false, false, false, false, false, false, false, false, false, false, false, false, false, false, false, false, false, false, false, false, false, false, false, false, false] rfl rfl (by kernel_rfl) (fun _ _ _ h => h) (Or.inl ⟨by rfl, ?_⟩) ?_ ?_
      rotate_left
      · intro w'
        go_simp
        with_reducible rfl
      rotate_left
      · simp only [Act.put, List.setIfInBounds_toArray, List.set_cons_zero, List.set_cons_succ, i64_w, i32_w]
        rfl
      refine pure_ (i := 2) (N := some 34) (v := ?_) (a' := ?_) #[true, true, true, false, false, false, false, false, false, false, false, false, false, false, false, false, false, false, false, false, false, false, false, false, false, false, false, false, false, false, false, false, false] rfl rfl (by kernel_rfl) (fun _ _ _ h => h) (Or.inl ⟨by rfl, ?_⟩) ?_ ?_
      rotate_left
      · intro w'
        go_simp
        with_reducible rfl
      rotate_left
      · simp only [Act.put, List.setIfInBounds_toArray, List.set_cons_zero, List.set_cons_succ, i64_w, i32_w]
        rfl
      refine pure_ (i := 3) (N := some 35) (v := ?_) (a' := ?_) #[true, true, true, true, false, false, false, false, false, false, false, false, false, false, false, false, false, false, false, false, false, false, false, false, false, false, false, false, false, false, false, false, false] rfl rfl (by kernel_rfl) (fun _ _ _ h => h) (Or.inl ⟨by rfl, ?_⟩) ?_ ?_
      rotate_left
      · intro w'
        go_simp
        with_reducible rfl
      rotate_left
      · simp only [Act.put, List.setIfInBounds_toArray, List.set_cons_zero, List.set_cons_succ, i64_w, i32_w]
        rfl
      refine pure_ (i := 4) (N := some 36) (v := ?_) (a' := ?_) #[true, true, true, true, true, false, false, false, false, false, false, false, false, false, false, false, false, false, false, false, false, false, false, false, false, false, false, false, false, false, false, false, false] rfl rfl (by kernel_rfl) (fun _ _ _ h => h) (Or.inl ⟨by rfl, ?_⟩) ?_ ?_
      rotate_left
      · intro w'
        go_simp
        with_reducible rfl
      rotate_left
      · simp only [Act.put, List.setIfInBounds_toArray, List.set_cons_zero, List.set_cons_succ, i64_w, i32_w]
        rfl
      refine pure_ (i := 5) (N := some 37) (v := ?_) (a' := ?_) #[true, true, true, true, true, true, false, false, false, false, false, false, false, false, false, false, false, false, false, false, false, false, false, false, false, false, false, false, false, false, false, false, false] rfl rfl (by kernel_rfl) (fun _ _ _ h => h) (Or.inl ⟨by rfl, ?_⟩) ?_ ?_
      rotate_left
      · intro w'
        go_simp
        with_reducible rfl
      rotate_left
      · simp only [Act.put, List.setIfInBounds_toArray, List.set_cons_zero, List.set_cons_succ, i64_w, i32_w]
        rfl
      refine pure_ (i := 6) (N := some 38) (v := ?_) (a' := ?_) #[true, true, true, true, true, true, true, false, false, false, false, false, false, false, false, false, false, false, false, false, false, false, false, false, false, false, false, false, false, false, false, false, false] rfl rfl (by kernel_rfl) (fun _ _ _ h => h) (Or.inl ⟨by rfl, ?_⟩) ?_ ?_
      rotate_left
      · intro w'
        go_simp
        with_reducible rfl
      rotate_left
      · simp only [Act.put, List.setIfInBounds_toArray, List.set_cons_zero, List.set_cons_succ, i64_w, i32_w]
        rfl
      refine pure_ (i := 7) (N := some 39) (v := undef) (a' := ?_) #[true, true, true, true, true, true, true, true, false, false, false, false, false, false, false, false, false, false, false, false, false, false, false, false, false, false, false, false, false, false, false, false, false] rfl rfl (by kernel_rfl) (fun _ _ _ h => h) (Or.inr ⟨by rfl, rfl⟩) ?_ ?_
      rotate_left
      · simp only [Act.put, List.setIfInBounds_toArray, List.set_cons_zero, List.set_cons_succ, i64_w, i32_w]
        rfl
      refine pure_ (i := 8) (N := some 40) (v := undef) (a' := ?_) #[true, true, true, true, true, true, true, true, true, false, false, false, false, false, false, false, false, false, false, false, false, false, false, false, false, false, false, false, false, false, false, false, false] rfl rfl (by kernel_rfl) (fun _ _ _ h => h) (Or.inr ⟨by rfl, rfl⟩) ?_ ?_
      rotate_left
      · simp only [Act.put, List.setIfInBounds_toArray, List.set_cons_zero, List.set_cons_succ, i64_w, i32_w]
        rfl
      refine pure_ (i := 9) (N := some 41) (v := undef) (a' := ?_) #[true, true, true, true, true, true, true, true, true, true, false, false, false, false, false, false, false, false, false, false, false, false, false, false, false, false, false, false, false, false, false, false, false] rfl rfl (by kernel_rfl) (fun _ _ _ h => h) (Or.inr ⟨by rfl, rfl⟩) ?_ ?_
      rotate_left
      · simp only [Act.put, List.setIfInBounds_toArray, List.set_cons_zero, List.set_cons_succ, i64_w, i32_w]
        rfl
      refine pure_ (i := 10) (N := some 42) (v := ?_) (a' := ?_) #[true, true, true, true, true, true, true, true, true, true, true, false, false, false, false, false, false, false, false, false, false, false, false, false, false, false, false, false, false, false, false, false, false] rfl rfl (by kernel_rfl) (fun _ _ _ h => h) (Or.inl ⟨by rfl, ?_⟩) ?_ ?_
      rotate_left
      · intro w'
        go_simp
        with_reducible rfl
      rotate_left
      · simp only [Act.put, List.setIfInBounds_toArray, List.set_cons_zero, List.set_cons_succ, i64_w, i32_w]
        rfl
      refine pure_ (i := 11) (N := some 43) (v := ?_) (a' := ?_) #[true, true, true, true, true, true, true, true, true, true, true, true, false, false, false, false, false, false, false, false, false, false, false, false, false, false, false, false, false, false, false, false, false] rfl rfl (by kernel_rfl) (fun _ _ _ h => h) (Or.inl ⟨by rfl, ?_⟩) ?_ ?_
      rotate_left
      · intro w'
        go_simp
        with_reducible rfl
      rotate_left
      · simp only [Act.put, List.setIfInBounds_toArray, List.set_cons_zero, List.set_cons_succ, i64_w, i32_w]
        rfl
      refine pure_ (i := 12) (N := some 44) (v := ?_) (a' := ?_) #[true, true, true, true, true, true, true, true, true, true, true, true, true, false, false, false, false, false, false, false, false, false, false, false, false, false, false, false, false, false, false, false, false] rfl rfl (by kernel_rfl) (fun _ _ _ h => h) (Or.inl ⟨by rfl, ?_⟩) ?_ ?_
      rotate_left
      · intro w'
        go_simp
        with_reducible rfl
      rotate_left
      · simp only [Act.put, List.setIfInBounds_toArray, List.set_cons_zero, List.set_cons_succ, i64_w, i32_w]
        rfl
      refine pure_ (i := 15) (N := some 47) (v := ?_) (a' := ?_) #[true, true, true, true, true, true, true, true, true, true, true, true, true, false, false, true, false, false, false, false, false, false, false, false, false, false, false, false, false, false, false, false, false] rfl rfl (by kernel_rfl) (fun _ _ _ h => h) (Or.inl ⟨by rfl, ?_⟩) ?_ ?_
      rotate_left
      · intro w'
        go_simp
        with_reducible rfl
      rotate_left
      · simp only [Act.put, List.setIfInBounds_toArray, List.set_cons_zero, List.set_cons_succ, i64_w, i32_w]
        rfl
      refine take_ (i := 13) (N := some 45) (v := ?_) (a' := ?_) #[true, true, true, true, true, true, true, true, true, true, true, true, true, true, false, true, false, false, false, false, false, false, false, false, false, false, false, false, false, false, false, false, false] rfl rfl (by kernel_rfl) (fun _ _ _ h => h) (Or.inl ⟨by rfl, ?_⟩) hHeld ?_ ?_
      rotate_left
      · rintro w' ⟨s0, s1, s2, s3, s4, s5, s6, s7⟩
        go_simp
        with_reducible rfl
      rotate_left
      · simp only [Act.put, List.setIfInBounds_toArray, List.set_cons_zero, List.set_cons_succ, i64_w, i32_w]
        rfl
      refine one_ (i := 14) (N := some 46) #[true, true, true, true, true, true, true, true, true, true, true, true, true, true, true, true, false, false, false, false, false, false, false, false, false, false, false, false, false, false, false, false, false] rfl rfl (by kernel_rfl) (by decide) (fun K hK => ?_)
      refine goes_ Try.func11 (by kernel_rfl) rfl #[.agg #[.int .i64 s, .int .i64 k, .slice A l.length ca, .int .i64 sh, .int .i64 h, .int .i64 c, .int .i64 b, .int .i64 le]] (by rfl) rfl rfl (by simp only [List.map_toArray, List.map_cons, List.map_nil]; rfl) ?_
      with_reducible refine (lanes_v true s k A ca l sh h c b le _ HG.out (Kd.C_drew HX4.out) hc).mono ?_
      rintro e w5 ⟨rfl, hb5⟩
      refine ⟨_, rfl, ?_⟩
      have HB5 := Aside0.mk (below_step (below_drew (Below.refl _ w4)) hb5)
      clear hb5
      simp only [if_true]
      refine hK.out _ _ ⟨pw_cell_below HB5.out z0, pw_cell_below HB5.out z1, pw_cell_below HB5.out z2, pw_cell_below HB5.out z3, pw_cell_below HB5.out z4, pw_cell_below HB5.out z5, pw_cell_below HB5.out z6, pw_cell_below HB5.out z7⟩ (fun hHeld => ?_)
      clear hK K
      refine norm_ (a' := ?_) ?_ ?_
      rotate_left
      · show Act.put _ (some 46) _ = _
        simp only [Act.put, List.setIfInBounds_toArray, List.set_cons_zero, List.set_cons_succ, i64_w, i32_w]
        rfl
      refine pure_ (i := 16) (N := some 48) (v := ?_) (a' := ?_) #[true, true, true, true, true, true, true, true, true, true, true, true, true, true, true, true, true, false, false, false, false, false, false, false, false, false, false, false, false, false, false, false, false] rfl rfl (by kernel_rfl) (fun _ _ _ h => h) (Or.inl ⟨by rfl, ?_⟩) ?_ ?_
      rotate_left
      · intro w'
        go_simp
        with_reducible rfl
      rotate_left
      · simp only [Act.put, List.setIfInBounds_toArray, List.set_cons_zero, List.set_cons_succ, i64_w, i32_w]
        rfl
      refine pure_ (i := 17) (N := some 49) (v := ?_) (a' := ?_) #[true, true, true, true, true, true, true, true, true, true, true, true, true, true, true, true, true, true, false, false, false, false, false, false, false, false, false, false, false, false, false, false, false] rfl rfl (by kernel_rfl) (fun _ _ _ h => h) (Or.inl ⟨by rfl, ?_⟩) ?_ ?_
      rotate_left
      · intro w'
        go_simp
        with_reducible rfl
      rotate_left
      · simp only [Act.put, List.setIfInBounds_toArray, List.set_cons_zero, List.set_cons_succ, i64_w, i32_w]
        rfl
      refine pure_ (i := 18) (N := some 50) (v := ?_) (a' := ?_) #[true, true, true, true, true, true, true, true, true, true, true, true, true, true, true, true, true, true, true, false, false, false, false, false, false, false, false, false, false, false, false, false, false] rfl rfl (by kernel_rfl) (fun _ _ _ h => h) (Or.inl ⟨by rfl, ?_⟩) ?_ ?_
      rotate_left
      · intro w'
        go_simp
        with_reducible rfl
      rotate_left
      · simp only [Act.put, List.setIfInBounds_toArray, List.set_cons_zero, List.set_cons_succ, i64_w, i32_w]
        rfl
      refine take_ (i := 19) (N := some 51) (v := ?_) (a' := ?_) #[true, true, true, true, true, true, true, true, true, true, true, true, true, true, true, true, true, true, true, true, false, false, false, false, false, false, false, false, false, false, false, false, false] rfl rfl (by kernel_rfl) (fun _ _ _ h => h) (Or.inl ⟨by rfl, ?_⟩) hHeld ?_ ?_
      rotate_left
      · rintro w' ⟨s0, s1, s2, s3, s4, s5, s6, s7⟩
        go_simp
        with_reducible rfl
      rotate_left
      · simp only [Act.put, List.setIfInBounds_toArray, List.set_cons_zero, List.set_cons_succ, i64_w, i32_w]
        rfl
      refine take_ (i := 21) (N := some 53) (v := ?_) (a' := ?_) #[true, true, true, true, true, true, true, true, true, true, true, true, true, true, true, true, true, true, true, true, false, true, false, false, false, false, false, false, false, false, false, false, false] rfl rfl (by kernel_rfl) (fun _ _ _ h => h) (Or.inl ⟨by rfl, ?_⟩) hHeld ?_ ?_
      rotate_left
      · rintro w' ⟨s0, s1, s2, s3, s4, s5, s6, s7⟩
        go_simp
        with_reducible rfl
      rotate_left
      · simp only [Act.put, List.setIfInBounds_toArray, List.set_cons_zero, List.set_cons_succ, i64_w, i32_w]
        rfl
      refine one_ (i := 20) (N := some 52) #[true, true, true, true, true, true, true, true, true, true, true, true, true, true, true, true, true, true, true, true, true, true, false, false, false, false, false, false, false, false, false, false, false] rfl rfl (by kernel_rfl) (by decide) (fun K hK => ?_)
      refine goes_ Try.func12 (by kernel_rfl) rfl #[.agg #[.int .i64 s, .int .i64 k, .slice A l.length ca, .int .i64 sh, .int .i64 h, .int .i64 c, .int .i64 b, .int .i64 le]] (by rfl) rfl rfl (by simp only [List.map_toArray, List.map_cons, List.map_nil]; rfl) ?_
      with_reducible refine (NV _ (Kd.C_below HX4.out HB5.out)).mono ?_
      rintro e w6 ⟨rfl, hb6⟩
      refine ⟨_, rfl, ?_⟩
      have HB6 := Aside0.mk (below_step HB5.out hb6)
      clear hb6
      refine hK.out _ _ ⟨pw_cell_below HB6.out z0, pw_cell_below HB6.out z1, pw_cell_below HB6.out z2, pw_cell_below HB6.out z3, pw_cell_below HB6.out z4, pw_cell_below HB6.out z5, pw_cell_below HB6.out z6, pw_cell_below HB6.out z7⟩ (fun hHeld => ?_)
      clear hK K
      refine norm_ (a' := ?_) ?_ ?_
      rotate_left
      · show Act.put _ (some 52) _ = _
        simp only [Act.put, List.setIfInBounds_toArray, List.set_cons_zero, List.set_cons_succ, i64_w, i32_w]
        rfl
      refine one_ (i := 22) (N := some 54) #[true, true, true, true, true, true, true, true, true, true, true, true, true, true, true, true, true, true, true, true, true, true, true, false, false, false, false, false, false, false, false, false, false] rfl rfl (by kernel_rfl) (by decide) (fun K hK => ?_)
      refine goes_ Try.func13 (by kernel_rfl) rfl #[.agg #[.int .i64 s, .int .i64 k, .slice A l.length ca, .int .i64 sh, .int .i64 h, .int .i64 c, .int .i64 b, .int .i64 le]] (by rfl) rfl rfl (by simp only [List.map_toArray, List.map_cons, List.map_nil]; rfl) ?_
      with_reducible refine (refroles_v true s k A ca l sh h c b le _ HG.out (Kd.C_below HX4.out HB6.out) hc).mono ?_
      rintro e w7 ⟨ur, rfl, hR7, hb7⟩
      refine ⟨_, rfl, ?_⟩
      have HB7 := Aside0.mk (below_step HB6.out hb7)
      obtain ⟨Ar, cr, rfl⟩ := Kd.R_slice hR7
      clear hR7 hb7
      simp only [if_true]
      refine hK.out _ _ ⟨pw_cell_below HB7.out z0, pw_cell_below HB7.out z1, pw_cell_below HB7.out z2, pw_cell_below HB7.out z3, pw_cell_below HB7.out z4, pw_cell_below HB7.out z5, pw_cell_below HB7.out z6, pw_cell_below HB7.out z7⟩ (fun hHeld => ?_)
      clear hK K
      refine norm_ (a' := ?_) ?_ ?_
      rotate_left
      · show Act.put _ (some 54) _ = _
        simp only [Act.put, List.setIfInBounds_toArray, List.set_cons_zero, List.set_cons_succ, i64_w, i32_w]
        rfl
      refine pure_ (i := 23) (N := some 55) (v := ?_) (a' := ?_) #[true, true, true, true, true, true, true, true, true, true, true, true, true, true, true, true, true, true, true, true, true, true, true, true, false, false, false, false, false, false, false, false, false] rfl rfl (by kernel_rfl) (fun _ _ _ h => h) (Or.inl ⟨by rfl, ?_⟩) ?_ ?_
      rotate_left
      · intro w'
        go_simp
        with_reducible rfl
      rotate_left
      · simp only [Act.put, List.setIfInBounds_toArray, List.set_cons_zero, List.set_cons_succ, i64_w, i32_w]
        rfl
      refine pure_ (i := 24) (N := some 56) (v := ?_) (a' := ?_) #[true, true, true, true, true, true, true, true, true, true, true, true, true, true, true, true, true, true, true, true, true, true, true, true, true, false, false, false, false, false, false, false, false] rfl rfl (by kernel_rfl) (fun _ _ _ h => h) (Or.inl ⟨by rfl, ?_⟩) ?_ ?_
      rotate_left
      · intro w'
        go_simp
        with_reducible rfl
      rotate_left
      · simp only [Act.put, List.setIfInBounds_toArray, List.set_cons_zero, List.set_cons_succ, i64_w, i32_w]
        rfl
      refine pure_ (i := 25) (N := some 57) (v := ?_) (a' := ?_) #[true, true, true, true, true, true, true, true, true, true, true, true, true, true, true, true, true, true, true, true, true, true, true, true, true, true, false, false, false, false, false, false, false] rfl rfl (by kernel_rfl) (fun _ _ _ h => h) (Or.inl ⟨by rfl, ?_⟩) ?_ ?_
      rotate_left
      · intro w'
        go_simp
        with_reducible rfl
      rotate_left
      · simp only [Act.put, List.setIfInBounds_toArray, List.set_cons_zero, List.set_cons_succ, i64_w, i32_w]
        rfl
      refine pure_ (i := 26) (N := some 58) (v := ?_) (a' := ?_) #[true, true, true, true, true, true, true, true, true, true, true, true, true, true, true, true, true, true, true, true, true, true, true, true, true, true, true, false, false, false, false, false, false] rfl rfl (by kernel_rfl) (fun _ _ _ h => h) (Or.inl ⟨by rfl, ?_⟩) ?_ ?_
      rotate_left
      · intro w'
        go_simp
        with_reducible rfl
      rotate_left
      · simp only [Act.put, List.setIfInBounds_toArray, List.set_cons_zero, List.set_cons_succ, i64_w, i32_w]
        rfl
      refine pure_ (i := 27) (N := some 59) (v := ?_) (a' := ?_) #[true, true, true, true, true, true, true, true, true, true, true, true, true, true, true, true, true, true, true, true, true, true, true, true, true, true, true, true, false, false, false, false, false] rfl rfl (by kernel_rfl) (fun _ _ _ h => h) (Or.inl ⟨by rfl, ?_⟩) ?_ ?_
      rotate_left
      · intro w'
        go_simp
        with_reducible rfl
      rotate_left
      · simp only [Act.put, List.setIfInBounds_toArray, List.set_cons_zero, List.set_cons_succ, i64_w, i32_w]
        rfl
      refine pure_ (i := 29) (N := some 61) (v := ?_) (a' := ?_) #[true, true, true, true, true, true, true, true, true, true, true, true, true, true, true, true, true, true, true, true, true, true, true, true, true, true, true, true, false, true, false, false, false] rfl rfl (by kernel_rfl) (fun _ _ _ h => h) (Or.inl ⟨by rfl, ?_⟩) ?_ ?_
      rotate_left
      · intro w'
        go_simp
        with_reducible rfl
      rotate_left
      · simp only [Act.put, List.setIfInBounds_toArray, List.set_cons_zero, List.set_cons_succ, i64_w, i32_w]
        rfl
      refine take_ (i := 28) (N := some 60) (v := ?_) (a' := ?_) #[true, true, true, true, true, true, true, true, true, true, true, true, true, true, true, true, true, true, true, true, true, true, true, true, true, true, true, true, true, true, false, false, false] rfl rfl (by kernel_rfl) (fun _ _ _ h => h) (Or.inl ⟨by rfl, ?_⟩) hHeld ?_ ?_
      rotate_left
      · rintro w' ⟨s0, s1, s2, s3, s4, s5, s6, s7⟩
        go_simp
        with_reducible rfl
      rotate_left
      · simp only [Act.put, List.setIfInBounds_toArray, List.set_cons_zero, List.set_cons_succ, i64_w, i32_w]
        rfl
      refine one_ (i := 30) (N := some 62) #[true, true, true, true, true, true, true, true, true, true, true, true, true, true, true, true, true, true, true, true, true, true, true, true, true, true, true, true, true, true, true, false, false] rfl rfl (by kernel_rfl) (by decide) (fun K hK => ?_)
      refine goes_ Try.func14 (by kernel_rfl) rfl #[.slice A l.length ca, .slice A2 l.length c2] (by rfl) rfl rfl (by simp only [List.map_toArray, List.map_cons, List.map_nil]; rfl) ?_
      with_reducible refine (ints_v true A ca l A2 c2 l _ (decide_eq_true rfl) (Kd.C_below HX4.out HB7.out) hc (Kd.C_below HC4.out HB7.out) HO2.out.2.1 (by omega)).mono ?_
      rintro e w8 ⟨rfl, hb8⟩
      refine ⟨_, rfl, ?_⟩
      have HB8 := Aside0.mk (below_step HB7.out hb8)
      clear hb8
      refine hK.out _ _ ⟨pw_cell_below HB8.out z0, pw_cell_below HB8.out z1, pw_cell_below HB8.out z2, pw_cell_below HB8.out z3, pw_cell_below HB8.out z4, pw_cell_below HB8.out z5, pw_cell_below HB8.out z6, pw_cell_below HB8.out z7⟩ (fun hHeld => ?_)
      clear hK K
      refine norm_ (a' := ?_) ?_ ?_
      rotate_left
      · show Act.put _ (some 62) _ = _
        simp only [Act.put, List.setIfInBounds_toArray, List.set_cons_zero, List.set_cons_succ, i64_w, i32_w]
        rfl
      refine pure_ (i := 31) (N := some 63) (v := ?_) (a' := ?_) #[true, true, true, true, true, true, true, true, true, true, true, true, true, true, true, true, true, true, true, true, true, true, true, true, true, true, true, true, true, true, true, true, false] rfl rfl (by kernel_rfl) (fun _ _ _ h => h) (Or.inl ⟨by rfl, ?_⟩) ?_ ?_
      rotate_left
      · intro w'
        go_simp
        with_reducible rfl
      rotate_left
      · simp only [Act.put, List.setIfInBounds_toArray, List.set_cons_zero, List.set_cons_succ, i64_w, i32_w]
        rfl
      refine pure_ (i := 32) (N := some 2) (v := ?_) (a' := ?_) #[true, true, true, true, true, true, true, true, true, true, true, true, true, true, true, true, true, true, true, true, true, true, true, true, true, true, true, true, true, true, true, true, true] rfl rfl (by kernel_rfl) (fun _ _ _ h => h) (Or.inl ⟨by rfl, ?_⟩) ?_ ?_
      rotate_left
      · intro w'
        go_simp
        with_reducible rfl
      rotate_left
      · simp only [Act.put, List.setIfInBounds_toArray, List.set_cons_zero, List.set_cons_succ, i64_w, i32_w]
        rfl
      refine done_ (by kernel_rfl) ?_
      go_wp2_with fail
      go_ret
      exact ⟨rfl, below_step HB.out (below_step HB4.out HB8.out)⟩
  · have h1b : decide (1000 < (l.length : Int)) = true := decide_eq_true (by omega)
    have hgf : g = false := by
      cases g
      · rfl
      · have := (good_iff.1 HG.out).2.2.1
        omega
    subst hgf
    have tok : True := trivial
    have eE := Err.eqE
    have eN := Err.eqN
    go_enter Try.func3, Try.ntmps3
    go_wp2_with (first
      | (go_at_call 8; refine (alive_any _).mono ?_; rintro e w1 ⟨rfl, hb1⟩; have HB := Aside0.mk (below_step HBX.out hb1); have BKC := Aside0.mk ((hb1.block _ (blk_lt hbox.out)).trans hbox.out); rw [← HGC.out]; have HX0 := Aside0.mk (Kd.C_below HR.out HB.out); have z0 : w1.cell? ⟨gc, 0, none⟩ = some (.int .i64 s) := (blk_cell BKC.out 0).trans rfl; have z1 : w1.cell? ⟨gc, 1, none⟩ = some (.int .i64 k) := (blk_cell BKC.out 1).trans rfl; have z2 : w1.cell? ⟨gc, 2, none⟩ = some (.slice A l.length ca) := (blk_cell BKC.out 2).trans rfl; have z3 : w1.cell? ⟨gc, 3, none⟩ = some (.int .i64 sh) := (blk_cell BKC.out 3).trans rfl; have z4 : w1.cell? ⟨gc, 4, none⟩ = some (.int .i64 h) := (blk_cell BKC.out 4).trans rfl; have z5 : w1.cell? ⟨gc, 5, none⟩ = some (.int .i64 c) := (blk_cell BKC.out 5).trans rfl; have z6 : w1.cell? ⟨gc, 6, none⟩ = some (.int .i64 b) := (blk_cell BKC.out 6).trans rfl; have z7 : w1.cell? ⟨gc, 7, none⟩ = some (.int .i64 le) := (blk_cell BKC.out 7).trans rfl; clear hb1)
      | (go_at_call 9; refine (check_v false s k A ca l sh h c b le _ HG.out HX0.out hc).mono ?_; rintro e w3 ⟨rfl, hb3⟩; rw [errF]; have HB3 := Aside0.mk (below_step HB.out hb3); clear hb3))
    go_ret
    exact ⟨rfl, HB3.out⟩
theorem bytes3 : Try.prog.bytesOf 3 = 8 := by kernel_rfl
theorem checks_walk (w : World) (cs : Array Value) (y : PlanT) (hK : kPlan.K w y cs.toList) (hq : PlanQ y) :
    Calls Try.prog 3 #[.agg cs] w fun e w' => e = .returned (.bool true) ∧ Below w.heap.size w w' := by
  obtain ⟨A, ca, he, hc, hC⟩ := plan_cells hK
  obtain rfl : cs = planCells y.1 y.2.1 A y.2.2.1.length ca y.2.2.2.1 y.2.2.2.2.1 y.2.2.2.2.2.1 y.2.2.2.2.2.2.1 y.2.2.2.2.2.2.2 := by
    rw [← Array.toArray_toList (xs := cs), he]
  have h := hq.2.2.1.1
  rw [bytes3] at h
  exact checks_any _ _ A ca _ _ _ _ _ _ w hC hc (by omega)
end Go.Proofs.Ytdaapjkfkfaflaa.MAll

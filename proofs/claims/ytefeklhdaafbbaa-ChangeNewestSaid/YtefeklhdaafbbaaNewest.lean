/- Newest, the program's and the reference's. -/
import Derived.Test.YtefeklhdaafbbaaLess
import Derived.Deep.RegionHeld3
import Derived.Deep.DrawnRows
set_option linter.unusedVariables false
set_option linter.unusedSimpArgs false
namespace Go.Proofs.Ytefeklhdaafbbaa.MAll
open Go.RowKit Go.Proofs.YtefeklhdaafbbaaW.PrintWords Go.Proofs.YtefeklhdaafbbaaW.PrintLast Go.Proofs.YtefeklhdaafbbaaW.PrintMore
attribute [local go_sem ↓] Go.wp_at_zero Go.wp_at_succ

/-- A register's cells. -/
def RegAt (w : World) (a : Addr) (r : Reg) (B : Option Addr) (b : Nat) : Prop :=
  w.cell? a = some (.int .i64 r.1.1) ∧ w.cell? ⟨a.block, a.off + 1, none⟩ = some (.int .i64 r.1.2.1) ∧ w.cell? ⟨a.block, a.off + 2, none⟩ = some (.int .i64 r.1.2.2) ∧
  w.cell? ⟨a.block, a.off + 3, none⟩ = some (.int .i64 r.2.1.1) ∧ w.cell? ⟨a.block, a.off + 4, none⟩ = some (.int .i64 r.2.1.2.1) ∧ w.cell? ⟨a.block, a.off + 5, none⟩ = some (.int .i64 r.2.1.2.2) ∧
  w.cell? ⟨a.block, a.off + 6, none⟩ = some (.slice B r.2.2.length b)
theorem reg_at {w : World} {A : Option Addr} {xs : List Reg} (h : kReg.C w A xs.length xs) (k : Nat) (hk : k < xs.length) :
    ∃ ad B b r, A = some ad ∧ r = xs[k]'hk ∧ RegAt w (ad.add (k * 7)) r B b ∧ r.2.2.length ≤ b ∧ (Kd.int .i64).C w B r.2.2.length r.2.2 := by
  obtain ⟨ad, cs, rfl, _, hK, hc⟩ := Kd.C_get h zeroR k (by omega) (by omega)
  have he : xs.getD (k : Int).toNat zeroR = xs[k]'hk := by simp [List.getD_eq_getElem?_getD, List.getElem?_eq_getElem hk]
  rw [he] at hK
  obtain ⟨c0, c1, rfl, ⟨d0, d1, rfl, e0, d2, d3, rfl, e1, e2⟩, c2, c3, rfl, ⟨f0, f1, rfl, g0, f2, f3, rfl, g1, g2⟩, ⟨B, b, rfl, hb, hB⟩⟩ := hK
  obtain rfl : d0 = [.int .i64 (xs[k]'hk).1.1] := e0
  obtain rfl : d2 = [.int .i64 (xs[k]'hk).1.2.1] := e1
  obtain rfl : d3 = [.int .i64 (xs[k]'hk).1.2.2] := e2
  obtain rfl : f0 = [.int .i64 (xs[k]'hk).2.1.1] := g0
  obtain rfl : f2 = [.int .i64 (xs[k]'hk).2.1.2.1] := g1
  obtain rfl : f3 = [.int .i64 (xs[k]'hk).2.1.2.2] := g2
  have e : kReg.sz = 7 := rfl
  have ek : (k : Int).toNat = k := by omega
  rw [e, ek] at hc
  refine ⟨ad, B, b, _, rfl, rfl, ⟨by simpa using hc 0 _ rfl, ?_, ?_, ?_, ?_, ?_, ?_⟩, hb, hB⟩
  · rw [← add_field ad (k * 7) 1 (by omega)]; exact hc 1 _ rfl
  · rw [← add_field ad (k * 7) 2 (by omega)]; exact hc 2 _ rfl
  · rw [← add_field ad (k * 7) 3 (by omega)]; exact hc 3 _ rfl
  · rw [← add_field ad (k * 7) 4 (by omega)]; exact hc 4 _ rfl
  · rw [← add_field ad (k * 7) 5 (by omega)]; exact hc 5 _ rfl
  · rw [← add_field ad (k * 7) 6 (by omega)]; exact hc 6 _ rfl
abbrev regCells (r : Reg) (B : Option Addr) (b : Nat) : Array Value := #[.int .i64 r.1.1, .int .i64 r.1.2.1, .int .i64 r.1.2.2, .int .i64 r.2.1.1, .int .i64 r.2.1.2.1, .int .i64 r.2.1.2.2, .slice B r.2.2.length b]
theorem put7 {W : World} {g : Nat} {a0 a1 a2 a3 a4 a5 a6 b0 b1 b2 b3 b4 b5 b6 : Value} {t : TypeId} (h : W.heap[g]? = some (.cells #[a0, a1, a2, a3, a4, a5, a6] t (0, 0))) :
    (((((((W.setCell ⟨g, 0, none⟩ b0).setCell ⟨g, 1, none⟩ b1).setCell ⟨g, 2, none⟩ b2).setCell ⟨g, 3, none⟩ b3).setCell ⟨g, 4, none⟩ b4).setCell ⟨g, 5, none⟩ b5).setCell ⟨g, 6, none⟩ b6).heap[g]? = some (.cells #[b0, b1, b2, b3, b4, b5, b6] t (0, 0)) := by
  refine blk_put (cs := #[b0, b1, b2, b3, b4, b5, a6]) ?_ 6 _ rfl
  refine blk_put (cs := #[b0, b1, b2, b3, b4, a5, a6]) ?_ 5 _ rfl
  refine blk_put (cs := #[b0, b1, b2, b3, a4, a5, a6]) ?_ 4 _ rfl
  refine blk_put (cs := #[b0, b1, b2, a3, a4, a5, a6]) ?_ 3 _ rfl
  refine blk_put (cs := #[b0, b1, a2, a3, a4, a5, a6]) ?_ 2 _ rfl
  refine blk_put (cs := #[b0, a1, a2, a3, a4, a5, a6]) ?_ 1 _ rfl
  exact blk_put (cs := #[a0, a1, a2, a3, a4, a5, a6]) h 0 _ rfl
theorem put7_below {w W : World} {g : Nat} {b0 b1 b2 b3 b4 b5 b6 : Value} (h : Below w.heap.size w W) (hg : w.heap.size ≤ g) :
    Below w.heap.size w (((((((W.setCell ⟨g, 0, none⟩ b0).setCell ⟨g, 1, none⟩ b1).setCell ⟨g, 2, none⟩ b2).setCell ⟨g, 3, none⟩ b3).setCell ⟨g, 4, none⟩ b4).setCell ⟨g, 5, none⟩ b5).setCell ⟨g, 6, none⟩ b6) :=
  below_set (below_set (below_set (below_set (below_set (below_set (below_set h hg) hg) hg) hg) hg) hg) hg

def NewRel (w : World) (A : Option Addr) (list : List Reg) (gb : Nat) (v8 : Value) (wr : World) : Prop :=
  ∃ (k : Nat) (B : Option Addr) (b : Nat) (r : Reg), k ≤ list.length ∧ v8 = .int .i64 k ∧ Aside0 (r = newestR (list.take k)) ∧ Aside0 (wr.heap[gb]? = some (.cells (regCells r B b) 49 (0, 0))) ∧ Aside0 ((Kd.int .i64).C w B r.2.2.length r.2.2) ∧ Aside0 (r.2.2.length ≤ b) ∧ Aside0 (Below w.heap.size w wr)

set_option maxHeartbeats 1000000 in
set_option maxRecDepth 100000 in
theorem newest_any (A : Option Addr) (c : Nat) (list : List Reg) (w : World) (hr : kReg.C w A list.length list) (hc : list.length ≤ c) (hl : (newestR list).2.2.length < 17592186044416) :
    Calls Try.prog 21 #[.slice A list.length c] w fun e w' => ∃ u, e = .returned u ∧ (Kd.int .i64).R 3 w' w.heap.size (fun _ => True) u (newestR list).2.2 ∧ Below w.heap.size w w' := by
  have HR := Aside0.mk hr
  have HL := Aside0.mk hl
  clear hr hl
  have hu49 := Try.underlying49
  have hu47 := Try.underlying47
  have hMx := Kd.C_max HR.out
  go_enter Try.func21, Try.ntmps21
  go_wp2_with fail
  obtain ⟨gb, hgb⟩ : ∃ gb, gb = w.heap.size := ⟨_, rfl⟩
  rw [← hgb]
  have HGB := Aside0.mk hgb
  have hstart : NewRel w A list gb (.int .i64 0) (w.alloc (.cells (regCells zeroR none 0) 49)) :=
    ⟨0, none, 0, zeroR, Nat.zero_le _, rfl, ⟨by simp [newestR]⟩, ⟨by rw [hgb]; exact blk_new w _⟩, ⟨Kd.C_nil _ _⟩, ⟨Nat.le_refl _⟩, ⟨below_alloc (Below.refl _ w) _⟩⟩
  clear hgb
  go_loopw [8] (fun v8 wr => NewRel w A list gb v8 wr) (fun i _ => list.length - (intOf i).toNat)
  case atStart => exact hstart
  case round =>
    clear hstart
    obtain ⟨k, B, b, r, hk, rfl, HRE, HBK, HCB, HLB, HW⟩ := hrel
    by_cases hlt : k < list.length
    · obtain ⟨ad, B2, b2, r2, rfl, hr2, hat, hl2, hC2⟩ := reg_at HR.out k hlt
      obtain ⟨z0, z1, z2, z3, z4, z5, z6⟩ := hat
      have m0 := pw_cell_below HW.out z0
      have m1 := pw_cell_below HW.out z1
      have m2 := pw_cell_below HW.out z2
      have m3 := pw_cell_below HW.out z3
      have m4 := pw_cell_below HW.out z4
      have m5 := pw_cell_below HW.out z5
      have m6 := pw_cell_below HW.out z6
      have HR2 := Aside0.mk hr2
      have HC2 := Aside0.mk hC2
      have HL2 := Aside0.mk hl2
      clear z0 z1 z2 z3 z4 z5 z6 hr2 hC2 hl2
      have g3 : ∀ o, (wr.alloc o).cell? ⟨gb, 3, none⟩ = some (.int .i64 r.2.1.1) := fun o => pw_cell_below (below_alloc (Below.refl _ _) o) ((blk_cell HBK.out 3).trans rfl)
      have g4 : ∀ o, (wr.alloc o).cell? ⟨gb, 4, none⟩ = some (.int .i64 r.2.1.2.1) := fun o => pw_cell_below (below_alloc (Below.refl _ _) o) ((blk_cell HBK.out 4).trans rfl)
      have g5 : ∀ o, (wr.alloc o).cell? ⟨gb, 5, none⟩ = some (.int .i64 r.2.1.2.2) := fun o => pw_cell_below (below_alloc (Below.refl _ _) o) ((blk_cell HBK.out 5).trans rfl)
      obtain ⟨bl, hbl⟩ : ∃ bl, lessB r.2.1 r2.2.1 = bl := ⟨_, rfl⟩
      have HBL := Aside0.mk hbl
      clear hbl
      go_wp2_with fail
      refine (less_is bl r.2.1 r2.2.1 _ HBL.out).mono ?_
      rintro e w2 ⟨rfl, hb2⟩
      obtain ⟨g5', hg5⟩ : ∃ g5, g5 = wr.heap.size := ⟨_, rfl⟩
      have BK5 : Aside0 (w2.heap[g5']? = some (.cells (regCells r2 B2 b2) 49 (0, 0))) := ⟨by rw [hg5]; exact (hb2.block _ (by simp)).trans (blk_new wr _)⟩
      have BKb : Aside0 (w2.heap[gb]? = some (.cells (regCells r B b) 49 (0, 0))) := ⟨(hb2.block _ (by have := blk_lt HBK.out; simp; omega)).trans (blk_alloc HBK.out _)⟩
      have HB2 := Aside0.mk (below_step (below_alloc HW.out _) hb2)
      rw [← hg5]
      clear hb2 hg5 g3 g4 g5 m0 m1 m2 m3 m4 m5 m6
      cases bl
      · go_wp2
        go_roundw
        case rel => exact ⟨k + 1, B, b, r, by omega, by go_num, ⟨by rw [newest_take list k hlt, ← HRE.out, ← HR2.out]; unfold stepN; rw [HBL.out]; rfl⟩, BKb, HCB, HLB, HB2⟩
        case measure => simp [intOf]; omega
      · have y0 : w2.cell? ⟨g5', 0, none⟩ = some (.int .i64 r2.1.1) := (blk_cell BK5.out 0).trans rfl
        have y1 : w2.cell? ⟨g5', 1, none⟩ = some (.int .i64 r2.1.2.1) := (blk_cell BK5.out 1).trans rfl
        have y2 : w2.cell? ⟨g5', 2, none⟩ = some (.int .i64 r2.1.2.2) := (blk_cell BK5.out 2).trans rfl
        have y3 : w2.cell? ⟨g5', 3, none⟩ = some (.int .i64 r2.2.1.1) := (blk_cell BK5.out 3).trans rfl
        have y4 : w2.cell? ⟨g5', 4, none⟩ = some (.int .i64 r2.2.1.2.1) := (blk_cell BK5.out 4).trans rfl
        have y5 : w2.cell? ⟨g5', 5, none⟩ = some (.int .i64 r2.2.1.2.2) := (blk_cell BK5.out 5).trans rfl
        have y6 : w2.cell? ⟨g5', 6, none⟩ = some (.slice B2 r2.2.2.length b2) := (blk_cell BK5.out 6).trans rfl
        have x0 : w2.cell? ⟨gb, 0, none⟩ = some (.int .i64 r.1.1) := (blk_cell BKb.out 0).trans rfl
        have x1 : w2.cell? ⟨gb, 1, none⟩ = some (.int .i64 r.1.2.1) := (blk_cell BKb.out 1).trans rfl
        have x2 : w2.cell? ⟨gb, 2, none⟩ = some (.int .i64 r.1.2.2) := (blk_cell BKb.out 2).trans rfl
        have x3 : w2.cell? ⟨gb, 3, none⟩ = some (.int .i64 r.2.1.1) := (blk_cell BKb.out 3).trans rfl
        have x4 : w2.cell? ⟨gb, 4, none⟩ = some (.int .i64 r.2.1.2.1) := (blk_cell BKb.out 4).trans rfl
        have x5 : w2.cell? ⟨gb, 5, none⟩ = some (.int .i64 r.2.1.2.2) := (blk_cell BKb.out 5).trans rfl
        have x6 : w2.cell? ⟨gb, 6, none⟩ = some (.slice B r.2.2.length b) := (blk_cell BKb.out 6).trans rfl
        have f0 := blk_frozen BKb.out 0
        have f1 := blk_frozen BKb.out 1
        have f2 := blk_frozen BKb.out 2
        have f3 := blk_frozen BKb.out 3
        have f4 := blk_frozen BKb.out 4
        have f5 := blk_frozen BKb.out 5
        have f6 := blk_frozen BKb.out 6
        go_wp2
        go_roundw
        case rel => exact ⟨k + 1, B2, b2, r2, by omega, by go_num, ⟨by rw [newest_take list k hlt, ← HRE.out, ← HR2.out]; unfold stepN; rw [HBL.out]; rfl⟩, ⟨put7 BKb.out⟩, HC2, HL2, ⟨put7_below HB2.out (by rw [HGB.out]; omega)⟩⟩
        case measure => simp [intOf]; omega
    · have he : list.take k = list := List.take_of_length_le (by omega)
      have hr1 := HRE.out
      rw [he] at hr1
      have z6 : wr.cell? ⟨gb, 6, none⟩ = some (.slice B r.2.2.length b) := (blk_cell HBK.out 6).trans rfl
      have HRR := Aside0.mk hr1
      clear hr1 he
      go_wp2_with fail
      refine (slices_Clone_int_int.calls B b r.2.2 r.2.2 _ (Kd.C_below HCB.out HW.out) HLB.out (by unfold slices_Clone_int_int.f; rw [if_pos (by rw [HRR.out]; exact HL.out)])).mono ?_
      rintro e w2 ⟨u, rfl, hRu, hb2⟩
      have HRu := Aside0.mk (Kd.R_lower hRu HW.out.size)
      have HB2 := Aside0.mk (below_step HW.out hb2)
      clear hRu hb2
      go_wp2
      go_ret
      exact ⟨u, rfl, by rw [← HRR.out]; exact HRu.out, HB2.out⟩

set_option maxHeartbeats 1000000 in
set_option maxRecDepth 100000 in
theorem refnewest_any (A : Option Addr) (c : Nat) (list : List Reg) (w : World) (hr : kReg.C w A list.length list) (hc : list.length ≤ c) :
    Calls Try.prog 22 #[.slice A list.length c] w fun e w' => ∃ B b, e = .returned (.slice B (newestR list).2.2.length b) ∧ (newestR list).2.2.length ≤ b ∧ (Kd.int .i64).C w' B (newestR list).2.2.length (newestR list).2.2 ∧ Below w.heap.size w w' := by
  have HR := Aside0.mk hr
  clear hr
  have hu49 := Try.underlying49
  have hu47 := Try.underlying47
  have hMx := Kd.C_max HR.out
  go_enter Try.func22, Try.ntmps22
  go_wp2_with fail
  obtain ⟨gb, hgb⟩ : ∃ gb, gb = w.heap.size := ⟨_, rfl⟩
  rw [← hgb]
  have HGB := Aside0.mk hgb
  have hstart : NewRel w A list gb (.int .i64 0) (w.alloc (.cells (regCells zeroR none 0) 49)) :=
    ⟨0, none, 0, zeroR, Nat.zero_le _, rfl, ⟨by simp [newestR]⟩, ⟨by rw [hgb]; exact blk_new w _⟩, ⟨Kd.C_nil _ _⟩, ⟨Nat.le_refl _⟩, ⟨below_alloc (Below.refl _ w) _⟩⟩
  clear hgb
  go_loopw [4] (fun v8 wr => NewRel w A list gb v8 wr) (fun i _ => list.length - (intOf i).toNat)
  case atStart => exact hstart
  case round =>
    clear hstart
    obtain ⟨k, B, b, r, hk, rfl, HRE, HBK, HCB, HLB, HW⟩ := hrel
    by_cases hlt : k < list.length
    · obtain ⟨ad, B2, b2, r2, rfl, hr2, hat, hl2, hC2⟩ := reg_at HR.out k hlt
      obtain ⟨z0, z1, z2, z3, z4, z5, z6⟩ := hat
      have m0 := pw_cell_below HW.out z0
      have m1 := pw_cell_below HW.out z1
      have m2 := pw_cell_below HW.out z2
      have m3 := pw_cell_below HW.out z3
      have m4 := pw_cell_below HW.out z4
      have m5 := pw_cell_below HW.out z5
      have m6 := pw_cell_below HW.out z6
      have HR2 := Aside0.mk hr2
      have HC2 := Aside0.mk hC2
      have HL2 := Aside0.mk hl2
      clear z0 z1 z2 z3 z4 z5 z6 hr2 hC2 hl2
      have g3 : wr.cell? ⟨gb, 3, none⟩ = some (.int .i64 r.2.1.1) := (blk_cell HBK.out 3).trans rfl
      have g4 : wr.cell? ⟨gb, 4, none⟩ = some (.int .i64 r.2.1.2.1) := (blk_cell HBK.out 4).trans rfl
      have g5 : wr.cell? ⟨gb, 5, none⟩ = some (.int .i64 r.2.1.2.2) := (blk_cell HBK.out 5).trans rfl
      have hk0 : (0 : Int) ≤ (k : Int) := by omega
      have hk1 : (k : Int) < (list.length : Int) := by omega
      obtain ⟨bl, hbl⟩ : ∃ bl, lessB r.2.1 r2.2.1 = bl := ⟨_, rfl⟩
      have HBL := Aside0.mk hbl
      clear hbl
      go_wp2_with fail
      go_region_held3 (fun w' => w'.cell? ⟨gb, 3, none⟩ = some (.int .i64 r.2.1.1) ∧ w'.cell? ⟨gb, 4, none⟩ = some (.int .i64 r.2.1.2.1) ∧ w'.cell? ⟨gb, 5, none⟩ = some (.int .i64 r.2.1.2.2) ∧ w'.cell? ⟨(ad.add (k * 7)).block, (ad.add (k * 7)).off + 3, none⟩ = some (.int .i64 r2.2.1.1) ∧ w'.cell? ⟨(ad.add (k * 7)).block, (ad.add (k * 7)).off + 4, none⟩ = some (.int .i64 r2.2.1.2.1) ∧ w'.cell? ⟨(ad.add (k * 7)).block, (ad.add (k * 7)).off + 5, none⟩ = some (.int .i64 r2.2.1.2.2)) (go_keep)
        (first
          | (go_at_call 26; refine (refless_is bl r.2.1 r2.2.1 _ HBL.out).mono ?_; rintro e w2 ⟨rfl, hb2⟩; have HB2 := Aside0.mk (below_step (w := wr) (by repeat (first | exact Below.refl _ _ | apply below_alloc | apply below_drew | apply pw_below_drewN)) hb2); have c3 := pw_cell_below HB2.out g3; have c4 := pw_cell_below HB2.out g4; have c5 := pw_cell_below HB2.out g5; have d0 := pw_cell_below HB2.out m0; have d1 := pw_cell_below HB2.out m1; have d2 := pw_cell_below HB2.out m2; have d3 := pw_cell_below HB2.out m3; have d4 := pw_cell_below HB2.out m4; have d5 := pw_cell_below HB2.out m5; have d6 := pw_cell_below HB2.out m6; clear hb2))
      all_goals
        have BKb : Aside0 (w2.heap[gb]? = some (.cells (regCells r B b) 49 (0, 0))) := ⟨(HB2.out.block _ (blk_lt HBK.out)).trans HBK.out⟩
        have HBW := Aside0.mk (below_step HW.out HB2.out)
        have x0 : w2.cell? ⟨gb, 0, none⟩ = some (.int .i64 r.1.1) := (blk_cell BKb.out 0).trans rfl
        have x1 : w2.cell? ⟨gb, 1, none⟩ = some (.int .i64 r.1.2.1) := (blk_cell BKb.out 1).trans rfl
        have x2 : w2.cell? ⟨gb, 2, none⟩ = some (.int .i64 r.1.2.2) := (blk_cell BKb.out 2).trans rfl
        have x6 : w2.cell? ⟨gb, 6, none⟩ = some (.slice B r.2.2.length b) := (blk_cell BKb.out 6).trans rfl
        have f0 := blk_frozen BKb.out 0
        have f1 := blk_frozen BKb.out 1
        have f2 := blk_frozen BKb.out 2
        have f3 := blk_frozen BKb.out 3
        have f4 := blk_frozen BKb.out 4
        have f5 := blk_frozen BKb.out 5
        have f6 := blk_frozen BKb.out 6
        clear m0 m1 m2 m3 m4 m5 m6 g3 g4 g5
        cases bl
        · go_wp2
          go_roundw
          case rel => exact ⟨k + 1, B, b, r, by omega, by go_num, ⟨by rw [newest_take list k hlt, ← HRE.out, ← HR2.out]; unfold stepN; rw [HBL.out]; rfl⟩, ⟨by repeat (first | exact BKb.out | apply blk_drew)⟩, HCB, HLB, ⟨by repeat (first | exact HBW.out | apply below_drew)⟩⟩
          case measure => simp [intOf]; omega
        · go_wp2
          go_roundw
          case rel => exact ⟨k + 1, B2, b2, r2, by omega, by go_num, ⟨by rw [newest_take list k hlt, ← HRE.out, ← HR2.out]; unfold stepN; rw [HBL.out]; rfl⟩, ⟨put7 BKb.out⟩, HC2, HL2, ⟨put7_below HBW.out (by rw [HGB.out]; omega)⟩⟩
          case measure => simp [intOf]; omega
    · have he : list.take k = list := List.take_of_length_le (by omega)
      have hr1 := HRE.out
      rw [he] at hr1
      have z6 : wr.cell? ⟨gb, 6, none⟩ = some (.slice B r.2.2.length b) := (blk_cell HBK.out 6).trans rfl
      have HRR := Aside0.mk hr1
      clear hr1 he
      go_wp2
      go_ret
      rw [← HRR.out]
      exact ⟨B, b, rfl, HLB.out, Kd.C_below HCB.out HW.out, HW.out⟩
end Go.Proofs.Ytefeklhdaafbbaa.MAll

/- ChangeDoes: what every change does to every value. The walk. -/
import Derived.Test.YtefeklhdaafbbaaMakes
import Derived.Test.YtefeklhdaafbbaaRefDo
import Derived.Test.YtefeklhdaafbbaaChains
import Derived.Deep.RegionHeld3
import Derived.Deep.DrawnRows
set_option linter.unusedVariables false
set_option linter.unusedSimpArgs false
namespace Go.Proofs.Ytefeklhdaafbbaa.MAll
open Go.RowKit Go.Proofs.YtefeklhdaafbbaaW.PrintWords Go.Proofs.YtefeklhdaafbbaaW.PrintLast Go.Proofs.YtefeklhdaafbbaaW.PrintMore
attribute [local go_sem ↓] Go.wp_at_zero Go.wp_at_succ

def CutD (w : World) (old new : List Int) (kind : Int) (v5 : Value) (wc : World) : Prop :=
  ∃ gd ga gb : Nat, v5 = .pointer (some ⟨gd, 0, none⟩) ∧ Aside0 (wc.heap[gd]? = some (.cells #[.int .i64 kind, .slice (some ⟨ga, 0, none⟩) old.length (old.length + 1), .slice (some ⟨gb, 0, none⟩) new.length (new.length + 1)] 24 (0, 0))) ∧
    Aside0 (Marked wc ga old) ∧ Aside0 (Marked wc gb new) ∧ Aside0 (Below w.heap.size w wc)

theorem put3 {W : World} {g : Nat} {a b c x y z : Value} {t : TypeId} (h : W.heap[g]? = some (.cells #[a, b, c] t (0, 0))) : (((W.setCell ⟨g, 0, none⟩ x).setCell ⟨g, 1, none⟩ y).setCell ⟨g, 2, none⟩ z).heap[g]? = some (.cells #[x, y, z] t (0, 0)) := by
  refine blk_put (cs := #[x, y, c]) ?_ 2 _ rfl
  refine blk_put (cs := #[x, b, c]) ?_ 1 _ rfl
  exact blk_put (cs := #[a, b, c]) h 0 _ rfl
theorem put3_marked {W : World} {g g' : Nat} {x y z : Value} {l : List Int} (h : Marked W g' l) (hne : g' ≠ g) : Marked (((W.setCell ⟨g, 0, none⟩ x).setCell ⟨g, 1, none⟩ y).setCell ⟨g, 2, none⟩ z) g' l :=
  grown_marked (grown_marked (grown_marked h (grown_setCell _ _ _ _) hne) (grown_setCell _ _ _ _) hne) (grown_setCell _ _ _ _) hne
theorem put3_below {w W : World} {g : Nat} {x y z : Value} (h : Below w.heap.size w W) (hg : w.heap.size ≤ g) : Below w.heap.size w (((W.setCell ⟨g, 0, none⟩ x).setCell ⟨g, 1, none⟩ y).setCell ⟨g, 2, none⟩ z) :=
  below_set (below_set (below_set h hg) hg) hg

theorem num_is (q : Int) (a : Option Int) (w : World) (hq : a.getD 0 = q) (ha : a ≠ some 0) : Calls Try.prog 13 #[errW a] w fun e w' => e = .returned (.int .i64 q) ∧ Below w.heap.size w w' := by
  subst hq
  refine (estuarynum_Num.calls a (a.getD 0) w ?_).mono fun _ _ ⟨he, hd⟩ => ⟨he, hd.below⟩
  unfold estuarynum_Num.f
  cases a with
  | none => rfl
  | some c =>
    have hc : ¬ c = 0 := fun e => ha (by rw [e])
    simp [hc]
theorem doE_ne (kind : Int) (old new v : List Int) : doE kind old new v ≠ some 0 := by
  unfold doE
  split
  · split
    · simp
    · split <;> simp
  · simp
theorem check_yes {kind : Int} {o n : List Int} (h : good kind o n = true) : errW (if good kind o n then none else some 2) = .nilIface := by rw [h]; rfl
theorem check_no {kind : Int} {o n : List Int} (h : good kind o n = false) : errW (if good kind o n then none else some 2) = .iface 40 (.int .i64 2) := by rw [h]; rfl
theorem doV_le (kind : Int) (old new v : List Int) : (doV kind old new v).length ≤ new.length + v.length := by
  unfold doV
  split <;> omega
theorem R_wipe {w : World} {base n c : Nat} {ok : Nat → Prop} {A : Option Addr} {xs : List Int} (h : (Kd.int .i64).R 3 w base ok (.slice A n c) xs) (hb : base ≤ w.heap.size) : ∃ g, base ≤ g ∧ (0 < n → A = some ⟨g, 0, none⟩ ∧ ∃ cs, w.heap[g]? = some (.cells cs 3 (0, 0)) ∧ n ≤ cs.size) := by
  obtain ⟨rfl, _⟩ := Kd.R_reads' h
  have ho := Kd.own_of_R h
  rcases ho.2 with ⟨h1, h2⟩ | ⟨g, cap, cur, h1, hg, hh, h2, _, hs, _⟩
  · exact ⟨w.heap.size, hb, fun hp => by omega⟩
  · injection h1 with h3 h4 h5
    exact ⟨g, hg, fun _ => ⟨h3, cur, hh, by omega⟩⟩
def Wipe2 (g n : Nat) (w : World) (v : Value) (wr : World) : Prop :=
  ∃ (k : Nat), k ≤ n ∧ v = .int .i64 k ∧ Aside0 (0 < n → ∃ cs, wr.heap[g]? = some (.cells cs 3 (0, 0)) ∧ n ≤ cs.size) ∧ Aside0 (w.grownBy wr (some g))

set_option maxHeartbeats 1000000 in
set_option maxRecDepth 100000 in
theorem does_walk {q0 q1 : Prop} (w : World) (kind : Int) (A0 : Option Addr) (c0 : Nat) (old : List Int) (hr0 : (Kd.int .i64).C w A0 old.length old) (hc0 : old.length ≤ c0) (A1 : Option Addr) (c1 : Nat) (new : List Int) (hr1 : (Kd.int .i64).C w A1 new.length new) (hc1 : new.length ≤ c1)
    (A2 : Option Addr) (c2 : Nat) (value : List Int) (hr2 : (Kd.int .i64).C w A2 value.length value) (hc2 : value.length ≤ c2) (hl0 : old.length < 17592186044416) (hl1 : new.length < 17592186044416) (hl2 : value.length < 17592186044416) :
    Calls Try.prog 3 #[.agg #[.int .i64 kind, .slice A0 old.length c0, .slice A1 new.length c1], .slice A2 value.length c2] w fun e w' => e = .returned (.bool true) ∧ Below w.heap.size w w' := by
  have HR0 := Aside0.mk hr0
  have HR1 := Aside0.mk hr1
  have HR2 := Aside0.mk hr2
  have hu24 := Try.underlying24
  obtain ⟨gc, hgc⟩ : ∃ gc, gc = w.heap.size := ⟨_, rfl⟩
  have hbox : Aside0 ((w.alloc (.cells #[.int .i64 kind, .slice A0 old.length c0, .slice A1 new.length c1] 24)).heap[gc]? = some (.cells #[.int .i64 kind, .slice A0 old.length c0, .slice A1 new.length c1] 24 (0, 0))) := ⟨by rw [hgc]; exact blk_new w _⟩
  have HBX := Aside0.mk (below_alloc (Below.refl _ w) (.cells #[.int .i64 kind, .slice A0 old.length c0, .slice A1 new.length c1] 24))
  have HGC := Aside0.mk hgc
  have HL0 := Aside0.mk hl0
  have HL1 := Aside0.mk hl1
  have HL2 := Aside0.mk hl2
  clear hr0 hr1 hr2 hgc hl0 hl1 hl2
  by_cases h1 : old.length + new.length + value.length ≤ 1000
  · go_enter Try.func3, Try.ntmps3
    go_upto_region 5 with (go_at_call 8; refine (alive_any _).mono ?_; rintro e w1 ⟨rfl, hb1⟩; have HB := Aside0.mk (below_step HBX.out hb1); have BKC := Aside0.mk ((hb1.block _ (blk_lt hbox.out)).trans hbox.out); rw [← HGC.out]; have HX0 := Aside0.mk (Kd.C_below HR0.out HB.out); have HX1 := Aside0.mk (Kd.C_below HR1.out HB.out); have z0 : w1.cell? ⟨gc, 0, none⟩ = some (.int .i64 kind) := (blk_cell BKC.out 0).trans rfl; have z1 : w1.cell? ⟨gc, 1, none⟩ = some (.slice A0 old.length c0) := (blk_cell BKC.out 1).trans rfl; have z2 : w1.cell? ⟨gc, 2, none⟩ = some (.slice A1 new.length c1) := (blk_cell BKC.out 2).trans rfl; clear hb1)
    have n0 := World.new_ne w1 ⟨gc, 0, none⟩ z0
    go_cut [5] (fun v5 wc => CutD w1 old new kind v5 wc)
    case first =>
      go_region_held3 (fun w' => w'.cell? ⟨gc, 0, none⟩ = some (.int .i64 kind) ∧ w'.cell? ⟨gc, 1, none⟩ = some (.slice A0 old.length c0) ∧ w'.cell? ⟨gc, 2, none⟩ = some (.slice A1 new.length c1)) (go_keep)
        (first
          | (go_at_call_of 9 (Value.slice A0 old.length c0); refine (marked_any A0 c0 old _ (by repeat (first | exact HX0.out | apply Kd.C_alloc | apply Kd.C_drew | apply Kd.C_drewN)) hc0 (by omega)).mono ?_; rintro e w2 ⟨ga, rfl, hma, hga, hb2⟩; have HB2 := Aside0.mk (below_step (w := w1) (by repeat (first | exact Below.refl _ _ | apply below_alloc | apply below_drew)) hb2); have k0 : w2.cell? ⟨gc, 0, none⟩ = some (.int .i64 kind) := pw_cell_below HB2.out z0; have k1 : w2.cell? ⟨gc, 1, none⟩ = some (.slice A0 old.length c0) := pw_cell_below HB2.out z1; have k2 : w2.cell? ⟨gc, 2, none⟩ = some (.slice A1 new.length c1) := pw_cell_below HB2.out z2; have HMa := Aside0.mk hma; have n2 := World.new_ne w2 ⟨gc, 0, none⟩ k0; (try have HD2 := Aside0.mk ((hb2.block w1.heap.size (by simp)).trans (blk_new w1 (.cells #[.int .i64 0, .slice none 0 0, .slice none 0 0] 24)))); have HGa := Aside0.mk hga; clear hma hga hb2)
          | (go_at_call_of 9 (Value.slice A1 new.length c1); refine (marked_any A1 c1 new _ (by repeat (first | exact (Kd.C_below HX1.out HB2.out) | apply Kd.C_alloc | apply Kd.C_drew | apply Kd.C_drewN)) hc1 (by omega)).mono ?_; rintro e w3 ⟨gb, rfl, hmb, hgb, hb3⟩; have HB3 := Aside0.mk (below_step (w := w2) (by repeat (first | exact Below.refl _ _ | apply below_alloc | apply below_drew)) hb3); have y0 : w3.cell? ⟨gc, 0, none⟩ = some (.int .i64 kind) := pw_cell_below HB3.out k0; have y1 : w3.cell? ⟨gc, 1, none⟩ = some (.slice A0 old.length c0) := pw_cell_below HB3.out k1; have y2 : w3.cell? ⟨gc, 2, none⟩ = some (.slice A1 new.length c1) := pw_cell_below HB3.out k2; have HMb := Aside0.mk hmb; have n3 := World.new_ne w3 ⟨gc, 0, none⟩ y0; (try have HD3 := Aside0.mk ((hb3.block w1.heap.size (blk_lt HD2.out)).trans HD2.out)); (try have HD3 := Aside0.mk ((hb3.block w2.heap.size (by simp)).trans (blk_new w2 (.cells #[.int .i64 0, .slice none 0 0, .slice none 0 0] 24)))); (try have e0 : w3.cell? ⟨_, 0, none⟩ = some (.int .i64 0) := (blk_cell HD3.out 0).trans rfl); (try have e1 : w3.cell? ⟨_, 1, none⟩ = some (.slice none 0 0) := (blk_cell HD3.out 1).trans rfl); (try have e2 : w3.cell? ⟨_, 2, none⟩ = some (.slice none 0 0) := (blk_cell HD3.out 2).trans rfl); (try have f0 := blk_frozen HD3.out 0); (try have f1 := blk_frozen HD3.out 1); (try have f2 := blk_frozen HD3.out 2); have HGb := Aside0.mk hgb; clear hmb hgb hb3))
      · go_wp2_with fail
        go_meet
        exact ⟨w3.heap.size, ga, gb, rfl, ⟨blk_new w3 _⟩, ⟨(HMa.out.below HB3.out).below (below_alloc (Below.refl _ _) _)⟩, ⟨HMb.out.below (below_alloc (Below.refl _ _) _)⟩, ⟨below_alloc (below_step HB2.out HB3.out) _⟩⟩
      · go_wp2_with fail
        go_meet
        have h1 : ga ≠ w2.heap.size := by have := blk_lt HMa.out; omega
        have h2 : gb ≠ w2.heap.size := by have := HGb.out; simp at this; omega
        exact ⟨w2.heap.size, ga, gb, rfl, ⟨put3 HD3.out⟩, ⟨put3_marked (HMa.out.below HB3.out) h1⟩, ⟨put3_marked HMb.out h2⟩, ⟨put3_below (below_step HB2.out HB3.out) HB2.out.size⟩⟩
      · go_wp2_with fail
        go_meet
        have h1 : ga ≠ w1.heap.size := by have := HGa.out; simp at this; omega
        have h2 : gb ≠ w1.heap.size := by have := HGb.out; have := HB2.out.size; have := blk_lt HD2.out; omega
        exact ⟨w1.heap.size, ga, gb, rfl, ⟨put3 HD3.out⟩, ⟨put3_marked (HMa.out.below HB3.out) h1⟩, ⟨put3_marked HMb.out h2⟩, ⟨put3_below (below_step HB2.out HB3.out) (Nat.le_refl _)⟩⟩
    case rest =>
      obtain ⟨gd, ga, gb, rfl, HD, HMa, HMb, HBc⟩ := hcut
      have HVc := Aside0.mk (Kd.C_below (Kd.C_below HR2.out HB.out) HBc.out)
      clear z0 z1 z2 n0
      have HBw := Aside0.mk (below_step HB.out HBc.out)
      go_wp2_with fail
      refine (marked_any A2 c2 value _ HVc.out hc2 (by omega)).mono ?_
      rintro e wv ⟨gv, rfl, hmv, hgv, hbv⟩
      have HMav := Aside0.mk (HMa.out.below hbv)
      have HMbv := Aside0.mk (HMb.out.below hbv)
      have HMv := Aside0.mk hmv
      have HDv : Aside0 (wv.heap[gd]? = some (.cells #[.int .i64 kind, .slice (some ⟨ga, 0, none⟩) old.length (old.length + 1), .slice (some ⟨gb, 0, none⟩) new.length (new.length + 1)] 24 (0, 0))) := ⟨(hbv.block _ (blk_lt HD.out)).trans HD.out⟩
      have BKv : Aside0 (wv.heap[gc]? = some (.cells #[.int .i64 kind, .slice A0 old.length c0, .slice A1 new.length c1] 24 (0, 0))) := ⟨(hbv.block _ (Nat.lt_of_lt_of_le (blk_lt BKC.out) HBc.out.size)).trans ((HBc.out.block _ (blk_lt BKC.out)).trans BKC.out)⟩
      have HBv := Aside0.mk (below_step HBw.out hbv)
      clear hmv hgv hbv
      have d0 : wv.cell? ⟨gd, 0, none⟩ = some (.int .i64 kind) := (blk_cell HDv.out 0).trans rfl
      have d1 : wv.cell? ⟨gd, 1, none⟩ = some (.slice (some ⟨ga, 0, none⟩) old.length (old.length + 1)) := (blk_cell HDv.out 1).trans rfl
      have d2 : wv.cell? ⟨gd, 2, none⟩ = some (.slice (some ⟨gb, 0, none⟩) new.length (new.length + 1)) := (blk_cell HDv.out 2).trans rfl
      go_wp2_with fail
      refine (do_any kind _ _ old _ _ new _ _ value _ (HMav.out.C (by omega)) (by omega) (HMbv.out.C (by omega)) (by omega) (HMv.out.C (by omega)) (by omega) (by omega) (by omega) (by omega)).mono ?_
      rintro e w4 ⟨u, rfl, hR, hb4⟩
      obtain ⟨x, hx⟩ : ∃ x, doV kind old new value = x := ⟨_, rfl⟩
      obtain ⟨ee, hee⟩ : ∃ ee, doE kind old new value = ee := ⟨_, rfl⟩
      rw [hx] at hR
      rw [hee]
      obtain ⟨Ax, cx, rfl⟩ := Kd.R_slice hR
      have HXV := Aside0.mk hx
      have HEE := Aside0.mk hee
      have HRx := Aside0.mk hR
      have HBv4 := Aside0.mk hb4
      have HB4 := Aside0.mk (below_step HBv.out hb4)
      have z0 : w4.cell? ⟨gc, 0, none⟩ = some (.int .i64 kind) := pw_cell_below hb4 ((blk_cell BKv.out 0).trans rfl)
      have z1 : w4.cell? ⟨gc, 1, none⟩ = some (.slice A0 old.length c0) := pw_cell_below hb4 ((blk_cell BKv.out 1).trans rfl)
      have z2 : w4.cell? ⟨gc, 2, none⟩ = some (.slice A1 new.length c1) := pw_cell_below hb4 ((blk_cell BKv.out 2).trans rfl)
      clear hR hb4 hx hee d0 d1 d2
      go_wp2_with fail
      refine (refdo_is x (ee.getD 0) kind A0 c0 old A1 c1 new A2 c2 value _ HXV.out (by rw [HEE.out]) (Kd.C_below HR0.out HB4.out) hc0 (Kd.C_below HR1.out HB4.out) hc1 (Kd.C_below HR2.out HB4.out) hc2).mono ?_
      rintro e w5 ⟨Ay, cy, rfl, hly, hCy, hb5⟩
      have HCy := Aside0.mk hCy
      have Hly := Aside0.mk hly
      have HB5 := Aside0.mk (below_step HB4.out hb5)
      have HRx5 := Aside0.mk (Kd.R_below HRx.out hb5)
      have HBv5 := Aside0.mk (below_step HBv4.out hb5)
      obtain ⟨q, hq⟩ : ∃ q, ee.getD 0 = q := ⟨_, rfl⟩
      rw [hq]
      have HQ := Aside0.mk hq
      have x0 : w5.cell? ⟨gc, 0, none⟩ = some (.int .i64 kind) := pw_cell_below hb5 z0
      have x1 : w5.cell? ⟨gc, 1, none⟩ = some (.slice A0 old.length c0) := pw_cell_below hb5 z1
      have x2 : w5.cell? ⟨gc, 2, none⟩ = some (.slice A1 new.length c1) := pw_cell_below hb5 z2
      have e0 : w5.cell? ⟨gd, 0, none⟩ = some (.int .i64 kind) := pw_cell_below HBv5.out ((blk_cell HDv.out 0).trans rfl)
      have e1 : w5.cell? ⟨gd, 1, none⟩ = some (.slice (some ⟨ga, 0, none⟩) old.length (old.length + 1)) := pw_cell_below HBv5.out ((blk_cell HDv.out 1).trans rfl)
      have e2 : w5.cell? ⟨gd, 2, none⟩ = some (.slice (some ⟨gb, 0, none⟩) new.length (new.length + 1)) := pw_cell_below HBv5.out ((blk_cell HDv.out 2).trans rfl)
      clear hCy hly hb5 hq z0 z1 z2
      go_upto_region 9 with fail
      go_cut [65] (fun v65 wc => v65 = .bool false ∧ Aside0 (Below w5.heap.size w5 wc))
      case first =>
        have HXR := Aside0.mk (Kd.R_reads' HRx5.out)
        have HNE : Aside0 (ee ≠ some 0) := ⟨by rw [← HEE.out]; exact doE_ne kind old new value⟩
        have HCo := Aside0.mk (Kd.C_below (HMav.out.C (by omega)) HBv5.out)
        have HCn := Aside0.mk (Kd.C_below (HMbv.out.C (by omega)) HBv5.out)
        have HC0 := Aside0.mk (Kd.C_below HR0.out HB5.out)
        have HC1 := Aside0.mk (Kd.C_below HR1.out HB5.out)
        have hu28 := Try.underlying28
        have hu40 := Try.underlying40
        obtain ⟨b, hb⟩ : ∃ b, good kind old new = b := ⟨_, rfl⟩
        have HG := Aside0.mk hb
        clear hb
        cases b
        · go_region_held3 (fun w' => w'.cell? ⟨gc, 0, none⟩ = some (.int .i64 kind) ∧ w'.cell? ⟨gc, 1, none⟩ = some (.slice A0 old.length c0) ∧ w'.cell? ⟨gc, 2, none⟩ = some (.slice A1 new.length c1) ∧ w'.cell? ⟨gd, 0, none⟩ = some (.int .i64 kind) ∧ w'.cell? ⟨gd, 1, none⟩ = some (.slice (some ⟨ga, 0, none⟩) old.length (old.length + 1)) ∧ w'.cell? ⟨gd, 2, none⟩ = some (.slice (some ⟨gb, 0, none⟩) new.length (new.length + 1))) (go_keep)
          (first
            | (go_at_call 12; refine (ints_is true _ _ _ _ _ _ _ (decide_eq_true rfl) (by repeat (first | exact HXR.out.2.2 | apply Kd.C_drew | apply Kd.C_drewN)) HXR.out.2.1 (by repeat (first | exact HCy.out | apply Kd.C_drew | apply Kd.C_drewN)) Hly.out).mono ?_; rintro e w6 ⟨rfl, hb6⟩; have HB6 := Aside0.mk (below_step (w := w5) (by repeat (first | exact Below.refl _ _ | apply below_drew | apply below_alloc | apply pw_below_drewN)) hb6); have x0a : w6.cell? ⟨gc, 0, none⟩ = some (.int .i64 kind) := pw_cell_below HB6.out x0; have x1a : w6.cell? ⟨gc, 1, none⟩ = some (.slice A0 old.length c0) := pw_cell_below HB6.out x1; have x2a : w6.cell? ⟨gc, 2, none⟩ = some (.slice A1 new.length c1) := pw_cell_below HB6.out x2; have e0a : w6.cell? ⟨gd, 0, none⟩ = some (.int .i64 kind) := pw_cell_below HB6.out e0; have e1a : w6.cell? ⟨gd, 1, none⟩ = some (.slice (some ⟨ga, 0, none⟩) old.length (old.length + 1)) := pw_cell_below HB6.out e1; have e2a : w6.cell? ⟨gd, 2, none⟩ = some (.slice (some ⟨gb, 0, none⟩) new.length (new.length + 1)) := pw_cell_below HB6.out e2; clear hb6)
            | (go_at_call 13; refine (num_is q ee _ HQ.out HNE.out).mono ?_; rintro e w7 ⟨rfl, hb7⟩; have HB7 := Aside0.mk (below_step (w := w5) (by repeat (first | exact HB6.out | apply below_drew | apply below_alloc | apply pw_below_drewN)) hb7); have x0b : w7.cell? ⟨gc, 0, none⟩ = some (.int .i64 kind) := pw_cell_below HB7.out x0; have x1b : w7.cell? ⟨gc, 1, none⟩ = some (.slice A0 old.length c0) := pw_cell_below HB7.out x1; have x2b : w7.cell? ⟨gc, 2, none⟩ = some (.slice A1 new.length c1) := pw_cell_below HB7.out x2; have e0b : w7.cell? ⟨gd, 0, none⟩ = some (.int .i64 kind) := pw_cell_below HB7.out e0; have e1b : w7.cell? ⟨gd, 1, none⟩ = some (.slice (some ⟨ga, 0, none⟩) old.length (old.length + 1)) := pw_cell_below HB7.out e1; have e2b : w7.cell? ⟨gd, 2, none⟩ = some (.slice (some ⟨gb, 0, none⟩) new.length (new.length + 1)) := pw_cell_below HB7.out e2; clear hb7)
            | (go_at_call 14; refine (check_is (.iface 40 (.int .i64 2)) kind _ _ _ _ _ _ _ (check_no HG.out) (by repeat (first | exact (Kd.C_below HCo.out HB7.out) | apply Kd.C_drew | apply Kd.C_drewN | apply Kd.C_alloc)) (by omega) (by repeat (first | exact (Kd.C_below HCn.out HB7.out) | apply Kd.C_drew | apply Kd.C_drewN | apply Kd.C_alloc)) (by omega) (by omega) (by omega)).mono ?_; rintro e w8 ⟨rfl, hb8⟩; have HB8 := Aside0.mk (below_step (w := w5) (by repeat (first | exact HB7.out | apply below_drew | apply below_alloc | apply pw_below_drewN)) hb8); have x0c : w8.cell? ⟨gc, 0, none⟩ = some (.int .i64 kind) := pw_cell_below HB8.out x0; have x1c : w8.cell? ⟨gc, 1, none⟩ = some (.slice A0 old.length c0) := pw_cell_below HB8.out x1; have x2c : w8.cell? ⟨gc, 2, none⟩ = some (.slice A1 new.length c1) := pw_cell_below HB8.out x2; have e0c : w8.cell? ⟨gd, 0, none⟩ = some (.int .i64 kind) := pw_cell_below HB8.out e0; have e1c : w8.cell? ⟨gd, 1, none⟩ = some (.slice (some ⟨ga, 0, none⟩) old.length (old.length + 1)) := pw_cell_below HB8.out e1; have e2c : w8.cell? ⟨gd, 2, none⟩ = some (.slice (some ⟨gb, 0, none⟩) new.length (new.length + 1)) := pw_cell_below HB8.out e2; clear hb8)
            | (go_at_call 15; refine (refgood_is false kind _ _ _ _ _ _ _ HG.out (by repeat (first | exact (Kd.C_below HC0.out HB8.out) | apply Kd.C_drew | apply Kd.C_drewN | apply Kd.C_alloc)) hc0 (by repeat (first | exact (Kd.C_below HC1.out HB8.out) | apply Kd.C_drew | apply Kd.C_drewN | apply Kd.C_alloc)) hc1).mono ?_; rintro e w9 ⟨rfl, hb9⟩; have HB9 := Aside0.mk (below_step (w := w5) (by repeat (first | exact HB8.out | apply below_drew | apply below_alloc | apply pw_below_drewN)) hb9); have x0d : w9.cell? ⟨gc, 0, none⟩ = some (.int .i64 kind) := pw_cell_below HB9.out x0; have x1d : w9.cell? ⟨gc, 1, none⟩ = some (.slice A0 old.length c0) := pw_cell_below HB9.out x1; have x2d : w9.cell? ⟨gc, 2, none⟩ = some (.slice A1 new.length c1) := pw_cell_below HB9.out x2; have e0d : w9.cell? ⟨gd, 0, none⟩ = some (.int .i64 kind) := pw_cell_below HB9.out e0; have e1d : w9.cell? ⟨gd, 1, none⟩ = some (.slice (some ⟨ga, 0, none⟩) old.length (old.length + 1)) := pw_cell_below HB9.out e1; have e2d : w9.cell? ⟨gd, 2, none⟩ = some (.slice (some ⟨gb, 0, none⟩) new.length (new.length + 1)) := pw_cell_below HB9.out e2; clear hb9))
          all_goals (go_wp2_with fail; go_meet; exact ⟨rfl, ⟨by repeat (first | exact HB9.out | apply below_drew)⟩⟩)
        · go_region_held3 (fun w' => w'.cell? ⟨gc, 0, none⟩ = some (.int .i64 kind) ∧ w'.cell? ⟨gc, 1, none⟩ = some (.slice A0 old.length c0) ∧ w'.cell? ⟨gc, 2, none⟩ = some (.slice A1 new.length c1) ∧ w'.cell? ⟨gd, 0, none⟩ = some (.int .i64 kind) ∧ w'.cell? ⟨gd, 1, none⟩ = some (.slice (some ⟨ga, 0, none⟩) old.length (old.length + 1)) ∧ w'.cell? ⟨gd, 2, none⟩ = some (.slice (some ⟨gb, 0, none⟩) new.length (new.length + 1))) (go_keep)
          (first
            | (go_at_call 12; refine (ints_is true _ _ _ _ _ _ _ (decide_eq_true rfl) (by repeat (first | exact HXR.out.2.2 | apply Kd.C_drew | apply Kd.C_drewN)) HXR.out.2.1 (by repeat (first | exact HCy.out | apply Kd.C_drew | apply Kd.C_drewN)) Hly.out).mono ?_; rintro e w6 ⟨rfl, hb6⟩; have HB6 := Aside0.mk (below_step (w := w5) (by repeat (first | exact Below.refl _ _ | apply below_drew | apply below_alloc | apply pw_below_drewN)) hb6); have x0a : w6.cell? ⟨gc, 0, none⟩ = some (.int .i64 kind) := pw_cell_below HB6.out x0; have x1a : w6.cell? ⟨gc, 1, none⟩ = some (.slice A0 old.length c0) := pw_cell_below HB6.out x1; have x2a : w6.cell? ⟨gc, 2, none⟩ = some (.slice A1 new.length c1) := pw_cell_below HB6.out x2; have e0a : w6.cell? ⟨gd, 0, none⟩ = some (.int .i64 kind) := pw_cell_below HB6.out e0; have e1a : w6.cell? ⟨gd, 1, none⟩ = some (.slice (some ⟨ga, 0, none⟩) old.length (old.length + 1)) := pw_cell_below HB6.out e1; have e2a : w6.cell? ⟨gd, 2, none⟩ = some (.slice (some ⟨gb, 0, none⟩) new.length (new.length + 1)) := pw_cell_below HB6.out e2; clear hb6)
            | (go_at_call 13; refine (num_is q ee _ HQ.out HNE.out).mono ?_; rintro e w7 ⟨rfl, hb7⟩; have HB7 := Aside0.mk (below_step (w := w5) (by repeat (first | exact HB6.out | apply below_drew | apply below_alloc | apply pw_below_drewN)) hb7); have x0b : w7.cell? ⟨gc, 0, none⟩ = some (.int .i64 kind) := pw_cell_below HB7.out x0; have x1b : w7.cell? ⟨gc, 1, none⟩ = some (.slice A0 old.length c0) := pw_cell_below HB7.out x1; have x2b : w7.cell? ⟨gc, 2, none⟩ = some (.slice A1 new.length c1) := pw_cell_below HB7.out x2; have e0b : w7.cell? ⟨gd, 0, none⟩ = some (.int .i64 kind) := pw_cell_below HB7.out e0; have e1b : w7.cell? ⟨gd, 1, none⟩ = some (.slice (some ⟨ga, 0, none⟩) old.length (old.length + 1)) := pw_cell_below HB7.out e1; have e2b : w7.cell? ⟨gd, 2, none⟩ = some (.slice (some ⟨gb, 0, none⟩) new.length (new.length + 1)) := pw_cell_below HB7.out e2; clear hb7)
            | (go_at_call 14; refine (check_is .nilIface kind _ _ _ _ _ _ _ (check_yes HG.out) (by repeat (first | exact (Kd.C_below HCo.out HB7.out) | apply Kd.C_drew | apply Kd.C_drewN | apply Kd.C_alloc)) (by omega) (by repeat (first | exact (Kd.C_below HCn.out HB7.out) | apply Kd.C_drew | apply Kd.C_drewN | apply Kd.C_alloc)) (by omega) (by omega) (by omega)).mono ?_; rintro e w8 ⟨rfl, hb8⟩; have HB8 := Aside0.mk (below_step (w := w5) (by repeat (first | exact HB7.out | apply below_drew | apply below_alloc | apply pw_below_drewN)) hb8); have x0c : w8.cell? ⟨gc, 0, none⟩ = some (.int .i64 kind) := pw_cell_below HB8.out x0; have x1c : w8.cell? ⟨gc, 1, none⟩ = some (.slice A0 old.length c0) := pw_cell_below HB8.out x1; have x2c : w8.cell? ⟨gc, 2, none⟩ = some (.slice A1 new.length c1) := pw_cell_below HB8.out x2; have e0c : w8.cell? ⟨gd, 0, none⟩ = some (.int .i64 kind) := pw_cell_below HB8.out e0; have e1c : w8.cell? ⟨gd, 1, none⟩ = some (.slice (some ⟨ga, 0, none⟩) old.length (old.length + 1)) := pw_cell_below HB8.out e1; have e2c : w8.cell? ⟨gd, 2, none⟩ = some (.slice (some ⟨gb, 0, none⟩) new.length (new.length + 1)) := pw_cell_below HB8.out e2; clear hb8)
            | (go_at_call 15; refine (refgood_is true kind _ _ _ _ _ _ _ HG.out (by repeat (first | exact (Kd.C_below HC0.out HB8.out) | apply Kd.C_drew | apply Kd.C_drewN | apply Kd.C_alloc)) hc0 (by repeat (first | exact (Kd.C_below HC1.out HB8.out) | apply Kd.C_drew | apply Kd.C_drewN | apply Kd.C_alloc)) hc1).mono ?_; rintro e w9 ⟨rfl, hb9⟩; have HB9 := Aside0.mk (below_step (w := w5) (by repeat (first | exact HB8.out | apply below_drew | apply below_alloc | apply pw_below_drewN)) hb9); have x0d : w9.cell? ⟨gc, 0, none⟩ = some (.int .i64 kind) := pw_cell_below HB9.out x0; have x1d : w9.cell? ⟨gc, 1, none⟩ = some (.slice A0 old.length c0) := pw_cell_below HB9.out x1; have x2d : w9.cell? ⟨gc, 2, none⟩ = some (.slice A1 new.length c1) := pw_cell_below HB9.out x2; have e0d : w9.cell? ⟨gd, 0, none⟩ = some (.int .i64 kind) := pw_cell_below HB9.out e0; have e1d : w9.cell? ⟨gd, 1, none⟩ = some (.slice (some ⟨ga, 0, none⟩) old.length (old.length + 1)) := pw_cell_below HB9.out e1; have e2d : w9.cell? ⟨gd, 2, none⟩ = some (.slice (some ⟨gb, 0, none⟩) new.length (new.length + 1)) := pw_cell_below HB9.out e2; clear hb9))
          all_goals (go_wp2_with fail; go_meet; exact ⟨rfl, ⟨by repeat (first | exact HB9.out | apply below_drew)⟩⟩)
      case rest =>
        obtain ⟨rfl, HBz⟩ := hcut
        have HBvz := Aside0.mk (below_step HBv5.out HBz.out)
        have HB5z := Aside0.mk (below_step HB5.out HBz.out)
        obtain ⟨g, hg, hgx⟩ := R_wipe (Kd.R_below HRx5.out HBz.out) HBvz.out.size
        have HWP := Aside0.mk hgx
        have Hg := Aside0.mk hg
        have HMaz := Aside0.mk (HMav.out.below HBvz.out)
        have HMbz := Aside0.mk (HMbv.out.below HBvz.out)
        have HMvz := Aside0.mk (HMv.out.below HBvz.out)
        have HDz : Aside0 (wc.heap[gd]? = some (.cells #[.int .i64 kind, .slice (some ⟨ga, 0, none⟩) old.length (old.length + 1), .slice (some ⟨gb, 0, none⟩) new.length (new.length + 1)] 24 (0, 0))) := ⟨(HBvz.out.block _ (blk_lt HDv.out)).trans HDv.out⟩
        have BKz : Aside0 (wc.heap[gc]? = some (.cells #[.int .i64 kind, .slice A0 old.length c0, .slice A1 new.length c1] 24 (0, 0))) := ⟨(HBvz.out.block _ (blk_lt BKv.out)).trans BKv.out⟩
        have La := blk_lt HMav.out
        have Lb := blk_lt HMbv.out
        have Lv := blk_lt HMv.out
        have Ld := blk_lt HDv.out
        have Lc := blk_lt BKv.out
        have na : ga ≠ g := by omega
        have nb : gb ≠ g := by omega
        have nv : gv ≠ g := by omega
        have nd : gd ≠ g := by omega
        have nc : gc ≠ g := by omega
        clear hg hgx x0 x1 x2 e0 e1 e2
        clear La Lb Lv Ld Lc
        have NA := Aside0.mk na
        have NB := Aside0.mk nb
        have NV := Aside0.mk nv
        have ND := Aside0.mk nd
        have NC := Aside0.mk nc
        clear na nb nv nd nc
        have HXl : x.length ≤ 1000 := by rw [← HXV.out]; have := doV_le kind old new value; omega
        go_wp2_with fail
        go_loopw [68] (fun v wr => Wipe2 g x.length wc v wr) (fun i _ => x.length - (intOf i).toNat)
        case atStart => exact ⟨0, Nat.zero_le _, rfl, ⟨fun h => (HWP.out h).2⟩, ⟨World.grownBy.refl _ _⟩⟩
        case round =>
          obtain ⟨k, hk, rfl, HC, HG⟩ := hrel
          by_cases hlt : k < x.length
          · obtain ⟨hAx, _⟩ := HWP.out (by omega)
            obtain ⟨cs, hcs, hsz⟩ := HC.out (by omega)
            subst hAx
            obtain ⟨⟨u, hu⟩, hf⟩ := wipe_cell hlt hcs hsz
            go_wp2
            go_roundw
            case rel =>
              obtain ⟨cs', y1, y2, y3⟩ := wipe_step k hcs hsz HG.out (.int .i64 (-1))
              exact ⟨k + 1, by omega, by go_num, ⟨fun _ => ⟨cs', y1, y2⟩⟩, ⟨y3⟩⟩
            case measure => simp [intOf]; omega
          · obtain ⟨w6, hw6⟩ : ∃ w6 : World, w6 = wr := ⟨_, rfl⟩
            rw [← hw6] at HC HG ⊢
            clear hw6
            have HMa6 := Aside0.mk (grown_marked HMaz.out HG.out NA.out)
            have HMb6 := Aside0.mk (grown_marked HMbz.out HG.out NB.out)
            have HMv6 := Aside0.mk (grown_marked HMvz.out HG.out NV.out)
            have HD6 := Aside0.mk (grown_blk HDz.out HG.out ND.out)
            have BK6 := Aside0.mk (grown_blk BKz.out HG.out NC.out)
            have HB6 := Aside0.mk (HB5z.out.grown HG.out HB5z.out.size (fun k e => by injection e with e; have := Hg.out; have := HBv.out.size; omega))
            clear HC HG HMaz HMbz HMvz HDz BKz HB5z HBvz
            have z1 : w6.cell? ⟨gc, 1, none⟩ = some (.slice A0 old.length c0) := (blk_cell BK6.out 1).trans rfl
            have e1 : w6.cell? ⟨gd, 1, none⟩ = some (.slice (some ⟨ga, 0, none⟩) old.length (old.length + 1)) := (blk_cell HD6.out 1).trans rfl
            go_wp2_with fail
            refine (stands_any ga A0 c0 old _ HMa6.out (Kd.C_below HR0.out HB6.out) hc0 (by omega)).mono ?_
            rintro e w7 ⟨rfl, hb7⟩
            have HB7 := Aside0.mk hb7
            have z2 : w7.cell? ⟨gc, 2, none⟩ = some (.slice A1 new.length c1) := pw_cell_below hb7 ((blk_cell BK6.out 2).trans rfl)
            have e2 : w7.cell? ⟨gd, 2, none⟩ = some (.slice (some ⟨gb, 0, none⟩) new.length (new.length + 1)) := pw_cell_below hb7 ((blk_cell HD6.out 2).trans rfl)
            clear hb7 z1 e1
            go_wp2_with fail
            refine (stands_any gb A1 c1 new _ (HMb6.out.below HB7.out) (Kd.C_below (Kd.C_below HR1.out HB6.out) HB7.out) hc1 (by omega)).mono ?_
            rintro e w8 ⟨rfl, hb8⟩
            have HB8 := Aside0.mk (below_step HB7.out hb8)
            clear hb8 z2 e2
            go_wp2_with fail
            refine (stands_any gv A2 c2 value _ (HMv6.out.below HB8.out) (Kd.C_below (Kd.C_below HR2.out HB6.out) HB8.out) hc2 (by omega)).mono ?_
            rintro e w9 ⟨rfl, hb9⟩
            have HB9 := Aside0.mk (below_step HB6.out (below_step HB8.out hb9))
            clear hb9
            go_wp2
            go_ret
            exact ⟨rfl, HB9.out⟩
  · have hs1 : wrap64 ((old.length : Int) + (new.length : Int)) = (old.length : Int) + (new.length : Int) := by have := HL0.out; have := HL1.out; unfold wrap64; omega
    have hs2 : wrap64 ((old.length : Int) + (new.length : Int) + (value.length : Int)) = (old.length : Int) + (new.length : Int) + (value.length : Int) := by have := HL0.out; have := HL1.out; have := HL2.out; unfold wrap64; omega
    have hb : decide (1000 < (old.length : Int) + (new.length : Int) + (value.length : Int)) = true := decide_eq_true (by omega)
    clear h1
    go_enter Try.func3, Try.ntmps3
    go_wp2_with (go_at_call 8; refine (alive_any _).mono ?_; rintro e w1 ⟨rfl, hb1⟩; have HB := Aside0.mk (below_step HBX.out hb1); have BKC := Aside0.mk ((hb1.block _ (blk_lt hbox.out)).trans hbox.out); rw [← HGC.out]; have z1 : w1.cell? ⟨gc, 1, none⟩ = some (.slice A0 old.length c0) := (blk_cell BKC.out 1).trans rfl; have z2 : w1.cell? ⟨gc, 2, none⟩ = some (.slice A1 new.length c1) := (blk_cell BKC.out 2).trans rfl; clear hb1)
    all_goals
      go_ret
      exact ⟨rfl, HB.out⟩

theorem bytes3 : Try.prog.bytesOf 3 = 8 := by kernel_rfl
theorem does_walk' (w : World) (cs : Array Value) (y : Int × List Int × List Int) (hK : kCh.K w y cs.toList)
    (hq : (Lit.int .i64 y.1).wf = true ∧ (y.2.1.length * Try.prog.bytesOf 3 ≤ 140737488351232 ∧ ∀ x ∈ y.2.1, (Lit.int .i64 x).wf = true) ∧ (y.2.2.length * Try.prog.bytesOf 3 ≤ 140737488351232 ∧ ∀ x ∈ y.2.2, (Lit.int .i64 x).wf = true))
    (A2 : Option Addr) (c2 : Nat) (value : List Int) (hr2 : (Kd.int .i64).C w A2 value.length value) (hc2 : value.length ≤ c2) (hq2 : value.length * Try.prog.bytesOf 3 ≤ 140737488351232 ∧ ∀ x ∈ value, (Lit.int .i64 x).wf = true) :
    Calls Try.prog 3 #[.agg cs, .slice A2 value.length c2] w fun e w' => e = .returned (.bool true) ∧ Below w.heap.size w w' := by
  obtain ⟨kind, old, new⟩ := y
  obtain ⟨k0, k1, hcs, hk0, k2, k3, rfl, ⟨B, b, rfl, hb, hB⟩, ⟨C, c, rfl, hc, hC⟩⟩ := hK
  have hk0' : k0 = [.int .i64 kind] := hk0
  subst hk0'
  have he : cs = #[.int .i64 kind, .slice B old.length b, .slice C new.length c] := by
    rw [← Array.toArray_toList (xs := cs), hcs]
    rfl
  subst he
  rw [bytes3] at hq hq2
  obtain ⟨_, ⟨h0, _⟩, ⟨h1, _⟩⟩ := hq
  simp only at h0 h1
  have h2 := hq2.1
  exact does_walk (q0 := True) (q1 := True) w kind B b old hB hb C c new hC hc A2 c2 value hr2 hc2 (by omega) (by omega) (by omega)
end Go.Proofs.Ytefeklhdaafbbaa.MAll

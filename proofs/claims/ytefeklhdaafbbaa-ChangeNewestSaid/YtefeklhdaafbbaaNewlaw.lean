/- ChangeNewest: the walk of the law. -/
import Derived.Test.YtefeklhdaafbbaaNewest
import Derived.Test.YtefeklhdaafbbaaDoes
set_option linter.unusedVariables false
set_option linter.unusedSimpArgs false
namespace Go.Proofs.Ytefeklhdaafbbaa.MAll
open Go.RowKit Go.Proofs.YtefeklhdaafbbaaW.PrintWords Go.Proofs.YtefeklhdaafbbaaW.PrintLast Go.Proofs.YtefeklhdaafbbaaW.PrintMore
attribute [local go_sem ↓] Go.wp_at_zero Go.wp_at_succ

/-- The marked copy of a value. -/
def kMark : Kd (List Int) where
  sz := 1
  E := [3]
  K := fun w l cs => ∃ g, cs = [.slice (some ⟨g, 0, none⟩) l.length (l.length + 1)] ∧ Marked w g l ∧ l.length < 17592186044416
  M := fun w base ok l cs => ∃ g, cs = [.slice (some ⟨g, 0, none⟩) l.length (l.length + 1)] ∧ Marked w g l ∧ l.length < 17592186044416 ∧ ok g ∧ base ≤ g
  K_len := by rintro w x cs ⟨g, rfl, _⟩; rfl
  K_one := by rintro w x cs ⟨g, rfl, _⟩ u hu; simp at hu; subst hu; rfl
  K_below := by rintro w w2 x cs hb ⟨g, rfl, h, hl⟩; exact ⟨g, rfl, h.below hb, hl⟩
  K_of_M := by rintro w base ok x cs ⟨g, rfl, h, hl, _⟩; exact ⟨g, rfl, h, hl⟩
  M_mono := by rintro w base ok ok' x cs ho ⟨g, rfl, h, hl, hk, hb⟩; exact ⟨g, rfl, h, hl, ho g hk, hb⟩
  M_bound := by rintro w base ok x cs ⟨g, rfl, h, hl, hk, hb⟩; exact ⟨g, rfl, h, hl, ⟨hk, hb, blk_lt h, 3, by simp, _, h⟩, hb⟩
  M_move := by rintro w w1 base ok x cs hm ⟨g, rfl, h, hl, hk, hb⟩; exact ⟨g, rfl, (hm g hk).trans h, hl, hk, hb⟩
  M_lower := by rintro w base base' ok x cs hle ⟨g, rfl, h, hl, hk, hb⟩; exact ⟨g, rfl, h, hl, hk, Nat.le_trans hle hb⟩
def kMReg : Kd Reg := Kd.iso (Kd.pair kBal (Kd.pair kBal kMark)) id

theorem mark_reads {w : World} {l : List Int} {cs : List Value} (h : kMark.K w l cs) : (Kd.slice 3 (Kd.int .i64)).K w l cs := by
  obtain ⟨g, rfl, h, hl⟩ := h
  exact ⟨_, _, rfl, by omega, h.C (by omega)⟩
theorem mreg_reads {w : World} {r : Reg} {cs : List Value} (h : kMReg.K w r cs) : kReg.K w r cs := by
  obtain ⟨a0, a1, rfl, h0, a2, a3, rfl, h1, h2⟩ := h
  exact ⟨a0, _, rfl, h0, a2, _, rfl, h1, mark_reads h2⟩
theorem mregs_read {w : World} {A : Option Addr} {n : Nat} {l : List Reg} (h : kMReg.C w A n l) : kReg.C w A n l :=
  ReadsRow.imp_ h (Below.refl _ w) (fun _ _ hp => mreg_reads hp)

theorem info49 : (Try.prog.info? 49).map (fun i => (i.zero, i.size, i.bytes)) = some (some (.agg #[.int .i64 0, .int .i64 0, .int .i64 0, .int .i64 0, .int .i64 0, .int .i64 0, .slice none 0 0]), 7, 72) := by kernel_rfl
def total (l : List Reg) : Nat := (l.map (fun r => r.2.2.length)).sum
theorem total_append (a b : List Reg) : total (a ++ b) = total a + total b := by simp [total]
theorem total_take (l : List Reg) (k : Nat) (hk : k < l.length) : total (l.take (k + 1)) = total (l.take k) + (l[k]'hk).2.2.length := by
  rw [List.take_succ_eq_append_getElem hk, total_append]
  simp [total]
theorem total_le (l : List Reg) (h : ∀ r ∈ l, r.2.2.length < 17592186044416) : total l ≤ l.length * 17592186044416 := by
  induction l with
  | nil => simp [total]
  | cons r t ih =>
    have h1 := ih (fun x hx => h x (List.mem_cons_of_mem _ hx))
    have h2 := h r List.mem_cons_self
    simp [total] at h1 ⊢
    omega
theorem total_take_le (l : List Reg) (k : Nat) : total (l.take k) ≤ total l := by
  conv => rhs; rw [← List.take_append_drop k l, total_append]
  omega
theorem newestR_mem (l : List Reg) : (newestR l).2.2.length ≤ total l := by
  have h : ∀ k, k ≤ l.length → (newestR (l.take k)).2.2.length ≤ total (l.take k) := by
    intro k
    induction k with
    | zero => intro _; simp [newestR, zeroR]
    | succ k ih =>
      intro hk
      have h1 := ih (by omega)
      rw [newest_take l k (by omega), total_take l k (by omega)]
      unfold stepN
      split <;> omega
  have h2 := h l.length (Nat.le_refl _)
  rwa [List.take_length] at h2
theorem R_none0 {α : Type} (d : Kd α) (W : World) (e base : Nat) (hb : base ≤ W.heap.size) : d.R e (W.alloc (.cells #[] e)) base (fun _ => True) (.slice (some ⟨W.heap.size, 0, none⟩) 0 0) [] :=
  ⟨fun _ _ => trivial, OwnRow.lit W base (ps := []) (inner := []) (Reps.none _ _) hb (by simp)⟩
theorem mreg_made {w : World} {base g : Nat} {ok : Nat → Prop} {r : Reg} (h : Marked w g r.2.2) (hl : r.2.2.length < 17592186044416) (hk : ok g) (hb : base ≤ g) :
    kMReg.M w base ok r [.int .i64 r.1.1, .int .i64 r.1.2.1, .int .i64 r.1.2.2, .int .i64 r.2.1.1, .int .i64 r.2.1.2.1, .int .i64 r.2.1.2.2, .slice (some ⟨g, 0, none⟩) r.2.2.length (r.2.2.length + 1)] :=
  ⟨[.int .i64 r.1.1, .int .i64 r.1.2.1, .int .i64 r.1.2.2], _, rfl, ⟨[.int .i64 r.1.1], _, rfl, rfl, [.int .i64 r.1.2.1], _, rfl, rfl, rfl⟩,
    [.int .i64 r.2.1.1, .int .i64 r.2.1.2.1, .int .i64 r.2.1.2.2], _, rfl, ⟨[.int .i64 r.2.1.1], _, rfl, rfl, [.int .i64 r.2.1.2.1], _, rfl, rfl, rfl⟩, ⟨g, rfl, h, hl, hk, hb⟩⟩
theorem mark_at {w : World} {A : Option Addr} {xs : List Reg} (h : kMReg.C w A xs.length xs) (k : Nat) (hk : k < xs.length) :
    ∃ ad g, A = some ad ∧ w.cell? ⟨(ad.add (k * 7)).block, (ad.add (k * 7)).off + 6, none⟩ = some (.slice (some ⟨g, 0, none⟩) (xs[k]'hk).2.2.length ((xs[k]'hk).2.2.length + 1)) ∧ Marked w g (xs[k]'hk).2.2 := by
  obtain ⟨ad, cs, rfl, _, hK, hc⟩ := Kd.C_get h zeroR k (by omega) (by omega)
  have he : xs.getD (k : Int).toNat zeroR = xs[k]'hk := by simp [List.getD_eq_getElem?_getD, List.getElem?_eq_getElem hk]
  rw [he] at hK
  obtain ⟨a0, a1, rfl, ⟨d0, d1, rfl, e0, d2, d3, rfl, e1, e2⟩, a2, a3, rfl, ⟨f0, f1, rfl, g0, f2, f3, rfl, g1, g2⟩, ⟨g, rfl, hM, _⟩⟩ := hK
  obtain rfl : d0 = [.int .i64 (xs[k]'hk).1.1] := e0
  obtain rfl : d2 = [.int .i64 (xs[k]'hk).1.2.1] := e1
  obtain rfl : d3 = [.int .i64 (xs[k]'hk).1.2.2] := e2
  obtain rfl : f0 = [.int .i64 (xs[k]'hk).2.1.1] := g0
  obtain rfl : f2 = [.int .i64 (xs[k]'hk).2.1.2.1] := g1
  obtain rfl : f3 = [.int .i64 (xs[k]'hk).2.1.2.2] := g2
  have e : kMReg.sz = 7 := rfl
  have ek : (k : Int).toNat = k := by omega
  rw [e, ek] at hc
  refine ⟨ad, g, rfl, ?_, hM⟩
  rw [← add_field ad (k * 7) 6 (by omega)]
  exact hc 6 _ rfl
theorem Marked.drewN {w : World} {g : Nat} {l : List Int} {m : Nat} (h : Marked w g l) : Marked (w.drewN m) g l := h.below (pw_below_drewN (Below.refl _ _) _)
def CopyRel (w1 : World) (list : List Reg) (v3 v4 v18 : Value) (wr : World) : Prop :=
  ∃ k : Nat, k ≤ list.length ∧ v18 = .int .i64 k ∧ v3 = .int .i64 (total (list.take k) : Nat) ∧ Aside0 (kMReg.R 49 wr w1.heap.size (fun _ => True) v4 (list.take k)) ∧ Aside0 (Below w1.heap.size w1 wr)

set_option maxHeartbeats 1000000 in
set_option maxRecDepth 100000 in
theorem newest_law (A : Option Addr) (c : Nat) (list : List Reg) (w : World) (hr : kReg.C w A list.length list) (hc : list.length ≤ c) (hv : ∀ r ∈ list, r.2.2.length < 17592186044416) :
    Calls Try.prog 7 #[.slice A list.length c] w fun e w' => e = .returned (.bool true) ∧ Below w.heap.size w w' := by
  have HR := Aside0.mk hr
  have HV := Aside0.mk hv
  clear hr hv
  have hu49 := Try.underlying49
  have hu47 := Try.underlying47
  have hMx := Kd.C_max HR.out
  by_cases h50 : list.length ≤ 50
  · have h50b : decide (50 < (list.length : Int)) = false := decide_eq_false (by omega)
    go_enter Try.func7, Try.ntmps7
    go_wp2_with (go_at_call 8; refine (alive_any _).mono ?_; rintro e w1 ⟨rfl, hb1⟩; have HB := Aside0.mk hb1; have HX := Aside0.mk (Kd.C_below HR.out hb1); clear hb1)
    go_loopw [3, 4, 18] (fun v3 v4 v18 wr => CopyRel w1 list v3 v4 v18 wr) (fun _ _ i _ => list.length - (intOf i).toNat)
    case atStart => exact ⟨0, Nat.zero_le _, rfl, by simp [total], ⟨by simpa using R_none0 kMReg w1 49 w1.heap.size (Nat.le_refl _)⟩, ⟨below_alloc (Below.refl _ w1) _⟩⟩
    case round =>
      obtain ⟨k, hk, rfl, rfl, HL, HW⟩ := hrel
      by_cases hlt : k < list.length
      · obtain ⟨ad, B2, b2, r2, rfl, hr2, hat, hl2, hC2⟩ := reg_at HX.out k hlt
        obtain ⟨z0, z1, z2, z3, z4, z5, z6⟩ := hat
        have m0 := pw_cell_below HW.out z0
        have m1 := pw_cell_below HW.out z1
        have m2 := pw_cell_below HW.out z2
        have m3 := pw_cell_below HW.out z3
        have m4 := pw_cell_below HW.out z4
        have m5 := pw_cell_below HW.out z5
        have m6 := pw_cell_below HW.out z6
        have HR2 := Aside0.mk hr2
        have HC2 := Aside0.mk hC2
        have HL2 := Aside0.mk hl2
        have HV2 : Aside0 (r2.2.2.length < 17592186044416) := ⟨by rw [hr2]; exact HV.out _ (List.getElem_mem hlt)⟩
        have hs : wrap64 ((total (list.take k) : Nat) + (r2.2.2.length : Int)) = (total (list.take (k + 1)) : Nat) := by
          have h1 := total_take list k hlt
          have h2 := Nat.le_trans (total_take_le list (k + 1)) (total_le list HV.out)
          have h3 : list.length * 17592186044416 ≤ 50 * 17592186044416 := Nat.mul_le_mul_right _ h50
          rw [← hr2] at h1
          unfold wrap64
          omega
        clear z0 z1 z2 z3 z4 z5 z6 hr2 hC2 hl2
        go_wp2_with (first
          | (go_at_call_of 9 (Value.slice B2 r2.2.2.length b2)
             refine (marked_any B2 b2 r2.2.2 _ (Kd.C_below (Kd.C_below HC2.out HW.out) (below_alloc (Below.refl _ _) _)) HL2.out HV2.out).mono ?_
             rintro e w2 ⟨gm, rfl, hm, hg, hb2⟩
             have HM2 := Aside0.mk hm
             have HG2 := Aside0.mk hg
             have HB2 := Aside0.mk (below_step (w := wr) (below_alloc (Below.refl _ _) _) hb2)
             have BKb : Aside0 (w2.heap[wr.heap.size]? = some (.cells (regCells r2 B2 b2) 49 (0, 0))) := ⟨(hb2.block _ (by simp)).trans (blk_new wr _)⟩
             have x0 : w2.cell? ⟨wr.heap.size, 0, none⟩ = some (.int .i64 r2.1.1) := (blk_cell BKb.out 0).trans rfl
             have x1 : w2.cell? ⟨wr.heap.size, 1, none⟩ = some (.int .i64 r2.1.2.1) := (blk_cell BKb.out 1).trans rfl
             have x2 : w2.cell? ⟨wr.heap.size, 2, none⟩ = some (.int .i64 r2.1.2.2) := (blk_cell BKb.out 2).trans rfl
             have x3 : w2.cell? ⟨wr.heap.size, 3, none⟩ = some (.int .i64 r2.2.1.1) := (blk_cell BKb.out 3).trans rfl
             have x4 : w2.cell? ⟨wr.heap.size, 4, none⟩ = some (.int .i64 r2.2.1.2.1) := (blk_cell BKb.out 4).trans rfl
             have x5 : w2.cell? ⟨wr.heap.size, 5, none⟩ = some (.int .i64 r2.2.1.2.2) := (blk_cell BKb.out 5).trans rfl
             have x6 : w2.cell? ⟨wr.heap.size, 6, none⟩ = some (.slice B2 r2.2.2.length b2) := (blk_cell BKb.out 6).trans rfl
             have f6 := blk_frozen BKb.out 6
             clear hm hg hb2)
          | ((with_reducible refine gate_builtin (b := .append) (xs := #[.tmp 31, .tmp 33]) rfl ?_)
             at_builtin
             have hgm : wr.heap.size < gm := by have := HG2.out; simp at this; omega
             have hle := HW.out.size
             have hsz0 : kMReg.sz = 7 := rfl
             refine Kd.R_append kMReg (w0 := w1) w1.heap.size rfl (.tmp 31) (.tmp 33) 45 49 (.agg #[.int .i64 0, .int .i64 0, .int .i64 0, .int .i64 0, .int .i64 0, .int .i64 0, .slice none 0 0]) 72 rfl Try.underlying45 info49 rfl (Nat.zero_lt_succ 6) (by omega) u4 (list.take k) r2 [.int .i64 r2.1.1, .int .i64 r2.1.2.1, .int .i64 r2.1.2.2, .int .i64 r2.2.1.1, .int .i64 r2.2.1.2.1, .int .i64 r2.2.1.2.2, .slice (some ⟨gm, 0, none⟩) r2.2.2.length (r2.2.2.length + 1)] (fun _ => True) (fun q => q = gm) rfl (by first | rfl | (rw [World.size_setCell]; rfl)) ?aP ?aK (fun _ _ => trivial) ?aO ?aB ?aS ?aL ?_
             case aP => exact mreg_made (grown_marked HM2.out (grown_setCell _ _ _ _) (by omega)) HV2.out rfl (by omega)
             case aK =>
               rintro q rfl
               refine ⟨trivial, fun he => ?_⟩
               have := Kd.R_lt HL.out q he.symm
               omega
             case aO => exact Kd.R_mono (Kd.R_far (Kd.R_below (Kd.R_bound HL.out) HB2.out) (p := ⟨wr.heap.size, 6, none⟩) (fun q hq => by have := hq.2.2.1; show q ≠ wr.heap.size; omega) _) (fun _ _ => trivial)
             case aB => exact below_set (below_step HW.out HB2.out) (by omega)
             case aS => have := HB2.out.size; simp; omega
             case aL => simp; omega
             intro v4 w4 ho hb hg hat
             have HL4 := Aside0.mk ho
             have HB4 := Aside0.mk hb
             clear ho hb hg hat hgm hle))
        go_roundw
        case rel => exact ⟨k + 1, by omega, by go_num, rfl, ⟨by rw [List.take_succ_eq_append_getElem hlt, ← HR2.out]; exact HL4.out⟩, HB4⟩
        case measure => simp [intOf]; omega
      · have he : list.take k = list := List.take_of_length_le (by omega)
        rw [he] at HL ⊢
        obtain ⟨wa, hwa⟩ : ∃ wa : World, wa = wr := ⟨_, rfl⟩
        rw [← hwa] at HL HW ⊢
        clear hwa
        have hl0 : list.length ≤ k := by omega
        obtain ⟨A', c', rfl⟩ := Kd.R_slice HL.out
        obtain ⟨_, hc', hC'⟩ := Kd.R_reads' HL.out
        have HC' := Aside0.mk hC'
        have Hc' := Aside0.mk hc'
        have HBw := Aside0.mk (below_step HB.out HW.out)
        clear hC' hc' he
        by_cases h2 : total list ≤ 2000
        · have h2b : decide (2000 < ((total list : Nat) : Int)) = false := decide_eq_false (by omega)
          have hlN : Aside0 ((newestR list).2.2.length ≤ 2000) := ⟨Nat.le_trans (newestR_mem list) h2⟩
          have HXw := Aside0.mk (Kd.C_below HX.out HW.out)
          go_wp2_with fail
          refine (newest_any A' c' list _ (mregs_read HC'.out) Hc'.out (by have := hlN.out; omega)).mono ?_
          rintro e w2 ⟨u, rfl, hR2, hb2⟩
          obtain ⟨x, hx⟩ : ∃ x, (newestR list).2.2 = x := ⟨_, rfl⟩
          rw [hx] at hR2 hlN
          obtain ⟨Ax, cx, rfl⟩ := Kd.R_slice hR2
          have HXV := Aside0.mk hx
          have HRx := Aside0.mk hR2
          have HB2 := Aside0.mk hb2
          clear hx hR2 hb2
          go_wp2_with fail
          refine (refnewest_any A c list _ (Kd.C_below HXw.out HB2.out) hc).mono ?_
          rintro e w3 ⟨Ay, cy, rfl, hly, hCy, hb3⟩
          rw [HXV.out] at hly hCy
          rw [HXV.out]
          have HLy := Aside0.mk hly
          have HCy := Aside0.mk hCy
          have HB3 := Aside0.mk (below_step HB2.out hb3)
          have HRx3 := Aside0.mk (Kd.R_below HRx.out hb3)
          clear hly hCy hb3
          obtain ⟨_, hcx, hCx⟩ := Kd.R_reads' HRx3.out
          have HCx := Aside0.mk hCx
          have Hcx := Aside0.mk hcx
          clear hCx hcx
          go_wp2_with fail
          refine (ints_is true _ _ _ _ _ _ _ (decide_eq_true rfl) HCx.out Hcx.out HCy.out HLy.out).mono ?_
          rintro e w4 ⟨rfl, hb4⟩
          have HB4 := Aside0.mk (below_step HB3.out hb4)
          have HRx4 := Aside0.mk (Kd.R_below HRx3.out hb4)
          clear hb4
          obtain ⟨g, hg, hgx⟩ := R_wipe HRx4.out HB4.out.size
          have HWP := Aside0.mk hgx
          have Hg := Aside0.mk hg
          clear hgx hg
          have HCl4 := HC'
          have HCx4 := HXw
          have hlx := hlN.out
          clear HRx HRx3 HRx4 HCx HB2 HB3 HC' HXw HX HR HW HL
          go_wp2_with fail
          go_loopw [47] (fun v wr => Wipe2 g x.length w4 v wr) (fun i _ => x.length - (intOf i).toNat)
          case atStart => exact ⟨0, Nat.zero_le _, rfl, ⟨fun h => (HWP.out h).2⟩, ⟨World.grownBy.refl _ _⟩⟩
          case round =>
            obtain ⟨k, hk, rfl, HC, HG⟩ := hrel
            by_cases hlt : k < x.length
            · obtain ⟨hAx, _⟩ := HWP.out (by omega)
              obtain ⟨cs, hcs, hsz⟩ := HC.out (by omega)
              subst hAx
              obtain ⟨⟨u, hu⟩, hf⟩ := wipe_cell hlt hcs hsz
              go_wp2
              go_roundw
              case rel =>
                obtain ⟨cs', y1, y2, y3⟩ := wipe_step k hcs hsz HG.out (.int .i64 (-1))
                exact ⟨k + 1, by omega, by go_num, ⟨fun _ => ⟨cs', y1, y2⟩⟩, ⟨y3⟩⟩
              case measure => simp [intOf]; omega
            · obtain ⟨w6, hw6⟩ : ∃ w6 : World, w6 = wr := ⟨_, rfl⟩
              rw [← hw6] at HC HG ⊢
              clear hw6
              have HB6 : Aside0 (Below wa.heap.size wa w6) := ⟨HB4.out.grown HG.out HB4.out.size (fun k e => by injection e with e; have := Hg.out; omega)⟩
              clear HC HG HWP Hg
              go_wp2_with fail
              go_loopw [56] (fun v wr => ∃ k : Nat, k ≤ list.length ∧ v = .int .i64 k ∧ Aside0 (Below wa.heap.size wa wr)) (fun i _ => list.length - (intOf i).toNat)
              case atStart => exact ⟨0, Nat.zero_le _, rfl, HB6⟩
              case round =>
                obtain ⟨j, hj, rfl, HWj⟩ := hrel
                by_cases hlt2 : j < list.length
                · obtain ⟨ad, B2, b2, r2, rfl, hr2, hat, hl2, hC2⟩ := reg_at HCx4.out j hlt2
                  obtain ⟨ad', gm, rfl, hm, hM⟩ := mark_at HCl4.out j hlt2
                  obtain ⟨_, _, _, _, _, _, z6⟩ := hat
                  have m6 := pw_cell_below HWj.out z6
                  have n6 := pw_cell_below HWj.out hm
                  rw [← hr2] at n6 hM
                  have HV2 : Aside0 (r2.2.2.length < 17592186044416) := ⟨by rw [hr2]; exact HV.out _ (List.getElem_mem hlt2)⟩
                  have HM2 := Aside0.mk (hM.below HWj.out)
                  have HC2 := Aside0.mk (Kd.C_below hC2 HWj.out)
                  have HL2 := Aside0.mk hl2
                  have hj0 : (0 : Int) ≤ (j : Int) := by omega
                  have hj1 : (j : Int) < (list.length : Int) := by omega
                  clear z6 hr2 hM hC2 hl2 hm
                  go_wp2_with fail
                  go_region_held3 (fun w' => w'.cell? ⟨(ad.add (j * 7)).block, (ad.add (j * 7)).off + 6, none⟩ = some (.slice B2 r2.2.2.length b2) ∧ w'.cell? ⟨(ad'.add (j * 7)).block, (ad'.add (j * 7)).off + 6, none⟩ = some (.slice (some ⟨gm, 0, none⟩) r2.2.2.length (r2.2.2.length + 1))) (go_keep)
                    (first
                      | (go_at_call 16; refine (stands_any gm B2 b2 r2.2.2 _ (by repeat (first | exact HM2.out | apply Marked.drewN)) (by repeat (first | exact HC2.out | apply Kd.C_alloc | apply Kd.C_drew | apply Kd.C_drewN)) HL2.out HV2.out).mono ?_; rintro e w7 ⟨rfl, hb7⟩; have HB7 := Aside0.mk (below_step (w := wr) (by repeat (first | exact Below.refl _ _ | apply below_alloc | apply below_drew | apply pw_below_drewN)) hb7); have m6' := pw_cell_below HB7.out m6; have n6' := pw_cell_below HB7.out n6; clear hb7))
                  all_goals
                    go_wp2
                    go_roundw
                    case rel => exact ⟨j + 1, by omega, by go_num, ⟨by repeat (first | exact below_step HWj.out HB7.out | apply below_drew)⟩⟩
                    case measure => simp [intOf]; omega
                · have HBz := Aside0.mk (below_step HBw.out HWj.out)
                  go_wp2
                  go_ret
                  exact ⟨rfl, HBz.out⟩
        · have h2b : decide (2000 < ((total list : Nat) : Int)) = true := decide_eq_true (by omega)
          go_wp2_with fail
          all_goals
            go_ret
            exact ⟨rfl, HBw.out⟩
  · have h50b : decide (50 < (list.length : Int)) = true := decide_eq_true (by omega)
    go_enter Try.func7, Try.ntmps7
    go_wp2_with (go_at_call 8; refine (alive_any _).mono ?_; rintro e w1 ⟨rfl, hb1⟩; have HB := Aside0.mk hb1; clear hb1)
    all_goals
      go_ret
      exact ⟨rfl, HB.out⟩

theorem newest_walk' (w : World) (A : Option Addr) (c : Nat) (list : List Reg) (hr : kReg.C w A list.length list) (hc : list.length ≤ c)
    (hq : list.length * Try.prog.bytesOf 49 ≤ 140737488351232 ∧ ∀ x ∈ list, ((Lit.int .i64 x.1.1).wf = true ∧ (Lit.int .i64 x.1.2.1).wf = true ∧ (Lit.int .i64 x.1.2.2).wf = true) ∧ ((Lit.int .i64 x.2.1.1).wf = true ∧ (Lit.int .i64 x.2.1.2.1).wf = true ∧ (Lit.int .i64 x.2.1.2.2).wf = true) ∧ (x.2.2.length * Try.prog.bytesOf 3 ≤ 140737488351232 ∧ ∀ y ∈ x.2.2, (Lit.int .i64 y).wf = true)) :
    Calls Try.prog 7 #[.slice A list.length c] w fun e w' => e = .returned (.bool true) ∧ Below w.heap.size w w' := by
  refine newest_law A c list w hr hc fun r hr => ?_
  have h := (hq.2 r hr).2.2.1
  rw [bytes3] at h
  omega
end Go.Proofs.Ytefeklhdaafbbaa.MAll

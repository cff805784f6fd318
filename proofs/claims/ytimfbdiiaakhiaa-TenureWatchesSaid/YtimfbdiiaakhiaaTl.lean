/- plays: the loop. -/
import Derived.Test.YtimfbdiiaakhiaaTm
set_option linter.unusedVariables false
set_option linter.unusedSimpArgs false
namespace Go.Proofs.Ytimfbdiiaakhiaa.MAll
open Go.RowKit Go.Proofs.YtimfbdiiaakhiaaW.PrintWords Go.Proofs.YtimfbdiiaakhiaaW.PrintLast Go.Proofs.YtimfbdiiaakhiaaW.PrintMore
attribute [local go_sem ↓] Go.wp_at_zero Go.wp_at_succ
/-- Both watches, side by side. -/
def Both (w : World) (g1 g2 : Nat) (nd lf tk : Int) (k : Nat) : Prop := ∃ (v : List Int) (ag : Int) (seen : List (List Int)), WAt w g1 nd lf tk (decide (seen ≠ [])) v ag ∧ RWAt w g2 nd lf tk seen ag ∧ lastOf seen = v ∧ 0 ≤ ag ∧ ag ≤ 1000 ∧ seen.length ≤ k
theorem Both.below {w w1 : World} {g1 g2 : Nat} {nd lf tk : Int} {k : Nat} (h : Both w g1 g2 nd lf tk k) (hb : Below w.heap.size w w1) : Both w1 g1 g2 nd lf tk k := by
  obtain ⟨v, ag, seen, h1, h2, h3⟩ := h
  exact ⟨v, ag, seen, h1.below hb, h2.below hb, h3⟩
theorem eqA24 (d : Nat) (w : World) (x0 y0 x1 y1 x2 y2 x3 y3 : Int) :
    (Op.equalIn (d + 2) 24 (.agg #[.int .i64 x0, .int .i64 x1, .int .i64 x2, .int .i64 x3]) (.agg #[.int .i64 y0, .int .i64 y1, .int .i64 y2, .int .i64 y3])).run Try.prog w = .ok (x0 == y0 && (x1 == y1 && (x2 == y2 && (x3 == y3)))) w := by
  refine eqA_of Try.underlying24 (by kernel_rfl) ?_
  refine eqf_cons (by rfl) (by go_simp; rfl) (by go_simp; rfl) (by go_simp) ?_
  refine eqf_cons (by rfl) (by go_simp; rfl) (by go_simp; rfl) (by go_simp) ?_
  refine eqf_cons (by rfl) (by go_simp; rfl) (by go_simp; rfl) (by go_simp) ?_
  exact eqf_last (by rfl) (by go_simp; rfl) (by go_simp; rfl) (by go_simp)
attribute [local go_sem high] eqA24
theorem Both.up {w : World} {g1 g2 : Nat} {nd lf tk : Int} {k k' : Nat} (h : Both w g1 g2 nd lf tk k) (hk : k ≤ k') : Both w g1 g2 nd lf tk k' := by
  obtain ⟨v, ag, seen, h1, h2, h3, h4, h5, h6⟩ := h
  exact ⟨v, ag, seen, h1, h2, h3, h4, h5, Nat.le_trans h6 hk⟩
/-- Both watches, their rows in blocks that are ok. -/
def BothO (ok : Nat → Prop) (w : World) (g1 g2 : Nat) (nd lf tk : Int) (k : Nat) : Prop := ∃ (v : List Int) (ag : Int) (seen : List (List Int)), WAtO ok w g1 nd lf tk (decide (seen ≠ [])) v ag ∧ RWAtO ok w g2 nd lf tk seen ag ∧ lastOf seen = v ∧ 0 ≤ ag ∧ ag ≤ 1000 ∧ seen.length ≤ k
theorem BothO.any {ok : Nat → Prop} {w : World} {g1 g2 : Nat} {nd lf tk : Int} {k : Nat} (h : BothO ok w g1 g2 nd lf tk k) : Both w g1 g2 nd lf tk k := by
  obtain ⟨v, ag, seen, h1, h2, h3⟩ := h
  exact ⟨v, ag, seen, h1.any, h2.any, h3⟩
theorem BothO.below {ok : Nat → Prop} {w w1 : World} {g1 g2 : Nat} {nd lf tk : Int} {k : Nat} (h : BothO ok w g1 g2 nd lf tk k) (hb : Below w.heap.size w w1) : BothO ok w1 g1 g2 nd lf tk k := by
  obtain ⟨v, ag, seen, h1, h2, h3⟩ := h
  exact ⟨v, ag, seen, h1.below hb, h2.below hb, h3⟩
theorem BothO.put {ok : Nat → Prop} {w w1 : World} {g1 g2 : Nat} {nd lf tk : Int} {k b bb : Nat} {ok' : Nat → Prop} {u : Value} {xs : List Int} (h : BothO ok w g1 g2 nd lf tk k) (hR : (Kd.int .i64).R 3 w bb ok' u xs) (hu : u.ownBlock = some b) (hok : ∀ k, ok k → k ≠ b) (hg : w.grownBy w1 (some b)) : BothO ok w1 g1 g2 nd lf tk k := by
  obtain ⟨v, ag, seen, h1, h2, h3⟩ := h
  exact ⟨v, ag, seen, h1.put hR hu hok hg, h2.put hR hu hok hg, h3⟩
theorem saw_age (sw : Bool) (v x : List Int) (ag : Int) (h : 0 ≤ ag ∧ ag ≤ 1000) : 0 ≤ sawAge sw v x ag ∧ sawAge sw v x ag ≤ 1000 := by
  unfold sawAge; split <;> omega
theorem ne_true {seen : List (List Int)} (h : seen ≠ []) : decide (seen ≠ []) = true := decide_eq_true h
theorem want_len (nd lf tk : Int) (sw : Bool) (v : List Int) (ag : Int) : (wantOf nd lf tk sw v ag).2.1.length ≤ v.length ∧ (wantOf nd lf tk sw v ag).2.2.length ≤ 4 := by
  unfold wantOf
  split
  · split
    · simp
    · split <;> simp
  · simp
theorem RWAt.age {W : World} {g : Nat} {nd lf tk : Int} {seen : List (List Int)} {ag : Int} (h : RWAt W g nd lf tk seen ag) : W.cell? ⟨g, 4, none⟩ = some (.int .i64 ag) := by
  obtain ⟨A, c, h1, _⟩ := h
  exact (blk_cell h1 4).trans rfl
theorem WAt.len {W : World} {g : Nat} {nd lf tk : Int} {sw : Bool} {v : List Int} {ag : Int} (h : WAt W g nd lf tk sw v ag) : v.length < 17592186044416 := by
  obtain ⟨A, c, h1, h2, h3⟩ := h
  exact h3
set_option maxHeartbeats 8000000 in
set_option maxRecDepth 100000 in
theorem plays_walk_good (W : World) (nd lf tk : Int) (A0 : Option Addr) (c0 : Nat) (ops : List TOp) (hr : kOp.C W A0 ops.length ops) (hx : ∀ o ∈ ops, o.2.1.length < 17592186044416) (hn : ops.length ≤ 300) (hok : newOk nd lf tk = true) : Calls Try.prog 20 #[.int .i64 nd, .int .i64 lf, .int .i64 tk, .slice A0 ops.length c0] W fun e w' => e = .returned (.bool true) ∧ Below W.heap.size W w' := by
  have hu32 := Try.underlying32
  have hu71 := Try.underlying71
  have hu22 := Try.underlying22
  have hu24 := Try.underlying24
  have hu39 := Try.underlying39
  have hu76 := Try.underlying76
  have hu47 := Try.underlying47
  have HV := Aside0.mk hr
  have HX := Aside0.mk hx
  have HOK := Aside0.mk hok
  clear hr hx hok
  have h1 : decide (300 < (ops.length : Int)) = false := decide_eq_false (by omega)
  have h2 : decide (300 < ops.length) = false := decide_eq_false (by omega)
  go_enter Try.func20, Try.ntmps20
  go_wp2_with fail
  refine (alive_any _).mono ?_
  rintro e w1 ⟨rfl, hb1⟩
  have HB1 := Aside0.mk hb1
  clear hb1
  go_wp2_with fail
  refine (new_c _ nd lf tk HOK.out).mono ?_
  rintro e w2 ⟨g1, rfl, hg1, hw1, hb2⟩
  have HG1 := Aside0.mk (Nat.le_trans HB1.out.size hg1)
  have HW1 := Aside0.mk hw1
  have HB2 := Aside0.mk (below_step HB1.out hb2)
  clear hb2 hg1 hw1
  go_wp2_with fail
  refine (rnew_c _ nd lf tk HOK.out).mono ?_
  rintro e w3 ⟨g2, rfl, hg2, hw2, hb3⟩
  have HG2 := Aside0.mk (Nat.le_trans HB2.out.size hg2)
  have HBO : Aside0 (Both w3 g1 g2 nd lf tk 0) := ⟨⟨[], 0, [], HW1.out.below hb3, hw2, rfl, by omega, by omega, Nat.le_refl _⟩⟩
  have HB3 := Aside0.mk (below_step HB2.out hb3)
  clear hb3 hg2 hw2 h1 h2 HW1
  go_wp2_with fail
  go_loopw [64] (fun v64 w' => ∃ k : Nat, k ≤ ops.length ∧ v64 = .int .i64 k ∧ Aside0 (Both w' g1 g2 nd lf tk k) ∧ Aside0 (Below W.heap.size W w')) (fun v _ => ops.length - (intOf v).toNat)
  case atStart => exact ⟨0, by omega, rfl, HBO, HB3⟩
  case round =>
    obtain ⟨k, hk, rfl, HO, HW⟩ := hrel
    by_cases hlt : k < ops.length
    case neg =>
      go_wp2_with fail
      go_ret
      exact ⟨rfl, HW.out⟩
    obtain ⟨ad, V, cv, kd, v, n, hA0, hxk, s0, s1, s2, hcv, hV⟩ := op_at HV.out k hlt
    subst hA0
    have HCV := Aside0.mk (fun (w : World) (hw : Below W.heap.size W w) => Kd.C_below hV hw)
    have s0 := pw_cell_below HW.out s0
    have s1 := pw_cell_below HW.out s1
    have s2 := pw_cell_below HW.out s2
    have HCVL := Aside0.mk hcv
    clear hV hcv hxk
    go_upto_region 14 with fail
    obtain ⟨W1, hw1⟩ : ∃ x : World, x = wr.alloc (.cells #[.int .i64 kd, .slice V v.length cv, .int .i64 n] 76) := ⟨_, rfl⟩
    have hbs1 : Below wr.heap.size wr W1 := by rw [hw1]; repeat (first | exact Below.refl _ _ | refine below_alloc ?_ _ | refine below_drew ?_)
    obtain ⟨go1, hgo1⟩ : ∃ x, x = wr.heap.size := ⟨_, rfl⟩
    have GSo1 : Aside0 (W.heap.size ≤ go1) := ⟨by rw [hgo1]; have := HW.out.size; omega⟩
    have Bo1 : Aside0 (W1.heap[go1]? = some (.cells #[.int .i64 kd, .slice V v.length cv, .int .i64 n] 76 (0, 0))) := ⟨by rw [hw1, hgo1]; exact blk_new _ _⟩
    rw [← hw1]
    rw [← hgo1]
    clear hw1 hgo1
    have HB2 := Aside0.mk (below_step HW.out hbs1)
    have CBO2 := Aside0.mk (Both.below HO.out hbs1)
    clear hbs1
    clear s0 s1 s2
    have zo3_0 : W1.cell? ⟨go1, 0, none⟩ = some (.int .i64 kd) := (blk_cell Bo1.out 0).trans rfl
    have zo3_1 : W1.cell? ⟨go1, 1, none⟩ = some (.slice V v.length cv) := (blk_cell Bo1.out 1).trans rfl
    have zo3_2 : W1.cell? ⟨go1, 2, none⟩ = some (.int .i64 n) := (blk_cell Bo1.out 2).trans rfl
    by_cases h100 : v.length ≤ 100
    case neg =>
      have d1 : decide (100 < (v.length : Int)) = true := decide_eq_true (by omega)
      have d2 : decide (100 < v.length) = true := decide_eq_true (by omega)
      go_wp2_with fail
      go_ret
      exact ⟨rfl, HB2.out⟩
    have d1 : decide (100 < (v.length : Int)) = false := decide_eq_false (by omega)
    have d2 : decide (100 < v.length) = false := decide_eq_false (by omega)
    by_cases hkd : kd = 0
    case neg =>
      have hkz : (kd == 0) = false := beq_eq_false_iff_ne.2 hkd
      obtain ⟨m0, hm0⟩ : ∃ m, (if n < 0 then (0 : Int) else n) = m := ⟨_, rfl⟩
      have hmp : 0 ≤ m0 := by rw [← hm0]; split <;> omega
      obtain ⟨mx, hmx⟩ : ∃ mx : Nat, (if (1100 : Int) < m0 then (1100 : Int) else m0) = (mx : Int) := by by_cases h : (1100 : Int) < m0; exact ⟨1100, by rw [if_pos h]; rfl⟩; exact ⟨m0.toNat, by rw [if_neg h]; omega⟩
      have hmxle : mx ≤ 1100 := by split at hmx <;> omega
      clear hmp
      go_wp2_with fail
      clear zo3_0 zo3_1 zo3_2
      clear hm0 hmx
      go_loopw [104] (fun v104 w' => ∃ i : Nat, i ≤ mx ∧ v104 = .int .i64 i ∧ Aside0 (Both w' g1 g2 nd lf tk k) ∧ Aside0 (Below W.heap.size W w')) (fun v _ => mx - (intOf v).toNat)
      case atStart => exact ⟨0, by omega, rfl, CBO2, HB2⟩
      case round =>
        clear HO HW
        obtain ⟨i, hi, rfl, HO, HW⟩ := hrel
        by_cases hlt2 : i < mx
        case neg =>
          have d3 : decide ((i : Int) < (mx : Int)) = false := decide_eq_false (by omega)
          go_wp2_with fail
          obtain ⟨v1, ag, seen, hw, hrw, hl, ha0, ha1, hsl⟩ := HO.out
          have HWA := Aside0.mk hw
          have HRW := Aside0.mk hrw
          have HL := Aside0.mk hl
          have HAG := Aside0.mk (And.intro ha0 (And.intro ha1 hsl))
          clear hw hrw hl HO ha0 ha1 hsl
          obtain ⟨sw, hsw⟩ : ∃ b, decide (seen ≠ []) = b := ⟨_, rfl⟩
          rw [hsw] at HWA
          have HSW := Aside0.mk hsw
          clear hsw
          obtain ⟨l, hll⟩ : ∃ l, leaseOf v1 = l := ⟨_, rfl⟩
          obtain ⟨qk, hqk⟩ : ∃ b, okL v1 = b := ⟨_, rfl⟩
          obtain ⟨ln, hln⟩ : ∃ n, leadsN nd lf v1 = n := ⟨_, rfl⟩
          obtain ⟨lb, hlb⟩ : ∃ b, leadsB nd lf v1 = b := ⟨_, rfl⟩
          have HLL := Aside0.mk hll
          have HQK := Aside0.mk hqk
          have HLN := Aside0.mk hln
          have HLB := Aside0.mk hlb
          clear hll hqk hln hlb
          have hct301 := leads_c _ g1 nd lf tk sw v1 ag HWA.out
          rw [HLN.out, HLB.out] at hct301
          refine hct301.mono ?_
          rintro e w301 ⟨rfl, hb301⟩
          clear hct301
          have HB302 := Aside0.mk (below_step HW.out hb301)
          have CWA302 := Aside0.mk (WAt.below HWA.out hb301)
          have CRW302 := Aside0.mk (RWAt.below HRW.out hb301)
          clear hb301
          go_wp2_with fail
          have hct303 := rleads_c _ g2 nd lf tk seen ag v1 HL.out CRW302.out
          rw [HLN.out, HLB.out] at hct303
          refine hct303.mono ?_
          rintro e w303 ⟨rfl, hb303⟩
          clear hct303
          have HB304 := Aside0.mk (below_step HB302.out hb303)
          have CWA304 := Aside0.mk (WAt.below CWA302.out hb303)
          have CRW304 := Aside0.mk (RWAt.below CRW302.out hb303)
          clear hb303
          go_wp2_with fail
          have hct305 := lease_c _ g1 nd lf tk sw v1 ag CWA304.out
          rw [HLL.out, HQK.out] at hct305
          refine hct305.mono ?_
          rintro e w305 ⟨rfl, hb305⟩
          clear hct305
          have HB306 := Aside0.mk (below_step HB304.out hb305)
          have CWA306 := Aside0.mk (WAt.below CWA304.out hb305)
          have CRW306 := Aside0.mk (RWAt.below CRW304.out hb305)
          clear hb305
          go_wp2_with fail
          obtain ⟨W307, hw307⟩ : ∃ x : World, x = w305.alloc (.cells #[.int .i64 l.1, .int .i64 l.2.1, .int .i64 l.2.2.1, .int .i64 l.2.2.2] 24) := ⟨_, rfl⟩
          have hbs307 : Below w305.heap.size w305 W307 := by rw [hw307]; repeat (first | exact Below.refl _ _ | refine below_alloc ?_ _ | refine below_drew ?_)
          obtain ⟨gl307, hgl307⟩ : ∃ x, x = w305.heap.size := ⟨_, rfl⟩
          have GSl307 : Aside0 (W.heap.size ≤ gl307) := ⟨by rw [hgl307]; have := HB306.out.size; omega⟩
          have Bl307 : Aside0 (W307.heap[gl307]? = some (.cells #[.int .i64 l.1, .int .i64 l.2.1, .int .i64 l.2.2.1, .int .i64 l.2.2.2] 24 (0, 0))) := ⟨by rw [hw307, hgl307]; exact blk_new _ _⟩
          rw [← hw307]
          rw [← hgl307]
          clear hw307 hgl307
          have HB308 := Aside0.mk (below_step HB306.out hbs307)
          have CWA308 := Aside0.mk (WAt.below CWA306.out hbs307)
          have CRW308 := Aside0.mk (RWAt.below CRW306.out hbs307)
          clear hbs307
          have hct309 := rlease_c _ g2 nd lf tk seen ag v1 HL.out CRW308.out
          rw [HLL.out, HQK.out] at hct309
          refine hct309.mono ?_
          rintro e w309 ⟨rfl, hb309⟩
          clear hct309
          have HB310 := Aside0.mk (below_step HB308.out hb309)
          have Bl310 : Aside0 (w309.heap[gl307]? = some (.cells #[.int .i64 l.1, .int .i64 l.2.1, .int .i64 l.2.2.1, .int .i64 l.2.2.2] 24 (0, 0))) := ⟨(hb309.block _ (blk_lt Bl307.out)).trans Bl307.out⟩
          have CWA310 := Aside0.mk (WAt.below CWA308.out hb309)
          have CRW310 := Aside0.mk (RWAt.below CRW308.out hb309)
          clear hb309
          have zl311_0 : w309.cell? ⟨gl307, 0, none⟩ = some (.int .i64 l.1) := (blk_cell Bl310.out 0).trans rfl
          have zl311_1 : w309.cell? ⟨gl307, 1, none⟩ = some (.int .i64 l.2.1) := (blk_cell Bl310.out 1).trans rfl
          have zl311_2 : w309.cell? ⟨gl307, 2, none⟩ = some (.int .i64 l.2.2.1) := (blk_cell Bl310.out 2).trans rfl
          have zl311_3 : w309.cell? ⟨gl307, 3, none⟩ = some (.int .i64 l.2.2.2) := (blk_cell Bl310.out 3).trans rfl
          go_wp2_with fail
          obtain ⟨W312, hw312⟩ : ∃ x : World, x = w309.alloc (.cells #[.int .i64 l.1, .int .i64 l.2.1, .int .i64 l.2.2.1, .int .i64 l.2.2.2] 24) := ⟨_, rfl⟩
          have hbs312 : Below w309.heap.size w309 W312 := by rw [hw312]; repeat (first | exact Below.refl _ _ | refine below_alloc ?_ _ | refine below_drew ?_)
          obtain ⟨gm312, hgm312⟩ : ∃ x, x = w309.heap.size := ⟨_, rfl⟩
          have GSm312 : Aside0 (W.heap.size ≤ gm312) := ⟨by rw [hgm312]; have := HB310.out.size; omega⟩
          have Bm312 : Aside0 (W312.heap[gm312]? = some (.cells #[.int .i64 l.1, .int .i64 l.2.1, .int .i64 l.2.2.1, .int .i64 l.2.2.2] 24 (0, 0))) := ⟨by rw [hw312, hgm312]; exact blk_new _ _⟩
          rw [← hw312]
          rw [← hgm312]
          clear hw312 hgm312
          clear zl311_0 zl311_1 zl311_2 zl311_3
          have HB313 := Aside0.mk (below_step HB310.out hbs312)
          have Bl313 : Aside0 (W312.heap[gl307]? = some (.cells #[.int .i64 l.1, .int .i64 l.2.1, .int .i64 l.2.2.1, .int .i64 l.2.2.2] 24 (0, 0))) := ⟨(hbs312.block _ (blk_lt Bl310.out)).trans Bl310.out⟩
          have CWA313 := Aside0.mk (WAt.below CWA310.out hbs312)
          have CRW313 := Aside0.mk (RWAt.below CRW310.out hbs312)
          clear hbs312
          have HBOP : Aside0 (Both W312 g1 g2 nd lf tk (k)) := ⟨⟨v1, ag, seen, by rw [HSW.out]; exact CWA313.out, CRW313.out, HL.out, HAG.out⟩⟩
          have HBPW := HB313
          have HBP0 : Aside0 (Below W312.heap.size W312 W312) := ⟨Below.refl _ _⟩
          obtain ⟨ch, hch⟩ : ∃ ch, wantOf nd lf tk sw v1 ag = ch := ⟨_, rfl⟩
          have HCH := Aside0.mk hch
          have HCLN := Aside0.mk (want_len nd lf tk sw v1 ag)
          rw [hch] at HCLN
          have hcw := want_c _ g1 nd lf tk sw v1 ag CWA313.out
          rw [hch] at hcw
          clear hch
          refine hcw.mono ?_
          rintro e wW ⟨B, d, B', d', rfl, hRa, hRb, hbW⟩
          have HRA := Aside0.mk hRa
          have HRB := Aside0.mk hRb
          clear hcw hRa hRb
          have HB314 := Aside0.mk (below_step HB313.out hbW)
          have Bl314 : Aside0 (wW.heap[gl307]? = some (.cells #[.int .i64 l.1, .int .i64 l.2.1, .int .i64 l.2.2.1, .int .i64 l.2.2.2] 24 (0, 0))) := ⟨(hbW.block _ (blk_lt Bl313.out)).trans Bl313.out⟩
          have Bm314 : Aside0 (wW.heap[gm312]? = some (.cells #[.int .i64 l.1, .int .i64 l.2.1, .int .i64 l.2.2.1, .int .i64 l.2.2.2] 24 (0, 0))) := ⟨(hbW.block _ (blk_lt Bm312.out)).trans Bm312.out⟩
          have CWA314 := Aside0.mk (WAt.below CWA313.out hbW)
          have CRW314 := Aside0.mk (RWAt.below CRW313.out hbW)
          have CBP314 := Aside0.mk (below_step HBP0.out hbW)
          clear hbW
          have zl315_0 : wW.cell? ⟨gl307, 0, none⟩ = some (.int .i64 l.1) := (blk_cell Bl314.out 0).trans rfl
          have zl315_1 : wW.cell? ⟨gl307, 1, none⟩ = some (.int .i64 l.2.1) := (blk_cell Bl314.out 1).trans rfl
          have zl315_2 : wW.cell? ⟨gl307, 2, none⟩ = some (.int .i64 l.2.2.1) := (blk_cell Bl314.out 2).trans rfl
          have zl315_3 : wW.cell? ⟨gl307, 3, none⟩ = some (.int .i64 l.2.2.2) := (blk_cell Bl314.out 3).trans rfl
          have zm315_0 : wW.cell? ⟨gm312, 0, none⟩ = some (.int .i64 l.1) := (blk_cell Bm314.out 0).trans rfl
          have zm315_1 : wW.cell? ⟨gm312, 1, none⟩ = some (.int .i64 l.2.1) := (blk_cell Bm314.out 1).trans rfl
          have zm315_2 : wW.cell? ⟨gm312, 2, none⟩ = some (.int .i64 l.2.2.1) := (blk_cell Bm314.out 2).trans rfl
          have zm315_3 : wW.cell? ⟨gm312, 3, none⟩ = some (.int .i64 l.2.2.2) := (blk_cell Bm314.out 3).trans rfl
          go_upto_region 37 with fail
          obtain ⟨W316, hw316⟩ : ∃ x : World, x = wW.alloc (.cells #[.int .i64 ch.1, .slice B ch.2.1.length d, .slice B' ch.2.2.length d'] 39) := ⟨_, rfl⟩
          have hbs316 : Below wW.heap.size wW W316 := by rw [hw316]; repeat (first | exact Below.refl _ _ | refine below_alloc ?_ _ | refine below_drew ?_)
          obtain ⟨gc316, hgc316⟩ : ∃ x, x = wW.heap.size := ⟨_, rfl⟩
          have GSc316 : Aside0 (W.heap.size ≤ gc316) := ⟨by rw [hgc316]; have := HB314.out.size; omega⟩
          have Bc316 : Aside0 (W316.heap[gc316]? = some (.cells #[.int .i64 ch.1, .slice B ch.2.1.length d, .slice B' ch.2.2.length d'] 39 (0, 0))) := ⟨by rw [hw316, hgc316]; exact blk_new _ _⟩
          rw [← hw316]
          rw [← hgc316]
          clear hw316 hgc316
          clear zl315_0 zl315_1 zl315_2 zl315_3 zm315_0 zm315_1 zm315_2 zm315_3
          have HB317 := Aside0.mk (below_step HB314.out hbs316)
          have Bl317 : Aside0 (W316.heap[gl307]? = some (.cells #[.int .i64 l.1, .int .i64 l.2.1, .int .i64 l.2.2.1, .int .i64 l.2.2.2] 24 (0, 0))) := ⟨(hbs316.block _ (blk_lt Bl314.out)).trans Bl314.out⟩
          have Bm317 : Aside0 (W316.heap[gm312]? = some (.cells #[.int .i64 l.1, .int .i64 l.2.1, .int .i64 l.2.2.1, .int .i64 l.2.2.2] 24 (0, 0))) := ⟨(hbs316.block _ (blk_lt Bm314.out)).trans Bm314.out⟩
          have CWA317 := Aside0.mk (WAt.below CWA314.out hbs316)
          have CRW317 := Aside0.mk (RWAt.below CRW314.out hbs316)
          have CBP317 := Aside0.mk (below_step CBP314.out hbs316)
          have Ro317 := Aside0.mk (Kd.R_below HRA.out hbs316)
          have Rn317 := Aside0.mk (Kd.R_below HRB.out hbs316)
          clear hbs316
          have zl318_0 : W316.cell? ⟨gl307, 0, none⟩ = some (.int .i64 l.1) := (blk_cell Bl317.out 0).trans rfl
          have zl318_1 : W316.cell? ⟨gl307, 1, none⟩ = some (.int .i64 l.2.1) := (blk_cell Bl317.out 1).trans rfl
          have zl318_2 : W316.cell? ⟨gl307, 2, none⟩ = some (.int .i64 l.2.2.1) := (blk_cell Bl317.out 2).trans rfl
          have zl318_3 : W316.cell? ⟨gl307, 3, none⟩ = some (.int .i64 l.2.2.2) := (blk_cell Bl317.out 3).trans rfl
          have zm318_0 : W316.cell? ⟨gm312, 0, none⟩ = some (.int .i64 l.1) := (blk_cell Bm317.out 0).trans rfl
          have zm318_1 : W316.cell? ⟨gm312, 1, none⟩ = some (.int .i64 l.2.1) := (blk_cell Bm317.out 1).trans rfl
          have zm318_2 : W316.cell? ⟨gm312, 2, none⟩ = some (.int .i64 l.2.2.1) := (blk_cell Bm317.out 2).trans rfl
          have zm318_3 : W316.cell? ⟨gm312, 3, none⟩ = some (.int .i64 l.2.2.2) := (blk_cell Bm317.out 3).trans rfl
          have zc318_0 : W316.cell? ⟨gc316, 0, none⟩ = some (.int .i64 ch.1) := (blk_cell Bc316.out 0).trans rfl
          have zc318_1 : W316.cell? ⟨gc316, 1, none⟩ = some (.slice B ch.2.1.length d) := (blk_cell Bc316.out 1).trans rfl
          have zc318_2 : W316.cell? ⟨gc316, 2, none⟩ = some (.slice B' ch.2.2.length d') := (blk_cell Bc316.out 2).trans rfl
          have zag := RWAt.age CRW317.out
          have HRWC : Aside0 (∀ w, RWAt w g2 nd lf tk seen ag → Calls Try.prog 35 #[.pointer (some ⟨g2, 0, none⟩)] w (RWantPost w ch)) := ⟨fun w h => by have h2 := rwant_c w g2 nd lf tk seen ag v1 HL.out h; rw [HSW.out, HCH.out] at h2; exact h2⟩
          have HLEN := Aside0.mk (WAt.len CWA317.out)
          have e1 : (ln != ln) = false := by simp
          have e2 : (lb != lb) = false := by simp
          have e3 : (qk != qk) = false := by simp
          have e4 : (ag != ag) = false := by simp
          refine start_ (n := 34) (S := fun w' => w'.cell? ⟨gl307, 0, none⟩ = some (.int .i64 l.1) ∧ w'.cell? ⟨gl307, 1, none⟩ = some (.int .i64 l.2.1) ∧ w'.cell? ⟨gl307, 2, none⟩ = some (.int .i64 l.2.2.1) ∧ w'.cell? ⟨gl307, 3, none⟩ = some (.int .i64 l.2.2.2) ∧ w'.cell? ⟨gm312, 0, none⟩ = some (.int .i64 l.1) ∧ w'.cell? ⟨gm312, 1, none⟩ = some (.int .i64 l.2.1) ∧ w'.cell? ⟨gm312, 2, none⟩ = some (.int .i64 l.2.2.1) ∧ w'.cell? ⟨gm312, 3, none⟩ = some (.int .i64 l.2.2.2) ∧ w'.cell? ⟨gc316, 0, none⟩ = some (.int .i64 ch.1) ∧ w'.cell? ⟨gc316, 1, none⟩ = some (.slice B ch.2.1.length d) ∧ w'.cell? ⟨gc316, 2, none⟩ = some (.slice B' ch.2.2.length d') ∧ w'.cell? ⟨g2, 4, none⟩ = some (.int .i64 ag)) (ds := []) #[false, false, false, false, false, false, false, false, false, false, false, false, false, false, false, false, false, false, false, false, false, false, false, false, false, false, false, false, false, false, false, false, false, false] (by kernel_rfl) rfl rfl ⟨zl318_0, zl318_1, zl318_2, zl318_3, zm318_0, zm318_1, zm318_2, zm318_3, zc318_0, zc318_1, zc318_2, zag⟩ (fun hHeld => ?_)
          refine pure_ (i := 0) (N := some 133) (v := ?_) (a' := ?_) #[true, false, false, false, false, false, false, false, false, false, false, false, false, false, false, false, false, false, false, false, false, false, false, false, false, false, false, false, false, false, false, false, false, false] rfl rfl (by kernel_rfl) (fun _ _ _ h => h) (Or.inl ⟨by rfl, ?_⟩) ?_ ?_
          rotate_left
          · intro w'
            go_simp
            with_reducible rfl
          rotate_left
          · simp only [Act.put, List.setIfInBounds_toArray, List.set_cons_zero, List.set_cons_succ, i64_w, i32_w]
            rfl
          refine pure_ (i := 1) (N := some 134) (v := ?_) (a' := ?_) #[true, true, false, false, false, false, false, false, false, false, false, false, false, false, false, false, false, false, false, false, false, false, false, false, false, false, false, false, false, false, false, false, false, false] rfl rfl (by kernel_rfl) (fun _ _ _ h => h) (Or.inl ⟨by rfl, ?_⟩) ?_ ?_
          rotate_left
          · intro w'
            go_simp
            with_reducible rfl
          rotate_left
          · simp only [Act.put, List.setIfInBounds_toArray, List.set_cons_zero, List.set_cons_succ, i64_w, i32_w]
            rfl
          refine pure_ (i := 2) (N := some 135) (v := ?_) (a' := ?_) #[true, true, true, false, false, false, false, false, false, false, false, false, false, false, false, false, false, false, false, false, false, false, false, false, false, false, false, false, false, false, false, false, false, false] rfl rfl (by kernel_rfl) (fun _ _ _ h => h) (Or.inl ⟨by rfl, ?_⟩) ?_ ?_
          rotate_left
          · intro w'
            go_simp
            with_reducible rfl
          rotate_left
          · simp only [Act.put, List.setIfInBounds_toArray, List.set_cons_zero, List.set_cons_succ, i64_w, i32_w]
            rfl
          refine pure_ (i := 3) (N := some 136) (v := ?_) (a' := ?_) #[true, true, true, true, false, false, false, false, false, false, false, false, false, false, false, false, false, false, false, false, false, false, false, false, false, false, false, false, false, false, false, false, false, false] rfl rfl (by kernel_rfl) (fun _ _ _ h => h) (Or.inl ⟨by rfl, ?_⟩) ?_ ?_
          rotate_left
          · intro w'
            go_simp
            with_reducible rfl
          rotate_left
          · simp only [Act.put, List.setIfInBounds_toArray, List.set_cons_zero, List.set_cons_succ, i64_w, i32_w]
            rfl
          refine pure_ (i := 4) (N := some 137) (v := ?_) (a' := ?_) #[true, true, true, true, true, false, false, false, false, false, false, false, false, false, false, false, false, false, false, false, false, false, false, false, false, false, false, false, false, false, false, false, false, false] rfl rfl (by kernel_rfl) (fun _ _ _ h => h) (Or.inl ⟨by rfl, ?_⟩) ?_ ?_
          rotate_left
          · intro w'
            go_simp
            with_reducible rfl
          rotate_left
          · simp only [Act.put, List.setIfInBounds_toArray, List.set_cons_zero, List.set_cons_succ, i64_w, i32_w]
            rfl
          refine pure_ (i := 5) (N := some 138) (v := ?_) (a' := ?_) #[true, true, true, true, true, true, false, false, false, false, false, false, false, false, false, false, false, false, false, false, false, false, false, false, false, false, false, false, false, false, false, false, false, false] rfl rfl (by kernel_rfl) (fun _ _ _ h => h) (Or.inl ⟨by rfl, ?_⟩) ?_ ?_
          rotate_left
          · intro w'
            go_simp
            with_reducible rfl
          rotate_left
          · simp only [Act.put, List.setIfInBounds_toArray, List.set_cons_zero, List.set_cons_succ, i64_w, i32_w]
            rfl
          refine pure_ (i := 6) (N := some 139) (v := ?_) (a' := ?_) #[true, true, true, true, true, true, true, false, false, false, false, false, false, false, false, false, false, false, false, false, false, false, false, false, false, false, false, false, false, false, false, false, false, false] rfl rfl (by kernel_rfl) (fun _ _ _ h => h) (Or.inl ⟨by rfl, ?_⟩) ?_ ?_
          rotate_left
          · intro w'
            go_simp
            with_reducible rfl
          rotate_left
          · simp only [Act.put, List.setIfInBounds_toArray, List.set_cons_zero, List.set_cons_succ, i64_w, i32_w]
            rfl
          refine pure_ (i := 7) (N := some 140) (v := ?_) (a' := ?_) #[true, true, true, true, true, true, true, true, false, false, false, false, false, false, false, false, false, false, false, false, false, false, false, false, false, false, false, false, false, false, false, false, false, false] rfl rfl (by kernel_rfl) (fun _ _ _ h => h) (Or.inl ⟨by rfl, ?_⟩) ?_ ?_
          rotate_left
          · intro w'
            go_simp
            with_reducible rfl
          rotate_left
          · simp only [Act.put, List.setIfInBounds_toArray, List.set_cons_zero, List.set_cons_succ, i64_w, i32_w]
            rfl
          refine pure_ (i := 8) (N := some 141) (v := ?_) (a' := ?_) #[true, true, true, true, true, true, true, true, true, false, false, false, false, false, false, false, false, false, false, false, false, false, false, false, false, false, false, false, false, false, false, false, false, false] rfl rfl (by kernel_rfl) (fun _ _ _ h => h) (Or.inl ⟨by rfl, ?_⟩) ?_ ?_
          rotate_left
          · intro w'
            go_simp
            with_reducible rfl
          rotate_left
          · simp only [Act.put, List.setIfInBounds_toArray, List.set_cons_zero, List.set_cons_succ, i64_w, i32_w]
            rfl
          refine take_ (i := 9) (N := some 142) (v := ?_) (a' := ?_) #[true, true, true, true, true, true, true, true, true, true, false, false, false, false, false, false, false, false, false, false, false, false, false, false, false, false, false, false, false, false, false, false, false, false] rfl rfl (by kernel_rfl) (fun _ _ _ h => h) (Or.inl ⟨by rfl, ?_⟩) hHeld ?_ ?_
          rotate_left
          · rintro w' ⟨s0, s1, s2, s3, s4, s5, s6, s7, s8, s9, s10, s11⟩
            go_simp
            with_reducible rfl
          rotate_left
          · simp only [Act.put, List.setIfInBounds_toArray, List.set_cons_zero, List.set_cons_succ, i64_w, i32_w]
            rfl
          refine take_ (i := 10) (N := some 143) (v := ?_) (a' := ?_) #[true, true, true, true, true, true, true, true, true, true, true, false, false, false, false, false, false, false, false, false, false, false, false, false, false, false, false, false, false, false, false, false, false, false] rfl rfl (by kernel_rfl) (fun _ _ _ h => h) (Or.inl ⟨by rfl, ?_⟩) hHeld ?_ ?_
          rotate_left
          · rintro w' ⟨s0, s1, s2, s3, s4, s5, s6, s7, s8, s9, s10, s11⟩
            go_simp
            with_reducible rfl
          rotate_left
          · simp only [Act.put, List.setIfInBounds_toArray, List.set_cons_zero, List.set_cons_succ, i64_w, i32_w]
            rfl
          refine pure_ (i := 11) (N := some 144) (v := ?_) (a' := ?_) #[true, true, true, true, true, true, true, true, true, true, true, true, false, false, false, false, false, false, false, false, false, false, false, false, false, false, false, false, false, false, false, false, false, false] rfl rfl (by kernel_rfl) (fun _ _ _ h => h) (Or.inl ⟨by rfl, ?_⟩) ?_ ?_
          rotate_left
          · intro w'
            go_simp
            with_reducible rfl
          rotate_left
          · simp only [Act.put, List.setIfInBounds_toArray, List.set_cons_zero, List.set_cons_succ, i64_w, i32_w]
            rfl
          refine pure_ (i := 12) (N := some 145) (v := ?_) (a' := ?_) #[true, true, true, true, true, true, true, true, true, true, true, true, true, false, false, false, false, false, false, false, false, false, false, false, false, false, false, false, false, false, false, false, false, false] rfl rfl (by kernel_rfl) (fun _ _ _ h => h) (Or.inl ⟨by rfl, ?_⟩) ?_ ?_
          rotate_left
          · intro w'
            go_simp
            with_reducible rfl
          rotate_left
          · simp only [Act.put, List.setIfInBounds_toArray, List.set_cons_zero, List.set_cons_succ, i64_w, i32_w]
            rfl
          refine pure_ (i := 13) (N := some 146) (v := ?_) (a' := ?_) #[true, true, true, true, true, true, true, true, true, true, true, true, true, true, false, false, false, false, false, false, false, false, false, false, false, false, false, false, false, false, false, false, false, false] rfl rfl (by kernel_rfl) (fun _ _ _ h => h) (Or.inl ⟨by rfl, ?_⟩) ?_ ?_
          rotate_left
          · intro w'
            go_simp
            with_reducible rfl
          rotate_left
          · simp only [Act.put, List.setIfInBounds_toArray, List.set_cons_zero, List.set_cons_succ, i64_w, i32_w]
            rfl
          refine pure_ (i := 14) (N := some 147) (v := ?_) (a' := ?_) #[true, true, true, true, true, true, true, true, true, true, true, true, true, true, true, false, false, false, false, false, false, false, false, false, false, false, false, false, false, false, false, false, false, false] rfl rfl (by kernel_rfl) (fun _ _ _ h => h) (Or.inl ⟨by rfl, ?_⟩) ?_ ?_
          rotate_left
          · intro w'
            go_simp
            with_reducible rfl
          rotate_left
          · simp only [Act.put, List.setIfInBounds_toArray, List.set_cons_zero, List.set_cons_succ, i64_w, i32_w]
            rfl
          refine pure_ (i := 15) (N := some 148) (v := ?_) (a' := ?_) #[true, true, true, true, true, true, true, true, true, true, true, true, true, true, true, true, false, false, false, false, false, false, false, false, false, false, false, false, false, false, false, false, false, false] rfl rfl (by kernel_rfl) (fun _ _ _ h => h) (Or.inl ⟨by rfl, ?_⟩) ?_ ?_
          rotate_left
          · intro w'
            go_simp
            with_reducible rfl
          rotate_left
          · simp only [Act.put, List.setIfInBounds_toArray, List.set_cons_zero, List.set_cons_succ, i64_w, i32_w]
            rfl
          refine pure_ (i := 16) (N := some 149) (v := ?_) (a' := ?_) #[true, true, true, true, true, true, true, true, true, true, true, true, true, true, true, true, true, false, false, false, false, false, false, false, false, false, false, false, false, false, false, false, false, false] rfl rfl (by kernel_rfl) (fun _ _ _ h => h) (Or.inl ⟨by rfl, ?_⟩) ?_ ?_
          rotate_left
          · intro w'
            go_simp
            with_reducible rfl
          rotate_left
          · simp only [Act.put, List.setIfInBounds_toArray, List.set_cons_zero, List.set_cons_succ, i64_w, i32_w]
            rfl
          refine pure_ (i := 17) (N := some 150) (v := ?_) (a' := ?_) #[true, true, true, true, true, true, true, true, true, true, true, true, true, true, true, true, true, true, false, false, false, false, false, false, false, false, false, false, false, false, false, false, false, false] rfl rfl (by kernel_rfl) (fun _ _ _ h => h) (Or.inl ⟨by rfl, ?_⟩) ?_ ?_
          rotate_left
          · intro w'
            go_simp
            with_reducible rfl
          rotate_left
          · simp only [Act.put, List.setIfInBounds_toArray, List.set_cons_zero, List.set_cons_succ, i64_w, i32_w]
            rfl
          refine pure_ (i := 18) (N := some 151) (v := ?_) (a' := ?_) #[true, true, true, true, true, true, true, true, true, true, true, true, true, true, true, true, true, true, true, false, false, false, false, false, false, false, false, false, false, false, false, false, false, false] rfl rfl (by kernel_rfl) (fun _ _ _ h => h) (Or.inl ⟨by rfl, ?_⟩) ?_ ?_
          rotate_left
          · intro w'
            go_simp
            with_reducible rfl
          rotate_left
          · simp only [Act.put, List.setIfInBounds_toArray, List.set_cons_zero, List.set_cons_succ, i64_w, i32_w]
            rfl
          refine pure_ (i := 19) (N := some 152) (v := ?_) (a' := ?_) #[true, true, true, true, true, true, true, true, true, true, true, true, true, true, true, true, true, true, true, true, false, false, false, false, false, false, false, false, false, false, false, false, false, false] rfl rfl (by kernel_rfl) (fun _ _ _ h => h) (Or.inl ⟨by rfl, ?_⟩) ?_ ?_
          rotate_left
          · intro w'
            go_simp
            with_reducible rfl
          rotate_left
          · simp only [Act.put, List.setIfInBounds_toArray, List.set_cons_zero, List.set_cons_succ, i64_w, i32_w]
            rfl
          refine pure_ (i := 21) (N := some 154) (v := ?_) (a' := ?_) #[true, true, true, true, true, true, true, true, true, true, true, true, true, true, true, true, true, true, true, true, false, true, false, false, false, false, false, false, false, false, false, false, false, false] rfl rfl (by kernel_rfl) (fun _ _ _ h => h) (Or.inl ⟨by rfl, ?_⟩) ?_ ?_
          rotate_left
          · intro w'
            go_simp
            with_reducible rfl
          rotate_left
          · simp only [Act.put, List.setIfInBounds_toArray, List.set_cons_zero, List.set_cons_succ, i64_w, i32_w]
            rfl
          refine pure_ (i := 22) (N := some 155) (v := ?_) (a' := ?_) #[true, true, true, true, true, true, true, true, true, true, true, true, true, true, true, true, true, true, true, true, false, true, true, false, false, false, false, false, false, false, false, false, false, false] rfl rfl (by kernel_rfl) (fun _ _ _ h => h) (Or.inl ⟨by rfl, ?_⟩) ?_ ?_
          rotate_left
          · intro w'
            go_simp
            with_reducible rfl
          rotate_left
          · simp only [Act.put, List.setIfInBounds_toArray, List.set_cons_zero, List.set_cons_succ, i64_w, i32_w]
            rfl
          refine pure_ (i := 23) (N := some 156) (v := ?_) (a' := ?_) #[true, true, true, true, true, true, true, true, true, true, true, true, true, true, true, true, true, true, true, true, false, true, true, true, false, false, false, false, false, false, false, false, false, false] rfl rfl (by kernel_rfl) (fun _ _ _ h => h) (Or.inl ⟨by rfl, ?_⟩) ?_ ?_
          rotate_left
          · intro w'
            go_simp
            with_reducible rfl
          rotate_left
          · simp only [Act.put, List.setIfInBounds_toArray, List.set_cons_zero, List.set_cons_succ, i64_w, i32_w]
            rfl
          refine take_ (i := 24) (N := some 157) (v := ?_) (a' := ?_) #[true, true, true, true, true, true, true, true, true, true, true, true, true, true, true, true, true, true, true, true, false, true, true, true, true, false, false, false, false, false, false, false, false, false] rfl rfl (by kernel_rfl) (fun _ _ _ h => h) (Or.inl ⟨by rfl, ?_⟩) hHeld ?_ ?_
          rotate_left
          · rintro w' ⟨s0, s1, s2, s3, s4, s5, s6, s7, s8, s9, s10, s11⟩
            go_simp
            with_reducible rfl
          rotate_left
          · simp only [Act.put, List.setIfInBounds_toArray, List.set_cons_zero, List.set_cons_succ, i64_w, i32_w]
            rfl
          refine one_ (i := 20) (N := some 153) #[true, true, true, true, true, true, true, true, true, true, true, true, true, true, true, true, true, true, true, true, true, true, true, true, true, false, false, false, false, false, false, false, false, false] rfl rfl (by kernel_rfl) (by decide) (fun K hK => ?_)
          refine goes_ Try.func19 (by kernel_rfl) rfl #[.pointer (some ⟨g1, 0, none⟩)] (by rfl) rfl rfl (by simp only [List.map_toArray, List.map_cons, List.map_nil]; rfl) ?_
          with_reducible refine (age_c _ g1 nd lf tk sw v1 ag (WAt.below CWA317.out (below_drew (Below.refl _ _)))).mono ?_
          rintro e v20 ⟨rfl, hb20⟩
          refine ⟨_, rfl, ?_⟩
          have HB20 := Aside0.mk (below_step (below_drew (Below.refl _ W316)) hb20)
          clear hb20
          refine hK.out _ _ ⟨pw_cell_below HB20.out zl318_0, pw_cell_below HB20.out zl318_1, pw_cell_below HB20.out zl318_2, pw_cell_below HB20.out zl318_3, pw_cell_below HB20.out zm318_0, pw_cell_below HB20.out zm318_1, pw_cell_below HB20.out zm318_2, pw_cell_below HB20.out zm318_3, pw_cell_below HB20.out zc318_0, pw_cell_below HB20.out zc318_1, pw_cell_below HB20.out zc318_2, pw_cell_below HB20.out zag⟩ (fun hHeld => ?_)
          clear hK K
          refine norm_ (a' := ?_) ?_ ?_
          rotate_left
          · show Act.put _ (some 153) _ = _
            simp only [Act.put, List.setIfInBounds_toArray, List.set_cons_zero, List.set_cons_succ, i64_w, i32_w]
            rfl
          refine pure_ (i := 25) (N := some 158) (v := ?_) (a' := ?_) #[true, true, true, true, true, true, true, true, true, true, true, true, true, true, true, true, true, true, true, true, true, true, true, true, true, true, false, false, false, false, false, false, false, false] rfl rfl (by kernel_rfl) (fun _ _ _ h => h) (Or.inl ⟨by rfl, ?_⟩) ?_ ?_
          rotate_left
          · intro w'
            go_simp
            with_reducible rfl
          rotate_left
          · simp only [Act.put, List.setIfInBounds_toArray, List.set_cons_zero, List.set_cons_succ, i64_w, i32_w]
            rfl
          refine pure_ (i := 26) (N := some 159) (v := ?_) (a' := ?_) #[true, true, true, true, true, true, true, true, true, true, true, true, true, true, true, true, true, true, true, true, true, true, true, true, true, true, true, false, false, false, false, false, false, false] rfl rfl (by kernel_rfl) (fun _ _ _ h => h) (Or.inl ⟨by rfl, ?_⟩) ?_ ?_
          rotate_left
          · intro w'
            go_simp
            with_reducible rfl
          rotate_left
          · simp only [Act.put, List.setIfInBounds_toArray, List.set_cons_zero, List.set_cons_succ, i64_w, i32_w]
            rfl
          refine pure_ (i := 27) (N := some 160) (v := ?_) (a' := ?_) #[true, true, true, true, true, true, true, true, true, true, true, true, true, true, true, true, true, true, true, true, true, true, true, true, true, true, true, true, false, false, false, false, false, false] rfl rfl (by kernel_rfl) (fun _ _ _ h => h) (Or.inl ⟨by rfl, ?_⟩) ?_ ?_
          rotate_left
          · intro w'
            go_simp
            with_reducible rfl
          rotate_left
          · simp only [Act.put, List.setIfInBounds_toArray, List.set_cons_zero, List.set_cons_succ, i64_w, i32_w]
            rfl
          refine pure_ (i := 29) (N := some 162) (v := ?_) (a' := ?_) #[true, true, true, true, true, true, true, true, true, true, true, true, true, true, true, true, true, true, true, true, true, true, true, true, true, true, true, true, false, true, false, false, false, false] rfl rfl (by kernel_rfl) (fun _ _ _ h => h) (Or.inl ⟨by rfl, ?_⟩) ?_ ?_
          rotate_left
          · intro w'
            go_simp
            with_reducible rfl
          rotate_left
          · simp only [Act.put, List.setIfInBounds_toArray, List.set_cons_zero, List.set_cons_succ, i64_w, i32_w]
            rfl
          refine take_ (i := 28) (N := some 161) (v := ?_) (a' := ?_) #[true, true, true, true, true, true, true, true, true, true, true, true, true, true, true, true, true, true, true, true, true, true, true, true, true, true, true, true, true, true, false, false, false, false] rfl rfl (by kernel_rfl) (fun _ _ _ h => h) (Or.inl ⟨by rfl, ?_⟩) hHeld ?_ ?_
          rotate_left
          · rintro w' ⟨s0, s1, s2, s3, s4, s5, s6, s7, s8, s9, s10, s11⟩
            go_simp
            with_reducible rfl
          rotate_left
          · simp only [Act.put, List.setIfInBounds_toArray, List.set_cons_zero, List.set_cons_succ, i64_w, i32_w]
            rfl
          refine one_ (i := 30) (N := some 163) #[true, true, true, true, true, true, true, true, true, true, true, true, true, true, true, true, true, true, true, true, true, true, true, true, true, true, true, true, true, true, true, false, false, false] rfl rfl (by kernel_rfl) (by decide) (fun K hK => ?_)
          refine goes_ Try.func35 (by kernel_rfl) rfl #[.pointer (some ⟨g2, 0, none⟩)] (by rfl) rfl rfl (by simp only [List.map_toArray, List.map_cons, List.map_nil]; rfl) ?_
          with_reducible refine (HRWC.out _ (RWAt.below CRW317.out HB20.out)).mono ?_
          rintro e v30 ⟨B2, d2, B3, d3, rfl, hC2, hd2, hC3, hd3, hb30⟩
          refine ⟨_, rfl, ?_⟩
          have HB30 := Aside0.mk (below_step HB20.out hb30)
          have HC2 := Aside0.mk hC2
          have HC3 := Aside0.mk hC3
          have HD2 := Aside0.mk hd2
          have HD3 := Aside0.mk hd3
          clear hb30 hC2 hC3 hd2 hd3
          refine hK.out _ _ ⟨pw_cell_below HB30.out zl318_0, pw_cell_below HB30.out zl318_1, pw_cell_below HB30.out zl318_2, pw_cell_below HB30.out zl318_3, pw_cell_below HB30.out zm318_0, pw_cell_below HB30.out zm318_1, pw_cell_below HB30.out zm318_2, pw_cell_below HB30.out zm318_3, pw_cell_below HB30.out zc318_0, pw_cell_below HB30.out zc318_1, pw_cell_below HB30.out zc318_2, pw_cell_below HB30.out zag⟩ (fun hHeld => ?_)
          clear hK K
          refine norm_ (a' := ?_) ?_ ?_
          rotate_left
          · show Act.put _ (some 163) _ = _
            simp only [Act.put, List.setIfInBounds_toArray, List.set_cons_zero, List.set_cons_succ, i64_w, i32_w]
            rfl
          refine one_ (i := 31) (N := some 164) #[true, true, true, true, true, true, true, true, true, true, true, true, true, true, true, true, true, true, true, true, true, true, true, true, true, true, true, true, true, true, true, true, false, false] rfl rfl (by kernel_rfl) (by decide) (fun K hK => ?_)
          refine goes_ Try.func22 (by kernel_rfl) rfl #[.agg #[.int .i64 ch.1, .slice B ch.2.1.length d, .slice B' ch.2.2.length d'], .agg #[.int .i64 ch.1, .slice B2 ch.2.1.length d2, .slice B3 ch.2.2.length d3]] (by rfl) rfl rfl (by simp only [List.map_toArray, List.map_cons, List.map_nil]; rfl) ?_
          with_reducible refine (same_c true ch.1 B d ch.2.1 B' d' ch.2.2 ch.1 B2 d2 ch.2.1 B3 d3 ch.2.2 v30 (decide_eq_true ⟨rfl, rfl, rfl⟩) (Kd.C_below (Kd.R_reads' Ro317.out).2.2 HB30.out) (Kd.R_reads' Ro317.out).2.1 (Kd.C_below (Kd.R_reads' Rn317.out).2.2 HB30.out) (Kd.R_reads' Rn317.out).2.1 HC2.out HD2.out HC3.out HD3.out (Nat.lt_of_le_of_lt HCLN.out.1 HLEN.out) (Nat.lt_of_le_of_lt HCLN.out.2 (by decide))).mono ?_
          rintro e v31 ⟨rfl, hb31⟩
          refine ⟨_, rfl, ?_⟩
          have HB31 := Aside0.mk (below_step HB30.out hb31)
          clear hb31
          refine hK.out _ _ ⟨pw_cell_below HB31.out zl318_0, pw_cell_below HB31.out zl318_1, pw_cell_below HB31.out zl318_2, pw_cell_below HB31.out zl318_3, pw_cell_below HB31.out zm318_0, pw_cell_below HB31.out zm318_1, pw_cell_below HB31.out zm318_2, pw_cell_below HB31.out zm318_3, pw_cell_below HB31.out zc318_0, pw_cell_below HB31.out zc318_1, pw_cell_below HB31.out zc318_2, pw_cell_below HB31.out zag⟩ (fun hHeld => ?_)
          clear hK K
          refine norm_ (a' := ?_) ?_ ?_
          rotate_left
          · show Act.put _ (some 164) _ = _
            simp only [Act.put, List.setIfInBounds_toArray, List.set_cons_zero, List.set_cons_succ, i64_w, i32_w]
            rfl
          refine pure_ (i := 32) (N := some 165) (v := ?_) (a' := ?_) #[true, true, true, true, true, true, true, true, true, true, true, true, true, true, true, true, true, true, true, true, true, true, true, true, true, true, true, true, true, true, true, true, true, false] rfl rfl (by kernel_rfl) (fun _ _ _ h => h) (Or.inl ⟨by rfl, ?_⟩) ?_ ?_
          rotate_left
          · intro w'
            go_simp
            with_reducible rfl
          rotate_left
          · simp only [Act.put, List.setIfInBounds_toArray, List.set_cons_zero, List.set_cons_succ, i64_w, i32_w]
            rfl
          refine pure_ (i := 33) (N := some 166) (v := ?_) (a' := ?_) #[true, true, true, true, true, true, true, true, true, true, true, true, true, true, true, true, true, true, true, true, true, true, true, true, true, true, true, true, true, true, true, true, true, true] rfl rfl (by kernel_rfl) (fun _ _ _ h => h) (Or.inl ⟨by rfl, ?_⟩) ?_ ?_
          rotate_left
          · intro w'
            go_simp
            with_reducible rfl
          rotate_left
          · simp only [Act.put, List.setIfInBounds_toArray, List.set_cons_zero, List.set_cons_succ, i64_w, i32_w]
            rfl
          refine done_ (by kernel_rfl) ?_
          have hbe := HB31.out
          clear zl318_0 zl318_1 zl318_2 zl318_3 zm318_0 zm318_1 zm318_2 zm318_3 zc318_0 zc318_1 zc318_2 zag e1 e2 e3 e4
          have HB319 := Aside0.mk (below_step HB317.out hbe)
          have Bl319 : Aside0 (v31.heap[gl307]? = some (.cells #[.int .i64 l.1, .int .i64 l.2.1, .int .i64 l.2.2.1, .int .i64 l.2.2.2] 24 (0, 0))) := ⟨(hbe.block _ (blk_lt Bl317.out)).trans Bl317.out⟩
          have Bm319 : Aside0 (v31.heap[gm312]? = some (.cells #[.int .i64 l.1, .int .i64 l.2.1, .int .i64 l.2.2.1, .int .i64 l.2.2.2] 24 (0, 0))) := ⟨(hbe.block _ (blk_lt Bm317.out)).trans Bm317.out⟩
          have Bc319 : Aside0 (v31.heap[gc316]? = some (.cells #[.int .i64 ch.1, .slice B ch.2.1.length d, .slice B' ch.2.2.length d'] 39 (0, 0))) := ⟨(hbe.block _ (blk_lt Bc316.out)).trans Bc316.out⟩
          have CWA319 := Aside0.mk (WAt.below CWA317.out hbe)
          have CRW319 := Aside0.mk (RWAt.below CRW317.out hbe)
          have CBP319 := Aside0.mk (below_step CBP317.out hbe)
          have Ro319 := Aside0.mk (Kd.R_below Ro317.out hbe)
          have Rn319 := Aside0.mk (Kd.R_below Rn317.out hbe)
          clear hbe
          have zc320_0 : v31.cell? ⟨gc316, 0, none⟩ = some (.int .i64 ch.1) := (blk_cell Bc319.out 0).trans rfl
          have zc320_1 : v31.cell? ⟨gc316, 1, none⟩ = some (.slice B ch.2.1.length d) := (blk_cell Bc319.out 1).trans rfl
          have zc320_2 : v31.cell? ⟨gc316, 2, none⟩ = some (.slice B' ch.2.2.length d') := (blk_cell Bc319.out 2).trans rfl
          go_wp2_with fail
          clear zc320_0 zc320_1 zc320_2
          go_loopw [170] (fun v170 w' => ∃ (i : Nat) (ys : List Int), i ≤ ch.2.1.length ∧ v170 = .int .i64 i ∧ Aside0 ((Kd.int .i64).R 3 w' W312.heap.size (fun _ => True) (.slice B ch.2.1.length d) ys) ∧ Aside0 (w'.heap[gc316]? = some (.cells #[.int .i64 ch.1, .slice B ch.2.1.length d, .slice B' ch.2.2.length d'] 39 (0, 0))) ∧ Aside0 (Below W312.heap.size W312 w') ∧ Aside0 (Below W.heap.size W w')) (fun v _ => ch.2.1.length - (intOf v).toNat)
          case atStart => exact ⟨0, ch.2.1, by omega, rfl, Ro319, Bc319, CBP319, HB319⟩
          case round =>
            obtain ⟨i, ys, hi, rfl, HR, HC, HP, HW2⟩ := hrel
            by_cases hlt6 : i < ch.2.1.length
            case neg =>
              have d6 : decide ((i : Int) < (ch.2.1.length : Int)) = false := decide_eq_false (by omega)
              go_wp2_with fail
              go_roundw
              case rel => exact ⟨k + 1, by omega, by go_num, ⟨(HBOP.out.below HP.out).up (by omega)⟩, HW2⟩
              case measure => simp [intOf]; omega
            have hcb : ch.2.1.length < 17592186044416 := Nat.lt_of_le_of_lt HCLN.out.1 HLEN.out
            obtain ⟨b, rfl, hbb, hob⟩ := row_bi HR.out (by omega)
            obtain ⟨hc0, hf0⟩ := Kd.R_celln 0 HR.out (i : Int) (by omega) (by omega)
            rw [Int.toNat_natCast] at hc0 hf0
            obtain ⟨x0, hx0⟩ : ∃ x, rdOf 0 ys (i : Int) = x := ⟨_, rfl⟩
            rw [hx0] at hc0
            clear hx0
            have HBB := Aside0.mk (And.intro hbb hob)
            clear hbb hob
            have d6 : decide ((i : Int) < (ch.2.1.length : Int)) = true := decide_eq_true (by omega)
            have zc1 : wr.cell? ⟨gc316, 1, none⟩ = some (.slice (some ⟨b, 0, none⟩) ch.2.1.length d) := (blk_cell HC.out 1).trans rfl
            go_wp2_with fail
            go_roundw
            case rel => exact ⟨i + 1, ys.set i (-1), by omega, by go_num, ⟨Kd.R_putn HR.out (i : Int) (-1)⟩, ⟨blk_grown HC.out (Kd.R_putg HR.out (i : Int) (-1)).2 (by rw [← HBB.out.2]; exact Kd.R_ne HR.out HC.out (by decide))⟩, ⟨below_set HP.out HBB.out.1⟩, ⟨below_set HW2.out (Nat.le_trans HBPW.out.size HBB.out.1)⟩⟩
            case measure => simp [intOf]; omega
        have d3 : decide ((i : Int) < (mx : Int)) = true := decide_eq_true (by omega)
        obtain ⟨v1, ag, seen, hw, hrw, hl, ha0, ha1, hsl⟩ := HO.out
        have HWA := Aside0.mk hw
        have HRW := Aside0.mk hrw
        have HL := Aside0.mk hl
        clear hw hrw hl HO
        go_wp2_with fail
        refine (tick_c _ g1 nd lf tk _ v1 ag HWA.out ⟨ha0, ha1⟩).mono ?_
        rintro e wa ⟨rfl, hwa, hga⟩
        have HRA := Aside0.mk (HRW.out.grown HWA.out hga)
        have HBA := Aside0.mk (below_watch HW.out hga HG1.out)
        have HWB := Aside0.mk hwa
        clear hwa hga
        go_wp2_with fail
        refine (rtick_c _ g2 nd lf tk seen ag HRA.out ha0).mono ?_
        rintro e wb ⟨rfl, hwb, hfb⟩
        rw [rage_eq ag ha1] at hwb
        have hag : 0 ≤ ageUp ag ∧ ageUp ag ≤ 1000 := by unfold ageUp; split <;> omega
        have HBO2 : Aside0 (Both wb g1 g2 nd lf tk k) := ⟨⟨v1, ageUp ag, seen, HWB.out.frt hfb, hwb, HL.out, hag.1, hag.2, hsl⟩⟩
        have HBB := Aside0.mk (FRT.after HBA.out hfb HG2.out)
        clear hwb hfb
        go_wp2_with fail
        go_roundw
        case rel => exact ⟨i + 1, by omega, by go_num, HBO2, HBB⟩
        case measure => simp [intOf]; omega
    case pos =>
      subst hkd
      have HVN := Aside0.mk (HCV.out _ HB2.out)
      have HVL : Aside0 (v.length ≤ 100) := ⟨h100⟩
      have zao4_0 : ∀ o, (W1.alloc o).cell? ⟨go1, 0, none⟩ = some (.int .i64 0) := fun o => (blk_cell (blk_alloc Bo1.out o) 0).trans rfl
      have zao4_1 : ∀ o, (W1.alloc o).cell? ⟨go1, 1, none⟩ = some (.slice V v.length cv) := fun o => (blk_cell (blk_alloc Bo1.out o) 1).trans rfl
      have zao4_2 : ∀ o, (W1.alloc o).cell? ⟨go1, 2, none⟩ = some (.int .i64 n) := fun o => (blk_cell (blk_alloc Bo1.out o) 2).trans rfl
      go_wp2_with (at_builtin; refine Kd.R_append_row (Value.int .i64) 0 (h1 := fun _ => rfl) (w0 := W1) W1.heap.size rfl (.tmp 75) (.tmp 77) 22 3 (.int .i64 0) 8 rfl Try.underlying22 info3' rfl (by decide) (.slice (some ⟨W1.heap.size, 0, none⟩) 0 0) [] v V v.length cv (fun _ => True) rfl rfl (fun _ _ => trivial) ?aO ?aR ?aB ?aS ?aL ?_; (case aO => exact Kd.R_of_own (own_lit W1 W1.heap.size 3 .i64 [] (Nat.le_refl _) (by simp)) (fun _ _ => trivial)); (case aR => exact Kd.C_alloc HVN.out _); (case aB => exact below_alloc (Below.refl _ _) _); (case aS => simp); (case aL => have := HVL.out; simp; omega); intro v1 w1 ho hb hg hat; have ho := show (Kd.int .i64).R 3 w1 W1.heap.size (fun _ => True) v1 v from ho; obtain ⟨V1, c1, hv1⟩ := Kd.R_slice ho; subst hv1; have HRV := Aside0.mk ho; have HB1' := Aside0.mk hb; clear ho hb hg hat; have k0 := pw_cell_below HB1'.out zo3_0; have k1 := pw_cell_below HB1'.out zo3_1; have k2 := pw_cell_below HB1'.out zo3_2)
      clear zo3_0 zo3_1 zo3_2 zao4_0 zao4_1 zao4_2
      clear k0 k1 k2
      have hb1 := HB1'.out
      clear HB1'
      obtain ⟨vo, ago, seeno, hw, hrw, hl, ha0, ha1, hsl⟩ := CBO2.out
      have hok : ∀ k, k < W1.heap.size → some k ≠ (Value.slice V1 v.length c1).ownBlock := fun k hk e => by have hs := Kd.R_own HRV.out; obtain ⟨inner, ho⟩ := hs; have := own_base ho k e.symm; omega
      obtain ⟨okk, hokk⟩ : ∃ okk : Nat → Prop, okk = fun k => some k ≠ (Value.slice V1 v.length c1).ownBlock := ⟨_, rfl⟩
      have HWO := Aside0.mk ((hw.lim okk (by rw [hokk]; exact hok)).below hb1)
      have HRO := Aside0.mk ((hrw.lim okk (by rw [hokk]; exact hok)).below hb1)
      have HOKK : Aside0 (okk = fun k => some k ≠ (Value.slice V1 v.length c1).ownBlock) := ⟨hokk⟩
      have HLO := Aside0.mk hl
      have HAO := Aside0.mk (And.intro ha0 (And.intro ha1 hsl))
      clear hw hrw hl ha0 ha1 hsl hok hokk
      have HB5 := Aside0.mk (below_step HB2.out hb1)
      have Bo5 : Aside0 (w1.heap[go1]? = some (.cells #[.int .i64 0, .slice V v.length cv, .int .i64 n] 76 (0, 0))) := ⟨(hb1.block _ (blk_lt Bo1.out)).trans Bo1.out⟩
      have CBO5 := Aside0.mk (Both.below CBO2.out hb1)
      clear hb1
      have hfr : ∀ (w : World), w1.heap.size ≤ w.heap.size → ∀ k, w.heap.size ≤ k → okk k := fun w hw k hk => by rw [HOKK.out]; intro e; obtain ⟨inner, ho⟩ := Kd.R_own HRV.out; have := own_lt ho k e.symm; omega
      have HFR := Aside0.mk hfr
      clear hfr
      refine (saw_o okk _ (HFR.out _ (Nat.le_refl _)) g1 nd lf tk _ vo ago HWO.out V1 c1 v (Kd.R_reads' HRV.out).2.2 (Kd.R_reads' HRV.out).2.1 (by have := HVL.out; omega)).mono ?_
      rintro e wa ⟨rfl, hwa, hga⟩
      have HRO2 := Aside0.mk (HRO.out.grown HWO.out.any hga)
      have HBA := Aside0.mk (below_watch HB5.out hga HG1.out)
      have HWO2 := Aside0.mk hwa
      have HRV2 := Aside0.mk (R_watch (e := 0) HRV.out HWO.out.any hga)
      have HOP2 : Aside0 (wa.heap[go1]? = some (.cells #[.int .i64 0, .slice V v.length cv, .int .i64 n] 76 (0, 0))) := ⟨WAt.keep HWO.out.any hga Bo5.out (by decide)⟩
      have HSZ2 := Aside0.mk hga.size
      clear hwa hga HWO
      have z1 : wa.cell? ⟨go1, 1, none⟩ = some (.slice V v.length cv) := (blk_cell HOP2.out 1).trans rfl
      go_wp2_with fail
      clear z1
      refine (rsaw_o okk _ (HFR.out _ HSZ2.out) g2 nd lf tk seeno ago HRO2.out V cv v (HCV.out _ HBA.out) HCVL.out (by have := HVL.out; omega) (by have := HAO.out.2.2; omega)).mono ?_
      rintro e wb ⟨rfl, seen', hrb, hlb', hne', hsl', hfb⟩
      have HBB2 := Aside0.mk (FRT.after HBA.out hfb HG2.out)
      have HRV3 := Aside0.mk (R_frt HRV2.out hfb)
      have HOP3 : Aside0 (wb.heap[go1]? = some (.cells #[.int .i64 0, .slice V v.length cv, .int .i64 n] 76 (0, 0))) := ⟨(hfb.block _ _ 76 HOP2.out (by decide) (by decide)).trans HOP2.out⟩
      have HBO3 : Aside0 (BothO okk wb g1 g2 nd lf tk (k + 1)) := ⟨⟨v, _, seen', by rw [decide_eq_true hne']; exact HWO2.out.frt hfb, by rw [← HLO.out]; exact hrb, hlb', (saw_age _ _ _ _ ⟨HAO.out.1, HAO.out.2.1⟩).1, (saw_age _ _ _ _ ⟨HAO.out.1, HAO.out.2.1⟩).2, by have := HAO.out.2.2; omega⟩⟩
      clear hrb hlb' hne' hsl' hfb
      have z1 : wb.cell? ⟨go1, 1, none⟩ = some (.slice V v.length cv) := (blk_cell HOP3.out 1).trans rfl
      go_wp2_with fail
      clear z1
      refine (ints_v true V1 c1 v V cv v _ (decide_eq_true rfl) (Kd.R_reads' HRV3.out).2.2 (Kd.R_reads' HRV3.out).2.1 (HCV.out _ HBB2.out) HCVL.out (by have := HVL.out; omega)).mono ?_
      rintro e wc ⟨rfl, hbc⟩
      have HRV4 := Aside0.mk (Kd.R_below HRV3.out hbc)
      have HBO4 := Aside0.mk (HBO3.out.below hbc)
      have HBC := Aside0.mk (below_step HBB2.out hbc)
      clear hbc
      go_wp2_with fail
      go_loopw [93] (fun v93 w' => ∃ (i : Nat) (ys : List Int), i ≤ v.length ∧ v93 = .int .i64 i ∧ Aside0 ((Kd.int .i64).R 3 w' W1.heap.size (fun _ => True) (.slice V1 v.length c1) ys) ∧ Aside0 (BothO okk w' g1 g2 nd lf tk (k + 1)) ∧ Aside0 (Below W.heap.size W w')) (fun v' _ => v.length - (intOf v').toNat)
      case atStart => exact ⟨0, v, by omega, rfl, HRV4, HBO4, HBC⟩
      case round =>
        have HWW := Aside0.mk HB2.out.size
        clear HO HW
        obtain ⟨i, ys, hi, rfl, HR, HBI, HW⟩ := hrel
        by_cases hlt3 : i < v.length
        case neg =>
          have d3 : decide ((i : Int) < (v.length : Int)) = false := decide_eq_false (by omega)
          have HO := Aside0.mk HBI.out.any
          go_wp2_with fail
          obtain ⟨v1, ag, seen, hw, hrw, hl, ha0, ha1, hsl⟩ := HO.out
          have HWA := Aside0.mk hw
          have HRW := Aside0.mk hrw
          have HL := Aside0.mk hl
          have HAG := Aside0.mk (And.intro ha0 (And.intro ha1 hsl))
          clear hw hrw hl HO ha0 ha1 hsl
          obtain ⟨sw, hsw⟩ : ∃ b, decide (seen ≠ []) = b := ⟨_, rfl⟩
          rw [hsw] at HWA
          have HSW := Aside0.mk hsw
          clear hsw
          obtain ⟨l, hll⟩ : ∃ l, leaseOf v1 = l := ⟨_, rfl⟩
          obtain ⟨qk, hqk⟩ : ∃ b, okL v1 = b := ⟨_, rfl⟩
          obtain ⟨ln, hln⟩ : ∃ n, leadsN nd lf v1 = n := ⟨_, rfl⟩
          obtain ⟨lb, hlb⟩ : ∃ b, leadsB nd lf v1 = b := ⟨_, rfl⟩
          have HLL := Aside0.mk hll
          have HQK := Aside0.mk hqk
          have HLN := Aside0.mk hln
          have HLB := Aside0.mk hlb
          clear hll hqk hln hlb
          have hct301 := leads_c _ g1 nd lf tk sw v1 ag HWA.out
          rw [HLN.out, HLB.out] at hct301
          refine hct301.mono ?_
          rintro e w301 ⟨rfl, hb301⟩
          clear hct301
          have HB302 := Aside0.mk (below_step HW.out hb301)
          have CWA302 := Aside0.mk (WAt.below HWA.out hb301)
          have CRW302 := Aside0.mk (RWAt.below HRW.out hb301)
          clear hb301
          go_wp2_with fail
          have hct303 := rleads_c _ g2 nd lf tk seen ag v1 HL.out CRW302.out
          rw [HLN.out, HLB.out] at hct303
          refine hct303.mono ?_
          rintro e w303 ⟨rfl, hb303⟩
          clear hct303
          have HB304 := Aside0.mk (below_step HB302.out hb303)
          have CWA304 := Aside0.mk (WAt.below CWA302.out hb303)
          have CRW304 := Aside0.mk (RWAt.below CRW302.out hb303)
          clear hb303
          go_wp2_with fail
          have hct305 := lease_c _ g1 nd lf tk sw v1 ag CWA304.out
          rw [HLL.out, HQK.out] at hct305
          refine hct305.mono ?_
          rintro e w305 ⟨rfl, hb305⟩
          clear hct305
          have HB306 := Aside0.mk (below_step HB304.out hb305)
          have CWA306 := Aside0.mk (WAt.below CWA304.out hb305)
          have CRW306 := Aside0.mk (RWAt.below CRW304.out hb305)
          clear hb305
          go_wp2_with fail
          obtain ⟨W307, hw307⟩ : ∃ x : World, x = w305.alloc (.cells #[.int .i64 l.1, .int .i64 l.2.1, .int .i64 l.2.2.1, .int .i64 l.2.2.2] 24) := ⟨_, rfl⟩
          have hbs307 : Below w305.heap.size w305 W307 := by rw [hw307]; repeat (first | exact Below.refl _ _ | refine below_alloc ?_ _ | refine below_drew ?_)
          obtain ⟨gl307, hgl307⟩ : ∃ x, x = w305.heap.size := ⟨_, rfl⟩
          have GSl307 : Aside0 (W.heap.size ≤ gl307) := ⟨by rw [hgl307]; have := HB306.out.size; omega⟩
          have Bl307 : Aside0 (W307.heap[gl307]? = some (.cells #[.int .i64 l.1, .int .i64 l.2.1, .int .i64 l.2.2.1, .int .i64 l.2.2.2] 24 (0, 0))) := ⟨by rw [hw307, hgl307]; exact blk_new _ _⟩
          rw [← hw307]
          rw [← hgl307]
          clear hw307 hgl307
          have HB308 := Aside0.mk (below_step HB306.out hbs307)
          have CWA308 := Aside0.mk (WAt.below CWA306.out hbs307)
          have CRW308 := Aside0.mk (RWAt.below CRW306.out hbs307)
          clear hbs307
          have hct309 := rlease_c _ g2 nd lf tk seen ag v1 HL.out CRW308.out
          rw [HLL.out, HQK.out] at hct309
          refine hct309.mono ?_
          rintro e w309 ⟨rfl, hb309⟩
          clear hct309
          have HB310 := Aside0.mk (below_step HB308.out hb309)
          have Bl310 : Aside0 (w309.heap[gl307]? = some (.cells #[.int .i64 l.1, .int .i64 l.2.1, .int .i64 l.2.2.1, .int .i64 l.2.2.2] 24 (0, 0))) := ⟨(hb309.block _ (blk_lt Bl307.out)).trans Bl307.out⟩
          have CWA310 := Aside0.mk (WAt.below CWA308.out hb309)
          have CRW310 := Aside0.mk (RWAt.below CRW308.out hb309)
          clear hb309
          have zl311_0 : w309.cell? ⟨gl307, 0, none⟩ = some (.int .i64 l.1) := (blk_cell Bl310.out 0).trans rfl
          have zl311_1 : w309.cell? ⟨gl307, 1, none⟩ = some (.int .i64 l.2.1) := (blk_cell Bl310.out 1).trans rfl
          have zl311_2 : w309.cell? ⟨gl307, 2, none⟩ = some (.int .i64 l.2.2.1) := (blk_cell Bl310.out 2).trans rfl
          have zl311_3 : w309.cell? ⟨gl307, 3, none⟩ = some (.int .i64 l.2.2.2) := (blk_cell Bl310.out 3).trans rfl
          go_wp2_with fail
          obtain ⟨W312, hw312⟩ : ∃ x : World, x = w309.alloc (.cells #[.int .i64 l.1, .int .i64 l.2.1, .int .i64 l.2.2.1, .int .i64 l.2.2.2] 24) := ⟨_, rfl⟩
          have hbs312 : Below w309.heap.size w309 W312 := by rw [hw312]; repeat (first | exact Below.refl _ _ | refine below_alloc ?_ _ | refine below_drew ?_)
          obtain ⟨gm312, hgm312⟩ : ∃ x, x = w309.heap.size := ⟨_, rfl⟩
          have GSm312 : Aside0 (W.heap.size ≤ gm312) := ⟨by rw [hgm312]; have := HB310.out.size; omega⟩
          have Bm312 : Aside0 (W312.heap[gm312]? = some (.cells #[.int .i64 l.1, .int .i64 l.2.1, .int .i64 l.2.2.1, .int .i64 l.2.2.2] 24 (0, 0))) := ⟨by rw [hw312, hgm312]; exact blk_new _ _⟩
          rw [← hw312]
          rw [← hgm312]
          clear hw312 hgm312
          clear zl311_0 zl311_1 zl311_2 zl311_3
          have HB313 := Aside0.mk (below_step HB310.out hbs312)
          have Bl313 : Aside0 (W312.heap[gl307]? = some (.cells #[.int .i64 l.1, .int .i64 l.2.1, .int .i64 l.2.2.1, .int .i64 l.2.2.2] 24 (0, 0))) := ⟨(hbs312.block _ (blk_lt Bl310.out)).trans Bl310.out⟩
          have CWA313 := Aside0.mk (WAt.below CWA310.out hbs312)
          have CRW313 := Aside0.mk (RWAt.below CRW310.out hbs312)
          clear hbs312
          have HBOP : Aside0 (Both W312 g1 g2 nd lf tk (k + 1)) := ⟨⟨v1, ag, seen, by rw [HSW.out]; exact CWA313.out, CRW313.out, HL.out, HAG.out⟩⟩
          have HBPW := HB313
          have HBP0 : Aside0 (Below W312.heap.size W312 W312) := ⟨Below.refl _ _⟩
          obtain ⟨ch, hch⟩ : ∃ ch, wantOf nd lf tk sw v1 ag = ch := ⟨_, rfl⟩
          have HCH := Aside0.mk hch
          have HCLN := Aside0.mk (want_len nd lf tk sw v1 ag)
          rw [hch] at HCLN
          have hcw := want_c _ g1 nd lf tk sw v1 ag CWA313.out
          rw [hch] at hcw
          clear hch
          refine hcw.mono ?_
          rintro e wW ⟨B, d, B', d', rfl, hRa, hRb, hbW⟩
          have HRA := Aside0.mk hRa
          have HRB := Aside0.mk hRb
          clear hcw hRa hRb
          have HB314 := Aside0.mk (below_step HB313.out hbW)
          have Bl314 : Aside0 (wW.heap[gl307]? = some (.cells #[.int .i64 l.1, .int .i64 l.2.1, .int .i64 l.2.2.1, .int .i64 l.2.2.2] 24 (0, 0))) := ⟨(hbW.block _ (blk_lt Bl313.out)).trans Bl313.out⟩
          have Bm314 : Aside0 (wW.heap[gm312]? = some (.cells #[.int .i64 l.1, .int .i64 l.2.1, .int .i64 l.2.2.1, .int .i64 l.2.2.2] 24 (0, 0))) := ⟨(hbW.block _ (blk_lt Bm312.out)).trans Bm312.out⟩
          have CWA314 := Aside0.mk (WAt.below CWA313.out hbW)
          have CRW314 := Aside0.mk (RWAt.below CRW313.out hbW)
          have CBP314 := Aside0.mk (below_step HBP0.out hbW)
          clear hbW
          have zl315_0 : wW.cell? ⟨gl307, 0, none⟩ = some (.int .i64 l.1) := (blk_cell Bl314.out 0).trans rfl
          have zl315_1 : wW.cell? ⟨gl307, 1, none⟩ = some (.int .i64 l.2.1) := (blk_cell Bl314.out 1).trans rfl
          have zl315_2 : wW.cell? ⟨gl307, 2, none⟩ = some (.int .i64 l.2.2.1) := (blk_cell Bl314.out 2).trans rfl
          have zl315_3 : wW.cell? ⟨gl307, 3, none⟩ = some (.int .i64 l.2.2.2) := (blk_cell Bl314.out 3).trans rfl
          have zm315_0 : wW.cell? ⟨gm312, 0, none⟩ = some (.int .i64 l.1) := (blk_cell Bm314.out 0).trans rfl
          have zm315_1 : wW.cell? ⟨gm312, 1, none⟩ = some (.int .i64 l.2.1) := (blk_cell Bm314.out 1).trans rfl
          have zm315_2 : wW.cell? ⟨gm312, 2, none⟩ = some (.int .i64 l.2.2.1) := (blk_cell Bm314.out 2).trans rfl
          have zm315_3 : wW.cell? ⟨gm312, 3, none⟩ = some (.int .i64 l.2.2.2) := (blk_cell Bm314.out 3).trans rfl
          go_upto_region 37 with fail
          obtain ⟨W316, hw316⟩ : ∃ x : World, x = wW.alloc (.cells #[.int .i64 ch.1, .slice B ch.2.1.length d, .slice B' ch.2.2.length d'] 39) := ⟨_, rfl⟩
          have hbs316 : Below wW.heap.size wW W316 := by rw [hw316]; repeat (first | exact Below.refl _ _ | refine below_alloc ?_ _ | refine below_drew ?_)
          obtain ⟨gc316, hgc316⟩ : ∃ x, x = wW.heap.size := ⟨_, rfl⟩
          have GSc316 : Aside0 (W.heap.size ≤ gc316) := ⟨by rw [hgc316]; have := HB314.out.size; omega⟩
          have Bc316 : Aside0 (W316.heap[gc316]? = some (.cells #[.int .i64 ch.1, .slice B ch.2.1.length d, .slice B' ch.2.2.length d'] 39 (0, 0))) := ⟨by rw [hw316, hgc316]; exact blk_new _ _⟩
          rw [← hw316]
          rw [← hgc316]
          clear hw316 hgc316
          clear zl315_0 zl315_1 zl315_2 zl315_3 zm315_0 zm315_1 zm315_2 zm315_3
          have HB317 := Aside0.mk (below_step HB314.out hbs316)
          have Bl317 : Aside0 (W316.heap[gl307]? = some (.cells #[.int .i64 l.1, .int .i64 l.2.1, .int .i64 l.2.2.1, .int .i64 l.2.2.2] 24 (0, 0))) := ⟨(hbs316.block _ (blk_lt Bl314.out)).trans Bl314.out⟩
          have Bm317 : Aside0 (W316.heap[gm312]? = some (.cells #[.int .i64 l.1, .int .i64 l.2.1, .int .i64 l.2.2.1, .int .i64 l.2.2.2] 24 (0, 0))) := ⟨(hbs316.block _ (blk_lt Bm314.out)).trans Bm314.out⟩
          have CWA317 := Aside0.mk (WAt.below CWA314.out hbs316)
          have CRW317 := Aside0.mk (RWAt.below CRW314.out hbs316)
          have CBP317 := Aside0.mk (below_step CBP314.out hbs316)
          have Ro317 := Aside0.mk (Kd.R_below HRA.out hbs316)
          have Rn317 := Aside0.mk (Kd.R_below HRB.out hbs316)
          clear hbs316
          have zl318_0 : W316.cell? ⟨gl307, 0, none⟩ = some (.int .i64 l.1) := (blk_cell Bl317.out 0).trans rfl
          have zl318_1 : W316.cell? ⟨gl307, 1, none⟩ = some (.int .i64 l.2.1) := (blk_cell Bl317.out 1).trans rfl
          have zl318_2 : W316.cell? ⟨gl307, 2, none⟩ = some (.int .i64 l.2.2.1) := (blk_cell Bl317.out 2).trans rfl
          have zl318_3 : W316.cell? ⟨gl307, 3, none⟩ = some (.int .i64 l.2.2.2) := (blk_cell Bl317.out 3).trans rfl
          have zm318_0 : W316.cell? ⟨gm312, 0, none⟩ = some (.int .i64 l.1) := (blk_cell Bm317.out 0).trans rfl
          have zm318_1 : W316.cell? ⟨gm312, 1, none⟩ = some (.int .i64 l.2.1) := (blk_cell Bm317.out 1).trans rfl
          have zm318_2 : W316.cell? ⟨gm312, 2, none⟩ = some (.int .i64 l.2.2.1) := (blk_cell Bm317.out 2).trans rfl
          have zm318_3 : W316.cell? ⟨gm312, 3, none⟩ = some (.int .i64 l.2.2.2) := (blk_cell Bm317.out 3).trans rfl
          have zc318_0 : W316.cell? ⟨gc316, 0, none⟩ = some (.int .i64 ch.1) := (blk_cell Bc316.out 0).trans rfl
          have zc318_1 : W316.cell? ⟨gc316, 1, none⟩ = some (.slice B ch.2.1.length d) := (blk_cell Bc316.out 1).trans rfl
          have zc318_2 : W316.cell? ⟨gc316, 2, none⟩ = some (.slice B' ch.2.2.length d') := (blk_cell Bc316.out 2).trans rfl
          have zag := RWAt.age CRW317.out
          have HRWC : Aside0 (∀ w, RWAt w g2 nd lf tk seen ag → Calls Try.prog 35 #[.pointer (some ⟨g2, 0, none⟩)] w (RWantPost w ch)) := ⟨fun w h => by have h2 := rwant_c w g2 nd lf tk seen ag v1 HL.out h; rw [HSW.out, HCH.out] at h2; exact h2⟩
          have HLEN := Aside0.mk (WAt.len CWA317.out)
          have e1 : (ln != ln) = false := by simp
          have e2 : (lb != lb) = false := by simp
          have e3 : (qk != qk) = false := by simp
          have e4 : (ag != ag) = false := by simp
          refine start_ (n := 34) (S := fun w' => w'.cell? ⟨gl307, 0, none⟩ = some (.int .i64 l.1) ∧ w'.cell? ⟨gl307, 1, none⟩ = some (.int .i64 l.2.1) ∧ w'.cell? ⟨gl307, 2, none⟩ = some (.int .i64 l.2.2.1) ∧ w'.cell? ⟨gl307, 3, none⟩ = some (.int .i64 l.2.2.2) ∧ w'.cell? ⟨gm312, 0, none⟩ = some (.int .i64 l.1) ∧ w'.cell? ⟨gm312, 1, none⟩ = some (.int .i64 l.2.1) ∧ w'.cell? ⟨gm312, 2, none⟩ = some (.int .i64 l.2.2.1) ∧ w'.cell? ⟨gm312, 3, none⟩ = some (.int .i64 l.2.2.2) ∧ w'.cell? ⟨gc316, 0, none⟩ = some (.int .i64 ch.1) ∧ w'.cell? ⟨gc316, 1, none⟩ = some (.slice B ch.2.1.length d) ∧ w'.cell? ⟨gc316, 2, none⟩ = some (.slice B' ch.2.2.length d') ∧ w'.cell? ⟨g2, 4, none⟩ = some (.int .i64 ag)) (ds := []) #[false, false, false, false, false, false, false, false, false, false, false, false, false, false, false, false, false, false, false, false, false, false, false, false, false, false, false, false, false, false, false, false, false, false] (by kernel_rfl) rfl rfl ⟨zl318_0, zl318_1, zl318_2, zl318_3, zm318_0, zm318_1, zm318_2, zm318_3, zc318_0, zc318_1, zc318_2, zag⟩ (fun hHeld => ?_)
          refine pure_ (i := 0) (N := some 133) (v := ?_) (a' := ?_) #[true, false, false, false, false, false, false, false, false, false, false, false, false, false, false, false, false, false, false, false, false, false, false, false, false, false, false, false, false, false, false, false, false, false] rfl rfl (by kernel_rfl) (fun _ _ _ h => h) (Or.inl ⟨by rfl, ?_⟩) ?_ ?_
          rotate_left
          · intro w'
            go_simp
            with_reducible rfl
          rotate_left
          · simp only [Act.put, List.setIfInBounds_toArray, List.set_cons_zero, List.set_cons_succ, i64_w, i32_w]
            rfl
          refine pure_ (i := 1) (N := some 134) (v := ?_) (a' := ?_) #[true, true, false, false, false, false, false, false, false, false, false, false, false, false, false, false, false, false, false, false, false, false, false, false, false, false, false, false, false, false, false, false, false, false] rfl rfl (by kernel_rfl) (fun _ _ _ h => h) (Or.inl ⟨by rfl, ?_⟩) ?_ ?_
          rotate_left
          · intro w'
            go_simp
            with_reducible rfl
          rotate_left
          · simp only [Act.put, List.setIfInBounds_toArray, List.set_cons_zero, List.set_cons_succ, i64_w, i32_w]
            rfl
          refine pure_ (i := 2) (N := some 135) (v := ?_) (a' := ?_) #[true, true, true, false, false, false, false, false, false, false, false, false, false, false, false, false, false, false, false, false, false, false, false, false, false, false, false, false, false, false, false, false, false, false] rfl rfl (by kernel_rfl) (fun _ _ _ h => h) (Or.inl ⟨by rfl, ?_⟩) ?_ ?_
          rotate_left
          · intro w'
            go_simp
            with_reducible rfl
          rotate_left
          · simp only [Act.put, List.setIfInBounds_toArray, List.set_cons_zero, List.set_cons_succ, i64_w, i32_w]
            rfl
          refine pure_ (i := 3) (N := some 136) (v := ?_) (a' := ?_) #[true, true, true, true, false, false, false, false, false, false, false, false, false, false, false, false, false, false, false, false, false, false, false, false, false, false, false, false, false, false, false, false, false, false] rfl rfl (by kernel_rfl) (fun _ _ _ h => h) (Or.inl ⟨by rfl, ?_⟩) ?_ ?_
          rotate_left
          · intro w'
            go_simp
            with_reducible rfl
          rotate_left
          · simp only [Act.put, List.setIfInBounds_toArray, List.set_cons_zero, List.set_cons_succ, i64_w, i32_w]
            rfl
          refine pure_ (i := 4) (N := some 137) (v := ?_) (a' := ?_) #[true, true, true, true, true, false, false, false, false, false, false, false, false, false, false, false, false, false, false, false, false, false, false, false, false, false, false, false, false, false, false, false, false, false] rfl rfl (by kernel_rfl) (fun _ _ _ h => h) (Or.inl ⟨by rfl, ?_⟩) ?_ ?_
          rotate_left
          · intro w'
            go_simp
            with_reducible rfl
          rotate_left
          · simp only [Act.put, List.setIfInBounds_toArray, List.set_cons_zero, List.set_cons_succ, i64_w, i32_w]
            rfl
          refine pure_ (i := 5) (N := some 138) (v := ?_) (a' := ?_) #[true, true, true, true, true, true, false, false, false, false, false, false, false, false, false, false, false, false, false, false, false, false, false, false, false, false, false, false, false, false, false, false, false, false] rfl rfl (by kernel_rfl) (fun _ _ _ h => h) (Or.inl ⟨by rfl, ?_⟩) ?_ ?_
          rotate_left
          · intro w'
            go_simp
            with_reducible rfl
          rotate_left
          · simp only [Act.put, List.setIfInBounds_toArray, List.set_cons_zero, List.set_cons_succ, i64_w, i32_w]
            rfl
          refine pure_ (i := 6) (N := some 139) (v := ?_) (a' := ?_) #[true, true, true, true, true, true, true, false, false, false, false, false, false, false, false, false, false, false, false, false, false, false, false, false, false, false, false, false, false, false, false, false, false, false] rfl rfl (by kernel_rfl) (fun _ _ _ h => h) (Or.inl ⟨by rfl, ?_⟩) ?_ ?_
          rotate_left
          · intro w'
            go_simp
            with_reducible rfl
          rotate_left
          · simp only [Act.put, List.setIfInBounds_toArray, List.set_cons_zero, List.set_cons_succ, i64_w, i32_w]
            rfl
          refine pure_ (i := 7) (N := some 140) (v := ?_) (a' := ?_) #[true, true, true, true, true, true, true, true, false, false, false, false, false, false, false, false, false, false, false, false, false, false, false, false, false, false, false, false, false, false, false, false, false, false] rfl rfl (by kernel_rfl) (fun _ _ _ h => h) (Or.inl ⟨by rfl, ?_⟩) ?_ ?_
          rotate_left
          · intro w'
            go_simp
            with_reducible rfl
          rotate_left
          · simp only [Act.put, List.setIfInBounds_toArray, List.set_cons_zero, List.set_cons_succ, i64_w, i32_w]
            rfl
          refine pure_ (i := 8) (N := some 141) (v := ?_) (a' := ?_) #[true, true, true, true, true, true, true, true, true, false, false, false, false, false, false, false, false, false, false, false, false, false, false, false, false, false, false, false, false, false, false, false, false, false] rfl rfl (by kernel_rfl) (fun _ _ _ h => h) (Or.inl ⟨by rfl, ?_⟩) ?_ ?_
          rotate_left
          · intro w'
            go_simp
            with_reducible rfl
          rotate_left
          · simp only [Act.put, List.setIfInBounds_toArray, List.set_cons_zero, List.set_cons_succ, i64_w, i32_w]
            rfl
          refine take_ (i := 9) (N := some 142) (v := ?_) (a' := ?_) #[true, true, true, true, true, true, true, true, true, true, false, false, false, false, false, false, false, false, false, false, false, false, false, false, false, false, false, false, false, false, false, false, false, false] rfl rfl (by kernel_rfl) (fun _ _ _ h => h) (Or.inl ⟨by rfl, ?_⟩) hHeld ?_ ?_
          rotate_left
          · rintro w' ⟨s0, s1, s2, s3, s4, s5, s6, s7, s8, s9, s10, s11⟩
            go_simp
            with_reducible rfl
          rotate_left
          · simp only [Act.put, List.setIfInBounds_toArray, List.set_cons_zero, List.set_cons_succ, i64_w, i32_w]
            rfl
          refine take_ (i := 10) (N := some 143) (v := ?_) (a' := ?_) #[true, true, true, true, true, true, true, true, true, true, true, false, false, false, false, false, false, false, false, false, false, false, false, false, false, false, false, false, false, false, false, false, false, false] rfl rfl (by kernel_rfl) (fun _ _ _ h => h) (Or.inl ⟨by rfl, ?_⟩) hHeld ?_ ?_
          rotate_left
          · rintro w' ⟨s0, s1, s2, s3, s4, s5, s6, s7, s8, s9, s10, s11⟩
            go_simp
            with_reducible rfl
          rotate_left
          · simp only [Act.put, List.setIfInBounds_toArray, List.set_cons_zero, List.set_cons_succ, i64_w, i32_w]
            rfl
          refine pure_ (i := 11) (N := some 144) (v := ?_) (a' := ?_) #[true, true, true, true, true, true, true, true, true, true, true, true, false, false, false, false, false, false, false, false, false, false, false, false, false, false, false, false, false, false, false, false, false, false] rfl rfl (by kernel_rfl) (fun _ _ _ h => h) (Or.inl ⟨by rfl, ?_⟩) ?_ ?_
          rotate_left
          · intro w'
            go_simp
            with_reducible rfl
          rotate_left
          · simp only [Act.put, List.setIfInBounds_toArray, List.set_cons_zero, List.set_cons_succ, i64_w, i32_w]
            rfl
          refine pure_ (i := 12) (N := some 145) (v := ?_) (a' := ?_) #[true, true, true, true, true, true, true, true, true, true, true, true, true, false, false, false, false, false, false, false, false, false, false, false, false, false, false, false, false, false, false, false, false, false] rfl rfl (by kernel_rfl) (fun _ _ _ h => h) (Or.inl ⟨by rfl, ?_⟩) ?_ ?_
          rotate_left
          · intro w'
            go_simp
            with_reducible rfl
          rotate_left
          · simp only [Act.put, List.setIfInBounds_toArray, List.set_cons_zero, List.set_cons_succ, i64_w, i32_w]
            rfl
          refine pure_ (i := 13) (N := some 146) (v := ?_) (a' := ?_) #[true, true, true, true, true, true, true, true, true, true, true, true, true, true, false, false, false, false, false, false, false, false, false, false, false, false, false, false, false, false, false, false, false, false] rfl rfl (by kernel_rfl) (fun _ _ _ h => h) (Or.inl ⟨by rfl, ?_⟩) ?_ ?_
          rotate_left
          · intro w'
            go_simp
            with_reducible rfl
          rotate_left
          · simp only [Act.put, List.setIfInBounds_toArray, List.set_cons_zero, List.set_cons_succ, i64_w, i32_w]
            rfl
          refine pure_ (i := 14) (N := some 147) (v := ?_) (a' := ?_) #[true, true, true, true, true, true, true, true, true, true, true, true, true, true, true, false, false, false, false, false, false, false, false, false, false, false, false, false, false, false, false, false, false, false] rfl rfl (by kernel_rfl) (fun _ _ _ h => h) (Or.inl ⟨by rfl, ?_⟩) ?_ ?_
          rotate_left
          · intro w'
            go_simp
            with_reducible rfl
          rotate_left
          · simp only [Act.put, List.setIfInBounds_toArray, List.set_cons_zero, List.set_cons_succ, i64_w, i32_w]
            rfl
          refine pure_ (i := 15) (N := some 148) (v := ?_) (a' := ?_) #[true, true, true, true, true, true, true, true, true, true, true, true, true, true, true, true, false, false, false, false, false, false, false, false, false, false, false, false, false, false, false, false, false, false] rfl rfl (by kernel_rfl) (fun _ _ _ h => h) (Or.inl ⟨by rfl, ?_⟩) ?_ ?_
          rotate_left
          · intro w'
            go_simp
            with_reducible rfl
          rotate_left
          · simp only [Act.put, List.setIfInBounds_toArray, List.set_cons_zero, List.set_cons_succ, i64_w, i32_w]
            rfl
          refine pure_ (i := 16) (N := some 149) (v := ?_) (a' := ?_) #[true, true, true, true, true, true, true, true, true, true, true, true, true, true, true, true, true, false, false, false, false, false, false, false, false, false, false, false, false, false, false, false, false, false] rfl rfl (by kernel_rfl) (fun _ _ _ h => h) (Or.inl ⟨by rfl, ?_⟩) ?_ ?_
          rotate_left
          · intro w'
            go_simp
            with_reducible rfl
          rotate_left
          · simp only [Act.put, List.setIfInBounds_toArray, List.set_cons_zero, List.set_cons_succ, i64_w, i32_w]
            rfl
          refine pure_ (i := 17) (N := some 150) (v := ?_) (a' := ?_) #[true, true, true, true, true, true, true, true, true, true, true, true, true, true, true, true, true, true, false, false, false, false, false, false, false, false, false, false, false, false, false, false, false, false] rfl rfl (by kernel_rfl) (fun _ _ _ h => h) (Or.inl ⟨by rfl, ?_⟩) ?_ ?_
          rotate_left
          · intro w'
            go_simp
            with_reducible rfl
          rotate_left
          · simp only [Act.put, List.setIfInBounds_toArray, List.set_cons_zero, List.set_cons_succ, i64_w, i32_w]
            rfl
          refine pure_ (i := 18) (N := some 151) (v := ?_) (a' := ?_) #[true, true, true, true, true, true, true, true, true, true, true, true, true, true, true, true, true, true, true, false, false, false, false, false, false, false, false, false, false, false, false, false, false, false] rfl rfl (by kernel_rfl) (fun _ _ _ h => h) (Or.inl ⟨by rfl, ?_⟩) ?_ ?_
          rotate_left
          · intro w'
            go_simp
            with_reducible rfl
          rotate_left
          · simp only [Act.put, List.setIfInBounds_toArray, List.set_cons_zero, List.set_cons_succ, i64_w, i32_w]
            rfl
          refine pure_ (i := 19) (N := some 152) (v := ?_) (a' := ?_) #[true, true, true, true, true, true, true, true, true, true, true, true, true, true, true, true, true, true, true, true, false, false, false, false, false, false, false, false, false, false, false, false, false, false] rfl rfl (by kernel_rfl) (fun _ _ _ h => h) (Or.inl ⟨by rfl, ?_⟩) ?_ ?_
          rotate_left
          · intro w'
            go_simp
            with_reducible rfl
          rotate_left
          · simp only [Act.put, List.setIfInBounds_toArray, List.set_cons_zero, List.set_cons_succ, i64_w, i32_w]
            rfl
          refine pure_ (i := 21) (N := some 154) (v := ?_) (a' := ?_) #[true, true, true, true, true, true, true, true, true, true, true, true, true, true, true, true, true, true, true, true, false, true, false, false, false, false, false, false, false, false, false, false, false, false] rfl rfl (by kernel_rfl) (fun _ _ _ h => h) (Or.inl ⟨by rfl, ?_⟩) ?_ ?_
          rotate_left
          · intro w'
            go_simp
            with_reducible rfl
          rotate_left
          · simp only [Act.put, List.setIfInBounds_toArray, List.set_cons_zero, List.set_cons_succ, i64_w, i32_w]
            rfl
          refine pure_ (i := 22) (N := some 155) (v := ?_) (a' := ?_) #[true, true, true, true, true, true, true, true, true, true, true, true, true, true, true, true, true, true, true, true, false, true, true, false, false, false, false, false, false, false, false, false, false, false] rfl rfl (by kernel_rfl) (fun _ _ _ h => h) (Or.inl ⟨by rfl, ?_⟩) ?_ ?_
          rotate_left
          · intro w'
            go_simp
            with_reducible rfl
          rotate_left
          · simp only [Act.put, List.setIfInBounds_toArray, List.set_cons_zero, List.set_cons_succ, i64_w, i32_w]
            rfl
          refine pure_ (i := 23) (N := some 156) (v := ?_) (a' := ?_) #[true, true, true, true, true, true, true, true, true, true, true, true, true, true, true, true, true, true, true, true, false, true, true, true, false, false, false, false, false, false, false, false, false, false] rfl rfl (by kernel_rfl) (fun _ _ _ h => h) (Or.inl ⟨by rfl, ?_⟩) ?_ ?_
          rotate_left
          · intro w'
            go_simp
            with_reducible rfl
          rotate_left
          · simp only [Act.put, List.setIfInBounds_toArray, List.set_cons_zero, List.set_cons_succ, i64_w, i32_w]
            rfl
          refine take_ (i := 24) (N := some 157) (v := ?_) (a' := ?_) #[true, true, true, true, true, true, true, true, true, true, true, true, true, true, true, true, true, true, true, true, false, true, true, true, true, false, false, false, false, false, false, false, false, false] rfl rfl (by kernel_rfl) (fun _ _ _ h => h) (Or.inl ⟨by rfl, ?_⟩) hHeld ?_ ?_
          rotate_left
          · rintro w' ⟨s0, s1, s2, s3, s4, s5, s6, s7, s8, s9, s10, s11⟩
            go_simp
            with_reducible rfl
          rotate_left
          · simp only [Act.put, List.setIfInBounds_toArray, List.set_cons_zero, List.set_cons_succ, i64_w, i32_w]
            rfl
          refine one_ (i := 20) (N := some 153) #[true, true, true, true, true, true, true, true, true, true, true, true, true, true, true, true, true, true, true, true, true, true, true, true, true, false, false, false, false, false, false, false, false, false] rfl rfl (by kernel_rfl) (by decide) (fun K hK => ?_)
          refine goes_ Try.func19 (by kernel_rfl) rfl #[.pointer (some ⟨g1, 0, none⟩)] (by rfl) rfl rfl (by simp only [List.map_toArray, List.map_cons, List.map_nil]; rfl) ?_
          with_reducible refine (age_c _ g1 nd lf tk sw v1 ag (WAt.below CWA317.out (below_drew (Below.refl _ _)))).mono ?_
          rintro e v20 ⟨rfl, hb20⟩
          refine ⟨_, rfl, ?_⟩
          have HB20 := Aside0.mk (below_step (below_drew (Below.refl _ W316)) hb20)
          clear hb20
          refine hK.out _ _ ⟨pw_cell_below HB20.out zl318_0, pw_cell_below HB20.out zl318_1, pw_cell_below HB20.out zl318_2, pw_cell_below HB20.out zl318_3, pw_cell_below HB20.out zm318_0, pw_cell_below HB20.out zm318_1, pw_cell_below HB20.out zm318_2, pw_cell_below HB20.out zm318_3, pw_cell_below HB20.out zc318_0, pw_cell_below HB20.out zc318_1, pw_cell_below HB20.out zc318_2, pw_cell_below HB20.out zag⟩ (fun hHeld => ?_)
          clear hK K
          refine norm_ (a' := ?_) ?_ ?_
          rotate_left
          · show Act.put _ (some 153) _ = _
            simp only [Act.put, List.setIfInBounds_toArray, List.set_cons_zero, List.set_cons_succ, i64_w, i32_w]
            rfl
          refine pure_ (i := 25) (N := some 158) (v := ?_) (a' := ?_) #[true, true, true, true, true, true, true, true, true, true, true, true, true, true, true, true, true, true, true, true, true, true, true, true, true, true, false, false, false, false, false, false, false, false] rfl rfl (by kernel_rfl) (fun _ _ _ h => h) (Or.inl ⟨by rfl, ?_⟩) ?_ ?_
          rotate_left
          · intro w'
            go_simp
            with_reducible rfl
          rotate_left
          · simp only [Act.put, List.setIfInBounds_toArray, List.set_cons_zero, List.set_cons_succ, i64_w, i32_w]
            rfl
          refine pure_ (i := 26) (N := some 159) (v := ?_) (a' := ?_) #[true, true, true, true, true, true, true, true, true, true, true, true, true, true, true, true, true, true, true, true, true, true, true, true, true, true, true, false, false, false, false, false, false, false] rfl rfl (by kernel_rfl) (fun _ _ _ h => h) (Or.inl ⟨by rfl, ?_⟩) ?_ ?_
          rotate_left
          · intro w'
            go_simp
            with_reducible rfl
          rotate_left
          · simp only [Act.put, List.setIfInBounds_toArray, List.set_cons_zero, List.set_cons_succ, i64_w, i32_w]
            rfl
          refine pure_ (i := 27) (N := some 160) (v := ?_) (a' := ?_) #[true, true, true, true, true, true, true, true, true, true, true, true, true, true, true, true, true, true, true, true, true, true, true, true, true, true, true, true, false, false, false, false, false, false] rfl rfl (by kernel_rfl) (fun _ _ _ h => h) (Or.inl ⟨by rfl, ?_⟩) ?_ ?_
          rotate_left
          · intro w'
            go_simp
            with_reducible rfl
          rotate_left
          · simp only [Act.put, List.setIfInBounds_toArray, List.set_cons_zero, List.set_cons_succ, i64_w, i32_w]
            rfl
          refine pure_ (i := 29) (N := some 162) (v := ?_) (a' := ?_) #[true, true, true, true, true, true, true, true, true, true, true, true, true, true, true, true, true, true, true, true, true, true, true, true, true, true, true, true, false, true, false, false, false, false] rfl rfl (by kernel_rfl) (fun _ _ _ h => h) (Or.inl ⟨by rfl, ?_⟩) ?_ ?_
          rotate_left
          · intro w'
            go_simp
            with_reducible rfl
          rotate_left
          · simp only [Act.put, List.setIfInBounds_toArray, List.set_cons_zero, List.set_cons_succ, i64_w, i32_w]
            rfl
          refine take_ (i := 28) (N := some 161) (v := ?_) (a' := ?_) #[true, true, true, true, true, true, true, true, true, true, true, true, true, true, true, true, true, true, true, true, true, true, true, true, true, true, true, true, true, true, false, false, false, false] rfl rfl (by kernel_rfl) (fun _ _ _ h => h) (Or.inl ⟨by rfl, ?_⟩) hHeld ?_ ?_
          rotate_left
          · rintro w' ⟨s0, s1, s2, s3, s4, s5, s6, s7, s8, s9, s10, s11⟩
            go_simp
            with_reducible rfl
          rotate_left
          · simp only [Act.put, List.setIfInBounds_toArray, List.set_cons_zero, List.set_cons_succ, i64_w, i32_w]
            rfl
          refine one_ (i := 30) (N := some 163) #[true, true, true, true, true, true, true, true, true, true, true, true, true, true, true, true, true, true, true, true, true, true, true, true, true, true, true, true, true, true, true, false, false, false] rfl rfl (by kernel_rfl) (by decide) (fun K hK => ?_)
          refine goes_ Try.func35 (by kernel_rfl) rfl #[.pointer (some ⟨g2, 0, none⟩)] (by rfl) rfl rfl (by simp only [List.map_toArray, List.map_cons, List.map_nil]; rfl) ?_
          with_reducible refine (HRWC.out _ (RWAt.below CRW317.out HB20.out)).mono ?_
          rintro e v30 ⟨B2, d2, B3, d3, rfl, hC2, hd2, hC3, hd3, hb30⟩
          refine ⟨_, rfl, ?_⟩
          have HB30 := Aside0.mk (below_step HB20.out hb30)
          have HC2 := Aside0.mk hC2
          have HC3 := Aside0.mk hC3
          have HD2 := Aside0.mk hd2
          have HD3 := Aside0.mk hd3
          clear hb30 hC2 hC3 hd2 hd3
          refine hK.out _ _ ⟨pw_cell_below HB30.out zl318_0, pw_cell_below HB30.out zl318_1, pw_cell_below HB30.out zl318_2, pw_cell_below HB30.out zl318_3, pw_cell_below HB30.out zm318_0, pw_cell_below HB30.out zm318_1, pw_cell_below HB30.out zm318_2, pw_cell_below HB30.out zm318_3, pw_cell_below HB30.out zc318_0, pw_cell_below HB30.out zc318_1, pw_cell_below HB30.out zc318_2, pw_cell_below HB30.out zag⟩ (fun hHeld => ?_)
          clear hK K
          refine norm_ (a' := ?_) ?_ ?_
          rotate_left
          · show Act.put _ (some 163) _ = _
            simp only [Act.put, List.setIfInBounds_toArray, List.set_cons_zero, List.set_cons_succ, i64_w, i32_w]
            rfl
          refine one_ (i := 31) (N := some 164) #[true, true, true, true, true, true, true, true, true, true, true, true, true, true, true, true, true, true, true, true, true, true, true, true, true, true, true, true, true, true, true, true, false, false] rfl rfl (by kernel_rfl) (by decide) (fun K hK => ?_)
          refine goes_ Try.func22 (by kernel_rfl) rfl #[.agg #[.int .i64 ch.1, .slice B ch.2.1.length d, .slice B' ch.2.2.length d'], .agg #[.int .i64 ch.1, .slice B2 ch.2.1.length d2, .slice B3 ch.2.2.length d3]] (by rfl) rfl rfl (by simp only [List.map_toArray, List.map_cons, List.map_nil]; rfl) ?_
          with_reducible refine (same_c true ch.1 B d ch.2.1 B' d' ch.2.2 ch.1 B2 d2 ch.2.1 B3 d3 ch.2.2 v30 (decide_eq_true ⟨rfl, rfl, rfl⟩) (Kd.C_below (Kd.R_reads' Ro317.out).2.2 HB30.out) (Kd.R_reads' Ro317.out).2.1 (Kd.C_below (Kd.R_reads' Rn317.out).2.2 HB30.out) (Kd.R_reads' Rn317.out).2.1 HC2.out HD2.out HC3.out HD3.out (Nat.lt_of_le_of_lt HCLN.out.1 HLEN.out) (Nat.lt_of_le_of_lt HCLN.out.2 (by decide))).mono ?_
          rintro e v31 ⟨rfl, hb31⟩
          refine ⟨_, rfl, ?_⟩
          have HB31 := Aside0.mk (below_step HB30.out hb31)
          clear hb31
          refine hK.out _ _ ⟨pw_cell_below HB31.out zl318_0, pw_cell_below HB31.out zl318_1, pw_cell_below HB31.out zl318_2, pw_cell_below HB31.out zl318_3, pw_cell_below HB31.out zm318_0, pw_cell_below HB31.out zm318_1, pw_cell_below HB31.out zm318_2, pw_cell_below HB31.out zm318_3, pw_cell_below HB31.out zc318_0, pw_cell_below HB31.out zc318_1, pw_cell_below HB31.out zc318_2, pw_cell_below HB31.out zag⟩ (fun hHeld => ?_)
          clear hK K
          refine norm_ (a' := ?_) ?_ ?_
          rotate_left
          · show Act.put _ (some 164) _ = _
            simp only [Act.put, List.setIfInBounds_toArray, List.set_cons_zero, List.set_cons_succ, i64_w, i32_w]
            rfl
          refine pure_ (i := 32) (N := some 165) (v := ?_) (a' := ?_) #[true, true, true, true, true, true, true, true, true, true, true, true, true, true, true, true, true, true, true, true, true, true, true, true, true, true, true, true, true, true, true, true, true, false] rfl rfl (by kernel_rfl) (fun _ _ _ h => h) (Or.inl ⟨by rfl, ?_⟩) ?_ ?_
          rotate_left
          · intro w'
            go_simp
            with_reducible rfl
          rotate_left
          · simp only [Act.put, List.setIfInBounds_toArray, List.set_cons_zero, List.set_cons_succ, i64_w, i32_w]
            rfl
          refine pure_ (i := 33) (N := some 166) (v := ?_) (a' := ?_) #[true, true, true, true, true, true, true, true, true, true, true, true, true, true, true, true, true, true, true, true, true, true, true, true, true, true, true, true, true, true, true, true, true, true] rfl rfl (by kernel_rfl) (fun _ _ _ h => h) (Or.inl ⟨by rfl, ?_⟩) ?_ ?_
          rotate_left
          · intro w'
            go_simp
            with_reducible rfl
          rotate_left
          · simp only [Act.put, List.setIfInBounds_toArray, List.set_cons_zero, List.set_cons_succ, i64_w, i32_w]
            rfl
          refine done_ (by kernel_rfl) ?_
          have hbe := HB31.out
          clear zl318_0 zl318_1 zl318_2 zl318_3 zm318_0 zm318_1 zm318_2 zm318_3 zc318_0 zc318_1 zc318_2 zag e1 e2 e3 e4
          have HB319 := Aside0.mk (below_step HB317.out hbe)
          have Bl319 : Aside0 (v31.heap[gl307]? = some (.cells #[.int .i64 l.1, .int .i64 l.2.1, .int .i64 l.2.2.1, .int .i64 l.2.2.2] 24 (0, 0))) := ⟨(hbe.block _ (blk_lt Bl317.out)).trans Bl317.out⟩
          have Bm319 : Aside0 (v31.heap[gm312]? = some (.cells #[.int .i64 l.1, .int .i64 l.2.1, .int .i64 l.2.2.1, .int .i64 l.2.2.2] 24 (0, 0))) := ⟨(hbe.block _ (blk_lt Bm317.out)).trans Bm317.out⟩
          have Bc319 : Aside0 (v31.heap[gc316]? = some (.cells #[.int .i64 ch.1, .slice B ch.2.1.length d, .slice B' ch.2.2.length d'] 39 (0, 0))) := ⟨(hbe.block _ (blk_lt Bc316.out)).trans Bc316.out⟩
          have CWA319 := Aside0.mk (WAt.below CWA317.out hbe)
          have CRW319 := Aside0.mk (RWAt.below CRW317.out hbe)
          have CBP319 := Aside0.mk (below_step CBP317.out hbe)
          have Ro319 := Aside0.mk (Kd.R_below Ro317.out hbe)
          have Rn319 := Aside0.mk (Kd.R_below Rn317.out hbe)
          clear hbe
          have zc320_0 : v31.cell? ⟨gc316, 0, none⟩ = some (.int .i64 ch.1) := (blk_cell Bc319.out 0).trans rfl
          have zc320_1 : v31.cell? ⟨gc316, 1, none⟩ = some (.slice B ch.2.1.length d) := (blk_cell Bc319.out 1).trans rfl
          have zc320_2 : v31.cell? ⟨gc316, 2, none⟩ = some (.slice B' ch.2.2.length d') := (blk_cell Bc319.out 2).trans rfl
          go_wp2_with fail
          clear zc320_0 zc320_1 zc320_2
          go_loopw [170] (fun v170 w' => ∃ (i : Nat) (ys : List Int), i ≤ ch.2.1.length ∧ v170 = .int .i64 i ∧ Aside0 ((Kd.int .i64).R 3 w' W312.heap.size (fun _ => True) (.slice B ch.2.1.length d) ys) ∧ Aside0 (w'.heap[gc316]? = some (.cells #[.int .i64 ch.1, .slice B ch.2.1.length d, .slice B' ch.2.2.length d'] 39 (0, 0))) ∧ Aside0 (Below W312.heap.size W312 w') ∧ Aside0 (Below W.heap.size W w')) (fun v _ => ch.2.1.length - (intOf v).toNat)
          case atStart => exact ⟨0, ch.2.1, by omega, rfl, Ro319, Bc319, CBP319, HB319⟩
          case round =>
            obtain ⟨i, ys, hi, rfl, HR, HC, HP, HW2⟩ := hrel
            by_cases hlt6 : i < ch.2.1.length
            case neg =>
              have d6 : decide ((i : Int) < (ch.2.1.length : Int)) = false := decide_eq_false (by omega)
              go_wp2_with fail
              go_roundw
              case rel => exact ⟨k + 1, by omega, by go_num, ⟨(HBOP.out.below HP.out).up (Nat.le_refl _)⟩, HW2⟩
              case measure => simp [intOf]; omega
            have hcb : ch.2.1.length < 17592186044416 := Nat.lt_of_le_of_lt HCLN.out.1 HLEN.out
            obtain ⟨b, rfl, hbb, hob⟩ := row_bi HR.out (by omega)
            obtain ⟨hc0, hf0⟩ := Kd.R_celln 0 HR.out (i : Int) (by omega) (by omega)
            rw [Int.toNat_natCast] at hc0 hf0
            obtain ⟨x0, hx0⟩ : ∃ x, rdOf 0 ys (i : Int) = x := ⟨_, rfl⟩
            rw [hx0] at hc0
            clear hx0
            have HBB := Aside0.mk (And.intro hbb hob)
            clear hbb hob
            have d6 : decide ((i : Int) < (ch.2.1.length : Int)) = true := decide_eq_true (by omega)
            have zc1 : wr.cell? ⟨gc316, 1, none⟩ = some (.slice (some ⟨b, 0, none⟩) ch.2.1.length d) := (blk_cell HC.out 1).trans rfl
            go_wp2_with fail
            go_roundw
            case rel => exact ⟨i + 1, ys.set i (-1), by omega, by go_num, ⟨Kd.R_putn HR.out (i : Int) (-1)⟩, ⟨blk_grown HC.out (Kd.R_putg HR.out (i : Int) (-1)).2 (by rw [← HBB.out.2]; exact Kd.R_ne HR.out HC.out (by decide))⟩, ⟨below_set HP.out HBB.out.1⟩, ⟨below_set HW2.out (Nat.le_trans HBPW.out.size HBB.out.1)⟩⟩
            case measure => simp [intOf]; omega
        obtain ⟨b, rfl, hbb, hob⟩ := row_bi HR.out (by omega)
        obtain ⟨hc0, hf0⟩ := Kd.R_celln 0 HR.out (i : Int) (by omega) (by omega)
        rw [Int.toNat_natCast] at hc0 hf0
        obtain ⟨x0, hx0⟩ : ∃ x, rdOf 0 ys (i : Int) = x := ⟨_, rfl⟩
        rw [hx0] at hc0
        clear hx0
        have HBB := Aside0.mk (And.intro hbb hob)
        clear hbb hob
        have d3 : decide ((i : Int) < (v.length : Int)) = true := decide_eq_true (by omega)
        go_wp2_with fail
        go_roundw
        case rel => exact ⟨i + 1, ys.set i (-1), by omega, by go_num, ⟨Kd.R_putn HR.out (i : Int) (-1)⟩, ⟨HBI.out.put HR.out HBB.out.2 (fun k hk e => by rw [HOKK.out] at hk; rw [e] at hk; exact hk HBB.out.2.symm) (Kd.R_putg HR.out (i : Int) (-1)).2⟩, ⟨below_set HW.out (Nat.le_trans HWW.out HBB.out.1)⟩⟩
        case measure => simp [intOf]; omega
end Go.Proofs.Ytimfbdiiaakhiaa.MAll

/- TenureEpochs: the walk. -/
import Derived.Test.YtimfbdiiaakhiaaTo
set_option linter.unusedVariables false
set_option linter.unusedSimpArgs false
namespace Go.Proofs.Ytimfbdiiaakhiaa.MAll
open Go.RowKit Go.Proofs.YtimfbdiiaakhiaaW.PrintWords Go.Proofs.YtimfbdiiaakhiaaW.PrintLast Go.Proofs.YtimfbdiiaakhiaaW.PrintMore
attribute [local go_sem ↓] Go.wp_at_zero Go.wp_at_succ
abbrev TAct := Int × Int
def kAct : Kd TAct := Kd.iso (Kd.pair (Kd.int .i64) (Kd.int .i64)) id
theorem act_at {w : World} {A : Option Addr} {xs : List TAct} (h : kAct.C w A xs.length xs) (k : Nat) (hk : k < xs.length) :
    ∃ ad kd n, A = some ad ∧ w.cell? (ad.add (k * 2)) = some (.int .i64 kd) ∧ w.cell? ⟨(ad.add (k * 2)).block, (ad.add (k * 2)).off + 1, none⟩ = some (.int .i64 n) := by
  obtain ⟨ad, cs, rfl, _, hK, hc⟩ := Kd.C_get h (0, 0) k (by omega) (by omega)
  have he : xs.getD (k : Int).toNat (0, 0) = xs[k]'hk := by simp [List.getD_eq_getElem?_getD, List.getElem?_eq_getElem hk]
  rw [he] at hK
  rcases hx : xs[k]'hk with ⟨kd, n⟩
  rw [hx] at hK
  obtain ⟨c0, c1, rfl, hk0, hk3⟩ := hK
  obtain rfl : c0 = [.int .i64 kd] := hk0
  obtain rfl : c1 = [.int .i64 n] := hk3
  have e : kAct.sz = 2 := rfl
  have ek : (k : Int).toNat = k := by omega
  rw [e, ek] at hc
  refine ⟨ad, kd, n, rfl, by simpa using hc 0 _ rfl, ?_⟩
  rw [← add_field' ad (k * 2) 1 (by omega)]; exact hc 1 _ rfl
def PL (k : Nat) (v : List Int) (la : LeaseT) (lf : Nat → Int) (vv : Nat → List Int) (ag : Nat → Int) : Prop := VI k v la ∧ SI la vv ∧ (∀ i, i < 3 → 0 ≤ lf i ∧ lf i ≤ k) ∧ (∀ i, i < 3 → 0 ≤ ag i ∧ ag i ≤ 1000)
theorem upd_all {α : Type} {P : α → Prop} {f : Nat → α} {k : Nat} {x : α} (h : ∀ i, i < 3 → P (f i)) (hx : P x) : ∀ i, i < 3 → P (upd f k x i) := fun i hi => by
  unfold upd
  split
  · exact hx
  · exact h i hi
theorem age_up (a : Int) (h : 0 ≤ a ∧ a ≤ 1000) : 0 ≤ ageUp a ∧ ageUp a ≤ 1000 := by unfold ageUp; split <;> omega
theorem saw_age (sw : Bool) (v x : List Int) (ag : Int) (h : 0 ≤ ag ∧ ag ≤ 1000) : 0 ≤ sawAge sw v x ag ∧ sawAge sw v x ag ≤ 1000 := by
  unfold sawAge; split <;> omega
theorem do_c (r1 : List Int) (r2 : Option Int) (k0 : Int) (A0 : Option Addr) (c0 : Nat) (o0 : List Int) (B0 : Option Addr) (d0 : Nat) (n0 : List Int) (A1 : Option Addr) (c1 : Nat) (v : List Int) (w : World) (hr0 : (Kd.int .i64).C w A0 o0.length o0) (hc0 : o0.length ≤ c0) (hr1 : (Kd.int .i64).C w B0 n0.length n0) (hc1 : n0.length ≤ d0) (hr : (Kd.int .i64).C w A1 v.length v) (hc : v.length ≤ c1) (h : change_Do.f 6 k0 o0 n0 v = some (r1, r2)) :
    Calls Try.prog 23 #[.agg #[.int .i64 k0, .slice A0 o0.length c0, .slice B0 n0.length d0], .slice A1 v.length c1] w fun e w' => ∃ B d, e = .returned (.tuple #[.slice B r1.length d, errW r2]) ∧ (Kd.int .i64).R 3 w' w.heap.size (fun _ => True) (.slice B r1.length d) r1 ∧ Below w.heap.size w w' := by
  refine (change_Do.calls 6 k0 A0 c0 o0 B0 d0 n0 A1 c1 v r1 r2 w hr0 hc0 hr1 hc1 hr hc h).mono ?_
  rintro e w' ⟨u, rfl, hR, hb⟩
  obtain ⟨B, d, rfl⟩ := Kd.R_slice hR
  exact ⟨B, d, rfl, hR, hb⟩
set_option maxHeartbeats 16000000 in
set_option maxRecDepth 100000 in
theorem epochs_any (W : World) (a0 : Int) (A0 : Option Addr) (c0 : Nat) (acts : List TAct) (hr : kAct.C W A0 acts.length acts) : Calls Try.prog 8 #[.int .i64 a0, .slice A0 acts.length c0] W fun e w' => e = .returned (.bool true) ∧ Below W.heap.size W w' := by
  have hu24 := Try.underlying24
  have hu22 := Try.underlying22
  have hu34 := Try.underlying34
  have hu56 := Try.underlying56
  have hu57 := Try.underlying57
  have hu59 := Try.underlying59
  have hu55 := Try.underlying55
  have hu62 := Try.underlying62
  have hu32 := Try.underlying32
  have HV := Aside0.mk hr
  clear hr
  by_cases hn : acts.length ≤ 600
  case neg =>
    have h1 : decide (600 < (acts.length : Int)) = true := decide_eq_true (by omega)
    have h2 : decide (600 < acts.length) = true := decide_eq_true (by omega)
    go_enter Try.func8, Try.ntmps8
    go_wp2_with fail
    refine (alive_any _).mono ?_
    rintro e w1 ⟨rfl, hb1⟩
    go_wp2_with fail
    go_ret
    exact ⟨rfl, hb1⟩
  have h1 : decide (600 < (acts.length : Int)) = false := decide_eq_false (by omega)
  have h2 : decide (600 < acts.length) = false := decide_eq_false (by omega)
  go_enter Try.func8, Try.ntmps8
  go_wp2_with fail
  refine (alive_any _).mono ?_
  rintro e w1 ⟨rfl, hb1⟩
  have HB1 := Aside0.mk hb1
  clear hb1
  go_upto_region 7 with fail
  obtain ⟨t, ht, ht1, ht2⟩ := umod_one a0 20 (by omega)
  rw [ht]
  clear ht h1 h2
  obtain ⟨W11, hw11⟩ : ∃ x : World, x = (w1.alloc (.cells #[.pointer none, .pointer none, .pointer none] 56)).alloc (.cells #[.int .i64 0, .int .i64 0, .int .i64 0] 57) := ⟨_, rfl⟩
  have hbs11 : Below w1.heap.size w1 W11 := by rw [hw11]; repeat (first | exact Below.refl _ _ | refine below_alloc ?_ _ | refine below_drew ?_)
  obtain ⟨gp11, hgp11⟩ : ∃ x, x = w1.heap.size := ⟨_, rfl⟩
  have GSp11 : Aside0 (W.heap.size ≤ gp11) := ⟨by rw [hgp11]; have := HB1.out.size; omega⟩
  have Bp11 : Aside0 (W11.heap[gp11]? = some (.cells #[.pointer none, .pointer none, .pointer none] 56 (0, 0))) := ⟨by rw [hw11, hgp11]; exact blk_alloc (blk_new _ _) _⟩
  obtain ⟨gl11, hgl11⟩ : ∃ x, x = w1.heap.size + 1 := ⟨_, rfl⟩
  have GSl11 : Aside0 (W.heap.size ≤ gl11) := ⟨by rw [hgl11]; have := HB1.out.size; omega⟩
  have Bl11 : Aside0 (W11.heap[gl11]? = some (.cells #[.int .i64 0, .int .i64 0, .int .i64 0] 57 (0, 0))) := ⟨by rw [hw11, hgl11]; have := blk_new (w1.alloc (.cells #[.pointer none, .pointer none, .pointer none] 56)) (.cells #[.int .i64 0, .int .i64 0, .int .i64 0] 57); rwa [World.size_alloc] at this⟩
  rw [← hw11]
  rw [← hgl11]
  rw [← hgp11]
  clear hw11 hgp11 hgl11
  have HB12 := Aside0.mk (below_step HB1.out hbs11)
  clear hbs11
  have HE0 : Aside0 (EN W W11 gp11 gl11 t (fun _ => 0) 0) := ⟨⟨Bp11.out, Bl11.out, fun j hj => absurd hj (Nat.not_lt_zero _), fun a b ha => absurd ha (Nat.not_lt_zero _)⟩⟩
  go_wp2_with fail
  go_loopw [36] (fun v36 w' => ∃ (i : Nat) (G : Nat → Nat), i ≤ 3 ∧ v36 = .int .i64 i ∧ Aside0 (EN W w' gp11 gl11 t G i) ∧ Aside0 (Below W.heap.size W w')) (fun v _ => 3 - (intOf v).toNat)
  case atStart => exact ⟨0, _, by omega, rfl, HE0, HB12⟩
  case round =>
    clear HE0
    obtain ⟨i, G, hi, rfl, HE, HW⟩ := hrel
    by_cases hlt : i < 3
    case pos =>
      have d3 : decide ((i : Int) < 3) = true := decide_eq_true (by omega)
      go_wp2_with fail
      refine (new_c _ (i : Int) 0 (t : Int) (by unfold newOk; exact decide_eq_true (by omega))).mono ?_
      rintro e wn ⟨g, rfl, hge, hw, hb⟩
      have HE1 := Aside0.mk (HE.out.below hb)
      have hz := HE1.out.cell hlt
      have hf := blk_frozen HE1.out.1 i
      have HGE := Aside0.mk hge
      have HWN := Aside0.mk hw
      have HB1' := Aside0.mk (below_step HW.out hb)
      clear hge hw hb
      go_wp2_with fail
      go_roundw
      case rel => exact ⟨i + 1, upd G i g, by omega, by go_num, ⟨HE1.out.new hlt HWN.out (Nat.le_trans HW.out.size HGE.out) (fun j hj => by have := (HE.out.2.2.1 j hj).2.lt; have := HGE.out; omega)⟩, ⟨below_set HB1'.out GSp11.out⟩⟩
      case measure => simp [intOf]; omega
    have hi3 : i = 3 := by omega
    subst hi3
    clear hlt hi
    have d3 : decide (((3 : Nat) : Int) < 3) = false := by decide
    go_upto_region 14 with fail
    clear d3
    obtain ⟨w4, hw4⟩ : ∃ x : World, x = (wr.alloc (.cells #[] 3)).alloc (.cells #[.int .i64 0, .int .i64 0, .int .i64 0, .int .i64 0] 24) := ⟨_, rfl⟩
    obtain ⟨gt, hgt⟩ : ∃ x, x = wr.heap.size + 1 := ⟨_, rfl⟩
    obtain ⟨ge, hge⟩ : ∃ x, x = wr.heap.size := ⟨_, rfl⟩
    have HBt : w4.heap[gt]? = some (.cells #[.int .i64 0, .int .i64 0, .int .i64 0, .int .i64 0] 24 (0, 0)) := by rw [hw4, hgt]; have := blk_new (wr.alloc (.cells #[] 3)) (.cells #[.int .i64 0, .int .i64 0, .int .i64 0, .int .i64 0] 24); rwa [World.size_alloc] at this
    have hb4 : Below wr.heap.size wr w4 := by rw [hw4]; exact below_alloc (below_alloc (Below.refl _ _) _) _
    have HRV : (Kd.int .i64).R 3 w4 W.heap.size (fun _ => True) (.slice (some ⟨ge, 0, none⟩) 0 0) [] := by rw [hw4, hge]; exact Kd.R_below (Kd.R_of_own (own_lit wr W.heap.size 3 .i64 [] HW.out.size (by simp)) (fun _ _ => trivial)) (below_alloc (Below.refl _ _) _)
    have HB4 := Aside0.mk (below_step HW.out hb4)
    have GT : Aside0 (W.heap.size ≤ gt) := ⟨by have := HW.out.size; omega⟩
    have HE4 : Aside0 (EW W w4 gp11 gl11 gt t G (fun _ => 0) (fun _ => 0) (fun _ => false) (fun _ => []) (fun _ => 0) (0, 0, 0, 0) (some ⟨ge, 0, none⟩) 0 []) := ⟨⟨(HE.out.below hb4).1, (HE.out.below hb4).2.1, HBt, fun i hi => (HE.out.below hb4).2.2.1 i hi, fun i j hi hj hij => (HE.out.below hb4).2.2.2 i j hi hj hij, HRV⟩⟩
    rw [← hw4, ← hgt, ← hge]
    clear hw4 hgt hge HBt hb4 HRV HE HW
    go_wp2_with fail
    go_loopw [52, 8] (fun v52 v8 w' => ∃ (k : Nat) (A : Option Addr) (c : Nat) (v : List Int) (G : Nat → Nat) (lf : Nat → Int) (sw : Nat → Bool) (vv : Nat → List Int) (ag : Nat → Int) (la : LeaseT), k ≤ acts.length ∧ v52 = .int .i64 k ∧ v8 = .slice A v.length c ∧ Aside0 (EW W w' gp11 gl11 gt t G lf lf sw vv ag la A c v) ∧ Aside0 (PL k v la lf vv ag) ∧ Aside0 (Below W.heap.size W w')) (fun v _ _ => acts.length - (intOf v).toNat)
    case atStart => exact ⟨0, _, _, [], G, _, _, _, _, _, by omega, rfl, rfl, HE4, ⟨⟨.inl ⟨rfl, rfl⟩, fun i hi => .inl rfl, fun i hi => ⟨Int.le_refl _, Int.le_refl _⟩, fun i hi => ⟨Int.le_refl _, by show (0 : Int) ≤ 1000; decide⟩⟩⟩, HB4⟩
    case round =>
      clear HE4 HB4
      obtain ⟨k, A, c, v, G, lf, sw, vv, ag, la, hk, rfl, rfl, HE, HP, HW⟩ := hrel
      by_cases hlt : k < acts.length
      case neg =>
        go_wp2_with fail
        go_ret
        exact ⟨rfl, HW.out⟩
      obtain ⟨ad, kd, who, hA0, s0, s1⟩ := act_at HV.out k hlt
      subst hA0
      have s0 := pw_cell_below HW.out s0
      have s1 := pw_cell_below HW.out s1
      have hk6 : k < 600 := by omega
      go_upto_region 17 with fail
      obtain ⟨W101, hw101⟩ : ∃ x : World, x = wr.alloc (.cells #[.int .i64 kd, .int .i64 who] 59) := ⟨_, rfl⟩
      have hbs101 : Below wr.heap.size wr W101 := by rw [hw101]; repeat (first | exact Below.refl _ _ | refine below_alloc ?_ _ | refine below_drew ?_)
      obtain ⟨go101, hgo101⟩ : ∃ x, x = wr.heap.size := ⟨_, rfl⟩
      have GSo101 : Aside0 (W.heap.size ≤ go101) := ⟨by rw [hgo101]; have := HW.out.size; omega⟩
      have Bo101 : Aside0 (W101.heap[go101]? = some (.cells #[.int .i64 kd, .int .i64 who] 59 (0, 0))) := ⟨by rw [hw101, hgo101]; exact blk_new _ _⟩
      rw [← hw101]
      rw [← hgo101]
      clear hw101 hgo101
      have HB102 := Aside0.mk (below_step HW.out hbs101)
      have CE102 := Aside0.mk (EW.below HE.out hbs101)
      clear hbs101
      clear s0 s1 HE HW
      have zo103_0 : W101.cell? ⟨go101, 0, none⟩ = some (.int .i64 kd) := (blk_cell Bo101.out 0).trans rfl
      have zo103_1 : W101.cell? ⟨go101, 1, none⟩ = some (.int .i64 who) := (blk_cell Bo101.out 1).trans rfl
      go_upto_region 18 with fail
      obtain ⟨q, hq, hq3'⟩ := umod_nat who 3 (by omega)
      rw [hq]
      have hq3 : q < 3 := by omega
      have dq : decide ((q : Int) < 3) = true := decide_eq_true (by omega)
      have hzp := EW.ptr CE102.out q hq3
      clear hq
      by_cases h0 : kd = 0
      case pos => as_aux_lemma =>
        subst h0
        go_wp2_with fail
        clear zo103_0 zo103_1 hzp dq
        refine (tick_c _ (G q) (q : Int) (lf q) t (sw q) (vv q) (ag q) (CE102.out.at_ q hq3) (HP.out.2.2.2 q hq3)).mono ?_
        rintro e wa ⟨rfl, hwa, hga⟩
        have HBA := Aside0.mk (below_watch HB102.out hga (CE102.out.ge q hq3))
        obtain ⟨G', lf', sw', vv', ag', HEN, HS1, HLA⟩ : ∃ G' lf' sw' vv' ag', Aside0 (EW W wa gp11 gl11 gt t G' lf' lf' sw' vv' ag' la A c v) ∧ Aside0 (SI la vv') ∧ Aside0 ((∀ i, i < 3 → 0 ≤ lf' i ∧ lf' i ≤ ((k + 1 : Nat) : Int)) ∧ (∀ i, i < 3 → 0 ≤ ag' i ∧ ag' i ≤ 1000)) := ⟨_, _, _, _, _, ⟨CE102.out.watch hq3 hwa hga⟩, ⟨HP.out.2.1.set q (HP.out.2.1 q hq3)⟩, ⟨fun i hi => ⟨(HP.out.2.2.1 i hi).1, by have := (HP.out.2.2.1 i hi).2; omega⟩, upd_all (P := fun a => 0 ≤ a ∧ a ≤ 1000) HP.out.2.2.2 (age_up _ (HP.out.2.2.2 q hq3))⟩⟩
        clear hwa hga
        have HVI := Aside0.mk HP.out.1
        rcases HP.out.1.stay with h0 | hR
        · have HC := Aside0.mk h0
          have HVN := Aside0.mk (T0.next (k := k) h0)
          obtain ⟨hv0, hl0⟩ := h0
          subst hv0
          go_wp2_with fail
          have htk := take_v A c ([] : List Int) _ HEN.out.C HEN.out.cap
          rw [show leaseOf ([] : List Int) = (0, 0, 0, 0) from rfl, show okL ([] : List Int) = false by decide] at htk
          refine htk.mono ?_
          rintro e wt ⟨rfl, hbt⟩
          clear htk
          have HET := Aside0.mk ((HEN.out.below hbt).below (below_alloc (Below.refl _ _) (.cells #[.int .i64 0, .int .i64 0, .int .i64 0, .int .i64 0] 24)))
          have HBT := Aside0.mk (below_alloc (below_step HBA.out hbt) (.cells #[.int .i64 0, .int .i64 0, .int .i64 0, .int .i64 0] 24))
          clear hbt
          go_wp2_with fail
          go_roundw
          case rel => exact ⟨k + 1, A, c, [], G', lf', sw', vv', ag', la, by omega, by go_num, rfl, HET, ⟨⟨HVN.out, HS1.out, HLA.out.1, HLA.out.2⟩⟩, HBT⟩
          case measure => simp [intOf]; omega
        · have HC := Aside0.mk hR
          have HVN := Aside0.mk (hR.next HP.out.1)
          have HS2 : Aside0 (SI (leaseOf v) vv') := ⟨HS1.out.up (Int.le_of_eq hR.2.1.symm)⟩
          clear hR
          go_wp2_with fail
          have htk := take_v A c v _ HEN.out.C HEN.out.cap
          have hok := HC.out.1
          obtain ⟨l, hl⟩ : ∃ l, leaseOf v = l := ⟨_, rfl⟩
          have HLL := Aside0.mk hl
          rw [hok, hl] at htk
          clear hok
          refine htk.mono ?_
          rintro e wt ⟨rfl, hbt⟩
          clear htk
          have HET := Aside0.mk (HEN.out.below hbt)
          have HB242 := Aside0.mk (below_step HBA.out hbt)
          clear hbt
          have HLB := Aside0.mk (HVN.out.bounds)
          rw [hl] at HLB
          have HBD := Aside0.mk (HVI.out.bounds)
          have HPT := Aside0.mk (ok_parts HC.out.1)
          rw [hl] at HPT
          obtain ⟨_, q1, q2, q3, q4, q5⟩ := HC.out
          rw [hl] at q1 q2 q3 q4 q5
          have c1 : (l.1 == la.1) = true := beq_iff_eq.2 q1
          have c2 : (l.2.1 == la.2.1) = true := beq_iff_eq.2 q2
          have c3 : (l.2.2.1 == la.2.2.1) = true := beq_iff_eq.2 q3
          have c4 : decide (la.2.2.2 ≤ l.2.2.2) = true := decide_eq_true q4
          have c5 : wrap64 (la.2.2.2 + 1) = la.2.2.2 + 1 := by have := HBD.out; unfold wrap64; omega
          have c6 : decide (l.2.2.2 ≤ la.2.2.2 + 1) = true := decide_eq_true q5
          have c7 : wrap64 (la.1 + 1) = la.1 + 1 := by have := HBD.out; unfold wrap64; omega
          have c8 : (l.1 == la.1 + 1) = false := beq_eq_false_iff_ne.2 (by omega)
          clear q1 q2 q3 q4 q5
          clear hl
          go_upto_region 36 with fail
          obtain ⟨W243, hw243⟩ : ∃ x : World, x = wt.alloc (.cells #[.int .i64 l.1, .int .i64 l.2.1, .int .i64 l.2.2.1, .int .i64 l.2.2.2] 24) := ⟨_, rfl⟩
          have hbs243 : Below wt.heap.size wt W243 := by rw [hw243]; repeat (first | exact Below.refl _ _ | refine below_alloc ?_ _ | refine below_drew ?_)
          obtain ⟨gn243, hgn243⟩ : ∃ x, x = wt.heap.size := ⟨_, rfl⟩
          have HGN : Aside0 (wt.heap.size ≤ gn243) := ⟨by rw [hgn243]; exact Nat.le_refl _⟩
          have GSn243 : Aside0 (W.heap.size ≤ gn243) := ⟨by rw [hgn243]; have := HB242.out.size; omega⟩
          have Bn243 : Aside0 (W243.heap[gn243]? = some (.cells #[.int .i64 l.1, .int .i64 l.2.1, .int .i64 l.2.2.1, .int .i64 l.2.2.2] 24 (0, 0))) := ⟨by rw [hw243, hgn243]; exact blk_new _ _⟩
          rw [← hw243]
          rw [← hgn243]
          clear hw243 hgn243
          have HB244 := Aside0.mk (below_step HB242.out hbs243)
          have CE244 := Aside0.mk (EW.below HET.out hbs243)
          clear hbs243
          have zn245_0 : W243.cell? ⟨gn243, 0, none⟩ = some (.int .i64 l.1) := (blk_cell Bn243.out 0).trans rfl
          have zn245_1 : W243.cell? ⟨gn243, 1, none⟩ = some (.int .i64 l.2.1) := (blk_cell Bn243.out 1).trans rfl
          have zn245_2 : W243.cell? ⟨gn243, 2, none⟩ = some (.int .i64 l.2.2.1) := (blk_cell Bn243.out 2).trans rfl
          have zn245_3 : W243.cell? ⟨gn243, 3, none⟩ = some (.int .i64 l.2.2.2) := (blk_cell Bn243.out 3).trans rfl
          have zt0 : W243.cell? ⟨gt, 0, none⟩ = some (.int .i64 la.1) := (blk_cell CE244.out.2.2.1 0).trans rfl
          have zf0 := blk_frozen CE244.out.2.2.1 0
          have zt1 : W243.cell? ⟨gt, 1, none⟩ = some (.int .i64 la.2.1) := (blk_cell CE244.out.2.2.1 1).trans rfl
          have zf1 := blk_frozen CE244.out.2.2.1 1
          have zt2 : W243.cell? ⟨gt, 2, none⟩ = some (.int .i64 la.2.2.1) := (blk_cell CE244.out.2.2.1 2).trans rfl
          have zf2 := blk_frozen CE244.out.2.2.1 2
          have zt3 : W243.cell? ⟨gt, 3, none⟩ = some (.int .i64 la.2.2.2) := (blk_cell CE244.out.2.2.1 3).trans rfl
          have zf3 := blk_frozen CE244.out.2.2.1 3
          go_upto_region 41 with fail
          clear zn245_0 zn245_1 zn245_2 zn245_3
          clear zt0 zt1 zt2 zt3 zf0 zf1 zf2 zf3 c1 c2 c3 c4 c5 c6 c7 c8
          obtain ⟨wl, hwl⟩ : ∃ x : World, x = ((((W243.setCell ⟨gt, 0, none⟩ (.int .i64 l.1)).setCell ⟨gt, 1, none⟩ (.int .i64 l.2.1)).setCell ⟨gt, 2, none⟩ (.int .i64 l.2.2.1)).setCell ⟨gt, 3, none⟩ (.int .i64 l.2.2.2)) := ⟨_, rfl⟩
          have HEL := Aside0.mk (EW.last CE244.out l)
          have HNE : gn243 ≠ gt := fun e => by have h1 := blk_lt HET.out.2.2.1; have h2 := HGN.out; rw [e] at h2; omega
          have HBL : Below W.heap.size W wl := by rw [hwl]; exact below_set (below_set (below_set (below_set HB244.out GT.out) GT.out) GT.out) GT.out
          have HNL : wl.heap[gn243]? = some (.cells #[.int .i64 l.1, .int .i64 l.2.1, .int .i64 l.2.2.1, .int .i64 l.2.2.2] 24 (0, 0)) := by rw [hwl]; exact blk_grown Bn243.out ((((grown_set _ _ _ _).trans (grown_set _ _ _ _)).trans (grown_set _ _ _ _)).trans (grown_set _ _ _ _)) (fun e => HNE (by injection e))
          rw [← hwl] at HEL
          rw [← hwl]
          clear hwl HNE
          have HBL := Aside0.mk HBL
          have HNL := Aside0.mk HNL
          have zp0 := EW.ptr HEL.out 0 (by omega)
          have zp1 := EW.ptr HEL.out 1 (by omega)
          have zp2 := EW.ptr HEL.out 2 (by omega)
          go_wp2_with fail
          clear zp0 zp1 zp2
          go_loopw [174] (fun v174 w' => ∃ i : Nat, i ≤ 3 ∧ v174 = .int .i64 i ∧ Aside0 (EW W w' gp11 gl11 gt t G' lf' lf' sw' vv' ag' l A c v) ∧ Aside0 (w'.heap[gn243]? = some (.cells #[.int .i64 l.1, .int .i64 l.2.1, .int .i64 l.2.2.1, .int .i64 l.2.2.2] 24 (0, 0))) ∧ Aside0 (Below W.heap.size W w')) (fun v _ => 3 - (intOf v).toNat)
          case atStart => exact ⟨0, by omega, rfl, HEL, HNL, HBL⟩
          case round =>
            clear HEL HNL HBL
            obtain ⟨i, hi, rfl, HE, HN, HW⟩ := hrel
            have HSL : Aside0 (SI l vv') := ⟨by have h := HS2.out; rw [HLL.out] at h; exact h⟩
            have HZ := Aside0.mk (HVN.out.bounds.1)
            rw [HLL.out] at HZ
            rcases (by omega : i = 0 ∨ i = 1 ∨ i = 2 ∨ i = 3) with rfl | rfl | rfl | rfl
            · obtain ⟨nn, hnn⟩ : ∃ x, leadsN (0 : Nat) (lf' 0) (vv' 0) = x := ⟨_, rfl⟩
              obtain ⟨bb, hbb⟩ : ∃ x, leadsB (0 : Nat) (lf' 0) (vv' 0) = x := ⟨_, rfl⟩
              have hdec : decide (l.1 < nn) = false := by rw [← hnn]; exact HSL.out.leads 0 (by omega) _ _ HZ.out
              have hld := leads_c _ _ _ _ _ _ _ _ (HE.out.at_ 0 (by omega))
              rw [hnn, hbb] at hld
              clear hnn hbb
              have hix : ∀ W, (Instr.index 56 (.agg #[pt (G' 0), pt (G' 1), pt (G' 2)]) (.int .i64 0)).run Try.prog W = .ok (pt (G' 0)) W := fun _ => by kernel_rfl
              go_wp2_with fail
              clear hix
              refine hld.mono ?_
              rintro e wx ⟨rfl, hbx⟩
              have HEX := Aside0.mk (HE.out.below hbx)
              have HNX : Aside0 (wx.heap[gn243]? = some (.cells #[.int .i64 l.1, .int .i64 l.2.1, .int .i64 l.2.2.1, .int .i64 l.2.2.2] 24 (0, 0))) := ⟨blk_below HN.out hbx⟩
              have HBX := Aside0.mk (below_step HW.out hbx)
              clear hld hbx
              have zn : wx.cell? ⟨gn243, 0, none⟩ = some (.int .i64 l.1) := (blk_cell HNX.out 0).trans rfl
              cases bb
              · go_wp2_with fail
                go_roundw
                case rel => exact ⟨1, by omega, by go_num, HEX, HNX, HBX⟩
                case measure => simp [intOf]
              · go_wp2_with fail
                go_roundw
                case rel => exact ⟨1, by omega, by go_num, HEX, HNX, HBX⟩
                case measure => simp [intOf]
            · obtain ⟨nn, hnn⟩ : ∃ x, leadsN (1 : Nat) (lf' 1) (vv' 1) = x := ⟨_, rfl⟩
              obtain ⟨bb, hbb⟩ : ∃ x, leadsB (1 : Nat) (lf' 1) (vv' 1) = x := ⟨_, rfl⟩
              have hdec : decide (l.1 < nn) = false := by rw [← hnn]; exact HSL.out.leads 1 (by omega) _ _ HZ.out
              have hld := leads_c _ _ _ _ _ _ _ _ (HE.out.at_ 1 (by omega))
              rw [hnn, hbb] at hld
              clear hnn hbb
              have hix : ∀ W, (Instr.index 56 (.agg #[pt (G' 0), pt (G' 1), pt (G' 2)]) (.int .i64 1)).run Try.prog W = .ok (pt (G' 1)) W := fun _ => by kernel_rfl
              go_wp2_with fail
              clear hix
              refine hld.mono ?_
              rintro e wx ⟨rfl, hbx⟩
              have HEX := Aside0.mk (HE.out.below hbx)
              have HNX : Aside0 (wx.heap[gn243]? = some (.cells #[.int .i64 l.1, .int .i64 l.2.1, .int .i64 l.2.2.1, .int .i64 l.2.2.2] 24 (0, 0))) := ⟨blk_below HN.out hbx⟩
              have HBX := Aside0.mk (below_step HW.out hbx)
              clear hld hbx
              have zn : wx.cell? ⟨gn243, 0, none⟩ = some (.int .i64 l.1) := (blk_cell HNX.out 0).trans rfl
              cases bb
              · go_wp2_with fail
                go_roundw
                case rel => exact ⟨2, by omega, by go_num, HEX, HNX, HBX⟩
                case measure => simp [intOf]
              · go_wp2_with fail
                go_roundw
                case rel => exact ⟨2, by omega, by go_num, HEX, HNX, HBX⟩
                case measure => simp [intOf]
            · obtain ⟨nn, hnn⟩ : ∃ x, leadsN (2 : Nat) (lf' 2) (vv' 2) = x := ⟨_, rfl⟩
              obtain ⟨bb, hbb⟩ : ∃ x, leadsB (2 : Nat) (lf' 2) (vv' 2) = x := ⟨_, rfl⟩
              have hdec : decide (l.1 < nn) = false := by rw [← hnn]; exact HSL.out.leads 2 (by omega) _ _ HZ.out
              have hld := leads_c _ _ _ _ _ _ _ _ (HE.out.at_ 2 (by omega))
              rw [hnn, hbb] at hld
              clear hnn hbb
              have hix : ∀ W, (Instr.index 56 (.agg #[pt (G' 0), pt (G' 1), pt (G' 2)]) (.int .i64 2)).run Try.prog W = .ok (pt (G' 2)) W := fun _ => by kernel_rfl
              go_wp2_with fail
              clear hix
              refine hld.mono ?_
              rintro e wx ⟨rfl, hbx⟩
              have HEX := Aside0.mk (HE.out.below hbx)
              have HNX : Aside0 (wx.heap[gn243]? = some (.cells #[.int .i64 l.1, .int .i64 l.2.1, .int .i64 l.2.2.1, .int .i64 l.2.2.2] 24 (0, 0))) := ⟨blk_below HN.out hbx⟩
              have HBX := Aside0.mk (below_step HW.out hbx)
              clear hld hbx
              have zn : wx.cell? ⟨gn243, 0, none⟩ = some (.int .i64 l.1) := (blk_cell HNX.out 0).trans rfl
              cases bb
              · go_wp2_with fail
                go_roundw
                case rel => exact ⟨3, by omega, by go_num, HEX, HNX, HBX⟩
                case measure => simp [intOf]
              · go_wp2_with fail
                go_roundw
                case rel => exact ⟨3, by omega, by go_num, HEX, HNX, HBX⟩
                case measure => simp [intOf]
            · go_wp2_with fail
              go_roundw
              case rel => exact ⟨k + 1, A, c, v, G', lf', sw', vv', ag', l, by omega, by go_num, rfl, HE, ⟨⟨by have h := HVN.out; rw [HLL.out] at h; exact h, HSL.out, HLA.out.1, HLA.out.2⟩⟩, HW⟩
              case measure => simp [intOf]; omega
      have hk0 : (kd == 0) = false := beq_eq_false_iff_ne.2 h0
      by_cases h1 : kd = 1
      case pos => as_aux_lemma =>
        subst h1
        go_wp2_with fail
        clear zo103_0 zo103_1 hzp dq
        refine (saw_c _ (G q) (q : Int) (lf q) t (sw q) (vv q) (ag q) (CE102.out.at_ q hq3) A c v CE102.out.C CE102.out.cap (by have := HP.out.1.len; omega)).mono ?_
        rintro e wa ⟨rfl, hwa, hga⟩
        have HBA := Aside0.mk (below_watch HB102.out hga (CE102.out.ge q hq3))
        obtain ⟨G', lf', sw', vv', ag', HEN, HS1, HLA⟩ : ∃ G' lf' sw' vv' ag', Aside0 (EW W wa gp11 gl11 gt t G' lf' lf' sw' vv' ag' la A c v) ∧ Aside0 (SI la vv') ∧ Aside0 ((∀ i, i < 3 → 0 ≤ lf' i ∧ lf' i ≤ ((k + 1 : Nat) : Int)) ∧ (∀ i, i < 3 → 0 ≤ ag' i ∧ ag' i ≤ 1000)) := ⟨_, _, _, _, _, ⟨CE102.out.watch hq3 hwa hga⟩, ⟨HP.out.2.1.set q HP.out.1.si⟩, ⟨fun i hi => ⟨(HP.out.2.2.1 i hi).1, by have := (HP.out.2.2.1 i hi).2; omega⟩, upd_all (P := fun a => 0 ≤ a ∧ a ≤ 1000) HP.out.2.2.2 (saw_age _ _ _ _ (HP.out.2.2.2 q hq3))⟩⟩
        clear hwa hga
        have HVI := Aside0.mk HP.out.1
        rcases HP.out.1.stay with h0 | hR
        · have HC := Aside0.mk h0
          have HVN := Aside0.mk (T0.next (k := k) h0)
          obtain ⟨hv0, hl0⟩ := h0
          subst hv0
          go_wp2_with fail
          have htk := take_v A c ([] : List Int) _ HEN.out.C HEN.out.cap
          rw [show leaseOf ([] : List Int) = (0, 0, 0, 0) from rfl, show okL ([] : List Int) = false by decide] at htk
          refine htk.mono ?_
          rintro e wt ⟨rfl, hbt⟩
          clear htk
          have HET := Aside0.mk ((HEN.out.below hbt).below (below_alloc (Below.refl _ _) (.cells #[.int .i64 0, .int .i64 0, .int .i64 0, .int .i64 0] 24)))
          have HBT := Aside0.mk (below_alloc (below_step HBA.out hbt) (.cells #[.int .i64 0, .int .i64 0, .int .i64 0, .int .i64 0] 24))
          clear hbt
          go_wp2_with fail
          go_roundw
          case rel => exact ⟨k + 1, A, c, [], G', lf', sw', vv', ag', la, by omega, by go_num, rfl, HET, ⟨⟨HVN.out, HS1.out, HLA.out.1, HLA.out.2⟩⟩, HBT⟩
          case measure => simp [intOf]; omega
        · have HC := Aside0.mk hR
          have HVN := Aside0.mk (hR.next HP.out.1)
          have HS2 : Aside0 (SI (leaseOf v) vv') := ⟨HS1.out.up (Int.le_of_eq hR.2.1.symm)⟩
          clear hR
          go_wp2_with fail
          have htk := take_v A c v _ HEN.out.C HEN.out.cap
          have hok := HC.out.1
          obtain ⟨l, hl⟩ : ∃ l, leaseOf v = l := ⟨_, rfl⟩
          have HLL := Aside0.mk hl
          rw [hok, hl] at htk
          clear hok
          refine htk.mono ?_
          rintro e wt ⟨rfl, hbt⟩
          clear htk
          have HET := Aside0.mk (HEN.out.below hbt)
          have HB342 := Aside0.mk (below_step HBA.out hbt)
          clear hbt
          have HLB := Aside0.mk (HVN.out.bounds)
          rw [hl] at HLB
          have HBD := Aside0.mk (HVI.out.bounds)
          have HPT := Aside0.mk (ok_parts HC.out.1)
          rw [hl] at HPT
          obtain ⟨_, q1, q2, q3, q4, q5⟩ := HC.out
          rw [hl] at q1 q2 q3 q4 q5
          have c1 : (l.1 == la.1) = true := beq_iff_eq.2 q1
          have c2 : (l.2.1 == la.2.1) = true := beq_iff_eq.2 q2
          have c3 : (l.2.2.1 == la.2.2.1) = true := beq_iff_eq.2 q3
          have c4 : decide (la.2.2.2 ≤ l.2.2.2) = true := decide_eq_true q4
          have c5 : wrap64 (la.2.2.2 + 1) = la.2.2.2 + 1 := by have := HBD.out; unfold wrap64; omega
          have c6 : decide (l.2.2.2 ≤ la.2.2.2 + 1) = true := decide_eq_true q5
          have c7 : wrap64 (la.1 + 1) = la.1 + 1 := by have := HBD.out; unfold wrap64; omega
          have c8 : (l.1 == la.1 + 1) = false := beq_eq_false_iff_ne.2 (by omega)
          clear q1 q2 q3 q4 q5
          clear hl
          go_upto_region 36 with fail
          obtain ⟨W343, hw343⟩ : ∃ x : World, x = wt.alloc (.cells #[.int .i64 l.1, .int .i64 l.2.1, .int .i64 l.2.2.1, .int .i64 l.2.2.2] 24) := ⟨_, rfl⟩
          have hbs343 : Below wt.heap.size wt W343 := by rw [hw343]; repeat (first | exact Below.refl _ _ | refine below_alloc ?_ _ | refine below_drew ?_)
          obtain ⟨gn343, hgn343⟩ : ∃ x, x = wt.heap.size := ⟨_, rfl⟩
          have HGN : Aside0 (wt.heap.size ≤ gn343) := ⟨by rw [hgn343]; exact Nat.le_refl _⟩
          have GSn343 : Aside0 (W.heap.size ≤ gn343) := ⟨by rw [hgn343]; have := HB342.out.size; omega⟩
          have Bn343 : Aside0 (W343.heap[gn343]? = some (.cells #[.int .i64 l.1, .int .i64 l.2.1, .int .i64 l.2.2.1, .int .i64 l.2.2.2] 24 (0, 0))) := ⟨by rw [hw343, hgn343]; exact blk_new _ _⟩
          rw [← hw343]
          rw [← hgn343]
          clear hw343 hgn343
          have HB344 := Aside0.mk (below_step HB342.out hbs343)
          have CE344 := Aside0.mk (EW.below HET.out hbs343)
          clear hbs343
          have zn345_0 : W343.cell? ⟨gn343, 0, none⟩ = some (.int .i64 l.1) := (blk_cell Bn343.out 0).trans rfl
          have zn345_1 : W343.cell? ⟨gn343, 1, none⟩ = some (.int .i64 l.2.1) := (blk_cell Bn343.out 1).trans rfl
          have zn345_2 : W343.cell? ⟨gn343, 2, none⟩ = some (.int .i64 l.2.2.1) := (blk_cell Bn343.out 2).trans rfl
          have zn345_3 : W343.cell? ⟨gn343, 3, none⟩ = some (.int .i64 l.2.2.2) := (blk_cell Bn343.out 3).trans rfl
          have zt0 : W343.cell? ⟨gt, 0, none⟩ = some (.int .i64 la.1) := (blk_cell CE344.out.2.2.1 0).trans rfl
          have zf0 := blk_frozen CE344.out.2.2.1 0
          have zt1 : W343.cell? ⟨gt, 1, none⟩ = some (.int .i64 la.2.1) := (blk_cell CE344.out.2.2.1 1).trans rfl
          have zf1 := blk_frozen CE344.out.2.2.1 1
          have zt2 : W343.cell? ⟨gt, 2, none⟩ = some (.int .i64 la.2.2.1) := (blk_cell CE344.out.2.2.1 2).trans rfl
          have zf2 := blk_frozen CE344.out.2.2.1 2
          have zt3 : W343.cell? ⟨gt, 3, none⟩ = some (.int .i64 la.2.2.2) := (blk_cell CE344.out.2.2.1 3).trans rfl
          have zf3 := blk_frozen CE344.out.2.2.1 3
          go_upto_region 41 with fail
          clear zn345_0 zn345_1 zn345_2 zn345_3
          clear zt0 zt1 zt2 zt3 zf0 zf1 zf2 zf3 c1 c2 c3 c4 c5 c6 c7 c8
          obtain ⟨wl, hwl⟩ : ∃ x : World, x = ((((W343.setCell ⟨gt, 0, none⟩ (.int .i64 l.1)).setCell ⟨gt, 1, none⟩ (.int .i64 l.2.1)).setCell ⟨gt, 2, none⟩ (.int .i64 l.2.2.1)).setCell ⟨gt, 3, none⟩ (.int .i64 l.2.2.2)) := ⟨_, rfl⟩
          have HEL := Aside0.mk (EW.last CE344.out l)
          have HNE : gn343 ≠ gt := fun e => by have h1 := blk_lt HET.out.2.2.1; have h2 := HGN.out; rw [e] at h2; omega
          have HBL : Below W.heap.size W wl := by rw [hwl]; exact below_set (below_set (below_set (below_set HB344.out GT.out) GT.out) GT.out) GT.out
          have HNL : wl.heap[gn343]? = some (.cells #[.int .i64 l.1, .int .i64 l.2.1, .int .i64 l.2.2.1, .int .i64 l.2.2.2] 24 (0, 0)) := by rw [hwl]; exact blk_grown Bn343.out ((((grown_set _ _ _ _).trans (grown_set _ _ _ _)).trans (grown_set _ _ _ _)).trans (grown_set _ _ _ _)) (fun e => HNE (by injection e))
          rw [← hwl] at HEL
          rw [← hwl]
          clear hwl HNE
          have HBL := Aside0.mk HBL
          have HNL := Aside0.mk HNL
          have zp0 := EW.ptr HEL.out 0 (by omega)
          have zp1 := EW.ptr HEL.out 1 (by omega)
          have zp2 := EW.ptr HEL.out 2 (by omega)
          go_wp2_with fail
          clear zp0 zp1 zp2
          go_loopw [174] (fun v174 w' => ∃ i : Nat, i ≤ 3 ∧ v174 = .int .i64 i ∧ Aside0 (EW W w' gp11 gl11 gt t G' lf' lf' sw' vv' ag' l A c v) ∧ Aside0 (w'.heap[gn343]? = some (.cells #[.int .i64 l.1, .int .i64 l.2.1, .int .i64 l.2.2.1, .int .i64 l.2.2.2] 24 (0, 0))) ∧ Aside0 (Below W.heap.size W w')) (fun v _ => 3 - (intOf v).toNat)
          case atStart => exact ⟨0, by omega, rfl, HEL, HNL, HBL⟩
          case round =>
            clear HEL HNL HBL
            obtain ⟨i, hi, rfl, HE, HN, HW⟩ := hrel
            have HSL : Aside0 (SI l vv') := ⟨by have h := HS2.out; rw [HLL.out] at h; exact h⟩
            have HZ := Aside0.mk (HVN.out.bounds.1)
            rw [HLL.out] at HZ
            rcases (by omega : i = 0 ∨ i = 1 ∨ i = 2 ∨ i = 3) with rfl | rfl | rfl | rfl
            · obtain ⟨nn, hnn⟩ : ∃ x, leadsN (0 : Nat) (lf' 0) (vv' 0) = x := ⟨_, rfl⟩
              obtain ⟨bb, hbb⟩ : ∃ x, leadsB (0 : Nat) (lf' 0) (vv' 0) = x := ⟨_, rfl⟩
              have hdec : decide (l.1 < nn) = false := by rw [← hnn]; exact HSL.out.leads 0 (by omega) _ _ HZ.out
              have hld := leads_c _ _ _ _ _ _ _ _ (HE.out.at_ 0 (by omega))
              rw [hnn, hbb] at hld
              clear hnn hbb
              have hix : ∀ W, (Instr.index 56 (.agg #[pt (G' 0), pt (G' 1), pt (G' 2)]) (.int .i64 0)).run Try.prog W = .ok (pt (G' 0)) W := fun _ => by kernel_rfl
              go_wp2_with fail
              clear hix
              refine hld.mono ?_
              rintro e wx ⟨rfl, hbx⟩
              have HEX := Aside0.mk (HE.out.below hbx)
              have HNX : Aside0 (wx.heap[gn343]? = some (.cells #[.int .i64 l.1, .int .i64 l.2.1, .int .i64 l.2.2.1, .int .i64 l.2.2.2] 24 (0, 0))) := ⟨blk_below HN.out hbx⟩
              have HBX := Aside0.mk (below_step HW.out hbx)
              clear hld hbx
              have zn : wx.cell? ⟨gn343, 0, none⟩ = some (.int .i64 l.1) := (blk_cell HNX.out 0).trans rfl
              cases bb
              · go_wp2_with fail
                go_roundw
                case rel => exact ⟨1, by omega, by go_num, HEX, HNX, HBX⟩
                case measure => simp [intOf]
              · go_wp2_with fail
                go_roundw
                case rel => exact ⟨1, by omega, by go_num, HEX, HNX, HBX⟩
                case measure => simp [intOf]
            · obtain ⟨nn, hnn⟩ : ∃ x, leadsN (1 : Nat) (lf' 1) (vv' 1) = x := ⟨_, rfl⟩
              obtain ⟨bb, hbb⟩ : ∃ x, leadsB (1 : Nat) (lf' 1) (vv' 1) = x := ⟨_, rfl⟩
              have hdec : decide (l.1 < nn) = false := by rw [← hnn]; exact HSL.out.leads 1 (by omega) _ _ HZ.out
              have hld := leads_c _ _ _ _ _ _ _ _ (HE.out.at_ 1 (by omega))
              rw [hnn, hbb] at hld
              clear hnn hbb
              have hix : ∀ W, (Instr.index 56 (.agg #[pt (G' 0), pt (G' 1), pt (G' 2)]) (.int .i64 1)).run Try.prog W = .ok (pt (G' 1)) W := fun _ => by kernel_rfl
              go_wp2_with fail
              clear hix
              refine hld.mono ?_
              rintro e wx ⟨rfl, hbx⟩
              have HEX := Aside0.mk (HE.out.below hbx)
              have HNX : Aside0 (wx.heap[gn343]? = some (.cells #[.int .i64 l.1, .int .i64 l.2.1, .int .i64 l.2.2.1, .int .i64 l.2.2.2] 24 (0, 0))) := ⟨blk_below HN.out hbx⟩
              have HBX := Aside0.mk (below_step HW.out hbx)
              clear hld hbx
              have zn : wx.cell? ⟨gn343, 0, none⟩ = some (.int .i64 l.1) := (blk_cell HNX.out 0).trans rfl
              cases bb
              · go_wp2_with fail
                go_roundw
                case rel => exact ⟨2, by omega, by go_num, HEX, HNX, HBX⟩
                case measure => simp [intOf]
              · go_wp2_with fail
                go_roundw
                case rel => exact ⟨2, by omega, by go_num, HEX, HNX, HBX⟩
                case measure => simp [intOf]
            · obtain ⟨nn, hnn⟩ : ∃ x, leadsN (2 : Nat) (lf' 2) (vv' 2) = x := ⟨_, rfl⟩
              obtain ⟨bb, hbb⟩ : ∃ x, leadsB (2 : Nat) (lf' 2) (vv' 2) = x := ⟨_, rfl⟩
              have hdec : decide (l.1 < nn) = false := by rw [← hnn]; exact HSL.out.leads 2 (by omega) _ _ HZ.out
              have hld := leads_c _ _ _ _ _ _ _ _ (HE.out.at_ 2 (by omega))
              rw [hnn, hbb] at hld
              clear hnn hbb
              have hix : ∀ W, (Instr.index 56 (.agg #[pt (G' 0), pt (G' 1), pt (G' 2)]) (.int .i64 2)).run Try.prog W = .ok (pt (G' 2)) W := fun _ => by kernel_rfl
              go_wp2_with fail
              clear hix
              refine hld.mono ?_
              rintro e wx ⟨rfl, hbx⟩
              have HEX := Aside0.mk (HE.out.below hbx)
              have HNX : Aside0 (wx.heap[gn343]? = some (.cells #[.int .i64 l.1, .int .i64 l.2.1, .int .i64 l.2.2.1, .int .i64 l.2.2.2] 24 (0, 0))) := ⟨blk_below HN.out hbx⟩
              have HBX := Aside0.mk (below_step HW.out hbx)
              clear hld hbx
              have zn : wx.cell? ⟨gn343, 0, none⟩ = some (.int .i64 l.1) := (blk_cell HNX.out 0).trans rfl
              cases bb
              · go_wp2_with fail
                go_roundw
                case rel => exact ⟨3, by omega, by go_num, HEX, HNX, HBX⟩
                case measure => simp [intOf]
              · go_wp2_with fail
                go_roundw
                case rel => exact ⟨3, by omega, by go_num, HEX, HNX, HBX⟩
                case measure => simp [intOf]
            · go_wp2_with fail
              go_roundw
              case rel => exact ⟨k + 1, A, c, v, G', lf', sw', vv', ag', l, by omega, by go_num, rfl, HE, ⟨⟨by have h := HVN.out; rw [HLL.out] at h; exact h, HSL.out, HLA.out.1, HLA.out.2⟩⟩, HW⟩
              case measure => simp [intOf]; omega
      have hk1 : (kd == 1) = false := beq_eq_false_iff_ne.2 h1
      by_cases h2 : kd = 2
      case pos =>
        subst h2
        go_wp2_with fail
        clear zo103_0 zo103_1 hzp dq
        obtain ⟨v', er, hdo, hst⟩ := do_step HP.out.1 HP.out.2.1 hq3 (lf q) t (sw q) (ag q) ⟨(HP.out.2.2.1 q hq3).1, by have := (HP.out.2.2.1 q hq3).2; omega⟩ (by omega)
        have hwc := want_c _ (G q) (q : Int) (lf q) t (sw q) (vv q) (ag q) (CE102.out.at_ q hq3)
        obtain ⟨ch, hch⟩ : ∃ ch, wantOf (q : Int) (lf q) t (sw q) (vv q) (ag q) = ch := ⟨_, rfl⟩
        rw [hch] at hdo hwc
        have HDO := Aside0.mk hdo
        have HST := Aside0.mk hst
        clear hdo hst hch
        refine hwc.mono ?_
        rintro e ww ⟨B, d, B', d', rfl, hRa, hRb, hbw⟩
        have HRA := Aside0.mk hRa
        have HRB := Aside0.mk hRb
        clear hwc hRa hRb
        have HB104 := Aside0.mk (below_step HB102.out hbw)
        have CE104 := Aside0.mk (EW.below CE102.out hbw)
        clear hbw
        go_wp2_with fail
        refine (do_c v' er ch.1 B d ch.2.1 B' d' ch.2.2 A c v _ (Kd.R_reads' HRA.out).2.2 (Kd.R_reads' HRA.out).2.1 (Kd.R_reads' HRB.out).2.2 (Kd.R_reads' HRB.out).2.1 CE104.out.C CE104.out.cap HDO.out).mono ?_
        rintro e wd ⟨B4, d4, rfl, hR4, hbd⟩
        have HR4 := Aside0.mk (Kd.R_lower hR4 HB104.out.size)
        clear hR4
        have HB105 := Aside0.mk (below_step HB104.out hbd)
        have CE105 := Aside0.mk (EW.below CE104.out hbd)
        clear hbd
        have HEV := Aside0.mk (CE105.out.value HR4.out)
        have HVI := Aside0.mk HP.out.1
        have HLN : Aside0 (v'.length ≤ 4) := ⟨by have h := HST.out; have h0 : (T0 la v' ∨ TR la v' ∨ TF la v') → v'.length ≤ 4 := (fun h => by rcases h with h | h | h; (rw [h.1]; simp); (have := (ok_parts h.1).2.2.2.2; omega); (have := (ok_parts h.1).2.2.2.2; omega)); exact h.elim (fun h => h0 h.2) (fun h => h0 (h.2.imp id .inl))⟩
        rcases HST.out with ⟨her, hT⟩ | ⟨her, hT⟩
        · rcases hT with hT | hT | hT
          · as_aux_lemma =>
              rw [her, errW_none]
              go_wp2_with fail
              refine (saw_c _ (G q) (q : Int) (lf q) t (sw q) (vv q) (ag q) (HEV.out.at_ q hq3) B4 d4 v' (Kd.R_reads' HR4.out).2.2 (Kd.R_reads' HR4.out).2.1 (by have := HLN.out; omega)).mono ?_
              rintro e wa ⟨rfl, hwa, hga⟩
              have HBA := Aside0.mk (below_watch HB105.out hga (HEV.out.ge q hq3))
              obtain ⟨G', lf', sw', vv', ag', HEN, HS1, HLA⟩ : ∃ G' lf' sw' vv' ag', Aside0 (EW W wa gp11 gl11 gt t G' lf' lf' sw' vv' ag' la B4 d4 v') ∧ Aside0 (SI la vv') ∧ Aside0 ((∀ i, i < 3 → 0 ≤ lf' i ∧ lf' i ≤ ((k + 1 : Nat) : Int)) ∧ (∀ i, i < 3 → 0 ≤ ag' i ∧ ag' i ≤ 1000)) := ⟨_, _, _, _, _, ⟨HEV.out.watch hq3 hwa hga⟩, ⟨HP.out.2.1.set q (.inl hT.1)⟩, ⟨fun i hi => ⟨(HP.out.2.2.1 i hi).1, by have := (HP.out.2.2.1 i hi).2; omega⟩, upd_all (P := fun a => 0 ≤ a ∧ a ≤ 1000) HP.out.2.2.2 (saw_age _ _ _ _ (HP.out.2.2.2 q hq3))⟩⟩
              have HC := Aside0.mk hT
              have HVN := Aside0.mk (T0.next (k := k) hT)
              clear hwa hga HDO HST HEV HR4
              obtain ⟨hv0, hl0⟩ := hT
              subst hv0
              go_wp2_with fail
              have htk := take_v B4 d4 ([] : List Int) _ HEN.out.C HEN.out.cap
              rw [show leaseOf ([] : List Int) = (0, 0, 0, 0) from rfl, show okL ([] : List Int) = false by decide] at htk
              refine htk.mono ?_
              rintro e wt ⟨rfl, hbt⟩
              clear htk
              have HET := Aside0.mk ((HEN.out.below hbt).below (below_alloc (Below.refl _ _) (.cells #[.int .i64 0, .int .i64 0, .int .i64 0, .int .i64 0] 24)))
              have HBT := Aside0.mk (below_alloc (below_step HBA.out hbt) (.cells #[.int .i64 0, .int .i64 0, .int .i64 0, .int .i64 0] 24))
              clear hbt
              go_wp2_with fail
              go_roundw
              case rel => exact ⟨k + 1, B4, d4, [], G', lf', sw', vv', ag', la, by omega, by go_num, rfl, HET, ⟨⟨HVN.out, HS1.out, HLA.out.1, HLA.out.2⟩⟩, HBT⟩
              case measure => simp [intOf]; omega
          · as_aux_lemma =>
              rw [her, errW_none]
              go_wp2_with fail
              refine (saw_c _ (G q) (q : Int) (lf q) t (sw q) (vv q) (ag q) (HEV.out.at_ q hq3) B4 d4 v' (Kd.R_reads' HR4.out).2.2 (Kd.R_reads' HR4.out).2.1 (by have := HLN.out; omega)).mono ?_
              rintro e wa ⟨rfl, hwa, hga⟩
              have HBA := Aside0.mk (below_watch HB105.out hga (HEV.out.ge q hq3))
              obtain ⟨G', lf', sw', vv', ag', HEN, HS1, HLA⟩ : ∃ G' lf' sw' vv' ag', Aside0 (EW W wa gp11 gl11 gt t G' lf' lf' sw' vv' ag' la B4 d4 v') ∧ Aside0 (SI (leaseOf v') vv') ∧ Aside0 ((∀ i, i < 3 → 0 ≤ lf' i ∧ lf' i ≤ ((k + 1 : Nat) : Int)) ∧ (∀ i, i < 3 → 0 ≤ ag' i ∧ ag' i ≤ 1000)) := ⟨_, _, _, _, _, ⟨HEV.out.watch hq3 hwa hga⟩, ⟨(HP.out.2.1.up (Int.le_of_eq hT.2.1.symm)).set q (.inr ⟨hT.1, Int.le_refl _⟩)⟩, ⟨fun i hi => ⟨(HP.out.2.2.1 i hi).1, by have := (HP.out.2.2.1 i hi).2; omega⟩, upd_all (P := fun a => 0 ≤ a ∧ a ≤ 1000) HP.out.2.2.2 (saw_age _ _ _ _ (HP.out.2.2.2 q hq3))⟩⟩
              have HC := Aside0.mk hT
              have HVN := Aside0.mk (hT.next HP.out.1)
              clear hwa hga HDO HST HEV HR4
              clear hT
              go_wp2_with fail
              have htk := take_v B4 d4 v' _ HEN.out.C HEN.out.cap
              have hok := HC.out.1
              obtain ⟨l, hl⟩ : ∃ l, leaseOf v' = l := ⟨_, rfl⟩
              have HLL := Aside0.mk hl
              rw [hok, hl] at htk
              clear hok
              refine htk.mono ?_
              rintro e wt ⟨rfl, hbt⟩
              clear htk
              have HET := Aside0.mk (HEN.out.below hbt)
              have HB402 := Aside0.mk (below_step HBA.out hbt)
              clear hbt
              have HLB := Aside0.mk (HVN.out.bounds)
              rw [hl] at HLB
              have HBD := Aside0.mk (HVI.out.bounds)
              have HPT := Aside0.mk (ok_parts HC.out.1)
              rw [hl] at HPT
              obtain ⟨_, q1, q2, q3, q4, q5⟩ := HC.out
              rw [hl] at q1 q2 q3 q4 q5
              have c1 : (l.1 == la.1) = true := beq_iff_eq.2 q1
              have c2 : (l.2.1 == la.2.1) = true := beq_iff_eq.2 q2
              have c3 : (l.2.2.1 == la.2.2.1) = true := beq_iff_eq.2 q3
              have c4 : decide (la.2.2.2 ≤ l.2.2.2) = true := decide_eq_true q4
              have c5 : wrap64 (la.2.2.2 + 1) = la.2.2.2 + 1 := by have := HBD.out; unfold wrap64; omega
              have c6 : decide (l.2.2.2 ≤ la.2.2.2 + 1) = true := decide_eq_true q5
              have c7 : wrap64 (la.1 + 1) = la.1 + 1 := by have := HBD.out; unfold wrap64; omega
              have c8 : (l.1 == la.1 + 1) = false := beq_eq_false_iff_ne.2 (by omega)
              clear q1 q2 q3 q4 q5
              clear hl
              go_upto_region 36 with fail
              obtain ⟨W403, hw403⟩ : ∃ x : World, x = wt.alloc (.cells #[.int .i64 l.1, .int .i64 l.2.1, .int .i64 l.2.2.1, .int .i64 l.2.2.2] 24) := ⟨_, rfl⟩
              have hbs403 : Below wt.heap.size wt W403 := by rw [hw403]; repeat (first | exact Below.refl _ _ | refine below_alloc ?_ _ | refine below_drew ?_)
              obtain ⟨gn403, hgn403⟩ : ∃ x, x = wt.heap.size := ⟨_, rfl⟩
              have HGN : Aside0 (wt.heap.size ≤ gn403) := ⟨by rw [hgn403]; exact Nat.le_refl _⟩
              have GSn403 : Aside0 (W.heap.size ≤ gn403) := ⟨by rw [hgn403]; have := HB402.out.size; omega⟩
              have Bn403 : Aside0 (W403.heap[gn403]? = some (.cells #[.int .i64 l.1, .int .i64 l.2.1, .int .i64 l.2.2.1, .int .i64 l.2.2.2] 24 (0, 0))) := ⟨by rw [hw403, hgn403]; exact blk_new _ _⟩
              rw [← hw403]
              rw [← hgn403]
              clear hw403 hgn403
              have HB404 := Aside0.mk (below_step HB402.out hbs403)
              have CE404 := Aside0.mk (EW.below HET.out hbs403)
              clear hbs403
              have zn405_0 : W403.cell? ⟨gn403, 0, none⟩ = some (.int .i64 l.1) := (blk_cell Bn403.out 0).trans rfl
              have zn405_1 : W403.cell? ⟨gn403, 1, none⟩ = some (.int .i64 l.2.1) := (blk_cell Bn403.out 1).trans rfl
              have zn405_2 : W403.cell? ⟨gn403, 2, none⟩ = some (.int .i64 l.2.2.1) := (blk_cell Bn403.out 2).trans rfl
              have zn405_3 : W403.cell? ⟨gn403, 3, none⟩ = some (.int .i64 l.2.2.2) := (blk_cell Bn403.out 3).trans rfl
              have zt0 : W403.cell? ⟨gt, 0, none⟩ = some (.int .i64 la.1) := (blk_cell CE404.out.2.2.1 0).trans rfl
              have zf0 := blk_frozen CE404.out.2.2.1 0
              have zt1 : W403.cell? ⟨gt, 1, none⟩ = some (.int .i64 la.2.1) := (blk_cell CE404.out.2.2.1 1).trans rfl
              have zf1 := blk_frozen CE404.out.2.2.1 1
              have zt2 : W403.cell? ⟨gt, 2, none⟩ = some (.int .i64 la.2.2.1) := (blk_cell CE404.out.2.2.1 2).trans rfl
              have zf2 := blk_frozen CE404.out.2.2.1 2
              have zt3 : W403.cell? ⟨gt, 3, none⟩ = some (.int .i64 la.2.2.2) := (blk_cell CE404.out.2.2.1 3).trans rfl
              have zf3 := blk_frozen CE404.out.2.2.1 3
              go_upto_region 41 with fail
              clear zn405_0 zn405_1 zn405_2 zn405_3
              clear zt0 zt1 zt2 zt3 zf0 zf1 zf2 zf3 c1 c2 c3 c4 c5 c6 c7 c8
              obtain ⟨wl, hwl⟩ : ∃ x : World, x = ((((W403.setCell ⟨gt, 0, none⟩ (.int .i64 l.1)).setCell ⟨gt, 1, none⟩ (.int .i64 l.2.1)).setCell ⟨gt, 2, none⟩ (.int .i64 l.2.2.1)).setCell ⟨gt, 3, none⟩ (.int .i64 l.2.2.2)) := ⟨_, rfl⟩
              have HEL := Aside0.mk (EW.last CE404.out l)
              have HNE : gn403 ≠ gt := fun e => by have h1 := blk_lt HET.out.2.2.1; have h2 := HGN.out; rw [e] at h2; omega
              have HBL : Below W.heap.size W wl := by rw [hwl]; exact below_set (below_set (below_set (below_set HB404.out GT.out) GT.out) GT.out) GT.out
              have HNL : wl.heap[gn403]? = some (.cells #[.int .i64 l.1, .int .i64 l.2.1, .int .i64 l.2.2.1, .int .i64 l.2.2.2] 24 (0, 0)) := by rw [hwl]; exact blk_grown Bn403.out ((((grown_set _ _ _ _).trans (grown_set _ _ _ _)).trans (grown_set _ _ _ _)).trans (grown_set _ _ _ _)) (fun e => HNE (by injection e))
              rw [← hwl] at HEL
              rw [← hwl]
              clear hwl HNE
              have HBL := Aside0.mk HBL
              have HNL := Aside0.mk HNL
              have zp0 := EW.ptr HEL.out 0 (by omega)
              have zp1 := EW.ptr HEL.out 1 (by omega)
              have zp2 := EW.ptr HEL.out 2 (by omega)
              go_wp2_with fail
              clear zp0 zp1 zp2
              go_loopw [174] (fun v174 w' => ∃ i : Nat, i ≤ 3 ∧ v174 = .int .i64 i ∧ Aside0 (EW W w' gp11 gl11 gt t G' lf' lf' sw' vv' ag' l B4 d4 v') ∧ Aside0 (w'.heap[gn403]? = some (.cells #[.int .i64 l.1, .int .i64 l.2.1, .int .i64 l.2.2.1, .int .i64 l.2.2.2] 24 (0, 0))) ∧ Aside0 (Below W.heap.size W w')) (fun v _ => 3 - (intOf v).toNat)
              case atStart => exact ⟨0, by omega, rfl, HEL, HNL, HBL⟩
              case round =>
                clear HEL HNL HBL
                obtain ⟨i, hi, rfl, HE, HN, HW⟩ := hrel
                have HSL : Aside0 (SI l vv') := ⟨by have h := HS1.out; rw [HLL.out] at h; exact h⟩
                have HZ := Aside0.mk (HVN.out.bounds.1)
                rw [HLL.out] at HZ
                rcases (by omega : i = 0 ∨ i = 1 ∨ i = 2 ∨ i = 3) with rfl | rfl | rfl | rfl
                · obtain ⟨nn, hnn⟩ : ∃ x, leadsN (0 : Nat) (lf' 0) (vv' 0) = x := ⟨_, rfl⟩
                  obtain ⟨bb, hbb⟩ : ∃ x, leadsB (0 : Nat) (lf' 0) (vv' 0) = x := ⟨_, rfl⟩
                  have hdec : decide (l.1 < nn) = false := by rw [← hnn]; exact HSL.out.leads 0 (by omega) _ _ HZ.out
                  have hld := leads_c _ _ _ _ _ _ _ _ (HE.out.at_ 0 (by omega))
                  rw [hnn, hbb] at hld
                  clear hnn hbb
                  have hix : ∀ W, (Instr.index 56 (.agg #[pt (G' 0), pt (G' 1), pt (G' 2)]) (.int .i64 0)).run Try.prog W = .ok (pt (G' 0)) W := fun _ => by kernel_rfl
                  go_wp2_with fail
                  clear hix
                  refine hld.mono ?_
                  rintro e wx ⟨rfl, hbx⟩
                  have HEX := Aside0.mk (HE.out.below hbx)
                  have HNX : Aside0 (wx.heap[gn403]? = some (.cells #[.int .i64 l.1, .int .i64 l.2.1, .int .i64 l.2.2.1, .int .i64 l.2.2.2] 24 (0, 0))) := ⟨blk_below HN.out hbx⟩
                  have HBX := Aside0.mk (below_step HW.out hbx)
                  clear hld hbx
                  have zn : wx.cell? ⟨gn403, 0, none⟩ = some (.int .i64 l.1) := (blk_cell HNX.out 0).trans rfl
                  cases bb
                  · go_wp2_with fail
                    go_roundw
                    case rel => exact ⟨1, by omega, by go_num, HEX, HNX, HBX⟩
                    case measure => simp [intOf]
                  · go_wp2_with fail
                    go_roundw
                    case rel => exact ⟨1, by omega, by go_num, HEX, HNX, HBX⟩
                    case measure => simp [intOf]
                · obtain ⟨nn, hnn⟩ : ∃ x, leadsN (1 : Nat) (lf' 1) (vv' 1) = x := ⟨_, rfl⟩
                  obtain ⟨bb, hbb⟩ : ∃ x, leadsB (1 : Nat) (lf' 1) (vv' 1) = x := ⟨_, rfl⟩
                  have hdec : decide (l.1 < nn) = false := by rw [← hnn]; exact HSL.out.leads 1 (by omega) _ _ HZ.out
                  have hld := leads_c _ _ _ _ _ _ _ _ (HE.out.at_ 1 (by omega))
                  rw [hnn, hbb] at hld
                  clear hnn hbb
                  have hix : ∀ W, (Instr.index 56 (.agg #[pt (G' 0), pt (G' 1), pt (G' 2)]) (.int .i64 1)).run Try.prog W = .ok (pt (G' 1)) W := fun _ => by kernel_rfl
                  go_wp2_with fail
                  clear hix
                  refine hld.mono ?_
                  rintro e wx ⟨rfl, hbx⟩
                  have HEX := Aside0.mk (HE.out.below hbx)
                  have HNX : Aside0 (wx.heap[gn403]? = some (.cells #[.int .i64 l.1, .int .i64 l.2.1, .int .i64 l.2.2.1, .int .i64 l.2.2.2] 24 (0, 0))) := ⟨blk_below HN.out hbx⟩
                  have HBX := Aside0.mk (below_step HW.out hbx)
                  clear hld hbx
                  have zn : wx.cell? ⟨gn403, 0, none⟩ = some (.int .i64 l.1) := (blk_cell HNX.out 0).trans rfl
                  cases bb
                  · go_wp2_with fail
                    go_roundw
                    case rel => exact ⟨2, by omega, by go_num, HEX, HNX, HBX⟩
                    case measure => simp [intOf]
                  · go_wp2_with fail
                    go_roundw
                    case rel => exact ⟨2, by omega, by go_num, HEX, HNX, HBX⟩
                    case measure => simp [intOf]
                · obtain ⟨nn, hnn⟩ : ∃ x, leadsN (2 : Nat) (lf' 2) (vv' 2) = x := ⟨_, rfl⟩
                  obtain ⟨bb, hbb⟩ : ∃ x, leadsB (2 : Nat) (lf' 2) (vv' 2) = x := ⟨_, rfl⟩
                  have hdec : decide (l.1 < nn) = false := by rw [← hnn]; exact HSL.out.leads 2 (by omega) _ _ HZ.out
                  have hld := leads_c _ _ _ _ _ _ _ _ (HE.out.at_ 2 (by omega))
                  rw [hnn, hbb] at hld
                  clear hnn hbb
                  have hix : ∀ W, (Instr.index 56 (.agg #[pt (G' 0), pt (G' 1), pt (G' 2)]) (.int .i64 2)).run Try.prog W = .ok (pt (G' 2)) W := fun _ => by kernel_rfl
                  go_wp2_with fail
                  clear hix
                  refine hld.mono ?_
                  rintro e wx ⟨rfl, hbx⟩
                  have HEX := Aside0.mk (HE.out.below hbx)
                  have HNX : Aside0 (wx.heap[gn403]? = some (.cells #[.int .i64 l.1, .int .i64 l.2.1, .int .i64 l.2.2.1, .int .i64 l.2.2.2] 24 (0, 0))) := ⟨blk_below HN.out hbx⟩
                  have HBX := Aside0.mk (below_step HW.out hbx)
                  clear hld hbx
                  have zn : wx.cell? ⟨gn403, 0, none⟩ = some (.int .i64 l.1) := (blk_cell HNX.out 0).trans rfl
                  cases bb
                  · go_wp2_with fail
                    go_roundw
                    case rel => exact ⟨3, by omega, by go_num, HEX, HNX, HBX⟩
                    case measure => simp [intOf]
                  · go_wp2_with fail
                    go_roundw
                    case rel => exact ⟨3, by omega, by go_num, HEX, HNX, HBX⟩
                    case measure => simp [intOf]
                · go_wp2_with fail
                  go_roundw
                  case rel => exact ⟨k + 1, B4, d4, v', G', lf', sw', vv', ag', l, by omega, by go_num, rfl, HE, ⟨⟨by have h := HVN.out; rw [HLL.out] at h; exact h, HSL.out, HLA.out.1, HLA.out.2⟩⟩, HW⟩
                  case measure => simp [intOf]; omega
          · as_aux_lemma =>
              rw [her, errW_none]
              go_wp2_with fail
              refine (saw_c _ (G q) (q : Int) (lf q) t (sw q) (vv q) (ag q) (HEV.out.at_ q hq3) B4 d4 v' (Kd.R_reads' HR4.out).2.2 (Kd.R_reads' HR4.out).2.1 (by have := HLN.out; omega)).mono ?_
              rintro e wa ⟨rfl, hwa, hga⟩
              have HBA := Aside0.mk (below_watch HB105.out hga (HEV.out.ge q hq3))
              obtain ⟨G', lf', sw', vv', ag', HEN, HS1, HLA⟩ : ∃ G' lf' sw' vv' ag', Aside0 (EW W wa gp11 gl11 gt t G' lf' lf' sw' vv' ag' la B4 d4 v') ∧ Aside0 (SI (leaseOf v') vv') ∧ Aside0 ((∀ i, i < 3 → 0 ≤ lf' i ∧ lf' i ≤ ((k + 1 : Nat) : Int)) ∧ (∀ i, i < 3 → 0 ≤ ag' i ∧ ag' i ≤ 1000)) := ⟨_, _, _, _, _, ⟨HEV.out.watch hq3 hwa hga⟩, ⟨(HP.out.2.1.up (by have := hT.2.1; omega)).set q (.inr ⟨hT.1, Int.le_refl _⟩)⟩, ⟨fun i hi => ⟨(HP.out.2.2.1 i hi).1, by have := (HP.out.2.2.1 i hi).2; omega⟩, upd_all (P := fun a => 0 ≤ a ∧ a ≤ 1000) HP.out.2.2.2 (saw_age _ _ _ _ (HP.out.2.2.2 q hq3))⟩⟩
              have HC := Aside0.mk hT
              have HVN := Aside0.mk (hT.next HP.out.1)
              clear hwa hga HDO HST HEV HR4
              clear hT
              go_wp2_with fail
              have htk := take_v B4 d4 v' _ HEN.out.C HEN.out.cap
              have hok := HC.out.1
              obtain ⟨l, hl⟩ : ∃ l, leaseOf v' = l := ⟨_, rfl⟩
              have HLL := Aside0.mk hl
              rw [hok, hl] at htk
              clear hok
              refine htk.mono ?_
              rintro e wt ⟨rfl, hbt⟩
              clear htk
              have HET := Aside0.mk (HEN.out.below hbt)
              have HB402 := Aside0.mk (below_step HBA.out hbt)
              clear hbt
              have HLB := Aside0.mk (HVN.out.bounds)
              rw [hl] at HLB
              have HBD := Aside0.mk (HVI.out.bounds)
              have HPT := Aside0.mk (ok_parts HC.out.1)
              rw [hl] at HPT
              obtain ⟨_, q1, q2⟩ := HC.out
              rw [hl] at q1 q2
              have c1 : (l.1 == la.1) = false := beq_eq_false_iff_ne.2 (by omega)
              have c7 : wrap64 (la.1 + 1) = la.1 + 1 := by have := HBD.out; unfold wrap64; omega
              have c8 : (l.1 == la.1 + 1) = true := beq_iff_eq.2 q1
              have c9 : (l.2.2.2 == 0) = true := beq_iff_eq.2 q2
              clear q1 q2
              clear hl
              go_upto_region 36 with fail
              obtain ⟨W403, hw403⟩ : ∃ x : World, x = wt.alloc (.cells #[.int .i64 l.1, .int .i64 l.2.1, .int .i64 l.2.2.1, .int .i64 l.2.2.2] 24) := ⟨_, rfl⟩
              have hbs403 : Below wt.heap.size wt W403 := by rw [hw403]; repeat (first | exact Below.refl _ _ | refine below_alloc ?_ _ | refine below_drew ?_)
              obtain ⟨gn403, hgn403⟩ : ∃ x, x = wt.heap.size := ⟨_, rfl⟩
              have HGN : Aside0 (wt.heap.size ≤ gn403) := ⟨by rw [hgn403]; exact Nat.le_refl _⟩
              have GSn403 : Aside0 (W.heap.size ≤ gn403) := ⟨by rw [hgn403]; have := HB402.out.size; omega⟩
              have Bn403 : Aside0 (W403.heap[gn403]? = some (.cells #[.int .i64 l.1, .int .i64 l.2.1, .int .i64 l.2.2.1, .int .i64 l.2.2.2] 24 (0, 0))) := ⟨by rw [hw403, hgn403]; exact blk_new _ _⟩
              rw [← hw403]
              rw [← hgn403]
              clear hw403 hgn403
              have HB404 := Aside0.mk (below_step HB402.out hbs403)
              have CE404 := Aside0.mk (EW.below HET.out hbs403)
              clear hbs403
              have zn405_0 : W403.cell? ⟨gn403, 0, none⟩ = some (.int .i64 l.1) := (blk_cell Bn403.out 0).trans rfl
              have zn405_1 : W403.cell? ⟨gn403, 1, none⟩ = some (.int .i64 l.2.1) := (blk_cell Bn403.out 1).trans rfl
              have zn405_2 : W403.cell? ⟨gn403, 2, none⟩ = some (.int .i64 l.2.2.1) := (blk_cell Bn403.out 2).trans rfl
              have zn405_3 : W403.cell? ⟨gn403, 3, none⟩ = some (.int .i64 l.2.2.2) := (blk_cell Bn403.out 3).trans rfl
              have zt0 : W403.cell? ⟨gt, 0, none⟩ = some (.int .i64 la.1) := (blk_cell CE404.out.2.2.1 0).trans rfl
              have zf0 := blk_frozen CE404.out.2.2.1 0
              have zt1 : W403.cell? ⟨gt, 1, none⟩ = some (.int .i64 la.2.1) := (blk_cell CE404.out.2.2.1 1).trans rfl
              have zf1 := blk_frozen CE404.out.2.2.1 1
              have zt2 : W403.cell? ⟨gt, 2, none⟩ = some (.int .i64 la.2.2.1) := (blk_cell CE404.out.2.2.1 2).trans rfl
              have zf2 := blk_frozen CE404.out.2.2.1 2
              have zt3 : W403.cell? ⟨gt, 3, none⟩ = some (.int .i64 la.2.2.2) := (blk_cell CE404.out.2.2.1 3).trans rfl
              have zf3 := blk_frozen CE404.out.2.2.1 3
              go_upto_region 41 with fail
              clear zn405_0 zn405_1 zn405_2 zn405_3
              clear zt0 zt1 zt2 zt3 zf0 zf1 zf2 zf3 c1 c7 c8 c9
              obtain ⟨wl, hwl⟩ : ∃ x : World, x = ((((W403.setCell ⟨gt, 0, none⟩ (.int .i64 l.1)).setCell ⟨gt, 1, none⟩ (.int .i64 l.2.1)).setCell ⟨gt, 2, none⟩ (.int .i64 l.2.2.1)).setCell ⟨gt, 3, none⟩ (.int .i64 l.2.2.2)) := ⟨_, rfl⟩
              have HEL := Aside0.mk (EW.last CE404.out l)
              have HNE : gn403 ≠ gt := fun e => by have h1 := blk_lt HET.out.2.2.1; have h2 := HGN.out; rw [e] at h2; omega
              have HBL : Below W.heap.size W wl := by rw [hwl]; exact below_set (below_set (below_set (below_set HB404.out GT.out) GT.out) GT.out) GT.out
              have HNL : wl.heap[gn403]? = some (.cells #[.int .i64 l.1, .int .i64 l.2.1, .int .i64 l.2.2.1, .int .i64 l.2.2.2] 24 (0, 0)) := by rw [hwl]; exact blk_grown Bn403.out ((((grown_set _ _ _ _).trans (grown_set _ _ _ _)).trans (grown_set _ _ _ _)).trans (grown_set _ _ _ _)) (fun e => HNE (by injection e))
              rw [← hwl] at HEL
              rw [← hwl]
              clear hwl HNE
              have HBL := Aside0.mk HBL
              have HNL := Aside0.mk HNL
              have zp0 := EW.ptr HEL.out 0 (by omega)
              have zp1 := EW.ptr HEL.out 1 (by omega)
              have zp2 := EW.ptr HEL.out 2 (by omega)
              go_wp2_with fail
              clear zp0 zp1 zp2
              go_loopw [174] (fun v174 w' => ∃ i : Nat, i ≤ 3 ∧ v174 = .int .i64 i ∧ Aside0 (EW W w' gp11 gl11 gt t G' lf' lf' sw' vv' ag' l B4 d4 v') ∧ Aside0 (w'.heap[gn403]? = some (.cells #[.int .i64 l.1, .int .i64 l.2.1, .int .i64 l.2.2.1, .int .i64 l.2.2.2] 24 (0, 0))) ∧ Aside0 (Below W.heap.size W w')) (fun v _ => 3 - (intOf v).toNat)
              case atStart => exact ⟨0, by omega, rfl, HEL, HNL, HBL⟩
              case round =>
                clear HEL HNL HBL
                obtain ⟨i, hi, rfl, HE, HN, HW⟩ := hrel
                have HSL : Aside0 (SI l vv') := ⟨by have h := HS1.out; rw [HLL.out] at h; exact h⟩
                have HZ := Aside0.mk (HVN.out.bounds.1)
                rw [HLL.out] at HZ
                rcases (by omega : i = 0 ∨ i = 1 ∨ i = 2 ∨ i = 3) with rfl | rfl | rfl | rfl
                · obtain ⟨nn, hnn⟩ : ∃ x, leadsN (0 : Nat) (lf' 0) (vv' 0) = x := ⟨_, rfl⟩
                  obtain ⟨bb, hbb⟩ : ∃ x, leadsB (0 : Nat) (lf' 0) (vv' 0) = x := ⟨_, rfl⟩
                  have hdec : decide (l.1 < nn) = false := by rw [← hnn]; exact HSL.out.leads 0 (by omega) _ _ HZ.out
                  have hld := leads_c _ _ _ _ _ _ _ _ (HE.out.at_ 0 (by omega))
                  rw [hnn, hbb] at hld
                  clear hnn hbb
                  have hix : ∀ W, (Instr.index 56 (.agg #[pt (G' 0), pt (G' 1), pt (G' 2)]) (.int .i64 0)).run Try.prog W = .ok (pt (G' 0)) W := fun _ => by kernel_rfl
                  go_wp2_with fail
                  clear hix
                  refine hld.mono ?_
                  rintro e wx ⟨rfl, hbx⟩
                  have HEX := Aside0.mk (HE.out.below hbx)
                  have HNX : Aside0 (wx.heap[gn403]? = some (.cells #[.int .i64 l.1, .int .i64 l.2.1, .int .i64 l.2.2.1, .int .i64 l.2.2.2] 24 (0, 0))) := ⟨blk_below HN.out hbx⟩
                  have HBX := Aside0.mk (below_step HW.out hbx)
                  clear hld hbx
                  have zn : wx.cell? ⟨gn403, 0, none⟩ = some (.int .i64 l.1) := (blk_cell HNX.out 0).trans rfl
                  cases bb
                  · go_wp2_with fail
                    go_roundw
                    case rel => exact ⟨1, by omega, by go_num, HEX, HNX, HBX⟩
                    case measure => simp [intOf]
                  · go_wp2_with fail
                    go_roundw
                    case rel => exact ⟨1, by omega, by go_num, HEX, HNX, HBX⟩
                    case measure => simp [intOf]
                · obtain ⟨nn, hnn⟩ : ∃ x, leadsN (1 : Nat) (lf' 1) (vv' 1) = x := ⟨_, rfl⟩
                  obtain ⟨bb, hbb⟩ : ∃ x, leadsB (1 : Nat) (lf' 1) (vv' 1) = x := ⟨_, rfl⟩
                  have hdec : decide (l.1 < nn) = false := by rw [← hnn]; exact HSL.out.leads 1 (by omega) _ _ HZ.out
                  have hld := leads_c _ _ _ _ _ _ _ _ (HE.out.at_ 1 (by omega))
                  rw [hnn, hbb] at hld
                  clear hnn hbb
                  have hix : ∀ W, (Instr.index 56 (.agg #[pt (G' 0), pt (G' 1), pt (G' 2)]) (.int .i64 1)).run Try.prog W = .ok (pt (G' 1)) W := fun _ => by kernel_rfl
                  go_wp2_with fail
                  clear hix
                  refine hld.mono ?_
                  rintro e wx ⟨rfl, hbx⟩
                  have HEX := Aside0.mk (HE.out.below hbx)
                  have HNX : Aside0 (wx.heap[gn403]? = some (.cells #[.int .i64 l.1, .int .i64 l.2.1, .int .i64 l.2.2.1, .int .i64 l.2.2.2] 24 (0, 0))) := ⟨blk_below HN.out hbx⟩
                  have HBX := Aside0.mk (below_step HW.out hbx)
                  clear hld hbx
                  have zn : wx.cell? ⟨gn403, 0, none⟩ = some (.int .i64 l.1) := (blk_cell HNX.out 0).trans rfl
                  cases bb
                  · go_wp2_with fail
                    go_roundw
                    case rel => exact ⟨2, by omega, by go_num, HEX, HNX, HBX⟩
                    case measure => simp [intOf]
                  · go_wp2_with fail
                    go_roundw
                    case rel => exact ⟨2, by omega, by go_num, HEX, HNX, HBX⟩
                    case measure => simp [intOf]
                · obtain ⟨nn, hnn⟩ : ∃ x, leadsN (2 : Nat) (lf' 2) (vv' 2) = x := ⟨_, rfl⟩
                  obtain ⟨bb, hbb⟩ : ∃ x, leadsB (2 : Nat) (lf' 2) (vv' 2) = x := ⟨_, rfl⟩
                  have hdec : decide (l.1 < nn) = false := by rw [← hnn]; exact HSL.out.leads 2 (by omega) _ _ HZ.out
                  have hld := leads_c _ _ _ _ _ _ _ _ (HE.out.at_ 2 (by omega))
                  rw [hnn, hbb] at hld
                  clear hnn hbb
                  have hix : ∀ W, (Instr.index 56 (.agg #[pt (G' 0), pt (G' 1), pt (G' 2)]) (.int .i64 2)).run Try.prog W = .ok (pt (G' 2)) W := fun _ => by kernel_rfl
                  go_wp2_with fail
                  clear hix
                  refine hld.mono ?_
                  rintro e wx ⟨rfl, hbx⟩
                  have HEX := Aside0.mk (HE.out.below hbx)
                  have HNX : Aside0 (wx.heap[gn403]? = some (.cells #[.int .i64 l.1, .int .i64 l.2.1, .int .i64 l.2.2.1, .int .i64 l.2.2.2] 24 (0, 0))) := ⟨blk_below HN.out hbx⟩
                  have HBX := Aside0.mk (below_step HW.out hbx)
                  clear hld hbx
                  have zn : wx.cell? ⟨gn403, 0, none⟩ = some (.int .i64 l.1) := (blk_cell HNX.out 0).trans rfl
                  cases bb
                  · go_wp2_with fail
                    go_roundw
                    case rel => exact ⟨3, by omega, by go_num, HEX, HNX, HBX⟩
                    case measure => simp [intOf]
                  · go_wp2_with fail
                    go_roundw
                    case rel => exact ⟨3, by omega, by go_num, HEX, HNX, HBX⟩
                    case measure => simp [intOf]
                · go_wp2_with fail
                  go_roundw
                  case rel => exact ⟨k + 1, B4, d4, v', G', lf', sw', vv', ag', l, by omega, by go_num, rfl, HE, ⟨⟨by have h := HVN.out; rw [HLL.out] at h; exact h, HSL.out, HLA.out.1, HLA.out.2⟩⟩, HW⟩
                  case measure => simp [intOf]; omega
        · rcases hT with hT | hT
          · as_aux_lemma =>
              rw [her, errW_some]
              have eE := Err.neE
              go_wp2_with fail
              clear eE
              refine (saw_c _ (G q) (q : Int) (lf q) t (sw q) (vv q) (ag q) (HEV.out.at_ q hq3) B4 d4 v' (Kd.R_reads' HR4.out).2.2 (Kd.R_reads' HR4.out).2.1 (by have := HLN.out; omega)).mono ?_
              rintro e wa ⟨rfl, hwa, hga⟩
              have HBA := Aside0.mk (below_watch HB105.out hga (HEV.out.ge q hq3))
              obtain ⟨G', lf', sw', vv', ag', HEN, HS1, HLA⟩ : ∃ G' lf' sw' vv' ag', Aside0 (EW W wa gp11 gl11 gt t G' lf' lf' sw' vv' ag' la B4 d4 v') ∧ Aside0 (SI la vv') ∧ Aside0 ((∀ i, i < 3 → 0 ≤ lf' i ∧ lf' i ≤ ((k + 1 : Nat) : Int)) ∧ (∀ i, i < 3 → 0 ≤ ag' i ∧ ag' i ≤ 1000)) := ⟨_, _, _, _, _, ⟨HEV.out.watch hq3 hwa hga⟩, ⟨HP.out.2.1.set q (.inl hT.1)⟩, ⟨fun i hi => ⟨(HP.out.2.2.1 i hi).1, by have := (HP.out.2.2.1 i hi).2; omega⟩, upd_all (P := fun a => 0 ≤ a ∧ a ≤ 1000) HP.out.2.2.2 (saw_age _ _ _ _ (HP.out.2.2.2 q hq3))⟩⟩
              have HC := Aside0.mk hT
              have HVN := Aside0.mk (T0.next (k := k) hT)
              clear hwa hga HDO HST HEV HR4
              obtain ⟨hv0, hl0⟩ := hT
              subst hv0
              go_wp2_with fail
              have htk := take_v B4 d4 ([] : List Int) _ HEN.out.C HEN.out.cap
              rw [show leaseOf ([] : List Int) = (0, 0, 0, 0) from rfl, show okL ([] : List Int) = false by decide] at htk
              refine htk.mono ?_
              rintro e wt ⟨rfl, hbt⟩
              clear htk
              have HET := Aside0.mk ((HEN.out.below hbt).below (below_alloc (Below.refl _ _) (.cells #[.int .i64 0, .int .i64 0, .int .i64 0, .int .i64 0] 24)))
              have HBT := Aside0.mk (below_alloc (below_step HBA.out hbt) (.cells #[.int .i64 0, .int .i64 0, .int .i64 0, .int .i64 0] 24))
              clear hbt
              go_wp2_with fail
              go_roundw
              case rel => exact ⟨k + 1, B4, d4, [], G', lf', sw', vv', ag', la, by omega, by go_num, rfl, HET, ⟨⟨HVN.out, HS1.out, HLA.out.1, HLA.out.2⟩⟩, HBT⟩
              case measure => simp [intOf]; omega
          · as_aux_lemma =>
              rw [her, errW_some]
              have eE := Err.neE
              go_wp2_with fail
              clear eE
              refine (saw_c _ (G q) (q : Int) (lf q) t (sw q) (vv q) (ag q) (HEV.out.at_ q hq3) B4 d4 v' (Kd.R_reads' HR4.out).2.2 (Kd.R_reads' HR4.out).2.1 (by have := HLN.out; omega)).mono ?_
              rintro e wa ⟨rfl, hwa, hga⟩
              have HBA := Aside0.mk (below_watch HB105.out hga (HEV.out.ge q hq3))
              obtain ⟨G', lf', sw', vv', ag', HEN, HS1, HLA⟩ : ∃ G' lf' sw' vv' ag', Aside0 (EW W wa gp11 gl11 gt t G' lf' lf' sw' vv' ag' la B4 d4 v') ∧ Aside0 (SI (leaseOf v') vv') ∧ Aside0 ((∀ i, i < 3 → 0 ≤ lf' i ∧ lf' i ≤ ((k + 1 : Nat) : Int)) ∧ (∀ i, i < 3 → 0 ≤ ag' i ∧ ag' i ≤ 1000)) := ⟨_, _, _, _, _, ⟨HEV.out.watch hq3 hwa hga⟩, ⟨(HP.out.2.1.up (Int.le_of_eq hT.2.1.symm)).set q (.inr ⟨hT.1, Int.le_refl _⟩)⟩, ⟨fun i hi => ⟨(HP.out.2.2.1 i hi).1, by have := (HP.out.2.2.1 i hi).2; omega⟩, upd_all (P := fun a => 0 ≤ a ∧ a ≤ 1000) HP.out.2.2.2 (saw_age _ _ _ _ (HP.out.2.2.2 q hq3))⟩⟩
              have HC := Aside0.mk hT
              have HVN := Aside0.mk (hT.next HP.out.1)
              clear hwa hga HDO HST HEV HR4
              clear hT
              go_wp2_with fail
              have htk := take_v B4 d4 v' _ HEN.out.C HEN.out.cap
              have hok := HC.out.1
              obtain ⟨l, hl⟩ : ∃ l, leaseOf v' = l := ⟨_, rfl⟩
              have HLL := Aside0.mk hl
              rw [hok, hl] at htk
              clear hok
              refine htk.mono ?_
              rintro e wt ⟨rfl, hbt⟩
              clear htk
              have HET := Aside0.mk (HEN.out.below hbt)
              have HB502 := Aside0.mk (below_step HBA.out hbt)
              clear hbt
              have HLB := Aside0.mk (HVN.out.bounds)
              rw [hl] at HLB
              have HBD := Aside0.mk (HVI.out.bounds)
              have HPT := Aside0.mk (ok_parts HC.out.1)
              rw [hl] at HPT
              obtain ⟨_, q1, q2, q3, q4, q5⟩ := HC.out
              rw [hl] at q1 q2 q3 q4 q5
              have c1 : (l.1 == la.1) = true := beq_iff_eq.2 q1
              have c2 : (l.2.1 == la.2.1) = true := beq_iff_eq.2 q2
              have c3 : (l.2.2.1 == la.2.2.1) = true := beq_iff_eq.2 q3
              have c4 : decide (la.2.2.2 ≤ l.2.2.2) = true := decide_eq_true q4
              have c5 : wrap64 (la.2.2.2 + 1) = la.2.2.2 + 1 := by have := HBD.out; unfold wrap64; omega
              have c6 : decide (l.2.2.2 ≤ la.2.2.2 + 1) = true := decide_eq_true q5
              have c7 : wrap64 (la.1 + 1) = la.1 + 1 := by have := HBD.out; unfold wrap64; omega
              have c8 : (l.1 == la.1 + 1) = false := beq_eq_false_iff_ne.2 (by omega)
              clear q1 q2 q3 q4 q5
              clear hl
              go_upto_region 36 with fail
              obtain ⟨W503, hw503⟩ : ∃ x : World, x = wt.alloc (.cells #[.int .i64 l.1, .int .i64 l.2.1, .int .i64 l.2.2.1, .int .i64 l.2.2.2] 24) := ⟨_, rfl⟩
              have hbs503 : Below wt.heap.size wt W503 := by rw [hw503]; repeat (first | exact Below.refl _ _ | refine below_alloc ?_ _ | refine below_drew ?_)
              obtain ⟨gn503, hgn503⟩ : ∃ x, x = wt.heap.size := ⟨_, rfl⟩
              have HGN : Aside0 (wt.heap.size ≤ gn503) := ⟨by rw [hgn503]; exact Nat.le_refl _⟩
              have GSn503 : Aside0 (W.heap.size ≤ gn503) := ⟨by rw [hgn503]; have := HB502.out.size; omega⟩
              have Bn503 : Aside0 (W503.heap[gn503]? = some (.cells #[.int .i64 l.1, .int .i64 l.2.1, .int .i64 l.2.2.1, .int .i64 l.2.2.2] 24 (0, 0))) := ⟨by rw [hw503, hgn503]; exact blk_new _ _⟩
              rw [← hw503]
              rw [← hgn503]
              clear hw503 hgn503
              have HB504 := Aside0.mk (below_step HB502.out hbs503)
              have CE504 := Aside0.mk (EW.below HET.out hbs503)
              clear hbs503
              have zn505_0 : W503.cell? ⟨gn503, 0, none⟩ = some (.int .i64 l.1) := (blk_cell Bn503.out 0).trans rfl
              have zn505_1 : W503.cell? ⟨gn503, 1, none⟩ = some (.int .i64 l.2.1) := (blk_cell Bn503.out 1).trans rfl
              have zn505_2 : W503.cell? ⟨gn503, 2, none⟩ = some (.int .i64 l.2.2.1) := (blk_cell Bn503.out 2).trans rfl
              have zn505_3 : W503.cell? ⟨gn503, 3, none⟩ = some (.int .i64 l.2.2.2) := (blk_cell Bn503.out 3).trans rfl
              have zt0 : W503.cell? ⟨gt, 0, none⟩ = some (.int .i64 la.1) := (blk_cell CE504.out.2.2.1 0).trans rfl
              have zf0 := blk_frozen CE504.out.2.2.1 0
              have zt1 : W503.cell? ⟨gt, 1, none⟩ = some (.int .i64 la.2.1) := (blk_cell CE504.out.2.2.1 1).trans rfl
              have zf1 := blk_frozen CE504.out.2.2.1 1
              have zt2 : W503.cell? ⟨gt, 2, none⟩ = some (.int .i64 la.2.2.1) := (blk_cell CE504.out.2.2.1 2).trans rfl
              have zf2 := blk_frozen CE504.out.2.2.1 2
              have zt3 : W503.cell? ⟨gt, 3, none⟩ = some (.int .i64 la.2.2.2) := (blk_cell CE504.out.2.2.1 3).trans rfl
              have zf3 := blk_frozen CE504.out.2.2.1 3
              go_upto_region 41 with fail
              clear zn505_0 zn505_1 zn505_2 zn505_3
              clear zt0 zt1 zt2 zt3 zf0 zf1 zf2 zf3 c1 c2 c3 c4 c5 c6 c7 c8
              obtain ⟨wl, hwl⟩ : ∃ x : World, x = ((((W503.setCell ⟨gt, 0, none⟩ (.int .i64 l.1)).setCell ⟨gt, 1, none⟩ (.int .i64 l.2.1)).setCell ⟨gt, 2, none⟩ (.int .i64 l.2.2.1)).setCell ⟨gt, 3, none⟩ (.int .i64 l.2.2.2)) := ⟨_, rfl⟩
              have HEL := Aside0.mk (EW.last CE504.out l)
              have HNE : gn503 ≠ gt := fun e => by have h1 := blk_lt HET.out.2.2.1; have h2 := HGN.out; rw [e] at h2; omega
              have HBL : Below W.heap.size W wl := by rw [hwl]; exact below_set (below_set (below_set (below_set HB504.out GT.out) GT.out) GT.out) GT.out
              have HNL : wl.heap[gn503]? = some (.cells #[.int .i64 l.1, .int .i64 l.2.1, .int .i64 l.2.2.1, .int .i64 l.2.2.2] 24 (0, 0)) := by rw [hwl]; exact blk_grown Bn503.out ((((grown_set _ _ _ _).trans (grown_set _ _ _ _)).trans (grown_set _ _ _ _)).trans (grown_set _ _ _ _)) (fun e => HNE (by injection e))
              rw [← hwl] at HEL
              rw [← hwl]
              clear hwl HNE
              have HBL := Aside0.mk HBL
              have HNL := Aside0.mk HNL
              have zp0 := EW.ptr HEL.out 0 (by omega)
              have zp1 := EW.ptr HEL.out 1 (by omega)
              have zp2 := EW.ptr HEL.out 2 (by omega)
              go_wp2_with fail
              clear zp0 zp1 zp2
              go_loopw [174] (fun v174 w' => ∃ i : Nat, i ≤ 3 ∧ v174 = .int .i64 i ∧ Aside0 (EW W w' gp11 gl11 gt t G' lf' lf' sw' vv' ag' l B4 d4 v') ∧ Aside0 (w'.heap[gn503]? = some (.cells #[.int .i64 l.1, .int .i64 l.2.1, .int .i64 l.2.2.1, .int .i64 l.2.2.2] 24 (0, 0))) ∧ Aside0 (Below W.heap.size W w')) (fun v _ => 3 - (intOf v).toNat)
              case atStart => exact ⟨0, by omega, rfl, HEL, HNL, HBL⟩
              case round =>
                clear HEL HNL HBL
                obtain ⟨i, hi, rfl, HE, HN, HW⟩ := hrel
                have HSL : Aside0 (SI l vv') := ⟨by have h := HS1.out; rw [HLL.out] at h; exact h⟩
                have HZ := Aside0.mk (HVN.out.bounds.1)
                rw [HLL.out] at HZ
                rcases (by omega : i = 0 ∨ i = 1 ∨ i = 2 ∨ i = 3) with rfl | rfl | rfl | rfl
                · obtain ⟨nn, hnn⟩ : ∃ x, leadsN (0 : Nat) (lf' 0) (vv' 0) = x := ⟨_, rfl⟩
                  obtain ⟨bb, hbb⟩ : ∃ x, leadsB (0 : Nat) (lf' 0) (vv' 0) = x := ⟨_, rfl⟩
                  have hdec : decide (l.1 < nn) = false := by rw [← hnn]; exact HSL.out.leads 0 (by omega) _ _ HZ.out
                  have hld := leads_c _ _ _ _ _ _ _ _ (HE.out.at_ 0 (by omega))
                  rw [hnn, hbb] at hld
                  clear hnn hbb
                  have hix : ∀ W, (Instr.index 56 (.agg #[pt (G' 0), pt (G' 1), pt (G' 2)]) (.int .i64 0)).run Try.prog W = .ok (pt (G' 0)) W := fun _ => by kernel_rfl
                  go_wp2_with fail
                  clear hix
                  refine hld.mono ?_
                  rintro e wx ⟨rfl, hbx⟩
                  have HEX := Aside0.mk (HE.out.below hbx)
                  have HNX : Aside0 (wx.heap[gn503]? = some (.cells #[.int .i64 l.1, .int .i64 l.2.1, .int .i64 l.2.2.1, .int .i64 l.2.2.2] 24 (0, 0))) := ⟨blk_below HN.out hbx⟩
                  have HBX := Aside0.mk (below_step HW.out hbx)
                  clear hld hbx
                  have zn : wx.cell? ⟨gn503, 0, none⟩ = some (.int .i64 l.1) := (blk_cell HNX.out 0).trans rfl
                  cases bb
                  · go_wp2_with fail
                    go_roundw
                    case rel => exact ⟨1, by omega, by go_num, HEX, HNX, HBX⟩
                    case measure => simp [intOf]
                  · go_wp2_with fail
                    go_roundw
                    case rel => exact ⟨1, by omega, by go_num, HEX, HNX, HBX⟩
                    case measure => simp [intOf]
                · obtain ⟨nn, hnn⟩ : ∃ x, leadsN (1 : Nat) (lf' 1) (vv' 1) = x := ⟨_, rfl⟩
                  obtain ⟨bb, hbb⟩ : ∃ x, leadsB (1 : Nat) (lf' 1) (vv' 1) = x := ⟨_, rfl⟩
                  have hdec : decide (l.1 < nn) = false := by rw [← hnn]; exact HSL.out.leads 1 (by omega) _ _ HZ.out
                  have hld := leads_c _ _ _ _ _ _ _ _ (HE.out.at_ 1 (by omega))
                  rw [hnn, hbb] at hld
                  clear hnn hbb
                  have hix : ∀ W, (Instr.index 56 (.agg #[pt (G' 0), pt (G' 1), pt (G' 2)]) (.int .i64 1)).run Try.prog W = .ok (pt (G' 1)) W := fun _ => by kernel_rfl
                  go_wp2_with fail
                  clear hix
                  refine hld.mono ?_
                  rintro e wx ⟨rfl, hbx⟩
                  have HEX := Aside0.mk (HE.out.below hbx)
                  have HNX : Aside0 (wx.heap[gn503]? = some (.cells #[.int .i64 l.1, .int .i64 l.2.1, .int .i64 l.2.2.1, .int .i64 l.2.2.2] 24 (0, 0))) := ⟨blk_below HN.out hbx⟩
                  have HBX := Aside0.mk (below_step HW.out hbx)
                  clear hld hbx
                  have zn : wx.cell? ⟨gn503, 0, none⟩ = some (.int .i64 l.1) := (blk_cell HNX.out 0).trans rfl
                  cases bb
                  · go_wp2_with fail
                    go_roundw
                    case rel => exact ⟨2, by omega, by go_num, HEX, HNX, HBX⟩
                    case measure => simp [intOf]
                  · go_wp2_with fail
                    go_roundw
                    case rel => exact ⟨2, by omega, by go_num, HEX, HNX, HBX⟩
                    case measure => simp [intOf]
                · obtain ⟨nn, hnn⟩ : ∃ x, leadsN (2 : Nat) (lf' 2) (vv' 2) = x := ⟨_, rfl⟩
                  obtain ⟨bb, hbb⟩ : ∃ x, leadsB (2 : Nat) (lf' 2) (vv' 2) = x := ⟨_, rfl⟩
                  have hdec : decide (l.1 < nn) = false := by rw [← hnn]; exact HSL.out.leads 2 (by omega) _ _ HZ.out
                  have hld := leads_c _ _ _ _ _ _ _ _ (HE.out.at_ 2 (by omega))
                  rw [hnn, hbb] at hld
                  clear hnn hbb
                  have hix : ∀ W, (Instr.index 56 (.agg #[pt (G' 0), pt (G' 1), pt (G' 2)]) (.int .i64 2)).run Try.prog W = .ok (pt (G' 2)) W := fun _ => by kernel_rfl
                  go_wp2_with fail
                  clear hix
                  refine hld.mono ?_
                  rintro e wx ⟨rfl, hbx⟩
                  have HEX := Aside0.mk (HE.out.below hbx)
                  have HNX : Aside0 (wx.heap[gn503]? = some (.cells #[.int .i64 l.1, .int .i64 l.2.1, .int .i64 l.2.2.1, .int .i64 l.2.2.2] 24 (0, 0))) := ⟨blk_below HN.out hbx⟩
                  have HBX := Aside0.mk (below_step HW.out hbx)
                  clear hld hbx
                  have zn : wx.cell? ⟨gn503, 0, none⟩ = some (.int .i64 l.1) := (blk_cell HNX.out 0).trans rfl
                  cases bb
                  · go_wp2_with fail
                    go_roundw
                    case rel => exact ⟨3, by omega, by go_num, HEX, HNX, HBX⟩
                    case measure => simp [intOf]
                  · go_wp2_with fail
                    go_roundw
                    case rel => exact ⟨3, by omega, by go_num, HEX, HNX, HBX⟩
                    case measure => simp [intOf]
                · go_wp2_with fail
                  go_roundw
                  case rel => exact ⟨k + 1, B4, d4, v', G', lf', sw', vv', ag', l, by omega, by go_num, rfl, HE, ⟨⟨by have h := HVN.out; rw [HLL.out] at h; exact h, HSL.out, HLA.out.1, HLA.out.2⟩⟩, HW⟩
                  case measure => simp [intOf]; omega
      have hk2 : (kd == 2) = false := beq_eq_false_iff_ne.2 h2
      as_aux_lemma =>
        have hzl := EW.life CE102.out q hq3
        have hfl := blk_frozen CE102.out.2.1 q
        have hlw : wrap64 (lf q + 1) = lf q + 1 := by have := HP.out.2.2.1 q hq3; unfold wrap64; omega
        go_upto_region 21 with fail
        clear zo103_0 zo103_1 hzp dq hzl hfl hlw
        obtain ⟨wb, hwb⟩ : ∃ x : World, x = W101.setCell ⟨gl11, q, none⟩ (.int .i64 (lf q + 1)) := ⟨_, rfl⟩
        have HEB := Aside0.mk (EW.lives CE102.out hq3 (lf q + 1))
        have HBB : Aside0 (Below W.heap.size W wb) := ⟨by rw [hwb]; exact below_set HB102.out GSl11.out⟩
        rw [← hwb] at HEB
        rw [← hwb]
        clear hwb
        have hzl := EW.life HEB.out q hq3
        rw [upd_same] at hzl
        have dq : decide ((q : Int) < 3) = true := decide_eq_true (by omega)
        go_wp2_with fail
        clear hzl
        refine (new_c _ (q : Int) (lf q + 1) (t : Int) (by have := HP.out.2.2.1 q hq3; unfold newOk; exact decide_eq_true (by omega))).mono ?_
        rintro e wn ⟨g, rfl, hge, hw, hb⟩
        have HEC := Aside0.mk (HEB.out.below hb)
        have hz := EW.ptr HEC.out q hq3
        have hf := blk_frozen HEC.out.1 q
        have HGE := Aside0.mk hge
        have HWN := Aside0.mk hw
        have HBC := Aside0.mk (below_step HBB.out hb)
        clear hge hw hb
        go_upto_region 32 with fail
        clear hz hf dq
        obtain ⟨wa, hwa⟩ : ∃ x : World, x = wn.setCell ⟨gp11, q, none⟩ (pt g) := ⟨_, rfl⟩
        have HED := Aside0.mk (HEC.out.new hq3 HWN.out (Nat.le_trans HBB.out.size HGE.out) (fun i hi => by have := (HEB.out.at_ i hi).lt; have := HGE.out; omega))
        have HBA : Aside0 (Below W.heap.size W wa) := ⟨by rw [hwa]; exact below_set HBC.out GSp11.out⟩
        rw [← hwa] at HED
        rw [← hwa]
        clear hwa HEB HEC HWN
        obtain ⟨G', lf', sw', vv', ag', HEN, HS1, HLA⟩ : ∃ G' lf' sw' vv' ag', Aside0 (EW W wa gp11 gl11 gt t G' lf' lf' sw' vv' ag' la A c v) ∧ Aside0 (SI la vv') ∧ Aside0 ((∀ i, i < 3 → 0 ≤ lf' i ∧ lf' i ≤ ((k + 1 : Nat) : Int)) ∧ (∀ i, i < 3 → 0 ≤ ag' i ∧ ag' i ≤ 1000)) := ⟨_, _, _, _, _, ⟨HED.out⟩, ⟨HP.out.2.1.set q (.inl rfl)⟩, ⟨upd_all (P := fun a => 0 ≤ a ∧ a ≤ ((k + 1 : Nat) : Int)) (fun i hi => ⟨(HP.out.2.2.1 i hi).1, by have := (HP.out.2.2.1 i hi).2; omega⟩) (by have := HP.out.2.2.1 q hq3; omega), upd_all (P := fun a => 0 ≤ a ∧ a ≤ 1000) HP.out.2.2.2 (by decide)⟩⟩
        clear HED
        have HVI := Aside0.mk HP.out.1
        rcases HP.out.1.stay with h0 | hR
        · have HC := Aside0.mk h0
          have HVN := Aside0.mk (T0.next (k := k) h0)
          obtain ⟨hv0, hl0⟩ := h0
          subst hv0
          go_wp2_with fail
          have htk := take_v A c ([] : List Int) _ HEN.out.C HEN.out.cap
          rw [show leaseOf ([] : List Int) = (0, 0, 0, 0) from rfl, show okL ([] : List Int) = false by decide] at htk
          refine htk.mono ?_
          rintro e wt ⟨rfl, hbt⟩
          clear htk
          have HET := Aside0.mk ((HEN.out.below hbt).below (below_alloc (Below.refl _ _) (.cells #[.int .i64 0, .int .i64 0, .int .i64 0, .int .i64 0] 24)))
          have HBT := Aside0.mk (below_alloc (below_step HBA.out hbt) (.cells #[.int .i64 0, .int .i64 0, .int .i64 0, .int .i64 0] 24))
          clear hbt
          go_wp2_with fail
          go_roundw
          case rel => exact ⟨k + 1, A, c, [], G', lf', sw', vv', ag', la, by omega, by go_num, rfl, HET, ⟨⟨HVN.out, HS1.out, HLA.out.1, HLA.out.2⟩⟩, HBT⟩
          case measure => simp [intOf]; omega
        · have HC := Aside0.mk hR
          have HVN := Aside0.mk (hR.next HP.out.1)
          have HS2 : Aside0 (SI (leaseOf v) vv') := ⟨HS1.out.up (Int.le_of_eq hR.2.1.symm)⟩
          clear hR
          go_wp2_with fail
          have htk := take_v A c v _ HEN.out.C HEN.out.cap
          have hok := HC.out.1
          obtain ⟨l, hl⟩ : ∃ l, leaseOf v = l := ⟨_, rfl⟩
          have HLL := Aside0.mk hl
          rw [hok, hl] at htk
          clear hok
          refine htk.mono ?_
          rintro e wt ⟨rfl, hbt⟩
          clear htk
          have HET := Aside0.mk (HEN.out.below hbt)
          have HB642 := Aside0.mk (below_step HBA.out hbt)
          clear hbt
          have HLB := Aside0.mk (HVN.out.bounds)
          rw [hl] at HLB
          have HBD := Aside0.mk (HVI.out.bounds)
          have HPT := Aside0.mk (ok_parts HC.out.1)
          rw [hl] at HPT
          obtain ⟨_, q1, q2, q3, q4, q5⟩ := HC.out
          rw [hl] at q1 q2 q3 q4 q5
          have c1 : (l.1 == la.1) = true := beq_iff_eq.2 q1
          have c2 : (l.2.1 == la.2.1) = true := beq_iff_eq.2 q2
          have c3 : (l.2.2.1 == la.2.2.1) = true := beq_iff_eq.2 q3
          have c4 : decide (la.2.2.2 ≤ l.2.2.2) = true := decide_eq_true q4
          have c5 : wrap64 (la.2.2.2 + 1) = la.2.2.2 + 1 := by have := HBD.out; unfold wrap64; omega
          have c6 : decide (l.2.2.2 ≤ la.2.2.2 + 1) = true := decide_eq_true q5
          have c7 : wrap64 (la.1 + 1) = la.1 + 1 := by have := HBD.out; unfold wrap64; omega
          have c8 : (l.1 == la.1 + 1) = false := beq_eq_false_iff_ne.2 (by omega)
          clear q1 q2 q3 q4 q5
          clear hl
          go_upto_region 36 with fail
          obtain ⟨W643, hw643⟩ : ∃ x : World, x = wt.alloc (.cells #[.int .i64 l.1, .int .i64 l.2.1, .int .i64 l.2.2.1, .int .i64 l.2.2.2] 24) := ⟨_, rfl⟩
          have hbs643 : Below wt.heap.size wt W643 := by rw [hw643]; repeat (first | exact Below.refl _ _ | refine below_alloc ?_ _ | refine below_drew ?_)
          obtain ⟨gn643, hgn643⟩ : ∃ x, x = wt.heap.size := ⟨_, rfl⟩
          have HGN : Aside0 (wt.heap.size ≤ gn643) := ⟨by rw [hgn643]; exact Nat.le_refl _⟩
          have GSn643 : Aside0 (W.heap.size ≤ gn643) := ⟨by rw [hgn643]; have := HB642.out.size; omega⟩
          have Bn643 : Aside0 (W643.heap[gn643]? = some (.cells #[.int .i64 l.1, .int .i64 l.2.1, .int .i64 l.2.2.1, .int .i64 l.2.2.2] 24 (0, 0))) := ⟨by rw [hw643, hgn643]; exact blk_new _ _⟩
          rw [← hw643]
          rw [← hgn643]
          clear hw643 hgn643
          have HB644 := Aside0.mk (below_step HB642.out hbs643)
          have CE644 := Aside0.mk (EW.below HET.out hbs643)
          clear hbs643
          have zn645_0 : W643.cell? ⟨gn643, 0, none⟩ = some (.int .i64 l.1) := (blk_cell Bn643.out 0).trans rfl
          have zn645_1 : W643.cell? ⟨gn643, 1, none⟩ = some (.int .i64 l.2.1) := (blk_cell Bn643.out 1).trans rfl
          have zn645_2 : W643.cell? ⟨gn643, 2, none⟩ = some (.int .i64 l.2.2.1) := (blk_cell Bn643.out 2).trans rfl
          have zn645_3 : W643.cell? ⟨gn643, 3, none⟩ = some (.int .i64 l.2.2.2) := (blk_cell Bn643.out 3).trans rfl
          have zt0 : W643.cell? ⟨gt, 0, none⟩ = some (.int .i64 la.1) := (blk_cell CE644.out.2.2.1 0).trans rfl
          have zf0 := blk_frozen CE644.out.2.2.1 0
          have zt1 : W643.cell? ⟨gt, 1, none⟩ = some (.int .i64 la.2.1) := (blk_cell CE644.out.2.2.1 1).trans rfl
          have zf1 := blk_frozen CE644.out.2.2.1 1
          have zt2 : W643.cell? ⟨gt, 2, none⟩ = some (.int .i64 la.2.2.1) := (blk_cell CE644.out.2.2.1 2).trans rfl
          have zf2 := blk_frozen CE644.out.2.2.1 2
          have zt3 : W643.cell? ⟨gt, 3, none⟩ = some (.int .i64 la.2.2.2) := (blk_cell CE644.out.2.2.1 3).trans rfl
          have zf3 := blk_frozen CE644.out.2.2.1 3
          go_upto_region 41 with fail
          clear zn645_0 zn645_1 zn645_2 zn645_3
          clear zt0 zt1 zt2 zt3 zf0 zf1 zf2 zf3 c1 c2 c3 c4 c5 c6 c7 c8
          obtain ⟨wl, hwl⟩ : ∃ x : World, x = ((((W643.setCell ⟨gt, 0, none⟩ (.int .i64 l.1)).setCell ⟨gt, 1, none⟩ (.int .i64 l.2.1)).setCell ⟨gt, 2, none⟩ (.int .i64 l.2.2.1)).setCell ⟨gt, 3, none⟩ (.int .i64 l.2.2.2)) := ⟨_, rfl⟩
          have HEL := Aside0.mk (EW.last CE644.out l)
          have HNE : gn643 ≠ gt := fun e => by have h1 := blk_lt HET.out.2.2.1; have h2 := HGN.out; rw [e] at h2; omega
          have HBL : Below W.heap.size W wl := by rw [hwl]; exact below_set (below_set (below_set (below_set HB644.out GT.out) GT.out) GT.out) GT.out
          have HNL : wl.heap[gn643]? = some (.cells #[.int .i64 l.1, .int .i64 l.2.1, .int .i64 l.2.2.1, .int .i64 l.2.2.2] 24 (0, 0)) := by rw [hwl]; exact blk_grown Bn643.out ((((grown_set _ _ _ _).trans (grown_set _ _ _ _)).trans (grown_set _ _ _ _)).trans (grown_set _ _ _ _)) (fun e => HNE (by injection e))
          rw [← hwl] at HEL
          rw [← hwl]
          clear hwl HNE
          have HBL := Aside0.mk HBL
          have HNL := Aside0.mk HNL
          have zp0 := EW.ptr HEL.out 0 (by omega)
          have zp1 := EW.ptr HEL.out 1 (by omega)
          have zp2 := EW.ptr HEL.out 2 (by omega)
          go_wp2_with fail
          clear zp0 zp1 zp2
          go_loopw [174] (fun v174 w' => ∃ i : Nat, i ≤ 3 ∧ v174 = .int .i64 i ∧ Aside0 (EW W w' gp11 gl11 gt t G' lf' lf' sw' vv' ag' l A c v) ∧ Aside0 (w'.heap[gn643]? = some (.cells #[.int .i64 l.1, .int .i64 l.2.1, .int .i64 l.2.2.1, .int .i64 l.2.2.2] 24 (0, 0))) ∧ Aside0 (Below W.heap.size W w')) (fun v _ => 3 - (intOf v).toNat)
          case atStart => exact ⟨0, by omega, rfl, HEL, HNL, HBL⟩
          case round =>
            clear HEL HNL HBL
            obtain ⟨i, hi, rfl, HE, HN, HW⟩ := hrel
            have HSL : Aside0 (SI l vv') := ⟨by have h := HS2.out; rw [HLL.out] at h; exact h⟩
            have HZ := Aside0.mk (HVN.out.bounds.1)
            rw [HLL.out] at HZ
            rcases (by omega : i = 0 ∨ i = 1 ∨ i = 2 ∨ i = 3) with rfl | rfl | rfl | rfl
            · obtain ⟨nn, hnn⟩ : ∃ x, leadsN (0 : Nat) (lf' 0) (vv' 0) = x := ⟨_, rfl⟩
              obtain ⟨bb, hbb⟩ : ∃ x, leadsB (0 : Nat) (lf' 0) (vv' 0) = x := ⟨_, rfl⟩
              have hdec : decide (l.1 < nn) = false := by rw [← hnn]; exact HSL.out.leads 0 (by omega) _ _ HZ.out
              have hld := leads_c _ _ _ _ _ _ _ _ (HE.out.at_ 0 (by omega))
              rw [hnn, hbb] at hld
              clear hnn hbb
              have hix : ∀ W, (Instr.index 56 (.agg #[pt (G' 0), pt (G' 1), pt (G' 2)]) (.int .i64 0)).run Try.prog W = .ok (pt (G' 0)) W := fun _ => by kernel_rfl
              go_wp2_with fail
              clear hix
              refine hld.mono ?_
              rintro e wx ⟨rfl, hbx⟩
              have HEX := Aside0.mk (HE.out.below hbx)
              have HNX : Aside0 (wx.heap[gn643]? = some (.cells #[.int .i64 l.1, .int .i64 l.2.1, .int .i64 l.2.2.1, .int .i64 l.2.2.2] 24 (0, 0))) := ⟨blk_below HN.out hbx⟩
              have HBX := Aside0.mk (below_step HW.out hbx)
              clear hld hbx
              have zn : wx.cell? ⟨gn643, 0, none⟩ = some (.int .i64 l.1) := (blk_cell HNX.out 0).trans rfl
              cases bb
              · go_wp2_with fail
                go_roundw
                case rel => exact ⟨1, by omega, by go_num, HEX, HNX, HBX⟩
                case measure => simp [intOf]
              · go_wp2_with fail
                go_roundw
                case rel => exact ⟨1, by omega, by go_num, HEX, HNX, HBX⟩
                case measure => simp [intOf]
            · obtain ⟨nn, hnn⟩ : ∃ x, leadsN (1 : Nat) (lf' 1) (vv' 1) = x := ⟨_, rfl⟩
              obtain ⟨bb, hbb⟩ : ∃ x, leadsB (1 : Nat) (lf' 1) (vv' 1) = x := ⟨_, rfl⟩
              have hdec : decide (l.1 < nn) = false := by rw [← hnn]; exact HSL.out.leads 1 (by omega) _ _ HZ.out
              have hld := leads_c _ _ _ _ _ _ _ _ (HE.out.at_ 1 (by omega))
              rw [hnn, hbb] at hld
              clear hnn hbb
              have hix : ∀ W, (Instr.index 56 (.agg #[pt (G' 0), pt (G' 1), pt (G' 2)]) (.int .i64 1)).run Try.prog W = .ok (pt (G' 1)) W := fun _ => by kernel_rfl
              go_wp2_with fail
              clear hix
              refine hld.mono ?_
              rintro e wx ⟨rfl, hbx⟩
              have HEX := Aside0.mk (HE.out.below hbx)
              have HNX : Aside0 (wx.heap[gn643]? = some (.cells #[.int .i64 l.1, .int .i64 l.2.1, .int .i64 l.2.2.1, .int .i64 l.2.2.2] 24 (0, 0))) := ⟨blk_below HN.out hbx⟩
              have HBX := Aside0.mk (below_step HW.out hbx)
              clear hld hbx
              have zn : wx.cell? ⟨gn643, 0, none⟩ = some (.int .i64 l.1) := (blk_cell HNX.out 0).trans rfl
              cases bb
              · go_wp2_with fail
                go_roundw
                case rel => exact ⟨2, by omega, by go_num, HEX, HNX, HBX⟩
                case measure => simp [intOf]
              · go_wp2_with fail
                go_roundw
                case rel => exact ⟨2, by omega, by go_num, HEX, HNX, HBX⟩
                case measure => simp [intOf]
            · obtain ⟨nn, hnn⟩ : ∃ x, leadsN (2 : Nat) (lf' 2) (vv' 2) = x := ⟨_, rfl⟩
              obtain ⟨bb, hbb⟩ : ∃ x, leadsB (2 : Nat) (lf' 2) (vv' 2) = x := ⟨_, rfl⟩
              have hdec : decide (l.1 < nn) = false := by rw [← hnn]; exact HSL.out.leads 2 (by omega) _ _ HZ.out
              have hld := leads_c _ _ _ _ _ _ _ _ (HE.out.at_ 2 (by omega))
              rw [hnn, hbb] at hld
              clear hnn hbb
              have hix : ∀ W, (Instr.index 56 (.agg #[pt (G' 0), pt (G' 1), pt (G' 2)]) (.int .i64 2)).run Try.prog W = .ok (pt (G' 2)) W := fun _ => by kernel_rfl
              go_wp2_with fail
              clear hix
              refine hld.mono ?_
              rintro e wx ⟨rfl, hbx⟩
              have HEX := Aside0.mk (HE.out.below hbx)
              have HNX : Aside0 (wx.heap[gn643]? = some (.cells #[.int .i64 l.1, .int .i64 l.2.1, .int .i64 l.2.2.1, .int .i64 l.2.2.2] 24 (0, 0))) := ⟨blk_below HN.out hbx⟩
              have HBX := Aside0.mk (below_step HW.out hbx)
              clear hld hbx
              have zn : wx.cell? ⟨gn643, 0, none⟩ = some (.int .i64 l.1) := (blk_cell HNX.out 0).trans rfl
              cases bb
              · go_wp2_with fail
                go_roundw
                case rel => exact ⟨3, by omega, by go_num, HEX, HNX, HBX⟩
                case measure => simp [intOf]
              · go_wp2_with fail
                go_roundw
                case rel => exact ⟨3, by omega, by go_num, HEX, HNX, HBX⟩
                case measure => simp [intOf]
            · go_wp2_with fail
              go_roundw
              case rel => exact ⟨k + 1, A, c, v, G', lf', sw', vv', ag', l, by omega, by go_num, rfl, HE, ⟨⟨by have h := HVN.out; rw [HLL.out] at h; exact h, HSL.out, HLA.out.1, HLA.out.2⟩⟩, HW⟩
              case measure => simp [intOf]; omega
theorem epochs_walk (w : World) (a : Int) (ha : (Lit.int .i64 a).wf = true) (A0 : Option Addr) (c0 : Nat) (acts : List TAct) (hr : kAct.C w A0 acts.length acts) (hc : acts.length ≤ c0) {Q : Prop} (hq : Q) : Calls Try.prog 8 #[.int .i64 a, .slice A0 acts.length c0] w fun e w' => e = .returned (.bool true) ∧ Below w.heap.size w w' := epochs_any w a A0 c0 acts hr
end Go.Proofs.Ytimfbdiiaakhiaa.MAll

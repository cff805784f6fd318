/- Tenure: alive; TenureNone: the walks. -/
import Derived.Test.YtimfbdiiaakhiaaTb
import Derived.Deep.DrawnRows
set_option linter.unusedVariables false
set_option linter.unusedSimpArgs false
namespace Go.Proofs.Ytimfbdiiaakhiaa.MAll
open Go.RowKit Go.Proofs.YtimfbdiiaakhiaaW.PrintWords Go.Proofs.YtimfbdiiaakhiaaW.PrintLast Go.Proofs.YtimfbdiiaakhiaaW.PrintMore
attribute [local go_sem ↓] Go.wp_at_zero Go.wp_at_succ

theorem WAt.keep {W W1 : World} {g : Nat} {nd lf tk : Int} {sw : Bool} {v : List Int} {ag : Int} (h : WAt W g nd lf tk sw v ag) (hg : W.grownBy W1 (some g)) {k t : Nat} {cs : Array Value} (hb : W.heap[k]? = some (.cells cs t (0, 0))) (ht : t ≠ 68) : W1.heap[k]? = some (.cells cs t (0, 0)) := by
  obtain ⟨A', c', h1', _⟩ := h
  exact blk_grown hb hg (fun e => (blk_ne hb h1' ht) (by injection e))
theorem C_blk {W : World} {g e : Nat} {cs : Array Value} (xs : List Int) (h : W.heap[g]? = some (.cells cs e (0, 0))) (hcs : cs = (nums .i64 xs).toArray) (hm : xs.length ≤ 9223372036854775807) : (Kd.int .i64).C W (some ⟨g, 0, none⟩) xs.length xs := by
  subst hcs
  refine Kd.C_of_reads (d := 0) ⟨rfl, hm, fun _ => ⟨_, rfl, fun j hj => ?_⟩⟩
  rw [add_plain]
  refine (blk_cell h j).trans ?_
  simp [nums, List.getD_eq_getElem?_getD, List.getElem?_eq_getElem hj]
theorem mono_ints (l0 l1 : List Int) {k : Nat} (hk : l0.length + 1 ≤ k) (hm : l0.length < 9223372036854775807) : estuarynum_Ints.f k l0 l1 = some (decide (l0 = l1)) := at_rounds (fun k => estuarynum_Ints.mono l0 l1 k) hk (ints_f l0 l1 hm)
theorem same_c (b : Bool) (k0 : Int) (A0 : Option Addr) (c0 : Nat) (o0 : List Int) (B0 : Option Addr) (d0 : Nat) (n0 : List Int) (k1 : Int) (A1 : Option Addr) (c1 : Nat) (o1 : List Int) (B1 : Option Addr) (d1 : Nat) (n1 : List Int) (w : World) (hb : decide (k0 = k1 ∧ o0 = o1 ∧ n0 = n1) = b)
    (h0 : (Kd.int .i64).C w A0 o0.length o0) (g0 : o0.length ≤ c0) (h1 : (Kd.int .i64).C w B0 n0.length n0) (g1 : n0.length ≤ d0) (h2 : (Kd.int .i64).C w A1 o1.length o1) (g2 : o1.length ≤ c1) (h3 : (Kd.int .i64).C w B1 n1.length n1) (g3 : n1.length ≤ d1) (hm0 : o0.length < 17592186044416) (hm1 : n0.length < 17592186044416) :
    Calls Try.prog 22 #[.agg #[.int .i64 k0, .slice A0 o0.length c0, .slice B0 n0.length d0], .agg #[.int .i64 k1, .slice A1 o1.length c1, .slice B1 n1.length d1]] w fun e w' => e = .returned (.bool b) ∧ Below w.heap.size w w' := by
  refine estuarylaw13_same.calls (o0.length + n0.length + 1) k0 A0 c0 o0 B0 d0 n0 k1 A1 c1 o1 B1 d1 n1 b w h0 g0 h1 g1 h2 g2 h3 g3 ?_
  unfold estuarylaw13_same.f
  rw [mono_ints o0 o1 (by omega) (by omega), mono_ints n0 n1 (by omega) (by omega)]
  simp only [Option.bind_some]
  subst hb
  by_cases e1 : k0 = k1
  · by_cases e2 : o0 = o1
    · simp [e1, e2]
    · simp [e1, e2]
  · simp [e1]
theorem field39_0 (x : Int) (A B : Option Addr) (n c m d : Nat) (W : World) : (Instr.field 39 (.agg #[.int .i64 x, .slice A n c, .slice B m d]) 0).run Try.prog W = .ok (.int .i64 x) W := rfl
set_option maxHeartbeats 4000000 in
set_option maxRecDepth 100000 in
theorem alive_any (W : World) : Calls Try.prog 9 #[] W fun e w' => e = .returned (.bool true) ∧ Below W.heap.size W w' := by
  have hu32 := Try.underlying32
  have hu34 := Try.underlying34
  have hu39 := Try.underlying39
  have hfd := field39_0
  go_enter Try.func9, Try.ntmps9
  go_wp2_with fail
  refine (new_c _ (2) (0) (3) (by decide)).mono ?_
  rintro e w1 ⟨gw1, rfl, hge1, hW1, hb1⟩
  have GSw1 : Aside0 (W.heap.size ≤ gw1) := ⟨hge1⟩
  have HB2 := Aside0.mk hb1
  clear hb1
  have Wfw1 := Aside0.mk hW1
  clear hW1 hge1
  go_wp2_with fail
  have hwt3 := want_c _ gw1 (2) (0) (3) (false) ([]) (0) Wfw1.out
  rw [show wantOf _ _ _ _ _ _ = ((1, [], []) : ChT) from by kernel_rfl] at hwt3
  refine hwt3.mono ?_
  rintro e w3 ⟨Ba, da, Ca, fa, rfl, hRo3, hRn3, hb3⟩
  clear hwt3
  have HB4 := Aside0.mk (below_step HB2.out hb3)
  have Wfw4 := Aside0.mk (WAt.below Wfw1.out hb3)
  clear hb3
  have HRo3 := Aside0.mk hRo3
  have HRn3 := Aside0.mk hRn3
  clear hRo3 hRn3
  go_wp2_with fail
  refine (saw_c _ gw1 (2) (0) (3) (false) ([]) (0) Wfw4.out none 0 [] (Kd.C_nil _ _) (Nat.le_refl _) (by simp)).mono ?_
  rw [show sawAge _ _ _ _ = 0 from by kernel_rfl]
  rintro e w5 ⟨rfl, hW5, hg5⟩
  have HB6 := Aside0.mk (below_watch HB4.out hg5 GSw1.out)
  have Rao6 := Aside0.mk (R_watch (e := 0) HRo3.out Wfw4.out hg5)
  have Ran6 := Aside0.mk (R_watch (e := 0) HRn3.out Wfw4.out hg5)
  have Wfw6 := Aside0.mk hW5
  clear hW5 hg5
  go_wp2_with fail
  have hwt7 := want_c _ gw1 (2) (0) (3) (true) ([]) (0) Wfw6.out
  rw [show wantOf _ _ _ _ _ _ = ((2, [], [1, 2, 0, 0]) : ChT) from by kernel_rfl] at hwt7
  refine hwt7.mono ?_
  rintro e w7 ⟨Bb, db, Cb, fb, rfl, hRo7, hRn7, hb7⟩
  clear hwt7
  have HB8 := Aside0.mk (below_step HB6.out hb7)
  have Rao8 := Aside0.mk (Kd.R_below Rao6.out hb7)
  have Ran8 := Aside0.mk (Kd.R_below Ran6.out hb7)
  have Wfw8 := Aside0.mk (WAt.below Wfw6.out hb7)
  clear hb7
  have HRo7 := Aside0.mk hRo7
  have HRn7 := Aside0.mk hRn7
  clear hRo7 hRn7
  go_wp2_with fail
  obtain ⟨W9, hw9⟩ : ∃ x : World, x = w7.alloc (.cells #[.int .i64 2, .slice Bb 0 db, .slice Cb 4 fb] 39) := ⟨_, rfl⟩
  have hbs9 : Below w7.heap.size w7 W9 := by rw [hw9]; repeat (first | exact Below.refl _ _ | refine below_alloc ?_ _ | refine below_drew ?_)
  obtain ⟨gb9, hgb9⟩ : ∃ x, x = w7.heap.size := ⟨_, rfl⟩
  have GSb9 : Aside0 (W.heap.size ≤ gb9) := ⟨by rw [hgb9]; have := HB8.out.size; omega⟩
  have Bb9 : Aside0 (W9.heap[gb9]? = some (.cells #[.int .i64 2, .slice Bb 0 db, .slice Cb 4 fb] 39 (0, 0))) := ⟨by rw [hw9, hgb9]; exact blk_new _ _⟩
  rw [← hw9]
  rw [← hgb9]
  clear hw9 hgb9
  have HB10 := Aside0.mk (below_step HB8.out hbs9)
  have Rao10 := Aside0.mk (Kd.R_below Rao8.out hbs9)
  have Ran10 := Aside0.mk (Kd.R_below Ran8.out hbs9)
  have Rbo10 := Aside0.mk (Kd.R_below HRo7.out hbs9)
  have Rbn10 := Aside0.mk (Kd.R_below HRn7.out hbs9)
  have Wfw10 := Aside0.mk (WAt.below Wfw8.out hbs9)
  clear hbs9
  refine (saw_c _ gw1 (2) (0) (3) (true) ([]) (0) Wfw10.out Cb fb [1, 2, 0, 0] (Kd.R_reads' Rbn10.out).2.2 (Kd.R_reads' Rbn10.out).2.1 (by simp)).mono ?_
  rw [show sawAge _ _ _ _ = 0 from by kernel_rfl]
  rintro e w11 ⟨rfl, hW11, hg11⟩
  have HB12 := Aside0.mk (below_watch HB10.out hg11 GSw1.out)
  have Bb12 : Aside0 (w11.heap[gb9]? = some (.cells #[.int .i64 2, .slice Bb 0 db, .slice Cb 4 fb] 39 (0, 0))) := ⟨WAt.keep Wfw10.out hg11 Bb9.out (by decide)⟩
  have Rao12 := Aside0.mk (R_watch (e := 0) Rao10.out Wfw10.out hg11)
  have Ran12 := Aside0.mk (R_watch (e := 0) Ran10.out Wfw10.out hg11)
  have Rbo12 := Aside0.mk (R_watch (e := 0) Rbo10.out Wfw10.out hg11)
  have Rbn12 := Aside0.mk (R_watch (e := 0) Rbn10.out Wfw10.out hg11)
  have Wfw12 := Aside0.mk hW11
  clear hW11 hg11
  go_wp2_with fail
  have hld := leads_c _ gw1 (2) (0) (3) (true) ([1, 2, 0, 0]) (0) Wfw12.out
  rw [show leadsN _ _ _ = 1 by kernel_rfl, show leadsB _ _ _ = true by kernel_rfl] at hld
  refine hld.mono ?_
  rintro e w20 ⟨rfl, hb20⟩
  clear hld
  have HB13 := Aside0.mk (below_step HB12.out hb20)
  have Bb13 : Aside0 (w20.heap[gb9]? = some (.cells #[.int .i64 2, .slice Bb 0 db, .slice Cb 4 fb] 39 (0, 0))) := ⟨(hb20.block _ (blk_lt Bb12.out)).trans Bb12.out⟩
  have Rao13 := Aside0.mk (Kd.R_below Rao12.out hb20)
  have Ran13 := Aside0.mk (Kd.R_below Ran12.out hb20)
  have Rbo13 := Aside0.mk (Kd.R_below Rbo12.out hb20)
  have Rbn13 := Aside0.mk (Kd.R_below Rbn12.out hb20)
  have Wfw13 := Aside0.mk (WAt.below Wfw12.out hb20)
  clear hb20
  go_wp2_with fail
  have hwt14 := want_c _ gw1 (2) (0) (3) (true) ([1, 2, 0, 0]) (0) Wfw13.out
  rw [show wantOf _ _ _ _ _ _ = ((2, [1, 2, 0, 0], [1, 2, 0, 1]) : ChT) from by kernel_rfl] at hwt14
  refine hwt14.mono ?_
  rintro e w14 ⟨Bc, dc, Cc, fc, rfl, hRo14, hRn14, hb14⟩
  clear hwt14
  have HB15 := Aside0.mk (below_step HB13.out hb14)
  have Bb15 : Aside0 (w14.heap[gb9]? = some (.cells #[.int .i64 2, .slice Bb 0 db, .slice Cb 4 fb] 39 (0, 0))) := ⟨(hb14.block _ (blk_lt Bb13.out)).trans Bb13.out⟩
  have Rao15 := Aside0.mk (Kd.R_below Rao13.out hb14)
  have Ran15 := Aside0.mk (Kd.R_below Ran13.out hb14)
  have Rbo15 := Aside0.mk (Kd.R_below Rbo13.out hb14)
  have Rbn15 := Aside0.mk (Kd.R_below Rbn13.out hb14)
  have Wfw15 := Aside0.mk (WAt.below Wfw13.out hb14)
  clear hb14
  have HRo14 := Aside0.mk hRo14
  have HRn14 := Aside0.mk hRn14
  clear hRo14 hRn14
  have zb16_0 : w14.cell? ⟨gb9, 0, none⟩ = some (.int .i64 2) := (blk_cell Bb15.out 0).trans rfl
  have zb16_1 : w14.cell? ⟨gb9, 1, none⟩ = some (.slice Bb 0 db) := (blk_cell Bb15.out 1).trans rfl
  have zb16_2 : w14.cell? ⟨gb9, 2, none⟩ = some (.slice Cb 4 fb) := (blk_cell Bb15.out 2).trans rfl
  have zab17_0 : ∀ o, (w14.alloc o).cell? ⟨gb9, 0, none⟩ = some (.int .i64 2) := fun o => (blk_cell (blk_alloc Bb15.out o) 0).trans rfl
  have zab17_1 : ∀ o, (w14.alloc o).cell? ⟨gb9, 1, none⟩ = some (.slice Bb 0 db) := fun o => (blk_cell (blk_alloc Bb15.out o) 1).trans rfl
  have zab17_2 : ∀ o, (w14.alloc o).cell? ⟨gb9, 2, none⟩ = some (.slice Cb 4 fb) := fun o => (blk_cell (blk_alloc Bb15.out o) 2).trans rfl
  go_wp2_with fail
  obtain ⟨W18, hw18⟩ : ∃ x : World, x = (w14.alloc (.cells #[.int .i64 2, .slice Bc 4 dc, .slice Cc 4 fc] 39)).alloc (.cells #[.int .i64 1, .int .i64 2, .int .i64 0, .int .i64 0] 3) := ⟨_, rfl⟩
  have hbs18 : Below w14.heap.size w14 W18 := by rw [hw18]; repeat (first | exact Below.refl _ _ | refine below_alloc ?_ _ | refine below_drew ?_)
  obtain ⟨gc18, hgc18⟩ : ∃ x, x = w14.heap.size := ⟨_, rfl⟩
  have GSc18 : Aside0 (W.heap.size ≤ gc18) := ⟨by rw [hgc18]; have := HB15.out.size; omega⟩
  have Bc18 : Aside0 (W18.heap[gc18]? = some (.cells #[.int .i64 2, .slice Bc 4 dc, .slice Cc 4 fc] 39 (0, 0))) := ⟨by rw [hw18, hgc18]; exact blk_alloc (blk_new _ _) _⟩
  obtain ⟨gx18, hgx18⟩ : ∃ x, x = w14.heap.size + 1 := ⟨_, rfl⟩
  have GSx18 : Aside0 (W.heap.size ≤ gx18) := ⟨by rw [hgx18]; have := HB15.out.size; omega⟩
  have Bx18 : Aside0 (W18.heap[gx18]? = some (.cells #[.int .i64 1, .int .i64 2, .int .i64 0, .int .i64 0] 3 (0, 0))) := ⟨by rw [hw18, hgx18]; have := blk_new (w14.alloc (.cells #[.int .i64 2, .slice Bc 4 dc, .slice Cc 4 fc] 39)) (.cells #[.int .i64 1, .int .i64 2, .int .i64 0, .int .i64 0] 3); rwa [World.size_alloc] at this⟩
  rw [← hw18]
  rw [← hgx18]
  rw [← hgc18]
  clear hw18 hgc18 hgx18
  clear zb16_0 zb16_1 zb16_2 zab17_0 zab17_1 zab17_2
  have HB19 := Aside0.mk (below_step HB15.out hbs18)
  have Bb19 : Aside0 (W18.heap[gb9]? = some (.cells #[.int .i64 2, .slice Bb 0 db, .slice Cb 4 fb] 39 (0, 0))) := ⟨(hbs18.block _ (blk_lt Bb15.out)).trans Bb15.out⟩
  have Rao19 := Aside0.mk (Kd.R_below Rao15.out hbs18)
  have Ran19 := Aside0.mk (Kd.R_below Ran15.out hbs18)
  have Rbo19 := Aside0.mk (Kd.R_below Rbo15.out hbs18)
  have Rbn19 := Aside0.mk (Kd.R_below Rbn15.out hbs18)
  have Rco19 := Aside0.mk (Kd.R_below HRo14.out hbs18)
  have Rcn19 := Aside0.mk (Kd.R_below HRn14.out hbs18)
  have Wfw19 := Aside0.mk (WAt.below Wfw15.out hbs18)
  clear hbs18
  refine (ints_v true Cb fb [1, 2, 0, 0] _ _ [1, 2, 0, 0] _ rfl (Kd.R_reads' Rbn19.out).2.2 (Kd.R_reads' Rbn19.out).2.1 (C_blk [1, 2, 0, 0] Bx18.out rfl (by simp)) (Nat.le_refl _) (by simp)).mono ?_
  rintro e w20 ⟨rfl, hb20⟩
  have HB21 := Aside0.mk (below_step HB19.out hb20)
  have Bb21 : Aside0 (w20.heap[gb9]? = some (.cells #[.int .i64 2, .slice Bb 0 db, .slice Cb 4 fb] 39 (0, 0))) := ⟨(hb20.block _ (blk_lt Bb19.out)).trans Bb19.out⟩
  have Bc21 : Aside0 (w20.heap[gc18]? = some (.cells #[.int .i64 2, .slice Bc 4 dc, .slice Cc 4 fc] 39 (0, 0))) := ⟨(hb20.block _ (blk_lt Bc18.out)).trans Bc18.out⟩
  have Bx21 : Aside0 (w20.heap[gx18]? = some (.cells #[.int .i64 1, .int .i64 2, .int .i64 0, .int .i64 0] 3 (0, 0))) := ⟨(hb20.block _ (blk_lt Bx18.out)).trans Bx18.out⟩
  have Rao21 := Aside0.mk (Kd.R_below Rao19.out hb20)
  have Ran21 := Aside0.mk (Kd.R_below Ran19.out hb20)
  have Rbo21 := Aside0.mk (Kd.R_below Rbo19.out hb20)
  have Rbn21 := Aside0.mk (Kd.R_below Rbn19.out hb20)
  have Rco21 := Aside0.mk (Kd.R_below Rco19.out hb20)
  have Rcn21 := Aside0.mk (Kd.R_below Rcn19.out hb20)
  have Wfw21 := Aside0.mk (WAt.below Wfw19.out hb20)
  clear hb20
  have zb22_0 : w20.cell? ⟨gb9, 0, none⟩ = some (.int .i64 2) := (blk_cell Bb21.out 0).trans rfl
  have zb22_1 : w20.cell? ⟨gb9, 1, none⟩ = some (.slice Bb 0 db) := (blk_cell Bb21.out 1).trans rfl
  have zb22_2 : w20.cell? ⟨gb9, 2, none⟩ = some (.slice Cb 4 fb) := (blk_cell Bb21.out 2).trans rfl
  have zc22_0 : w20.cell? ⟨gc18, 0, none⟩ = some (.int .i64 2) := (blk_cell Bc21.out 0).trans rfl
  have zc22_1 : w20.cell? ⟨gc18, 1, none⟩ = some (.slice Bc 4 dc) := (blk_cell Bc21.out 1).trans rfl
  have zc22_2 : w20.cell? ⟨gc18, 2, none⟩ = some (.slice Cc 4 fc) := (blk_cell Bc21.out 2).trans rfl
  go_wp2_with fail
  obtain ⟨W23, hw23⟩ : ∃ x : World, x = w20.alloc (.cells #[.int .i64 1, .int .i64 2, .int .i64 0, .int .i64 1] 3) := ⟨_, rfl⟩
  have hbs23 : Below w20.heap.size w20 W23 := by rw [hw23]; repeat (first | exact Below.refl _ _ | refine below_alloc ?_ _ | refine below_drew ?_)
  obtain ⟨gy23, hgy23⟩ : ∃ x, x = w20.heap.size := ⟨_, rfl⟩
  have GSy23 : Aside0 (W.heap.size ≤ gy23) := ⟨by rw [hgy23]; have := HB21.out.size; omega⟩
  have By23 : Aside0 (W23.heap[gy23]? = some (.cells #[.int .i64 1, .int .i64 2, .int .i64 0, .int .i64 1] 3 (0, 0))) := ⟨by rw [hw23, hgy23]; exact blk_new _ _⟩
  rw [← hw23]
  rw [← hgy23]
  clear hw23 hgy23
  clear zb22_0 zb22_1 zb22_2 zc22_0 zc22_1 zc22_2
  have HB24 := Aside0.mk (below_step HB21.out hbs23)
  have Bb24 : Aside0 (W23.heap[gb9]? = some (.cells #[.int .i64 2, .slice Bb 0 db, .slice Cb 4 fb] 39 (0, 0))) := ⟨(hbs23.block _ (blk_lt Bb21.out)).trans Bb21.out⟩
  have Bc24 : Aside0 (W23.heap[gc18]? = some (.cells #[.int .i64 2, .slice Bc 4 dc, .slice Cc 4 fc] 39 (0, 0))) := ⟨(hbs23.block _ (blk_lt Bc21.out)).trans Bc21.out⟩
  have Bx24 : Aside0 (W23.heap[gx18]? = some (.cells #[.int .i64 1, .int .i64 2, .int .i64 0, .int .i64 0] 3 (0, 0))) := ⟨(hbs23.block _ (blk_lt Bx21.out)).trans Bx21.out⟩
  have Rao24 := Aside0.mk (Kd.R_below Rao21.out hbs23)
  have Ran24 := Aside0.mk (Kd.R_below Ran21.out hbs23)
  have Rbo24 := Aside0.mk (Kd.R_below Rbo21.out hbs23)
  have Rbn24 := Aside0.mk (Kd.R_below Rbn21.out hbs23)
  have Rco24 := Aside0.mk (Kd.R_below Rco21.out hbs23)
  have Rcn24 := Aside0.mk (Kd.R_below Rcn21.out hbs23)
  have Wfw24 := Aside0.mk (WAt.below Wfw21.out hbs23)
  clear hbs23
  refine (ints_v true Cc fc [1, 2, 0, 1] _ _ [1, 2, 0, 1] _ rfl (Kd.R_reads' Rcn24.out).2.2 (Kd.R_reads' Rcn24.out).2.1 (C_blk [1, 2, 0, 1] By23.out rfl (by simp)) (Nat.le_refl _) (by simp)).mono ?_
  rintro e w25 ⟨rfl, hb25⟩
  have HB26 := Aside0.mk (below_step HB24.out hb25)
  have Bb26 : Aside0 (w25.heap[gb9]? = some (.cells #[.int .i64 2, .slice Bb 0 db, .slice Cb 4 fb] 39 (0, 0))) := ⟨(hb25.block _ (blk_lt Bb24.out)).trans Bb24.out⟩
  have Bc26 : Aside0 (w25.heap[gc18]? = some (.cells #[.int .i64 2, .slice Bc 4 dc, .slice Cc 4 fc] 39 (0, 0))) := ⟨(hb25.block _ (blk_lt Bc24.out)).trans Bc24.out⟩
  have Bx26 : Aside0 (w25.heap[gx18]? = some (.cells #[.int .i64 1, .int .i64 2, .int .i64 0, .int .i64 0] 3 (0, 0))) := ⟨(hb25.block _ (blk_lt Bx24.out)).trans Bx24.out⟩
  have By26 : Aside0 (w25.heap[gy23]? = some (.cells #[.int .i64 1, .int .i64 2, .int .i64 0, .int .i64 1] 3 (0, 0))) := ⟨(hb25.block _ (blk_lt By23.out)).trans By23.out⟩
  have Rao26 := Aside0.mk (Kd.R_below Rao24.out hb25)
  have Ran26 := Aside0.mk (Kd.R_below Ran24.out hb25)
  have Rbo26 := Aside0.mk (Kd.R_below Rbo24.out hb25)
  have Rbn26 := Aside0.mk (Kd.R_below Rbn24.out hb25)
  have Rco26 := Aside0.mk (Kd.R_below Rco24.out hb25)
  have Rcn26 := Aside0.mk (Kd.R_below Rcn24.out hb25)
  have Wfw26 := Aside0.mk (WAt.below Wfw24.out hb25)
  clear hb25
  go_wp2_with fail
  go_ret
  exact ⟨rfl, HB26.out⟩
theorem tick_nil (W : World) : Calls Try.prog 16 #[.pointer none] W fun e w' => e = .returned (.tuple #[]) ∧ Below W.heap.size W w' := by
  have hu32 := Try.underlying32
  go_enter Try.func16, Try.ntmps16
  go_wp2_with fail
  first | go_end0 | ((try simp only [Exit.inBlock, Exit.then]); refine bodyPost_ret (results_none rfl _ _ _) rfl ?_)
  exact ⟨rfl, by repeat (first | exact Below.refl _ _ | apply below_drew | apply pw_below_drewN)⟩
theorem age_nil (W : World) : Calls Try.prog 19 #[.pointer none] W fun e w' => e = .returned (.int .i64 0) ∧ Below W.heap.size W w' := by
  have hu32 := Try.underlying32
  go_enter Try.func19, Try.ntmps19
  go_wp2_with fail
  go_ret
  exact ⟨rfl, by repeat (first | exact Below.refl _ _ | apply below_drew | apply pw_below_drewN)⟩
theorem saw_nil (W : World) (B : Option Addr) (n d : Nat) : Calls Try.prog 15 #[.pointer none, .slice B n d] W fun e w' => e = .returned (.tuple #[]) ∧ Below W.heap.size W w' := by
  have hu32 := Try.underlying32
  go_enter Try.func15, Try.ntmps15
  go_wp2_with fail
  first | go_end0 | ((try simp only [Exit.inBlock, Exit.then]); refine bodyPost_ret (results_none rfl _ _ _) rfl ?_)
  exact ⟨rfl, by repeat (first | exact Below.refl _ _ | apply below_drew | apply pw_below_drewN)⟩
theorem lease_nil (W : World) : Calls Try.prog 21 #[.pointer none] W fun e w' => e = .returned (.tuple #[.agg #[.int .i64 0, .int .i64 0, .int .i64 0, .int .i64 0], .bool false]) ∧ Below W.heap.size W w' := by
  have hu32 := Try.underlying32
  have hu24 := Try.underlying24
  go_enter Try.func21, Try.ntmps21
  go_wp2_with fail
  refine bodyPost_ret (results_ct rfl _ _ W.heap.size 24 #[.int .i64 0, .int .i64 0, .int .i64 0, .int .i64 0] (0, 0) _ rfl (blk_new _ _) Try.underlying24 rfl (by kernel_rfl)) rfl ?_
  exact ⟨rfl, below_alloc (Below.refl _ _) _⟩
set_option maxHeartbeats 1000000 in
theorem leads_nil (W : World) : Calls Try.prog 18 #[.pointer none] W fun e w' => e = .returned (.tuple #[.int .i64 0, .bool false]) ∧ Below W.heap.size W w' := by
  have hu24 := Try.underlying24
  go_enter Try.func18, Try.ntmps18
  go_wp2_with fail
  refine (lease_nil _).mono ?_
  rintro e w2 ⟨rfl, hb2⟩
  have HB := Aside0.mk hb2
  clear hb2
  go_wp2_with fail
  obtain ⟨W1, hw1⟩ : ∃ x : World, x = w2.alloc (.cells #[.int .i64 0, .int .i64 0, .int .i64 0, .int .i64 0] 24) := ⟨_, rfl⟩
  have hbs1 : Below w2.heap.size w2 W1 := by rw [hw1]; repeat (first | exact Below.refl _ _ | refine below_alloc ?_ _ | refine below_drew ?_)
  obtain ⟨gl1, hgl1⟩ : ∃ x, x = w2.heap.size := ⟨_, rfl⟩
  have GSl1 : Aside0 (W.heap.size ≤ gl1) := ⟨by rw [hgl1]; have := HB.out.size; omega⟩
  have Bl1 : Aside0 (W1.heap[gl1]? = some (.cells #[.int .i64 0, .int .i64 0, .int .i64 0, .int .i64 0] 24 (0, 0))) := ⟨by rw [hw1, hgl1]; exact blk_new _ _⟩
  rw [← hw1]
  rw [← hgl1]
  clear hw1 hgl1
  have HB2 := Aside0.mk (below_step HB.out hbs1)
  clear hbs1
  have zl3_0 : W1.cell? ⟨gl1, 0, none⟩ = some (.int .i64 0) := (blk_cell Bl1.out 0).trans rfl
  have zl3_1 : W1.cell? ⟨gl1, 1, none⟩ = some (.int .i64 0) := (blk_cell Bl1.out 1).trans rfl
  have zl3_2 : W1.cell? ⟨gl1, 2, none⟩ = some (.int .i64 0) := (blk_cell Bl1.out 2).trans rfl
  have zl3_3 : W1.cell? ⟨gl1, 3, none⟩ = some (.int .i64 0) := (blk_cell Bl1.out 3).trans rfl
  refine start_ (n := 14) (S := fun w' => w'.cell? ⟨gl1, 0, none⟩ = some (.int .i64 0) ∧ w'.cell? ⟨gl1, 1, none⟩ = some (.int .i64 0) ∧ w'.cell? ⟨gl1, 2, none⟩ = some (.int .i64 0) ∧ w'.cell? ⟨gl1, 3, none⟩ = some (.int .i64 0)) (ds := []) #[false, false, false, false, false, false, false, false, false, false, false, false, false, false] (by kernel_rfl) rfl rfl ⟨zl3_0, zl3_1, zl3_2, zl3_3⟩ (fun hHeld => ?_)
  refine pure_ (i := 0) (N := some 11) (v := ?_) (a' := ?_) #[true, false, false, false, false, false, false, false, false, false, false, false, false, false] rfl rfl (by kernel_rfl) (fun _ _ _ h => h) (Or.inl ⟨by rfl, ?_⟩) ?_ ?_
  rotate_left
  · intro w'
    go_simp
    with_reducible rfl
  rotate_left
  · simp only [Act.put, List.setIfInBounds_toArray, List.set_cons_zero, List.set_cons_succ, i64_w, i32_w]
    rfl
  refine pure_ (i := 1) (N := some 12) (v := ?_) (a' := ?_) #[true, true, false, false, false, false, false, false, false, false, false, false, false, false] rfl rfl (by kernel_rfl) (fun _ _ _ h => h) (Or.inl ⟨by rfl, ?_⟩) ?_ ?_
  rotate_left
  · intro w'
    go_simp
    with_reducible rfl
  rotate_left
  · simp only [Act.put, List.setIfInBounds_toArray, List.set_cons_zero, List.set_cons_succ, i64_w, i32_w]
    rfl
  refine pure_ (i := 2) (N := some 13) (v := ?_) (a' := ?_) #[true, true, true, false, false, false, false, false, false, false, false, false, false, false] rfl rfl (by kernel_rfl) (fun _ _ _ h => h) (Or.inl ⟨by rfl, ?_⟩) ?_ ?_
  rotate_left
  · intro w'
    go_simp
    with_reducible rfl
  rotate_left
  · simp only [Act.put, List.setIfInBounds_toArray, List.set_cons_zero, List.set_cons_succ, i64_w, i32_w]
    rfl
  refine pure_ (i := 3) (N := some 14) (v := undef) (a' := ?_) #[true, true, true, true, false, false, false, false, false, false, false, false, false, false] rfl rfl (by kernel_rfl) (fun _ _ _ h => h) (Or.inr ⟨by rfl, rfl⟩) ?_ ?_
  rotate_left
  · simp only [Act.put, List.setIfInBounds_toArray, List.set_cons_zero, List.set_cons_succ, i64_w, i32_w]
    rfl
  refine pure_ (i := 4) (N := some 15) (v := undef) (a' := ?_) #[true, true, true, true, true, false, false, false, false, false, false, false, false, false] rfl rfl (by kernel_rfl) (fun _ _ _ h => h) (Or.inr ⟨by rfl, rfl⟩) ?_ ?_
  rotate_left
  · simp only [Act.put, List.setIfInBounds_toArray, List.set_cons_zero, List.set_cons_succ, i64_w, i32_w]
    rfl
  refine pure_ (i := 5) (N := some 16) (v := undef) (a' := ?_) #[true, true, true, true, true, true, false, false, false, false, false, false, false, false] rfl rfl (by kernel_rfl) (fun _ _ _ h => h) (Or.inr ⟨by rfl, rfl⟩) ?_ ?_
  rotate_left
  · simp only [Act.put, List.setIfInBounds_toArray, List.set_cons_zero, List.set_cons_succ, i64_w, i32_w]
    rfl
  refine pure_ (i := 6) (N := some 17) (v := undef) (a' := ?_) #[true, true, true, true, true, true, true, false, false, false, false, false, false, false] rfl rfl (by kernel_rfl) (fun _ _ _ h => h) (Or.inr ⟨by rfl, rfl⟩) ?_ ?_
  rotate_left
  · simp only [Act.put, List.setIfInBounds_toArray, List.set_cons_zero, List.set_cons_succ, i64_w, i32_w]
    rfl
  refine pure_ (i := 7) (N := some 18) (v := undef) (a' := ?_) #[true, true, true, true, true, true, true, true, false, false, false, false, false, false] rfl rfl (by kernel_rfl) (fun _ _ _ h => h) (Or.inr ⟨by rfl, rfl⟩) ?_ ?_
  rotate_left
  · simp only [Act.put, List.setIfInBounds_toArray, List.set_cons_zero, List.set_cons_succ, i64_w, i32_w]
    rfl
  refine pure_ (i := 8) (N := some 19) (v := undef) (a' := ?_) #[true, true, true, true, true, true, true, true, true, false, false, false, false, false] rfl rfl (by kernel_rfl) (fun _ _ _ h => h) (Or.inr ⟨by rfl, rfl⟩) ?_ ?_
  rotate_left
  · simp only [Act.put, List.setIfInBounds_toArray, List.set_cons_zero, List.set_cons_succ, i64_w, i32_w]
    rfl
  refine pure_ (i := 9) (N := some 20) (v := undef) (a' := ?_) #[true, true, true, true, true, true, true, true, true, true, false, false, false, false] rfl rfl (by kernel_rfl) (fun _ _ _ h => h) (Or.inr ⟨by rfl, rfl⟩) ?_ ?_
  rotate_left
  · simp only [Act.put, List.setIfInBounds_toArray, List.set_cons_zero, List.set_cons_succ, i64_w, i32_w]
    rfl
  refine pure_ (i := 10) (N := some 21) (v := undef) (a' := ?_) #[true, true, true, true, true, true, true, true, true, true, true, false, false, false] rfl rfl (by kernel_rfl) (fun _ _ _ h => h) (Or.inr ⟨by rfl, rfl⟩) ?_ ?_
  rotate_left
  · simp only [Act.put, List.setIfInBounds_toArray, List.set_cons_zero, List.set_cons_succ, i64_w, i32_w]
    rfl
  refine pure_ (i := 11) (N := some 22) (v := undef) (a' := ?_) #[true, true, true, true, true, true, true, true, true, true, true, true, false, false] rfl rfl (by kernel_rfl) (fun _ _ _ h => h) (Or.inr ⟨by rfl, rfl⟩) ?_ ?_
  rotate_left
  · simp only [Act.put, List.setIfInBounds_toArray, List.set_cons_zero, List.set_cons_succ, i64_w, i32_w]
    rfl
  refine pure_ (i := 12) (N := some 23) (v := undef) (a' := ?_) #[true, true, true, true, true, true, true, true, true, true, true, true, true, false] rfl rfl (by kernel_rfl) (fun _ _ _ h => h) (Or.inr ⟨by rfl, rfl⟩) ?_ ?_
  rotate_left
  · simp only [Act.put, List.setIfInBounds_toArray, List.set_cons_zero, List.set_cons_succ, i64_w, i32_w]
    rfl
  refine pure_ (i := 13) (N := some 24) (v := ?_) (a' := ?_) #[true, true, true, true, true, true, true, true, true, true, true, true, true, true] rfl rfl (by kernel_rfl) (fun _ _ _ h => h) (Or.inl ⟨by rfl, ?_⟩) ?_ ?_
  rotate_left
  · intro w'
    go_simp
    with_reducible rfl
  rotate_left
  · simp only [Act.put, List.setIfInBounds_toArray, List.set_cons_zero, List.set_cons_succ, i64_w, i32_w]
    rfl
  refine done_ (by kernel_rfl) ?_
  obtain ⟨W4, hw4⟩ : ∃ x : World, x = W1.drew := ⟨_, rfl⟩
  have hbd4 : Below W1.heap.size W1 W4 := by rw [hw4]; exact below_drew (Below.refl _ _)
  rw [← hw4]
  clear hw4
  clear zl3_0 zl3_1 zl3_2 zl3_3
  have HB5 := Aside0.mk (below_step HB2.out hbd4)
  have Bl5 : Aside0 (W4.heap[gl1]? = some (.cells #[.int .i64 0, .int .i64 0, .int .i64 0, .int .i64 0] 24 (0, 0))) := ⟨(hbd4.block _ (blk_lt Bl1.out)).trans Bl1.out⟩
  clear hbd4
  go_wp2_with fail
  go_ret2
  exact ⟨rfl, HB5.out⟩
set_option maxHeartbeats 1000000 in
theorem want_nil (W : World) : Calls Try.prog 17 #[.pointer none] W (WantPost W (1, [], [])) := by
  have hu32 := Try.underlying32
  have hu39 := Try.underlying39
  go_enter Try.func17, Try.ntmps17
  go_wp2_with ((with_reducible refine gate_dst (N := 2) rfl ?_); refine box_event ?hg (N := 2) ?hd (cs := #[.int .i64 0, .slice none 0 0, .slice none 0 0]) (t := 39) ?hr ?_; (case hd => rfl); (case hg => rfl); (case hr => first | (go_simp; done) | (go_simp; rfl)); intro gb1 hg1 W1 hbox1 hb1; have GSb1 : Aside0 (W.heap.size ≤ gb1) := ⟨by rw [hg1]; exact Nat.le_refl _⟩; have Bb1 := Aside0.mk hbox1; have Gb1 : Aside0 (W.heap.size ≤ gb1) := ⟨by rw [hg1]; exact Nat.le_refl _⟩; have hbk1 := hb1; clear hg1 hbox1; have HB2 := Aside0.mk hbk1; clear hbk1; clear hb1; have zb3_0 : W1.cell? ⟨gb1, 0, none⟩ = some (.int .i64 0) := (blk_cell Bb1.out 0).trans rfl; have zb3_1 : W1.cell? ⟨gb1, 1, none⟩ = some (.slice none 0 0) := (blk_cell Bb1.out 1).trans rfl; have zb3_2 : W1.cell? ⟨gb1, 2, none⟩ = some (.slice none 0 0) := (blk_cell Bb1.out 2).trans rfl)
  go_wp2_with fail
  refine (read_v _).mono ?_
  rintro e w8 ⟨B, d, B', d', rfl, hRa, hRb, hb4⟩
  clear zb3_0 zb3_1 zb3_2
  have HB5 := Aside0.mk (below_step HB2.out hb4)
  have Bb5 : Aside0 (w8.heap[gb1]? = some (.cells #[.int .i64 0, .slice none 0 0, .slice none 0 0] 39 (0, 0))) := ⟨(hb4.block _ (blk_lt Bb1.out)).trans Bb1.out⟩
  clear hb4
  have HRa := Aside0.mk (Kd.R_lower hRa HB2.out.size)
  have HRb := Aside0.mk (Kd.R_lower hRb HB2.out.size)
  clear hRa hRb
  have hf0 := blk_frozen Bb5.out 0
  have hf1 := blk_frozen Bb5.out 1
  have hf2 := blk_frozen Bb5.out 2
  have zb6_0 : w8.cell? ⟨gb1, 0, none⟩ = some (.int .i64 0) := (blk_cell Bb5.out 0).trans rfl
  have zb6_1 : w8.cell? ⟨gb1, 1, none⟩ = some (.slice none 0 0) := (blk_cell Bb5.out 1).trans rfl
  have zb6_2 : w8.cell? ⟨gb1, 2, none⟩ = some (.slice none 0 0) := (blk_cell Bb5.out 2).trans rfl
  go_wp2_with fail
  refine bodyPost_ret (results_cell_row rfl _ _ gb1 39 #[.int .i64 1, .slice B 0 d, .slice B' 0 d'] (0, 0) _ rfl (by refine blk_put (cs := #[.int .i64 1, .slice B 0 d, .slice none 0 0]) ?_ 2 _ rfl; refine blk_put (cs := #[.int .i64 1, .slice none 0 0, .slice none 0 0]) ?_ 1 _ rfl; refine blk_put (cs := #[.int .i64 0, .slice none 0 0, .slice none 0 0]) ?_ 0 _ rfl; exact Bb5.out) Try.underlying39 rfl (by kernel_rfl)) rfl ?_
  exact ⟨_, _, _, _, rfl, Kd.R_mono (Kd.R_far (p := ⟨gb1, 2, none⟩) (Kd.R_far (p := ⟨gb1, 1, none⟩) (Kd.R_far (p := ⟨gb1, 0, none⟩) (Kd.R_types HRa.out Bb5.out (by decide)) (fun _ hk => hk.2) _) (fun _ hk => hk.2) _) (fun _ hk => hk.2) _) (fun _ _ => trivial), Kd.R_mono (Kd.R_far (p := ⟨gb1, 2, none⟩) (Kd.R_far (p := ⟨gb1, 1, none⟩) (Kd.R_far (p := ⟨gb1, 0, none⟩) (Kd.R_types HRb.out Bb5.out (by decide)) (fun _ hk => hk.2) _) (fun _ hk => hk.2) _) (fun _ hk => hk.2) _) (fun _ hk => hk.1), by repeat (first | exact HB5.out | refine below_set ?_ GSb1.out)⟩
set_option maxHeartbeats 4000000 in
set_option maxRecDepth 100000 in
theorem none_any (A0 : Option Addr) (c0 : Nat) (v : List Int) (W : World) : Calls Try.prog 7 #[.slice A0 v.length c0] W fun e w' => e = .returned (.bool true) ∧ Below W.heap.size W w' := by
  have hu24 := Try.underlying24
  have hu39 := Try.underlying39
  have hu32 := Try.underlying32
  go_enter Try.func7, Try.ntmps7
  go_wp2_with fail
  refine (alive_any _).mono ?_
  rintro e w1 ⟨rfl, hb1⟩
  have HB2 := Aside0.mk hb1
  clear hb1
  go_wp2_with fail
  refine (tick_nil _).mono ?_
  rintro e w3 ⟨rfl, hb3⟩
  have HB4 := Aside0.mk (below_step HB2.out hb3)
  clear hb3
  go_wp2_with fail
  refine (saw_nil _ _ _ _).mono ?_
  rintro e w5 ⟨rfl, hb5⟩
  have HB6 := Aside0.mk (below_step HB4.out hb5)
  clear hb5
  go_wp2_with fail
  refine (leads_nil _).mono ?_
  rintro e w7 ⟨rfl, hb7⟩
  have HB8 := Aside0.mk (below_step HB6.out hb7)
  clear hb7
  go_wp2_with fail
  refine (lease_nil _).mono ?_
  rintro e w9 ⟨rfl, hb9⟩
  have HB10 := Aside0.mk (below_step HB8.out hb9)
  clear hb9
  go_wp2_with fail
  obtain ⟨W11, hw11⟩ : ∃ x : World, x = w9.alloc (.cells #[.int .i64 0, .int .i64 0, .int .i64 0, .int .i64 0] 24) := ⟨_, rfl⟩
  have hbs11 : Below w9.heap.size w9 W11 := by rw [hw11]; repeat (first | exact Below.refl _ _ | refine below_alloc ?_ _ | refine below_drew ?_)
  obtain ⟨gl11, hgl11⟩ : ∃ x, x = w9.heap.size := ⟨_, rfl⟩
  have GSl11 : Aside0 (W.heap.size ≤ gl11) := ⟨by rw [hgl11]; have := HB10.out.size; omega⟩
  have Bl11 : Aside0 (W11.heap[gl11]? = some (.cells #[.int .i64 0, .int .i64 0, .int .i64 0, .int .i64 0] 24 (0, 0))) := ⟨by rw [hw11, hgl11]; exact blk_new _ _⟩
  rw [← hw11]
  rw [← hgl11]
  clear hw11 hgl11
  have HB12 := Aside0.mk (below_step HB10.out hbs11)
  clear hbs11
  have zl13_0 : W11.cell? ⟨gl11, 0, none⟩ = some (.int .i64 0) := (blk_cell Bl11.out 0).trans rfl
  have zl13_1 : W11.cell? ⟨gl11, 1, none⟩ = some (.int .i64 0) := (blk_cell Bl11.out 1).trans rfl
  have zl13_2 : W11.cell? ⟨gl11, 2, none⟩ = some (.int .i64 0) := (blk_cell Bl11.out 2).trans rfl
  have zl13_3 : W11.cell? ⟨gl11, 3, none⟩ = some (.int .i64 0) := (blk_cell Bl11.out 3).trans rfl
  refine (age_nil _).mono ?_
  rintro e w14 ⟨rfl, hb14⟩
  clear zl13_0 zl13_1 zl13_2 zl13_3
  have HB15 := Aside0.mk (below_step HB12.out hb14)
  have Bl15 : Aside0 (w14.heap[gl11]? = some (.cells #[.int .i64 0, .int .i64 0, .int .i64 0, .int .i64 0] 24 (0, 0))) := ⟨(hb14.block _ (blk_lt Bl11.out)).trans Bl11.out⟩
  clear hb14
  have zl16_0 : w14.cell? ⟨gl11, 0, none⟩ = some (.int .i64 0) := (blk_cell Bl15.out 0).trans rfl
  have zl16_1 : w14.cell? ⟨gl11, 1, none⟩ = some (.int .i64 0) := (blk_cell Bl15.out 1).trans rfl
  have zl16_2 : w14.cell? ⟨gl11, 2, none⟩ = some (.int .i64 0) := (blk_cell Bl15.out 2).trans rfl
  have zl16_3 : w14.cell? ⟨gl11, 3, none⟩ = some (.int .i64 0) := (blk_cell Bl15.out 3).trans rfl
  go_wp2_with fail
  refine (want_nil _).mono ?_
  rintro e w9 ⟨B, d, C, f, rfl, hRo, hRn, hb9⟩
  have HRo := Aside0.mk hRo
  have HRn := Aside0.mk hRn
  clear hRo hRn
  clear zl16_0 zl16_1 zl16_2 zl16_3
  have HB17 := Aside0.mk (below_step HB15.out hb9)
  have Bl17 : Aside0 (w9.heap[gl11]? = some (.cells #[.int .i64 0, .int .i64 0, .int .i64 0, .int .i64 0] 24 (0, 0))) := ⟨(hb9.block _ (blk_lt Bl15.out)).trans Bl15.out⟩
  clear hb9
  have zl18_0 : w9.cell? ⟨gl11, 0, none⟩ = some (.int .i64 0) := (blk_cell Bl17.out 0).trans rfl
  have zl18_1 : w9.cell? ⟨gl11, 1, none⟩ = some (.int .i64 0) := (blk_cell Bl17.out 1).trans rfl
  have zl18_2 : w9.cell? ⟨gl11, 2, none⟩ = some (.int .i64 0) := (blk_cell Bl17.out 2).trans rfl
  have zl18_3 : w9.cell? ⟨gl11, 3, none⟩ = some (.int .i64 0) := (blk_cell Bl17.out 3).trans rfl
  go_wp2_with fail
  refine (same_c true 1 B d [] C f [] 1 none 0 [] none 0 [] _ rfl (Kd.R_reads' HRo.out).2.2 (Kd.R_reads' HRo.out).2.1 (Kd.R_reads' HRn.out).2.2 (Kd.R_reads' HRn.out).2.1 (Kd.C_nil _ _) (Nat.le_refl _) (Kd.C_nil _ _) (Nat.le_refl _) (by simp) (by simp)).mono ?_
  rintro e w10 ⟨rfl, hb10⟩
  clear zl18_0 zl18_1 zl18_2 zl18_3
  have HB19 := Aside0.mk (below_step HB17.out hb10)
  have Bl19 : Aside0 (w10.heap[gl11]? = some (.cells #[.int .i64 0, .int .i64 0, .int .i64 0, .int .i64 0] 24 (0, 0))) := ⟨(hb10.block _ (blk_lt Bl17.out)).trans Bl17.out⟩
  clear hb10
  go_wp2_with fail
  go_ret
  exact ⟨rfl, HB19.out⟩
theorem none_walk (w : World) (A0 : Option Addr) (c0 : Nat) (v : List Int) (hr : (Kd.int .i64).C w A0 v.length v) (hc : v.length ≤ c0) {Q : Prop} (hq : Q) : Calls Try.prog 7 #[.slice A0 v.length c0] w fun e w' => e = .returned (.bool true) ∧ Below w.heap.size w w' := none_any A0 c0 v w
end Go.Proofs.Ytimfbdiiaakhiaa.MAll

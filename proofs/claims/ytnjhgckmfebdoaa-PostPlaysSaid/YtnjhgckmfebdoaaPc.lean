/- Posts: Deliver, Drop, Copy; alive; PostNone. -/
import Derived.Test.YtnjhgckmfebdoaaPb
import Derived.Lib.SlBytesConst
set_option linter.unusedVariables false
set_option linter.unusedSimpArgs false
namespace Go.Proofs.Ytnjhgckmfebdoaa.MAll
open Go.RowKit Go.Proofs.YtnjhgckmfebdoaaW.PrintWords Go.Proofs.YtnjhgckmfebdoaaW.PrintLast Go.Proofs.YtnjhgckmfebdoaaW.PrintMore
attribute [local go_sem ↓] Go.wp_at_zero Go.wp_at_succ

set_option maxHeartbeats 4000000 in
set_option maxRecDepth 100000 in
theorem deliver_in (W : World) (g : Nat) (lost taken : Int) (rows : List (List Int)) (h : PAt W g lost taken rows) (i : Nat) (r : List Int) (hi : rows[i]? = some r) :
    Calls Try.prog 18 #[.pointer (some ⟨g, 0, none⟩), .int .i64 i] W fun e w' => ∃ B d, e = .returned (.tuple #[.slice B r.length d, .bool true]) ∧ r.length ≤ d ∧ kB.M w' (g + 1) (fun _ => True) r [.slice B r.length d] ∧ PAt w' g lost (wrap64 (taken + 1)) (rows.take i ++ rows.drop (i + 1)) ∧ FR g W w' := by
  have hu25 := Try.underlying25
  have hu54 := Try.underlying54
  have hu52 := Try.underlying52
  have hT := take_in W g lost taken rows h i r hi
  obtain ⟨rs, hrs⟩ : ∃ rs, rows.take i ++ rows.drop (i + 1) = rs := ⟨_, rfl⟩
  rw [hrs] at hT
  rw [hrs]
  have HT := Aside0.mk hT
  clear hT hrs h hi
  go_enter Try.func18, Try.ntmps18
  go_wp2_with fail
  refine HT.out.mono ?_
  rintro e w1 ⟨B, d, rfl, hrd, hM, ⟨A, c, hB1, hR1, hok1⟩, hF⟩
  have BP1 := Aside0.mk hB1
  have HR1 := Aside0.mk hR1
  have HOK := Aside0.mk hok1
  have HM := Aside0.mk hM
  have HF := Aside0.mk hF
  have HRD := Aside0.mk hrd
  clear hB1 hR1 hok1 hM hF hrd
  have z1 : w1.cell? ⟨g, 1, none⟩ = some (.int .i64 taken) := (blk_cell BP1.out 1).trans rfl
  have zf := blk_frozen BP1.out 1
  go_wp2_with fail
  go_ret2
  have hpost : (w1.setCell ⟨g, 1, none⟩ (.int .i64 (wrap64 (taken + 1)))).heap[g]? = some (.cells #[.int .i64 lost, .int .i64 (wrap64 (taken + 1)), .slice A rs.length c] 54 (0, 0)) := blk_put (cs := #[.int .i64 lost, .int .i64 taken, .slice A rs.length c]) BP1.out 1 _ rfl
  have hP : PAt (w1.setCell ⟨g, 1, none⟩ (.int .i64 (wrap64 (taken + 1)))) g _ _ rs := ⟨A, c, hpost, Kd.R_set HR1.out BP1.out (by decide) 1 _, HOK.out⟩
  have hF : FR g W (w1.setCell ⟨g, 1, none⟩ (.int .i64 (wrap64 (taken + 1)))) := FR.trans HF.out (FR.made BP1.out hpost (grown_refl _ _) (grown_set _ _ _ _) (.inl rfl))
  exact ⟨B, d, rfl, HRD.out, kB.M_mono (fun _ _ => trivial) (Kd.M_far (Kd.M_types HM.out BP1.out (by decide)) (fun k hk => hk.2) _), hP, hF⟩
theorem deliver_out (W : World) (g : Nat) (lost taken : Int) (rows : List (List Int)) (h : PAt W g lost taken rows) (i : Int) (hi : i < 0 ∨ (rows.length : Int) ≤ i) : Calls Try.prog 18 #[.pointer (some ⟨g, 0, none⟩), .int .i64 i] W fun e w' => e = .returned (.tuple #[.slice none 0 0, .bool false]) ∧ Below W.heap.size W w' := by
  have hu25 := Try.underlying25
  have HT := Aside0.mk (take_out W g lost taken rows h i hi)
  go_enter Try.func18, Try.ntmps18
  go_wp2_with fail
  refine HT.out.mono ?_
  rintro e w1 ⟨rfl, hb⟩
  go_wp2_with fail
  go_ret2
  exact ⟨rfl, hb⟩
theorem deliver_nil (W : World) (i : Int) : Calls Try.prog 18 #[.pointer none, .int .i64 i] W fun e w' => e = .returned (.tuple #[.slice none 0 0, .bool false]) ∧ Below W.heap.size W w' := by
  have hu25 := Try.underlying25
  have HT := Aside0.mk (take_nil W i)
  go_enter Try.func18, Try.ntmps18
  go_wp2_with fail
  refine HT.out.mono ?_
  rintro e w1 ⟨rfl, hb⟩
  go_wp2_with fail
  go_ret2
  exact ⟨rfl, hb⟩
set_option maxHeartbeats 4000000 in
set_option maxRecDepth 100000 in
theorem drop_in (W : World) (g : Nat) (lost taken : Int) (rows : List (List Int)) (h : PAt W g lost taken rows) (i : Nat) (r : List Int) (hi : rows[i]? = some r) :
    Calls Try.prog 19 #[.pointer (some ⟨g, 0, none⟩), .int .i64 i] W fun e w' => e = .returned (.bool true) ∧ PAt w' g (wrap64 (lost + 1)) taken (rows.take i ++ rows.drop (i + 1)) ∧ FR g W w' := by
  have hu25 := Try.underlying25
  have hu54 := Try.underlying54
  have hu52 := Try.underlying52
  have hT := take_in W g lost taken rows h i r hi
  obtain ⟨rs, hrs⟩ : ∃ rs, rows.take i ++ rows.drop (i + 1) = rs := ⟨_, rfl⟩
  rw [hrs] at hT
  rw [hrs]
  have HT := Aside0.mk hT
  clear hT hrs h hi
  go_enter Try.func19, Try.ntmps19
  go_wp2_with fail
  refine HT.out.mono ?_
  rintro e w1 ⟨B, d, rfl, hrd, hM, ⟨A, c, hB1, hR1, hok1⟩, hF⟩
  have BP1 := Aside0.mk hB1
  have HR1 := Aside0.mk hR1
  have HOK := Aside0.mk hok1
  have HM := Aside0.mk hM
  have HF := Aside0.mk hF
  have HRD := Aside0.mk hrd
  clear hB1 hR1 hok1 hM hF hrd
  have z1 : w1.cell? ⟨g, 0, none⟩ = some (.int .i64 lost) := (blk_cell BP1.out 0).trans rfl
  have zf := blk_frozen BP1.out 0
  go_wp2_with fail
  go_ret
  have hpost : (w1.setCell ⟨g, 0, none⟩ (.int .i64 (wrap64 (lost + 1)))).heap[g]? = some (.cells #[.int .i64 (wrap64 (lost + 1)), .int .i64 taken, .slice A rs.length c] 54 (0, 0)) := blk_put (cs := #[.int .i64 lost, .int .i64 taken, .slice A rs.length c]) BP1.out 0 _ rfl
  have hP : PAt (w1.setCell ⟨g, 0, none⟩ (.int .i64 (wrap64 (lost + 1)))) g _ _ rs := ⟨A, c, hpost, Kd.R_set HR1.out BP1.out (by decide) 0 _, HOK.out⟩
  have hF : FR g W (w1.setCell ⟨g, 0, none⟩ (.int .i64 (wrap64 (lost + 1)))) := FR.trans HF.out (FR.made BP1.out hpost (grown_refl _ _) (grown_set _ _ _ _) (.inl rfl))
  exact ⟨rfl, hP, hF⟩
theorem drop_out (W : World) (g : Nat) (lost taken : Int) (rows : List (List Int)) (h : PAt W g lost taken rows) (i : Int) (hi : i < 0 ∨ (rows.length : Int) ≤ i) : Calls Try.prog 19 #[.pointer (some ⟨g, 0, none⟩), .int .i64 i] W fun e w' => e = .returned (.bool false) ∧ Below W.heap.size W w' := by
  have hu25 := Try.underlying25
  have HT := Aside0.mk (take_out W g lost taken rows h i hi)
  go_enter Try.func19, Try.ntmps19
  go_wp2_with fail
  refine HT.out.mono ?_
  rintro e w1 ⟨rfl, hb⟩
  go_wp2_with fail
  go_ret
  exact ⟨rfl, hb⟩
theorem drop_nil (W : World) (i : Int) : Calls Try.prog 19 #[.pointer none, .int .i64 i] W fun e w' => e = .returned (.bool false) ∧ Below W.heap.size W w' := by
  have hu25 := Try.underlying25
  have HT := Aside0.mk (take_nil W i)
  go_enter Try.func19, Try.ntmps19
  go_wp2_with fail
  refine HT.out.mono ?_
  rintro e w1 ⟨rfl, hb⟩
  go_wp2_with fail
  go_ret
  exact ⟨rfl, hb⟩
/-- Rows in a block that is only read. -/
theorem CB_blk {w : World} {q : Nat} (vs : List Value) (rows : List (List Int)) (hb : w.heap[q]? = some (.cells vs.toArray 34 (0, 0))) (hl : vs.length = rows.length) (hm : rows.length ≤ 4096) (hv : ∀ (j : Nat) (r : List Int) (v : Value), rows[j]? = some r → vs[j]? = some v → ∃ A c, v = .slice A r.length c ∧ r.length ≤ c ∧ kb.C w A r.length r) : kB.C w (some ⟨q, 0, none⟩) rows.length rows := by
  refine ⟨rfl, by omega, fun _ => ⟨_, rfl, fun j r hr => ?_⟩⟩
  have hj : j < rows.length := (List.getElem?_eq_some_iff.1 hr).1
  have hvj : vs[j]? = some (vs[j]'(by omega)) := List.getElem?_eq_getElem _
  obtain ⟨A, c, he, h1, h2⟩ := hv j r _ hr hvj
  refine ⟨[.slice A r.length c], rfl, ⟨A, c, rfl, h1, h2⟩, fun i u hu => ?_⟩
  rcases i with _ | i
  · simp only [List.getElem?_cons_zero, Option.some.injEq] at hu
    subst hu
    show w.cell? ((⟨q, 0, none⟩ : Addr).add (j * 1 + 0)) = _
    rw [Nat.mul_one, Nat.add_zero, add_plain]
    refine (blk_cell hb j).trans ?_
    rw [← he, ← hvj]
    simp
  · simp at hu
theorem C_bytes {W : World} {g : Nat} {cs : Array Value} (xs : List Int) {fr : Nat × Nat} (h : W.heap[g]? = some (.cells cs 5 fr)) (hcs : cs = (nums .u8 xs).toArray) (hm : xs.length ≤ 9223372036854775807) : kb.C W (some ⟨g, 0, none⟩) xs.length xs := by
  subst hcs
  refine Kd.C_of_reads (d := 0) ⟨rfl, hm, fun _ => ⟨_, rfl, fun j hj => ?_⟩⟩
  rw [add_plain]
  have hb : W.cell? ⟨g, j, none⟩ = (nums .u8 xs).toArray[j]? := by simp [World.cell?, h]
  refine hb.trans ?_
  simp [nums, List.getD_eq_getElem?_getD, List.getElem?_eq_getElem hj]
theorem FR.M {g : Nat} {W w : World} (h : FR g W w) {base : Nat} {ok : Nat → Prop} {r : List Int} {cs : List Value} (hM : kB.M W base ok r cs) (hok : ∀ k, ok k → k ≠ g ∧ some k ≠ ownB W g) : kB.M w base ok r cs := Kd.M_step hM (fun k hk hlt => h.block k hlt (hok k hk).1 (hok k hk).2)
theorem send_one (lost : Int) (rows : List (List Int)) (r : List Int) : sendOf lost rows [r] = sendS (lost, rows) r := rfl
set_option maxHeartbeats 4000000 in
set_option maxRecDepth 100000 in
theorem copy_in (W : World) (g : Nat) (lost taken : Int) (rows : List (List Int)) (h : PAt W g lost taken rows) (i : Nat) (r : List Int) (hi : rows[i]? = some r) :
    Calls Try.prog 20 #[.pointer (some ⟨g, 0, none⟩), .int .i64 i] W fun e w' => e = .returned (.bool true) ∧ PAt w' g (sendS (lost, rows) r).1 taken (sendS (lost, rows) r).2 ∧ FR g W w' := by
  have hu25 := Try.underlying25
  have hu31 := Try.underlying31
  have hu34 := Try.underlying34
  have hu54 := Try.underlying54
  have hu52 := Try.underlying52
  have hil : i < rows.length := (List.getElem?_eq_some_iff.1 hi).1
  have HP := Aside0.mk h
  obtain ⟨A, c, hB0, hR0, hok⟩ := h
  obtain ⟨b, rfl⟩ : ∃ b, A = some ⟨b, 0, none⟩ := by
    obtain ⟨_, inner, ho, _⟩ := hR0
    rcases ho.2 with ⟨hv, hz⟩ | ⟨g, cap', cur, hv, _⟩
    · exfalso; injection hv with _ hv _; omega
    · injection hv with ha _ _
      exact ⟨g, ha⟩
  have d1 : decide ((i : Int) < 0) = false := decide_eq_false (by omega)
  have d2 : decide (rows.length ≤ i) = false := decide_eq_false (by omega)
  have BP0 := Aside0.mk hB0
  have HR0 := Aside0.mk hR0
  have HRL := Aside0.mk (hok.2 r (List.mem_of_getElem? hi))
  have HI := Aside0.mk hi
  clear hB0 hR0 hok hi
  go_enter Try.func20, Try.ntmps20
  go_wp2_with fail
  refine (len_c _ g lost taken rows HP.out).mono ?_
  rintro e w1 ⟨rfl, hb1⟩
  have HB2 := Aside0.mk hb1
  have BP2 : Aside0 (w1.heap[g]? = some (.cells #[.int .i64 lost, .int .i64 taken, .slice (some ⟨b, 0, none⟩) rows.length c] 54 (0, 0))) := ⟨(hb1.block _ (blk_lt BP0.out)).trans BP0.out⟩
  have RL2 := Aside0.mk (Kd.R_below HR0.out hb1)
  clear hb1
  have HPW := Aside0.mk (HP.out.below HB2.out)
  have zP3_0 : w1.cell? ⟨g, 0, none⟩ = some (.int .i64 lost) := (blk_cell BP2.out 0).trans rfl
  have zP3_1 : w1.cell? ⟨g, 1, none⟩ = some (.int .i64 taken) := (blk_cell BP2.out 1).trans rfl
  have zP3_2 : w1.cell? ⟨g, 2, none⟩ = some (.slice (some ⟨b, 0, none⟩) rows.length c) := (blk_cell BP2.out 2).trans rfl
  obtain ⟨B, d, hcell, hrd, hM0⟩ := R_elem' RL2.out rfl r HI.out
  have HM0 := Aside0.mk hM0
  have HRD := Aside0.mk hrd
  clear hM0 hrd
  have hlt : decide ((i : Int) < (rows.length : Int)) = true := decide_eq_true (by omega)
  go_wp2_with fail
  clear zP3_0 zP3_1 zP3_2
  clear hcell
  obtain ⟨W4, hw4⟩ : ∃ x : World, x = w1.alloc (.cells #[.slice B r.length d] 34) := ⟨_, rfl⟩
  have hbs4 : Below w1.heap.size w1 W4 := by rw [hw4]; repeat (first | exact Below.refl _ _ | refine below_alloc ?_ _ | refine below_drew ?_)
  obtain ⟨gq4, hgq4⟩ : ∃ x, x = w1.heap.size := ⟨_, rfl⟩
  have GSq4 : Aside0 (W.heap.size ≤ gq4) := ⟨by rw [hgq4]; have := HB2.out.size; omega⟩
  have Bq4 : Aside0 (W4.heap[gq4]? = some (.cells #[.slice B r.length d] 34 (0, 0))) := ⟨by rw [hw4, hgq4]; exact blk_new _ _⟩
  rw [← hw4]
  rw [← hgq4]
  clear hw4 hgq4
  have HB5 := Aside0.mk (below_step HB2.out hbs4)
  have BP5 : Aside0 (W4.heap[g]? = some (.cells #[.int .i64 lost, .int .i64 taken, .slice (some ⟨b, 0, none⟩) rows.length c] 54 (0, 0))) := ⟨(hbs4.block _ (blk_lt BP2.out)).trans BP2.out⟩
  have CM5 := Aside0.mk (Kd.M_below HM0.out hbs4)
  have RL5 := Aside0.mk (Kd.R_below RL2.out hbs4)
  clear hbs4
  have HPX : Aside0 (PAt W4 g lost taken rows) := ⟨HP.out.below HB5.out⟩
  have HMX : Aside0 (kB.M W4 (g + 1) (fun k => k ≠ g ∧ some k ≠ ownB W4 g) r [.slice B r.length d]) := ⟨by
    rw [ownB_of BP5.out]
    exact kB.M_mono (fun k hk => ⟨hk.2, hk.1.2⟩) (Kd.M_types CM5.out BP5.out (by decide))⟩
  have HQG : Aside0 (gq4 ≠ g ∧ some gq4 ≠ ownB W4 g) := ⟨by
    refine ⟨fun e => by have := HP.out.lt; have := GSq4.out; omega, ?_⟩
    rw [ownB_of BP5.out]
    intro e
    have := own_lt (Kd.R_own HR0.out).choose_spec b rfl
    have := GSq4.out
    have e2 : gq4 = b := Option.some.inj e
    omega⟩
  have hlq := blk_lt Bq4.out
  have HCS : Aside0 (∀ w, FR g W4 w → kB.C w (some ⟨gq4, 0, none⟩) [r].length [r]) := ⟨fun w hw => by
    refine CB_blk [.slice B r.length d] [r] ((hw.block _ hlq HQG.out.1 HQG.out.2).trans Bq4.out) rfl (by simp) ?_
    intro j r' v hr' hv'
    rcases j with _ | j
    · simp only [List.getElem?_cons_zero, Option.some.injEq] at hr' hv'
      subst hr' hv'
      exact ⟨B, d, rfl, HRD.out, C_of_M (hw.M HMX.out (fun k hk => hk))⟩
    · simp at hr'⟩
  have HS := Aside0.mk (send_c W4 g lost taken rows HPX.out (some ⟨gq4, 0, none⟩) 1 [r] HCS.out (by simp) (by intro x hx; rw [List.mem_singleton.1 hx]; exact HRL.out))
  refine HS.out.mono ?_
  rintro e w3 ⟨rfl, hP3, hF3⟩
  have HP3 := Aside0.mk hP3
  have HF3 := Aside0.mk hF3
  clear hP3 hF3
  go_wp2_with fail
  go_ret
  exact ⟨rfl, HP3.out, FR.trans (FR.of_below HP.out.lt HB5.out) HF3.out⟩
theorem copy_out (W : World) (g : Nat) (lost taken : Int) (rows : List (List Int)) (h : PAt W g lost taken rows) (i : Int) (hi : i < 0 ∨ (rows.length : Int) ≤ i) : Calls Try.prog 20 #[.pointer (some ⟨g, 0, none⟩), .int .i64 i] W fun e w' => e = .returned (.bool false) ∧ Below W.heap.size W w' := by
  have hu25 := Try.underlying25
  have HP := Aside0.mk h
  clear h
  rcases hi with h0 | h0
  · have d0 : decide (i < 0) = true := decide_eq_true h0
    go_enter Try.func20, Try.ntmps20
    go_wp2
    go_ret
    exact ⟨rfl, by repeat (first | exact Below.refl _ _ | apply below_drew | apply pw_below_drewN)⟩
  · have d0 : decide (i < 0) = false := decide_eq_false (by omega)
    have d1 : decide ((rows.length : Int) ≤ i) = true := decide_eq_true (by omega)
    go_enter Try.func20, Try.ntmps20
    go_wp2_with fail
    refine (len_c _ g lost taken rows HP.out).mono ?_
    rintro e w1 ⟨rfl, hb⟩
    go_wp2_with fail
    go_ret
    exact ⟨rfl, hb⟩
theorem copy_nil (W : World) (i : Int) : Calls Try.prog 20 #[.pointer none, .int .i64 i] W fun e w' => e = .returned (.bool false) ∧ Below W.heap.size W w' := by
  have hu25 := Try.underlying25
  rcases (by omega : i < 0 ∨ 0 ≤ i) with h0 | h0
  · have d0 : decide (i < 0) = true := decide_eq_true h0
    go_enter Try.func20, Try.ntmps20
    go_wp2
    go_ret
    exact ⟨rfl, by repeat (first | exact Below.refl _ _ | apply below_drew | apply pw_below_drewN)⟩
  · have d0 : decide (i < 0) = false := decide_eq_false (by omega)
    have d1 : decide ((0 : Int) ≤ i) = true := decide_eq_true (by omega)
    go_enter Try.func20, Try.ntmps20
    go_wp2_with fail
    refine (len_nil _).mono ?_
    rintro e w1 ⟨rfl, hb⟩
    go_wp2_with fail
    go_ret
    exact ⟨rfl, hb⟩
theorem M_free {W : World} {g : Nat} {lost taken : Int} {rows : List (List Int)} (hP : PAt W g lost taken rows) {base : Nat} {ok : Nat → Prop} {r : List Int} {cs : List Value} (hM : kB.M W base ok r cs) : kB.M W base (fun k => k ≠ g ∧ some k ≠ ownB W g) r cs := by
  obtain ⟨A, c, hB, ⟨_, inner, ho, _⟩, _⟩ := hP
  have h1 := Kd.M_types hM hB (by decide)
  rw [ownB_of hB]
  rcases ho.2 with ⟨hv, _⟩ | ⟨b, cap', cur, hv, _, hh, _⟩
  · rw [hv]
    exact kB.M_mono (fun k hk => ⟨hk.2, by simp [Value.ownBlock]⟩) h1
  · rw [hv]
    refine kB.M_mono (fun k hk => ⟨hk.1.2, fun e => hk.2 (Option.some.inj e)⟩) (Kd.M_types h1 hh (by decide))
theorem FR.after {g : Nat} {W w w2 : World} {lost taken : Int} {rows : List (List Int)} (hB : Below W.heap.size W w) (hF : FR g w w2) (hP : PAt w g lost taken rows) (hg : W.heap.size ≤ g) : Below W.heap.size W w2 :=
  have h := hF.below hP
  ⟨h.os.trans hB.os, h.tape.trans hB.tape, h.output.trans hB.output, Nat.le_trans hB.size h.size, fun k hk => (h.block k (Nat.lt_of_lt_of_le hk hg)).trans (hB.block k hk)⟩
theorem new_free {W1 W5 : World} {g : Nat} {lost taken : Int} {rows : List (List Int)} (hP : PAt W1 g lost taken rows) (hb : Below W1.heap.size W1 W5) (k : Nat) (hk : W1.heap.size ≤ k) : k ≠ g ∧ some k ≠ ownB W5 g := by
  refine ⟨fun e => by have := hP.lt; omega, fun e => ?_⟩
  obtain ⟨A, c, hB, ⟨_, inner, ho, _⟩, _⟩ := hP
  rw [ownB_of (blk_below hB hb)] at e
  have := own_lt ho k e.symm
  omega
set_option maxHeartbeats 8000000 in
set_option maxRecDepth 100000 in
theorem alive_any (W : World) : Calls Try.prog 9 #[] W fun e w' => e = .returned (.bool true) ∧ Below W.heap.size W w' := by
  have hu5 := Try.underlying5
  have hu9 := Try.underlying9
  have hu25 := Try.underlying25
  have hu31 := Try.underlying31
  have hu34 := Try.underlying34
  go_enter Try.func9, Try.ntmps9
  go_wp2_with fail
  refine (new_c _).mono ?_
  rintro e w1 ⟨g1, rfl, hge1, hp1, hb1⟩
  have GE1 : Aside0 (W.heap.size ≤ g1) := ⟨hge1⟩
  have HB2 : Aside0 (Below W.heap.size W w1) := ⟨hb1⟩
  clear hb1
  have HP1' : Aside0 (PAt w1 g1 0 0 []) := ⟨hp1⟩
  clear hge1 hp1
  have hcv0 : (convert 34 34 (.slice (some ⟨w1.heap.size, 0, none⟩) 1 1)).run Try.prog (w1.alloc (.cells #[.int .u8 97] 5)) = .ok (.slice (some ⟨w1.heap.size, 0, none⟩) 1 1) (w1.alloc (.cells #[.int .u8 97] 5 (1, 2))) := Go.Lib.run_convert_bytes_const (P := Try.prog) w1 34 5 #[.int .u8 97] 1 1 hu34 hu5
  have hcv1 : (convert 34 34 (.slice (some ⟨w1.heap.size + 1, 0, none⟩) 1 1)).run Try.prog ((w1.alloc (.cells #[.int .u8 97] 5 (1, 2))).alloc (.cells #[.int .u8 98] 5)) = .ok (.slice (some ⟨w1.heap.size + 1, 0, none⟩) 1 1) ((w1.alloc (.cells #[.int .u8 97] 5 (1, 2))).alloc (.cells #[.int .u8 98] 5 (1, 2))) := by have h := Go.Lib.run_convert_bytes_const (P := Try.prog) (w1.alloc (.cells #[.int .u8 97] 5 (1, 2))) 34 5 #[.int .u8 98] 1 1 hu34 hu5; rwa [World.size_alloc] at h
  have hcv2 : (convert 34 34 (.slice (some ⟨w1.heap.size + 1 + 1, 0, none⟩) 1 1)).run Try.prog (((w1.alloc (.cells #[.int .u8 97] 5 (1, 2))).alloc (.cells #[.int .u8 98] 5 (1, 2))).alloc (.cells #[.int .u8 99] 5)) = .ok (.slice (some ⟨w1.heap.size + 1 + 1, 0, none⟩) 1 1) (((w1.alloc (.cells #[.int .u8 97] 5 (1, 2))).alloc (.cells #[.int .u8 98] 5 (1, 2))).alloc (.cells #[.int .u8 99] 5 (1, 2))) := by have h := Go.Lib.run_convert_bytes_const (P := Try.prog) ((w1.alloc (.cells #[.int .u8 97] 5 (1, 2))).alloc (.cells #[.int .u8 98] 5 (1, 2))) 34 5 #[.int .u8 99] 1 1 hu34 hu5; rwa [World.size_alloc, World.size_alloc] at h
  go_wp2_with fail
  clear hcv0 hcv1 hcv2
  obtain ⟨W3, hw3⟩ : ∃ x : World, x = ((((w1.alloc (.cells #[.int .u8 97] 5 (1, 2))).alloc (.cells #[.int .u8 98] 5 (1, 2))).alloc (.cells #[.int .u8 99] 5 (1, 2))).alloc (.cells #[.slice (some ⟨w1.heap.size, 0, none⟩) 1 1, .slice (some ⟨w1.heap.size + 1, 0, none⟩) 1 1, .slice (some ⟨w1.heap.size + 1 + 1, 0, none⟩) 1 1] 34)) := ⟨_, rfl⟩
  have hb3 : Below w1.heap.size w1 W3 := by rw [hw3]; repeat (first | exact Below.refl _ _ | refine below_alloc ?_ _)
  have K3_0 : Aside0 (W3.heap[w1.heap.size]? = some (.cells #[.int .u8 97] 5 (1, 2))) := ⟨by rw [hw3]; have h := blk_alloc (blk_alloc (blk_alloc (blk_new w1 (.cells #[.int .u8 97] 5 (1, 2))) (.cells #[.int .u8 98] 5 (1, 2))) (.cells #[.int .u8 99] 5 (1, 2))) (.cells #[.slice (some ⟨w1.heap.size, 0, none⟩) 1 1, .slice (some ⟨w1.heap.size + 1, 0, none⟩) 1 1, .slice (some ⟨w1.heap.size + 1 + 1, 0, none⟩) 1 1] 34); exact h⟩
  have K3_1 : Aside0 (W3.heap[w1.heap.size + 1]? = some (.cells #[.int .u8 98] 5 (1, 2))) := ⟨by rw [hw3]; have h := blk_alloc (blk_alloc (blk_new (w1.alloc (.cells #[.int .u8 97] 5 (1, 2))) (.cells #[.int .u8 98] 5 (1, 2))) (.cells #[.int .u8 99] 5 (1, 2))) (.cells #[.slice (some ⟨w1.heap.size, 0, none⟩) 1 1, .slice (some ⟨w1.heap.size + 1, 0, none⟩) 1 1, .slice (some ⟨w1.heap.size + 1 + 1, 0, none⟩) 1 1] 34); rwa [World.size_alloc] at h⟩
  have K3_2 : Aside0 (W3.heap[w1.heap.size + 1 + 1]? = some (.cells #[.int .u8 99] 5 (1, 2))) := ⟨by rw [hw3]; have h := blk_alloc (blk_new ((w1.alloc (.cells #[.int .u8 97] 5 (1, 2))).alloc (.cells #[.int .u8 98] 5 (1, 2))) (.cells #[.int .u8 99] 5 (1, 2))) (.cells #[.slice (some ⟨w1.heap.size, 0, none⟩) 1 1, .slice (some ⟨w1.heap.size + 1, 0, none⟩) 1 1, .slice (some ⟨w1.heap.size + 1 + 1, 0, none⟩) 1 1] 34); rwa [World.size_alloc, World.size_alloc] at h⟩
  have K3_3 : Aside0 (W3.heap[w1.heap.size + 1 + 1 + 1]? = some (.cells #[.slice (some ⟨w1.heap.size, 0, none⟩) 1 1, .slice (some ⟨w1.heap.size + 1, 0, none⟩) 1 1, .slice (some ⟨w1.heap.size + 1 + 1, 0, none⟩) 1 1] 34)) := ⟨by rw [hw3]; have h := blk_new (((w1.alloc (.cells #[.int .u8 97] 5 (1, 2))).alloc (.cells #[.int .u8 98] 5 (1, 2))).alloc (.cells #[.int .u8 99] 5 (1, 2))) (.cells #[.slice (some ⟨w1.heap.size, 0, none⟩) 1 1, .slice (some ⟨w1.heap.size + 1, 0, none⟩) 1 1, .slice (some ⟨w1.heap.size + 1 + 1, 0, none⟩) 1 1] 34); rwa [World.size_alloc, World.size_alloc, World.size_alloc] at h⟩
  rw [← hw3]
  clear hw3
  have HN3 : Aside0 (∀ k, w1.heap.size ≤ k → k ≠ g1 ∧ some k ≠ ownB W3 g1) := ⟨new_free HP1'.out hb3⟩
  obtain ⟨sz3, hsz3⟩ : ∃ x, x = w1.heap.size := ⟨_, rfl⟩
  rw [← hsz3] at HN3
  rw [← hsz3]
  rw [← hsz3] at K3_0
  have L3_0 := Aside0.mk (blk_lt K3_0.out)
  rw [← hsz3] at K3_1
  have L3_1 := Aside0.mk (blk_lt K3_1.out)
  rw [← hsz3] at K3_2
  have L3_2 := Aside0.mk (blk_lt K3_2.out)
  rw [← hsz3] at K3_3
  have L3_3 := Aside0.mk (blk_lt K3_3.out)
  clear hsz3
  have HB4 : Aside0 (Below W.heap.size W W3) := ⟨below_step HB2.out hb3⟩
  have HP4 : Aside0 (PAt W3 g1 (0) (0) ([])) := ⟨HP1'.out.below hb3⟩
  clear hb3
  have HC3 : Aside0 (∀ w, FR g1 W3 w → kB.C w (some ⟨sz3 + 1 + 1 + 1, 0, none⟩) 3 ([[97], [98], [99]] : List (List Int))) := ⟨fun w hw => by
    have hk : ∀ k o, sz3 ≤ k → k < W3.heap.size → W3.heap[k]? = some o → w.heap[k]? = some o := fun k o h1 h2 h3 => (hw.block k h2 (HN3.out k h1).1 (HN3.out k h1).2).trans h3
    refine CB_blk [.slice (some ⟨sz3, 0, none⟩) 1 1, .slice (some ⟨sz3 + 1, 0, none⟩) 1 1, .slice (some ⟨sz3 + 1 + 1, 0, none⟩) 1 1] ([[97], [98], [99]] : List (List Int)) (hk _ _ (by omega) L3_3.out K3_3.out) rfl (by simp) ?_
    intro j r v hr hv
    rcases j with _ | _ | _ | j
    · simp only [List.getElem?_cons_zero, List.getElem?_cons_succ, Option.some.injEq] at hr hv
      subst hr hv
      exact ⟨some ⟨sz3, 0, none⟩, 1, rfl, by simp, C_bytes [97] (hk _ _ (by omega) L3_0.out K3_0.out) rfl (by simp)⟩
    · simp only [List.getElem?_cons_zero, List.getElem?_cons_succ, Option.some.injEq] at hr hv
      subst hr hv
      exact ⟨some ⟨sz3 + 1, 0, none⟩, 1, rfl, by simp, C_bytes [98] (hk _ _ (by omega) L3_1.out K3_1.out) rfl (by simp)⟩
    · simp only [List.getElem?_cons_zero, List.getElem?_cons_succ, Option.some.injEq] at hr hv
      subst hr hv
      exact ⟨some ⟨sz3 + 1 + 1, 0, none⟩, 1, rfl, by simp, C_bytes [99] (hk _ _ (by omega) L3_2.out K3_2.out) rfl (by simp)⟩
    · simp at hr⟩
  have HS3 := send_c W3 g1 (0) (0) ([]) HP4.out (some ⟨sz3 + 1 + 1 + 1, 0, none⟩) 3 ([[97], [98], [99]] : List (List Int)) HC3.out (by simp) (by simp)
  rw [show sendOf (0) ([]) ([[97], [98], [99]] : List (List Int)) = (0, [[97], [98], [99]]) from rfl] at HS3
  refine HS3.mono ?_
  rintro e w5 ⟨rfl, hp5, hf5⟩
  clear HS3
  have HB6 : Aside0 (Below W.heap.size W w5) := ⟨FR.after HB4.out hf5 HP4.out GE1.out⟩
  have HP6 : Aside0 (PAt w5 g1 (0) (0) ([[97], [98], [99]])) := ⟨hp5⟩
  clear hf5 hp5
  go_wp2_with fail
  refine (deliver_in _ g1 (0) (0) ([[97], [98], [99]]) HP6.out (1) ([98]) rfl).mono ?_
  rintro e w7 ⟨Bx, dx, rfl, hrd7, hm7, hp7, hf7⟩
  have HDx : Aside0 (([98] : List Int).length ≤ dx) := ⟨hrd7⟩
  have HMx := Aside0.mk hm7
  clear hrd7 hm7
  rw [show wrap64 ((0 : Int) + 1) = 1 from by decide +kernel] at hp7
  have HB8 : Aside0 (Below W.heap.size W w7) := ⟨FR.after HB6.out hf7 HP6.out GE1.out⟩
  have HP8 : Aside0 (PAt w7 g1 (0) (1) ([[97], [99]])) := ⟨hp7⟩
  clear hf7 hp7
  go_wp2_with fail
  refine (copy_in _ g1 (0) (1) ([[97], [99]]) HP8.out (0) ([97]) rfl).mono ?_
  rintro e w9 ⟨rfl, hp9, hf9⟩
  have HB10 : Aside0 (Below W.heap.size W w9) := ⟨FR.after HB8.out hf9 HP8.out GE1.out⟩
  have HMx_10 := Aside0.mk (hf9.M (M_free HP8.out HMx.out) (fun k hk => hk))
  have HP10 : Aside0 (PAt w9 g1 (0) (1) ([[97], [99], [97]])) := ⟨hp9⟩
  clear hf9 hp9
  go_wp2_with fail
  refine (deliver_in _ g1 (0) (1) ([[97], [99], [97]]) HP10.out (2) ([97]) rfl).mono ?_
  rintro e w11 ⟨By, dy, rfl, hrd11, hm11, hp11, hf11⟩
  have HDy : Aside0 (([97] : List Int).length ≤ dy) := ⟨hrd11⟩
  have HMy := Aside0.mk hm11
  clear hrd11 hm11
  rw [show wrap64 ((1 : Int) + 1) = 2 from by decide +kernel] at hp11
  have HB12 : Aside0 (Below W.heap.size W w11) := ⟨FR.after HB10.out hf11 HP10.out GE1.out⟩
  have HMx_12 := Aside0.mk (hf11.M (M_free HP10.out HMx_10.out) (fun k hk => hk))
  have HP12 : Aside0 (PAt w11 g1 (0) (2) ([[97], [99]])) := ⟨hp11⟩
  clear hf11 hp11
  have hsx : (convert 34 9 (.slice Bx 1 dx)).run Try.prog w11 = .ok (.string (strOfNums [98])) w11 := Kd.C_string (P := Try.prog) (c := dx) hu34 hu5 hu9 (C_of_M HMx_12.out)
  have hsy : (convert 34 9 (.slice By 1 dy)).run Try.prog w11 = .ok (.string (strOfNums [97])) w11 := Kd.C_string (P := Try.prog) (c := dy) hu34 hu5 hu9 (C_of_M HMy.out)
  have ex : (strOfNums [98]).toList = [98] := by decide +kernel
  have ey : (strOfNums [97]).toList = [97] := by decide +kernel
  go_wp2_with fail
  clear hsx hsy
  refine (drop_in _ g1 (0) (2) ([[97], [99]]) HP12.out (0) ([97]) rfl).mono ?_
  rintro e w13 ⟨rfl, hp13, hf13⟩
  rw [show wrap64 ((0 : Int) + 1) = 1 from by decide +kernel] at hp13
  have HB14 : Aside0 (Below W.heap.size W w13) := ⟨FR.after HB12.out hf13 HP12.out GE1.out⟩
  have HMx_14 := Aside0.mk (hf13.M (M_free HP12.out HMx_12.out) (fun k hk => hk))
  have HMy_14 := Aside0.mk (hf13.M (M_free HP12.out HMy.out) (fun k hk => hk))
  have HP14 : Aside0 (PAt w13 g1 (1) (2) ([[99]])) := ⟨hp13⟩
  clear hf13 hp13
  go_wp2_with fail
  refine (len_c _ g1 (1) (2) ([[99]]) HP14.out).mono ?_
  rintro e w15 ⟨rfl, hb15⟩
  have HB16 : Aside0 (Below W.heap.size W w15) := ⟨below_step HB14.out hb15⟩
  have HP16 : Aside0 (PAt w15 g1 (1) (2) ([[99]])) := ⟨HP14.out.below hb15⟩
  have HMx_16 := Aside0.mk (Kd.M_below HMx_14.out hb15)
  have HMy_16 := Aside0.mk (Kd.M_below HMy_14.out hb15)
  clear hb15
  go_wp2_with fail
  refine (lost_c _ g1 (1) (2) ([[99]]) HP16.out).mono ?_
  rintro e w17 ⟨rfl, hb17⟩
  have HB18 : Aside0 (Below W.heap.size W w17) := ⟨below_step HB16.out hb17⟩
  have HP18 : Aside0 (PAt w17 g1 (1) (2) ([[99]])) := ⟨HP16.out.below hb17⟩
  have HMx_18 := Aside0.mk (Kd.M_below HMx_16.out hb17)
  have HMy_18 := Aside0.mk (Kd.M_below HMy_16.out hb17)
  clear hb17
  go_wp2_with fail
  refine (taken_c _ g1 (1) (2) ([[99]]) HP18.out).mono ?_
  rintro e w19 ⟨rfl, hb19⟩
  have HB20 : Aside0 (Below W.heap.size W w19) := ⟨below_step HB18.out hb19⟩
  have HP20 : Aside0 (PAt w19 g1 (1) (2) ([[99]])) := ⟨HP18.out.below hb19⟩
  have HMx_20 := Aside0.mk (Kd.M_below HMx_18.out hb19)
  have HMy_20 := Aside0.mk (Kd.M_below HMy_18.out hb19)
  clear hb19
  go_wp2_with fail
  go_ret
  exact ⟨rfl, HB20.out⟩
end Go.Proofs.Ytnjhgckmfebdoaa.MAll

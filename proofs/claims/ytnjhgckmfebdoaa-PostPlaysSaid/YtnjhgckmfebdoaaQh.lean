/- PostPlays: the walk. -/
import Derived.Test.YtnjhgckmfebdoaaQg
set_option linter.unusedVariables false
set_option linter.unusedSimpArgs false
namespace Go.Proofs.Ytnjhgckmfebdoaa.MAll
open Go.RowKit Go.Proofs.YtnjhgckmfebdoaaW.PrintWords Go.Proofs.YtnjhgckmfebdoaaW.PrintLast Go.Proofs.YtnjhgckmfebdoaaW.PrintMore
attribute [local go_sem ↓] Go.wp_at_zero Go.wp_at_succ
set_option maxHeartbeats 16000000 in
set_option maxRecDepth 100000 in
theorem plays_any (W : World) (A0 : Option Addr) (c0 : Nat) (ops : List POp) (hr : kOp.C W A0 ops.length ops) (hx : ∀ o ∈ ops, o.2.1.length ≤ 5864062014720 ∧ ∀ r ∈ o.2.1, r.length < 140737488351233) : Calls Try.prog 3 #[.slice A0 ops.length c0] W fun e w' => e = .returned (.bool true) ∧ Below W.heap.size W w' := by
  have hu5 := Try.underlying5
  have hu9 := Try.underlying9
  have hu22 := Try.underlying22
  have hu25 := Try.underlying25
  have hu27 := Try.underlying27
  have hu28 := Try.underlying28
  have hu30 := Try.underlying30
  have hu31 := Try.underlying31
  have hu33 := Try.underlying33
  have hu34 := Try.underlying34
  have HV := Aside0.mk hr
  have HX := Aside0.mk hx
  have hmax := Kd.C_max hr
  clear hr hx
  go_enter Try.func3, Try.ntmps3
  go_wp2_with fail
  refine (alive_any _).mono ?_
  rintro e w1 ⟨rfl, hb1⟩
  have HB1 := Aside0.mk hb1
  clear hb1
  go_wp2_with fail
  refine (long_any _ A0 c0 ops (Kd.C_below HV.out HB1.out)).mono ?_
  rintro e w2 ⟨⟨b, rfl⟩, hb2⟩
  have HB2 := Aside0.mk (below_step HB1.out hb2)
  clear hb2 HB1
  cases b
  case true =>
    go_wp2_with fail
    go_ret
    exact ⟨rfl, HB2.out⟩
  go_wp2_with fail
  refine (new_c _).mono ?_
  rintro e w3 ⟨g, rfl, hge, hp, hb3⟩
  have GE : Aside0 (W.heap.size ≤ g) := ⟨Nat.le_trans HB2.out.size hge⟩
  have HP3 := Aside0.mk (PH.new hp)
  have HB3 := Aside0.mk (below_step HB2.out hb3)
  clear hge hp hb3
  go_wp2_with fail
  obtain ⟨g2, hg2⟩ : ∃ b, b = w3.heap.size := ⟨_, rfl⟩
  obtain ⟨w4, hw4⟩ : ∃ w, w = w3.alloc (.cells #[.slice none 0 0, .int .i64 0, .int .i64 0] 30) := ⟨_, rfl⟩
  have HM4 : Aside0 (MH w4 g2 (([] : List (List Int)).map strOfNums) 0 0) := ⟨by rw [hw4, hg2]; exact MH.new w3⟩
  have HP4 : Aside0 (PH w4 g 0 0 [] []) := ⟨by rw [hw4]; exact HP3.out.below (below_alloc (Below.refl _ _) _)⟩
  have HB4 : Aside0 (Below W.heap.size W w4) := ⟨by rw [hw4]; exact below_alloc HB3.out _⟩
  have GM : Aside0 (W.heap.size ≤ g2) := ⟨by rw [hg2]; exact HB3.out.size⟩
  rw [← hw4, ← hg2]
  clear hw4 hg2 HB3 HP3
  go_loopw [30] (fun v30 w' => ∃ (k : Nat) (lost taken : Int) (hs : List Hd) (rows : List (List Int)), k ≤ ops.length ∧ v30 = .int .i64 k ∧ Aside0 (PH w' g lost taken hs rows) ∧ Aside0 (MH w' g2 (rows.map strOfNums) lost taken) ∧ Aside0 (Below W.heap.size W w')) (fun v _ => ops.length - (intOf v).toNat)
  case atStart => exact ⟨0, 0, 0, [], [], by omega, rfl, HP4, HM4, HB4⟩
  case round =>
    obtain ⟨k, lost, taken, hs, rows, hk, rfl, HP, HM, HW⟩ := hrel
    by_cases hlt : k < ops.length
    case neg =>
      have hr4 := HP.out.cnt
      obtain ⟨Am, cm, hmB, hmR, hmk⟩ := HM.out
      rw [List.length_map] at hmB hmR
      have zM0 : wr.cell? ⟨g2, 0, none⟩ = some (.slice Am rows.length cm) := (blk_cell hmB 0).trans rfl
      have HMR := Aside0.mk hmR
      clear hmB hmR hmk HM
      go_wp2_with fail
      clear zM0
      go_loopw [198] (fun v198 w' => ∃ (j : Nat) (tk : Int) (hx : List Hd), j ≤ rows.length ∧ v198 = .int .i64 j ∧ Aside0 (PH w' g lost tk hx (rows.drop j)) ∧ Aside0 (kS.R 9 w' (g2 + 1) (fun _ => True) (.slice Am rows.length cm) (rows.map strOfNums)) ∧ Aside0 (Below W.heap.size W w')) (fun v _ => rows.length - (intOf v).toNat)
      case atStart => exact ⟨0, taken, hs, by omega, rfl, HP, HMR, HW⟩
      case round =>
        obtain ⟨j, tk, hx, hj, rfl, HPx, HMx, HWx⟩ := hrel
        by_cases hlt2 : j < rows.length
        case neg =>
          have hje : j = rows.length := by omega
          subst hje
          rw [List.drop_length] at HPx
          go_wp2_with fail
          refine (len_lit wr g lost tk [] HPx.out.at_ 0 rfl).mono ?_
          rintro e w5 ⟨rfl, hb5⟩
          have HB5 := Aside0.mk (below_step HWx.out hb5)
          clear hb5
          go_wp2_with fail
          go_ret
          exact ⟨rfl, HB5.out⟩
        obtain ⟨r, hr⟩ : ∃ r, rows[j]? = some r := ⟨_, List.getElem?_eq_getElem hlt2⟩
        have h0 : (rows.drop j)[0]? = some r := by rw [List.getElem?_drop, Nat.add_zero, hr]
        obtain ⟨B, d, hh, hrl⟩ := HPx.out.head h0
        obtain ⟨q, rfl, _, _⟩ := row_bS HMx.out (by omega)
        obtain ⟨hc0, _⟩ := Kd.R_celln ByteArray.empty HMx.out (j : Int) (by omega) (by omega)
        rw [Int.toNat_natCast, map_at rows j r hr] at hc0
        have hd := deliver_h wr g lost tk hx (rows.drop j) HPx.out 0 B d r h0 hh
        rw [drop_first, show ((0 : Nat) : Int) = 0 from rfl] at hd
        have HD := Aside0.mk hd
        clear hd h0 hh hr
        go_wp2_with fail
        refine HD.out.mono ?_
        rintro e wD ⟨rfl, hrD, hp, hf⟩
        have HPD := Aside0.mk hp
        have HMD := Aside0.mk (kS_fr HMx.out HPx.out.at_ hf)
        have HBD := Aside0.mk (FR.after HWx.out hf HPx.out.at_ GE.out)
        have hsr : (convert 34 9 (.slice B r.length d)).run Try.prog wD = .ok (.string (strOfNums r)) wD := Kd.C_string (P := Try.prog) (c := d) hu34 hu5 hu9 (Kd.R_reads' hrD).2.2
        have hq := str_eq (strOfNums r)
        clear hrD hp hf hc0
        go_wp2_with fail
        go_roundw
        case rel => exact ⟨j + 1, _, _, by omega, by go_num, HPD, HMD, HBD⟩
        case measure => simp [intOf]; omega
    obtain ⟨ad, V, cv, kd, v, n, hA0, hxk, s0, s1, s2, hcv, hV⟩ := op_at HV.out k hlt
    subst hA0
    have HCV := Aside0.mk (fun (w : World) (hw : Below W.heap.size W w) => Kd.C_below hV hw)
    have hxv := HX.out _ (hxk ▸ List.getElem_mem hlt)
    have hvl : v.length ≤ 5864062014720 := hxv.1
    have HXV : Aside0 (∀ r ∈ v, r.length < 140737488351233) := ⟨hxv.2⟩
    have HCVL := Aside0.mk hcv
    have s0 := pw_cell_below HW.out s0
    have s1 := pw_cell_below HW.out s1
    have s2 := pw_cell_below HW.out s2
    clear hV hcv hxk hxv
    go_upto_region 9 with fail
    obtain ⟨W1, hw1⟩ : ∃ x : World, x = wr.alloc (.cells #[.int .i64 kd, .slice V v.length cv, .int .i64 n] 33) := ⟨_, rfl⟩
    have hbs1 : Below wr.heap.size wr W1 := by rw [hw1]; repeat (first | exact Below.refl _ _ | refine below_alloc ?_ _ | refine below_drew ?_)
    obtain ⟨go1, hgo1⟩ : ∃ x, x = wr.heap.size := ⟨_, rfl⟩
    have GSo1 : Aside0 (W.heap.size ≤ go1) := ⟨by rw [hgo1]; have := HW.out.size; omega⟩
    have Bo1 : Aside0 (W1.heap[go1]? = some (.cells #[.int .i64 kd, .slice V v.length cv, .int .i64 n] 33 (0, 0))) := ⟨by rw [hw1, hgo1]; exact blk_new _ _⟩
    rw [← hw1]
    rw [← hgo1]
    clear hw1 hgo1
    have HB2 := Aside0.mk (below_step HW.out hbs1)
    have CP2 := Aside0.mk (PH.below HP.out hbs1)
    have CM2 := Aside0.mk (MH.below HM.out hbs1)
    clear hbs1
    clear s0 s1 s2 HP HM HW
    by_cases h0 : kd = 0
    case pos => as_aux_lemma =>
      subst h0
      have za0 : W1.cell? ⟨go1, 0, none⟩ = some (.int .i64 0) := (blk_cell Bo1.out 0).trans rfl
      have za1 : W1.cell? ⟨go1, 1, none⟩ = some (.slice V v.length cv) := (blk_cell Bo1.out 1).trans rfl
      have za2 : W1.cell? ⟨go1, 2, none⟩ = some (.int .i64 n) := (blk_cell Bo1.out 2).trans rfl
      have zaa : ∀ o, (W1.alloc o).cell? ⟨go1, 1, none⟩ = some (.slice V v.length cv) := fun o => (blk_cell (blk_alloc Bo1.out o) 1).trans rfl
      go_wp2_with fail
      clear za0 za1 za2
      clear zaa
      obtain ⟨bs, hbs⟩ : ∃ b, b = W1.heap.size := ⟨_, rfl⟩
      obtain ⟨w0, hw0⟩ : ∃ w, w = W1.alloc (.cells #[] 34) := ⟨_, rfl⟩
      have HRW0 : Aside0 (RowsAt w0 bs (some ⟨bs, 0, none⟩) 0 0 [] (v.take 0)) := ⟨⟨rfl, rfl, by rw [hw0, hbs]; exact Kd.R_of_own (World.ownsRow_made W1 #[] 0 (Nat.le_refl _) (by unfold maxLen; omega) rfl) (fun _ _ => trivial), fun j a r _ h1 => by simp at h1, List.Pairwise.nil⟩⟩
      have HM0 : Aside0 (MH w0 g2 ((sendOf lost rows (v.take 0)).2.map strOfNums) (sendOf lost rows (v.take 0)).1 taken) := ⟨by rw [hw0]; exact CM2.out.below (below_alloc (Below.refl _ _) _)⟩
      have HG2 := Aside0.mk (Nat.le_of_lt CM2.out.lt)
      have HGB : Aside0 (g < bs) := ⟨by rw [hbs]; exact CP2.out.lt⟩
      have HF0 : Aside0 (FRS g2 W1 w0) := ⟨by rw [hw0]; exact FRS.of_below HG2.out (below_alloc (Below.refl _ _) _)⟩
      have HBS := Aside0.mk hbs
      have HWB : Aside0 (W.heap.size ≤ bs) := ⟨by rw [hbs]; exact HB2.out.size⟩
      rw [← hw0, ← hbs]
      clear hw0 hbs
      go_loopw [72, 7] (fun v72 v7 w' => ∃ (j : Nat) (A7 : Option Addr) (c7 : Nat) (hr : List Hd), j ≤ v.length ∧ v72 = .int .i64 j ∧ v7 = .slice A7 j c7 ∧ Aside0 (RowsAt w' bs A7 j c7 hr (v.take j)) ∧ Aside0 (MH w' g2 ((sendOf lost rows (v.take j)).2.map strOfNums) (sendOf lost rows (v.take j)).1 taken) ∧ Aside0 (FRS g2 W1 w')) (fun v' _ _ => v.length - (intOf v').toNat)
      case atStart => exact ⟨0, some ⟨bs, 0, none⟩, 0, [], by omega, rfl, rfl, HRW0, HM0, HF0⟩
      case round =>
        obtain ⟨j, A7, c7, hr, hj, rfl, rfl, HRW, HMj, HF⟩ := hrel
        have HBr := Aside0.mk (FRS.after HB2.out HF.out GM.out)
        have HOr : Aside0 (wr.heap[go1]? = some (.cells #[.int .i64 0, .slice V v.length cv, .int .i64 n] 33 (0, 0))) := ⟨(HF.out.block _ _ 33 Bo1.out (by decide) (by decide)).trans Bo1.out⟩
        have HPr := Aside0.mk (CP2.out.frs HF.out)
        by_cases hlt2 : j < v.length
        case pos =>
          obtain ⟨r, hrk⟩ : ∃ r, v[j]? = some r := ⟨_, List.getElem?_eq_getElem hlt2⟩
          obtain ⟨ad2, B, cB, hA2, hcell, hcB, hC0⟩ := row_at (HCV.out W (Below.refl _ _)) j r hrk
          subst hA2
          have hcell := pw_cell_below HBr.out hcell
          have HC0 : Aside0 (∀ w, Below W.heap.size W w → kb.C w B r.length r) := ⟨fun w hw => Kd.C_below hC0 hw⟩
          have HcB := Aside0.mk hcB
          have HRL := Aside0.mk (HXV.out r (List.mem_of_getElem? hrk))
          have HTK : Aside0 (v.take (j + 1) = v.take j ++ [r]) := ⟨by rw [List.take_add_one, hrk]; rfl⟩
          have HST := Aside0.mk (send_step lost rows v j r hrk)
          clear hrk hC0 hcB
          go_wp2_with fail
          refine (copy12 wr B cB r (HC0.out _ HBr.out) HcB.out HRL.out).mono ?_
          rintro e w5 ⟨b5, d5, rfl, hge5, hR5, hb5⟩
          have HB5 := Aside0.mk (below_step HBr.out hb5)
          have HRW5 := Aside0.mk (HRW.out.below hb5)
          have HM5 := Aside0.mk (HMj.out.below hb5)
          have HF5 := Aside0.mk (HF.out.trans (FRS.of_below (Nat.le_of_lt HMj.out.lt) hb5))
          have HSZ : Aside0 (bs ≤ wr.heap.size ∧ wr.heap.size ≤ w5.heap.size) := ⟨by rw [HBS.out]; exact HF.out.below.size, hb5.size⟩
          have HR5 := Aside0.mk (Kd.R_lower hR5 HSZ.out.1)
          have HNEW : Aside0 (∀ a ∈ hr, ∀ k, hB a = some k → k < b5) := ⟨fun a ha k hk => Nat.lt_of_lt_of_le (HRW.out.mark.block (HRW.out.len.trans HRW.out.len2.symm) a ha k hk).2 hge5⟩
          have hjl : hr.length = j := HRW.out.len
          clear hge5 hR5 hb5 hcell
          go_wp2_with (at_builtin; refine Kd.R_append_row encH (none, 0, 0) (h1 := encH_one) (w0 := w5) bs rfl (.tmp 76) (.tmp 79) 31 34 (.slice none 0 0) 24 rfl Try.underlying31 info34' rfl (by decide) (.slice A7 j c7) hr [(some ⟨b5, 0, none⟩, r.length, d5)] (some ⟨w5.heap.size, 0, none⟩) 1 1 (fun _ => True) rfl rfl (fun _ _ => trivial) ?aO ?aR ?aB ?aS ?aL ?_; (case aO => exact Kd.R_alloc HRW5.out.row _); (case aR => exact one_CH (blk_new w5 _)); (case aB => exact below_up (Nat.le_trans HSZ.out.1 HSZ.out.2)); (case aS => rw [World.size_alloc]; exact Nat.le_succ_of_le (Nat.le_trans HSZ.out.1 HSZ.out.2)); (case aL => omega); intro v7 w7 ho hb hg hat; obtain ⟨A8, c8, hv7⟩ := Kd.R_slice ho; rw [lenH, hjl] at hv7; subst hv7; have HB7 := Aside0.mk (below_via HB5.out HWB.out hb); have HRW7 := Aside0.mk ((HRW5.out.below (below_alloc (Below.refl _ _) _)).snoc b5 d5 r ho (Kd.R_alloc HR5.out _) HNEW.out hg); have HM7 := Aside0.mk ((HM5.out.below (below_alloc (Below.refl _ _) _)).rH (Kd.R_alloc HRW5.out.row _) hg); have HF7 := Aside0.mk (FRS.low HF5.out HG2.out (by rw [← HBS.out]; exact hb)); have hsr : (convert 34 9 (.slice B r.length cB)).run Try.prog w7 = .ok (.string (strOfNums r)) w7 := Kd.C_string (P := Try.prog) (c := cB) hu34 hu5 hu9 (HC0.out w7 HB7.out); clear ho hb hg hat)
          refine (rsend_c w7 g2 _ _ _ HM7.out (strOfNums r)).mono ?_
          rintro e w8 ⟨rfl, hm8, hf8⟩
          rw [sendM_map] at hm8
          have HM8 : Aside0 (MH w8 g2 ((sendOf lost rows (v.take (j + 1))).2.map strOfNums) (sendOf lost rows (v.take (j + 1))).1 taken) := ⟨by rw [HST.out]; exact hm8⟩
          have HRW8 := Aside0.mk (HRW7.out.frs hf8)
          have HF8 := Aside0.mk (HF7.out.trans hf8)
          clear hm8 hf8 hsr
          go_wp2_with fail
          go_roundw
          case rel => exact ⟨j + 1, A8, c8, _, by omega, by go_num, rfl, ⟨by rw [HTK.out]; exact HRW8.out⟩, HM8, HF8⟩
          case measure => simp [intOf]; omega
        case neg =>
          have hje : j = v.length := by omega
          subst hje
          rw [List.take_length] at HRW HMj
          go_upto_region 23 with fail
          have HPD := Aside0.mk (HPr.out.below (below_drew (Below.refl _ _)))
          have HOB : Aside0 (∀ b, ownB wr.drew g = some b → b < bs) := ⟨fun b hb => by rw [HBS.out]; exact CP2.out.ownfrs HF.out b hb⟩
          have HRD := Aside0.mk (HRW.out.below (below_drew (Below.refl _ _)))
          have hs1 := send_h wr.drew g lost taken hs rows HPD.out A7 c7 v (fun w hw => RowsAt.args (RowsAt.fr HRD.out HPD.out.at_ HGB.out HOB.out hw)) (by omega) HXV.out
          obtain ⟨sl, hsl⟩ : ∃ x, sendOf lost rows v = x := ⟨_, rfl⟩
          rw [hsl] at hs1 HMj
          clear hsl
          have HS := Aside0.mk hs1
          clear hs1
          obtain ⟨As, cs, hmB, hmR, _⟩ := HMj.out
          rw [List.length_map] at hmB hmR
          have HMBs := Aside0.mk hmB
          have HMRs := Aside0.mk hmR
          clear hmB hmR
          have zm : wr.cell? ⟨g2, 0, none⟩ = some (.slice As sl.2.length cs) := (blk_cell HMBs.out 0).trans rfl
          have hq : ((sl.2.length : Int) != (sl.2.length : Int)) = false := by simp
          refine start_ (n := 9) (S := fun w' => w'.cell? ⟨g2, 0, none⟩ = some (.slice As sl.2.length cs)) (ds := []) #[false, false, false, false, false, false, false, false, false] (by kernel_rfl) rfl rfl (zm) (fun hHeld => ?_)
          refine pure_ (i := 0) (N := some 86) (v := ?_) (a' := ?_) #[true, false, false, false, false, false, false, false, false] rfl rfl (by kernel_rfl) (fun _ _ _ h => h) (Or.inl ⟨by rfl, ?_⟩) ?_ ?_
          rotate_left
          · intro w'
            go_simp
            with_reducible rfl
          rotate_left
          · simp only [Act.put, List.setIfInBounds_toArray, List.set_cons_zero, List.set_cons_succ, i64_w, i32_w]
            rfl
          refine pure_ (i := 1) (N := some 87) (v := ?_) (a' := ?_) #[true, true, false, false, false, false, false, false, false] rfl rfl (by kernel_rfl) (fun _ _ _ h => h) (Or.inl ⟨by rfl, ?_⟩) ?_ ?_
          rotate_left
          · intro w'
            go_simp
            with_reducible rfl
          rotate_left
          · simp only [Act.put, List.setIfInBounds_toArray, List.set_cons_zero, List.set_cons_succ, i64_w, i32_w]
            rfl
          refine pure_ (i := 3) (N := some 89) (v := ?_) (a' := ?_) #[true, true, false, true, false, false, false, false, false] rfl rfl (by kernel_rfl) (fun _ _ _ h => h) (Or.inl ⟨by rfl, ?_⟩) ?_ ?_
          rotate_left
          · intro w'
            go_simp
            with_reducible rfl
          rotate_left
          · simp only [Act.put, List.setIfInBounds_toArray, List.set_cons_zero, List.set_cons_succ, i64_w, i32_w]
            rfl
          refine pure_ (i := 4) (N := some 90) (v := ?_) (a' := ?_) #[true, true, false, true, true, false, false, false, false] rfl rfl (by kernel_rfl) (fun _ _ _ h => h) (Or.inl ⟨by rfl, ?_⟩) ?_ ?_
          rotate_left
          · intro w'
            go_simp
            with_reducible rfl
          rotate_left
          · simp only [Act.put, List.setIfInBounds_toArray, List.set_cons_zero, List.set_cons_succ, i64_w, i32_w]
            rfl
          refine pure_ (i := 5) (N := some 91) (v := ?_) (a' := ?_) #[true, true, false, true, true, true, false, false, false] rfl rfl (by kernel_rfl) (fun _ _ _ h => h) (Or.inl ⟨by rfl, ?_⟩) ?_ ?_
          rotate_left
          · intro w'
            go_simp
            with_reducible rfl
          rotate_left
          · simp only [Act.put, List.setIfInBounds_toArray, List.set_cons_zero, List.set_cons_succ, i64_w, i32_w]
            rfl
          refine take_ (i := 6) (N := some 92) (v := ?_) (a' := ?_) #[true, true, false, true, true, true, true, false, false] rfl rfl (by kernel_rfl) (fun _ _ _ h => h) (Or.inl ⟨by rfl, ?_⟩) hHeld ?_ ?_
          rotate_left
          · intro w' s0
            go_simp
            with_reducible rfl
          rotate_left
          · simp only [Act.put, List.setIfInBounds_toArray, List.set_cons_zero, List.set_cons_succ, i64_w, i32_w]
            rfl
          refine pure_ (i := 7) (N := some 93) (v := ?_) (a' := ?_) #[true, true, false, true, true, true, true, true, false] rfl rfl (by kernel_rfl) (fun _ _ _ h => h) (Or.inl ⟨by rfl, ?_⟩) ?_ ?_
          rotate_left
          · intro w'
            go_simp
            with_reducible rfl
          rotate_left
          · simp only [Act.put, List.setIfInBounds_toArray, List.set_cons_zero, List.set_cons_succ, i64_w, i32_w]
            rfl
          refine one_ (i := 2) (N := some 88) #[true, true, true, true, true, true, true, true, false] rfl rfl (by kernel_rfl) (by decide) (fun K hK => ?_)
          refine goes_ Try.func14 (by kernel_rfl) rfl #[.pointer (some ⟨g, 0, none⟩), .slice A7 v.length c7] (by rfl) rfl rfl (by simp only [List.map_toArray, List.map_cons, List.map_nil]; rfl) ?_
          with_reducible refine (HS.out).mono ?_
          rintro e wS ⟨hs2, rfl, hp, hf, hfr⟩
          refine ⟨_, rfl, ?_⟩
          have HMS : Aside0 (wS.heap[g2]? = some (.cells #[.slice As sl.2.length cs, .int .i64 sl.1, .int .i64 taken] 30 (0, 0))) := ⟨blk_fr' (W := wr.drew) HMBs.out HPD.out.at_ (by decide) hf⟩
          have HPS := Aside0.mk hp
          have HFS := Aside0.mk hf
          have HFR := Aside0.mk hfr
          clear hp hf hfr
          refine hK.out _ _ ((blk_cell HMS.out 0).trans rfl) (fun hHeld => ?_)
          clear hK K
          refine norm_ (a' := ?_) ?_ ?_
          rotate_left
          · show Act.put _ (some 88) _ = _
            simp only [Act.put, List.setIfInBounds_toArray, List.set_cons_zero, List.set_cons_succ, i64_w, i32_w]
            rfl
          refine pure_ (i := 8) (N := some 94) (v := ?_) (a' := ?_) #[true, true, true, true, true, true, true, true, true] rfl rfl (by kernel_rfl) (fun _ _ _ h => h) (Or.inl ⟨by rfl, ?_⟩) ?_ ?_
          rotate_left
          · intro w'
            go_simp
            with_reducible rfl
          rotate_left
          · simp only [Act.put, List.setIfInBounds_toArray, List.set_cons_zero, List.set_cons_succ, i64_w, i32_w]
            rfl
          refine done_ (by kernel_rfl) ?_
          have HOS : Aside0 (wS.heap[go1]? = some (.cells #[.int .i64 0, .slice V v.length cv, .int .i64 n] 33 (0, 0))) := ⟨blk_fr' (W := wr.drew) HOr.out HPD.out.at_ (by decide) HFS.out⟩
          have HM2 : Aside0 (MH wS g2 (sl.2.map strOfNums) sl.1 taken) := ⟨(HMj.out.below (below_drew (Below.refl _ _))).fr HPD.out.at_ HFS.out⟩
          have HB2 : Aside0 (Below W.heap.size W wS) := ⟨FR.after (below_drew HBr.out) HFS.out HPD.out.at_ GE.out⟩
          have HRS := Aside0.mk (HRD.out.fr HPD.out.at_ HGB.out HOB.out HFS.out)
          have HAP : Aside0 (∀ a ∈ hs2, ∀ b ∈ hr, ∀ k, hB b = some k → hB a ≠ some k) := ⟨fun a ha b hb k hk e => by
            have h1 := HRW.out.mark.block (HRW.out.len.trans HRW.out.len2.symm) b hb k hk
            rcases HFR.out a ha with h | h
            · have h2 := CP2.out.old a h k e
              rw [← HBS.out] at h2
              omega
            · have h2 : wr.heap.size ≤ k := h k e
              omega⟩
          clear zm
          go_wp2_with fail
          clear hq
          go_loopw [97] (fun v97 w' => ∃ (j : Nat), j ≤ v.length ∧ v97 = .int .i64 j ∧ Aside0 (PH w' g sl.1 taken hs2 sl.2) ∧ Aside0 (MH w' g2 (sl.2.map strOfNums) sl.1 taken) ∧ Aside0 (kH.R 34 w' bs (fun _ => True) (.slice A7 v.length c7) hr) ∧ Aside0 (MkF w' bs hr v j) ∧ Aside0 (w'.heap[go1]? = some (.cells #[.int .i64 0, .slice V v.length cv, .int .i64 n] 33 (0, 0))) ∧ Aside0 (Below W.heap.size W w')) (fun v' _ => v.length - (intOf v').toNat)
          case atStart => exact ⟨0, by omega, rfl, HPS, HM2, ⟨HRS.out.row⟩, ⟨HRS.out.mark⟩, HOS, HB2⟩
          case round =>
            obtain ⟨j, hj, rfl, HP, HM, HK, HMK, HO, HW⟩ := hrel
            by_cases hlt3 : j < v.length
            case neg =>
              go_upto_region 46 with fail
              obtain ⟨lx, tx, hx2, rx, HPX, HMX⟩ : ∃ (lx tx : Int) (hx2 : List Hd) (rx : List (List Int)), Aside0 (PH wr g lx tx hx2 rx) ∧ Aside0 (MH wr g2 (rx.map strOfNums) lx tx) := ⟨_, _, _, _, HP, HM⟩
              obtain ⟨Am2, cm2, hmB2, _, _⟩ := HMX.out
              rw [List.length_map] at hmB2
              have HMB2 := Aside0.mk hmB2
              clear hmB2
              have zt0 : wr.cell? ⟨g2, 0, none⟩ = some (.slice Am2 rx.length cm2) := (blk_cell HMB2.out 0).trans rfl
              have zt1 : wr.cell? ⟨g2, 1, none⟩ = some (.int .i64 lx) := (blk_cell HMB2.out 1).trans rfl
              have zt2 : wr.cell? ⟨g2, 2, none⟩ = some (.int .i64 tx) := (blk_cell HMB2.out 2).trans rfl
              have hq0 : ((rx.length : Int) != (rx.length : Int)) = false := by simp
              have hq1 : (lx != lx) = false := by simp
              have hq2 : (tx != tx) = false := by simp
              have HPT := Aside0.mk (HPX.out.below (below_drew (Below.refl _ wr)))
              refine start_ (n := 26) (S := fun w' => w'.cell? ⟨g2, 0, none⟩ = some (.slice Am2 rx.length cm2) ∧ w'.cell? ⟨g2, 1, none⟩ = some (.int .i64 lx) ∧ w'.cell? ⟨g2, 2, none⟩ = some (.int .i64 tx)) (ds := []) #[false, false, false, false, false, false, false, false, false, false, false, false, false, false, false, false, false, false, false, false, false, false, false, false, false, false] (by kernel_rfl) rfl rfl ⟨zt0, zt1, zt2⟩ (fun hHeld => ?_)
              refine pure_ (i := 0) (N := some 166) (v := ?_) (a' := ?_) #[true, false, false, false, false, false, false, false, false, false, false, false, false, false, false, false, false, false, false, false, false, false, false, false, false, false] rfl rfl (by kernel_rfl) (fun _ _ _ h => h) (Or.inl ⟨by rfl, ?_⟩) ?_ ?_
              rotate_left
              · intro w'
                go_simp
                with_reducible rfl
              rotate_left
              · simp only [Act.put, List.setIfInBounds_toArray, List.set_cons_zero, List.set_cons_succ, i64_w, i32_w]
                rfl
              refine pure_ (i := 2) (N := some 168) (v := ?_) (a' := ?_) #[true, false, true, false, false, false, false, false, false, false, false, false, false, false, false, false, false, false, false, false, false, false, false, false, false, false] rfl rfl (by kernel_rfl) (fun _ _ _ h => h) (Or.inl ⟨by rfl, ?_⟩) ?_ ?_
              rotate_left
              · intro w'
                go_simp
                with_reducible rfl
              rotate_left
              · simp only [Act.put, List.setIfInBounds_toArray, List.set_cons_zero, List.set_cons_succ, i64_w, i32_w]
                rfl
              refine pure_ (i := 3) (N := some 169) (v := ?_) (a' := ?_) #[true, false, true, true, false, false, false, false, false, false, false, false, false, false, false, false, false, false, false, false, false, false, false, false, false, false] rfl rfl (by kernel_rfl) (fun _ _ _ h => h) (Or.inl ⟨by rfl, ?_⟩) ?_ ?_
              rotate_left
              · intro w'
                go_simp
                with_reducible rfl
              rotate_left
              · simp only [Act.put, List.setIfInBounds_toArray, List.set_cons_zero, List.set_cons_succ, i64_w, i32_w]
                rfl
              refine pure_ (i := 4) (N := some 170) (v := ?_) (a' := ?_) #[true, false, true, true, true, false, false, false, false, false, false, false, false, false, false, false, false, false, false, false, false, false, false, false, false, false] rfl rfl (by kernel_rfl) (fun _ _ _ h => h) (Or.inl ⟨by rfl, ?_⟩) ?_ ?_
              rotate_left
              · intro w'
                go_simp
                with_reducible rfl
              rotate_left
              · simp only [Act.put, List.setIfInBounds_toArray, List.set_cons_zero, List.set_cons_succ, i64_w, i32_w]
                rfl
              refine take_ (i := 5) (N := some 171) (v := ?_) (a' := ?_) #[true, false, true, true, true, true, false, false, false, false, false, false, false, false, false, false, false, false, false, false, false, false, false, false, false, false] rfl rfl (by kernel_rfl) (fun _ _ _ h => h) (Or.inl ⟨by rfl, ?_⟩) hHeld ?_ ?_
              rotate_left
              · rintro w' ⟨s0, s1, s2⟩
                go_simp
                with_reducible rfl
              rotate_left
              · simp only [Act.put, List.setIfInBounds_toArray, List.set_cons_zero, List.set_cons_succ, i64_w, i32_w]
                rfl
              refine pure_ (i := 6) (N := some 172) (v := ?_) (a' := ?_) #[true, false, true, true, true, true, true, false, false, false, false, false, false, false, false, false, false, false, false, false, false, false, false, false, false, false] rfl rfl (by kernel_rfl) (fun _ _ _ h => h) (Or.inl ⟨by rfl, ?_⟩) ?_ ?_
              rotate_left
              · intro w'
                go_simp
                with_reducible rfl
              rotate_left
              · simp only [Act.put, List.setIfInBounds_toArray, List.set_cons_zero, List.set_cons_succ, i64_w, i32_w]
                rfl
              refine one_ (i := 1) (N := some 167) #[true, true, true, true, true, true, true, false, false, false, false, false, false, false, false, false, false, false, false, false, false, false, false, false, false, false] rfl rfl (by kernel_rfl) (by decide) (fun K hK => ?_)
              refine goes_ Try.func21 (by kernel_rfl) rfl #[.pointer (some ⟨g, 0, none⟩)] (by rfl) rfl rfl (by simp only [List.map_toArray, List.map_cons, List.map_nil]; rfl) ?_
              with_reducible refine (len_c _ g lx tx rx HPT.out.at_).mono ?_
              rintro e wt0 ⟨rfl, hbt0⟩
              refine ⟨_, rfl, ?_⟩
              have HPT0 := Aside0.mk (HPT.out.below hbt0)
              have HBT0 := Aside0.mk (below_step (below_drew (Below.refl _ wr)) hbt0)
              clear hbt0
              refine hK.out _ _ ⟨pw_cell_below HBT0.out zt0, pw_cell_below HBT0.out zt1, pw_cell_below HBT0.out zt2⟩ (fun hHeld => ?_)
              clear hK K
              refine norm_ (a' := ?_) ?_ ?_
              rotate_left
              · show Act.put _ (some 167) _ = _
                simp only [Act.put, List.setIfInBounds_toArray, List.set_cons_zero, List.set_cons_succ, i64_w, i32_w]
                rfl
              refine pure_ (i := 7) (N := some 173) (v := ?_) (a' := ?_) #[true, true, true, true, true, true, true, true, false, false, false, false, false, false, false, false, false, false, false, false, false, false, false, false, false, false] rfl rfl (by kernel_rfl) (fun _ _ _ h => h) (Or.inl ⟨by rfl, ?_⟩) ?_ ?_
              rotate_left
              · intro w'
                go_simp
                with_reducible rfl
              rotate_left
              · simp only [Act.put, List.setIfInBounds_toArray, List.set_cons_zero, List.set_cons_succ, i64_w, i32_w]
                rfl
              refine pure_ (i := 8) (N := some 174) (v := ?_) (a' := ?_) #[true, true, true, true, true, true, true, true, true, false, false, false, false, false, false, false, false, false, false, false, false, false, false, false, false, false] rfl rfl (by kernel_rfl) (fun _ _ _ h => h) (Or.inl ⟨by rfl, ?_⟩) ?_ ?_
              rotate_left
              · intro w'
                go_simp
                with_reducible rfl
              rotate_left
              · simp only [Act.put, List.setIfInBounds_toArray, List.set_cons_zero, List.set_cons_succ, i64_w, i32_w]
                rfl
              refine pure_ (i := 9) (N := some 175) (v := ?_) (a' := ?_) #[true, true, true, true, true, true, true, true, true, true, false, false, false, false, false, false, false, false, false, false, false, false, false, false, false, false] rfl rfl (by kernel_rfl) (fun _ _ _ h => h) (Or.inl ⟨by rfl, ?_⟩) ?_ ?_
              rotate_left
              · intro w'
                go_simp
                with_reducible rfl
              rotate_left
              · simp only [Act.put, List.setIfInBounds_toArray, List.set_cons_zero, List.set_cons_succ, i64_w, i32_w]
                rfl
              refine pure_ (i := 11) (N := some 177) (v := ?_) (a' := ?_) #[true, true, true, true, true, true, true, true, true, true, false, true, false, false, false, false, false, false, false, false, false, false, false, false, false, false] rfl rfl (by kernel_rfl) (fun _ _ _ h => h) (Or.inl ⟨by rfl, ?_⟩) ?_ ?_
              rotate_left
              · intro w'
                go_simp
                with_reducible rfl
              rotate_left
              · simp only [Act.put, List.setIfInBounds_toArray, List.set_cons_zero, List.set_cons_succ, i64_w, i32_w]
                rfl
              refine pure_ (i := 12) (N := some 178) (v := ?_) (a' := ?_) #[true, true, true, true, true, true, true, true, true, true, false, true, true, false, false, false, false, false, false, false, false, false, false, false, false, false] rfl rfl (by kernel_rfl) (fun _ _ _ h => h) (Or.inl ⟨by rfl, ?_⟩) ?_ ?_
              rotate_left
              · intro w'
                go_simp
                with_reducible rfl
              rotate_left
              · simp only [Act.put, List.setIfInBounds_toArray, List.set_cons_zero, List.set_cons_succ, i64_w, i32_w]
                rfl
              refine pure_ (i := 13) (N := some 179) (v := ?_) (a' := ?_) #[true, true, true, true, true, true, true, true, true, true, false, true, true, true, false, false, false, false, false, false, false, false, false, false, false, false] rfl rfl (by kernel_rfl) (fun _ _ _ h => h) (Or.inl ⟨by rfl, ?_⟩) ?_ ?_
              rotate_left
              · intro w'
                go_simp
                with_reducible rfl
              rotate_left
              · simp only [Act.put, List.setIfInBounds_toArray, List.set_cons_zero, List.set_cons_succ, i64_w, i32_w]
                rfl
              refine take_ (i := 14) (N := some 180) (v := ?_) (a' := ?_) #[true, true, true, true, true, true, true, true, true, true, false, true, true, true, true, false, false, false, false, false, false, false, false, false, false, false] rfl rfl (by kernel_rfl) (fun _ _ _ h => h) (Or.inl ⟨by rfl, ?_⟩) hHeld ?_ ?_
              rotate_left
              · rintro w' ⟨s0, s1, s2⟩
                go_simp
                with_reducible rfl
              rotate_left
              · simp only [Act.put, List.setIfInBounds_toArray, List.set_cons_zero, List.set_cons_succ, i64_w, i32_w]
                rfl
              refine one_ (i := 10) (N := some 176) #[true, true, true, true, true, true, true, true, true, true, true, true, true, true, true, false, false, false, false, false, false, false, false, false, false, false] rfl rfl (by kernel_rfl) (by decide) (fun K hK => ?_)
              refine goes_ Try.func22 (by kernel_rfl) rfl #[.pointer (some ⟨g, 0, none⟩)] (by rfl) rfl rfl (by simp only [List.map_toArray, List.map_cons, List.map_nil]; rfl) ?_
              with_reducible refine (lost_c _ g lx tx rx HPT0.out.at_).mono ?_
              rintro e wt1 ⟨rfl, hbt1⟩
              refine ⟨_, rfl, ?_⟩
              have HPT1 := Aside0.mk (HPT0.out.below hbt1)
              have HBT1 := Aside0.mk (below_step HBT0.out hbt1)
              clear hbt1
              refine hK.out _ _ ⟨pw_cell_below HBT1.out zt0, pw_cell_below HBT1.out zt1, pw_cell_below HBT1.out zt2⟩ (fun hHeld => ?_)
              clear hK K
              refine norm_ (a' := ?_) ?_ ?_
              rotate_left
              · show Act.put _ (some 176) _ = _
                simp only [Act.put, List.setIfInBounds_toArray, List.set_cons_zero, List.set_cons_succ, i64_w, i32_w]
                rfl
              refine pure_ (i := 15) (N := some 181) (v := ?_) (a' := ?_) #[true, true, true, true, true, true, true, true, true, true, true, true, true, true, true, true, false, false, false, false, false, false, false, false, false, false] rfl rfl (by kernel_rfl) (fun _ _ _ h => h) (Or.inl ⟨by rfl, ?_⟩) ?_ ?_
              rotate_left
              · intro w'
                go_simp
                with_reducible rfl
              rotate_left
              · simp only [Act.put, List.setIfInBounds_toArray, List.set_cons_zero, List.set_cons_succ, i64_w, i32_w]
                rfl
              refine pure_ (i := 16) (N := some 182) (v := ?_) (a' := ?_) #[true, true, true, true, true, true, true, true, true, true, true, true, true, true, true, true, true, false, false, false, false, false, false, false, false, false] rfl rfl (by kernel_rfl) (fun _ _ _ h => h) (Or.inl ⟨by rfl, ?_⟩) ?_ ?_
              rotate_left
              · intro w'
                go_simp
                with_reducible rfl
              rotate_left
              · simp only [Act.put, List.setIfInBounds_toArray, List.set_cons_zero, List.set_cons_succ, i64_w, i32_w]
                rfl
              refine pure_ (i := 17) (N := some 183) (v := ?_) (a' := ?_) #[true, true, true, true, true, true, true, true, true, true, true, true, true, true, true, true, true, true, false, false, false, false, false, false, false, false] rfl rfl (by kernel_rfl) (fun _ _ _ h => h) (Or.inl ⟨by rfl, ?_⟩) ?_ ?_
              rotate_left
              · intro w'
                go_simp
                with_reducible rfl
              rotate_left
              · simp only [Act.put, List.setIfInBounds_toArray, List.set_cons_zero, List.set_cons_succ, i64_w, i32_w]
                rfl
              refine pure_ (i := 18) (N := some 184) (v := ?_) (a' := ?_) #[true, true, true, true, true, true, true, true, true, true, true, true, true, true, true, true, true, true, true, false, false, false, false, false, false, false] rfl rfl (by kernel_rfl) (fun _ _ _ h => h) (Or.inl ⟨by rfl, ?_⟩) ?_ ?_
              rotate_left
              · intro w'
                go_simp
                with_reducible rfl
              rotate_left
              · simp only [Act.put, List.setIfInBounds_toArray, List.set_cons_zero, List.set_cons_succ, i64_w, i32_w]
                rfl
              refine pure_ (i := 20) (N := some 186) (v := ?_) (a' := ?_) #[true, true, true, true, true, true, true, true, true, true, true, true, true, true, true, true, true, true, true, false, true, false, false, false, false, false] rfl rfl (by kernel_rfl) (fun _ _ _ h => h) (Or.inl ⟨by rfl, ?_⟩) ?_ ?_
              rotate_left
              · intro w'
                go_simp
                with_reducible rfl
              rotate_left
              · simp only [Act.put, List.setIfInBounds_toArray, List.set_cons_zero, List.set_cons_succ, i64_w, i32_w]
                rfl
              refine pure_ (i := 21) (N := some 187) (v := ?_) (a' := ?_) #[true, true, true, true, true, true, true, true, true, true, true, true, true, true, true, true, true, true, true, false, true, true, false, false, false, false] rfl rfl (by kernel_rfl) (fun _ _ _ h => h) (Or.inl ⟨by rfl, ?_⟩) ?_ ?_
              rotate_left
              · intro w'
                go_simp
                with_reducible rfl
              rotate_left
              · simp only [Act.put, List.setIfInBounds_toArray, List.set_cons_zero, List.set_cons_succ, i64_w, i32_w]
                rfl
              refine pure_ (i := 22) (N := some 188) (v := ?_) (a' := ?_) #[true, true, true, true, true, true, true, true, true, true, true, true, true, true, true, true, true, true, true, false, true, true, true, false, false, false] rfl rfl (by kernel_rfl) (fun _ _ _ h => h) (Or.inl ⟨by rfl, ?_⟩) ?_ ?_
              rotate_left
              · intro w'
                go_simp
                with_reducible rfl
              rotate_left
              · simp only [Act.put, List.setIfInBounds_toArray, List.set_cons_zero, List.set_cons_succ, i64_w, i32_w]
                rfl
              refine take_ (i := 23) (N := some 189) (v := ?_) (a' := ?_) #[true, true, true, true, true, true, true, true, true, true, true, true, true, true, true, true, true, true, true, false, true, true, true, true, false, false] rfl rfl (by kernel_rfl) (fun _ _ _ h => h) (Or.inl ⟨by rfl, ?_⟩) hHeld ?_ ?_
              rotate_left
              · rintro w' ⟨s0, s1, s2⟩
                go_simp
                with_reducible rfl
              rotate_left
              · simp only [Act.put, List.setIfInBounds_toArray, List.set_cons_zero, List.set_cons_succ, i64_w, i32_w]
                rfl
              refine one_ (i := 19) (N := some 185) #[true, true, true, true, true, true, true, true, true, true, true, true, true, true, true, true, true, true, true, true, true, true, true, true, false, false] rfl rfl (by kernel_rfl) (by decide) (fun K hK => ?_)
              refine goes_ Try.func23 (by kernel_rfl) rfl #[.pointer (some ⟨g, 0, none⟩)] (by rfl) rfl rfl (by simp only [List.map_toArray, List.map_cons, List.map_nil]; rfl) ?_
              with_reducible refine (taken_c _ g lx tx rx HPT1.out.at_).mono ?_
              rintro e wt2 ⟨rfl, hbt2⟩
              refine ⟨_, rfl, ?_⟩
              have HPT2 := Aside0.mk (HPT1.out.below hbt2)
              have HBT2 := Aside0.mk (below_step HBT1.out hbt2)
              clear hbt2
              refine hK.out _ _ ⟨pw_cell_below HBT2.out zt0, pw_cell_below HBT2.out zt1, pw_cell_below HBT2.out zt2⟩ (fun hHeld => ?_)
              clear hK K
              refine norm_ (a' := ?_) ?_ ?_
              rotate_left
              · show Act.put _ (some 185) _ = _
                simp only [Act.put, List.setIfInBounds_toArray, List.set_cons_zero, List.set_cons_succ, i64_w, i32_w]
                rfl
              refine pure_ (i := 24) (N := some 190) (v := ?_) (a' := ?_) #[true, true, true, true, true, true, true, true, true, true, true, true, true, true, true, true, true, true, true, true, true, true, true, true, true, false] rfl rfl (by kernel_rfl) (fun _ _ _ h => h) (Or.inl ⟨by rfl, ?_⟩) ?_ ?_
              rotate_left
              · intro w'
                go_simp
                with_reducible rfl
              rotate_left
              · simp only [Act.put, List.setIfInBounds_toArray, List.set_cons_zero, List.set_cons_succ, i64_w, i32_w]
                rfl
              refine pure_ (i := 25) (N := some 191) (v := ?_) (a' := ?_) #[true, true, true, true, true, true, true, true, true, true, true, true, true, true, true, true, true, true, true, true, true, true, true, true, true, true] rfl rfl (by kernel_rfl) (fun _ _ _ h => h) (Or.inl ⟨by rfl, ?_⟩) ?_ ?_
              rotate_left
              · intro w'
                go_simp
                with_reducible rfl
              rotate_left
              · simp only [Act.put, List.setIfInBounds_toArray, List.set_cons_zero, List.set_cons_succ, i64_w, i32_w]
                rfl
              refine done_ (by kernel_rfl) ?_
              clear zt0 zt1 zt2
              go_wp2_with fail
              go_roundw
              case rel => exact ⟨k + 1, lx, tx, hx2, rx, by omega, by go_num, ⟨HPX.out.below HBT2.out⟩, ⟨HMX.out.below HBT2.out⟩, ⟨below_step HW.out HBT2.out⟩⟩
              case measure => simp [intOf]; omega
            case pos =>
              obtain ⟨r, hrk⟩ : ∃ r, v[j]? = some r := ⟨_, List.getElem?_eq_getElem hlt3⟩
              obtain ⟨ad2, B, cB, hA2, hcell, hcB, hC0⟩ := row_at (HCV.out W (Below.refl _ _)) j r hrk
              subst hA2
              have hcell := pw_cell_below HW.out hcell
              have HC0 : Aside0 (∀ w, Below W.heap.size W w → kb.C w B r.length r) := ⟨fun w hw => Kd.C_below hC0 hw⟩
              have HcB := Aside0.mk hcB
              have HRL := Aside0.mk (HXV.out r (List.mem_of_getElem? hrk))
              obtain ⟨h, hh⟩ : ∃ h, hr[j]? = some h := ⟨_, List.getElem?_eq_getElem (by rw [HRW.out.len]; exact hlt3)⟩
              obtain ⟨b, d, rfl, hRb⟩ := HMK.out j h r (Nat.le_refl _) hh hrk
              have HH := Aside0.mk hh
              obtain ⟨q, rfl, _, _⟩ := row_bH HK.out (by omega)
              obtain ⟨hc7, _⟩ := Kd.R_celln (none, 0, 0) HK.out (j : Int) (by omega) (by omega)
              rw [Int.toNat_natCast, show rdOf (none, 0, 0) hr (j : Int) = (some ⟨b, 0, none⟩, r.length, d) from by simp [rdOf, List.getD_eq_getElem?_getD, hh], show encH (some ⟨b, 0, none⟩, r.length, d) = .slice (some ⟨b, 0, none⟩) r.length d from rfl] at hc7
              have HRB := Aside0.mk hRb
              clear hRb hh hrk hC0 hcB
              have zc0 : wr.cell? ⟨go1, 0, none⟩ = some (.int .i64 0) := (blk_cell HO.out 0).trans rfl
              have zc1 : wr.cell? ⟨go1, 1, none⟩ = some (.slice (some ad2) v.length cv) := (blk_cell HO.out 1).trans rfl
              have zc2 : wr.cell? ⟨go1, 2, none⟩ = some (.int .i64 n) := (blk_cell HO.out 2).trans rfl
              go_wp2_with fail
              clear zc0 zc1 zc2
              clear hc7 hcell
              refine (kept_c wr bs b d r HRB.out B cB (HC0.out _ HW.out) HRL.out).mono ?_
              rintro e w5 ⟨rfl, hb5⟩
              have HK5 := Aside0.mk (Kd.R_below HK.out hb5)
              have HMK5 := Aside0.mk (HMK.out.map (fun _ _ _ _ h => Kd.R_below h hb5))
              have HRF := Aside0.mk (R5_first (n := r.length) (Kd.R_below HRB.out hb5) rfl (len2 r).symm)
              have HP501 : Aside0 (PH w5 g (sl.1) (taken) (hs2) (sl.2)) := ⟨HP.out.below hb5⟩
              have HM501 : Aside0 (MH w5 g2 (sl.2.map strOfNums) (sl.1) (taken)) := ⟨HM.out.below hb5⟩
              have HO501 : Aside0 (w5.heap[go1]? = some (.cells #[.int .i64 0, .slice (some ad2) v.length cv, .int .i64 n] 33 (0, 0))) := ⟨blk_below HO.out hb5⟩
              have HB501 : Aside0 (Below W.heap.size W w5) := ⟨below_step HW.out hb5⟩
              clear hb5
              go_wp2_with fail
              refine (over_c w5 bs (some ⟨b, 0, none⟩) d r.length r HRF.out HRL.out).mono ?_
              rintro e w6 ⟨rfl, hg6⟩
              have HK6 := Aside0.mk (kH_over HK5.out HRF.out hg6)
              have HMK6 := Aside0.mk (HMK5.out.next HRW.out.dist b r.length d HH.out hg6)
              have HP502 : Aside0 (PH w6 g (sl.1) (taken) (hs2) (sl.2)) := ⟨HP501.out.over HRF.out (fun k hk a ha => HAP.out a ha _ (List.mem_of_getElem? HH.out) k hk) hg6⟩
              have HM502 : Aside0 (MH w6 g2 (sl.2.map strOfNums) (sl.1) (taken)) := ⟨HM501.out.r5 HRF.out hg6⟩
              have HO502 : Aside0 (w6.heap[go1]? = some (.cells #[.int .i64 0, .slice (some ad2) v.length cv, .int .i64 n] 33 (0, 0))) := ⟨blk_grown HO501.out hg6 (Kd.R_ne HRF.out HO501.out (by decide))⟩
              have HB502 : Aside0 (Below W.heap.size W w6) := ⟨below_r5 HB501.out HRF.out (HWB.out) HB501.out.size hg6⟩
              clear hg6
              go_wp2_with fail
              go_roundw
              case rel => exact ⟨j + 1, by omega, by go_num, HP502, HM502, HK6, HMK6, HO502, HB502⟩
              case measure => simp [intOf]; omega
    have hk0 : (kd == 0) = false := beq_eq_false_iff_ne.2 h0
    by_cases h1 : kd = 1
    case pos =>
      subst h1
      by_cases hin : 0 ≤ n ∧ n < (rows.length : Int)
      case pos => as_aux_lemma =>
        obtain ⟨i, rfl⟩ : ∃ i : Nat, n = (i : Int) := ⟨n.toNat, by omega⟩
        obtain ⟨r, hr⟩ : ∃ r, rows[i]? = some r := ⟨_, List.getElem?_eq_getElem (by omega)⟩
        have HI := Aside0.mk hr
        obtain ⟨B, d, hh, hrl⟩ := CP2.out.head hr
        have HH := Aside0.mk hh
        have HDS := Aside0.mk CP2.out.dist
        clear hr hh
        have zd0 : W1.cell? ⟨go1, 0, none⟩ = some (.int .i64 1) := (blk_cell Bo1.out 0).trans rfl
        have zd1 : W1.cell? ⟨go1, 1, none⟩ = some (.slice V v.length cv) := (blk_cell Bo1.out 1).trans rfl
        have zd2 : W1.cell? ⟨go1, 2, none⟩ = some (.int .i64 (i : Int)) := (blk_cell Bo1.out 2).trans rfl
        go_wp2_with fail
        clear zd0 zd1 zd2
        refine (rtake_in W1 g2 rows lost taken CM2.out i r HI.out).mono ?_
        rintro e wM ⟨rfl, hmt, hft⟩
        have HP601 : Aside0 (PH wM g (lost) (taken) (hs) (rows)) := ⟨CP2.out.frs hft⟩
        have HM601 : Aside0 (MH wM g2 ((rows.take i ++ rows.drop (i + 1)).map strOfNums) (lost) (taken)) := ⟨hmt⟩
        have HO601 : Aside0 (wM.heap[go1]? = some (.cells #[.int .i64 1, .slice V v.length cv, .int .i64 (i : Int)] 33 (0, 0))) := ⟨(hft.block _ _ 33 Bo1.out (by decide) (by decide)).trans Bo1.out⟩
        have HB601 : Aside0 (Below W.heap.size W wM) := ⟨FRS.after HB2.out hft GM.out⟩
        clear hft hmt
        have ze0 : wM.cell? ⟨go1, 0, none⟩ = some (.int .i64 1) := (blk_cell HO601.out 0).trans rfl
        have ze1 : wM.cell? ⟨go1, 1, none⟩ = some (.slice V v.length cv) := (blk_cell HO601.out 1).trans rfl
        have ze2 : wM.cell? ⟨go1, 2, none⟩ = some (.int .i64 (i : Int)) := (blk_cell HO601.out 2).trans rfl
        go_wp2_with fail
        clear ze0 ze1 ze2
        refine (deliver_h wM g (lost) (taken) (hs) (rows) HP601.out i B d r HI.out HH.out).mono ?_
        rintro e wD ⟨rfl, hrd, hp, hf⟩
        have HRD := Aside0.mk hrd
        clear hrd
        have HP602 : Aside0 (PH wD g (lost) (wrap64 (taken + 1)) (hs.take i ++ hs.drop (i + 1)) (rows.take i ++ rows.drop (i + 1))) := ⟨hp⟩
        have HM602 : Aside0 (MH wD g2 ((rows.take i ++ rows.drop (i + 1)).map strOfNums) (lost) (taken)) := ⟨HM601.out.fr HP601.out.at_ hf⟩
        have HO602 : Aside0 (wD.heap[go1]? = some (.cells #[.int .i64 1, .slice V v.length cv, .int .i64 (i : Int)] 33 (0, 0))) := ⟨blk_fr' HO601.out HP601.out.at_ (by decide) hf⟩
        have HB602 : Aside0 (Below W.heap.size W wD) := ⟨FR.after HB601.out hf HP601.out.at_ GE.out⟩
        clear hf hp
        have hsr : (convert 34 9 (.slice B r.length d)).run Try.prog wD = .ok (.string (strOfNums r)) wD := Kd.C_string (P := Try.prog) (c := d) hu34 hu5 hu9 (Kd.R_reads' HRD.out).2.2
        have hq := str_eq (strOfNums r)
        go_wp2_with fail
        clear hsr hq
        refine (over_c wD (g + 1) B d r.length r HRD.out hrl).mono ?_
        rintro e wO603 ⟨rfl, hgo603⟩
        have HP604 : Aside0 (PH wO603 g (lost) (wrap64 (taken + 1)) (hs.take i ++ hs.drop (i + 1)) (rows.take i ++ rows.drop (i + 1))) := ⟨HP602.out.over HRD.out (fun k hk a ha => HDS.out.apart i (B, r.length, d) HH.out k hk a ha) hgo603⟩
        have HM604 : Aside0 (MH wO603 g2 ((rows.take i ++ rows.drop (i + 1)).map strOfNums) (lost) (taken)) := ⟨HM602.out.r5 HRD.out hgo603⟩
        have HO604 : Aside0 (wO603.heap[go1]? = some (.cells #[.int .i64 1, .slice V v.length cv, .int .i64 (i : Int)] 33 (0, 0))) := ⟨blk_grown HO602.out hgo603 (Kd.R_ne HRD.out HO602.out (by decide))⟩
        have HB604 : Aside0 (Below W.heap.size W wO603) := ⟨below_r5 HB602.out HRD.out (Nat.le_succ_of_le GE.out) HB602.out.size hgo603⟩
        clear hgo603
        obtain ⟨Ab605, cb605, hbB, _, _⟩ := HM604.out
        have HBB605 := Aside0.mk hbB
        clear hbB
        have zb605 : wO603.cell? ⟨g2, 2, none⟩ = some (.int .i64 (taken)) := (blk_cell HBB605.out 2).trans rfl
        have zf605 := blk_frozen HBB605.out 2
        go_upto_region 46 with fail
        clear zb605 zf605
        obtain ⟨wB605, hwb⟩ : ∃ x : World, x = wO603.setCell ⟨g2, 2, none⟩ (.int .i64 (wrap64 (taken + 1))) := ⟨_, rfl⟩
        have hmb : MH wB605 g2 ((rows.take i ++ rows.drop (i + 1)).map strOfNums) (lost) (wrap64 (taken + 1)) := by rw [hwb]; exact HM604.out.set2.1
        have hfb : FRS g2 wO603 wB605 := by rw [hwb]; exact HM604.out.set2.2
        rw [← hwb]
        clear hwb
        have HP606 : Aside0 (PH wB605 g (lost) (wrap64 (taken + 1)) (hs.take i ++ hs.drop (i + 1)) (rows.take i ++ rows.drop (i + 1))) := ⟨HP604.out.frs hfb⟩
        have HM606 : Aside0 (MH wB605 g2 ((rows.take i ++ rows.drop (i + 1)).map strOfNums) (lost) (wrap64 (taken + 1))) := ⟨hmb⟩
        have HO606 : Aside0 (wB605.heap[go1]? = some (.cells #[.int .i64 1, .slice V v.length cv, .int .i64 (i : Int)] 33 (0, 0))) := ⟨(hfb.block _ _ 33 HO604.out (by decide) (by decide)).trans HO604.out⟩
        have HB606 : Aside0 (Below W.heap.size W wB605) := ⟨FRS.after HB604.out hfb GM.out⟩
        clear hfb hmb
        obtain ⟨lx, tx, hx2, rx, HPX, HMX⟩ : ∃ (lx tx : Int) (hx2 : List Hd) (rx : List (List Int)), Aside0 (PH wB605 g lx tx hx2 rx) ∧ Aside0 (MH wB605 g2 (rx.map strOfNums) lx tx) := ⟨_, _, _, _, HP606, HM606⟩
        obtain ⟨Am2, cm2, hmB2, _, _⟩ := HMX.out
        rw [List.length_map] at hmB2
        have HMB2 := Aside0.mk hmB2
        clear hmB2
        have zt0 : wB605.cell? ⟨g2, 0, none⟩ = some (.slice Am2 rx.length cm2) := (blk_cell HMB2.out 0).trans rfl
        have zt1 : wB605.cell? ⟨g2, 1, none⟩ = some (.int .i64 lx) := (blk_cell HMB2.out 1).trans rfl
        have zt2 : wB605.cell? ⟨g2, 2, none⟩ = some (.int .i64 tx) := (blk_cell HMB2.out 2).trans rfl
        have hq0 : ((rx.length : Int) != (rx.length : Int)) = false := by simp
        have hq1 : (lx != lx) = false := by simp
        have hq2 : (tx != tx) = false := by simp
        have HPT := Aside0.mk (HPX.out.below (below_drew (Below.refl _ wB605)))
        refine start_ (n := 26) (S := fun w' => w'.cell? ⟨g2, 0, none⟩ = some (.slice Am2 rx.length cm2) ∧ w'.cell? ⟨g2, 1, none⟩ = some (.int .i64 lx) ∧ w'.cell? ⟨g2, 2, none⟩ = some (.int .i64 tx)) (ds := []) #[false, false, false, false, false, false, false, false, false, false, false, false, false, false, false, false, false, false, false, false, false, false, false, false, false, false] (by kernel_rfl) rfl rfl ⟨zt0, zt1, zt2⟩ (fun hHeld => ?_)
        refine pure_ (i := 0) (N := some 166) (v := ?_) (a' := ?_) #[true, false, false, false, false, false, false, false, false, false, false, false, false, false, false, false, false, false, false, false, false, false, false, false, false, false] rfl rfl (by kernel_rfl) (fun _ _ _ h => h) (Or.inl ⟨by rfl, ?_⟩) ?_ ?_
        rotate_left
        · intro w'
          go_simp
          with_reducible rfl
        rotate_left
        · simp only [Act.put, List.setIfInBounds_toArray, List.set_cons_zero, List.set_cons_succ, i64_w, i32_w]
          rfl
        refine pure_ (i := 2) (N := some 168) (v := ?_) (a' := ?_) #[true, false, true, false, false, false, false, false, false, false, false, false, false, false, false, false, false, false, false, false, false, false, false, false, false, false] rfl rfl (by kernel_rfl) (fun _ _ _ h => h) (Or.inl ⟨by rfl, ?_⟩) ?_ ?_
        rotate_left
        · intro w'
          go_simp
          with_reducible rfl
        rotate_left
        · simp only [Act.put, List.setIfInBounds_toArray, List.set_cons_zero, List.set_cons_succ, i64_w, i32_w]
          rfl
        refine pure_ (i := 3) (N := some 169) (v := ?_) (a' := ?_) #[true, false, true, true, false, false, false, false, false, false, false, false, false, false, false, false, false, false, false, false, false, false, false, false, false, false] rfl rfl (by kernel_rfl) (fun _ _ _ h => h) (Or.inl ⟨by rfl, ?_⟩) ?_ ?_
        rotate_left
        · intro w'
          go_simp
          with_reducible rfl
        rotate_left
        · simp only [Act.put, List.setIfInBounds_toArray, List.set_cons_zero, List.set_cons_succ, i64_w, i32_w]
          rfl
        refine pure_ (i := 4) (N := some 170) (v := ?_) (a' := ?_) #[true, false, true, true, true, false, false, false, false, false, false, false, false, false, false, false, false, false, false, false, false, false, false, false, false, false] rfl rfl (by kernel_rfl) (fun _ _ _ h => h) (Or.inl ⟨by rfl, ?_⟩) ?_ ?_
        rotate_left
        · intro w'
          go_simp
          with_reducible rfl
        rotate_left
        · simp only [Act.put, List.setIfInBounds_toArray, List.set_cons_zero, List.set_cons_succ, i64_w, i32_w]
          rfl
        refine take_ (i := 5) (N := some 171) (v := ?_) (a' := ?_) #[true, false, true, true, true, true, false, false, false, false, false, false, false, false, false, false, false, false, false, false, false, false, false, false, false, false] rfl rfl (by kernel_rfl) (fun _ _ _ h => h) (Or.inl ⟨by rfl, ?_⟩) hHeld ?_ ?_
        rotate_left
        · rintro w' ⟨s0, s1, s2⟩
          go_simp
          with_reducible rfl
        rotate_left
        · simp only [Act.put, List.setIfInBounds_toArray, List.set_cons_zero, List.set_cons_succ, i64_w, i32_w]
          rfl
        refine pure_ (i := 6) (N := some 172) (v := ?_) (a' := ?_) #[true, false, true, true, true, true, true, false, false, false, false, false, false, false, false, false, false, false, false, false, false, false, false, false, false, false] rfl rfl (by kernel_rfl) (fun _ _ _ h => h) (Or.inl ⟨by rfl, ?_⟩) ?_ ?_
        rotate_left
        · intro w'
          go_simp
          with_reducible rfl
        rotate_left
        · simp only [Act.put, List.setIfInBounds_toArray, List.set_cons_zero, List.set_cons_succ, i64_w, i32_w]
          rfl
        refine one_ (i := 1) (N := some 167) #[true, true, true, true, true, true, true, false, false, false, false, false, false, false, false, false, false, false, false, false, false, false, false, false, false, false] rfl rfl (by kernel_rfl) (by decide) (fun K hK => ?_)
        refine goes_ Try.func21 (by kernel_rfl) rfl #[.pointer (some ⟨g, 0, none⟩)] (by rfl) rfl rfl (by simp only [List.map_toArray, List.map_cons, List.map_nil]; rfl) ?_
        with_reducible refine (len_c _ g lx tx rx HPT.out.at_).mono ?_
        rintro e wt0 ⟨rfl, hbt0⟩
        refine ⟨_, rfl, ?_⟩
        have HPT0 := Aside0.mk (HPT.out.below hbt0)
        have HBT0 := Aside0.mk (below_step (below_drew (Below.refl _ wB605)) hbt0)
        clear hbt0
        refine hK.out _ _ ⟨pw_cell_below HBT0.out zt0, pw_cell_below HBT0.out zt1, pw_cell_below HBT0.out zt2⟩ (fun hHeld => ?_)
        clear hK K
        refine norm_ (a' := ?_) ?_ ?_
        rotate_left
        · show Act.put _ (some 167) _ = _
          simp only [Act.put, List.setIfInBounds_toArray, List.set_cons_zero, List.set_cons_succ, i64_w, i32_w]
          rfl
        refine pure_ (i := 7) (N := some 173) (v := ?_) (a' := ?_) #[true, true, true, true, true, true, true, true, false, false, false, false, false, false, false, false, false, false, false, false, false, false, false, false, false, false] rfl rfl (by kernel_rfl) (fun _ _ _ h => h) (Or.inl ⟨by rfl, ?_⟩) ?_ ?_
        rotate_left
        · intro w'
          go_simp
          with_reducible rfl
        rotate_left
        · simp only [Act.put, List.setIfInBounds_toArray, List.set_cons_zero, List.set_cons_succ, i64_w, i32_w]
          rfl
        refine pure_ (i := 8) (N := some 174) (v := ?_) (a' := ?_) #[true, true, true, true, true, true, true, true, true, false, false, false, false, false, false, false, false, false, false, false, false, false, false, false, false, false] rfl rfl (by kernel_rfl) (fun _ _ _ h => h) (Or.inl ⟨by rfl, ?_⟩) ?_ ?_
        rotate_left
        · intro w'
          go_simp
          with_reducible rfl
        rotate_left
        · simp only [Act.put, List.setIfInBounds_toArray, List.set_cons_zero, List.set_cons_succ, i64_w, i32_w]
          rfl
        refine pure_ (i := 9) (N := some 175) (v := ?_) (a' := ?_) #[true, true, true, true, true, true, true, true, true, true, false, false, false, false, false, false, false, false, false, false, false, false, false, false, false, false] rfl rfl (by kernel_rfl) (fun _ _ _ h => h) (Or.inl ⟨by rfl, ?_⟩) ?_ ?_
        rotate_left
        · intro w'
          go_simp
          with_reducible rfl
        rotate_left
        · simp only [Act.put, List.setIfInBounds_toArray, List.set_cons_zero, List.set_cons_succ, i64_w, i32_w]
          rfl
        refine pure_ (i := 11) (N := some 177) (v := ?_) (a' := ?_) #[true, true, true, true, true, true, true, true, true, true, false, true, false, false, false, false, false, false, false, false, false, false, false, false, false, false] rfl rfl (by kernel_rfl) (fun _ _ _ h => h) (Or.inl ⟨by rfl, ?_⟩) ?_ ?_
        rotate_left
        · intro w'
          go_simp
          with_reducible rfl
        rotate_left
        · simp only [Act.put, List.setIfInBounds_toArray, List.set_cons_zero, List.set_cons_succ, i64_w, i32_w]
          rfl
        refine pure_ (i := 12) (N := some 178) (v := ?_) (a' := ?_) #[true, true, true, true, true, true, true, true, true, true, false, true, true, false, false, false, false, false, false, false, false, false, false, false, false, false] rfl rfl (by kernel_rfl) (fun _ _ _ h => h) (Or.inl ⟨by rfl, ?_⟩) ?_ ?_
        rotate_left
        · intro w'
          go_simp
          with_reducible rfl
        rotate_left
        · simp only [Act.put, List.setIfInBounds_toArray, List.set_cons_zero, List.set_cons_succ, i64_w, i32_w]
          rfl
        refine pure_ (i := 13) (N := some 179) (v := ?_) (a' := ?_) #[true, true, true, true, true, true, true, true, true, true, false, true, true, true, false, false, false, false, false, false, false, false, false, false, false, false] rfl rfl (by kernel_rfl) (fun _ _ _ h => h) (Or.inl ⟨by rfl, ?_⟩) ?_ ?_
        rotate_left
        · intro w'
          go_simp
          with_reducible rfl
        rotate_left
        · simp only [Act.put, List.setIfInBounds_toArray, List.set_cons_zero, List.set_cons_succ, i64_w, i32_w]
          rfl
        refine take_ (i := 14) (N := some 180) (v := ?_) (a' := ?_) #[true, true, true, true, true, true, true, true, true, true, false, true, true, true, true, false, false, false, false, false, false, false, false, false, false, false] rfl rfl (by kernel_rfl) (fun _ _ _ h => h) (Or.inl ⟨by rfl, ?_⟩) hHeld ?_ ?_
        rotate_left
        · rintro w' ⟨s0, s1, s2⟩
          go_simp
          with_reducible rfl
        rotate_left
        · simp only [Act.put, List.setIfInBounds_toArray, List.set_cons_zero, List.set_cons_succ, i64_w, i32_w]
          rfl
        refine one_ (i := 10) (N := some 176) #[true, true, true, true, true, true, true, true, true, true, true, true, true, true, true, false, false, false, false, false, false, false, false, false, false, false] rfl rfl (by kernel_rfl) (by decide) (fun K hK => ?_)
        refine goes_ Try.func22 (by kernel_rfl) rfl #[.pointer (some ⟨g, 0, none⟩)] (by rfl) rfl rfl (by simp only [List.map_toArray, List.map_cons, List.map_nil]; rfl) ?_
        with_reducible refine (lost_c _ g lx tx rx HPT0.out.at_).mono ?_
        rintro e wt1 ⟨rfl, hbt1⟩
        refine ⟨_, rfl, ?_⟩
        have HPT1 := Aside0.mk (HPT0.out.below hbt1)
        have HBT1 := Aside0.mk (below_step HBT0.out hbt1)
        clear hbt1
        refine hK.out _ _ ⟨pw_cell_below HBT1.out zt0, pw_cell_below HBT1.out zt1, pw_cell_below HBT1.out zt2⟩ (fun hHeld => ?_)
        clear hK K
        refine norm_ (a' := ?_) ?_ ?_
        rotate_left
        · show Act.put _ (some 176) _ = _
          simp only [Act.put, List.setIfInBounds_toArray, List.set_cons_zero, List.set_cons_succ, i64_w, i32_w]
          rfl
        refine pure_ (i := 15) (N := some 181) (v := ?_) (a' := ?_) #[true, true, true, true, true, true, true, true, true, true, true, true, true, true, true, true, false, false, false, false, false, false, false, false, false, false] rfl rfl (by kernel_rfl) (fun _ _ _ h => h) (Or.inl ⟨by rfl, ?_⟩) ?_ ?_
        rotate_left
        · intro w'
          go_simp
          with_reducible rfl
        rotate_left
        · simp only [Act.put, List.setIfInBounds_toArray, List.set_cons_zero, List.set_cons_succ, i64_w, i32_w]
          rfl
        refine pure_ (i := 16) (N := some 182) (v := ?_) (a' := ?_) #[true, true, true, true, true, true, true, true, true, true, true, true, true, true, true, true, true, false, false, false, false, false, false, false, false, false] rfl rfl (by kernel_rfl) (fun _ _ _ h => h) (Or.inl ⟨by rfl, ?_⟩) ?_ ?_
        rotate_left
        · intro w'
          go_simp
          with_reducible rfl
        rotate_left
        · simp only [Act.put, List.setIfInBounds_toArray, List.set_cons_zero, List.set_cons_succ, i64_w, i32_w]
          rfl
        refine pure_ (i := 17) (N := some 183) (v := ?_) (a' := ?_) #[true, true, true, true, true, true, true, true, true, true, true, true, true, true, true, true, true, true, false, false, false, false, false, false, false, false] rfl rfl (by kernel_rfl) (fun _ _ _ h => h) (Or.inl ⟨by rfl, ?_⟩) ?_ ?_
        rotate_left
        · intro w'
          go_simp
          with_reducible rfl
        rotate_left
        · simp only [Act.put, List.setIfInBounds_toArray, List.set_cons_zero, List.set_cons_succ, i64_w, i32_w]
          rfl
        refine pure_ (i := 18) (N := some 184) (v := ?_) (a' := ?_) #[true, true, true, true, true, true, true, true, true, true, true, true, true, true, true, true, true, true, true, false, false, false, false, false, false, false] rfl rfl (by kernel_rfl) (fun _ _ _ h => h) (Or.inl ⟨by rfl, ?_⟩) ?_ ?_
        rotate_left
        · intro w'
          go_simp
          with_reducible rfl
        rotate_left
        · simp only [Act.put, List.setIfInBounds_toArray, List.set_cons_zero, List.set_cons_succ, i64_w, i32_w]
          rfl
        refine pure_ (i := 20) (N := some 186) (v := ?_) (a' := ?_) #[true, true, true, true, true, true, true, true, true, true, true, true, true, true, true, true, true, true, true, false, true, false, false, false, false, false] rfl rfl (by kernel_rfl) (fun _ _ _ h => h) (Or.inl ⟨by rfl, ?_⟩) ?_ ?_
        rotate_left
        · intro w'
          go_simp
          with_reducible rfl
        rotate_left
        · simp only [Act.put, List.setIfInBounds_toArray, List.set_cons_zero, List.set_cons_succ, i64_w, i32_w]
          rfl
        refine pure_ (i := 21) (N := some 187) (v := ?_) (a' := ?_) #[true, true, true, true, true, true, true, true, true, true, true, true, true, true, true, true, true, true, true, false, true, true, false, false, false, false] rfl rfl (by kernel_rfl) (fun _ _ _ h => h) (Or.inl ⟨by rfl, ?_⟩) ?_ ?_
        rotate_left
        · intro w'
          go_simp
          with_reducible rfl
        rotate_left
        · simp only [Act.put, List.setIfInBounds_toArray, List.set_cons_zero, List.set_cons_succ, i64_w, i32_w]
          rfl
        refine pure_ (i := 22) (N := some 188) (v := ?_) (a' := ?_) #[true, true, true, true, true, true, true, true, true, true, true, true, true, true, true, true, true, true, true, false, true, true, true, false, false, false] rfl rfl (by kernel_rfl) (fun _ _ _ h => h) (Or.inl ⟨by rfl, ?_⟩) ?_ ?_
        rotate_left
        · intro w'
          go_simp
          with_reducible rfl
        rotate_left
        · simp only [Act.put, List.setIfInBounds_toArray, List.set_cons_zero, List.set_cons_succ, i64_w, i32_w]
          rfl
        refine take_ (i := 23) (N := some 189) (v := ?_) (a' := ?_) #[true, true, true, true, true, true, true, true, true, true, true, true, true, true, true, true, true, true, true, false, true, true, true, true, false, false] rfl rfl (by kernel_rfl) (fun _ _ _ h => h) (Or.inl ⟨by rfl, ?_⟩) hHeld ?_ ?_
        rotate_left
        · rintro w' ⟨s0, s1, s2⟩
          go_simp
          with_reducible rfl
        rotate_left
        · simp only [Act.put, List.setIfInBounds_toArray, List.set_cons_zero, List.set_cons_succ, i64_w, i32_w]
          rfl
        refine one_ (i := 19) (N := some 185) #[true, true, true, true, true, true, true, true, true, true, true, true, true, true, true, true, true, true, true, true, true, true, true, true, false, false] rfl rfl (by kernel_rfl) (by decide) (fun K hK => ?_)
        refine goes_ Try.func23 (by kernel_rfl) rfl #[.pointer (some ⟨g, 0, none⟩)] (by rfl) rfl rfl (by simp only [List.map_toArray, List.map_cons, List.map_nil]; rfl) ?_
        with_reducible refine (taken_c _ g lx tx rx HPT1.out.at_).mono ?_
        rintro e wt2 ⟨rfl, hbt2⟩
        refine ⟨_, rfl, ?_⟩
        have HPT2 := Aside0.mk (HPT1.out.below hbt2)
        have HBT2 := Aside0.mk (below_step HBT1.out hbt2)
        clear hbt2
        refine hK.out _ _ ⟨pw_cell_below HBT2.out zt0, pw_cell_below HBT2.out zt1, pw_cell_below HBT2.out zt2⟩ (fun hHeld => ?_)
        clear hK K
        refine norm_ (a' := ?_) ?_ ?_
        rotate_left
        · show Act.put _ (some 185) _ = _
          simp only [Act.put, List.setIfInBounds_toArray, List.set_cons_zero, List.set_cons_succ, i64_w, i32_w]
          rfl
        refine pure_ (i := 24) (N := some 190) (v := ?_) (a' := ?_) #[true, true, true, true, true, true, true, true, true, true, true, true, true, true, true, true, true, true, true, true, true, true, true, true, true, false] rfl rfl (by kernel_rfl) (fun _ _ _ h => h) (Or.inl ⟨by rfl, ?_⟩) ?_ ?_
        rotate_left
        · intro w'
          go_simp
          with_reducible rfl
        rotate_left
        · simp only [Act.put, List.setIfInBounds_toArray, List.set_cons_zero, List.set_cons_succ, i64_w, i32_w]
          rfl
        refine pure_ (i := 25) (N := some 191) (v := ?_) (a' := ?_) #[true, true, true, true, true, true, true, true, true, true, true, true, true, true, true, true, true, true, true, true, true, true, true, true, true, true] rfl rfl (by kernel_rfl) (fun _ _ _ h => h) (Or.inl ⟨by rfl, ?_⟩) ?_ ?_
        rotate_left
        · intro w'
          go_simp
          with_reducible rfl
        rotate_left
        · simp only [Act.put, List.setIfInBounds_toArray, List.set_cons_zero, List.set_cons_succ, i64_w, i32_w]
          rfl
        refine done_ (by kernel_rfl) ?_
        clear zt0 zt1 zt2
        go_wp2_with fail
        go_roundw
        case rel => exact ⟨k + 1, lx, tx, hx2, rx, by omega, by go_num, ⟨HPX.out.below HBT2.out⟩, ⟨HMX.out.below HBT2.out⟩, ⟨below_step HB606.out HBT2.out⟩⟩
        case measure => simp [intOf]; omega
      case neg => as_aux_lemma =>
        have HOUT : Aside0 (n < 0 ∨ (rows.length : Int) ≤ n) := ⟨by omega⟩
        clear hin
        have zd0 : W1.cell? ⟨go1, 0, none⟩ = some (.int .i64 1) := (blk_cell Bo1.out 0).trans rfl
        have zd1 : W1.cell? ⟨go1, 1, none⟩ = some (.slice V v.length cv) := (blk_cell Bo1.out 1).trans rfl
        have zd2 : W1.cell? ⟨go1, 2, none⟩ = some (.int .i64 n) := (blk_cell Bo1.out 2).trans rfl
        go_wp2_with fail
        clear zd0 zd1 zd2
        refine (rtake_out W1 g2 rows lost taken CM2.out n HOUT.out).mono ?_
        rintro e wM ⟨rfl, hmt, hft⟩
        have HP701 : Aside0 (PH wM g (lost) (taken) (hs) (rows)) := ⟨CP2.out.frs hft⟩
        have HM701 : Aside0 (MH wM g2 (rows.map strOfNums) (lost) (taken)) := ⟨hmt⟩
        have HO701 : Aside0 (wM.heap[go1]? = some (.cells #[.int .i64 1, .slice V v.length cv, .int .i64 n] 33 (0, 0))) := ⟨(hft.block _ _ 33 Bo1.out (by decide) (by decide)).trans Bo1.out⟩
        have HB701 : Aside0 (Below W.heap.size W wM) := ⟨FRS.after HB2.out hft GM.out⟩
        clear hft hmt
        have ze0 : wM.cell? ⟨go1, 0, none⟩ = some (.int .i64 1) := (blk_cell HO701.out 0).trans rfl
        have ze1 : wM.cell? ⟨go1, 1, none⟩ = some (.slice V v.length cv) := (blk_cell HO701.out 1).trans rfl
        have ze2 : wM.cell? ⟨go1, 2, none⟩ = some (.int .i64 n) := (blk_cell HO701.out 2).trans rfl
        go_wp2_with fail
        clear ze0 ze1 ze2
        refine (deliver_out wM g (lost) (taken) (rows) HP701.out.at_ n HOUT.out).mono ?_
        rintro e wD ⟨rfl, hbd⟩
        have HP702 : Aside0 (PH wD g (lost) (taken) (hs) (rows)) := ⟨HP701.out.below hbd⟩
        have HM702 : Aside0 (MH wD g2 (rows.map strOfNums) (lost) (taken)) := ⟨HM701.out.below hbd⟩
        have HO702 : Aside0 (wD.heap[go1]? = some (.cells #[.int .i64 1, .slice V v.length cv, .int .i64 n] 33 (0, 0))) := ⟨blk_below HO701.out hbd⟩
        have HB702 : Aside0 (Below W.heap.size W wD) := ⟨below_step HB701.out hbd⟩
        clear hbd
        have hsr : (convert 34 9 (.slice none 0 0)).run Try.prog wD = .ok (.string (strOfNums [])) wD := Kd.C_string (P := Try.prog) (c := 0) hu34 hu5 hu9 (Kd.R_reads' (Kd.R_nil kb 5 wD 0 (fun _ => True))).2.2
        obtain ⟨se, hse⟩ : ∃ x, strOfNums [] = x := ⟨_, rfl⟩
        rw [hse] at hsr
        rw [hse]
        clear hse
        have hq := str_eq se
        go_wp2_with fail
        clear hsr hq
        refine (over_c wD (g + 1) none 0 0 [] (Kd.R_nil kb 5 wD (g + 1) (fun _ => True)) (by omega)).mono ?_
        rintro e wO703 ⟨rfl, hgo703⟩
        have HP704 : Aside0 (PH wO703 g (lost) (taken) (hs) (rows)) := ⟨HP702.out.over (Kd.R_nil kb 5 wD (g + 1) (fun _ => True)) (fun k hk => by cases hk) hgo703⟩
        have HM704 : Aside0 (MH wO703 g2 (rows.map strOfNums) (lost) (taken)) := ⟨HM702.out.r5 (Kd.R_nil kb 5 wD (g + 1) (fun _ => True)) hgo703⟩
        have HO704 : Aside0 (wO703.heap[go1]? = some (.cells #[.int .i64 1, .slice V v.length cv, .int .i64 n] 33 (0, 0))) := ⟨blk_grown HO702.out hgo703 (Kd.R_ne (Kd.R_nil kb 5 wD (g + 1) (fun _ => True)) HO702.out (by decide))⟩
        have HB704 : Aside0 (Below W.heap.size W wO703) := ⟨below_r5 HB702.out (Kd.R_nil kb 5 wD (g + 1) (fun _ => True)) (Nat.le_succ_of_le GE.out) HB702.out.size hgo703⟩
        clear hgo703
        go_upto_region 46 with fail
        obtain ⟨lx, tx, hx2, rx, HPX, HMX⟩ : ∃ (lx tx : Int) (hx2 : List Hd) (rx : List (List Int)), Aside0 (PH wO703 g lx tx hx2 rx) ∧ Aside0 (MH wO703 g2 (rx.map strOfNums) lx tx) := ⟨_, _, _, _, HP704, HM704⟩
        obtain ⟨Am2, cm2, hmB2, _, _⟩ := HMX.out
        rw [List.length_map] at hmB2
        have HMB2 := Aside0.mk hmB2
        clear hmB2
        have zt0 : wO703.cell? ⟨g2, 0, none⟩ = some (.slice Am2 rx.length cm2) := (blk_cell HMB2.out 0).trans rfl
        have zt1 : wO703.cell? ⟨g2, 1, none⟩ = some (.int .i64 lx) := (blk_cell HMB2.out 1).trans rfl
        have zt2 : wO703.cell? ⟨g2, 2, none⟩ = some (.int .i64 tx) := (blk_cell HMB2.out 2).trans rfl
        have hq0 : ((rx.length : Int) != (rx.length : Int)) = false := by simp
        have hq1 : (lx != lx) = false := by simp
        have hq2 : (tx != tx) = false := by simp
        have HPT := Aside0.mk (HPX.out.below (below_drew (Below.refl _ wO703)))
        refine start_ (n := 26) (S := fun w' => w'.cell? ⟨g2, 0, none⟩ = some (.slice Am2 rx.length cm2) ∧ w'.cell? ⟨g2, 1, none⟩ = some (.int .i64 lx) ∧ w'.cell? ⟨g2, 2, none⟩ = some (.int .i64 tx)) (ds := []) #[false, false, false, false, false, false, false, false, false, false, false, false, false, false, false, false, false, false, false, false, false, false, false, false, false, false] (by kernel_rfl) rfl rfl ⟨zt0, zt1, zt2⟩ (fun hHeld => ?_)
        refine pure_ (i := 0) (N := some 166) (v := ?_) (a' := ?_) #[true, false, false, false, false, false, false, false, false, false, false, false, false, false, false, false, false, false, false, false, false, false, false, false, false, false] rfl rfl (by kernel_rfl) (fun _ _ _ h => h) (Or.inl ⟨by rfl, ?_⟩) ?_ ?_
        rotate_left
        · intro w'
          go_simp
          with_reducible rfl
        rotate_left
        · simp only [Act.put, List.setIfInBounds_toArray, List.set_cons_zero, List.set_cons_succ, i64_w, i32_w]
          rfl
        refine pure_ (i := 2) (N := some 168) (v := ?_) (a' := ?_) #[true, false, true, false, false, false, false, false, false, false, false, false, false, false, false, false, false, false, false, false, false, false, false, false, false, false] rfl rfl (by kernel_rfl) (fun _ _ _ h => h) (Or.inl ⟨by rfl, ?_⟩) ?_ ?_
        rotate_left
        · intro w'
          go_simp
          with_reducible rfl
        rotate_left
        · simp only [Act.put, List.setIfInBounds_toArray, List.set_cons_zero, List.set_cons_succ, i64_w, i32_w]
          rfl
        refine pure_ (i := 3) (N := some 169) (v := ?_) (a' := ?_) #[true, false, true, true, false, false, false, false, false, false, false, false, false, false, false, false, false, false, false, false, false, false, false, false, false, false] rfl rfl (by kernel_rfl) (fun _ _ _ h => h) (Or.inl ⟨by rfl, ?_⟩) ?_ ?_
        rotate_left
        · intro w'
          go_simp
          with_reducible rfl
        rotate_left
        · simp only [Act.put, List.setIfInBounds_toArray, List.set_cons_zero, List.set_cons_succ, i64_w, i32_w]
          rfl
        refine pure_ (i := 4) (N := some 170) (v := ?_) (a' := ?_) #[true, false, true, true, true, false, false, false, false, false, false, false, false, false, false, false, false, false, false, false, false, false, false, false, false, false] rfl rfl (by kernel_rfl) (fun _ _ _ h => h) (Or.inl ⟨by rfl, ?_⟩) ?_ ?_
        rotate_left
        · intro w'
          go_simp
          with_reducible rfl
        rotate_left
        · simp only [Act.put, List.setIfInBounds_toArray, List.set_cons_zero, List.set_cons_succ, i64_w, i32_w]
          rfl
        refine take_ (i := 5) (N := some 171) (v := ?_) (a' := ?_) #[true, false, true, true, true, true, false, false, false, false, false, false, false, false, false, false, false, false, false, false, false, false, false, false, false, false] rfl rfl (by kernel_rfl) (fun _ _ _ h => h) (Or.inl ⟨by rfl, ?_⟩) hHeld ?_ ?_
        rotate_left
        · rintro w' ⟨s0, s1, s2⟩
          go_simp
          with_reducible rfl
        rotate_left
        · simp only [Act.put, List.setIfInBounds_toArray, List.set_cons_zero, List.set_cons_succ, i64_w, i32_w]
          rfl
        refine pure_ (i := 6) (N := some 172) (v := ?_) (a' := ?_) #[true, false, true, true, true, true, true, false, false, false, false, false, false, false, false, false, false, false, false, false, false, false, false, false, false, false] rfl rfl (by kernel_rfl) (fun _ _ _ h => h) (Or.inl ⟨by rfl, ?_⟩) ?_ ?_
        rotate_left
        · intro w'
          go_simp
          with_reducible rfl
        rotate_left
        · simp only [Act.put, List.setIfInBounds_toArray, List.set_cons_zero, List.set_cons_succ, i64_w, i32_w]
          rfl
        refine one_ (i := 1) (N := some 167) #[true, true, true, true, true, true, true, false, false, false, false, false, false, false, false, false, false, false, false, false, false, false, false, false, false, false] rfl rfl (by kernel_rfl) (by decide) (fun K hK => ?_)
        refine goes_ Try.func21 (by kernel_rfl) rfl #[.pointer (some ⟨g, 0, none⟩)] (by rfl) rfl rfl (by simp only [List.map_toArray, List.map_cons, List.map_nil]; rfl) ?_
        with_reducible refine (len_c _ g lx tx rx HPT.out.at_).mono ?_
        rintro e wt0 ⟨rfl, hbt0⟩
        refine ⟨_, rfl, ?_⟩
        have HPT0 := Aside0.mk (HPT.out.below hbt0)
        have HBT0 := Aside0.mk (below_step (below_drew (Below.refl _ wO703)) hbt0)
        clear hbt0
        refine hK.out _ _ ⟨pw_cell_below HBT0.out zt0, pw_cell_below HBT0.out zt1, pw_cell_below HBT0.out zt2⟩ (fun hHeld => ?_)
        clear hK K
        refine norm_ (a' := ?_) ?_ ?_
        rotate_left
        · show Act.put _ (some 167) _ = _
          simp only [Act.put, List.setIfInBounds_toArray, List.set_cons_zero, List.set_cons_succ, i64_w, i32_w]
          rfl
        refine pure_ (i := 7) (N := some 173) (v := ?_) (a' := ?_) #[true, true, true, true, true, true, true, true, false, false, false, false, false, false, false, false, false, false, false, false, false, false, false, false, false, false] rfl rfl (by kernel_rfl) (fun _ _ _ h => h) (Or.inl ⟨by rfl, ?_⟩) ?_ ?_
        rotate_left
        · intro w'
          go_simp
          with_reducible rfl
        rotate_left
        · simp only [Act.put, List.setIfInBounds_toArray, List.set_cons_zero, List.set_cons_succ, i64_w, i32_w]
          rfl
        refine pure_ (i := 8) (N := some 174) (v := ?_) (a' := ?_) #[true, true, true, true, true, true, true, true, true, false, false, false, false, false, false, false, false, false, false, false, false, false, false, false, false, false] rfl rfl (by kernel_rfl) (fun _ _ _ h => h) (Or.inl ⟨by rfl, ?_⟩) ?_ ?_
        rotate_left
        · intro w'
          go_simp
          with_reducible rfl
        rotate_left
        · simp only [Act.put, List.setIfInBounds_toArray, List.set_cons_zero, List.set_cons_succ, i64_w, i32_w]
          rfl
        refine pure_ (i := 9) (N := some 175) (v := ?_) (a' := ?_) #[true, true, true, true, true, true, true, true, true, true, false, false, false, false, false, false, false, false, false, false, false, false, false, false, false, false] rfl rfl (by kernel_rfl) (fun _ _ _ h => h) (Or.inl ⟨by rfl, ?_⟩) ?_ ?_
        rotate_left
        · intro w'
          go_simp
          with_reducible rfl
        rotate_left
        · simp only [Act.put, List.setIfInBounds_toArray, List.set_cons_zero, List.set_cons_succ, i64_w, i32_w]
          rfl
        refine pure_ (i := 11) (N := some 177) (v := ?_) (a' := ?_) #[true, true, true, true, true, true, true, true, true, true, false, true, false, false, false, false, false, false, false, false, false, false, false, false, false, false] rfl rfl (by kernel_rfl) (fun _ _ _ h => h) (Or.inl ⟨by rfl, ?_⟩) ?_ ?_
        rotate_left
        · intro w'
          go_simp
          with_reducible rfl
        rotate_left
        · simp only [Act.put, List.setIfInBounds_toArray, List.set_cons_zero, List.set_cons_succ, i64_w, i32_w]
          rfl
        refine pure_ (i := 12) (N := some 178) (v := ?_) (a' := ?_) #[true, true, true, true, true, true, true, true, true, true, false, true, true, false, false, false, false, false, false, false, false, false, false, false, false, false] rfl rfl (by kernel_rfl) (fun _ _ _ h => h) (Or.inl ⟨by rfl, ?_⟩) ?_ ?_
        rotate_left
        · intro w'
          go_simp
          with_reducible rfl
        rotate_left
        · simp only [Act.put, List.setIfInBounds_toArray, List.set_cons_zero, List.set_cons_succ, i64_w, i32_w]
          rfl
        refine pure_ (i := 13) (N := some 179) (v := ?_) (a' := ?_) #[true, true, true, true, true, true, true, true, true, true, false, true, true, true, false, false, false, false, false, false, false, false, false, false, false, false] rfl rfl (by kernel_rfl) (fun _ _ _ h => h) (Or.inl ⟨by rfl, ?_⟩) ?_ ?_
        rotate_left
        · intro w'
          go_simp
          with_reducible rfl
        rotate_left
        · simp only [Act.put, List.setIfInBounds_toArray, List.set_cons_zero, List.set_cons_succ, i64_w, i32_w]
          rfl
        refine take_ (i := 14) (N := some 180) (v := ?_) (a' := ?_) #[true, true, true, true, true, true, true, true, true, true, false, true, true, true, true, false, false, false, false, false, false, false, false, false, false, false] rfl rfl (by kernel_rfl) (fun _ _ _ h => h) (Or.inl ⟨by rfl, ?_⟩) hHeld ?_ ?_
        rotate_left
        · rintro w' ⟨s0, s1, s2⟩
          go_simp
          with_reducible rfl
        rotate_left
        · simp only [Act.put, List.setIfInBounds_toArray, List.set_cons_zero, List.set_cons_succ, i64_w, i32_w]
          rfl
        refine one_ (i := 10) (N := some 176) #[true, true, true, true, true, true, true, true, true, true, true, true, true, true, true, false, false, false, false, false, false, false, false, false, false, false] rfl rfl (by kernel_rfl) (by decide) (fun K hK => ?_)
        refine goes_ Try.func22 (by kernel_rfl) rfl #[.pointer (some ⟨g, 0, none⟩)] (by rfl) rfl rfl (by simp only [List.map_toArray, List.map_cons, List.map_nil]; rfl) ?_
        with_reducible refine (lost_c _ g lx tx rx HPT0.out.at_).mono ?_
        rintro e wt1 ⟨rfl, hbt1⟩
        refine ⟨_, rfl, ?_⟩
        have HPT1 := Aside0.mk (HPT0.out.below hbt1)
        have HBT1 := Aside0.mk (below_step HBT0.out hbt1)
        clear hbt1
        refine hK.out _ _ ⟨pw_cell_below HBT1.out zt0, pw_cell_below HBT1.out zt1, pw_cell_below HBT1.out zt2⟩ (fun hHeld => ?_)
        clear hK K
        refine norm_ (a' := ?_) ?_ ?_
        rotate_left
        · show Act.put _ (some 176) _ = _
          simp only [Act.put, List.setIfInBounds_toArray, List.set_cons_zero, List.set_cons_succ, i64_w, i32_w]
          rfl
        refine pure_ (i := 15) (N := some 181) (v := ?_) (a' := ?_) #[true, true, true, true, true, true, true, true, true, true, true, true, true, true, true, true, false, false, false, false, false, false, false, false, false, false] rfl rfl (by kernel_rfl) (fun _ _ _ h => h) (Or.inl ⟨by rfl, ?_⟩) ?_ ?_
        rotate_left
        · intro w'
          go_simp
          with_reducible rfl
        rotate_left
        · simp only [Act.put, List.setIfInBounds_toArray, List.set_cons_zero, List.set_cons_succ, i64_w, i32_w]
          rfl
        refine pure_ (i := 16) (N := some 182) (v := ?_) (a' := ?_) #[true, true, true, true, true, true, true, true, true, true, true, true, true, true, true, true, true, false, false, false, false, false, false, false, false, false] rfl rfl (by kernel_rfl) (fun _ _ _ h => h) (Or.inl ⟨by rfl, ?_⟩) ?_ ?_
        rotate_left
        · intro w'
          go_simp
          with_reducible rfl
        rotate_left
        · simp only [Act.put, List.setIfInBounds_toArray, List.set_cons_zero, List.set_cons_succ, i64_w, i32_w]
          rfl
        refine pure_ (i := 17) (N := some 183) (v := ?_) (a' := ?_) #[true, true, true, true, true, true, true, true, true, true, true, true, true, true, true, true, true, true, false, false, false, false, false, false, false, false] rfl rfl (by kernel_rfl) (fun _ _ _ h => h) (Or.inl ⟨by rfl, ?_⟩) ?_ ?_
        rotate_left
        · intro w'
          go_simp
          with_reducible rfl
        rotate_left
        · simp only [Act.put, List.setIfInBounds_toArray, List.set_cons_zero, List.set_cons_succ, i64_w, i32_w]
          rfl
        refine pure_ (i := 18) (N := some 184) (v := ?_) (a' := ?_) #[true, true, true, true, true, true, true, true, true, true, true, true, true, true, true, true, true, true, true, false, false, false, false, false, false, false] rfl rfl (by kernel_rfl) (fun _ _ _ h => h) (Or.inl ⟨by rfl, ?_⟩) ?_ ?_
        rotate_left
        · intro w'
          go_simp
          with_reducible rfl
        rotate_left
        · simp only [Act.put, List.setIfInBounds_toArray, List.set_cons_zero, List.set_cons_succ, i64_w, i32_w]
          rfl
        refine pure_ (i := 20) (N := some 186) (v := ?_) (a' := ?_) #[true, true, true, true, true, true, true, true, true, true, true, true, true, true, true, true, true, true, true, false, true, false, false, false, false, false] rfl rfl (by kernel_rfl) (fun _ _ _ h => h) (Or.inl ⟨by rfl, ?_⟩) ?_ ?_
        rotate_left
        · intro w'
          go_simp
          with_reducible rfl
        rotate_left
        · simp only [Act.put, List.setIfInBounds_toArray, List.set_cons_zero, List.set_cons_succ, i64_w, i32_w]
          rfl
        refine pure_ (i := 21) (N := some 187) (v := ?_) (a' := ?_) #[true, true, true, true, true, true, true, true, true, true, true, true, true, true, true, true, true, true, true, false, true, true, false, false, false, false] rfl rfl (by kernel_rfl) (fun _ _ _ h => h) (Or.inl ⟨by rfl, ?_⟩) ?_ ?_
        rotate_left
        · intro w'
          go_simp
          with_reducible rfl
        rotate_left
        · simp only [Act.put, List.setIfInBounds_toArray, List.set_cons_zero, List.set_cons_succ, i64_w, i32_w]
          rfl
        refine pure_ (i := 22) (N := some 188) (v := ?_) (a' := ?_) #[true, true, true, true, true, true, true, true, true, true, true, true, true, true, true, true, true, true, true, false, true, true, true, false, false, false] rfl rfl (by kernel_rfl) (fun _ _ _ h => h) (Or.inl ⟨by rfl, ?_⟩) ?_ ?_
        rotate_left
        · intro w'
          go_simp
          with_reducible rfl
        rotate_left
        · simp only [Act.put, List.setIfInBounds_toArray, List.set_cons_zero, List.set_cons_succ, i64_w, i32_w]
          rfl
        refine take_ (i := 23) (N := some 189) (v := ?_) (a' := ?_) #[true, true, true, true, true, true, true, true, true, true, true, true, true, true, true, true, true, true, true, false, true, true, true, true, false, false] rfl rfl (by kernel_rfl) (fun _ _ _ h => h) (Or.inl ⟨by rfl, ?_⟩) hHeld ?_ ?_
        rotate_left
        · rintro w' ⟨s0, s1, s2⟩
          go_simp
          with_reducible rfl
        rotate_left
        · simp only [Act.put, List.setIfInBounds_toArray, List.set_cons_zero, List.set_cons_succ, i64_w, i32_w]
          rfl
        refine one_ (i := 19) (N := some 185) #[true, true, true, true, true, true, true, true, true, true, true, true, true, true, true, true, true, true, true, true, true, true, true, true, false, false] rfl rfl (by kernel_rfl) (by decide) (fun K hK => ?_)
        refine goes_ Try.func23 (by kernel_rfl) rfl #[.pointer (some ⟨g, 0, none⟩)] (by rfl) rfl rfl (by simp only [List.map_toArray, List.map_cons, List.map_nil]; rfl) ?_
        with_reducible refine (taken_c _ g lx tx rx HPT1.out.at_).mono ?_
        rintro e wt2 ⟨rfl, hbt2⟩
        refine ⟨_, rfl, ?_⟩
        have HPT2 := Aside0.mk (HPT1.out.below hbt2)
        have HBT2 := Aside0.mk (below_step HBT1.out hbt2)
        clear hbt2
        refine hK.out _ _ ⟨pw_cell_below HBT2.out zt0, pw_cell_below HBT2.out zt1, pw_cell_below HBT2.out zt2⟩ (fun hHeld => ?_)
        clear hK K
        refine norm_ (a' := ?_) ?_ ?_
        rotate_left
        · show Act.put _ (some 185) _ = _
          simp only [Act.put, List.setIfInBounds_toArray, List.set_cons_zero, List.set_cons_succ, i64_w, i32_w]
          rfl
        refine pure_ (i := 24) (N := some 190) (v := ?_) (a' := ?_) #[true, true, true, true, true, true, true, true, true, true, true, true, true, true, true, true, true, true, true, true, true, true, true, true, true, false] rfl rfl (by kernel_rfl) (fun _ _ _ h => h) (Or.inl ⟨by rfl, ?_⟩) ?_ ?_
        rotate_left
        · intro w'
          go_simp
          with_reducible rfl
        rotate_left
        · simp only [Act.put, List.setIfInBounds_toArray, List.set_cons_zero, List.set_cons_succ, i64_w, i32_w]
          rfl
        refine pure_ (i := 25) (N := some 191) (v := ?_) (a' := ?_) #[true, true, true, true, true, true, true, true, true, true, true, true, true, true, true, true, true, true, true, true, true, true, true, true, true, true] rfl rfl (by kernel_rfl) (fun _ _ _ h => h) (Or.inl ⟨by rfl, ?_⟩) ?_ ?_
        rotate_left
        · intro w'
          go_simp
          with_reducible rfl
        rotate_left
        · simp only [Act.put, List.setIfInBounds_toArray, List.set_cons_zero, List.set_cons_succ, i64_w, i32_w]
          rfl
        refine done_ (by kernel_rfl) ?_
        clear zt0 zt1 zt2
        go_wp2_with fail
        go_roundw
        case rel => exact ⟨k + 1, lx, tx, hx2, rx, by omega, by go_num, ⟨HPX.out.below HBT2.out⟩, ⟨HMX.out.below HBT2.out⟩, ⟨below_step HB704.out HBT2.out⟩⟩
        case measure => simp [intOf]; omega
    have hk1 : (kd == 1) = false := beq_eq_false_iff_ne.2 h1
    by_cases h2 : kd = 2
    case pos =>
      subst h2
      by_cases hin : 0 ≤ n ∧ n < (rows.length : Int)
      case pos => as_aux_lemma =>
        obtain ⟨i, rfl⟩ : ∃ i : Nat, n = (i : Int) := ⟨n.toNat, by omega⟩
        obtain ⟨r, hr⟩ : ∃ r, rows[i]? = some r := ⟨_, List.getElem?_eq_getElem (by omega)⟩
        have HI := Aside0.mk hr
        obtain ⟨B, d, hh, hrl⟩ := CP2.out.head hr
        have HH := Aside0.mk hh
        have HDS := Aside0.mk CP2.out.dist
        clear hr hh
        have zd0 : W1.cell? ⟨go1, 0, none⟩ = some (.int .i64 2) := (blk_cell Bo1.out 0).trans rfl
        have zd1 : W1.cell? ⟨go1, 1, none⟩ = some (.slice V v.length cv) := (blk_cell Bo1.out 1).trans rfl
        have zd2 : W1.cell? ⟨go1, 2, none⟩ = some (.int .i64 (i : Int)) := (blk_cell Bo1.out 2).trans rfl
        go_wp2_with fail
        clear zd0 zd1 zd2
        refine (rtake_in W1 g2 rows lost taken CM2.out i r HI.out).mono ?_
        rintro e wM ⟨rfl, hmt, hft⟩
        have HP801 : Aside0 (PH wM g (lost) (taken) (hs) (rows)) := ⟨CP2.out.frs hft⟩
        have HM801 : Aside0 (MH wM g2 ((rows.take i ++ rows.drop (i + 1)).map strOfNums) (lost) (taken)) := ⟨hmt⟩
        have HO801 : Aside0 (wM.heap[go1]? = some (.cells #[.int .i64 2, .slice V v.length cv, .int .i64 (i : Int)] 33 (0, 0))) := ⟨(hft.block _ _ 33 Bo1.out (by decide) (by decide)).trans Bo1.out⟩
        have HB801 : Aside0 (Below W.heap.size W wM) := ⟨FRS.after HB2.out hft GM.out⟩
        clear hft hmt
        have ze0 : wM.cell? ⟨go1, 0, none⟩ = some (.int .i64 2) := (blk_cell HO801.out 0).trans rfl
        have ze1 : wM.cell? ⟨go1, 1, none⟩ = some (.slice V v.length cv) := (blk_cell HO801.out 1).trans rfl
        have ze2 : wM.cell? ⟨go1, 2, none⟩ = some (.int .i64 (i : Int)) := (blk_cell HO801.out 2).trans rfl
        go_wp2_with fail
        clear ze0 ze1 ze2
        refine (drop_h wM g (lost) (taken) (hs) (rows) HP801.out i B d r HI.out HH.out).mono ?_
        rintro e wD ⟨rfl, hp, hf⟩
        have HP802 : Aside0 (PH wD g (wrap64 (lost + 1)) (taken) (hs.take i ++ hs.drop (i + 1)) (rows.take i ++ rows.drop (i + 1))) := ⟨hp⟩
        have HM802 : Aside0 (MH wD g2 ((rows.take i ++ rows.drop (i + 1)).map strOfNums) (lost) (taken)) := ⟨HM801.out.fr HP801.out.at_ hf⟩
        have HO802 : Aside0 (wD.heap[go1]? = some (.cells #[.int .i64 2, .slice V v.length cv, .int .i64 (i : Int)] 33 (0, 0))) := ⟨blk_fr' HO801.out HP801.out.at_ (by decide) hf⟩
        have HB802 : Aside0 (Below W.heap.size W wD) := ⟨FR.after HB801.out hf HP801.out.at_ GE.out⟩
        clear hf hp
        obtain ⟨Ab803, cb803, hbB, _, _⟩ := HM802.out
        have HBB803 := Aside0.mk hbB
        clear hbB
        have zb803 : wD.cell? ⟨g2, 1, none⟩ = some (.int .i64 (lost)) := (blk_cell HBB803.out 1).trans rfl
        have zf803 := blk_frozen HBB803.out 1
        go_upto_region 46 with fail
        clear zb803 zf803
        obtain ⟨wB803, hwb⟩ : ∃ x : World, x = wD.setCell ⟨g2, 1, none⟩ (.int .i64 (wrap64 (lost + 1))) := ⟨_, rfl⟩
        have hmb : MH wB803 g2 ((rows.take i ++ rows.drop (i + 1)).map strOfNums) (wrap64 (lost + 1)) (taken) := by rw [hwb]; exact HM802.out.set1.1
        have hfb : FRS g2 wD wB803 := by rw [hwb]; exact HM802.out.set1.2
        rw [← hwb]
        clear hwb
        have HP804 : Aside0 (PH wB803 g (wrap64 (lost + 1)) (taken) (hs.take i ++ hs.drop (i + 1)) (rows.take i ++ rows.drop (i + 1))) := ⟨HP802.out.frs hfb⟩
        have HM804 : Aside0 (MH wB803 g2 ((rows.take i ++ rows.drop (i + 1)).map strOfNums) (wrap64 (lost + 1)) (taken)) := ⟨hmb⟩
        have HO804 : Aside0 (wB803.heap[go1]? = some (.cells #[.int .i64 2, .slice V v.length cv, .int .i64 (i : Int)] 33 (0, 0))) := ⟨(hfb.block _ _ 33 HO802.out (by decide) (by decide)).trans HO802.out⟩
        have HB804 : Aside0 (Below W.heap.size W wB803) := ⟨FRS.after HB802.out hfb GM.out⟩
        clear hfb hmb
        obtain ⟨lx, tx, hx2, rx, HPX, HMX⟩ : ∃ (lx tx : Int) (hx2 : List Hd) (rx : List (List Int)), Aside0 (PH wB803 g lx tx hx2 rx) ∧ Aside0 (MH wB803 g2 (rx.map strOfNums) lx tx) := ⟨_, _, _, _, HP804, HM804⟩
        obtain ⟨Am2, cm2, hmB2, _, _⟩ := HMX.out
        rw [List.length_map] at hmB2
        have HMB2 := Aside0.mk hmB2
        clear hmB2
        have zt0 : wB803.cell? ⟨g2, 0, none⟩ = some (.slice Am2 rx.length cm2) := (blk_cell HMB2.out 0).trans rfl
        have zt1 : wB803.cell? ⟨g2, 1, none⟩ = some (.int .i64 lx) := (blk_cell HMB2.out 1).trans rfl
        have zt2 : wB803.cell? ⟨g2, 2, none⟩ = some (.int .i64 tx) := (blk_cell HMB2.out 2).trans rfl
        have hq0 : ((rx.length : Int) != (rx.length : Int)) = false := by simp
        have hq1 : (lx != lx) = false := by simp
        have hq2 : (tx != tx) = false := by simp
        have HPT := Aside0.mk (HPX.out.below (below_drew (Below.refl _ wB803)))
        refine start_ (n := 26) (S := fun w' => w'.cell? ⟨g2, 0, none⟩ = some (.slice Am2 rx.length cm2) ∧ w'.cell? ⟨g2, 1, none⟩ = some (.int .i64 lx) ∧ w'.cell? ⟨g2, 2, none⟩ = some (.int .i64 tx)) (ds := []) #[false, false, false, false, false, false, false, false, false, false, false, false, false, false, false, false, false, false, false, false, false, false, false, false, false, false] (by kernel_rfl) rfl rfl ⟨zt0, zt1, zt2⟩ (fun hHeld => ?_)
        refine pure_ (i := 0) (N := some 166) (v := ?_) (a' := ?_) #[true, false, false, false, false, false, false, false, false, false, false, false, false, false, false, false, false, false, false, false, false, false, false, false, false, false] rfl rfl (by kernel_rfl) (fun _ _ _ h => h) (Or.inl ⟨by rfl, ?_⟩) ?_ ?_
        rotate_left
        · intro w'
          go_simp
          with_reducible rfl
        rotate_left
        · simp only [Act.put, List.setIfInBounds_toArray, List.set_cons_zero, List.set_cons_succ, i64_w, i32_w]
          rfl
        refine pure_ (i := 2) (N := some 168) (v := ?_) (a' := ?_) #[true, false, true, false, false, false, false, false, false, false, false, false, false, false, false, false, false, false, false, false, false, false, false, false, false, false] rfl rfl (by kernel_rfl) (fun _ _ _ h => h) (Or.inl ⟨by rfl, ?_⟩) ?_ ?_
        rotate_left
        · intro w'
          go_simp
          with_reducible rfl
        rotate_left
        · simp only [Act.put, List.setIfInBounds_toArray, List.set_cons_zero, List.set_cons_succ, i64_w, i32_w]
          rfl
        refine pure_ (i := 3) (N := some 169) (v := ?_) (a' := ?_) #[true, false, true, true, false, false, false, false, false, false, false, false, false, false, false, false, false, false, false, false, false, false, false, false, false, false] rfl rfl (by kernel_rfl) (fun _ _ _ h => h) (Or.inl ⟨by rfl, ?_⟩) ?_ ?_
        rotate_left
        · intro w'
          go_simp
          with_reducible rfl
        rotate_left
        · simp only [Act.put, List.setIfInBounds_toArray, List.set_cons_zero, List.set_cons_succ, i64_w, i32_w]
          rfl
        refine pure_ (i := 4) (N := some 170) (v := ?_) (a' := ?_) #[true, false, true, true, true, false, false, false, false, false, false, false, false, false, false, false, false, false, false, false, false, false, false, false, false, false] rfl rfl (by kernel_rfl) (fun _ _ _ h => h) (Or.inl ⟨by rfl, ?_⟩) ?_ ?_
        rotate_left
        · intro w'
          go_simp
          with_reducible rfl
        rotate_left
        · simp only [Act.put, List.setIfInBounds_toArray, List.set_cons_zero, List.set_cons_succ, i64_w, i32_w]
          rfl
        refine take_ (i := 5) (N := some 171) (v := ?_) (a' := ?_) #[true, false, true, true, true, true, false, false, false, false, false, false, false, false, false, false, false, false, false, false, false, false, false, false, false, false] rfl rfl (by kernel_rfl) (fun _ _ _ h => h) (Or.inl ⟨by rfl, ?_⟩) hHeld ?_ ?_
        rotate_left
        · rintro w' ⟨s0, s1, s2⟩
          go_simp
          with_reducible rfl
        rotate_left
        · simp only [Act.put, List.setIfInBounds_toArray, List.set_cons_zero, List.set_cons_succ, i64_w, i32_w]
          rfl
        refine pure_ (i := 6) (N := some 172) (v := ?_) (a' := ?_) #[true, false, true, true, true, true, true, false, false, false, false, false, false, false, false, false, false, false, false, false, false, false, false, false, false, false] rfl rfl (by kernel_rfl) (fun _ _ _ h => h) (Or.inl ⟨by rfl, ?_⟩) ?_ ?_
        rotate_left
        · intro w'
          go_simp
          with_reducible rfl
        rotate_left
        · simp only [Act.put, List.setIfInBounds_toArray, List.set_cons_zero, List.set_cons_succ, i64_w, i32_w]
          rfl
        refine one_ (i := 1) (N := some 167) #[true, true, true, true, true, true, true, false, false, false, false, false, false, false, false, false, false, false, false, false, false, false, false, false, false, false] rfl rfl (by kernel_rfl) (by decide) (fun K hK => ?_)
        refine goes_ Try.func21 (by kernel_rfl) rfl #[.pointer (some ⟨g, 0, none⟩)] (by rfl) rfl rfl (by simp only [List.map_toArray, List.map_cons, List.map_nil]; rfl) ?_
        with_reducible refine (len_c _ g lx tx rx HPT.out.at_).mono ?_
        rintro e wt0 ⟨rfl, hbt0⟩
        refine ⟨_, rfl, ?_⟩
        have HPT0 := Aside0.mk (HPT.out.below hbt0)
        have HBT0 := Aside0.mk (below_step (below_drew (Below.refl _ wB803)) hbt0)
        clear hbt0
        refine hK.out _ _ ⟨pw_cell_below HBT0.out zt0, pw_cell_below HBT0.out zt1, pw_cell_below HBT0.out zt2⟩ (fun hHeld => ?_)
        clear hK K
        refine norm_ (a' := ?_) ?_ ?_
        rotate_left
        · show Act.put _ (some 167) _ = _
          simp only [Act.put, List.setIfInBounds_toArray, List.set_cons_zero, List.set_cons_succ, i64_w, i32_w]
          rfl
        refine pure_ (i := 7) (N := some 173) (v := ?_) (a' := ?_) #[true, true, true, true, true, true, true, true, false, false, false, false, false, false, false, false, false, false, false, false, false, false, false, false, false, false] rfl rfl (by kernel_rfl) (fun _ _ _ h => h) (Or.inl ⟨by rfl, ?_⟩) ?_ ?_
        rotate_left
        · intro w'
          go_simp
          with_reducible rfl
        rotate_left
        · simp only [Act.put, List.setIfInBounds_toArray, List.set_cons_zero, List.set_cons_succ, i64_w, i32_w]
          rfl
        refine pure_ (i := 8) (N := some 174) (v := ?_) (a' := ?_) #[true, true, true, true, true, true, true, true, true, false, false, false, false, false, false, false, false, false, false, false, false, false, false, false, false, false] rfl rfl (by kernel_rfl) (fun _ _ _ h => h) (Or.inl ⟨by rfl, ?_⟩) ?_ ?_
        rotate_left
        · intro w'
          go_simp
          with_reducible rfl
        rotate_left
        · simp only [Act.put, List.setIfInBounds_toArray, List.set_cons_zero, List.set_cons_succ, i64_w, i32_w]
          rfl
        refine pure_ (i := 9) (N := some 175) (v := ?_) (a' := ?_) #[true, true, true, true, true, true, true, true, true, true, false, false, false, false, false, false, false, false, false, false, false, false, false, false, false, false] rfl rfl (by kernel_rfl) (fun _ _ _ h => h) (Or.inl ⟨by rfl, ?_⟩) ?_ ?_
        rotate_left
        · intro w'
          go_simp
          with_reducible rfl
        rotate_left
        · simp only [Act.put, List.setIfInBounds_toArray, List.set_cons_zero, List.set_cons_succ, i64_w, i32_w]
          rfl
        refine pure_ (i := 11) (N := some 177) (v := ?_) (a' := ?_) #[true, true, true, true, true, true, true, true, true, true, false, true, false, false, false, false, false, false, false, false, false, false, false, false, false, false] rfl rfl (by kernel_rfl) (fun _ _ _ h => h) (Or.inl ⟨by rfl, ?_⟩) ?_ ?_
        rotate_left
        · intro w'
          go_simp
          with_reducible rfl
        rotate_left
        · simp only [Act.put, List.setIfInBounds_toArray, List.set_cons_zero, List.set_cons_succ, i64_w, i32_w]
          rfl
        refine pure_ (i := 12) (N := some 178) (v := ?_) (a' := ?_) #[true, true, true, true, true, true, true, true, true, true, false, true, true, false, false, false, false, false, false, false, false, false, false, false, false, false] rfl rfl (by kernel_rfl) (fun _ _ _ h => h) (Or.inl ⟨by rfl, ?_⟩) ?_ ?_
        rotate_left
        · intro w'
          go_simp
          with_reducible rfl
        rotate_left
        · simp only [Act.put, List.setIfInBounds_toArray, List.set_cons_zero, List.set_cons_succ, i64_w, i32_w]
          rfl
        refine pure_ (i := 13) (N := some 179) (v := ?_) (a' := ?_) #[true, true, true, true, true, true, true, true, true, true, false, true, true, true, false, false, false, false, false, false, false, false, false, false, false, false] rfl rfl (by kernel_rfl) (fun _ _ _ h => h) (Or.inl ⟨by rfl, ?_⟩) ?_ ?_
        rotate_left
        · intro w'
          go_simp
          with_reducible rfl
        rotate_left
        · simp only [Act.put, List.setIfInBounds_toArray, List.set_cons_zero, List.set_cons_succ, i64_w, i32_w]
          rfl
        refine take_ (i := 14) (N := some 180) (v := ?_) (a' := ?_) #[true, true, true, true, true, true, true, true, true, true, false, true, true, true, true, false, false, false, false, false, false, false, false, false, false, false] rfl rfl (by kernel_rfl) (fun _ _ _ h => h) (Or.inl ⟨by rfl, ?_⟩) hHeld ?_ ?_
        rotate_left
        · rintro w' ⟨s0, s1, s2⟩
          go_simp
          with_reducible rfl
        rotate_left
        · simp only [Act.put, List.setIfInBounds_toArray, List.set_cons_zero, List.set_cons_succ, i64_w, i32_w]
          rfl
        refine one_ (i := 10) (N := some 176) #[true, true, true, true, true, true, true, true, true, true, true, true, true, true, true, false, false, false, false, false, false, false, false, false, false, false] rfl rfl (by kernel_rfl) (by decide) (fun K hK => ?_)
        refine goes_ Try.func22 (by kernel_rfl) rfl #[.pointer (some ⟨g, 0, none⟩)] (by rfl) rfl rfl (by simp only [List.map_toArray, List.map_cons, List.map_nil]; rfl) ?_
        with_reducible refine (lost_c _ g lx tx rx HPT0.out.at_).mono ?_
        rintro e wt1 ⟨rfl, hbt1⟩
        refine ⟨_, rfl, ?_⟩
        have HPT1 := Aside0.mk (HPT0.out.below hbt1)
        have HBT1 := Aside0.mk (below_step HBT0.out hbt1)
        clear hbt1
        refine hK.out _ _ ⟨pw_cell_below HBT1.out zt0, pw_cell_below HBT1.out zt1, pw_cell_below HBT1.out zt2⟩ (fun hHeld => ?_)
        clear hK K
        refine norm_ (a' := ?_) ?_ ?_
        rotate_left
        · show Act.put _ (some 176) _ = _
          simp only [Act.put, List.setIfInBounds_toArray, List.set_cons_zero, List.set_cons_succ, i64_w, i32_w]
          rfl
        refine pure_ (i := 15) (N := some 181) (v := ?_) (a' := ?_) #[true, true, true, true, true, true, true, true, true, true, true, true, true, true, true, true, false, false, false, false, false, false, false, false, false, false] rfl rfl (by kernel_rfl) (fun _ _ _ h => h) (Or.inl ⟨by rfl, ?_⟩) ?_ ?_
        rotate_left
        · intro w'
          go_simp
          with_reducible rfl
        rotate_left
        · simp only [Act.put, List.setIfInBounds_toArray, List.set_cons_zero, List.set_cons_succ, i64_w, i32_w]
          rfl
        refine pure_ (i := 16) (N := some 182) (v := ?_) (a' := ?_) #[true, true, true, true, true, true, true, true, true, true, true, true, true, true, true, true, true, false, false, false, false, false, false, false, false, false] rfl rfl (by kernel_rfl) (fun _ _ _ h => h) (Or.inl ⟨by rfl, ?_⟩) ?_ ?_
        rotate_left
        · intro w'
          go_simp
          with_reducible rfl
        rotate_left
        · simp only [Act.put, List.setIfInBounds_toArray, List.set_cons_zero, List.set_cons_succ, i64_w, i32_w]
          rfl
        refine pure_ (i := 17) (N := some 183) (v := ?_) (a' := ?_) #[true, true, true, true, true, true, true, true, true, true, true, true, true, true, true, true, true, true, false, false, false, false, false, false, false, false] rfl rfl (by kernel_rfl) (fun _ _ _ h => h) (Or.inl ⟨by rfl, ?_⟩) ?_ ?_
        rotate_left
        · intro w'
          go_simp
          with_reducible rfl
        rotate_left
        · simp only [Act.put, List.setIfInBounds_toArray, List.set_cons_zero, List.set_cons_succ, i64_w, i32_w]
          rfl
        refine pure_ (i := 18) (N := some 184) (v := ?_) (a' := ?_) #[true, true, true, true, true, true, true, true, true, true, true, true, true, true, true, true, true, true, true, false, false, false, false, false, false, false] rfl rfl (by kernel_rfl) (fun _ _ _ h => h) (Or.inl ⟨by rfl, ?_⟩) ?_ ?_
        rotate_left
        · intro w'
          go_simp
          with_reducible rfl
        rotate_left
        · simp only [Act.put, List.setIfInBounds_toArray, List.set_cons_zero, List.set_cons_succ, i64_w, i32_w]
          rfl
        refine pure_ (i := 20) (N := some 186) (v := ?_) (a' := ?_) #[true, true, true, true, true, true, true, true, true, true, true, true, true, true, true, true, true, true, true, false, true, false, false, false, false, false] rfl rfl (by kernel_rfl) (fun _ _ _ h => h) (Or.inl ⟨by rfl, ?_⟩) ?_ ?_
        rotate_left
        · intro w'
          go_simp
          with_reducible rfl
        rotate_left
        · simp only [Act.put, List.setIfInBounds_toArray, List.set_cons_zero, List.set_cons_succ, i64_w, i32_w]
          rfl
        refine pure_ (i := 21) (N := some 187) (v := ?_) (a' := ?_) #[true, true, true, true, true, true, true, true, true, true, true, true, true, true, true, true, true, true, true, false, true, true, false, false, false, false] rfl rfl (by kernel_rfl) (fun _ _ _ h => h) (Or.inl ⟨by rfl, ?_⟩) ?_ ?_
        rotate_left
        · intro w'
          go_simp
          with_reducible rfl
        rotate_left
        · simp only [Act.put, List.setIfInBounds_toArray, List.set_cons_zero, List.set_cons_succ, i64_w, i32_w]
          rfl
        refine pure_ (i := 22) (N := some 188) (v := ?_) (a' := ?_) #[true, true, true, true, true, true, true, true, true, true, true, true, true, true, true, true, true, true, true, false, true, true, true, false, false, false] rfl rfl (by kernel_rfl) (fun _ _ _ h => h) (Or.inl ⟨by rfl, ?_⟩) ?_ ?_
        rotate_left
        · intro w'
          go_simp
          with_reducible rfl
        rotate_left
        · simp only [Act.put, List.setIfInBounds_toArray, List.set_cons_zero, List.set_cons_succ, i64_w, i32_w]
          rfl
        refine take_ (i := 23) (N := some 189) (v := ?_) (a' := ?_) #[true, true, true, true, true, true, true, true, true, true, true, true, true, true, true, true, true, true, true, false, true, true, true, true, false, false] rfl rfl (by kernel_rfl) (fun _ _ _ h => h) (Or.inl ⟨by rfl, ?_⟩) hHeld ?_ ?_
        rotate_left
        · rintro w' ⟨s0, s1, s2⟩
          go_simp
          with_reducible rfl
        rotate_left
        · simp only [Act.put, List.setIfInBounds_toArray, List.set_cons_zero, List.set_cons_succ, i64_w, i32_w]
          rfl
        refine one_ (i := 19) (N := some 185) #[true, true, true, true, true, true, true, true, true, true, true, true, true, true, true, true, true, true, true, true, true, true, true, true, false, false] rfl rfl (by kernel_rfl) (by decide) (fun K hK => ?_)
        refine goes_ Try.func23 (by kernel_rfl) rfl #[.pointer (some ⟨g, 0, none⟩)] (by rfl) rfl rfl (by simp only [List.map_toArray, List.map_cons, List.map_nil]; rfl) ?_
        with_reducible refine (taken_c _ g lx tx rx HPT1.out.at_).mono ?_
        rintro e wt2 ⟨rfl, hbt2⟩
        refine ⟨_, rfl, ?_⟩
        have HPT2 := Aside0.mk (HPT1.out.below hbt2)
        have HBT2 := Aside0.mk (below_step HBT1.out hbt2)
        clear hbt2
        refine hK.out _ _ ⟨pw_cell_below HBT2.out zt0, pw_cell_below HBT2.out zt1, pw_cell_below HBT2.out zt2⟩ (fun hHeld => ?_)
        clear hK K
        refine norm_ (a' := ?_) ?_ ?_
        rotate_left
        · show Act.put _ (some 185) _ = _
          simp only [Act.put, List.setIfInBounds_toArray, List.set_cons_zero, List.set_cons_succ, i64_w, i32_w]
          rfl
        refine pure_ (i := 24) (N := some 190) (v := ?_) (a' := ?_) #[true, true, true, true, true, true, true, true, true, true, true, true, true, true, true, true, true, true, true, true, true, true, true, true, true, false] rfl rfl (by kernel_rfl) (fun _ _ _ h => h) (Or.inl ⟨by rfl, ?_⟩) ?_ ?_
        rotate_left
        · intro w'
          go_simp
          with_reducible rfl
        rotate_left
        · simp only [Act.put, List.setIfInBounds_toArray, List.set_cons_zero, List.set_cons_succ, i64_w, i32_w]
          rfl
        refine pure_ (i := 25) (N := some 191) (v := ?_) (a' := ?_) #[true, true, true, true, true, true, true, true, true, true, true, true, true, true, true, true, true, true, true, true, true, true, true, true, true, true] rfl rfl (by kernel_rfl) (fun _ _ _ h => h) (Or.inl ⟨by rfl, ?_⟩) ?_ ?_
        rotate_left
        · intro w'
          go_simp
          with_reducible rfl
        rotate_left
        · simp only [Act.put, List.setIfInBounds_toArray, List.set_cons_zero, List.set_cons_succ, i64_w, i32_w]
          rfl
        refine done_ (by kernel_rfl) ?_
        clear zt0 zt1 zt2
        go_wp2_with fail
        go_roundw
        case rel => exact ⟨k + 1, lx, tx, hx2, rx, by omega, by go_num, ⟨HPX.out.below HBT2.out⟩, ⟨HMX.out.below HBT2.out⟩, ⟨below_step HB804.out HBT2.out⟩⟩
        case measure => simp [intOf]; omega
      case neg => as_aux_lemma =>
        have HOUT : Aside0 (n < 0 ∨ (rows.length : Int) ≤ n) := ⟨by omega⟩
        clear hin
        have zd0 : W1.cell? ⟨go1, 0, none⟩ = some (.int .i64 2) := (blk_cell Bo1.out 0).trans rfl
        have zd1 : W1.cell? ⟨go1, 1, none⟩ = some (.slice V v.length cv) := (blk_cell Bo1.out 1).trans rfl
        have zd2 : W1.cell? ⟨go1, 2, none⟩ = some (.int .i64 n) := (blk_cell Bo1.out 2).trans rfl
        go_wp2_with fail
        clear zd0 zd1 zd2
        refine (rtake_out W1 g2 rows lost taken CM2.out n HOUT.out).mono ?_
        rintro e wM ⟨rfl, hmt, hft⟩
        have HP901 : Aside0 (PH wM g (lost) (taken) (hs) (rows)) := ⟨CP2.out.frs hft⟩
        have HM901 : Aside0 (MH wM g2 (rows.map strOfNums) (lost) (taken)) := ⟨hmt⟩
        have HO901 : Aside0 (wM.heap[go1]? = some (.cells #[.int .i64 2, .slice V v.length cv, .int .i64 n] 33 (0, 0))) := ⟨(hft.block _ _ 33 Bo1.out (by decide) (by decide)).trans Bo1.out⟩
        have HB901 : Aside0 (Below W.heap.size W wM) := ⟨FRS.after HB2.out hft GM.out⟩
        clear hft hmt
        have ze0 : wM.cell? ⟨go1, 0, none⟩ = some (.int .i64 2) := (blk_cell HO901.out 0).trans rfl
        have ze1 : wM.cell? ⟨go1, 1, none⟩ = some (.slice V v.length cv) := (blk_cell HO901.out 1).trans rfl
        have ze2 : wM.cell? ⟨go1, 2, none⟩ = some (.int .i64 n) := (blk_cell HO901.out 2).trans rfl
        go_wp2_with fail
        clear ze0 ze1 ze2
        refine (drop_out wM g (lost) (taken) (rows) HP901.out.at_ n HOUT.out).mono ?_
        rintro e wD ⟨rfl, hbd⟩
        have HP902 : Aside0 (PH wD g (lost) (taken) (hs) (rows)) := ⟨HP901.out.below hbd⟩
        have HM902 : Aside0 (MH wD g2 (rows.map strOfNums) (lost) (taken)) := ⟨HM901.out.below hbd⟩
        have HO902 : Aside0 (wD.heap[go1]? = some (.cells #[.int .i64 2, .slice V v.length cv, .int .i64 n] 33 (0, 0))) := ⟨blk_below HO901.out hbd⟩
        have HB902 : Aside0 (Below W.heap.size W wD) := ⟨below_step HB901.out hbd⟩
        clear hbd
        go_upto_region 46 with fail
        obtain ⟨lx, tx, hx2, rx, HPX, HMX⟩ : ∃ (lx tx : Int) (hx2 : List Hd) (rx : List (List Int)), Aside0 (PH wD g lx tx hx2 rx) ∧ Aside0 (MH wD g2 (rx.map strOfNums) lx tx) := ⟨_, _, _, _, HP902, HM902⟩
        obtain ⟨Am2, cm2, hmB2, _, _⟩ := HMX.out
        rw [List.length_map] at hmB2
        have HMB2 := Aside0.mk hmB2
        clear hmB2
        have zt0 : wD.cell? ⟨g2, 0, none⟩ = some (.slice Am2 rx.length cm2) := (blk_cell HMB2.out 0).trans rfl
        have zt1 : wD.cell? ⟨g2, 1, none⟩ = some (.int .i64 lx) := (blk_cell HMB2.out 1).trans rfl
        have zt2 : wD.cell? ⟨g2, 2, none⟩ = some (.int .i64 tx) := (blk_cell HMB2.out 2).trans rfl
        have hq0 : ((rx.length : Int) != (rx.length : Int)) = false := by simp
        have hq1 : (lx != lx) = false := by simp
        have hq2 : (tx != tx) = false := by simp
        have HPT := Aside0.mk (HPX.out.below (below_drew (Below.refl _ wD)))
        refine start_ (n := 26) (S := fun w' => w'.cell? ⟨g2, 0, none⟩ = some (.slice Am2 rx.length cm2) ∧ w'.cell? ⟨g2, 1, none⟩ = some (.int .i64 lx) ∧ w'.cell? ⟨g2, 2, none⟩ = some (.int .i64 tx)) (ds := []) #[false, false, false, false, false, false, false, false, false, false, false, false, false, false, false, false, false, false, false, false, false, false, false, false, false, false] (by kernel_rfl) rfl rfl ⟨zt0, zt1, zt2⟩ (fun hHeld => ?_)
        refine pure_ (i := 0) (N := some 166) (v := ?_) (a' := ?_) #[true, false, false, false, false, false, false, false, false, false, false, false, false, false, false, false, false, false, false, false, false, false, false, false, false, false] rfl rfl (by kernel_rfl) (fun _ _ _ h => h) (Or.inl ⟨by rfl, ?_⟩) ?_ ?_
        rotate_left
        · intro w'
          go_simp
          with_reducible rfl
        rotate_left
        · simp only [Act.put, List.setIfInBounds_toArray, List.set_cons_zero, List.set_cons_succ, i64_w, i32_w]
          rfl
        refine pure_ (i := 2) (N := some 168) (v := ?_) (a' := ?_) #[true, false, true, false, false, false, false, false, false, false, false, false, false, false, false, false, false, false, false, false, false, false, false, false, false, false] rfl rfl (by kernel_rfl) (fun _ _ _ h => h) (Or.inl ⟨by rfl, ?_⟩) ?_ ?_
        rotate_left
        · intro w'
          go_simp
          with_reducible rfl
        rotate_left
        · simp only [Act.put, List.setIfInBounds_toArray, List.set_cons_zero, List.set_cons_succ, i64_w, i32_w]
          rfl
        refine pure_ (i := 3) (N := some 169) (v := ?_) (a' := ?_) #[true, false, true, true, false, false, false, false, false, false, false, false, false, false, false, false, false, false, false, false, false, false, false, false, false, false] rfl rfl (by kernel_rfl) (fun _ _ _ h => h) (Or.inl ⟨by rfl, ?_⟩) ?_ ?_
        rotate_left
        · intro w'
          go_simp
          with_reducible rfl
        rotate_left
        · simp only [Act.put, List.setIfInBounds_toArray, List.set_cons_zero, List.set_cons_succ, i64_w, i32_w]
          rfl
        refine pure_ (i := 4) (N := some 170) (v := ?_) (a' := ?_) #[true, false, true, true, true, false, false, false, false, false, false, false, false, false, false, false, false, false, false, false, false, false, false, false, false, false] rfl rfl (by kernel_rfl) (fun _ _ _ h => h) (Or.inl ⟨by rfl, ?_⟩) ?_ ?_
        rotate_left
        · intro w'
          go_simp
          with_reducible rfl
        rotate_left
        · simp only [Act.put, List.setIfInBounds_toArray, List.set_cons_zero, List.set_cons_succ, i64_w, i32_w]
          rfl
        refine take_ (i := 5) (N := some 171) (v := ?_) (a' := ?_) #[true, false, true, true, true, true, false, false, false, false, false, false, false, false, false, false, false, false, false, false, false, false, false, false, false, false] rfl rfl (by kernel_rfl) (fun _ _ _ h => h) (Or.inl ⟨by rfl, ?_⟩) hHeld ?_ ?_
        rotate_left
        · rintro w' ⟨s0, s1, s2⟩
          go_simp
          with_reducible rfl
        rotate_left
        · simp only [Act.put, List.setIfInBounds_toArray, List.set_cons_zero, List.set_cons_succ, i64_w, i32_w]
          rfl
        refine pure_ (i := 6) (N := some 172) (v := ?_) (a' := ?_) #[true, false, true, true, true, true, true, false, false, false, false, false, false, false, false, false, false, false, false, false, false, false, false, false, false, false] rfl rfl (by kernel_rfl) (fun _ _ _ h => h) (Or.inl ⟨by rfl, ?_⟩) ?_ ?_
        rotate_left
        · intro w'
          go_simp
          with_reducible rfl
        rotate_left
        · simp only [Act.put, List.setIfInBounds_toArray, List.set_cons_zero, List.set_cons_succ, i64_w, i32_w]
          rfl
        refine one_ (i := 1) (N := some 167) #[true, true, true, true, true, true, true, false, false, false, false, false, false, false, false, false, false, false, false, false, false, false, false, false, false, false] rfl rfl (by kernel_rfl) (by decide) (fun K hK => ?_)
        refine goes_ Try.func21 (by kernel_rfl) rfl #[.pointer (some ⟨g, 0, none⟩)] (by rfl) rfl rfl (by simp only [List.map_toArray, List.map_cons, List.map_nil]; rfl) ?_
        with_reducible refine (len_c _ g lx tx rx HPT.out.at_).mono ?_
        rintro e wt0 ⟨rfl, hbt0⟩
        refine ⟨_, rfl, ?_⟩
        have HPT0 := Aside0.mk (HPT.out.below hbt0)
        have HBT0 := Aside0.mk (below_step (below_drew (Below.refl _ wD)) hbt0)
        clear hbt0
        refine hK.out _ _ ⟨pw_cell_below HBT0.out zt0, pw_cell_below HBT0.out zt1, pw_cell_below HBT0.out zt2⟩ (fun hHeld => ?_)
        clear hK K
        refine norm_ (a' := ?_) ?_ ?_
        rotate_left
        · show Act.put _ (some 167) _ = _
          simp only [Act.put, List.setIfInBounds_toArray, List.set_cons_zero, List.set_cons_succ, i64_w, i32_w]
          rfl
        refine pure_ (i := 7) (N := some 173) (v := ?_) (a' := ?_) #[true, true, true, true, true, true, true, true, false, false, false, false, false, false, false, false, false, false, false, false, false, false, false, false, false, false] rfl rfl (by kernel_rfl) (fun _ _ _ h => h) (Or.inl ⟨by rfl, ?_⟩) ?_ ?_
        rotate_left
        · intro w'
          go_simp
          with_reducible rfl
        rotate_left
        · simp only [Act.put, List.setIfInBounds_toArray, List.set_cons_zero, List.set_cons_succ, i64_w, i32_w]
          rfl
        refine pure_ (i := 8) (N := some 174) (v := ?_) (a' := ?_) #[true, true, true, true, true, true, true, true, true, false, false, false, false, false, false, false, false, false, false, false, false, false, false, false, false, false] rfl rfl (by kernel_rfl) (fun _ _ _ h => h) (Or.inl ⟨by rfl, ?_⟩) ?_ ?_
        rotate_left
        · intro w'
          go_simp
          with_reducible rfl
        rotate_left
        · simp only [Act.put, List.setIfInBounds_toArray, List.set_cons_zero, List.set_cons_succ, i64_w, i32_w]
          rfl
        refine pure_ (i := 9) (N := some 175) (v := ?_) (a' := ?_) #[true, true, true, true, true, true, true, true, true, true, false, false, false, false, false, false, false, false, false, false, false, false, false, false, false, false] rfl rfl (by kernel_rfl) (fun _ _ _ h => h) (Or.inl ⟨by rfl, ?_⟩) ?_ ?_
        rotate_left
        · intro w'
          go_simp
          with_reducible rfl
        rotate_left
        · simp only [Act.put, List.setIfInBounds_toArray, List.set_cons_zero, List.set_cons_succ, i64_w, i32_w]
          rfl
        refine pure_ (i := 11) (N := some 177) (v := ?_) (a' := ?_) #[true, true, true, true, true, true, true, true, true, true, false, true, false, false, false, false, false, false, false, false, false, false, false, false, false, false] rfl rfl (by kernel_rfl) (fun _ _ _ h => h) (Or.inl ⟨by rfl, ?_⟩) ?_ ?_
        rotate_left
        · intro w'
          go_simp
          with_reducible rfl
        rotate_left
        · simp only [Act.put, List.setIfInBounds_toArray, List.set_cons_zero, List.set_cons_succ, i64_w, i32_w]
          rfl
        refine pure_ (i := 12) (N := some 178) (v := ?_) (a' := ?_) #[true, true, true, true, true, true, true, true, true, true, false, true, true, false, false, false, false, false, false, false, false, false, false, false, false, false] rfl rfl (by kernel_rfl) (fun _ _ _ h => h) (Or.inl ⟨by rfl, ?_⟩) ?_ ?_
        rotate_left
        · intro w'
          go_simp
          with_reducible rfl
        rotate_left
        · simp only [Act.put, List.setIfInBounds_toArray, List.set_cons_zero, List.set_cons_succ, i64_w, i32_w]
          rfl
        refine pure_ (i := 13) (N := some 179) (v := ?_) (a' := ?_) #[true, true, true, true, true, true, true, true, true, true, false, true, true, true, false, false, false, false, false, false, false, false, false, false, false, false] rfl rfl (by kernel_rfl) (fun _ _ _ h => h) (Or.inl ⟨by rfl, ?_⟩) ?_ ?_
        rotate_left
        · intro w'
          go_simp
          with_reducible rfl
        rotate_left
        · simp only [Act.put, List.setIfInBounds_toArray, List.set_cons_zero, List.set_cons_succ, i64_w, i32_w]
          rfl
        refine take_ (i := 14) (N := some 180) (v := ?_) (a' := ?_) #[true, true, true, true, true, true, true, true, true, true, false, true, true, true, true, false, false, false, false, false, false, false, false, false, false, false] rfl rfl (by kernel_rfl) (fun _ _ _ h => h) (Or.inl ⟨by rfl, ?_⟩) hHeld ?_ ?_
        rotate_left
        · rintro w' ⟨s0, s1, s2⟩
          go_simp
          with_reducible rfl
        rotate_left
        · simp only [Act.put, List.setIfInBounds_toArray, List.set_cons_zero, List.set_cons_succ, i64_w, i32_w]
          rfl
        refine one_ (i := 10) (N := some 176) #[true, true, true, true, true, true, true, true, true, true, true, true, true, true, true, false, false, false, false, false, false, false, false, false, false, false] rfl rfl (by kernel_rfl) (by decide) (fun K hK => ?_)
        refine goes_ Try.func22 (by kernel_rfl) rfl #[.pointer (some ⟨g, 0, none⟩)] (by rfl) rfl rfl (by simp only [List.map_toArray, List.map_cons, List.map_nil]; rfl) ?_
        with_reducible refine (lost_c _ g lx tx rx HPT0.out.at_).mono ?_
        rintro e wt1 ⟨rfl, hbt1⟩
        refine ⟨_, rfl, ?_⟩
        have HPT1 := Aside0.mk (HPT0.out.below hbt1)
        have HBT1 := Aside0.mk (below_step HBT0.out hbt1)
        clear hbt1
        refine hK.out _ _ ⟨pw_cell_below HBT1.out zt0, pw_cell_below HBT1.out zt1, pw_cell_below HBT1.out zt2⟩ (fun hHeld => ?_)
        clear hK K
        refine norm_ (a' := ?_) ?_ ?_
        rotate_left
        · show Act.put _ (some 176) _ = _
          simp only [Act.put, List.setIfInBounds_toArray, List.set_cons_zero, List.set_cons_succ, i64_w, i32_w]
          rfl
        refine pure_ (i := 15) (N := some 181) (v := ?_) (a' := ?_) #[true, true, true, true, true, true, true, true, true, true, true, true, true, true, true, true, false, false, false, false, false, false, false, false, false, false] rfl rfl (by kernel_rfl) (fun _ _ _ h => h) (Or.inl ⟨by rfl, ?_⟩) ?_ ?_
        rotate_left
        · intro w'
          go_simp
          with_reducible rfl
        rotate_left
        · simp only [Act.put, List.setIfInBounds_toArray, List.set_cons_zero, List.set_cons_succ, i64_w, i32_w]
          rfl
        refine pure_ (i := 16) (N := some 182) (v := ?_) (a' := ?_) #[true, true, true, true, true, true, true, true, true, true, true, true, true, true, true, true, true, false, false, false, false, false, false, false, false, false] rfl rfl (by kernel_rfl) (fun _ _ _ h => h) (Or.inl ⟨by rfl, ?_⟩) ?_ ?_
        rotate_left
        · intro w'
          go_simp
          with_reducible rfl
        rotate_left
        · simp only [Act.put, List.setIfInBounds_toArray, List.set_cons_zero, List.set_cons_succ, i64_w, i32_w]
          rfl
        refine pure_ (i := 17) (N := some 183) (v := ?_) (a' := ?_) #[true, true, true, true, true, true, true, true, true, true, true, true, true, true, true, true, true, true, false, false, false, false, false, false, false, false] rfl rfl (by kernel_rfl) (fun _ _ _ h => h) (Or.inl ⟨by rfl, ?_⟩) ?_ ?_
        rotate_left
        · intro w'
          go_simp
          with_reducible rfl
        rotate_left
        · simp only [Act.put, List.setIfInBounds_toArray, List.set_cons_zero, List.set_cons_succ, i64_w, i32_w]
          rfl
        refine pure_ (i := 18) (N := some 184) (v := ?_) (a' := ?_) #[true, true, true, true, true, true, true, true, true, true, true, true, true, true, true, true, true, true, true, false, false, false, false, false, false, false] rfl rfl (by kernel_rfl) (fun _ _ _ h => h) (Or.inl ⟨by rfl, ?_⟩) ?_ ?_
        rotate_left
        · intro w'
          go_simp
          with_reducible rfl
        rotate_left
        · simp only [Act.put, List.setIfInBounds_toArray, List.set_cons_zero, List.set_cons_succ, i64_w, i32_w]
          rfl
        refine pure_ (i := 20) (N := some 186) (v := ?_) (a' := ?_) #[true, true, true, true, true, true, true, true, true, true, true, true, true, true, true, true, true, true, true, false, true, false, false, false, false, false] rfl rfl (by kernel_rfl) (fun _ _ _ h => h) (Or.inl ⟨by rfl, ?_⟩) ?_ ?_
        rotate_left
        · intro w'
          go_simp
          with_reducible rfl
        rotate_left
        · simp only [Act.put, List.setIfInBounds_toArray, List.set_cons_zero, List.set_cons_succ, i64_w, i32_w]
          rfl
        refine pure_ (i := 21) (N := some 187) (v := ?_) (a' := ?_) #[true, true, true, true, true, true, true, true, true, true, true, true, true, true, true, true, true, true, true, false, true, true, false, false, false, false] rfl rfl (by kernel_rfl) (fun _ _ _ h => h) (Or.inl ⟨by rfl, ?_⟩) ?_ ?_
        rotate_left
        · intro w'
          go_simp
          with_reducible rfl
        rotate_left
        · simp only [Act.put, List.setIfInBounds_toArray, List.set_cons_zero, List.set_cons_succ, i64_w, i32_w]
          rfl
        refine pure_ (i := 22) (N := some 188) (v := ?_) (a' := ?_) #[true, true, true, true, true, true, true, true, true, true, true, true, true, true, true, true, true, true, true, false, true, true, true, false, false, false] rfl rfl (by kernel_rfl) (fun _ _ _ h => h) (Or.inl ⟨by rfl, ?_⟩) ?_ ?_
        rotate_left
        · intro w'
          go_simp
          with_reducible rfl
        rotate_left
        · simp only [Act.put, List.setIfInBounds_toArray, List.set_cons_zero, List.set_cons_succ, i64_w, i32_w]
          rfl
        refine take_ (i := 23) (N := some 189) (v := ?_) (a' := ?_) #[true, true, true, true, true, true, true, true, true, true, true, true, true, true, true, true, true, true, true, false, true, true, true, true, false, false] rfl rfl (by kernel_rfl) (fun _ _ _ h => h) (Or.inl ⟨by rfl, ?_⟩) hHeld ?_ ?_
        rotate_left
        · rintro w' ⟨s0, s1, s2⟩
          go_simp
          with_reducible rfl
        rotate_left
        · simp only [Act.put, List.setIfInBounds_toArray, List.set_cons_zero, List.set_cons_succ, i64_w, i32_w]
          rfl
        refine one_ (i := 19) (N := some 185) #[true, true, true, true, true, true, true, true, true, true, true, true, true, true, true, true, true, true, true, true, true, true, true, true, false, false] rfl rfl (by kernel_rfl) (by decide) (fun K hK => ?_)
        refine goes_ Try.func23 (by kernel_rfl) rfl #[.pointer (some ⟨g, 0, none⟩)] (by rfl) rfl rfl (by simp only [List.map_toArray, List.map_cons, List.map_nil]; rfl) ?_
        with_reducible refine (taken_c _ g lx tx rx HPT1.out.at_).mono ?_
        rintro e wt2 ⟨rfl, hbt2⟩
        refine ⟨_, rfl, ?_⟩
        have HPT2 := Aside0.mk (HPT1.out.below hbt2)
        have HBT2 := Aside0.mk (below_step HBT1.out hbt2)
        clear hbt2
        refine hK.out _ _ ⟨pw_cell_below HBT2.out zt0, pw_cell_below HBT2.out zt1, pw_cell_below HBT2.out zt2⟩ (fun hHeld => ?_)
        clear hK K
        refine norm_ (a' := ?_) ?_ ?_
        rotate_left
        · show Act.put _ (some 185) _ = _
          simp only [Act.put, List.setIfInBounds_toArray, List.set_cons_zero, List.set_cons_succ, i64_w, i32_w]
          rfl
        refine pure_ (i := 24) (N := some 190) (v := ?_) (a' := ?_) #[true, true, true, true, true, true, true, true, true, true, true, true, true, true, true, true, true, true, true, true, true, true, true, true, true, false] rfl rfl (by kernel_rfl) (fun _ _ _ h => h) (Or.inl ⟨by rfl, ?_⟩) ?_ ?_
        rotate_left
        · intro w'
          go_simp
          with_reducible rfl
        rotate_left
        · simp only [Act.put, List.setIfInBounds_toArray, List.set_cons_zero, List.set_cons_succ, i64_w, i32_w]
          rfl
        refine pure_ (i := 25) (N := some 191) (v := ?_) (a' := ?_) #[true, true, true, true, true, true, true, true, true, true, true, true, true, true, true, true, true, true, true, true, true, true, true, true, true, true] rfl rfl (by kernel_rfl) (fun _ _ _ h => h) (Or.inl ⟨by rfl, ?_⟩) ?_ ?_
        rotate_left
        · intro w'
          go_simp
          with_reducible rfl
        rotate_left
        · simp only [Act.put, List.setIfInBounds_toArray, List.set_cons_zero, List.set_cons_succ, i64_w, i32_w]
          rfl
        refine done_ (by kernel_rfl) ?_
        clear zt0 zt1 zt2
        go_wp2_with fail
        go_roundw
        case rel => exact ⟨k + 1, lx, tx, hx2, rx, by omega, by go_num, ⟨HPX.out.below HBT2.out⟩, ⟨HMX.out.below HBT2.out⟩, ⟨below_step HB902.out HBT2.out⟩⟩
        case measure => simp [intOf]; omega
    have hk2 : (kd == 2) = false := beq_eq_false_iff_ne.2 h2
    by_cases hin : 0 ≤ n ∧ n < (rows.length : Int)
    case pos => as_aux_lemma =>
      obtain ⟨i, rfl⟩ : ∃ i : Nat, n = (i : Int) := ⟨n.toNat, by omega⟩
      obtain ⟨r, hr⟩ : ∃ r, rows[i]? = some r := ⟨_, List.getElem?_eq_getElem (by omega)⟩
      have HI := Aside0.mk hr
      obtain ⟨B, d, hh, hrl⟩ := CP2.out.head hr
      have HH := Aside0.mk hh
      have HDS := Aside0.mk CP2.out.dist
      clear hr hh
      have zg0 : W1.cell? ⟨go1, 0, none⟩ = some (.int .i64 kd) := (blk_cell Bo1.out 0).trans rfl
      have zg1 : W1.cell? ⟨go1, 1, none⟩ = some (.slice V v.length cv) := (blk_cell Bo1.out 1).trans rfl
      have zg2 : W1.cell? ⟨go1, 2, none⟩ = some (.int .i64 (i : Int)) := (blk_cell Bo1.out 2).trans rfl
      go_upto_region 10 with fail
      have d1 : decide ((i : Int) < 0) = false := decide_eq_false (by omega)
      have d2 : decide ((0 : Int) ≤ (i : Int)) = true := decide_eq_true (by omega)
      have d3 : decide ((i : Int) < (rows.length : Int)) = true := decide_eq_true (by omega)
      have d4 : decide (i < rows.length) = true := decide_eq_true (by omega)
      obtain ⟨Am, cm, hmB, hmR, _⟩ := CM2.out
      rw [List.length_map] at hmB hmR
      have HMBm := Aside0.mk hmB
      have HMRm := Aside0.mk hmR
      clear hmB hmR
      have zm : W1.cell? ⟨g2, 0, none⟩ = some (.slice Am rows.length cm) := (blk_cell HMBm.out 0).trans rfl
      refine start_ (n := 14) (S := fun w' => w'.cell? ⟨go1, 2, none⟩ = some (.int .i64 (i : Int)) ∧ w'.cell? ⟨g2, 0, none⟩ = some (.slice Am rows.length cm)) (ds := []) #[false, false, false, false, false, false, false, false, false, false, false, false, false, false] (by kernel_rfl) rfl rfl ⟨zg2, zm⟩ (fun hHeld => ?_)
      refine pure_ (i := 0) (N := some 36) (v := ?_) (a' := ?_) #[true, false, false, false, false, false, false, false, false, false, false, false, false, false] rfl rfl (by kernel_rfl) (fun _ _ _ h => h) (Or.inl ⟨by rfl, ?_⟩) ?_ ?_
      rotate_left
      · intro w'
        go_simp
        with_reducible rfl
      rotate_left
      · simp only [Act.put, List.setIfInBounds_toArray, List.set_cons_zero, List.set_cons_succ, i64_w, i32_w]
        rfl
      refine take_ (i := 1) (N := some 37) (v := ?_) (a' := ?_) #[true, true, false, false, false, false, false, false, false, false, false, false, false, false] rfl rfl (by kernel_rfl) (fun _ _ _ h => h) (Or.inl ⟨by rfl, ?_⟩) hHeld ?_ ?_
      rotate_left
      · rintro w' ⟨s0, s1⟩
        go_simp
        with_reducible rfl
      rotate_left
      · simp only [Act.put, List.setIfInBounds_toArray, List.set_cons_zero, List.set_cons_succ, i64_w, i32_w]
        rfl
      refine pure_ (i := 2) (N := some 38) (v := ?_) (a' := ?_) #[true, true, true, false, false, false, false, false, false, false, false, false, false, false] rfl rfl (by kernel_rfl) (fun _ _ _ h => h) (Or.inl ⟨by rfl, ?_⟩) ?_ ?_
      rotate_left
      · intro w'
        go_simp
        with_reducible rfl
      rotate_left
      · simp only [Act.put, List.setIfInBounds_toArray, List.set_cons_zero, List.set_cons_succ, i64_w, i32_w]
        rfl
      refine pure_ (i := 3) (N := some 39) (v := ?_) (a' := ?_) #[true, true, true, true, false, false, false, false, false, false, false, false, false, false] rfl rfl (by kernel_rfl) (fun _ _ _ h => h) (Or.inl ⟨by rfl, ?_⟩) ?_ ?_
      rotate_left
      · intro w'
        go_simp
        with_reducible rfl
      rotate_left
      · simp only [Act.put, List.setIfInBounds_toArray, List.set_cons_zero, List.set_cons_succ, i64_w, i32_w]
        rfl
      refine pure_ (i := 4) (N := some 40) (v := ?_) (a' := ?_) #[true, true, true, true, true, false, false, false, false, false, false, false, false, false] rfl rfl (by kernel_rfl) (fun _ _ _ h => h) (Or.inl ⟨by rfl, ?_⟩) ?_ ?_
      rotate_left
      · intro w'
        go_simp
        with_reducible rfl
      rotate_left
      · simp only [Act.put, List.setIfInBounds_toArray, List.set_cons_zero, List.set_cons_succ, i64_w, i32_w]
        rfl
      refine pure_ (i := 6) (N := some 42) (v := ?_) (a' := ?_) #[true, true, true, true, true, false, true, false, false, false, false, false, false, false] rfl rfl (by kernel_rfl) (fun _ _ _ h => h) (Or.inl ⟨by rfl, ?_⟩) ?_ ?_
      rotate_left
      · intro w'
        go_simp
        with_reducible rfl
      rotate_left
      · simp only [Act.put, List.setIfInBounds_toArray, List.set_cons_zero, List.set_cons_succ, i64_w, i32_w]
        rfl
      refine pure_ (i := 7) (N := some 43) (v := ?_) (a' := ?_) #[true, true, true, true, true, false, true, true, false, false, false, false, false, false] rfl rfl (by kernel_rfl) (fun _ _ _ h => h) (Or.inl ⟨by rfl, ?_⟩) ?_ ?_
      rotate_left
      · intro w'
        go_simp
        with_reducible rfl
      rotate_left
      · simp only [Act.put, List.setIfInBounds_toArray, List.set_cons_zero, List.set_cons_succ, i64_w, i32_w]
        rfl
      refine pure_ (i := 8) (N := some 44) (v := ?_) (a' := ?_) #[true, true, true, true, true, false, true, true, true, false, false, false, false, false] rfl rfl (by kernel_rfl) (fun _ _ _ h => h) (Or.inl ⟨by rfl, ?_⟩) ?_ ?_
      rotate_left
      · intro w'
        go_simp
        with_reducible rfl
      rotate_left
      · simp only [Act.put, List.setIfInBounds_toArray, List.set_cons_zero, List.set_cons_succ, i64_w, i32_w]
        rfl
      refine take_ (i := 5) (N := some 41) (v := ?_) (a' := ?_) #[true, true, true, true, true, true, true, true, true, false, false, false, false, false] rfl rfl (by kernel_rfl) (fun _ _ _ h => h) (Or.inl ⟨by rfl, ?_⟩) hHeld ?_ ?_
      rotate_left
      · rintro w' ⟨s0, s1⟩
        go_simp
        with_reducible rfl
      rotate_left
      · simp only [Act.put, List.setIfInBounds_toArray, List.set_cons_zero, List.set_cons_succ, i64_w, i32_w]
        rfl
      refine take_ (i := 9) (N := some 45) (v := ?_) (a' := ?_) #[true, true, true, true, true, true, true, true, true, true, false, false, false, false] rfl rfl (by kernel_rfl) (fun _ _ _ h => h) (Or.inl ⟨by rfl, ?_⟩) hHeld ?_ ?_
      rotate_left
      · rintro w' ⟨s0, s1⟩
        go_simp
        with_reducible rfl
      rotate_left
      · simp only [Act.put, List.setIfInBounds_toArray, List.set_cons_zero, List.set_cons_succ, i64_w, i32_w]
        rfl
      refine pure_ (i := 10) (N := some 46) (v := ?_) (a' := ?_) #[true, true, true, true, true, true, true, true, true, true, true, false, false, false] rfl rfl (by kernel_rfl) (fun _ _ _ h => h) (Or.inl ⟨by rfl, ?_⟩) ?_ ?_
      rotate_left
      · intro w'
        go_simp
        with_reducible rfl
      rotate_left
      · simp only [Act.put, List.setIfInBounds_toArray, List.set_cons_zero, List.set_cons_succ, i64_w, i32_w]
        rfl
      refine pure_ (i := 11) (N := some 47) (v := ?_) (a' := ?_) #[true, true, true, true, true, true, true, true, true, true, true, true, false, false] rfl rfl (by kernel_rfl) (fun _ _ _ h => h) (Or.inl ⟨by rfl, ?_⟩) ?_ ?_
      rotate_left
      · intro w'
        go_simp
        with_reducible rfl
      rotate_left
      · simp only [Act.put, List.setIfInBounds_toArray, List.set_cons_zero, List.set_cons_succ, i64_w, i32_w]
        rfl
      refine pure_ (i := 12) (N := some 48) (v := ?_) (a' := ?_) #[true, true, true, true, true, true, true, true, true, true, true, true, true, false] rfl rfl (by kernel_rfl) (fun _ _ _ h => h) (Or.inl ⟨by rfl, ?_⟩) ?_ ?_
      rotate_left
      · intro w'
        go_simp
        with_reducible rfl
      rotate_left
      · simp only [Act.put, List.setIfInBounds_toArray, List.set_cons_zero, List.set_cons_succ, i64_w, i32_w]
        rfl
      refine pure_ (i := 13) (N := some 16) (v := ?_) (a' := ?_) #[true, true, true, true, true, true, true, true, true, true, true, true, true, true] rfl rfl (by kernel_rfl) (fun _ _ _ h => h) (Or.inl ⟨by rfl, ?_⟩) ?_ ?_
      rotate_left
      · intro w'
        go_simp
        with_reducible rfl
      rotate_left
      · simp only [Act.put, List.setIfInBounds_toArray, List.set_cons_zero, List.set_cons_succ, i64_w, i32_w]
        rfl
      refine done_ (by kernel_rfl) ?_
      clear zg0 zg1 zg2
      clear zm
      obtain ⟨wd1001, hwd⟩ : ∃ x : World, x = W1.drew := ⟨_, rfl⟩
      have hbd : Below W1.heap.size W1 wd1001 := by rw [hwd]; exact below_drew (Below.refl _ _)
      rw [← hwd]
      clear hwd
      have HP1002 : Aside0 (PH wd1001 g (lost) (taken) (hs) (rows)) := ⟨CP2.out.below hbd⟩
      have HM1002 : Aside0 (MH wd1001 g2 (rows.map strOfNums) (lost) (taken)) := ⟨CM2.out.below hbd⟩
      have HO1002 : Aside0 (wd1001.heap[go1]? = some (.cells #[.int .i64 kd, .slice V v.length cv, .int .i64 (i : Int)] 33 (0, 0))) := ⟨blk_below Bo1.out hbd⟩
      have HB1002 : Aside0 (Below W.heap.size W wd1001) := ⟨below_step HB2.out hbd⟩
      clear hbd
      go_upto_region 12 with fail
      obtain ⟨An, cn, hmB, hmR, _⟩ := HM1002.out
      rw [List.length_map] at hmB hmR
      have HMBn := Aside0.mk hmB
      have HMRn := Aside0.mk hmR
      clear hmB hmR
      obtain ⟨q, rfl, _, _⟩ := row_bS HMRn.out (by omega)
      obtain ⟨hc0, _⟩ := Kd.R_celln ByteArray.empty HMRn.out (i : Int) (by omega) (by omega)
      rw [Int.toNat_natCast, map_at rows i r HI.out] at hc0
      have zm : wd1001.cell? ⟨g2, 0, none⟩ = some (.slice (some ⟨q, 0, none⟩) rows.length cn) := (blk_cell HMBn.out 0).trans rfl
      have HMD := Aside0.mk (HM1002.out.below (below_drew (Below.refl _ wd1001)))
      have zh0 : wd1001.cell? ⟨go1, 0, none⟩ = some (.int .i64 kd) := (blk_cell HO1002.out 0).trans rfl
      have zh1 : wd1001.cell? ⟨go1, 1, none⟩ = some (.slice V v.length cv) := (blk_cell HO1002.out 1).trans rfl
      have zh2 : wd1001.cell? ⟨go1, 2, none⟩ = some (.int .i64 (i : Int)) := (blk_cell HO1002.out 2).trans rfl
      refine start_ (n := 10) (S := fun w' => w'.cell? ⟨go1, 2, none⟩ = some (.int .i64 (i : Int)) ∧ w'.cell? ⟨g2, 0, none⟩ = some (.slice (some ⟨q, 0, none⟩) rows.length cn) ∧ w'.cell? ⟨q, i, none⟩ = some (.string (strOfNums r))) (ds := [9]) #[false, false, false, false, false, false, false, false, false, false] (by kernel_rfl) rfl rfl ⟨zh2, zm, hc0⟩ (fun hHeld => ?_)
      refine pure_ (i := 0) (N := some 50) (v := ?_) (a' := ?_) #[true, false, false, false, false, false, false, false, false, false] rfl rfl (by kernel_rfl) (fun _ _ _ h => h) (Or.inl ⟨by rfl, ?_⟩) ?_ ?_
      rotate_left
      · intro w'
        go_simp
        with_reducible rfl
      rotate_left
      · simp only [Act.put, List.setIfInBounds_toArray, List.set_cons_zero, List.set_cons_succ, i64_w, i32_w]
        rfl
      refine pure_ (i := 1) (N := some 51) (v := ?_) (a' := ?_) #[true, true, false, false, false, false, false, false, false, false] rfl rfl (by kernel_rfl) (fun _ _ _ h => h) (Or.inl ⟨by rfl, ?_⟩) ?_ ?_
      rotate_left
      · intro w'
        go_simp
        with_reducible rfl
      rotate_left
      · simp only [Act.put, List.setIfInBounds_toArray, List.set_cons_zero, List.set_cons_succ, i64_w, i32_w]
        rfl
      refine pure_ (i := 2) (N := some 52) (v := ?_) (a' := ?_) #[true, true, true, false, false, false, false, false, false, false] rfl rfl (by kernel_rfl) (fun _ _ _ h => h) (Or.inl ⟨by rfl, ?_⟩) ?_ ?_
      rotate_left
      · intro w'
        go_simp
        with_reducible rfl
      rotate_left
      · simp only [Act.put, List.setIfInBounds_toArray, List.set_cons_zero, List.set_cons_succ, i64_w, i32_w]
        rfl
      refine pure_ (i := 3) (N := some 53) (v := ?_) (a' := ?_) #[true, true, true, true, false, false, false, false, false, false] rfl rfl (by kernel_rfl) (fun _ _ _ h => h) (Or.inl ⟨by rfl, ?_⟩) ?_ ?_
      rotate_left
      · intro w'
        go_simp
        with_reducible rfl
      rotate_left
      · simp only [Act.put, List.setIfInBounds_toArray, List.set_cons_zero, List.set_cons_succ, i64_w, i32_w]
        rfl
      refine pure_ (i := 5) (N := some 55) (v := ?_) (a' := ?_) #[true, true, true, true, false, true, false, false, false, false] rfl rfl (by kernel_rfl) (fun _ _ _ h => h) (Or.inl ⟨by rfl, ?_⟩) ?_ ?_
      rotate_left
      · intro w'
        go_simp
        with_reducible rfl
      rotate_left
      · simp only [Act.put, List.setIfInBounds_toArray, List.set_cons_zero, List.set_cons_succ, i64_w, i32_w]
        rfl
      refine take_ (i := 4) (N := some 54) (v := ?_) (a' := ?_) #[true, true, true, true, true, true, false, false, false, false] rfl rfl (by kernel_rfl) (fun _ _ _ h => h) (Or.inl ⟨by rfl, ?_⟩) hHeld ?_ ?_
      rotate_left
      · rintro w' ⟨s0, s1, s2⟩
        go_simp
        with_reducible rfl
      rotate_left
      · simp only [Act.put, List.setIfInBounds_toArray, List.set_cons_zero, List.set_cons_succ, i64_w, i32_w]
        rfl
      refine take_ (i := 6) (N := some 56) (v := ?_) (a' := ?_) #[true, true, true, true, true, true, true, false, false, false] rfl rfl (by kernel_rfl) (fun _ _ _ h => h) (Or.inl ⟨by rfl, ?_⟩) hHeld ?_ ?_
      rotate_left
      · rintro w' ⟨s0, s1, s2⟩
        go_simp
        with_reducible rfl
      rotate_left
      · simp only [Act.put, List.setIfInBounds_toArray, List.set_cons_zero, List.set_cons_succ, i64_w, i32_w]
        rfl
      refine pure_ (i := 7) (N := some 57) (v := ?_) (a' := ?_) #[true, true, true, true, true, true, true, true, false, false] rfl rfl (by kernel_rfl) (fun _ _ _ h => h) (Or.inl ⟨by rfl, ?_⟩) ?_ ?_
      rotate_left
      · intro w'
        go_simp
        with_reducible rfl
      rotate_left
      · simp only [Act.put, List.setIfInBounds_toArray, List.set_cons_zero, List.set_cons_succ, i64_w, i32_w]
        rfl
      refine take_ (i := 8) (N := some 58) (v := ?_) (a' := ?_) #[true, true, true, true, true, true, true, true, true, false] rfl rfl (by kernel_rfl) (fun _ _ _ h => h) (Or.inl ⟨by rfl, ?_⟩) hHeld ?_ ?_
      rotate_left
      · rintro w' ⟨s0, s1, s2⟩
        go_simp
        with_reducible rfl
      rotate_left
      · simp only [Act.put, List.setIfInBounds_toArray, List.set_cons_zero, List.set_cons_succ, i64_w, i32_w]
        rfl
      refine last_ (i := 9) (N := some 59) #[true, true, true, true, true, true, true, true, true, true] rfl rfl (by kernel_rfl) (by decide) (fun K hK => ?_)
      refine goes_ Try.func13 (by kernel_rfl) rfl #[.pointer (some ⟨g2, 0, none⟩), .string (strOfNums r)] (by rfl) rfl rfl (by simp only [List.map_toArray, List.map_cons, List.map_nil]; rfl) ?_
      with_reducible refine (rsend_c wd1001.drew g2 _ _ _ HMD.out (strOfNums r)).mono ?_
      rintro e wR ⟨rfl, hmr, hfr⟩
      refine ⟨_, rfl, ?_⟩
      have HMX := Aside0.mk hmr
      have HFX := Aside0.mk hfr
      clear hmr hfr
      refine hK.out _ _ ?_
      clear hK K
      refine norm_ (a' := ?_) ?_ ?_
      rotate_left
      · show Act.put _ (some 59) _ = _
        simp only [Act.put, List.setIfInBounds_toArray, List.set_cons_zero, List.set_cons_succ, i64_w, i32_w]
        rfl
      refine done_ (by kernel_rfl) ?_
      clear zh0 zh1 zh2
      clear zm hc0
      have hfq : FRS g2 wd1001 wR := (FRS.of_below (Nat.le_of_lt HM1002.out.lt) (below_drew (Below.refl _ _))).trans HFX.out
      have hmq : MH wR g2 ((sendS (lost, rows) r).2.map strOfNums) (sendS (lost, rows) r).1 taken := by have h := HMX.out; rw [sendM_map] at h; exact h
      have HP1003 : Aside0 (PH wR g (lost) (taken) (hs) (rows)) := ⟨HP1002.out.frs hfq⟩
      have HM1003 : Aside0 (MH wR g2 ((sendS (lost, rows) r).2.map strOfNums) ((sendS (lost, rows) r).1) (taken)) := ⟨hmq⟩
      have HO1003 : Aside0 (wR.heap[go1]? = some (.cells #[.int .i64 kd, .slice V v.length cv, .int .i64 (i : Int)] 33 (0, 0))) := ⟨(hfq.block _ _ 33 HO1002.out (by decide) (by decide)).trans HO1002.out⟩
      have HB1003 : Aside0 (Below W.heap.size W wR) := ⟨FRS.after HB1002.out hfq GM.out⟩
      clear hfq hmq
      have zk0 : wR.cell? ⟨go1, 0, none⟩ = some (.int .i64 kd) := (blk_cell HO1003.out 0).trans rfl
      have zk1 : wR.cell? ⟨go1, 1, none⟩ = some (.slice V v.length cv) := (blk_cell HO1003.out 1).trans rfl
      have zk2 : wR.cell? ⟨go1, 2, none⟩ = some (.int .i64 (i : Int)) := (blk_cell HO1003.out 2).trans rfl
      go_wp2_with fail
      clear zk0 zk1 zk2
      refine (copy_h wR g (lost) (taken) (hs) (rows) HP1003.out i B d r HI.out HH.out).mono ?_
      rintro e wC ⟨hs9, rfl, hp, hf⟩
      have HP1004 : Aside0 (PH wC g ((sendS (lost, rows) r).1) (taken) (hs9) ((sendS (lost, rows) r).2)) := ⟨hp⟩
      have HM1004 : Aside0 (MH wC g2 ((sendS (lost, rows) r).2.map strOfNums) ((sendS (lost, rows) r).1) (taken)) := ⟨HM1003.out.fr HP1003.out.at_ hf⟩
      have HO1004 : Aside0 (wC.heap[go1]? = some (.cells #[.int .i64 kd, .slice V v.length cv, .int .i64 (i : Int)] 33 (0, 0))) := ⟨blk_fr' HO1003.out HP1003.out.at_ (by decide) hf⟩
      have HB1004 : Aside0 (Below W.heap.size W wC) := ⟨FR.after HB1003.out hf HP1003.out.at_ GE.out⟩
      clear hf hp
      go_upto_region 46 with fail
      obtain ⟨lx, tx, hx2, rx, HPX, HMX⟩ : ∃ (lx tx : Int) (hx2 : List Hd) (rx : List (List Int)), Aside0 (PH wC g lx tx hx2 rx) ∧ Aside0 (MH wC g2 (rx.map strOfNums) lx tx) := ⟨_, _, _, _, HP1004, HM1004⟩
      obtain ⟨Am2, cm2, hmB2, _, _⟩ := HMX.out
      rw [List.length_map] at hmB2
      have HMB2 := Aside0.mk hmB2
      clear hmB2
      have zt0 : wC.cell? ⟨g2, 0, none⟩ = some (.slice Am2 rx.length cm2) := (blk_cell HMB2.out 0).trans rfl
      have zt1 : wC.cell? ⟨g2, 1, none⟩ = some (.int .i64 lx) := (blk_cell HMB2.out 1).trans rfl
      have zt2 : wC.cell? ⟨g2, 2, none⟩ = some (.int .i64 tx) := (blk_cell HMB2.out 2).trans rfl
      have hq0 : ((rx.length : Int) != (rx.length : Int)) = false := by simp
      have hq1 : (lx != lx) = false := by simp
      have hq2 : (tx != tx) = false := by simp
      have HPT := Aside0.mk (HPX.out.below (below_drew (Below.refl _ wC)))
      refine start_ (n := 26) (S := fun w' => w'.cell? ⟨g2, 0, none⟩ = some (.slice Am2 rx.length cm2) ∧ w'.cell? ⟨g2, 1, none⟩ = some (.int .i64 lx) ∧ w'.cell? ⟨g2, 2, none⟩ = some (.int .i64 tx)) (ds := []) #[false, false, false, false, false, false, false, false, false, false, false, false, false, false, false, false, false, false, false, false, false, false, false, false, false, false] (by kernel_rfl) rfl rfl ⟨zt0, zt1, zt2⟩ (fun hHeld => ?_)
      refine pure_ (i := 0) (N := some 166) (v := ?_) (a' := ?_) #[true, false, false, false, false, false, false, false, false, false, false, false, false, false, false, false, false, false, false, false, false, false, false, false, false, false] rfl rfl (by kernel_rfl) (fun _ _ _ h => h) (Or.inl ⟨by rfl, ?_⟩) ?_ ?_
      rotate_left
      · intro w'
        go_simp
        with_reducible rfl
      rotate_left
      · simp only [Act.put, List.setIfInBounds_toArray, List.set_cons_zero, List.set_cons_succ, i64_w, i32_w]
        rfl
      refine pure_ (i := 2) (N := some 168) (v := ?_) (a' := ?_) #[true, false, true, false, false, false, false, false, false, false, false, false, false, false, false, false, false, false, false, false, false, false, false, false, false, false] rfl rfl (by kernel_rfl) (fun _ _ _ h => h) (Or.inl ⟨by rfl, ?_⟩) ?_ ?_
      rotate_left
      · intro w'
        go_simp
        with_reducible rfl
      rotate_left
      · simp only [Act.put, List.setIfInBounds_toArray, List.set_cons_zero, List.set_cons_succ, i64_w, i32_w]
        rfl
      refine pure_ (i := 3) (N := some 169) (v := ?_) (a' := ?_) #[true, false, true, true, false, false, false, false, false, false, false, false, false, false, false, false, false, false, false, false, false, false, false, false, false, false] rfl rfl (by kernel_rfl) (fun _ _ _ h => h) (Or.inl ⟨by rfl, ?_⟩) ?_ ?_
      rotate_left
      · intro w'
        go_simp
        with_reducible rfl
      rotate_left
      · simp only [Act.put, List.setIfInBounds_toArray, List.set_cons_zero, List.set_cons_succ, i64_w, i32_w]
        rfl
      refine pure_ (i := 4) (N := some 170) (v := ?_) (a' := ?_) #[true, false, true, true, true, false, false, false, false, false, false, false, false, false, false, false, false, false, false, false, false, false, false, false, false, false] rfl rfl (by kernel_rfl) (fun _ _ _ h => h) (Or.inl ⟨by rfl, ?_⟩) ?_ ?_
      rotate_left
      · intro w'
        go_simp
        with_reducible rfl
      rotate_left
      · simp only [Act.put, List.setIfInBounds_toArray, List.set_cons_zero, List.set_cons_succ, i64_w, i32_w]
        rfl
      refine take_ (i := 5) (N := some 171) (v := ?_) (a' := ?_) #[true, false, true, true, true, true, false, false, false, false, false, false, false, false, false, false, false, false, false, false, false, false, false, false, false, false] rfl rfl (by kernel_rfl) (fun _ _ _ h => h) (Or.inl ⟨by rfl, ?_⟩) hHeld ?_ ?_
      rotate_left
      · rintro w' ⟨s0, s1, s2⟩
        go_simp
        with_reducible rfl
      rotate_left
      · simp only [Act.put, List.setIfInBounds_toArray, List.set_cons_zero, List.set_cons_succ, i64_w, i32_w]
        rfl
      refine pure_ (i := 6) (N := some 172) (v := ?_) (a' := ?_) #[true, false, true, true, true, true, true, false, false, false, false, false, false, false, false, false, false, false, false, false, false, false, false, false, false, false] rfl rfl (by kernel_rfl) (fun _ _ _ h => h) (Or.inl ⟨by rfl, ?_⟩) ?_ ?_
      rotate_left
      · intro w'
        go_simp
        with_reducible rfl
      rotate_left
      · simp only [Act.put, List.setIfInBounds_toArray, List.set_cons_zero, List.set_cons_succ, i64_w, i32_w]
        rfl
      refine one_ (i := 1) (N := some 167) #[true, true, true, true, true, true, true, false, false, false, false, false, false, false, false, false, false, false, false, false, false, false, false, false, false, false] rfl rfl (by kernel_rfl) (by decide) (fun K hK => ?_)
      refine goes_ Try.func21 (by kernel_rfl) rfl #[.pointer (some ⟨g, 0, none⟩)] (by rfl) rfl rfl (by simp only [List.map_toArray, List.map_cons, List.map_nil]; rfl) ?_
      with_reducible refine (len_c _ g lx tx rx HPT.out.at_).mono ?_
      rintro e wt0 ⟨rfl, hbt0⟩
      refine ⟨_, rfl, ?_⟩
      have HPT0 := Aside0.mk (HPT.out.below hbt0)
      have HBT0 := Aside0.mk (below_step (below_drew (Below.refl _ wC)) hbt0)
      clear hbt0
      refine hK.out _ _ ⟨pw_cell_below HBT0.out zt0, pw_cell_below HBT0.out zt1, pw_cell_below HBT0.out zt2⟩ (fun hHeld => ?_)
      clear hK K
      refine norm_ (a' := ?_) ?_ ?_
      rotate_left
      · show Act.put _ (some 167) _ = _
        simp only [Act.put, List.setIfInBounds_toArray, List.set_cons_zero, List.set_cons_succ, i64_w, i32_w]
        rfl
      refine pure_ (i := 7) (N := some 173) (v := ?_) (a' := ?_) #[true, true, true, true, true, true, true, true, false, false, false, false, false, false, false, false, false, false, false, false, false, false, false, false, false, false] rfl rfl (by kernel_rfl) (fun _ _ _ h => h) (Or.inl ⟨by rfl, ?_⟩) ?_ ?_
      rotate_left
      · intro w'
        go_simp
        with_reducible rfl
      rotate_left
      · simp only [Act.put, List.setIfInBounds_toArray, List.set_cons_zero, List.set_cons_succ, i64_w, i32_w]
        rfl
      refine pure_ (i := 8) (N := some 174) (v := ?_) (a' := ?_) #[true, true, true, true, true, true, true, true, true, false, false, false, false, false, false, false, false, false, false, false, false, false, false, false, false, false] rfl rfl (by kernel_rfl) (fun _ _ _ h => h) (Or.inl ⟨by rfl, ?_⟩) ?_ ?_
      rotate_left
      · intro w'
        go_simp
        with_reducible rfl
      rotate_left
      · simp only [Act.put, List.setIfInBounds_toArray, List.set_cons_zero, List.set_cons_succ, i64_w, i32_w]
        rfl
      refine pure_ (i := 9) (N := some 175) (v := ?_) (a' := ?_) #[true, true, true, true, true, true, true, true, true, true, false, false, false, false, false, false, false, false, false, false, false, false, false, false, false, false] rfl rfl (by kernel_rfl) (fun _ _ _ h => h) (Or.inl ⟨by rfl, ?_⟩) ?_ ?_
      rotate_left
      · intro w'
        go_simp
        with_reducible rfl
      rotate_left
      · simp only [Act.put, List.setIfInBounds_toArray, List.set_cons_zero, List.set_cons_succ, i64_w, i32_w]
        rfl
      refine pure_ (i := 11) (N := some 177) (v := ?_) (a' := ?_) #[true, true, true, true, true, true, true, true, true, true, false, true, false, false, false, false, false, false, false, false, false, false, false, false, false, false] rfl rfl (by kernel_rfl) (fun _ _ _ h => h) (Or.inl ⟨by rfl, ?_⟩) ?_ ?_
      rotate_left
      · intro w'
        go_simp
        with_reducible rfl
      rotate_left
      · simp only [Act.put, List.setIfInBounds_toArray, List.set_cons_zero, List.set_cons_succ, i64_w, i32_w]
        rfl
      refine pure_ (i := 12) (N := some 178) (v := ?_) (a' := ?_) #[true, true, true, true, true, true, true, true, true, true, false, true, true, false, false, false, false, false, false, false, false, false, false, false, false, false] rfl rfl (by kernel_rfl) (fun _ _ _ h => h) (Or.inl ⟨by rfl, ?_⟩) ?_ ?_
      rotate_left
      · intro w'
        go_simp
        with_reducible rfl
      rotate_left
      · simp only [Act.put, List.setIfInBounds_toArray, List.set_cons_zero, List.set_cons_succ, i64_w, i32_w]
        rfl
      refine pure_ (i := 13) (N := some 179) (v := ?_) (a' := ?_) #[true, true, true, true, true, true, true, true, true, true, false, true, true, true, false, false, false, false, false, false, false, false, false, false, false, false] rfl rfl (by kernel_rfl) (fun _ _ _ h => h) (Or.inl ⟨by rfl, ?_⟩) ?_ ?_
      rotate_left
      · intro w'
        go_simp
        with_reducible rfl
      rotate_left
      · simp only [Act.put, List.setIfInBounds_toArray, List.set_cons_zero, List.set_cons_succ, i64_w, i32_w]
        rfl
      refine take_ (i := 14) (N := some 180) (v := ?_) (a' := ?_) #[true, true, true, true, true, true, true, true, true, true, false, true, true, true, true, false, false, false, false, false, false, false, false, false, false, false] rfl rfl (by kernel_rfl) (fun _ _ _ h => h) (Or.inl ⟨by rfl, ?_⟩) hHeld ?_ ?_
      rotate_left
      · rintro w' ⟨s0, s1, s2⟩
        go_simp
        with_reducible rfl
      rotate_left
      · simp only [Act.put, List.setIfInBounds_toArray, List.set_cons_zero, List.set_cons_succ, i64_w, i32_w]
        rfl
      refine one_ (i := 10) (N := some 176) #[true, true, true, true, true, true, true, true, true, true, true, true, true, true, true, false, false, false, false, false, false, false, false, false, false, false] rfl rfl (by kernel_rfl) (by decide) (fun K hK => ?_)
      refine goes_ Try.func22 (by kernel_rfl) rfl #[.pointer (some ⟨g, 0, none⟩)] (by rfl) rfl rfl (by simp only [List.map_toArray, List.map_cons, List.map_nil]; rfl) ?_
      with_reducible refine (lost_c _ g lx tx rx HPT0.out.at_).mono ?_
      rintro e wt1 ⟨rfl, hbt1⟩
      refine ⟨_, rfl, ?_⟩
      have HPT1 := Aside0.mk (HPT0.out.below hbt1)
      have HBT1 := Aside0.mk (below_step HBT0.out hbt1)
      clear hbt1
      refine hK.out _ _ ⟨pw_cell_below HBT1.out zt0, pw_cell_below HBT1.out zt1, pw_cell_below HBT1.out zt2⟩ (fun hHeld => ?_)
      clear hK K
      refine norm_ (a' := ?_) ?_ ?_
      rotate_left
      · show Act.put _ (some 176) _ = _
        simp only [Act.put, List.setIfInBounds_toArray, List.set_cons_zero, List.set_cons_succ, i64_w, i32_w]
        rfl
      refine pure_ (i := 15) (N := some 181) (v := ?_) (a' := ?_) #[true, true, true, true, true, true, true, true, true, true, true, true, true, true, true, true, false, false, false, false, false, false, false, false, false, false] rfl rfl (by kernel_rfl) (fun _ _ _ h => h) (Or.inl ⟨by rfl, ?_⟩) ?_ ?_
      rotate_left
      · intro w'
        go_simp
        with_reducible rfl
      rotate_left
      · simp only [Act.put, List.setIfInBounds_toArray, List.set_cons_zero, List.set_cons_succ, i64_w, i32_w]
        rfl
      refine pure_ (i := 16) (N := some 182) (v := ?_) (a' := ?_) #[true, true, true, true, true, true, true, true, true, true, true, true, true, true, true, true, true, false, false, false, false, false, false, false, false, false] rfl rfl (by kernel_rfl) (fun _ _ _ h => h) (Or.inl ⟨by rfl, ?_⟩) ?_ ?_
      rotate_left
      · intro w'
        go_simp
        with_reducible rfl
      rotate_left
      · simp only [Act.put, List.setIfInBounds_toArray, List.set_cons_zero, List.set_cons_succ, i64_w, i32_w]
        rfl
      refine pure_ (i := 17) (N := some 183) (v := ?_) (a' := ?_) #[true, true, true, true, true, true, true, true, true, true, true, true, true, true, true, true, true, true, false, false, false, false, false, false, false, false] rfl rfl (by kernel_rfl) (fun _ _ _ h => h) (Or.inl ⟨by rfl, ?_⟩) ?_ ?_
      rotate_left
      · intro w'
        go_simp
        with_reducible rfl
      rotate_left
      · simp only [Act.put, List.setIfInBounds_toArray, List.set_cons_zero, List.set_cons_succ, i64_w, i32_w]
        rfl
      refine pure_ (i := 18) (N := some 184) (v := ?_) (a' := ?_) #[true, true, true, true, true, true, true, true, true, true, true, true, true, true, true, true, true, true, true, false, false, false, false, false, false, false] rfl rfl (by kernel_rfl) (fun _ _ _ h => h) (Or.inl ⟨by rfl, ?_⟩) ?_ ?_
      rotate_left
      · intro w'
        go_simp
        with_reducible rfl
      rotate_left
      · simp only [Act.put, List.setIfInBounds_toArray, List.set_cons_zero, List.set_cons_succ, i64_w, i32_w]
        rfl
      refine pure_ (i := 20) (N := some 186) (v := ?_) (a' := ?_) #[true, true, true, true, true, true, true, true, true, true, true, true, true, true, true, true, true, true, true, false, true, false, false, false, false, false] rfl rfl (by kernel_rfl) (fun _ _ _ h => h) (Or.inl ⟨by rfl, ?_⟩) ?_ ?_
      rotate_left
      · intro w'
        go_simp
        with_reducible rfl
      rotate_left
      · simp only [Act.put, List.setIfInBounds_toArray, List.set_cons_zero, List.set_cons_succ, i64_w, i32_w]
        rfl
      refine pure_ (i := 21) (N := some 187) (v := ?_) (a' := ?_) #[true, true, true, true, true, true, true, true, true, true, true, true, true, true, true, true, true, true, true, false, true, true, false, false, false, false] rfl rfl (by kernel_rfl) (fun _ _ _ h => h) (Or.inl ⟨by rfl, ?_⟩) ?_ ?_
      rotate_left
      · intro w'
        go_simp
        with_reducible rfl
      rotate_left
      · simp only [Act.put, List.setIfInBounds_toArray, List.set_cons_zero, List.set_cons_succ, i64_w, i32_w]
        rfl
      refine pure_ (i := 22) (N := some 188) (v := ?_) (a' := ?_) #[true, true, true, true, true, true, true, true, true, true, true, true, true, true, true, true, true, true, true, false, true, true, true, false, false, false] rfl rfl (by kernel_rfl) (fun _ _ _ h => h) (Or.inl ⟨by rfl, ?_⟩) ?_ ?_
      rotate_left
      · intro w'
        go_simp
        with_reducible rfl
      rotate_left
      · simp only [Act.put, List.setIfInBounds_toArray, List.set_cons_zero, List.set_cons_succ, i64_w, i32_w]
        rfl
      refine take_ (i := 23) (N := some 189) (v := ?_) (a' := ?_) #[true, true, true, true, true, true, true, true, true, true, true, true, true, true, true, true, true, true, true, false, true, true, true, true, false, false] rfl rfl (by kernel_rfl) (fun _ _ _ h => h) (Or.inl ⟨by rfl, ?_⟩) hHeld ?_ ?_
      rotate_left
      · rintro w' ⟨s0, s1, s2⟩
        go_simp
        with_reducible rfl
      rotate_left
      · simp only [Act.put, List.setIfInBounds_toArray, List.set_cons_zero, List.set_cons_succ, i64_w, i32_w]
        rfl
      refine one_ (i := 19) (N := some 185) #[true, true, true, true, true, true, true, true, true, true, true, true, true, true, true, true, true, true, true, true, true, true, true, true, false, false] rfl rfl (by kernel_rfl) (by decide) (fun K hK => ?_)
      refine goes_ Try.func23 (by kernel_rfl) rfl #[.pointer (some ⟨g, 0, none⟩)] (by rfl) rfl rfl (by simp only [List.map_toArray, List.map_cons, List.map_nil]; rfl) ?_
      with_reducible refine (taken_c _ g lx tx rx HPT1.out.at_).mono ?_
      rintro e wt2 ⟨rfl, hbt2⟩
      refine ⟨_, rfl, ?_⟩
      have HPT2 := Aside0.mk (HPT1.out.below hbt2)
      have HBT2 := Aside0.mk (below_step HBT1.out hbt2)
      clear hbt2
      refine hK.out _ _ ⟨pw_cell_below HBT2.out zt0, pw_cell_below HBT2.out zt1, pw_cell_below HBT2.out zt2⟩ (fun hHeld => ?_)
      clear hK K
      refine norm_ (a' := ?_) ?_ ?_
      rotate_left
      · show Act.put _ (some 185) _ = _
        simp only [Act.put, List.setIfInBounds_toArray, List.set_cons_zero, List.set_cons_succ, i64_w, i32_w]
        rfl
      refine pure_ (i := 24) (N := some 190) (v := ?_) (a' := ?_) #[true, true, true, true, true, true, true, true, true, true, true, true, true, true, true, true, true, true, true, true, true, true, true, true, true, false] rfl rfl (by kernel_rfl) (fun _ _ _ h => h) (Or.inl ⟨by rfl, ?_⟩) ?_ ?_
      rotate_left
      · intro w'
        go_simp
        with_reducible rfl
      rotate_left
      · simp only [Act.put, List.setIfInBounds_toArray, List.set_cons_zero, List.set_cons_succ, i64_w, i32_w]
        rfl
      refine pure_ (i := 25) (N := some 191) (v := ?_) (a' := ?_) #[true, true, true, true, true, true, true, true, true, true, true, true, true, true, true, true, true, true, true, true, true, true, true, true, true, true] rfl rfl (by kernel_rfl) (fun _ _ _ h => h) (Or.inl ⟨by rfl, ?_⟩) ?_ ?_
      rotate_left
      · intro w'
        go_simp
        with_reducible rfl
      rotate_left
      · simp only [Act.put, List.setIfInBounds_toArray, List.set_cons_zero, List.set_cons_succ, i64_w, i32_w]
        rfl
      refine done_ (by kernel_rfl) ?_
      clear zt0 zt1 zt2
      go_wp2_with fail
      go_roundw
      case rel => exact ⟨k + 1, lx, tx, hx2, rx, by omega, by go_num, ⟨HPX.out.below HBT2.out⟩, ⟨HMX.out.below HBT2.out⟩, ⟨below_step HB1004.out HBT2.out⟩⟩
      case measure => simp [intOf]; omega
    case neg =>
      have HOUT : Aside0 (n < 0 ∨ (rows.length : Int) ≤ n) := ⟨by omega⟩
      clear hin
      by_cases hn0 : n < 0
      case pos => as_aux_lemma =>
        have zg0 : W1.cell? ⟨go1, 0, none⟩ = some (.int .i64 kd) := (blk_cell Bo1.out 0).trans rfl
        have zg1 : W1.cell? ⟨go1, 1, none⟩ = some (.slice V v.length cv) := (blk_cell Bo1.out 1).trans rfl
        have zg2 : W1.cell? ⟨go1, 2, none⟩ = some (.int .i64 n) := (blk_cell Bo1.out 2).trans rfl
        go_upto_region 10 with fail
        have d1 : decide (n < 0) = true := decide_eq_true hn0
        have d2 : decide ((0 : Int) ≤ n) = false := decide_eq_false (by omega)
        obtain ⟨Am, cm, hmB, hmR, _⟩ := CM2.out
        rw [List.length_map] at hmB hmR
        have HMBm := Aside0.mk hmB
        have HMRm := Aside0.mk hmR
        clear hmB hmR
        have zm : W1.cell? ⟨g2, 0, none⟩ = some (.slice Am rows.length cm) := (blk_cell HMBm.out 0).trans rfl
        refine start_ (n := 14) (S := fun w' => w'.cell? ⟨go1, 2, none⟩ = some (.int .i64 n) ∧ w'.cell? ⟨g2, 0, none⟩ = some (.slice Am rows.length cm)) (ds := []) #[false, false, false, false, false, false, false, false, false, false, false, false, false, false] (by kernel_rfl) rfl rfl ⟨zg2, zm⟩ (fun hHeld => ?_)
        refine pure_ (i := 0) (N := some 36) (v := ?_) (a' := ?_) #[true, false, false, false, false, false, false, false, false, false, false, false, false, false] rfl rfl (by kernel_rfl) (fun _ _ _ h => h) (Or.inl ⟨by rfl, ?_⟩) ?_ ?_
        rotate_left
        · intro w'
          go_simp
          with_reducible rfl
        rotate_left
        · simp only [Act.put, List.setIfInBounds_toArray, List.set_cons_zero, List.set_cons_succ, i64_w, i32_w]
          rfl
        refine take_ (i := 1) (N := some 37) (v := ?_) (a' := ?_) #[true, true, false, false, false, false, false, false, false, false, false, false, false, false] rfl rfl (by kernel_rfl) (fun _ _ _ h => h) (Or.inl ⟨by rfl, ?_⟩) hHeld ?_ ?_
        rotate_left
        · rintro w' ⟨s0, s1⟩
          go_simp
          with_reducible rfl
        rotate_left
        · simp only [Act.put, List.setIfInBounds_toArray, List.set_cons_zero, List.set_cons_succ, i64_w, i32_w]
          rfl
        refine pure_ (i := 2) (N := some 38) (v := ?_) (a' := ?_) #[true, true, true, false, false, false, false, false, false, false, false, false, false, false] rfl rfl (by kernel_rfl) (fun _ _ _ h => h) (Or.inl ⟨by rfl, ?_⟩) ?_ ?_
        rotate_left
        · intro w'
          go_simp
          with_reducible rfl
        rotate_left
        · simp only [Act.put, List.setIfInBounds_toArray, List.set_cons_zero, List.set_cons_succ, i64_w, i32_w]
          rfl
        refine pure_ (i := 3) (N := some 39) (v := ?_) (a' := ?_) #[true, true, true, true, false, false, false, false, false, false, false, false, false, false] rfl rfl (by kernel_rfl) (fun _ _ _ h => h) (Or.inl ⟨by rfl, ?_⟩) ?_ ?_
        rotate_left
        · intro w'
          go_simp
          with_reducible rfl
        rotate_left
        · simp only [Act.put, List.setIfInBounds_toArray, List.set_cons_zero, List.set_cons_succ, i64_w, i32_w]
          rfl
        refine pure_ (i := 4) (N := some 40) (v := undef) (a' := ?_) #[true, true, true, true, true, false, false, false, false, false, false, false, false, false] rfl rfl (by kernel_rfl) (fun _ _ _ h => h) (Or.inr ⟨by rfl, rfl⟩) ?_ ?_
        rotate_left
        · simp only [Act.put, List.setIfInBounds_toArray, List.set_cons_zero, List.set_cons_succ, i64_w, i32_w]
          rfl
        refine pure_ (i := 5) (N := some 41) (v := undef) (a' := ?_) #[true, true, true, true, true, true, false, false, false, false, false, false, false, false] rfl rfl (by kernel_rfl) (fun _ _ _ h => h) (Or.inr ⟨by rfl, rfl⟩) ?_ ?_
        rotate_left
        · simp only [Act.put, List.setIfInBounds_toArray, List.set_cons_zero, List.set_cons_succ, i64_w, i32_w]
          rfl
        refine pure_ (i := 6) (N := some 42) (v := undef) (a' := ?_) #[true, true, true, true, true, true, true, false, false, false, false, false, false, false] rfl rfl (by kernel_rfl) (fun _ _ _ h => h) (Or.inr ⟨by rfl, rfl⟩) ?_ ?_
        rotate_left
        · simp only [Act.put, List.setIfInBounds_toArray, List.set_cons_zero, List.set_cons_succ, i64_w, i32_w]
          rfl
        refine pure_ (i := 7) (N := some 43) (v := undef) (a' := ?_) #[true, true, true, true, true, true, true, true, false, false, false, false, false, false] rfl rfl (by kernel_rfl) (fun _ _ _ h => h) (Or.inr ⟨by rfl, rfl⟩) ?_ ?_
        rotate_left
        · simp only [Act.put, List.setIfInBounds_toArray, List.set_cons_zero, List.set_cons_succ, i64_w, i32_w]
          rfl
        refine pure_ (i := 8) (N := some 44) (v := undef) (a' := ?_) #[true, true, true, true, true, true, true, true, true, false, false, false, false, false] rfl rfl (by kernel_rfl) (fun _ _ _ h => h) (Or.inr ⟨by rfl, rfl⟩) ?_ ?_
        rotate_left
        · simp only [Act.put, List.setIfInBounds_toArray, List.set_cons_zero, List.set_cons_succ, i64_w, i32_w]
          rfl
        refine pure_ (i := 9) (N := some 45) (v := undef) (a' := ?_) #[true, true, true, true, true, true, true, true, true, true, false, false, false, false] rfl rfl (by kernel_rfl) (fun _ _ _ h => h) (Or.inr ⟨by rfl, rfl⟩) ?_ ?_
        rotate_left
        · simp only [Act.put, List.setIfInBounds_toArray, List.set_cons_zero, List.set_cons_succ, i64_w, i32_w]
          rfl
        refine pure_ (i := 10) (N := some 46) (v := undef) (a' := ?_) #[true, true, true, true, true, true, true, true, true, true, true, false, false, false] rfl rfl (by kernel_rfl) (fun _ _ _ h => h) (Or.inr ⟨by rfl, rfl⟩) ?_ ?_
        rotate_left
        · simp only [Act.put, List.setIfInBounds_toArray, List.set_cons_zero, List.set_cons_succ, i64_w, i32_w]
          rfl
        refine pure_ (i := 11) (N := some 47) (v := undef) (a' := ?_) #[true, true, true, true, true, true, true, true, true, true, true, true, false, false] rfl rfl (by kernel_rfl) (fun _ _ _ h => h) (Or.inr ⟨by rfl, rfl⟩) ?_ ?_
        rotate_left
        · simp only [Act.put, List.setIfInBounds_toArray, List.set_cons_zero, List.set_cons_succ, i64_w, i32_w]
          rfl
        refine pure_ (i := 12) (N := some 48) (v := ?_) (a' := ?_) #[true, true, true, true, true, true, true, true, true, true, true, true, true, false] rfl rfl (by kernel_rfl) (fun _ _ _ h => h) (Or.inl ⟨by rfl, ?_⟩) ?_ ?_
        rotate_left
        · intro w'
          go_simp
          with_reducible rfl
        rotate_left
        · simp only [Act.put, List.setIfInBounds_toArray, List.set_cons_zero, List.set_cons_succ, i64_w, i32_w]
          rfl
        refine pure_ (i := 13) (N := some 16) (v := ?_) (a' := ?_) #[true, true, true, true, true, true, true, true, true, true, true, true, true, true] rfl rfl (by kernel_rfl) (fun _ _ _ h => h) (Or.inl ⟨by rfl, ?_⟩) ?_ ?_
        rotate_left
        · intro w'
          go_simp
          with_reducible rfl
        rotate_left
        · simp only [Act.put, List.setIfInBounds_toArray, List.set_cons_zero, List.set_cons_succ, i64_w, i32_w]
          rfl
        refine done_ (by kernel_rfl) ?_
        clear zg0 zg1 zg2
        clear zm
        obtain ⟨wd1201, hwd⟩ : ∃ x : World, x = W1.drew := ⟨_, rfl⟩
        have hbd : Below W1.heap.size W1 wd1201 := by rw [hwd]; exact below_drew (Below.refl _ _)
        rw [← hwd]
        clear hwd
        have HP1202 : Aside0 (PH wd1201 g (lost) (taken) (hs) (rows)) := ⟨CP2.out.below hbd⟩
        have HM1202 : Aside0 (MH wd1201 g2 (rows.map strOfNums) (lost) (taken)) := ⟨CM2.out.below hbd⟩
        have HO1202 : Aside0 (wd1201.heap[go1]? = some (.cells #[.int .i64 kd, .slice V v.length cv, .int .i64 n] 33 (0, 0))) := ⟨blk_below Bo1.out hbd⟩
        have HB1202 : Aside0 (Below W.heap.size W wd1201) := ⟨below_step HB2.out hbd⟩
        clear hbd
        have zk0 : wd1201.cell? ⟨go1, 0, none⟩ = some (.int .i64 kd) := (blk_cell HO1202.out 0).trans rfl
        have zk1 : wd1201.cell? ⟨go1, 1, none⟩ = some (.slice V v.length cv) := (blk_cell HO1202.out 1).trans rfl
        have zk2 : wd1201.cell? ⟨go1, 2, none⟩ = some (.int .i64 n) := (blk_cell HO1202.out 2).trans rfl
        go_wp2_with fail
        clear zk0 zk1 zk2
        refine (copy_out wd1201 g (lost) (taken) (rows) HP1202.out.at_ n HOUT.out).mono ?_
        rintro e wC ⟨rfl, hbc⟩
        have HP1203 : Aside0 (PH wC g (lost) (taken) (hs) (rows)) := ⟨HP1202.out.below hbc⟩
        have HM1203 : Aside0 (MH wC g2 (rows.map strOfNums) (lost) (taken)) := ⟨HM1202.out.below hbc⟩
        have HO1203 : Aside0 (wC.heap[go1]? = some (.cells #[.int .i64 kd, .slice V v.length cv, .int .i64 n] 33 (0, 0))) := ⟨blk_below HO1202.out hbc⟩
        have HB1203 : Aside0 (Below W.heap.size W wC) := ⟨below_step HB1202.out hbc⟩
        clear hbc
        go_upto_region 46 with fail
        obtain ⟨lx, tx, hx2, rx, HPX, HMX⟩ : ∃ (lx tx : Int) (hx2 : List Hd) (rx : List (List Int)), Aside0 (PH wC g lx tx hx2 rx) ∧ Aside0 (MH wC g2 (rx.map strOfNums) lx tx) := ⟨_, _, _, _, HP1203, HM1203⟩
        obtain ⟨Am2, cm2, hmB2, _, _⟩ := HMX.out
        rw [List.length_map] at hmB2
        have HMB2 := Aside0.mk hmB2
        clear hmB2
        have zt0 : wC.cell? ⟨g2, 0, none⟩ = some (.slice Am2 rx.length cm2) := (blk_cell HMB2.out 0).trans rfl
        have zt1 : wC.cell? ⟨g2, 1, none⟩ = some (.int .i64 lx) := (blk_cell HMB2.out 1).trans rfl
        have zt2 : wC.cell? ⟨g2, 2, none⟩ = some (.int .i64 tx) := (blk_cell HMB2.out 2).trans rfl
        have hq0 : ((rx.length : Int) != (rx.length : Int)) = false := by simp
        have hq1 : (lx != lx) = false := by simp
        have hq2 : (tx != tx) = false := by simp
        have HPT := Aside0.mk (HPX.out.below (below_drew (Below.refl _ wC)))
        refine start_ (n := 26) (S := fun w' => w'.cell? ⟨g2, 0, none⟩ = some (.slice Am2 rx.length cm2) ∧ w'.cell? ⟨g2, 1, none⟩ = some (.int .i64 lx) ∧ w'.cell? ⟨g2, 2, none⟩ = some (.int .i64 tx)) (ds := []) #[false, false, false, false, false, false, false, false, false, false, false, false, false, false, false, false, false, false, false, false, false, false, false, false, false, false] (by kernel_rfl) rfl rfl ⟨zt0, zt1, zt2⟩ (fun hHeld => ?_)
        refine pure_ (i := 0) (N := some 166) (v := ?_) (a' := ?_) #[true, false, false, false, false, false, false, false, false, false, false, false, false, false, false, false, false, false, false, false, false, false, false, false, false, false] rfl rfl (by kernel_rfl) (fun _ _ _ h => h) (Or.inl ⟨by rfl, ?_⟩) ?_ ?_
        rotate_left
        · intro w'
          go_simp
          with_reducible rfl
        rotate_left
        · simp only [Act.put, List.setIfInBounds_toArray, List.set_cons_zero, List.set_cons_succ, i64_w, i32_w]
          rfl
        refine pure_ (i := 2) (N := some 168) (v := ?_) (a' := ?_) #[true, false, true, false, false, false, false, false, false, false, false, false, false, false, false, false, false, false, false, false, false, false, false, false, false, false] rfl rfl (by kernel_rfl) (fun _ _ _ h => h) (Or.inl ⟨by rfl, ?_⟩) ?_ ?_
        rotate_left
        · intro w'
          go_simp
          with_reducible rfl
        rotate_left
        · simp only [Act.put, List.setIfInBounds_toArray, List.set_cons_zero, List.set_cons_succ, i64_w, i32_w]
          rfl
        refine pure_ (i := 3) (N := some 169) (v := ?_) (a' := ?_) #[true, false, true, true, false, false, false, false, false, false, false, false, false, false, false, false, false, false, false, false, false, false, false, false, false, false] rfl rfl (by kernel_rfl) (fun _ _ _ h => h) (Or.inl ⟨by rfl, ?_⟩) ?_ ?_
        rotate_left
        · intro w'
          go_simp
          with_reducible rfl
        rotate_left
        · simp only [Act.put, List.setIfInBounds_toArray, List.set_cons_zero, List.set_cons_succ, i64_w, i32_w]
          rfl
        refine pure_ (i := 4) (N := some 170) (v := ?_) (a' := ?_) #[true, false, true, true, true, false, false, false, false, false, false, false, false, false, false, false, false, false, false, false, false, false, false, false, false, false] rfl rfl (by kernel_rfl) (fun _ _ _ h => h) (Or.inl ⟨by rfl, ?_⟩) ?_ ?_
        rotate_left
        · intro w'
          go_simp
          with_reducible rfl
        rotate_left
        · simp only [Act.put, List.setIfInBounds_toArray, List.set_cons_zero, List.set_cons_succ, i64_w, i32_w]
          rfl
        refine take_ (i := 5) (N := some 171) (v := ?_) (a' := ?_) #[true, false, true, true, true, true, false, false, false, false, false, false, false, false, false, false, false, false, false, false, false, false, false, false, false, false] rfl rfl (by kernel_rfl) (fun _ _ _ h => h) (Or.inl ⟨by rfl, ?_⟩) hHeld ?_ ?_
        rotate_left
        · rintro w' ⟨s0, s1, s2⟩
          go_simp
          with_reducible rfl
        rotate_left
        · simp only [Act.put, List.setIfInBounds_toArray, List.set_cons_zero, List.set_cons_succ, i64_w, i32_w]
          rfl
        refine pure_ (i := 6) (N := some 172) (v := ?_) (a' := ?_) #[true, false, true, true, true, true, true, false, false, false, false, false, false, false, false, false, false, false, false, false, false, false, false, false, false, false] rfl rfl (by kernel_rfl) (fun _ _ _ h => h) (Or.inl ⟨by rfl, ?_⟩) ?_ ?_
        rotate_left
        · intro w'
          go_simp
          with_reducible rfl
        rotate_left
        · simp only [Act.put, List.setIfInBounds_toArray, List.set_cons_zero, List.set_cons_succ, i64_w, i32_w]
          rfl
        refine one_ (i := 1) (N := some 167) #[true, true, true, true, true, true, true, false, false, false, false, false, false, false, false, false, false, false, false, false, false, false, false, false, false, false] rfl rfl (by kernel_rfl) (by decide) (fun K hK => ?_)
        refine goes_ Try.func21 (by kernel_rfl) rfl #[.pointer (some ⟨g, 0, none⟩)] (by rfl) rfl rfl (by simp only [List.map_toArray, List.map_cons, List.map_nil]; rfl) ?_
        with_reducible refine (len_c _ g lx tx rx HPT.out.at_).mono ?_
        rintro e wt0 ⟨rfl, hbt0⟩
        refine ⟨_, rfl, ?_⟩
        have HPT0 := Aside0.mk (HPT.out.below hbt0)
        have HBT0 := Aside0.mk (below_step (below_drew (Below.refl _ wC)) hbt0)
        clear hbt0
        refine hK.out _ _ ⟨pw_cell_below HBT0.out zt0, pw_cell_below HBT0.out zt1, pw_cell_below HBT0.out zt2⟩ (fun hHeld => ?_)
        clear hK K
        refine norm_ (a' := ?_) ?_ ?_
        rotate_left
        · show Act.put _ (some 167) _ = _
          simp only [Act.put, List.setIfInBounds_toArray, List.set_cons_zero, List.set_cons_succ, i64_w, i32_w]
          rfl
        refine pure_ (i := 7) (N := some 173) (v := ?_) (a' := ?_) #[true, true, true, true, true, true, true, true, false, false, false, false, false, false, false, false, false, false, false, false, false, false, false, false, false, false] rfl rfl (by kernel_rfl) (fun _ _ _ h => h) (Or.inl ⟨by rfl, ?_⟩) ?_ ?_
        rotate_left
        · intro w'
          go_simp
          with_reducible rfl
        rotate_left
        · simp only [Act.put, List.setIfInBounds_toArray, List.set_cons_zero, List.set_cons_succ, i64_w, i32_w]
          rfl
        refine pure_ (i := 8) (N := some 174) (v := ?_) (a' := ?_) #[true, true, true, true, true, true, true, true, true, false, false, false, false, false, false, false, false, false, false, false, false, false, false, false, false, false] rfl rfl (by kernel_rfl) (fun _ _ _ h => h) (Or.inl ⟨by rfl, ?_⟩) ?_ ?_
        rotate_left
        · intro w'
          go_simp
          with_reducible rfl
        rotate_left
        · simp only [Act.put, List.setIfInBounds_toArray, List.set_cons_zero, List.set_cons_succ, i64_w, i32_w]
          rfl
        refine pure_ (i := 9) (N := some 175) (v := ?_) (a' := ?_) #[true, true, true, true, true, true, true, true, true, true, false, false, false, false, false, false, false, false, false, false, false, false, false, false, false, false] rfl rfl (by kernel_rfl) (fun _ _ _ h => h) (Or.inl ⟨by rfl, ?_⟩) ?_ ?_
        rotate_left
        · intro w'
          go_simp
          with_reducible rfl
        rotate_left
        · simp only [Act.put, List.setIfInBounds_toArray, List.set_cons_zero, List.set_cons_succ, i64_w, i32_w]
          rfl
        refine pure_ (i := 11) (N := some 177) (v := ?_) (a' := ?_) #[true, true, true, true, true, true, true, true, true, true, false, true, false, false, false, false, false, false, false, false, false, false, false, false, false, false] rfl rfl (by kernel_rfl) (fun _ _ _ h => h) (Or.inl ⟨by rfl, ?_⟩) ?_ ?_
        rotate_left
        · intro w'
          go_simp
          with_reducible rfl
        rotate_left
        · simp only [Act.put, List.setIfInBounds_toArray, List.set_cons_zero, List.set_cons_succ, i64_w, i32_w]
          rfl
        refine pure_ (i := 12) (N := some 178) (v := ?_) (a' := ?_) #[true, true, true, true, true, true, true, true, true, true, false, true, true, false, false, false, false, false, false, false, false, false, false, false, false, false] rfl rfl (by kernel_rfl) (fun _ _ _ h => h) (Or.inl ⟨by rfl, ?_⟩) ?_ ?_
        rotate_left
        · intro w'
          go_simp
          with_reducible rfl
        rotate_left
        · simp only [Act.put, List.setIfInBounds_toArray, List.set_cons_zero, List.set_cons_succ, i64_w, i32_w]
          rfl
        refine pure_ (i := 13) (N := some 179) (v := ?_) (a' := ?_) #[true, true, true, true, true, true, true, true, true, true, false, true, true, true, false, false, false, false, false, false, false, false, false, false, false, false] rfl rfl (by kernel_rfl) (fun _ _ _ h => h) (Or.inl ⟨by rfl, ?_⟩) ?_ ?_
        rotate_left
        · intro w'
          go_simp
          with_reducible rfl
        rotate_left
        · simp only [Act.put, List.setIfInBounds_toArray, List.set_cons_zero, List.set_cons_succ, i64_w, i32_w]
          rfl
        refine take_ (i := 14) (N := some 180) (v := ?_) (a' := ?_) #[true, true, true, true, true, true, true, true, true, true, false, true, true, true, true, false, false, false, false, false, false, false, false, false, false, false] rfl rfl (by kernel_rfl) (fun _ _ _ h => h) (Or.inl ⟨by rfl, ?_⟩) hHeld ?_ ?_
        rotate_left
        · rintro w' ⟨s0, s1, s2⟩
          go_simp
          with_reducible rfl
        rotate_left
        · simp only [Act.put, List.setIfInBounds_toArray, List.set_cons_zero, List.set_cons_succ, i64_w, i32_w]
          rfl
        refine one_ (i := 10) (N := some 176) #[true, true, true, true, true, true, true, true, true, true, true, true, true, true, true, false, false, false, false, false, false, false, false, false, false, false] rfl rfl (by kernel_rfl) (by decide) (fun K hK => ?_)
        refine goes_ Try.func22 (by kernel_rfl) rfl #[.pointer (some ⟨g, 0, none⟩)] (by rfl) rfl rfl (by simp only [List.map_toArray, List.map_cons, List.map_nil]; rfl) ?_
        with_reducible refine (lost_c _ g lx tx rx HPT0.out.at_).mono ?_
        rintro e wt1 ⟨rfl, hbt1⟩
        refine ⟨_, rfl, ?_⟩
        have HPT1 := Aside0.mk (HPT0.out.below hbt1)
        have HBT1 := Aside0.mk (below_step HBT0.out hbt1)
        clear hbt1
        refine hK.out _ _ ⟨pw_cell_below HBT1.out zt0, pw_cell_below HBT1.out zt1, pw_cell_below HBT1.out zt2⟩ (fun hHeld => ?_)
        clear hK K
        refine norm_ (a' := ?_) ?_ ?_
        rotate_left
        · show Act.put _ (some 176) _ = _
          simp only [Act.put, List.setIfInBounds_toArray, List.set_cons_zero, List.set_cons_succ, i64_w, i32_w]
          rfl
        refine pure_ (i := 15) (N := some 181) (v := ?_) (a' := ?_) #[true, true, true, true, true, true, true, true, true, true, true, true, true, true, true, true, false, false, false, false, false, false, false, false, false, false] rfl rfl (by kernel_rfl) (fun _ _ _ h => h) (Or.inl ⟨by rfl, ?_⟩) ?_ ?_
        rotate_left
        · intro w'
          go_simp
          with_reducible rfl
        rotate_left
        · simp only [Act.put, List.setIfInBounds_toArray, List.set_cons_zero, List.set_cons_succ, i64_w, i32_w]
          rfl
        refine pure_ (i := 16) (N := some 182) (v := ?_) (a' := ?_) #[true, true, true, true, true, true, true, true, true, true, true, true, true, true, true, true, true, false, false, false, false, false, false, false, false, false] rfl rfl (by kernel_rfl) (fun _ _ _ h => h) (Or.inl ⟨by rfl, ?_⟩) ?_ ?_
        rotate_left
        · intro w'
          go_simp
          with_reducible rfl
        rotate_left
        · simp only [Act.put, List.setIfInBounds_toArray, List.set_cons_zero, List.set_cons_succ, i64_w, i32_w]
          rfl
        refine pure_ (i := 17) (N := some 183) (v := ?_) (a' := ?_) #[true, true, true, true, true, true, true, true, true, true, true, true, true, true, true, true, true, true, false, false, false, false, false, false, false, false] rfl rfl (by kernel_rfl) (fun _ _ _ h => h) (Or.inl ⟨by rfl, ?_⟩) ?_ ?_
        rotate_left
        · intro w'
          go_simp
          with_reducible rfl
        rotate_left
        · simp only [Act.put, List.setIfInBounds_toArray, List.set_cons_zero, List.set_cons_succ, i64_w, i32_w]
          rfl
        refine pure_ (i := 18) (N := some 184) (v := ?_) (a' := ?_) #[true, true, true, true, true, true, true, true, true, true, true, true, true, true, true, true, true, true, true, false, false, false, false, false, false, false] rfl rfl (by kernel_rfl) (fun _ _ _ h => h) (Or.inl ⟨by rfl, ?_⟩) ?_ ?_
        rotate_left
        · intro w'
          go_simp
          with_reducible rfl
        rotate_left
        · simp only [Act.put, List.setIfInBounds_toArray, List.set_cons_zero, List.set_cons_succ, i64_w, i32_w]
          rfl
        refine pure_ (i := 20) (N := some 186) (v := ?_) (a' := ?_) #[true, true, true, true, true, true, true, true, true, true, true, true, true, true, true, true, true, true, true, false, true, false, false, false, false, false] rfl rfl (by kernel_rfl) (fun _ _ _ h => h) (Or.inl ⟨by rfl, ?_⟩) ?_ ?_
        rotate_left
        · intro w'
          go_simp
          with_reducible rfl
        rotate_left
        · simp only [Act.put, List.setIfInBounds_toArray, List.set_cons_zero, List.set_cons_succ, i64_w, i32_w]
          rfl
        refine pure_ (i := 21) (N := some 187) (v := ?_) (a' := ?_) #[true, true, true, true, true, true, true, true, true, true, true, true, true, true, true, true, true, true, true, false, true, true, false, false, false, false] rfl rfl (by kernel_rfl) (fun _ _ _ h => h) (Or.inl ⟨by rfl, ?_⟩) ?_ ?_
        rotate_left
        · intro w'
          go_simp
          with_reducible rfl
        rotate_left
        · simp only [Act.put, List.setIfInBounds_toArray, List.set_cons_zero, List.set_cons_succ, i64_w, i32_w]
          rfl
        refine pure_ (i := 22) (N := some 188) (v := ?_) (a' := ?_) #[true, true, true, true, true, true, true, true, true, true, true, true, true, true, true, true, true, true, true, false, true, true, true, false, false, false] rfl rfl (by kernel_rfl) (fun _ _ _ h => h) (Or.inl ⟨by rfl, ?_⟩) ?_ ?_
        rotate_left
        · intro w'
          go_simp
          with_reducible rfl
        rotate_left
        · simp only [Act.put, List.setIfInBounds_toArray, List.set_cons_zero, List.set_cons_succ, i64_w, i32_w]
          rfl
        refine take_ (i := 23) (N := some 189) (v := ?_) (a' := ?_) #[true, true, true, true, true, true, true, true, true, true, true, true, true, true, true, true, true, true, true, false, true, true, true, true, false, false] rfl rfl (by kernel_rfl) (fun _ _ _ h => h) (Or.inl ⟨by rfl, ?_⟩) hHeld ?_ ?_
        rotate_left
        · rintro w' ⟨s0, s1, s2⟩
          go_simp
          with_reducible rfl
        rotate_left
        · simp only [Act.put, List.setIfInBounds_toArray, List.set_cons_zero, List.set_cons_succ, i64_w, i32_w]
          rfl
        refine one_ (i := 19) (N := some 185) #[true, true, true, true, true, true, true, true, true, true, true, true, true, true, true, true, true, true, true, true, true, true, true, true, false, false] rfl rfl (by kernel_rfl) (by decide) (fun K hK => ?_)
        refine goes_ Try.func23 (by kernel_rfl) rfl #[.pointer (some ⟨g, 0, none⟩)] (by rfl) rfl rfl (by simp only [List.map_toArray, List.map_cons, List.map_nil]; rfl) ?_
        with_reducible refine (taken_c _ g lx tx rx HPT1.out.at_).mono ?_
        rintro e wt2 ⟨rfl, hbt2⟩
        refine ⟨_, rfl, ?_⟩
        have HPT2 := Aside0.mk (HPT1.out.below hbt2)
        have HBT2 := Aside0.mk (below_step HBT1.out hbt2)
        clear hbt2
        refine hK.out _ _ ⟨pw_cell_below HBT2.out zt0, pw_cell_below HBT2.out zt1, pw_cell_below HBT2.out zt2⟩ (fun hHeld => ?_)
        clear hK K
        refine norm_ (a' := ?_) ?_ ?_
        rotate_left
        · show Act.put _ (some 185) _ = _
          simp only [Act.put, List.setIfInBounds_toArray, List.set_cons_zero, List.set_cons_succ, i64_w, i32_w]
          rfl
        refine pure_ (i := 24) (N := some 190) (v := ?_) (a' := ?_) #[true, true, true, true, true, true, true, true, true, true, true, true, true, true, true, true, true, true, true, true, true, true, true, true, true, false] rfl rfl (by kernel_rfl) (fun _ _ _ h => h) (Or.inl ⟨by rfl, ?_⟩) ?_ ?_
        rotate_left
        · intro w'
          go_simp
          with_reducible rfl
        rotate_left
        · simp only [Act.put, List.setIfInBounds_toArray, List.set_cons_zero, List.set_cons_succ, i64_w, i32_w]
          rfl
        refine pure_ (i := 25) (N := some 191) (v := ?_) (a' := ?_) #[true, true, true, true, true, true, true, true, true, true, true, true, true, true, true, true, true, true, true, true, true, true, true, true, true, true] rfl rfl (by kernel_rfl) (fun _ _ _ h => h) (Or.inl ⟨by rfl, ?_⟩) ?_ ?_
        rotate_left
        · intro w'
          go_simp
          with_reducible rfl
        rotate_left
        · simp only [Act.put, List.setIfInBounds_toArray, List.set_cons_zero, List.set_cons_succ, i64_w, i32_w]
          rfl
        refine done_ (by kernel_rfl) ?_
        clear zt0 zt1 zt2
        go_wp2_with fail
        go_roundw
        case rel => exact ⟨k + 1, lx, tx, hx2, rx, by omega, by go_num, ⟨HPX.out.below HBT2.out⟩, ⟨HMX.out.below HBT2.out⟩, ⟨below_step HB1203.out HBT2.out⟩⟩
        case measure => simp [intOf]; omega
      case neg => as_aux_lemma =>
        have zg0 : W1.cell? ⟨go1, 0, none⟩ = some (.int .i64 kd) := (blk_cell Bo1.out 0).trans rfl
        have zg1 : W1.cell? ⟨go1, 1, none⟩ = some (.slice V v.length cv) := (blk_cell Bo1.out 1).trans rfl
        have zg2 : W1.cell? ⟨go1, 2, none⟩ = some (.int .i64 n) := (blk_cell Bo1.out 2).trans rfl
        go_upto_region 10 with fail
        have d1 : decide (n < 0) = false := decide_eq_false hn0
        have d2 : decide ((0 : Int) ≤ n) = true := decide_eq_true (by omega)
        have d3 : decide (n < (rows.length : Int)) = false := decide_eq_false (by have := HOUT.out; omega)
        obtain ⟨Am, cm, hmB, hmR, _⟩ := CM2.out
        rw [List.length_map] at hmB hmR
        have HMBm := Aside0.mk hmB
        have HMRm := Aside0.mk hmR
        clear hmB hmR
        have zm : W1.cell? ⟨g2, 0, none⟩ = some (.slice Am rows.length cm) := (blk_cell HMBm.out 0).trans rfl
        refine start_ (n := 14) (S := fun w' => w'.cell? ⟨go1, 2, none⟩ = some (.int .i64 n) ∧ w'.cell? ⟨g2, 0, none⟩ = some (.slice Am rows.length cm)) (ds := []) #[false, false, false, false, false, false, false, false, false, false, false, false, false, false] (by kernel_rfl) rfl rfl ⟨zg2, zm⟩ (fun hHeld => ?_)
        refine pure_ (i := 0) (N := some 36) (v := ?_) (a' := ?_) #[true, false, false, false, false, false, false, false, false, false, false, false, false, false] rfl rfl (by kernel_rfl) (fun _ _ _ h => h) (Or.inl ⟨by rfl, ?_⟩) ?_ ?_
        rotate_left
        · intro w'
          go_simp
          with_reducible rfl
        rotate_left
        · simp only [Act.put, List.setIfInBounds_toArray, List.set_cons_zero, List.set_cons_succ, i64_w, i32_w]
          rfl
        refine take_ (i := 1) (N := some 37) (v := ?_) (a' := ?_) #[true, true, false, false, false, false, false, false, false, false, false, false, false, false] rfl rfl (by kernel_rfl) (fun _ _ _ h => h) (Or.inl ⟨by rfl, ?_⟩) hHeld ?_ ?_
        rotate_left
        · rintro w' ⟨s0, s1⟩
          go_simp
          with_reducible rfl
        rotate_left
        · simp only [Act.put, List.setIfInBounds_toArray, List.set_cons_zero, List.set_cons_succ, i64_w, i32_w]
          rfl
        refine pure_ (i := 2) (N := some 38) (v := ?_) (a' := ?_) #[true, true, true, false, false, false, false, false, false, false, false, false, false, false] rfl rfl (by kernel_rfl) (fun _ _ _ h => h) (Or.inl ⟨by rfl, ?_⟩) ?_ ?_
        rotate_left
        · intro w'
          go_simp
          with_reducible rfl
        rotate_left
        · simp only [Act.put, List.setIfInBounds_toArray, List.set_cons_zero, List.set_cons_succ, i64_w, i32_w]
          rfl
        refine pure_ (i := 3) (N := some 39) (v := ?_) (a' := ?_) #[true, true, true, true, false, false, false, false, false, false, false, false, false, false] rfl rfl (by kernel_rfl) (fun _ _ _ h => h) (Or.inl ⟨by rfl, ?_⟩) ?_ ?_
        rotate_left
        · intro w'
          go_simp
          with_reducible rfl
        rotate_left
        · simp only [Act.put, List.setIfInBounds_toArray, List.set_cons_zero, List.set_cons_succ, i64_w, i32_w]
          rfl
        refine pure_ (i := 4) (N := some 40) (v := ?_) (a' := ?_) #[true, true, true, true, true, false, false, false, false, false, false, false, false, false] rfl rfl (by kernel_rfl) (fun _ _ _ h => h) (Or.inl ⟨by rfl, ?_⟩) ?_ ?_
        rotate_left
        · intro w'
          go_simp
          with_reducible rfl
        rotate_left
        · simp only [Act.put, List.setIfInBounds_toArray, List.set_cons_zero, List.set_cons_succ, i64_w, i32_w]
          rfl
        refine pure_ (i := 6) (N := some 42) (v := ?_) (a' := ?_) #[true, true, true, true, true, false, true, false, false, false, false, false, false, false] rfl rfl (by kernel_rfl) (fun _ _ _ h => h) (Or.inl ⟨by rfl, ?_⟩) ?_ ?_
        rotate_left
        · intro w'
          go_simp
          with_reducible rfl
        rotate_left
        · simp only [Act.put, List.setIfInBounds_toArray, List.set_cons_zero, List.set_cons_succ, i64_w, i32_w]
          rfl
        refine pure_ (i := 7) (N := some 43) (v := ?_) (a' := ?_) #[true, true, true, true, true, false, true, true, false, false, false, false, false, false] rfl rfl (by kernel_rfl) (fun _ _ _ h => h) (Or.inl ⟨by rfl, ?_⟩) ?_ ?_
        rotate_left
        · intro w'
          go_simp
          with_reducible rfl
        rotate_left
        · simp only [Act.put, List.setIfInBounds_toArray, List.set_cons_zero, List.set_cons_succ, i64_w, i32_w]
          rfl
        refine pure_ (i := 8) (N := some 44) (v := ?_) (a' := ?_) #[true, true, true, true, true, false, true, true, true, false, false, false, false, false] rfl rfl (by kernel_rfl) (fun _ _ _ h => h) (Or.inl ⟨by rfl, ?_⟩) ?_ ?_
        rotate_left
        · intro w'
          go_simp
          with_reducible rfl
        rotate_left
        · simp only [Act.put, List.setIfInBounds_toArray, List.set_cons_zero, List.set_cons_succ, i64_w, i32_w]
          rfl
        refine take_ (i := 5) (N := some 41) (v := ?_) (a' := ?_) #[true, true, true, true, true, true, true, true, true, false, false, false, false, false] rfl rfl (by kernel_rfl) (fun _ _ _ h => h) (Or.inl ⟨by rfl, ?_⟩) hHeld ?_ ?_
        rotate_left
        · rintro w' ⟨s0, s1⟩
          go_simp
          with_reducible rfl
        rotate_left
        · simp only [Act.put, List.setIfInBounds_toArray, List.set_cons_zero, List.set_cons_succ, i64_w, i32_w]
          rfl
        refine take_ (i := 9) (N := some 45) (v := ?_) (a' := ?_) #[true, true, true, true, true, true, true, true, true, true, false, false, false, false] rfl rfl (by kernel_rfl) (fun _ _ _ h => h) (Or.inl ⟨by rfl, ?_⟩) hHeld ?_ ?_
        rotate_left
        · rintro w' ⟨s0, s1⟩
          go_simp
          with_reducible rfl
        rotate_left
        · simp only [Act.put, List.setIfInBounds_toArray, List.set_cons_zero, List.set_cons_succ, i64_w, i32_w]
          rfl
        refine pure_ (i := 10) (N := some 46) (v := ?_) (a' := ?_) #[true, true, true, true, true, true, true, true, true, true, true, false, false, false] rfl rfl (by kernel_rfl) (fun _ _ _ h => h) (Or.inl ⟨by rfl, ?_⟩) ?_ ?_
        rotate_left
        · intro w'
          go_simp
          with_reducible rfl
        rotate_left
        · simp only [Act.put, List.setIfInBounds_toArray, List.set_cons_zero, List.set_cons_succ, i64_w, i32_w]
          rfl
        refine pure_ (i := 11) (N := some 47) (v := ?_) (a' := ?_) #[true, true, true, true, true, true, true, true, true, true, true, true, false, false] rfl rfl (by kernel_rfl) (fun _ _ _ h => h) (Or.inl ⟨by rfl, ?_⟩) ?_ ?_
        rotate_left
        · intro w'
          go_simp
          with_reducible rfl
        rotate_left
        · simp only [Act.put, List.setIfInBounds_toArray, List.set_cons_zero, List.set_cons_succ, i64_w, i32_w]
          rfl
        refine pure_ (i := 12) (N := some 48) (v := ?_) (a' := ?_) #[true, true, true, true, true, true, true, true, true, true, true, true, true, false] rfl rfl (by kernel_rfl) (fun _ _ _ h => h) (Or.inl ⟨by rfl, ?_⟩) ?_ ?_
        rotate_left
        · intro w'
          go_simp
          with_reducible rfl
        rotate_left
        · simp only [Act.put, List.setIfInBounds_toArray, List.set_cons_zero, List.set_cons_succ, i64_w, i32_w]
          rfl
        refine pure_ (i := 13) (N := some 16) (v := ?_) (a' := ?_) #[true, true, true, true, true, true, true, true, true, true, true, true, true, true] rfl rfl (by kernel_rfl) (fun _ _ _ h => h) (Or.inl ⟨by rfl, ?_⟩) ?_ ?_
        rotate_left
        · intro w'
          go_simp
          with_reducible rfl
        rotate_left
        · simp only [Act.put, List.setIfInBounds_toArray, List.set_cons_zero, List.set_cons_succ, i64_w, i32_w]
          rfl
        refine done_ (by kernel_rfl) ?_
        clear zg0 zg1 zg2
        clear zm
        obtain ⟨wd1301, hwd⟩ : ∃ x : World, x = W1.drew := ⟨_, rfl⟩
        have hbd : Below W1.heap.size W1 wd1301 := by rw [hwd]; exact below_drew (Below.refl _ _)
        rw [← hwd]
        clear hwd
        have HP1302 : Aside0 (PH wd1301 g (lost) (taken) (hs) (rows)) := ⟨CP2.out.below hbd⟩
        have HM1302 : Aside0 (MH wd1301 g2 (rows.map strOfNums) (lost) (taken)) := ⟨CM2.out.below hbd⟩
        have HO1302 : Aside0 (wd1301.heap[go1]? = some (.cells #[.int .i64 kd, .slice V v.length cv, .int .i64 n] 33 (0, 0))) := ⟨blk_below Bo1.out hbd⟩
        have HB1302 : Aside0 (Below W.heap.size W wd1301) := ⟨below_step HB2.out hbd⟩
        clear hbd
        have zk0 : wd1301.cell? ⟨go1, 0, none⟩ = some (.int .i64 kd) := (blk_cell HO1302.out 0).trans rfl
        have zk1 : wd1301.cell? ⟨go1, 1, none⟩ = some (.slice V v.length cv) := (blk_cell HO1302.out 1).trans rfl
        have zk2 : wd1301.cell? ⟨go1, 2, none⟩ = some (.int .i64 n) := (blk_cell HO1302.out 2).trans rfl
        go_wp2_with fail
        clear zk0 zk1 zk2
        refine (copy_out wd1301 g (lost) (taken) (rows) HP1302.out.at_ n HOUT.out).mono ?_
        rintro e wC ⟨rfl, hbc⟩
        have HP1303 : Aside0 (PH wC g (lost) (taken) (hs) (rows)) := ⟨HP1302.out.below hbc⟩
        have HM1303 : Aside0 (MH wC g2 (rows.map strOfNums) (lost) (taken)) := ⟨HM1302.out.below hbc⟩
        have HO1303 : Aside0 (wC.heap[go1]? = some (.cells #[.int .i64 kd, .slice V v.length cv, .int .i64 n] 33 (0, 0))) := ⟨blk_below HO1302.out hbc⟩
        have HB1303 : Aside0 (Below W.heap.size W wC) := ⟨below_step HB1302.out hbc⟩
        clear hbc
        go_upto_region 46 with fail
        obtain ⟨lx, tx, hx2, rx, HPX, HMX⟩ : ∃ (lx tx : Int) (hx2 : List Hd) (rx : List (List Int)), Aside0 (PH wC g lx tx hx2 rx) ∧ Aside0 (MH wC g2 (rx.map strOfNums) lx tx) := ⟨_, _, _, _, HP1303, HM1303⟩
        obtain ⟨Am2, cm2, hmB2, _, _⟩ := HMX.out
        rw [List.length_map] at hmB2
        have HMB2 := Aside0.mk hmB2
        clear hmB2
        have zt0 : wC.cell? ⟨g2, 0, none⟩ = some (.slice Am2 rx.length cm2) := (blk_cell HMB2.out 0).trans rfl
        have zt1 : wC.cell? ⟨g2, 1, none⟩ = some (.int .i64 lx) := (blk_cell HMB2.out 1).trans rfl
        have zt2 : wC.cell? ⟨g2, 2, none⟩ = some (.int .i64 tx) := (blk_cell HMB2.out 2).trans rfl
        have hq0 : ((rx.length : Int) != (rx.length : Int)) = false := by simp
        have hq1 : (lx != lx) = false := by simp
        have hq2 : (tx != tx) = false := by simp
        have HPT := Aside0.mk (HPX.out.below (below_drew (Below.refl _ wC)))
        refine start_ (n := 26) (S := fun w' => w'.cell? ⟨g2, 0, none⟩ = some (.slice Am2 rx.length cm2) ∧ w'.cell? ⟨g2, 1, none⟩ = some (.int .i64 lx) ∧ w'.cell? ⟨g2, 2, none⟩ = some (.int .i64 tx)) (ds := []) #[false, false, false, false, false, false, false, false, false, false, false, false, false, false, false, false, false, false, false, false, false, false, false, false, false, false] (by kernel_rfl) rfl rfl ⟨zt0, zt1, zt2⟩ (fun hHeld => ?_)
        refine pure_ (i := 0) (N := some 166) (v := ?_) (a' := ?_) #[true, false, false, false, false, false, false, false, false, false, false, false, false, false, false, false, false, false, false, false, false, false, false, false, false, false] rfl rfl (by kernel_rfl) (fun _ _ _ h => h) (Or.inl ⟨by rfl, ?_⟩) ?_ ?_
        rotate_left
        · intro w'
          go_simp
          with_reducible rfl
        rotate_left
        · simp only [Act.put, List.setIfInBounds_toArray, List.set_cons_zero, List.set_cons_succ, i64_w, i32_w]
          rfl
        refine pure_ (i := 2) (N := some 168) (v := ?_) (a' := ?_) #[true, false, true, false, false, false, false, false, false, false, false, false, false, false, false, false, false, false, false, false, false, false, false, false, false, false] rfl rfl (by kernel_rfl) (fun _ _ _ h => h) (Or.inl ⟨by rfl, ?_⟩) ?_ ?_
        rotate_left
        · intro w'
          go_simp
          with_reducible rfl
        rotate_left
        · simp only [Act.put, List.setIfInBounds_toArray, List.set_cons_zero, List.set_cons_succ, i64_w, i32_w]
          rfl
        refine pure_ (i := 3) (N := some 169) (v := ?_) (a' := ?_) #[true, false, true, true, false, false, false, false, false, false, false, false, false, false, false, false, false, false, false, false, false, false, false, false, false, false] rfl rfl (by kernel_rfl) (fun _ _ _ h => h) (Or.inl ⟨by rfl, ?_⟩) ?_ ?_
        rotate_left
        · intro w'
          go_simp
          with_reducible rfl
        rotate_left
        · simp only [Act.put, List.setIfInBounds_toArray, List.set_cons_zero, List.set_cons_succ, i64_w, i32_w]
          rfl
        refine pure_ (i := 4) (N := some 170) (v := ?_) (a' := ?_) #[true, false, true, true, true, false, false, false, false, false, false, false, false, false, false, false, false, false, false, false, false, false, false, false, false, false] rfl rfl (by kernel_rfl) (fun _ _ _ h => h) (Or.inl ⟨by rfl, ?_⟩) ?_ ?_
        rotate_left
        · intro w'
          go_simp
          with_reducible rfl
        rotate_left
        · simp only [Act.put, List.setIfInBounds_toArray, List.set_cons_zero, List.set_cons_succ, i64_w, i32_w]
          rfl
        refine take_ (i := 5) (N := some 171) (v := ?_) (a' := ?_) #[true, false, true, true, true, true, false, false, false, false, false, false, false, false, false, false, false, false, false, false, false, false, false, false, false, false] rfl rfl (by kernel_rfl) (fun _ _ _ h => h) (Or.inl ⟨by rfl, ?_⟩) hHeld ?_ ?_
        rotate_left
        · rintro w' ⟨s0, s1, s2⟩
          go_simp
          with_reducible rfl
        rotate_left
        · simp only [Act.put, List.setIfInBounds_toArray, List.set_cons_zero, List.set_cons_succ, i64_w, i32_w]
          rfl
        refine pure_ (i := 6) (N := some 172) (v := ?_) (a' := ?_) #[true, false, true, true, true, true, true, false, false, false, false, false, false, false, false, false, false, false, false, false, false, false, false, false, false, false] rfl rfl (by kernel_rfl) (fun _ _ _ h => h) (Or.inl ⟨by rfl, ?_⟩) ?_ ?_
        rotate_left
        · intro w'
          go_simp
          with_reducible rfl
        rotate_left
        · simp only [Act.put, List.setIfInBounds_toArray, List.set_cons_zero, List.set_cons_succ, i64_w, i32_w]
          rfl
        refine one_ (i := 1) (N := some 167) #[true, true, true, true, true, true, true, false, false, false, false, false, false, false, false, false, false, false, false, false, false, false, false, false, false, false] rfl rfl (by kernel_rfl) (by decide) (fun K hK => ?_)
        refine goes_ Try.func21 (by kernel_rfl) rfl #[.pointer (some ⟨g, 0, none⟩)] (by rfl) rfl rfl (by simp only [List.map_toArray, List.map_cons, List.map_nil]; rfl) ?_
        with_reducible refine (len_c _ g lx tx rx HPT.out.at_).mono ?_
        rintro e wt0 ⟨rfl, hbt0⟩
        refine ⟨_, rfl, ?_⟩
        have HPT0 := Aside0.mk (HPT.out.below hbt0)
        have HBT0 := Aside0.mk (below_step (below_drew (Below.refl _ wC)) hbt0)
        clear hbt0
        refine hK.out _ _ ⟨pw_cell_below HBT0.out zt0, pw_cell_below HBT0.out zt1, pw_cell_below HBT0.out zt2⟩ (fun hHeld => ?_)
        clear hK K
        refine norm_ (a' := ?_) ?_ ?_
        rotate_left
        · show Act.put _ (some 167) _ = _
          simp only [Act.put, List.setIfInBounds_toArray, List.set_cons_zero, List.set_cons_succ, i64_w, i32_w]
          rfl
        refine pure_ (i := 7) (N := some 173) (v := ?_) (a' := ?_) #[true, true, true, true, true, true, true, true, false, false, false, false, false, false, false, false, false, false, false, false, false, false, false, false, false, false] rfl rfl (by kernel_rfl) (fun _ _ _ h => h) (Or.inl ⟨by rfl, ?_⟩) ?_ ?_
        rotate_left
        · intro w'
          go_simp
          with_reducible rfl
        rotate_left
        · simp only [Act.put, List.setIfInBounds_toArray, List.set_cons_zero, List.set_cons_succ, i64_w, i32_w]
          rfl
        refine pure_ (i := 8) (N := some 174) (v := ?_) (a' := ?_) #[true, true, true, true, true, true, true, true, true, false, false, false, false, false, false, false, false, false, false, false, false, false, false, false, false, false] rfl rfl (by kernel_rfl) (fun _ _ _ h => h) (Or.inl ⟨by rfl, ?_⟩) ?_ ?_
        rotate_left
        · intro w'
          go_simp
          with_reducible rfl
        rotate_left
        · simp only [Act.put, List.setIfInBounds_toArray, List.set_cons_zero, List.set_cons_succ, i64_w, i32_w]
          rfl
        refine pure_ (i := 9) (N := some 175) (v := ?_) (a' := ?_) #[true, true, true, true, true, true, true, true, true, true, false, false, false, false, false, false, false, false, false, false, false, false, false, false, false, false] rfl rfl (by kernel_rfl) (fun _ _ _ h => h) (Or.inl ⟨by rfl, ?_⟩) ?_ ?_
        rotate_left
        · intro w'
          go_simp
          with_reducible rfl
        rotate_left
        · simp only [Act.put, List.setIfInBounds_toArray, List.set_cons_zero, List.set_cons_succ, i64_w, i32_w]
          rfl
        refine pure_ (i := 11) (N := some 177) (v := ?_) (a' := ?_) #[true, true, true, true, true, true, true, true, true, true, false, true, false, false, false, false, false, false, false, false, false, false, false, false, false, false] rfl rfl (by kernel_rfl) (fun _ _ _ h => h) (Or.inl ⟨by rfl, ?_⟩) ?_ ?_
        rotate_left
        · intro w'
          go_simp
          with_reducible rfl
        rotate_left
        · simp only [Act.put, List.setIfInBounds_toArray, List.set_cons_zero, List.set_cons_succ, i64_w, i32_w]
          rfl
        refine pure_ (i := 12) (N := some 178) (v := ?_) (a' := ?_) #[true, true, true, true, true, true, true, true, true, true, false, true, true, false, false, false, false, false, false, false, false, false, false, false, false, false] rfl rfl (by kernel_rfl) (fun _ _ _ h => h) (Or.inl ⟨by rfl, ?_⟩) ?_ ?_
        rotate_left
        · intro w'
          go_simp
          with_reducible rfl
        rotate_left
        · simp only [Act.put, List.setIfInBounds_toArray, List.set_cons_zero, List.set_cons_succ, i64_w, i32_w]
          rfl
        refine pure_ (i := 13) (N := some 179) (v := ?_) (a' := ?_) #[true, true, true, true, true, true, true, true, true, true, false, true, true, true, false, false, false, false, false, false, false, false, false, false, false, false] rfl rfl (by kernel_rfl) (fun _ _ _ h => h) (Or.inl ⟨by rfl, ?_⟩) ?_ ?_
        rotate_left
        · intro w'
          go_simp
          with_reducible rfl
        rotate_left
        · simp only [Act.put, List.setIfInBounds_toArray, List.set_cons_zero, List.set_cons_succ, i64_w, i32_w]
          rfl
        refine take_ (i := 14) (N := some 180) (v := ?_) (a' := ?_) #[true, true, true, true, true, true, true, true, true, true, false, true, true, true, true, false, false, false, false, false, false, false, false, false, false, false] rfl rfl (by kernel_rfl) (fun _ _ _ h => h) (Or.inl ⟨by rfl, ?_⟩) hHeld ?_ ?_
        rotate_left
        · rintro w' ⟨s0, s1, s2⟩
          go_simp
          with_reducible rfl
        rotate_left
        · simp only [Act.put, List.setIfInBounds_toArray, List.set_cons_zero, List.set_cons_succ, i64_w, i32_w]
          rfl
        refine one_ (i := 10) (N := some 176) #[true, true, true, true, true, true, true, true, true, true, true, true, true, true, true, false, false, false, false, false, false, false, false, false, false, false] rfl rfl (by kernel_rfl) (by decide) (fun K hK => ?_)
        refine goes_ Try.func22 (by kernel_rfl) rfl #[.pointer (some ⟨g, 0, none⟩)] (by rfl) rfl rfl (by simp only [List.map_toArray, List.map_cons, List.map_nil]; rfl) ?_
        with_reducible refine (lost_c _ g lx tx rx HPT0.out.at_).mono ?_
        rintro e wt1 ⟨rfl, hbt1⟩
        refine ⟨_, rfl, ?_⟩
        have HPT1 := Aside0.mk (HPT0.out.below hbt1)
        have HBT1 := Aside0.mk (below_step HBT0.out hbt1)
        clear hbt1
        refine hK.out _ _ ⟨pw_cell_below HBT1.out zt0, pw_cell_below HBT1.out zt1, pw_cell_below HBT1.out zt2⟩ (fun hHeld => ?_)
        clear hK K
        refine norm_ (a' := ?_) ?_ ?_
        rotate_left
        · show Act.put _ (some 176) _ = _
          simp only [Act.put, List.setIfInBounds_toArray, List.set_cons_zero, List.set_cons_succ, i64_w, i32_w]
          rfl
        refine pure_ (i := 15) (N := some 181) (v := ?_) (a' := ?_) #[true, true, true, true, true, true, true, true, true, true, true, true, true, true, true, true, false, false, false, false, false, false, false, false, false, false] rfl rfl (by kernel_rfl) (fun _ _ _ h => h) (Or.inl ⟨by rfl, ?_⟩) ?_ ?_
        rotate_left
        · intro w'
          go_simp
          with_reducible rfl
        rotate_left
        · simp only [Act.put, List.setIfInBounds_toArray, List.set_cons_zero, List.set_cons_succ, i64_w, i32_w]
          rfl
        refine pure_ (i := 16) (N := some 182) (v := ?_) (a' := ?_) #[true, true, true, true, true, true, true, true, true, true, true, true, true, true, true, true, true, false, false, false, false, false, false, false, false, false] rfl rfl (by kernel_rfl) (fun _ _ _ h => h) (Or.inl ⟨by rfl, ?_⟩) ?_ ?_
        rotate_left
        · intro w'
          go_simp
          with_reducible rfl
        rotate_left
        · simp only [Act.put, List.setIfInBounds_toArray, List.set_cons_zero, List.set_cons_succ, i64_w, i32_w]
          rfl
        refine pure_ (i := 17) (N := some 183) (v := ?_) (a' := ?_) #[true, true, true, true, true, true, true, true, true, true, true, true, true, true, true, true, true, true, false, false, false, false, false, false, false, false] rfl rfl (by kernel_rfl) (fun _ _ _ h => h) (Or.inl ⟨by rfl, ?_⟩) ?_ ?_
        rotate_left
        · intro w'
          go_simp
          with_reducible rfl
        rotate_left
        · simp only [Act.put, List.setIfInBounds_toArray, List.set_cons_zero, List.set_cons_succ, i64_w, i32_w]
          rfl
        refine pure_ (i := 18) (N := some 184) (v := ?_) (a' := ?_) #[true, true, true, true, true, true, true, true, true, true, true, true, true, true, true, true, true, true, true, false, false, false, false, false, false, false] rfl rfl (by kernel_rfl) (fun _ _ _ h => h) (Or.inl ⟨by rfl, ?_⟩) ?_ ?_
        rotate_left
        · intro w'
          go_simp
          with_reducible rfl
        rotate_left
        · simp only [Act.put, List.setIfInBounds_toArray, List.set_cons_zero, List.set_cons_succ, i64_w, i32_w]
          rfl
        refine pure_ (i := 20) (N := some 186) (v := ?_) (a' := ?_) #[true, true, true, true, true, true, true, true, true, true, true, true, true, true, true, true, true, true, true, false, true, false, false, false, false, false] rfl rfl (by kernel_rfl) (fun _ _ _ h => h) (Or.inl ⟨by rfl, ?_⟩) ?_ ?_
        rotate_left
        · intro w'
          go_simp
          with_reducible rfl
        rotate_left
        · simp only [Act.put, List.setIfInBounds_toArray, List.set_cons_zero, List.set_cons_succ, i64_w, i32_w]
          rfl
        refine pure_ (i := 21) (N := some 187) (v := ?_) (a' := ?_) #[true, true, true, true, true, true, true, true, true, true, true, true, true, true, true, true, true, true, true, false, true, true, false, false, false, false] rfl rfl (by kernel_rfl) (fun _ _ _ h => h) (Or.inl ⟨by rfl, ?_⟩) ?_ ?_
        rotate_left
        · intro w'
          go_simp
          with_reducible rfl
        rotate_left
        · simp only [Act.put, List.setIfInBounds_toArray, List.set_cons_zero, List.set_cons_succ, i64_w, i32_w]
          rfl
        refine pure_ (i := 22) (N := some 188) (v := ?_) (a' := ?_) #[true, true, true, true, true, true, true, true, true, true, true, true, true, true, true, true, true, true, true, false, true, true, true, false, false, false] rfl rfl (by kernel_rfl) (fun _ _ _ h => h) (Or.inl ⟨by rfl, ?_⟩) ?_ ?_
        rotate_left
        · intro w'
          go_simp
          with_reducible rfl
        rotate_left
        · simp only [Act.put, List.setIfInBounds_toArray, List.set_cons_zero, List.set_cons_succ, i64_w, i32_w]
          rfl
        refine take_ (i := 23) (N := some 189) (v := ?_) (a' := ?_) #[true, true, true, true, true, true, true, true, true, true, true, true, true, true, true, true, true, true, true, false, true, true, true, true, false, false] rfl rfl (by kernel_rfl) (fun _ _ _ h => h) (Or.inl ⟨by rfl, ?_⟩) hHeld ?_ ?_
        rotate_left
        · rintro w' ⟨s0, s1, s2⟩
          go_simp
          with_reducible rfl
        rotate_left
        · simp only [Act.put, List.setIfInBounds_toArray, List.set_cons_zero, List.set_cons_succ, i64_w, i32_w]
          rfl
        refine one_ (i := 19) (N := some 185) #[true, true, true, true, true, true, true, true, true, true, true, true, true, true, true, true, true, true, true, true, true, true, true, true, false, false] rfl rfl (by kernel_rfl) (by decide) (fun K hK => ?_)
        refine goes_ Try.func23 (by kernel_rfl) rfl #[.pointer (some ⟨g, 0, none⟩)] (by rfl) rfl rfl (by simp only [List.map_toArray, List.map_cons, List.map_nil]; rfl) ?_
        with_reducible refine (taken_c _ g lx tx rx HPT1.out.at_).mono ?_
        rintro e wt2 ⟨rfl, hbt2⟩
        refine ⟨_, rfl, ?_⟩
        have HPT2 := Aside0.mk (HPT1.out.below hbt2)
        have HBT2 := Aside0.mk (below_step HBT1.out hbt2)
        clear hbt2
        refine hK.out _ _ ⟨pw_cell_below HBT2.out zt0, pw_cell_below HBT2.out zt1, pw_cell_below HBT2.out zt2⟩ (fun hHeld => ?_)
        clear hK K
        refine norm_ (a' := ?_) ?_ ?_
        rotate_left
        · show Act.put _ (some 185) _ = _
          simp only [Act.put, List.setIfInBounds_toArray, List.set_cons_zero, List.set_cons_succ, i64_w, i32_w]
          rfl
        refine pure_ (i := 24) (N := some 190) (v := ?_) (a' := ?_) #[true, true, true, true, true, true, true, true, true, true, true, true, true, true, true, true, true, true, true, true, true, true, true, true, true, false] rfl rfl (by kernel_rfl) (fun _ _ _ h => h) (Or.inl ⟨by rfl, ?_⟩) ?_ ?_
        rotate_left
        · intro w'
          go_simp
          with_reducible rfl
        rotate_left
        · simp only [Act.put, List.setIfInBounds_toArray, List.set_cons_zero, List.set_cons_succ, i64_w, i32_w]
          rfl
        refine pure_ (i := 25) (N := some 191) (v := ?_) (a' := ?_) #[true, true, true, true, true, true, true, true, true, true, true, true, true, true, true, true, true, true, true, true, true, true, true, true, true, true] rfl rfl (by kernel_rfl) (fun _ _ _ h => h) (Or.inl ⟨by rfl, ?_⟩) ?_ ?_
        rotate_left
        · intro w'
          go_simp
          with_reducible rfl
        rotate_left
        · simp only [Act.put, List.setIfInBounds_toArray, List.set_cons_zero, List.set_cons_succ, i64_w, i32_w]
          rfl
        refine done_ (by kernel_rfl) ?_
        clear zt0 zt1 zt2
        go_wp2_with fail
        go_roundw
        case rel => exact ⟨k + 1, lx, tx, hx2, rx, by omega, by go_num, ⟨HPX.out.below HBT2.out⟩, ⟨HMX.out.below HBT2.out⟩, ⟨below_step HB1303.out HBT2.out⟩⟩
        case measure => simp [intOf]; omega
theorem plays_walk (w : World) (A0 : Option Addr) (c0 : Nat) (xs : List POp) (hr : kOp.C w A0 xs.length xs) (hc : xs.length ≤ c0) (hq : xs.length * Try.prog.bytesOf 33 ≤ 140737488351232 ∧ ∀ x ∈ xs, (Lit.int .i64 x.1).wf = true ∧ (x.2.1.length * Try.prog.bytesOf 34 ≤ 140737488351232 ∧ ∀ y ∈ x.2.1, y.length * Try.prog.bytesOf 5 ≤ 140737488351232 ∧ ∀ z ∈ y, (Lit.int .u8 z).wf = true) ∧ (Lit.int .i64 x.2.2).wf = true) : Calls Try.prog 3 #[.slice A0 xs.length c0] w fun e w' => e = .returned (.bool true) ∧ Below w.heap.size w w' := by
  have h5 : Try.prog.bytesOf 5 = 1 := by kernel_rfl
  have h34 : Try.prog.bytesOf 34 = 24 := by kernel_rfl
  refine plays_any w A0 c0 xs hr (fun o ho => ⟨?_, fun r hr => ?_⟩)
  · have := (hq.2 o ho).2.1.1
    rw [h34] at this
    omega
  · have := ((hq.2 o ho).2.1.2 r hr).1
    rw [h5] at this
    omega
end Go.Proofs.Ytnjhgckmfebdoaa.MAll

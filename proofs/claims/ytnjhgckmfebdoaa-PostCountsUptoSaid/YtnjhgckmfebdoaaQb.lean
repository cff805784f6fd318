/- PostCounts: the walk. -/
import Derived.Test.YtnjhgckmfebdoaaQa
import Derived.Maps.OwnOps
import Derived.Maps.Views
set_option linter.unusedVariables false
set_option linter.unusedSimpArgs false
namespace Go.Proofs.Ytnjhgckmfebdoaa.MAll
open Go.RowKit Go.Maps Go.WideMaps Go.Proofs.YtnjhgckmfebdoaaW.PrintWords Go.Proofs.YtnjhgckmfebdoaaW.PrintLast Go.Proofs.YtnjhgckmfebdoaaW.PrintMore
attribute [local go_sem ↓] Go.wp_at_zero Go.wp_at_succ
/-- An operation whose guard lets it go. -/
theorem wpList_on {P : Program} {w : World} {ops : Array Oper} {rest : List Oper} {o : Oper} {a : Act} {Q : Exit → Act → World → Prop} (hw : Region.wanted o (yielded ops a.tmps) = true) (h : wpList P ops Q ({ o with guard := none } :: rest) a w) : wpList P ops Q (o :: rest) a w := by
  unfold wpList at h ⊢
  rw [if_pos hw]
  rw [if_pos (by simp [Region.wanted])] at h
  exact h
theorem law9 : Keyed Try.prog 9 := string_keyed Try.underlying9
theorem zero3 (w : World) : (zeroValue 3).run Try.prog w = .ok (.int .i64 0) w := by kernel_rfl
abbrev DD := DataW Unit
def iN (c : Int) : DD := .lit (.int .i64 c)
def keyL (r : List Int) : Lit := .string (strOfNums r).data.toList
theorem str_size (r : List Int) : (strOfNums r).size = r.length := by
  show (r.map fun n => UInt8.ofNat n.toNat).toArray.size = _
  simp
theorem key_ok (r : List Int) (h : r.length < 140737488351233) : keyOf Try.prog 9 (.string (strOfNums r)) = some (keyL r) := keyOf_string_mk Try.underlying9 (by rw [str_size]; unfold maxLen; omega)
def MapAt (w : World) (b n : Nat) (D : DD) : Prop := w.ownsMap Try.prog 9 (plainElem Try.prog 3) b n D
theorem MapAt.keep {W w : World} {b n : Nat} {D : DD} (h : MapAt W b n D) (he : w.heap[b]? = W.heap[b]?) : MapAt w b n D := by
  obtain ⟨es, clock, hb, r⟩ := h
  exact ⟨es, clock, he.trans hb, r⟩
theorem MapAt.lt {W : World} {b n : Nat} {D : DD} (h : MapAt W b n D) : b < W.heap.size := World.ownsMap.lt h
theorem MapAt.below {W w : World} {b n : Nat} {D : DD} (h : MapAt W b n D) (hb : Below W.heap.size W w) : MapAt w b n D := h.keep (hb.block _ h.lt)
theorem MapAt.up {W : World} {b n n' : Nat} {D : DD} (h : MapAt W b n D) (hn : n ≤ n') : MapAt W b n' D := World.ownsMap.mono h hn
/-- No block of cells is the map. -/
theorem MapAt.ne {W : World} {b n : Nat} {D : DD} (h : MapAt W b n D) {k t : Nat} {cs : Array Value} {f : Nat × Nat} (hk : W.heap[k]? = some (.cells cs t f)) : k ≠ b := by
  rintro rfl
  obtain ⟨es, clock, hb, _⟩ := h
  rw [hb] at hk
  cases hk
theorem MapAt.fr {W w : World} {b n g : Nat} {D : DD} {lost taken : Int} {rows : List (List Int)} (h : MapAt W b n D) (hP : PAt W g lost taken rows) (hf : FR g W w) : MapAt w b n D := by
  refine h.keep (hf.block b h.lt ?_ ?_)
  · obtain ⟨A, c, hB, _⟩ := hP
    exact (h.ne hB).symm
  · obtain ⟨A, c, hB, ⟨_, inner, ho, _⟩, _⟩ := hP
    rw [ownB_of hB]
    intro e
    obtain ⟨cells, hc⟩ := own_typed ho b e.symm
    exact h.ne hc rfl
/-- The map is written: the post stays. -/
theorem PAt.map {W w : World} {b n g : Nat} {D : DD} {lost taken : Int} {rows : List (List Int)} (hP : PAt W g lost taken rows) (h : MapAt W b n D) (hg : W.grownBy w (some b)) : PAt w g lost taken rows := by
  obtain ⟨A, c, h1, h2, h3⟩ := hP
  refine ⟨A, c, blk_grown h1 hg (fun e => h.ne h1 (by injection e)), Kd.R_mono (Kd.R_grown (Kd.R_bound h2) hg (fun k hk e => ?_)) (fun _ _ => trivial), h3⟩
  obtain ⟨_, _, _, q, _, cells, hc⟩ := hk
  exact h.ne hc (by injection e)
theorem blk_fr {W w : World} {q g t : Nat} {cs : Array Value} {lost taken : Int} {rows : List (List Int)} (hq : W.heap[q]? = some (.cells cs t (0, 0))) (hP : PAt W g lost taken rows) (ht : t ≠ 54 ∧ t ≠ 34) (hf : FR g W w) : w.heap[q]? = some (.cells cs t (0, 0)) := by
  refine (hf.block q (blk_lt hq) ?_ ?_).trans hq
  · obtain ⟨A, c, hB, _⟩ := hP
    exact blk_ne hq hB ht.1
  · obtain ⟨A, c, hB, ⟨_, inner, ho, _⟩, _⟩ := hP
    rw [ownB_of hB]
    intro e
    obtain ⟨cells, hc⟩ := own_typed ho q e.symm
    exact blk_ne hq hc ht.2 rfl
/-! what was sent, counted -/
def Cnt (D : DD) (M : Nat) : Prop := IsMap D ∧ ∀ (l : Lit) (c : Int), D.atKey l (iN 0) = iN c → 0 ≤ c ∧ c ≤ M
def Pos (D : DD) (r : List Int) : Prop := ∀ c : Int, D.atKey (keyL r) (iN 0) = iN c → 1 ≤ c
theorem iN_inj {a b : Int} (h : iN a = iN b) : a = b := by
  unfold iN at h
  injection h with h
  injection h
theorem cnt_empty : Cnt (.map [] : DD) 0 := by
  refine ⟨isMap_empty, fun l c h => ?_⟩
  have h : iN 0 = iN c := h
  have := iN_inj h
  omega
theorem Cnt.up {D : DD} {M M' : Nat} (h : Cnt D M) (hm : M ≤ M') : Cnt D M' := ⟨h.1, fun l c hc => by have := h.2 l c hc; omega⟩
theorem cnt_put {D : DD} {M : Nat} {r : List Int} {c : Int} (h : Cnt D M) (hr : r.length < 140737488351233) (hM : M < 9223372036854775807) (hat : D.atKey (keyL r) (iN 0) = iN c) :
    Cnt (D.put (keyL r) (iN (wrap64 (c + 1)))) (M + 1) ∧ Pos (D.put (keyL r) (iN (wrap64 (c + 1)))) r ∧ ∀ q, Pos D q → Pos (D.put (keyL r) (iN (wrap64 (c + 1)))) q := by
  have hk : WideAt.IsKeyLit (keyL r) := law9.key (key_ok r hr)
  have hc := h.2 _ _ hat
  have hw : wrap64 (c + 1) = c + 1 := by unfold wrap64; omega
  rw [hw]
  have same : ∀ x, (D.put (keyL r) (iN (c + 1))).atKey (keyL r) (iN 0) = iN x → x = c + 1 := fun x hx => by
    rw [atKey_put_same h.1 hk] at hx
    exact (iN_inj hx).symm
  refine ⟨⟨h.1.put _ _, fun l x hx => ?_⟩, fun x hx => by have := same x hx; omega, fun q hq x hx => ?_⟩
  · by_cases hl : l = keyL r
    · subst hl
      have := same x hx
      omega
    · rw [atKey_put_other hl] at hx
      have := h.2 _ _ hx
      omega
  · by_cases hl : keyL q = keyL r
    · rw [hl] at hx
      have := same x hx
      omega
    · rw [atKey_put_other hl] at hx
      exact hq x hx
/-! nothing is lost from sight -/
def bal (rows : List (List Int)) (lost taken all : Int) : Prop := wrap64 (wrap64 ((rows.length : Int) + lost) + taken) = all
theorem bal_wrap {rows : List (List Int)} {lost taken all : Int} (h : bal rows lost taken all) : wrap64 all = all := by unfold bal at h; rw [← h]; unfold wrap64; omega
theorem bal_one {lost taken all : Int} {rows : List (List Int)} {r : List Int} (h : bal rows lost taken all) : bal (sendS (lost, rows) r).2 (sendS (lost, rows) r).1 taken (wrap64 (all + 1)) := by
  unfold bal at *
  unfold sendS
  subst h
  by_cases h4 : 4096 ≤ rows.length
  · rw [if_pos h4]
    show wrap64 (wrap64 ((rows.length : Int) + wrap64 (lost + 1)) + taken) = _
    unfold wrap64
    omega
  · rw [if_neg h4]
    have e : ((rows ++ [r]).length : Int) = rows.length + 1 := by simp
    show wrap64 (wrap64 (((rows ++ [r]).length : Int) + lost) + taken) = _
    rw [e]
    unfold wrap64
    omega
theorem bal_send : ∀ (args : List (List Int)) {lost taken all : Int} {rows : List (List Int)}, bal rows lost taken all → bal (sendOf lost rows args).2 (sendOf lost rows args).1 taken (wrap64 (all + args.length)) := by
  intro args
  induction args with
  | nil => intro lost taken all rows h; have := bal_wrap h; simpa [sendOf, this] using h
  | cons r l ih =>
    intro lost taken all rows h
    have h1 := ih (bal_one (r := r) h)
    have e : wrap64 (wrap64 (all + 1) + (l.length : Int)) = wrap64 (all + ((r :: l).length : Int)) := by
      rw [List.length_cons]; unfold wrap64; omega
    rw [e] at h1
    exact h1
theorem sent_mem : ∀ (args : List (List Int)) {lost : Int} {rows : List (List Int)} (x : List Int), x ∈ (sendOf lost rows args).2 → x ∈ rows ∨ x ∈ args := by
  intro args
  induction args with
  | nil => intro lost rows x h; exact .inl h
  | cons r l ih =>
    intro lost rows x h
    have h1 : x ∈ (sendOf (sendS (lost, rows) r).1 (sendS (lost, rows) r).2 l).2 := h
    rcases ih x h1 with h2 | h2
    · unfold sendS at h2
      split at h2
      · exact .inl h2
      · rcases List.mem_append.1 h2 with h3 | h3
        · exact .inl h3
        · rw [List.mem_singleton.1 h3]; exact .inr List.mem_cons_self
    · exact .inr (List.mem_cons_of_mem _ h2)
theorem cut_len {rows : List (List Int)} {i : Nat} {r : List Int} (h : rows[i]? = some r) : (rows.take i ++ rows.drop (i + 1)).length + 1 = rows.length := by
  have := (List.getElem?_eq_some_iff.1 h).1
  rw [List.length_append, List.length_take, List.length_drop]
  omega
theorem cut_mem {rows : List (List Int)} {i : Nat} (x : List Int) (h : x ∈ rows.take i ++ rows.drop (i + 1)) : x ∈ rows := by
  rcases List.mem_append.1 h with h | h
  · exact List.mem_of_mem_take h
  · exact List.mem_of_mem_drop h
theorem bal_taken {rows rows' : List (List Int)} {lost taken all : Int} (h : bal rows lost taken all) (hl : rows'.length + 1 = rows.length) : bal rows' lost (wrap64 (taken + 1)) all := by
  unfold bal at *
  subst h
  unfold wrap64
  omega
theorem bal_lost {rows rows' : List (List Int)} {lost taken all : Int} (h : bal rows lost taken all) (hl : rows'.length + 1 = rows.length) : bal rows' (wrap64 (lost + 1)) taken all := by
  unfold bal at *
  subst h
  unfold wrap64
  omega
def Good (D : DD) (M : Nat) (rows : List (List Int)) : Prop := Cnt D M ∧ ∀ r ∈ rows, Pos D r
set_option maxHeartbeats 16000000 in
set_option maxRecDepth 100000 in
theorem counts_any (W : World) (A0 : Option Addr) (c0 : Nat) (ops : List POp) (hr : kOp.C W A0 ops.length ops) (hx : ∀ o ∈ ops, o.2.1.length ≤ 5864062014720 ∧ ∀ r ∈ o.2.1, r.length < 140737488351233) (hn : ops.length ≤ 1048576) : Calls Try.prog 4 #[.slice A0 ops.length c0] W fun e w' => e = .returned (.bool true) ∧ Below W.heap.size W w' := by
  have hu5 := Try.underlying5
  have hu9 := Try.underlying9
  have hu22 := Try.underlying22
  have hu33 := Try.underlying33
  have hu25 := Try.underlying25
  have hu31 := Try.underlying31
  have hu34 := Try.underlying34
  have hmm := @run_makeMap Try.prog
  have HV := Aside0.mk hr
  have HX := Aside0.mk hx
  clear hr hx
  go_enter Try.func4, Try.ntmps4
  go_wp2_with fail
  refine (alive_any _).mono ?_
  rintro e w1 ⟨rfl, hb1⟩
  have HB1 := Aside0.mk hb1
  clear hb1
  go_wp2_with fail
  refine (long_any _ A0 c0 ops (Kd.C_below HV.out HB1.out)).mono ?_
  rintro e w2 ⟨⟨b, rfl⟩, hb2⟩
  have HB2 := Aside0.mk (below_step HB1.out hb2)
  clear hb2 HB1
  cases b
  case true =>
    go_wp2_with fail
    go_ret
    exact ⟨rfl, HB2.out⟩
  go_wp2_with fail
  refine (new_c _).mono ?_
  rintro e w3 ⟨g, rfl, hge, hp, hb3⟩
  have GE : Aside0 (W.heap.size ≤ g) := ⟨Nat.le_trans HB2.out.size hge⟩
  have HP3 := Aside0.mk hp
  have HB3 := Aside0.mk (below_step HB2.out hb3)
  clear hge hp hb3
  go_wp2_with fail
  obtain ⟨b, hb⟩ : ∃ b, b = w3.heap.size := ⟨_, rfl⟩
  obtain ⟨w4, hw4⟩ : ∃ w, w = w3.alloc (.map #[] 0) := ⟨_, rfl⟩
  have HM4 : Aside0 (MapAt w4 b 0 (.map [])) := ⟨by rw [hw4, hb]; exact World.ownsMap_made _ _ _ _⟩
  have HP4 : Aside0 (PAt w4 g 0 0 []) := ⟨by rw [hw4]; exact HP3.out.below (below_alloc (Below.refl _ _) _)⟩
  have HB4 : Aside0 (Below W.heap.size W w4) := ⟨by rw [hw4]; exact below_alloc HB3.out _⟩
  have GB : Aside0 (W.heap.size ≤ b) := ⟨by rw [hb]; exact HB3.out.size⟩
  rw [← hw4, ← hb]
  clear hw4 hb HB3 HP3
  go_loopw [20, 5] (fun v20 v5 w' => ∃ (k : Nat) (all lost taken : Int) (rows : List (List Int)) (D : DD), k ≤ ops.length ∧ v20 = .int .i64 k ∧ v5 = .int .i64 all ∧ Aside0 (PAt w' g lost taken rows) ∧ Aside0 (MapAt w' b (k * 5864062014720) D) ∧ Aside0 (Good D (k * 5864062014720) rows) ∧ Aside0 (bal rows lost taken all) ∧ Aside0 (Below W.heap.size W w')) (fun v _ _ => ops.length - (intOf v).toNat)
  case atStart => exact ⟨0, 0, 0, 0, [], .map [], by omega, rfl, rfl, HP4, ⟨HM4.out.up (by omega)⟩, ⟨⟨cnt_empty.up (by omega), by simp⟩⟩, ⟨by unfold bal; decide +kernel⟩, HB4⟩
  case round =>
    obtain ⟨k, all, lost, taken, rows, D, hk, rfl, rfl, HP, HM, HD, HBL, HW⟩ := hrel
    by_cases hlt : k < ops.length
    case neg =>
      go_wp2_with fail
      go_ret
      exact ⟨rfl, HW.out⟩
    obtain ⟨ad, V, cv, kd, v, n, hA0, hxk, s0, s1, s2, hcv, hV⟩ := op_at HV.out k hlt
    subst hA0
    have HCV := Aside0.mk (fun (w : World) (hw : Below W.heap.size W w) => Kd.C_below hV hw)
    have hxv := HX.out _ (hxk ▸ List.getElem_mem hlt)
    have hvl : v.length ≤ 5864062014720 := hxv.1
    have HXV : Aside0 (∀ r ∈ v, r.length < 140737488351233) := ⟨hxv.2⟩
    have HCVL := Aside0.mk hcv
    have s0 := pw_cell_below HW.out s0
    have s1 := pw_cell_below HW.out s1
    have s2 := pw_cell_below HW.out s2
    obtain ⟨M, hM⟩ : ∃ M, M = k * 5864062014720 := ⟨_, rfl⟩
    have hMb : M ≤ 6148914691236517205 - 5864062014720 := by omega
    have HMN : Aside0 (M + 5864062014720 = (k + 1) * 5864062014720) := ⟨by omega⟩
    rw [← hM] at HM HD
    clear hV hcv hxk hxv hM
    go_upto_region 11 with fail
    obtain ⟨W1, hw1⟩ : ∃ x : World, x = wr.alloc (.cells #[.int .i64 kd, .slice V v.length cv, .int .i64 n] 33) := ⟨_, rfl⟩
    have hbs1 : Below wr.heap.size wr W1 := by rw [hw1]; repeat (first | exact Below.refl _ _ | refine below_alloc ?_ _ | refine below_drew ?_)
    obtain ⟨go1, hgo1⟩ : ∃ x, x = wr.heap.size := ⟨_, rfl⟩
    have GSo1 : Aside0 (W.heap.size ≤ go1) := ⟨by rw [hgo1]; have := HW.out.size; omega⟩
    have Bo1 : Aside0 (W1.heap[go1]? = some (.cells #[.int .i64 kd, .slice V v.length cv, .int .i64 n] 33 (0, 0))) := ⟨by rw [hw1, hgo1]; exact blk_new _ _⟩
    rw [← hw1]
    rw [← hgo1]
    clear hw1 hgo1
    have HB2 := Aside0.mk (below_step HW.out hbs1)
    have CP2 := Aside0.mk (PAt.below HP.out hbs1)
    have CM2 := Aside0.mk (MapAt.below HM.out hbs1)
    clear hbs1
    clear s0 s1 s2 HP HM HW
    by_cases h0 : kd = 0
    case pos =>
      subst h0
      have za0 : W1.cell? ⟨go1, 0, none⟩ = some (.int .i64 0) := (blk_cell Bo1.out 0).trans rfl
      have za1 : W1.cell? ⟨go1, 1, none⟩ = some (.slice V v.length cv) := (blk_cell Bo1.out 1).trans rfl
      have za2 : W1.cell? ⟨go1, 2, none⟩ = some (.int .i64 n) := (blk_cell Bo1.out 2).trans rfl
      go_wp2_with fail
      clear za0 za1 za2
      go_loopw [37, 5] (fun v37 v5 w' => ∃ (j : Nat) (D' : DD), j ≤ v.length ∧ v37 = .int .i64 j ∧ v5 = .int .i64 (wrap64 (all + j)) ∧ Aside0 (PAt w' g lost taken rows) ∧ Aside0 (MapAt w' b (M + j) D') ∧ Aside0 (Cnt D' (M + j) ∧ (∀ r ∈ rows, Pos D' r) ∧ ∀ r ∈ v.take j, Pos D' r) ∧ Aside0 (w'.heap[go1]? = some (.cells #[.int .i64 0, .slice V v.length cv, .int .i64 n] 33 (0, 0))) ∧ Aside0 (Below W.heap.size W w')) (fun v' _ _ => v.length - (intOf v').toNat)
      case atStart => exact ⟨0, D, by omega, rfl, by rw [show all + ((0 : Nat) : Int) = all by omega, bal_wrap HBL.out], CP2, CM2, ⟨⟨HD.out.1, HD.out.2, by simp⟩⟩, Bo1, HB2⟩
      case round =>
        obtain ⟨j, D', hj, rfl, rfl, HP, HM, HD', HO, HW⟩ := hrel
        by_cases hlt2 : j < v.length
        case neg =>
          have hje : j = v.length := by omega
          subst hje
          rw [List.take_length] at HD'
          have zb0 : wr.cell? ⟨go1, 0, none⟩ = some (.int .i64 0) := (blk_cell HO.out 0).trans rfl
          have zb1 : wr.cell? ⟨go1, 1, none⟩ = some (.slice V v.length cv) := (blk_cell HO.out 1).trans rfl
          have zb2 : wr.cell? ⟨go1, 2, none⟩ = some (.int .i64 n) := (blk_cell HO.out 2).trans rfl
          go_wp2_with fail
          clear zb0 zb1 zb2
          have hs := send_c wr g lost taken rows HP.out V cv v (fun w hw => HCV.out w (FR.after HW.out hw HP.out GE.out)) (by omega) HXV.out
          have HSB := Aside0.mk (bal_send v HBL.out)
          have HSM := Aside0.mk (fun x => sent_mem v (lost := lost) (rows := rows) x)
          obtain ⟨sl, hsl⟩ : ∃ x, sendOf lost rows v = x := ⟨_, rfl⟩
          rw [hsl] at hs HSB HSM
          clear hsl
          refine hs.mono ?_
          rintro e wS ⟨rfl, hp, hf⟩
          clear hs
          have HO41 : Aside0 (wS.heap[go1]? = some (.cells #[.int .i64 0, .slice V v.length cv, .int .i64 n] 33 (0, 0))) := ⟨blk_fr HO.out HP.out (by decide) hf⟩
          have HM41 : Aside0 (MapAt wS b (M + v.length) (D')) := ⟨HM.out.fr HP.out hf⟩
          have HB41 : Aside0 (Below W.heap.size W wS) := ⟨FR.after HW.out hf HP.out GE.out⟩
          have HP41 : Aside0 (PAt wS g (sl.1) (taken) (sl.2)) := ⟨hp⟩
          clear hf hp
          have HDN : Aside0 (Good D' (M + v.length) sl.2) := ⟨⟨HD'.out.1, fun r hr => (HSM.out r hr).elim (HD'.out.2.1 r) (HD'.out.2.2 r)⟩⟩
          obtain ⟨al, hal⟩ : ∃ x, wrap64 (all + (v.length : Int)) = x := ⟨_, rfl⟩
          rw [hal] at HSB
          rw [hal]
          clear hal
          obtain ⟨rl, hrl⟩ : ∃ x : Int, ((sl.2).length : Int) = x := ⟨_, rfl⟩
          have HRL := Aside0.mk hrl
          have HBQ : Aside0 (wrap64 (wrap64 (rl + (sl.1)) + (taken)) = al) := ⟨by rw [← hrl]; exact HSB.out⟩
          clear hrl
          go_wp2_with fail
          refine (len_lit _ g (sl.1) (taken) (sl.2) HP41.out rl HRL.out).mono ?_
          rintro e w42 ⟨rfl, hb42⟩
          have HM43 : Aside0 (MapAt w42 b (M + v.length) (D')) := ⟨HM41.out.below hb42⟩
          have HB43 : Aside0 (Below W.heap.size W w42) := ⟨below_step HB41.out hb42⟩
          have HP43 : Aside0 (PAt w42 g (sl.1) (taken) (sl.2)) := ⟨HP41.out.below hb42⟩
          clear hb42
          go_wp2_with fail
          refine (lost_c _ g (sl.1) (taken) (sl.2) HP43.out).mono ?_
          rintro e w44 ⟨rfl, hb44⟩
          have HM45 : Aside0 (MapAt w44 b (M + v.length) (D')) := ⟨HM43.out.below hb44⟩
          have HB45 : Aside0 (Below W.heap.size W w44) := ⟨below_step HB43.out hb44⟩
          have HP45 : Aside0 (PAt w44 g (sl.1) (taken) (sl.2)) := ⟨HP43.out.below hb44⟩
          clear hb44
          go_wp2_with fail
          refine (taken_c _ g (sl.1) (taken) (sl.2) HP45.out).mono ?_
          rintro e w46 ⟨rfl, hb46⟩
          have HM47 : Aside0 (MapAt w46 b (M + v.length) (D')) := ⟨HM45.out.below hb46⟩
          have HB47 : Aside0 (Below W.heap.size W w46) := ⟨below_step HB45.out hb46⟩
          have HP47 : Aside0 (PAt w46 g (sl.1) (taken) (sl.2)) := ⟨HP45.out.below hb46⟩
          clear hb46
          have hq := HBQ.out
          have hq2 : (al != al) = false := by simp
          go_wp2_with fail
          go_roundw
          case rel => exact ⟨k + 1, al, sl.1, taken, sl.2, D', by omega, by go_num, rfl, HP47, ⟨by rw [← HMN.out]; exact HM47.out.up (by omega)⟩, ⟨by rw [← HMN.out]; exact ⟨HDN.out.1.up (by omega), HDN.out.2⟩⟩, HSB, HB47⟩
          case measure => simp [intOf]; omega
        case pos =>
          obtain ⟨r, hrk⟩ : ∃ r, v[j]? = some r := ⟨_, List.getElem?_eq_getElem hlt2⟩
          obtain ⟨ad2, B, cB, hA2, hcell, hcB, hC0⟩ := row_at (HCV.out wr HW.out) j r hrk
          subst hA2
          have HRL := Aside0.mk (HXV.out r (List.mem_of_getElem? hrk))
          have HTK : Aside0 (v.take (j + 1) = v.take j ++ [r]) := ⟨by rw [List.take_add_one, hrk]; rfl⟩
          have hsr : (convert 34 9 (.slice B r.length cB)).run Try.prog wr = .ok (.string (strOfNums r)) wr := Kd.C_string (P := Try.prog) (c := cB) hu34 hu5 hu9 hC0
          have hkey := key_ok r HRL.out
          have hMj : M + j < 9223372036854775807 := by omega
          clear hrk hC0 hcB
          go_wp2_with (first | (at_lookup; refine wpList_lookup_own_int _ rfl _ _ 46 rfl 9 3 .i64 law9 Try.underlying46 Try.underlying3 (zero3 _) b (M + j) D' rfl HM.out _ _ rfl hkey ?_; intro c hat hwc; have HAT : Aside0 (D'.atKey (keyL r) (iN 0) = iN c) := ⟨hat⟩; clear hat hwc) | (at_mapUpdate; refine wpList_mapUpdate_own _ rfl _ _ _ 46 rfl 9 3 law9 Try.underlying46 _ b (M + j) D' rfl HM.out (by unfold maxLen; omega) _ _ _ rfl rfl hkey (iN (wrap64 (c + 1))) [] (plainElem_int Try.underlying3 (wrap64_wf _)) ?_; intro w5 hown5 hgrow5; have HM5 : Aside0 (MapAt w5 b (M + (j + 1)) (D'.put (keyL r) (iN (wrap64 (c + 1))))) := ⟨hown5⟩; have HG5 := Aside0.mk hgrow5; clear hown5 hgrow5))
          have HPU := Aside0.mk (cnt_put HD'.out.1 HRL.out hMj HAT.out)
          have hwa : wrap64 (wrap64 (all + (j : Int)) + 1) = wrap64 (all + ((j + 1 : Nat) : Int)) := by unfold wrap64; omega
          go_roundw
          case rel => exact ⟨j + 1, _, by omega, by go_num, by first | rfl | (rw [← hwa]) | (simp only [← hwa]), ⟨HP.out.map HM.out HG5.out⟩, HM5, ⟨⟨HPU.out.1, fun q hq => HPU.out.2.2 q (HD'.out.2.1 q hq), fun q hq => by rw [HTK.out] at hq; rcases List.mem_append.1 hq with hq | hq; exact HPU.out.2.2 q (HD'.out.2.2 q hq); rw [List.mem_singleton.1 hq]; exact HPU.out.2.1⟩⟩, ⟨blk_grown HO.out HG5.out (fun e => HM.out.ne HO.out (by injection e))⟩, ⟨pw_below_grown HW.out (some b) HW.out.size HG5.out (fun k hk => by injection hk with hk; have := GB.out; omega)⟩⟩
          case measure => simp [intOf]; omega
    have hk0 : (kd == 0) = false := beq_eq_false_iff_ne.2 h0
    by_cases h1 : kd = 1
    case pos =>
      subst h1
      by_cases hin : 0 ≤ n ∧ n < (rows.length : Int)
      case pos =>
        obtain ⟨i, rfl⟩ : ∃ i : Nat, n = (i : Int) := ⟨n.toNat, by omega⟩
        obtain ⟨r, hr⟩ : ∃ r, rows[i]? = some r := ⟨_, List.getElem?_eq_getElem (by omega)⟩
        have HI := Aside0.mk hr
        clear hin hr
        have zc0 : W1.cell? ⟨go1, 0, none⟩ = some (.int .i64 1) := (blk_cell Bo1.out 0).trans rfl
        have zc1 : W1.cell? ⟨go1, 1, none⟩ = some (.slice V v.length cv) := (blk_cell Bo1.out 1).trans rfl
        have zc2 : W1.cell? ⟨go1, 2, none⟩ = some (.int .i64 (i : Int)) := (blk_cell Bo1.out 2).trans rfl
        go_wp2_with fail
        clear zc0 zc1 zc2
        have hd := deliver_in _ g (lost) (taken) (rows) CP2.out i r HI.out
        obtain ⟨G, hG⟩ : ∃ G, rows.take i ++ rows.drop (i + 1) = G := ⟨_, rfl⟩
        have HGL : Aside0 (G.length + 1 = rows.length) := ⟨by rw [← hG]; exact cut_len HI.out⟩
        have HGM : Aside0 (∀ x ∈ G, x ∈ rows) := ⟨fun x hx => cut_mem x (by rw [hG]; exact hx)⟩
        rw [hG] at hd
        clear hG
        refine hd.mono ?_
        rintro e wD ⟨B, dB, rfl, hrd, hm, hp, hf⟩
        have HMR := Aside0.mk hm
        clear hd hm hrd
        have HO121 : Aside0 (wD.heap[go1]? = some (.cells #[.int .i64 1, .slice V v.length cv, .int .i64 (i : Int)] 33 (0, 0))) := ⟨blk_fr Bo1.out CP2.out (by decide) hf⟩
        have HM121 : Aside0 (MapAt wD b (M) (D)) := ⟨CM2.out.fr CP2.out hf⟩
        have HB121 : Aside0 (Below W.heap.size W wD) := ⟨FR.after HB2.out hf CP2.out GE.out⟩
        have HP121 : Aside0 (PAt wD g (lost) (wrap64 (taken + 1)) (G)) := ⟨hp⟩
        clear hf hp
        have hsr : (convert 34 9 (.slice B r.length dB)).run Try.prog wD = .ok (.string (strOfNums r)) wD := Kd.C_string (P := Try.prog) (c := dB) hu34 hu5 hu9 (C_of_M HMR.out)
        have HRP := Aside0.mk (HD.out.2 r (List.mem_of_getElem? HI.out))
        have hrl : r.length < 140737488351233 := by obtain ⟨_, _, _, _, hok⟩ := CP2.out; exact hok.2 r (List.mem_of_getElem? HI.out)
        have hkey := key_ok r hrl
        clear hrl
        go_wp2_with (at_lookup; refine wpList_on (by rfl) ?_; refine wpList_lookup_own_int _ rfl _ _ 46 rfl 9 3 .i64 law9 Try.underlying46 Try.underlying3 (zero3 _) b M D rfl HM121.out _ _ rfl hkey ?_; intro c hat hwc; have HC1 := Aside0.mk (HRP.out c hat); have hc0 : (c == 0) = false := beq_eq_false_iff_ne.2 (by have := HC1.out; omega); clear hat hwc)
        clear hsr hkey hc0
        have HBN := Aside0.mk (bal_taken HBL.out HGL.out)
        have HDN : Aside0 (Good D M G) := ⟨⟨HD.out.1, fun x hx => HD.out.2 x (HGM.out x hx)⟩⟩
        obtain ⟨rl, hrl⟩ : ∃ x : Int, ((G).length : Int) = x := ⟨_, rfl⟩
        have HRL := Aside0.mk hrl
        have HBQ : Aside0 (wrap64 (wrap64 (rl + (lost)) + (wrap64 (taken + 1))) = all) := ⟨by rw [← hrl]; exact HBN.out⟩
        clear hrl
        go_wp2_with fail
        refine (len_lit _ g (lost) (wrap64 (taken + 1)) (G) HP121.out rl HRL.out).mono ?_
        rintro e w122 ⟨rfl, hb122⟩
        have HM123 : Aside0 (MapAt w122 b (M) (D)) := ⟨HM121.out.below hb122⟩
        have HB123 : Aside0 (Below W.heap.size W w122) := ⟨below_step HB121.out hb122⟩
        have HP123 : Aside0 (PAt w122 g (lost) (wrap64 (taken + 1)) (G)) := ⟨HP121.out.below hb122⟩
        clear hb122
        go_wp2_with fail
        refine (lost_c _ g (lost) (wrap64 (taken + 1)) (G) HP123.out).mono ?_
        rintro e w124 ⟨rfl, hb124⟩
        have HM125 : Aside0 (MapAt w124 b (M) (D)) := ⟨HM123.out.below hb124⟩
        have HB125 : Aside0 (Below W.heap.size W w124) := ⟨below_step HB123.out hb124⟩
        have HP125 : Aside0 (PAt w124 g (lost) (wrap64 (taken + 1)) (G)) := ⟨HP123.out.below hb124⟩
        clear hb124
        go_wp2_with fail
        refine (taken_c _ g (lost) (wrap64 (taken + 1)) (G) HP125.out).mono ?_
        rintro e w126 ⟨rfl, hb126⟩
        have HM127 : Aside0 (MapAt w126 b (M) (D)) := ⟨HM125.out.below hb126⟩
        have HB127 : Aside0 (Below W.heap.size W w126) := ⟨below_step HB125.out hb126⟩
        have HP127 : Aside0 (PAt w126 g (lost) (wrap64 (taken + 1)) (G)) := ⟨HP125.out.below hb126⟩
        clear hb126
        have hq := HBQ.out
        have hq2 : (all != all) = false := by simp
        go_wp2_with fail
        go_roundw
        case rel => exact ⟨k + 1, all, lost, wrap64 (taken + 1), G, D, by omega, by go_num, rfl, HP127, ⟨by rw [← HMN.out]; exact HM127.out.up (by omega)⟩, ⟨by rw [← HMN.out]; exact ⟨HDN.out.1.up (by omega), HDN.out.2⟩⟩, HBN, HB127⟩
        case measure => simp [intOf]; omega
      case neg =>
        have HOUT : Aside0 (n < 0 ∨ (rows.length : Int) ≤ n) := ⟨by omega⟩
        clear hin
        have zc0 : W1.cell? ⟨go1, 0, none⟩ = some (.int .i64 1) := (blk_cell Bo1.out 0).trans rfl
        have zc1 : W1.cell? ⟨go1, 1, none⟩ = some (.slice V v.length cv) := (blk_cell Bo1.out 1).trans rfl
        have zc2 : W1.cell? ⟨go1, 2, none⟩ = some (.int .i64 n) := (blk_cell Bo1.out 2).trans rfl
        go_wp2_with fail
        clear zc0 zc1 zc2
        refine (deliver_out _ g (lost) (taken) (rows) CP2.out n HOUT.out).mono ?_
        rintro e wD ⟨rfl, hbd⟩
        have HO161 : Aside0 (wD.heap[go1]? = some (.cells #[.int .i64 1, .slice V v.length cv, .int .i64 n] 33 (0, 0))) := ⟨blk_below Bo1.out hbd⟩
        have HM161 : Aside0 (MapAt wD b (M) (D)) := ⟨CM2.out.below hbd⟩
        have HB161 : Aside0 (Below W.heap.size W wD) := ⟨below_step HB2.out hbd⟩
        have HP161 : Aside0 (PAt wD g (lost) (taken) (rows)) := ⟨CP2.out.below hbd⟩
        clear hbd
        obtain ⟨rl, hrl⟩ : ∃ x : Int, ((rows).length : Int) = x := ⟨_, rfl⟩
        have HRL := Aside0.mk hrl
        have HBQ : Aside0 (wrap64 (wrap64 (rl + (lost)) + (taken)) = all) := ⟨by rw [← hrl]; exact HBL.out⟩
        clear hrl
        go_wp2_with fail
        refine (len_lit _ g (lost) (taken) (rows) HP161.out rl HRL.out).mono ?_
        rintro e w162 ⟨rfl, hb162⟩
        have HM163 : Aside0 (MapAt w162 b (M) (D)) := ⟨HM161.out.below hb162⟩
        have HB163 : Aside0 (Below W.heap.size W w162) := ⟨below_step HB161.out hb162⟩
        have HP163 : Aside0 (PAt w162 g (lost) (taken) (rows)) := ⟨HP161.out.below hb162⟩
        clear hb162
        go_wp2_with fail
        refine (lost_c _ g (lost) (taken) (rows) HP163.out).mono ?_
        rintro e w164 ⟨rfl, hb164⟩
        have HM165 : Aside0 (MapAt w164 b (M) (D)) := ⟨HM163.out.below hb164⟩
        have HB165 : Aside0 (Below W.heap.size W w164) := ⟨below_step HB163.out hb164⟩
        have HP165 : Aside0 (PAt w164 g (lost) (taken) (rows)) := ⟨HP163.out.below hb164⟩
        clear hb164
        go_wp2_with fail
        refine (taken_c _ g (lost) (taken) (rows) HP165.out).mono ?_
        rintro e w166 ⟨rfl, hb166⟩
        have HM167 : Aside0 (MapAt w166 b (M) (D)) := ⟨HM165.out.below hb166⟩
        have HB167 : Aside0 (Below W.heap.size W w166) := ⟨below_step HB165.out hb166⟩
        have HP167 : Aside0 (PAt w166 g (lost) (taken) (rows)) := ⟨HP165.out.below hb166⟩
        clear hb166
        have hq := HBQ.out
        have hq2 : (all != all) = false := by simp
        go_wp2_with fail
        go_roundw
        case rel => exact ⟨k + 1, all, lost, taken, rows, D, by omega, by go_num, rfl, HP167, ⟨by rw [← HMN.out]; exact HM167.out.up (by omega)⟩, ⟨by rw [← HMN.out]; exact ⟨HD.out.1.up (by omega), HD.out.2⟩⟩, HBL, HB167⟩
        case measure => simp [intOf]; omega
    have hk1 : (kd == 1) = false := beq_eq_false_iff_ne.2 h1
    by_cases h2 : kd = 2
    case pos =>
      subst h2
      by_cases hin : 0 ≤ n ∧ n < (rows.length : Int)
      case pos =>
        obtain ⟨i, rfl⟩ : ∃ i : Nat, n = (i : Int) := ⟨n.toNat, by omega⟩
        obtain ⟨r, hr⟩ : ∃ r, rows[i]? = some r := ⟨_, List.getElem?_eq_getElem (by omega)⟩
        have HI := Aside0.mk hr
        clear hin hr
        have zc0 : W1.cell? ⟨go1, 0, none⟩ = some (.int .i64 2) := (blk_cell Bo1.out 0).trans rfl
        have zc1 : W1.cell? ⟨go1, 1, none⟩ = some (.slice V v.length cv) := (blk_cell Bo1.out 1).trans rfl
        have zc2 : W1.cell? ⟨go1, 2, none⟩ = some (.int .i64 (i : Int)) := (blk_cell Bo1.out 2).trans rfl
        go_wp2_with fail
        clear zc0 zc1 zc2
        have hd := drop_in _ g (lost) (taken) (rows) CP2.out i r HI.out
        obtain ⟨G, hG⟩ : ∃ G, rows.take i ++ rows.drop (i + 1) = G := ⟨_, rfl⟩
        have HGL : Aside0 (G.length + 1 = rows.length) := ⟨by rw [← hG]; exact cut_len HI.out⟩
        have HGM : Aside0 (∀ x ∈ G, x ∈ rows) := ⟨fun x hx => cut_mem x (by rw [hG]; exact hx)⟩
        rw [hG] at hd
        clear hG
        refine hd.mono ?_
        rintro e wD ⟨rfl, hp, hf⟩
        clear hd
        have HO201 : Aside0 (wD.heap[go1]? = some (.cells #[.int .i64 2, .slice V v.length cv, .int .i64 (i : Int)] 33 (0, 0))) := ⟨blk_fr Bo1.out CP2.out (by decide) hf⟩
        have HM201 : Aside0 (MapAt wD b (M) (D)) := ⟨CM2.out.fr CP2.out hf⟩
        have HB201 : Aside0 (Below W.heap.size W wD) := ⟨FR.after HB2.out hf CP2.out GE.out⟩
        have HP201 : Aside0 (PAt wD g (wrap64 (lost + 1)) (taken) (G)) := ⟨hp⟩
        clear hf hp
        have HBN := Aside0.mk (bal_lost HBL.out HGL.out)
        have HDN : Aside0 (Good D M G) := ⟨⟨HD.out.1, fun x hx => HD.out.2 x (HGM.out x hx)⟩⟩
        obtain ⟨rl, hrl⟩ : ∃ x : Int, ((G).length : Int) = x := ⟨_, rfl⟩
        have HRL := Aside0.mk hrl
        have HBQ : Aside0 (wrap64 (wrap64 (rl + (wrap64 (lost + 1))) + (taken)) = all) := ⟨by rw [← hrl]; exact HBN.out⟩
        clear hrl
        go_wp2_with fail
        refine (len_lit _ g (wrap64 (lost + 1)) (taken) (G) HP201.out rl HRL.out).mono ?_
        rintro e w202 ⟨rfl, hb202⟩
        have HM203 : Aside0 (MapAt w202 b (M) (D)) := ⟨HM201.out.below hb202⟩
        have HB203 : Aside0 (Below W.heap.size W w202) := ⟨below_step HB201.out hb202⟩
        have HP203 : Aside0 (PAt w202 g (wrap64 (lost + 1)) (taken) (G)) := ⟨HP201.out.below hb202⟩
        clear hb202
        go_wp2_with fail
        refine (lost_c _ g (wrap64 (lost + 1)) (taken) (G) HP203.out).mono ?_
        rintro e w204 ⟨rfl, hb204⟩
        have HM205 : Aside0 (MapAt w204 b (M) (D)) := ⟨HM203.out.below hb204⟩
        have HB205 : Aside0 (Below W.heap.size W w204) := ⟨below_step HB203.out hb204⟩
        have HP205 : Aside0 (PAt w204 g (wrap64 (lost + 1)) (taken) (G)) := ⟨HP203.out.below hb204⟩
        clear hb204
        go_wp2_with fail
        refine (taken_c _ g (wrap64 (lost + 1)) (taken) (G) HP205.out).mono ?_
        rintro e w206 ⟨rfl, hb206⟩
        have HM207 : Aside0 (MapAt w206 b (M) (D)) := ⟨HM205.out.below hb206⟩
        have HB207 : Aside0 (Below W.heap.size W w206) := ⟨below_step HB205.out hb206⟩
        have HP207 : Aside0 (PAt w206 g (wrap64 (lost + 1)) (taken) (G)) := ⟨HP205.out.below hb206⟩
        clear hb206
        have hq := HBQ.out
        have hq2 : (all != all) = false := by simp
        go_wp2_with fail
        go_roundw
        case rel => exact ⟨k + 1, all, wrap64 (lost + 1), taken, G, D, by omega, by go_num, rfl, HP207, ⟨by rw [← HMN.out]; exact HM207.out.up (by omega)⟩, ⟨by rw [← HMN.out]; exact ⟨HDN.out.1.up (by omega), HDN.out.2⟩⟩, HBN, HB207⟩
        case measure => simp [intOf]; omega
      case neg =>
        have HOUT : Aside0 (n < 0 ∨ (rows.length : Int) ≤ n) := ⟨by omega⟩
        clear hin
        have zc0 : W1.cell? ⟨go1, 0, none⟩ = some (.int .i64 2) := (blk_cell Bo1.out 0).trans rfl
        have zc1 : W1.cell? ⟨go1, 1, none⟩ = some (.slice V v.length cv) := (blk_cell Bo1.out 1).trans rfl
        have zc2 : W1.cell? ⟨go1, 2, none⟩ = some (.int .i64 n) := (blk_cell Bo1.out 2).trans rfl
        go_wp2_with fail
        clear zc0 zc1 zc2
        refine (drop_out _ g (lost) (taken) (rows) CP2.out n HOUT.out).mono ?_
        rintro e wD ⟨rfl, hbd⟩
        have HO241 : Aside0 (wD.heap[go1]? = some (.cells #[.int .i64 2, .slice V v.length cv, .int .i64 n] 33 (0, 0))) := ⟨blk_below Bo1.out hbd⟩
        have HM241 : Aside0 (MapAt wD b (M) (D)) := ⟨CM2.out.below hbd⟩
        have HB241 : Aside0 (Below W.heap.size W wD) := ⟨below_step HB2.out hbd⟩
        have HP241 : Aside0 (PAt wD g (lost) (taken) (rows)) := ⟨CP2.out.below hbd⟩
        clear hbd
        obtain ⟨rl, hrl⟩ : ∃ x : Int, ((rows).length : Int) = x := ⟨_, rfl⟩
        have HRL := Aside0.mk hrl
        have HBQ : Aside0 (wrap64 (wrap64 (rl + (lost)) + (taken)) = all) := ⟨by rw [← hrl]; exact HBL.out⟩
        clear hrl
        go_wp2_with fail
        refine (len_lit _ g (lost) (taken) (rows) HP241.out rl HRL.out).mono ?_
        rintro e w242 ⟨rfl, hb242⟩
        have HM243 : Aside0 (MapAt w242 b (M) (D)) := ⟨HM241.out.below hb242⟩
        have HB243 : Aside0 (Below W.heap.size W w242) := ⟨below_step HB241.out hb242⟩
        have HP243 : Aside0 (PAt w242 g (lost) (taken) (rows)) := ⟨HP241.out.below hb242⟩
        clear hb242
        go_wp2_with fail
        refine (lost_c _ g (lost) (taken) (rows) HP243.out).mono ?_
        rintro e w244 ⟨rfl, hb244⟩
        have HM245 : Aside0 (MapAt w244 b (M) (D)) := ⟨HM243.out.below hb244⟩
        have HB245 : Aside0 (Below W.heap.size W w244) := ⟨below_step HB243.out hb244⟩
        have HP245 : Aside0 (PAt w244 g (lost) (taken) (rows)) := ⟨HP243.out.below hb244⟩
        clear hb244
        go_wp2_with fail
        refine (taken_c _ g (lost) (taken) (rows) HP245.out).mono ?_
        rintro e w246 ⟨rfl, hb246⟩
        have HM247 : Aside0 (MapAt w246 b (M) (D)) := ⟨HM245.out.below hb246⟩
        have HB247 : Aside0 (Below W.heap.size W w246) := ⟨below_step HB245.out hb246⟩
        have HP247 : Aside0 (PAt w246 g (lost) (taken) (rows)) := ⟨HP245.out.below hb246⟩
        clear hb246
        have hq := HBQ.out
        have hq2 : (all != all) = false := by simp
        go_wp2_with fail
        go_roundw
        case rel => exact ⟨k + 1, all, lost, taken, rows, D, by omega, by go_num, rfl, HP247, ⟨by rw [← HMN.out]; exact HM247.out.up (by omega)⟩, ⟨by rw [← HMN.out]; exact ⟨HD.out.1.up (by omega), HD.out.2⟩⟩, HBL, HB247⟩
        case measure => simp [intOf]; omega
    have hk2 : (kd == 2) = false := beq_eq_false_iff_ne.2 h2
    by_cases hin : 0 ≤ n ∧ n < (rows.length : Int)
    case pos =>
      obtain ⟨i, rfl⟩ : ∃ i : Nat, n = (i : Int) := ⟨n.toNat, by omega⟩
      obtain ⟨r, hr⟩ : ∃ r, rows[i]? = some r := ⟨_, List.getElem?_eq_getElem (by omega)⟩
      have HI := Aside0.mk hr
      clear hin hr
      have zc0 : W1.cell? ⟨go1, 0, none⟩ = some (.int .i64 kd) := (blk_cell Bo1.out 0).trans rfl
      have zc1 : W1.cell? ⟨go1, 1, none⟩ = some (.slice V v.length cv) := (blk_cell Bo1.out 1).trans rfl
      have zc2 : W1.cell? ⟨go1, 2, none⟩ = some (.int .i64 (i : Int)) := (blk_cell Bo1.out 2).trans rfl
      go_wp2_with fail
      clear zc0 zc1 zc2
      have hd := copy_in _ g (lost) (taken) (rows) CP2.out i r HI.out
      have HBN := Aside0.mk (bal_one (r := r) HBL.out)
      have HSM := Aside0.mk (fun x => sent_mem [r] (lost := lost) (rows := rows) x)
      rw [send_one] at HSM
      obtain ⟨sl, hsl⟩ : ∃ x, sendS (lost, rows) r = x := ⟨_, rfl⟩
      rw [hsl] at hd HBN HSM
      clear hsl
      refine hd.mono ?_
      rintro e wD ⟨rfl, hp, hf⟩
      clear hd
      have HO281 : Aside0 (wD.heap[go1]? = some (.cells #[.int .i64 kd, .slice V v.length cv, .int .i64 (i : Int)] 33 (0, 0))) := ⟨blk_fr Bo1.out CP2.out (by decide) hf⟩
      have HM281 : Aside0 (MapAt wD b (M) (D)) := ⟨CM2.out.fr CP2.out hf⟩
      have HB281 : Aside0 (Below W.heap.size W wD) := ⟨FR.after HB2.out hf CP2.out GE.out⟩
      have HP281 : Aside0 (PAt wD g (sl.1) (taken) (sl.2)) := ⟨hp⟩
      clear hf hp
      have HDN : Aside0 (Good D M sl.2) := ⟨⟨HD.out.1, fun x hx => (HSM.out x hx).elim (HD.out.2 x) (fun h => by rw [List.mem_singleton.1 h]; exact HD.out.2 r (List.mem_of_getElem? HI.out))⟩⟩
      obtain ⟨al, hal⟩ : ∃ x, wrap64 (all + 1) = x := ⟨_, rfl⟩
      rw [hal] at HBN
      have hal2 := hal
      obtain ⟨rl, hrl⟩ : ∃ x : Int, ((sl.2).length : Int) = x := ⟨_, rfl⟩
      have HRL := Aside0.mk hrl
      have HBQ : Aside0 (wrap64 (wrap64 (rl + (sl.1)) + (taken)) = al) := ⟨by rw [← hrl]; exact HBN.out⟩
      clear hrl
      go_wp2_with fail
      refine (len_lit _ g (sl.1) (taken) (sl.2) HP281.out rl HRL.out).mono ?_
      rintro e w282 ⟨rfl, hb282⟩
      have HM283 : Aside0 (MapAt w282 b (M) (D)) := ⟨HM281.out.below hb282⟩
      have HB283 : Aside0 (Below W.heap.size W w282) := ⟨below_step HB281.out hb282⟩
      have HP283 : Aside0 (PAt w282 g (sl.1) (taken) (sl.2)) := ⟨HP281.out.below hb282⟩
      clear hb282
      go_wp2_with fail
      refine (lost_c _ g (sl.1) (taken) (sl.2) HP283.out).mono ?_
      rintro e w284 ⟨rfl, hb284⟩
      have HM285 : Aside0 (MapAt w284 b (M) (D)) := ⟨HM283.out.below hb284⟩
      have HB285 : Aside0 (Below W.heap.size W w284) := ⟨below_step HB283.out hb284⟩
      have HP285 : Aside0 (PAt w284 g (sl.1) (taken) (sl.2)) := ⟨HP283.out.below hb284⟩
      clear hb284
      go_wp2_with fail
      refine (taken_c _ g (sl.1) (taken) (sl.2) HP285.out).mono ?_
      rintro e w286 ⟨rfl, hb286⟩
      have HM287 : Aside0 (MapAt w286 b (M) (D)) := ⟨HM285.out.below hb286⟩
      have HB287 : Aside0 (Below W.heap.size W w286) := ⟨below_step HB285.out hb286⟩
      have HP287 : Aside0 (PAt w286 g (sl.1) (taken) (sl.2)) := ⟨HP285.out.below hb286⟩
      clear hb286
      have hq := HBQ.out
      have hq2 : (al != al) = false := by simp
      go_wp2_with fail
      go_roundw
      case rel => exact ⟨k + 1, al, sl.1, taken, sl.2, D, by omega, by go_num, rfl, HP287, ⟨by rw [← HMN.out]; exact HM287.out.up (by omega)⟩, ⟨by rw [← HMN.out]; exact ⟨HDN.out.1.up (by omega), HDN.out.2⟩⟩, HBN, HB287⟩
      case measure => simp [intOf]; omega
    case neg =>
      have HOUT : Aside0 (n < 0 ∨ (rows.length : Int) ≤ n) := ⟨by omega⟩
      clear hin
      have zc0 : W1.cell? ⟨go1, 0, none⟩ = some (.int .i64 kd) := (blk_cell Bo1.out 0).trans rfl
      have zc1 : W1.cell? ⟨go1, 1, none⟩ = some (.slice V v.length cv) := (blk_cell Bo1.out 1).trans rfl
      have zc2 : W1.cell? ⟨go1, 2, none⟩ = some (.int .i64 n) := (blk_cell Bo1.out 2).trans rfl
      go_wp2_with fail
      clear zc0 zc1 zc2
      refine (copy_out _ g (lost) (taken) (rows) CP2.out n HOUT.out).mono ?_
      rintro e wD ⟨rfl, hbd⟩
      have HO321 : Aside0 (wD.heap[go1]? = some (.cells #[.int .i64 kd, .slice V v.length cv, .int .i64 n] 33 (0, 0))) := ⟨blk_below Bo1.out hbd⟩
      have HM321 : Aside0 (MapAt wD b (M) (D)) := ⟨CM2.out.below hbd⟩
      have HB321 : Aside0 (Below W.heap.size W wD) := ⟨below_step HB2.out hbd⟩
      have HP321 : Aside0 (PAt wD g (lost) (taken) (rows)) := ⟨CP2.out.below hbd⟩
      clear hbd
      obtain ⟨rl, hrl⟩ : ∃ x : Int, ((rows).length : Int) = x := ⟨_, rfl⟩
      have HRL := Aside0.mk hrl
      have HBQ : Aside0 (wrap64 (wrap64 (rl + (lost)) + (taken)) = all) := ⟨by rw [← hrl]; exact HBL.out⟩
      clear hrl
      go_wp2_with fail
      refine (len_lit _ g (lost) (taken) (rows) HP321.out rl HRL.out).mono ?_
      rintro e w322 ⟨rfl, hb322⟩
      have HM323 : Aside0 (MapAt w322 b (M) (D)) := ⟨HM321.out.below hb322⟩
      have HB323 : Aside0 (Below W.heap.size W w322) := ⟨below_step HB321.out hb322⟩
      have HP323 : Aside0 (PAt w322 g (lost) (taken) (rows)) := ⟨HP321.out.below hb322⟩
      clear hb322
      go_wp2_with fail
      refine (lost_c _ g (lost) (taken) (rows) HP323.out).mono ?_
      rintro e w324 ⟨rfl, hb324⟩
      have HM325 : Aside0 (MapAt w324 b (M) (D)) := ⟨HM323.out.below hb324⟩
      have HB325 : Aside0 (Below W.heap.size W w324) := ⟨below_step HB323.out hb324⟩
      have HP325 : Aside0 (PAt w324 g (lost) (taken) (rows)) := ⟨HP323.out.below hb324⟩
      clear hb324
      go_wp2_with fail
      refine (taken_c _ g (lost) (taken) (rows) HP325.out).mono ?_
      rintro e w326 ⟨rfl, hb326⟩
      have HM327 : Aside0 (MapAt w326 b (M) (D)) := ⟨HM325.out.below hb326⟩
      have HB327 : Aside0 (Below W.heap.size W w326) := ⟨below_step HB325.out hb326⟩
      have HP327 : Aside0 (PAt w326 g (lost) (taken) (rows)) := ⟨HP325.out.below hb326⟩
      clear hb326
      have hq := HBQ.out
      have hq2 : (all != all) = false := by simp
      go_wp2_with fail
      go_roundw
      case rel => exact ⟨k + 1, all, lost, taken, rows, D, by omega, by go_num, rfl, HP327, ⟨by rw [← HMN.out]; exact HM327.out.up (by omega)⟩, ⟨by rw [← HMN.out]; exact ⟨HD.out.1.up (by omega), HD.out.2⟩⟩, HBL, HB327⟩
      case measure => simp [intOf]; omega
theorem counts_walk (w : World) (A0 : Option Addr) (c0 : Nat) (xs : List POp) (hr : kOp.C w A0 xs.length xs) (hc : xs.length ≤ c0) (hq : xs.length * Try.prog.bytesOf 33 ≤ 140737488351232 ∧ ∀ x ∈ xs, (Lit.int .i64 x.1).wf = true ∧ (x.2.1.length * Try.prog.bytesOf 34 ≤ 140737488351232 ∧ ∀ y ∈ x.2.1, y.length * Try.prog.bytesOf 5 ≤ 140737488351232 ∧ ∀ z ∈ y, (Lit.int .u8 z).wf = true) ∧ (Lit.int .i64 x.2.2).wf = true) (hb : xs.length ≤ 1048576) : Calls Try.prog 4 #[.slice A0 xs.length c0] w fun e w' => e = .returned (.bool true) ∧ Below w.heap.size w w' := by
  have h5 : Try.prog.bytesOf 5 = 1 := by kernel_rfl
  have h34 : Try.prog.bytesOf 34 = 24 := by kernel_rfl
  refine counts_any w A0 c0 xs hr (fun o ho => ⟨?_, fun r hr => ?_⟩) hb
  · have := (hq.2 o ho).2.1.1
    rw [h34] at this
    omega
  · have := ((hq.2 o ho).2.1.2 r hr).1
    rw [h5] at this
    omega
end Go.Proofs.Ytnjhgckmfebdoaa.MAll

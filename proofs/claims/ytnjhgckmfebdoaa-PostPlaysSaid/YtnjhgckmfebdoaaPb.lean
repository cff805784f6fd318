/- Posts: Delete, take, Send, Deliver, Drop, Copy. -/
import Derived.Test.YtnjhgckmfebdoaaPa
import Derived.Test.YtnjhgckmfebdoaaWMore
import Derived.Deep.DrawnRows
import Derived.WalkSpells
set_option linter.unusedVariables false
set_option linter.unusedSimpArgs false
namespace Go.Proofs.Ytnjhgckmfebdoaa.MAll
open Go.RowKit Go.Proofs.YtnjhgckmfebdoaaW.PrintWords Go.Proofs.YtnjhgckmfebdoaaW.PrintLast Go.Proofs.YtnjhgckmfebdoaaW.PrintMore
attribute [local go_sem ↓] Go.wp_at_zero Go.wp_at_succ
theorem z34 (w : World) : (zeroValue 34).run Try.prog w = .ok (.slice none 0 0) w := by kernel_rfl
theorem cut_from (b n c k : Nat) (hk : k ≤ n) (hc : n ≤ c) (W : World) : (Instr.slice 31 (.slice (some ⟨b, 0, none⟩) n c) (some (.int .i64 (k : Int))) none none).run Try.prog W = .ok (.slice (some (if c = k then ⟨b, 0, none⟩ else (⟨b, 0, none⟩ : Addr).add k)) (n - k) (c - k)) W := by
  have hel : Try.prog.elem 31 = 34 := by simp [Program.elem, Try.underlying31]
  have hu : Try.prog.underlying 31 = some (.slice (Try.prog.elem 31)) := by rw [hel]; exact Try.underlying31
  obtain ⟨i0, hi, hzz⟩ := Option.map_eq_some_iff.1 info34'
  simp only [Prod.mk.injEq] at hzz
  obtain ⟨_, hsz, _⟩ := hzz
  rw [run_slice_l W 31 (some ⟨b, 0, none⟩) n c hu .i64 (k : Int) (Int.natCast_nonneg _) (by omega), hel]
  by_cases h : c = k
  · simp [sizeOf, typeInfo, hi, hsz, sliced, Result.andThen, h]
  · simp [sizeOf, typeInfo, hi, hsz, sliced, Result.andThen, h]
set_option maxHeartbeats 2000000 in
set_option maxRecDepth 100000 in
theorem del_c (W : World) (base b i m c : Nat) (inner : List Value) (hown : W.ownsRow base 34 1 (.slice (some ⟨b, 0, none⟩) (i + 1 + m) c) (i + 1 + m) inner) (hn : i + 1 + m ≤ 4096) (h1c : ∀ u ∈ inner, u.oneCell' = true) :
    Calls Try.prog 26 #[.slice (some ⟨b, 0, none⟩) (i + 1 + m) c, .int .i64 i, .int .i64 ((i : Int) + 1)] W fun e w' => e = .returned (.slice (some ⟨b, 0, none⟩) (i + m) c) ∧ w'.ownsRow base 34 1 (.slice (some ⟨b, 0, none⟩) (i + m) c) (i + m) (inner.take i ++ inner.drop (i + 1)) ∧ W.grownBy w' (some b) := by
  have hu31 := Try.underlying31
  obtain ⟨cur, hh, hcs, hnc, hbase, hcur⟩ := own_cells hown
  have HO := Aside0.mk hown
  have HC := Aside0.mk hcur
  have HH := Aside0.mk hh
  have HCS := Aside0.mk hcs
  have H1 := Aside0.mk h1c
  clear hown hcur hh hcs h1c
  have hic : i ≤ c := by omega
  have e0 : (0 : Int) ≤ (i : Int) := by omega
  have e1 : (i : Int) ≤ (i : Int) + 1 := by omega
  have e2 : (i : Int) + 1 ≤ ((i + 1 + m : Nat) : Int) := by omega
  have e3 : ((i + 1 + m : Nat) : Int) ≤ (c : Int) := by omega
  have e4 : ((i : Int) == (i : Int) + 1) = false := beq_eq_false_iff_ne.2 (by omega)
  obtain ⟨X, hX⟩ : ∃ X : Addr, X = if c = i + 1 then ⟨b, 0, none⟩ else (⟨b, 0, none⟩ : Addr).add (i + 1) := ⟨_, rfl⟩
  have hsl : ∀ W, (Instr.slice 31 (.slice (some ⟨b, 0, none⟩) (i + 1 + m) c) (some (.int .i64 ((i : Int) + 1))) none none).run Try.prog W = .ok (.slice (some X) m (c - (i + 1))) W := by
    intro W
    have h := cut_from b (i + 1 + m) c (i + 1) (by omega) hnc W
    rw [show ((i + 1 : Nat) : Int) = (i : Int) + 1 by omega, show i + 1 + m - (i + 1) = m by omega, ← hX] at h
    exact h
  have hXm : 0 < m → X = ⟨b, i + 1, none⟩ := by
    intro hm
    rw [hX, if_neg (by omega), add_plain]
  have HXM := Aside0.mk hXm
  clear hX hXm
  obtain ⟨i0, hi, hzz⟩ := Option.map_eq_some_iff.1 info34'
  simp only [Prod.mk.injEq] at hzz
  obtain ⟨_, hsz, _⟩ := hzz
  have HI := Aside0.mk hi
  have HSZ := Aside0.mk hsz
  clear hi hsz
  have HCEL : Aside0 (∀ j u, (inner.drop (i + 1))[j]? = some u → W.drew.cell? (X.add j) = some u) := ⟨by
    intro j u hu
    have hl := HO.out.1
    have hj : j < m := by
      have := (List.getElem?_eq_some_iff.1 hu).1
      rw [List.length_drop] at this
      omega
    rw [HXM.out (by omega)]
    have : (⟨b, i + 1, none⟩ : Addr).add j = ⟨b, i + 1 + j, none⟩ := by
      unfold Addr.add
      cases j <;> simp
    rw [this]
    refine (blk_cell (blk_drew HH.out) (i + 1 + j)).trans ?_
    rw [HC.out (i + 1 + j) (by omega), ← hu, List.getElem?_drop]⟩
  have HLD := Aside0.mk (show (inner.drop (i + 1)).length = m by have := HO.out.1; rw [List.length_drop]; omega)
  have HTK := Aside0.mk (World.ownsRow.drew (own_first HO.out i (by omega)))
  have HND := Aside0.mk (show ∀ u ∈ inner.drop (i + 1), u.oneCell' = true from fun u hu => H1.out u (List.mem_of_mem_drop hu))
  go_enter Try.func26, Try.ntmps26
  go_wp2_with fail
  refine start_ (n := 8) (S := fun w' => True) (ds := []) #[false, false, false, false, false, false, false, false] (by kernel_rfl) rfl rfl trivial (fun hHeld => ?_)
  refine pure_ (i := 0) (N := some 20) (v := ?_) (a' := ?_) #[true, false, false, false, false, false, false, false] rfl rfl (by kernel_rfl) (fun _ _ _ h => h) (Or.inl ⟨by rfl, ?_⟩) ?_ ?_
  rotate_left
  · intro w'
    go_simp
    with_reducible rfl
  rotate_left
  · simp only [Act.put, List.setIfInBounds_toArray, List.set_cons_zero, List.set_cons_succ, i64_w, i32_w]
    rfl
  refine pure_ (i := 1) (N := some 21) (v := ?_) (a' := ?_) #[true, true, false, false, false, false, false, false] rfl rfl (by kernel_rfl) (fun _ _ _ h => h) (Or.inl ⟨by rfl, ?_⟩) ?_ ?_
  rotate_left
  · intro w'
    go_simp
    with_reducible rfl
  rotate_left
  · simp only [Act.put, List.setIfInBounds_toArray, List.set_cons_zero, List.set_cons_succ, i64_w, i32_w]
    rfl
  refine pure_ (i := 2) (N := some 22) (v := ?_) (a' := ?_) #[true, true, true, false, false, false, false, false] rfl rfl (by kernel_rfl) (fun _ _ _ h => h) (Or.inl ⟨by rfl, ?_⟩) ?_ ?_
  rotate_left
  · intro w'
    go_simp
    with_reducible rfl
  rotate_left
  · simp only [Act.put, List.setIfInBounds_toArray, List.set_cons_zero, List.set_cons_succ, i64_w, i32_w]
    rfl
  refine pure_ (i := 3) (N := some 23) (v := ?_) (a' := ?_) #[true, true, true, true, false, false, false, false] rfl rfl (by kernel_rfl) (fun _ _ _ h => h) (Or.inl ⟨by rfl, ?_⟩) ?_ ?_
  rotate_left
  · intro w'
    go_simp
    with_reducible rfl
  rotate_left
  · simp only [Act.put, List.setIfInBounds_toArray, List.set_cons_zero, List.set_cons_succ, i64_w, i32_w]
    rfl
  refine pure_ (i := 4) (N := some 24) (v := ?_) (a' := ?_) #[true, true, true, true, true, false, false, false] rfl rfl (by kernel_rfl) (fun _ _ _ h => h) (Or.inl ⟨by rfl, ?_⟩) ?_ ?_
  rotate_left
  · intro w'
    go_simp
    with_reducible rfl
  rotate_left
  · simp only [Act.put, List.setIfInBounds_toArray, List.set_cons_zero, List.set_cons_succ, i64_w, i32_w]
    rfl
  refine pure_ (i := 5) (N := some 25) (v := ?_) (a' := ?_) #[true, true, true, true, true, true, false, false] rfl rfl (by kernel_rfl) (fun _ _ _ h => h) (Or.inl ⟨by rfl, ?_⟩) ?_ ?_
  rotate_left
  · intro w'
    go_simp
    with_reducible rfl
  rotate_left
  · simp only [Act.put, List.setIfInBounds_toArray, List.set_cons_zero, List.set_cons_succ, i64_w, i32_w]
    rfl
  refine one_ (i := 6) (N := some 26) #[true, true, true, true, true, true, true, false] rfl rfl (by kernel_rfl) (by decide) (fun K hK => ?_)
  refine step_append_fits (by rfl) (.tmp 22) (.tmp 25) 31 (by rfl) base 34 i0 Try.underlying31 HI.out HSZ.out b i c (inner.take i) (by rfl) HTK.out X m (c - (i + 1)) (inner.drop (i + 1)) (by rfl) HLD.out HCEL.out HND.out (by omega) ?_
  intro w2 ho hg
  have HO2 := Aside0.mk ho
  have HG2 := Aside0.mk hg
  clear ho hg
  refine hK.out _ _ trivial (fun hHeld => ?_)
  clear hK K
  refine norm_ (a' := ?_) ?_ ?_
  rotate_left
  · show Act.put _ (some 26) _ = _
    simp only [Act.put, List.setIfInBounds_toArray, List.set_cons_zero, List.set_cons_succ, i64_w, i32_w]
    rfl
  refine pure_ (i := 7) (N := some 0) (v := ?_) (a' := ?_) #[true, true, true, true, true, true, true, true] rfl rfl (by kernel_rfl) (fun _ _ _ h => h) (Or.inl ⟨by rfl, ?_⟩) ?_ ?_
  rotate_left
  · intro w'
    go_simp
    with_reducible rfl
  rotate_left
  · simp only [Act.put, List.setIfInBounds_toArray, List.set_cons_zero, List.set_cons_succ, i64_w, i32_w]
    rfl
  refine done_ (by kernel_rfl) ?_
  go_wp2_with fail
  obtain ⟨cur2, hh2, hcs2, hnc2, _, _⟩ := own_cells HO2.out
  have hclr := Go.Lib.run_clear_slice (P := Try.prog) w2 31 34 0 (.slice none 0 0) hu31 z34 rfl rfl b (i + m) 1 (c - (i + m)) (by omega) (by
    intro j hj
    rw [blk_cell hh2 (i + m + j), Array.getElem?_eq_getElem (by omega)]
    rfl) (fun j hj => blk_frozen hh2 (i + m + j))
  rw [show i + 1 + m - (i + m) = 1 by omega, hclr]
  clear hclr hh2 hcs2 hnc2
  have hw3 : w2.setCells b (i + m) (List.replicate 1 (.slice none 0 0)) = w2.setCell ⟨b, i + m, none⟩ (.slice none 0 0) := rfl
  rw [hw3]
  clear hw3
  go_wp2_with fail
  go_ret
  exact ⟨rfl, own_behind HO2.out (i + m) (Nat.le_refl _) _, World.grownBy.trans (show W.grownBy w2 (some b) from ⟨HG2.out.os, HG2.out.tape, HG2.out.output, HG2.out.size, HG2.out.block⟩) (grown_set _ _ _ _)⟩

/-! the frame of a post's calls -/
def ownB (W : World) (g : Nat) : Option Nat := match W.heap[g]? with
  | some (.cells cs _ _) => (cs[2]?.getD (Value.slice none 0 0)).ownBlock
  | _ => none
theorem ownB_of {W : World} {g : Nat} {a b v : Value} {t : TypeId} (h : W.heap[g]? = some (.cells #[a, b, v] t (0, 0))) : ownB W g = v.ownBlock := by unfold ownB; rw [h]; rfl
structure FR (g : Nat) (W w : World) : Prop where
  os : w.os = W.os
  tape : w.tape = W.tape
  output : w.output = W.output
  size : W.heap.size ≤ w.heap.size
  block : ∀ k, k < W.heap.size → k ≠ g → some k ≠ ownB W g → w.heap[k]? = W.heap[k]?
  own : ownB w g = ownB W g ∨ ∃ b, ownB w g = some b ∧ W.heap.size ≤ b
theorem FR.refl (g : Nat) (W : World) : FR g W W := ⟨rfl, rfl, rfl, Nat.le_refl _, fun _ _ _ _ => rfl, .inl rfl⟩
theorem FR.trans {g : Nat} {W w1 w2 : World} (h : FR g W w1) (h2 : FR g w1 w2) : FR g W w2 := by
  refine ⟨h2.os.trans h.os, h2.tape.trans h.tape, h2.output.trans h.output, Nat.le_trans h.size h2.size, fun k hk hg ho => ?_, ?_⟩
  · refine (h2.block k (Nat.lt_of_lt_of_le hk h.size) hg ?_).trans (h.block k hk hg ho)
    rcases h.own with e | ⟨b, e, hb⟩
    · rw [e]; exact ho
    · rw [e]; intro e'; injection e' with e'; omega
  · rcases h2.own with e2 | ⟨b, e2, hb⟩
    · rcases h.own with e | ⟨b, e, hb⟩
      · exact .inl (e2.trans e)
      · exact .inr ⟨b, e2.trans e, hb⟩
    · exact .inr ⟨b, e2, Nat.le_trans h.size hb⟩
theorem FR.of_below {g : Nat} {W w : World} (hg : g < W.heap.size) (h : Below W.heap.size W w) : FR g W w := ⟨h.os, h.tape, h.output, h.size, fun k hk _ _ => h.block k hk, .inl (by unfold ownB; rw [h.block g hg])⟩
theorem PAt.own {W : World} {g : Nat} {lost taken : Int} {rows : List (List Int)} (h : PAt W g lost taken rows) (b : Nat) (hb : ownB W g = some b) : g < b := by
  obtain ⟨A, c, h1, ⟨_, inner, ho, _⟩, _⟩ := h
  rw [ownB_of h1] at hb
  have := own_base ho b hb
  omega
theorem FR.below {g : Nat} {W w : World} (h : FR g W w) {lost taken : Int} {rows : List (List Int)} (hP : PAt W g lost taken rows) : Below g W w := ⟨h.os, h.tape, h.output, h.size, fun k hk => h.block k (Nat.lt_trans hk hP.lt) (by omega) (fun e => by have := hP.own k e.symm; omega)⟩
/-- What grows the own row alone, and then the post's cells. -/
theorem FR.made {g : Nat} {W w2 w : World} {a b a' b' v v' : Value} (h : W.heap[g]? = some (.cells #[a, b, v] 54 (0, 0))) (h2 : w.heap[g]? = some (.cells #[a', b', v'] 54 (0, 0))) (hg : W.grownBy w2 v.ownBlock) (hs : w2.grownBy w (some g)) (hat : v'.ownBlock = v.ownBlock ∨ ∃ q, v'.ownBlock = some q ∧ W.heap.size ≤ q) : FR g W w := by
  refine ⟨hs.os.trans hg.os, hs.tape.trans hg.tape, hs.output.trans hg.output, Nat.le_trans hg.size hs.size, fun k hk hk1 hk2 => ?_, ?_⟩
  · rw [ownB_of h] at hk2
    exact (hs.block k (Nat.lt_of_lt_of_le hk hg.size) (fun e => hk1 (by injection e))).trans (hg.block k hk hk2)
  · rw [ownB_of h, ownB_of h2]; exact hat
theorem grown_refl (W : World) (row : Option Nat) : W.grownBy W row := ⟨rfl, rfl, rfl, Nat.le_refl _, fun _ _ _ => rfl⟩
theorem R_cut {W w2 : World} {base b i m c : Nat} {rows : List (List Int)} {inner : List Value} (h0 : Reps (kB.M W base (fun k => True ∧ some k ≠ (Value.slice (some ⟨b, 0, none⟩) (i + 1 + m) c).ownBlock)) 1 rows inner) (hd : w2.ownsRow base 34 1 (.slice (some ⟨b, 0, none⟩) (i + m) c) (i + m) (inner.take i ++ inner.drop (i + 1))) (hg : W.grownBy w2 (some b)) (hl : rows.length = i + 1 + m) :
    kB.R 34 w2 base (fun _ => True) (.slice (some ⟨b, 0, none⟩) (i + m) c) (rows.take i ++ rows.drop (i + 1)) := by
  refine ⟨fun _ _ => trivial, inner.take i ++ inner.drop (i + 1), ?_, ?_⟩
  · have e : (rows.take i ++ rows.drop (i + 1)).length = i + m := by rw [List.length_append, List.length_take, List.length_drop]; omega
    rw [e]; exact hd
  · have h1 := Reps.imp_ h0 (fun p cs hp => kB.M_mono (ok' := fun k => True ∧ some k ≠ (Value.slice (some ⟨b, 0, none⟩) (i + m) c).ownBlock) (fun k hk => hk) (Kd.M_grown hp hg (fun k hk => hk.2)))
    have ht := Kd.reps_take h1 (m := i) (by omega)
    have hd' := Kd.reps_drop (m := i + 1) h1
    rw [Nat.mul_one] at ht hd'
    exact Kd.reps_append ht hd'
theorem row_at {α : Type} {d : Kd α} {e : Nat} {w : World} {A : Option Addr} {xs : List (List α)} (h : (Kd.slice e d).C w A xs.length xs) (k : Nat) (r : List α) (hk : xs[k]? = some r) :
    ∃ ad B c, A = some ad ∧ w.cell? (ad.add k) = some (.slice B r.length c) ∧ r.length ≤ c ∧ d.C w B r.length r := by
  obtain ⟨hk', hr⟩ := List.getElem?_eq_some_iff.1 hk
  obtain ⟨ad, cs, rfl, _, hK, hc⟩ := Kd.C_get h [] k (by omega) (by omega)
  obtain ⟨B, c, rfl, h1, h2⟩ := hK
  have he : xs.getD (k : Int).toNat [] = r := by simp [List.getD_eq_getElem?_getD, hk]
  rw [he] at h1 h2 hc
  have := hc 0 _ rfl
  refine ⟨ad, B, c, rfl, ?_, h1, h2⟩
  simpa [Kd.slice] using this
theorem ok_cut {rows : List (List Int)} (h : okRows rows) (i : Nat) : okRows (rows.take i ++ rows.drop (i + 1)) := by
  refine ⟨?_, fun r hr => ?_⟩
  · have := h.1
    rw [List.length_append, List.length_take, List.length_drop]; omega
  · rcases List.mem_append.1 hr with hr | hr
    · exact h.2 r (List.mem_of_mem_take hr)
    · exact h.2 r (List.mem_of_mem_drop hr)
/-- An element that is read, apart from the own row. -/
theorem R_elem' {w : World} {base b n c i : Nat} {rows : List (List Int)} (h : kB.R 34 w base (fun _ => True) (.slice (some ⟨b, 0, none⟩) n c) rows) (hn : rows.length = n) (r : List Int) (hr : rows[i]? = some r) :
    ∃ B d, w.cell? ⟨b, i, none⟩ = some (.slice B r.length d) ∧ r.length ≤ d ∧ kB.M w base (fun k => True ∧ some k ≠ some b) r [.slice B r.length d] := by
  have hil : i < rows.length := (List.getElem?_eq_some_iff.1 hr).1
  obtain ⟨cs, hcl, hM, hc⟩ := Kd.R_get h [] i (by omega) (by omega)
  have he : rows.getD (i : Int).toNat [] = r := by simp [List.getD_eq_getElem?_getD, hr]
  rw [he] at hM
  obtain ⟨v, rfl, hR⟩ := hM
  obtain ⟨B, d, rfl, hl, hC⟩ := Kd.R_reads hR
  refine ⟨B, d, ?_, hl, _, rfl, hR⟩
  have h3 := hc 0 _ rfl
  rw [add_plain] at h3
  simpa [Kd.slice] using h3
theorem reps_one1 {w : World} {base : Nat} {ok : Nat → Prop} {rows : List (List Int)} {inner : List Value} (h : Reps (kB.M w base ok) 1 rows inner) : ∀ u ∈ inner, u.oneCell' = true := by
  intro u hu
  obtain ⟨j, hj, rfl⟩ := List.getElem_of_mem hu
  have hl := h.1
  rw [Nat.mul_one] at hl
  have hp := h.2 j (rows[j]'(by omega)) (List.getElem?_eq_getElem _)
  refine Kd.K_one kB (Kd.K_of_M kB hp) _ ?_
  rw [Nat.mul_one, List.drop_eq_getElem_cons hj]
  exact List.mem_cons_self
theorem C_of_M {w : World} {base : Nat} {ok : Nat → Prop} {r : List Int} {B : Option Addr} {d : Nat} (h : kB.M w base ok r [.slice B r.length d]) : kb.C w B r.length r := by
  obtain ⟨A, c, he, _, h2⟩ := Kd.K_of_M kB h
  injection he with he _
  injection he with he _ _
  subst he
  exact h2
set_option maxHeartbeats 4000000 in
set_option maxRecDepth 100000 in
theorem take_in (W : World) (g : Nat) (lost taken : Int) (rows : List (List Int)) (h : PAt W g lost taken rows) (i : Nat) (r : List Int) (hi : rows[i]? = some r) :
    Calls Try.prog 25 #[.pointer (some ⟨g, 0, none⟩), .int .i64 i] W fun e w' => ∃ B d, e = .returned (.tuple #[.slice B r.length d, .bool true]) ∧ r.length ≤ d ∧ kB.M w' (g + 1) (fun _ => True) r [.slice B r.length d] ∧ PAt w' g lost taken (rows.take i ++ rows.drop (i + 1)) ∧ FR g W w' := by
  have hu25 := Try.underlying25
  have hu31 := Try.underlying31
  have hu54 := Try.underlying54
  have hu52 := Try.underlying52
  have hil : i < rows.length := (List.getElem?_eq_some_iff.1 hi).1
  have HP := Aside0.mk h
  obtain ⟨A, c, hB0, hR0, hok⟩ := h
  obtain ⟨b, rfl⟩ : ∃ b, A = some ⟨b, 0, none⟩ := by
    obtain ⟨_, inner, ho, _⟩ := hR0
    rcases ho.2 with ⟨hv, hz⟩ | ⟨g, cap', cur, hv, _⟩
    · exfalso; injection hv with _ hv _; omega
    · injection hv with ha _ _
      exact ⟨g, ha⟩
  obtain ⟨m, hm⟩ : ∃ m, rows.length = i + 1 + m := ⟨rows.length - (i + 1), by omega⟩
  rw [hm] at hB0 hR0
  have hn4 : i + 1 + m ≤ 4096 := by rw [← hm]; exact hok.1
  have d1 : decide ((i : Int) < 0) = false := decide_eq_false (by omega)
  have d2 : decide (rows.length ≤ i) = false := decide_eq_false (by omega)
  have hwr : wrap64 ((i : Int) + 1) = (i : Int) + 1 := by unfold wrap64; omega
  have BP0 := Aside0.mk hB0
  have HR0 := Aside0.mk hR0
  have HOK := Aside0.mk hok
  have HM := Aside0.mk hm
  have HIL := Aside0.mk hil
  have HI := Aside0.mk hi
  clear hB0 hR0 hok hm hil hi

  go_enter Try.func25, Try.ntmps25
  go_wp2_with fail
  refine (len_c _ g lost taken rows HP.out).mono ?_
  rintro e w1 ⟨rfl, hb1⟩
  have HB2 := Aside0.mk hb1
  have BP2 : Aside0 (w1.heap[g]? = some (.cells #[.int .i64 lost, .int .i64 taken, .slice (some ⟨b, 0, none⟩) (i + 1 + m) c] 54 (0, 0))) := ⟨(hb1.block _ (blk_lt BP0.out)).trans BP0.out⟩
  have RL2 := Aside0.mk (Kd.R_below HR0.out hb1)
  clear hb1
  have zP3_0 : w1.cell? ⟨g, 0, none⟩ = some (.int .i64 lost) := (blk_cell BP2.out 0).trans rfl
  have zP3_1 : w1.cell? ⟨g, 1, none⟩ = some (.int .i64 taken) := (blk_cell BP2.out 1).trans rfl
  have zP3_2 : w1.cell? ⟨g, 2, none⟩ = some (.slice (some ⟨b, 0, none⟩) (i + 1 + m) c) := (blk_cell BP2.out 2).trans rfl
  obtain ⟨B, d, hcell, hrd, hM0⟩ := R_elem' RL2.out HM.out r HI.out
  have HM0 := Aside0.mk hM0
  have HRD := Aside0.mk hrd
  clear hM0 hrd
  have hlt : decide ((i : Int) < ((i + 1 + m : Nat) : Int)) = true := decide_eq_true (by omega)
  go_wp2_with fail
  obtain ⟨inner, hown, hrep⟩ := RL2.out.2
  have h1c : ∀ u ∈ inner, u.oneCell' = true := by
    exact reps_one1 hrep
  have hown' : w1.ownsRow (g + 1) 34 1 (.slice (some ⟨b, 0, none⟩) (i + 1 + m) c) (i + 1 + m) inner := by have := HM.out; rw [← this]; rw [this]; rw [this] at hown; exact hown
  have HREP := Aside0.mk hrep
  clear hrep
  clear zP3_0 zP3_1 zP3_2
  clear hcell
  refine (del_c w1 (g + 1) b i m c inner hown' hn4 h1c).mono ?_
  rintro e w2 ⟨rfl, ho2, hg2⟩
  have hbg : (b : Nat) ≠ g := by have := own_base hown' b rfl; omega
  have BQ2 : Aside0 (w2.heap[g]? = some (.cells #[.int .i64 lost, .int .i64 taken, .slice (some ⟨b, 0, none⟩) (i + 1 + m) c] 54 (0, 0))) := ⟨blk_grown BP2.out hg2 (fun e => hbg (by injection e with e; exact e.symm))⟩
  have HO2 := Aside0.mk ho2
  have HG2 := Aside0.mk hg2
  have HOWN := Aside0.mk hown'
  have HBG := Aside0.mk hbg
  have H1C := Aside0.mk h1c
  clear ho2 hg2 hown' hown hbg h1c
  have zp0 : w2.cell? ⟨g, 0, none⟩ = some (.int .i64 lost) := (blk_cell BQ2.out 0).trans rfl
  have zp1 : w2.cell? ⟨g, 1, none⟩ = some (.int .i64 taken) := (blk_cell BQ2.out 1).trans rfl
  have zp2 : w2.cell? ⟨g, 2, none⟩ = some (.slice (some ⟨b, 0, none⟩) (i + 1 + m) c) := (blk_cell BQ2.out 2).trans rfl
  have zf := blk_frozen BQ2.out 2
  go_wp2_with fail
  go_ret2
  have hpost : (w2.setCell ⟨g, 2, none⟩ (.slice (some ⟨b, 0, none⟩) (i + m) c)).heap[g]? = some (.cells #[.int .i64 lost, .int .i64 taken, .slice (some ⟨b, 0, none⟩) (i + m) c] 54 (0, 0)) := blk_put (cs := #[.int .i64 lost, .int .i64 taken, .slice (some ⟨b, 0, none⟩) (i + 1 + m) c]) BQ2.out 2 _ rfl
  refine ⟨B, d, rfl, HRD.out, ?_, ?_, ?_⟩
  · exact kB.M_mono (fun _ _ => trivial) (Kd.M_far (Kd.M_types (Kd.M_grown HM0.out HG2.out (fun k hk => hk.2)) BQ2.out (by decide)) (fun k hk => hk.2) _)
  · refine ⟨some ⟨b, 0, none⟩, c, ?_, ?_, ?_⟩
    · have e : (rows.take i ++ rows.drop (i + 1)).length = i + m := by have := HM.out; rw [List.length_append, List.length_take, List.length_drop]; omega
      rw [e]; exact hpost
    · have e : (rows.take i ++ rows.drop (i + 1)).length = i + m := by have := HM.out; rw [List.length_append, List.length_take, List.length_drop]; omega
      rw [e]; exact Kd.R_set (R_cut HREP.out HO2.out HG2.out HM.out) BQ2.out (by decide) 2 _
    · exact ok_cut HOK.out i
  · exact FR.trans (FR.of_below HP.out.lt HB2.out) (FR.made BP2.out hpost HG2.out (grown_set _ _ _ _) (.inl rfl))
theorem take_out (W : World) (g : Nat) (lost taken : Int) (rows : List (List Int)) (h : PAt W g lost taken rows) (i : Int) (hi : i < 0 ∨ (rows.length : Int) ≤ i) : Calls Try.prog 25 #[.pointer (some ⟨g, 0, none⟩), .int .i64 i] W fun e w' => e = .returned (.tuple #[.slice none 0 0, .bool false]) ∧ Below W.heap.size W w' := by
  have hu25 := Try.underlying25
  have HP := Aside0.mk h
  clear h
  rcases hi with h0 | h0
  · have d0 : decide (i < 0) = true := decide_eq_true h0
    go_enter Try.func25, Try.ntmps25
    go_wp2
    go_ret2
    exact ⟨rfl, by repeat (first | exact Below.refl _ _ | apply below_drew | apply pw_below_drewN)⟩
  · have d0 : decide (i < 0) = false := decide_eq_false (by omega)
    have d1 : decide ((rows.length : Int) ≤ i) = true := decide_eq_true (by omega)
    go_enter Try.func25, Try.ntmps25
    go_wp2_with fail
    refine (len_c _ g lost taken rows HP.out).mono ?_
    rintro e w1 ⟨rfl, hb⟩
    go_wp2_with fail
    go_ret2
    exact ⟨rfl, hb⟩
theorem take_nil (W : World) (i : Int) : Calls Try.prog 25 #[.pointer none, .int .i64 i] W fun e w' => e = .returned (.tuple #[.slice none 0 0, .bool false]) ∧ Below W.heap.size W w' := by
  have hu25 := Try.underlying25
  rcases (by omega : i < 0 ∨ 0 ≤ i) with h0 | h0
  · have d0 : decide (i < 0) = true := decide_eq_true h0
    go_enter Try.func25, Try.ntmps25
    go_wp2
    go_ret2
    exact ⟨rfl, by repeat (first | exact Below.refl _ _ | apply below_drew | apply pw_below_drewN)⟩
  · have d0 : decide (i < 0) = false := decide_eq_false (by omega)
    have d1 : decide ((0 : Int) ≤ i) = true := decide_eq_true (by omega)
    go_enter Try.func25, Try.ntmps25
    go_wp2_with fail
    refine (len_nil _).mono ?_
    rintro e w1 ⟨rfl, hb⟩
    go_wp2_with fail
    go_ret2
    exact ⟨rfl, hb⟩
def sendS (s : Int × List (List Int)) (r : List Int) : Int × List (List Int) := if 4096 ≤ s.2.length then (wrap64 (s.1 + 1), s.2) else (s.1, s.2 ++ [r])
def sendOf (lost : Int) (rows : List (List Int)) (args : List (List Int)) : Int × List (List Int) := args.foldl sendS (lost, rows)
theorem send_step (lost : Int) (rows args : List (List Int)) (k : Nat) (r : List Int) (hr : args[k]? = some r) : sendOf lost rows (args.take (k + 1)) = sendS (sendOf lost rows (args.take k)) r := by
  unfold sendOf
  rw [List.take_add_one, hr, List.foldl_append]
  rfl
theorem ok_snoc {rows : List (List Int)} (h : okRows rows) (hl : ¬ 4096 ≤ rows.length) {r : List Int} (hr : r.length < 140737488351233) : okRows (rows ++ [r]) := by
  refine ⟨by rw [List.length_append]; simp; omega, fun x hx => ?_⟩
  rcases List.mem_append.1 hx with hx | hx
  · exact h.2 x hx
  · rw [List.mem_singleton.1 hx]; exact hr
theorem send_nil (W : World) (v : Value) : Calls Try.prog 14 #[.pointer none, v] W fun e w' => e = .returned (.int .i64 0) ∧ Below W.heap.size W w' := by
  have hu25 := Try.underlying25
  go_enter Try.func14, Try.ntmps14
  go_wp2
  go_ret
  exact ⟨rfl, by repeat (first | exact Below.refl _ _ | apply below_drew | apply pw_below_drewN)⟩
set_option maxHeartbeats 8000000 in
set_option maxRecDepth 100000 in
theorem send_c (W : World) (g : Nat) (lost taken : Int) (rows : List (List Int)) (h : PAt W g lost taken rows) (A0 : Option Addr) (c0 : Nat) (args : List (List Int)) (hC : ∀ w, FR g W w → kB.C w A0 args.length args) (hal : args.length < 140737488351233) (har : ∀ r ∈ args, r.length < 140737488351233) :
    Calls Try.prog 14 #[.pointer (some ⟨g, 0, none⟩), .slice A0 args.length c0] W fun e w' => e = .returned (.int .i64 (sendOf lost rows args).2.length) ∧ PAt w' g (sendOf lost rows args).1 taken (sendOf lost rows args).2 ∧ FR g W w' := by
  have hu25 := Try.underlying25
  have hu31 := Try.underlying31
  have hu34 := Try.underlying34
  have hu54 := Try.underlying54
  have hu52 := Try.underlying52
  have HP := Aside0.mk h
  have HC := Aside0.mk hC
  have HAR := Aside0.mk har
  clear h hC har
  go_enter Try.func14, Try.ntmps14
  go_wp2_with fail
  go_loopw [11] (fun v11 w' => ∃ k : Nat, k ≤ args.length ∧ v11 = .int .i64 k ∧ Aside0 (PAt w' g (sendOf lost rows (args.take k)).1 taken (sendOf lost rows (args.take k)).2) ∧ Aside0 (FR g W w')) (fun v _ => args.length - (intOf v).toNat)
  case atStart => exact ⟨0, by omega, rfl, HP, ⟨FR.refl _ _⟩⟩
  case round =>
    obtain ⟨k, hk, rfl, HO, HW⟩ := hrel
    obtain ⟨lo, hlo⟩ : ∃ q, q = (sendOf lost rows (args.take k)).1 := ⟨_, rfl⟩
    obtain ⟨rs, hrs⟩ : ∃ q, q = (sendOf lost rows (args.take k)).2 := ⟨_, rfl⟩
    have HLO := Aside0.mk hlo
    have HRS := Aside0.mk hrs
    have HPW := Aside0.mk HO.out
    obtain ⟨A, c, hB0, hR0, hok⟩ := HO.out
    rw [← hlo, ← hrs] at hB0
    rw [← hrs] at hR0 hok
    clear HO hlo hrs
    have BP0 := Aside0.mk hB0
    have HR0 := Aside0.mk hR0
    have HOK := Aside0.mk hok
    clear hB0 hR0 hok
    by_cases hlt : k < args.length
    case neg =>
      have hke : k = args.length := by omega
      have zq2 : wr.cell? ⟨g, 2, none⟩ = some (.slice A rs.length c) := (blk_cell BP0.out 2).trans rfl
      go_wp2_with fail
      go_ret
      rw [hke, List.take_length] at HLO HRS
      refine ⟨by rw [HRS.out]; rfl, ?_, HW.out⟩
      have := HPW.out
      rw [hke, List.take_length] at this
      exact this
    obtain ⟨r, hrk⟩ : ∃ r, args[k]? = some r := ⟨_, List.getElem?_eq_getElem hlt⟩
    obtain ⟨ad0, B, cB, hA0, hcell, hcB, hC0⟩ := row_at (HC.out wr HW.out) k r hrk
    subst hA0
    have HC0 := Aside0.mk hC0
    have HcB := Aside0.mk hcB
    have HST := Aside0.mk (send_step lost rows args k r hrk)
    have HRL := Aside0.mk (HAR.out r (List.mem_of_getElem? hrk))
    clear hrk hC0 hcB
    by_cases h4 : 4096 ≤ rs.length
    case pos =>
      have z0 : wr.cell? ⟨g, 0, none⟩ = some (.int .i64 lo) := (blk_cell BP0.out 0).trans rfl
      have z1 : wr.cell? ⟨g, 1, none⟩ = some (.int .i64 taken) := (blk_cell BP0.out 1).trans rfl
      have z2 : wr.cell? ⟨g, 2, none⟩ = some (.slice A rs.length c) := (blk_cell BP0.out 2).trans rfl
      have d4 : decide (4096 ≤ rs.length) = true := decide_eq_true h4
      have zf := blk_frozen BP0.out 0
      go_wp2_with fail
      have hpost : (wr.setCell ⟨g, 0, none⟩ (.int .i64 (wrap64 (lo + 1)))).heap[g]? = some (.cells #[.int .i64 (wrap64 (lo + 1)), .int .i64 taken, .slice A rs.length c] 54 (0, 0)) := blk_put (cs := #[.int .i64 lo, .int .i64 taken, .slice A rs.length c]) BP0.out 0 _ rfl
      have HN := Aside0.mk (show sendOf lost rows (args.take (k + 1)) = (wrap64 (lo + 1), rs) by rw [HST.out]; unfold sendS; rw [← HRS.out, ← HLO.out, if_pos h4])
      go_roundw
      case rel => exact ⟨k + 1, by omega, by go_num, ⟨by rw [HN.out]; exact ⟨A, c, hpost, Kd.R_set HR0.out BP0.out (by decide) 0 _, HOK.out⟩⟩, ⟨FR.trans HW.out (FR.made BP0.out hpost (grown_refl _ _) (grown_set _ _ _ _) (.inl rfl))⟩⟩
      case measure => simp [intOf]; omega
    case neg =>
      have z0 : wr.cell? ⟨g, 0, none⟩ = some (.int .i64 lo) := (blk_cell BP0.out 0).trans rfl
      have z1 : wr.cell? ⟨g, 1, none⟩ = some (.int .i64 taken) := (blk_cell BP0.out 1).trans rfl
      have z2 : wr.cell? ⟨g, 2, none⟩ = some (.slice A rs.length c) := (blk_cell BP0.out 2).trans rfl
      have d4 : decide (4096 ≤ rs.length) = false := decide_eq_false h4
      go_upto_region 8 with fail
      refine start_ (n := 12) (S := fun w' => w'.cell? ⟨g, 0, none⟩ = some (.int .i64 lo) ∧ w'.cell? ⟨g, 1, none⟩ = some (.int .i64 taken) ∧ w'.cell? ⟨g, 2, none⟩ = some (.slice A rs.length c)) (ds := [11]) #[false, false, false, false, false, false, false, false, false, false, false, false] (by kernel_rfl) rfl rfl ⟨z0, z1, z2⟩ (fun hHeld => ?_)
      refine pure_ (i := 0) (N := some 30) (v := ?_) (a' := ?_) #[true, false, false, false, false, false, false, false, false, false, false, false] rfl rfl (by kernel_rfl) (fun _ _ _ h => h) (Or.inl ⟨by rfl, ?_⟩) ?_ ?_
      rotate_left
      · intro w'
        go_simp
        with_reducible rfl
      rotate_left
      · simp only [Act.put, List.setIfInBounds_toArray, List.set_cons_zero, List.set_cons_succ, i64_w, i32_w]
        rfl
      refine pure_ (i := 1) (N := some 31) (v := ?_) (a' := ?_) #[true, true, false, false, false, false, false, false, false, false, false, false] rfl rfl (by kernel_rfl) (fun _ _ _ h => h) (Or.inl ⟨by rfl, ?_⟩) ?_ ?_
      rotate_left
      · intro w'
        go_simp
        with_reducible rfl
      rotate_left
      · simp only [Act.put, List.setIfInBounds_toArray, List.set_cons_zero, List.set_cons_succ, i64_w, i32_w]
        rfl
      refine pure_ (i := 2) (N := some 32) (v := ?_) (a' := ?_) #[true, true, true, false, false, false, false, false, false, false, false, false] rfl rfl (by kernel_rfl) (fun _ _ _ h => h) (Or.inl ⟨by rfl, ?_⟩) ?_ ?_
      rotate_left
      · intro w'
        go_simp
        with_reducible rfl
      rotate_left
      · simp only [Act.put, List.setIfInBounds_toArray, List.set_cons_zero, List.set_cons_succ, i64_w, i32_w]
        rfl
      refine pure_ (i := 3) (N := some 33) (v := ?_) (a' := ?_) #[true, true, true, true, false, false, false, false, false, false, false, false] rfl rfl (by kernel_rfl) (fun _ _ _ h => h) (Or.inl ⟨by rfl, ?_⟩) ?_ ?_
      rotate_left
      · intro w'
        go_simp
        with_reducible rfl
      rotate_left
      · simp only [Act.put, List.setIfInBounds_toArray, List.set_cons_zero, List.set_cons_succ, i64_w, i32_w]
        rfl
      refine pure_ (i := 5) (N := some 35) (v := ?_) (a' := ?_) #[true, true, true, true, false, true, false, false, false, false, false, false] rfl rfl (by kernel_rfl) (fun _ _ _ h => h) (Or.inl ⟨by rfl, ?_⟩) ?_ ?_
      rotate_left
      · intro w'
        go_simp
        with_reducible rfl
      rotate_left
      · simp only [Act.put, List.setIfInBounds_toArray, List.set_cons_zero, List.set_cons_succ, i64_w, i32_w]
        rfl
      refine take_ (i := 4) (N := some 34) (v := ?_) (a' := ?_) #[true, true, true, true, true, true, false, false, false, false, false, false] rfl rfl (by kernel_rfl) (fun _ _ _ h => h) (Or.inl ⟨by rfl, ?_⟩) hHeld ?_ ?_
      rotate_left
      · rintro w' ⟨s0, s1, s2⟩
        go_simp
        with_reducible rfl
      rotate_left
      · simp only [Act.put, List.setIfInBounds_toArray, List.set_cons_zero, List.set_cons_succ, i64_w, i32_w]
        rfl
      refine one_ (i := 6) (N := some 36) #[true, true, true, true, true, true, true, false, false, false, false, false] rfl rfl (by kernel_rfl) (by decide) (fun K hK => ?_)
      refine goes_ Try.func24 (by kernel_rfl) rfl #[.slice B r.length cB] (by rfl) rfl rfl (by simp only [List.map_toArray, List.map_cons, List.map_nil]; rfl) ?_
      with_reducible refine (clone_v B cB r _ (Kd.C_drew HC0.out) HcB.out HRL.out).mono ?_
      rintro e v6 ⟨Bn, dn, rfl, hRn, hb6⟩
      refine ⟨_, rfl, ?_⟩
      have HB6 := Aside0.mk (below_step (below_drew (Below.refl _ wr)) hb6)
      have BP6 : Aside0 (v6.heap[g]? = some (.cells #[.int .i64 lo, .int .i64 taken, .slice A rs.length c] 54 (0, 0))) := ⟨blk_below BP0.out HB6.out⟩
      have HR6 := Aside0.mk (Kd.R_below HR0.out HB6.out)
      have HSZ := Aside0.mk (show g + 1 ≤ wr.heap.size from blk_lt BP0.out)
      have HM6 : Aside0 (kB.M v6 (g + 1) (fun k => True ∧ some k ≠ (Value.slice A rs.length c).ownBlock) r [.slice Bn r.length dn]) := ⟨⟨_, rfl, Kd.R_lower (Kd.R_newR hRn (show kB.R 34 wr.drew (g + 1) (fun _ => True) (.slice A rs.length c) rs from HR0.out)) HSZ.out⟩⟩
      clear hRn hb6
      refine hK.out _ _ ⟨pw_cell_below HB6.out z0, pw_cell_below HB6.out z1, pw_cell_below HB6.out z2⟩ (fun hHeld => ?_)
      clear hK K
      refine norm_ (a' := ?_) ?_ ?_
      rotate_left
      · show Act.put _ (some 36) _ = _
        simp only [Act.put, List.setIfInBounds_toArray, List.set_cons_zero, List.set_cons_succ, i64_w, i32_w]
        rfl
      refine one_ (i := 7) (N := some 37) #[true, true, true, true, true, true, true, true, false, false, false, false] rfl rfl (by kernel_rfl) (by decide) (fun K hK => ?_)
      refine value_ (w1 := ?_) (v := ?_) (by rfl) rfl ?_ ?_
      rotate_left 2
      · go_simp
        constructor
        · rfl
        · rfl
      refine hK.out _ _ ⟨pw_cell_below (below_alloc (Below.refl _ _) _) (pw_cell_below HB6.out z0), pw_cell_below (below_alloc (Below.refl _ _) _) (pw_cell_below HB6.out z1), pw_cell_below (below_alloc (Below.refl _ _) _) (pw_cell_below HB6.out z2)⟩ (fun hHeld => ?_)
      clear hK K
      refine norm_ (a' := ?_) ?_ ?_
      rotate_left
      · show Act.put _ (some 37) _ = _
        simp only [Act.put, List.setIfInBounds_toArray, List.set_cons_zero, List.set_cons_succ, i64_w, i32_w]
        rfl
      refine one_ (i := 8) (N := some 38) #[true, true, true, true, true, true, true, true, true, false, false, false] rfl rfl (by kernel_rfl) (by decide) (fun K hK => ?_)
      refine Kd.R_append_step kB (w0 := v6) (g + 1) (by rfl) (.tmp 34) (.tmp 37) 31 34 (.slice none 0 0) 24 rfl Try.underlying31 info34' rfl (by decide) (by decide) (.slice A rs.length c) rs r [.slice Bn r.length dn] (fun _ => True) (fun k => True ∧ some k ≠ (Value.slice A rs.length c).ownBlock) rfl rfl HM6.out (fun _ hk => hk) (fun _ _ => trivial) HR6.out (Below.refl _ _) (Nat.le_trans HSZ.out HB6.out.size) (by omega) ?_
      intro v8 w8 hR8 hb8 hg8 hat8
      obtain ⟨A8, c8, rfl⟩ := Kd.R_slice hR8
      have HR8 := Aside0.mk hR8
      have HG8 := Aside0.mk hg8
      have HAT := Aside0.mk hat8
      have BP8 : Aside0 (w8.heap[g]? = some (.cells #[.int .i64 lo, .int .i64 taken, .slice A rs.length c] 54 (0, 0))) := ⟨blk_grown BP6.out hg8 (Kd.R_ne HR6.out BP6.out (by decide))⟩
      clear hR8 hb8 hg8 hat8
      have k2 : w8.cell? ⟨g, 2, none⟩ = some (.slice A rs.length c) := (blk_cell BP8.out 2).trans rfl
      have f2 := blk_frozen BP8.out 2
      refine hK.out _ _ ⟨(blk_cell BP8.out 0).trans rfl, (blk_cell BP8.out 1).trans rfl, (blk_cell BP8.out 2).trans rfl⟩ (fun hHeld => ?_)
      clear hK K
      refine norm_ (a' := ?_) ?_ ?_
      rotate_left
      · show Act.put _ (some 38) _ = _
        simp only [Act.put, List.setIfInBounds_toArray, List.set_cons_zero, List.set_cons_succ, i64_w, i32_w]
        rfl
      refine pure_ (i := 9) (N := some 39) (v := ?_) (a' := ?_) #[true, true, true, true, true, true, true, true, true, true, false, false] rfl rfl (by kernel_rfl) (fun _ _ _ h => h) (Or.inl ⟨by rfl, ?_⟩) ?_ ?_
      rotate_left
      · intro w'
        go_simp
        with_reducible rfl
      rotate_left
      · simp only [Act.put, List.setIfInBounds_toArray, List.set_cons_zero, List.set_cons_succ, i64_w, i32_w]
        rfl
      refine pure_ (i := 10) (N := some 40) (v := ?_) (a' := ?_) #[true, true, true, true, true, true, true, true, true, true, true, false] rfl rfl (by kernel_rfl) (fun _ _ _ h => h) (Or.inl ⟨by rfl, ?_⟩) ?_ ?_
      rotate_left
      · intro w'
        go_simp
        with_reducible rfl
      rotate_left
      · simp only [Act.put, List.setIfInBounds_toArray, List.set_cons_zero, List.set_cons_succ, i64_w, i32_w]
        rfl
      refine last_ (i := 11) (N := none) #[true, true, true, true, true, true, true, true, true, true, true, true] rfl rfl (by kernel_rfl) (by decide) (fun K hK => ?_)
      refine skip_ (w1 := ?_) (by rfl) rfl ?_ ?_
      rotate_left
      · go_simp
        rfl
      refine hK.out _ _ ?_
      clear hK K
      refine done_ (by kernel_rfl) ?_
      go_wp2_with fail
      have hpost : (w8.setCell ⟨g, 2, none⟩ (.slice A8 (rs.length + 1) c8)).heap[g]? = some (.cells #[.int .i64 lo, .int .i64 taken, .slice A8 (rs.length + 1) c8] 54 (0, 0)) := blk_put (cs := #[.int .i64 lo, .int .i64 taken, .slice A rs.length c]) BP8.out 2 _ rfl
      have hln : (rs ++ [r]).length = rs.length + 1 := by simp
      rw [hln] at HAT
      have HN := Aside0.mk (show sendOf lost rows (args.take (k + 1)) = (lo, rs ++ [r]) by rw [HST.out]; unfold sendS; rw [← HRS.out, ← HLO.out, if_neg h4])
      go_roundw
      case rel => exact ⟨k + 1, by omega, by go_num, ⟨by rw [HN.out]; exact ⟨A8, c8, (by rw [hln]; exact hpost), (by have := Kd.R_set HR8.out BP8.out (by decide) 2 (.slice A8 (rs.length + 1) c8); exact this), ok_snoc HOK.out h4 HRL.out⟩⟩, ⟨FR.trans HW.out (FR.trans (FR.of_below HSZ.out HB6.out) (FR.made BP6.out hpost HG8.out (grown_set _ _ _ _) HAT.out))⟩⟩
      case measure => simp [intOf]; omega
end Go.Proofs.Ytnjhgckmfebdoaa.MAll

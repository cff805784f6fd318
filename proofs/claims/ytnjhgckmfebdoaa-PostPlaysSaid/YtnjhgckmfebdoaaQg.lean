/- Rows with marks; what stays; the reference's rows as strings. -/
import Derived.Test.YtnjhgckmfebdoaaQf
set_option linter.unusedVariables false
set_option linter.unusedSimpArgs false
namespace Go.Proofs.Ytnjhgckmfebdoaa.MAll
open Go.RowKit Go.Proofs.YtnjhgckmfebdoaaW.PrintWords Go.Proofs.YtnjhgckmfebdoaaW.PrintLast Go.Proofs.YtnjhgckmfebdoaaW.PrintMore
theorem below_via {a b : Nat} {W w w2 : World} (h : Below a W w) (hab : a ≤ b) (h2 : Below b w w2) : Below a W w2 :=
  ⟨h2.os.trans h.os, h2.tape.trans h.tape, h2.output.trans h.output, Nat.le_trans h.size h2.size, fun k hk => (h2.block k (Nat.lt_of_lt_of_le hk hab)).trans (h.block k hk)⟩
theorem FRS.low {g : Nat} {W w w2 : World} (h : FRS g W w) (hg : g ≤ W.heap.size) (h2 : Below W.heap.size w w2) : FRS g W w2 :=
  ⟨below_via h.below hg h2, fun k cs t hk h30 h9 => (h2.block k (blk_lt hk)).trans (h.block k cs t hk h30 h9)⟩
/-! rows with marks -/
def MkF (W : World) (base : Nat) (hr : List Hd) (rs : List (List Int)) (i : Nat) : Prop := ∀ (j : Nat) (h : Hd) (r : List Int), i ≤ j → hr[j]? = some h → rs[j]? = some r → ∃ b d, h = (some ⟨b, 0, none⟩, r.length, d) ∧ kb.R 5 W base (fun _ => True) (.slice (some ⟨b, 0, none⟩) (r.length + 2) d) (r ++ [165, 90])
theorem MkF.map {W w : World} {base : Nat} {hr : List Hd} {rs : List (List Int)} {i : Nat} (h : MkF W base hr rs i) (f : ∀ (b d n : Nat) (xs : List Int), kb.R 5 W base (fun _ => True) (.slice (some ⟨b, 0, none⟩) n d) xs → kb.R 5 w base (fun _ => True) (.slice (some ⟨b, 0, none⟩) n d) xs) : MkF w base hr rs i := fun j a r hj h1 h2 => by
  obtain ⟨b, d, e, hR⟩ := h j a r hj h1 h2
  exact ⟨b, d, e, f b d _ _ hR⟩
structure RowsAt (W : World) (base : Nat) (A : Option Addr) (n c : Nat) (hr : List Hd) (rs : List (List Int)) : Prop where
  len : hr.length = n
  len2 : rs.length = n
  row : kH.R 34 W base (fun _ => True) (.slice A n c) hr
  mark : MkF W base hr rs 0
  dist : Dist hr
theorem kH_frs {W w : World} {g base : Nat} {v : Value} {hr : List Hd} (h : kH.R 34 W base (fun _ => True) v hr) (hf : FRS g W w) : kH.R 34 w base (fun _ => True) v hr := by
  refine Kd.R_mono (Kd.R_move (Kd.R_bound h) (fun k hk => ?_)) (fun _ _ => trivial)
  obtain ⟨_, _, _, q, hq, cells, hc⟩ := hk
  have hq34 : q = 34 := by simpa [kH, Kd.scalar] using hq
  subst hq34
  exact hf.block k cells 34 hc (by decide) (by decide)
theorem R5_frs {W w : World} {g base : Nat} {v : Value} {xs : List Int} (h : kb.R 5 W base (fun _ => True) v xs) (hf : FRS g W w) : kb.R 5 w base (fun _ => True) v xs := by
  refine Kd.R_mono (Kd.R_move (Kd.R_bound h) (fun k hk => ?_)) (fun _ _ => trivial)
  obtain ⟨_, _, _, q, hq, cells, hc⟩ := hk
  have hq5 : q = 5 := by simpa [Kd.int, Kd.scalar] using hq
  subst hq5
  exact hf.block k cells 5 hc (by decide) (by decide)
theorem kH_fr {W w : World} {g base : Nat} {v : Value} {hr : List Hd} (h : kH.R 34 W base (fun _ => True) v hr) (hg : g < base) (ho : ∀ b, ownB W g = some b → b < base) (hf : FR g W w) : kH.R 34 w base (fun _ => True) v hr := by
  refine Kd.R_mono (Kd.R_move (Kd.R_bound h) (fun k hk => ?_)) (fun _ _ => trivial)
  obtain ⟨_, hb, hlt, _⟩ := hk
  exact hf.block k hlt (by omega) (fun e => by have := ho k e.symm; omega)
/-- A row of bytes is overwritten: lists of headers stay. -/
theorem kH_over {W w : World} {base b2 : Nat} {v u : Value} {hr : List Hd} {xs : List Int} (h : kH.R 34 W base (fun _ => True) v hr) (hR : kb.R 5 W b2 (fun _ => True) u xs) (hg : W.grownBy w u.ownBlock) : kH.R 34 w base (fun _ => True) v hr := by
  refine Kd.R_mono (Kd.R_grown (Kd.R_bound h) hg (fun k hk e => ?_)) (fun _ _ => trivial)
  obtain ⟨_, _, _, q, hq, cells, hc⟩ := hk
  have hq34 : q = 34 := by simpa [kH, Kd.scalar] using hq
  subst hq34
  obtain ⟨inner, ho⟩ := Kd.R_own hR
  obtain ⟨cells', hc'⟩ := own_typed ho k e.symm
  exact blk_ne hc hc' (by decide) rfl
/-- Two rows of bytes in different blocks. -/
theorem R5_far {W w : World} {base : Nat} {v u : Value} {xs : List Int} (h : kb.R 5 W base (fun _ => True) v xs) (hne : ∀ k, v.ownBlock = some k → u.ownBlock ≠ some k) (hg : W.grownBy w u.ownBlock) : kb.R 5 w base (fun _ => True) v xs := by
  have h1 : kb.R 5 W base (fun k => v.ownBlock = some k) v xs := Kd.R_of_own (Kd.own_of_R h) (fun _ hk => hk)
  exact Kd.R_mono (Kd.R_grown h1 hg (fun k hk e => hne k hk e.symm)) (fun _ _ => trivial)
theorem RowsAt.below {W w : World} {base n c : Nat} {A : Option Addr} {hr : List Hd} {rs : List (List Int)} (h : RowsAt W base A n c hr rs) (hb : Below W.heap.size W w) : RowsAt w base A n c hr rs := ⟨h.len, h.len2, Kd.R_below h.row hb, h.mark.map (fun _ _ _ _ h => Kd.R_below h hb), h.dist⟩
theorem RowsAt.frs {W w : World} {base n c g : Nat} {A : Option Addr} {hr : List Hd} {rs : List (List Int)} (h : RowsAt W base A n c hr rs) (hf : FRS g W w) : RowsAt w base A n c hr rs := ⟨h.len, h.len2, kH_frs h.row hf, h.mark.map (fun _ _ _ _ h => R5_frs h hf), h.dist⟩
theorem RowsAt.fr {W w : World} {base n c g : Nat} {A : Option Addr} {hr : List Hd} {rs : List (List Int)} {lost taken : Int} {ps : List (List Int)} (h : RowsAt W base A n c hr rs) (hP : PAt W g lost taken ps) (hg : g < base) (ho : ∀ b, ownB W g = some b → b < base) (hf : FR g W w) : RowsAt w base A n c hr rs := ⟨h.len, h.len2, kH_fr h.row hg ho hf, h.mark.map (fun _ _ _ _ h => R5_fr h hP hf), h.dist⟩
theorem MkF.block {W : World} {base : Nat} {hr : List Hd} {rs : List (List Int)} (h : MkF W base hr rs 0) (hl : hr.length = rs.length) (a : Hd) (ha : a ∈ hr) (k : Nat) (hk : hB a = some k) : base ≤ k ∧ k < W.heap.size := by
  obtain ⟨j, hj, rfl⟩ := List.getElem_of_mem ha
  obtain ⟨b, d, e, hR⟩ := h j _ (rs[j]'(by omega)) (Nat.zero_le _) (List.getElem?_eq_getElem hj) (List.getElem?_eq_getElem _)
  rw [e] at hk
  obtain ⟨inner, ho⟩ := Kd.R_own hR
  have hk2 : b = k := by simpa [hB, encH, Value.ownBlock] using hk
  subst hk2
  exact ⟨own_base ho b rfl, own_lt ho b rfl⟩
theorem row_bH {w : World} {base n c : Nat} {ok : Nat → Prop} {A : Option Addr} {xs : List Hd} (h : kH.R 34 w base ok (.slice A n c) xs) (hn : 0 < n) : ∃ b, A = some ⟨b, 0, none⟩ ∧ base ≤ b ∧ (Value.slice A n c).ownBlock = some b := by
  obtain ⟨_, inner, ho, _⟩ := h
  rcases ho.2 with ⟨hv, hz⟩ | ⟨g, cap', cur, hv, _⟩
  · exfalso; injection hv with _ hv _; omega
  · injection hv with ha _ _
    subst ha
    exact ⟨g, rfl, own_base ho g rfl, rfl⟩
theorem one_CH {W : World} {g : Nat} {h : Hd} (hb : W.heap[g]? = some (.cells #[encH h] 34 (0, 0))) : kH.C W (some ⟨g, 0, none⟩) 1 [h] :=
  Kd.C_of_reads (d := (none, 0, 0)) ⟨rfl, by decide, fun _ => ⟨_, rfl, fun j hj => by
    obtain rfl : j = 0 := by omega
    rw [add_plain]
    exact (blk_cell hb 0).trans rfl⟩⟩
/-- The rows as what Send is given. -/
theorem RowsAt.args {W : World} {base n c : Nat} {A : Option Addr} {hr : List Hd} {rs : List (List Int)} (h : RowsAt W base A n c hr rs) : kB.C W A rs.length rs := by
  have hl : hr.length = rs.length := h.len.trans h.len2.symm
  have hm : rs.length ≤ 9223372036854775807 := by
    have := Kd.C_max (Kd.R_reads' h.row).2.2
    omega
  refine ⟨rfl, hm, fun hp => ?_⟩
  obtain ⟨q, rfl, _, _⟩ := row_bH h.row (by have := h.len2; omega)
  refine ⟨_, rfl, fun j r hr' => ?_⟩
  have hj : j < hr.length := by rw [hl]; exact (List.getElem?_eq_some_iff.1 hr').1
  obtain ⟨b, d, e, hR⟩ := h.mark j _ r (Nat.zero_le _) (List.getElem?_eq_getElem hj) hr'
  have hrd := Kd.R_reads' (R5_first (n := r.length) hR rfl (by rw [List.length_append]; rfl))
  refine ⟨[.slice (some ⟨b, 0, none⟩) r.length d], rfl, ⟨_, d, rfl, hrd.2.1, hrd.2.2⟩, fun i u hu => ?_⟩
  rcases i with _ | i
  · simp only [List.getElem?_cons_zero, Option.some.injEq] at hu
    subst hu
    obtain ⟨hc, _⟩ := Kd.R_celln (none, 0, 0) h.row (j : Int) (by omega) (by have := h.len; omega)
    rw [Int.toNat_natCast, show rdOf (none, 0, 0) hr (j : Int) = hr[j] from by simp [rdOf, List.getD_eq_getElem?_getD, List.getElem?_eq_getElem hj], e] at hc
    show W.cell? ((⟨q, 0, none⟩ : Addr).add (j * 1 + 0)) = _
    rw [Nat.mul_one, Nat.add_zero, add_plain]
    exact hc
  · simp at hu
theorem RowsAt.snoc {W w : World} {base n c c' : Nat} {A A' : Option Addr} {hr : List Hd} {rs : List (List Int)} (h : RowsAt W base A n c hr rs) (b d : Nat) (r : List Int) (hrow : kH.R 34 w base (fun _ => True) (.slice A' (n + 1) c') (hr ++ [(some ⟨b, 0, none⟩, r.length, d)])) (hR : kb.R 5 W base (fun _ => True) (.slice (some ⟨b, 0, none⟩) (r.length + 2) d) (r ++ [165, 90])) (hnew : ∀ a ∈ hr, ∀ k, hB a = some k → k < b) (hg : W.grownBy w (Value.slice A n c).ownBlock) : RowsAt w base A' (n + 1) c' (hr ++ [(some ⟨b, 0, none⟩, r.length, d)]) (rs ++ [r]) := by
  have ho := Kd.own_of_R h.row
  refine ⟨by rw [List.length_append, h.len]; rfl, by rw [List.length_append, h.len2]; rfl, hrow, fun j a s _ h1 h2 => ?_, h.dist.snoc _ (fun k hk a ha hak => ?_)⟩
  · by_cases hj : j < hr.length
    · rw [List.getElem?_append_left hj] at h1
      rw [List.getElem?_append_left (by rw [h.len2, ← h.len]; exact hj)] at h2
      obtain ⟨b', d', e, hR'⟩ := h.mark j a s (Nat.zero_le _) h1 h2
      exact ⟨b', d', e, R5_own hR' ho hg⟩
    · have hj2 := (List.getElem?_eq_some_iff.1 h1).1
      rw [List.length_append, List.length_singleton] at hj2
      have hje : j = hr.length := by omega
      subst hje
      rw [List.getElem?_append_right (Nat.le_refl _), Nat.sub_self] at h1
      rw [show hr.length = rs.length from h.len.trans h.len2.symm, List.getElem?_append_right (Nat.le_refl _), Nat.sub_self] at h2
      simp only [List.getElem?_cons_zero, Option.some.injEq] at h1 h2
      subst h1 h2
      exact ⟨b, d, rfl, R5_own hR ho hg⟩
  · have hk2 : b = k := by simpa [hB, encH, Value.ownBlock] using hk
    have := hnew a ha k hak
    omega
theorem MkF.next {W w : World} {base : Nat} {hr : List Hd} {rs : List (List Int)} {j : Nat} (h : MkF W base hr rs j) (hd : Dist hr) (b n d : Nat) (hj : hr[j]? = some (some ⟨b, 0, none⟩, n, d)) (hg : W.grownBy w (some b)) : MkF w base hr rs (j + 1) := fun i a r hi h1 h2 => by
  obtain ⟨b', d', e, hR⟩ := h i a r (by omega) h1 h2
  refine ⟨b', d', e, R5_far hR (u := .slice (some ⟨b, 0, none⟩) n d) (fun k hk e2 => ?_) hg⟩
  have hk2 : b' = k := by simpa [Value.ownBlock] using hk
  have hk3 : b = k := by simpa [Value.ownBlock] using e2
  have hjl := (List.getElem?_eq_some_iff.1 hj).1
  have hil := (List.getElem?_eq_some_iff.1 h1).1
  have := List.pairwise_iff_getElem.1 hd j i hjl hil (by omega) b (by rw [(List.getElem?_eq_some_iff.1 hj).2]; rfl)
  rw [(List.getElem?_eq_some_iff.1 h1).2, e, hk2, ← hk3] at this
  exact this rfl
/-- A row that the post does not hold is overwritten. -/
theorem PH.over {W w : World} {g b2 : Nat} {lost taken : Int} {hs : List Hd} {rows : List (List Int)} {u : Value} {xs : List Int} (h : PH W g lost taken hs rows) (hR : kb.R 5 W b2 (fun _ => True) u xs) (hap : ∀ k, u.ownBlock = some k → ∀ a ∈ hs, hB a ≠ some k) (hg : W.grownBy w u.ownBlock) : PH w g lost taken hs rows := by
  obtain ⟨A, c, h1, h2, h3, h4, h5⟩ := h
  refine ⟨A, c, blk_grown h1 hg (fun e => Kd.R_ne hR h1 (by decide) e), kH_over h2 hR hg, h3, ⟨h4.1, fun j a r ha hr => ⟨(h4.2 j a r ha hr).1, R5_far (h4.2 j a r ha hr).2.1 (fun k hk e => hap k e a (List.mem_of_getElem? ha) hk) hg, (h4.2 j a r ha hr).2.2⟩⟩, h5⟩
theorem below_r5 {a b2 : Nat} {W w w2 : World} {u : Value} {xs : List Int} (h : Below a W w) (hR : kb.R 5 w b2 (fun _ => True) u xs) (hb : a ≤ b2) (ha : a ≤ w.heap.size) (hg : w.grownBy w2 u.ownBlock) : Below a W w2 := by
  obtain ⟨inner, ho⟩ := Kd.R_own hR
  exact pw_below_grown h _ ha hg (fun k hk => Nat.le_trans hb (own_base ho k hk))
/-- A list of headers is written elsewhere: the reference stays. -/
theorem MH.rH {W w : World} {g : Nat} {ss : List ByteArray} {lost taken : Int} {base : Nat} {v : Value} {hs : List Hd} (h : MH W g ss lost taken) (hR : kH.R 34 W base (fun _ => True) v hs) (hg : W.grownBy w v.ownBlock) : MH w g ss lost taken := by
  refine h.move (fun k cs ty hk hty => hg.block k (blk_lt hk) (fun e => ?_))
  obtain ⟨cells, hc⟩ := own_typed (Kd.own_of_R hR) k e.symm
  exact blk_ne hk hc (by rcases hty with rfl | rfl <;> decide) rfl
theorem MH.set1 {W : World} {g : Nat} {ss : List ByteArray} {lost taken : Int} (h : MH W g ss lost taken) : MH (W.setCell ⟨g, 1, none⟩ (.int .i64 (wrap64 (lost + 1)))) g ss (wrap64 (lost + 1)) taken ∧ FRS g W (W.setCell ⟨g, 1, none⟩ (.int .i64 (wrap64 (lost + 1)))) := by
  obtain ⟨A, c, h1, h2, h3⟩ := h
  exact ⟨⟨A, c, blk_put (cs := #[.slice A ss.length c, .int .i64 lost, .int .i64 taken]) h1 1 _ rfl, Kd.R_set h2 h1 (by decide) 1 _, h3⟩, FRS.of_set h1 (Below.refl _ _) (grown_set _ _ _ _)⟩
theorem MH.set2 {W : World} {g : Nat} {ss : List ByteArray} {lost taken : Int} (h : MH W g ss lost taken) : MH (W.setCell ⟨g, 2, none⟩ (.int .i64 (wrap64 (taken + 1)))) g ss lost (wrap64 (taken + 1)) ∧ FRS g W (W.setCell ⟨g, 2, none⟩ (.int .i64 (wrap64 (taken + 1)))) := by
  obtain ⟨A, c, h1, h2, h3⟩ := h
  exact ⟨⟨A, c, blk_put (cs := #[.slice A ss.length c, .int .i64 lost, .int .i64 taken]) h1 2 _ rfl, Kd.R_set h2 h1 (by decide) 2 _, h3⟩, FRS.of_set h1 (Below.refl _ _) (grown_set _ _ _ _)⟩
theorem MH.new (W : World) : MH (W.alloc (.cells #[.slice none 0 0, .int .i64 0, .int .i64 0] 30)) W.heap.size [] 0 0 := ⟨none, 0, blk_new _ _, Kd.R_nil _ _ _ _ _, Nat.zero_le _⟩
theorem PH.new {W : World} {g : Nat} {lost taken : Int} (h : PAt W g lost taken []) : PH W g lost taken [] [] := by
  obtain ⟨A, c, h1, ⟨h2, inner, ho, hr⟩, h3⟩ := h
  have hi : inner = [] := List.eq_nil_of_length_eq_zero (by have := hr.1; simpa using this)
  subst hi
  exact ⟨A, c, h1, Kd.R_of_own ho (fun _ _ => trivial), Nat.zero_le _, ⟨rfl, fun j a r h1 => by simp at h1⟩, List.Pairwise.nil⟩
theorem PH.lt {W : World} {g : Nat} {lost taken : Int} {hs : List Hd} {rows : List (List Int)} (h : PH W g lost taken hs rows) : g < W.heap.size := by
  obtain ⟨A, c, h1, _⟩ := h
  exact blk_lt h1
theorem PH.own {W : World} {g : Nat} {lost taken : Int} {hs : List Hd} {rows : List (List Int)} (h : PH W g lost taken hs rows) (b : Nat) (hb : ownB W g = some b) : b < W.heap.size := by
  obtain ⟨A, c, h1, h2, _⟩ := h
  rw [ownB_of h1] at hb
  exact own_lt (Kd.own_of_R h2) b hb
/-! the reference's rows as strings -/
theorem sendM_map (lost : Int) (rows : List (List Int)) (r : List Int) : sendM (lost, rows.map strOfNums) (strOfNums r) = ((sendS (lost, rows) r).1, (sendS (lost, rows) r).2.map strOfNums) := by
  unfold sendM sendS
  by_cases h4 : 4096 ≤ rows.length
  · rw [if_pos (by show 4096 ≤ (rows.map strOfNums).length; rw [List.length_map]; exact h4), if_pos h4]
  · rw [if_neg (by show ¬ 4096 ≤ (rows.map strOfNums).length; rw [List.length_map]; exact h4), if_neg h4]
    show (lost, rows.map strOfNums ++ [strOfNums r]) = (lost, (rows ++ [r]).map strOfNums)
    rw [List.map_append]
    rfl
theorem rst_map_out (rows : List (List Int)) (n : Int) (hn : n < 0 ∨ (rows.length : Int) ≤ n) : rst (rows.map strOfNums) n (rows.map strOfNums).length = (rows.map strOfNums, ByteArray.empty, false) := by
  rw [rst_out _ n (by rw [List.length_map]; exact hn) _ (Nat.le_refl _), List.take_length]
theorem rst_map_in (rows : List (List Int)) (i : Nat) (r : List Int) (hi : rows[i]? = some r) : rst (rows.map strOfNums) (i : Int) (rows.map strOfNums).length = ((rows.take i ++ rows.drop (i + 1)).map strOfNums, strOfNums r, true) := by
  have hl := (List.getElem?_eq_some_iff.1 hi).1
  rw [rst_in _ i (by rw [List.length_map]; exact hl) _ (Nat.le_refl _), if_neg (by rw [List.length_map]; omega), List.take_length, List.map_append, List.map_take, List.map_drop, List.getElem_map, (List.getElem?_eq_some_iff.1 hi).2]
theorem str_nil : strOfNums [] = ByteArray.empty := rfl
theorem map_at (rows : List (List Int)) (i : Nat) (r : List Int) (hi : rows[i]? = some r) : rdOf ByteArray.empty (rows.map strOfNums) (i : Int) = strOfNums r := by
  simp [rdOf, List.getD_eq_getElem?_getD, hi]
theorem drop_first {rows : List (List Int)} {j : Nat} : (rows.drop j).take 0 ++ (rows.drop j).drop (0 + 1) = rows.drop (j + 1) := by
  rw [List.take_zero, List.nil_append, List.drop_drop]
theorem rtake_in (W : World) (g : Nat) (rows : List (List Int)) (lost taken : Int) (h : MH W g (rows.map strOfNums) lost taken) (i : Nat) (r : List Int) (hi : rows[i]? = some r) :
    Calls Try.prog 17 #[.pointer (some ⟨g, 0, none⟩), .int .i64 i] W fun e w' => e = .returned (.tuple #[.string (strOfNums r), .bool true]) ∧ MH w' g ((rows.take i ++ rows.drop (i + 1)).map strOfNums) lost taken ∧ FRS g W w' := by
  have hk := rtake_c W g _ lost taken h (i : Int)
  rw [rst_map_in rows i r hi] at hk
  exact hk
theorem rtake_out (W : World) (g : Nat) (rows : List (List Int)) (lost taken : Int) (h : MH W g (rows.map strOfNums) lost taken) (n : Int) (hn : n < 0 ∨ (rows.length : Int) ≤ n) :
    Calls Try.prog 17 #[.pointer (some ⟨g, 0, none⟩), .int .i64 n] W fun e w' => e = .returned (.tuple #[.string (strOfNums []), .bool false]) ∧ MH w' g (rows.map strOfNums) lost taken ∧ FRS g W w' := by
  have hk := rtake_c W g _ lost taken h n
  rw [rst_map_out rows n hn] at hk
  exact hk
theorem PH.head {W : World} {g : Nat} {lost taken : Int} {hs : List Hd} {rows : List (List Int)} (h : PH W g lost taken hs rows) {i : Nat} {r : List Int} (hi : rows[i]? = some r) : ∃ B d, hs[i]? = some (B, r.length, d) ∧ r.length < 140737488351233 := by
  obtain ⟨A, c, h1, h2, h3, h4, h5⟩ := h
  have hl : i < hs.length := by rw [h4.1]; exact (List.getElem?_eq_some_iff.1 hi).1
  obtain ⟨a, ha⟩ : ∃ a, hs[i]? = some a := ⟨_, List.getElem?_eq_getElem hl⟩
  obtain ⟨e, _, e2⟩ := h4.2 i a r ha hi
  rcases a with ⟨B, n, d⟩
  have e3 : n = r.length := e
  exact ⟨B, d, by rw [ha, e3], e2⟩
theorem PH.cnt {W : World} {g : Nat} {lost taken : Int} {hs : List Hd} {rows : List (List Int)} (h : PH W g lost taken hs rows) : rows.length ≤ 4096 := by
  obtain ⟨A, c, h1, h2, h3, h4, h5⟩ := h
  rw [← h4.1]; exact h3
theorem PH.dist {W : World} {g : Nat} {lost taken : Int} {hs : List Hd} {rows : List (List Int)} (h : PH W g lost taken hs rows) : Dist hs := by
  obtain ⟨A, c, h1, h2, h3, h4, h5⟩ := h
  exact h5
theorem PH.old {W : World} {g : Nat} {lost taken : Int} {hs : List Hd} {rows : List (List Int)} (h : PH W g lost taken hs rows) (a : Hd) (ha : a ∈ hs) (k : Nat) (hk : hB a = some k) : k < W.heap.size := by
  obtain ⟨A, c, h1, h2, h3, h4, h5⟩ := h
  exact h4.lt a ha k hk
theorem PH.ownfrs {W w : World} {g g' : Nat} {lost taken : Int} {hs : List Hd} {rows : List (List Int)} (h : PH W g lost taken hs rows) (hf : FRS g' W w) (b : Nat) (hb : ownB w g = some b) : b < W.heap.size := by
  obtain ⟨A, c, h1, h2, _⟩ := h
  rw [ownB_of ((hf.block g _ 54 h1 (by decide) (by decide)).trans h1)] at hb
  exact own_lt (Kd.own_of_R h2) b hb
theorem kS_fr {W w : World} {g base : Nat} {lost taken : Int} {rows : List (List Int)} {v : Value} {ss : List ByteArray} (h : kS.R 9 W base (fun _ => True) v ss) (hP : PAt W g lost taken rows) (hf : FR g W w) : kS.R 9 w base (fun _ => True) v ss := by
  refine Kd.R_mono (Kd.R_move (Kd.R_bound h) (fun k hk => ?_)) (fun _ _ => trivial)
  obtain ⟨_, _, _, q, hq, cells, hc⟩ := hk
  have hq9 : q = 9 := by simpa [kS, Kd.scalar] using hq
  subst hq9
  exact (blk_fr' hc hP (by decide) hf).trans hc.symm
theorem lenH (hs : List Hd) (h : Hd) : (hs ++ [h]).length = hs.length + 1 := by rw [List.length_append]; rfl
end Go.Proofs.Ytnjhgckmfebdoaa.MAll

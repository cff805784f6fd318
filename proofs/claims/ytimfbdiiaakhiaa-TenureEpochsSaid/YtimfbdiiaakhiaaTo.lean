/- TenureEpochs: three watches over one register; the plain law. -/
import Derived.Test.YtimfbdiiaakhiaaTm
set_option linter.unusedVariables false
set_option linter.unusedSimpArgs false
namespace Go.Proofs.Ytimfbdiiaakhiaa.MAll
open Go.RowKit Go.Proofs.YtimfbdiiaakhiaaW.PrintWords Go.Proofs.YtimfbdiiaakhiaaW.PrintLast Go.Proofs.YtimfbdiiaakhiaaW.PrintMore
def upd {α : Type} (f : Nat → α) (k : Nat) (x : α) : Nat → α := fun i => if i = k then x else f i
theorem upd_same {α : Type} (f : Nat → α) (k : Nat) (x : α) : upd f k x k = x := if_pos rfl
theorem upd_other {α : Type} (f : Nat → α) {k i : Nat} (x : α) (h : i ≠ k) : upd f k x i = f i := if_neg h
theorem upd_map {α β : Type} (h : α → β) (f : Nat → α) (k : Nat) (x : α) (i : Nat) : upd (fun i => h (f i)) k (h x) i = h (upd f k x i) := by unfold upd; split <;> rfl
abbrev pt (g : Nat) : Value := .pointer (some ⟨g, 0, none⟩)
theorem put3 {w : World} {g t : Nat} (f : Nat → Value) (h : w.heap[g]? = some (.cells #[f 0, f 1, f 2] t (0, 0))) (k : Nat) (hk : k < 3) (x : Value) : (w.setCell ⟨g, k, none⟩ x).heap[g]? = some (.cells #[upd f k x 0, upd f k x 1, upd f k x 2] t (0, 0)) := by
  rcases (by omega : k = 0 ∨ k = 1 ∨ k = 2) with rfl | rfl | rfl
  · exact blk_put (cs := #[f 0, f 1, f 2]) h 0 _ rfl
  · exact blk_put (cs := #[f 0, f 1, f 2]) h 1 _ rfl
  · exact blk_put (cs := #[f 0, f 1, f 2]) h 2 _ rfl
theorem cell3 {w : World} {g t : Nat} (f : Nat → Value) (h : w.heap[g]? = some (.cells #[f 0, f 1, f 2] t (0, 0))) (k : Nat) (hk : k < 3) : w.cell? ⟨g, k, none⟩ = some (f k) := by
  rcases (by omega : k = 0 ∨ k = 1 ∨ k = 2) with rfl | rfl | rfl
  · exact (blk_cell h 0).trans rfl
  · exact (blk_cell h 1).trans rfl
  · exact (blk_cell h 2).trans rfl
/-- Another block is written: a watch stays. -/
theorem WAt.far {W W1 : World} {g q t : Nat} {cs : Array Value} {nd lf tk : Int} {sw : Bool} {v : List Int} {ag : Int} (h : WAt W g nd lf tk sw v ag) (hq : W.heap[q]? = some (.cells cs t (0, 0))) (h68 : 68 ≠ t) (h3 : 3 ≠ t) (hg : W.grownBy W1 (some q)) : WAt W1 g nd lf tk sw v ag := by
  obtain ⟨A, c, h1, h2, h4⟩ := h
  refine ⟨A, c, blk_grown h1 hg (fun e => blk_ne h1 hq h68 (by injection e)), Kd.R_mono (Kd.R_grown (Kd.R_types h2 hq (fun q hq => ?_)) hg (fun k hk => by simpa using hk.2)) (fun _ _ => trivial), h4⟩
  have hq3 : q = 3 := by simpa [Kd.int, Kd.scalar] using hq
  rw [hq3]; exact h3
theorem R_far3 {W W1 : World} {q t bb : Nat} {cs : Array Value} {u : Value} {xs : List Int} (h : (Kd.int .i64).R 3 W bb (fun _ => True) u xs) (hq : W.heap[q]? = some (.cells cs t (0, 0))) (h3 : 3 ≠ t) (hg : W.grownBy W1 (some q)) : (Kd.int .i64).R 3 W1 bb (fun _ => True) u xs := by
  refine Kd.R_mono (Kd.R_grown (Kd.R_types h hq (fun q hq => ?_)) hg (fun k hk => by simpa using hk.2)) (fun _ _ => trivial)
  have hq3 : q = 3 := by simpa [Kd.int, Kd.scalar] using hq
  rw [hq3]; exact h3
/-- Three watches (blocks G), their lives, the last lease, the register's value. -/
def EW (W0 w : World) (ga gl gt : Nat) (tk : Int) (G : Nat → Nat) (lv lf : Nat → Int) (sw : Nat → Bool) (vv : Nat → List Int) (ag : Nat → Int) (la : LeaseT) (A : Option Addr) (c : Nat) (v : List Int) : Prop :=
  w.heap[ga]? = some (.cells #[pt (G 0), pt (G 1), pt (G 2)] 56 (0, 0)) ∧ w.heap[gl]? = some (.cells #[.int .i64 (lv 0), .int .i64 (lv 1), .int .i64 (lv 2)] 57 (0, 0)) ∧ w.heap[gt]? = some (.cells (leaA la) 24 (0, 0)) ∧
  (∀ i, i < 3 → W0.heap.size ≤ G i ∧ WAt w (G i) (i : Int) (lf i) tk (sw i) (vv i) (ag i)) ∧ (∀ i j, i < 3 → j < 3 → i ≠ j → G i ≠ G j) ∧ (Kd.int .i64).R 3 w W0.heap.size (fun _ => True) (.slice A v.length c) v
section
variable {W0 w w1 : World} {ga gl gt : Nat} {tk : Int} {G : Nat → Nat} {lv lf : Nat → Int} {sw : Nat → Bool} {vv : Nat → List Int} {ag : Nat → Int} {la : LeaseT} {A : Option Addr} {c : Nat} {v : List Int}
theorem EW.below (h : EW W0 w ga gl gt tk G lv lf sw vv ag la A c v) (hb : Below w.heap.size w w1) : EW W0 w1 ga gl gt tk G lv lf sw vv ag la A c v := by
  obtain ⟨h1, h2, h3, h4, h5, h6⟩ := h
  exact ⟨blk_below h1 hb, blk_below h2 hb, blk_below h3 hb, fun i hi => ⟨(h4 i hi).1, (h4 i hi).2.below hb⟩, h5, Kd.R_below h6 hb⟩
theorem EW.at_ (h : EW W0 w ga gl gt tk G lv lf sw vv ag la A c v) (i : Nat) (hi : i < 3) : WAt w (G i) (i : Int) (lf i) tk (sw i) (vv i) (ag i) := (h.2.2.2.1 i hi).2
theorem EW.ge (h : EW W0 w ga gl gt tk G lv lf sw vv ag la A c v) (i : Nat) (hi : i < 3) : W0.heap.size ≤ G i := (h.2.2.2.1 i hi).1
theorem EW.ptr (h : EW W0 w ga gl gt tk G lv lf sw vv ag la A c v) (i : Nat) (hi : i < 3) : w.cell? ⟨ga, i, none⟩ = some (pt (G i)) := cell3 (fun i => pt (G i)) h.1 i hi
theorem EW.life (h : EW W0 w ga gl gt tk G lv lf sw vv ag la A c v) (i : Nat) (hi : i < 3) : w.cell? ⟨gl, i, none⟩ = some (.int .i64 (lv i)) := cell3 (fun i => .int .i64 (lv i)) h.2.1 i hi
theorem EW.C (h : EW W0 w ga gl gt tk G lv lf sw vv ag la A c v) : (Kd.int .i64).C w A v.length v := (Kd.R_reads' h.2.2.2.2.2).2.2
theorem EW.cap (h : EW W0 w ga gl gt tk G lv lf sw vv ag la A c v) : v.length ≤ c := (Kd.R_reads' h.2.2.2.2.2).2.1
theorem EW.watch (h : EW W0 w ga gl gt tk G lv lf sw vv ag la A c v) {k : Nat} (hk : k < 3) {s' : Bool} {v' : List Int} {a' : Int} (hw : WAt w1 (G k) (k : Int) (lf k) tk s' v' a') (hg : w.grownBy w1 (some (G k))) : EW W0 w1 ga gl gt tk G lv lf (upd sw k s') (upd vv k v') (upd ag k a') la A c v := by
  obtain ⟨h1, h2, h3, h4, h5, h6⟩ := h
  have hk4 := (h4 k hk).2
  refine ⟨WAt.keep hk4 hg h1 (by decide), WAt.keep hk4 hg h2 (by decide), WAt.keep hk4 hg h3 (by decide), fun i hi => ⟨(h4 i hi).1, ?_⟩, h5, R_watch (e := 0) h6 hk4 hg⟩
  by_cases e : i = k
  · subst e
    rw [upd_same, upd_same, upd_same]; exact hw
  · rw [upd_other _ _ e, upd_other _ _ e, upd_other _ _ e]
    exact (h4 i hi).2.grown hk4 (h5 k i hk hi (fun e' => e e'.symm)) hg
theorem EW.lives (h : EW W0 w ga gl gt tk G lv lf sw vv ag la A c v) {k : Nat} (hk : k < 3) (x : Int) : EW W0 (w.setCell ⟨gl, k, none⟩ (.int .i64 x)) ga gl gt tk G (upd lv k x) lf sw vv ag la A c v := by
  obtain ⟨h1, h2, h3, h4, h5, h6⟩ := h
  have hg := grown_set w gl k (.int .i64 x)
  refine ⟨blk_grown h1 hg (fun e => blk_ne h1 h2 (by decide) (by injection e)), ?_, blk_grown h3 hg (fun e => blk_ne h3 h2 (by decide) (by injection e)), fun i hi => ⟨(h4 i hi).1, (h4 i hi).2.far h2 (by decide) (by decide) hg⟩, h5, R_far3 h6 h2 (by decide) hg⟩
  have e := upd_map (fun x : Int => Value.int .i64 x) lv k x
  rw [← e 0, ← e 1, ← e 2]
  exact put3 (fun i => .int .i64 (lv i)) h2 k hk _
theorem EW.new (h : EW W0 w ga gl gt tk G lv lf sw vv ag la A c v) {k : Nat} (hk : k < 3) {g : Nat} {l' : Int} (hw : WAt w g (k : Int) l' tk false [] 0) (hge : W0.heap.size ≤ g) (hne : ∀ i, i < 3 → G i ≠ g) : EW W0 (w.setCell ⟨ga, k, none⟩ (pt g)) ga gl gt tk (upd G k g) lv (upd lf k l') (upd sw k false) (upd vv k []) (upd ag k 0) la A c v := by
  obtain ⟨h1, h2, h3, h4, h5, h6⟩ := h
  have hg := grown_set w ga k (pt g)
  refine ⟨?_, blk_grown h2 hg (fun e => blk_ne h2 h1 (by decide) (by injection e)), blk_grown h3 hg (fun e => blk_ne h3 h1 (by decide) (by injection e)), fun i hi => ?_, fun i j hi hj hij => ?_, R_far3 h6 h1 (by decide) hg⟩
  · have e := upd_map pt G k g
    rw [← e 0, ← e 1, ← e 2]
    exact put3 (fun i => pt (G i)) h1 k hk _
  · by_cases e : i = k
    · subst e
      rw [upd_same, upd_same, upd_same, upd_same, upd_same]
      exact ⟨hge, hw.far h1 (by decide) (by decide) hg⟩
    · rw [upd_other _ _ e, upd_other _ _ e, upd_other _ _ e, upd_other _ _ e, upd_other _ _ e]
      exact ⟨(h4 i hi).1, (h4 i hi).2.far h1 (by decide) (by decide) hg⟩
  · by_cases e : i = k
    · subst e
      rw [upd_same, upd_other _ _ (fun e => hij e.symm)]
      exact (hne j hj).symm
    · rw [upd_other _ _ e]
      by_cases e2 : j = k
      · subst e2
        rw [upd_same]
        exact hne i hi
      · rw [upd_other _ _ e2]
        exact h5 i j hi hj hij
theorem EW.last (h : EW W0 w ga gl gt tk G lv lf sw vv ag la A c v) (l : LeaseT) : EW W0 ((((w.setCell ⟨gt, 0, none⟩ (.int .i64 l.1)).setCell ⟨gt, 1, none⟩ (.int .i64 l.2.1)).setCell ⟨gt, 2, none⟩ (.int .i64 l.2.2.1)).setCell ⟨gt, 3, none⟩ (.int .i64 l.2.2.2)) ga gl gt tk G lv lf sw vv ag l A c v := by
  obtain ⟨h1, h2, h3, h4, h5, h6⟩ := h
  have hg : w.grownBy ((((w.setCell ⟨gt, 0, none⟩ (.int .i64 l.1)).setCell ⟨gt, 1, none⟩ (.int .i64 l.2.1)).setCell ⟨gt, 2, none⟩ (.int .i64 l.2.2.1)).setCell ⟨gt, 3, none⟩ (.int .i64 l.2.2.2)) (some gt) := (((grown_set _ _ _ _).trans (grown_set _ _ _ _)).trans (grown_set _ _ _ _)).trans (grown_set _ _ _ _)
  refine ⟨blk_grown h1 hg (fun e => blk_ne h1 h3 (by decide) (by injection e)), blk_grown h2 hg (fun e => blk_ne h2 h3 (by decide) (by injection e)), ?_, fun i hi => ⟨(h4 i hi).1, (h4 i hi).2.far h3 (by decide) (by decide) hg⟩, h5, R_far3 h6 h3 (by decide) hg⟩
  refine blk_put (cs := #[.int .i64 l.1, .int .i64 l.2.1, .int .i64 l.2.2.1, .int .i64 la.2.2.2]) ?_ 3 _ rfl
  refine blk_put (cs := #[.int .i64 l.1, .int .i64 l.2.1, .int .i64 la.2.2.1, .int .i64 la.2.2.2]) ?_ 2 _ rfl
  refine blk_put (cs := #[.int .i64 l.1, .int .i64 la.2.1, .int .i64 la.2.2.1, .int .i64 la.2.2.2]) ?_ 1 _ rfl
  exact blk_put (cs := #[.int .i64 la.1, .int .i64 la.2.1, .int .i64 la.2.2.1, .int .i64 la.2.2.2]) h3 0 _ rfl
theorem EW.value (h : EW W0 w ga gl gt tk G lv lf sw vv ag la A c v) {A' : Option Addr} {c' : Nat} {v' : List Int} (hR : (Kd.int .i64).R 3 w W0.heap.size (fun _ => True) (.slice A' v'.length c') v') : EW W0 w ga gl gt tk G lv lf sw vv ag la A' c' v' := by
  obtain ⟨h1, h2, h3, h4, h5, h6⟩ := h
  exact ⟨h1, h2, h3, h4, h5, hR⟩
end
/-! the start: one watch after the other -/
def EN (W0 w : World) (ga gl : Nat) (tk : Int) (G : Nat → Nat) (i : Nat) : Prop :=
  w.heap[ga]? = some (.cells #[if 0 < i then pt (G 0) else .pointer none, if 1 < i then pt (G 1) else .pointer none, if 2 < i then pt (G 2) else .pointer none] 56 (0, 0)) ∧ w.heap[gl]? = some (.cells #[.int .i64 0, .int .i64 0, .int .i64 0] 57 (0, 0)) ∧
  (∀ j, j < i → W0.heap.size ≤ G j ∧ WAt w (G j) (j : Int) 0 tk false [] 0) ∧ (∀ a b, a < i → b < i → a ≠ b → G a ≠ G b)
section
variable {W0 w w1 : World} {ga gl : Nat} {tk : Int} {G : Nat → Nat} {i : Nat}
theorem EN.below (h : EN W0 w ga gl tk G i) (hb : Below w.heap.size w w1) : EN W0 w1 ga gl tk G i := by
  obtain ⟨h1, h2, h4, h5⟩ := h
  exact ⟨blk_below h1 hb, blk_below h2 hb, fun i hi => ⟨(h4 i hi).1, (h4 i hi).2.below hb⟩, h5⟩
theorem EN.cell (h : EN W0 w ga gl tk G i) (hi : i < 3) : w.cell? ⟨ga, i, none⟩ = some (.pointer none) := by
  have := cell3 (fun j => if j < i then pt (G j) else .pointer none) h.1 i hi
  rw [this, if_neg (by omega)]
theorem EN.new (h : EN W0 w ga gl tk G i) (hi : i < 3) {g : Nat} (hw : WAt w g (i : Int) 0 tk false [] 0) (hge : W0.heap.size ≤ g) (hne : ∀ j, j < i → G j ≠ g) : EN W0 (w.setCell ⟨ga, i, none⟩ (pt g)) ga gl tk (upd G i g) (i + 1) := by
  obtain ⟨h1, h2, h4, h5⟩ := h
  have hg := grown_set w ga i (pt g)
  refine ⟨?_, blk_grown h2 hg (fun e => blk_ne h2 h1 (by decide) (by injection e)), fun j hj => ?_, fun a b ha hb hab => ?_⟩
  · have e : ∀ j, (if j < i + 1 then pt (upd G i g j) else .pointer none) = upd (fun j => if j < i then pt (G j) else .pointer none) i (pt g) j := fun j => by
      unfold upd
      by_cases hj : j = i
      · rw [if_pos (by omega), if_pos hj, if_pos hj]
      · rw [if_neg hj, if_neg hj]
        by_cases hj2 : j < i
        · rw [if_pos (by omega)]
          show pt (G j) = (if j < i then pt (G j) else .pointer none)
          rw [if_pos hj2]
        · rw [if_neg (by omega)]
          show Value.pointer none = (if j < i then pt (G j) else .pointer none)
          rw [if_neg hj2]
    rw [e 0, e 1, e 2]
    exact put3 (fun j => if j < i then pt (G j) else .pointer none) h1 i hi _
  · by_cases e : j = i
    · subst e
      rw [upd_same]
      exact ⟨hge, hw.far h1 (by decide) (by decide) hg⟩
    · rw [upd_other _ _ e]
      exact ⟨(h4 j (by omega)).1, (h4 j (by omega)).2.far h1 (by decide) (by decide) hg⟩
  · by_cases e : a = i
    · subst e
      rw [upd_same, upd_other _ _ (fun e => hab e.symm)]
      exact (hne b (by omega)).symm
    · rw [upd_other _ _ e]
      by_cases e2 : b = i
      · subst e2
        rw [upd_same]
        exact hne a (by omega)
      · rw [upd_other _ _ e2]
        exact h5 a b (by omega) (by omega) hab
end
/-! the plain law -/
theorem okL4' (a b c d : Int) : okL [a, b, c, d] = decide (1 ≤ a ∧ 0 ≤ b ∧ 0 ≤ c ∧ 0 ≤ d) := by
  have e0 : rd [a, b, c, d] 0 = a := rfl
  have e1 : rd [a, b, c, d] 1 = b := rfl
  have e2 : rd [a, b, c, d] 2 = c := rfl
  have e3 : rd [a, b, c, d] 3 = d := rfl
  unfold okL
  rw [e0, e1, e2, e3, Bool.eq_iff_iff]
  simp only [Bool.and_eq_true, decide_eq_true_eq, List.length_cons, List.length_nil, Nat.zero_add, Nat.reduceAdd, true_and]
theorem lease_of4 (a b c d : Int) (h : okL [a, b, c, d] = true) : leaseOf [a, b, c, d] = (a, b, c, d) := by unfold leaseOf; rw [if_pos h]; rfl
def VI (k : Nat) (v : List Int) (la : LeaseT) : Prop := (v = [] ∧ la = (0, 0, 0, 0)) ∨ (okL v = true ∧ leaseOf v = la ∧ la.1 ≤ k ∧ la.2.2.2 ≤ k)
def SI (la : LeaseT) (vv : Nat → List Int) : Prop := ∀ i, i < 3 → vv i = [] ∨ (okL (vv i) = true ∧ (leaseOf (vv i)).1 ≤ la.1)
def T0 (la : LeaseT) (v : List Int) : Prop := v = [] ∧ la = (0, 0, 0, 0)
def TR (la : LeaseT) (v : List Int) : Prop := okL v = true ∧ (leaseOf v).1 = la.1 ∧ (leaseOf v).2.1 = la.2.1 ∧ (leaseOf v).2.2.1 = la.2.2.1 ∧ la.2.2.2 ≤ (leaseOf v).2.2.2 ∧ (leaseOf v).2.2.2 ≤ la.2.2.2 + 1
def TF (la : LeaseT) (v : List Int) : Prop := okL v = true ∧ (leaseOf v).1 = la.1 + 1 ∧ (leaseOf v).2.2.2 = 0
theorem ok_parts {v : List Int} (h : okL v = true) : 1 ≤ (leaseOf v).1 ∧ 0 ≤ (leaseOf v).2.1 ∧ 0 ≤ (leaseOf v).2.2.1 ∧ 0 ≤ (leaseOf v).2.2.2 ∧ v.length = 4 := by
  unfold leaseOf
  rw [if_pos h]
  unfold okL at h
  simp only [Bool.and_eq_true, decide_eq_true_eq] at h
  exact ⟨h.2.1, h.2.2.1, h.2.2.2.1, h.2.2.2.2, h.1⟩
theorem VI.stay {k : Nat} {v : List Int} {la : LeaseT} (h : VI k v la) : T0 la v ∨ TR la v := by
  rcases h with h | ⟨h1, h2, h3, h4⟩
  · exact .inl h
  · exact .inr ⟨h1, by rw [h2], by rw [h2], by rw [h2], by rw [h2]; exact Int.le_refl _, by rw [h2]; omega⟩
theorem VI.si {k : Nat} {v : List Int} {la : LeaseT} (h : VI k v la) : v = [] ∨ (okL v = true ∧ (leaseOf v).1 ≤ la.1) := h.imp (fun h => h.1) (fun h => ⟨h.1, by rw [h.2.1]; exact Int.le_refl _⟩)
theorem VI.len {k : Nat} {v : List Int} {la : LeaseT} (h : VI k v la) : v.length ≤ 4 := by
  rcases h with ⟨h, _⟩ | ⟨h, _⟩
  · rw [h]; simp
  · have := (ok_parts h).2.2.2.2; omega
theorem VI.bounds {k : Nat} {v : List Int} {la : LeaseT} (h : VI k v la) : 0 ≤ la.1 ∧ la.1 ≤ k ∧ 0 ≤ la.2.2.2 ∧ la.2.2.2 ≤ k := by
  rcases h with ⟨_, h⟩ | ⟨h1, h2, h3, h4⟩
  · rw [h]; simp
  · have := ok_parts h1
    rw [h2] at this
    omega
theorem T0.next {k : Nat} {v : List Int} {la : LeaseT} (h : T0 la v) : VI (k + 1) v la := .inl h
theorem TR.next {k : Nat} {v v0 : List Int} {la : LeaseT} (h : TR la v) (h0 : VI k v0 la) : VI (k + 1) v (leaseOf v) := by
  obtain ⟨h1, h2, h3, h4, h5, h6⟩ := h
  have := h0.bounds
  exact .inr ⟨h1, rfl, by omega, by omega⟩
theorem TF.next {k : Nat} {v v0 : List Int} {la : LeaseT} (h : TF la v) (h0 : VI k v0 la) : VI (k + 1) v (leaseOf v) := by
  obtain ⟨h1, h2, h3⟩ := h
  have := h0.bounds
  exact .inr ⟨h1, rfl, by omega, by omega⟩
theorem SI.up {la la' : LeaseT} {vv : Nat → List Int} (h : SI la vv) (hl : la.1 ≤ la'.1) : SI la' vv := fun i hi => (h i hi).imp id (fun ⟨h1, h2⟩ => ⟨h1, Int.le_trans h2 hl⟩)
theorem SI.set {la : LeaseT} {vv : Nat → List Int} (h : SI la vv) (k : Nat) {v : List Int} (hv : v = [] ∨ (okL v = true ∧ (leaseOf v).1 ≤ la.1)) : SI la (upd vv k v) := fun i hi => by
  by_cases e : i = k
  · rw [e, upd_same]; exact hv
  · rw [upd_other _ _ e]; exact h i hi
/-- Who leads by its own sight has no younger epoch. -/
theorem SI.leads {la : LeaseT} {vv : Nat → List Int} (h : SI la vv) (i : Nat) (hi : i < 3) (nd lf : Int) (h1 : 0 ≤ la.1) : decide (la.1 < leadsN nd lf (vv i)) = false := by
  refine decide_eq_false ?_
  unfold leadsN
  split
  · rename_i hl
    rcases h i hi with e | ⟨e1, e2⟩
    · rw [e] at hl; unfold leadsB at hl; rw [show okL ([] : List Int) = false by decide] at hl; simp at hl
    · omega
  · omega
/-- What a change that a watch wants does to the register. -/
theorem do_step {k q : Nat} {v : List Int} {la : LeaseT} {vv : Nat → List Int} (hV : VI k v la) (hS : SI la vv) (hq : q < 3) (lf tk : Int) (sw : Bool) (ag : Int) (hlf : 0 ≤ lf ∧ lf ≤ 600) (hk : k ≤ 600) :
    ∃ v' er, change_Do.f 6 (wantOf (q : Int) lf tk sw (vv q) ag).1 (wantOf (q : Int) lf tk sw (vv q) ag).2.1 (wantOf (q : Int) lf tk sw (vv q) ag).2.2 v = some (v', er) ∧ ((er = none ∧ (T0 la v' ∨ TR la v' ∨ TF la v')) ∨ (er = some 11 ∧ (T0 la v' ∨ TR la v'))) := by
  have hvl := hV.len
  have hb := hV.bounds
  have hcl : ∀ l : List Int, l.length ≤ 4 → slices_Clone_int_int.f l = some l := fun l hl => by unfold slices_Clone_int_int.f; rw [if_pos (by omega)]
  have hsq : (vv q).length ≤ 4 := by
    rcases hS q hq with e | ⟨e, _⟩
    · rw [e]; simp
    · have := (ok_parts e).2.2.2.2; omega
  have hread : change_Do.f 6 1 [] [] v = some (v, none) := by
    have hck : change_Check.f 6 1 [] [] = some none := by kernel_rfl
    unfold change_Do.f
    rw [hcl v hvl, hck]
    rfl
  have hsame : change_Same.f 6 (vv q) v = some (decide (vv q = v)) := at_rounds (fun k => change_Same.mono (vv q) v k) (by omega) (same_f (vv q) v (by omega))
  have hswap : ∀ a b c d : Int, change_Do.f 6 2 (vv q) [a, b, c, d] v = if vv q = v then some ([a, b, c, d], none) else some (v, some 11) := fun a b c d => by
    have hck : change_Check.f 6 2 (vv q) [a, b, c, d] = some none := by
      unfold change_Check.f change_Check.j0
      rw [if_pos (by omega)]
      rfl
    unfold change_Do.f
    rw [hcl v hvl, hck, hsame, hcl [a, b, c, d] (by simp)]
    by_cases e : vv q = v <;> simp [e]
  have stay := hV.stay
  have old : (∃ v' er, some (v, some 11) = some (v', er) ∧ ((er = none ∧ (T0 la v' ∨ TR la v' ∨ TF la v')) ∨ (er = some (11 : Int) ∧ (T0 la v' ∨ TR la v')))) := ⟨v, some 11, rfl, .inr ⟨rfl, stay⟩⟩
  unfold wantOf
  cases sw with
  | false =>
    rw [if_neg (by simp)]
    exact ⟨v, none, hread, .inl ⟨rfl, stay.imp id .inl⟩⟩
  | true =>
    rw [if_pos rfl]
    by_cases hl : leadsB (q : Int) lf (vv q) = true
    · rw [if_pos hl]
      show ∃ v' er, change_Do.f 6 2 (vv q) [_, _, _, _] v = _ ∧ _
      rw [hswap]
      by_cases e : vv q = v
      · rw [if_pos e, e]
        have hok : okL v = true := by unfold leadsB at hl; rw [Bool.and_eq_true] at hl; rw [← e]; exact hl.1
        have hp := ok_parts hok
        have hla : leaseOf v = la := by
          rcases hV with ⟨h, _⟩ | ⟨_, h, _⟩
          · rw [h] at hok; exact absurd hok (by decide)
          · exact h
        have hw : wrap64 ((leaseOf v).2.2.2 + 1) = (leaseOf v).2.2.2 + 1 := by rw [hla]; unfold wrap64; omega
        rw [hw]
        have hok2 : okL [(leaseOf v).1, (leaseOf v).2.1, (leaseOf v).2.2.1, (leaseOf v).2.2.2 + 1] = true := by rw [okL4', decide_eq_true_eq]; omega
        refine ⟨_, none, rfl, .inl ⟨rfl, .inr (.inl ⟨hok2, ?_⟩)⟩⟩
        rw [lease_of4 _ _ _ _ hok2, hla]
        exact ⟨rfl, rfl, rfl, by show la.2.2.2 ≤ la.2.2.2 + 1; omega, Int.le_refl _⟩
      · rw [if_neg e]; exact old
    · rw [if_neg hl]
      by_cases h2 : okL (vv q) = true ∧ ag < tk
      · rw [if_pos h2]
        exact ⟨v, none, hread, .inl ⟨rfl, stay.imp id .inl⟩⟩
      · rw [if_neg h2]
        show ∃ v' er, change_Do.f 6 2 (vv q) [_, _, _, _] v = _ ∧ _
        rw [hswap]
        by_cases e : vv q = v
        · rw [if_pos e, e]
          have hl1 : (leaseOf v).1 = la.1 := by
            rcases hV with ⟨h, h'⟩ | ⟨_, h, _⟩
            · rw [h, h']; rfl
            · rw [h]
          have hw : wrap64 ((leaseOf v).1 + 1) = la.1 + 1 := by rw [hl1]; unfold wrap64; omega
          rw [hw]
          have hok2 : okL [la.1 + 1, (q : Int), lf, 0] = true := by rw [okL4', decide_eq_true_eq]; omega
          refine ⟨_, none, rfl, .inl ⟨rfl, .inr (.inr ⟨hok2, ?_⟩)⟩⟩
          rw [lease_of4 _ _ _ _ hok2]
          exact ⟨rfl, rfl⟩
        · rw [if_neg e]; exact old
end Go.Proofs.Ytimfbdiiaakhiaa.MAll

/- Posts with their rows' slices by name. -/
import Derived.Test.YtnjhgckmfebdoaaQa
set_option linter.unusedVariables false
set_option linter.unusedSimpArgs false
namespace Go.Proofs.Ytnjhgckmfebdoaa.MAll
open Go.RowKit Go.Proofs.YtnjhgckmfebdoaaW.PrintWords Go.Proofs.YtnjhgckmfebdoaaW.PrintLast Go.Proofs.YtnjhgckmfebdoaaW.PrintMore
attribute [local go_sem ↓] Go.wp_at_zero Go.wp_at_succ
/-- A slice of bytes as it lies in a cell: its address, its length, its capacity. -/
abbrev Hd := Option Addr × Nat × Nat
def encH (h : Hd) : Value := .slice h.1 h.2.1 h.2.2
theorem encH_one (h : Hd) : (encH h).oneCell' = true := rfl
abbrev kH : Kd Hd := Kd.scalar encH encH_one
def hB (h : Hd) : Option Nat := (encH h).ownBlock
def Dist (hs : List Hd) : Prop := hs.Pairwise (fun a b => ∀ k, hB a = some k → hB b ≠ some k)
def Cont (W : World) (base : Nat) (hs : List Hd) (rows : List (List Int)) : Prop := hs.length = rows.length ∧ ∀ (j : Nat) (h : Hd) (r : List Int), hs[j]? = some h → rows[j]? = some r → h.2.1 = r.length ∧ kb.R 5 W base (fun _ => True) (encH h) r ∧ r.length < 140737488351233
theorem Cont.below {W w : World} {base : Nat} {hs : List Hd} {rows : List (List Int)} (h : Cont W base hs rows) (hb : Below W.heap.size W w) : Cont w base hs rows := ⟨h.1, fun j a r h1 h2 => ⟨(h.2 j a r h1 h2).1, Kd.R_below (h.2 j a r h1 h2).2.1 hb, (h.2 j a r h1 h2).2.2⟩⟩
/-- Rows of bytes stay where a block of another type is written. -/
theorem R5_types {W w : World} {base q t : Nat} {cs : Array Value} {u : Value} {xs : List Int} (h : kb.R 5 W base (fun _ => True) u xs) (hq : W.heap[q]? = some (.cells cs t (0, 0))) (h5 : 5 ≠ t) (hg : W.grownBy w (some q)) : kb.R 5 w base (fun _ => True) u xs := by
  refine Kd.R_mono (Kd.R_grown (Kd.R_types h hq (fun q hq => ?_)) hg (fun k hk => by simpa using hk.2)) (fun _ _ => trivial)
  have hq5 : q = 5 := by simpa [Kd.int, Kd.scalar] using hq
  rw [hq5]; exact h5
theorem R5_own {W w : World} {base base' n : Nat} {v u : Value} {xs : List Int} {ys : List Value} (h : kb.R 5 W base (fun _ => True) u xs) (ho : W.ownsRow base' 34 1 v n ys) (hg : W.grownBy w v.ownBlock) : kb.R 5 w base (fun _ => True) u xs := by
  refine Kd.R_mono (Kd.R_grown (Kd.R_bound h) hg (fun k hk e => ?_)) (fun _ _ => trivial)
  obtain ⟨_, _, _, q, hq, cells, hc⟩ := hk
  have hq5 : q = 5 := by simpa [Kd.int, Kd.scalar] using hq
  subst hq5
  obtain ⟨cells', hc'⟩ := own_typed ho k e.symm
  rw [hc'] at hc
  injection hc with hc
  injection hc with _ hc
  exact absurd hc (by decide)
theorem Cont.types {W w : World} {base q t : Nat} {cs : Array Value} {hs : List Hd} {rows : List (List Int)} (h : Cont W base hs rows) (hq : W.heap[q]? = some (.cells cs t (0, 0))) (h5 : 5 ≠ t) (hg : W.grownBy w (some q)) : Cont w base hs rows := ⟨h.1, fun j a r h1 h2 => ⟨(h.2 j a r h1 h2).1, R5_types (h.2 j a r h1 h2).2.1 hq h5 hg, (h.2 j a r h1 h2).2.2⟩⟩
theorem Cont.own {W w : World} {base base' n : Nat} {v : Value} {ys : List Value} {hs : List Hd} {rows : List (List Int)} (h : Cont W base hs rows) (ho : W.ownsRow base' 34 1 v n ys) (hg : W.grownBy w v.ownBlock) : Cont w base hs rows := ⟨h.1, fun j a r h1 h2 => ⟨(h.2 j a r h1 h2).1, R5_own (h.2 j a r h1 h2).2.1 ho hg, (h.2 j a r h1 h2).2.2⟩⟩
theorem Cont.cut {W : World} {base : Nat} {hs : List Hd} {rows : List (List Int)} (h : Cont W base hs rows) (i : Nat) (hi : i < rows.length) : Cont W base (hs.take i ++ hs.drop (i + 1)) (rows.take i ++ rows.drop (i + 1)) := by
  have hl := h.1
  refine ⟨by simp only [List.length_append, List.length_take, List.length_drop]; omega, fun j a r h1 h2 => ?_⟩
  have e : ∀ {α : Type} (l : List α), l.length = rows.length → (l.take i ++ l.drop (i + 1))[j]? = if j < i then l[j]? else l[j + 1]? := fun l hll => by
    by_cases hj : j < i
    · rw [if_pos hj, List.getElem?_append_left (by rw [List.length_take]; omega), List.getElem?_take_of_lt hj]
    · rw [if_neg hj, List.getElem?_append_right (by rw [List.length_take]; omega), List.getElem?_drop, List.length_take]
      congr 1
      omega
  rw [e hs hl] at h1
  rw [e rows rfl] at h2
  split at h1
  · rw [if_pos (by assumption)] at h2; exact h.2 j a r h1 h2
  · rw [if_neg (by assumption)] at h2; exact h.2 (j + 1) a r h1 h2
theorem Cont.snoc {W : World} {base : Nat} {hs : List Hd} {rows : List (List Int)} (h : Cont W base hs rows) (a : Hd) (r : List Int) (ha : a.2.1 = r.length ∧ kb.R 5 W base (fun _ => True) (encH a) r ∧ r.length < 140737488351233) : Cont W base (hs ++ [a]) (rows ++ [r]) := by
  refine ⟨by simp [h.1], fun j b s h1 h2 => ?_⟩
  by_cases hj : j < hs.length
  · rw [List.getElem?_append_left hj] at h1
    rw [List.getElem?_append_left (by rw [← h.1]; exact hj)] at h2
    exact h.2 j b s h1 h2
  · have hj2 := (List.getElem?_eq_some_iff.1 h1).1
    rw [List.length_append, List.length_singleton] at hj2
    have hje : j = hs.length := by omega
    subst hje
    rw [List.getElem?_append_right (Nat.le_refl _), Nat.sub_self] at h1
    rw [h.1, List.getElem?_append_right (Nat.le_refl _), Nat.sub_self] at h2
    simp only [List.getElem?_cons_zero, Option.some.injEq] at h1 h2
    subst h1 h2
    exact ha
def PH (W : World) (g : Nat) (lost taken : Int) (hs : List Hd) (rows : List (List Int)) : Prop :=
  ∃ A c, W.heap[g]? = some (.cells #[.int .i64 lost, .int .i64 taken, .slice A hs.length c] 54 (0, 0)) ∧ kH.R 34 W (g + 1) (fun _ => True) (.slice A hs.length c) hs ∧ hs.length ≤ 4096 ∧ Cont W (g + 1) hs rows ∧ Dist hs
theorem kH_below {W w : World} {base : Nat} {v : Value} {hs : List Hd} (h : kH.R 34 W base (fun _ => True) v hs) (hb : Below W.heap.size W w) : kH.R 34 w base (fun _ => True) v hs := Kd.R_below h hb
theorem PH.below {W W1 : World} {g : Nat} {lost taken : Int} {hs : List Hd} {rows : List (List Int)} (h : PH W g lost taken hs rows) (hb : Below W.heap.size W W1) : PH W1 g lost taken hs rows := by
  obtain ⟨A, c, h1, h2, h3, h4, h5⟩ := h
  exact ⟨A, c, blk_below h1 hb, Kd.R_below h2 hb, h3, h4.below hb, h5⟩
theorem kH_set {W : World} {base g t : Nat} {cs : Array Value} {v : Value} {hs : List Hd} (h : kH.R 34 W base (fun _ => True) v hs) (hb : W.heap[g]? = some (.cells cs t (0, 0))) (ht : 34 ≠ t) (j : Nat) (u : Value) : kH.R 34 (W.setCell ⟨g, j, none⟩ u) base (fun _ => True) v hs :=
  Kd.R_set h hb (fun q hq => (show q = 34 by simpa [Kd.scalar] using hq) ▸ ht) j u
/-- The same post, its rows told by their lists alone. -/
theorem PH.at_ {W : World} {g : Nat} {lost taken : Int} {hs : List Hd} {rows : List (List Int)} (h : PH W g lost taken hs rows) : PAt W g lost taken rows := by
  obtain ⟨A, c, h1, h2, h3, h4, h5⟩ := h
  have hl := h4.1
  have ho := Kd.own_of_R h2
  rw [hl] at h1 ho
  refine ⟨A, c, h1, ⟨fun _ _ => trivial, encs encH hs, ho, ⟨?_, fun j r hr => ?_⟩⟩, by omega, fun r hr => ?_⟩
  · rw [encs_length, hl]; exact (Nat.mul_one _).symm
  · obtain ⟨a, ha⟩ : ∃ a, hs[j]? = some a := ⟨_, List.getElem?_eq_getElem (by rw [hl]; exact (List.getElem?_eq_some_iff.1 hr).1)⟩
    obtain ⟨e1, e2, _⟩ := h4.2 j a r ha hr
    refine ⟨encH a, ?_, ?_⟩
    · have hj : j < hs.length := (List.getElem?_eq_some_iff.1 ha).1
      show ((encs encH hs).drop (j * 1)).take 1 = _
      rw [Nat.mul_one]
      unfold encs
      rw [← List.map_drop, List.drop_eq_getElem_cons hj, (List.getElem?_eq_some_iff.1 ha).2]
      rfl
    · refine Kd.R_mono (Kd.R_bound e2) (fun k hk => ⟨trivial, fun e => ?_⟩)
      obtain ⟨_, _, _, q, hq, cells, hc⟩ := hk
      have hq5 : q = 5 := by simpa [Kd.int, Kd.scalar] using hq
      subst hq5
      obtain ⟨cells', hc'⟩ := own_typed ho k e.symm
      rw [hc'] at hc
      injection hc with hc
      injection hc with _ hc
      exact absurd hc (by decide)
  · obtain ⟨j, hj, rfl⟩ := List.getElem_of_mem hr
    exact (h4.2 j (hs[j]'(by omega)) _ (List.getElem?_eq_getElem _) (List.getElem?_eq_getElem _)).2.2
theorem Dist.cut {hs : List Hd} (h : Dist hs) (i : Nat) : Dist (hs.take i ++ hs.drop (i + 1)) := by
  unfold Dist at *
  refine List.Pairwise.sublist ?_ h
  have : (hs.take i ++ hs.drop (i + 1)).Sublist (hs.take i ++ hs.drop i) := List.Sublist.append (List.Sublist.refl _) (List.drop_sublist_drop_left hs (Nat.le_succ i))
  rwa [List.take_append_drop] at this
/-- Who is cut out shares no block with those that stay. -/
theorem Dist.apart {hs : List Hd} (h : Dist hs) (i : Nat) (a : Hd) (ha : hs[i]? = some a) (k : Nat) (hk : hB a = some k) : ∀ b ∈ hs.take i ++ hs.drop (i + 1), hB b ≠ some k := by
  have hi := (List.getElem?_eq_some_iff.1 ha).1
  have e : hs = hs.take i ++ a :: hs.drop (i + 1) := by
    rw [← (List.getElem?_eq_some_iff.1 ha).2, ← List.drop_eq_getElem_cons hi, List.take_append_drop]
  unfold Dist at h
  rw [e, List.pairwise_append] at h
  intro b hb hbk
  rcases List.mem_append.1 hb with hb | hb
  · exact h.2.2 b hb a List.mem_cons_self k hbk hk
  · exact (List.pairwise_cons.1 h.2.1).1 b hb k hk hbk
theorem Dist.snoc {hs : List Hd} (h : Dist hs) (a : Hd) (ha : ∀ k, hB a = some k → ∀ b ∈ hs, hB b ≠ some k) : Dist (hs ++ [a]) := by
  unfold Dist at *
  rw [List.pairwise_append]
  refine ⟨h, List.pairwise_singleton _ _, fun b hb c hc k hk hk2 => ?_⟩
  rw [List.mem_singleton.1 hc] at hk2
  exact ha k hk2 b hb hk
theorem Cont.lt {W : World} {base : Nat} {hs : List Hd} {rows : List (List Int)} (h : Cont W base hs rows) (b : Hd) (hb : b ∈ hs) (k : Nat) (hk : hB b = some k) : k < W.heap.size := by
  obtain ⟨j, hj, rfl⟩ := List.getElem_of_mem hb
  obtain ⟨_, h2, _⟩ := h.2 j _ (rows[j]'(by rw [← h.1]; exact hj)) (List.getElem?_eq_getElem hj) (List.getElem?_eq_getElem _)
  obtain ⟨inner, ho⟩ := Kd.R_own h2
  exact own_lt ho k hk
theorem PH.set01 {W : World} {g : Nat} {lost taken : Int} {hs : List Hd} {rows : List (List Int)} (h : PH W g lost taken hs rows) : PH (W.setCell ⟨g, 0, none⟩ (.int .i64 (wrap64 (lost + 1)))) g (wrap64 (lost + 1)) taken hs rows ∧ PH (W.setCell ⟨g, 1, none⟩ (.int .i64 (wrap64 (taken + 1)))) g lost (wrap64 (taken + 1)) hs rows := by
  obtain ⟨A, c, h1, h2, h3, h4, h5⟩ := h
  exact ⟨⟨A, c, blk_put (cs := #[.int .i64 lost, .int .i64 taken, .slice A hs.length c]) h1 0 _ rfl, kH_set h2 h1 (by decide) 0 _, h3, h4.types h1 (by decide) (grown_set _ _ _ _), h5⟩, ⟨A, c, blk_put (cs := #[.int .i64 lost, .int .i64 taken, .slice A hs.length c]) h1 1 _ rfl, kH_set h2 h1 (by decide) 1 _, h3, h4.types h1 (by decide) (grown_set _ _ _ _), h5⟩⟩
set_option maxHeartbeats 4000000 in
set_option maxRecDepth 100000 in
theorem take_h (W : World) (g : Nat) (lost taken : Int) (hs : List Hd) (rows : List (List Int)) (h : PH W g lost taken hs rows) (i : Nat) (B : Option Addr) (d : Nat) (r : List Int) (hi : rows[i]? = some r) (hh : hs[i]? = some (B, r.length, d)) :
    Calls Try.prog 25 #[.pointer (some ⟨g, 0, none⟩), .int .i64 i] W fun e w' => e = .returned (.tuple #[.slice B r.length d, .bool true]) ∧ kb.R 5 w' (g + 1) (fun _ => True) (.slice B r.length d) r ∧ PH w' g lost taken (hs.take i ++ hs.drop (i + 1)) (rows.take i ++ rows.drop (i + 1)) ∧ FR g W w' := by
  have hu25 := Try.underlying25
  have hu31 := Try.underlying31
  have hu54 := Try.underlying54
  have hu52 := Try.underlying52
  have HP := Aside0.mk h.at_
  obtain ⟨A, c, hB0, hR0, hok, hct, hds⟩ := h
  have hl := hct.1
  have hil : i < rows.length := (List.getElem?_eq_some_iff.1 hi).1
  obtain ⟨b, rfl⟩ : ∃ b, A = some ⟨b, 0, none⟩ := by
    obtain ⟨_, inner, ho, _⟩ := hR0
    rcases ho.2 with ⟨hv, hz⟩ | ⟨g, cap', cur, hv, _⟩
    · exfalso; injection hv with _ hv _; omega
    · injection hv with ha _ _
      exact ⟨g, ha⟩
  obtain ⟨m, hm⟩ : ∃ m, hs.length = i + 1 + m := ⟨hs.length - (i + 1), by omega⟩
  rw [hm] at hB0 hR0
  have hn4 : i + 1 + m ≤ 4096 := by rw [← hm]; exact hok
  have d1 : decide ((i : Int) < 0) = false := decide_eq_false (by omega)
  have d2 : decide (rows.length ≤ i) = false := decide_eq_false (by omega)
  have hwr : wrap64 ((i : Int) + 1) = (i : Int) + 1 := by unfold wrap64; omega
  have BP0 := Aside0.mk hB0
  have HR0 := Aside0.mk hR0
  have HCT := Aside0.mk hct
  have HDS := Aside0.mk hds
  have HM := Aside0.mk hm
  have HIL := Aside0.mk hil
  have HI := Aside0.mk hi
  have HH := Aside0.mk hh
  clear hB0 hR0 hok hm hil hi hh hct hds hl
  go_enter Try.func25, Try.ntmps25
  go_wp2_with fail
  refine (len_c _ g lost taken rows HP.out).mono ?_
  rintro e w1 ⟨rfl, hb1⟩
  have HB2 := Aside0.mk hb1
  have BP2 : Aside0 (w1.heap[g]? = some (.cells #[.int .i64 lost, .int .i64 taken, .slice (some ⟨b, 0, none⟩) (i + 1 + m) c] 54 (0, 0))) := ⟨(hb1.block _ (blk_lt BP0.out)).trans BP0.out⟩
  have CT2 := Aside0.mk (Cont.below HCT.out hb1)
  have RL2 := Aside0.mk (Kd.R_below HR0.out hb1)
  clear hb1
  have zP3_0 : w1.cell? ⟨g, 0, none⟩ = some (.int .i64 lost) := (blk_cell BP2.out 0).trans rfl
  have zP3_1 : w1.cell? ⟨g, 1, none⟩ = some (.int .i64 taken) := (blk_cell BP2.out 1).trans rfl
  have zP3_2 : w1.cell? ⟨g, 2, none⟩ = some (.slice (some ⟨b, 0, none⟩) (i + 1 + m) c) := (blk_cell BP2.out 2).trans rfl
  obtain ⟨hcell, _⟩ := Kd.R_celln (none, 0, 0) RL2.out (i : Int) (by omega) (by omega)
  rw [Int.toNat_natCast, show rdOf (none, 0, 0) hs (i : Int) = (B, r.length, d) from by simp [rdOf, List.getD_eq_getElem?_getD, HH.out], show encH (B, r.length, d) = .slice B r.length d from rfl] at hcell
  have hl2 : decide ((i : Int) < (rows.length : Int)) = true := decide_eq_true (by have := HIL.out; omega)
  have hlt : decide ((i : Int) < ((i + 1 + m : Nat) : Int)) = true := decide_eq_true (by omega)
  go_wp2_with fail
  have hown' : w1.ownsRow (g + 1) 34 1 (.slice (some ⟨b, 0, none⟩) (i + 1 + m) c) (i + 1 + m) (encs encH hs) := by have h := Kd.own_of_R RL2.out; rw [HM.out] at h; exact h
  have h1c : ∀ u ∈ encs encH hs, u.oneCell' = true := fun u hu => by obtain ⟨a, _, rfl⟩ := List.mem_map.1 hu; rfl
  clear zP3_0 zP3_1 zP3_2
  clear hcell
  refine (del_c w1 (g + 1) b i m c (encs encH hs) hown' hn4 h1c).mono ?_
  rintro e w2 ⟨rfl, ho2, hg2⟩
  have hbg : (b : Nat) ≠ g := by have := own_base hown' b rfl; omega
  have BQ2 : Aside0 (w2.heap[g]? = some (.cells #[.int .i64 lost, .int .i64 taken, .slice (some ⟨b, 0, none⟩) (i + 1 + m) c] 54 (0, 0))) := ⟨blk_grown BP2.out hg2 (fun e => hbg (by injection e with e; exact e.symm))⟩
  have HCT2 := Aside0.mk (Cont.own CT2.out hown' hg2)
  have ho3 : w2.ownsRow (g + 1) 34 1 (.slice (some ⟨b, 0, none⟩) (i + m) c) (i + m) (encs encH (hs.take i ++ hs.drop (i + 1))) := by unfold encs at ho2 ⊢; rw [List.map_append, List.map_take, List.map_drop]; exact ho2
  have HO2 := Aside0.mk ho3
  have HG2 := Aside0.mk hg2
  have HOWN := Aside0.mk hown'
  clear ho2 ho3 hg2 hown' hbg h1c
  have zp0 : w2.cell? ⟨g, 0, none⟩ = some (.int .i64 lost) := (blk_cell BQ2.out 0).trans rfl
  have zp1 : w2.cell? ⟨g, 1, none⟩ = some (.int .i64 taken) := (blk_cell BQ2.out 1).trans rfl
  have zp2 : w2.cell? ⟨g, 2, none⟩ = some (.slice (some ⟨b, 0, none⟩) (i + 1 + m) c) := (blk_cell BQ2.out 2).trans rfl
  have zf := blk_frozen BQ2.out 2
  go_wp2_with fail
  go_ret2
  have hpost : (w2.setCell ⟨g, 2, none⟩ (.slice (some ⟨b, 0, none⟩) (i + m) c)).heap[g]? = some (.cells #[.int .i64 lost, .int .i64 taken, .slice (some ⟨b, 0, none⟩) (i + m) c] 54 (0, 0)) := blk_put (cs := #[.int .i64 lost, .int .i64 taken, .slice (some ⟨b, 0, none⟩) (i + 1 + m) c]) BQ2.out 2 _ rfl
  have hln : (hs.take i ++ hs.drop (i + 1)).length = i + m := by have := HM.out; rw [List.length_append, List.length_take, List.length_drop]; omega
  have hRH : kH.R 34 w2 (g + 1) (fun _ => True) (.slice (some ⟨b, 0, none⟩) (i + m) c) (hs.take i ++ hs.drop (i + 1)) := Kd.R_of_own (by rw [hln]; exact HO2.out) (fun _ _ => trivial)
  have hct3 := HCT2.out.types BQ2.out (by decide) (grown_set w2 g 2 (.slice (some ⟨b, 0, none⟩) (i + m) c))
  refine ⟨rfl, (hct3.2 i _ r HH.out HI.out).2.1, ⟨some ⟨b, 0, none⟩, c, by rw [hln]; exact hpost, by rw [hln]; exact kH_set hRH BQ2.out (by decide) 2 _, by rw [hln]; omega, hct3.cut i HIL.out, HDS.out.cut i⟩, ?_⟩
  exact FR.trans (FR.of_below HP.out.lt HB2.out) (FR.made BP2.out hpost HG2.out (grown_set _ _ _ _) (.inl rfl))
theorem R5_fr {W w : World} {g base : Nat} {lost taken : Int} {rows : List (List Int)} {u : Value} {xs : List Int} (h : kb.R 5 W base (fun _ => True) u xs) (hP : PAt W g lost taken rows) (hf : FR g W w) : kb.R 5 w base (fun _ => True) u xs := by
  obtain ⟨A, c, hB, ⟨_, inner, ho, _⟩, _⟩ := hP
  refine Kd.R_mono (Kd.R_move (Kd.R_bound h) (fun k hk => ?_)) (fun _ _ => trivial)
  obtain ⟨_, _, hlt, q, hq, cells, hc⟩ := hk
  have hq5 : q = 5 := by simpa [Kd.int, Kd.scalar] using hq
  subst hq5
  refine hf.block k hlt (blk_ne hc hB (by decide)) (fun e => ?_)
  rw [ownB_of hB] at e
  obtain ⟨cells', hc'⟩ := own_typed ho k e.symm
  rw [hc'] at hc
  injection hc with hc
  injection hc with _ hc
  exact absurd hc (by decide)
def Fresh (W : World) (hs hs' : List Hd) : Prop := ∀ a ∈ hs', a ∈ hs ∨ ∀ k, hB a = some k → W.heap.size ≤ k
set_option maxHeartbeats 4000000 in
set_option maxRecDepth 100000 in
theorem deliver_h (W : World) (g : Nat) (lost taken : Int) (hs : List Hd) (rows : List (List Int)) (h : PH W g lost taken hs rows) (i : Nat) (B : Option Addr) (d : Nat) (r : List Int) (hi : rows[i]? = some r) (hh : hs[i]? = some (B, r.length, d)) :
    Calls Try.prog 18 #[.pointer (some ⟨g, 0, none⟩), .int .i64 i] W fun e w' => e = .returned (.tuple #[.slice B r.length d, .bool true]) ∧ kb.R 5 w' (g + 1) (fun _ => True) (.slice B r.length d) r ∧ PH w' g lost (wrap64 (taken + 1)) (hs.take i ++ hs.drop (i + 1)) (rows.take i ++ rows.drop (i + 1)) ∧ FR g W w' := by
  have hu25 := Try.underlying25
  have hu54 := Try.underlying54
  have hu52 := Try.underlying52
  have hT := take_h W g lost taken hs rows h i B d r hi hh
  obtain ⟨rs, hrs⟩ : ∃ rs, rows.take i ++ rows.drop (i + 1) = rs := ⟨_, rfl⟩
  obtain ⟨hs1, hhs⟩ : ∃ hs1, hs.take i ++ hs.drop (i + 1) = hs1 := ⟨_, rfl⟩
  rw [hrs, hhs] at hT
  rw [hrs, hhs]
  have HT := Aside0.mk hT
  clear hT hrs hhs h hi hh
  go_enter Try.func18, Try.ntmps18
  go_wp2_with fail
  refine HT.out.mono ?_
  rintro e w1 ⟨rfl, hR, hP, hF⟩
  have HP := Aside0.mk hP
  have HF := Aside0.mk hF
  have HR := Aside0.mk hR
  obtain ⟨A, c, hB1, _⟩ := hP
  have BP1 := Aside0.mk hB1
  clear hR hF hB1
  have z1 : w1.cell? ⟨g, 1, none⟩ = some (.int .i64 taken) := (blk_cell BP1.out 1).trans rfl
  have zf := blk_frozen BP1.out 1
  go_wp2_with fail
  go_ret2
  have hpost : (w1.setCell ⟨g, 1, none⟩ (.int .i64 (wrap64 (taken + 1)))).heap[g]? = some (.cells #[.int .i64 lost, .int .i64 (wrap64 (taken + 1)), .slice A hs1.length c] 54 (0, 0)) := blk_put (cs := #[.int .i64 lost, .int .i64 taken, .slice A hs1.length c]) BP1.out 1 _ rfl
  have hF : FR g W (w1.setCell ⟨g, 1, none⟩ (.int .i64 (wrap64 (taken + 1)))) := FR.trans HF.out (FR.made BP1.out hpost (grown_refl _ _) (grown_set _ _ _ _) (.inl rfl))
  exact ⟨rfl, R5_types HR.out BP1.out (by decide) (grown_set _ _ _ _), HP.out.set01.2, hF⟩
set_option maxHeartbeats 4000000 in
set_option maxRecDepth 100000 in
theorem drop_h (W : World) (g : Nat) (lost taken : Int) (hs : List Hd) (rows : List (List Int)) (h : PH W g lost taken hs rows) (i : Nat) (B : Option Addr) (d : Nat) (r : List Int) (hi : rows[i]? = some r) (hh : hs[i]? = some (B, r.length, d)) :
    Calls Try.prog 19 #[.pointer (some ⟨g, 0, none⟩), .int .i64 i] W fun e w' => e = .returned (.bool true) ∧ PH w' g (wrap64 (lost + 1)) taken (hs.take i ++ hs.drop (i + 1)) (rows.take i ++ rows.drop (i + 1)) ∧ FR g W w' := by
  have hu25 := Try.underlying25
  have hu54 := Try.underlying54
  have hu52 := Try.underlying52
  have hT := take_h W g lost taken hs rows h i B d r hi hh
  obtain ⟨rs, hrs⟩ : ∃ rs, rows.take i ++ rows.drop (i + 1) = rs := ⟨_, rfl⟩
  obtain ⟨hs1, hhs⟩ : ∃ hs1, hs.take i ++ hs.drop (i + 1) = hs1 := ⟨_, rfl⟩
  rw [hrs, hhs] at hT
  rw [hrs, hhs]
  have HT := Aside0.mk hT
  clear hT hrs hhs h hi hh
  go_enter Try.func19, Try.ntmps19
  go_wp2_with fail
  refine HT.out.mono ?_
  rintro e w1 ⟨rfl, hR, hP, hF⟩
  have HP := Aside0.mk hP
  have HF := Aside0.mk hF
  have HR := Aside0.mk hR
  obtain ⟨A, c, hB1, _⟩ := hP
  have BP1 := Aside0.mk hB1
  clear hR hF hB1
  have z1 : w1.cell? ⟨g, 0, none⟩ = some (.int .i64 lost) := (blk_cell BP1.out 0).trans rfl
  have zf := blk_frozen BP1.out 0
  go_wp2_with fail
  go_ret
  have hpost : (w1.setCell ⟨g, 0, none⟩ (.int .i64 (wrap64 (lost + 1)))).heap[g]? = some (.cells #[.int .i64 (wrap64 (lost + 1)), .int .i64 taken, .slice A hs1.length c] 54 (0, 0)) := blk_put (cs := #[.int .i64 lost, .int .i64 taken, .slice A hs1.length c]) BP1.out 0 _ rfl
  have hF : FR g W (w1.setCell ⟨g, 0, none⟩ (.int .i64 (wrap64 (lost + 1)))) := FR.trans HF.out (FR.made BP1.out hpost (grown_refl _ _) (grown_set _ _ _ _) (.inl rfl))
  exact ⟨rfl, HP.out.set01.1, hF⟩
set_option maxHeartbeats 8000000 in
set_option maxRecDepth 100000 in
theorem send_h (W : World) (g : Nat) (lost taken : Int) (hs : List Hd) (rows : List (List Int)) (h : PH W g lost taken hs rows) (A0 : Option Addr) (c0 : Nat) (args : List (List Int)) (hC : ∀ w, FR g W w → kB.C w A0 args.length args) (hal : args.length < 140737488351233) (har : ∀ r ∈ args, r.length < 140737488351233) :
    Calls Try.prog 14 #[.pointer (some ⟨g, 0, none⟩), .slice A0 args.length c0] W fun e w' => ∃ hs', e = .returned (.int .i64 (sendOf lost rows args).2.length) ∧ PH w' g (sendOf lost rows args).1 taken hs' (sendOf lost rows args).2 ∧ FR g W w' ∧ Fresh W hs hs' := by
  have hu25 := Try.underlying25
  have hu31 := Try.underlying31
  have hu34 := Try.underlying34
  have hu54 := Try.underlying54
  have hu52 := Try.underlying52
  have HP := Aside0.mk h
  have HC := Aside0.mk hC
  have HAR := Aside0.mk har
  clear h hC har
  go_enter Try.func14, Try.ntmps14
  go_wp2_with fail
  go_loopw [11] (fun v11 w' => ∃ (k : Nat) (hk : List Hd), k ≤ args.length ∧ v11 = .int .i64 k ∧ Aside0 (PH w' g (sendOf lost rows (args.take k)).1 taken hk (sendOf lost rows (args.take k)).2) ∧ Aside0 (FR g W w') ∧ Aside0 (Fresh W hs hk)) (fun v _ => args.length - (intOf v).toNat)
  case atStart => exact ⟨0, hs, by omega, rfl, HP, ⟨FR.refl _ _⟩, ⟨fun a ha => .inl ha⟩⟩
  case round =>
    clear HP
    obtain ⟨k, hk1, hk, rfl, HO, HW, HFR⟩ := hrel
    obtain ⟨lo, hlo⟩ : ∃ q, q = (sendOf lost rows (args.take k)).1 := ⟨_, rfl⟩
    obtain ⟨rs, hrs⟩ : ∃ q, q = (sendOf lost rows (args.take k)).2 := ⟨_, rfl⟩
    rw [← hlo, ← hrs] at HO
    have HLO := Aside0.mk hlo
    have HRS := Aside0.mk hrs
    clear hlo hrs
    obtain ⟨A, c, hB0, hR0, hok, hct, hds⟩ := HO.out
    have hln := hct.1
    have BP0 := Aside0.mk hB0
    have HR0 := Aside0.mk hR0
    have HCT := Aside0.mk hct
    have HDS := Aside0.mk hds
    have HLN := Aside0.mk hln
    clear hB0 hR0 hct hds hln
    by_cases hlt : k < args.length
    case neg =>
      have hke : k = args.length := by omega
      have zq2 : wr.cell? ⟨g, 2, none⟩ = some (.slice A hk1.length c) := (blk_cell BP0.out 2).trans rfl
      go_wp2_with fail
      go_ret
      rw [hke, List.take_length] at HLO HRS
      refine ⟨hk1, by rw [← HRS.out, ← HLN.out]; rfl, ?_, HW.out, HFR.out⟩
      have := HO.out
      rw [HLO.out, HRS.out] at this
      exact this
    obtain ⟨r, hrk⟩ : ∃ r, args[k]? = some r := ⟨_, List.getElem?_eq_getElem hlt⟩
    obtain ⟨ad0, B, cB, hA0, hcell, hcB, hC0⟩ := row_at (HC.out wr HW.out) k r hrk
    subst hA0
    have HC0 := Aside0.mk hC0
    have HcB := Aside0.mk hcB
    have HST := Aside0.mk (send_step lost rows args k r hrk)
    have HRL := Aside0.mk (HAR.out r (List.mem_of_getElem? hrk))
    clear hrk hC0 hcB
    by_cases h4 : 4096 ≤ hk1.length
    case pos =>
      have z0 : wr.cell? ⟨g, 0, none⟩ = some (.int .i64 lo) := (blk_cell BP0.out 0).trans rfl
      have z1 : wr.cell? ⟨g, 1, none⟩ = some (.int .i64 taken) := (blk_cell BP0.out 1).trans rfl
      have z2 : wr.cell? ⟨g, 2, none⟩ = some (.slice A hk1.length c) := (blk_cell BP0.out 2).trans rfl
      have d4 : decide (4096 ≤ hk1.length) = true := decide_eq_true h4
      have zf := blk_frozen BP0.out 0
      go_wp2_with fail
      have hpost : (wr.setCell ⟨g, 0, none⟩ (.int .i64 (wrap64 (lo + 1)))).heap[g]? = some (.cells #[.int .i64 (wrap64 (lo + 1)), .int .i64 taken, .slice A hk1.length c] 54 (0, 0)) := blk_put (cs := #[.int .i64 lo, .int .i64 taken, .slice A hk1.length c]) BP0.out 0 _ rfl
      have HN := Aside0.mk (show sendOf lost rows (args.take (k + 1)) = (wrap64 (lo + 1), rs) by rw [HST.out]; unfold sendS; rw [← HRS.out, ← HLO.out, if_pos (by rw [← HLN.out]; exact h4)])
      go_roundw
      case rel => exact ⟨k + 1, hk1, by omega, by go_num, ⟨by rw [HN.out]; exact HO.out.set01.1⟩, ⟨FR.trans HW.out (FR.made BP0.out hpost (grown_refl _ _) (grown_set _ _ _ _) (.inl rfl))⟩, HFR⟩
      case measure => simp [intOf]; omega
    case neg =>
      have z0 : wr.cell? ⟨g, 0, none⟩ = some (.int .i64 lo) := (blk_cell BP0.out 0).trans rfl
      have z1 : wr.cell? ⟨g, 1, none⟩ = some (.int .i64 taken) := (blk_cell BP0.out 1).trans rfl
      have z2 : wr.cell? ⟨g, 2, none⟩ = some (.slice A hk1.length c) := (blk_cell BP0.out 2).trans rfl
      have d4 : decide (4096 ≤ hk1.length) = false := decide_eq_false h4
      go_upto_region 8 with fail
      refine start_ (n := 12) (S := fun w' => w'.cell? ⟨g, 0, none⟩ = some (.int .i64 lo) ∧ w'.cell? ⟨g, 1, none⟩ = some (.int .i64 taken) ∧ w'.cell? ⟨g, 2, none⟩ = some (.slice A hk1.length c)) (ds := [11]) #[false, false, false, false, false, false, false, false, false, false, false, false] (by kernel_rfl) rfl rfl ⟨z0, z1, z2⟩ (fun hHeld => ?_)
      refine pure_ (i := 0) (N := some 30) (v := ?_) (a' := ?_) #[true, false, false, false, false, false, false, false, false, false, false, false] rfl rfl (by kernel_rfl) (fun _ _ _ h => h) (Or.inl ⟨by rfl, ?_⟩) ?_ ?_
      rotate_left
      · intro w'
        go_simp
        with_reducible rfl
      rotate_left
      · simp only [Act.put, List.setIfInBounds_toArray, List.set_cons_zero, List.set_cons_succ, i64_w, i32_w]
        rfl
      refine pure_ (i := 1) (N := some 31) (v := ?_) (a' := ?_) #[true, true, false, false, false, false, false, false, false, false, false, false] rfl rfl (by kernel_rfl) (fun _ _ _ h => h) (Or.inl ⟨by rfl, ?_⟩) ?_ ?_
      rotate_left
      · intro w'
        go_simp
        with_reducible rfl
      rotate_left
      · simp only [Act.put, List.setIfInBounds_toArray, List.set_cons_zero, List.set_cons_succ, i64_w, i32_w]
        rfl
      refine pure_ (i := 2) (N := some 32) (v := ?_) (a' := ?_) #[true, true, true, false, false, false, false, false, false, false, false, false] rfl rfl (by kernel_rfl) (fun _ _ _ h => h) (Or.inl ⟨by rfl, ?_⟩) ?_ ?_
      rotate_left
      · intro w'
        go_simp
        with_reducible rfl
      rotate_left
      · simp only [Act.put, List.setIfInBounds_toArray, List.set_cons_zero, List.set_cons_succ, i64_w, i32_w]
        rfl
      refine pure_ (i := 3) (N := some 33) (v := ?_) (a' := ?_) #[true, true, true, true, false, false, false, false, false, false, false, false] rfl rfl (by kernel_rfl) (fun _ _ _ h => h) (Or.inl ⟨by rfl, ?_⟩) ?_ ?_
      rotate_left
      · intro w'
        go_simp
        with_reducible rfl
      rotate_left
      · simp only [Act.put, List.setIfInBounds_toArray, List.set_cons_zero, List.set_cons_succ, i64_w, i32_w]
        rfl
      refine pure_ (i := 5) (N := some 35) (v := ?_) (a' := ?_) #[true, true, true, true, false, true, false, false, false, false, false, false] rfl rfl (by kernel_rfl) (fun _ _ _ h => h) (Or.inl ⟨by rfl, ?_⟩) ?_ ?_
      rotate_left
      · intro w'
        go_simp
        with_reducible rfl
      rotate_left
      · simp only [Act.put, List.setIfInBounds_toArray, List.set_cons_zero, List.set_cons_succ, i64_w, i32_w]
        rfl
      refine take_ (i := 4) (N := some 34) (v := ?_) (a' := ?_) #[true, true, true, true, true, true, false, false, false, false, false, false] rfl rfl (by kernel_rfl) (fun _ _ _ h => h) (Or.inl ⟨by rfl, ?_⟩) hHeld ?_ ?_
      rotate_left
      · rintro w' ⟨s0, s1, s2⟩
        go_simp
        with_reducible rfl
      rotate_left
      · simp only [Act.put, List.setIfInBounds_toArray, List.set_cons_zero, List.set_cons_succ, i64_w, i32_w]
        rfl
      refine one_ (i := 6) (N := some 36) #[true, true, true, true, true, true, true, false, false, false, false, false] rfl rfl (by kernel_rfl) (by decide) (fun K hK => ?_)
      refine goes_ Try.func24 (by kernel_rfl) rfl #[.slice B r.length cB] (by rfl) rfl rfl (by simp only [List.map_toArray, List.map_cons, List.map_nil]; rfl) ?_
      with_reducible refine (clone_v B cB r _ (Kd.C_drew HC0.out) HcB.out HRL.out).mono ?_
      rintro e v6 ⟨Bn, dn, rfl, hRn, hb6⟩
      refine ⟨_, rfl, ?_⟩
      have HB6 := Aside0.mk (below_step (below_drew (Below.refl _ wr)) hb6)
      have BP6 : Aside0 (v6.heap[g]? = some (.cells #[.int .i64 lo, .int .i64 taken, .slice A hk1.length c] 54 (0, 0))) := ⟨blk_below BP0.out HB6.out⟩
      have HR6 := Aside0.mk (kH_below HR0.out HB6.out)
      have HCT6 := Aside0.mk (HCT.out.below HB6.out)
      have HRN := Aside0.mk (show kb.R 5 v6 wr.heap.size (fun _ => True) (.slice Bn r.length dn) r from hRn)
      have HSZ := Aside0.mk (show g + 1 ≤ wr.heap.size from blk_lt BP0.out)
      clear hRn hb6
      refine hK.out _ _ ⟨pw_cell_below HB6.out z0, pw_cell_below HB6.out z1, pw_cell_below HB6.out z2⟩ (fun hHeld => ?_)
      clear hK K
      refine norm_ (a' := ?_) ?_ ?_
      rotate_left
      · show Act.put _ (some 36) _ = _
        simp only [Act.put, List.setIfInBounds_toArray, List.set_cons_zero, List.set_cons_succ, i64_w, i32_w]
        rfl
      refine one_ (i := 7) (N := some 37) #[true, true, true, true, true, true, true, true, false, false, false, false] rfl rfl (by kernel_rfl) (by decide) (fun K hK => ?_)
      refine value_ (w1 := ?_) (v := ?_) (by rfl) rfl ?_ ?_
      rotate_left 2
      · go_simp
        constructor
        · rfl
        · rfl
      refine hK.out _ _ ⟨pw_cell_below (below_alloc (Below.refl _ _) _) (pw_cell_below HB6.out z0), pw_cell_below (below_alloc (Below.refl _ _) _) (pw_cell_below HB6.out z1), pw_cell_below (below_alloc (Below.refl _ _) _) (pw_cell_below HB6.out z2)⟩ (fun hHeld => ?_)
      clear hK K
      refine norm_ (a' := ?_) ?_ ?_
      rotate_left
      · show Act.put _ (some 37) _ = _
        simp only [Act.put, List.setIfInBounds_toArray, List.set_cons_zero, List.set_cons_succ, i64_w, i32_w]
        rfl
      refine one_ (i := 8) (N := some 38) #[true, true, true, true, true, true, true, true, true, false, false, false] rfl rfl (by kernel_rfl) (by decide) (fun K hK => ?_)
      refine Kd.R_append_step kH (w0 := v6) (g + 1) (by rfl) (.tmp 34) (.tmp 37) 31 34 (.slice none 0 0) 24 rfl Try.underlying31 info34' rfl (by decide) (by decide) (.slice A hk1.length c) hk1 (Bn, r.length, dn) [.slice Bn r.length dn] (fun _ => True) (fun k => True ∧ some k ≠ (Value.slice A hk1.length c).ownBlock) rfl rfl rfl (fun _ hk => hk) (fun _ _ => trivial) HR6.out (Below.refl _ _) (Nat.le_trans HSZ.out HB6.out.size) (by omega) ?_
      intro v8 w8 hR8 hb8 hg8 hat8
      obtain ⟨A8, c8, rfl⟩ := Kd.R_slice hR8
      have HR8 := Aside0.mk hR8
      have HG8 := Aside0.mk hg8
      have HAT := Aside0.mk hat8
      have BP8 : Aside0 (w8.heap[g]? = some (.cells #[.int .i64 lo, .int .i64 taken, .slice A hk1.length c] 54 (0, 0))) := ⟨blk_grown BP6.out hg8 (Kd.R_ne HR6.out BP6.out (by decide))⟩
      have HCT8 := Aside0.mk (HCT6.out.own (Kd.own_of_R HR6.out) hg8)
      have HRN8 := Aside0.mk (R5_own HRN.out (Kd.own_of_R HR6.out) hg8)
      clear hR8 hb8 hg8 hat8
      have k2 : w8.cell? ⟨g, 2, none⟩ = some (.slice A hk1.length c) := (blk_cell BP8.out 2).trans rfl
      have f2 := blk_frozen BP8.out 2
      refine hK.out _ _ ⟨(blk_cell BP8.out 0).trans rfl, (blk_cell BP8.out 1).trans rfl, (blk_cell BP8.out 2).trans rfl⟩ (fun hHeld => ?_)
      clear hK K
      refine norm_ (a' := ?_) ?_ ?_
      rotate_left
      · show Act.put _ (some 38) _ = _
        simp only [Act.put, List.setIfInBounds_toArray, List.set_cons_zero, List.set_cons_succ, i64_w, i32_w]
        rfl
      refine pure_ (i := 9) (N := some 39) (v := ?_) (a' := ?_) #[true, true, true, true, true, true, true, true, true, true, false, false] rfl rfl (by kernel_rfl) (fun _ _ _ h => h) (Or.inl ⟨by rfl, ?_⟩) ?_ ?_
      rotate_left
      · intro w'
        go_simp
        with_reducible rfl
      rotate_left
      · simp only [Act.put, List.setIfInBounds_toArray, List.set_cons_zero, List.set_cons_succ, i64_w, i32_w]
        rfl
      refine pure_ (i := 10) (N := some 40) (v := ?_) (a' := ?_) #[true, true, true, true, true, true, true, true, true, true, true, false] rfl rfl (by kernel_rfl) (fun _ _ _ h => h) (Or.inl ⟨by rfl, ?_⟩) ?_ ?_
      rotate_left
      · intro w'
        go_simp
        with_reducible rfl
      rotate_left
      · simp only [Act.put, List.setIfInBounds_toArray, List.set_cons_zero, List.set_cons_succ, i64_w, i32_w]
        rfl
      refine last_ (i := 11) (N := none) #[true, true, true, true, true, true, true, true, true, true, true, true] rfl rfl (by kernel_rfl) (by decide) (fun K hK => ?_)
      refine skip_ (w1 := ?_) (by rfl) rfl ?_ ?_
      rotate_left
      · go_simp
        rfl
      refine hK.out _ _ ?_
      clear hK K
      refine done_ (by kernel_rfl) ?_
      go_wp2_with fail
      have hpost : (w8.setCell ⟨g, 2, none⟩ (.slice A8 (hk1.length + 1) c8)).heap[g]? = some (.cells #[.int .i64 lo, .int .i64 taken, .slice A8 (hk1.length + 1) c8] 54 (0, 0)) := blk_put (cs := #[.int .i64 lo, .int .i64 taken, .slice A hk1.length c]) BP8.out 2 _ rfl
      have hln : (hk1 ++ [(Bn, r.length, dn)]).length = hk1.length + 1 := by simp
      rw [hln] at HAT HR8
      have HN := Aside0.mk (show sendOf lost rows (args.take (k + 1)) = (lo, rs ++ [r]) by rw [HST.out]; unfold sendS; rw [← HRS.out, ← HLO.out, if_neg (by rw [← HLN.out]; exact h4)])
      have hct9 := (HCT8.out.types BP8.out (by decide) (grown_set w8 g 2 (.slice A8 (hk1.length + 1) c8))).snoc (Bn, r.length, dn) r ⟨rfl, Kd.R_lower (R5_types HRN8.out BP8.out (by decide) (grown_set w8 g 2 (.slice A8 (hk1.length + 1) c8))) HSZ.out, HRL.out⟩
      have hnew : ∀ k, hB (Bn, r.length, dn) = some k → wr.heap.size ≤ k := fun k hk => by obtain ⟨inner, ho⟩ := Kd.R_own HRN.out; exact own_base ho k hk
      have hds9 := HDS.out.snoc (Bn, r.length, dn) (fun k hk b hb hbk => by have h1 := hnew k hk; have h2 := HCT.out.lt b hb k hbk; omega)
      have HPN : Aside0 (PH (w8.setCell ⟨g, 2, none⟩ (.slice A8 (hk1.length + 1) c8)) g lo taken (hk1 ++ [(Bn, r.length, dn)]) (rs ++ [r])) := ⟨⟨A8, c8, by rw [hln]; exact hpost, by rw [hln]; exact kH_set HR8.out BP8.out (by decide) 2 _, by rw [hln]; omega, hct9, hds9⟩⟩
      have HFN : Aside0 (Fresh W hs (hk1 ++ [(Bn, r.length, dn)])) := ⟨fun a ha => by rcases List.mem_append.1 ha with ha | ha; exact HFR.out a ha; (rw [List.mem_singleton.1 ha]; exact .inr (fun k hk => Nat.le_trans HW.out.size (hnew k hk)))⟩
      clear hct9 hds9 hnew
      go_roundw
      case rel => exact ⟨k + 1, _, by omega, by go_num, ⟨by rw [HN.out]; exact HPN.out⟩, ⟨FR.trans HW.out (FR.trans (FR.of_below HSZ.out HB6.out) (FR.made BP6.out hpost HG8.out (grown_set _ _ _ _) HAT.out))⟩, HFN⟩
      case measure => simp [intOf]; omega
set_option maxHeartbeats 4000000 in
set_option maxRecDepth 100000 in
theorem copy_h (W : World) (g : Nat) (lost taken : Int) (hs : List Hd) (rows : List (List Int)) (h : PH W g lost taken hs rows) (i : Nat) (B : Option Addr) (d : Nat) (r : List Int) (hi : rows[i]? = some r) (hh : hs[i]? = some (B, r.length, d)) :
    Calls Try.prog 20 #[.pointer (some ⟨g, 0, none⟩), .int .i64 i] W fun e w' => ∃ hs', e = .returned (.bool true) ∧ PH w' g (sendS (lost, rows) r).1 taken hs' (sendS (lost, rows) r).2 ∧ FR g W w' := by
  have hu25 := Try.underlying25
  have hu31 := Try.underlying31
  have hu34 := Try.underlying34
  have hu54 := Try.underlying54
  have hu52 := Try.underlying52
  have HPH := Aside0.mk h
  have HP := Aside0.mk h.at_
  obtain ⟨A, c, hB0, hR0, hok, hct, hds⟩ := h
  have hl := hct.1
  have hil : i < rows.length := (List.getElem?_eq_some_iff.1 hi).1
  obtain ⟨b, rfl⟩ : ∃ b, A = some ⟨b, 0, none⟩ := by
    obtain ⟨_, inner, ho, _⟩ := hR0
    rcases ho.2 with ⟨hv, hz⟩ | ⟨g, cap', cur, hv, _⟩
    · exfalso; injection hv with _ hv _; omega
    · injection hv with ha _ _
      exact ⟨g, ha⟩
  have d1 : decide ((i : Int) < 0) = false := decide_eq_false (by omega)
  have d2 : decide (rows.length ≤ i) = false := decide_eq_false (by omega)
  have hil2 : i < hs.length := by omega
  have BP0 := Aside0.mk hB0
  have HR0 := Aside0.mk hR0
  have HRC := Aside0.mk (hct.2 i _ r hh hi).2.1
  have HRL := Aside0.mk (hct.2 i _ r hh hi).2.2
  have HH := Aside0.mk hh
  clear hB0 hR0 hok hi hh hct hds hl
  go_enter Try.func20, Try.ntmps20
  go_wp2_with fail
  refine (len_c _ g lost taken rows HP.out).mono ?_
  rintro e w1 ⟨rfl, hb1⟩
  have HB2 := Aside0.mk hb1
  have BP2 : Aside0 (w1.heap[g]? = some (.cells #[.int .i64 lost, .int .i64 taken, .slice (some ⟨b, 0, none⟩) hs.length c] 54 (0, 0))) := ⟨(hb1.block _ (blk_lt BP0.out)).trans BP0.out⟩
  have CPH2 := Aside0.mk (PH.below HPH.out hb1)
  have RL2 := Aside0.mk (Kd.R_below HR0.out hb1)
  have RX2 := Aside0.mk (Kd.R_below HRC.out hb1)
  clear hb1
  have zP3_0 : w1.cell? ⟨g, 0, none⟩ = some (.int .i64 lost) := (blk_cell BP2.out 0).trans rfl
  have zP3_1 : w1.cell? ⟨g, 1, none⟩ = some (.int .i64 taken) := (blk_cell BP2.out 1).trans rfl
  have zP3_2 : w1.cell? ⟨g, 2, none⟩ = some (.slice (some ⟨b, 0, none⟩) hs.length c) := (blk_cell BP2.out 2).trans rfl
  obtain ⟨hcell, _⟩ := Kd.R_celln (none, 0, 0) RL2.out (i : Int) (by omega) (by omega)
  rw [Int.toNat_natCast, show rdOf (none, 0, 0) hs (i : Int) = (B, r.length, d) from by simp [rdOf, List.getD_eq_getElem?_getD, HH.out], show encH (B, r.length, d) = .slice B r.length d from rfl] at hcell
  have hlt : decide ((i : Int) < (hs.length : Int)) = true := decide_eq_true (by omega)
  go_wp2_with fail
  clear zP3_0 zP3_1 zP3_2
  clear hcell
  obtain ⟨W4, hw4⟩ : ∃ x : World, x = w1.alloc (.cells #[.slice B r.length d] 34) := ⟨_, rfl⟩
  have hbs4 : Below w1.heap.size w1 W4 := by rw [hw4]; repeat (first | exact Below.refl _ _ | refine below_alloc ?_ _ | refine below_drew ?_)
  obtain ⟨gq4, hgq4⟩ : ∃ x, x = w1.heap.size := ⟨_, rfl⟩
  have GSq4 : Aside0 (W.heap.size ≤ gq4) := ⟨by rw [hgq4]; have := HB2.out.size; omega⟩
  have Bq4 : Aside0 (W4.heap[gq4]? = some (.cells #[.slice B r.length d] 34 (0, 0))) := ⟨by rw [hw4, hgq4]; exact blk_new _ _⟩
  rw [← hw4]
  rw [← hgq4]
  clear hw4 hgq4
  have HB5 := Aside0.mk (below_step HB2.out hbs4)
  have BP5 : Aside0 (W4.heap[g]? = some (.cells #[.int .i64 lost, .int .i64 taken, .slice (some ⟨b, 0, none⟩) hs.length c] 54 (0, 0))) := ⟨(hbs4.block _ (blk_lt BP2.out)).trans BP2.out⟩
  have CPH5 := Aside0.mk (PH.below CPH2.out hbs4)
  have RL5 := Aside0.mk (Kd.R_below RL2.out hbs4)
  have RX5 := Aside0.mk (Kd.R_below RX2.out hbs4)
  clear hbs4
  have HPX := Aside0.mk (CPH5.out.at_)
  have HQG : Aside0 (gq4 ≠ g ∧ some gq4 ≠ ownB W4 g) := ⟨by
    refine ⟨fun e => by have := HP.out.lt; have := GSq4.out; omega, ?_⟩
    rw [ownB_of BP5.out]
    intro e
    have := own_lt (Kd.own_of_R HR0.out) b rfl
    have := GSq4.out
    have e2 : gq4 = b := Option.some.inj e
    omega⟩
  have hlq := blk_lt Bq4.out
  have HCS : Aside0 (∀ w, FR g W4 w → kB.C w (some ⟨gq4, 0, none⟩) [r].length [r]) := ⟨fun w hw => by
    refine CB_blk [.slice B r.length d] [r] ((hw.block _ hlq HQG.out.1 HQG.out.2).trans Bq4.out) rfl (by simp) ?_
    intro j r' v hr' hv'
    rcases j with _ | j
    · simp only [List.getElem?_cons_zero, Option.some.injEq] at hr' hv'
      subst hr' hv'
      have hrr := Kd.R_reads' (R5_fr RX5.out HPX.out hw)
      exact ⟨B, d, rfl, hrr.2.1, hrr.2.2⟩
    · simp at hr'⟩
  have HS := Aside0.mk (send_h W4 g lost taken hs rows CPH5.out (some ⟨gq4, 0, none⟩) 1 [r] HCS.out (by simp) (by intro x hx; rw [List.mem_singleton.1 hx]; exact HRL.out))
  refine HS.out.mono ?_
  rintro e w3 ⟨hs3, rfl, hP3, hF3, _⟩
  have HP3 := Aside0.mk hP3
  have HF3 := Aside0.mk hF3
  clear hP3 hF3
  go_wp2_with fail
  go_ret
  exact ⟨hs3, rfl, HP3.out, FR.trans (FR.of_below HP.out.lt HB5.out) HF3.out⟩
end Go.Proofs.Ytnjhgckmfebdoaa.MAll

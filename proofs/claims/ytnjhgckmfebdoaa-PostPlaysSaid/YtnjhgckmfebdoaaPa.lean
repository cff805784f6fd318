/- Posts in memory; the contracts of their methods. -/
import Derived.Test.YtnjhgckmfebdoaaKit
import Derived.Test.YtnjhgckmfebdoaaMAllx0
import Derived.Lib.SliceRun
import Derived.Laws.OwnMore
import Derived.OpenShut
import Derived.KernelRfl
import Derived.Deep.RegionLaw
import Derived.Deep.DrawnRows
set_option linter.unusedVariables false
set_option linter.unusedSimpArgs false
namespace Go.Proofs.Ytnjhgckmfebdoaa.MAll
open Go.RowKit Go.Proofs.YtnjhgckmfebdoaaW.PrintWords Go.Proofs.YtnjhgckmfebdoaaW.PrintLast Go.Proofs.YtnjhgckmfebdoaaW.PrintMore
attribute [local go_sem ↓] Go.wp_at_zero Go.wp_at_succ

theorem info5' : (Try.prog.info? 5).map (fun i => (i.zero, i.size, i.bytes)) = some (some (.int .u8 0), 1, 1) := by kernel_rfl
theorem info34' : (Try.prog.info? 34).map (fun i => (i.zero, i.size, i.bytes)) = some (some (.slice none 0 0), 1, 24) := by kernel_rfl
abbrev kb : Kd Int := Kd.int .u8
/-- A list of bytes as an element. -/
abbrev kB : Kd (List Int) := Kd.slice 5 kb
theorem grown_set (W : World) (g j : Nat) (v : Value) : W.grownBy (W.setCell ⟨g, j, none⟩ v) (some g) := ⟨rfl, rfl, rfl, by simp [World.setCell], fun k _ hk => Below.heap_setCell _ _ _ k (fun e => hk (by rw [e]))⟩
set_option maxHeartbeats 400000 in
theorem clone_v (A0 : Option Addr) (c0 : Nat) (l0 : List Int) (w : World) (hr0 : kb.C w A0 l0.length l0) (hc0 : l0.length ≤ c0) (hlt : l0.length < 140737488351233) :
    Calls Try.prog 24 #[.slice A0 l0.length c0] w fun e w' => ∃ B d, e = .returned (.slice B l0.length d) ∧ kb.R 5 w' w.heap.size (fun _ => True) (.slice B l0.length d) l0 ∧ Below w.heap.size w w' := by
  have hu := Try.underlying34
  have HR := Aside0.mk hr0
  clear hr0
  have HL := Aside0.mk hlt
  clear hlt
  rcases A0 with _ | a
  · have heq := fun (W : World) => Go.Lib.run_eql_slice_nil (P := Try.prog) W 34 5 none l0.length c0 0 0 hu
    simp only [Option.isNone_none] at heq
    go_enter Try.func24, Try.ntmps24
    go_wp2
    go_ret
    have h0 : l0 = [] := by
      rcases l0 with _ | ⟨x, l⟩
      · rfl
      · obtain ⟨ad, c, h, _⟩ := Kd.C_get HR.out 0 0 (by omega) (by simp)
        cases h
    subst h0
    exact ⟨none, 0, rfl, Kd.R_nil _ _ _ _ _, Below.refl _ _⟩
  · have heq := fun (W : World) => Go.Lib.run_eql_slice_nil (P := Try.prog) W 34 5 (some a) l0.length c0 0 0 hu
    simp only [Option.isNone_some] at heq
    go_enter Try.func24, Try.ntmps24
    go_wp2_with (at_builtin; refine Kd.R_append_row (Value.int .u8) 0 (h1 := fun _ => rfl) (w0 := w) w.heap.size rfl (.tmp 5) (.tmp 6) 34 5 (.int .u8 0) 1 rfl Try.underlying34 info5' rfl (by decide) (.slice (some ⟨w.heap.size, 0, none⟩) 0 0) [] l0 (some a) l0.length c0 (fun _ => True) rfl rfl (fun _ _ => trivial) ?aO ?aR ?aB ?aS ?aL ?_; (case aO => exact Kd.R_of_own (own_lit w w.heap.size 5 .u8 [] (Nat.le_refl _) (by simp)) (fun _ _ => trivial)); (case aR => exact Kd.C_alloc HR.out _); (case aB => exact below_alloc (Below.refl _ _) _); (case aS => simp); (case aL => have := HL.out; simp; omega); intro v1 w1 ho hb hg hat; have HO := Aside0.mk ho; have HB := Aside0.mk hb; clear ho hb hg hat)
    go_ret
    have ho : kb.R 5 w1 w.heap.size (fun _ => True) v1 l0 := HO.out
    obtain ⟨B, d, rfl⟩ := Kd.R_slice ho
    exact ⟨B, d, rfl, ho, HB.out⟩

/-! a post in memory -/
def okRows (rows : List (List Int)) : Prop := rows.length ≤ 4096 ∧ ∀ r ∈ rows, r.length < 140737488351233
def PAt (W : World) (g : Nat) (lost taken : Int) (rows : List (List Int)) : Prop :=
  ∃ A c, W.heap[g]? = some (.cells #[.int .i64 lost, .int .i64 taken, .slice A rows.length c] 54 (0, 0)) ∧ kB.R 34 W (g + 1) (fun _ => True) (.slice A rows.length c) rows ∧ okRows rows
theorem PAt.below {W W1 : World} {g : Nat} {lost taken : Int} {rows : List (List Int)} (h : PAt W g lost taken rows) (hb : Below W.heap.size W W1) : PAt W1 g lost taken rows := by
  obtain ⟨A, c, h1, h2, h3⟩ := h
  exact ⟨A, c, blk_below h1 hb, Kd.R_below h2 hb, h3⟩
theorem PAt.lt {W : World} {g : Nat} {lost taken : Int} {rows : List (List Int)} (h : PAt W g lost taken rows) : g < W.heap.size := by
  obtain ⟨A, c, h1, _⟩ := h
  exact blk_lt h1
theorem new_c (W : World) : Calls Try.prog 11 #[] W fun e w' => ∃ g, e = .returned (.pointer (some ⟨g, 0, none⟩)) ∧ W.heap.size ≤ g ∧ PAt w' g 0 0 [] ∧ Below W.heap.size W w' := by
  have hu54 := Try.underlying54
  have hu52 := Try.underlying52
  go_enter Try.func11, Try.ntmps11
  go_wp2_with fail
  go_ret
  exact ⟨_, rfl, Nat.le_refl _, ⟨none, 0, blk_new _ _, Kd.R_nil _ _ _ _ _, by simp [okRows]⟩, below_alloc (Below.refl _ _) _⟩
set_option maxHeartbeats 2000000 in
set_option maxRecDepth 100000 in
theorem len_c (W : World) (g : Nat) (lost taken : Int) (rows : List (List Int)) (h : PAt W g lost taken rows) :
    Calls Try.prog 21 #[.pointer (some ⟨g, 0, none⟩)] W fun e w' => e = .returned (.int .i64 rows.length) ∧ Below W.heap.size W w' := by
  have hu25 := Try.underlying25
  have hu54 := Try.underlying54
  have hu52 := Try.underlying52
  have HP := Aside0.mk h
  obtain ⟨A, c, hB0, hR0, hok⟩ := h
  have BP0 := Aside0.mk hB0
  have HR0 := Aside0.mk hR0
  have hlc := (Kd.R_reads' hR0).2.1
  have HOK := Aside0.mk hok
  have hn : rows.length ≤ 4096 := hok.1
  clear hB0 hR0 hok
  have zP1_0 : W.cell? ⟨g, 0, none⟩ = some (.int .i64 lost) := (blk_cell BP0.out 0).trans rfl
  have zP1_1 : W.cell? ⟨g, 1, none⟩ = some (.int .i64 taken) := (blk_cell BP0.out 1).trans rfl
  have zP1_2 : W.cell? ⟨g, 2, none⟩ = some (.slice A rows.length c) := (blk_cell BP0.out 2).trans rfl
  go_enter Try.func21, Try.ntmps21
  go_wp2
  go_ret
  exact ⟨rfl, by repeat (first | exact Below.refl _ _ | apply below_drew | apply pw_below_drewN)⟩
set_option maxHeartbeats 2000000 in
set_option maxRecDepth 100000 in
theorem lost_c (W : World) (g : Nat) (lost taken : Int) (rows : List (List Int)) (h : PAt W g lost taken rows) :
    Calls Try.prog 22 #[.pointer (some ⟨g, 0, none⟩)] W fun e w' => e = .returned (.int .i64 lost) ∧ Below W.heap.size W w' := by
  have hu25 := Try.underlying25
  have hu54 := Try.underlying54
  have hu52 := Try.underlying52
  have HP := Aside0.mk h
  obtain ⟨A, c, hB0, hR0, hok⟩ := h
  have BP0 := Aside0.mk hB0
  have HR0 := Aside0.mk hR0
  have hlc := (Kd.R_reads' hR0).2.1
  have HOK := Aside0.mk hok
  have hn : rows.length ≤ 4096 := hok.1
  clear hB0 hR0 hok
  have zP1_0 : W.cell? ⟨g, 0, none⟩ = some (.int .i64 lost) := (blk_cell BP0.out 0).trans rfl
  have zP1_1 : W.cell? ⟨g, 1, none⟩ = some (.int .i64 taken) := (blk_cell BP0.out 1).trans rfl
  have zP1_2 : W.cell? ⟨g, 2, none⟩ = some (.slice A rows.length c) := (blk_cell BP0.out 2).trans rfl
  go_enter Try.func22, Try.ntmps22
  go_wp2
  go_ret
  exact ⟨rfl, by repeat (first | exact Below.refl _ _ | apply below_drew | apply pw_below_drewN)⟩
set_option maxHeartbeats 2000000 in
set_option maxRecDepth 100000 in
theorem taken_c (W : World) (g : Nat) (lost taken : Int) (rows : List (List Int)) (h : PAt W g lost taken rows) :
    Calls Try.prog 23 #[.pointer (some ⟨g, 0, none⟩)] W fun e w' => e = .returned (.int .i64 taken) ∧ Below W.heap.size W w' := by
  have hu25 := Try.underlying25
  have hu54 := Try.underlying54
  have hu52 := Try.underlying52
  have HP := Aside0.mk h
  obtain ⟨A, c, hB0, hR0, hok⟩ := h
  have BP0 := Aside0.mk hB0
  have HR0 := Aside0.mk hR0
  have hlc := (Kd.R_reads' hR0).2.1
  have HOK := Aside0.mk hok
  have hn : rows.length ≤ 4096 := hok.1
  clear hB0 hR0 hok
  have zP1_0 : W.cell? ⟨g, 0, none⟩ = some (.int .i64 lost) := (blk_cell BP0.out 0).trans rfl
  have zP1_1 : W.cell? ⟨g, 1, none⟩ = some (.int .i64 taken) := (blk_cell BP0.out 1).trans rfl
  have zP1_2 : W.cell? ⟨g, 2, none⟩ = some (.slice A rows.length c) := (blk_cell BP0.out 2).trans rfl
  go_enter Try.func23, Try.ntmps23
  go_wp2
  go_ret
  exact ⟨rfl, by repeat (first | exact Below.refl _ _ | apply below_drew | apply pw_below_drewN)⟩
theorem len_nil (W : World) : Calls Try.prog 21 #[.pointer none] W fun e w' => e = .returned (.int .i64 0) ∧ Below W.heap.size W w' := by
  have hu25 := Try.underlying25
  go_enter Try.func21, Try.ntmps21
  go_wp2
  go_ret
  exact ⟨rfl, by repeat (first | exact Below.refl _ _ | apply below_drew | apply pw_below_drewN)⟩
theorem lost_nil (W : World) : Calls Try.prog 22 #[.pointer none] W fun e w' => e = .returned (.int .i64 0) ∧ Below W.heap.size W w' := by
  have hu25 := Try.underlying25
  go_enter Try.func22, Try.ntmps22
  go_wp2
  go_ret
  exact ⟨rfl, by repeat (first | exact Below.refl _ _ | apply below_drew | apply pw_below_drewN)⟩
theorem taken_nil (W : World) : Calls Try.prog 23 #[.pointer none] W fun e w' => e = .returned (.int .i64 0) ∧ Below W.heap.size W w' := by
  have hu25 := Try.underlying25
  go_enter Try.func23, Try.ntmps23
  go_wp2
  go_ret
  exact ⟨rfl, by repeat (first | exact Below.refl _ _ | apply below_drew | apply pw_below_drewN)⟩
theorem step_append_fits {ops : Array Oper} {o : Oper} {a : Act} {w : World} {K : Act → World → Prop} {Q : Exit → Act → World → Prop} {E : Prop} {P : Program}
    (hg : o.guard = none) (s x : Operand) (t : TypeId) (hop : o.op = Op.call { callee := Callee.builtin Builtin.append, args := #[s, x], argTypes := #[t, t] })
    (base : Nat) (e : TypeId) (i : TypeInfo) (h1 : P.underlying t = some (.slice e)) (h2 : P.info? e = some i) (h4 : i.size = 1)
    (g k cap : Nat) (xs : List Value) (hs : a.eval s = .slice (some ⟨g, 0, none⟩) k cap) (hown : w.ownsRow base e 1 (.slice (some ⟨g, 0, none⟩) k cap) k xs) (ad : Addr) (m c : Nat) (news : List Value) (hx : a.eval x = .slice (some ad) m c) (hn : news.length = m)
    (hc : ∀ j u, news[j]? = some u → w.cell? (ad.add j) = some u) (h1c : ∀ u ∈ news, u.oneCell' = true) (b1 : k + m ≤ cap)
    (hK : ∀ w', w'.ownsRow base e 1 (.slice (some ⟨g, 0, none⟩) (k + m) cap) (k + m) (xs ++ news) → w.grownBy w' (some g) → K (a.put o.dst (.slice (some ⟨g, 0, none⟩) (k + m) cap)) w') :
    if Region.wanted o (yielded ops a.tmps) = true then Oper.wp P o a w K Q else E := by
  have hw : Region.wanted o (yielded ops a.tmps) = true := by simp [Region.wanted, hg]
  rw [if_pos hw]
  obtain ⟨w', hrun, r1, r2⟩ := run_append_fits (P := P) w base t o.type e i 1 h1 h2 h4 g k cap xs hown ad m c news (by simpa using hn) hc h1c b1
  unfold Oper.wp
  simp [execOp, hop, resolve, invoke, builtin, hs, hx, hrun, Result.andThen]
  exact hK w' r1 r2
/-- A cell behind those that count is written. -/
theorem own_behind {w : World} {base g n cap : Nat} {e : TypeId} {xs : List Value} (h : w.ownsRow base e 1 (.slice (some ⟨g, 0, none⟩) n cap) n xs) (j : Nat) (hj : n ≤ j) (z : Value) : (w.setCell ⟨g, j, none⟩ z).ownsRow base e 1 (.slice (some ⟨g, 0, none⟩) n cap) n xs := by
  refine ⟨h.1, ?_⟩
  rcases h.2 with ⟨h', _⟩ | ⟨g', cap', cur, h', hb, hh, hnc, hcm, hs, ht⟩
  · simp at h'
  · injection h' with h1 h2 h3
    injection h1 with h1
    injection h1 with h1
    subst h1 h3
    refine .inr ⟨g, cap, _, rfl, hb, blk_set hh j z, hnc, hcm, by simpa using hs, ?_⟩
    rw [← ht, Array.toList_setIfInBounds, List.take_set_of_le (by omega)]
theorem own_first {w : World} {base g n cap : Nat} {e : TypeId} {xs : List Value} (h : w.ownsRow base e 1 (.slice (some ⟨g, 0, none⟩) n cap) n xs) (k : Nat) (hk : k ≤ n) : w.ownsRow base e 1 (.slice (some ⟨g, 0, none⟩) k cap) k (xs.take k) := by
  have hl := h.1
  rcases h.2 with ⟨h', _⟩ | ⟨g', cap', cur, h', hb, hh, hnc, hcm, hs, ht⟩
  · simp at h'
  · injection h' with h1 h2 h3
    injection h1 with h1
    injection h1 with h1
    subst h1 h3
    refine ⟨by rw [List.length_take]; omega, .inr ⟨g, cap, cur, rfl, hb, hh, by omega, hcm, hs, ?_⟩⟩
    rw [← ht, List.take_take]
    congr 1
    omega
theorem own_cells {w : World} {base g n cap : Nat} {e : TypeId} {xs : List Value} (h : w.ownsRow base e 1 (.slice (some ⟨g, 0, none⟩) n cap) n xs) : ∃ cur, w.heap[g]? = some (.cells cur e (0, 0)) ∧ cur.size = cap ∧ n ≤ cap ∧ base ≤ g ∧ ∀ j, j < n → cur[j]? = xs[j]? := by
  rcases h.2 with ⟨h', _⟩ | ⟨g', cap', cur, h', hb, hh, hnc, hcm, hs, ht⟩
  · simp at h'
  · injection h' with h1 h2 h3
    injection h1 with h1
    injection h1 with h1
    subst h1 h3
    refine ⟨cur, hh, by omega, hnc, hb, fun j hj => ?_⟩
    rw [← ht, List.getElem?_take_of_lt (by omega), Array.getElem?_toList]
end Go.Proofs.Ytnjhgckmfebdoaa.MAll

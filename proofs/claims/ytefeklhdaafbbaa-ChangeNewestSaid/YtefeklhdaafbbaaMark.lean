/- marked and stands: a copy with a mark behind it. -/
import Derived.Test.YtefeklhdaafbbaaA
set_option linter.unusedVariables false
set_option linter.unusedSimpArgs false
namespace Go.Proofs.Ytefeklhdaafbbaa.MAll
open Go.RowKit Go.Proofs.YtefeklhdaafbbaaW.PrintWords Go.Proofs.YtefeklhdaafbbaaW.PrintLast Go.Proofs.YtefeklhdaafbbaaW.PrintMore

/-- The copy's block: the numbers, and the mark. -/
def Marked (w : World) (g : Nat) (l : List Int) : Prop := w.heap[g]? = some (.cells (nums .i64 (l ++ [-77])).toArray 3 (0, 0))

set_option maxHeartbeats 400000 in
set_option maxRecDepth 100000 in
theorem marked_any (A : Option Addr) (c : Nat) (l : List Int) (w : World) (hr : (Kd.int .i64).C w A l.length l) (hc : l.length ≤ c) (hl : l.length < 17592186044416) :
    Calls Try.prog 9 #[.slice A l.length c] w fun e w' => ∃ g, e = .returned (.slice (some ⟨g, 0, none⟩) l.length (l.length + 1)) ∧ Marked w' g l ∧ w.heap.size ≤ g ∧ Below w.heap.size w w' := by
  have HR := Aside0.mk hr
  have HL := Aside0.mk hl
  clear hr hl
  have hmk := Go.run_make_room (P := Try.prog) 22 3 (.int .i64 0) 8 Try.underlying22 info3 rfl .i64 .i64 (l.length + 1) (by have := HL.out; omega) (by have := HL.out; omega)
  have hw1 : IntKind.i64.wrap ((l.length : Int) + 1) = (l.length : Int) + 1 := by have := HL.out; have e : IntKind.i64.wrap ((l.length : Int) + 1) = wrap64 ((l.length : Int) + 1) := i64_w _; rw [e]; unfold wrap64; omega
  have hw2 : wrap64 ((l.length : Int) + 1) = (l.length : Int) + 1 := by have := HL.out; unfold wrap64; omega
  rw [show ((l.length + 1 : Nat) : Int) = (l.length : Int) + 1 by omega] at hmk
  go_enter Try.func9, Try.ntmps9
  have tok : True := trivial
  have hown : Aside0 ((w.alloc (.cells (madeCells #[.int .i64 0] (l.length + 1)) 3)).ownsRow w.heap.size 3 1 (.slice (some ⟨w.heap.size, 0, none⟩) 0 (l.length + 1)) 0 (nums .i64 [])) :=
    ⟨World.ownsRow_made w _ _ (Nat.le_refl _) (by have := HL.out; simp only [maxLen]; omega) (by rw [size_madeCells]; simp)⟩
  go_wp2_with (first
    | (at_builtin; have _t := tok; refine Kit.append_fitsC rfl (.tmp 6) (.tmp 7) 22 rfl w.heap.size 3 (.int .i64 0) 8 Try.underlying22 info3 w.heap.size 0 (l.length + 1) [] l rfl hown.out A l.length c rfl (Kd.C_alloc HR.out _) (by omega) ?_; intro w1 h1 h2; simp only [Nat.zero_add, List.nil_append] at h1; have HO := Aside0.mk h1; have HB := Aside0.mk ((below_alloc (Below.refl _ w) (.cells (madeCells #[.int .i64 0] (l.length + 1)) 3)).grown h2 (by simp) (fun k e => by injection e with e; omega)); clear h1 h2 tok hown)
    | (at_builtin; refine Kit.append_fitsC rfl (.tmp 8) (.tmp 9) 22 rfl w.heap.size 3 (.int .i64 0) 8 Try.underlying22 info3 w.heap.size l.length (l.length + 1) l [-77] rfl (HO.out.alloc _) _ 1 1 rfl (Kit.C_lits w1 3 [-77] (by simp) _ rfl) (by omega) ?_; intro w2 h1 h2; have HO2 := Aside0.mk h1; have HB2 := Aside0.mk ((below_alloc HB.out (.cells #[.int .i64 (-77)] 3)).grown h2 (Nat.le_trans HB.out.size (by simp)) (fun k e => by injection e with e; omega)); clear h1 h2 HO))
  have hE := Kit.own_block HO2.out
  go_ret
  exact ⟨w.heap.size, rfl, hE.1, Nat.le_refl _, HB2.out⟩
theorem Marked.below {w w1 : World} {g : Nat} {l : List Int} (h : Marked w g l) (hb : Below w.heap.size w w1) : Marked w1 g l := (hb.block g (blk_lt h)).trans h
theorem Marked.cell {w : World} {g : Nat} {l : List Int} (h : Marked w g l) (j : Nat) (hj : j < l.length) : w.cell? ⟨g, j, none⟩ = some (.int .i64 (l.getD j 0)) := by
  rw [blk_cell h j]
  have hj' : j < (l ++ [-77]).length := by simp; omega
  show (nums .i64 (l ++ [-77])).toArray[j]? = _
  rw [List.getElem?_toArray]
  unfold nums
  rw [List.getElem?_map, List.getElem?_append_left hj, List.getElem?_eq_getElem hj]
  simp [List.getD_eq_getElem?_getD, List.getElem?_eq_getElem hj]
theorem Marked.mark {w : World} {g : Nat} {l : List Int} (h : Marked w g l) : w.cell? ⟨g, l.length, none⟩ = some (.int .i64 (-77)) := by
  rw [blk_cell h l.length]
  simp [nums]
theorem Marked.C {w : World} {g : Nat} {l : List Int} (h : Marked w g l) (hl : l.length ≤ 9223372036854775807) : (Kd.int .i64).C w (some ⟨g, 0, none⟩) l.length l :=
  Kd.C_of_reads (d := 0) ⟨rfl, hl, fun _ => ⟨_, rfl, fun j hj => by rw [add_plain]; exact h.cell j hj⟩⟩

set_option maxHeartbeats 400000 in
set_option maxRecDepth 100000 in
theorem stands_any (g : Nat) (A : Option Addr) (c : Nat) (l : List Int) (w : World) (hM : Marked w g l) (hr : (Kd.int .i64).C w A l.length l) (hc : l.length ≤ c) (hl : l.length < 17592186044416) :
    Calls Try.prog 16 #[.slice (some ⟨g, 0, none⟩) l.length (l.length + 1), .slice A l.length c] w fun e w' => e = .returned (.bool true) ∧ Below w.heap.size w w' := by
  have HR := Aside0.mk hr
  have HL := Aside0.mk hl
  have HM := Aside0.mk hM
  clear hr hl hM
  have hw1 : IntKind.i64.wrap ((l.length : Int) + 1) = (l.length : Int) + 1 := by have := HL.out; have e : IntKind.i64.wrap ((l.length : Int) + 1) = wrap64 ((l.length : Int) + 1) := i64_w _; rw [e]; unfold wrap64; omega
  have hw2 : wrap64 ((l.length : Int) + 1) = (l.length : Int) + 1 := by have := HL.out; unfold wrap64; omega
  have HMC := Aside0.mk (HM.out.C (by have := HL.out; omega))
  go_enter Try.func16, Try.ntmps16
  go_wp2_with (go_at_call 12; refine (ints_is true _ _ _ _ _ _ _ (decide_eq_true rfl) HMC.out (by omega) HR.out hc).mono ?_; rintro e w1 ⟨rfl, hb1⟩; have HB := Aside0.mk hb1; have HM1 := Aside0.mk (HM.out.below hb1); have hmk := HM1.out.mark; clear hb1)
  go_ret
  exact ⟨rfl, HB.out⟩
end Go.Proofs.Ytefeklhdaafbbaa.MAll

/- BallotNexts: the plain law, the walk. -/
import Derived.Test.YtckbidmemdkdpaaAlive09
import Derived.Test.YtckbidmemdkdpaaKinds
import Derived.Test.YtckbidmemdkdpaaMAllx7
set_option linter.unusedVariables false
set_option linter.unusedSimpArgs false
namespace Go.Proofs.Ytckbidmemdkdpaa.MAll
open Go.RowKit Go.Proofs.YtckbidmemdkdpaaW.PrintWords Go.Proofs.YtckbidmemdkdpaaW.PrintLast Go.Proofs.YtckbidmemdkdpaaW.PrintMore
attribute [local go_sem ↓] Go.wp_at_zero Go.wp_at_succ

theorem nexts_f (b : Bal) (node life other age : Int) (hb : i64ok b.1) : estuarylaw09_nexts.f 4 b.1 b.2.1 b.2.2 node life other age = some true := by
  unfold estuarylaw09_nexts.f ballot_Next.f
  simp only [Option.bind_some]
  unfold i64ok at hb
  have key : ∀ (x y : Int), ((x == x) && (node == other && (x == x && life == age))) = true ↔ (node = other ∧ life = age) := by intro x y; simp
  have hlast : ∀ x : Int, (x == x) = true := fun x => by simp
  by_cases h1 : b.1 = 9223372036854775807
  · rw [if_pos h1]
    by_cases h2 : node = other
    · rw [if_pos h2]
      subst h2
      by_cases h3 : life = age
      · subst h3; simp
      · simp [h3]
    · rw [if_neg h2]
      simp [h2]
  · rw [if_neg h1]
    have hw : wrap64 (b.1 + 1) = b.1 + 1 := by unfold wrap64; omega
    have hl := less_f b (wrap64 (b.1 + 1), node, life)
    simp only at hl
    rw [hl]
    have hlb : lessB b (wrap64 (b.1 + 1), node, life) = true := by
      unfold lessB
      rw [hw, if_neg (by show ¬ b.1 = b.1 + 1; omega)]
      exact decide_eq_true (by show b.1 < b.1 + 1; omega)
    rw [hlb]
    simp only [Option.bind_some, if_true]
    by_cases h2 : node = other
    · rw [if_pos h2]
      subst h2
      by_cases h3 : life = age
      · subst h3; simp
      · simp [h3]
    · rw [if_neg h2]
      simp [h2]
abbrev NextsT := Bal × Int × Int × Int × Int
set_option maxHeartbeats 1000000 in
set_option maxRecDepth 100000 in
theorem nexts_any (x : NextsT) (hb : i64ok x.1.1) (w : World) : Calls Try.prog 7 #[.agg #[.int .i64 x.1.1, .int .i64 x.1.2.1, .int .i64 x.1.2.2, .int .i64 x.2.1, .int .i64 x.2.2.1, .int .i64 x.2.2.2.1, .int .i64 x.2.2.2.2]] w fun e w' => e = .returned (.bool true) ∧ Below w.heap.size w w' := by
  have hu23 := Try.underlying23
  have huN := Try.underlying58
  go_enter Try.func7, Try.ntmps7
  go_wp2_with fail
  obtain ⟨gc, hgc⟩ : ∃ gc, gc = w.heap.size := ⟨_, rfl⟩
  have hbox : Aside0 ((w.alloc (.cells #[.int .i64 x.1.1, .int .i64 x.1.2.1, .int .i64 x.1.2.2, .int .i64 x.2.1, .int .i64 x.2.2.1, .int .i64 x.2.2.2.1, .int .i64 x.2.2.2.2] 58)).heap[gc]? = some (.cells #[.int .i64 x.1.1, .int .i64 x.1.2.1, .int .i64 x.1.2.2, .int .i64 x.2.1, .int .i64 x.2.2.1, .int .i64 x.2.2.2.1, .int .i64 x.2.2.2.2] 58 (0, 0))) := ⟨by rw [hgc]; exact blk_new w _⟩
  rw [← hgc]
  clear hgc
  refine (alive_any _).mono ?_
  rintro e w1 ⟨rfl, hb1⟩
  have HB := Aside0.mk (below_step (below_alloc (Below.refl _ w) _) hb1)
  have BKC : Aside0 (w1.heap[gc]? = some (.cells #[.int .i64 x.1.1, .int .i64 x.1.2.1, .int .i64 x.1.2.2, .int .i64 x.2.1, .int .i64 x.2.2.1, .int .i64 x.2.2.2.1, .int .i64 x.2.2.2.2] 58 (0, 0))) := ⟨(hb1.block _ (blk_lt hbox.out)).trans hbox.out⟩
  have z0 : w1.cell? ⟨gc, 0, none⟩ = some (.int .i64 x.1.1) := (blk_cell BKC.out 0).trans rfl
  have z1 : w1.cell? ⟨gc, 1, none⟩ = some (.int .i64 x.1.2.1) := (blk_cell BKC.out 1).trans rfl
  have z2 : w1.cell? ⟨gc, 2, none⟩ = some (.int .i64 x.1.2.2) := (blk_cell BKC.out 2).trans rfl
  have z3 : w1.cell? ⟨gc, 3, none⟩ = some (.int .i64 x.2.1) := (blk_cell BKC.out 3).trans rfl
  have z4 : w1.cell? ⟨gc, 4, none⟩ = some (.int .i64 x.2.2.1) := (blk_cell BKC.out 4).trans rfl
  have z5 : w1.cell? ⟨gc, 5, none⟩ = some (.int .i64 x.2.2.2.1) := (blk_cell BKC.out 5).trans rfl
  have z6 : w1.cell? ⟨gc, 6, none⟩ = some (.int .i64 x.2.2.2.2) := (blk_cell BKC.out 6).trans rfl
  clear hb1
  go_wp2_with fail
  refine (estuarylaw09_nexts.calls 4 _ _ _ _ _ _ _ true _ (nexts_f x.1 _ _ _ _ hb)).mono ?_
  rintro e w2 ⟨rfl, hb2⟩
  have HB2 := Aside0.mk (below_step HB.out hb2)
  clear hb2
  go_wp2_with fail
  go_ret
  exact ⟨rfl, HB2.out⟩
def kNexts : Kd NextsT := Kd.iso (Kd.pair kBal (Kd.pair (Kd.int .i64) (Kd.pair (Kd.int .i64) (Kd.pair (Kd.int .i64) (Kd.int .i64))))) id
theorem nexts_walk (w : World) (cs : Array Value) (y : NextsT) (hK : kNexts.K w y cs.toList) (hq : BalQ y.1 ∧ (Lit.int .i64 y.2.1).wf = true ∧ (Lit.int .i64 y.2.2.1).wf = true ∧ (Lit.int .i64 y.2.2.2.1).wf = true ∧ (Lit.int .i64 y.2.2.2.2).wf = true) :
    Calls Try.prog 7 #[.agg cs] w fun e w' => e = .returned (.bool true) ∧ Below w.heap.size w w' := by
  obtain ⟨a0, a1, he, e0, a2, a3, rfl, e1, a4, a5, rfl, e2, a6, a7, rfl, e3, e4⟩ := hK
  obtain rfl := bal_cells e0
  obtain rfl : a2 = [.int .i64 y.2.1] := e1
  obtain rfl : a4 = [.int .i64 y.2.2.1] := e2
  obtain rfl : a6 = [.int .i64 y.2.2.2.1] := e3
  obtain rfl : a7 = [.int .i64 y.2.2.2.2] := e4
  obtain rfl : cs = #[.int .i64 y.1.1, .int .i64 y.1.2.1, .int .i64 y.1.2.2, .int .i64 y.2.1, .int .i64 y.2.2.1, .int .i64 y.2.2.2.1, .int .i64 y.2.2.2.2] := by
    rw [← Array.toArray_toList (xs := cs), he]
    rfl
  exact nexts_any y (wf_ok hq.1.1) w
end Go.Proofs.Ytckbidmemdkdpaa.MAll

/- TenureWatches: the walk. -/
import Derived.Test.YtimfbdiiaakhiaaTl
set_option linter.unusedVariables false
set_option linter.unusedSimpArgs false
namespace Go.Proofs.Ytimfbdiiaakhiaa.MAll
open Go.RowKit Go.Proofs.YtimfbdiiaakhiaaW.PrintWords Go.Proofs.YtimfbdiiaakhiaaW.PrintLast Go.Proofs.YtimfbdiiaakhiaaW.PrintMore
attribute [local go_sem ↓] Go.wp_at_zero Go.wp_at_succ
theorem plays_c (W : World) (nd lf tk : Int) (A0 : Option Addr) (c0 : Nat) (ops : List TOp) (hr : kOp.C W A0 ops.length ops) (hx : ∀ o ∈ ops, o.2.1.length < 17592186044416) : Calls Try.prog 20 #[.int .i64 nd, .int .i64 lf, .int .i64 tk, .slice A0 ops.length c0] W fun e w' => e = .returned (.bool true) ∧ Below W.heap.size W w' := by
  by_cases h : 300 < ops.length
  · exact plays_long W nd lf tk A0 ops.length c0 h
  · cases hok : newOk nd lf tk
    · exact plays_bad W nd lf tk A0 ops.length c0 (by omega) hok
    · exact plays_walk_good W nd lf tk A0 c0 ops hr hx (by omega) hok
def kPlayed : Kd (Int × Int × Int × List TOp) := Kd.iso (Kd.pair (Kd.int .i64) (Kd.pair (Kd.int .i64) (Kd.pair (Kd.int .i64) (Kd.slice 76 kOp)))) id
set_option maxHeartbeats 2000000 in
set_option maxRecDepth 100000 in
theorem watches_any (W : World) (nd lf tk : Int) (A0 : Option Addr) (c0 : Nat) (ops : List TOp) (hr : kOp.C W A0 ops.length ops) (hx : ∀ o ∈ ops, o.2.1.length < 17592186044416) : Calls Try.prog 6 #[.agg #[.int .i64 nd, .int .i64 lf, .int .i64 tk, .slice A0 ops.length c0]] W fun e w' => e = .returned (.bool true) ∧ Below W.heap.size W w' := by
  have hu49 := Try.underlying49
  have HR := Aside0.mk hr
  have HX := Aside0.mk hx
  clear hr hx
  obtain ⟨n, hn⟩ : ∃ n, n = ops.length := ⟨_, rfl⟩
  have HN := Aside0.mk hn
  rw [← hn]
  clear hn
  go_enter Try.func6, Try.ntmps6
  go_upto_region 1 with fail
  obtain ⟨W1, hw1⟩ : ∃ x : World, x = W.alloc (.cells #[.int .i64 nd, .int .i64 lf, .int .i64 tk, .slice A0 n c0] 49) := ⟨_, rfl⟩
  have hbs1 : Below W.heap.size W W1 := by rw [hw1]; repeat (first | exact Below.refl _ _ | refine below_alloc ?_ _ | refine below_drew ?_)
  obtain ⟨gx1, hgx1⟩ : ∃ x, x = W.heap.size := ⟨_, rfl⟩
  have GSx1 : Aside0 (W.heap.size ≤ gx1) := ⟨by rw [hgx1]; omega⟩
  have Bx1 : Aside0 (W1.heap[gx1]? = some (.cells #[.int .i64 nd, .int .i64 lf, .int .i64 tk, .slice A0 n c0] 49 (0, 0))) := ⟨by rw [hw1, hgx1]; exact blk_new _ _⟩
  rw [← hw1]
  rw [← hgx1]
  clear hw1 hgx1
  have HB2 := Aside0.mk hbs1
  clear hbs1
  have zx3_0 : W1.cell? ⟨gx1, 0, none⟩ = some (.int .i64 nd) := (blk_cell Bx1.out 0).trans rfl
  have zx3_1 : W1.cell? ⟨gx1, 1, none⟩ = some (.int .i64 lf) := (blk_cell Bx1.out 1).trans rfl
  have zx3_2 : W1.cell? ⟨gx1, 2, none⟩ = some (.int .i64 tk) := (blk_cell Bx1.out 2).trans rfl
  have zx3_3 : W1.cell? ⟨gx1, 3, none⟩ = some (.slice A0 n c0) := (blk_cell Bx1.out 3).trans rfl
  go_wp2_with fail
  have hpl := plays_c W1 nd lf tk A0 c0 ops (Kd.C_below HR.out HB2.out) HX.out
  rw [← HN.out] at hpl
  refine hpl.mono ?_
  rintro e w2 ⟨rfl, hb2⟩
  clear zx3_0 zx3_1 zx3_2 zx3_3
  have HB4 := Aside0.mk (below_step HB2.out hb2)
  have Bx4 : Aside0 (w2.heap[gx1]? = some (.cells #[.int .i64 nd, .int .i64 lf, .int .i64 tk, .slice A0 n c0] 49 (0, 0))) := ⟨(hb2.block _ (blk_lt Bx1.out)).trans Bx1.out⟩
  clear hb2
  go_wp2_with fail
  go_ret
  exact ⟨rfl, HB4.out⟩
theorem watches_walk (w : World) (cs : Array Value) (y : Int × Int × Int × List TOp) (hK : kPlayed.K w y cs.toList) (hq : (Lit.int .i64 y.1).wf = true ∧ (Lit.int .i64 y.2.1).wf = true ∧ (Lit.int .i64 y.2.2.1).wf = true ∧ y.2.2.2.length * Try.prog.bytesOf 76 ≤ 140737488351232 ∧ ∀ x ∈ y.2.2.2, (Lit.int .i64 x.1).wf = true ∧ (x.2.1.length * Try.prog.bytesOf 3 ≤ 140737488351232 ∧ ∀ z ∈ x.2.1, (Lit.int .i64 z).wf = true) ∧ (Lit.int .i64 x.2.2).wf = true) :
    Calls Try.prog 6 #[.agg cs] w fun e w' => e = .returned (.bool true) ∧ Below w.heap.size w w' := by
  obtain ⟨a0, a1, he, e0, a2, a3, rfl, e1, a4, a5, rfl, e2, A, c, rfl, hc, hC⟩ := hK
  obtain rfl : a0 = [.int .i64 y.1] := e0
  obtain rfl : a2 = [.int .i64 y.2.1] := e1
  obtain rfl : a4 = [.int .i64 y.2.2.1] := e2
  obtain rfl : cs = #[.int .i64 y.1, .int .i64 y.2.1, .int .i64 y.2.2.1, .slice A y.2.2.2.length c] := by
    rw [← Array.toArray_toList (xs := cs), he]
    rfl
  refine watches_any w y.1 y.2.1 y.2.2.1 A c y.2.2.2 hC (fun x hx => ?_)
  have h := (hq.2.2.2.2 x hx).2.1.1
  have h3 : Try.prog.bytesOf 3 = 8 := by kernel_rfl
  rw [h3] at h
  omega
end Go.Proofs.Ytimfbdiiaakhiaa.MAll

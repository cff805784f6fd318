/- The calls of a post's script; long. -/
import Derived.Test.YtnjhgckmfebdoaaPf
set_option linter.unusedVariables false
set_option linter.unusedSimpArgs false
namespace Go.Proofs.Ytnjhgckmfebdoaa.MAll
open Go.RowKit Go.Proofs.YtnjhgckmfebdoaaW.PrintWords Go.Proofs.YtnjhgckmfebdoaaW.PrintLast Go.Proofs.YtnjhgckmfebdoaaW.PrintMore
attribute [local go_sem ↓] Go.wp_at_zero Go.wp_at_succ
abbrev POp := Int × List (List Int) × Int
def kOp : Kd POp := Kd.iso (Kd.pair (Kd.int .i64) (Kd.pair (Kd.slice 34 kB) (Kd.int .i64))) id
theorem add_field' (ad : Addr) (n j : Nat) (hj : 0 < j) : ad.add (n + j) = ⟨(ad.add n).block, (ad.add n).off + j, none⟩ := by
  unfold Addr.add
  by_cases hn : n = 0
  · subst hn
    have : j ≠ 0 := by omega
    simp [this]
  · have h1 : ¬ (n + j = 0) := by omega
    simp [hn, h1]
    omega
theorem op_at {w : World} {A : Option Addr} {xs : List POp} (h : kOp.C w A xs.length xs) (k : Nat) (hk : k < xs.length) :
    ∃ ad V cv kd v n, A = some ad ∧ (kd, v, n) = xs[k]'hk ∧ w.cell? (ad.add (k * 3)) = some (.int .i64 kd) ∧ w.cell? ⟨(ad.add (k * 3)).block, (ad.add (k * 3)).off + 1, none⟩ = some (.slice V v.length cv) ∧ w.cell? ⟨(ad.add (k * 3)).block, (ad.add (k * 3)).off + 2, none⟩ = some (.int .i64 n) ∧ v.length ≤ cv ∧ kB.C w V v.length v := by
  obtain ⟨ad, cs, rfl, _, hK, hc⟩ := Kd.C_get h (0, [], 0) k (by omega) (by omega)
  have he : xs.getD (k : Int).toNat (0, [], 0) = xs[k]'hk := by simp [List.getD_eq_getElem?_getD, List.getElem?_eq_getElem hk]
  rw [he] at hK
  rcases hx : xs[k]'hk with ⟨kd, v, n⟩
  rw [hx] at hK
  obtain ⟨c0, c1, rfl, hk0, c2, c3, rfl, ⟨V, cv, rfl, hv, hV⟩, hk3⟩ := hK
  obtain rfl : c0 = [.int .i64 kd] := hk0
  obtain rfl : c3 = [.int .i64 n] := hk3
  have e : kOp.sz = 3 := rfl
  have ek : (k : Int).toNat = k := by omega
  rw [e, ek] at hc
  refine ⟨ad, V, cv, kd, v, n, rfl, rfl, by simpa using hc 0 _ rfl, ?_, ?_, hv, hV⟩
  · rw [← add_field' ad (k * 3) 1 (by omega)]; exact hc 1 _ rfl
  · rw [← add_field' ad (k * 3) 2 (by omega)]; exact hc 2 _ rfl
set_option maxHeartbeats 4000000 in
set_option maxRecDepth 100000 in
theorem long_any (W : World) (A0 : Option Addr) (c0 : Nat) (ops : List POp) (hr : kOp.C W A0 ops.length ops) : Calls Try.prog 10 #[.slice A0 ops.length c0] W fun e w' => (∃ b, e = .returned (.bool b)) ∧ Below W.heap.size W w' := by
  have hu22 := Try.underlying22
  have hu33 := Try.underlying33
  have hu31 := Try.underlying31
  have HV := Aside0.mk hr
  have hmax := Kd.C_max hr
  clear hr
  go_enter Try.func10, Try.ntmps10
  go_wp2_with fail
  go_loopw [10, 3] (fun v10 v3 w' => ∃ (k : Nat) (x : Int), k ≤ ops.length ∧ v10 = .int .i64 k ∧ v3 = .int .i64 x ∧ Aside0 (Below W.heap.size W w')) (fun v _ _ => ops.length - (intOf v).toNat)
  case atStart => exact ⟨0, 0, by omega, rfl, rfl, ⟨Below.refl _ _⟩⟩
  case round =>
    obtain ⟨k, x, hk, rfl, rfl, HW⟩ := hrel
    by_cases hlt : k < ops.length
    case neg =>
      go_wp2_with fail
      go_ret
      exact ⟨⟨_, rfl⟩, HW.out⟩
    obtain ⟨ad, V, cv, kd, v, n, hA0, hxk, s0, s1, s2, hcv, hV⟩ := op_at HV.out k hlt
    subst hA0
    have HCV := Aside0.mk hV
    have hmv := Kd.C_max hV
    have s0 := pw_cell_below HW.out s0
    have s1 := pw_cell_below HW.out s1
    have s2 := pw_cell_below HW.out s2
    clear hV hcv hxk
    go_upto_region 5 with fail
    obtain ⟨W1, hw1⟩ : ∃ x : World, x = wr.alloc (.cells #[.int .i64 kd, .slice V v.length cv, .int .i64 n] 33) := ⟨_, rfl⟩
    have hbs1 : Below wr.heap.size wr W1 := by rw [hw1]; repeat (first | exact Below.refl _ _ | refine below_alloc ?_ _ | refine below_drew ?_)
    obtain ⟨go1, hgo1⟩ : ∃ x, x = wr.heap.size := ⟨_, rfl⟩
    have GSo1 : Aside0 (W.heap.size ≤ go1) := ⟨by rw [hgo1]; have := HW.out.size; omega⟩
    have Bo1 : Aside0 (W1.heap[go1]? = some (.cells #[.int .i64 kd, .slice V v.length cv, .int .i64 n] 33 (0, 0))) := ⟨by rw [hw1, hgo1]; exact blk_new _ _⟩
    rw [← hw1]
    rw [← hgo1]
    clear hw1 hgo1
    have HB2 := Aside0.mk (below_step HW.out hbs1)
    clear hbs1
    clear s0 s1 s2
    have zo3_0 : W1.cell? ⟨go1, 0, none⟩ = some (.int .i64 kd) := (blk_cell Bo1.out 0).trans rfl
    have zo3_1 : W1.cell? ⟨go1, 1, none⟩ = some (.slice V v.length cv) := (blk_cell Bo1.out 1).trans rfl
    have zo3_2 : W1.cell? ⟨go1, 2, none⟩ = some (.int .i64 n) := (blk_cell Bo1.out 2).trans rfl
    go_wp2_with fail
    clear zo3_0 zo3_1 zo3_2
    go_loopw [23, 3] (fun v23 v3 w' => ∃ (j : Nat) (x : Int), j ≤ v.length ∧ v23 = .int .i64 j ∧ v3 = .int .i64 x ∧ w' = W1) (fun v' _ _ => v.length - (intOf v').toNat)
    case atStart => exact ⟨0, _, by omega, rfl, rfl, rfl⟩
    case round =>
      obtain ⟨j, y, hj, rfl, rfl, rfl⟩ := hrel
      by_cases hlt2 : j < v.length
      case neg =>
        obtain ⟨q, hq⟩ : ∃ q, decide (800 < y) = q := ⟨_, rfl⟩
        cases q
        · go_wp2_with fail
          go_roundw
          case rel => exact ⟨k + 1, _, by omega, by go_num, rfl, HB2⟩
          case measure => simp [intOf]; omega
        · go_wp2_with fail
          go_ret
          exact ⟨⟨_, rfl⟩, HB2.out⟩
      obtain ⟨r, hrk⟩ : ∃ r, v[j]? = some r := ⟨_, List.getElem?_eq_getElem hlt2⟩
      obtain ⟨ad2, B, cB, hA2, hcell0, hcB, hC0⟩ := row_at HCV.out j r hrk
      subst hA2
      have hcell := pw_cell_below HB2.out hcell0
      clear hrk hC0 hcB hcell0
      go_wp2_with fail
      go_roundw
      case rel => exact ⟨j + 1, _, by omega, by go_num, rfl, by first | trivial | rfl⟩
      case measure => simp [intOf]; omega
end Go.Proofs.Ytnjhgckmfebdoaa.MAll

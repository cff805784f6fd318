/- plays: the calls' kind; the short ways. -/
import Derived.Test.YtimfbdiiaakhiaaTj
set_option linter.unusedVariables false
set_option linter.unusedSimpArgs false
namespace Go.Proofs.Ytimfbdiiaakhiaa.MAll
open Go.RowKit Go.Proofs.YtimfbdiiaakhiaaW.PrintWords Go.Proofs.YtimfbdiiaakhiaaW.PrintLast Go.Proofs.YtimfbdiiaakhiaaW.PrintMore
attribute [local go_sem ↓] Go.wp_at_zero Go.wp_at_succ
abbrev TOp := Int × List Int × Int
def kOp : Kd TOp := Kd.iso (Kd.pair (Kd.int .i64) (Kd.pair (Kd.slice 3 (Kd.int .i64)) (Kd.int .i64))) id
theorem add_field' (ad : Addr) (n j : Nat) (hj : 0 < j) : ad.add (n + j) = ⟨(ad.add n).block, (ad.add n).off + j, none⟩ := by
  unfold Addr.add
  by_cases hn : n = 0
  · subst hn
    have : j ≠ 0 := by omega
    simp [this]
  · have h1 : ¬ (n + j = 0) := by omega
    simp [hn, h1]
    omega
theorem op_at {w : World} {A : Option Addr} {xs : List TOp} (h : kOp.C w A xs.length xs) (k : Nat) (hk : k < xs.length) :
    ∃ ad V cv kd v n, A = some ad ∧ (kd, v, n) = xs[k]'hk ∧ w.cell? (ad.add (k * 3)) = some (.int .i64 kd) ∧ w.cell? ⟨(ad.add (k * 3)).block, (ad.add (k * 3)).off + 1, none⟩ = some (.slice V v.length cv) ∧ w.cell? ⟨(ad.add (k * 3)).block, (ad.add (k * 3)).off + 2, none⟩ = some (.int .i64 n) ∧ v.length ≤ cv ∧ (Kd.int .i64).C w V v.length v := by
  obtain ⟨ad, cs, rfl, _, hK, hc⟩ := Kd.C_get h (0, [], 0) k (by omega) (by omega)
  have he : xs.getD (k : Int).toNat (0, [], 0) = xs[k]'hk := by simp [List.getD_eq_getElem?_getD, List.getElem?_eq_getElem hk]
  rw [he] at hK
  rcases hx : xs[k]'hk with ⟨kd, v, n⟩
  rw [hx] at hK
  obtain ⟨c0, c1, rfl, hk0, c2, c3, rfl, ⟨V, cv, rfl, hv, hV⟩, hk3⟩ := hK
  obtain rfl : c0 = [.int .i64 kd] := hk0
  obtain rfl : c3 = [.int .i64 n] := hk3
  have e : kOp.sz = 3 := rfl
  have ek : (k : Int).toNat = k := by omega
  rw [e, ek] at hc
  refine ⟨ad, V, cv, kd, v, n, rfl, rfl, by simpa using hc 0 _ rfl, ?_, ?_, hv, hV⟩
  · rw [← add_field' ad (k * 3) 1 (by omega)]; exact hc 1 _ rfl
  · rw [← add_field' ad (k * 3) 2 (by omega)]; exact hc 2 _ rfl
set_option maxHeartbeats 2000000 in
set_option maxRecDepth 100000 in
theorem plays_long (W : World) (nd lf tk : Int) (A0 : Option Addr) (n c0 : Nat) (hn : 300 < n) : Calls Try.prog 20 #[.int .i64 nd, .int .i64 lf, .int .i64 tk, .slice A0 n c0] W fun e w' => e = .returned (.bool true) ∧ Below W.heap.size W w' := by
  have h1 : decide (300 < (n : Int)) = true := decide_eq_true (by omega)
  have h2 : decide (300 < n) = true := decide_eq_true hn
  go_enter Try.func20, Try.ntmps20
  go_wp2_with fail
  refine (alive_any _).mono ?_
  rintro e w1 ⟨rfl, hb1⟩
  go_wp2_with fail
  go_ret
  exact ⟨rfl, hb1⟩
set_option maxHeartbeats 2000000 in
set_option maxRecDepth 100000 in
theorem plays_bad (W : World) (nd lf tk : Int) (A0 : Option Addr) (n c0 : Nat) (hn : n ≤ 300) (hb : newOk nd lf tk = false) : Calls Try.prog 20 #[.int .i64 nd, .int .i64 lf, .int .i64 tk, .slice A0 n c0] W fun e w' => e = .returned (.bool true) ∧ Below W.heap.size W w' := by
  have hu32 := Try.underlying32
  have h1 : decide (300 < (n : Int)) = false := decide_eq_false (by omega)
  have h2 : decide (300 < n) = false := decide_eq_false (by omega)
  go_enter Try.func20, Try.ntmps20
  go_wp2_with fail
  refine (alive_any _).mono ?_
  rintro e w1 ⟨rfl, hb1⟩
  have HB1 := Aside0.mk hb1
  clear hb1
  go_wp2_with fail
  refine (new_bad _ nd lf tk hb).mono ?_
  rintro e w2 ⟨rfl, hb2⟩
  have HB2 := Aside0.mk (below_step HB1.out hb2)
  clear hb2
  go_wp2_with fail
  refine (rnew_bad _ nd lf tk hb).mono ?_
  rintro e w3 ⟨rfl, hb3⟩
  have HB3 := Aside0.mk (below_step HB2.out hb3)
  clear hb3
  go_wp2_with fail
  refine (num_v 2 (some 2) _ rfl (by decide)).mono ?_
  rintro e w4 ⟨rfl, hb4⟩
  have HB4 := Aside0.mk (below_step HB3.out hb4)
  clear hb4
  go_wp2_with fail
  go_ret
  exact ⟨rfl, HB4.out⟩
end Go.Proofs.Ytimfbdiiaakhiaa.MAll

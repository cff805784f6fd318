/- BallotAsks: the walk. -/
import Derived.Test.YtckbidmemdkdpaaMa
import Derived.Test.YtckbidmemdkdpaaBa
import Derived.Test.YtckbidmemdkdpaaKinds
set_option linter.unusedVariables false
set_option linter.unusedSimpArgs false
namespace Go.Proofs.Ytckbidmemdkdpaa.MAll
open Go.RowKit Go.Proofs.YtckbidmemdkdpaaW.PrintWords Go.Proofs.YtckbidmemdkdpaaW.PrintLast Go.Proofs.YtckbidmemdkdpaaW.PrintMore
attribute [local go_sem ↓] Go.wp_at_zero Go.wp_at_succ
theorem row_bi {w : World} {base n c : Nat} {ok : Nat → Prop} {A : Option Addr} {xs : List Int} (h : (Kd.int .i64).R 3 w base ok (.slice A n c) xs) (hn : 0 < n) : ∃ b, A = some ⟨b, 0, none⟩ ∧ base ≤ b ∧ b < w.heap.size ∧ (Value.slice A n c).ownBlock = some b := by
  obtain ⟨_, inner, ho, _⟩ := h
  rcases ho.2 with ⟨hv, hz⟩ | ⟨g, cap', cur, hv, _⟩
  · exfalso; injection hv with _ hv _; omega
  · injection hv with ha _ _
    subst ha
    exact ⟨g, rfl, own_base ho g rfl, own_lt ho g rfl, rfl⟩
theorem MarkC.cap {w : World} {A : Option Addr} {c : Nat} {l : List Int} (h : MarkC w A c l) : l.length ≤ c := Nat.le_of_succ_le h.1
theorem R_older {w w1 : World} {base b : Nat} {ok : Nat → Prop} {u : Value} {xs : List Int} (h : (Kd.int .i64).R 3 w base ok u xs) (hg : w.grownBy w1 (some b)) (hb : b < base) : (Kd.int .i64).R 3 w1 base ok u xs :=
  Kd.R_mono (Kd.R_grown (Kd.R_bound h) hg (fun k hk e => by have := hk.2.1; injection e with e; omega)) (fun _ hk => hk.1)
set_option maxHeartbeats 16000000 in
set_option maxRecDepth 100000 in
theorem asks_any (r : Reg) (A : Option Addr) (c : Nat) (b : Bal) (V : Option Addr) (cv : Nat) (v : List Int) (W : World) (hr : (Kd.int .i64).C W A r.2.2.length r.2.2) (hc : r.2.2.length ≤ c) (hv : (Kd.int .i64).C W V v.length v) (hcv : v.length ≤ cv) (hok : regOk r) (hbo : balOk b) :
    Calls Try.prog 3 #[.agg (regA r A c), .agg (balA b), .slice V v.length cv] W fun e w' => e = .returned (.bool true) ∧ Below W.heap.size W w' := by
  have HR := Aside0.mk hr
  have HC := Aside0.mk hc
  have HV := Aside0.mk hv
  have HCV := Aside0.mk hcv
  have HOK := Aside0.mk hok
  have HBO := Aside0.mk hbo
  clear hr hc hv hcv hok hbo
  have hu26 := Try.underlying26
  have hu23 := Try.underlying23
  have hu24 := Try.underlying24
  have h3 : ¬ r.2.2.length ≤ 500 ∨ (r.2.2.length ≤ 500 ∧ ¬ v.length ≤ 500) ∨ (r.2.2.length ≤ 500 ∧ v.length ≤ 500) := by omega
  rcases h3 with h1 | ⟨h1, h2⟩ | ⟨h1, h2⟩
  · skip
    have d1 : decide (500 < (r.2.2.length : Int)) = true := decide_eq_true (by omega)
    have d1' : decide (500 < r.2.2.length) = true := decide_eq_true (by omega)
    go_enter Try.func3, Try.ntmps3
    go_upto_region 1 with fail
    obtain ⟨W1, hw1⟩ : ∃ x : World, x = (W.alloc (.cells #[.int .i64 r.1.1, .int .i64 r.1.2.1, .int .i64 r.1.2.2, .int .i64 r.2.1.1, .int .i64 r.2.1.2.1, .int .i64 r.2.1.2.2, .slice A r.2.2.length c] 26)).alloc (.cells #[.int .i64 b.1, .int .i64 b.2.1, .int .i64 b.2.2] 23) := ⟨_, rfl⟩
    have hbs1 : Below W.heap.size W W1 := by rw [hw1]; repeat (first | exact Below.refl _ _ | refine below_alloc ?_ _ | refine below_drew ?_)
    obtain ⟨gx1, hgx1⟩ : ∃ x, x = W.heap.size := ⟨_, rfl⟩
    have GSx1 : Aside0 (W.heap.size ≤ gx1) := ⟨by rw [hgx1]; omega⟩
    have Bx1 : Aside0 (W1.heap[gx1]? = some (.cells #[.int .i64 r.1.1, .int .i64 r.1.2.1, .int .i64 r.1.2.2, .int .i64 r.2.1.1, .int .i64 r.2.1.2.1, .int .i64 r.2.1.2.2, .slice A r.2.2.length c] 26 (0, 0))) := ⟨by rw [hw1, hgx1]; exact blk_alloc (blk_new _ _) _⟩
    obtain ⟨gy1, hgy1⟩ : ∃ x, x = W.heap.size + 1 := ⟨_, rfl⟩
    have GSy1 : Aside0 (W.heap.size ≤ gy1) := ⟨by rw [hgy1]; omega⟩
    have By1 : Aside0 (W1.heap[gy1]? = some (.cells #[.int .i64 b.1, .int .i64 b.2.1, .int .i64 b.2.2] 23 (0, 0))) := ⟨by rw [hw1, hgy1]; have h := blk_new (W.alloc (.cells #[.int .i64 r.1.1, .int .i64 r.1.2.1, .int .i64 r.1.2.2, .int .i64 r.2.1.1, .int .i64 r.2.1.2.1, .int .i64 r.2.1.2.2, .slice A r.2.2.length c] 26)) (.cells #[.int .i64 b.1, .int .i64 b.2.1, .int .i64 b.2.2] 23); rwa [World.size_alloc] at h⟩
    rw [← hw1]
    rw [← hgy1]
    rw [← hgx1]
    clear hw1 hgx1 hgy1
    have HB2 := Aside0.mk hbs1
    have Cv2 := Aside0.mk (Kd.C_below HR.out hbs1)
    have CV2 := Aside0.mk (Kd.C_below HV.out hbs1)
    clear hbs1
    go_wp2_with fail
    refine (alive_any _).mono ?_
    rintro e w3 ⟨rfl, hb3⟩
    have HB4 := Aside0.mk (below_step HB2.out hb3)
    have Bx4 : Aside0 (w3.heap[gx1]? = some (.cells #[.int .i64 r.1.1, .int .i64 r.1.2.1, .int .i64 r.1.2.2, .int .i64 r.2.1.1, .int .i64 r.2.1.2.1, .int .i64 r.2.1.2.2, .slice A r.2.2.length c] 26 (0, 0))) := ⟨(hb3.block _ (blk_lt Bx1.out)).trans Bx1.out⟩
    have By4 : Aside0 (w3.heap[gy1]? = some (.cells #[.int .i64 b.1, .int .i64 b.2.1, .int .i64 b.2.2] 23 (0, 0))) := ⟨(hb3.block _ (blk_lt By1.out)).trans By1.out⟩
    have Cv4 := Aside0.mk (Kd.C_below Cv2.out hb3)
    have CV4 := Aside0.mk (Kd.C_below CV2.out hb3)
    clear hb3
    have zx5_0 : w3.cell? ⟨gx1, 0, none⟩ = some (.int .i64 r.1.1) := (blk_cell Bx4.out 0).trans rfl
    have zx5_1 : w3.cell? ⟨gx1, 1, none⟩ = some (.int .i64 r.1.2.1) := (blk_cell Bx4.out 1).trans rfl
    have zx5_2 : w3.cell? ⟨gx1, 2, none⟩ = some (.int .i64 r.1.2.2) := (blk_cell Bx4.out 2).trans rfl
    have zx5_3 : w3.cell? ⟨gx1, 3, none⟩ = some (.int .i64 r.2.1.1) := (blk_cell Bx4.out 3).trans rfl
    have zx5_4 : w3.cell? ⟨gx1, 4, none⟩ = some (.int .i64 r.2.1.2.1) := (blk_cell Bx4.out 4).trans rfl
    have zx5_5 : w3.cell? ⟨gx1, 5, none⟩ = some (.int .i64 r.2.1.2.2) := (blk_cell Bx4.out 5).trans rfl
    have zx5_6 : w3.cell? ⟨gx1, 6, none⟩ = some (.slice A r.2.2.length c) := (blk_cell Bx4.out 6).trans rfl
    have zy5_0 : w3.cell? ⟨gy1, 0, none⟩ = some (.int .i64 b.1) := (blk_cell By4.out 0).trans rfl
    have zy5_1 : w3.cell? ⟨gy1, 1, none⟩ = some (.int .i64 b.2.1) := (blk_cell By4.out 1).trans rfl
    have zy5_2 : w3.cell? ⟨gy1, 2, none⟩ = some (.int .i64 b.2.2) := (blk_cell By4.out 2).trans rfl
    go_wp2_with fail
    go_ret
    exact ⟨rfl, HB4.out⟩
  · skip
    have d1 : decide (500 < (r.2.2.length : Int)) = false := decide_eq_false (by omega)
    have d1' : decide (500 < r.2.2.length) = false := decide_eq_false (by omega)
    have d2 : decide (500 < (v.length : Int)) = true := decide_eq_true (by omega)
    have d2' : decide (500 < v.length) = true := decide_eq_true (by omega)
    go_enter Try.func3, Try.ntmps3
    go_upto_region 1 with fail
    obtain ⟨W1, hw1⟩ : ∃ x : World, x = (W.alloc (.cells #[.int .i64 r.1.1, .int .i64 r.1.2.1, .int .i64 r.1.2.2, .int .i64 r.2.1.1, .int .i64 r.2.1.2.1, .int .i64 r.2.1.2.2, .slice A r.2.2.length c] 26)).alloc (.cells #[.int .i64 b.1, .int .i64 b.2.1, .int .i64 b.2.2] 23) := ⟨_, rfl⟩
    have hbs1 : Below W.heap.size W W1 := by rw [hw1]; repeat (first | exact Below.refl _ _ | refine below_alloc ?_ _ | refine below_drew ?_)
    obtain ⟨gx1, hgx1⟩ : ∃ x, x = W.heap.size := ⟨_, rfl⟩
    have GSx1 : Aside0 (W.heap.size ≤ gx1) := ⟨by rw [hgx1]; omega⟩
    have Bx1 : Aside0 (W1.heap[gx1]? = some (.cells #[.int .i64 r.1.1, .int .i64 r.1.2.1, .int .i64 r.1.2.2, .int .i64 r.2.1.1, .int .i64 r.2.1.2.1, .int .i64 r.2.1.2.2, .slice A r.2.2.length c] 26 (0, 0))) := ⟨by rw [hw1, hgx1]; exact blk_alloc (blk_new _ _) _⟩
    obtain ⟨gy1, hgy1⟩ : ∃ x, x = W.heap.size + 1 := ⟨_, rfl⟩
    have GSy1 : Aside0 (W.heap.size ≤ gy1) := ⟨by rw [hgy1]; omega⟩
    have By1 : Aside0 (W1.heap[gy1]? = some (.cells #[.int .i64 b.1, .int .i64 b.2.1, .int .i64 b.2.2] 23 (0, 0))) := ⟨by rw [hw1, hgy1]; have h := blk_new (W.alloc (.cells #[.int .i64 r.1.1, .int .i64 r.1.2.1, .int .i64 r.1.2.2, .int .i64 r.2.1.1, .int .i64 r.2.1.2.1, .int .i64 r.2.1.2.2, .slice A r.2.2.length c] 26)) (.cells #[.int .i64 b.1, .int .i64 b.2.1, .int .i64 b.2.2] 23); rwa [World.size_alloc] at h⟩
    rw [← hw1]
    rw [← hgy1]
    rw [← hgx1]
    clear hw1 hgx1 hgy1
    have HB2 := Aside0.mk hbs1
    have Cv2 := Aside0.mk (Kd.C_below HR.out hbs1)
    have CV2 := Aside0.mk (Kd.C_below HV.out hbs1)
    clear hbs1
    go_wp2_with fail
    refine (alive_any _).mono ?_
    rintro e w3 ⟨rfl, hb3⟩
    have HB4 := Aside0.mk (below_step HB2.out hb3)
    have Bx4 : Aside0 (w3.heap[gx1]? = some (.cells #[.int .i64 r.1.1, .int .i64 r.1.2.1, .int .i64 r.1.2.2, .int .i64 r.2.1.1, .int .i64 r.2.1.2.1, .int .i64 r.2.1.2.2, .slice A r.2.2.length c] 26 (0, 0))) := ⟨(hb3.block _ (blk_lt Bx1.out)).trans Bx1.out⟩
    have By4 : Aside0 (w3.heap[gy1]? = some (.cells #[.int .i64 b.1, .int .i64 b.2.1, .int .i64 b.2.2] 23 (0, 0))) := ⟨(hb3.block _ (blk_lt By1.out)).trans By1.out⟩
    have Cv4 := Aside0.mk (Kd.C_below Cv2.out hb3)
    have CV4 := Aside0.mk (Kd.C_below CV2.out hb3)
    clear hb3
    have zx5_0 : w3.cell? ⟨gx1, 0, none⟩ = some (.int .i64 r.1.1) := (blk_cell Bx4.out 0).trans rfl
    have zx5_1 : w3.cell? ⟨gx1, 1, none⟩ = some (.int .i64 r.1.2.1) := (blk_cell Bx4.out 1).trans rfl
    have zx5_2 : w3.cell? ⟨gx1, 2, none⟩ = some (.int .i64 r.1.2.2) := (blk_cell Bx4.out 2).trans rfl
    have zx5_3 : w3.cell? ⟨gx1, 3, none⟩ = some (.int .i64 r.2.1.1) := (blk_cell Bx4.out 3).trans rfl
    have zx5_4 : w3.cell? ⟨gx1, 4, none⟩ = some (.int .i64 r.2.1.2.1) := (blk_cell Bx4.out 4).trans rfl
    have zx5_5 : w3.cell? ⟨gx1, 5, none⟩ = some (.int .i64 r.2.1.2.2) := (blk_cell Bx4.out 5).trans rfl
    have zx5_6 : w3.cell? ⟨gx1, 6, none⟩ = some (.slice A r.2.2.length c) := (blk_cell Bx4.out 6).trans rfl
    have zy5_0 : w3.cell? ⟨gy1, 0, none⟩ = some (.int .i64 b.1) := (blk_cell By4.out 0).trans rfl
    have zy5_1 : w3.cell? ⟨gy1, 1, none⟩ = some (.int .i64 b.2.1) := (blk_cell By4.out 1).trans rfl
    have zy5_2 : w3.cell? ⟨gy1, 2, none⟩ = some (.int .i64 b.2.2) := (blk_cell By4.out 2).trans rfl
    go_wp2_with fail
    go_ret
    exact ⟨rfl, HB4.out⟩
  · skip
    have d1 : decide (500 < (r.2.2.length : Int)) = false := decide_eq_false (by omega)
    have d1' : decide (500 < r.2.2.length) = false := decide_eq_false (by omega)
    have d2 : decide (500 < (v.length : Int)) = false := decide_eq_false (by omega)
    have d2' : decide (500 < v.length) = false := decide_eq_false (by omega)
    go_enter Try.func3, Try.ntmps3
    go_upto_region 1 with fail
    obtain ⟨W1, hw1⟩ : ∃ x : World, x = (W.alloc (.cells #[.int .i64 r.1.1, .int .i64 r.1.2.1, .int .i64 r.1.2.2, .int .i64 r.2.1.1, .int .i64 r.2.1.2.1, .int .i64 r.2.1.2.2, .slice A r.2.2.length c] 26)).alloc (.cells #[.int .i64 b.1, .int .i64 b.2.1, .int .i64 b.2.2] 23) := ⟨_, rfl⟩
    have hbs1 : Below W.heap.size W W1 := by rw [hw1]; repeat (first | exact Below.refl _ _ | refine below_alloc ?_ _ | refine below_drew ?_)
    obtain ⟨gx1, hgx1⟩ : ∃ x, x = W.heap.size := ⟨_, rfl⟩
    have GSx1 : Aside0 (W.heap.size ≤ gx1) := ⟨by rw [hgx1]; omega⟩
    have Bx1 : Aside0 (W1.heap[gx1]? = some (.cells #[.int .i64 r.1.1, .int .i64 r.1.2.1, .int .i64 r.1.2.2, .int .i64 r.2.1.1, .int .i64 r.2.1.2.1, .int .i64 r.2.1.2.2, .slice A r.2.2.length c] 26 (0, 0))) := ⟨by rw [hw1, hgx1]; exact blk_alloc (blk_new _ _) _⟩
    obtain ⟨gy1, hgy1⟩ : ∃ x, x = W.heap.size + 1 := ⟨_, rfl⟩
    have GSy1 : Aside0 (W.heap.size ≤ gy1) := ⟨by rw [hgy1]; omega⟩
    have By1 : Aside0 (W1.heap[gy1]? = some (.cells #[.int .i64 b.1, .int .i64 b.2.1, .int .i64 b.2.2] 23 (0, 0))) := ⟨by rw [hw1, hgy1]; have h := blk_new (W.alloc (.cells #[.int .i64 r.1.1, .int .i64 r.1.2.1, .int .i64 r.1.2.2, .int .i64 r.2.1.1, .int .i64 r.2.1.2.1, .int .i64 r.2.1.2.2, .slice A r.2.2.length c] 26)) (.cells #[.int .i64 b.1, .int .i64 b.2.1, .int .i64 b.2.2] 23); rwa [World.size_alloc] at h⟩
    rw [← hw1]
    rw [← hgy1]
    rw [← hgx1]
    clear hw1 hgx1 hgy1
    have HB2 := Aside0.mk hbs1
    have Cv2 := Aside0.mk (Kd.C_below HR.out hbs1)
    have CV2 := Aside0.mk (Kd.C_below HV.out hbs1)
    clear hbs1
    go_wp2_with fail
    refine (alive_any _).mono ?_
    rintro e w3 ⟨rfl, hb3⟩
    have HB4 := Aside0.mk (below_step HB2.out hb3)
    have Bx4 : Aside0 (w3.heap[gx1]? = some (.cells #[.int .i64 r.1.1, .int .i64 r.1.2.1, .int .i64 r.1.2.2, .int .i64 r.2.1.1, .int .i64 r.2.1.2.1, .int .i64 r.2.1.2.2, .slice A r.2.2.length c] 26 (0, 0))) := ⟨(hb3.block _ (blk_lt Bx1.out)).trans Bx1.out⟩
    have By4 : Aside0 (w3.heap[gy1]? = some (.cells #[.int .i64 b.1, .int .i64 b.2.1, .int .i64 b.2.2] 23 (0, 0))) := ⟨(hb3.block _ (blk_lt By1.out)).trans By1.out⟩
    have Cv4 := Aside0.mk (Kd.C_below Cv2.out hb3)
    have CV4 := Aside0.mk (Kd.C_below CV2.out hb3)
    clear hb3
    have zx5_0 : w3.cell? ⟨gx1, 0, none⟩ = some (.int .i64 r.1.1) := (blk_cell Bx4.out 0).trans rfl
    have zx5_1 : w3.cell? ⟨gx1, 1, none⟩ = some (.int .i64 r.1.2.1) := (blk_cell Bx4.out 1).trans rfl
    have zx5_2 : w3.cell? ⟨gx1, 2, none⟩ = some (.int .i64 r.1.2.2) := (blk_cell Bx4.out 2).trans rfl
    have zx5_3 : w3.cell? ⟨gx1, 3, none⟩ = some (.int .i64 r.2.1.1) := (blk_cell Bx4.out 3).trans rfl
    have zx5_4 : w3.cell? ⟨gx1, 4, none⟩ = some (.int .i64 r.2.1.2.1) := (blk_cell Bx4.out 4).trans rfl
    have zx5_5 : w3.cell? ⟨gx1, 5, none⟩ = some (.int .i64 r.2.1.2.2) := (blk_cell Bx4.out 5).trans rfl
    have zx5_6 : w3.cell? ⟨gx1, 6, none⟩ = some (.slice A r.2.2.length c) := (blk_cell Bx4.out 6).trans rfl
    have zy5_0 : w3.cell? ⟨gy1, 0, none⟩ = some (.int .i64 b.1) := (blk_cell By4.out 0).trans rfl
    have zy5_1 : w3.cell? ⟨gy1, 1, none⟩ = some (.int .i64 b.2.1) := (blk_cell By4.out 1).trans rfl
    have zy5_2 : w3.cell? ⟨gy1, 2, none⟩ = some (.int .i64 b.2.2) := (blk_cell By4.out 2).trans rfl
    go_wp2_with fail
    clear d1 d1' d2 d2'
    refine (copied_any r A c _ Cv4.out HC.out (by omega)).mono ?_
    rintro e w10 ⟨B, b', rfl, hM, hb6⟩
    clear zx5_0 zx5_1 zx5_2 zx5_3 zx5_4 zx5_5 zx5_6 zy5_0 zy5_1 zy5_2
    have HB7 := Aside0.mk (below_step HB4.out hb6)
    have Bx7 : Aside0 (w10.heap[gx1]? = some (.cells #[.int .i64 r.1.1, .int .i64 r.1.2.1, .int .i64 r.1.2.2, .int .i64 r.2.1.1, .int .i64 r.2.1.2.1, .int .i64 r.2.1.2.2, .slice A r.2.2.length c] 26 (0, 0))) := ⟨(hb6.block _ (blk_lt Bx4.out)).trans Bx4.out⟩
    have By7 : Aside0 (w10.heap[gy1]? = some (.cells #[.int .i64 b.1, .int .i64 b.2.1, .int .i64 b.2.2] 23 (0, 0))) := ⟨(hb6.block _ (blk_lt By4.out)).trans By4.out⟩
    have Cv7 := Aside0.mk (Kd.C_below Cv4.out hb6)
    have CV7 := Aside0.mk (Kd.C_below CV4.out hb6)
    clear hb6
    have HM := Aside0.mk hM
    clear hM
    have HVN := Aside0.mk CV7.out
    go_upto_region 6 with (at_builtin; refine Kd.R_append_row (Value.int .i64) 0 (h1 := fun _ => rfl) (w0 := w10) w10.heap.size rfl (.tmp 32) (.tmp 33) 24 3 (.int .i64 0) 8 rfl Try.underlying24 info3' rfl (by decide) (.slice (some ⟨w10.heap.size, 0, none⟩) 0 0) [] v V v.length cv (fun _ => True) rfl rfl (fun _ _ => trivial) ?aO ?aR ?aB ?aS ?aL ?_; (case aO => exact Kd.R_of_own (own_lit w10 w10.heap.size 3 .i64 [] (Nat.le_refl _) (by simp)) (fun _ _ => trivial)); (case aR => exact Kd.C_alloc HVN.out _); (case aB => exact below_alloc (Below.refl _ _) _); (case aS => simp); (case aL => simp; omega); intro v1 w11 ho hb hg hat; have ho := show (Kd.int .i64).R 3 w11 w10.heap.size (fun _ => True) v1 v from ho; obtain ⟨V1, c1', hv1⟩ := Kd.R_slice ho; subst hv1; have HRV := Aside0.mk ho; have HB11 := Aside0.mk hb; clear ho hb hg hat)
    have hb11 := HB11.out
    clear HVN
    have HB8 := Aside0.mk (below_step HB7.out hb11)
    have Bx8 : Aside0 (w11.heap[gx1]? = some (.cells #[.int .i64 r.1.1, .int .i64 r.1.2.1, .int .i64 r.1.2.2, .int .i64 r.2.1.1, .int .i64 r.2.1.2.1, .int .i64 r.2.1.2.2, .slice A r.2.2.length c] 26 (0, 0))) := ⟨(hb11.block _ (blk_lt Bx7.out)).trans Bx7.out⟩
    have By8 : Aside0 (w11.heap[gy1]? = some (.cells #[.int .i64 b.1, .int .i64 b.2.1, .int .i64 b.2.2] 23 (0, 0))) := ⟨(hb11.block _ (blk_lt By7.out)).trans By7.out⟩
    have Cv8 := Aside0.mk (Kd.C_below Cv7.out hb11)
    have CV8 := Aside0.mk (Kd.C_below CV7.out hb11)
    have CM8 := Aside0.mk (MarkC.below HM.out hb11)
    clear hb11
    obtain ⟨W9, hw9⟩ : ∃ x : World, x = w11.alloc (.cells #[.int .i64 r.1.1, .int .i64 r.1.2.1, .int .i64 r.1.2.2, .int .i64 r.2.1.1, .int .i64 r.2.1.2.1, .int .i64 r.2.1.2.2, .slice B r.2.2.length b'] 26) := ⟨_, rfl⟩
    have hbs9 : Below w11.heap.size w11 W9 := by rw [hw9]; repeat (first | exact Below.refl _ _ | refine below_alloc ?_ _ | refine below_drew ?_)
    obtain ⟨gc9, hgc9⟩ : ∃ x, x = w11.heap.size := ⟨_, rfl⟩
    have GSc9 : Aside0 (W.heap.size ≤ gc9) := ⟨by rw [hgc9]; have := HB8.out.size; omega⟩
    have Bc9 : Aside0 (W9.heap[gc9]? = some (.cells #[.int .i64 r.1.1, .int .i64 r.1.2.1, .int .i64 r.1.2.2, .int .i64 r.2.1.1, .int .i64 r.2.1.2.1, .int .i64 r.2.1.2.2, .slice B r.2.2.length b'] 26 (0, 0))) := ⟨by rw [hw9, hgc9]; exact blk_new _ _⟩
    rw [← hw9]
    rw [← hgc9]
    clear hw9 hgc9
    have HB10 := Aside0.mk (below_step HB8.out hbs9)
    have Bx10 : Aside0 (W9.heap[gx1]? = some (.cells #[.int .i64 r.1.1, .int .i64 r.1.2.1, .int .i64 r.1.2.2, .int .i64 r.2.1.1, .int .i64 r.2.1.2.1, .int .i64 r.2.1.2.2, .slice A r.2.2.length c] 26 (0, 0))) := ⟨(hbs9.block _ (blk_lt Bx8.out)).trans Bx8.out⟩
    have By10 : Aside0 (W9.heap[gy1]? = some (.cells #[.int .i64 b.1, .int .i64 b.2.1, .int .i64 b.2.2] 23 (0, 0))) := ⟨(hbs9.block _ (blk_lt By8.out)).trans By8.out⟩
    have Cv10 := Aside0.mk (Kd.C_below Cv8.out hbs9)
    have CV10 := Aside0.mk (Kd.C_below CV8.out hbs9)
    have CM10 := Aside0.mk (MarkC.below CM8.out hbs9)
    have Rt810 := Aside0.mk (Kd.R_below HRV.out hbs9)
    clear hbs9
    have HBP0 : Aside0 (Below W9.heap.size W9 W9) := ⟨Below.refl _ _⟩
    have HPW := HB10
    have HMP := Aside0.mk CM10.out
    have HTP := Aside0.mk (Kd.R_reads' Rt810.out).2.2
    have HTC := Aside0.mk (Kd.R_reads' Rt810.out).2.1
    have HAP := Aside0.mk Cv10.out
    have HVP := Aside0.mk CV10.out
    have HXP := Bx10
    have HCP := Bc9
    obtain ⟨X, hX⟩ : ∃ X, prepR r b = X := ⟨_, rfl⟩
    obtain ⟨pe, hpe⟩ : ∃ e, prepE r b = e := ⟨_, rfl⟩
    obtain ⟨Y, hY⟩ : ∃ Y, accR r b v = Y := ⟨_, rfl⟩
    obtain ⟨ae, hae⟩ : ∃ e, accE r b v = e := ⟨_, rfl⟩
    have HPN : Aside0 (pe ≠ some 0) := ⟨by rw [← hpe]; exact prepE_ne r b⟩
    have HAN : Aside0 (ae ≠ some 0) := ⟨by rw [← hae]; exact accE_ne r b v⟩
    obtain ⟨pn, hpn⟩ : ∃ n, pe.getD 0 = n := ⟨_, rfl⟩
    obtain ⟨an, han⟩ : ∃ n, ae.getD 0 = n := ⟨_, rfl⟩
    have CP : Aside0 (∀ B c w, (Kd.int .i64).C w B r.2.2.length r.2.2 → r.2.2.length ≤ c → Calls Try.prog 11 #[.agg (regA r B c), .agg (balA b)] w fun e w' => ∃ B1 c1, e = .returned (.tuple #[.agg (regA X B1 c1), errW pe]) ∧ (Kd.int .i64).R 3 w' w.heap.size (fun _ => True) (.slice B1 X.2.2.length c1) X.2.2 ∧ Below w.heap.size w w') := ⟨fun B c w h h' => by rw [← hX, ← hpe]; exact prepare_v r B c w h h' b HOK.out HBO.out (by omega)⟩
    have CQ : Aside0 (∀ B c w, (Kd.int .i64).C w B r.2.2.length r.2.2 → r.2.2.length ≤ c → Calls Try.prog 12 #[.agg (regA r B c), .agg (balA b)] w fun e w' => ∃ B1 c1, e = .returned (.tuple #[.agg (regA X B1 c1), .int .i64 pn]) ∧ (Kd.int .i64).C w' B1 X.2.2.length X.2.2 ∧ X.2.2.length ≤ c1 ∧ Below w.heap.size w w') := ⟨fun B c w h h' => by rw [← hpn, ← hpe, ← hX]; exact refprep_c r B c b w h h'⟩
    have CA : Aside0 (∀ B c V cv w, (Kd.int .i64).C w B r.2.2.length r.2.2 → r.2.2.length ≤ c → (Kd.int .i64).C w V v.length v → v.length ≤ cv → Calls Try.prog 13 #[.agg (regA r B c), .agg (balA b), .slice V v.length cv] w fun e w' => ∃ B1 c1, e = .returned (.tuple #[.agg (regA Y B1 c1), errW ae]) ∧ (Kd.int .i64).R 3 w' w.heap.size (fun _ => True) (.slice B1 Y.2.2.length c1) Y.2.2 ∧ Below w.heap.size w w') := ⟨fun B c V cv w h h' h2 h3 => by rw [← hY, ← hae]; exact accept_v r B c w h h' b V cv v HOK.out HBO.out h2 h3⟩
    have CB : Aside0 (∀ B c V cv w, (Kd.int .i64).C w B r.2.2.length r.2.2 → r.2.2.length ≤ c → (Kd.int .i64).C w V v.length v → v.length ≤ cv → Calls Try.prog 14 #[.agg (regA r B c), .agg (balA b), .slice V v.length cv] w fun e w' => ∃ B1 c1, e = .returned (.tuple #[.agg (regA Y B1 c1), .int .i64 an]) ∧ (Kd.int .i64).R 3 w' w.heap.size (fun _ => True) (.slice B1 Y.2.2.length c1) Y.2.2 ∧ Below w.heap.size w w') := ⟨fun B c V cv w h h' h2 h3 => by rw [← han, ← hae, ← hY]; exact refaccept_v r B c w h h' b V cv v h2 h3⟩
    have HMX : Aside0 (X.2.2.length ≤ 500) := ⟨by rw [← hX]; unfold prepR; split; exact h1; simp [zeroR]⟩
    have HMY : Aside0 (Y.2.2.length ≤ 500) := ⟨by rw [← hY]; unfold accR; split; exact h2; simp [zeroR]⟩
    have HPE := Aside0.mk hpn
    have HAE := Aside0.mk han
    clear hX hpe hY hae hpn han
    have zy11_0 : W9.cell? ⟨gy1, 0, none⟩ = some (.int .i64 b.1) := (blk_cell By10.out 0).trans rfl
    have zy11_1 : W9.cell? ⟨gy1, 1, none⟩ = some (.int .i64 b.2.1) := (blk_cell By10.out 1).trans rfl
    have zy11_2 : W9.cell? ⟨gy1, 2, none⟩ = some (.int .i64 b.2.2) := (blk_cell By10.out 2).trans rfl
    have zc11_0 : W9.cell? ⟨gc9, 0, none⟩ = some (.int .i64 r.1.1) := (blk_cell Bc9.out 0).trans rfl
    have zc11_1 : W9.cell? ⟨gc9, 1, none⟩ = some (.int .i64 r.1.2.1) := (blk_cell Bc9.out 1).trans rfl
    have zc11_2 : W9.cell? ⟨gc9, 2, none⟩ = some (.int .i64 r.1.2.2) := (blk_cell Bc9.out 2).trans rfl
    have zc11_3 : W9.cell? ⟨gc9, 3, none⟩ = some (.int .i64 r.2.1.1) := (blk_cell Bc9.out 3).trans rfl
    have zc11_4 : W9.cell? ⟨gc9, 4, none⟩ = some (.int .i64 r.2.1.2.1) := (blk_cell Bc9.out 4).trans rfl
    have zc11_5 : W9.cell? ⟨gc9, 5, none⟩ = some (.int .i64 r.2.1.2.2) := (blk_cell Bc9.out 5).trans rfl
    have zc11_6 : W9.cell? ⟨gc9, 6, none⟩ = some (.slice B r.2.2.length b') := (blk_cell Bc9.out 6).trans rfl
    go_wp2_with fail
    have HSP := Aside0.mk (Nat.le_refl W9.heap.size)
    refine (CP.out B b' _ (MarkC.C CM10.out) HMP.out.cap).mono ?_
    rintro e w20 ⟨B1, c1, rfl, hR1, hb⟩
    have HR1 := Aside0.mk hR1
    clear hR1
    clear zy11_0 zy11_1 zy11_2 zc11_0 zc11_1 zc11_2 zc11_3 zc11_4 zc11_5 zc11_6
    have HB12 := Aside0.mk (below_step HB10.out hb)
    have Bx12 : Aside0 (w20.heap[gx1]? = some (.cells #[.int .i64 r.1.1, .int .i64 r.1.2.1, .int .i64 r.1.2.2, .int .i64 r.2.1.1, .int .i64 r.2.1.2.1, .int .i64 r.2.1.2.2, .slice A r.2.2.length c] 26 (0, 0))) := ⟨(hb.block _ (blk_lt Bx10.out)).trans Bx10.out⟩
    have By12 : Aside0 (w20.heap[gy1]? = some (.cells #[.int .i64 b.1, .int .i64 b.2.1, .int .i64 b.2.2] 23 (0, 0))) := ⟨(hb.block _ (blk_lt By10.out)).trans By10.out⟩
    have Bc12 : Aside0 (w20.heap[gc9]? = some (.cells #[.int .i64 r.1.1, .int .i64 r.1.2.1, .int .i64 r.1.2.2, .int .i64 r.2.1.1, .int .i64 r.2.1.2.1, .int .i64 r.2.1.2.2, .slice B r.2.2.length b'] 26 (0, 0))) := ⟨(hb.block _ (blk_lt Bc9.out)).trans Bc9.out⟩
    have Cv12 := Aside0.mk (Kd.C_below Cv10.out hb)
    have CV12 := Aside0.mk (Kd.C_below CV10.out hb)
    have CM12 := Aside0.mk (MarkC.below CM10.out hb)
    have CBP12 := Aside0.mk (below_step HBP0.out hb)
    have Rt812 := Aside0.mk (Kd.R_below Rt810.out hb)
    clear hb
    have zx13_0 : w20.cell? ⟨gx1, 0, none⟩ = some (.int .i64 r.1.1) := (blk_cell Bx12.out 0).trans rfl
    have zx13_1 : w20.cell? ⟨gx1, 1, none⟩ = some (.int .i64 r.1.2.1) := (blk_cell Bx12.out 1).trans rfl
    have zx13_2 : w20.cell? ⟨gx1, 2, none⟩ = some (.int .i64 r.1.2.2) := (blk_cell Bx12.out 2).trans rfl
    have zx13_3 : w20.cell? ⟨gx1, 3, none⟩ = some (.int .i64 r.2.1.1) := (blk_cell Bx12.out 3).trans rfl
    have zx13_4 : w20.cell? ⟨gx1, 4, none⟩ = some (.int .i64 r.2.1.2.1) := (blk_cell Bx12.out 4).trans rfl
    have zx13_5 : w20.cell? ⟨gx1, 5, none⟩ = some (.int .i64 r.2.1.2.2) := (blk_cell Bx12.out 5).trans rfl
    have zx13_6 : w20.cell? ⟨gx1, 6, none⟩ = some (.slice A r.2.2.length c) := (blk_cell Bx12.out 6).trans rfl
    have zy13_0 : w20.cell? ⟨gy1, 0, none⟩ = some (.int .i64 b.1) := (blk_cell By12.out 0).trans rfl
    have zy13_1 : w20.cell? ⟨gy1, 1, none⟩ = some (.int .i64 b.2.1) := (blk_cell By12.out 1).trans rfl
    have zy13_2 : w20.cell? ⟨gy1, 2, none⟩ = some (.int .i64 b.2.2) := (blk_cell By12.out 2).trans rfl
    go_upto_region 7 with fail
    obtain ⟨W14, hw14⟩ : ∃ x : World, x = w20.alloc (.cells #[.int .i64 X.1.1, .int .i64 X.1.2.1, .int .i64 X.1.2.2, .int .i64 X.2.1.1, .int .i64 X.2.1.2.1, .int .i64 X.2.1.2.2, .slice B1 X.2.2.length c1] 26) := ⟨_, rfl⟩
    have hbs14 : Below w20.heap.size w20 W14 := by rw [hw14]; repeat (first | exact Below.refl _ _ | refine below_alloc ?_ _ | refine below_drew ?_)
    obtain ⟨gp14, hgp14⟩ : ∃ x, x = w20.heap.size := ⟨_, rfl⟩
    have GSp14 : Aside0 (W.heap.size ≤ gp14) := ⟨by rw [hgp14]; have := HB12.out.size; omega⟩
    have Bp14 : Aside0 (W14.heap[gp14]? = some (.cells #[.int .i64 X.1.1, .int .i64 X.1.2.1, .int .i64 X.1.2.2, .int .i64 X.2.1.1, .int .i64 X.2.1.2.1, .int .i64 X.2.1.2.2, .slice B1 X.2.2.length c1] 26 (0, 0))) := ⟨by rw [hw14, hgp14]; exact blk_new _ _⟩
    rw [← hw14]
    rw [← hgp14]
    clear hw14 hgp14
    clear zx13_0 zx13_1 zx13_2 zx13_3 zx13_4 zx13_5 zx13_6 zy13_0 zy13_1 zy13_2
    have HB15 := Aside0.mk (below_step HB12.out hbs14)
    have Bx15 : Aside0 (W14.heap[gx1]? = some (.cells #[.int .i64 r.1.1, .int .i64 r.1.2.1, .int .i64 r.1.2.2, .int .i64 r.2.1.1, .int .i64 r.2.1.2.1, .int .i64 r.2.1.2.2, .slice A r.2.2.length c] 26 (0, 0))) := ⟨(hbs14.block _ (blk_lt Bx12.out)).trans Bx12.out⟩
    have By15 : Aside0 (W14.heap[gy1]? = some (.cells #[.int .i64 b.1, .int .i64 b.2.1, .int .i64 b.2.2] 23 (0, 0))) := ⟨(hbs14.block _ (blk_lt By12.out)).trans By12.out⟩
    have Bc15 : Aside0 (W14.heap[gc9]? = some (.cells #[.int .i64 r.1.1, .int .i64 r.1.2.1, .int .i64 r.1.2.2, .int .i64 r.2.1.1, .int .i64 r.2.1.2.1, .int .i64 r.2.1.2.2, .slice B r.2.2.length b'] 26 (0, 0))) := ⟨(hbs14.block _ (blk_lt Bc12.out)).trans Bc12.out⟩
    have Cv15 := Aside0.mk (Kd.C_below Cv12.out hbs14)
    have CV15 := Aside0.mk (Kd.C_below CV12.out hbs14)
    have CM15 := Aside0.mk (MarkC.below CM12.out hbs14)
    have CBP15 := Aside0.mk (below_step CBP12.out hbs14)
    have Rt815 := Aside0.mk (Kd.R_below Rt812.out hbs14)
    have Rpv15 := Aside0.mk (Kd.R_below HR1.out hbs14)
    clear hbs14
    have zx16_0 : W14.cell? ⟨gx1, 0, none⟩ = some (.int .i64 r.1.1) := (blk_cell Bx15.out 0).trans rfl
    have zx16_1 : W14.cell? ⟨gx1, 1, none⟩ = some (.int .i64 r.1.2.1) := (blk_cell Bx15.out 1).trans rfl
    have zx16_2 : W14.cell? ⟨gx1, 2, none⟩ = some (.int .i64 r.1.2.2) := (blk_cell Bx15.out 2).trans rfl
    have zx16_3 : W14.cell? ⟨gx1, 3, none⟩ = some (.int .i64 r.2.1.1) := (blk_cell Bx15.out 3).trans rfl
    have zx16_4 : W14.cell? ⟨gx1, 4, none⟩ = some (.int .i64 r.2.1.2.1) := (blk_cell Bx15.out 4).trans rfl
    have zx16_5 : W14.cell? ⟨gx1, 5, none⟩ = some (.int .i64 r.2.1.2.2) := (blk_cell Bx15.out 5).trans rfl
    have zx16_6 : W14.cell? ⟨gx1, 6, none⟩ = some (.slice A r.2.2.length c) := (blk_cell Bx15.out 6).trans rfl
    have zy16_0 : W14.cell? ⟨gy1, 0, none⟩ = some (.int .i64 b.1) := (blk_cell By15.out 0).trans rfl
    have zy16_1 : W14.cell? ⟨gy1, 1, none⟩ = some (.int .i64 b.2.1) := (blk_cell By15.out 1).trans rfl
    have zy16_2 : W14.cell? ⟨gy1, 2, none⟩ = some (.int .i64 b.2.2) := (blk_cell By15.out 2).trans rfl
    go_wp2_with fail
    refine (CQ.out A c _ Cv15.out HC.out).mono ?_
    rintro e w21 ⟨B2, c2, rfl, hC2, hD2, hb⟩
    have HC2 := Aside0.mk hC2
    have HD2 := Aside0.mk hD2
    clear hC2 hD2
    clear zx16_0 zx16_1 zx16_2 zx16_3 zx16_4 zx16_5 zx16_6 zy16_0 zy16_1 zy16_2
    have HB17 := Aside0.mk (below_step HB15.out hb)
    have Bx17 : Aside0 (w21.heap[gx1]? = some (.cells #[.int .i64 r.1.1, .int .i64 r.1.2.1, .int .i64 r.1.2.2, .int .i64 r.2.1.1, .int .i64 r.2.1.2.1, .int .i64 r.2.1.2.2, .slice A r.2.2.length c] 26 (0, 0))) := ⟨(hb.block _ (blk_lt Bx15.out)).trans Bx15.out⟩
    have By17 : Aside0 (w21.heap[gy1]? = some (.cells #[.int .i64 b.1, .int .i64 b.2.1, .int .i64 b.2.2] 23 (0, 0))) := ⟨(hb.block _ (blk_lt By15.out)).trans By15.out⟩
    have Bc17 : Aside0 (w21.heap[gc9]? = some (.cells #[.int .i64 r.1.1, .int .i64 r.1.2.1, .int .i64 r.1.2.2, .int .i64 r.2.1.1, .int .i64 r.2.1.2.1, .int .i64 r.2.1.2.2, .slice B r.2.2.length b'] 26 (0, 0))) := ⟨(hb.block _ (blk_lt Bc15.out)).trans Bc15.out⟩
    have Bp17 : Aside0 (w21.heap[gp14]? = some (.cells #[.int .i64 X.1.1, .int .i64 X.1.2.1, .int .i64 X.1.2.2, .int .i64 X.2.1.1, .int .i64 X.2.1.2.1, .int .i64 X.2.1.2.2, .slice B1 X.2.2.length c1] 26 (0, 0))) := ⟨(hb.block _ (blk_lt Bp14.out)).trans Bp14.out⟩
    have Cv17 := Aside0.mk (Kd.C_below Cv15.out hb)
    have CV17 := Aside0.mk (Kd.C_below CV15.out hb)
    have CM17 := Aside0.mk (MarkC.below CM15.out hb)
    have CBP17 := Aside0.mk (below_step CBP15.out hb)
    have Rt817 := Aside0.mk (Kd.R_below Rt815.out hb)
    have Rpv17 := Aside0.mk (Kd.R_below Rpv15.out hb)
    clear hb
    go_upto_region 8 with fail
    obtain ⟨W18, hw18⟩ : ∃ x : World, x = w21.alloc (.cells #[.int .i64 X.1.1, .int .i64 X.1.2.1, .int .i64 X.1.2.2, .int .i64 X.2.1.1, .int .i64 X.2.1.2.1, .int .i64 X.2.1.2.2, .slice B2 X.2.2.length c2] 26) := ⟨_, rfl⟩
    have hbs18 : Below w21.heap.size w21 W18 := by rw [hw18]; repeat (first | exact Below.refl _ _ | refine below_alloc ?_ _ | refine below_drew ?_)
    obtain ⟨gq18, hgq18⟩ : ∃ x, x = w21.heap.size := ⟨_, rfl⟩
    have GSq18 : Aside0 (W.heap.size ≤ gq18) := ⟨by rw [hgq18]; have := HB17.out.size; omega⟩
    have Bq18 : Aside0 (W18.heap[gq18]? = some (.cells #[.int .i64 X.1.1, .int .i64 X.1.2.1, .int .i64 X.1.2.2, .int .i64 X.2.1.1, .int .i64 X.2.1.2.1, .int .i64 X.2.1.2.2, .slice B2 X.2.2.length c2] 26 (0, 0))) := ⟨by rw [hw18, hgq18]; exact blk_new _ _⟩
    rw [← hw18]
    rw [← hgq18]
    clear hw18 hgq18
    have HB19 := Aside0.mk (below_step HB17.out hbs18)
    have Bx19 : Aside0 (W18.heap[gx1]? = some (.cells #[.int .i64 r.1.1, .int .i64 r.1.2.1, .int .i64 r.1.2.2, .int .i64 r.2.1.1, .int .i64 r.2.1.2.1, .int .i64 r.2.1.2.2, .slice A r.2.2.length c] 26 (0, 0))) := ⟨(hbs18.block _ (blk_lt Bx17.out)).trans Bx17.out⟩
    have By19 : Aside0 (W18.heap[gy1]? = some (.cells #[.int .i64 b.1, .int .i64 b.2.1, .int .i64 b.2.2] 23 (0, 0))) := ⟨(hbs18.block _ (blk_lt By17.out)).trans By17.out⟩
    have Bc19 : Aside0 (W18.heap[gc9]? = some (.cells #[.int .i64 r.1.1, .int .i64 r.1.2.1, .int .i64 r.1.2.2, .int .i64 r.2.1.1, .int .i64 r.2.1.2.1, .int .i64 r.2.1.2.2, .slice B r.2.2.length b'] 26 (0, 0))) := ⟨(hbs18.block _ (blk_lt Bc17.out)).trans Bc17.out⟩
    have Bp19 : Aside0 (W18.heap[gp14]? = some (.cells #[.int .i64 X.1.1, .int .i64 X.1.2.1, .int .i64 X.1.2.2, .int .i64 X.2.1.1, .int .i64 X.2.1.2.1, .int .i64 X.2.1.2.2, .slice B1 X.2.2.length c1] 26 (0, 0))) := ⟨(hbs18.block _ (blk_lt Bp17.out)).trans Bp17.out⟩
    have Cv19 := Aside0.mk (Kd.C_below Cv17.out hbs18)
    have CV19 := Aside0.mk (Kd.C_below CV17.out hbs18)
    have CM19 := Aside0.mk (MarkC.below CM17.out hbs18)
    have CBP19 := Aside0.mk (below_step CBP17.out hbs18)
    have Cqv19 := Aside0.mk (Kd.C_below HC2.out hbs18)
    have Rt819 := Aside0.mk (Kd.R_below Rt817.out hbs18)
    have Rpv19 := Aside0.mk (Kd.R_below Rpv17.out hbs18)
    clear hbs18
    have zy20_0 : W18.cell? ⟨gy1, 0, none⟩ = some (.int .i64 b.1) := (blk_cell By19.out 0).trans rfl
    have zy20_1 : W18.cell? ⟨gy1, 1, none⟩ = some (.int .i64 b.2.1) := (blk_cell By19.out 1).trans rfl
    have zy20_2 : W18.cell? ⟨gy1, 2, none⟩ = some (.int .i64 b.2.2) := (blk_cell By19.out 2).trans rfl
    have zc20_0 : W18.cell? ⟨gc9, 0, none⟩ = some (.int .i64 r.1.1) := (blk_cell Bc19.out 0).trans rfl
    have zc20_1 : W18.cell? ⟨gc9, 1, none⟩ = some (.int .i64 r.1.2.1) := (blk_cell Bc19.out 1).trans rfl
    have zc20_2 : W18.cell? ⟨gc9, 2, none⟩ = some (.int .i64 r.1.2.2) := (blk_cell Bc19.out 2).trans rfl
    have zc20_3 : W18.cell? ⟨gc9, 3, none⟩ = some (.int .i64 r.2.1.1) := (blk_cell Bc19.out 3).trans rfl
    have zc20_4 : W18.cell? ⟨gc9, 4, none⟩ = some (.int .i64 r.2.1.2.1) := (blk_cell Bc19.out 4).trans rfl
    have zc20_5 : W18.cell? ⟨gc9, 5, none⟩ = some (.int .i64 r.2.1.2.2) := (blk_cell Bc19.out 5).trans rfl
    have zc20_6 : W18.cell? ⟨gc9, 6, none⟩ = some (.slice B r.2.2.length b') := (blk_cell Bc19.out 6).trans rfl
    go_wp2_with fail
    have HSA : Aside0 (W9.heap.size ≤ W18.heap.size) := ⟨CBP19.out.size⟩
    have HOLD : Aside0 (∀ k, (Value.slice B1 X.2.2.length c1).ownBlock = some k → k < W18.heap.size) := ⟨fun k hk => by obtain ⟨inner, ho⟩ := Kd.R_own Rpv19.out; exact own_lt ho k hk⟩
    refine (CA.out B b' V1 c1' _ (MarkC.C CM19.out) HMP.out.cap (Kd.R_reads' Rt819.out).2.2 HTC.out).mono ?_
    rintro e w22 ⟨B3, c3, rfl, hR3, hb⟩
    have HR3 := Aside0.mk hR3
    clear hR3
    clear zy20_0 zy20_1 zy20_2 zc20_0 zc20_1 zc20_2 zc20_3 zc20_4 zc20_5 zc20_6
    have HB21 := Aside0.mk (below_step HB19.out hb)
    have Bx21 : Aside0 (w22.heap[gx1]? = some (.cells #[.int .i64 r.1.1, .int .i64 r.1.2.1, .int .i64 r.1.2.2, .int .i64 r.2.1.1, .int .i64 r.2.1.2.1, .int .i64 r.2.1.2.2, .slice A r.2.2.length c] 26 (0, 0))) := ⟨(hb.block _ (blk_lt Bx19.out)).trans Bx19.out⟩
    have By21 : Aside0 (w22.heap[gy1]? = some (.cells #[.int .i64 b.1, .int .i64 b.2.1, .int .i64 b.2.2] 23 (0, 0))) := ⟨(hb.block _ (blk_lt By19.out)).trans By19.out⟩
    have Bc21 : Aside0 (w22.heap[gc9]? = some (.cells #[.int .i64 r.1.1, .int .i64 r.1.2.1, .int .i64 r.1.2.2, .int .i64 r.2.1.1, .int .i64 r.2.1.2.1, .int .i64 r.2.1.2.2, .slice B r.2.2.length b'] 26 (0, 0))) := ⟨(hb.block _ (blk_lt Bc19.out)).trans Bc19.out⟩
    have Bp21 : Aside0 (w22.heap[gp14]? = some (.cells #[.int .i64 X.1.1, .int .i64 X.1.2.1, .int .i64 X.1.2.2, .int .i64 X.2.1.1, .int .i64 X.2.1.2.1, .int .i64 X.2.1.2.2, .slice B1 X.2.2.length c1] 26 (0, 0))) := ⟨(hb.block _ (blk_lt Bp19.out)).trans Bp19.out⟩
    have Bq21 : Aside0 (w22.heap[gq18]? = some (.cells #[.int .i64 X.1.1, .int .i64 X.1.2.1, .int .i64 X.1.2.2, .int .i64 X.2.1.1, .int .i64 X.2.1.2.1, .int .i64 X.2.1.2.2, .slice B2 X.2.2.length c2] 26 (0, 0))) := ⟨(hb.block _ (blk_lt Bq18.out)).trans Bq18.out⟩
    have Cv21 := Aside0.mk (Kd.C_below Cv19.out hb)
    have CV21 := Aside0.mk (Kd.C_below CV19.out hb)
    have CM21 := Aside0.mk (MarkC.below CM19.out hb)
    have CBP21 := Aside0.mk (below_step CBP19.out hb)
    have Cqv21 := Aside0.mk (Kd.C_below Cqv19.out hb)
    have Rt821 := Aside0.mk (Kd.R_below Rt819.out hb)
    have Rpv21 := Aside0.mk (Kd.R_below Rpv19.out hb)
    clear hb
    go_upto_region 9 with fail
    obtain ⟨W22, hw22⟩ : ∃ x : World, x = w22.alloc (.cells #[.int .i64 Y.1.1, .int .i64 Y.1.2.1, .int .i64 Y.1.2.2, .int .i64 Y.2.1.1, .int .i64 Y.2.1.2.1, .int .i64 Y.2.1.2.2, .slice B3 Y.2.2.length c3] 26) := ⟨_, rfl⟩
    have hbs22 : Below w22.heap.size w22 W22 := by rw [hw22]; repeat (first | exact Below.refl _ _ | refine below_alloc ?_ _ | refine below_drew ?_)
    obtain ⟨ga22, hga22⟩ : ∃ x, x = w22.heap.size := ⟨_, rfl⟩
    have GSa22 : Aside0 (W.heap.size ≤ ga22) := ⟨by rw [hga22]; have := HB21.out.size; omega⟩
    have Ba22 : Aside0 (W22.heap[ga22]? = some (.cells #[.int .i64 Y.1.1, .int .i64 Y.1.2.1, .int .i64 Y.1.2.2, .int .i64 Y.2.1.1, .int .i64 Y.2.1.2.1, .int .i64 Y.2.1.2.2, .slice B3 Y.2.2.length c3] 26 (0, 0))) := ⟨by rw [hw22, hga22]; exact blk_new _ _⟩
    rw [← hw22]
    rw [← hga22]
    clear hw22 hga22
    have HB23 := Aside0.mk (below_step HB21.out hbs22)
    have Bx23 : Aside0 (W22.heap[gx1]? = some (.cells #[.int .i64 r.1.1, .int .i64 r.1.2.1, .int .i64 r.1.2.2, .int .i64 r.2.1.1, .int .i64 r.2.1.2.1, .int .i64 r.2.1.2.2, .slice A r.2.2.length c] 26 (0, 0))) := ⟨(hbs22.block _ (blk_lt Bx21.out)).trans Bx21.out⟩
    have By23 : Aside0 (W22.heap[gy1]? = some (.cells #[.int .i64 b.1, .int .i64 b.2.1, .int .i64 b.2.2] 23 (0, 0))) := ⟨(hbs22.block _ (blk_lt By21.out)).trans By21.out⟩
    have Bc23 : Aside0 (W22.heap[gc9]? = some (.cells #[.int .i64 r.1.1, .int .i64 r.1.2.1, .int .i64 r.1.2.2, .int .i64 r.2.1.1, .int .i64 r.2.1.2.1, .int .i64 r.2.1.2.2, .slice B r.2.2.length b'] 26 (0, 0))) := ⟨(hbs22.block _ (blk_lt Bc21.out)).trans Bc21.out⟩
    have Bp23 : Aside0 (W22.heap[gp14]? = some (.cells #[.int .i64 X.1.1, .int .i64 X.1.2.1, .int .i64 X.1.2.2, .int .i64 X.2.1.1, .int .i64 X.2.1.2.1, .int .i64 X.2.1.2.2, .slice B1 X.2.2.length c1] 26 (0, 0))) := ⟨(hbs22.block _ (blk_lt Bp21.out)).trans Bp21.out⟩
    have Bq23 : Aside0 (W22.heap[gq18]? = some (.cells #[.int .i64 X.1.1, .int .i64 X.1.2.1, .int .i64 X.1.2.2, .int .i64 X.2.1.1, .int .i64 X.2.1.2.1, .int .i64 X.2.1.2.2, .slice B2 X.2.2.length c2] 26 (0, 0))) := ⟨(hbs22.block _ (blk_lt Bq21.out)).trans Bq21.out⟩
    have Cv23 := Aside0.mk (Kd.C_below Cv21.out hbs22)
    have CV23 := Aside0.mk (Kd.C_below CV21.out hbs22)
    have CM23 := Aside0.mk (MarkC.below CM21.out hbs22)
    have CBP23 := Aside0.mk (below_step CBP21.out hbs22)
    have Cqv23 := Aside0.mk (Kd.C_below Cqv21.out hbs22)
    have Rt823 := Aside0.mk (Kd.R_below Rt821.out hbs22)
    have Rpv23 := Aside0.mk (Kd.R_below Rpv21.out hbs22)
    have Rav23 := Aside0.mk (Kd.R_below HR3.out hbs22)
    clear hbs22
    have zx24_0 : W22.cell? ⟨gx1, 0, none⟩ = some (.int .i64 r.1.1) := (blk_cell Bx23.out 0).trans rfl
    have zx24_1 : W22.cell? ⟨gx1, 1, none⟩ = some (.int .i64 r.1.2.1) := (blk_cell Bx23.out 1).trans rfl
    have zx24_2 : W22.cell? ⟨gx1, 2, none⟩ = some (.int .i64 r.1.2.2) := (blk_cell Bx23.out 2).trans rfl
    have zx24_3 : W22.cell? ⟨gx1, 3, none⟩ = some (.int .i64 r.2.1.1) := (blk_cell Bx23.out 3).trans rfl
    have zx24_4 : W22.cell? ⟨gx1, 4, none⟩ = some (.int .i64 r.2.1.2.1) := (blk_cell Bx23.out 4).trans rfl
    have zx24_5 : W22.cell? ⟨gx1, 5, none⟩ = some (.int .i64 r.2.1.2.2) := (blk_cell Bx23.out 5).trans rfl
    have zx24_6 : W22.cell? ⟨gx1, 6, none⟩ = some (.slice A r.2.2.length c) := (blk_cell Bx23.out 6).trans rfl
    have zy24_0 : W22.cell? ⟨gy1, 0, none⟩ = some (.int .i64 b.1) := (blk_cell By23.out 0).trans rfl
    have zy24_1 : W22.cell? ⟨gy1, 1, none⟩ = some (.int .i64 b.2.1) := (blk_cell By23.out 1).trans rfl
    have zy24_2 : W22.cell? ⟨gy1, 2, none⟩ = some (.int .i64 b.2.2) := (blk_cell By23.out 2).trans rfl
    go_wp2_with fail
    refine (CB.out A c V cv _ Cv23.out HC.out CV23.out HCV.out).mono ?_
    rintro e w23 ⟨B4, c4, rfl, hR4, hb⟩
    have HR4 := Aside0.mk hR4
    clear hR4
    clear zx24_0 zx24_1 zx24_2 zx24_3 zx24_4 zx24_5 zx24_6 zy24_0 zy24_1 zy24_2
    have HB25 := Aside0.mk (below_step HB23.out hb)
    have Bx25 : Aside0 (w23.heap[gx1]? = some (.cells #[.int .i64 r.1.1, .int .i64 r.1.2.1, .int .i64 r.1.2.2, .int .i64 r.2.1.1, .int .i64 r.2.1.2.1, .int .i64 r.2.1.2.2, .slice A r.2.2.length c] 26 (0, 0))) := ⟨(hb.block _ (blk_lt Bx23.out)).trans Bx23.out⟩
    have By25 : Aside0 (w23.heap[gy1]? = some (.cells #[.int .i64 b.1, .int .i64 b.2.1, .int .i64 b.2.2] 23 (0, 0))) := ⟨(hb.block _ (blk_lt By23.out)).trans By23.out⟩
    have Bc25 : Aside0 (w23.heap[gc9]? = some (.cells #[.int .i64 r.1.1, .int .i64 r.1.2.1, .int .i64 r.1.2.2, .int .i64 r.2.1.1, .int .i64 r.2.1.2.1, .int .i64 r.2.1.2.2, .slice B r.2.2.length b'] 26 (0, 0))) := ⟨(hb.block _ (blk_lt Bc23.out)).trans Bc23.out⟩
    have Bp25 : Aside0 (w23.heap[gp14]? = some (.cells #[.int .i64 X.1.1, .int .i64 X.1.2.1, .int .i64 X.1.2.2, .int .i64 X.2.1.1, .int .i64 X.2.1.2.1, .int .i64 X.2.1.2.2, .slice B1 X.2.2.length c1] 26 (0, 0))) := ⟨(hb.block _ (blk_lt Bp23.out)).trans Bp23.out⟩
    have Bq25 : Aside0 (w23.heap[gq18]? = some (.cells #[.int .i64 X.1.1, .int .i64 X.1.2.1, .int .i64 X.1.2.2, .int .i64 X.2.1.1, .int .i64 X.2.1.2.1, .int .i64 X.2.1.2.2, .slice B2 X.2.2.length c2] 26 (0, 0))) := ⟨(hb.block _ (blk_lt Bq23.out)).trans Bq23.out⟩
    have Ba25 : Aside0 (w23.heap[ga22]? = some (.cells #[.int .i64 Y.1.1, .int .i64 Y.1.2.1, .int .i64 Y.1.2.2, .int .i64 Y.2.1.1, .int .i64 Y.2.1.2.1, .int .i64 Y.2.1.2.2, .slice B3 Y.2.2.length c3] 26 (0, 0))) := ⟨(hb.block _ (blk_lt Ba22.out)).trans Ba22.out⟩
    have Cv25 := Aside0.mk (Kd.C_below Cv23.out hb)
    have CV25 := Aside0.mk (Kd.C_below CV23.out hb)
    have CM25 := Aside0.mk (MarkC.below CM23.out hb)
    have CBP25 := Aside0.mk (below_step CBP23.out hb)
    have Cqv25 := Aside0.mk (Kd.C_below Cqv23.out hb)
    have Rt825 := Aside0.mk (Kd.R_below Rt823.out hb)
    have Rpv25 := Aside0.mk (Kd.R_below Rpv23.out hb)
    have Rav25 := Aside0.mk (Kd.R_below Rav23.out hb)
    clear hb
    go_upto_region 10 with fail
    obtain ⟨W26, hw26⟩ : ∃ x : World, x = w23.alloc (.cells #[.int .i64 Y.1.1, .int .i64 Y.1.2.1, .int .i64 Y.1.2.2, .int .i64 Y.2.1.1, .int .i64 Y.2.1.2.1, .int .i64 Y.2.1.2.2, .slice B4 Y.2.2.length c4] 26) := ⟨_, rfl⟩
    have hbs26 : Below w23.heap.size w23 W26 := by rw [hw26]; repeat (first | exact Below.refl _ _ | refine below_alloc ?_ _ | refine below_drew ?_)
    obtain ⟨gd26, hgd26⟩ : ∃ x, x = w23.heap.size := ⟨_, rfl⟩
    have GSd26 : Aside0 (W.heap.size ≤ gd26) := ⟨by rw [hgd26]; have := HB25.out.size; omega⟩
    have Bd26 : Aside0 (W26.heap[gd26]? = some (.cells #[.int .i64 Y.1.1, .int .i64 Y.1.2.1, .int .i64 Y.1.2.2, .int .i64 Y.2.1.1, .int .i64 Y.2.1.2.1, .int .i64 Y.2.1.2.2, .slice B4 Y.2.2.length c4] 26 (0, 0))) := ⟨by rw [hw26, hgd26]; exact blk_new _ _⟩
    rw [← hw26]
    rw [← hgd26]
    clear hw26 hgd26
    have HB27 := Aside0.mk (below_step HB25.out hbs26)
    have Bx27 : Aside0 (W26.heap[gx1]? = some (.cells #[.int .i64 r.1.1, .int .i64 r.1.2.1, .int .i64 r.1.2.2, .int .i64 r.2.1.1, .int .i64 r.2.1.2.1, .int .i64 r.2.1.2.2, .slice A r.2.2.length c] 26 (0, 0))) := ⟨(hbs26.block _ (blk_lt Bx25.out)).trans Bx25.out⟩
    have By27 : Aside0 (W26.heap[gy1]? = some (.cells #[.int .i64 b.1, .int .i64 b.2.1, .int .i64 b.2.2] 23 (0, 0))) := ⟨(hbs26.block _ (blk_lt By25.out)).trans By25.out⟩
    have Bc27 : Aside0 (W26.heap[gc9]? = some (.cells #[.int .i64 r.1.1, .int .i64 r.1.2.1, .int .i64 r.1.2.2, .int .i64 r.2.1.1, .int .i64 r.2.1.2.1, .int .i64 r.2.1.2.2, .slice B r.2.2.length b'] 26 (0, 0))) := ⟨(hbs26.block _ (blk_lt Bc25.out)).trans Bc25.out⟩
    have Bp27 : Aside0 (W26.heap[gp14]? = some (.cells #[.int .i64 X.1.1, .int .i64 X.1.2.1, .int .i64 X.1.2.2, .int .i64 X.2.1.1, .int .i64 X.2.1.2.1, .int .i64 X.2.1.2.2, .slice B1 X.2.2.length c1] 26 (0, 0))) := ⟨(hbs26.block _ (blk_lt Bp25.out)).trans Bp25.out⟩
    have Bq27 : Aside0 (W26.heap[gq18]? = some (.cells #[.int .i64 X.1.1, .int .i64 X.1.2.1, .int .i64 X.1.2.2, .int .i64 X.2.1.1, .int .i64 X.2.1.2.1, .int .i64 X.2.1.2.2, .slice B2 X.2.2.length c2] 26 (0, 0))) := ⟨(hbs26.block _ (blk_lt Bq25.out)).trans Bq25.out⟩
    have Ba27 : Aside0 (W26.heap[ga22]? = some (.cells #[.int .i64 Y.1.1, .int .i64 Y.1.2.1, .int .i64 Y.1.2.2, .int .i64 Y.2.1.1, .int .i64 Y.2.1.2.1, .int .i64 Y.2.1.2.2, .slice B3 Y.2.2.length c3] 26 (0, 0))) := ⟨(hbs26.block _ (blk_lt Ba25.out)).trans Ba25.out⟩
    have Cv27 := Aside0.mk (Kd.C_below Cv25.out hbs26)
    have CV27 := Aside0.mk (Kd.C_below CV25.out hbs26)
    have CM27 := Aside0.mk (MarkC.below CM25.out hbs26)
    have CBP27 := Aside0.mk (below_step CBP25.out hbs26)
    have Cqv27 := Aside0.mk (Kd.C_below Cqv25.out hbs26)
    have Rt827 := Aside0.mk (Kd.R_below Rt825.out hbs26)
    have Rpv27 := Aside0.mk (Kd.R_below Rpv25.out hbs26)
    have Rav27 := Aside0.mk (Kd.R_below Rav25.out hbs26)
    have Rdv27 := Aside0.mk (Kd.R_below HR4.out hbs26)
    clear hbs26
    have zx28_0 : W26.cell? ⟨gx1, 0, none⟩ = some (.int .i64 r.1.1) := (blk_cell Bx27.out 0).trans rfl
    have zx28_1 : W26.cell? ⟨gx1, 1, none⟩ = some (.int .i64 r.1.2.1) := (blk_cell Bx27.out 1).trans rfl
    have zx28_2 : W26.cell? ⟨gx1, 2, none⟩ = some (.int .i64 r.1.2.2) := (blk_cell Bx27.out 2).trans rfl
    have zx28_3 : W26.cell? ⟨gx1, 3, none⟩ = some (.int .i64 r.2.1.1) := (blk_cell Bx27.out 3).trans rfl
    have zx28_4 : W26.cell? ⟨gx1, 4, none⟩ = some (.int .i64 r.2.1.2.1) := (blk_cell Bx27.out 4).trans rfl
    have zx28_5 : W26.cell? ⟨gx1, 5, none⟩ = some (.int .i64 r.2.1.2.2) := (blk_cell Bx27.out 5).trans rfl
    have zx28_6 : W26.cell? ⟨gx1, 6, none⟩ = some (.slice A r.2.2.length c) := (blk_cell Bx27.out 6).trans rfl
    have zc28_0 : W26.cell? ⟨gc9, 0, none⟩ = some (.int .i64 r.1.1) := (blk_cell Bc27.out 0).trans rfl
    have zc28_1 : W26.cell? ⟨gc9, 1, none⟩ = some (.int .i64 r.1.2.1) := (blk_cell Bc27.out 1).trans rfl
    have zc28_2 : W26.cell? ⟨gc9, 2, none⟩ = some (.int .i64 r.1.2.2) := (blk_cell Bc27.out 2).trans rfl
    have zc28_3 : W26.cell? ⟨gc9, 3, none⟩ = some (.int .i64 r.2.1.1) := (blk_cell Bc27.out 3).trans rfl
    have zc28_4 : W26.cell? ⟨gc9, 4, none⟩ = some (.int .i64 r.2.1.2.1) := (blk_cell Bc27.out 4).trans rfl
    have zc28_5 : W26.cell? ⟨gc9, 5, none⟩ = some (.int .i64 r.2.1.2.2) := (blk_cell Bc27.out 5).trans rfl
    have zc28_6 : W26.cell? ⟨gc9, 6, none⟩ = some (.slice B r.2.2.length b') := (blk_cell Bc27.out 6).trans rfl
    have zp28_0 : W26.cell? ⟨gp14, 0, none⟩ = some (.int .i64 X.1.1) := (blk_cell Bp27.out 0).trans rfl
    have zp28_1 : W26.cell? ⟨gp14, 1, none⟩ = some (.int .i64 X.1.2.1) := (blk_cell Bp27.out 1).trans rfl
    have zp28_2 : W26.cell? ⟨gp14, 2, none⟩ = some (.int .i64 X.1.2.2) := (blk_cell Bp27.out 2).trans rfl
    have zp28_3 : W26.cell? ⟨gp14, 3, none⟩ = some (.int .i64 X.2.1.1) := (blk_cell Bp27.out 3).trans rfl
    have zp28_4 : W26.cell? ⟨gp14, 4, none⟩ = some (.int .i64 X.2.1.2.1) := (blk_cell Bp27.out 4).trans rfl
    have zp28_5 : W26.cell? ⟨gp14, 5, none⟩ = some (.int .i64 X.2.1.2.2) := (blk_cell Bp27.out 5).trans rfl
    have zp28_6 : W26.cell? ⟨gp14, 6, none⟩ = some (.slice B1 X.2.2.length c1) := (blk_cell Bp27.out 6).trans rfl
    have zq28_0 : W26.cell? ⟨gq18, 0, none⟩ = some (.int .i64 X.1.1) := (blk_cell Bq27.out 0).trans rfl
    have zq28_1 : W26.cell? ⟨gq18, 1, none⟩ = some (.int .i64 X.1.2.1) := (blk_cell Bq27.out 1).trans rfl
    have zq28_2 : W26.cell? ⟨gq18, 2, none⟩ = some (.int .i64 X.1.2.2) := (blk_cell Bq27.out 2).trans rfl
    have zq28_3 : W26.cell? ⟨gq18, 3, none⟩ = some (.int .i64 X.2.1.1) := (blk_cell Bq27.out 3).trans rfl
    have zq28_4 : W26.cell? ⟨gq18, 4, none⟩ = some (.int .i64 X.2.1.2.1) := (blk_cell Bq27.out 4).trans rfl
    have zq28_5 : W26.cell? ⟨gq18, 5, none⟩ = some (.int .i64 X.2.1.2.2) := (blk_cell Bq27.out 5).trans rfl
    have zq28_6 : W26.cell? ⟨gq18, 6, none⟩ = some (.slice B2 X.2.2.length c2) := (blk_cell Bq27.out 6).trans rfl
    have za28_0 : W26.cell? ⟨ga22, 0, none⟩ = some (.int .i64 Y.1.1) := (blk_cell Ba27.out 0).trans rfl
    have za28_1 : W26.cell? ⟨ga22, 1, none⟩ = some (.int .i64 Y.1.2.1) := (blk_cell Ba27.out 1).trans rfl
    have za28_2 : W26.cell? ⟨ga22, 2, none⟩ = some (.int .i64 Y.1.2.2) := (blk_cell Ba27.out 2).trans rfl
    have za28_3 : W26.cell? ⟨ga22, 3, none⟩ = some (.int .i64 Y.2.1.1) := (blk_cell Ba27.out 3).trans rfl
    have za28_4 : W26.cell? ⟨ga22, 4, none⟩ = some (.int .i64 Y.2.1.2.1) := (blk_cell Ba27.out 4).trans rfl
    have za28_5 : W26.cell? ⟨ga22, 5, none⟩ = some (.int .i64 Y.2.1.2.2) := (blk_cell Ba27.out 5).trans rfl
    have za28_6 : W26.cell? ⟨ga22, 6, none⟩ = some (.slice B3 Y.2.2.length c3) := (blk_cell Ba27.out 6).trans rfl
    have zd28_0 : W26.cell? ⟨gd26, 0, none⟩ = some (.int .i64 Y.1.1) := (blk_cell Bd26.out 0).trans rfl
    have zd28_1 : W26.cell? ⟨gd26, 1, none⟩ = some (.int .i64 Y.1.2.1) := (blk_cell Bd26.out 1).trans rfl
    have zd28_2 : W26.cell? ⟨gd26, 2, none⟩ = some (.int .i64 Y.1.2.2) := (blk_cell Bd26.out 2).trans rfl
    have zd28_3 : W26.cell? ⟨gd26, 3, none⟩ = some (.int .i64 Y.2.1.1) := (blk_cell Bd26.out 3).trans rfl
    have zd28_4 : W26.cell? ⟨gd26, 4, none⟩ = some (.int .i64 Y.2.1.2.1) := (blk_cell Bd26.out 4).trans rfl
    have zd28_5 : W26.cell? ⟨gd26, 5, none⟩ = some (.int .i64 Y.2.1.2.2) := (blk_cell Bd26.out 5).trans rfl
    have zd28_6 : W26.cell? ⟨gd26, 6, none⟩ = some (.slice B4 Y.2.2.length c4) := (blk_cell Bd26.out 6).trans rfl
    have e1 : (pn != pn) = false := by simp
    have e2 : (an != an) = false := by simp
    obtain ⟨gg, hgg⟩ : ∃ g, goodR r = g := ⟨_, rfl⟩
    have e3 : (gg != gg) = false := by simp
    have CG : Aside0 (∀ B c w, (Kd.int .i64).C w B r.2.2.length r.2.2 → r.2.2.length ≤ c → Calls Try.prog 17 #[.agg (regA r B c)] w fun e w' => e = .returned (.bool gg) ∧ Below w.heap.size w w') := ⟨fun B c w h h' => by rw [← hgg]; exact good_v r B c w h h' HOK.out⟩
    have CH : Aside0 (∀ B c w, (Kd.int .i64).C w B r.2.2.length r.2.2 → r.2.2.length ≤ c → Calls Try.prog 18 #[.agg (regA r B c)] w fun e w' => e = .returned (.bool gg) ∧ Below w.heap.size w w') := ⟨fun B c w h h' => by rw [← hgg]; exact refgood_v r B c w h h'⟩
    clear hgg
    skip
    refine start_ (n := 29) (S := fun w' => w'.cell? ⟨gx1, 0, none⟩ = some (.int .i64 r.1.1) ∧ w'.cell? ⟨gx1, 1, none⟩ = some (.int .i64 r.1.2.1) ∧ w'.cell? ⟨gx1, 2, none⟩ = some (.int .i64 r.1.2.2) ∧ w'.cell? ⟨gx1, 3, none⟩ = some (.int .i64 r.2.1.1) ∧ w'.cell? ⟨gx1, 4, none⟩ = some (.int .i64 r.2.1.2.1) ∧ w'.cell? ⟨gx1, 5, none⟩ = some (.int .i64 r.2.1.2.2) ∧ w'.cell? ⟨gx1, 6, none⟩ = some (.slice A r.2.2.length c) ∧ w'.cell? ⟨gc9, 0, none⟩ = some (.int .i64 r.1.1) ∧ w'.cell? ⟨gc9, 1, none⟩ = some (.int .i64 r.1.2.1) ∧ w'.cell? ⟨gc9, 2, none⟩ = some (.int .i64 r.1.2.2) ∧ w'.cell? ⟨gc9, 3, none⟩ = some (.int .i64 r.2.1.1) ∧ w'.cell? ⟨gc9, 4, none⟩ = some (.int .i64 r.2.1.2.1) ∧ w'.cell? ⟨gc9, 5, none⟩ = some (.int .i64 r.2.1.2.2) ∧ w'.cell? ⟨gc9, 6, none⟩ = some (.slice B r.2.2.length b') ∧ w'.cell? ⟨gp14, 0, none⟩ = some (.int .i64 X.1.1) ∧ w'.cell? ⟨gp14, 1, none⟩ = some (.int .i64 X.1.2.1) ∧ w'.cell? ⟨gp14, 2, none⟩ = some (.int .i64 X.1.2.2) ∧ w'.cell? ⟨gp14, 3, none⟩ = some (.int .i64 X.2.1.1) ∧ w'.cell? ⟨gp14, 4, none⟩ = some (.int .i64 X.2.1.2.1) ∧ w'.cell? ⟨gp14, 5, none⟩ = some (.int .i64 X.2.1.2.2) ∧ w'.cell? ⟨gp14, 6, none⟩ = some (.slice B1 X.2.2.length c1) ∧ w'.cell? ⟨gq18, 0, none⟩ = some (.int .i64 X.1.1) ∧ w'.cell? ⟨gq18, 1, none⟩ = some (.int .i64 X.1.2.1) ∧ w'.cell? ⟨gq18, 2, none⟩ = some (.int .i64 X.1.2.2) ∧ w'.cell? ⟨gq18, 3, none⟩ = some (.int .i64 X.2.1.1) ∧ w'.cell? ⟨gq18, 4, none⟩ = some (.int .i64 X.2.1.2.1) ∧ w'.cell? ⟨gq18, 5, none⟩ = some (.int .i64 X.2.1.2.2) ∧ w'.cell? ⟨gq18, 6, none⟩ = some (.slice B2 X.2.2.length c2) ∧ w'.cell? ⟨ga22, 0, none⟩ = some (.int .i64 Y.1.1) ∧ w'.cell? ⟨ga22, 1, none⟩ = some (.int .i64 Y.1.2.1) ∧ w'.cell? ⟨ga22, 2, none⟩ = some (.int .i64 Y.1.2.2) ∧ w'.cell? ⟨ga22, 3, none⟩ = some (.int .i64 Y.2.1.1) ∧ w'.cell? ⟨ga22, 4, none⟩ = some (.int .i64 Y.2.1.2.1) ∧ w'.cell? ⟨ga22, 5, none⟩ = some (.int .i64 Y.2.1.2.2) ∧ w'.cell? ⟨ga22, 6, none⟩ = some (.slice B3 Y.2.2.length c3) ∧ w'.cell? ⟨gd26, 0, none⟩ = some (.int .i64 Y.1.1) ∧ w'.cell? ⟨gd26, 1, none⟩ = some (.int .i64 Y.1.2.1) ∧ w'.cell? ⟨gd26, 2, none⟩ = some (.int .i64 Y.1.2.2) ∧ w'.cell? ⟨gd26, 3, none⟩ = some (.int .i64 Y.2.1.1) ∧ w'.cell? ⟨gd26, 4, none⟩ = some (.int .i64 Y.2.1.2.1) ∧ w'.cell? ⟨gd26, 5, none⟩ = some (.int .i64 Y.2.1.2.2) ∧ w'.cell? ⟨gd26, 6, none⟩ = some (.slice B4 Y.2.2.length c4)) (ds := []) #[false, false, false, false, false, false, false, false, false, false, false, false, false, false, false, false, false, false, false, false, false, false, false, false, false, false, false, false, false] (by kernel_rfl) rfl rfl ⟨zx28_0, zx28_1, zx28_2, zx28_3, zx28_4, zx28_5, zx28_6, zc28_0, zc28_1, zc28_2, zc28_3, zc28_4, zc28_5, zc28_6, zp28_0, zp28_1, zp28_2, zp28_3, zp28_4, zp28_5, zp28_6, zq28_0, zq28_1, zq28_2, zq28_3, zq28_4, zq28_5, zq28_6, za28_0, za28_1, za28_2, za28_3, za28_4, za28_5, za28_6, zd28_0, zd28_1, zd28_2, zd28_3, zd28_4, zd28_5, zd28_6⟩ (fun hHeld => ?_)
    refine take_ (i := 0) (N := some 61) (v := ?_) (a' := ?_) #[true, false, false, false, false, false, false, false, false, false, false, false, false, false, false, false, false, false, false, false, false, false, false, false, false, false, false, false, false] rfl rfl (by kernel_rfl) (fun _ _ _ h => h) (Or.inl ⟨by rfl, ?_⟩) hHeld ?_ ?_
    rotate_left
    · rintro w' ⟨s0, s1, s2, s3, s4, s5, s6, s7, s8, s9, s10, s11, s12, s13, s14, s15, s16, s17, s18, s19, s20, s21, s22, s23, s24, s25, s26, s27, s28, s29, s30, s31, s32, s33, s34, s35, s36, s37, s38, s39, s40, s41⟩
      go_simp
      with_reducible rfl
    rotate_left
    · simp only [Act.put, List.setIfInBounds_toArray, List.set_cons_zero, List.set_cons_succ, i64_w, i32_w]
      rfl
    refine take_ (i := 1) (N := some 62) (v := ?_) (a' := ?_) #[true, true, false, false, false, false, false, false, false, false, false, false, false, false, false, false, false, false, false, false, false, false, false, false, false, false, false, false, false] rfl rfl (by kernel_rfl) (fun _ _ _ h => h) (Or.inl ⟨by rfl, ?_⟩) hHeld ?_ ?_
    rotate_left
    · rintro w' ⟨s0, s1, s2, s3, s4, s5, s6, s7, s8, s9, s10, s11, s12, s13, s14, s15, s16, s17, s18, s19, s20, s21, s22, s23, s24, s25, s26, s27, s28, s29, s30, s31, s32, s33, s34, s35, s36, s37, s38, s39, s40, s41⟩
      go_simp
      with_reducible rfl
    rotate_left
    · simp only [Act.put, List.setIfInBounds_toArray, List.set_cons_zero, List.set_cons_succ, i64_w, i32_w]
      rfl
    refine one_ (i := 2) (N := some 63) #[true, true, true, false, false, false, false, false, false, false, false, false, false, false, false, false, false, false, false, false, false, false, false, false, false, false, false, false, false] rfl rfl (by kernel_rfl) (by decide) (fun K hK => ?_)
    refine goes_ Try.func15 (by kernel_rfl) rfl #[.agg #[.int .i64 X.1.1, .int .i64 X.1.2.1, .int .i64 X.1.2.2, .int .i64 X.2.1.1, .int .i64 X.2.1.2.1, .int .i64 X.2.1.2.2, .slice B1 X.2.2.length c1], .agg #[.int .i64 X.1.1, .int .i64 X.1.2.1, .int .i64 X.1.2.2, .int .i64 X.2.1.1, .int .i64 X.2.1.2.1, .int .i64 X.2.1.2.2, .slice B2 X.2.2.length c2]] (by rfl) rfl rfl (by simp only [List.map_toArray, List.map_cons, List.map_nil]; rfl) ?_
    with_reducible refine (same_v X B1 c1 _ (Kd.C_below (Kd.R_reads' Rpv27.out).2.2 (below_drew (Below.refl _ W26))) (Kd.R_reads' Rpv27.out).2.1 true X B2 c2 (Kd.C_below Cqv27.out (below_drew (Below.refl _ W26))) HD2.out (decide_eq_true rfl) (by have := HMX.out; omega)).mono ?_
    rintro e v2 ⟨rfl, hb2⟩
    refine ⟨_, rfl, ?_⟩
    have HQ2 := Aside0.mk (below_step (below_drew (Below.refl _ W26)) hb2)
    clear hb2
    refine hK.out _ _ ⟨pw_cell_below HQ2.out zx28_0, pw_cell_below HQ2.out zx28_1, pw_cell_below HQ2.out zx28_2, pw_cell_below HQ2.out zx28_3, pw_cell_below HQ2.out zx28_4, pw_cell_below HQ2.out zx28_5, pw_cell_below HQ2.out zx28_6, pw_cell_below HQ2.out zc28_0, pw_cell_below HQ2.out zc28_1, pw_cell_below HQ2.out zc28_2, pw_cell_below HQ2.out zc28_3, pw_cell_below HQ2.out zc28_4, pw_cell_below HQ2.out zc28_5, pw_cell_below HQ2.out zc28_6, pw_cell_below HQ2.out zp28_0, pw_cell_below HQ2.out zp28_1, pw_cell_below HQ2.out zp28_2, pw_cell_below HQ2.out zp28_3, pw_cell_below HQ2.out zp28_4, pw_cell_below HQ2.out zp28_5, pw_cell_below HQ2.out zp28_6, pw_cell_below HQ2.out zq28_0, pw_cell_below HQ2.out zq28_1, pw_cell_below HQ2.out zq28_2, pw_cell_below HQ2.out zq28_3, pw_cell_below HQ2.out zq28_4, pw_cell_below HQ2.out zq28_5, pw_cell_below HQ2.out zq28_6, pw_cell_below HQ2.out za28_0, pw_cell_below HQ2.out za28_1, pw_cell_below HQ2.out za28_2, pw_cell_below HQ2.out za28_3, pw_cell_below HQ2.out za28_4, pw_cell_below HQ2.out za28_5, pw_cell_below HQ2.out za28_6, pw_cell_below HQ2.out zd28_0, pw_cell_below HQ2.out zd28_1, pw_cell_below HQ2.out zd28_2, pw_cell_below HQ2.out zd28_3, pw_cell_below HQ2.out zd28_4, pw_cell_below HQ2.out zd28_5, pw_cell_below HQ2.out zd28_6⟩ (fun hHeld => ?_)
    clear hK K
    refine norm_ (a' := ?_) ?_ ?_
    rotate_left
    · show Act.put _ (some 63) _ = _
      simp only [Act.put, List.setIfInBounds_toArray, List.set_cons_zero, List.set_cons_succ, i64_w, i32_w]
      rfl
    refine pure_ (i := 3) (N := some 64) (v := ?_) (a' := ?_) #[true, true, true, true, false, false, false, false, false, false, false, false, false, false, false, false, false, false, false, false, false, false, false, false, false, false, false, false, false] rfl rfl (by kernel_rfl) (fun _ _ _ h => h) (Or.inl ⟨by rfl, ?_⟩) ?_ ?_
    rotate_left
    · intro w'
      go_simp
      with_reducible rfl
    rotate_left
    · simp only [Act.put, List.setIfInBounds_toArray, List.set_cons_zero, List.set_cons_succ, i64_w, i32_w]
      rfl
    refine pure_ (i := 4) (N := some 65) (v := ?_) (a' := ?_) #[true, true, true, true, true, false, false, false, false, false, false, false, false, false, false, false, false, false, false, false, false, false, false, false, false, false, false, false, false] rfl rfl (by kernel_rfl) (fun _ _ _ h => h) (Or.inl ⟨by rfl, ?_⟩) ?_ ?_
    rotate_left
    · intro w'
      go_simp
      with_reducible rfl
    rotate_left
    · simp only [Act.put, List.setIfInBounds_toArray, List.set_cons_zero, List.set_cons_succ, i64_w, i32_w]
      rfl
    refine pure_ (i := 5) (N := some 66) (v := ?_) (a' := ?_) #[true, true, true, true, true, true, false, false, false, false, false, false, false, false, false, false, false, false, false, false, false, false, false, false, false, false, false, false, false] rfl rfl (by kernel_rfl) (fun _ _ _ h => h) (Or.inl ⟨by rfl, ?_⟩) ?_ ?_
    rotate_left
    · intro w'
      go_simp
      with_reducible rfl
    rotate_left
    · simp only [Act.put, List.setIfInBounds_toArray, List.set_cons_zero, List.set_cons_succ, i64_w, i32_w]
      rfl
    refine pure_ (i := 7) (N := some 68) (v := ?_) (a' := ?_) #[true, true, true, true, true, true, false, true, false, false, false, false, false, false, false, false, false, false, false, false, false, false, false, false, false, false, false, false, false] rfl rfl (by kernel_rfl) (fun _ _ _ h => h) (Or.inl ⟨by rfl, ?_⟩) ?_ ?_
    rotate_left
    · intro w'
      go_simp
      with_reducible rfl
    rotate_left
    · simp only [Act.put, List.setIfInBounds_toArray, List.set_cons_zero, List.set_cons_succ, i64_w, i32_w]
      rfl
    refine one_ (i := 6) (N := some 67) #[true, true, true, true, true, true, true, true, false, false, false, false, false, false, false, false, false, false, false, false, false, false, false, false, false, false, false, false, false] rfl rfl (by kernel_rfl) (by decide) (fun K hK => ?_)
    refine goes_ Try.func16 (by kernel_rfl) rfl #[errW pe] (by rfl) rfl rfl (by simp only [List.map_toArray, List.map_cons, List.map_nil]; rfl) ?_
    with_reducible refine (num_v pn pe _ HPE.out HPN.out).mono ?_
    rintro e v6 ⟨rfl, hb6⟩
    refine ⟨_, rfl, ?_⟩
    have HQ6 := Aside0.mk (below_step HQ2.out hb6)
    clear hb6
    refine hK.out _ _ ⟨pw_cell_below HQ6.out zx28_0, pw_cell_below HQ6.out zx28_1, pw_cell_below HQ6.out zx28_2, pw_cell_below HQ6.out zx28_3, pw_cell_below HQ6.out zx28_4, pw_cell_below HQ6.out zx28_5, pw_cell_below HQ6.out zx28_6, pw_cell_below HQ6.out zc28_0, pw_cell_below HQ6.out zc28_1, pw_cell_below HQ6.out zc28_2, pw_cell_below HQ6.out zc28_3, pw_cell_below HQ6.out zc28_4, pw_cell_below HQ6.out zc28_5, pw_cell_below HQ6.out zc28_6, pw_cell_below HQ6.out zp28_0, pw_cell_below HQ6.out zp28_1, pw_cell_below HQ6.out zp28_2, pw_cell_below HQ6.out zp28_3, pw_cell_below HQ6.out zp28_4, pw_cell_below HQ6.out zp28_5, pw_cell_below HQ6.out zp28_6, pw_cell_below HQ6.out zq28_0, pw_cell_below HQ6.out zq28_1, pw_cell_below HQ6.out zq28_2, pw_cell_below HQ6.out zq28_3, pw_cell_below HQ6.out zq28_4, pw_cell_below HQ6.out zq28_5, pw_cell_below HQ6.out zq28_6, pw_cell_below HQ6.out za28_0, pw_cell_below HQ6.out za28_1, pw_cell_below HQ6.out za28_2, pw_cell_below HQ6.out za28_3, pw_cell_below HQ6.out za28_4, pw_cell_below HQ6.out za28_5, pw_cell_below HQ6.out za28_6, pw_cell_below HQ6.out zd28_0, pw_cell_below HQ6.out zd28_1, pw_cell_below HQ6.out zd28_2, pw_cell_below HQ6.out zd28_3, pw_cell_below HQ6.out zd28_4, pw_cell_below HQ6.out zd28_5, pw_cell_below HQ6.out zd28_6⟩ (fun hHeld => ?_)
    clear hK K
    refine norm_ (a' := ?_) ?_ ?_
    rotate_left
    · show Act.put _ (some 67) _ = _
      simp only [Act.put, List.setIfInBounds_toArray, List.set_cons_zero, List.set_cons_succ, i64_w, i32_w]
      rfl
    refine pure_ (i := 8) (N := some 69) (v := ?_) (a' := ?_) #[true, true, true, true, true, true, true, true, true, false, false, false, false, false, false, false, false, false, false, false, false, false, false, false, false, false, false, false, false] rfl rfl (by kernel_rfl) (fun _ _ _ h => h) (Or.inl ⟨by rfl, ?_⟩) ?_ ?_
    rotate_left
    · intro w'
      go_simp
      with_reducible rfl
    rotate_left
    · simp only [Act.put, List.setIfInBounds_toArray, List.set_cons_zero, List.set_cons_succ, i64_w, i32_w]
      rfl
    refine pure_ (i := 9) (N := some 70) (v := ?_) (a' := ?_) #[true, true, true, true, true, true, true, true, true, true, false, false, false, false, false, false, false, false, false, false, false, false, false, false, false, false, false, false, false] rfl rfl (by kernel_rfl) (fun _ _ _ h => h) (Or.inl ⟨by rfl, ?_⟩) ?_ ?_
    rotate_left
    · intro w'
      go_simp
      with_reducible rfl
    rotate_left
    · simp only [Act.put, List.setIfInBounds_toArray, List.set_cons_zero, List.set_cons_succ, i64_w, i32_w]
      rfl
    refine pure_ (i := 10) (N := some 71) (v := ?_) (a' := ?_) #[true, true, true, true, true, true, true, true, true, true, true, false, false, false, false, false, false, false, false, false, false, false, false, false, false, false, false, false, false] rfl rfl (by kernel_rfl) (fun _ _ _ h => h) (Or.inl ⟨by rfl, ?_⟩) ?_ ?_
    rotate_left
    · intro w'
      go_simp
      with_reducible rfl
    rotate_left
    · simp only [Act.put, List.setIfInBounds_toArray, List.set_cons_zero, List.set_cons_succ, i64_w, i32_w]
      rfl
    refine take_ (i := 11) (N := some 72) (v := ?_) (a' := ?_) #[true, true, true, true, true, true, true, true, true, true, true, true, false, false, false, false, false, false, false, false, false, false, false, false, false, false, false, false, false] rfl rfl (by kernel_rfl) (fun _ _ _ h => h) (Or.inl ⟨by rfl, ?_⟩) hHeld ?_ ?_
    rotate_left
    · rintro w' ⟨s0, s1, s2, s3, s4, s5, s6, s7, s8, s9, s10, s11, s12, s13, s14, s15, s16, s17, s18, s19, s20, s21, s22, s23, s24, s25, s26, s27, s28, s29, s30, s31, s32, s33, s34, s35, s36, s37, s38, s39, s40, s41⟩
      go_simp
      with_reducible rfl
    rotate_left
    · simp only [Act.put, List.setIfInBounds_toArray, List.set_cons_zero, List.set_cons_succ, i64_w, i32_w]
      rfl
    refine take_ (i := 12) (N := some 73) (v := ?_) (a' := ?_) #[true, true, true, true, true, true, true, true, true, true, true, true, true, false, false, false, false, false, false, false, false, false, false, false, false, false, false, false, false] rfl rfl (by kernel_rfl) (fun _ _ _ h => h) (Or.inl ⟨by rfl, ?_⟩) hHeld ?_ ?_
    rotate_left
    · rintro w' ⟨s0, s1, s2, s3, s4, s5, s6, s7, s8, s9, s10, s11, s12, s13, s14, s15, s16, s17, s18, s19, s20, s21, s22, s23, s24, s25, s26, s27, s28, s29, s30, s31, s32, s33, s34, s35, s36, s37, s38, s39, s40, s41⟩
      go_simp
      with_reducible rfl
    rotate_left
    · simp only [Act.put, List.setIfInBounds_toArray, List.set_cons_zero, List.set_cons_succ, i64_w, i32_w]
      rfl
    refine one_ (i := 13) (N := some 74) #[true, true, true, true, true, true, true, true, true, true, true, true, true, true, false, false, false, false, false, false, false, false, false, false, false, false, false, false, false] rfl rfl (by kernel_rfl) (by decide) (fun K hK => ?_)
    refine goes_ Try.func15 (by kernel_rfl) rfl #[.agg #[.int .i64 Y.1.1, .int .i64 Y.1.2.1, .int .i64 Y.1.2.2, .int .i64 Y.2.1.1, .int .i64 Y.2.1.2.1, .int .i64 Y.2.1.2.2, .slice B3 Y.2.2.length c3], .agg #[.int .i64 Y.1.1, .int .i64 Y.1.2.1, .int .i64 Y.1.2.2, .int .i64 Y.2.1.1, .int .i64 Y.2.1.2.1, .int .i64 Y.2.1.2.2, .slice B4 Y.2.2.length c4]] (by rfl) rfl rfl (by simp only [List.map_toArray, List.map_cons, List.map_nil]; rfl) ?_
    with_reducible refine (same_v Y B3 c3 _ (Kd.C_below (Kd.R_reads' Rav27.out).2.2 HQ6.out) (Kd.R_reads' Rav27.out).2.1 true Y B4 c4 (Kd.C_below (Kd.R_reads' Rdv27.out).2.2 HQ6.out) (Kd.R_reads' Rdv27.out).2.1 (decide_eq_true rfl) (by have := HMY.out; omega)).mono ?_
    rintro e v13 ⟨rfl, hb13⟩
    refine ⟨_, rfl, ?_⟩
    have HQ13 := Aside0.mk (below_step HQ6.out hb13)
    clear hb13
    refine hK.out _ _ ⟨pw_cell_below HQ13.out zx28_0, pw_cell_below HQ13.out zx28_1, pw_cell_below HQ13.out zx28_2, pw_cell_below HQ13.out zx28_3, pw_cell_below HQ13.out zx28_4, pw_cell_below HQ13.out zx28_5, pw_cell_below HQ13.out zx28_6, pw_cell_below HQ13.out zc28_0, pw_cell_below HQ13.out zc28_1, pw_cell_below HQ13.out zc28_2, pw_cell_below HQ13.out zc28_3, pw_cell_below HQ13.out zc28_4, pw_cell_below HQ13.out zc28_5, pw_cell_below HQ13.out zc28_6, pw_cell_below HQ13.out zp28_0, pw_cell_below HQ13.out zp28_1, pw_cell_below HQ13.out zp28_2, pw_cell_below HQ13.out zp28_3, pw_cell_below HQ13.out zp28_4, pw_cell_below HQ13.out zp28_5, pw_cell_below HQ13.out zp28_6, pw_cell_below HQ13.out zq28_0, pw_cell_below HQ13.out zq28_1, pw_cell_below HQ13.out zq28_2, pw_cell_below HQ13.out zq28_3, pw_cell_below HQ13.out zq28_4, pw_cell_below HQ13.out zq28_5, pw_cell_below HQ13.out zq28_6, pw_cell_below HQ13.out za28_0, pw_cell_below HQ13.out za28_1, pw_cell_below HQ13.out za28_2, pw_cell_below HQ13.out za28_3, pw_cell_below HQ13.out za28_4, pw_cell_below HQ13.out za28_5, pw_cell_below HQ13.out za28_6, pw_cell_below HQ13.out zd28_0, pw_cell_below HQ13.out zd28_1, pw_cell_below HQ13.out zd28_2, pw_cell_below HQ13.out zd28_3, pw_cell_below HQ13.out zd28_4, pw_cell_below HQ13.out zd28_5, pw_cell_below HQ13.out zd28_6⟩ (fun hHeld => ?_)
    clear hK K
    refine norm_ (a' := ?_) ?_ ?_
    rotate_left
    · show Act.put _ (some 74) _ = _
      simp only [Act.put, List.setIfInBounds_toArray, List.set_cons_zero, List.set_cons_succ, i64_w, i32_w]
      rfl
    refine pure_ (i := 14) (N := some 75) (v := ?_) (a' := ?_) #[true, true, true, true, true, true, true, true, true, true, true, true, true, true, true, false, false, false, false, false, false, false, false, false, false, false, false, false, false] rfl rfl (by kernel_rfl) (fun _ _ _ h => h) (Or.inl ⟨by rfl, ?_⟩) ?_ ?_
    rotate_left
    · intro w'
      go_simp
      with_reducible rfl
    rotate_left
    · simp only [Act.put, List.setIfInBounds_toArray, List.set_cons_zero, List.set_cons_succ, i64_w, i32_w]
      rfl
    refine pure_ (i := 15) (N := some 76) (v := ?_) (a' := ?_) #[true, true, true, true, true, true, true, true, true, true, true, true, true, true, true, true, false, false, false, false, false, false, false, false, false, false, false, false, false] rfl rfl (by kernel_rfl) (fun _ _ _ h => h) (Or.inl ⟨by rfl, ?_⟩) ?_ ?_
    rotate_left
    · intro w'
      go_simp
      with_reducible rfl
    rotate_left
    · simp only [Act.put, List.setIfInBounds_toArray, List.set_cons_zero, List.set_cons_succ, i64_w, i32_w]
      rfl
    refine pure_ (i := 16) (N := some 77) (v := ?_) (a' := ?_) #[true, true, true, true, true, true, true, true, true, true, true, true, true, true, true, true, true, false, false, false, false, false, false, false, false, false, false, false, false] rfl rfl (by kernel_rfl) (fun _ _ _ h => h) (Or.inl ⟨by rfl, ?_⟩) ?_ ?_
    rotate_left
    · intro w'
      go_simp
      with_reducible rfl
    rotate_left
    · simp only [Act.put, List.setIfInBounds_toArray, List.set_cons_zero, List.set_cons_succ, i64_w, i32_w]
      rfl
    refine pure_ (i := 17) (N := some 78) (v := ?_) (a' := ?_) #[true, true, true, true, true, true, true, true, true, true, true, true, true, true, true, true, true, true, false, false, false, false, false, false, false, false, false, false, false] rfl rfl (by kernel_rfl) (fun _ _ _ h => h) (Or.inl ⟨by rfl, ?_⟩) ?_ ?_
    rotate_left
    · intro w'
      go_simp
      with_reducible rfl
    rotate_left
    · simp only [Act.put, List.setIfInBounds_toArray, List.set_cons_zero, List.set_cons_succ, i64_w, i32_w]
      rfl
    refine pure_ (i := 19) (N := some 80) (v := ?_) (a' := ?_) #[true, true, true, true, true, true, true, true, true, true, true, true, true, true, true, true, true, true, false, true, false, false, false, false, false, false, false, false, false] rfl rfl (by kernel_rfl) (fun _ _ _ h => h) (Or.inl ⟨by rfl, ?_⟩) ?_ ?_
    rotate_left
    · intro w'
      go_simp
      with_reducible rfl
    rotate_left
    · simp only [Act.put, List.setIfInBounds_toArray, List.set_cons_zero, List.set_cons_succ, i64_w, i32_w]
      rfl
    refine one_ (i := 18) (N := some 79) #[true, true, true, true, true, true, true, true, true, true, true, true, true, true, true, true, true, true, true, true, false, false, false, false, false, false, false, false, false] rfl rfl (by kernel_rfl) (by decide) (fun K hK => ?_)
    refine goes_ Try.func16 (by kernel_rfl) rfl #[errW ae] (by rfl) rfl rfl (by simp only [List.map_toArray, List.map_cons, List.map_nil]; rfl) ?_
    with_reducible refine (num_v an ae _ HAE.out HAN.out).mono ?_
    rintro e v18 ⟨rfl, hb18⟩
    refine ⟨_, rfl, ?_⟩
    have HQ18 := Aside0.mk (below_step HQ13.out hb18)
    clear hb18
    refine hK.out _ _ ⟨pw_cell_below HQ18.out zx28_0, pw_cell_below HQ18.out zx28_1, pw_cell_below HQ18.out zx28_2, pw_cell_below HQ18.out zx28_3, pw_cell_below HQ18.out zx28_4, pw_cell_below HQ18.out zx28_5, pw_cell_below HQ18.out zx28_6, pw_cell_below HQ18.out zc28_0, pw_cell_below HQ18.out zc28_1, pw_cell_below HQ18.out zc28_2, pw_cell_below HQ18.out zc28_3, pw_cell_below HQ18.out zc28_4, pw_cell_below HQ18.out zc28_5, pw_cell_below HQ18.out zc28_6, pw_cell_below HQ18.out zp28_0, pw_cell_below HQ18.out zp28_1, pw_cell_below HQ18.out zp28_2, pw_cell_below HQ18.out zp28_3, pw_cell_below HQ18.out zp28_4, pw_cell_below HQ18.out zp28_5, pw_cell_below HQ18.out zp28_6, pw_cell_below HQ18.out zq28_0, pw_cell_below HQ18.out zq28_1, pw_cell_below HQ18.out zq28_2, pw_cell_below HQ18.out zq28_3, pw_cell_below HQ18.out zq28_4, pw_cell_below HQ18.out zq28_5, pw_cell_below HQ18.out zq28_6, pw_cell_below HQ18.out za28_0, pw_cell_below HQ18.out za28_1, pw_cell_below HQ18.out za28_2, pw_cell_below HQ18.out za28_3, pw_cell_below HQ18.out za28_4, pw_cell_below HQ18.out za28_5, pw_cell_below HQ18.out za28_6, pw_cell_below HQ18.out zd28_0, pw_cell_below HQ18.out zd28_1, pw_cell_below HQ18.out zd28_2, pw_cell_below HQ18.out zd28_3, pw_cell_below HQ18.out zd28_4, pw_cell_below HQ18.out zd28_5, pw_cell_below HQ18.out zd28_6⟩ (fun hHeld => ?_)
    clear hK K
    refine norm_ (a' := ?_) ?_ ?_
    rotate_left
    · show Act.put _ (some 79) _ = _
      simp only [Act.put, List.setIfInBounds_toArray, List.set_cons_zero, List.set_cons_succ, i64_w, i32_w]
      rfl
    refine pure_ (i := 20) (N := some 81) (v := ?_) (a' := ?_) #[true, true, true, true, true, true, true, true, true, true, true, true, true, true, true, true, true, true, true, true, true, false, false, false, false, false, false, false, false] rfl rfl (by kernel_rfl) (fun _ _ _ h => h) (Or.inl ⟨by rfl, ?_⟩) ?_ ?_
    rotate_left
    · intro w'
      go_simp
      with_reducible rfl
    rotate_left
    · simp only [Act.put, List.setIfInBounds_toArray, List.set_cons_zero, List.set_cons_succ, i64_w, i32_w]
      rfl
    refine pure_ (i := 21) (N := some 82) (v := ?_) (a' := ?_) #[true, true, true, true, true, true, true, true, true, true, true, true, true, true, true, true, true, true, true, true, true, true, false, false, false, false, false, false, false] rfl rfl (by kernel_rfl) (fun _ _ _ h => h) (Or.inl ⟨by rfl, ?_⟩) ?_ ?_
    rotate_left
    · intro w'
      go_simp
      with_reducible rfl
    rotate_left
    · simp only [Act.put, List.setIfInBounds_toArray, List.set_cons_zero, List.set_cons_succ, i64_w, i32_w]
      rfl
    refine pure_ (i := 22) (N := some 83) (v := ?_) (a' := ?_) #[true, true, true, true, true, true, true, true, true, true, true, true, true, true, true, true, true, true, true, true, true, true, true, false, false, false, false, false, false] rfl rfl (by kernel_rfl) (fun _ _ _ h => h) (Or.inl ⟨by rfl, ?_⟩) ?_ ?_
    rotate_left
    · intro w'
      go_simp
      with_reducible rfl
    rotate_left
    · simp only [Act.put, List.setIfInBounds_toArray, List.set_cons_zero, List.set_cons_succ, i64_w, i32_w]
      rfl
    refine take_ (i := 23) (N := some 84) (v := ?_) (a' := ?_) #[true, true, true, true, true, true, true, true, true, true, true, true, true, true, true, true, true, true, true, true, true, true, true, true, false, false, false, false, false] rfl rfl (by kernel_rfl) (fun _ _ _ h => h) (Or.inl ⟨by rfl, ?_⟩) hHeld ?_ ?_
    rotate_left
    · rintro w' ⟨s0, s1, s2, s3, s4, s5, s6, s7, s8, s9, s10, s11, s12, s13, s14, s15, s16, s17, s18, s19, s20, s21, s22, s23, s24, s25, s26, s27, s28, s29, s30, s31, s32, s33, s34, s35, s36, s37, s38, s39, s40, s41⟩
      go_simp
      with_reducible rfl
    rotate_left
    · simp only [Act.put, List.setIfInBounds_toArray, List.set_cons_zero, List.set_cons_succ, i64_w, i32_w]
      rfl
    refine take_ (i := 25) (N := some 86) (v := ?_) (a' := ?_) #[true, true, true, true, true, true, true, true, true, true, true, true, true, true, true, true, true, true, true, true, true, true, true, true, false, true, false, false, false] rfl rfl (by kernel_rfl) (fun _ _ _ h => h) (Or.inl ⟨by rfl, ?_⟩) hHeld ?_ ?_
    rotate_left
    · rintro w' ⟨s0, s1, s2, s3, s4, s5, s6, s7, s8, s9, s10, s11, s12, s13, s14, s15, s16, s17, s18, s19, s20, s21, s22, s23, s24, s25, s26, s27, s28, s29, s30, s31, s32, s33, s34, s35, s36, s37, s38, s39, s40, s41⟩
      go_simp
      with_reducible rfl
    rotate_left
    · simp only [Act.put, List.setIfInBounds_toArray, List.set_cons_zero, List.set_cons_succ, i64_w, i32_w]
      rfl
    refine one_ (i := 24) (N := some 85) #[true, true, true, true, true, true, true, true, true, true, true, true, true, true, true, true, true, true, true, true, true, true, true, true, true, true, false, false, false] rfl rfl (by kernel_rfl) (by decide) (fun K hK => ?_)
    refine goes_ Try.func17 (by kernel_rfl) rfl #[.agg #[.int .i64 r.1.1, .int .i64 r.1.2.1, .int .i64 r.1.2.2, .int .i64 r.2.1.1, .int .i64 r.2.1.2.1, .int .i64 r.2.1.2.2, .slice B r.2.2.length b']] (by rfl) rfl rfl (by simp only [List.map_toArray, List.map_cons, List.map_nil]; rfl) ?_
    with_reducible refine (CG.out B b' _ (Kd.C_below (MarkC.C CM27.out) HQ18.out) HMP.out.cap).mono ?_
    rintro e v24 ⟨rfl, hb24⟩
    refine ⟨_, rfl, ?_⟩
    have HQ24 := Aside0.mk (below_step HQ18.out hb24)
    clear hb24
    refine hK.out _ _ ⟨pw_cell_below HQ24.out zx28_0, pw_cell_below HQ24.out zx28_1, pw_cell_below HQ24.out zx28_2, pw_cell_below HQ24.out zx28_3, pw_cell_below HQ24.out zx28_4, pw_cell_below HQ24.out zx28_5, pw_cell_below HQ24.out zx28_6, pw_cell_below HQ24.out zc28_0, pw_cell_below HQ24.out zc28_1, pw_cell_below HQ24.out zc28_2, pw_cell_below HQ24.out zc28_3, pw_cell_below HQ24.out zc28_4, pw_cell_below HQ24.out zc28_5, pw_cell_below HQ24.out zc28_6, pw_cell_below HQ24.out zp28_0, pw_cell_below HQ24.out zp28_1, pw_cell_below HQ24.out zp28_2, pw_cell_below HQ24.out zp28_3, pw_cell_below HQ24.out zp28_4, pw_cell_below HQ24.out zp28_5, pw_cell_below HQ24.out zp28_6, pw_cell_below HQ24.out zq28_0, pw_cell_below HQ24.out zq28_1, pw_cell_below HQ24.out zq28_2, pw_cell_below HQ24.out zq28_3, pw_cell_below HQ24.out zq28_4, pw_cell_below HQ24.out zq28_5, pw_cell_below HQ24.out zq28_6, pw_cell_below HQ24.out za28_0, pw_cell_below HQ24.out za28_1, pw_cell_below HQ24.out za28_2, pw_cell_below HQ24.out za28_3, pw_cell_below HQ24.out za28_4, pw_cell_below HQ24.out za28_5, pw_cell_below HQ24.out za28_6, pw_cell_below HQ24.out zd28_0, pw_cell_below HQ24.out zd28_1, pw_cell_below HQ24.out zd28_2, pw_cell_below HQ24.out zd28_3, pw_cell_below HQ24.out zd28_4, pw_cell_below HQ24.out zd28_5, pw_cell_below HQ24.out zd28_6⟩ (fun hHeld => ?_)
    clear hK K
    refine norm_ (a' := ?_) ?_ ?_
    rotate_left
    · show Act.put _ (some 85) _ = _
      simp only [Act.put, List.setIfInBounds_toArray, List.set_cons_zero, List.set_cons_succ, i64_w, i32_w]
      rfl
    refine one_ (i := 26) (N := some 87) #[true, true, true, true, true, true, true, true, true, true, true, true, true, true, true, true, true, true, true, true, true, true, true, true, true, true, true, false, false] rfl rfl (by kernel_rfl) (by decide) (fun K hK => ?_)
    refine goes_ Try.func18 (by kernel_rfl) rfl #[.agg #[.int .i64 r.1.1, .int .i64 r.1.2.1, .int .i64 r.1.2.2, .int .i64 r.2.1.1, .int .i64 r.2.1.2.1, .int .i64 r.2.1.2.2, .slice A r.2.2.length c]] (by rfl) rfl rfl (by simp only [List.map_toArray, List.map_cons, List.map_nil]; rfl) ?_
    with_reducible refine (CH.out A c _ (Kd.C_below Cv27.out HQ24.out) HC.out).mono ?_
    rintro e v26 ⟨rfl, hb26⟩
    refine ⟨_, rfl, ?_⟩
    have HQ26 := Aside0.mk (below_step HQ24.out hb26)
    clear hb26
    refine hK.out _ _ ⟨pw_cell_below HQ26.out zx28_0, pw_cell_below HQ26.out zx28_1, pw_cell_below HQ26.out zx28_2, pw_cell_below HQ26.out zx28_3, pw_cell_below HQ26.out zx28_4, pw_cell_below HQ26.out zx28_5, pw_cell_below HQ26.out zx28_6, pw_cell_below HQ26.out zc28_0, pw_cell_below HQ26.out zc28_1, pw_cell_below HQ26.out zc28_2, pw_cell_below HQ26.out zc28_3, pw_cell_below HQ26.out zc28_4, pw_cell_below HQ26.out zc28_5, pw_cell_below HQ26.out zc28_6, pw_cell_below HQ26.out zp28_0, pw_cell_below HQ26.out zp28_1, pw_cell_below HQ26.out zp28_2, pw_cell_below HQ26.out zp28_3, pw_cell_below HQ26.out zp28_4, pw_cell_below HQ26.out zp28_5, pw_cell_below HQ26.out zp28_6, pw_cell_below HQ26.out zq28_0, pw_cell_below HQ26.out zq28_1, pw_cell_below HQ26.out zq28_2, pw_cell_below HQ26.out zq28_3, pw_cell_below HQ26.out zq28_4, pw_cell_below HQ26.out zq28_5, pw_cell_below HQ26.out zq28_6, pw_cell_below HQ26.out za28_0, pw_cell_below HQ26.out za28_1, pw_cell_below HQ26.out za28_2, pw_cell_below HQ26.out za28_3, pw_cell_below HQ26.out za28_4, pw_cell_below HQ26.out za28_5, pw_cell_below HQ26.out za28_6, pw_cell_below HQ26.out zd28_0, pw_cell_below HQ26.out zd28_1, pw_cell_below HQ26.out zd28_2, pw_cell_below HQ26.out zd28_3, pw_cell_below HQ26.out zd28_4, pw_cell_below HQ26.out zd28_5, pw_cell_below HQ26.out zd28_6⟩ (fun hHeld => ?_)
    clear hK K
    refine norm_ (a' := ?_) ?_ ?_
    rotate_left
    · show Act.put _ (some 87) _ = _
      simp only [Act.put, List.setIfInBounds_toArray, List.set_cons_zero, List.set_cons_succ, i64_w, i32_w]
      rfl
    refine pure_ (i := 27) (N := some 88) (v := ?_) (a' := ?_) #[true, true, true, true, true, true, true, true, true, true, true, true, true, true, true, true, true, true, true, true, true, true, true, true, true, true, true, true, false] rfl rfl (by kernel_rfl) (fun _ _ _ h => h) (Or.inl ⟨by rfl, ?_⟩) ?_ ?_
    rotate_left
    · intro w'
      go_simp
      with_reducible rfl
    rotate_left
    · simp only [Act.put, List.setIfInBounds_toArray, List.set_cons_zero, List.set_cons_succ, i64_w, i32_w]
      rfl
    refine pure_ (i := 28) (N := some 89) (v := ?_) (a' := ?_) #[true, true, true, true, true, true, true, true, true, true, true, true, true, true, true, true, true, true, true, true, true, true, true, true, true, true, true, true, true] rfl rfl (by kernel_rfl) (fun _ _ _ h => h) (Or.inl ⟨by rfl, ?_⟩) ?_ ?_
    rotate_left
    · intro w'
      go_simp
      with_reducible rfl
    rotate_left
    · simp only [Act.put, List.setIfInBounds_toArray, List.set_cons_zero, List.set_cons_succ, i64_w, i32_w]
      rfl
    refine done_ (by kernel_rfl) ?_
    have hbe := HQ26.out
    clear zx28_0 zx28_1 zx28_2 zx28_3 zx28_4 zx28_5 zx28_6 zc28_0 zc28_1 zc28_2 zc28_3 zc28_4 zc28_5 zc28_6 zp28_0 zp28_1 zp28_2 zp28_3 zp28_4 zp28_5 zp28_6 zq28_0 zq28_1 zq28_2 zq28_3 zq28_4 zq28_5 zq28_6 za28_0 za28_1 za28_2 za28_3 za28_4 za28_5 za28_6 zd28_0 zd28_1 zd28_2 zd28_3 zd28_4 zd28_5 zd28_6 e1 e2 e3
    have HB29 := Aside0.mk (below_step HB27.out hbe)
    have Bx29 : Aside0 (v26.heap[gx1]? = some (.cells #[.int .i64 r.1.1, .int .i64 r.1.2.1, .int .i64 r.1.2.2, .int .i64 r.2.1.1, .int .i64 r.2.1.2.1, .int .i64 r.2.1.2.2, .slice A r.2.2.length c] 26 (0, 0))) := ⟨(hbe.block _ (blk_lt Bx27.out)).trans Bx27.out⟩
    have By29 : Aside0 (v26.heap[gy1]? = some (.cells #[.int .i64 b.1, .int .i64 b.2.1, .int .i64 b.2.2] 23 (0, 0))) := ⟨(hbe.block _ (blk_lt By27.out)).trans By27.out⟩
    have Bc29 : Aside0 (v26.heap[gc9]? = some (.cells #[.int .i64 r.1.1, .int .i64 r.1.2.1, .int .i64 r.1.2.2, .int .i64 r.2.1.1, .int .i64 r.2.1.2.1, .int .i64 r.2.1.2.2, .slice B r.2.2.length b'] 26 (0, 0))) := ⟨(hbe.block _ (blk_lt Bc27.out)).trans Bc27.out⟩
    have Bp29 : Aside0 (v26.heap[gp14]? = some (.cells #[.int .i64 X.1.1, .int .i64 X.1.2.1, .int .i64 X.1.2.2, .int .i64 X.2.1.1, .int .i64 X.2.1.2.1, .int .i64 X.2.1.2.2, .slice B1 X.2.2.length c1] 26 (0, 0))) := ⟨(hbe.block _ (blk_lt Bp27.out)).trans Bp27.out⟩
    have Bq29 : Aside0 (v26.heap[gq18]? = some (.cells #[.int .i64 X.1.1, .int .i64 X.1.2.1, .int .i64 X.1.2.2, .int .i64 X.2.1.1, .int .i64 X.2.1.2.1, .int .i64 X.2.1.2.2, .slice B2 X.2.2.length c2] 26 (0, 0))) := ⟨(hbe.block _ (blk_lt Bq27.out)).trans Bq27.out⟩
    have Ba29 : Aside0 (v26.heap[ga22]? = some (.cells #[.int .i64 Y.1.1, .int .i64 Y.1.2.1, .int .i64 Y.1.2.2, .int .i64 Y.2.1.1, .int .i64 Y.2.1.2.1, .int .i64 Y.2.1.2.2, .slice B3 Y.2.2.length c3] 26 (0, 0))) := ⟨(hbe.block _ (blk_lt Ba27.out)).trans Ba27.out⟩
    have Bd29 : Aside0 (v26.heap[gd26]? = some (.cells #[.int .i64 Y.1.1, .int .i64 Y.1.2.1, .int .i64 Y.1.2.2, .int .i64 Y.2.1.1, .int .i64 Y.2.1.2.1, .int .i64 Y.2.1.2.2, .slice B4 Y.2.2.length c4] 26 (0, 0))) := ⟨(hbe.block _ (blk_lt Bd26.out)).trans Bd26.out⟩
    have Cv29 := Aside0.mk (Kd.C_below Cv27.out hbe)
    have CV29 := Aside0.mk (Kd.C_below CV27.out hbe)
    have CM29 := Aside0.mk (MarkC.below CM27.out hbe)
    have CBP29 := Aside0.mk (below_step CBP27.out hbe)
    have Cqv29 := Aside0.mk (Kd.C_below Cqv27.out hbe)
    have Rt829 := Aside0.mk (Kd.R_below Rt827.out hbe)
    have Rpv29 := Aside0.mk (Kd.R_below Rpv27.out hbe)
    have Rav29 := Aside0.mk (Kd.R_below Rav27.out hbe)
    have Rdv29 := Aside0.mk (Kd.R_below Rdv27.out hbe)
    clear hbe
    have zp30_0 : v26.cell? ⟨gp14, 0, none⟩ = some (.int .i64 X.1.1) := (blk_cell Bp29.out 0).trans rfl
    have zp30_1 : v26.cell? ⟨gp14, 1, none⟩ = some (.int .i64 X.1.2.1) := (blk_cell Bp29.out 1).trans rfl
    have zp30_2 : v26.cell? ⟨gp14, 2, none⟩ = some (.int .i64 X.1.2.2) := (blk_cell Bp29.out 2).trans rfl
    have zp30_3 : v26.cell? ⟨gp14, 3, none⟩ = some (.int .i64 X.2.1.1) := (blk_cell Bp29.out 3).trans rfl
    have zp30_4 : v26.cell? ⟨gp14, 4, none⟩ = some (.int .i64 X.2.1.2.1) := (blk_cell Bp29.out 4).trans rfl
    have zp30_5 : v26.cell? ⟨gp14, 5, none⟩ = some (.int .i64 X.2.1.2.2) := (blk_cell Bp29.out 5).trans rfl
    have zp30_6 : v26.cell? ⟨gp14, 6, none⟩ = some (.slice B1 X.2.2.length c1) := (blk_cell Bp29.out 6).trans rfl
    go_wp2_with fail
    clear zp30_0 zp30_1 zp30_2 zp30_3 zp30_4 zp30_5 zp30_6
    go_loopw [93] (fun v93 w' => ∃ (i : Nat) (ys : List Int), i ≤ X.2.2.length ∧ v93 = .int .i64 i ∧ Aside0 ((Kd.int .i64).R 3 w' W9.heap.size (fun _ => True) (.slice B1 X.2.2.length c1) ys) ∧ Aside0 (w'.heap[gp14]? = some (.cells #[.int .i64 X.1.1, .int .i64 X.1.2.1, .int .i64 X.1.2.2, .int .i64 X.2.1.1, .int .i64 X.2.1.2.1, .int .i64 X.2.1.2.2, .slice B1 X.2.2.length c1] 26 (0, 0))) ∧ Aside0 ((Kd.int .i64).R 3 w' W18.heap.size (fun _ => True) (.slice B3 Y.2.2.length c3) Y.2.2) ∧ Aside0 (w'.heap[ga22]? = some (.cells #[.int .i64 Y.1.1, .int .i64 Y.1.2.1, .int .i64 Y.1.2.2, .int .i64 Y.2.1.1, .int .i64 Y.2.1.2.1, .int .i64 Y.2.1.2.2, .slice B3 Y.2.2.length c3] 26 (0, 0))) ∧ Aside0 (Below W9.heap.size W9 w') ∧ Aside0 (Below W.heap.size W w')) (fun v' _ => X.2.2.length - (intOf v').toNat)
    case atStart => exact ⟨0, X.2.2, by omega, rfl, Rpv29, Bp29, Rav29, Ba29, CBP29, HB29⟩
    case round =>
      obtain ⟨i, ys, hi, rfl, HR, HKP, HRA, HKA, HP, HW⟩ := hrel
      by_cases hlt6 : i < X.2.2.length
      case pos =>
        have hcb := HMX.out
        obtain ⟨bb, hbb, hge, hbl, hob⟩ := row_bi HR.out (by omega)
        subst hbb
        obtain ⟨hc0, hf0⟩ := Kd.R_celln 0 HR.out (i : Int) (by omega) (by omega)
        rw [Int.toNat_natCast] at hc0 hf0
        obtain ⟨x0, hx0⟩ : ∃ x, rdOf 0 ys (i : Int) = x := ⟨_, rfl⟩
        rw [hx0] at hc0
        clear hx0
        have HBB := Aside0.mk (And.intro hge (And.intro hbl hob))
        clear hge hbl hob
        have d6 : decide ((i : Int) < (X.2.2.length : Int)) = true := decide_eq_true (by omega)
        have zc1 : wr.cell? ⟨gp14, 6, none⟩ = some (.slice (some ⟨bb, 0, none⟩) X.2.2.length c1) := (blk_cell HKP.out 6).trans rfl
        go_wp2_with fail
        go_roundw
        case rel => exact ⟨i + 1, ys.set i (-1), by omega, by go_num, ⟨Kd.R_putn HR.out (i : Int) (-1)⟩, ⟨blk_grown HKP.out (Kd.R_putg HR.out (i : Int) (-1)).2 (by rw [← HBB.out.2.2]; exact Kd.R_ne HR.out HKP.out (by decide))⟩, ⟨R_older HRA.out (Kd.R_putg HR.out (i : Int) (-1)).2 (HOLD.out _ HBB.out.2.2)⟩, ⟨blk_grown HKA.out (Kd.R_putg HR.out (i : Int) (-1)).2 (by rw [← HBB.out.2.2]; exact Kd.R_ne HR.out HKA.out (by decide))⟩, ⟨below_set HP.out HBB.out.1⟩, ⟨below_set HW.out (Nat.le_trans HPW.out.size HBB.out.1)⟩⟩
        case measure => simp [intOf]; omega
      have d6 : decide ((i : Int) < (X.2.2.length : Int)) = false := decide_eq_false (by omega)
      have zc1 : wr.cell? ⟨ga22, 6, none⟩ = some (.slice B3 Y.2.2.length c3) := (blk_cell HKA.out 6).trans rfl
      go_wp2_with fail
      clear d6 zc1 hlt6 hi HR HKP
      go_loopw [104] (fun v104 w' => ∃ (i : Nat) (ys : List Int), i ≤ Y.2.2.length ∧ v104 = .int .i64 i ∧ Aside0 ((Kd.int .i64).R 3 w' W18.heap.size (fun _ => True) (.slice B3 Y.2.2.length c3) ys) ∧ Aside0 (w'.heap[ga22]? = some (.cells #[.int .i64 Y.1.1, .int .i64 Y.1.2.1, .int .i64 Y.1.2.2, .int .i64 Y.2.1.1, .int .i64 Y.2.1.2.1, .int .i64 Y.2.1.2.2, .slice B3 Y.2.2.length c3] 26 (0, 0))) ∧ Aside0 (Below W9.heap.size W9 w') ∧ Aside0 (Below W.heap.size W w')) (fun v' _ => Y.2.2.length - (intOf v').toNat)
      case atStart => exact ⟨0, Y.2.2, by omega, rfl, HRA, HKA, HP, HW⟩
      case round =>
        clear HRA HKA HP HW
        obtain ⟨i, ys, hi, rfl, HR, HKP, HP, HW⟩ := hrel
        by_cases hlt6 : i < Y.2.2.length
        case pos =>
          have hcb := HMY.out
          obtain ⟨bb, hbb, hge, hbl, hob⟩ := row_bi HR.out (by omega)
          subst hbb
          obtain ⟨hc0, hf0⟩ := Kd.R_celln 0 HR.out (i : Int) (by omega) (by omega)
          rw [Int.toNat_natCast] at hc0 hf0
          obtain ⟨x0, hx0⟩ : ∃ x, rdOf 0 ys (i : Int) = x := ⟨_, rfl⟩
          rw [hx0] at hc0
          clear hx0
          have HBB := Aside0.mk (And.intro hge (And.intro hbl hob))
          clear hge hbl hob
          have d6 : decide ((i : Int) < (Y.2.2.length : Int)) = true := decide_eq_true (by omega)
          have zc1 : wr.cell? ⟨ga22, 6, none⟩ = some (.slice (some ⟨bb, 0, none⟩) Y.2.2.length c3) := (blk_cell HKP.out 6).trans rfl
          go_wp2_with fail
          go_roundw
          case rel => exact ⟨i + 1, ys.set i (-1), by omega, by go_num, ⟨Kd.R_putn HR.out (i : Int) (-1)⟩, ⟨blk_grown HKP.out (Kd.R_putg HR.out (i : Int) (-1)).2 (by rw [← HBB.out.2.2]; exact Kd.R_ne HR.out HKP.out (by decide))⟩, ⟨below_set HP.out (Nat.le_trans HSA.out HBB.out.1)⟩, ⟨below_set HW.out (Nat.le_trans HPW.out.size (Nat.le_trans HSA.out HBB.out.1))⟩⟩
          case measure => simp [intOf]; omega
        have d6 : decide ((i : Int) < (Y.2.2.length : Int)) = false := decide_eq_false (by omega)
        have HX9 : Aside0 (wr.heap[gx1]? = some (.cells #[.int .i64 r.1.1, .int .i64 r.1.2.1, .int .i64 r.1.2.2, .int .i64 r.2.1.1, .int .i64 r.2.1.2.1, .int .i64 r.2.1.2.2, .slice A r.2.2.length c] 26 (0, 0))) := ⟨blk_below HXP.out HP.out⟩
        have HC9 : Aside0 (wr.heap[gc9]? = some (.cells #[.int .i64 r.1.1, .int .i64 r.1.2.1, .int .i64 r.1.2.2, .int .i64 r.2.1.1, .int .i64 r.2.1.2.1, .int .i64 r.2.1.2.2, .slice B r.2.2.length b'] 26 (0, 0))) := ⟨blk_below HCP.out HP.out⟩
        have zx601_0 : wr.cell? ⟨gx1, 0, none⟩ = some (.int .i64 r.1.1) := (blk_cell HX9.out 0).trans rfl
        have zx601_1 : wr.cell? ⟨gx1, 1, none⟩ = some (.int .i64 r.1.2.1) := (blk_cell HX9.out 1).trans rfl
        have zx601_2 : wr.cell? ⟨gx1, 2, none⟩ = some (.int .i64 r.1.2.2) := (blk_cell HX9.out 2).trans rfl
        have zx601_3 : wr.cell? ⟨gx1, 3, none⟩ = some (.int .i64 r.2.1.1) := (blk_cell HX9.out 3).trans rfl
        have zx601_4 : wr.cell? ⟨gx1, 4, none⟩ = some (.int .i64 r.2.1.2.1) := (blk_cell HX9.out 4).trans rfl
        have zx601_5 : wr.cell? ⟨gx1, 5, none⟩ = some (.int .i64 r.2.1.2.2) := (blk_cell HX9.out 5).trans rfl
        have zx601_6 : wr.cell? ⟨gx1, 6, none⟩ = some (.slice A r.2.2.length c) := (blk_cell HX9.out 6).trans rfl
        have zc601_0 : wr.cell? ⟨gc9, 0, none⟩ = some (.int .i64 r.1.1) := (blk_cell HC9.out 0).trans rfl
        have zc601_1 : wr.cell? ⟨gc9, 1, none⟩ = some (.int .i64 r.1.2.1) := (blk_cell HC9.out 1).trans rfl
        have zc601_2 : wr.cell? ⟨gc9, 2, none⟩ = some (.int .i64 r.1.2.2) := (blk_cell HC9.out 2).trans rfl
        have zc601_3 : wr.cell? ⟨gc9, 3, none⟩ = some (.int .i64 r.2.1.1) := (blk_cell HC9.out 3).trans rfl
        have zc601_4 : wr.cell? ⟨gc9, 4, none⟩ = some (.int .i64 r.2.1.2.1) := (blk_cell HC9.out 4).trans rfl
        have zc601_5 : wr.cell? ⟨gc9, 5, none⟩ = some (.int .i64 r.2.1.2.2) := (blk_cell HC9.out 5).trans rfl
        have zc601_6 : wr.cell? ⟨gc9, 6, none⟩ = some (.slice B r.2.2.length b') := (blk_cell HC9.out 6).trans rfl
        go_wp2_with fail
        refine (kept_any r B b' A c _ (HMP.out.below HP.out) (Kd.C_below HAP.out HP.out) HC.out (by omega)).mono ?_
        rintro e wk ⟨rfl, hbk⟩
        have HPK := Aside0.mk (below_step HP.out hbk)
        clear zx601_0 zx601_1 zx601_2 zx601_3 zx601_4 zx601_5 zx601_6 zc601_0 zc601_1 zc601_2 zc601_3 zc601_4 zc601_5 zc601_6
        have HB602 := Aside0.mk (below_step HW.out hbk)
        have Bx602 : Aside0 (wk.heap[gx1]? = some (.cells #[.int .i64 r.1.1, .int .i64 r.1.2.1, .int .i64 r.1.2.2, .int .i64 r.2.1.1, .int .i64 r.2.1.2.1, .int .i64 r.2.1.2.2, .slice A r.2.2.length c] 26 (0, 0))) := ⟨(hbk.block _ (blk_lt HX9.out)).trans HX9.out⟩
        have Bc602 : Aside0 (wk.heap[gc9]? = some (.cells #[.int .i64 r.1.1, .int .i64 r.1.2.1, .int .i64 r.1.2.2, .int .i64 r.2.1.1, .int .i64 r.2.1.2.1, .int .i64 r.2.1.2.2, .slice B r.2.2.length b'] 26 (0, 0))) := ⟨(hbk.block _ (blk_lt HC9.out)).trans HC9.out⟩
        clear hbk
        go_wp2_with fail
        refine (ints_v true V1 c1' v V cv v _ (decide_eq_true rfl) (Kd.C_below HTP.out HPK.out) HTC.out (Kd.C_below HVP.out HPK.out) HCV.out (by omega)).mono ?_
        rintro e wi ⟨rfl, hbi⟩
        have HB603 := Aside0.mk (below_step HB602.out hbi)
        have Bx603 : Aside0 (wi.heap[gx1]? = some (.cells #[.int .i64 r.1.1, .int .i64 r.1.2.1, .int .i64 r.1.2.2, .int .i64 r.2.1.1, .int .i64 r.2.1.2.1, .int .i64 r.2.1.2.2, .slice A r.2.2.length c] 26 (0, 0))) := ⟨(hbi.block _ (blk_lt Bx602.out)).trans Bx602.out⟩
        have Bc603 : Aside0 (wi.heap[gc9]? = some (.cells #[.int .i64 r.1.1, .int .i64 r.1.2.1, .int .i64 r.1.2.2, .int .i64 r.2.1.1, .int .i64 r.2.1.2.1, .int .i64 r.2.1.2.2, .slice B r.2.2.length b'] 26 (0, 0))) := ⟨(hbi.block _ (blk_lt Bc602.out)).trans Bc602.out⟩
        clear hbi
        go_wp2_with fail
        go_ret
        exact ⟨rfl, HB603.out⟩
theorem asks_walk (w : World) (cs : Array Value) (y : Reg) (hK : kReg.K w y cs.toList) (hq : BalQ y.1 ∧ BalQ y.2.1 ∧ (y.2.2.length * Try.prog.bytesOf 3 ≤ 140737488351232 ∧ ∀ x ∈ y.2.2, (Lit.int .i64 x).wf = true)) (ds : Array Value) (z : Bal) (hZ : kBal.K w z ds.toList) (hz : BalQ z) (V : Option Addr) (cv : Nat) (v : List Int) (hv : (Kd.int .i64).C w V v.length v) (hcv : v.length ≤ cv) {Q : Prop} (hvq : Q) :
    Calls Try.prog 3 #[.agg cs, .agg ds, .slice V v.length cv] w fun e w' => e = .returned (.bool true) ∧ Below w.heap.size w w' := by
  obtain ⟨A, ca, he, hc, hC⟩ := reg_cells hK
  obtain rfl : cs = regA y A ca := by rw [← Array.toArray_toList (xs := cs), he]
  have hd := bal_cells hZ
  obtain rfl : ds = balA z := by rw [← Array.toArray_toList (xs := ds), hd]
  exact asks_any y A ca z V cv v w hC hc hv hcv ⟨balq_ok hq.1, balq_ok hq.2.1⟩ (balq_ok hz)
end Go.Proofs.Ytckbidmemdkdpaa.MAll

/- ChangeOnce: of swaps of one value at most one is done. The walk. -/
import Derived.Test.YtefeklhdaafbbaaA
set_option linter.unusedVariables false
set_option linter.unusedSimpArgs false
namespace Go.Proofs.Ytefeklhdaafbbaa.MAll
open Go.RowKit Go.Proofs.YtefeklhdaafbbaaW.PrintWords Go.Proofs.YtefeklhdaafbbaaW.PrintLast Go.Proofs.YtefeklhdaafbbaaW.PrintMore

def OnceRel (w : World) (old : List Int) (n : Nat) (v5 v6 v24 : Value) (wr : World) : Prop :=
  ∃ (k : Nat) (A : Option Addr) (c : Nat) (l : List Int) (d : Int), k ≤ n ∧ v24 = .int .i64 k ∧ v6 = .int .i64 d ∧ v5 = .slice A l.length c ∧ Aside0 ((Kd.int .i64).C wr A l.length l) ∧ Aside0 (l.length ≤ c) ∧ Aside0 (l.length ≤ 32) ∧ Aside0 ((d = 0 ∧ l = old) ∨ (d = 1 ∧ l ≠ old)) ∧ Aside0 (Below w.heap.size w wr)

set_option maxHeartbeats 400000 in
theorem once_walk {q0 q1 : Prop} (w : World) (A0 : Option Addr) (c0 : Nat) (old : List Int) (hr0 : (Kd.int .i64).C w A0 old.length old) (hc0 : old.length ≤ c0) (_ : q0) (A1 : Option Addr) (c1 : Nat) (news : List (List Int)) (hr1 : (Kd.slice 3 (Kd.int .i64)).C w A1 news.length news) (hc1 : news.length ≤ c1) (_ : q1) :
    Calls Try.prog 4 #[.slice A0 old.length c0, .slice A1 news.length c1] w fun e w' => e = .returned (.bool true) ∧ Below w.heap.size w w' := by
  have HR0 := Aside0.mk hr0
  have HR1 := Aside0.mk hr1
  clear hr0 hr1
  by_cases h1 : old.length ≤ 32
  · by_cases h2 : news.length ≤ 100
    · have b1 : decide (32 < old.length) = false := decide_eq_false (by omega)
      have b2 : decide (100 < news.length) = false := decide_eq_false (by omega)
      go_enter Try.func4, Try.ntmps4
      go_wp2_with (go_at_call 8; refine (alive_any _).mono ?_; rintro e w1 ⟨rfl, hb1⟩; have HB := Aside0.mk hb1; clear hb1)
      have HC := Aside0.mk (Kd.C_below HR0.out HB.out)
      have HN := Aside0.mk (Kd.C_below HR1.out HB.out)
      have HL := Aside0.mk h1
      have HL2 := Aside0.mk hc0
      clear h1 hc0 b1 b2
      go_loopw [5, 6, 24] (fun v5 v6 v24 wr => OnceRel w1 old news.length v5 v6 v24 wr) (fun _ _ i _ => news.length - (intOf i).toNat)
      case atStart => exact ⟨0, A0, c0, old, 0, Nat.zero_le _, rfl, rfl, rfl, HC, HL2, HL, ⟨.inl ⟨rfl, rfl⟩⟩, ⟨Below.refl _ _⟩⟩
      case round =>
        obtain ⟨k, A, c, l, d, hk, rfl, rfl, rfl, HA, HAc, HAl, HD, HW⟩ := hrel
        have HC' := Aside0.mk (Kd.C_below HC.out HW.out)
        have HN' := Aside0.mk (Kd.C_below HN.out HW.out)
        by_cases hlt : k < news.length
        · obtain ⟨ad, B, cB, rfl, hcell, hcB, hB⟩ := row_at HN'.out k hlt
          obtain ⟨n, hn⟩ : ∃ n, n = news[k]'hlt := ⟨_, rfl⟩
          rw [← hn] at hcell hcB hB
          have HB' := Aside0.mk hB
          have HcB := Aside0.mk hcB
          clear hB hcB hn
          by_cases hn32 : n.length ≤ 32
          · have b1 : decide (32 < n.length) = false := decide_eq_false (by omega)
            by_cases hno0 : n = old
            · have hno := Aside0.mk hno0
              clear hno0
              go_wp2_with (go_at_call 17; refine (same_is true _ _ _ _ _ _ _ (decide_eq_true hno.out) HB'.out HcB.out HC'.out HL2.out).mono ?_; rintro e w2 ⟨rfl, hb2⟩; have HB2 := Aside0.mk hb2; clear hb2)
              go_roundw
              case rel => exact ⟨k + 1, A, c, l, d, by omega, by go_num, rfl, rfl, ⟨Kd.C_below HA.out HB2.out⟩, HAc, HAl, HD, ⟨below_step HW.out HB2.out⟩⟩
              case measure => simp [intOf]; omega
            · have hno := Aside0.mk hno0
              clear hno0
              by_cases hlo0 : l = old
              · have hlo := Aside0.mk hlo0
                clear hlo0
                go_wp2_with (go_at_call 17; refine (same_is false _ _ _ _ _ _ _ (decide_eq_false hno.out) HB'.out HcB.out HC'.out HL2.out).mono ?_; rintro e w2 ⟨rfl, hb2⟩; have HB2 := Aside0.mk hb2; clear hb2)
                have HC2 := Aside0.mk (Kd.C_below HC'.out HB2.out)
                have HN2 := Aside0.mk (Kd.C_below HB'.out HB2.out)
                have HA2 := Aside0.mk (Kd.C_below HA.out HB2.out)
                refine (swap_is _ _ _ _ _ _ _ HC2.out HL2.out HN2.out HcB.out (by have := HL.out; omega) (by omega)).mono ?_
                rintro e w3 ⟨B0, d0, B1, d1, rfl, q0, q1, q2, q3, hb3⟩
                have HB3 := Aside0.mk hb3
                clear hb3
                go_wp2_with fail
                have hlo' := hlo.out
                subst hlo'
                refine (do_is n .nilIface 2 _ _ _ _ _ _ _ _ _ _ (hit_v l n HAl.out hn32) (hit_e l n HAl.out hn32) q2 q0 q3 q1 (Kd.C_below HA2.out HB3.out) HAc.out (by have := HAl.out; omega) (by omega) (by have := HAl.out; omega)).mono ?_
                rintro e w4 ⟨A5, c5, rfl, q5, q6, hb4⟩
                have HB4 := Aside0.mk hb4
                have HC5 := Aside0.mk q6
                have HC5L := Aside0.mk q5
                have HN4 := Aside0.mk (Kd.C_below (Kd.C_below HN2.out HB3.out) hb4)
                clear hb4 q0 q1 q2 q3 q5 q6
                have hd0 : d = 0 := by
                  rcases HD.out with h | h
                  · exact h.1
                  · exact absurd rfl h.2
                subst hd0
                go_wp2_with (go_at_call 12; refine (ints_is true _ _ _ _ _ _ _ (decide_eq_true rfl) HC5.out HC5L.out HN4.out HcB.out).mono ?_; rintro e w5 ⟨rfl, hb5⟩; have HB5 := Aside0.mk hb5; clear hb5)
                go_roundw
                case rel => exact ⟨k + 1, A5, c5, n, 1, by omega, by go_num, rfl, rfl, ⟨Kd.C_below HC5.out HB5.out⟩, HC5L, ⟨hn32⟩, ⟨.inr ⟨rfl, hno.out⟩⟩, ⟨below_step (below_step (below_step (below_step HW.out HB2.out) HB3.out) HB4.out) HB5.out⟩⟩
                case measure => simp [intOf]; omega
              · have hlo := Aside0.mk hlo0
                clear hlo0
                go_wp2_with (go_at_call 17; refine (same_is false _ _ _ _ _ _ _ (decide_eq_false hno.out) HB'.out HcB.out HC'.out HL2.out).mono ?_; rintro e w2 ⟨rfl, hb2⟩; have HB2 := Aside0.mk hb2; clear hb2)
                have HC2 := Aside0.mk (Kd.C_below HC'.out HB2.out)
                have HN2 := Aside0.mk (Kd.C_below HB'.out HB2.out)
                have HA2 := Aside0.mk (Kd.C_below HA.out HB2.out)
                refine (swap_is _ _ _ _ _ _ _ HC2.out HL2.out HN2.out HcB.out (by have := HL.out; omega) (by omega)).mono ?_
                rintro e w3 ⟨B0, d0, B1, d1, rfl, q0, q1, q2, q3, hb3⟩
                have HB3 := Aside0.mk hb3
                clear hb3
                go_wp2_with fail
                refine (do_is l (.iface 40 (.int .i64 11)) 2 _ _ _ _ _ _ _ _ _ _ (miss_v old n l HL.out hn32 hlo.out) (miss_e old n l HL.out hn32 hlo.out) q2 q0 q3 q1 (Kd.C_below HA2.out HB3.out) HAc.out (by have := HL.out; omega) (by omega) (by have := HAl.out; omega)).mono ?_
                rintro e w4 ⟨A5, c5, rfl, q5, q6, hb4⟩
                have HB4 := Aside0.mk hb4
                have HC5 := Aside0.mk q6
                have HC5L := Aside0.mk q5
                have HA4 := Aside0.mk (Kd.C_below (Kd.C_below HA2.out HB3.out) hb4)
                clear hb4 q0 q1 q2 q3 q5 q6
                have hd0 : d = 1 := by
                  rcases HD.out with h | h
                  · exact absurd h.2 hlo.out
                  · exact h.1
                subst hd0
                have hne := fun W => Go.Proofs.Ytefeklhdaafbbaa.Err.neE W 11 11
                have hu28 := Try.underlying28
                go_wp2_with (go_at_call 12; refine (ints_is true _ _ _ _ _ _ _ (decide_eq_true rfl) HC5.out HC5L.out HA4.out HAc.out).mono ?_; rintro e w5 ⟨rfl, hb5⟩; have HB5 := Aside0.mk hb5; clear hb5)
                go_roundw
                case rel => exact ⟨k + 1, A, c, l, 1, by omega, by go_num, rfl, rfl, ⟨Kd.C_below HA4.out HB5.out⟩, HAc, HAl, ⟨.inr ⟨rfl, hlo.out⟩⟩, ⟨below_step (below_step (below_step (below_step HW.out HB2.out) HB3.out) HB4.out) HB5.out⟩⟩
                case measure => simp [intOf]; omega
          · have b1 : decide (32 < n.length) = true := decide_eq_true (by omega)
            go_wp2
            go_roundw
            case rel => exact ⟨k + 1, A, c, l, d, by omega, by go_num, rfl, rfl, HA, HAc, HAl, HD, HW⟩
            case measure => simp [intOf]; omega
        · go_wp2
          go_ret
          exact ⟨rfl, below_step HB.out HW.out⟩
    · have b1 : decide (32 < old.length) = false := decide_eq_false (by omega)
      have b2 : decide (100 < news.length) = true := decide_eq_true (by omega)
      go_enter Try.func4, Try.ntmps4
      go_wp2_with (go_at_call 8; refine (alive_any _).mono ?_; rintro e w1 ⟨rfl, hb1⟩; have HB := Aside0.mk hb1; clear hb1)
      go_ret
      exact ⟨rfl, HB.out⟩
  · have b1 : decide (32 < old.length) = true := decide_eq_true (by omega)
    go_enter Try.func4, Try.ntmps4
    go_wp2_with (go_at_call 8; refine (alive_any _).mono ?_; rintro e w1 ⟨rfl, hb1⟩; have HB := Aside0.mk hb1; clear hb1)
    go_ret
    exact ⟨rfl, HB.out⟩
end Go.Proofs.Ytefeklhdaafbbaa.MAll

/- PostOrder: the walk. -/
import Derived.Test.YtnjhgckmfebdoaaPc
set_option linter.unusedVariables false
set_option linter.unusedSimpArgs false
namespace Go.Proofs.Ytnjhgckmfebdoaa.MAll
open Go.RowKit Go.Proofs.YtnjhgckmfebdoaaW.PrintWords Go.Proofs.YtnjhgckmfebdoaaW.PrintLast Go.Proofs.YtnjhgckmfebdoaaW.PrintMore
attribute [local go_sem ↓] Go.wp_at_zero Go.wp_at_succ
theorem send_fit (lost : Int) (rows args : List (List Int)) (h : rows.length + args.length ≤ 4096) : sendOf lost rows args = (lost, rows ++ args) := by
  induction args generalizing rows with
  | nil => simp [sendOf]
  | cons r rs ih =>
    have hl : rows.length + 1 + rs.length ≤ 4096 := by simpa [Nat.add_assoc, Nat.add_comm 1] using h
    have e : sendS (lost, rows) r = (lost, rows ++ [r]) := by unfold sendS; rw [if_neg]; show ¬ 4096 ≤ rows.length; omega
    show sendOf (sendS (lost, rows) r).1 (sendS (lost, rows) r).2 rs = _
    rw [e, ih _ (by simp; omega)]
    simp
set_option maxHeartbeats 8000000 in
set_option maxRecDepth 100000 in
theorem order_any (W : World) (A0 : Option Addr) (c0 : Nat) (xs : List (List Int)) (hr : kB.C W A0 xs.length xs) (hx : ∀ r ∈ xs, r.length < 140737488351233) : Calls Try.prog 6 #[.slice A0 xs.length c0] W fun e w' => e = .returned (.bool true) ∧ Below W.heap.size W w' := by
  have hu5 := Try.underlying5
  have hu9 := Try.underlying9
  have hu25 := Try.underlying25
  have hu31 := Try.underlying31
  have hu34 := Try.underlying34
  have HV := Aside0.mk hr
  have HX := Aside0.mk hx
  clear hr hx
  by_cases h2 : xs.length ≤ 2000
  case neg =>
    have h2b : decide (2000 < (xs.length : Int)) = true := decide_eq_true (by omega)
    have h2c : decide (2000 < xs.length) = true := decide_eq_true (by omega)
    go_enter Try.func6, Try.ntmps6
    go_wp2_with fail
    refine (alive_any _).mono ?_
    rintro e w1 ⟨rfl, hb1⟩
    have HB := Aside0.mk hb1
    clear hb1
    go_wp2_with fail
    go_ret
    exact ⟨rfl, HB.out⟩
  have h2b : decide (2000 < (xs.length : Int)) = false := decide_eq_false (by omega)
  have h2c : decide (2000 < xs.length) = false := decide_eq_false (by omega)
  go_enter Try.func6, Try.ntmps6
  go_wp2_with fail
  refine (alive_any _).mono ?_
  rintro e w1 ⟨rfl, hb1⟩
  have HB2 : Aside0 (Below W.heap.size W w1) := ⟨hb1⟩
  clear hb1
  go_wp2_with fail
  refine (new_c _).mono ?_
  rintro e w3 ⟨g3, rfl, hge3, hp3, hb3⟩
  have GE3 : Aside0 (W.heap.size ≤ g3) := ⟨Nat.le_trans HB2.out.size hge3⟩
  have HB4 : Aside0 (Below W.heap.size W w3) := ⟨below_step HB2.out hb3⟩
  clear hb3
  have HP3' : Aside0 (PAt w3 g3 0 0 []) := ⟨hp3⟩
  clear hge3 hp3
  clear h2b h2c
  go_wp2_with fail
  have hs := send_c _ g3 (0) (0) ([]) HP3'.out A0 c0 xs (fun w hw => Kd.C_below HV.out (FR.after HB4.out hw HP3'.out GE3.out)) (by omega) HX.out
  rw [send_fit 0 [] xs (by simp; omega)] at hs
  refine hs.mono ?_
  rintro e wS ⟨rfl, hp, hf⟩
  clear hs
  have HB5 : Aside0 (Below W.heap.size W wS) := ⟨FR.after HB4.out hf HP3'.out GE3.out⟩
  have HP5 : Aside0 (PAt wS g3 (0) (0) (xs)) := ⟨hp⟩
  clear hf hp
  rw [show ([] ++ xs : List (List Int)).length = xs.length from rfl]
  go_wp2_with fail
  go_loopw [24] (fun v24 w' => ∃ k : Nat, k ≤ xs.length ∧ v24 = .int .i64 k ∧ Aside0 (PAt w' g3 0 (k : Int) (xs.drop k)) ∧ Aside0 (Below W.heap.size W w')) (fun v _ => xs.length - (intOf v).toNat)
  case atStart => exact ⟨0, by omega, rfl, HP5, HB5⟩
  case round =>
    obtain ⟨k, hk, rfl, HO, HW⟩ := hrel
    by_cases hlt : k < xs.length
    case neg =>
      have hke : k = xs.length := by omega
      subst hke
      have hd0 : xs.drop xs.length = [] := List.drop_length
      rw [hd0] at HO
      go_wp2_with fail
      refine (deliver_out _ g3 (0) ((xs.length : Int)) ([]) HO.out 0 (.inr (by simp))).mono ?_
      rintro e wD ⟨rfl, hbd⟩
      have HB52 : Aside0 (Below W.heap.size W wD) := ⟨below_step HW.out hbd⟩
      have HP52 : Aside0 (PAt wD g3 (0) ((xs.length : Int)) ([])) := ⟨HO.out.below hbd⟩
      clear hbd
      go_wp2_with fail
      refine (taken_c _ g3 (0) ((xs.length : Int)) ([]) HP52.out).mono ?_
      rintro e w53 ⟨rfl, hb53⟩
      have HB54 : Aside0 (Below W.heap.size W w53) := ⟨below_step HB52.out hb53⟩
      have HP54 : Aside0 (PAt w53 g3 (0) ((xs.length : Int)) ([])) := ⟨HP52.out.below hb53⟩
      clear hb53
      go_wp2_with fail
      go_ret
      exact ⟨rfl, HB54.out⟩
    case pos =>
      obtain ⟨r, hrk⟩ : ∃ r, xs[k]? = some r := ⟨_, List.getElem?_eq_getElem hlt⟩
      have HI : Aside0 ((xs.drop k)[0]? = some r) := ⟨by rw [List.getElem?_drop]; exact hrk⟩
      obtain ⟨ad0, B, cB, hA0, hcell0, hcB, hC0⟩ := row_at HV.out k r hrk
      subst hA0
      have hcell := pw_cell_below HW.out hcell0
      have HCA : Aside0 (∀ w, Below W.heap.size W w → kb.C w B r.length r) := ⟨fun w hw => Kd.C_below hC0 hw⟩
      clear hrk hC0 hcB hcell0
      go_wp2_with fail
      clear hcell
      refine (deliver_in _ g3 (0) ((k : Int)) (xs.drop k) HO.out (0) (r) HI.out).mono ?_
      rintro e w81 ⟨Bx, dx, rfl, hrd81, hm81, hp81, hf81⟩
      have HDx : Aside0 ((r : List Int).length ≤ dx) := ⟨hrd81⟩
      have HMx := Aside0.mk hm81
      clear hrd81 hm81
      rw [show wrap64 (((k : Int) : Int) + 1) = ((k + 1 : Nat) : Int) from by unfold wrap64; omega] at hp81
      rw [show (xs.drop k).take (0) ++ (xs.drop k).drop (0 + 1) = xs.drop (k + 1) from by rw [List.take_zero, List.drop_drop]; rfl] at hp81
      have HB82 : Aside0 (Below W.heap.size W w81) := ⟨FR.after HW.out hf81 HO.out GE3.out⟩
      have HP82 : Aside0 (PAt w81 g3 (0) (((k + 1 : Nat) : Int)) (xs.drop (k + 1))) := ⟨hp81⟩
      clear hf81 hp81
      have hsx : (convert 34 9 (.slice Bx r.length dx)).run Try.prog w81 = .ok (.string (strOfNums r)) w81 := Kd.C_string (P := Try.prog) (c := dx) hu34 hu5 hu9 (C_of_M HMx.out)
      have hsr := Kd.C_string (P := Try.prog) (c := cB) hu34 hu5 hu9 (HCA.out _ HB82.out)
      go_wp2_with fail
      go_roundw
      case rel => exact ⟨k + 1, by omega, by go_num, HP82, HB82⟩
      case measure => simp [intOf]; omega
theorem order_walk (w : World) (A0 : Option Addr) (c0 : Nat) (xs : List (List Int)) (hr : (Kd.slice 5 (Kd.int .u8)).C w A0 xs.length xs) (hc : xs.length ≤ c0) (hq : xs.length * Try.prog.bytesOf 34 ≤ 140737488351232 ∧ ∀ x ∈ xs, x.length * Try.prog.bytesOf 5 ≤ 140737488351232 ∧ ∀ y ∈ x, (Lit.int .u8 y).wf = true) : Calls Try.prog 6 #[.slice A0 xs.length c0] w fun e w' => e = .returned (.bool true) ∧ Below w.heap.size w w' := by
  have h5 : Try.prog.bytesOf 5 = 1 := by kernel_rfl
  refine order_any w A0 c0 xs hr (fun r hr => ?_)
  have := (hq.2 r hr).1
  rw [h5] at this
  omega
end Go.Proofs.Ytnjhgckmfebdoaa.MAll

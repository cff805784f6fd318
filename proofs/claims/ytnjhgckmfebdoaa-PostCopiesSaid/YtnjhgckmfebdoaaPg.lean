/- PostCopies: the walk. -/
import Derived.Test.YtnjhgckmfebdoaaPf
set_option linter.unusedVariables false
set_option linter.unusedSimpArgs false
namespace Go.Proofs.Ytnjhgckmfebdoaa.MAll
open Go.RowKit Go.Proofs.YtnjhgckmfebdoaaW.PrintWords Go.Proofs.YtnjhgckmfebdoaaW.PrintLast Go.Proofs.YtnjhgckmfebdoaaW.PrintMore
attribute [local go_sem ↓] Go.wp_at_zero Go.wp_at_succ
theorem umod_any (x k : Int) (hk : 0 < k) (hk2 : k < 140737488351233) : ∃ t : Nat, wrap64 ((IntKind.u64.wrap x).tmod k) = (t : Int) ∧ (t : Int) < k := by
  obtain ⟨h0, h1⟩ := umod x k hk
  refine ⟨((IntKind.u64.wrap x).tmod k).toNat, ?_, by omega⟩
  generalize (IntKind.u64.wrap x).tmod k = r at *
  unfold wrap64
  omega
theorem rep_row (xs : List (List Int)) (r : List Int) (i k : Nat) (hi : xs[i]? = some r) : (xs ++ List.replicate k r)[i]? = some r := by
  rw [List.getElem?_append_left (List.getElem?_eq_some_iff.1 hi).1]; exact hi
theorem rep_last (xs : List (List Int)) (r : List Int) (k : Nat) (hk : 0 < k) : (xs ++ List.replicate k r)[xs.length]? = some r := by
  rw [List.getElem?_append_right (Nat.le_refl _), Nat.sub_self]
  simp [hk]
theorem rep_send (xs : List (List Int)) (r : List Int) (k : Nat) (h : xs.length + k < 4096) : sendS ((0 : Int), xs ++ List.replicate k r) r = (0, xs ++ List.replicate (k + 1) r) := by
  unfold sendS
  rw [if_neg (by show ¬ 4096 ≤ (xs ++ List.replicate k r).length; rw [List.length_append, List.length_replicate]; omega)]
  show ((0 : Int), (xs ++ List.replicate k r) ++ [r]) = _
  rw [List.append_assoc, ← List.replicate_succ']
theorem rep_cut (xs : List (List Int)) (r : List Int) (k : Nat) : (xs ++ List.replicate (k + 1) r).take xs.length ++ (xs ++ List.replicate (k + 1) r).drop (xs.length + 1) = xs ++ List.replicate k r := by
  rw [List.take_left, List.drop_append]
  simp
set_option maxHeartbeats 8000000 in
set_option maxRecDepth 100000 in
theorem copies_any (W : World) (A0 : Option Addr) (c0 : Nat) (xs : List (List Int)) (a b : Int) (hr : kB.C W A0 xs.length xs) (hx : ∀ r ∈ xs, r.length < 140737488351233) : Calls Try.prog 8 #[.slice A0 xs.length c0, .int .i64 a, .int .i64 b] W fun e w' => e = .returned (.bool true) ∧ Below W.heap.size W w' := by
  have hu5 := Try.underlying5
  have hu9 := Try.underlying9
  have hu25 := Try.underlying25
  have hu31 := Try.underlying31
  have hu34 := Try.underlying34
  have HV := Aside0.mk hr
  have HX := Aside0.mk hx
  clear hr hx
  by_cases h2 : 1 ≤ xs.length ∧ xs.length ≤ 500
  case neg =>
    by_cases h3 : xs.length = 0
    · have h3b : ((xs.length : Int) == 0) = true := by rw [h3]; rfl
      have h3c : xs = [] := List.eq_nil_of_length_eq_zero h3
      go_enter Try.func8, Try.ntmps8
      go_wp2_with fail
      refine (alive_any _).mono ?_
      rintro e w1 ⟨rfl, hb1⟩
      have HB := Aside0.mk hb1
      clear hb1
      go_wp2_with fail
      go_ret
      exact ⟨rfl, HB.out⟩
    · have h3b : ((xs.length : Int) == 0) = false := beq_eq_false_iff_ne.2 (by omega)
      have h3c : ¬ xs = [] := fun e => h3 (by rw [e]; rfl)
      have h2b : decide (500 < (xs.length : Int)) = true := decide_eq_true (by omega)
      have h2c : decide (500 < xs.length) = true := decide_eq_true (by omega)
      go_enter Try.func8, Try.ntmps8
      go_wp2_with fail
      refine (alive_any _).mono ?_
      rintro e w1 ⟨rfl, hb1⟩
      have HB := Aside0.mk hb1
      clear hb1
      go_wp2_with fail
      go_ret
      exact ⟨rfl, HB.out⟩
  have h3b : ((xs.length : Int) == 0) = false := beq_eq_false_iff_ne.2 (by omega)
  have h3c : ¬ xs = [] := fun e => by rw [e] at h2; simp at h2
  have h2b : decide (500 < (xs.length : Int)) = false := decide_eq_false (by omega)
  have h2c : decide (500 < xs.length) = false := decide_eq_false (by omega)
  go_enter Try.func8, Try.ntmps8
  go_wp2_with fail
  refine (alive_any _).mono ?_
  rintro e w1 ⟨rfl, hb1⟩
  have HB2 : Aside0 (Below W.heap.size W w1) := ⟨hb1⟩
  clear hb1
  go_wp2_with fail
  refine (new_c _).mono ?_
  rintro e w3 ⟨g3, rfl, hge3, hp3, hb3⟩
  have GE3 : Aside0 (W.heap.size ≤ g3) := ⟨Nat.le_trans HB2.out.size hge3⟩
  have HB4 : Aside0 (Below W.heap.size W w3) := ⟨below_step HB2.out hb3⟩
  clear hb3
  have HP3' : Aside0 (PAt w3 g3 0 0 []) := ⟨hp3⟩
  clear hge3 hp3
  clear h3b h3c h2b h2c
  go_wp2_with fail
  have hs := send_c _ g3 (0) (0) ([]) HP3'.out A0 c0 xs (fun w hw => Kd.C_below HV.out (FR.after HB4.out hw HP3'.out GE3.out)) (by omega) HX.out
  rw [send_fit 0 [] xs (by simp; omega)] at hs
  refine hs.mono ?_
  rintro e wS ⟨rfl, hp, hf⟩
  clear hs
  have HB5 : Aside0 (Below W.heap.size W wS) := ⟨FR.after HB4.out hf HP3'.out GE3.out⟩
  have HP5 : Aside0 (PAt wS g3 (0) (0) (xs)) := ⟨hp⟩
  clear hf hp
  rw [show ([] ++ xs : List (List Int)).length = xs.length from rfl]
  have hz1 : ((IntKind.u64.wrap (xs.length : Int)) == 0) = false := beq_eq_false_iff_ne.2 (by show (xs.length : Int) % 18446744073709551616 ≠ 0; omega)
  have hz2 : IntKind.u64.wrap (xs.length : Int) = (xs.length : Int) := by show (xs.length : Int) % 18446744073709551616 = _; omega
  go_wp2_with fail
  obtain ⟨i, hi, hi1⟩ := umod_any a xs.length (by omega) (by omega)
  rw [hi]
  obtain ⟨m, hm, hm1⟩ := umod_any b 9 (by omega) (by omega)
  rw [hm]
  clear hi hm hz1 hz2
  have hil : i < xs.length := by omega
  obtain ⟨r, hrk⟩ : ∃ r, xs[i]? = some r := ⟨_, List.getElem?_eq_getElem hil⟩
  have HI := Aside0.mk hrk
  obtain ⟨ad0, B, cB, hA0, hcell0, hcB, hC0⟩ := row_at HV.out i r hrk
  subst hA0
  have HCA : Aside0 (∀ w, Below W.heap.size W w → kb.C w B r.length r) := ⟨fun w hw => Kd.C_below hC0 hw⟩
  have HC0 := Aside0.mk hcell0
  clear hrk hcB hC0 hcell0
  go_loopw [39] (fun v39 w' => ∃ k : Nat, k ≤ m ∧ v39 = .int .i64 k ∧ Aside0 (PAt w' g3 0 0 (xs ++ List.replicate k r)) ∧ Aside0 (Below W.heap.size W w')) (fun v _ => m - (intOf v).toNat)
  case atStart => exact ⟨0, by omega, rfl, ⟨by have h := HP5.out; simpa using h⟩, HB5⟩
  case round =>
    obtain ⟨k, hk, rfl, HO, HW⟩ := hrel
    by_cases hlt : k < m
    case pos =>
      have d1 : decide ((k : Int) < (m : Int)) = true := decide_eq_true (by omega)
      go_wp2_with fail
      refine (copy_in _ g3 (0) (0) (xs ++ List.replicate k r) HO.out (i) (r) (rep_row xs r i k HI.out)).mono ?_
      rintro e w51 ⟨rfl, hp51, hf51⟩
      rw [show sendS (0, xs ++ List.replicate k r) r = (0, xs ++ List.replicate (k + 1) r) from rep_send xs r k (by omega)] at hp51
      have HB52 : Aside0 (Below W.heap.size W w51) := ⟨FR.after HW.out hf51 HO.out GE3.out⟩
      have HP52 : Aside0 (PAt w51 g3 (0) (0) (xs ++ List.replicate (k + 1) r)) := ⟨hp51⟩
      clear hf51 hp51
      go_wp2_with fail
      go_roundw
      case rel => exact ⟨k + 1, by omega, by go_num, HP52, HB52⟩
      case measure => simp [intOf]; omega
    case neg =>
      have hke : k = m := by omega
      subst hke
      clear hlt
      have d1 : decide ((k : Int) < (k : Int)) = false := decide_eq_false (by omega)
      have hw1 : wrap64 ((xs.length : Int) + (k : Int)) = (xs.length : Int) + (k : Int) := by unfold wrap64; omega
      go_wp2_with fail
      refine (len_lit _ g3 (0) (0) (xs ++ List.replicate k r) HO.out ((xs.length : Int) + (k : Int)) (by rw [List.length_append, List.length_replicate]; omega)).mono ?_
      rintro e w81 ⟨rfl, hb81⟩
      have HB82 : Aside0 (Below W.heap.size W w81) := ⟨below_step HW.out hb81⟩
      have HP82 : Aside0 (PAt w81 g3 (0) (0) (xs ++ List.replicate k r)) := ⟨HO.out.below hb81⟩
      clear hb81
      go_wp2_with fail
      clear d1
      go_loopw [54] (fun v54 w' => ∃ j : Nat, j ≤ k ∧ v54 = .int .i64 j ∧ Aside0 (PAt w' g3 0 (j : Int) (xs ++ List.replicate (k - j) r)) ∧ Aside0 (Below W.heap.size W w')) (fun v _ => k - (intOf v).toNat)
      case atStart => exact ⟨0, by omega, rfl, HP82, HB82⟩
      case round =>
        clear HW HO
        obtain ⟨j, hj, rfl, HO, HW⟩ := hrel
        by_cases hlt : j < k
        case pos =>
          have d1 : decide ((j : Int) < (k : Int)) = true := decide_eq_true (by omega)
          obtain ⟨q, hq⟩ : ∃ q, k - j = q + 1 := ⟨k - j - 1, by omega⟩
          rw [hq] at HO
          have hq1 : k - (j + 1) = q := by omega
          go_wp2_with fail
          refine (deliver_in _ g3 (0) ((j : Int)) (xs ++ List.replicate (q + 1) r) HO.out (xs.length) (r) (rep_last xs r (q + 1) (by omega))).mono ?_
          rintro e w121 ⟨Bx, dx, rfl, hrd121, hm121, hp121, hf121⟩
          have HDx : Aside0 ((r : List Int).length ≤ dx) := ⟨hrd121⟩
          have HMx := Aside0.mk hm121
          clear hrd121 hm121
          rw [show wrap64 (((j : Int) : Int) + 1) = ((j + 1 : Nat) : Int) from by unfold wrap64; omega] at hp121
          rw [show (xs ++ List.replicate (q + 1) r).take (xs.length) ++ (xs ++ List.replicate (q + 1) r).drop (xs.length + 1) = xs ++ List.replicate q r from rep_cut xs r q] at hp121
          have HB122 : Aside0 (Below W.heap.size W w121) := ⟨FR.after HW.out hf121 HO.out GE3.out⟩
          have HP122 : Aside0 (PAt w121 g3 (0) (((j + 1 : Nat) : Int)) (xs ++ List.replicate q r)) := ⟨hp121⟩
          clear hf121 hp121
          go_wp2_with fail
          have hcella := pw_cell_below HB122.out HC0.out
          have hsxa : (convert 34 9 (.slice Bx r.length dx)).run Try.prog w121.drew = .ok (.string (strOfNums r)) w121.drew := Kd.C_string (P := Try.prog) (c := dx) hu34 hu5 hu9 (Kd.C_drew (C_of_M HMx.out))
          have hsya : (convert 34 9 (.slice B r.length cB)).run Try.prog w121.drew = .ok (.string (strOfNums r)) w121.drew := Kd.C_string (P := Try.prog) (c := cB) hu34 hu5 hu9 (Kd.C_drew (HCA.out _ HB122.out))
          have hli : decide ((i : Int) < (xs.length : Int)) = true := decide_eq_true (by omega)
          refine start_ (n := 12) (S := fun w' => w'.cell? (ad0.add i) = some (.slice B r.length cB) ∧ (convert 34 9 (.slice Bx r.length dx)).run Try.prog w' = .ok (.string (strOfNums r)) w' ∧ (convert 34 9 (.slice B r.length cB)).run Try.prog w' = .ok (.string (strOfNums r)) w') (ds := []) #[false, false, false, false, false, false, false, false, false, false, false, false] (by kernel_rfl) rfl rfl ⟨hcella, hsxa, hsya⟩ (fun hHeld => ?_)
          refine pure_ (i := 0) (N := some 63) (v := ?_) (a' := ?_) #[true, false, false, false, false, false, false, false, false, false, false, false] rfl rfl (by kernel_rfl) (fun _ _ _ h => h) (Or.inl ⟨by rfl, ?_⟩) ?_ ?_
          rotate_left
          · intro w'
            go_simp
            with_reducible rfl
          rotate_left
          · simp only [Act.put, List.setIfInBounds_toArray, List.set_cons_zero, List.set_cons_succ, i64_w, i32_w]
            rfl
          refine pure_ (i := 1) (N := some 64) (v := ?_) (a' := ?_) #[true, true, false, false, false, false, false, false, false, false, false, false] rfl rfl (by kernel_rfl) (fun _ _ _ h => h) (Or.inl ⟨by rfl, ?_⟩) ?_ ?_
          rotate_left
          · intro w'
            go_simp
            with_reducible rfl
          rotate_left
          · simp only [Act.put, List.setIfInBounds_toArray, List.set_cons_zero, List.set_cons_succ, i64_w, i32_w]
            rfl
          refine pure_ (i := 2) (N := some 65) (v := ?_) (a' := ?_) #[true, true, true, false, false, false, false, false, false, false, false, false] rfl rfl (by kernel_rfl) (fun _ _ _ h => h) (Or.inl ⟨by rfl, ?_⟩) ?_ ?_
          rotate_left
          · intro w'
            go_simp
            with_reducible rfl
          rotate_left
          · simp only [Act.put, List.setIfInBounds_toArray, List.set_cons_zero, List.set_cons_succ, i64_w, i32_w]
            rfl
          refine pure_ (i := 3) (N := some 66) (v := ?_) (a' := ?_) #[true, true, true, true, false, false, false, false, false, false, false, false] rfl rfl (by kernel_rfl) (fun _ _ _ h => h) (Or.inl ⟨by rfl, ?_⟩) ?_ ?_
          rotate_left
          · intro w'
            go_simp
            with_reducible rfl
          rotate_left
          · simp only [Act.put, List.setIfInBounds_toArray, List.set_cons_zero, List.set_cons_succ, i64_w, i32_w]
            rfl
          refine pure_ (i := 5) (N := some 68) (v := ?_) (a' := ?_) #[true, true, true, true, false, true, false, false, false, false, false, false] rfl rfl (by kernel_rfl) (fun _ _ _ h => h) (Or.inl ⟨by rfl, ?_⟩) ?_ ?_
          rotate_left
          · intro w'
            go_simp
            with_reducible rfl
          rotate_left
          · simp only [Act.put, List.setIfInBounds_toArray, List.set_cons_zero, List.set_cons_succ, i64_w, i32_w]
            rfl
          refine pure_ (i := 6) (N := some 69) (v := ?_) (a' := ?_) #[true, true, true, true, false, true, true, false, false, false, false, false] rfl rfl (by kernel_rfl) (fun _ _ _ h => h) (Or.inl ⟨by rfl, ?_⟩) ?_ ?_
          rotate_left
          · intro w'
            go_simp
            with_reducible rfl
          rotate_left
          · simp only [Act.put, List.setIfInBounds_toArray, List.set_cons_zero, List.set_cons_succ, i64_w, i32_w]
            rfl
          refine pure_ (i := 7) (N := some 70) (v := ?_) (a' := ?_) #[true, true, true, true, false, true, true, true, false, false, false, false] rfl rfl (by kernel_rfl) (fun _ _ _ h => h) (Or.inl ⟨by rfl, ?_⟩) ?_ ?_
          rotate_left
          · intro w'
            go_simp
            with_reducible rfl
          rotate_left
          · simp only [Act.put, List.setIfInBounds_toArray, List.set_cons_zero, List.set_cons_succ, i64_w, i32_w]
            rfl
          refine take_ (i := 4) (N := some 67) (v := ?_) (a' := ?_) #[true, true, true, true, true, true, true, true, false, false, false, false] rfl rfl (by kernel_rfl) (fun _ _ _ h => h) (Or.inl ⟨by rfl, ?_⟩) hHeld ?_ ?_
          rotate_left
          · rintro w' ⟨s0, s1, s2⟩
            go_simp
            with_reducible rfl
          rotate_left
          · simp only [Act.put, List.setIfInBounds_toArray, List.set_cons_zero, List.set_cons_succ, i64_w, i32_w]
            rfl
          refine take_ (i := 8) (N := some 71) (v := ?_) (a' := ?_) #[true, true, true, true, true, true, true, true, true, false, false, false] rfl rfl (by kernel_rfl) (fun _ _ _ h => h) (Or.inl ⟨by rfl, ?_⟩) hHeld ?_ ?_
          rotate_left
          · rintro w' ⟨s0, s1, s2⟩
            go_simp
            with_reducible rfl
          rotate_left
          · simp only [Act.put, List.setIfInBounds_toArray, List.set_cons_zero, List.set_cons_succ, i64_w, i32_w]
            rfl
          refine take_ (i := 9) (N := some 72) (v := ?_) (a' := ?_) #[true, true, true, true, true, true, true, true, true, true, false, false] rfl rfl (by kernel_rfl) (fun _ _ _ h => h) (Or.inl ⟨by rfl, ?_⟩) hHeld ?_ ?_
          rotate_left
          · rintro w' ⟨s0, s1, s2⟩
            go_simp
            with_reducible rfl
          rotate_left
          · simp only [Act.put, List.setIfInBounds_toArray, List.set_cons_zero, List.set_cons_succ, i64_w, i32_w]
            rfl
          refine pure_ (i := 10) (N := some 73) (v := ?_) (a' := ?_) #[true, true, true, true, true, true, true, true, true, true, true, false] rfl rfl (by kernel_rfl) (fun _ _ _ h => h) (Or.inl ⟨by rfl, ?_⟩) ?_ ?_
          rotate_left
          · intro w'
            go_simp
            with_reducible rfl
          rotate_left
          · simp only [Act.put, List.setIfInBounds_toArray, List.set_cons_zero, List.set_cons_succ, i64_w, i32_w]
            rfl
          refine pure_ (i := 11) (N := some 74) (v := ?_) (a' := ?_) #[true, true, true, true, true, true, true, true, true, true, true, true] rfl rfl (by kernel_rfl) (fun _ _ _ h => h) (Or.inl ⟨by rfl, ?_⟩) ?_ ?_
          rotate_left
          · intro w'
            go_simp
            with_reducible rfl
          rotate_left
          · simp only [Act.put, List.setIfInBounds_toArray, List.set_cons_zero, List.set_cons_succ, i64_w, i32_w]
            rfl
          refine done_ (by kernel_rfl) ?_
          clear hcella hsxa hsya hli
          obtain ⟨W123, hw123⟩ : ∃ x : World, x = w121.drew := ⟨_, rfl⟩
          have hb123 : Below w121.heap.size w121 W123 := by rw [hw123]; exact below_drew (Below.refl _ _)
          rw [← hw123]
          clear hw123
          have HB124 : Aside0 (Below W.heap.size W W123) := ⟨below_step HB122.out hb123⟩
          have HP124 : Aside0 (PAt W123 g3 (0) (((j + 1 : Nat) : Int)) (xs ++ List.replicate q r)) := ⟨HP122.out.below hb123⟩
          clear hb123
          go_wp2_with fail
          go_roundw
          case rel => exact ⟨j + 1, by omega, by go_num, ⟨by rw [hq1]; exact HP124.out⟩, HB124⟩
          case measure => simp [intOf]; omega
        case neg =>
          have hje : j = k := by omega
          subst hje
          clear hlt
          have d1 : decide ((j : Int) < (j : Int)) = false := decide_eq_false (by omega)
          have hO : Aside0 (PAt wr g3 0 (j : Int) xs) := ⟨by have h := HO.out; rw [Nat.sub_self] at h; simpa using h⟩
          clear HO
          go_wp2_with fail
          obtain ⟨G, hG⟩ : ∃ G, xs.take i ++ xs.drop (i + 1) = G := ⟨_, rfl⟩
          have HGL : Aside0 ((G.length : Int) = (xs.length : Int) - 1) := ⟨by rw [← hG, List.length_append, List.length_take, List.length_drop]; omega⟩
          have HG := Aside0.mk hG
          clear hG
          refine (deliver_in _ g3 (0) ((j : Int)) (xs) hO.out (i) (r) HI.out).mono ?_
          rintro e w161 ⟨Bx, dx, rfl, hrd161, hm161, hp161, hf161⟩
          have HDx : Aside0 ((r : List Int).length ≤ dx) := ⟨hrd161⟩
          have HMx := Aside0.mk hm161
          clear hrd161 hm161
          rw [show wrap64 (((j : Int) : Int) + 1) = ((j + 1 : Nat) : Int) from by unfold wrap64; omega] at hp161
          rw [show (xs).take (i) ++ (xs).drop (i + 1) = G from HG.out] at hp161
          have HB162 : Aside0 (Below W.heap.size W w161) := ⟨FR.after HW.out hf161 hO.out GE3.out⟩
          have HP162 : Aside0 (PAt w161 g3 (0) (((j + 1 : Nat) : Int)) (G)) := ⟨hp161⟩
          clear hf161 hp161
          go_wp2_with fail
          have hcellb := pw_cell_below HB162.out HC0.out
          have hsxb : (convert 34 9 (.slice Bx r.length dx)).run Try.prog w161.drew = .ok (.string (strOfNums r)) w161.drew := Kd.C_string (P := Try.prog) (c := dx) hu34 hu5 hu9 (Kd.C_drew (C_of_M HMx.out))
          have hsyb : (convert 34 9 (.slice B r.length cB)).run Try.prog w161.drew = .ok (.string (strOfNums r)) w161.drew := Kd.C_string (P := Try.prog) (c := cB) hu34 hu5 hu9 (Kd.C_drew (HCA.out _ HB162.out))
          have hli : decide ((i : Int) < (xs.length : Int)) = true := decide_eq_true (by omega)
          have hw6 : wrap64 ((xs.length : Int) - 1) = (xs.length : Int) - 1 := by unfold wrap64; omega
          refine start_ (n := 20) (S := fun w' => w'.cell? (ad0.add i) = some (.slice B r.length cB) ∧ (convert 34 9 (.slice Bx r.length dx)).run Try.prog w' = .ok (.string (strOfNums r)) w' ∧ (convert 34 9 (.slice B r.length cB)).run Try.prog w' = .ok (.string (strOfNums r)) w') (ds := []) #[false, false, false, false, false, false, false, false, false, false, false, false, false, false, false, false, false, false, false, false] (by kernel_rfl) rfl rfl ⟨hcellb, hsxb, hsyb⟩ (fun hHeld => ?_)
          refine pure_ (i := 0) (N := some 82) (v := ?_) (a' := ?_) #[true, false, false, false, false, false, false, false, false, false, false, false, false, false, false, false, false, false, false, false] rfl rfl (by kernel_rfl) (fun _ _ _ h => h) (Or.inl ⟨by rfl, ?_⟩) ?_ ?_
          rotate_left
          · intro w'
            go_simp
            with_reducible rfl
          rotate_left
          · simp only [Act.put, List.setIfInBounds_toArray, List.set_cons_zero, List.set_cons_succ, i64_w, i32_w]
            rfl
          refine pure_ (i := 1) (N := some 83) (v := ?_) (a' := ?_) #[true, true, false, false, false, false, false, false, false, false, false, false, false, false, false, false, false, false, false, false] rfl rfl (by kernel_rfl) (fun _ _ _ h => h) (Or.inl ⟨by rfl, ?_⟩) ?_ ?_
          rotate_left
          · intro w'
            go_simp
            with_reducible rfl
          rotate_left
          · simp only [Act.put, List.setIfInBounds_toArray, List.set_cons_zero, List.set_cons_succ, i64_w, i32_w]
            rfl
          refine pure_ (i := 2) (N := some 84) (v := ?_) (a' := ?_) #[true, true, true, false, false, false, false, false, false, false, false, false, false, false, false, false, false, false, false, false] rfl rfl (by kernel_rfl) (fun _ _ _ h => h) (Or.inl ⟨by rfl, ?_⟩) ?_ ?_
          rotate_left
          · intro w'
            go_simp
            with_reducible rfl
          rotate_left
          · simp only [Act.put, List.setIfInBounds_toArray, List.set_cons_zero, List.set_cons_succ, i64_w, i32_w]
            rfl
          refine pure_ (i := 4) (N := some 86) (v := ?_) (a' := ?_) #[true, true, true, false, true, false, false, false, false, false, false, false, false, false, false, false, false, false, false, false] rfl rfl (by kernel_rfl) (fun _ _ _ h => h) (Or.inl ⟨by rfl, ?_⟩) ?_ ?_
          rotate_left
          · intro w'
            go_simp
            with_reducible rfl
          rotate_left
          · simp only [Act.put, List.setIfInBounds_toArray, List.set_cons_zero, List.set_cons_succ, i64_w, i32_w]
            rfl
          refine pure_ (i := 5) (N := some 87) (v := ?_) (a' := ?_) #[true, true, true, false, true, true, false, false, false, false, false, false, false, false, false, false, false, false, false, false] rfl rfl (by kernel_rfl) (fun _ _ _ h => h) (Or.inl ⟨by rfl, ?_⟩) ?_ ?_
          rotate_left
          · intro w'
            go_simp
            with_reducible rfl
          rotate_left
          · simp only [Act.put, List.setIfInBounds_toArray, List.set_cons_zero, List.set_cons_succ, i64_w, i32_w]
            rfl
          refine pure_ (i := 6) (N := some 88) (v := ?_) (a' := ?_) #[true, true, true, false, true, true, true, false, false, false, false, false, false, false, false, false, false, false, false, false] rfl rfl (by kernel_rfl) (fun _ _ _ h => h) (Or.inl ⟨by rfl, ?_⟩) ?_ ?_
          rotate_left
          · intro w'
            go_simp
            with_reducible rfl
          rotate_left
          · simp only [Act.put, List.setIfInBounds_toArray, List.set_cons_zero, List.set_cons_succ, i64_w, i32_w]
            rfl
          refine take_ (i := 3) (N := some 85) (v := ?_) (a' := ?_) #[true, true, true, true, true, true, true, false, false, false, false, false, false, false, false, false, false, false, false, false] rfl rfl (by kernel_rfl) (fun _ _ _ h => h) (Or.inl ⟨by rfl, ?_⟩) hHeld ?_ ?_
          rotate_left
          · rintro w' ⟨s0, s1, s2⟩
            go_simp
            with_reducible rfl
          rotate_left
          · simp only [Act.put, List.setIfInBounds_toArray, List.set_cons_zero, List.set_cons_succ, i64_w, i32_w]
            rfl
          refine take_ (i := 7) (N := some 89) (v := ?_) (a' := ?_) #[true, true, true, true, true, true, true, true, false, false, false, false, false, false, false, false, false, false, false, false] rfl rfl (by kernel_rfl) (fun _ _ _ h => h) (Or.inl ⟨by rfl, ?_⟩) hHeld ?_ ?_
          rotate_left
          · rintro w' ⟨s0, s1, s2⟩
            go_simp
            with_reducible rfl
          rotate_left
          · simp only [Act.put, List.setIfInBounds_toArray, List.set_cons_zero, List.set_cons_succ, i64_w, i32_w]
            rfl
          refine take_ (i := 8) (N := some 90) (v := ?_) (a' := ?_) #[true, true, true, true, true, true, true, true, true, false, false, false, false, false, false, false, false, false, false, false] rfl rfl (by kernel_rfl) (fun _ _ _ h => h) (Or.inl ⟨by rfl, ?_⟩) hHeld ?_ ?_
          rotate_left
          · rintro w' ⟨s0, s1, s2⟩
            go_simp
            with_reducible rfl
          rotate_left
          · simp only [Act.put, List.setIfInBounds_toArray, List.set_cons_zero, List.set_cons_succ, i64_w, i32_w]
            rfl
          refine pure_ (i := 9) (N := some 91) (v := ?_) (a' := ?_) #[true, true, true, true, true, true, true, true, true, true, false, false, false, false, false, false, false, false, false, false] rfl rfl (by kernel_rfl) (fun _ _ _ h => h) (Or.inl ⟨by rfl, ?_⟩) ?_ ?_
          rotate_left
          · intro w'
            go_simp
            with_reducible rfl
          rotate_left
          · simp only [Act.put, List.setIfInBounds_toArray, List.set_cons_zero, List.set_cons_succ, i64_w, i32_w]
            rfl
          refine pure_ (i := 10) (N := some 92) (v := ?_) (a' := ?_) #[true, true, true, true, true, true, true, true, true, true, true, false, false, false, false, false, false, false, false, false] rfl rfl (by kernel_rfl) (fun _ _ _ h => h) (Or.inl ⟨by rfl, ?_⟩) ?_ ?_
          rotate_left
          · intro w'
            go_simp
            with_reducible rfl
          rotate_left
          · simp only [Act.put, List.setIfInBounds_toArray, List.set_cons_zero, List.set_cons_succ, i64_w, i32_w]
            rfl
          refine pure_ (i := 11) (N := some 93) (v := ?_) (a' := ?_) #[true, true, true, true, true, true, true, true, true, true, true, true, false, false, false, false, false, false, false, false] rfl rfl (by kernel_rfl) (fun _ _ _ h => h) (Or.inl ⟨by rfl, ?_⟩) ?_ ?_
          rotate_left
          · intro w'
            go_simp
            with_reducible rfl
          rotate_left
          · simp only [Act.put, List.setIfInBounds_toArray, List.set_cons_zero, List.set_cons_succ, i64_w, i32_w]
            rfl
          refine pure_ (i := 12) (N := some 94) (v := ?_) (a' := ?_) #[true, true, true, true, true, true, true, true, true, true, true, true, true, false, false, false, false, false, false, false] rfl rfl (by kernel_rfl) (fun _ _ _ h => h) (Or.inl ⟨by rfl, ?_⟩) ?_ ?_
          rotate_left
          · intro w'
            go_simp
            with_reducible rfl
          rotate_left
          · simp only [Act.put, List.setIfInBounds_toArray, List.set_cons_zero, List.set_cons_succ, i64_w, i32_w]
            rfl
          refine pure_ (i := 14) (N := some 96) (v := ?_) (a' := ?_) #[true, true, true, true, true, true, true, true, true, true, true, true, true, false, true, false, false, false, false, false] rfl rfl (by kernel_rfl) (fun _ _ _ h => h) (Or.inl ⟨by rfl, ?_⟩) ?_ ?_
          rotate_left
          · intro w'
            go_simp
            with_reducible rfl
          rotate_left
          · simp only [Act.put, List.setIfInBounds_toArray, List.set_cons_zero, List.set_cons_succ, i64_w, i32_w]
            rfl
          refine pure_ (i := 15) (N := some 97) (v := ?_) (a' := ?_) #[true, true, true, true, true, true, true, true, true, true, true, true, true, false, true, true, false, false, false, false] rfl rfl (by kernel_rfl) (fun _ _ _ h => h) (Or.inl ⟨by rfl, ?_⟩) ?_ ?_
          rotate_left
          · intro w'
            go_simp
            with_reducible rfl
          rotate_left
          · simp only [Act.put, List.setIfInBounds_toArray, List.set_cons_zero, List.set_cons_succ, i64_w, i32_w]
            rfl
          refine pure_ (i := 16) (N := some 98) (v := ?_) (a' := ?_) #[true, true, true, true, true, true, true, true, true, true, true, true, true, false, true, true, true, false, false, false] rfl rfl (by kernel_rfl) (fun _ _ _ h => h) (Or.inl ⟨by rfl, ?_⟩) ?_ ?_
          rotate_left
          · intro w'
            go_simp
            with_reducible rfl
          rotate_left
          · simp only [Act.put, List.setIfInBounds_toArray, List.set_cons_zero, List.set_cons_succ, i64_w, i32_w]
            rfl
          refine one_ (i := 13) (N := some 95) #[true, true, true, true, true, true, true, true, true, true, true, true, true, true, true, true, true, false, false, false] rfl rfl (by kernel_rfl) (by decide) (fun K hK => ?_)
          refine goes_ Try.func21 (by kernel_rfl) rfl #[.pointer (some ⟨g3, 0, none⟩)] (by rfl) rfl rfl (by simp only [List.map_toArray, List.map_cons, List.map_nil]; rfl) ?_
          with_reducible refine (len_lit _ g3 (0) (((j + 1 : Nat) : Int)) (G) (HP162.out.below (below_drew (Below.refl _ _))) ((xs.length : Int) - 1) HGL.out).mono ?_
          rintro e v13 ⟨rfl, hb13⟩
          refine ⟨_, rfl, ?_⟩
          have HB13 := Aside0.mk (below_step (below_drew (Below.refl _ w161)) hb13)
          have HBW := Aside0.mk (below_step HB162.out HB13.out)
          clear hb13
          refine hK.out _ _ ⟨pw_cell_below HB13.out hcellb, Kd.C_string (P := Try.prog) (c := dx) hu34 hu5 hu9 (C_of_M (Kd.M_below HMx.out HB13.out)), Kd.C_string (P := Try.prog) (c := cB) hu34 hu5 hu9 (HCA.out _ HBW.out)⟩ (fun hHeld => ?_)
          clear hK K
          refine norm_ (a' := ?_) ?_ ?_
          rotate_left
          · show Act.put _ (some 95) _ = _
            simp only [Act.put, List.setIfInBounds_toArray, List.set_cons_zero, List.set_cons_succ, i64_w, i32_w]
            rfl
          refine pure_ (i := 17) (N := some 99) (v := ?_) (a' := ?_) #[true, true, true, true, true, true, true, true, true, true, true, true, true, true, true, true, true, true, false, false] rfl rfl (by kernel_rfl) (fun _ _ _ h => h) (Or.inl ⟨by rfl, ?_⟩) ?_ ?_
          rotate_left
          · intro w'
            go_simp
            with_reducible rfl
          rotate_left
          · simp only [Act.put, List.setIfInBounds_toArray, List.set_cons_zero, List.set_cons_succ, i64_w, i32_w]
            rfl
          refine pure_ (i := 18) (N := some 100) (v := ?_) (a' := ?_) #[true, true, true, true, true, true, true, true, true, true, true, true, true, true, true, true, true, true, true, false] rfl rfl (by kernel_rfl) (fun _ _ _ h => h) (Or.inl ⟨by rfl, ?_⟩) ?_ ?_
          rotate_left
          · intro w'
            go_simp
            with_reducible rfl
          rotate_left
          · simp only [Act.put, List.setIfInBounds_toArray, List.set_cons_zero, List.set_cons_succ, i64_w, i32_w]
            rfl
          refine pure_ (i := 19) (N := some 6) (v := ?_) (a' := ?_) #[true, true, true, true, true, true, true, true, true, true, true, true, true, true, true, true, true, true, true, true] rfl rfl (by kernel_rfl) (fun _ _ _ h => h) (Or.inl ⟨by rfl, ?_⟩) ?_ ?_
          rotate_left
          · intro w'
            go_simp
            with_reducible rfl
          rotate_left
          · simp only [Act.put, List.setIfInBounds_toArray, List.set_cons_zero, List.set_cons_succ, i64_w, i32_w]
            rfl
          refine done_ (by kernel_rfl) ?_
          clear hcellb hsxb hsyb
          go_wp2_with fail
          go_ret
          exact ⟨rfl, HBW.out⟩
theorem copies_walk (w : World) (A0 : Option Addr) (c0 : Nat) (xs : List (List Int)) (hr : (Kd.slice 5 (Kd.int .u8)).C w A0 xs.length xs) (hc : xs.length ≤ c0) (hq : xs.length * Try.prog.bytesOf 34 ≤ 140737488351232 ∧ ∀ x ∈ xs, x.length * Try.prog.bytesOf 5 ≤ 140737488351232 ∧ ∀ y ∈ x, (Lit.int .u8 y).wf = true) (a : Int) (ha : (Lit.int .i64 a).wf = true) (b : Int) (hb : (Lit.int .i64 b).wf = true) : Calls Try.prog 8 #[.slice A0 xs.length c0, .int .i64 a, .int .i64 b] w fun e w' => e = .returned (.bool true) ∧ Below w.heap.size w w' := by
  have h5 : Try.prog.bytesOf 5 = 1 := by kernel_rfl
  refine copies_any w A0 c0 xs a b hr (fun r hr => ?_)
  have := (hq.2 r hr).1
  rw [h5] at this
  omega
end Go.Proofs.Ytnjhgckmfebdoaa.MAll

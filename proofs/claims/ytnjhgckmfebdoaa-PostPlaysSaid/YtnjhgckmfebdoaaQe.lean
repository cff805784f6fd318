/- A row's copy with two marks behind it: Over, Kept, Copy. -/
import Derived.Test.YtnjhgckmfebdoaaQd
set_option linter.unusedVariables false
set_option linter.unusedSimpArgs false
namespace Go.Proofs.Ytnjhgckmfebdoaa.MAll
open Go.RowKit Go.Proofs.YtnjhgckmfebdoaaW.PrintWords Go.Proofs.YtnjhgckmfebdoaaW.PrintLast Go.Proofs.YtnjhgckmfebdoaaW.PrintMore
attribute [local go_sem ↓] Go.wp_at_zero Go.wp_at_succ
theorem row_b5 {w : World} {base n c : Nat} {ok : Nat → Prop} {A : Option Addr} {xs : List Int} (h : kb.R 5 w base ok (.slice A n c) xs) (hn : 0 < n) : ∃ b, A = some ⟨b, 0, none⟩ ∧ base ≤ b ∧ (Value.slice A n c).ownBlock = some b := by
  obtain ⟨_, inner, ho, _⟩ := h
  rcases ho.2 with ⟨hv, hz⟩ | ⟨g, cap', cur, hv, _⟩
  · exfalso; injection hv with _ hv _; omega
  · injection hv with ha _ _
    subst ha
    exact ⟨g, rfl, own_base ho g rfl, rfl⟩
/-- The first cells of a row. -/
theorem R5_first {w : World} {base n m c : Nat} {ok : Nat → Prop} {b : Nat} {xs ys : List Int} (h : kb.R 5 w base ok (.slice (some ⟨b, 0, none⟩) m c) (xs ++ ys)) (hn : n = xs.length) (hm : m = (xs ++ ys).length) : kb.R 5 w base ok (.slice (some ⟨b, 0, none⟩) n c) xs := by
  subst hn hm
  have ho := own_first (Kd.own_of_R h) xs.length (by simp)
  refine Kd.R_of_own ?_ (fun k hk => h.1 k hk)
  unfold encs at ho ⊢
  rw [List.map_append, List.take_left' (by simp)] at ho
  exact ho
set_option maxHeartbeats 4000000 in
set_option maxRecDepth 100000 in
theorem over_c (W : World) (base : Nat) (B : Option Addr) (d : Nat) (n : Nat) (xs : List Int) (h : kb.R 5 W base (fun _ => True) (.slice B n d) xs) (hn : n < 140737488351233) :
    Calls Try.prog 16 #[.slice B n d] W fun e w' => e = .returned (.tuple #[]) ∧ W.grownBy w' (Value.slice B n d).ownBlock := by
  have hu34 := Try.underlying34
  have HR0 := Aside0.mk h
  clear h
  go_enter Try.func16, Try.ntmps16
  go_wp2_with fail
  go_loopw [5] (fun v5 w' => ∃ (i : Nat) (ys : List Int), i ≤ n ∧ v5 = .int .i64 i ∧ Aside0 (kb.R 5 w' base (fun _ => True) (.slice B n d) ys) ∧ Aside0 (W.grownBy w' (Value.slice B n d).ownBlock)) (fun v _ => n - (intOf v).toNat)
  case atStart => exact ⟨0, xs, by omega, rfl, HR0, ⟨grown_refl _ _⟩⟩
  case round =>
    clear HR0
    obtain ⟨i, ys, hi, rfl, HR, HG⟩ := hrel
    by_cases hlt : i < n
    case neg =>
      go_wp2_with fail
      go_end0
      exact ⟨rfl, HG.out⟩
    obtain ⟨b, rfl, hbb, hob⟩ := row_b5 HR.out (by omega)
    obtain ⟨hc0, hf0⟩ := Kd.R_celln 0 HR.out (i : Int) (by omega) (by omega)
    rw [Int.toNat_natCast] at hc0 hf0
    obtain ⟨x0, hx0⟩ : ∃ x, rdOf 0 ys (i : Int) = x := ⟨_, rfl⟩
    rw [hx0] at hc0
    clear hx0
    have HBB := Aside0.mk (And.intro hbb hob)
    clear hbb hob
    go_wp2_with fail
    go_roundw
    case rel => exact ⟨i + 1, ys.set i _, by omega, by go_num, ⟨Kd.R_putn HR.out (i : Int) _⟩, ⟨HG.out.trans (by rw [HBB.out.2]; exact (Kd.R_putg HR.out (i : Int) _).2)⟩⟩
    case measure => simp [intOf]; omega
theorem str_eq (s : ByteArray) : (!decide (s = s)) = false := by rw [decide_eq_true rfl]; rfl
set_option maxHeartbeats 4000000 in
set_option maxRecDepth 100000 in
theorem kept_c (W : World) (base : Nat) (b d : Nat) (r : List Int) (h : kb.R 5 W base (fun _ => True) (.slice (some ⟨b, 0, none⟩) (r.length + 2) d) (r ++ [165, 90])) (B2 : Option Addr) (c2 : Nat) (h2 : kb.C W B2 r.length r) (hn : r.length < 140737488351233) :
    Calls Try.prog 15 #[.slice (some ⟨b, 0, none⟩) r.length d, .slice B2 r.length c2] W fun e w' => e = .returned (.bool true) ∧ Below W.heap.size W w' := by
  have hu34 := Try.underlying34
  have hu5 := Try.underlying5
  have hu9 := Try.underlying9
  have hcap : r.length + 2 ≤ d := (Kd.R_reads' h).2.1
  have hf := R5_first (n := r.length) h rfl (by simp)
  have hs1 : (convert 34 9 (.slice (some ⟨b, 0, none⟩) r.length d)).run Try.prog W = .ok (.string (strOfNums r)) W := Kd.C_string (P := Try.prog) (c := d) hu34 hu5 hu9 (by obtain ⟨e, _, h⟩ := Kd.R_reads' hf; exact h)
  have hs2 : (convert 34 9 (.slice B2 r.length c2)).run Try.prog W = .ok (.string (strOfNums r)) W := Kd.C_string (P := Try.prog) (c := c2) hu34 hu5 hu9 h2
  have hq := str_eq (strOfNums r)
  obtain ⟨z1, _⟩ := Kd.R_celln 0 h (r.length : Int) (by omega) (by omega)
  obtain ⟨z2, _⟩ := Kd.R_celln 0 h ((r.length + 1 : Nat) : Int) (by omega) (by omega)
  rw [Int.toNat_natCast, show rdOf 0 (r ++ [165, 90]) (r.length : Int) = 165 from by simp [rdOf, List.getD_eq_getElem?_getD]] at z1
  rw [Int.toNat_natCast, show rdOf 0 (r ++ [165, 90]) ((r.length + 1 : Nat) : Int) = 90 from by simp [rdOf, List.getD_eq_getElem?_getD]] at z2
  have hw1 : wrap64 ((r.length : Int) + 1) = ((r.length + 1 : Nat) : Int) := by unfold wrap64; omega
  have hw2 : wrap64 ((r.length : Int) + 2) = ((r.length + 2 : Nat) : Int) := by unfold wrap64; omega
  have hd : decide (d < r.length + 2) = false := decide_eq_false (by omega)
  have hd2 : decide ((d : Int) < ((r.length + 2 : Nat) : Int)) = false := decide_eq_false (by omega)
  clear h hf h2
  go_enter Try.func15, Try.ntmps15
  go_wp2_with fail
  go_ret
  exact ⟨rfl, Below.refl _ _⟩
theorem made_R5 (W : World) (base n : Nat) (hb : base ≤ W.heap.size) (hn : n ≤ 9223372036854775807) : kb.R 5 (W.alloc (.cells (madeCells #[.int .u8 0] n) 5)) base (fun _ => True) (.slice (some ⟨W.heap.size, 0, none⟩) 0 n) [] :=
  Kd.R_of_own (World.ownsRow_made W _ _ hb (by simpa [maxLen] using hn) (by rw [size_madeCells]; simp)) (fun _ _ => trivial)
theorem lit5_C {W : World} {g : Nat} (h : W.heap[g]? = some (.cells #[.int .u8 165, .int .u8 90] 5 (0, 0))) : kb.C W (some ⟨g, 0, none⟩) 2 [165, 90] :=
  Kd.C_of_reads (d := 0) ⟨rfl, by decide, fun _ => ⟨_, rfl, fun j hj => by
    have hj : j = 0 ∨ j = 1 := by omega
    rcases hj with rfl | rfl <;> (rw [add_plain]; exact (blk_cell h _).trans rfl)⟩⟩
theorem len2 (r : List Int) : (r ++ [165, 90]).length = r.length + 2 := by rw [List.length_append]; rfl
set_option maxHeartbeats 4000000 in
set_option maxRecDepth 100000 in
theorem copy12 (W : World) (A0 : Option Addr) (c0 : Nat) (r : List Int) (h : kb.C W A0 r.length r) (hc : r.length ≤ c0) (hn : r.length < 140737488351233) :
    Calls Try.prog 12 #[.slice A0 r.length c0] W fun e w' => ∃ b d, e = .returned (.slice (some ⟨b, 0, none⟩) r.length d) ∧ W.heap.size ≤ b ∧ kb.R 5 w' W.heap.size (fun _ => True) (.slice (some ⟨b, 0, none⟩) (r.length + 2) d) (r ++ [165, 90]) ∧ Below W.heap.size W w' := by
  have hu34 := Try.underlying34
  have HR := Aside0.mk h
  clear h
  have hmk := Go.run_make_room (P := Try.prog) 34 5 (.int .u8 0) 1 Try.underlying34 info5' rfl .i64 .i64 (r.length + 2) (by omega) (by omega)
  rw [show ((r.length + 2 : Nat) : Int) = (r.length : Int) + 2 by omega] at hmk
  have hw2 : wrap64 ((r.length : Int) + 2) = (r.length : Int) + 2 := by unfold wrap64; omega
  go_enter Try.func12, Try.ntmps12
  go_wp2_with (first
    | (at_builtin; refine Kd.R_append_row (Value.int .u8) 0 (h1 := fun _ => rfl) (w0 := W) W.heap.size rfl (.tmp 6) (.tmp 7) 34 5 (.int .u8 0) 1 rfl Try.underlying34 info5' rfl (by decide) (.slice (some ⟨W.heap.size, 0, none⟩) 0 (r.length + 2)) [] r A0 r.length c0 (fun _ => True) rfl rfl (fun _ _ => trivial) ?aO ?aR ?aB ?aS ?aL ?_; (case aO => exact made_R5 W _ _ (Nat.le_refl _) (by omega)); (case aR => exact Kd.C_alloc HR.out _); (case aB => exact below_alloc (Below.refl _ _) _); (case aS => simp); (case aL => simp; omega); intro v1 w1 ho hb hg hat; rw [List.nil_append] at ho; obtain ⟨B1, c1, rfl⟩ := Kd.R_slice ho; have HO := Aside0.mk ho; have HB := Aside0.mk hb; clear ho hb hg hat)
    | (at_builtin; refine Kd.R_append_row (Value.int .u8) 0 (h1 := fun _ => rfl) (w0 := W) W.heap.size rfl (.tmp 8) (.tmp 9) 34 5 (.int .u8 0) 1 rfl Try.underlying34 info5' rfl (by decide) (.slice B1 r.length c1) r [165, 90] (some ⟨w1.heap.size, 0, none⟩) 2 2 (fun _ => True) rfl rfl (fun _ _ => trivial) ?aO ?aR ?aB ?aS ?aL ?_; (case aO => exact Kd.R_alloc HO.out _); (case aR => exact lit5_C (blk_new w1 _)); (case aB => exact below_alloc HB.out _); (case aS => have := HB.out.size; simp; omega); (case aL => simp; omega); intro v2 w2 ho2 hb2 hg2 hat2; obtain ⟨B2, c2, hv2⟩ := Kd.R_slice ho2; rw [len2] at hv2; subst hv2; obtain ⟨b2, hB2, hbb2, _⟩ := row_b5 ho2 (by omega); subst hB2; have HO2 := Aside0.mk ho2; have HB2 := Aside0.mk hb2; have HBB := Aside0.mk hbb2; have hc2 : r.length + 2 ≤ c2 := (Kd.R_reads' ho2).2.1; clear ho2 hb2 hg2 hat2 hbb2))
  go_ret
  exact ⟨b2, c2, rfl, HBB.out, HO2.out, HB2.out⟩
end Go.Proofs.Ytnjhgckmfebdoaa.MAll

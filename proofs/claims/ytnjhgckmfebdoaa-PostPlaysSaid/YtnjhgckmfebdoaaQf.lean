/- The reference's post: Send, Take. -/
import Derived.Test.YtnjhgckmfebdoaaQe
set_option linter.unusedVariables false
set_option linter.unusedSimpArgs false
namespace Go.Proofs.Ytnjhgckmfebdoaa.MAll
open Go.RowKit Go.Proofs.YtnjhgckmfebdoaaW.PrintWords Go.Proofs.YtnjhgckmfebdoaaW.PrintLast Go.Proofs.YtnjhgckmfebdoaaW.PrintMore
attribute [local go_sem ↓] Go.wp_at_zero Go.wp_at_succ
abbrev kS : Kd ByteArray := Kd.scalar Value.string (fun _ => rfl)
theorem info9' : (Try.prog.info? 9).map (fun i => (i.zero, i.size, i.bytes)) = some (some (.string ByteArray.empty), 1, 16) := by kernel_rfl
theorem len1 (ss : List ByteArray) (s : ByteArray) : (ss ++ [s]).length = ss.length + 1 := by rw [List.length_append]; rfl
theorem one_C {W : World} {g : Nat} {s : ByteArray} (h : W.heap[g]? = some (.cells #[.string s] 9 (0, 0))) : kS.C W (some ⟨g, 0, none⟩) 1 [s] :=
  Kd.C_of_reads (d := ByteArray.empty) ⟨rfl, by decide, fun _ => ⟨_, rfl, fun j hj => by
    obtain rfl : j = 0 := by omega
    rw [add_plain]
    exact (blk_cell h 0).trans rfl⟩⟩
theorem below_up {W : World} {b : Nat} {o : Obj} (h : b ≤ W.heap.size) : Below b W (W.alloc o) :=
  have hb := below_alloc (Below.refl W.heap.size W) o
  ⟨hb.os, hb.tape, hb.output, hb.size, fun k hk => hb.block k (by omega)⟩
theorem blk_fr' {W w : World} {q g t : Nat} {cs : Array Value} {lost taken : Int} {rows : List (List Int)} (hq : W.heap[q]? = some (.cells cs t (0, 0))) (hP : PAt W g lost taken rows) (ht : t ≠ 54 ∧ t ≠ 34) (hf : FR g W w) : w.heap[q]? = some (.cells cs t (0, 0)) := by
  refine (hf.block q (blk_lt hq) ?_ ?_).trans hq
  · obtain ⟨A, c, hB, _⟩ := hP
    exact blk_ne hq hB ht.1
  · obtain ⟨A, c, hB, ⟨_, inner, ho, _⟩, _⟩ := hP
    rw [ownB_of hB]
    intro e
    obtain ⟨cells, hc⟩ := own_typed ho q e.symm
    exact blk_ne hq hc ht.2 rfl
theorem row_bS {w : World} {base n c : Nat} {ok : Nat → Prop} {A : Option Addr} {xs : List ByteArray} (h : kS.R 9 w base ok (.slice A n c) xs) (hn : 0 < n) : ∃ b, A = some ⟨b, 0, none⟩ ∧ base ≤ b ∧ (Value.slice A n c).ownBlock = some b := by
  obtain ⟨_, inner, ho, _⟩ := h
  rcases ho.2 with ⟨hv, hz⟩ | ⟨g, cap', cur, hv, _⟩
  · exfalso; injection hv with _ hv _; omega
  · injection hv with ha _ _
    subst ha
    exact ⟨g, rfl, own_base ho g rfl, rfl⟩
def MH (W : World) (g : Nat) (ss : List ByteArray) (lost taken : Int) : Prop :=
  ∃ A c, W.heap[g]? = some (.cells #[.slice A ss.length c, .int .i64 lost, .int .i64 taken] 30 (0, 0)) ∧ kS.R 9 W (g + 1) (fun _ => True) (.slice A ss.length c) ss ∧ ss.length ≤ 4096
theorem MH.below {W W1 : World} {g : Nat} {ss : List ByteArray} {lost taken : Int} (h : MH W g ss lost taken) (hb : Below W.heap.size W W1) : MH W1 g ss lost taken := by
  obtain ⟨A, c, h1, h2, h3⟩ := h
  exact ⟨A, c, blk_below h1 hb, Kd.R_below h2 hb, h3⟩
theorem MH.lt {W : World} {g : Nat} {ss : List ByteArray} {lost taken : Int} (h : MH W g ss lost taken) : g < W.heap.size := by
  obtain ⟨A, c, h1, _⟩ := h
  exact blk_lt h1
/-- What the reference writes: its own block and rows of strings. -/
structure FRS (g : Nat) (W w : World) : Prop where
  below : Below g W w
  block : ∀ (k : Nat) (cs : Array Value) (t : Nat), W.heap[k]? = some (Obj.cells cs t (0, 0)) → t ≠ 30 → t ≠ 9 → w.heap[k]? = W.heap[k]?
theorem FRS.trans {g : Nat} {W w1 w2 : World} (h : FRS g W w1) (h2 : FRS g w1 w2) : FRS g W w2 :=
  ⟨h.below.trans h2.below, fun k cs t hk h78 h22 => (h2.block k cs t ((h.block k cs t hk h78 h22).trans hk) h78 h22).trans (h.block k cs t hk h78 h22)⟩
theorem FRS.of_below {g : Nat} {W w : World} (hg : g ≤ W.heap.size) (h : Below W.heap.size W w) : FRS g W w :=
  ⟨⟨h.os, h.tape, h.output, h.size, fun k hk => h.block k (by omega)⟩, fun k cs t hk _ _ => h.block k (blk_lt hk)⟩
theorem FRS.after {g : Nat} {W w w2 : World} (hB : Below W.heap.size W w) (hF : FRS g w w2) (hg : W.heap.size ≤ g) : Below W.heap.size W w2 :=
  have h := hF.below
  ⟨h.os.trans hB.os, h.tape.trans hB.tape, h.output.trans hB.output, Nat.le_trans hB.size h.size, fun k hk => (h.block k (Nat.lt_of_lt_of_le hk hg)).trans (hB.block k hk)⟩
theorem FRS.of_set {g : Nat} {W w2 w : World} {cs : Array Value} (h : W.heap[g]? = some (.cells cs 30 (0, 0))) (hb : Below W.heap.size W w2) (hs : w2.grownBy w (some g)) : FRS g W w := by
  have hlt := blk_lt h
  refine ⟨⟨hs.os.trans hb.os, hs.tape.trans hb.tape, hs.output.trans hb.output, Nat.le_trans hb.size hs.size, fun k hk => ?_⟩, fun k cs t hk h30 h9 => ?_⟩
  · exact (hs.block k (Nat.lt_of_lt_of_le (Nat.lt_trans hk hlt) hb.size) (fun e => by injection e with e; omega)).trans (hb.block k (Nat.lt_trans hk hlt))
  · exact (hs.block k (Nat.lt_of_lt_of_le (blk_lt hk) hb.size) (fun e => blk_ne hk h h30 (by injection e))).trans (hb.block k (blk_lt hk))
theorem FRS.made {g : Nat} {W w2 w : World} {A : Option Addr} {n c : Nat} {a1 a2 : Value} {ss : List ByteArray} (h : W.heap[g]? = some (.cells #[.slice A n c, a1, a2] 30 (0, 0))) (hR : kS.R 9 W (g + 1) (fun _ => True) (.slice A n c) ss) (hg : W.grownBy w2 (Value.slice A n c).ownBlock) (hs : w2.grownBy w (some g)) : FRS g W w := by
  obtain ⟨_, inner, ho, _⟩ := hR
  have hlt := blk_lt h
  refine ⟨⟨hs.os.trans hg.os, hs.tape.trans hg.tape, hs.output.trans hg.output, Nat.le_trans hg.size hs.size, fun k hk => ?_⟩, fun k cs t hk h78 h22 => ?_⟩
  · refine (hs.block k (Nat.lt_of_lt_of_le (Nat.lt_trans hk hlt) hg.size) (fun e => by injection e with e; omega)).trans (hg.block k (Nat.lt_trans hk hlt) (fun e => ?_))
    have := own_base ho k e.symm
    omega
  · have hkl := blk_lt hk
    refine (hs.block k (Nat.lt_of_lt_of_le hkl hg.size) (fun e => blk_ne hk h h78 (by injection e))).trans (hg.block k hkl (fun e => ?_))
    obtain ⟨cells, hc⟩ := own_typed ho k e.symm
    exact blk_ne hk hc h22 rfl
theorem PH.frs {W W1 : World} {g g' : Nat} {lost taken : Int} {hs : List Hd} {rows : List (List Int)} (h : PH W g lost taken hs rows) (hf : FRS g' W W1) : PH W1 g lost taken hs rows := by
  obtain ⟨A, c, h1, h2, h3, h4, h5⟩ := h
  refine ⟨A, c, (hf.block g _ 54 h1 (by decide) (by decide)).trans h1, ?_, h3, ⟨h4.1, fun j a r ha hr => ⟨(h4.2 j a r ha hr).1, ?_, (h4.2 j a r ha hr).2.2⟩⟩, h5⟩
  · refine Kd.R_mono (Kd.R_move (Kd.R_bound h2) (fun k hk => ?_)) (fun _ _ => trivial)
    obtain ⟨_, _, _, q, hq, cells, hc⟩ := hk
    have hq34 : q = 34 := by simpa [Kd.scalar] using hq
    subst hq34
    exact hf.block k cells 34 hc (by decide) (by decide)
  · refine Kd.R_mono (Kd.R_move (Kd.R_bound (h4.2 j a r ha hr).2.1) (fun k hk => ?_)) (fun _ _ => trivial)
    obtain ⟨_, _, _, q, hq, cells, hc⟩ := hk
    have hq5 : q = 5 := by simpa [Kd.int, Kd.scalar] using hq
    subst hq5
    exact hf.block k cells 5 hc (by decide) (by decide)
theorem MH.move {W w : World} {g : Nat} {ss : List ByteArray} {lost taken : Int} (h : MH W g ss lost taken) (hm : ∀ (k : Nat) (cs : Array Value) (t : Nat), W.heap[k]? = some (Obj.cells cs t (0, 0)) → t = 30 ∨ t = 9 → w.heap[k]? = W.heap[k]?) : MH w g ss lost taken := by
  obtain ⟨A, c, h1, h2, h3⟩ := h
  refine ⟨A, c, (hm g _ 30 h1 (.inl rfl)).trans h1, ?_, h3⟩
  refine Kd.R_mono (Kd.R_move (Kd.R_bound h2) (fun k hk => ?_)) (fun _ _ => trivial)
  obtain ⟨_, _, _, q, hq, cells, hc⟩ := hk
  have hq9 : q = 9 := by simpa [kS, Kd.scalar] using hq
  subst hq9
  exact hm k cells 9 hc (.inr rfl)
theorem MH.fr {W w : World} {g g' : Nat} {ss : List ByteArray} {lost taken : Int} {l t : Int} {rows : List (List Int)} (h : MH W g ss lost taken) (hP : PAt W g' l t rows) (hf : FR g' W w) : MH w g ss lost taken := by
  refine h.move (fun k cs ty hk hty => (blk_fr' hk hP (by rcases hty with rfl | rfl <;> decide) hf).trans hk.symm)
theorem MH.r5 {W w : World} {g : Nat} {ss : List ByteArray} {lost taken : Int} {base : Nat} {v : Value} {xs : List Int} (h : MH W g ss lost taken) (hR : kb.R 5 W base (fun _ => True) v xs) (hg : W.grownBy w v.ownBlock) : MH w g ss lost taken := by
  refine h.move (fun k cs ty hk hty => hg.block k (blk_lt hk) (fun e => ?_))
  obtain ⟨inner, ho⟩ := Kd.R_own hR
  obtain ⟨cells, hc⟩ := own_typed ho k e.symm
  exact blk_ne hk hc (by rcases hty with rfl | rfl <;> decide) rfl
/-- The reference's Send. -/
def sendM (s : Int × List ByteArray) (r : ByteArray) : Int × List ByteArray := if 4096 ≤ s.2.length then (wrap64 (s.1 + 1), s.2) else (s.1, s.2 ++ [r])
set_option maxHeartbeats 4000000 in
set_option maxRecDepth 100000 in
theorem rsend_c (W : World) (g : Nat) (ss : List ByteArray) (lost taken : Int) (h : MH W g ss lost taken) (s : ByteArray) :
    Calls Try.prog 13 #[.pointer (some ⟨g, 0, none⟩), .string s] W fun e w' => e = .returned (.tuple #[]) ∧ MH w' g (sendM (lost, ss) s).2 (sendM (lost, ss) s).1 taken ∧ FRS g W w' := by
  have hu27 := Try.underlying27
  have hu28 := Try.underlying28
  have hu30 := Try.underlying30
  obtain ⟨A, c, hB0, hR0, hok⟩ := h
  have BP0 := Aside0.mk hB0
  have HR0 := Aside0.mk hR0
  have z0 : W.cell? ⟨g, 0, none⟩ = some (.slice A ss.length c) := (blk_cell BP0.out 0).trans rfl
  have z1 : W.cell? ⟨g, 1, none⟩ = some (.int .i64 lost) := (blk_cell BP0.out 1).trans rfl
  have z2 : W.cell? ⟨g, 2, none⟩ = some (.int .i64 taken) := (blk_cell BP0.out 2).trans rfl
  clear hB0 hR0
  by_cases h4 : 4096 ≤ ss.length
  case pos =>
    have zf := blk_frozen BP0.out 1
    go_enter Try.func13, Try.ntmps13
    go_wp2_with fail
    first | go_end0 | ((try simp only [Exit.inBlock, Exit.then]); refine bodyPost_ret (results_none rfl _ _ _) rfl ?_)
    unfold sendM
    rw [if_pos h4]
    exact ⟨rfl, ⟨A, c, blk_put (cs := #[.slice A ss.length c, .int .i64 lost, .int .i64 taken]) BP0.out 1 _ rfl, Kd.R_set HR0.out BP0.out (by decide) 1 _, hok⟩, FRS.of_set BP0.out (Below.refl _ _) (grown_set _ _ _ _)⟩
  case neg =>
    have HSZ := Aside0.mk (show g + 1 ≤ W.heap.size from blk_lt BP0.out)
    go_enter Try.func13, Try.ntmps13
    go_wp2_with (at_builtin; refine Kd.R_append_row Value.string ByteArray.empty (h1 := fun _ => rfl) (w0 := W) (g + 1) rfl (.tmp 22) (.tmp 24) 28 9 (.string ByteArray.empty) 16 rfl Try.underlying28 info9' rfl (by decide) (.slice A ss.length c) ss [s] (some ⟨W.heap.size, 0, none⟩) 1 1 (fun _ => True) rfl rfl (fun _ _ => trivial) ?aO ?aR ?aB ?aS ?aL ?_; (case aO => exact Kd.R_alloc HR0.out _); (case aR => exact one_C (blk_new W _)); (case aB => exact below_up HSZ.out); (case aS => rw [World.size_alloc]; exact Nat.le_succ_of_le HSZ.out); (case aL => omega); intro v1 w1 ho hb hg hat; obtain ⟨B1, c1, hv1⟩ := Kd.R_slice ho; rw [len1] at hv1; subst hv1; have HO := Aside0.mk ho; have HB := Aside0.mk hb; have HG := Aside0.mk hg; have BP1 : Aside0 (w1.heap[g]? = some (.cells #[.slice A ss.length c, .int .i64 lost, .int .i64 taken] 30 (0, 0))) := ⟨blk_grown (blk_alloc BP0.out _) hg (Kd.R_ne HR0.out BP0.out (by decide))⟩; have k1 : w1.cell? ⟨g, 0, none⟩ = some (.slice A ss.length c) := (blk_cell BP1.out 0).trans rfl; have f1 := blk_frozen BP1.out 0; clear ho hb hg hat z0 z1 z2)
    first | go_end0 | ((try simp only [Exit.inBlock, Exit.then]); refine bodyPost_ret (results_none rfl _ _ _) rfl ?_)
    unfold sendM
    rw [if_neg h4]
    have hl := len1 ss s
    refine ⟨rfl, ⟨B1, c1, by rw [hl]; exact blk_put (cs := #[.slice A ss.length c, .int .i64 lost, .int .i64 taken]) BP1.out 0 _ rfl, by rw [hl]; exact Kd.R_set HO.out BP1.out (by decide) 0 _, by rw [hl]; omega⟩, ?_⟩
    exact FRS.trans (FRS.of_below (Nat.le_of_succ_le HSZ.out) (below_alloc (Below.refl _ _) _)) (FRS.made (blk_alloc BP0.out _) (Kd.R_alloc HR0.out _) HG.out (grown_set _ _ _ _))
/-! Take -/
def rst (ss : List ByteArray) (n : Int) : Nat → List ByteArray × ByteArray × Bool
  | 0 => ([], ByteArray.empty, false)
  | k + 1 => if (k : Int) = n then ((rst ss n k).1, rdOf ByteArray.empty ss (k : Int), true) else ((rst ss n k).1 ++ [rdOf ByteArray.empty ss (k : Int)], (rst ss n k).2)
theorem rst_len (ss : List ByteArray) (n : Int) (k : Nat) : (rst ss n k).1.length ≤ k := by
  induction k with
  | zero => simp [rst]
  | succ k ih =>
    unfold rst
    split
    · exact Nat.le_succ_of_le ih
    · rw [len1]; omega
theorem rd_at (ss : List ByteArray) (k : Nat) (hk : k < ss.length) : rdOf ByteArray.empty ss (k : Int) = ss[k] := by simp [rdOf, List.getD_eq_getElem?_getD, List.getElem?_eq_getElem hk]
theorem take_succ' (ss : List ByteArray) (k : Nat) (hk : k < ss.length) : ss.take (k + 1) = ss.take k ++ [rdOf ByteArray.empty ss (k : Int)] := by rw [List.take_add_one, List.getElem?_eq_getElem hk, rd_at ss k hk]; rfl
theorem rst_out (ss : List ByteArray) (n : Int) (hn : n < 0 ∨ (ss.length : Int) ≤ n) (k : Nat) (hk : k ≤ ss.length) : rst ss n k = (ss.take k, ByteArray.empty, false) := by
  induction k with
  | zero => simp [rst]
  | succ k ih =>
    unfold rst
    rw [if_neg (by omega), ih (by omega), take_succ' ss k (by omega)]
theorem rst_in (ss : List ByteArray) (i : Nat) (hi : i < ss.length) (k : Nat) (hk : k ≤ ss.length) : rst ss (i : Int) k = if k ≤ i then (ss.take k, ByteArray.empty, false) else (ss.take i ++ (ss.take k).drop (i + 1), ss[i], true) := by
  induction k with
  | zero => simp [rst]
  | succ k ih =>
    have ih := ih (by omega)
    by_cases h1 : k < i
    · rw [if_pos (show k ≤ i by omega)] at ih
      unfold rst
      rw [if_neg (by omega), ih, if_pos (show k + 1 ≤ i by omega), take_succ' ss k (by omega)]
    · by_cases h2 : k = i
      · subst h2
        rw [if_pos (Nat.le_refl _)] at ih
        unfold rst
        rw [if_pos rfl, ih, if_neg (by omega), List.drop_eq_nil_of_le (by rw [List.length_take]; omega), List.append_nil, rd_at ss k hi]
      · rw [if_neg (by omega)] at ih
        unfold rst
        rw [if_neg (by omega), ih, if_neg (by omega), take_succ' ss k (by omega), List.drop_append_of_le_length (by rw [List.length_take]; omega), List.append_assoc]
set_option maxHeartbeats 4000000 in
set_option maxRecDepth 100000 in
theorem rtake_c (W : World) (g : Nat) (ss : List ByteArray) (lost taken : Int) (h : MH W g ss lost taken) (n : Int) :
    Calls Try.prog 17 #[.pointer (some ⟨g, 0, none⟩), .int .i64 n] W fun e w' => e = .returned (.tuple #[.string (rst ss n ss.length).2.1, .bool (rst ss n ss.length).2.2]) ∧ MH w' g (rst ss n ss.length).1 lost taken ∧ FRS g W w' := by
  have hu27 := Try.underlying27
  have hu28 := Try.underlying28
  have hu30 := Try.underlying30
  obtain ⟨A, c, hB0, hR0, hok⟩ := h
  have BP0 := Aside0.mk hB0
  have HR0 := Aside0.mk hR0
  have HSZ := Aside0.mk (show g + 1 ≤ W.heap.size from blk_lt BP0.out)
  clear hB0 hR0
  go_enter Try.func17, Try.ntmps17
  go_wp2_with fail
  go_loopw [9, 6, 7, 8] (fun v9 v6 v7 v8 w' => ∃ (k : Nat) (B : Option Addr) (d : Nat), k ≤ ss.length ∧ v9 = .int .i64 k ∧ v6 = .slice B (rst ss n k).1.length d ∧ v7 = .string (rst ss n k).2.1 ∧ v8 = .bool (rst ss n k).2.2 ∧ Aside0 (kS.R 9 w' W.heap.size (fun _ => True) (.slice B (rst ss n k).1.length d) (rst ss n k).1) ∧ Aside0 (Below W.heap.size W w')) (fun v _ _ _ _ => ss.length - (intOf v).toNat)
  case atStart => exact ⟨0, none, 0, by omega, rfl, rfl, rfl, rfl, ⟨Kd.R_nil _ _ _ _ _⟩, ⟨Below.refl _ _⟩⟩
  case round =>
    obtain ⟨k, B, d, hk, rfl, rfl, rfl, rfl, HO, HW⟩ := hrel
    have BPk : Aside0 (wr.heap[g]? = some (.cells #[.slice A ss.length c, .int .i64 lost, .int .i64 taken] 30 (0, 0))) := ⟨blk_below BP0.out HW.out⟩
    have HRk := Aside0.mk (Kd.R_below HR0.out HW.out)
    have z0 : wr.cell? ⟨g, 0, none⟩ = some (.slice A ss.length c) := (blk_cell BPk.out 0).trans rfl
    have HST := Aside0.mk (show rst ss n (k + 1) = _ from rst.eq_2 ss n k)
    have HLN := Aside0.mk (rst_len ss n k)
    obtain ⟨q, hq⟩ : ∃ q, rst ss n k = q := ⟨_, rfl⟩
    rw [hq] at HO HST HLN
    by_cases hlt : k < ss.length
    case neg =>
      have hke : k = ss.length := by omega
      subst hke
      have HQ := Aside0.mk hq
      rw [hq]
      clear hq HST
      have zf := blk_frozen BPk.out 0
      go_wp2_with fail
      go_ret2
      rw [HQ.out]
      refine ⟨rfl, ⟨B, d, blk_put (cs := #[.slice A ss.length c, .int .i64 lost, .int .i64 taken]) BPk.out 0 _ rfl, Kd.R_lower (Kd.R_set HO.out BPk.out (by decide) 0 _) HSZ.out, by have := HLN.out; omega⟩, FRS.of_set BP0.out HW.out (grown_set _ _ _ _)⟩
    rw [hq]
    clear hq
    obtain ⟨b, rfl, _, _⟩ := row_bS HRk.out (by omega)
    obtain ⟨hc0, _⟩ := Kd.R_celln ByteArray.empty HRk.out (k : Int) (by omega) (by omega)
    rw [Int.toNat_natCast] at hc0
    obtain ⟨x0, hx0⟩ : ∃ x, rdOf ByteArray.empty ss (k : Int) = x := ⟨_, rfl⟩
    rw [hx0] at hc0 HST
    clear hx0
    by_cases he : (k : Int) = n
    case pos =>
      rw [if_pos he] at HST
      have heb : ((k : Int) == n) = true := by simp [he]
      clear he
      go_wp2_with fail
      go_roundw
      case rel => exact ⟨k + 1, B, d, by omega, by go_num, by rw [HST.out], by rw [HST.out], by rw [HST.out], by rw [HST.out]; exact HO, HW⟩
      case measure => simp [intOf]; omega
    rw [if_neg he] at HST
    have heb : ((k : Int) == n) = false := beq_eq_false_iff_ne.2 he
    clear he
    go_wp2_with (at_builtin; refine Kd.R_append_row Value.string ByteArray.empty (h1 := fun _ => rfl) (w0 := W) W.heap.size rfl (.tmp 29) (.tmp 37) 28 9 (.string ByteArray.empty) 16 rfl Try.underlying28 info9' rfl (by decide) (.slice B q.1.length d) q.1 [x0] (some ⟨wr.heap.size, 0, none⟩) 1 1 (fun _ => True) rfl rfl (fun _ _ => trivial) ?aO ?aR ?aB ?aS ?aL ?_; (case aO => exact Kd.R_alloc HO.out _); (case aR => exact one_C (blk_new wr _)); (case aB => exact below_alloc HW.out _); (case aS => rw [World.size_alloc]; exact Nat.le_succ_of_le HW.out.size); (case aL => have := HLN.out; omega); intro v1 w1 ho hb hg hat; obtain ⟨B1, c1, hv1⟩ := Kd.R_slice ho; subst hv1; have HO1 := Aside0.mk ho; have HB1 := Aside0.mk hb; clear ho hb hg hat)
    go_roundw
    case rel => exact ⟨k + 1, B1, c1, by omega, by go_num, by rw [HST.out]; first | done | rfl | (simp only [len1]), by rw [HST.out], by rw [HST.out], by rw [HST.out]; exact HO1, HB1⟩
    case measure => simp [intOf]; omega
end Go.Proofs.Ytnjhgckmfebdoaa.MAll

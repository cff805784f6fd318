/- Ballots: alive, the walk. -/
import Derived.Test.YtckbidmemdkdpaaBv
import Derived.Test.YtckbidmemdkdpaaErr
import Derived.Test.YtckbidmemdkdpaaKit
import Derived.Deep.RegionHeld3
import Derived.Deep.DrawnRows
set_option linter.unusedVariables false
set_option linter.unusedSimpArgs false
namespace Go.Proofs.Ytckbidmemdkdpaa.MAll
open Go.RowKit Go.Proofs.YtckbidmemdkdpaaW.PrintWords Go.Proofs.YtckbidmemdkdpaaW.PrintLast Go.Proofs.YtckbidmemdkdpaaW.PrintMore

theorem ok0 : regOk zeroR := by simp [regOk, balOk, i64ok, zeroR, zeroB]
theorem prepare_at (r r' : Reg) (q : Value) (A : Option Addr) (ca : Nat) (w : World) (b : Bal) (hp : prepR r b = r') (hq : errW (prepE r b) = q) (h : regOk r) (h3 : balOk b) (hl : r.2.2.length < 17592186044416) (hr : (Kd.int .i64).C w A r.2.2.length r.2.2) (hc : r.2.2.length ≤ ca) :
    Calls Try.prog 11 #[.agg (regA r A ca), .agg (balA b)] w fun e w' => ∃ B cb, e = .returned (.tuple #[.agg (regA r' B cb), q]) ∧ (Kd.int .i64).R 3 w' w.heap.size (fun _ => True) (.slice B r'.2.2.length cb) r'.2.2 ∧ Below w.heap.size w w' := by
  subst hp
  subst hq
  exact prepare_v r A ca w hr hc b h h3 hl
theorem accept_at (r r' : Reg) (q : Value) (A : Option Addr) (ca : Nat) (w : World) (b : Bal) (V : Option Addr) (cv : Nat) (v : List Int) (hp : accR r b v = r') (hq : errW (accE r b v) = q) (h : regOk r) (h3 : balOk b) (hr : (Kd.int .i64).C w A r.2.2.length r.2.2) (hc : r.2.2.length ≤ ca) (hr2 : (Kd.int .i64).C w V v.length v) (hc2 : v.length ≤ cv) :
    Calls Try.prog 13 #[.agg (regA r A ca), .agg (balA b), .slice V v.length cv] w fun e w' => ∃ B cb, e = .returned (.tuple #[.agg (regA r' B cb), q]) ∧ (Kd.int .i64).R 3 w' w.heap.size (fun _ => True) (.slice B r'.2.2.length cb) r'.2.2 ∧ Below w.heap.size w w' := by
  subst hp
  subst hq
  exact accept_v r A ca w hr hc b V cv v h h3 hr2 hc2
set_option maxHeartbeats 1000000 in
set_option maxRecDepth 100000 in
theorem alive_any (w : World) : Calls Try.prog 9 #[] w fun e w' => e = .returned (.bool true) ∧ Below w.heap.size w w' := by
  have hu26 := Try.underlying26
  have hu23 := Try.underlying23
  go_enter Try.func9, Try.ntmps9
  go_wp2_with fail
  obtain ⟨go, hgo⟩ : ∃ go, go = w.heap.size := ⟨_, rfl⟩
  have HGO := Aside0.mk hgo
  have BKO : Aside0 ((w.alloc (.cells (balA (1, 0, 0)) 23)).heap[go]? = some (.cells (balA (1, 0, 0)) 23 (0, 0))) := ⟨by rw [hgo]; exact blk_new w _⟩
  rw [← hgo]
  clear hgo
  refine (prepare_at ((0, 0, 0), (0, 0, 0), []) ((1, 0, 0), (0, 0, 0), []) .nilIface none 0 _ (1, 0, 0) (by kernel_rfl) (by kernel_rfl) ok0 (by simp [balOk, i64ok]) (by decide) (Kd.C_nil _ _) (Nat.le_refl _)).mono ?_
  rintro e w1 ⟨B1, c1, rfl, hR1, hb1⟩
  have HB1 := Aside0.mk (below_step (below_alloc (Below.refl _ w) _) hb1)
  have BK1 : Aside0 (w1.heap[go]? = some (.cells (balA (1, 0, 0)) 23 (0, 0))) := ⟨(hb1.block _ (blk_lt BKO.out)).trans BKO.out⟩
  have o0 : ∀ o, (w1.alloc o).cell? ⟨go, 0, none⟩ = some (.int .i64 1) := fun o => (blk_cell (blk_alloc BK1.out o) 0).trans rfl
  have o1 : ∀ o, (w1.alloc o).cell? ⟨go, 1, none⟩ = some (.int .i64 0) := fun o => (blk_cell (blk_alloc BK1.out o) 1).trans rfl
  have o2 : ∀ o, (w1.alloc o).cell? ⟨go, 2, none⟩ = some (.int .i64 0) := fun o => (blk_cell (blk_alloc BK1.out o) 2).trans rfl
  have q0 : w1.cell? ⟨go, 0, none⟩ = some (.int .i64 1) := (blk_cell BK1.out 0).trans rfl
  have q1 : w1.cell? ⟨go, 1, none⟩ = some (.int .i64 0) := (blk_cell BK1.out 1).trans rfl
  have q2 : w1.cell? ⟨go, 2, none⟩ = some (.int .i64 0) := (blk_cell BK1.out 2).trans rfl
  have HC1 := Aside0.mk (Kd.R_reads' hR1)
  clear hR1 hb1
  go_wp2_with fail
  obtain ⟨g1, hg1⟩ : ∃ g1, g1 = w1.heap.size := ⟨_, rfl⟩
  have BR1 : Aside0 ((w1.alloc (.cells #[.int .i64 1, .int .i64 0, .int .i64 0, .int .i64 0, .int .i64 0, .int .i64 0, .slice B1 0 c1] 26)).heap[g1]? = some (.cells #[.int .i64 1, .int .i64 0, .int .i64 0, .int .i64 0, .int .i64 0, .int .i64 0, .slice B1 0 c1] 26 (0, 0))) := ⟨by rw [hg1]; exact blk_new w1 _⟩
  have HBA : Aside0 (Below w1.heap.size w1 ((w1.alloc (.cells #[.int .i64 1, .int .i64 0, .int .i64 0, .int .i64 0, .int .i64 0, .int .i64 0, .slice B1 0 c1] 26)).alloc (.cells #[.int .i64 7] 3))) := ⟨below_alloc (below_alloc (Below.refl _ _) _) _⟩
  have hlits := @Kit.C_lits (w1.alloc (.cells #[.int .i64 1, .int .i64 0, .int .i64 0, .int .i64 0, .int .i64 0, .int .i64 0, .slice B1 0 c1] 26)) 3 [7] (by simp) _ rfl
  refine (accept_at ((1, 0, 0), (0, 0, 0), []) ((1, 0, 0), (1, 0, 0), [7]) .nilIface B1 c1 _ (1, 0, 0) _ 1 [7] (by kernel_rfl) (by kernel_rfl) (by simp [regOk, balOk, i64ok]) (by simp [balOk, i64ok]) (Kd.C_below HC1.out.2.2 HBA.out) (Nat.zero_le _) (by have h := hlits; rw [World.size_alloc] at h; exact h) (Nat.le_refl _)).mono ?_
  rintro e w2 ⟨B2, c2, rfl, hR2, hb2⟩
  have HB2 := Aside0.mk (below_step HBA.out hb2)
  have HC2 := Aside0.mk (Kd.R_reads' hR2)
  have hg2 : w1.heap.size ≤ w2.heap.size := HB2.out.size
  have BK2 : Aside0 (w2.heap[go]? = some (.cells (balA (1, 0, 0)) 23 (0, 0))) := ⟨(HB2.out.block _ (blk_lt BK1.out)).trans BK1.out⟩
  have HT2 := Aside0.mk (below_step HB1.out HB2.out)
  clear hR2 hb2 hlits o0 o1 o2 q0 q1 q2
  have o0 : ∀ o, (w2.alloc o).cell? ⟨go, 0, none⟩ = some (.int .i64 1) := fun o => (blk_cell (blk_alloc BK2.out o) 0).trans rfl
  have o1 : ∀ o, (w2.alloc o).cell? ⟨go, 1, none⟩ = some (.int .i64 0) := fun o => (blk_cell (blk_alloc BK2.out o) 1).trans rfl
  have o2 : ∀ o, (w2.alloc o).cell? ⟨go, 2, none⟩ = some (.int .i64 0) := fun o => (blk_cell (blk_alloc BK2.out o) 2).trans rfl
  have q0 : w2.cell? ⟨go, 0, none⟩ = some (.int .i64 1) := (blk_cell BK2.out 0).trans rfl
  have q1 : w2.cell? ⟨go, 1, none⟩ = some (.int .i64 0) := (blk_cell BK2.out 1).trans rfl
  have q2 : w2.cell? ⟨go, 2, none⟩ = some (.int .i64 0) := (blk_cell BK2.out 2).trans rfl
  go_wp2_with fail
  obtain ⟨g2, hg2⟩ : ∃ g2, g2 = w2.heap.size := ⟨_, rfl⟩
  have HG2 := Aside0.mk hg2
  have BS2 : Aside0 ((w2.alloc (.cells #[.int .i64 1, .int .i64 0, .int .i64 0, .int .i64 1, .int .i64 0, .int .i64 0, .slice B2 1 c2] 26)).heap[g2]? = some (.cells #[.int .i64 1, .int .i64 0, .int .i64 0, .int .i64 1, .int .i64 0, .int .i64 0, .slice B2 1 c2] 26 (0, 0))) := ⟨by rw [hg2]; exact blk_new w2 _⟩
  have HBA2 : Aside0 (Below w2.heap.size w2 (w2.alloc (.cells #[.int .i64 1, .int .i64 0, .int .i64 0, .int .i64 1, .int .i64 0, .int .i64 0, .slice B2 1 c2] 26))) := ⟨below_alloc (Below.refl _ _) _⟩
  rw [← hg2]
  clear hg2
  refine (prepare_at ((1, 0, 0), (1, 0, 0), [7]) ((0, 0, 0), (0, 0, 0), []) (.iface 45 (.int .i64 11)) B2 c2 _ (1, 0, 0) (by kernel_rfl) (by kernel_rfl) (by simp [regOk, balOk, i64ok]) (by simp [balOk, i64ok]) (by decide) (Kd.C_below HC2.out.2.2 HBA2.out) HC2.out.2.1).mono ?_
  rintro e w3 ⟨B3, c3, rfl, _, hb3⟩
  have HB3 := Aside0.mk (below_step HBA2.out hb3)
  have HT3 := Aside0.mk (below_step HT2.out HB3.out)
  have BK3 : Aside0 (w3.heap[go]? = some (.cells (balA (1, 0, 0)) 23 (0, 0))) := ⟨(HB3.out.block _ (blk_lt BK2.out)).trans BK2.out⟩
  have BS3 : Aside0 (w3.heap[g2]? = some (.cells #[.int .i64 1, .int .i64 0, .int .i64 0, .int .i64 1, .int .i64 0, .int .i64 0, .slice B2 1 c2] 26 (0, 0))) := ⟨(hb3.block _ (blk_lt BS2.out)).trans BS2.out⟩
  clear hb3 o0 o1 o2 q0 q1 q2
  have s0 : ∀ o, (w3.alloc o).cell? ⟨g2, 0, none⟩ = some (.int .i64 1) := fun o => (blk_cell (blk_alloc BS3.out o) 0).trans rfl
  have s1 : ∀ o, (w3.alloc o).cell? ⟨g2, 1, none⟩ = some (.int .i64 0) := fun o => (blk_cell (blk_alloc BS3.out o) 1).trans rfl
  have s2 : ∀ o, (w3.alloc o).cell? ⟨g2, 2, none⟩ = some (.int .i64 0) := fun o => (blk_cell (blk_alloc BS3.out o) 2).trans rfl
  have s3 : ∀ o, (w3.alloc o).cell? ⟨g2, 3, none⟩ = some (.int .i64 1) := fun o => (blk_cell (blk_alloc BS3.out o) 3).trans rfl
  have s4 : ∀ o, (w3.alloc o).cell? ⟨g2, 4, none⟩ = some (.int .i64 0) := fun o => (blk_cell (blk_alloc BS3.out o) 4).trans rfl
  have s5 : ∀ o, (w3.alloc o).cell? ⟨g2, 5, none⟩ = some (.int .i64 0) := fun o => (blk_cell (blk_alloc BS3.out o) 5).trans rfl
  have s6 : ∀ o, (w3.alloc o).cell? ⟨g2, 6, none⟩ = some (.slice B2 1 c2) := fun o => (blk_cell (blk_alloc BS3.out o) 6).trans rfl
  have q0 : ∀ o, (w3.alloc o).cell? ⟨go, 0, none⟩ = some (.int .i64 1) := fun o => (blk_cell (blk_alloc BK3.out o) 0).trans rfl
  have q1 : ∀ o, (w3.alloc o).cell? ⟨go, 1, none⟩ = some (.int .i64 0) := fun o => (blk_cell (blk_alloc BK3.out o) 1).trans rfl
  have q2 : ∀ o, (w3.alloc o).cell? ⟨go, 2, none⟩ = some (.int .i64 0) := fun o => (blk_cell (blk_alloc BK3.out o) 2).trans rfl
  go_wp2_with fail
  refine (accept_at ((1, 0, 0), (1, 0, 0), [7]) ((0, 0, 0), (0, 0, 0), []) (.iface 45 (.int .i64 11)) B2 c2 _ (0, 9, 9) none 0 [] (by kernel_rfl) (by kernel_rfl) (by simp [regOk, balOk, i64ok]) (by simp [balOk, i64ok]) (Kd.C_below HC2.out.2.2 (by repeat (first | exact HB3.out | apply below_alloc))) HC2.out.2.1 (Kd.C_nil _ _) (Nat.le_refl _)).mono ?_
  rintro e w4 ⟨B4, c4, rfl, _, hb4⟩
  have HB4 := Aside0.mk (below_step (w := w2) (by repeat (first | exact HB3.out | apply below_alloc)) hb4)
  have HT4 := Aside0.mk (below_step HT2.out HB4.out)
  have BK4 : Aside0 (w4.heap[go]? = some (.cells (balA (1, 0, 0)) 23 (0, 0))) := ⟨(hb4.block _ (blk_lt (blk_alloc BK3.out _))).trans (blk_alloc BK3.out _)⟩
  have BS4 : Aside0 (w4.heap[g2]? = some (.cells #[.int .i64 1, .int .i64 0, .int .i64 0, .int .i64 1, .int .i64 0, .int .i64 0, .slice B2 1 c2] 26 (0, 0))) := ⟨(hb4.block _ (blk_lt (blk_alloc BS3.out _))).trans (blk_alloc BS3.out _)⟩
  clear hb4 s0 s1 s2 s3 s4 s5 s6 q0 q1 q2
  have s0 : ∀ o, (w4.alloc o).cell? ⟨g2, 0, none⟩ = some (.int .i64 1) := fun o => (blk_cell (blk_alloc BS4.out o) 0).trans rfl
  have s1 : ∀ o, (w4.alloc o).cell? ⟨g2, 1, none⟩ = some (.int .i64 0) := fun o => (blk_cell (blk_alloc BS4.out o) 1).trans rfl
  have s2 : ∀ o, (w4.alloc o).cell? ⟨g2, 2, none⟩ = some (.int .i64 0) := fun o => (blk_cell (blk_alloc BS4.out o) 2).trans rfl
  have s3 : ∀ o, (w4.alloc o).cell? ⟨g2, 3, none⟩ = some (.int .i64 1) := fun o => (blk_cell (blk_alloc BS4.out o) 3).trans rfl
  have s4 : ∀ o, (w4.alloc o).cell? ⟨g2, 4, none⟩ = some (.int .i64 0) := fun o => (blk_cell (blk_alloc BS4.out o) 4).trans rfl
  have s5 : ∀ o, (w4.alloc o).cell? ⟨g2, 5, none⟩ = some (.int .i64 0) := fun o => (blk_cell (blk_alloc BS4.out o) 5).trans rfl
  have s6 : ∀ o, (w4.alloc o).cell? ⟨g2, 6, none⟩ = some (.slice B2 1 c2) := fun o => (blk_cell (blk_alloc BS4.out o) 6).trans rfl
  have q0 : ∀ o, (w4.alloc o).cell? ⟨go, 0, none⟩ = some (.int .i64 1) := fun o => (blk_cell (blk_alloc BK4.out o) 0).trans rfl
  have q1 : ∀ o, (w4.alloc o).cell? ⟨go, 1, none⟩ = some (.int .i64 0) := fun o => (blk_cell (blk_alloc BK4.out o) 1).trans rfl
  have q2 : ∀ o, (w4.alloc o).cell? ⟨go, 2, none⟩ = some (.int .i64 0) := fun o => (blk_cell (blk_alloc BK4.out o) 2).trans rfl
  go_wp2_with fail
  refine (prepare_at ((1, 0, 0), (1, 0, 0), [7]) ((1, 0, 1), (1, 0, 0), [7]) .nilIface B2 c2 _ (1, 0, 1) (by kernel_rfl) (by kernel_rfl) (by simp [regOk, balOk, i64ok]) (by simp [balOk, i64ok]) (by decide) (Kd.C_below HC2.out.2.2 (by repeat (first | exact HB4.out | apply below_alloc))) HC2.out.2.1).mono ?_
  rintro e w5 ⟨B5, c5, rfl, hR5, hb5⟩
  have HC5 := Aside0.mk (Kd.R_reads' hR5)
  have HT5 := Aside0.mk (below_step (w := w) (by repeat (first | exact HT4.out | apply below_alloc)) hb5)
  have BK5 : Aside0 (w5.heap[go]? = some (.cells (balA (1, 0, 0)) 23 (0, 0))) := ⟨(hb5.block _ (blk_lt (blk_alloc BK4.out _))).trans (blk_alloc BK4.out _)⟩
  clear hb5 hR5 s0 s1 s2 s3 s4 s5 s6 q0 q1 q2
  have o0 : ∀ o, (w5.alloc o).cell? ⟨go, 0, none⟩ = some (.int .i64 1) := fun o => (blk_cell (blk_alloc BK5.out o) 0).trans rfl
  have o1 : ∀ o, (w5.alloc o).cell? ⟨go, 1, none⟩ = some (.int .i64 0) := fun o => (blk_cell (blk_alloc BK5.out o) 1).trans rfl
  have o2 : ∀ o, (w5.alloc o).cell? ⟨go, 2, none⟩ = some (.int .i64 0) := fun o => (blk_cell (blk_alloc BK5.out o) 2).trans rfl
  obtain ⟨a5, rfl, h5⟩ := Kit.C_first HC5.out.2.2
  have e5 : ∀ o, (w5.alloc o).cell? a5 = some (.int .i64 7) := fun o => pw_cell_below (below_alloc (Below.refl _ _) o) h5
  clear h5
  have eE := Err.eqE
  have eN := Err.eqN
  have hu30 := Try.underlying30
  have hu45 := Try.underlying45
  go_wp2_with fail
  go_ret
  exact ⟨rfl, by repeat (first | exact HT5.out | apply below_alloc)⟩
end Go.Proofs.Ytckbidmemdkdpaa.MAll

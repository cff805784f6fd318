/- Small lemmas over the print's words, for the walks that are written by hand in this seat: literals, first cells, errors held against each other. -/
import Derived.Test.YtnjhgckmfebdoaaWWords
import Derived.Test.YtnjhgckmfebdoaaWLast
import Derived.Test.YtnjhgckmfebdoaaWMore
import Derived.Test.YtnjhgckmfebdoaaProg
import Derived.Lib.SliceRun
import Derived.LaidEql
import Derived.OwnWalk
import Derived.Lib.JoinLaws
import Derived.KernelRfl
namespace Go.Proofs.Ytnjhgckmfebdoaa.Kit
open Go.RowKit Go.Proofs.YtnjhgckmfebdoaaW.PrintWords Go.Proofs.YtnjhgckmfebdoaaW.PrintLast Go.Proofs.YtnjhgckmfebdoaaW.PrintMore

theorem add_zero' (a : Addr) : a.add 0 = a := by
  unfold Addr.add
  obtain ⟨b, o, v⟩ := a
  cases v <;> simp
theorem R_lits (W : World) (e : Nat) (xs : List Int) (hm : xs.length ≤ 9223372036854775807) (cs : Array Value) (hcs : cs = (nums .i64 xs).toArray) : (Kd.int .i64).R e (W.alloc (.cells cs e)) W.heap.size (fun _ => True) (.slice (some ⟨W.heap.size, 0, none⟩) xs.length xs.length) xs := by
  subst hcs
  exact Kd.R_of_own (own_lit W W.heap.size e .i64 xs (Nat.le_refl _) hm) (fun _ _ => trivial)
theorem C_lits (W : World) (e : Nat) (xs : List Int) (hm : xs.length ≤ 9223372036854775807) (cs : Array Value) (hcs : cs = (nums .i64 xs).toArray) : (Kd.int .i64).C (W.alloc (.cells cs e)) (some ⟨W.heap.size, 0, none⟩) xs.length xs := by
  obtain ⟨A, c, he, _, hr⟩ := Kd.R_reads (R_lits W e xs hm cs hcs)
  injection he with h1 h2 h3
  subst h1
  exact hr
theorem C_first {w : World} {A : Option Addr} {x : Int} {l : List Int} (h : (Kd.int .i64).C w A (x :: l).length (x :: l)) : ∃ a, A = some a ∧ w.cell? a = some (.int .i64 x) := by
  obtain ⟨ad, rfl, hc⟩ := ReadsOf.at_ (Kd.reads_of_C (d := 0) h) 0 (by omega) (by simp)
  have e : (0 : Int).toNat = 0 := rfl
  rw [e, add_zero'] at hc
  exact ⟨ad, rfl, by simpa [rdOf] using hc⟩
/-- append(v, ys...), v a row of the call's own with room for it: v stays where it is. -/
theorem append_fitsC {P : Program} {W : World} {ops : Array Oper} {rest : List Oper} {o : Oper} {a : Act} {Q : Exit → Act → World → Prop}
    (hg : o.guard = none) (s x : Operand) (t : TypeId) (hop : o.op = Op.call { callee := Callee.builtin Builtin.append, args := #[s, x], argTypes := #[t, t] })
    (base : Nat) (e : TypeId) (z : Value) (bytes : Nat) (h1 : P.underlying t = some (.slice e)) (hinfo : (P.info? e).map (fun i => (i.zero, i.size, i.bytes)) = some (some z, 1, bytes))
    (g k cap : Nat) (xs ys : List Int) (hs : a.eval s = .slice (some ⟨g, 0, none⟩) k cap) (hown : W.ownsRow base e 1 (.slice (some ⟨g, 0, none⟩) k cap) k (nums .i64 xs)) (A : Option Addr) (m c : Nat) (hx : a.eval x = .slice A m c) (hC : (Kd.int .i64).C W A m ys) (b1 : k + m ≤ cap)
    (hK : ∀ w', w'.ownsRow base e 1 (.slice (some ⟨g, 0, none⟩) (k + m) cap) (k + m) (nums .i64 (xs ++ ys)) → W.grownBy w' (some g) → wpList P ops Q rest (a.put o.dst (.slice (some ⟨g, 0, none⟩) (k + m) cap)) w') :
    wpList P ops Q (o :: rest) a W := by
  obtain ⟨i0, hi, hzz⟩ := Option.map_eq_some_iff.1 hinfo
  simp only [Prod.mk.injEq] at hzz
  obtain ⟨hz0, hz1, hz2⟩ := hzz
  have hl : ys.length = m := hC.1
  rcases Nat.eq_zero_or_pos m with h0 | h0
  · subst h0
    obtain rfl : ys = [] := List.eq_nil_of_length_eq_zero hl
    have hw := hK W (by simpa using hown) (World.grownBy.refl W _)
    have hrun : (Builtin.append_ #[t, t] o.type #[.slice (some ⟨g, 0, none⟩) k cap, .slice A 0 c]).run P W = .ok (.slice (some ⟨g, 0, none⟩) k cap) W := by
      have hkc : k ≤ cap := by omega
      cases A with
      | none => simp [Builtin.append_, run_underlying h1, sizeOf, typeInfo, hi, Builtin.lenOf, Builtin.firstCells, hkc, storeCells]
      | some ad => simp [Builtin.append_, run_underlying h1, sizeOf, typeInfo, hi, Builtin.lenOf, Builtin.firstCells, hkc, storeCells, loadCells, loadCellsFrom]
    refine wpList_plain hg fun K hK' => ?_
    unfold Oper.wp
    simp [execOp, hop, resolve, invoke, builtin, hs, hx, hrun, Result.andThen]
    exact hK' _ _ hw
  · obtain ⟨ad, rfl, hc⟩ := (Kd.reads_of_C (d := 0) hC).2.2 h0
    refine wpList_append_fits W hg s x t hop base e i0 1 h1 hi hz1 g k cap (nums .i64 xs) hs hown ad m c (nums .i64 ys) hx (by rw [nums_length]; omega) ?_ (by intro u hu; obtain ⟨q, _, rfl⟩ := List.mem_map.1 hu; rfl) b1 ?_
    · intro j u hu
      have hj : j < ys.length := by
        rcases Nat.lt_or_ge j ys.length with h | h
        · exact h
        · rw [List.getElem?_eq_none (by rw [nums_length]; exact h)] at hu
          cases hu
      rw [hc j (by omega)]
      rw [← hu]
      simp [nums, List.getD_eq_getElem?_getD, List.getElem?_eq_getElem hj]
    · intro w' h2 h3
      exact hK w' (by rw [nums_append]; exact h2) h3
/-- A row that is known whole: its block's cells. -/
theorem own_block {w : World} {base e g n : Nat} {xs : List Value} (h : w.ownsRow base e 1 (.slice (some ⟨g, 0, none⟩) n n) n xs) : w.heap[g]? = some (.cells xs.toArray e (0, 0)) ∧ base ≤ g := by
  rcases h.2 with ⟨h', _⟩ | ⟨g', cap', cur, h', hb, hh, _, _, hs, ht⟩
  · cases h'
  · injection h' with h1 h2 h3
    injection h1 with h1
    injection h1 with h1
    subst h1 h3
    have : cur.toList = xs := by
      rw [← ht, List.take_of_length_le]
      rw [Array.length_toList, hs]
      omega
    rw [hh, ← this]
    exact ⟨rfl, hb⟩
end Go.Proofs.Ytnjhgckmfebdoaa.Kit

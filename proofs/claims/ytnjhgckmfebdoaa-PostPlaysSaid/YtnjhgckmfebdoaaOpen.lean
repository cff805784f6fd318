/- What an argument of a law reads as, kind by kind: from the form's own reading ('DataW.trod') to the print's kinds ('Kd'). -/
import Derived.Test.YtnjhgckmfebdoaaWWords
import Derived.SizedLaws
import Derived.ChangeSlices
import Derived.ChangeArms
import Derived.Deep.Slices
set_option linter.unusedVariables false
set_option linter.unusedSimpArgs false
namespace Go.Proofs.Ytnjhgckmfebdoaa.Op
open Go.RowKit Go.Proofs.YtnjhgckmfebdoaaW.PrintWords Go.ChangeShapes Go.WideShapes Go.Deep

/-- Whatever reads at type t is of kind d, and Q holds of it. -/
def Opens {α : Type} (P : Program) (d : Kd α) (t : TypeId) (Q : α → Prop) : Prop :=
  P.cellsOf t = d.sz ∧ ∀ {H : Type} (enc : TypeId × Value → H) (w : World) (fuel : Nat) (cs : List Value) (x : DataW H × List MemPlace),
    DataW.trod enc P w 0 (fun _ => true) true fuel t cs = some x → (∀ n ∈ x.1.weights P t, n ≤ 140737488351232) → ∃ y : α, d.K w y cs ∧ Q y

theorem Opens.mono {α : Type} {P : Program} {d : Kd α} {t : TypeId} {Q Q' : α → Prop} (h : Opens P d t Q) (hq : ∀ x, Q x → Q' x) : Opens P d t Q' :=
  ⟨h.1, fun enc w fuel cs x hx hw => let ⟨y, hy, hz⟩ := h.2 enc w fuel cs x hx hw; ⟨y, hy, hq y hz⟩⟩

theorem opens_int {P : Program} {t : TypeId} {k : IntKind} (hu : P.underlying t = some (.int k)) (hc : P.cellsOf t = 1) : Opens P (Kd.int k) t (fun n => (Lit.int k n).wf = true) := by
  refine ⟨hc, fun enc w fuel cs x hx _ => ?_⟩
  obtain ⟨n, rfl, _, hw⟩ := DataW.trod_int hu hx
  exact ⟨n, rfl, hw⟩
theorem opens_bool {P : Program} {t : TypeId} (hu : P.underlying t = some .bool) (hc : P.cellsOf t = 1) : Opens P Kd.bool t (fun _ => True) := by
  refine ⟨hc, fun enc w fuel cs x hx _ => ?_⟩
  obtain ⟨b, rfl, _⟩ := DataW.trod_bool hu hx
  exact ⟨b, rfl, trivial⟩

theorem weightsAll_mem {H : Type} {P : Program} {e : TypeId} {d : DataW H} {n : Nat} : ∀ {l : List (DataW H)}, d ∈ l → n ∈ d.weights P e → n ∈ DataW.weightsAll P e l
  | d0 :: r, hd, hn => by
    simp only [DataW.weightsAll, List.mem_append]
    rcases List.mem_cons.1 hd with rfl | h
    · exact .inl hn
    · exact .inr (weightsAll_mem h hn)

theorem opens_slice {α : Type} [Inhabited α] {P : Program} {d : Kd α} {t e : TypeId} {Q : α → Prop} (hu : P.underlying t = some (.slice e)) (hc : P.cellsOf t = 1) (hd : Opens P d e Q) :
    Opens P (Kd.slice e d) t (fun xs => xs.length * P.bytesOf e ≤ 140737488351232 ∧ ∀ x ∈ xs, Q x) := by
  obtain ⟨hsz, hop⟩ := hd
  refine ⟨hc, fun enc w fuel cs x hx hw => ?_⟩
  rcases open_slice hu hx with ⟨rfl, rfl⟩ | ⟨a, len, cap, m, n, D, Pl, rfl, hb, hl, hm, rfl, rfl, hel⟩
  · exact ⟨[], ⟨none, 0, rfl, Nat.le_refl _, Kd.C_nil d w⟩, by simp, by simp⟩
  · simp only [if_true] at hel hw
    have hw0 := hw ((((List.range len).map D).length + ((List.range (m - len)).map fun j => D (len + j)).length) * P.bytesOf e) (by simp [DataW.weights, hu])
    have hwe : ∀ i, i < len → ∀ n ∈ (D i).weights P e, n ≤ 140737488351232 := fun i hi n hn =>
      hw n (by
        simp only [DataW.weights, hu, List.mem_cons, List.mem_append]
        exact .inr (.inl (weightsAll_mem (List.mem_map.2 ⟨i, List.mem_range.2 hi, rfl⟩) hn)))
    obtain ⟨f, hf⟩ := choose_lt (α := α) (p := fun i y => ∃ cs', w.cells? 0 (a.add (i * P.cellsOf e)) (P.cellsOf e) = some cs' ∧ d.K w y cs' ∧ Q y) (n := len) (fun i hi => by
      obtain ⟨cs', h1, h2⟩ := hel i (by omega)
      obtain ⟨y, hy, hq⟩ := hop enc w n cs' _ h2 (hwe i hi)
      exact ⟨y, cs', h1, hy, hq⟩)
    have hlen : ((List.range len).map f).length = len := by simp
    refine ⟨(List.range len).map f, ⟨some a, m, by rw [hlen], by rw [hlen]; exact hl, ?_⟩, ?_, ?_⟩
    · rw [hlen]
      refine ⟨hlen, ?_, fun _ => ⟨a, rfl, fun j p hj => ?_⟩⟩
      · have := hm
        simp only [maxLen] at this
        omega
      · have hj' : j < len := by have := (List.getElem?_eq_some_iff.1 hj).1; rwa [hlen] at this
        have hp : p = f j := by
          rw [List.getElem?_map, List.getElem?_range hj'] at hj
          simpa using hj.symm
        subst hp
        obtain ⟨cs', h1, hK, _⟩ := hf j hj'
        obtain ⟨_, hl', hcell⟩ := World.cells?_some h1
        refine ⟨cs', by rw [hl', hsz], hK, fun i u hu => ?_⟩
        have hi : i < cs'.length := (List.getElem?_eq_some_iff.1 hu).1
        have := hcell i (by omega)
        rw [hu, Go.Deep.add_add, hsz] at this
        exact this
    · rw [hlen]
      simp only [List.length_map, List.length_range] at hw0
      exact Nat.le_trans (Nat.mul_le_mul_right _ (by omega)) hw0
    · intro x hx'
      obtain ⟨i, hi, rfl⟩ := List.mem_map.1 hx'
      exact (hf i (List.mem_range.1 hi)).elim fun _ h => h.2.2

/-- A struct that came in by value. -/
theorem okWide_agg {P : Program} {W : World} {r : Reach} {base : Nat} {t : TypeId} {v : Value} {fs : Array Field} (hu : P.underlying t = some (.struct fs)) (h : Value.okWide P W r base t v) : ∃ cs, v = .agg cs := by
  unfold Value.okWide at h
  rw [hu] at h
  obtain ⟨cs, h, _⟩ := h
  exact ⟨cs, h⟩
/-! ### structs, field by field -/
theorem weightsEach_mem {H : Type} {P : Program} : ∀ {ts : List TypeId} {ds : List (DataW H)} {j : Nat} {t : TypeId} {d : DataW H}, ts[j]? = some t → ds[j]? = some d → ∀ n ∈ d.weights P t, n ∈ DataW.weightsEach P ts ds := DataW.weights_mem_each
/-- The fields from the j-th on (the first of them lies at off) read as kind d. -/
structure Fields {α : Type} (P : Program) (off : Nat) (fs : List Field) (d : Kd α) (Q : α → Prop) : Prop where
  run : ∀ (H : Type) (enc : TypeId × Value → H) (w : World) (fuel : Nat) (cs : List Value) (xs : List (DataW H × List MemPlace)), cs.length = off + d.sz → xs.length = fs.length →
    (∀ (i : Nat) (f : Field), fs[i]? = some f → DataW.trod enc P w 0 (fun _ => true) true fuel f.type ((cs.drop f.offset).take (P.cellsOf f.type)) = xs[i]?) →
    (∀ (i : Nat) (f : Field) x, fs[i]? = some f → xs[i]? = some x → ∀ n ∈ x.1.weights P f.type, n ≤ 140737488351232) → ∃ y : α, d.K w y (cs.drop off) ∧ Q y
theorem fields_one {α : Type} {P : Program} {off : Nat} {f : Field} {d : Kd α} {Q : α → Prop} (ho : f.offset = off) (h : Opens P d f.type Q) : Fields P off [f] d Q := by
  obtain ⟨hsz, hop⟩ := h
  refine ⟨?_⟩
  intro H enc w fuel cs xs hcs hxs hr hw
  subst ho
  obtain ⟨x, rfl⟩ : ∃ x, xs = [x] := by
    match xs, hxs with
    | [x], _ => exact ⟨x, rfl⟩
  have h0 := hr 0 f rfl
  have hl : ((cs.drop f.offset).take (P.cellsOf f.type)) = cs.drop f.offset := List.take_of_length_le (by rw [List.length_drop]; omega)
  rw [hl] at h0
  exact hop enc w fuel _ x h0 (hw 0 f x rfl rfl)
theorem fields_cons {α β : Type} {P : Program} {off : Nat} {f : Field} {fs : List Field} {d : Kd α} {d' : Kd β} {Q : α → Prop} {Q' : β → Prop} (ho : f.offset = off) (h : Opens P d f.type Q) (h' : Fields P (off + d.sz) fs d' Q') : Fields P off (f :: fs) (Kd.pair d d') (fun x => Q x.1 ∧ Q' x.2) := by
  obtain ⟨hsz, hop⟩ := h
  refine ⟨?_⟩
  intro H enc w fuel cs xs hcs hxs hr hw
  subst ho
  have hcs2 : cs.length = f.offset + d.sz + d'.sz := by rw [hcs]; show _ + (d.sz + d'.sz) = _; omega
  match xs, hxs with
  | x :: xs, hxs =>
    have h0 := hr 0 f rfl
    obtain ⟨y, hy, hq⟩ := hop enc w fuel _ x h0 (hw 0 f x rfl rfl)
    obtain ⟨z, hz, hq'⟩ := h'.run _ enc w fuel cs xs hcs2 (by simpa using hxs) (fun i g hg => hr (i + 1) g hg) (fun i g u hg hu => hw (i + 1) g u hg hu)
    refine ⟨(y, z), ⟨_, _, ?_, hy, hz⟩, hq, hq'⟩
    rw [hsz, ← List.drop_drop]
    exact (List.take_append_drop d.sz (cs.drop f.offset)).symm
theorem opens_struct {α β : Type} {P : Program} {t : TypeId} {fs : Array Field} {d : Kd α} {Q : α → Prop} {g : β → α} (hu : P.underlying t = some (.struct fs)) (hc : P.cellsOf t = d.sz) (h : Fields P 0 fs.toList d Q) (back : α → β) (hback : ∀ x, g (back x) = x) :
    Opens P (Kd.iso d g) t (fun y => Q (g y)) := by
  refine ⟨hc, fun enc w fuel cs x hx hw => ?_⟩
  obtain ⟨xs, n, rfl, rfl, hl, hxl, hr⟩ := DataW.trod_struct hu hx
  obtain ⟨y, hy, hq⟩ := h.run _ enc w n cs xs (by rw [hl, hc]; omega) (by simpa using hxl) (fun i f hf => hr i f (by simpa using hf)) (fun i f u hf hu' m hm =>
    hw m (by
      simp only [DataW.weights, hu]
      exact weightsEach_mem (j := i) (t := f.type) (d := u.1) (by rw [List.getElem?_map, hf]; rfl) (by rw [List.getElem?_map, hu']; rfl) m hm))
  refine ⟨back y, ?_, ?_⟩
  · show d.K w (g (back y)) cs
    rw [hback]
    simpa using hy
  · show Q (g (back y))
    rw [hback]
    exact hq
end Go.Proofs.Ytnjhgckmfebdoaa.Op

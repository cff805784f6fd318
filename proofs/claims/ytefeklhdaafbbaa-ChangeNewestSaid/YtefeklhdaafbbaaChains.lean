/- ChangeChains: changes done one behind the other. The walk. -/
import Derived.Test.YtefeklhdaafbbaaA
set_option linter.unusedVariables false
set_option linter.unusedSimpArgs false
namespace Go.Proofs.Ytefeklhdaafbbaa.MAll
open Go.RowKit Go.Proofs.YtefeklhdaafbbaaW.PrintWords Go.Proofs.YtefeklhdaafbbaaW.PrintLast Go.Proofs.YtefeklhdaafbbaaW.PrintMore

def kCh : Kd (Int × List Int × List Int) := Kd.iso (Kd.pair (Kd.int .i64) (Kd.pair (Kd.slice 3 (Kd.int .i64)) (Kd.slice 3 (Kd.int .i64)))) id
theorem change_at {w : World} {A : Option Addr} {xs : List (Int × List Int × List Int)} (h : kCh.C w A xs.length xs) (k : Nat) (hk : k < xs.length) :
    ∃ ad B b C c x, A = some ad ∧ x = xs[k]'hk ∧ w.cell? (ad.add (k * 3)) = some (.int .i64 x.1) ∧ w.cell? ⟨(ad.add (k * 3)).block, (ad.add (k * 3)).off + 1, none⟩ = some (.slice B x.2.1.length b) ∧ w.cell? ⟨(ad.add (k * 3)).block, (ad.add (k * 3)).off + 2, none⟩ = some (.slice C x.2.2.length c) ∧
      x.2.1.length ≤ b ∧ x.2.2.length ≤ c ∧ (Kd.int .i64).C w B x.2.1.length x.2.1 ∧ (Kd.int .i64).C w C x.2.2.length x.2.2 := by
  obtain ⟨ad, cs, rfl, _, hK, hc⟩ := Kd.C_get h (0, [], []) k (by omega) (by omega)
  have he : xs.getD (k : Int).toNat (0, [], []) = xs[k]'hk := by simp [List.getD_eq_getElem?_getD, List.getElem?_eq_getElem hk]
  rw [he] at hK
  obtain ⟨c0, c1, rfl, hk0, c2, c3, rfl, ⟨B, b, rfl, hb, hB⟩, ⟨C, c, rfl, hcc, hC⟩⟩ := hK
  have hk0' : c0 = [.int .i64 (xs[k]'hk).1] := hk0
  subst hk0'
  have e : kCh.sz = 3 := rfl
  have ek : (k : Int).toNat = k := by omega
  rw [e, ek] at hc
  exact ⟨ad, B, b, C, c, _, rfl, rfl, by simpa using hc 0 _ rfl, by rw [← add_field ad (k * 3) 1 (by omega)]; exact hc 1 _ rfl, by rw [← add_field ad (k * 3) 2 (by omega)]; exact hc 2 _ rfl, hb, hcc, hB, hC⟩

theorem chain_cases (kind : Int) (old new l : List Int) :
    (doV kind old new l = new ∧ errW (doE kind old new l) = .nilIface ∧ kind = 2 ∧ old = l) ∨ (doV kind old new l = l ∧ errW (doE kind old new l) = .nilIface ∧ kind = 1) ∨
    (doV kind old new l = l ∧ errW (doE kind old new l) = .iface 40 (.int .i64 11) ∧ l ≠ old) ∨ (doV kind old new l = l ∧ errW (doE kind old new l) = .iface 40 (.int .i64 2)) := by
  unfold doV doE
  cases hg : good kind old new
  · exact .inr (.inr (.inr ⟨by simp, rfl⟩))
  · by_cases h1 : kind = 1
    · subst h1
      exact .inr (.inl ⟨by simp, by simp [errW], rfl⟩)
    · have h2 : kind = 2 := by
        unfold good at hg
        simp only [Bool.or_eq_true, Bool.and_eq_true, beq_iff_eq] at hg
        rcases hg with hg | hg
        · exact absurd hg.1 h1
        · exact hg.1
      subst h2
      by_cases ho : old = l
      · exact .inl ⟨by simp [ho], by simp [ho, errW], rfl, ho⟩
      · exact .inr (.inr (.inl ⟨by simp [ho], by simp [ho, errW], fun e => ho e.symm⟩))
theorem doV_len (kind : Int) (old new l : List Int) (h : l.length ≤ 100) (hn : new.length ≤ 100) : (doV kind old new l).length ≤ 100 := by
  unfold doV
  split <;> assumption

def ChainsRel (w : World) (n : Nat) (v1 v21 : Value) (wr : World) : Prop :=
  ∃ (k : Nat) (A : Option Addr) (c : Nat) (l : List Int), k ≤ n ∧ v21 = .int .i64 k ∧ v1 = .slice A l.length c ∧ Aside0 ((Kd.int .i64).C wr A l.length l) ∧ Aside0 (l.length ≤ c) ∧ Aside0 (l.length ≤ 100) ∧ Aside0 (Below w.heap.size w wr)

set_option maxHeartbeats 400000 in
theorem chains_walk {q0 q1 : Prop} (w : World) (A0 : Option Addr) (c0 : Nat) (list : List (Int × List Int × List Int)) (hr0 : kCh.C w A0 list.length list) (hc0 : list.length ≤ c0) (_ : q0) (A1 : Option Addr) (c1 : Nat) (value : List Int) (hr1 : (Kd.int .i64).C w A1 value.length value) (hc1 : value.length ≤ c1) (_ : q1) :
    Calls Try.prog 6 #[.slice A0 list.length c0, .slice A1 value.length c1] w fun e w' => e = .returned (.bool true) ∧ Below w.heap.size w w' := by
  have HR0 := Aside0.mk hr0
  have HR1 := Aside0.mk hr1
  clear hr0 hr1
  by_cases h1 : list.length ≤ 100
  · by_cases h2 : value.length ≤ 100
    · have b1 : decide (100 < list.length) = false := decide_eq_false (by omega)
      have b2 : decide (100 < value.length) = false := decide_eq_false (by omega)
      go_enter Try.func6, Try.ntmps6
      go_wp2_with (go_at_call 8; refine (alive_any _).mono ?_; rintro e w1 ⟨rfl, hb1⟩; have HB := Aside0.mk hb1; clear hb1)
      have HV := Aside0.mk (Kd.C_below HR1.out HB.out)
      have HN := Aside0.mk (Kd.C_below HR0.out HB.out)
      have HL := Aside0.mk h2
      have HL2 := Aside0.mk hc1
      clear h2 hc1 b1 b2 h1
      go_loopw [1, 21] (fun v1 v21 wr => ChainsRel w1 list.length v1 v21 wr) (fun _ i _ => list.length - (intOf i).toNat)
      case atStart => exact ⟨0, A1, c1, value, Nat.zero_le _, rfl, rfl, HV, HL2, HL, ⟨Below.refl _ _⟩⟩
      case round =>
        obtain ⟨k, A, c, l, hk, rfl, rfl, HA, HAc, HAl, HW⟩ := hrel
        have HN' := Aside0.mk (Kd.C_below HN.out HW.out)
        by_cases hlt : k < list.length
        · obtain ⟨ad, B, b, C, cc, ⟨kind, old, new⟩, rfl, hx, hc0', hc1', hc2', q0, q1, q2, q3⟩ := change_at HN'.out k hlt
          clear hx
          simp only at hc0' hc1' hc2' q0 q1 q2 q3
          have HO := Aside0.mk q2
          have HOl := Aside0.mk q0
          have HNw := Aside0.mk q3
          have HNl := Aside0.mk q1
          clear q0 q1 q2 q3
          by_cases ho : old.length ≤ 100
          · have b1 : decide (100 < old.length) = false := decide_eq_false (by omega)
            by_cases hn : new.length ≤ 100
            · have b2 : decide (100 < new.length) = false := decide_eq_false (by omega)
              have HOa := Aside0.mk (Kd.C_alloc HO.out (.cells #[.int .i64 kind, .slice B old.length b, .slice C new.length cc] 24))
              have HNa := Aside0.mk (Kd.C_alloc HNw.out (.cells #[.int .i64 kind, .slice B old.length b, .slice C new.length cc] 24))
              have HAa := Aside0.mk (Kd.C_alloc HA.out (.cells #[.int .i64 kind, .slice B old.length b, .slice C new.length cc] 24))
              have HBa := Aside0.mk (below_alloc HW.out (.cells #[.int .i64 kind, .slice B old.length b, .slice C new.length cc] 24))
              go_wp2_with fail
              refine (do_any' _ _ _ _ _ _ _ _ _ _ _ HOa.out HOl.out HNa.out HNl.out HAa.out HAc.out (by omega) (by omega) (by have := HAl.out; omega)).mono ?_
              rintro e w2 ⟨A5, c5, rfl, q5, q6, hb2⟩
              obtain ⟨g, hg⟩ : ∃ g, g = wr.heap.size := ⟨_, rfl⟩
              have BK : Aside0 (w2.heap[g]? = some (.cells #[.int .i64 kind, .slice B old.length b, .slice C new.length cc] 24 (0, 0))) := ⟨by subst hg; exact (hb2.block _ (by simp)).trans (blk_new wr _)⟩
              have HO2 := Aside0.mk (Kd.C_below HOa.out hb2)
              have HN2 := Aside0.mk (Kd.C_below HNa.out hb2)
              have HA2 := Aside0.mk (Kd.C_below HAa.out hb2)
              have HB2 := Aside0.mk (below_step HBa.out hb2)
              have H5 := Aside0.mk q6
              have H5l := Aside0.mk q5
              rw [← hg]
              have HG := Aside0.mk hg
              clear hb2 q5 q6 HOa HNa HAa HBa hc0' hc1' hc2' b1 b2 hg
              have hu28 := Try.underlying28
              have hu40 := Try.underlying40
              have cz0 : w2.cell? ⟨g, 0, none⟩ = some (.int .i64 kind) := (blk_cell BK.out 0).trans rfl
              have cz1 : w2.cell? ⟨g, 1, none⟩ = some (.slice B old.length b) := (blk_cell BK.out 1).trans rfl
              have cz2 : w2.cell? ⟨g, 2, none⟩ = some (.slice C new.length cc) := (blk_cell BK.out 2).trans rfl
              rcases chain_cases kind old new l with ⟨hv, he, hk2, hol⟩ | ⟨hv, he, hk1⟩ | ⟨hv, he, hne⟩ | ⟨hv, he⟩
              · rw [hv] at H5 H5l ⊢
                rw [he]
                have HOL := Aside0.mk hol
                clear hv he hol
                subst hk2
                go_wp2_with fail
                refine (ints_is true _ _ _ _ _ _ _ (decide_eq_true rfl) H5.out H5l.out HN2.out HNl.out).mono ?_
                rintro e w3 ⟨rfl, hb3⟩
                have HO3 := Aside0.mk (Kd.C_below HO2.out hb3)
                have HA3 := Aside0.mk (Kd.C_below HA2.out hb3)
                have H53 := Aside0.mk (Kd.C_below H5.out hb3)
                have HB3 := Aside0.mk (below_step HB2.out hb3)
                have dz1 : w3.cell? ⟨g, 1, none⟩ = some (.slice B old.length b) := pw_cell_below hb3 cz1
                clear hb3 cz0 cz1 cz2
                go_wp2_with (go_at_call 12; refine (ints_is true _ _ _ _ _ _ _ (decide_eq_true HOL.out.symm) HA3.out HAc.out HO3.out HOl.out).mono ?_; rintro e w4 ⟨rfl, hb4⟩; have HB4 := Aside0.mk hb4; clear hb4)
                go_roundw
                case rel => exact ⟨k + 1, A5, c5, new, by omega, by go_num, rfl, ⟨Kd.C_below H53.out HB4.out⟩, H5l, ⟨hn⟩, ⟨below_step HB3.out HB4.out⟩⟩
                case measure => simp [intOf]; omega
              · rw [hv] at H5 H5l ⊢
                rw [he]
                clear hv he
                subst hk1
                have heN := Go.Proofs.Ytefeklhdaafbbaa.Err.eqN
                go_wp2_with (go_at_call 12; refine (ints_is true _ _ _ _ _ _ _ (decide_eq_true rfl) H5.out H5l.out HA2.out HAc.out).mono ?_; rintro e w3 ⟨rfl, hb3⟩; have HB3 := Aside0.mk hb3; clear hb3)
                go_roundw
                case rel => exact ⟨k + 1, A5, c5, l, by omega, by go_num, rfl, ⟨Kd.C_below H5.out HB3.out⟩, H5l, HAl, ⟨below_step HB2.out HB3.out⟩⟩
                case measure => simp [intOf]; omega
              · rw [hv] at H5 H5l ⊢
                rw [he]
                have HNE := Aside0.mk hne
                clear hv he hne
                have heE := fun W => Go.Proofs.Ytefeklhdaafbbaa.Err.eqE W 11 11
                go_wp2_with fail
                refine (ints_is true _ _ _ _ _ _ _ (decide_eq_true rfl) H5.out H5l.out HA2.out HAc.out).mono ?_
                rintro e w3 ⟨rfl, hb3⟩
                have HO3 := Aside0.mk (Kd.C_below HO2.out hb3)
                have HA3 := Aside0.mk (Kd.C_below HA2.out hb3)
                have H53 := Aside0.mk (Kd.C_below H5.out hb3)
                have HB3 := Aside0.mk (below_step HB2.out hb3)
                have dz1 : w3.cell? ⟨g, 1, none⟩ = some (.slice B old.length b) := pw_cell_below hb3 cz1
                clear hb3 cz0 cz1 cz2
                go_wp2_with (go_at_call 12; refine (ints_is false _ _ _ _ _ _ _ (decide_eq_false HNE.out) HA3.out HAc.out HO3.out HOl.out).mono ?_; rintro e w4 ⟨rfl, hb4⟩; have HB4 := Aside0.mk hb4; clear hb4)
                go_roundw
                case rel => exact ⟨k + 1, A5, c5, l, by omega, by go_num, rfl, ⟨Kd.C_below H53.out HB4.out⟩, H5l, HAl, ⟨below_step HB3.out HB4.out⟩⟩
                case measure => simp [intOf]; omega
              · rw [hv] at H5 H5l ⊢
                rw [he]
                clear hv he
                have heE := fun W => Go.Proofs.Ytefeklhdaafbbaa.Err.eqE W 2 11
                go_wp2_with (go_at_call 12; refine (ints_is true _ _ _ _ _ _ _ (decide_eq_true rfl) H5.out H5l.out HA2.out HAc.out).mono ?_; rintro e w3 ⟨rfl, hb3⟩; have HB3 := Aside0.mk hb3; clear hb3)
                go_roundw
                case rel => exact ⟨k + 1, A5, c5, l, by omega, by go_num, rfl, ⟨Kd.C_below H5.out HB3.out⟩, H5l, HAl, ⟨below_step HB2.out HB3.out⟩⟩
                case measure => simp [intOf]; omega
            · have b2 : decide (100 < new.length) = true := decide_eq_true (by omega)
              go_wp2
              go_ret
              exact ⟨rfl, below_step HB.out (below_alloc HW.out _)⟩
          · have b1 : decide (100 < old.length) = true := decide_eq_true (by omega)
            go_wp2
            go_ret
            exact ⟨rfl, below_step HB.out (below_alloc HW.out _)⟩
        · go_wp2
          go_ret
          exact ⟨rfl, below_step HB.out HW.out⟩
    · have b1 : decide (100 < list.length) = false := decide_eq_false (by omega)
      have b2 : decide (100 < value.length) = true := decide_eq_true (by omega)
      go_enter Try.func6, Try.ntmps6
      go_wp2_with (go_at_call 8; refine (alive_any _).mono ?_; rintro e w1 ⟨rfl, hb1⟩; have HB := Aside0.mk hb1; clear hb1)
      go_ret
      exact ⟨rfl, HB.out⟩
  · have b1 : decide (100 < list.length) = true := decide_eq_true (by omega)
    go_enter Try.func6, Try.ntmps6
    go_wp2_with (go_at_call 8; refine (alive_any _).mono ?_; rintro e w1 ⟨rfl, hb1⟩; have HB := Aside0.mk hb1; clear hb1)
    go_ret
    exact ⟨rfl, HB.out⟩
end Go.Proofs.Ytefeklhdaafbbaa.MAll

/- PostNone: the walk. -/
import Derived.Test.YtnjhgckmfebdoaaPc
set_option linter.unusedVariables false
set_option linter.unusedSimpArgs false
namespace Go.Proofs.Ytnjhgckmfebdoaa.MAll
open Go.RowKit Go.Proofs.YtnjhgckmfebdoaaW.PrintWords Go.Proofs.YtnjhgckmfebdoaaW.PrintLast Go.Proofs.YtnjhgckmfebdoaaW.PrintMore
set_option maxHeartbeats 8000000 in
set_option maxRecDepth 100000 in
theorem none_any (W : World) (A : Option Addr) (n c : Nat) (i : Int) : Calls Try.prog 7 #[.slice A n c, .int .i64 i] W fun e w' => e = .returned (.bool true) ∧ Below W.heap.size W w' := by
  have hu25 := Try.underlying25
  have hu31 := Try.underlying31
  have hu34 := Try.underlying34
  go_enter Try.func7, Try.ntmps7
  go_wp2_with fail
  refine (alive_any _).mono ?_
  rintro e w1 ⟨rfl, hb1⟩
  have HB2 : Aside0 (Below W.heap.size W w1) := ⟨hb1⟩
  clear hb1
  go_wp2_with fail
  refine (deliver_nil _ i).mono ?_
  rintro e w3 ⟨rfl, hb3⟩
  have HB4 : Aside0 (Below W.heap.size W w3) := ⟨below_step HB2.out hb3⟩
  clear hb3
  go_wp2_with fail
  obtain ⟨WX, hwx⟩ : ∃ x : World, x = w3.alloc (.cells #[.slice A n c] 34) := ⟨_, rfl⟩
  have hbx : Below w3.heap.size w3 WX := by rw [hwx]; exact below_alloc (Below.refl _ _) _
  rw [← hwx]
  clear hwx
  have HB6 : Aside0 (Below W.heap.size W WX) := ⟨below_step HB4.out hbx⟩
  clear hbx
  refine (send_nil _ _).mono ?_
  rintro e w7 ⟨rfl, hb7⟩
  have HB8 : Aside0 (Below W.heap.size W w7) := ⟨below_step HB6.out hb7⟩
  clear hb7
  go_wp2_with fail
  refine (drop_nil _ i).mono ?_
  rintro e w9 ⟨rfl, hb9⟩
  have HB10 : Aside0 (Below W.heap.size W w9) := ⟨below_step HB8.out hb9⟩
  clear hb9
  go_wp2_with fail
  refine (copy_nil _ i).mono ?_
  rintro e w11 ⟨rfl, hb11⟩
  have HB12 : Aside0 (Below W.heap.size W w11) := ⟨below_step HB10.out hb11⟩
  clear hb11
  go_wp2_with fail
  refine (len_nil _).mono ?_
  rintro e w13 ⟨rfl, hb13⟩
  have HB14 : Aside0 (Below W.heap.size W w13) := ⟨below_step HB12.out hb13⟩
  clear hb13
  go_wp2_with fail
  refine (lost_nil _).mono ?_
  rintro e w15 ⟨rfl, hb15⟩
  have HB16 : Aside0 (Below W.heap.size W w15) := ⟨below_step HB14.out hb15⟩
  clear hb15
  go_wp2_with fail
  refine (taken_nil _).mono ?_
  rintro e w17 ⟨rfl, hb17⟩
  have HB18 : Aside0 (Below W.heap.size W w17) := ⟨below_step HB16.out hb17⟩
  clear hb17
  go_wp2_with fail
  go_ret
  exact ⟨rfl, HB18.out⟩
theorem none_walk (w : World) (A0 : Option Addr) (c0 : Nat) (x : List Int) (hr : (Kd.int .u8).C w A0 x.length x) (hc : x.length ≤ c0) {Q : Prop} (hq : Q) (i : Int) (hi : (Lit.int .i64 i).wf = true) : Calls Try.prog 7 #[.slice A0 x.length c0, .int .i64 i] w fun e w' => e = .returned (.bool true) ∧ Below w.heap.size w w' := none_any w A0 x.length c0 i
end Go.Proofs.Ytnjhgckmfebdoaa.MAll

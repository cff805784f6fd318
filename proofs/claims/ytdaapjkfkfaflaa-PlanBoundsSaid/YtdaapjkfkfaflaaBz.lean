/- PlanBounds: the walk. -/
import Derived.Test.YtdaapjkfkfaflaaBo0
import Derived.Test.YtdaapjkfkfaflaaBo1
import Derived.Test.YtdaapjkfkfaflaaBo2
import Derived.Test.YtdaapjkfkfaflaaBo3
import Derived.Test.YtdaapjkfkfaflaaBo4
import Derived.Test.YtdaapjkfkfaflaaBo5
import Derived.Test.YtdaapjkfkfaflaaBo6
import Derived.Test.YtdaapjkfkfaflaaBo7
namespace Go.Proofs.Ytdaapjkfkfaflaa.MAll
open Go.RowKit Go.Proofs.YtdaapjkfkfaflaaW.PrintWords
theorem bounds_walk (w : World) (x : Int) (_ : (Lit.int .i64 x).wf = true) (y : Int) (_ : (Lit.int .i64 y).wf = true) : Calls Try.prog 4 #[.int .i64 x, .int .i64 y] w fun e w' => e = .returned (.bool true) ∧ Below w.heap.size w w' := by
  obtain ⟨h0, h1⟩ := umod x 8 (by omega)
  have h : (IntKind.u64.wrap x).tmod 8 = 0 ∨ (IntKind.u64.wrap x).tmod 8 = 1 ∨ (IntKind.u64.wrap x).tmod 8 = 2 ∨ (IntKind.u64.wrap x).tmod 8 = 3 ∨ (IntKind.u64.wrap x).tmod 8 = 4 ∨ (IntKind.u64.wrap x).tmod 8 = 5 ∨ (IntKind.u64.wrap x).tmod 8 = 6 ∨ (IntKind.u64.wrap x).tmod 8 = 7 := by
    generalize (IntKind.u64.wrap x).tmod 8 = r at *
    omega
  rcases h with h | h | h | h | h | h | h | h
  · exact bounds_0 x y w h
  · exact bounds_1 x y w h
  · exact bounds_2 x y w h
  · exact bounds_3 x y w h
  · exact bounds_4 x y w h
  · exact bounds_5 x y w h
  · exact bounds_6 x y w h
  · exact bounds_7 x y w h
end Go.Proofs.Ytdaapjkfkfaflaa.MAll

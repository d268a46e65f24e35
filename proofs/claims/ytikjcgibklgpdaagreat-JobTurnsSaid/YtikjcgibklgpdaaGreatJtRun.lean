/-
  JtRun: the front and the rest.
-/
import Derived.Test.YtikjcgibklgpdaaGreatJtKnown
set_option linter.unusedSimpArgs false
set_option linter.unusedVariables false
set_option linter.unusedSectionVars false

set_option maxRecDepth 100000
namespace Go.Rv.Jt
open Go.Proofs

theorem front_run : (List.range 256).all (fun n => reachF (front (Int.ofNat n) true) .normal (T2 (n % 3) true) [] && reachF (front (Int.ofNat n) false) .normal (T2 (n % 3) false) []) = true := by kernel_rfl
theorem rest_run : (List.range 3).all (fun k => rest k true && rest k false) = true := by kernel_rfl

end Go.Rv.Jt

/-
  GfRe: GraphFull's rest for the numbers from 31 to 35: it comes to true.
-/
import Derived.Test.YtkmbjdiodagbhaaGfFront
set_option linter.unusedSimpArgs false
set_option linter.unusedVariables false
set_option linter.unusedSectionVars false

set_option maxRecDepth 100000
namespace Go.Rv.Gf
theorem rest_e : (List.range' 31 5).all rest = true := by kernel_rfl
end Go.Rv.Gf

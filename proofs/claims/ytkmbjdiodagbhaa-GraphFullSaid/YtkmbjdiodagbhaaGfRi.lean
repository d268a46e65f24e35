/-
  GfRi: GraphFull's rest for the numbers from 47 to 49: it comes to true.
-/
import Derived.Test.YtkmbjdiodagbhaaGfFront
set_option linter.unusedSimpArgs false
set_option linter.unusedVariables false
set_option linter.unusedSectionVars false

set_option maxRecDepth 100000
namespace Go.Rv.Gf
theorem rest_i : (List.range' 47 3).all rest = true := by kernel_rfl
end Go.Rv.Gf

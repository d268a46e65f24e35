/-
  GfRh: GraphFull's rest for the numbers from 44 to 46: it comes to true.
-/
import Derived.Test.YtkmbjdiodagbhaaGfFront
set_option linter.unusedSimpArgs false
set_option linter.unusedVariables false
set_option linter.unusedSectionVars false

set_option maxRecDepth 100000
namespace Go.Rv.Gf
theorem rest_h : (List.range' 44 3).all rest = true := by kernel_rfl
end Go.Rv.Gf

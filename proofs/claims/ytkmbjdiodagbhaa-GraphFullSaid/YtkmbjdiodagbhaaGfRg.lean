/-
  GfRg: GraphFull's rest for the numbers from 40 to 43: it comes to true.
-/
import Derived.Test.YtkmbjdiodagbhaaGfFront
set_option linter.unusedSimpArgs false
set_option linter.unusedVariables false
set_option linter.unusedSectionVars false

set_option maxRecDepth 100000
namespace Go.Rv.Gf
theorem rest_g : (List.range' 40 4).all rest = true := by kernel_rfl
end Go.Rv.Gf

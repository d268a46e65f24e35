/-
  GfHas: the seat's functions have this code.
-/
import Derived.Test.YtkmbjdiodagbhaaGfCode
import Derived.Test.YtkmbjdiodagbhaaRvFour
import Derived.Test.YtkmbjdiodagbhaaIter
import Derived.KernelRfl
set_option linter.unusedSimpArgs false
set_option linter.unusedVariables false
set_option linter.unusedSectionVars false

set_option maxRecDepth 20000
namespace Go.Rv.Gf
open Go.Proofs

def numIdx (c : Nat) : Option FuncId := bif Nat.ble c 123 then some c else none
noncomputable def NA : Num := { P := Try.prog, inv := numIdx, idx := numIdx }

theorem has3 : HasFn NA 3 c3 := ⟨3, Try.f3, by kernel_rfl, Try.func3, by kernel_rfl⟩
theorem has7 : HasFn NA 7 c7 := ⟨7, Try.f7, by kernel_rfl, Try.func7, by kernel_rfl⟩
theorem has8 : HasFn NA 8 c8 := ⟨8, Try.f8, by kernel_rfl, Try.func8, by kernel_rfl⟩
theorem has9 : HasFn NA 9 c9 := ⟨9, Try.f9, by kernel_rfl, Try.func9, by kernel_rfl⟩
theorem has10 : HasFn NA 10 c10 := ⟨10, Try.f10, by kernel_rfl, Try.func10, by kernel_rfl⟩
theorem has11 : HasFn NA 11 c11 := ⟨11, Try.f11, by kernel_rfl, Try.func11, by kernel_rfl⟩
theorem has12 : HasFn NA 12 c12 := ⟨12, Try.f12, by kernel_rfl, Try.func12, by kernel_rfl⟩
theorem has20 : HasFn NA 20 c20 := ⟨20, Try.f20, by kernel_rfl, Try.func20, by kernel_rfl⟩
theorem has21 : HasFn NA 21 c21 := ⟨21, Try.f21, by kernel_rfl, Try.func21, by kernel_rfl⟩
theorem has22 : HasFn NA 22 c22 := ⟨22, Try.f22, by kernel_rfl, Try.func22, by kernel_rfl⟩
theorem has23 : HasFn NA 23 c23 := ⟨23, Try.f23, by kernel_rfl, Try.func23, by kernel_rfl⟩
theorem has24 : HasFn NA 24 c24 := ⟨24, Try.f24, by kernel_rfl, Try.func24, by kernel_rfl⟩
theorem has25 : HasFn NA 25 c25 := ⟨25, Try.f25, by kernel_rfl, Try.func25, by kernel_rfl⟩
theorem has32 : HasFn NA 32 c32 := ⟨32, Try.f32, by kernel_rfl, Try.func32, by kernel_rfl⟩
theorem has33 : HasFn NA 33 c33 := ⟨33, Try.f33, by kernel_rfl, Try.func33, by kernel_rfl⟩
theorem has34 : HasFn NA 34 c34 := ⟨34, Try.f34, by kernel_rfl, Try.func34, by kernel_rfl⟩
theorem has37 : HasFn NA 37 c37 := ⟨37, Try.f37, by kernel_rfl, Try.func37, by kernel_rfl⟩
theorem has46 : HasFn NA 46 c46 := ⟨46, Try.f46, by kernel_rfl, Try.func46, by kernel_rfl⟩
theorem has47 : HasFn NA 47 c47 := ⟨47, Try.f47, by kernel_rfl, Try.func47, by kernel_rfl⟩
theorem has48 : HasFn NA 48 c48 := ⟨48, Try.f48, by kernel_rfl, Try.func48, by kernel_rfl⟩
theorem has49 : HasFn NA 49 c49 := ⟨49, Try.f49, by kernel_rfl, Try.func49, by kernel_rfl⟩
theorem has50 : HasFn NA 50 c50 := ⟨50, Try.f50, by kernel_rfl, Try.func50, by kernel_rfl⟩
theorem has51 : HasFn NA 51 c51 := ⟨51, Try.f51, by kernel_rfl, Try.func51, by kernel_rfl⟩
theorem has52 : HasFn NA 52 c52 := ⟨52, Try.f52, by kernel_rfl, Try.func52, by kernel_rfl⟩
theorem has53 : HasFn NA 53 c53 := ⟨53, Try.f53, by kernel_rfl, Try.func53, by kernel_rfl⟩
theorem has54 : HasFn NA 54 c54 := ⟨54, Try.f54, by kernel_rfl, Try.func54, by kernel_rfl⟩
theorem has55 : HasFn NA 55 c55 := ⟨55, Try.f55, by kernel_rfl, Try.func55, by kernel_rfl⟩
theorem has63 : HasFn NA 63 c63 := ⟨63, Try.f63, by kernel_rfl, Try.func63, by kernel_rfl⟩
theorem has64 : HasFn NA 64 c64 := ⟨64, Try.f64, by kernel_rfl, Try.func64, by kernel_rfl⟩
theorem has65 : HasFn NA 65 c65 := ⟨65, Try.f65, by kernel_rfl, Try.func65, by kernel_rfl⟩
theorem has66 : HasFn NA 66 c66 := ⟨66, Try.f66, by kernel_rfl, Try.func66, by kernel_rfl⟩
theorem has67 : HasFn NA 67 c67 := ⟨67, Try.f67, by kernel_rfl, Try.func67, by kernel_rfl⟩
theorem has68 : HasFn NA 68 c68 := ⟨68, Try.f68, by kernel_rfl, Try.func68, by kernel_rfl⟩
theorem has69 : HasFn NA 69 c69 := ⟨69, Try.f69, by kernel_rfl, Try.func69, by kernel_rfl⟩
theorem has70 : HasFn NA 70 c70 := ⟨70, Try.f70, by kernel_rfl, Try.func70, by kernel_rfl⟩
theorem has88 : HasFn NA 88 c88 := ⟨88, Try.f88, by kernel_rfl, Try.func88, by kernel_rfl⟩
theorem has89 : HasFn NA 89 c89 := ⟨89, Try.f89, by kernel_rfl, Try.func89, by kernel_rfl⟩
theorem has91 : HasFn NA 91 c91 := ⟨91, Try.f91, by kernel_rfl, Try.func91, by kernel_rfl⟩
theorem has101 : HasFn NA 101 c101 := ⟨101, Try.f101, by kernel_rfl, Try.func101, by kernel_rfl⟩
theorem has102 : HasFn NA 102 c102 := ⟨102, Try.f102, by kernel_rfl, Try.func102, by kernel_rfl⟩
theorem has105 : HasFn NA 105 c105 := ⟨105, Try.f105, by kernel_rfl, Try.func105, by kernel_rfl⟩

end Go.Rv.Gf

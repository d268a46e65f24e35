/-
  GfKnown: the law's own check comes to true.
-/
import Derived.Test.YtkmbjdiodagbhaaGfLib
set_option linter.unusedSimpArgs false
set_option linter.unusedVariables false
set_option linter.unusedSectionVars false

set_option maxRecDepth 100000
namespace Go.Rv.Gf
open Go.Proofs Go.Shelf

theorem known_run : callsF (evalF L1 100 30 (.func 7 [] []) [] ⟨0, .nil⟩) (.bool true) [] = true := by kernel_rfl

theorem known_ok : ∀ X, ACallV (NA.withX X) (.func 7 [] []) [] [] fun v _ => v = .bool true := fun X =>
  (calls_sound (evalF_sound mixed L1_ok 100 30) known_run heapNil (Nat.le_refl _) X).mono fun _ _ h => h.1

noncomputable def L2T : Tri Ent := (.node (.node (.node (.node (.node (.node (.node .nil (.leaf (.fn c64 false))) (.node (.leaf (.fn c32 false)) .nil)) (.node .nil (.node (.leaf (.fn c48 false)) .nil))) (.node (.node (.node (.leaf (.fn c8 false)) .nil) .nil) (.node (.node (.leaf (.orc (oKeys 37))) (.leaf (.fn c88 false))) .nil))) (.node (.node (.node (.node .nil (.leaf (.fn c68 false))) .nil) (.node (.node (.leaf (.fn c20 false)) .nil) (.node (.leaf (.fn c52 false)) .nil))) (.node (.node (.node (.leaf (.fn c12 false)) .nil) .nil) .nil))) (.node (.node (.node (.node (.node .nil (.leaf (.fn c66 false))) (.node (.leaf (.fn c34 false)) .nil)) (.node .nil (.node (.leaf (.fn c50 false)) .nil))) (.node (.node (.node (.leaf (.fn c10 false)) .nil) .nil) (.node (.node .nil (.leaf (.orc (oIdx)))) .nil))) (.node (.node (.node (.node .nil (.leaf (.fn c70 false))) (.node .nil (.leaf (.fn c102 false)))) (.node (.node (.leaf (.orc (oTab names))) .nil) (.node (.leaf (.fn c54 false)) .nil))) (.node (.node .nil (.node (.leaf (.fn c46 false)) .nil)) .nil)))) (.node (.node (.node (.node (.node (.node .nil (.leaf (.fn c65 false))) (.node (.leaf (.fn c33 false)) .nil)) (.node .nil (.node (.leaf (.fn c49 false)) .nil))) (.node (.node (.node (.leaf (.fn c9 false)) .nil) (.node .nil (.leaf (.fn c105 false)))) (.node (.node (.leaf (.fn c25 false)) (.leaf (.fn c89 false))) .nil))) (.node (.node (.node (.node .nil (.leaf (.fn c69 false))) (.node (.leaf (.fn c37 false)) (.leaf (.fn c101 false)))) (.node (.node (.leaf (.fn c21 false)) .nil) (.node (.leaf (.fn c53 false)) .nil))) .nil)) (.node (.node (.node (.node (.node (.leaf (.fn c3 false)) (.leaf (.fn c67 false))) .nil) (.node .nil (.node (.leaf (.fn c51 false)) .nil))) (.node (.node (.node (.leaf (.fn c11 false)) .nil) .nil) (.node (.node .nil (.leaf (.fn c91 false))) .nil))) (.node (.node (.node (.node (.leaf (.orc (oNone (.bool true)))) .nil) .nil) (.node (.node (.leaf (.fn c23 false)) .nil) (.node (.leaf (.fn c55 false)) .nil))) (.node (.node .nil (.node (.leaf (.fn c47 false)) .nil)) (.node .nil (.node (.leaf (.fn c63 false)) .nil)))))))
noncomputable def L2 : LibF := { ent := entOf 7 L2T }
theorem L2_ok : LibF.Ok NA L2 := libOk (show AllAt 7 L2T (EntOk NA) from ⟨⟨⟨⟨⟨⟨⟨fun _ => trivial, has64⟩, ⟨has32, fun _ => trivial⟩⟩, ⟨fun _ => trivial, ⟨has48, fun _ => trivial⟩⟩⟩, ⟨⟨⟨has8, fun _ => trivial⟩, fun _ => trivial⟩, ⟨⟨(oKeys_ok Try.sorted24 Try.keys10 Try.sorts24 e36 rfl rfl), has88⟩, fun _ => trivial⟩⟩⟩, ⟨⟨⟨⟨fun _ => trivial, has68⟩, fun _ => trivial⟩, ⟨⟨has20, fun _ => trivial⟩, ⟨has52, fun _ => trivial⟩⟩⟩, ⟨⟨⟨has12, fun _ => trivial⟩, fun _ => trivial⟩, fun _ => trivial⟩⟩⟩, ⟨⟨⟨⟨⟨fun _ => trivial, has66⟩, ⟨has34, fun _ => trivial⟩⟩, ⟨fun _ => trivial, ⟨has50, fun _ => trivial⟩⟩⟩, ⟨⟨⟨has10, fun _ => trivial⟩, fun _ => trivial⟩, ⟨⟨fun _ => trivial, (oIdx_ok rfl Try.func90 (by kernel_rfl) (by kernel_rfl) (by kernel_rfl) (by kernel_rfl))⟩, fun _ => trivial⟩⟩⟩, ⟨⟨⟨⟨fun _ => trivial, has70⟩, ⟨fun _ => trivial, has102⟩⟩, ⟨⟨(oTab_ok has22 names_ok), fun _ => trivial⟩, ⟨has54, fun _ => trivial⟩⟩⟩, ⟨⟨fun _ => trivial, ⟨has46, fun _ => trivial⟩⟩, fun _ => trivial⟩⟩⟩⟩, ⟨⟨⟨⟨⟨⟨fun _ => trivial, has65⟩, ⟨has33, fun _ => trivial⟩⟩, ⟨fun _ => trivial, ⟨has49, fun _ => trivial⟩⟩⟩, ⟨⟨⟨has9, fun _ => trivial⟩, ⟨fun _ => trivial, has105⟩⟩, ⟨⟨has25, has89⟩, fun _ => trivial⟩⟩⟩, ⟨⟨⟨⟨fun _ => trivial, has69⟩, ⟨has37, has101⟩⟩, ⟨⟨has21, fun _ => trivial⟩, ⟨has53, fun _ => trivial⟩⟩⟩, fun _ => trivial⟩⟩, ⟨⟨⟨⟨⟨has3, has67⟩, fun _ => trivial⟩, ⟨fun _ => trivial, ⟨has51, fun _ => trivial⟩⟩⟩, ⟨⟨⟨has11, fun _ => trivial⟩, fun _ => trivial⟩, ⟨⟨fun _ => trivial, has91⟩, fun _ => trivial⟩⟩⟩, ⟨⟨⟨⟨(oNone_ok rfl known_ok), fun _ => trivial⟩, fun _ => trivial⟩, ⟨⟨has23, fun _ => trivial⟩, ⟨has55, fun _ => trivial⟩⟩⟩, ⟨⟨fun _ => trivial, ⟨has47, fun _ => trivial⟩⟩, ⟨fun _ => trivial, ⟨has63, fun _ => trivial⟩⟩⟩⟩⟩⟩⟩)

/-- One call deep and more: what a body's front and rest are run with. -/
noncomputable def call2 : CallF := evalF L2 100 30
noncomputable def front (n : Int) : ResF := preF call2 (regF call2) 100 (cutSeq 5 c3.body) (tmpsOf (.int .u8 n :: List.replicate 79 undefA)) ⟨0, .nil⟩
end Go.Rv.Gf

/-
  JtHas: the seat's functions have this code.
-/
import Derived.Test.YtikjcgibklgpdaaGreatJtCode
import Derived.Test.YtikjcgibklgpdaaGreatRvFive
import Derived.Test.YtikjcgibklgpdaaGreatProg
import Derived.KernelRfl
set_option linter.unusedSimpArgs false
set_option linter.unusedVariables false
set_option linter.unusedSectionVars false

set_option maxRecDepth 100000
namespace Go.Rv.Jt
open Go.Proofs

def numIdx (c : Nat) : Option FuncId := bif Nat.ble c 177 then some c else none
noncomputable def NA : Num := { P := Tryz.prog, inv := numIdx, idx := numIdx }

theorem has5 : HasFn NA 5 c5 := ⟨5, Tryz.f5, by kernel_rfl, Tryz.func5, by kernel_rfl⟩
theorem has6 : HasFn NA 6 c6 := ⟨6, Tryz.f6, by kernel_rfl, Tryz.func6, by kernel_rfl⟩
theorem has7 : HasFn NA 7 c7 := ⟨7, Tryz.f7, by kernel_rfl, Tryz.func7, by kernel_rfl⟩
theorem has8 : HasFn NA 8 c8 := ⟨8, Tryz.f8, by kernel_rfl, Tryz.func8, by kernel_rfl⟩
theorem has9 : HasFn NA 9 c9 := ⟨9, Tryz.f9, by kernel_rfl, Tryz.func9, by kernel_rfl⟩
theorem has10 : HasFn NA 10 c10 := ⟨10, Tryz.f10, by kernel_rfl, Tryz.func10, by kernel_rfl⟩
theorem has11 : HasFn NA 11 c11 := ⟨11, Tryz.f11, by kernel_rfl, Tryz.func11, by kernel_rfl⟩
theorem has12 : HasFn NA 12 c12 := ⟨12, Tryz.f12, by kernel_rfl, Tryz.func12, by kernel_rfl⟩
theorem has14 : HasFn NA 14 c14 := ⟨14, Tryz.f14, by kernel_rfl, Tryz.func14, by kernel_rfl⟩
theorem has16 : HasFn NA 16 c16 := ⟨16, Tryz.f16, by kernel_rfl, Tryz.func16, by kernel_rfl⟩
theorem has17 : HasFn NA 17 c17 := ⟨17, Tryz.f17, by kernel_rfl, Tryz.func17, by kernel_rfl⟩
theorem has18 : HasFn NA 18 c18 := ⟨18, Tryz.f18, by kernel_rfl, Tryz.func18, by kernel_rfl⟩
theorem has19 : HasFn NA 19 c19 := ⟨19, Tryz.f19, by kernel_rfl, Tryz.func19, by kernel_rfl⟩
theorem has20 : HasFn NA 20 c20 := ⟨20, Tryz.f20, by kernel_rfl, Tryz.func20, by kernel_rfl⟩
theorem has21 : HasFn NA 21 c21 := ⟨21, Tryz.f21, by kernel_rfl, Tryz.func21, by kernel_rfl⟩
theorem has22 : HasFn NA 22 c22 := ⟨22, Tryz.f22, by kernel_rfl, Tryz.func22, by kernel_rfl⟩
theorem has23 : HasFn NA 23 c23 := ⟨23, Tryz.f23, by kernel_rfl, Tryz.func23, by kernel_rfl⟩
theorem has24 : HasFn NA 24 c24 := ⟨24, Tryz.f24, by kernel_rfl, Tryz.func24, by kernel_rfl⟩
theorem has25 : HasFn NA 25 c25 := ⟨25, Tryz.f25, by kernel_rfl, Tryz.func25, by kernel_rfl⟩
theorem has26 : HasFn NA 26 c26 := ⟨26, Tryz.f26, by kernel_rfl, Tryz.func26, by kernel_rfl⟩
theorem has28 : HasFn NA 28 c28 := ⟨28, Tryz.f28, by kernel_rfl, Tryz.func28, by kernel_rfl⟩
theorem has29 : HasFn NA 29 c29 := ⟨29, Tryz.f29, by kernel_rfl, Tryz.func29, by kernel_rfl⟩
theorem has30 : HasFn NA 30 c30 := ⟨30, Tryz.f30, by kernel_rfl, Tryz.func30, by kernel_rfl⟩
theorem has31 : HasFn NA 31 c31 := ⟨31, Tryz.f31, by kernel_rfl, Tryz.func31, by kernel_rfl⟩
theorem has32 : HasFn NA 32 c32 := ⟨32, Tryz.f32, by kernel_rfl, Tryz.func32, by kernel_rfl⟩
theorem has33 : HasFn NA 33 c33 := ⟨33, Tryz.f33, by kernel_rfl, Tryz.func33, by kernel_rfl⟩
theorem has34 : HasFn NA 34 c34 := ⟨34, Tryz.f34, by kernel_rfl, Tryz.func34, by kernel_rfl⟩
theorem has35 : HasFn NA 35 c35 := ⟨35, Tryz.f35, by kernel_rfl, Tryz.func35, by kernel_rfl⟩
theorem has36 : HasFn NA 36 c36 := ⟨36, Tryz.f36, by kernel_rfl, Tryz.func36, by kernel_rfl⟩
theorem has37 : HasFn NA 37 c37 := ⟨37, Tryz.f37, by kernel_rfl, Tryz.func37, by kernel_rfl⟩
theorem has38 : HasFn NA 38 c38 := ⟨38, Tryz.f38, by kernel_rfl, Tryz.func38, by kernel_rfl⟩
theorem has39 : HasFn NA 39 c39 := ⟨39, Tryz.f39, by kernel_rfl, Tryz.func39, by kernel_rfl⟩
theorem has40 : HasFn NA 40 c40 := ⟨40, Tryz.f40, by kernel_rfl, Tryz.func40, by kernel_rfl⟩
theorem has41 : HasFn NA 41 c41 := ⟨41, Tryz.f41, by kernel_rfl, Tryz.func41, by kernel_rfl⟩
theorem has42 : HasFn NA 42 c42 := ⟨42, Tryz.f42, by kernel_rfl, Tryz.func42, by kernel_rfl⟩
theorem has43 : HasFn NA 43 c43 := ⟨43, Tryz.f43, by kernel_rfl, Tryz.func43, by kernel_rfl⟩
theorem has44 : HasFn NA 44 c44 := ⟨44, Tryz.f44, by kernel_rfl, Tryz.func44, by kernel_rfl⟩
theorem has45 : HasFn NA 45 c45 := ⟨45, Tryz.f45, by kernel_rfl, Tryz.func45, by kernel_rfl⟩
theorem has46 : HasFn NA 46 c46 := ⟨46, Tryz.f46, by kernel_rfl, Tryz.func46, by kernel_rfl⟩
theorem has47 : HasFn NA 47 c47 := ⟨47, Tryz.f47, by kernel_rfl, Tryz.func47, by kernel_rfl⟩
theorem has55 : HasFn NA 55 c55 := ⟨55, Tryz.f55, by kernel_rfl, Tryz.func55, by kernel_rfl⟩
theorem has56 : HasFn NA 56 c56 := ⟨56, Tryz.f56, by kernel_rfl, Tryz.func56, by kernel_rfl⟩
theorem has57 : HasFn NA 57 c57 := ⟨57, Tryz.f57, by kernel_rfl, Tryz.func57, by kernel_rfl⟩
theorem has58 : HasFn NA 58 c58 := ⟨58, Tryz.f58, by kernel_rfl, Tryz.func58, by kernel_rfl⟩
theorem has59 : HasFn NA 59 c59 := ⟨59, Tryz.f59, by kernel_rfl, Tryz.func59, by kernel_rfl⟩
theorem has60 : HasFn NA 60 c60 := ⟨60, Tryz.f60, by kernel_rfl, Tryz.func60, by kernel_rfl⟩
theorem has61 : HasFn NA 61 c61 := ⟨61, Tryz.f61, by kernel_rfl, Tryz.func61, by kernel_rfl⟩
theorem has62 : HasFn NA 62 c62 := ⟨62, Tryz.f62, by kernel_rfl, Tryz.func62, by kernel_rfl⟩
theorem has63 : HasFn NA 63 c63 := ⟨63, Tryz.f63, by kernel_rfl, Tryz.func63, by kernel_rfl⟩
theorem has64 : HasFn NA 64 c64 := ⟨64, Tryz.f64, by kernel_rfl, Tryz.func64, by kernel_rfl⟩
theorem has65 : HasFn NA 65 c65 := ⟨65, Tryz.f65, by kernel_rfl, Tryz.func65, by kernel_rfl⟩
theorem has66 : HasFn NA 66 c66 := ⟨66, Tryz.f66, by kernel_rfl, Tryz.func66, by kernel_rfl⟩
theorem has67 : HasFn NA 67 c67 := ⟨67, Tryz.f67, by kernel_rfl, Tryz.func67, by kernel_rfl⟩
theorem has68 : HasFn NA 68 c68 := ⟨68, Tryz.f68, by kernel_rfl, Tryz.func68, by kernel_rfl⟩
theorem has69 : HasFn NA 69 c69 := ⟨69, Tryz.f69, by kernel_rfl, Tryz.func69, by kernel_rfl⟩
theorem has70 : HasFn NA 70 c70 := ⟨70, Tryz.f70, by kernel_rfl, Tryz.func70, by kernel_rfl⟩
theorem has71 : HasFn NA 71 c71 := ⟨71, Tryz.f71, by kernel_rfl, Tryz.func71, by kernel_rfl⟩
theorem has72 : HasFn NA 72 c72 := ⟨72, Tryz.f72, by kernel_rfl, Tryz.func72, by kernel_rfl⟩
theorem has73 : HasFn NA 73 c73 := ⟨73, Tryz.f73, by kernel_rfl, Tryz.func73, by kernel_rfl⟩
theorem has74 : HasFn NA 74 c74 := ⟨74, Tryz.f74, by kernel_rfl, Tryz.func74, by kernel_rfl⟩
theorem has75 : HasFn NA 75 c75 := ⟨75, Tryz.f75, by kernel_rfl, Tryz.func75, by kernel_rfl⟩
theorem has76 : HasFn NA 76 c76 := ⟨76, Tryz.f76, by kernel_rfl, Tryz.func76, by kernel_rfl⟩
theorem has77 : HasFn NA 77 c77 := ⟨77, Tryz.f77, by kernel_rfl, Tryz.func77, by kernel_rfl⟩
theorem has83 : HasFn NA 83 c83 := ⟨83, Tryz.f83, by kernel_rfl, Tryz.func83, by kernel_rfl⟩
theorem has84 : HasFn NA 84 c84 := ⟨84, Tryz.f84, by kernel_rfl, Tryz.func84, by kernel_rfl⟩
theorem has85 : HasFn NA 85 c85 := ⟨85, Tryz.f85, by kernel_rfl, Tryz.func85, by kernel_rfl⟩
theorem has86 : HasFn NA 86 c86 := ⟨86, Tryz.f86, by kernel_rfl, Tryz.func86, by kernel_rfl⟩
theorem has87 : HasFn NA 87 c87 := ⟨87, Tryz.f87, by kernel_rfl, Tryz.func87, by kernel_rfl⟩
theorem has88 : HasFn NA 88 c88 := ⟨88, Tryz.f88, by kernel_rfl, Tryz.func88, by kernel_rfl⟩
theorem has89 : HasFn NA 89 c89 := ⟨89, Tryz.f89, by kernel_rfl, Tryz.func89, by kernel_rfl⟩
theorem has90 : HasFn NA 90 c90 := ⟨90, Tryz.f90, by kernel_rfl, Tryz.func90, by kernel_rfl⟩
theorem has91 : HasFn NA 91 c91 := ⟨91, Tryz.f91, by kernel_rfl, Tryz.func91, by kernel_rfl⟩
theorem has97 : HasFn NA 97 c97 := ⟨97, Tryz.f97, by kernel_rfl, Tryz.func97, by kernel_rfl⟩
theorem has100 : HasFn NA 100 c100 := ⟨100, Tryz.f100, by kernel_rfl, Tryz.func100, by kernel_rfl⟩
theorem has101 : HasFn NA 101 c101 := ⟨101, Tryz.f101, by kernel_rfl, Tryz.func101, by kernel_rfl⟩
theorem has102 : HasFn NA 102 c102 := ⟨102, Tryz.f102, by kernel_rfl, Tryz.func102, by kernel_rfl⟩
theorem has103 : HasFn NA 103 c103 := ⟨103, Tryz.f103, by kernel_rfl, Tryz.func103, by kernel_rfl⟩
theorem has104 : HasFn NA 104 c104 := ⟨104, Tryz.f104, by kernel_rfl, Tryz.func104, by kernel_rfl⟩
theorem has105 : HasFn NA 105 c105 := ⟨105, Tryz.f105, by kernel_rfl, Tryz.func105, by kernel_rfl⟩
theorem has106 : HasFn NA 106 c106 := ⟨106, Tryz.f106, by kernel_rfl, Tryz.func106, by kernel_rfl⟩
theorem has107 : HasFn NA 107 c107 := ⟨107, Tryz.f107, by kernel_rfl, Tryz.func107, by kernel_rfl⟩
theorem has108 : HasFn NA 108 c108 := ⟨108, Tryz.f108, by kernel_rfl, Tryz.func108, by kernel_rfl⟩
theorem has110 : HasFn NA 110 c110 := ⟨110, Tryz.f110, by kernel_rfl, Tryz.func110, by kernel_rfl⟩
theorem has112 : HasFn NA 112 c112 := ⟨112, Tryz.f112, by kernel_rfl, Tryz.func112, by kernel_rfl⟩
theorem has116 : HasFn NA 116 c116 := ⟨116, Tryz.f116, by kernel_rfl, Tryz.func116, by kernel_rfl⟩
theorem has117 : HasFn NA 117 c117 := ⟨117, Tryz.f117, by kernel_rfl, Tryz.func117, by kernel_rfl⟩
theorem has118 : HasFn NA 118 c118 := ⟨118, Tryz.f118, by kernel_rfl, Tryz.func118, by kernel_rfl⟩
theorem has119 : HasFn NA 119 c119 := ⟨119, Tryz.f119, by kernel_rfl, Tryz.func119, by kernel_rfl⟩
theorem has120 : HasFn NA 120 c120 := ⟨120, Tryz.f120, by kernel_rfl, Tryz.func120, by kernel_rfl⟩
theorem has121 : HasFn NA 121 c121 := ⟨121, Tryz.f121, by kernel_rfl, Tryz.func121, by kernel_rfl⟩
theorem has122 : HasFn NA 122 c122 := ⟨122, Tryz.f122, by kernel_rfl, Tryz.func122, by kernel_rfl⟩
theorem has124 : HasFn NA 124 c124 := ⟨124, Tryz.f124, by kernel_rfl, Tryz.func124, by kernel_rfl⟩
theorem has125 : HasFn NA 125 c125 := ⟨125, Tryz.f125, by kernel_rfl, Tryz.func125, by kernel_rfl⟩
theorem has127 : HasFn NA 127 c127 := ⟨127, Tryz.f127, by kernel_rfl, Tryz.func127, by kernel_rfl⟩
theorem has128 : HasFn NA 128 c128 := ⟨128, Tryz.f128, by kernel_rfl, Tryz.func128, by kernel_rfl⟩
theorem has129 : HasFn NA 129 c129 := ⟨129, Tryz.f129, by kernel_rfl, Tryz.func129, by kernel_rfl⟩
theorem has130 : HasFn NA 130 c130 := ⟨130, Tryz.f130, by kernel_rfl, Tryz.func130, by kernel_rfl⟩
theorem has131 : HasFn NA 131 c131 := ⟨131, Tryz.f131, by kernel_rfl, Tryz.func131, by kernel_rfl⟩
theorem has139 : HasFn NA 139 c139 := ⟨139, Tryz.f139, by kernel_rfl, Tryz.func139, by kernel_rfl⟩
theorem has140 : HasFn NA 140 c140 := ⟨140, Tryz.f140, by kernel_rfl, Tryz.func140, by kernel_rfl⟩
theorem has141 : HasFn NA 141 c141 := ⟨141, Tryz.f141, by kernel_rfl, Tryz.func141, by kernel_rfl⟩
theorem has145 : HasFn NA 145 c145 := ⟨145, Tryz.f145, by kernel_rfl, Tryz.func145, by kernel_rfl⟩
theorem has151 : HasFn NA 151 c151 := ⟨151, Tryz.f151, by kernel_rfl, Tryz.func151, by kernel_rfl⟩
theorem keys44 : KeysFnI NA 44 := ⟨44, Tryz.f44, 61, 3, 31, 64, 4, 0, by kernel_rfl, Tryz.func44, by kernel_rfl, by kernel_rfl, rfl, rfl, by kernel_rfl, by kernel_rfl, by kernel_rfl, by kernel_rfl⟩
theorem keys129 : KeysFnI NA 129 := ⟨129, Tryz.f129, 76, 9, 29, 80, 4, 0, by kernel_rfl, Tryz.func129, by kernel_rfl, by kernel_rfl, rfl, rfl, by kernel_rfl, by kernel_rfl, by kernel_rfl, by kernel_rfl⟩
theorem keys107 : KeysFn NA 107 3 := ⟨107, Tryz.f107, 129, 93, 66, 106, 4, 0, .agg [.int .i64 0, .str [], .str []], [.int .i64 0, .str [], .str []], by kernel_rfl, Tryz.func107, by kernel_rfl, by kernel_rfl, rfl, rfl, by kernel_rfl, by kernel_rfl, by kernel_rfl, by kernel_rfl, by kernel_rfl, by kernel_rfl, rfl, rfl, by kernel_rfl⟩

end Go.Rv.Jt

/-
  GfFront: GraphFull's front: whatever the number, an empty graph, the letters, and the number's rest by fifty.
-/
import Derived.Test.YtkmbjdiodagbhaaGfKnown
set_option linter.unusedSimpArgs false
set_option linter.unusedVariables false
set_option linter.unusedSectionVars false

set_option maxRecDepth 100000
namespace Go.Rv.Gf
open Go.Proofs

def letters : List Nat := [97, 98, 99, 100, 101, 102, 103, 104, 105, 106, 107, 108, 109, 110, 111, 112, 113, 114, 115, 116, 117, 118, 119, 120, 121, 122, 65, 66, 67, 68, 69, 70, 71, 72, 73, 74, 75, 76, 77, 78, 79, 80, 81, 82, 83, 84, 85, 86, 87, 88, 89, 90]
def T2 (k : Nat) : List AVal := [.junk, .junk, .junk, .ptr 1 0, .str letters, .int .i64 (Int.ofNat k)] ++ List.replicate 74 .junk
def H2 : AHeap := [.map [], .cells [.map 0]]
def T3 : List AVal := [.junk, .junk, .bool true] ++ List.replicate 77 .junk

theorem front_run : (List.range 256).all (fun n => reachF (front (Int.ofNat n)) .normal (T2 (n % 50)) H2) = true := by kernel_rfl

noncomputable def rest (k : Nat) : Bool := reachF (runCF call2 (regF call2) 100 (restSeq 5 c3.body) (tmpsOf (T2 k)) (heapOf H2)) .ret T3 []
end Go.Rv.Gf

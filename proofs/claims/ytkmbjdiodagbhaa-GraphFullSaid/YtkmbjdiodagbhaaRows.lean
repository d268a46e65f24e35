/-
  No cell of these rows narrows 'for every input' (looked for: loops, veiled, ifaces, maps, wideKeys, modest, calm, conditions, laid).
  DERIVED. THE GIVEN ROWS OF THIS SEAT. 4 by the template 'for every input the law returns true; each argument reads behind the call as it read before'; 0 by the template 'total and deterministic' (their statements: YtkmbjdiodagbhaaTotals.lean).
  GIVEN WITH THE SEED: the statements are not yours to turn. If you find one false, say at which input.
  Laid BY PROGRAM, IN A SANDBOX (cutbox-rows.mjs): the forced cells as the released guide's own fill.sh prints them over the translation 71f8cb821995bb75… (all of the seat's roots in one cut). By AI agents, Wed Nov 11 2026. No macro, syntax, notation, axiom, sorry.
-/
import Derived.Test.YtkmbjdiodagbhaaChecked
import GoSem.Claim
import GoSem.ClaimJoined
import GoSem.ClaimMapViews
import Derived.JoinedTies
import Derived.KernelRfl
namespace Go.Proofs.Ytkmbjdiodagbhaa
/- THE CELL 'sum', in the pinned program and in every row, IS THE sha256 OF THE DUMP (.gsa) THAT YtkmbjdiodagbhaaProg.lean LOADS. Nothing in Lean hashes anything: it is a label: what it is worth is what the hold of that sum in a sandbox is worth. -/
noncomputable def Try.pinned : Pinned := { name := "ytkmbjdiodagbhaa", sum := "71f8cb821995bb752cad0fa1338db52d42ce09475da211513c19c0889f16a2a0", checked := Try.checked }
namespace Rows
def none {H : Type} : Left H := { results := [], args := [] }

/-- 'reveillelaw15.GraphFull': WHATEVER THE INPUT: true; the input reads as it did. -/
def graphFullSpec : ChangeSpec := { name := "graphFull", fn := fun _ => fun
  | [d] => { results := [.lit (.bool true)], args := [d] }
  | _ => none }
def graphFullRow : OpenClaim := { program := "ytkmbjdiodagbhaa", sum := "71f8cb821995bb752cad0fa1338db52d42ce09475da211513c19c0889f16a2a0", func := "reveille/reveillelaw15.GraphFull", spec := "graphFull", inPlace := ["internal/bytealg.IndexByteString", "internal/bytealg.IndexString"], unfollowed := true, recurses := true, named := ["internal/bytealg.MaxLen"], apart := false }
def GraphFullSaid : Prop := graphFullRow.holds Try.pinned (OpenSpec.ofChange graphFullSpec)

/-- ITS FALSE NEIGHBOUR: 'it returns false'. Refute it at one input. -/
def graphFullWrong : ChangeSpec := { name := "graphFull", fn := fun _ => fun
  | [d] => { results := [.lit (.bool false)], args := [d] }
  | _ => none }
def GraphFullWrongFalsely : Prop := graphFullRow.holds Try.pinned (OpenSpec.ofChange graphFullWrong)

/-- 'reveillelaw16.OrderSorts': WHATEVER THE INPUT: true; the input reads as it did. -/
def orderSortsSpec : ChangeSpec := { name := "orderSorts", fn := fun _ => fun
  | [d1, d2, d3] => { results := [.lit (.bool true)], args := [d1, d2, d3] }
  | _ => none }
def orderSortsRow : OpenClaim := { program := "ytkmbjdiodagbhaa", sum := "71f8cb821995bb752cad0fa1338db52d42ce09475da211513c19c0889f16a2a0", func := "reveille/reveillelaw16.OrderSorts", spec := "orderSorts", inPlace := ["internal/bytealg.IndexByteString", "internal/bytealg.IndexString"], unfollowed := true, recurses := true, named := ["internal/bytealg.MaxLen"], apart := false }
def OrderSortsSaid : Prop := orderSortsRow.holds Try.pinned (OpenSpec.ofChange orderSortsSpec)

/-- ITS FALSE NEIGHBOUR: 'it returns false'. Refute it at one input. -/
def orderSortsWrong : ChangeSpec := { name := "orderSorts", fn := fun _ => fun
  | [d1, d2, d3] => { results := [.lit (.bool false)], args := [d1, d2, d3] }
  | _ => none }
def OrderSortsWrongFalsely : Prop := orderSortsRow.holds Try.pinned (OpenSpec.ofChange orderSortsWrong)

/-- 'reveillelaw16.OrderRows': WHATEVER THE INPUT: true; the input reads as it did. -/
def orderRowsSpec : ChangeSpec := { name := "orderRows", fn := fun _ => fun
  | [d1, d2, d3] => { results := [.lit (.bool true)], args := [d1, d2, d3] }
  | _ => none }
def orderRowsRow : OpenClaim := { program := "ytkmbjdiodagbhaa", sum := "71f8cb821995bb752cad0fa1338db52d42ce09475da211513c19c0889f16a2a0", func := "reveille/reveillelaw16.OrderRows", spec := "orderRows", inPlace := ["internal/bytealg.IndexByteString", "internal/bytealg.IndexString"], unfollowed := true, recurses := true, named := ["internal/bytealg.MaxLen"], apart := false }
def OrderRowsSaid : Prop := orderRowsRow.holds Try.pinned (OpenSpec.ofChange orderRowsSpec)

/-- ITS FALSE NEIGHBOUR: 'it returns false'. Refute it at one input. -/
def orderRowsWrong : ChangeSpec := { name := "orderRows", fn := fun _ => fun
  | [d1, d2, d3] => { results := [.lit (.bool false)], args := [d1, d2, d3] }
  | _ => none }
def OrderRowsWrongFalsely : Prop := orderRowsRow.holds Try.pinned (OpenSpec.ofChange orderRowsWrong)

/-- 'reveillelaw16.OrderCircle': WHATEVER THE INPUT: true; the input reads as it did. -/
def orderCircleSpec : ChangeSpec := { name := "orderCircle", fn := fun _ => fun
  | [d1, d2, d3] => { results := [.lit (.bool true)], args := [d1, d2, d3] }
  | _ => none }
def orderCircleRow : OpenClaim := { program := "ytkmbjdiodagbhaa", sum := "71f8cb821995bb752cad0fa1338db52d42ce09475da211513c19c0889f16a2a0", func := "reveille/reveillelaw16.OrderCircle", spec := "orderCircle", inPlace := ["internal/bytealg.IndexByteString", "internal/bytealg.IndexString"], unfollowed := true, recurses := true, named := ["internal/bytealg.MaxLen"], apart := false }
def OrderCircleSaid : Prop := orderCircleRow.holds Try.pinned (OpenSpec.ofChange orderCircleSpec)

/-- ITS FALSE NEIGHBOUR: 'it returns false'. Refute it at one input. -/
def orderCircleWrong : ChangeSpec := { name := "orderCircle", fn := fun _ => fun
  | [d1, d2, d3] => { results := [.lit (.bool false)], args := [d1, d2, d3] }
  | _ => none }
def OrderCircleWrongFalsely : Prop := orderCircleRow.holds Try.pinned (OpenSpec.ofChange orderCircleWrong)

/- THE SECOND FORM. 'bulk': how many values and letters a reading holds, each counted each time it is reached (what is shared counts as often as it is met; a slice's spare places count too). A statement '..UptoSaid' is the law's where the arguments, and the package variables that the reading takes, are together of bulk at most 1048576: NARROWER than '..Said'. Prove '..Said' where nothing that the law and all that it calls make is longer than what came in: it says more and counts as full. Else prove '..UptoSaid'. A law counts once. -/
mutual
def uptoBulk {H : Type} : DataW H → Nat
  | .lit (.string bytes) => bytes.length + 1
  | .lit _ => 1
  | .nil => 1
  | .ptr d => uptoBulk d + 1
  | .slice elems spare => uptoBulkAll elems + uptoBulkAll spare + 1
  | .agg parts => uptoBulkAll parts + 1
  | .iface _ d => uptoBulk d + 1
  | .map entries => uptoBulkEntries entries + 1
  | .held _ => 1
def uptoBulkAll {H : Type} : List (DataW H) → Nat
  | [] => 0
  | d :: r => uptoBulk d + uptoBulkAll r
def uptoBulkEntries {H : Type} : List (Lit × DataW H) → Nat
  | [] => 0
  | x :: r => uptoBulkEntry x + uptoBulkEntries r
def uptoBulkEntry {H : Type} : Lit × DataW H → Nat
  | (.string bytes, d) => bytes.length + uptoBulk d + 1
  | (_, d) => uptoBulk d + 1
 end
def uptoSmall : (H : Type) → List (DataW H) → Bool := fun _ ds => decide (uptoBulkAll ds ≤ 1048576)
def OpenSpec.upto (s : _root_.Go.ChangeSpec) : _root_.Go.OpenSpec := { _root_.Go.OpenSpec.ofChange s with cond := some uptoSmall }

/-- 'reveillelaw15.GraphFull', WHERE WHAT IT READS IS OF BULK AT MOST 1048576: true; the input reads as it did. -/
def graphFullUptoRow : OpenClaim := { program := "ytkmbjdiodagbhaa", sum := "71f8cb821995bb752cad0fa1338db52d42ce09475da211513c19c0889f16a2a0", func := "reveille/reveillelaw15.GraphFull", spec := "graphFull", inPlace := ["internal/bytealg.IndexByteString", "internal/bytealg.IndexString"], unfollowed := true, recurses := true, named := ["internal/bytealg.MaxLen"], apart := false, narrowed := true }
def GraphFullUptoSaid : Prop := graphFullUptoRow.holds Try.pinned (OpenSpec.upto graphFullSpec)

/-- 'reveillelaw16.OrderSorts', WHERE WHAT IT READS IS OF BULK AT MOST 1048576: true; the input reads as it did. -/
def orderSortsUptoRow : OpenClaim := { program := "ytkmbjdiodagbhaa", sum := "71f8cb821995bb752cad0fa1338db52d42ce09475da211513c19c0889f16a2a0", func := "reveille/reveillelaw16.OrderSorts", spec := "orderSorts", inPlace := ["internal/bytealg.IndexByteString", "internal/bytealg.IndexString"], unfollowed := true, recurses := true, named := ["internal/bytealg.MaxLen"], apart := false, narrowed := true }
def OrderSortsUptoSaid : Prop := orderSortsUptoRow.holds Try.pinned (OpenSpec.upto orderSortsSpec)

/-- 'reveillelaw16.OrderRows', WHERE WHAT IT READS IS OF BULK AT MOST 1048576: true; the input reads as it did. -/
def orderRowsUptoRow : OpenClaim := { program := "ytkmbjdiodagbhaa", sum := "71f8cb821995bb752cad0fa1338db52d42ce09475da211513c19c0889f16a2a0", func := "reveille/reveillelaw16.OrderRows", spec := "orderRows", inPlace := ["internal/bytealg.IndexByteString", "internal/bytealg.IndexString"], unfollowed := true, recurses := true, named := ["internal/bytealg.MaxLen"], apart := false, narrowed := true }
def OrderRowsUptoSaid : Prop := orderRowsUptoRow.holds Try.pinned (OpenSpec.upto orderRowsSpec)

/-- 'reveillelaw16.OrderCircle', WHERE WHAT IT READS IS OF BULK AT MOST 1048576: true; the input reads as it did. -/
def orderCircleUptoRow : OpenClaim := { program := "ytkmbjdiodagbhaa", sum := "71f8cb821995bb752cad0fa1338db52d42ce09475da211513c19c0889f16a2a0", func := "reveille/reveillelaw16.OrderCircle", spec := "orderCircle", inPlace := ["internal/bytealg.IndexByteString", "internal/bytealg.IndexString"], unfollowed := true, recurses := true, named := ["internal/bytealg.MaxLen"], apart := false, narrowed := true }
def OrderCircleUptoSaid : Prop := orderCircleUptoRow.holds Try.pinned (OpenSpec.upto orderCircleSpec)

end Rows
end Go.Proofs.Ytkmbjdiodagbhaa

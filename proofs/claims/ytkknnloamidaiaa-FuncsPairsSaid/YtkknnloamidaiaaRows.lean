/-
  No cell of these rows narrows 'for every input' (looked for: loops, veiled, ifaces, maps, wideKeys, modest, calm, conditions, laid).
  DERIVED. THE GIVEN ROWS OF THIS SEAT. 9 by the template 'for every input the law returns true; each argument reads behind the call as it read before'; 0 by the template 'total and deterministic' (their statements: YtkknnloamidaiaaTotals.lean).
  GIVEN WITH THE SEED: the statements are not yours to turn. If you find one false, say at which input.
  Laid BY PROGRAM, IN A SANDBOX (cutbox-rows.mjs): the forced cells as the released guide's own fill.sh prints them over the translation 3fc0e96bcd097438… (all of the seat's roots in one cut). By AI agents, Wed Nov 11 2026. No macro, syntax, notation, axiom, sorry.
-/
import Derived.Test.YtkknnloamidaiaaChecked
import GoSem.Claim
import GoSem.ClaimJoined
import GoSem.ClaimMapViews
import Derived.JoinedTies
import Derived.KernelRfl
namespace Go.Proofs.Ytkknnloamidaiaa
/- THE CELL 'sum', in the pinned program and in every row, IS THE sha256 OF THE DUMP (.gsa) THAT YtkknnloamidaiaaProg.lean LOADS. Nothing in Lean hashes anything: it is a label: what it is worth is what the hold of that sum in a sandbox is worth. -/
noncomputable def Try.pinned : Pinned := { name := "ytkknnloamidaiaa", sum := "3fc0e96bcd097438305286f3c38002da4a7621045adf1a92e8f66deafc132054", checked := Try.checked }
namespace Rows
def none {H : Type} : Left H := { results := [], args := [] }

/-- 'anneallaw12.FuncsSigns': WHATEVER THE INPUT: true; the input reads as it did. -/
def funcsSignsSpec : ChangeSpec := { name := "funcsSigns", fn := fun _ => fun
  | [d] => { results := [.lit (.bool true)], args := [d] }
  | _ => none }
def funcsSignsRow : OpenClaim := { program := "ytkknnloamidaiaa", sum := "3fc0e96bcd097438305286f3c38002da4a7621045adf1a92e8f66deafc132054", func := "anneal/anneallaw12.FuncsSigns", spec := "funcsSigns", apart := false }
def FuncsSignsSaid : Prop := funcsSignsRow.holds Try.pinned (OpenSpec.ofChange funcsSignsSpec)

/-- ITS FALSE NEIGHBOUR: 'it returns false'. Refute it at one input. -/
def funcsSignsWrong : ChangeSpec := { name := "funcsSigns", fn := fun _ => fun
  | [d] => { results := [.lit (.bool false)], args := [d] }
  | _ => none }
def FuncsSignsWrongFalsely : Prop := funcsSignsRow.holds Try.pinned (OpenSpec.ofChange funcsSignsWrong)

/-- 'anneallaw12.FuncsPairs': WHATEVER THE INPUT: true; the input reads as it did. -/
def funcsPairsSpec : ChangeSpec := { name := "funcsPairs", fn := fun _ => fun
  | [d] => { results := [.lit (.bool true)], args := [d] }
  | _ => none }
def funcsPairsRow : OpenClaim := { program := "ytkknnloamidaiaa", sum := "3fc0e96bcd097438305286f3c38002da4a7621045adf1a92e8f66deafc132054", func := "anneal/anneallaw12.FuncsPairs", spec := "funcsPairs", apart := false }
def FuncsPairsSaid : Prop := funcsPairsRow.holds Try.pinned (OpenSpec.ofChange funcsPairsSpec)

/-- ITS FALSE NEIGHBOUR: 'it returns false'. Refute it at one input. -/
def funcsPairsWrong : ChangeSpec := { name := "funcsPairs", fn := fun _ => fun
  | [d] => { results := [.lit (.bool false)], args := [d] }
  | _ => none }
def FuncsPairsWrongFalsely : Prop := funcsPairsRow.holds Try.pinned (OpenSpec.ofChange funcsPairsWrong)

/-- 'anneallaw12.FuncsCos': WHATEVER THE INPUT: true; the input reads as it did. -/
def funcsCosSpec : ChangeSpec := { name := "funcsCos", fn := fun _ => fun
  | [d] => { results := [.lit (.bool true)], args := [d] }
  | _ => none }
def funcsCosRow : OpenClaim := { program := "ytkknnloamidaiaa", sum := "3fc0e96bcd097438305286f3c38002da4a7621045adf1a92e8f66deafc132054", func := "anneal/anneallaw12.FuncsCos", spec := "funcsCos", apart := false }
def FuncsCosSaid : Prop := funcsCosRow.holds Try.pinned (OpenSpec.ofChange funcsCosSpec)

/-- ITS FALSE NEIGHBOUR: 'it returns false'. Refute it at one input. -/
def funcsCosWrong : ChangeSpec := { name := "funcsCos", fn := fun _ => fun
  | [d] => { results := [.lit (.bool false)], args := [d] }
  | _ => none }
def FuncsCosWrongFalsely : Prop := funcsCosRow.holds Try.pinned (OpenSpec.ofChange funcsCosWrong)

/-- 'anneallaw12.FuncsEdges': WHATEVER THE INPUT: true; the input reads as it did. -/
def funcsEdgesSpec : ChangeSpec := { name := "funcsEdges", fn := fun _ => fun
  | [d1, d2] => { results := [.lit (.bool true)], args := [d1, d2] }
  | _ => none }
def funcsEdgesRow : OpenClaim := { program := "ytkknnloamidaiaa", sum := "3fc0e96bcd097438305286f3c38002da4a7621045adf1a92e8f66deafc132054", func := "anneal/anneallaw12.FuncsEdges", spec := "funcsEdges", unfollowed := true, recurses := true, apart := false }
def FuncsEdgesSaid : Prop := funcsEdgesRow.holds Try.pinned (OpenSpec.ofChange funcsEdgesSpec)

/-- ITS FALSE NEIGHBOUR: 'it returns false'. Refute it at one input. -/
def funcsEdgesWrong : ChangeSpec := { name := "funcsEdges", fn := fun _ => fun
  | [d1, d2] => { results := [.lit (.bool false)], args := [d1, d2] }
  | _ => none }
def FuncsEdgesWrongFalsely : Prop := funcsEdgesRow.holds Try.pinned (OpenSpec.ofChange funcsEdgesWrong)

/-- 'anneallaw14.KernDots': WHATEVER THE INPUT: true; the input reads as it did. -/
def kernDotsSpec : ChangeSpec := { name := "kernDots", fn := fun _ => fun
  | [d1, d2, d3] => { results := [.lit (.bool true)], args := [d1, d2, d3] }
  | _ => none }
def kernDotsRow : OpenClaim := { program := "ytkknnloamidaiaa", sum := "3fc0e96bcd097438305286f3c38002da4a7621045adf1a92e8f66deafc132054", func := "anneal/anneallaw14.KernDots", spec := "kernDots", unfollowed := true, recurses := true, apart := false }
def KernDotsSaid : Prop := kernDotsRow.holds Try.pinned (OpenSpec.ofChange kernDotsSpec)

/-- ITS FALSE NEIGHBOUR: 'it returns false'. Refute it at one input. -/
def kernDotsWrong : ChangeSpec := { name := "kernDots", fn := fun _ => fun
  | [d1, d2, d3] => { results := [.lit (.bool false)], args := [d1, d2, d3] }
  | _ => none }
def KernDotsWrongFalsely : Prop := kernDotsRow.holds Try.pinned (OpenSpec.ofChange kernDotsWrong)

/-- 'anneallaw14.KernUnits': WHATEVER THE INPUT: true; the input reads as it did. -/
def kernUnitsSpec : ChangeSpec := { name := "kernUnits", fn := fun _ => fun
  | [d1, d2, d3] => { results := [.lit (.bool true)], args := [d1, d2, d3] }
  | _ => none }
def kernUnitsRow : OpenClaim := { program := "ytkknnloamidaiaa", sum := "3fc0e96bcd097438305286f3c38002da4a7621045adf1a92e8f66deafc132054", func := "anneal/anneallaw14.KernUnits", spec := "kernUnits", unfollowed := true, recurses := true, apart := false }
def KernUnitsSaid : Prop := kernUnitsRow.holds Try.pinned (OpenSpec.ofChange kernUnitsSpec)

/-- ITS FALSE NEIGHBOUR: 'it returns false'. Refute it at one input. -/
def kernUnitsWrong : ChangeSpec := { name := "kernUnits", fn := fun _ => fun
  | [d1, d2, d3] => { results := [.lit (.bool false)], args := [d1, d2, d3] }
  | _ => none }
def KernUnitsWrongFalsely : Prop := kernUnitsRow.holds Try.pinned (OpenSpec.ofChange kernUnitsWrong)

/-- 'anneallaw14.KernTurned': WHATEVER THE INPUT: true; the input reads as it did. -/
def kernTurnedSpec : ChangeSpec := { name := "kernTurned", fn := fun _ => fun
  | [d1, d2, d3, d4, d5, d6, d7] => { results := [.lit (.bool true)], args := [d1, d2, d3, d4, d5, d6, d7] }
  | _ => none }
def kernTurnedRow : OpenClaim := { program := "ytkknnloamidaiaa", sum := "3fc0e96bcd097438305286f3c38002da4a7621045adf1a92e8f66deafc132054", func := "anneal/anneallaw14.KernTurned", spec := "kernTurned", unfollowed := true, recurses := true, apart := false }
def KernTurnedSaid : Prop := kernTurnedRow.holds Try.pinned (OpenSpec.ofChange kernTurnedSpec)

/-- ITS FALSE NEIGHBOUR: 'it returns false'. Refute it at one input. -/
def kernTurnedWrong : ChangeSpec := { name := "kernTurned", fn := fun _ => fun
  | [d1, d2, d3, d4, d5, d6, d7] => { results := [.lit (.bool false)], args := [d1, d2, d3, d4, d5, d6, d7] }
  | _ => none }
def KernTurnedWrongFalsely : Prop := kernTurnedRow.holds Try.pinned (OpenSpec.ofChange kernTurnedWrong)

/-- 'anneallaw14.KernShapes': WHATEVER THE INPUT: true; the input reads as it did. -/
def kernShapesSpec : ChangeSpec := { name := "kernShapes", fn := fun _ => fun
  | [d1, d2, d3, d4] => { results := [.lit (.bool true)], args := [d1, d2, d3, d4] }
  | _ => none }
def kernShapesRow : OpenClaim := { program := "ytkknnloamidaiaa", sum := "3fc0e96bcd097438305286f3c38002da4a7621045adf1a92e8f66deafc132054", func := "anneal/anneallaw14.KernShapes", spec := "kernShapes", unfollowed := true, recurses := true, apart := false }
def KernShapesSaid : Prop := kernShapesRow.holds Try.pinned (OpenSpec.ofChange kernShapesSpec)

/-- ITS FALSE NEIGHBOUR: 'it returns false'. Refute it at one input. -/
def kernShapesWrong : ChangeSpec := { name := "kernShapes", fn := fun _ => fun
  | [d1, d2, d3, d4] => { results := [.lit (.bool false)], args := [d1, d2, d3, d4] }
  | _ => none }
def KernShapesWrongFalsely : Prop := kernShapesRow.holds Try.pinned (OpenSpec.ofChange kernShapesWrong)

/-- 'anneallaw15.ActRelus': WHATEVER THE INPUT: true; the input reads as it did. -/
def actRelusSpec : ChangeSpec := { name := "actRelus", fn := fun _ => fun
  | [d] => { results := [.lit (.bool true)], args := [d] }
  | _ => none }
def actRelusRow : OpenClaim := { program := "ytkknnloamidaiaa", sum := "3fc0e96bcd097438305286f3c38002da4a7621045adf1a92e8f66deafc132054", func := "anneal/anneallaw15.ActRelus", spec := "actRelus", unfollowed := true, recurses := true, apart := false }
def ActRelusSaid : Prop := actRelusRow.holds Try.pinned (OpenSpec.ofChange actRelusSpec)

/-- ITS FALSE NEIGHBOUR: 'it returns false'. Refute it at one input. -/
def actRelusWrong : ChangeSpec := { name := "actRelus", fn := fun _ => fun
  | [d] => { results := [.lit (.bool false)], args := [d] }
  | _ => none }
def ActRelusWrongFalsely : Prop := actRelusRow.holds Try.pinned (OpenSpec.ofChange actRelusWrong)

/- THE SECOND FORM. 'bulk': how many values and letters a reading holds, each counted each time it is reached (what is shared counts as often as it is met; a slice's spare places count too). A statement '..UptoSaid' is the law's where the arguments, and the package variables that the reading takes, are together of bulk at most 1048576: NARROWER than '..Said'. Prove '..Said' where nothing that the law and all that it calls make is longer than what came in: it says more and counts as full. Else prove '..UptoSaid'. A law counts once. -/
mutual
def uptoBulk {H : Type} : DataW H → Nat
  | .lit (.string bytes) => bytes.length + 1
  | .lit _ => 1
  | .nil => 1
  | .ptr d => uptoBulk d + 1
  | .slice elems spare => uptoBulkAll elems + uptoBulkAll spare + 1
  | .agg parts => uptoBulkAll parts + 1
  | .iface _ d => uptoBulk d + 1
  | .map entries => uptoBulkEntries entries + 1
  | .held _ => 1
def uptoBulkAll {H : Type} : List (DataW H) → Nat
  | [] => 0
  | d :: r => uptoBulk d + uptoBulkAll r
def uptoBulkEntries {H : Type} : List (Lit × DataW H) → Nat
  | [] => 0
  | x :: r => uptoBulkEntry x + uptoBulkEntries r
def uptoBulkEntry {H : Type} : Lit × DataW H → Nat
  | (.string bytes, d) => bytes.length + uptoBulk d + 1
  | (_, d) => uptoBulk d + 1
 end
def uptoSmall : (H : Type) → List (DataW H) → Bool := fun _ ds => decide (uptoBulkAll ds ≤ 1048576)
def OpenSpec.upto (s : _root_.Go.ChangeSpec) : _root_.Go.OpenSpec := { _root_.Go.OpenSpec.ofChange s with cond := some uptoSmall }

/-- 'anneallaw12.FuncsSigns', WHERE WHAT IT READS IS OF BULK AT MOST 1048576: true; the input reads as it did. -/
def funcsSignsUptoRow : OpenClaim := { program := "ytkknnloamidaiaa", sum := "3fc0e96bcd097438305286f3c38002da4a7621045adf1a92e8f66deafc132054", func := "anneal/anneallaw12.FuncsSigns", spec := "funcsSigns", apart := false, narrowed := true }
def FuncsSignsUptoSaid : Prop := funcsSignsUptoRow.holds Try.pinned (OpenSpec.upto funcsSignsSpec)

/-- 'anneallaw12.FuncsPairs', WHERE WHAT IT READS IS OF BULK AT MOST 1048576: true; the input reads as it did. -/
def funcsPairsUptoRow : OpenClaim := { program := "ytkknnloamidaiaa", sum := "3fc0e96bcd097438305286f3c38002da4a7621045adf1a92e8f66deafc132054", func := "anneal/anneallaw12.FuncsPairs", spec := "funcsPairs", apart := false, narrowed := true }
def FuncsPairsUptoSaid : Prop := funcsPairsUptoRow.holds Try.pinned (OpenSpec.upto funcsPairsSpec)

/-- 'anneallaw12.FuncsCos', WHERE WHAT IT READS IS OF BULK AT MOST 1048576: true; the input reads as it did. -/
def funcsCosUptoRow : OpenClaim := { program := "ytkknnloamidaiaa", sum := "3fc0e96bcd097438305286f3c38002da4a7621045adf1a92e8f66deafc132054", func := "anneal/anneallaw12.FuncsCos", spec := "funcsCos", apart := false, narrowed := true }
def FuncsCosUptoSaid : Prop := funcsCosUptoRow.holds Try.pinned (OpenSpec.upto funcsCosSpec)

/-- 'anneallaw12.FuncsEdges', WHERE WHAT IT READS IS OF BULK AT MOST 1048576: true; the input reads as it did. -/
def funcsEdgesUptoRow : OpenClaim := { program := "ytkknnloamidaiaa", sum := "3fc0e96bcd097438305286f3c38002da4a7621045adf1a92e8f66deafc132054", func := "anneal/anneallaw12.FuncsEdges", spec := "funcsEdges", unfollowed := true, recurses := true, apart := false, narrowed := true }
def FuncsEdgesUptoSaid : Prop := funcsEdgesUptoRow.holds Try.pinned (OpenSpec.upto funcsEdgesSpec)

/-- 'anneallaw14.KernDots', WHERE WHAT IT READS IS OF BULK AT MOST 1048576: true; the input reads as it did. -/
def kernDotsUptoRow : OpenClaim := { program := "ytkknnloamidaiaa", sum := "3fc0e96bcd097438305286f3c38002da4a7621045adf1a92e8f66deafc132054", func := "anneal/anneallaw14.KernDots", spec := "kernDots", unfollowed := true, recurses := true, apart := false, narrowed := true }
def KernDotsUptoSaid : Prop := kernDotsUptoRow.holds Try.pinned (OpenSpec.upto kernDotsSpec)

/-- 'anneallaw14.KernUnits', WHERE WHAT IT READS IS OF BULK AT MOST 1048576: true; the input reads as it did. -/
def kernUnitsUptoRow : OpenClaim := { program := "ytkknnloamidaiaa", sum := "3fc0e96bcd097438305286f3c38002da4a7621045adf1a92e8f66deafc132054", func := "anneal/anneallaw14.KernUnits", spec := "kernUnits", unfollowed := true, recurses := true, apart := false, narrowed := true }
def KernUnitsUptoSaid : Prop := kernUnitsUptoRow.holds Try.pinned (OpenSpec.upto kernUnitsSpec)

/-- 'anneallaw14.KernTurned', WHERE WHAT IT READS IS OF BULK AT MOST 1048576: true; the input reads as it did. -/
def kernTurnedUptoRow : OpenClaim := { program := "ytkknnloamidaiaa", sum := "3fc0e96bcd097438305286f3c38002da4a7621045adf1a92e8f66deafc132054", func := "anneal/anneallaw14.KernTurned", spec := "kernTurned", unfollowed := true, recurses := true, apart := false, narrowed := true }
def KernTurnedUptoSaid : Prop := kernTurnedUptoRow.holds Try.pinned (OpenSpec.upto kernTurnedSpec)

/-- 'anneallaw14.KernShapes', WHERE WHAT IT READS IS OF BULK AT MOST 1048576: true; the input reads as it did. -/
def kernShapesUptoRow : OpenClaim := { program := "ytkknnloamidaiaa", sum := "3fc0e96bcd097438305286f3c38002da4a7621045adf1a92e8f66deafc132054", func := "anneal/anneallaw14.KernShapes", spec := "kernShapes", unfollowed := true, recurses := true, apart := false, narrowed := true }
def KernShapesUptoSaid : Prop := kernShapesUptoRow.holds Try.pinned (OpenSpec.upto kernShapesSpec)

/-- 'anneallaw15.ActRelus', WHERE WHAT IT READS IS OF BULK AT MOST 1048576: true; the input reads as it did. -/
def actRelusUptoRow : OpenClaim := { program := "ytkknnloamidaiaa", sum := "3fc0e96bcd097438305286f3c38002da4a7621045adf1a92e8f66deafc132054", func := "anneal/anneallaw15.ActRelus", spec := "actRelus", unfollowed := true, recurses := true, apart := false, narrowed := true }
def ActRelusUptoSaid : Prop := actRelusUptoRow.holds Try.pinned (OpenSpec.upto actRelusSpec)

end Rows
end Go.Proofs.Ytkknnloamidaiaa

/-
  No cell of these rows narrows 'for every input' (looked for: loops, veiled, ifaces, maps, wideKeys, modest, calm, conditions, laid).
  DERIVED. THE GIVEN ROWS OF THIS SEAT. 18 by the template 'for every input the law returns true; each argument reads behind the call as it read before'; 0 by the template 'total and deterministic' (their statements: YtcpicekmnkjceaaTotals.lean).
  GIVEN WITH THE SEED: the statements are not yours to turn. If you find one false, say at which input.
  Laid BY PROGRAM, IN A SANDBOX (cutbox-rows.mjs): the forced cells as the released guide's own fill.sh prints them over the translation 75c15ac884368147… (all of the seat's roots in one cut). By AI agents, Wed Nov 11 2026. No macro, syntax, notation, axiom, sorry.
-/
import Derived.Test.YtcpicekmnkjceaaChecked
import GoSem.Claim
import GoSem.ClaimJoined
import GoSem.ClaimMapViews
import Derived.JoinedTies
import Derived.KernelRfl
namespace Go.Proofs.Ytcpicekmnkjceaa
/- THE CELL 'sum', in the pinned program and in every row, IS THE sha256 OF THE DUMP (.gsa) THAT YtcpicekmnkjceaaProg.lean LOADS. Nothing in Lean hashes anything: it is a label: what it is worth is what the hold of that sum in a sandbox is worth. -/
noncomputable def Try.pinned : Pinned := { name := "ytcpicekmnkjceaa", sum := "75c15ac8843681470f4345423e0e916e4d5daf3b7ba3d7b4ba3fad65edc71611", checked := Try.checked }
namespace Rows
def none {H : Type} : Left H := { results := [], args := [] }

/-- 'anneallaw27.SumSees': WHATEVER THE INPUT: true; the input reads as it did. -/
def sumSeesSpec : ChangeSpec := { name := "sumSees", fn := fun _ => fun
  | [d1, d2, d3] => { results := [.lit (.bool true)], args := [d1, d2, d3] }
  | _ => none }
def sumSeesRow : OpenClaim := { program := "ytcpicekmnkjceaa", sum := "75c15ac8843681470f4345423e0e916e4d5daf3b7ba3d7b4ba3fad65edc71611", func := "anneal/anneallaw27.SumSees", spec := "sumSees", apart := false }
def SumSeesSaid : Prop := sumSeesRow.holds Try.pinned (OpenSpec.ofChange sumSeesSpec)

/-- ITS FALSE NEIGHBOUR: 'it returns false'. Refute it at one input. -/
def sumSeesWrong : ChangeSpec := { name := "sumSees", fn := fun _ => fun
  | [d1, d2, d3] => { results := [.lit (.bool false)], args := [d1, d2, d3] }
  | _ => none }
def SumSeesWrongFalsely : Prop := sumSeesRow.holds Try.pinned (OpenSpec.ofChange sumSeesWrong)

/-- 'anneallaw22.ScalerTells': WHATEVER THE INPUT: true; the input reads as it did. -/
def scalerTellsSpec : ChangeSpec := { name := "scalerTells", fn := fun _ => fun
  | [d1, d2, d3, d4, d5, d6, d7, d8, d9] => { results := [.lit (.bool true)], args := [d1, d2, d3, d4, d5, d6, d7, d8, d9] }
  | _ => none }
def scalerTellsRow : OpenClaim := { program := "ytcpicekmnkjceaa", sum := "75c15ac8843681470f4345423e0e916e4d5daf3b7ba3d7b4ba3fad65edc71611", func := "anneal/anneallaw22.ScalerTells", spec := "scalerTells", apart := false }
def ScalerTellsSaid : Prop := scalerTellsRow.holds Try.pinned (OpenSpec.ofChange scalerTellsSpec)

/-- ITS FALSE NEIGHBOUR: 'it returns false'. Refute it at one input. -/
def scalerTellsWrong : ChangeSpec := { name := "scalerTells", fn := fun _ => fun
  | [d1, d2, d3, d4, d5, d6, d7, d8, d9] => { results := [.lit (.bool false)], args := [d1, d2, d3, d4, d5, d6, d7, d8, d9] }
  | _ => none }
def ScalerTellsWrongFalsely : Prop := scalerTellsRow.holds Try.pinned (OpenSpec.ofChange scalerTellsWrong)

/-- 'anneallaw22.ScalerPlays': WHATEVER THE INPUT: true; the input reads as it did. -/
def scalerPlaysSpec : ChangeSpec := { name := "scalerPlays", fn := fun _ => fun
  | [d1, d2, d3, d4, d5] => { results := [.lit (.bool true)], args := [d1, d2, d3, d4, d5] }
  | _ => none }
def scalerPlaysRow : OpenClaim := { program := "ytcpicekmnkjceaa", sum := "75c15ac8843681470f4345423e0e916e4d5daf3b7ba3d7b4ba3fad65edc71611", func := "anneal/anneallaw22.ScalerPlays", spec := "scalerPlays", apart := false }
def ScalerPlaysSaid : Prop := scalerPlaysRow.holds Try.pinned (OpenSpec.ofChange scalerPlaysSpec)

/-- ITS FALSE NEIGHBOUR: 'it returns false'. Refute it at one input. -/
def scalerPlaysWrong : ChangeSpec := { name := "scalerPlays", fn := fun _ => fun
  | [d1, d2, d3, d4, d5] => { results := [.lit (.bool false)], args := [d1, d2, d3, d4, d5] }
  | _ => none }
def ScalerPlaysWrongFalsely : Prop := scalerPlaysRow.holds Try.pinned (OpenSpec.ofChange scalerPlaysWrong)

/-- 'anneallaw22.ScalerFalls': WHATEVER THE INPUT: true; the input reads as it did. -/
def scalerFallsSpec : ChangeSpec := { name := "scalerFalls", fn := fun _ => fun
  | [d1, d2, d3, d4] => { results := [.lit (.bool true)], args := [d1, d2, d3, d4] }
  | _ => none }
def scalerFallsRow : OpenClaim := { program := "ytcpicekmnkjceaa", sum := "75c15ac8843681470f4345423e0e916e4d5daf3b7ba3d7b4ba3fad65edc71611", func := "anneal/anneallaw22.ScalerFalls", spec := "scalerFalls", apart := false }
def ScalerFallsSaid : Prop := scalerFallsRow.holds Try.pinned (OpenSpec.ofChange scalerFallsSpec)

/-- ITS FALSE NEIGHBOUR: 'it returns false'. Refute it at one input. -/
def scalerFallsWrong : ChangeSpec := { name := "scalerFalls", fn := fun _ => fun
  | [d1, d2, d3, d4] => { results := [.lit (.bool false)], args := [d1, d2, d3, d4] }
  | _ => none }
def ScalerFallsWrongFalsely : Prop := scalerFallsRow.holds Try.pinned (OpenSpec.ofChange scalerFallsWrong)

/-- 'anneallaw22.ScalerEdges': WHATEVER THE INPUT: true; the input reads as it did. -/
def scalerEdgesSpec : ChangeSpec := { name := "scalerEdges", fn := fun _ => fun
  | [d1, d2, d3, d4, d5] => { results := [.lit (.bool true)], args := [d1, d2, d3, d4, d5] }
  | _ => none }
def scalerEdgesRow : OpenClaim := { program := "ytcpicekmnkjceaa", sum := "75c15ac8843681470f4345423e0e916e4d5daf3b7ba3d7b4ba3fad65edc71611", func := "anneal/anneallaw22.ScalerEdges", spec := "scalerEdges", apart := false }
def ScalerEdgesSaid : Prop := scalerEdgesRow.holds Try.pinned (OpenSpec.ofChange scalerEdgesSpec)

/-- ITS FALSE NEIGHBOUR: 'it returns false'. Refute it at one input. -/
def scalerEdgesWrong : ChangeSpec := { name := "scalerEdges", fn := fun _ => fun
  | [d1, d2, d3, d4, d5] => { results := [.lit (.bool false)], args := [d1, d2, d3, d4, d5] }
  | _ => none }
def ScalerEdgesWrongFalsely : Prop := scalerEdgesRow.holds Try.pinned (OpenSpec.ofChange scalerEdgesWrong)

/-- 'anneallaw27.SumLong': WHATEVER THE INPUT: true; the input reads as it did. -/
def sumLongSpec : ChangeSpec := { name := "sumLong", fn := fun _ => fun
  | [d1, d2, d3] => { results := [.lit (.bool true)], args := [d1, d2, d3] }
  | _ => none }
def sumLongRow : OpenClaim := { program := "ytcpicekmnkjceaa", sum := "75c15ac8843681470f4345423e0e916e4d5daf3b7ba3d7b4ba3fad65edc71611", func := "anneal/anneallaw27.SumLong", spec := "sumLong", apart := false }
def SumLongSaid : Prop := sumLongRow.holds Try.pinned (OpenSpec.ofChange sumLongSpec)

/-- ITS FALSE NEIGHBOUR: 'it returns false'. Refute it at one input. -/
def sumLongWrong : ChangeSpec := { name := "sumLong", fn := fun _ => fun
  | [d1, d2, d3] => { results := [.lit (.bool false)], args := [d1, d2, d3] }
  | _ => none }
def SumLongWrongFalsely : Prop := sumLongRow.holds Try.pinned (OpenSpec.ofChange sumLongWrong)

/-- 'anneallaw27.SumTells32': WHATEVER THE INPUT: true; the input reads as it did. -/
def sumTells32Spec : ChangeSpec := { name := "sumTells32", fn := fun _ => fun
  | [d1, d2, d3, d4] => { results := [.lit (.bool true)], args := [d1, d2, d3, d4] }
  | _ => none }
def sumTells32Row : OpenClaim := { program := "ytcpicekmnkjceaa", sum := "75c15ac8843681470f4345423e0e916e4d5daf3b7ba3d7b4ba3fad65edc71611", func := "anneal/anneallaw27.SumTells32", spec := "sumTells32", apart := false }
def SumTells32Said : Prop := sumTells32Row.holds Try.pinned (OpenSpec.ofChange sumTells32Spec)

/-- ITS FALSE NEIGHBOUR: 'it returns false'. Refute it at one input. -/
def sumTells32Wrong : ChangeSpec := { name := "sumTells32", fn := fun _ => fun
  | [d1, d2, d3, d4] => { results := [.lit (.bool false)], args := [d1, d2, d3, d4] }
  | _ => none }
def SumTells32WrongFalsely : Prop := sumTells32Row.holds Try.pinned (OpenSpec.ofChange sumTells32Wrong)

/-- 'anneallaw2.FormatHigh': WHATEVER THE INPUT: true; the input reads as it did. -/
def formatHighSpec : ChangeSpec := { name := "formatHigh", fn := fun _ => fun
  | [d1, d2, d3] => { results := [.lit (.bool true)], args := [d1, d2, d3] }
  | _ => none }
def formatHighRow : OpenClaim := { program := "ytcpicekmnkjceaa", sum := "75c15ac8843681470f4345423e0e916e4d5daf3b7ba3d7b4ba3fad65edc71611", func := "anneal/anneallaw2.FormatHigh", spec := "formatHigh", apart := false }
def FormatHighSaid : Prop := formatHighRow.holds Try.pinned (OpenSpec.ofChange formatHighSpec)

/-- ITS FALSE NEIGHBOUR: 'it returns false'. Refute it at one input. -/
def formatHighWrong : ChangeSpec := { name := "formatHigh", fn := fun _ => fun
  | [d1, d2, d3] => { results := [.lit (.bool false)], args := [d1, d2, d3] }
  | _ => none }
def FormatHighWrongFalsely : Prop := formatHighRow.holds Try.pinned (OpenSpec.ofChange formatHighWrong)

/-- 'anneallaw2.FormatBack': WHATEVER THE INPUT: true; the input reads as it did. -/
def formatBackSpec : ChangeSpec := { name := "formatBack", fn := fun _ => fun
  | [d1, d2] => { results := [.lit (.bool true)], args := [d1, d2] }
  | _ => none }
def formatBackRow : OpenClaim := { program := "ytcpicekmnkjceaa", sum := "75c15ac8843681470f4345423e0e916e4d5daf3b7ba3d7b4ba3fad65edc71611", func := "anneal/anneallaw2.FormatBack", spec := "formatBack", apart := false }
def FormatBackSaid : Prop := formatBackRow.holds Try.pinned (OpenSpec.ofChange formatBackSpec)

/-- ITS FALSE NEIGHBOUR: 'it returns false'. Refute it at one input. -/
def formatBackWrong : ChangeSpec := { name := "formatBack", fn := fun _ => fun
  | [d1, d2] => { results := [.lit (.bool false)], args := [d1, d2] }
  | _ => none }
def FormatBackWrongFalsely : Prop := formatBackRow.holds Try.pinned (OpenSpec.ofChange formatBackWrong)

/-- 'anneallaw2.FormatEdges': WHATEVER THE INPUT: true; the input reads as it did. -/
def formatEdgesSpec : ChangeSpec := { name := "formatEdges", fn := fun _ => fun
  | [d1, d2, d3] => { results := [.lit (.bool true)], args := [d1, d2, d3] }
  | _ => none }
def formatEdgesRow : OpenClaim := { program := "ytcpicekmnkjceaa", sum := "75c15ac8843681470f4345423e0e916e4d5daf3b7ba3d7b4ba3fad65edc71611", func := "anneal/anneallaw2.FormatEdges", spec := "formatEdges", apart := false }
def FormatEdgesSaid : Prop := formatEdgesRow.holds Try.pinned (OpenSpec.ofChange formatEdgesSpec)

/-- ITS FALSE NEIGHBOUR: 'it returns false'. Refute it at one input. -/
def formatEdgesWrong : ChangeSpec := { name := "formatEdges", fn := fun _ => fun
  | [d1, d2, d3] => { results := [.lit (.bool false)], args := [d1, d2, d3] }
  | _ => none }
def FormatEdgesWrongFalsely : Prop := formatEdgesRow.holds Try.pinned (OpenSpec.ofChange formatEdgesWrong)

/-- 'anneallaw2.FormatTells': WHATEVER THE INPUT: true; the input reads as it did. -/
def formatTellsSpec : ChangeSpec := { name := "formatTells", fn := fun _ => fun
  | [d1, d2, d3, d4] => { results := [.lit (.bool true)], args := [d1, d2, d3, d4] }
  | _ => none }
def formatTellsRow : OpenClaim := { program := "ytcpicekmnkjceaa", sum := "75c15ac8843681470f4345423e0e916e4d5daf3b7ba3d7b4ba3fad65edc71611", func := "anneal/anneallaw2.FormatTells", spec := "formatTells", apart := false }
def FormatTellsSaid : Prop := formatTellsRow.holds Try.pinned (OpenSpec.ofChange formatTellsSpec)

/-- ITS FALSE NEIGHBOUR: 'it returns false'. Refute it at one input. -/
def formatTellsWrong : ChangeSpec := { name := "formatTells", fn := fun _ => fun
  | [d1, d2, d3, d4] => { results := [.lit (.bool false)], args := [d1, d2, d3, d4] }
  | _ => none }
def FormatTellsWrongFalsely : Prop := formatTellsRow.holds Try.pinned (OpenSpec.ofChange formatTellsWrong)

/-- 'anneallaw7.OrderTells': WHATEVER THE INPUT: true; the input reads as it did. -/
def orderTellsSpec : ChangeSpec := { name := "orderTells", fn := fun _ => fun
  | [d1, d2, d3, d4] => { results := [.lit (.bool true)], args := [d1, d2, d3, d4] }
  | _ => none }
def orderTellsRow : OpenClaim := { program := "ytcpicekmnkjceaa", sum := "75c15ac8843681470f4345423e0e916e4d5daf3b7ba3d7b4ba3fad65edc71611", func := "anneal/anneallaw7.OrderTells", spec := "orderTells", apart := false }
def OrderTellsSaid : Prop := orderTellsRow.holds Try.pinned (OpenSpec.ofChange orderTellsSpec)

/-- ITS FALSE NEIGHBOUR: 'it returns false'. Refute it at one input. -/
def orderTellsWrong : ChangeSpec := { name := "orderTells", fn := fun _ => fun
  | [d1, d2, d3, d4] => { results := [.lit (.bool false)], args := [d1, d2, d3, d4] }
  | _ => none }
def OrderTellsWrongFalsely : Prop := orderTellsRow.holds Try.pinned (OpenSpec.ofChange orderTellsWrong)

/-- 'anneallaw7.OrderLine': WHATEVER THE INPUT: true; the input reads as it did. -/
def orderLineSpec : ChangeSpec := { name := "orderLine", fn := fun _ => fun
  | [d1, d2, d3, d4] => { results := [.lit (.bool true)], args := [d1, d2, d3, d4] }
  | _ => none }
def orderLineRow : OpenClaim := { program := "ytcpicekmnkjceaa", sum := "75c15ac8843681470f4345423e0e916e4d5daf3b7ba3d7b4ba3fad65edc71611", func := "anneal/anneallaw7.OrderLine", spec := "orderLine", apart := false }
def OrderLineSaid : Prop := orderLineRow.holds Try.pinned (OpenSpec.ofChange orderLineSpec)

/-- ITS FALSE NEIGHBOUR: 'it returns false'. Refute it at one input. -/
def orderLineWrong : ChangeSpec := { name := "orderLine", fn := fun _ => fun
  | [d1, d2, d3, d4] => { results := [.lit (.bool false)], args := [d1, d2, d3, d4] }
  | _ => none }
def OrderLineWrongFalsely : Prop := orderLineRow.holds Try.pinned (OpenSpec.ofChange orderLineWrong)

/-- 'anneallaw7.OrderClasses': WHATEVER THE INPUT: true; the input reads as it did. -/
def orderClassesSpec : ChangeSpec := { name := "orderClasses", fn := fun _ => fun
  | [d1, d2] => { results := [.lit (.bool true)], args := [d1, d2] }
  | _ => none }
def orderClassesRow : OpenClaim := { program := "ytcpicekmnkjceaa", sum := "75c15ac8843681470f4345423e0e916e4d5daf3b7ba3d7b4ba3fad65edc71611", func := "anneal/anneallaw7.OrderClasses", spec := "orderClasses", apart := false }
def OrderClassesSaid : Prop := orderClassesRow.holds Try.pinned (OpenSpec.ofChange orderClassesSpec)

/-- ITS FALSE NEIGHBOUR: 'it returns false'. Refute it at one input. -/
def orderClassesWrong : ChangeSpec := { name := "orderClasses", fn := fun _ => fun
  | [d1, d2] => { results := [.lit (.bool false)], args := [d1, d2] }
  | _ => none }
def OrderClassesWrongFalsely : Prop := orderClassesRow.holds Try.pinned (OpenSpec.ofChange orderClassesWrong)

/-- 'anneallaw24.ConfigTells': WHATEVER THE INPUT: true; the input reads as it did. -/
def configTellsSpec : ChangeSpec := { name := "configTells", fn := fun _ => fun
  | [d1, d2, d3, d4, d5, d6, d7, d8, d9] => { results := [.lit (.bool true)], args := [d1, d2, d3, d4, d5, d6, d7, d8, d9] }
  | _ => none }
def configTellsRow : OpenClaim := { program := "ytcpicekmnkjceaa", sum := "75c15ac8843681470f4345423e0e916e4d5daf3b7ba3d7b4ba3fad65edc71611", func := "anneal/anneallaw24.ConfigTells", spec := "configTells", apart := false }
def ConfigTellsSaid : Prop := configTellsRow.holds Try.pinned (OpenSpec.ofChange configTellsSpec)

/-- ITS FALSE NEIGHBOUR: 'it returns false'. Refute it at one input. -/
def configTellsWrong : ChangeSpec := { name := "configTells", fn := fun _ => fun
  | [d1, d2, d3, d4, d5, d6, d7, d8, d9] => { results := [.lit (.bool false)], args := [d1, d2, d3, d4, d5, d6, d7, d8, d9] }
  | _ => none }
def ConfigTellsWrongFalsely : Prop := configTellsRow.holds Try.pinned (OpenSpec.ofChange configTellsWrong)

/-- 'anneallaw24.ConfigReads': WHATEVER THE INPUT: true; the input reads as it did. -/
def configReadsSpec : ChangeSpec := { name := "configReads", fn := fun _ => fun
  | [d1, d2, d3, d4, d5, d6, d7, d8] => { results := [.lit (.bool true)], args := [d1, d2, d3, d4, d5, d6, d7, d8] }
  | _ => none }
def configReadsRow : OpenClaim := { program := "ytcpicekmnkjceaa", sum := "75c15ac8843681470f4345423e0e916e4d5daf3b7ba3d7b4ba3fad65edc71611", func := "anneal/anneallaw24.ConfigReads", spec := "configReads", apart := false }
def ConfigReadsSaid : Prop := configReadsRow.holds Try.pinned (OpenSpec.ofChange configReadsSpec)

/-- ITS FALSE NEIGHBOUR: 'it returns false'. Refute it at one input. -/
def configReadsWrong : ChangeSpec := { name := "configReads", fn := fun _ => fun
  | [d1, d2, d3, d4, d5, d6, d7, d8] => { results := [.lit (.bool false)], args := [d1, d2, d3, d4, d5, d6, d7, d8] }
  | _ => none }
def ConfigReadsWrongFalsely : Prop := configReadsRow.holds Try.pinned (OpenSpec.ofChange configReadsWrong)

/-- 'anneallaw24.ConfigEdges': WHATEVER THE INPUT: true; the input reads as it did. -/
def configEdgesSpec : ChangeSpec := { name := "configEdges", fn := fun _ => fun
  | [d1, d2] => { results := [.lit (.bool true)], args := [d1, d2] }
  | _ => none }
def configEdgesRow : OpenClaim := { program := "ytcpicekmnkjceaa", sum := "75c15ac8843681470f4345423e0e916e4d5daf3b7ba3d7b4ba3fad65edc71611", func := "anneal/anneallaw24.ConfigEdges", spec := "configEdges", apart := false }
def ConfigEdgesSaid : Prop := configEdgesRow.holds Try.pinned (OpenSpec.ofChange configEdgesSpec)

/-- ITS FALSE NEIGHBOUR: 'it returns false'. Refute it at one input. -/
def configEdgesWrong : ChangeSpec := { name := "configEdges", fn := fun _ => fun
  | [d1, d2] => { results := [.lit (.bool false)], args := [d1, d2] }
  | _ => none }
def ConfigEdgesWrongFalsely : Prop := configEdgesRow.holds Try.pinned (OpenSpec.ofChange configEdgesWrong)

/-- 'anneallaw24.ConfigBytes': WHATEVER THE INPUT: true; the input reads as it did. -/
def configBytesSpec : ChangeSpec := { name := "configBytes", fn := fun _ => fun
  | [d1, d2, d3, d4, d5] => { results := [.lit (.bool true)], args := [d1, d2, d3, d4, d5] }
  | _ => none }
def configBytesRow : OpenClaim := { program := "ytcpicekmnkjceaa", sum := "75c15ac8843681470f4345423e0e916e4d5daf3b7ba3d7b4ba3fad65edc71611", func := "anneal/anneallaw24.ConfigBytes", spec := "configBytes", apart := false }
def ConfigBytesSaid : Prop := configBytesRow.holds Try.pinned (OpenSpec.ofChange configBytesSpec)

/-- ITS FALSE NEIGHBOUR: 'it returns false'. Refute it at one input. -/
def configBytesWrong : ChangeSpec := { name := "configBytes", fn := fun _ => fun
  | [d1, d2, d3, d4, d5] => { results := [.lit (.bool false)], args := [d1, d2, d3, d4, d5] }
  | _ => none }
def ConfigBytesWrongFalsely : Prop := configBytesRow.holds Try.pinned (OpenSpec.ofChange configBytesWrong)

/- THE SECOND FORM. 'bulk': how many values and letters a reading holds, each counted each time it is reached (what is shared counts as often as it is met; a slice's spare places count too). A statement '..UptoSaid' is the law's where the arguments, and the package variables that the reading takes, are together of bulk at most 1048576: NARROWER than '..Said'. Prove '..Said' where nothing that the law and all that it calls make is longer than what came in: it says more and counts as full. Else prove '..UptoSaid'. A law counts once. -/
mutual
def uptoBulk {H : Type} : DataW H → Nat
  | .lit (.string bytes) => bytes.length + 1
  | .lit _ => 1
  | .nil => 1
  | .ptr d => uptoBulk d + 1
  | .slice elems spare => uptoBulkAll elems + uptoBulkAll spare + 1
  | .agg parts => uptoBulkAll parts + 1
  | .iface _ d => uptoBulk d + 1
  | .map entries => uptoBulkEntries entries + 1
  | .held _ => 1
def uptoBulkAll {H : Type} : List (DataW H) → Nat
  | [] => 0
  | d :: r => uptoBulk d + uptoBulkAll r
def uptoBulkEntries {H : Type} : List (Lit × DataW H) → Nat
  | [] => 0
  | x :: r => uptoBulkEntry x + uptoBulkEntries r
def uptoBulkEntry {H : Type} : Lit × DataW H → Nat
  | (.string bytes, d) => bytes.length + uptoBulk d + 1
  | (_, d) => uptoBulk d + 1
 end
def uptoSmall : (H : Type) → List (DataW H) → Bool := fun _ ds => decide (uptoBulkAll ds ≤ 1048576)
def OpenSpec.upto (s : _root_.Go.ChangeSpec) : _root_.Go.OpenSpec := { _root_.Go.OpenSpec.ofChange s with cond := some uptoSmall }

/-- 'anneallaw27.SumSees', WHERE WHAT IT READS IS OF BULK AT MOST 1048576: true; the input reads as it did. -/
def sumSeesUptoRow : OpenClaim := { program := "ytcpicekmnkjceaa", sum := "75c15ac8843681470f4345423e0e916e4d5daf3b7ba3d7b4ba3fad65edc71611", func := "anneal/anneallaw27.SumSees", spec := "sumSees", apart := false, narrowed := true }
def SumSeesUptoSaid : Prop := sumSeesUptoRow.holds Try.pinned (OpenSpec.upto sumSeesSpec)

/-- 'anneallaw22.ScalerTells', WHERE WHAT IT READS IS OF BULK AT MOST 1048576: true; the input reads as it did. -/
def scalerTellsUptoRow : OpenClaim := { program := "ytcpicekmnkjceaa", sum := "75c15ac8843681470f4345423e0e916e4d5daf3b7ba3d7b4ba3fad65edc71611", func := "anneal/anneallaw22.ScalerTells", spec := "scalerTells", apart := false, narrowed := true }
def ScalerTellsUptoSaid : Prop := scalerTellsUptoRow.holds Try.pinned (OpenSpec.upto scalerTellsSpec)

/-- 'anneallaw22.ScalerPlays', WHERE WHAT IT READS IS OF BULK AT MOST 1048576: true; the input reads as it did. -/
def scalerPlaysUptoRow : OpenClaim := { program := "ytcpicekmnkjceaa", sum := "75c15ac8843681470f4345423e0e916e4d5daf3b7ba3d7b4ba3fad65edc71611", func := "anneal/anneallaw22.ScalerPlays", spec := "scalerPlays", apart := false, narrowed := true }
def ScalerPlaysUptoSaid : Prop := scalerPlaysUptoRow.holds Try.pinned (OpenSpec.upto scalerPlaysSpec)

/-- 'anneallaw22.ScalerFalls', WHERE WHAT IT READS IS OF BULK AT MOST 1048576: true; the input reads as it did. -/
def scalerFallsUptoRow : OpenClaim := { program := "ytcpicekmnkjceaa", sum := "75c15ac8843681470f4345423e0e916e4d5daf3b7ba3d7b4ba3fad65edc71611", func := "anneal/anneallaw22.ScalerFalls", spec := "scalerFalls", apart := false, narrowed := true }
def ScalerFallsUptoSaid : Prop := scalerFallsUptoRow.holds Try.pinned (OpenSpec.upto scalerFallsSpec)

/-- 'anneallaw22.ScalerEdges', WHERE WHAT IT READS IS OF BULK AT MOST 1048576: true; the input reads as it did. -/
def scalerEdgesUptoRow : OpenClaim := { program := "ytcpicekmnkjceaa", sum := "75c15ac8843681470f4345423e0e916e4d5daf3b7ba3d7b4ba3fad65edc71611", func := "anneal/anneallaw22.ScalerEdges", spec := "scalerEdges", apart := false, narrowed := true }
def ScalerEdgesUptoSaid : Prop := scalerEdgesUptoRow.holds Try.pinned (OpenSpec.upto scalerEdgesSpec)

/-- 'anneallaw27.SumLong', WHERE WHAT IT READS IS OF BULK AT MOST 1048576: true; the input reads as it did. -/
def sumLongUptoRow : OpenClaim := { program := "ytcpicekmnkjceaa", sum := "75c15ac8843681470f4345423e0e916e4d5daf3b7ba3d7b4ba3fad65edc71611", func := "anneal/anneallaw27.SumLong", spec := "sumLong", apart := false, narrowed := true }
def SumLongUptoSaid : Prop := sumLongUptoRow.holds Try.pinned (OpenSpec.upto sumLongSpec)

/-- 'anneallaw27.SumTells32', WHERE WHAT IT READS IS OF BULK AT MOST 1048576: true; the input reads as it did. -/
def sumTells32UptoRow : OpenClaim := { program := "ytcpicekmnkjceaa", sum := "75c15ac8843681470f4345423e0e916e4d5daf3b7ba3d7b4ba3fad65edc71611", func := "anneal/anneallaw27.SumTells32", spec := "sumTells32", apart := false, narrowed := true }
def SumTells32UptoSaid : Prop := sumTells32UptoRow.holds Try.pinned (OpenSpec.upto sumTells32Spec)

/-- 'anneallaw2.FormatHigh', WHERE WHAT IT READS IS OF BULK AT MOST 1048576: true; the input reads as it did. -/
def formatHighUptoRow : OpenClaim := { program := "ytcpicekmnkjceaa", sum := "75c15ac8843681470f4345423e0e916e4d5daf3b7ba3d7b4ba3fad65edc71611", func := "anneal/anneallaw2.FormatHigh", spec := "formatHigh", apart := false, narrowed := true }
def FormatHighUptoSaid : Prop := formatHighUptoRow.holds Try.pinned (OpenSpec.upto formatHighSpec)

/-- 'anneallaw2.FormatBack', WHERE WHAT IT READS IS OF BULK AT MOST 1048576: true; the input reads as it did. -/
def formatBackUptoRow : OpenClaim := { program := "ytcpicekmnkjceaa", sum := "75c15ac8843681470f4345423e0e916e4d5daf3b7ba3d7b4ba3fad65edc71611", func := "anneal/anneallaw2.FormatBack", spec := "formatBack", apart := false, narrowed := true }
def FormatBackUptoSaid : Prop := formatBackUptoRow.holds Try.pinned (OpenSpec.upto formatBackSpec)

/-- 'anneallaw2.FormatEdges', WHERE WHAT IT READS IS OF BULK AT MOST 1048576: true; the input reads as it did. -/
def formatEdgesUptoRow : OpenClaim := { program := "ytcpicekmnkjceaa", sum := "75c15ac8843681470f4345423e0e916e4d5daf3b7ba3d7b4ba3fad65edc71611", func := "anneal/anneallaw2.FormatEdges", spec := "formatEdges", apart := false, narrowed := true }
def FormatEdgesUptoSaid : Prop := formatEdgesUptoRow.holds Try.pinned (OpenSpec.upto formatEdgesSpec)

/-- 'anneallaw2.FormatTells', WHERE WHAT IT READS IS OF BULK AT MOST 1048576: true; the input reads as it did. -/
def formatTellsUptoRow : OpenClaim := { program := "ytcpicekmnkjceaa", sum := "75c15ac8843681470f4345423e0e916e4d5daf3b7ba3d7b4ba3fad65edc71611", func := "anneal/anneallaw2.FormatTells", spec := "formatTells", apart := false, narrowed := true }
def FormatTellsUptoSaid : Prop := formatTellsUptoRow.holds Try.pinned (OpenSpec.upto formatTellsSpec)

/-- 'anneallaw7.OrderTells', WHERE WHAT IT READS IS OF BULK AT MOST 1048576: true; the input reads as it did. -/
def orderTellsUptoRow : OpenClaim := { program := "ytcpicekmnkjceaa", sum := "75c15ac8843681470f4345423e0e916e4d5daf3b7ba3d7b4ba3fad65edc71611", func := "anneal/anneallaw7.OrderTells", spec := "orderTells", apart := false, narrowed := true }
def OrderTellsUptoSaid : Prop := orderTellsUptoRow.holds Try.pinned (OpenSpec.upto orderTellsSpec)

/-- 'anneallaw7.OrderLine', WHERE WHAT IT READS IS OF BULK AT MOST 1048576: true; the input reads as it did. -/
def orderLineUptoRow : OpenClaim := { program := "ytcpicekmnkjceaa", sum := "75c15ac8843681470f4345423e0e916e4d5daf3b7ba3d7b4ba3fad65edc71611", func := "anneal/anneallaw7.OrderLine", spec := "orderLine", apart := false, narrowed := true }
def OrderLineUptoSaid : Prop := orderLineUptoRow.holds Try.pinned (OpenSpec.upto orderLineSpec)

/-- 'anneallaw7.OrderClasses', WHERE WHAT IT READS IS OF BULK AT MOST 1048576: true; the input reads as it did. -/
def orderClassesUptoRow : OpenClaim := { program := "ytcpicekmnkjceaa", sum := "75c15ac8843681470f4345423e0e916e4d5daf3b7ba3d7b4ba3fad65edc71611", func := "anneal/anneallaw7.OrderClasses", spec := "orderClasses", apart := false, narrowed := true }
def OrderClassesUptoSaid : Prop := orderClassesUptoRow.holds Try.pinned (OpenSpec.upto orderClassesSpec)

/-- 'anneallaw24.ConfigTells', WHERE WHAT IT READS IS OF BULK AT MOST 1048576: true; the input reads as it did. -/
def configTellsUptoRow : OpenClaim := { program := "ytcpicekmnkjceaa", sum := "75c15ac8843681470f4345423e0e916e4d5daf3b7ba3d7b4ba3fad65edc71611", func := "anneal/anneallaw24.ConfigTells", spec := "configTells", apart := false, narrowed := true }
def ConfigTellsUptoSaid : Prop := configTellsUptoRow.holds Try.pinned (OpenSpec.upto configTellsSpec)

/-- 'anneallaw24.ConfigReads', WHERE WHAT IT READS IS OF BULK AT MOST 1048576: true; the input reads as it did. -/
def configReadsUptoRow : OpenClaim := { program := "ytcpicekmnkjceaa", sum := "75c15ac8843681470f4345423e0e916e4d5daf3b7ba3d7b4ba3fad65edc71611", func := "anneal/anneallaw24.ConfigReads", spec := "configReads", apart := false, narrowed := true }
def ConfigReadsUptoSaid : Prop := configReadsUptoRow.holds Try.pinned (OpenSpec.upto configReadsSpec)

/-- 'anneallaw24.ConfigEdges', WHERE WHAT IT READS IS OF BULK AT MOST 1048576: true; the input reads as it did. -/
def configEdgesUptoRow : OpenClaim := { program := "ytcpicekmnkjceaa", sum := "75c15ac8843681470f4345423e0e916e4d5daf3b7ba3d7b4ba3fad65edc71611", func := "anneal/anneallaw24.ConfigEdges", spec := "configEdges", apart := false, narrowed := true }
def ConfigEdgesUptoSaid : Prop := configEdgesUptoRow.holds Try.pinned (OpenSpec.upto configEdgesSpec)

/-- 'anneallaw24.ConfigBytes', WHERE WHAT IT READS IS OF BULK AT MOST 1048576: true; the input reads as it did. -/
def configBytesUptoRow : OpenClaim := { program := "ytcpicekmnkjceaa", sum := "75c15ac8843681470f4345423e0e916e4d5daf3b7ba3d7b4ba3fad65edc71611", func := "anneal/anneallaw24.ConfigBytes", spec := "configBytes", apart := false, narrowed := true }
def ConfigBytesUptoSaid : Prop := configBytesUptoRow.holds Try.pinned (OpenSpec.upto configBytesSpec)

end Rows
end Go.Proofs.Ytcpicekmnkjceaa

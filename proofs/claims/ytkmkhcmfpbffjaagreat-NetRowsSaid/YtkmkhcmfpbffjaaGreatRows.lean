/-
  No cell of these rows narrows 'for every input' (looked for: loops, veiled, ifaces, maps, wideKeys, modest, calm, conditions, laid).
  DERIVED. THE GIVEN ROWS OF THIS SEAT. 5 by the template 'for every input the law returns true; each argument reads behind the call as it read before'; 0 by the template 'total and deterministic' (their statements: YtkmkhcmfpbffjaaGreatTotals.lean).
  GIVEN WITH THE SEED: the statements are not yours to turn. If you find one false, say at which input.
  Laid BY PROGRAM, IN A SANDBOX (cutbox-rows.mjs): the forced cells as the released guide's own fill.sh prints them over the translation fb25689270d54e5c… (all of the seat's roots in one cut). By AI agents, Wed Nov 11 2026. No macro, syntax, notation, axiom, sorry.
-/
import Derived.Test.YtkmkhcmfpbffjaaGreatChecked
import GoSem.Claim
import GoSem.ClaimJoined
import GoSem.ClaimMapViews
import Derived.JoinedTies
import Derived.KernelRfl
namespace Go.Proofs.YtkmkhcmfpbffjaaGreat
/- THE CELL 'sum', in the pinned program and in every row, IS THE sha256 OF THE DUMP (.gsa) THAT YtkmkhcmfpbffjaaGreatProg.lean LOADS. Nothing in Lean hashes anything: it is a label: what it is worth is what the hold of that sum in a sandbox is worth. -/
noncomputable def Tryz.pinned : Pinned := { name := "ytkmkhcmfpbffjaagreat", sum := "fb25689270d54e5c34863562a85af0599fa8cd8ec90d897b8ad1bf51b0c00471", checked := Tryz.checked }
namespace Rows
def none {H : Type} : Left H := { results := [], args := [] }

/-- 'anneallaw16.LossWays': WHATEVER THE INPUT: true; the input reads as it did. -/
def lossWaysSpec : ChangeSpec := { name := "lossWays", fn := fun _ => fun
  | [d1, d2, d3] => { results := [.lit (.bool true)], args := [d1, d2, d3] }
  | _ => none }
def lossWaysRow : OpenClaim := { program := "ytkmkhcmfpbffjaagreat", sum := "fb25689270d54e5c34863562a85af0599fa8cd8ec90d897b8ad1bf51b0c00471", func := "anneal/anneallaw16.LossWays", spec := "lossWays", unfollowed := true, recurses := true, apart := false }
def LossWaysSaid : Prop := lossWaysRow.holds Tryz.pinned (OpenSpec.ofChange lossWaysSpec)

/-- ITS FALSE NEIGHBOUR: 'it returns false'. Refute it at one input. -/
def lossWaysWrong : ChangeSpec := { name := "lossWays", fn := fun _ => fun
  | [d1, d2, d3] => { results := [.lit (.bool false)], args := [d1, d2, d3] }
  | _ => none }
def LossWaysWrongFalsely : Prop := lossWaysRow.holds Tryz.pinned (OpenSpec.ofChange lossWaysWrong)

/-- 'anneallaw17.NetRows': WHATEVER THE INPUT: true; the input reads as it did. -/
def netRowsSpec : ChangeSpec := { name := "netRows", fn := fun _ => fun
  | [d1, d2, d3, d4, d5, d6] => { results := [.lit (.bool true)], args := [d1, d2, d3, d4, d5, d6] }
  | _ => none }
def netRowsRow : OpenClaim := { program := "ytkmkhcmfpbffjaagreat", sum := "fb25689270d54e5c34863562a85af0599fa8cd8ec90d897b8ad1bf51b0c00471", func := "anneal/anneallaw17.NetRows", spec := "netRows", unfollowed := true, recurses := true, apart := false }
def NetRowsSaid : Prop := netRowsRow.holds Tryz.pinned (OpenSpec.ofChange netRowsSpec)

/-- ITS FALSE NEIGHBOUR: 'it returns false'. Refute it at one input. -/
def netRowsWrong : ChangeSpec := { name := "netRows", fn := fun _ => fun
  | [d1, d2, d3, d4, d5, d6] => { results := [.lit (.bool false)], args := [d1, d2, d3, d4, d5, d6] }
  | _ => none }
def NetRowsWrongFalsely : Prop := netRowsRow.holds Tryz.pinned (OpenSpec.ofChange netRowsWrong)

/-- 'anneallaw17.NetLow': WHATEVER THE INPUT: true; the input reads as it did. -/
def netLowSpec : ChangeSpec := { name := "netLow", fn := fun _ => fun
  | [d1, d2, d3, d4, d5, d6] => { results := [.lit (.bool true)], args := [d1, d2, d3, d4, d5, d6] }
  | _ => none }
def netLowRow : OpenClaim := { program := "ytkmkhcmfpbffjaagreat", sum := "fb25689270d54e5c34863562a85af0599fa8cd8ec90d897b8ad1bf51b0c00471", func := "anneal/anneallaw17.NetLow", spec := "netLow", unfollowed := true, recurses := true, apart := false }
def NetLowSaid : Prop := netLowRow.holds Tryz.pinned (OpenSpec.ofChange netLowSpec)

/-- ITS FALSE NEIGHBOUR: 'it returns false'. Refute it at one input. -/
def netLowWrong : ChangeSpec := { name := "netLow", fn := fun _ => fun
  | [d1, d2, d3, d4, d5, d6] => { results := [.lit (.bool false)], args := [d1, d2, d3, d4, d5, d6] }
  | _ => none }
def NetLowWrongFalsely : Prop := netLowRow.holds Tryz.pinned (OpenSpec.ofChange netLowWrong)

/-- 'anneallaw17.NetTells': WHATEVER THE INPUT: true; the input reads as it did. -/
def netTellsSpec : ChangeSpec := { name := "netTells", fn := fun _ => fun
  | [d1, d2, d3, d4, d5, d6, d7, d8, d9, d10] => { results := [.lit (.bool true)], args := [d1, d2, d3, d4, d5, d6, d7, d8, d9, d10] }
  | _ => none }
def netTellsRow : OpenClaim := { program := "ytkmkhcmfpbffjaagreat", sum := "fb25689270d54e5c34863562a85af0599fa8cd8ec90d897b8ad1bf51b0c00471", func := "anneal/anneallaw17.NetTells", spec := "netTells", unfollowed := true, recurses := true, apart := false }
def NetTellsSaid : Prop := netTellsRow.holds Tryz.pinned (OpenSpec.ofChange netTellsSpec)

/-- ITS FALSE NEIGHBOUR: 'it returns false'. Refute it at one input. -/
def netTellsWrong : ChangeSpec := { name := "netTells", fn := fun _ => fun
  | [d1, d2, d3, d4, d5, d6, d7, d8, d9, d10] => { results := [.lit (.bool false)], args := [d1, d2, d3, d4, d5, d6, d7, d8, d9, d10] }
  | _ => none }
def NetTellsWrongFalsely : Prop := netTellsRow.holds Tryz.pinned (OpenSpec.ofChange netTellsWrong)

/-- 'anneallaw17.NetShapes': WHATEVER THE INPUT: true; the input reads as it did. -/
def netShapesSpec : ChangeSpec := { name := "netShapes", fn := fun _ => fun
  | [d1, d2, d3, d4, d5, d6, d7] => { results := [.lit (.bool true)], args := [d1, d2, d3, d4, d5, d6, d7] }
  | _ => none }
def netShapesRow : OpenClaim := { program := "ytkmkhcmfpbffjaagreat", sum := "fb25689270d54e5c34863562a85af0599fa8cd8ec90d897b8ad1bf51b0c00471", func := "anneal/anneallaw17.NetShapes", spec := "netShapes", unfollowed := true, recurses := true, apart := false }
def NetShapesSaid : Prop := netShapesRow.holds Tryz.pinned (OpenSpec.ofChange netShapesSpec)

/-- ITS FALSE NEIGHBOUR: 'it returns false'. Refute it at one input. -/
def netShapesWrong : ChangeSpec := { name := "netShapes", fn := fun _ => fun
  | [d1, d2, d3, d4, d5, d6, d7] => { results := [.lit (.bool false)], args := [d1, d2, d3, d4, d5, d6, d7] }
  | _ => none }
def NetShapesWrongFalsely : Prop := netShapesRow.holds Tryz.pinned (OpenSpec.ofChange netShapesWrong)

/- THE SECOND FORM. 'bulk': how many values and letters a reading holds, each counted each time it is reached (what is shared counts as often as it is met; a slice's spare places count too). A statement '..UptoSaid' is the law's where the arguments, and the package variables that the reading takes, are together of bulk at most 1048576: NARROWER than '..Said'. Prove '..Said' where nothing that the law and all that it calls make is longer than what came in: it says more and counts as full. Else prove '..UptoSaid'. A law counts once. -/
mutual
def uptoBulk {H : Type} : DataW H → Nat
  | .lit (.string bytes) => bytes.length + 1
  | .lit _ => 1
  | .nil => 1
  | .ptr d => uptoBulk d + 1
  | .slice elems spare => uptoBulkAll elems + uptoBulkAll spare + 1
  | .agg parts => uptoBulkAll parts + 1
  | .iface _ d => uptoBulk d + 1
  | .map entries => uptoBulkEntries entries + 1
  | .held _ => 1
def uptoBulkAll {H : Type} : List (DataW H) → Nat
  | [] => 0
  | d :: r => uptoBulk d + uptoBulkAll r
def uptoBulkEntries {H : Type} : List (Lit × DataW H) → Nat
  | [] => 0
  | x :: r => uptoBulkEntry x + uptoBulkEntries r
def uptoBulkEntry {H : Type} : Lit × DataW H → Nat
  | (.string bytes, d) => bytes.length + uptoBulk d + 1
  | (_, d) => uptoBulk d + 1
 end
def uptoSmall : (H : Type) → List (DataW H) → Bool := fun _ ds => decide (uptoBulkAll ds ≤ 1048576)
def OpenSpec.upto (s : _root_.Go.ChangeSpec) : _root_.Go.OpenSpec := { _root_.Go.OpenSpec.ofChange s with cond := some uptoSmall }

/-- 'anneallaw16.LossWays', WHERE WHAT IT READS IS OF BULK AT MOST 1048576: true; the input reads as it did. -/
def lossWaysUptoRow : OpenClaim := { program := "ytkmkhcmfpbffjaagreat", sum := "fb25689270d54e5c34863562a85af0599fa8cd8ec90d897b8ad1bf51b0c00471", func := "anneal/anneallaw16.LossWays", spec := "lossWays", unfollowed := true, recurses := true, apart := false, narrowed := true }
def LossWaysUptoSaid : Prop := lossWaysUptoRow.holds Tryz.pinned (OpenSpec.upto lossWaysSpec)

/-- 'anneallaw17.NetRows', WHERE WHAT IT READS IS OF BULK AT MOST 1048576: true; the input reads as it did. -/
def netRowsUptoRow : OpenClaim := { program := "ytkmkhcmfpbffjaagreat", sum := "fb25689270d54e5c34863562a85af0599fa8cd8ec90d897b8ad1bf51b0c00471", func := "anneal/anneallaw17.NetRows", spec := "netRows", unfollowed := true, recurses := true, apart := false, narrowed := true }
def NetRowsUptoSaid : Prop := netRowsUptoRow.holds Tryz.pinned (OpenSpec.upto netRowsSpec)

/-- 'anneallaw17.NetLow', WHERE WHAT IT READS IS OF BULK AT MOST 1048576: true; the input reads as it did. -/
def netLowUptoRow : OpenClaim := { program := "ytkmkhcmfpbffjaagreat", sum := "fb25689270d54e5c34863562a85af0599fa8cd8ec90d897b8ad1bf51b0c00471", func := "anneal/anneallaw17.NetLow", spec := "netLow", unfollowed := true, recurses := true, apart := false, narrowed := true }
def NetLowUptoSaid : Prop := netLowUptoRow.holds Tryz.pinned (OpenSpec.upto netLowSpec)

/-- 'anneallaw17.NetTells', WHERE WHAT IT READS IS OF BULK AT MOST 1048576: true; the input reads as it did. -/
def netTellsUptoRow : OpenClaim := { program := "ytkmkhcmfpbffjaagreat", sum := "fb25689270d54e5c34863562a85af0599fa8cd8ec90d897b8ad1bf51b0c00471", func := "anneal/anneallaw17.NetTells", spec := "netTells", unfollowed := true, recurses := true, apart := false, narrowed := true }
def NetTellsUptoSaid : Prop := netTellsUptoRow.holds Tryz.pinned (OpenSpec.upto netTellsSpec)

/-- 'anneallaw17.NetShapes', WHERE WHAT IT READS IS OF BULK AT MOST 1048576: true; the input reads as it did. -/
def netShapesUptoRow : OpenClaim := { program := "ytkmkhcmfpbffjaagreat", sum := "fb25689270d54e5c34863562a85af0599fa8cd8ec90d897b8ad1bf51b0c00471", func := "anneal/anneallaw17.NetShapes", spec := "netShapes", unfollowed := true, recurses := true, apart := false, narrowed := true }
def NetShapesUptoSaid : Prop := netShapesUptoRow.holds Tryz.pinned (OpenSpec.upto netShapesSpec)

end Rows
end Go.Proofs.YtkmkhcmfpbffjaaGreat

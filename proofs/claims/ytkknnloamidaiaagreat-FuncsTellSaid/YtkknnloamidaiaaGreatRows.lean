/-
  No cell of these rows narrows 'for every input' (looked for: loops, veiled, ifaces, maps, wideKeys, modest, calm, conditions, laid).
  DERIVED. THE GIVEN ROWS OF THIS SEAT. 3 by the template 'for every input the law returns true; each argument reads behind the call as it read before'; 0 by the template 'total and deterministic' (their statements: YtkknnloamidaiaaGreatTotals.lean).
  GIVEN WITH THE SEED: the statements are not yours to turn. If you find one false, say at which input.
  Laid BY PROGRAM, IN A SANDBOX (cutbox-rows.mjs): the forced cells as the released guide's own fill.sh prints them over the translation bde61b851f2fcb88… (all of the seat's roots in one cut). By AI agents, Wed Nov 11 2026. No macro, syntax, notation, axiom, sorry.
-/
import Derived.Test.YtkknnloamidaiaaGreatChecked
import GoSem.Claim
import GoSem.ClaimJoined
import GoSem.ClaimMapViews
import Derived.JoinedTies
import Derived.KernelRfl
namespace Go.Proofs.YtkknnloamidaiaaGreat
/- THE CELL 'sum', in the pinned program and in every row, IS THE sha256 OF THE DUMP (.gsa) THAT YtkknnloamidaiaaGreatProg.lean LOADS. Nothing in Lean hashes anything: it is a label: what it is worth is what the hold of that sum in a sandbox is worth. -/
noncomputable def Tryz.pinned : Pinned := { name := "ytkknnloamidaiaagreat", sum := "bde61b851f2fcb88954d61c017cbfb1ab03c2afa83f8f5bd6b5cf42e05329d15", checked := Tryz.checked }
namespace Rows
def none {H : Type} : Left H := { results := [], args := [] }

/-- 'anneallaw12.FuncsTell': WHATEVER THE INPUT: true; the input reads as it did. -/
def funcsTellSpec : ChangeSpec := { name := "funcsTell", fn := fun _ => fun
  | [d1, d2] => { results := [.lit (.bool true)], args := [d1, d2] }
  | _ => none }
def funcsTellRow : OpenClaim := { program := "ytkknnloamidaiaagreat", sum := "bde61b851f2fcb88954d61c017cbfb1ab03c2afa83f8f5bd6b5cf42e05329d15", func := "anneal/anneallaw12.FuncsTell", spec := "funcsTell", apart := false }
def FuncsTellSaid : Prop := funcsTellRow.holds Tryz.pinned (OpenSpec.ofChange funcsTellSpec)

/-- ITS FALSE NEIGHBOUR: 'it returns false'. Refute it at one input. -/
def funcsTellWrong : ChangeSpec := { name := "funcsTell", fn := fun _ => fun
  | [d1, d2] => { results := [.lit (.bool false)], args := [d1, d2] }
  | _ => none }
def FuncsTellWrongFalsely : Prop := funcsTellRow.holds Tryz.pinned (OpenSpec.ofChange funcsTellWrong)

/-- 'anneallaw14.KernTells': WHATEVER THE INPUT: true; the input reads as it did. -/
def kernTellsSpec : ChangeSpec := { name := "kernTells", fn := fun _ => fun
  | [d1, d2, d3, d4, d5, d6, d7, d8, d9, d10] => { results := [.lit (.bool true)], args := [d1, d2, d3, d4, d5, d6, d7, d8, d9, d10] }
  | _ => none }
def kernTellsRow : OpenClaim := { program := "ytkknnloamidaiaagreat", sum := "bde61b851f2fcb88954d61c017cbfb1ab03c2afa83f8f5bd6b5cf42e05329d15", func := "anneal/anneallaw14.KernTells", spec := "kernTells", unfollowed := true, recurses := true, apart := false }
def KernTellsSaid : Prop := kernTellsRow.holds Tryz.pinned (OpenSpec.ofChange kernTellsSpec)

/-- ITS FALSE NEIGHBOUR: 'it returns false'. Refute it at one input. -/
def kernTellsWrong : ChangeSpec := { name := "kernTells", fn := fun _ => fun
  | [d1, d2, d3, d4, d5, d6, d7, d8, d9, d10] => { results := [.lit (.bool false)], args := [d1, d2, d3, d4, d5, d6, d7, d8, d9, d10] }
  | _ => none }
def KernTellsWrongFalsely : Prop := kernTellsRow.holds Tryz.pinned (OpenSpec.ofChange kernTellsWrong)

/-- 'anneallaw14.KernParts': WHATEVER THE INPUT: true; the input reads as it did. -/
def kernPartsSpec : ChangeSpec := { name := "kernParts", fn := fun _ => fun
  | [d1, d2, d3, d4, d5, d6, d7, d8, d9] => { results := [.lit (.bool true)], args := [d1, d2, d3, d4, d5, d6, d7, d8, d9] }
  | _ => none }
def kernPartsRow : OpenClaim := { program := "ytkknnloamidaiaagreat", sum := "bde61b851f2fcb88954d61c017cbfb1ab03c2afa83f8f5bd6b5cf42e05329d15", func := "anneal/anneallaw14.KernParts", spec := "kernParts", unfollowed := true, recurses := true, apart := false }
def KernPartsSaid : Prop := kernPartsRow.holds Tryz.pinned (OpenSpec.ofChange kernPartsSpec)

/-- ITS FALSE NEIGHBOUR: 'it returns false'. Refute it at one input. -/
def kernPartsWrong : ChangeSpec := { name := "kernParts", fn := fun _ => fun
  | [d1, d2, d3, d4, d5, d6, d7, d8, d9] => { results := [.lit (.bool false)], args := [d1, d2, d3, d4, d5, d6, d7, d8, d9] }
  | _ => none }
def KernPartsWrongFalsely : Prop := kernPartsRow.holds Tryz.pinned (OpenSpec.ofChange kernPartsWrong)

/- THE SECOND FORM. 'bulk': how many values and letters a reading holds, each counted each time it is reached (what is shared counts as often as it is met; a slice's spare places count too). A statement '..UptoSaid' is the law's where the arguments, and the package variables that the reading takes, are together of bulk at most 1048576: NARROWER than '..Said'. Prove '..Said' where nothing that the law and all that it calls make is longer than what came in: it says more and counts as full. Else prove '..UptoSaid'. A law counts once. -/
mutual
def uptoBulk {H : Type} : DataW H → Nat
  | .lit (.string bytes) => bytes.length + 1
  | .lit _ => 1
  | .nil => 1
  | .ptr d => uptoBulk d + 1
  | .slice elems spare => uptoBulkAll elems + uptoBulkAll spare + 1
  | .agg parts => uptoBulkAll parts + 1
  | .iface _ d => uptoBulk d + 1
  | .map entries => uptoBulkEntries entries + 1
  | .held _ => 1
def uptoBulkAll {H : Type} : List (DataW H) → Nat
  | [] => 0
  | d :: r => uptoBulk d + uptoBulkAll r
def uptoBulkEntries {H : Type} : List (Lit × DataW H) → Nat
  | [] => 0
  | x :: r => uptoBulkEntry x + uptoBulkEntries r
def uptoBulkEntry {H : Type} : Lit × DataW H → Nat
  | (.string bytes, d) => bytes.length + uptoBulk d + 1
  | (_, d) => uptoBulk d + 1
 end
def uptoSmall : (H : Type) → List (DataW H) → Bool := fun _ ds => decide (uptoBulkAll ds ≤ 1048576)
def OpenSpec.upto (s : _root_.Go.ChangeSpec) : _root_.Go.OpenSpec := { _root_.Go.OpenSpec.ofChange s with cond := some uptoSmall }

/-- 'anneallaw12.FuncsTell', WHERE WHAT IT READS IS OF BULK AT MOST 1048576: true; the input reads as it did. -/
def funcsTellUptoRow : OpenClaim := { program := "ytkknnloamidaiaagreat", sum := "bde61b851f2fcb88954d61c017cbfb1ab03c2afa83f8f5bd6b5cf42e05329d15", func := "anneal/anneallaw12.FuncsTell", spec := "funcsTell", apart := false, narrowed := true }
def FuncsTellUptoSaid : Prop := funcsTellUptoRow.holds Tryz.pinned (OpenSpec.upto funcsTellSpec)

/-- 'anneallaw14.KernTells', WHERE WHAT IT READS IS OF BULK AT MOST 1048576: true; the input reads as it did. -/
def kernTellsUptoRow : OpenClaim := { program := "ytkknnloamidaiaagreat", sum := "bde61b851f2fcb88954d61c017cbfb1ab03c2afa83f8f5bd6b5cf42e05329d15", func := "anneal/anneallaw14.KernTells", spec := "kernTells", unfollowed := true, recurses := true, apart := false, narrowed := true }
def KernTellsUptoSaid : Prop := kernTellsUptoRow.holds Tryz.pinned (OpenSpec.upto kernTellsSpec)

/-- 'anneallaw14.KernParts', WHERE WHAT IT READS IS OF BULK AT MOST 1048576: true; the input reads as it did. -/
def kernPartsUptoRow : OpenClaim := { program := "ytkknnloamidaiaagreat", sum := "bde61b851f2fcb88954d61c017cbfb1ab03c2afa83f8f5bd6b5cf42e05329d15", func := "anneal/anneallaw14.KernParts", spec := "kernParts", unfollowed := true, recurses := true, apart := false, narrowed := true }
def KernPartsUptoSaid : Prop := kernPartsUptoRow.holds Tryz.pinned (OpenSpec.upto kernPartsSpec)

end Rows
end Go.Proofs.YtkknnloamidaiaaGreat

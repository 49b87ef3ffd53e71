import Derived.Test.YtcpicekmnkjceaaVKa
namespace Go.Proofs.Ytcpicekmnkjceaa.VI
set_option linter.unusedVariables false
set_option linter.unusedSimpArgs false

section
variable {R : Type}
/-- Each of these hands on what it is given, written out. -/
def frL : List V → (List V → R) → R
  | [], k => k []
  | c :: l, k => match c with
    | .i kk n => frL l fun l => k (.i kk n :: l)
    | .b t => frL l fun l => k (.b t :: l)
    | .u => frL l fun l => k (.u :: l)
    | .own id gen off n sz => frL l fun l => k (.own id gen off n sz :: l)
    | .ref id gen off => frL l fun l => k (.ref id gen off :: l)
    | .si n kk xs => frL l fun l => k (.si n kk xs :: l)
    | c => frL l fun l => k (c :: l)
theorem frL_eq : ∀ (l : List V) (k : List V → R), frL l k = k l
  | [], _ => rfl
  | c :: l, k => by cases c <;> exact frL_eq l _
def frI : List Int → (List Int → R) → R
  | [], k => k []
  | c :: l, k => frI l fun l => k (c :: l)
theorem frI_eq : ∀ (l : List Int) (k : List Int → R), frI l k = k l
  | [], _ => rfl
  | c :: l, k => frI_eq l _
def frV (c : V) (k : V → R) : R := match c with
  | .i kk n => k (.i kk n)
  | .b t => k (.b t)
  | .u => k .u
  | .agg cs => frL cs fun cs => k (.agg cs)
  | .tup cs => frL cs fun cs => k (.tup cs)
  | .pl cs => frL cs fun cs => k (.pl cs)
  | .ref id gen off => k (.ref id gen off)
  | .own id gen off n sz => k (.own id gen off n sz)
  | c => k c
theorem frV_eq (c : V) (k : V → R) : frV c k = k c := by cases c <;> first | rfl | exact frL_eq _ _
def frS : List V → Nat → V → (List V → R) → R
  | [], _, _, k => k []
  | _ :: l, 0, c, k => k (c :: l)
  | x :: l, n + 1, c, k => frS l n c fun l => k (x :: l)
theorem frS_eq : ∀ (l : List V) (n : Nat) (c : V) (k : List V → R), frS l n c k = k (l.set n c)
  | [], _, _, _ => rfl
  | _ :: _, 0, _, _ => rfl
  | _ :: l, n + 1, c, k => frS_eq l n c _
def frB (b : Blk) (k : Blk → R) : R := match b with
  | ⟨gen, elem, d, wr⟩ => match d with
    | .list cs => frL cs fun cs => k ⟨gen, elem, .list cs, wr⟩
    | d => k ⟨gen, elem, d, wr⟩
theorem frB_eq (b : Blk) (k : Blk → R) : frB b k = k b := by
  obtain ⟨gen, elem, d, wr⟩ := b
  cases d
  · exact frL_eq _ _
  · rfl
def frH : Heap → (Heap → R) → R
  | [], k => k []
  | b :: l, k => frB b fun b => frH l fun l => k (b :: l)
theorem frH_eq : ∀ (l : Heap) (k : Heap → R), frH l k = k l
  | [], _ => rfl
  | b :: l, k => by simp only [frH, frB_eq]; exact frH_eq l _
end
end Go.Proofs.Ytcpicekmnkjceaa.VI

import Derived.Test.YtkmkhcmfpbffjaaGreatT277c39cf
import Derived.WalkKit
import Derived.ProofKit
import Derived.OpenShut
import Derived.ShutString
import Derived.ChangeOld
import Derived.Below
import Derived.SizedLaws
import Derived.WideKeyArgs
import GoSem.ClaimJoined
import Derived.Deep.Slices
import Derived.ChangeArms
namespace Go.Proofs.YtkmkhcmfpbffjaaGreat.VI
set_option linter.unusedVariables false
set_option linter.unusedSimpArgs false
inductive Fm where
  | i (k : IntKind) | b | st | si (k : IntKind) | sr (row : Fm) (sz : Nat)
  | agg (l : Fm) | tup (l : Fm) | pl (l : Fm) | fn (f : FuncId) (l : Fm)
  | own (id gen off sz : Nat) | ref (id gen off : Nat)
  | u | nilp | nils | nilf
  | unit | pair (f g : Fm) | cst (c g : Fm) | us (n : Nat) (g : Fm) | rep (n : Nat) (f : Fm)
@[reducible] def T : Fm → Type
  | .i _ => Int
  | .b => Bool
  | .st => List Int
  | .si _ => List Int
  | .sr r _ => List (T r)
  | .agg l => T l
  | .tup l => T l
  | .pl l => T l
  | .fn _ l => T l
  | .own _ _ _ _ => Nat
  | .ref _ _ _ => Unit
  | .u => Unit
  | .nilp => Unit
  | .nils => Unit
  | .nilf => Unit
  | .unit => Unit
  | .pair f g => T f × T g
  | .cst _ g => T g
  | .us _ g => T g
  | .rep _ f => List (T f)
def dflt : (f : Fm) → T f
  | .i _ => (0 : Int)
  | .b => false
  | .st => []
  | .si _ => []
  | .sr _ _ => []
  | .agg l => dflt l
  | .tup l => dflt l
  | .pl l => dflt l
  | .fn _ l => dflt l
  | .own _ _ _ _ => (0 : Nat)
  | .ref _ _ _ => ()
  | .u => ()
  | .nilp => ()
  | .nils => ()
  | .nilf => ()
  | .unit => ()
  | .pair f g => (dflt f, dflt g)
  | .cst _ g => dflt g
  | .us _ g => dflt g
  | .rep _ _ => []
def repE {α : Type} (e : α → List V → List V) (d : α) (l : List α) : Nat → Nat → List V → List V
  | 0, _, r => r
  | n + 1, j, r => e (l.getD j d) (repE e d l n (j + 1) r)
def usN : Nat → List V → List V
  | 0, r => r
  | n + 1, r => .u :: usN n r
def skN : Nat → List V → Option (List V)
  | 0, r => some r
  | n + 1, r => match r with
    | [] => none
    | _ :: r => skN n r
def enc : (f : Fm) → T f → List V → List V
  | .i k, x, r => .i k x :: r
  | .b, x, r => .b x :: r
  | .st, x, r => .st x :: r
  | .si k, xs, r => .si (List.length xs) k xs :: r
  | .sr row sz, l, r => .sr (List.length l) sz (fun j => enc row (List.getD l j (dflt row)) []) :: r
  | .agg l, x, r => .agg (enc l x []) :: r
  | .tup l, x, r => .tup (enc l x []) :: r
  | .pl l, x, r => .pl (enc l x []) :: r
  | .fn f l, x, r => .fn f (enc l x []) :: r
  | .own id gen off sz, n, r => .own id gen off n sz :: r
  | .ref id gen off, _, r => .ref id gen off :: r
  | .u, _, r => .u :: r
  | .nilp, _, r => .nilp :: r
  | .nils, _, r => .nils :: r
  | .nilf, _, r => .nilf :: r
  | .unit, _, r => r
  | .pair f g, x, r => enc f x.1 (enc g x.2 r)
  | .cst c g, x, r => enc c (dflt c) (enc g x r)
  | .us n g, x, r => usN n (enc g x r)
  | .rep n f, l, r => repE (enc f) (dflt f) l n 0 r
def allR (n : Nat) (p : Nat → Bool) : Bool := (List.range n).all p
def rowsOf {α : Type} (n : Nat) (g : Nat → α) : List α := (List.range n).map g
def isNil {α : Type} : List α → Bool
  | [] => true
  | _ :: _ => false
def eqK (a b : IntKind) : Bool := decide (a = b)
def decRep {α : Type} (d : ∀ {R : Type}, List V → (Bool → α → List V → R) → R) {R : Type} : Nat → List V → (Bool → List α → List V → R) → R
  | 0, l, K => K true [] l
  | n + 1, l, K => d l fun b x r => decRep d n r fun b' xs r' => K (b && b') (x :: xs) r'
def cutL (sz : Nat) (cs : List V) (j : Nat) : List V := (cs.drop (j * sz)).take sz
def dec : (f : Fm) → {R : Type} → List V → (Bool → T f → List V → R) → R
  | .i k, _, l, K => match l with
    | .i k' n :: r => K (eqK k' k) n r
    | _ => K false (0 : Int) []
  | .b, _, l, K => match l with
    | .b x :: r => K true x r
    | _ => K false false []
  | .st, _, l, K => match l with
    | .st x :: r => K true x r
    | .s a :: r => K true (bys a) r
    | _ => K false [] []
  | .si k, _, l, K => match l with
    | .si n k' xs :: r => K (eqK k' k) (xs.take n) r
    | .nils :: r => K true [] r
    | _ => K false [] []
  | .sr row sz, _, l, K => match l with
    | .sr n sz' g :: r => K (Nat.beq sz' sz && allR n fun j => dec row (g j) fun b _ r => b && isNil r) (rowsOf n fun j => dec row (g j) fun _ x _ => x) r
    | .sl n sz' cs :: r => K (Nat.beq sz' sz && allR n fun j => dec row (cutL sz' cs j) fun b _ r => b && isNil r) (rowsOf n fun j => dec row (cutL sz' cs j) fun _ x _ => x) r
    | .nils :: r => K (Nat.blt 0 sz) [] r
    | _ => K false [] []
  | .agg f, _, l, K => match l with
    | .agg cs :: r => dec f cs fun b x r' => K (b && isNil r') x r
    | _ => K false (dflt f) []
  | .tup f, _, l, K => match l with
    | .tup cs :: r => dec f cs fun b x r' => K (b && isNil r') x r
    | _ => K false (dflt f) []
  | .pl f, _, l, K => match l with
    | .pl cs :: r => dec f cs fun b x r' => K (b && isNil r') x r
    | _ => K false (dflt f) []
  | .fn i f, _, l, K => match l with
    | .fn i' cs :: r => dec f cs fun b x r' => K (Nat.beq i' i && (b && isNil r')) x r
    | _ => K false (dflt f) []
  | .own id gen off sz, _, l, K => match l with
    | .own id' gen' off' n sz' :: r => K (Nat.beq id' id && (Nat.beq gen' gen && (Nat.beq off' off && Nat.beq sz' sz))) n r
    | _ => K false (0 : Nat) []
  | .ref id gen off, _, l, K => match l with
    | .ref id' gen' off' :: r => K (Nat.beq id' id && (Nat.beq gen' gen && Nat.beq off' off)) () r
    | _ => K false () []
  | .u, _, l, K => match l with
    | _ :: r => K true () r
    | _ => K false () []
  | .nilp, _, l, K => match l with
    | .nilp :: r => K true () r
    | _ => K false () []
  | .nils, _, l, K => match l with
    | .nils :: r => K true () r
    | _ => K false () []
  | .nilf, _, l, K => match l with
    | .nilf :: r => K true () r
    | _ => K false () []
  | .unit, _, l, K => K true () l
  | .pair f g, _, l, K => dec f l fun b x r => dec g r fun b' y r' => K (b && b') (x, y) r'
  | .cst c g, _, l, K => dec c l fun b x r => dec g r fun b' y r' => K (b && b') y r'
  | .us n g, _, l, K => match skN n l with
    | some r => dec g r K
    | none => K false (dflt g) []
  | .rep n f, _, l, K => decRep (fun l K => dec f l K) n l K
def Fm.con : Fm → Bool
  | .ref _ _ _ => true
  | .u => true
  | .nilp => true
  | .nils => true
  | .nilf => true
  | .unit => true
  | .cst c g => c.con && g.con
  | .us _ g => g.con
  | .agg l => l.con
  | .tup l => l.con
  | .pl l => l.con
  | .fn _ l => l.con
  | _ => false
abbrev okd (f : Fm) (l : List V) : Bool := dec f l fun b _ _ => b
abbrev vld (f : Fm) (l : List V) : T f := dec f l fun _ x _ => x
abbrev rmd (f : Fm) (l : List V) : List V := dec f l fun _ _ r => r
theorem decRep_nat {α : Type} {d : ∀ {R : Type}, List V → (Bool → α → List V → R) → R} (hd : ∀ {R : Type} (l : List V) (K : Bool → α → List V → R), d l K = K (d l fun b _ _ => b) (d l fun _ x _ => x) (d l fun _ _ r => r)) {R : Type} :
    ∀ (n : Nat) (l : List V) (K : Bool → List α → List V → R), decRep d n l K = K (decRep d n l fun b _ _ => b) (decRep d n l fun _ x _ => x) (decRep d n l fun _ _ r => r)
  | 0, _, _ => rfl
  | n + 1, l, K => by
    simp only [decRep]
    rw [hd l (fun b x r => decRep d n r fun b' xs r' => K (b && b') (x :: xs) r'), hd (R := Bool) l (fun b x r => decRep d n r fun b' xs r' => b && b'), hd (R := List α) l (fun b x r => decRep d n r fun b' xs r' => x :: xs), hd (R := List V) l (fun b x r => decRep d n r fun b' xs r' => r')]
    rw [decRep_nat hd n]
    rw [decRep_nat hd n (R := Bool) (K := fun b' xs r' => (d l fun b _ _ => b) && b'), decRep_nat hd n (R := List α) (K := fun b' xs r' => (d l fun _ x _ => x) :: xs)]
theorem dec_nat : ∀ (f : Fm) {R : Type} (l : List V) (K : Bool → T f → List V → R), dec f l K = K (okd f l) (vld f l) (rmd f l)
  | .i k, R, l, K => by simp only [okd, vld, rmd, dec]; split <;> rfl
  | .b, R, l, K => by simp only [okd, vld, rmd, dec]; split <;> rfl
  | .st, R, l, K => by simp only [okd, vld, rmd, dec]; split <;> rfl
  | .si k, R, l, K => by simp only [okd, vld, rmd, dec]; split <;> rfl
  | .sr row sz, R, l, K => by simp only [okd, vld, rmd, dec]; split <;> rfl
  | .agg f, R, l, K => by
    simp only [okd, vld, rmd, dec]; split
    · rw [dec_nat f, dec_nat f (R := Bool) _ fun b x r' => _, dec_nat f (R := T f) _ fun b x r' => _, dec_nat f (R := List V) _ fun b x r' => _]
    · rfl
  | .tup f, R, l, K => by
    simp only [okd, vld, rmd, dec]; split
    · rw [dec_nat f, dec_nat f (R := Bool) _ fun b x r' => _, dec_nat f (R := T f) _ fun b x r' => _, dec_nat f (R := List V) _ fun b x r' => _]
    · rfl
  | .pl f, R, l, K => by
    simp only [okd, vld, rmd, dec]; split
    · rw [dec_nat f, dec_nat f (R := Bool) _ fun b x r' => _, dec_nat f (R := T f) _ fun b x r' => _, dec_nat f (R := List V) _ fun b x r' => _]
    · rfl
  | .fn i f, R, l, K => by
    simp only [okd, vld, rmd, dec]; split
    · rw [dec_nat f, dec_nat f (R := Bool) _ fun b x r' => _, dec_nat f (R := T f) _ fun b x r' => _, dec_nat f (R := List V) _ fun b x r' => _]
    · rfl
  | .own id gen off sz, R, l, K => by simp only [okd, vld, rmd, dec]; split <;> rfl
  | .ref id gen off, R, l, K => by simp only [okd, vld, rmd, dec]; split <;> rfl
  | .u, R, l, K => by simp only [okd, vld, rmd, dec]; split <;> rfl
  | .nilp, R, l, K => by simp only [okd, vld, rmd, dec]; split <;> rfl
  | .nils, R, l, K => by simp only [okd, vld, rmd, dec]; split <;> rfl
  | .nilf, R, l, K => by simp only [okd, vld, rmd, dec]; split <;> rfl
  | .unit, R, l, K => rfl
  | .pair f g, R, l, K => by
    simp only [okd, vld, rmd, dec]
    rw [dec_nat f, dec_nat f (R := Bool) _ fun b x r' => _, dec_nat f (R := T f × T g) _ fun b x r' => _, dec_nat f (R := List V) _ fun b x r' => _]
    rw [dec_nat g, dec_nat g (R := Bool) _ fun b x r' => _, dec_nat g (R := T f × T g) _ fun b x r' => _]
  | .cst f g, R, l, K => by
    simp only [okd, vld, rmd, dec]
    rw [dec_nat f, dec_nat f (R := Bool) _ fun b x r' => _, dec_nat f (R := T g) _ fun b x r' => _, dec_nat f (R := List V) _ fun b x r' => _]
    rw [dec_nat g, dec_nat g (R := Bool) _ fun b x r' => _]
  | .us n g, R, l, K => by
    simp only [okd, vld, rmd, dec]; split
    · exact dec_nat g _ K
    · rfl
  | .rep n f, R, l, K => decRep_nat (fun l K => dec_nat f l K) n l K
def Imp (c d : V) : Prop := (∀ x v, VR x c v → VR x d v) ∧ (c.ok → d.ok)
def Imps : List V → List V → Prop
  | [], [] => True
  | c :: cs, d :: ds => Imp c d ∧ Imps cs ds
  | _, _ => False
theorem Imp.refl (c : V) : Imp c c := ⟨fun _ _ h => h, fun h => h⟩
theorem Imps.refl : ∀ l, Imps l l
  | [] => trivial
  | c :: l => ⟨.refl c, .refl l⟩
theorem Imps.trans : ∀ {a b c : List V}, Imps a b → Imps b c → Imps a c
  | [], [], [], _, _ => trivial
  | _ :: _, _ :: _, _ :: _, h, k => ⟨⟨fun x v q => k.1.1 x v (h.1.1 x v q), fun q => k.1.2 (h.1.2 q)⟩, h.2.trans k.2⟩
theorem Imps.len : ∀ {a b : List V}, Imps a b → a.length = b.length
  | [], [], _ => rfl
  | _ :: _, _ :: _, h => by simp [h.2.len]
theorem Imps.vrs {x : Cx} : ∀ {a b : List V} {l : List Value}, Imps a b → VRs x a l → VRs x b l
  | [], [], _, _, h => h
  | _ :: _, _ :: _, _, k, h => by
    obtain ⟨v, vs, hl, h1, h2⟩ := h
    exact ⟨v, vs, hl, k.1.1 x v h1, k.2.vrs h2⟩
theorem Imps.vrc {x : Cx} : ∀ {a b : List V} {bk off : Nat}, Imps a b → VRc x a bk off → VRc x b bk off
  | [], [], _, _, _, _ => trivial
  | _ :: _, _ :: _, _, _, k, h => by
    obtain ⟨⟨v, h1, h2, h3⟩, h4⟩ := h
    exact ⟨⟨v, h1, h2, k.1.1 x v h3⟩, k.2.vrc h4⟩
theorem Imps.oks : ∀ {a b : List V}, Imps a b → oks a → oks b
  | [], [], _, h => h
  | _ :: _, _ :: _, k, h => ⟨k.1.2 h.1, k.2.oks h.2⟩
theorem Imps.append : ∀ {a b c d : List V}, Imps a b → Imps c d → Imps (a ++ c) (b ++ d)
  | [], [], _, _, _, k => k
  | _ :: _, _ :: _, _, _, h, k => ⟨h.1, h.2.append k⟩
theorem Imps.replicate (n : Nat) : Imps (List.replicate n .u) (List.replicate n .u) := .refl _
theorem Imps.take : ∀ {a b : List V} (n : Nat), Imps a b → Imps (a.take n) (b.take n)
  | [], [], n, _ => by simp [Imps]
  | _ :: _, _ :: _, 0, _ => trivial
  | _ :: _, _ :: _, n + 1, h => ⟨h.1, h.2.take n⟩
theorem isNil_spec {α : Type} {l : List α} (h : isNil l = true) : l = [] := by cases l with
  | nil => rfl
  | cons _ _ => cases h
theorem eqK_spec {a b : IntKind} (h : eqK a b = true) : a = b := by simpa [eqK] using h
theorem oks_usN : ∀ (n : Nat) {r : List V}, oks r → oks (usN n r)
  | 0, _, h => h
  | n + 1, _, h => ⟨trivial, oks_usN n h⟩
theorem skN_imp : ∀ (n : Nat) {l r s : List V}, skN n l = some r → Imps r s → Imps l (usN n s)
  | 0, l, r, s, h, k => by simp [skN] at h; subst h; exact k
  | n + 1, [], r, s, h, k => by cases h
  | n + 1, c :: l, r, s, h, k => ⟨⟨fun _ _ _ => trivial, fun _ => trivial⟩, skN_imp n h k⟩
theorem dflt_oks : ∀ (f : Fm) (r : List V), oks r → oks (enc f (dflt f) r)
  | .i k, r, h => ⟨zero_in k, h⟩
  | .b, r, h => ⟨trivial, h⟩
  | .st, r, h => ⟨⟨by decide, fun e he => by cases he⟩, h⟩
  | .si k, r, h => ⟨⟨Nat.zero_le _, fun e he => by cases he⟩, h⟩
  | .sr row sz, r, h => ⟨⟨Nat.zero_le _, fun j => by show oks (enc row (List.getD [] j (dflt row)) []); rw [List.getD_nil]; exact dflt_oks row [] trivial⟩, h⟩
  | .agg f, r, h => ⟨dflt_oks f [] trivial, h⟩
  | .tup f, r, h => ⟨dflt_oks f [] trivial, h⟩
  | .pl f, r, h => ⟨dflt_oks f [] trivial, h⟩
  | .fn i f, r, h => ⟨dflt_oks f [] trivial, h⟩
  | .own id gen off sz, r, h => ⟨by show (0:Nat) ≤ lenM; decide, h⟩
  | .ref id gen off, r, h => ⟨trivial, h⟩
  | .u, r, h => ⟨trivial, h⟩
  | .nilp, r, h => ⟨trivial, h⟩
  | .nils, r, h => ⟨trivial, h⟩
  | .nilf, r, h => ⟨trivial, h⟩
  | .unit, r, h => h
  | .pair f g, r, h => dflt_oks f _ (dflt_oks g r h)
  | .cst f g, r, h => dflt_oks f _ (dflt_oks g r h)
  | .us n g, r, h => oks_usN n (dflt_oks g r h)
  | .rep n f, r, h => by
    show oks (repE (enc f) (dflt f) [] n 0 r)
    have : ∀ (n j : Nat), oks (repE (enc f) (dflt f) [] n j r) := by
      intro n
      induction n with
      | zero => intro j; exact h
      | succ n ih => intro j; simp only [repE, List.getD_nil]; exact dflt_oks f _ (ih (j + 1))
    exact this n 0
theorem rowsOf_get {α : Type} {n : Nat} {g : Nat → α} {j : Nat} (h : j < n) (d : α) : (rowsOf n g).getD j d = g j := by
  simp [rowsOf, List.getD, h]
theorem rowsOf_len {α : Type} (n : Nat) (g : Nat → α) : (rowsOf n g).length = n := by simp [rowsOf]
theorem rowsOf_ge {α : Type} {n : Nat} {g : Nat → α} {j : Nat} (h : n ≤ j) (d : α) : (rowsOf n g).getD j d = d := by
  simp [rowsOf, List.getD, h]
theorem allR_spec {n : Nat} {p : Nat → Bool} (h : allR n p = true) {j : Nat} (hj : j < n) : p j = true := by
  unfold allR at h; rw [List.all_eq_true] at h; exact h j (by simpa using hj)
theorem oks_rows {row : Fm} {n : Nat} {g : Nat → List V} (h : ∀ j, j < n → Imps (g j) (enc row (vld row (g j)) [])) (ho : ∀ j, oks (g j)) (j : Nat) : oks (enc row ((rowsOf n fun j => vld row (g j)).getD j (dflt row)) []) := by
  rcases Nat.lt_or_ge j n with hj | hj
  · rw [rowsOf_get hj]; exact (h j hj).oks (ho j)
  · rw [rowsOf_ge hj]; exact dflt_oks row [] trivial
theorem imp_si {n : Nat} {k : IntKind} {xs : List Int} : Imp (.si n k xs) (.si (xs.take n).length k (xs.take n)) := by
  refine ⟨fun x v h => ?_, fun h => ⟨?_, fun e he => h.2 e (List.mem_of_mem_take he)⟩⟩
  · obtain ⟨a, cap, hv, hc, hr⟩ := h
    rcases hr with h0 | ⟨bk, off, ha, ho, hn, hs⟩
    · subst h0; exact ⟨a, cap, by simpa using hv, by simp, .inl (by simp)⟩
    · have hl : (xs.take n).length = n := by simp; omega
      refine ⟨a, cap, by rw [hl]; exact hv, by rw [hl]; exact hc, .inr ⟨bk, off, ha, ho, Nat.le_refl _, fun j e hj he => hs j e (by omega) ?_⟩⟩
      rw [List.getElem?_take] at he
      split at he
      · exact he
      · cases he
  · have := h.1; simp only [List.length_take]; omega
theorem imp_sr {n sz : Nat} {g : Nat → List V} {row : Fm} (h : ∀ j, j < n → Imps (g j) (enc row (vld row (g j)) [])) : Imp (.sr n sz g) (.sr (rowsOf n fun j => vld row (g j)).length sz fun j => enc row ((rowsOf n fun j => vld row (g j)).getD j (dflt row)) []) := by
  rw [rowsOf_len]
  refine ⟨fun x v hv => ?_, fun ho => ⟨ho.1, oks_rows h ho.2⟩⟩
  obtain ⟨a, cap, hv, hc, hz, hr⟩ := hv
  refine ⟨a, cap, hv, hc, hz, ?_⟩
  rcases hr with h0 | ⟨bk, off, ha, ho, hs⟩
  · exact .inl h0
  · refine .inr ⟨bk, off, ha, ho, fun j hj => ?_⟩
    obtain ⟨k1, k2⟩ := hs j hj
    simp only
    rw [rowsOf_get hj]
    exact ⟨(h j hj).len ▸ k1, (h j hj).vrc k2⟩
theorem imp_sl_sr (n sz : Nat) (cs : List V) : Imp (.sl n sz cs) (.sr n sz (cutL sz cs)) := by
  refine ⟨fun x v hv => ?_, fun ho => ⟨ho.1, fun j => oks.take (oks.drop ho.2 _) _⟩⟩
  obtain ⟨a, cap, hv, hc, hz, hr⟩ := hv
  refine ⟨a, cap, hv, hc, hz, ?_⟩
  rcases hr with h0 | ⟨bk, off, ha, ho, hn, hs⟩
  · exact .inl h0
  · refine .inr ⟨bk, off, ha, ho, fun j hj => ⟨?_, (hs.drop (j * sz)).take sz⟩⟩
    unfold cutL
    rw [List.length_take, List.length_drop]
    have : (j + 1) * sz ≤ n * sz := Nat.mul_le_mul_right _ hj
    rw [Nat.succ_mul] at this
    omega
theorem Imp.trans {a b c : V} (h : Imp a b) (k : Imp b c) : Imp a c := ⟨fun x v q => k.1 x v (h.1 x v q), fun q => k.2 (h.2 q)⟩
theorem imp_nils_si (k : IntKind) : Imp .nils (.si 0 k []) := ⟨fun x v ⟨a, h⟩ => ⟨a, 0, h, Nat.le_refl _, .inl rfl⟩, fun _ => ⟨Nat.zero_le _, fun e he => by cases he⟩⟩
theorem imp_nils_sr {sz : Nat} (hz : 0 < sz) (row : Fm) : Imp .nils (.sr 0 sz fun j => enc row (List.getD [] j (dflt row)) []) := ⟨fun x v ⟨a, h⟩ => ⟨a, 0, h, Nat.le_refl _, hz, .inl rfl⟩, fun _ => ⟨Nat.zero_le _, fun j => by simp only; rw [List.getD_nil]; exact dflt_oks row [] trivial⟩⟩
theorem imp_s (a : ByteArray) : Imp (.s a) (.st (bys a)) := ⟨fun x v h => ⟨a, h, rfl⟩, fun h => ⟨by
  have h : a.size < 2 ^ 62 := h
  have : (bys a).length = a.size := by simp [bys]
  rw [this]; show a.size ≤ 9223372036854775807; omega, bys_in a⟩⟩
theorem imp_in {c d : List V} {k : List V → V} (hk : k = .agg ∨ k = .tup ∨ k = .pl ∨ ∃ f, k = .fn f) (h : Imps c d) : Imp (k c) (k d) := by
  rcases hk with e | e | e | ⟨f, e⟩ <;> subst e
  · exact ⟨fun x v ⟨l, h1, h2⟩ => ⟨l, h1, h.vrs h2⟩, fun o => h.oks o⟩
  · exact ⟨fun x v ⟨l, h1, h2⟩ => ⟨l, h1, h.vrs h2⟩, fun o => h.oks o⟩
  · refine ⟨fun x v ⟨bk, off, h1, h2⟩ => ⟨bk, off, h1, ?_⟩, fun o => h.oks o⟩
    rcases h2 with h0 | ⟨k1, k2⟩
    · subst h0; cases d with
      | nil => exact .inl rfl
      | cons _ _ => exact h.elim
    · exact .inr ⟨k1, h.vrc k2⟩
  · exact ⟨fun x v ⟨l, h1, h2⟩ => ⟨l, h1, h.vrs h2⟩, fun o => h.oks o⟩
theorem con_dflt : ∀ (f : Fm), f.con = true → ∀ (x : T f) (r : List V), enc f x r = enc f (dflt f) r
  | .ref _ _ _, _, _, _ => rfl
  | .u, _, _, _ => rfl
  | .nilp, _, _, _ => rfl
  | .nils, _, _, _ => rfl
  | .nilf, _, _, _ => rfl
  | .unit, _, _, _ => rfl
  | .cst c g, h, x, r => by
    simp only [Fm.con, Bool.and_eq_true] at h
    simp only [enc, dflt, con_dflt g h.2 x r]
  | .us n g, h, x, r => by simp only [enc, dflt, con_dflt g h x r]
  | .agg l, h, x, r => by simp only [enc, dflt, con_dflt l h x []]
  | .tup l, h, x, r => by simp only [enc, dflt, con_dflt l h x []]
  | .pl l, h, x, r => by simp only [enc, dflt, con_dflt l h x []]
  | .fn _ l, h, x, r => by simp only [enc, dflt, con_dflt l h x []]
  | .i _, h, _, _ => by cases h
  | .b, h, _, _ => by cases h
  | .st, h, _, _ => by cases h
  | .si _, h, _, _ => by cases h
  | .sr _ _, h, _, _ => by cases h
  | .own _ _ _ _, h, _, _ => by cases h
  | .pair _ _, h, _, _ => by cases h
  | .rep _ _, h, _, _ => by cases h
def Fm.fine : Fm → Bool
  | .sr r _ => r.fine
  | .agg l => l.fine
  | .tup l => l.fine
  | .pl l => l.fine
  | .fn _ l => l.fine
  | .pair f g => f.fine && g.fine
  | .cst c g => c.con && c.fine && g.fine
  | .us _ g => g.fine
  | .rep _ f => f.fine
  | _ => true
theorem beq_spec {a b : Nat} (h : Nat.beq a b = true) : a = b := Nat.eq_of_beq_eq_true h
theorem dec_imp : ∀ (f : Fm), f.fine = true → ∀ (l r2 : List V), okd f l = true → Imps (rmd f l) r2 → Imps l (enc f (vld f l) r2)
  | .i k, _, l, r2, h, hr => by
    simp only [okd, vld, rmd, dec] at h hr ⊢; split at h
    · simp only at hr ⊢; rw [eqK_spec h]; exact ⟨.refl _, hr⟩
    · cases h
  | .b, _, l, r2, h, hr => by
    simp only [okd, vld, rmd, dec] at h hr ⊢; split at h
    · exact ⟨.refl _, hr⟩
    · cases h
  | .st, _, l, r2, h, hr => by
    simp only [okd, vld, rmd, dec] at h hr ⊢; split at h
    · exact ⟨.refl _, hr⟩
    · exact ⟨imp_s _, hr⟩
    · cases h
  | .si k, _, l, r2, h, hr => by
    simp only [okd, vld, rmd, dec] at h hr ⊢; split at h
    · simp only at hr ⊢; rw [eqK_spec h]; exact ⟨imp_si, hr⟩
    · exact ⟨imp_nils_si k, hr⟩
    · cases h
  | .sr row sz, hf, l, r2, h, hr => by
    simp only [okd, vld, rmd, dec] at h hr ⊢; split at h
    · rename_i n sz' g r
      simp only [Bool.and_eq_true] at h
      simp only at hr ⊢
      rw [beq_spec h.1]
      refine ⟨imp_sr fun j hj => ?_, hr⟩
      have := allR_spec h.2 hj
      rw [dec_nat] at this
      simp only [Bool.and_eq_true] at this
      exact dec_imp row hf (g j) [] this.1 (by rw [isNil_spec this.2]; trivial)
    · rename_i n sz' cs r
      simp only [Bool.and_eq_true] at h
      simp only at hr ⊢
      rw [beq_spec h.1]
      refine ⟨(imp_sl_sr n sz cs).trans ?_, hr⟩
      rw [← beq_spec h.1]
      refine imp_sr fun j hj => ?_
      have := allR_spec h.2 hj
      rw [dec_nat] at this
      simp only [Bool.and_eq_true] at this
      exact dec_imp row hf (cutL sz' cs j) [] this.1 (by rw [isNil_spec this.2]; trivial)
    · exact ⟨imp_nils_sr (Nat.le_of_ble_eq_true h) row, hr⟩
    · cases h
  | .agg f, hf, l, r2, h, hr => by
    cases l with
    | nil => cases h
    | cons c r =>
      cases c with
      | agg cs =>
        simp only [okd, vld, rmd, dec] at h hr ⊢
        rw [dec_nat] at h hr ⊢
        simp only [Bool.and_eq_true] at h
        exact ⟨imp_in (.inl rfl) (dec_imp f hf _ [] h.1 (by rw [isNil_spec h.2]; trivial)), hr⟩
      | _ => cases h
  | .tup f, hf, l, r2, h, hr => by
    cases l with
    | nil => cases h
    | cons c r =>
      cases c with
      | tup cs =>
        simp only [okd, vld, rmd, dec] at h hr ⊢
        rw [dec_nat] at h hr ⊢
        simp only [Bool.and_eq_true] at h
        exact ⟨imp_in (.inr (.inl rfl)) (dec_imp f hf _ [] h.1 (by rw [isNil_spec h.2]; trivial)), hr⟩
      | _ => cases h
  | .pl f, hf, l, r2, h, hr => by
    cases l with
    | nil => cases h
    | cons c r =>
      cases c with
      | pl cs =>
        simp only [okd, vld, rmd, dec] at h hr ⊢
        rw [dec_nat] at h hr ⊢
        simp only [Bool.and_eq_true] at h
        exact ⟨imp_in (.inr (.inr (.inl rfl))) (dec_imp f hf _ [] h.1 (by rw [isNil_spec h.2]; trivial)), hr⟩
      | _ => cases h
  | .fn i f, hf, l, r2, h, hr => by
    cases l with
    | nil => cases h
    | cons c r =>
      cases c with
      | fn i' cs =>
        simp only [okd, vld, rmd, dec] at h hr ⊢
        rw [dec_nat] at h hr ⊢
        simp only [Bool.and_eq_true] at h
        rw [beq_spec h.1]
        exact ⟨imp_in (.inr (.inr (.inr ⟨i, rfl⟩))) (dec_imp f hf _ [] h.2.1 (by rw [isNil_spec h.2.2]; trivial)), hr⟩
      | _ => cases h
  | .own id gen off sz, _, l, r2, h, hr => by
    simp only [okd, vld, rmd, dec] at h hr ⊢; split at h
    · simp only [Bool.and_eq_true] at h
      simp only at hr ⊢
      rw [beq_spec h.1, beq_spec h.2.1, beq_spec h.2.2.1, beq_spec h.2.2.2]; exact ⟨.refl _, hr⟩
    · cases h
  | .ref id gen off, _, l, r2, h, hr => by
    simp only [okd, vld, rmd, dec] at h hr ⊢; split at h
    · simp only [Bool.and_eq_true] at h
      simp only at hr ⊢
      rw [beq_spec h.1, beq_spec h.2.1, beq_spec h.2.2]; exact ⟨.refl _, hr⟩
    · cases h
  | .u, _, l, r2, h, hr => by
    simp only [okd, vld, rmd, dec] at h hr ⊢; split at h
    · exact ⟨⟨fun _ _ _ => trivial, fun _ => trivial⟩, hr⟩
    · cases h
  | .nilp, _, l, r2, h, hr => by
    simp only [okd, vld, rmd, dec] at h hr ⊢; split at h
    · exact ⟨.refl _, hr⟩
    · cases h
  | .nils, _, l, r2, h, hr => by
    simp only [okd, vld, rmd, dec] at h hr ⊢; split at h
    · exact ⟨.refl _, hr⟩
    · cases h
  | .nilf, _, l, r2, h, hr => by
    simp only [okd, vld, rmd, dec] at h hr ⊢; split at h
    · exact ⟨.refl _, hr⟩
    · cases h
  | .unit, _, l, r2, h, hr => hr
  | .pair f g, hf, l, r2, h, hr => by
    simp only [Fm.fine, Bool.and_eq_true] at hf
    simp only [okd, vld, rmd, dec] at h hr ⊢
    rw [dec_nat f] at h hr ⊢
    rw [dec_nat g] at h hr ⊢
    simp only [Bool.and_eq_true] at h
    exact dec_imp f hf.1 l _ h.1 (dec_imp g hf.2 _ _ h.2 hr)
  | .cst f g, hf, l, r2, h, hr => by
    simp only [Fm.fine, Bool.and_eq_true] at hf
    simp only [okd, vld, rmd, dec] at h hr ⊢
    rw [dec_nat f] at h hr ⊢
    rw [dec_nat g] at h hr ⊢
    simp only [Bool.and_eq_true] at h
    have := dec_imp f hf.1.2 l _ h.1 (dec_imp g hf.2 _ _ h.2 hr)
    rw [con_dflt f hf.1.1] at this
    exact this
  | .us n g, hf, l, r2, h, hr => by
    simp only [okd, vld, rmd, dec] at h hr ⊢
    cases hs : skN n l with
    | none => rw [hs] at h; cases h
    | some r =>
      rw [hs] at h hr
      exact skN_imp n hs (dec_imp g hf r r2 h hr)
  | .rep n f, hf, l, r2, h, hr => by
    have hf : f.fine = true := hf
    simp only [okd, vld, rmd, dec] at h hr ⊢
    have key : ∀ (n : Nat) (l r2 : List V) (pre : List (T f)), (decRep (fun l K => dec f l K) n l fun b _ _ => b) = true → Imps (decRep (fun l K => dec f l K) n l fun _ _ r => r) r2 →
        Imps l (repE (enc f) (dflt f) (pre ++ decRep (fun l K => dec f l K) n l fun _ x _ => x) n pre.length r2) := by
      intro n
      induction n with
      | zero => intro l r2 pre _ hr; exact hr
      | succ n ih =>
        intro l r2 pre h hr
        simp only [decRep] at h hr ⊢
        rw [dec_nat f] at h hr ⊢
        rw [decRep_nat (fun l K => dec_nat f l K)] at h hr ⊢
        simp only [Bool.and_eq_true] at h
        simp only [repE]
        have := ih (rmd f l) r2 (pre ++ [vld f l]) h.2 hr
        simp only [List.append_assoc, List.cons_append, List.nil_append, List.length_append, List.length_cons, List.length_nil, Nat.zero_add] at this
        have e : (pre ++ vld f l :: decRep (fun l K => dec f l K) n (rmd f l) fun _ x _ => x).getD pre.length (dflt f) = vld f l := by simp [List.getD]
        rw [e]
        exact dec_imp f hf l _ h.1 this
    have := key n l r2 [] h hr
    exact this
end Go.Proofs.YtkmkhcmfpbffjaaGreat.VI

namespace Go.Proofs.YtkmkhcmfpbffjaaGreat.VI
set_option linter.unusedVariables false
set_option linter.unusedSimpArgs false
inductive BF where
  | dead
  | list (g : Nat) (e : TypeId) (w : Bool) (l : Fm)
  | ints (g : Nat) (e : TypeId) (w : Bool) (k : IntKind)
  | recs (g : Nat) (e : TypeId) (w : Bool) (row : Fm) (sz : Nat)
  | mix (g : Nat) (e : TypeId) (w : Bool) (pre : Fm) (k : IntKind)
@[reducible] def TB : BF → Type
  | .dead => Unit
  | .list _ _ _ l => T l
  | .ints _ _ _ _ => List Int
  | .recs _ _ _ row _ => List (T row)
  | .mix _ _ _ pre _ => T pre × List Int
@[reducible] def TH : List BF → Type
  | [] => Unit
  | b :: l => TB b × TH l
def dfltB : (b : BF) → TB b
  | .dead => ()
  | .list _ _ _ l => dflt l
  | .ints _ _ _ _ => []
  | .recs _ _ _ _ _ => []
  | .mix _ _ _ pre _ => (dflt pre, [])
def dfltH : (l : List BF) → TH l
  | [] => ()
  | b :: l => (dfltB b, dfltH l)
def encB : (b : BF) → TB b → Blk
  | .dead, _ => ⟨0, 0, .list [], true⟩
  | .list g e w l, x => ⟨g, e, .list (enc l x []), w⟩
  | .ints g e w k, xs => ⟨g, e, .ints k xs, w⟩
  | .recs g e w row sz, l => ⟨g, e, .recs (List.length l) sz (fun j => enc row (List.getD l j (dflt row)) []), w⟩
  | .mix g e w pre k, x => ⟨g, e, .mix (enc pre x.1 []) k x.2, w⟩
def encH : (l : List BF) → TH l → Heap
  | [], _ => []
  | b :: l, x => encB b x.1 :: encH l x.2
def eqB (a b : Bool) : Bool := match a with
  | true => b
  | false => not b
def lenRec (row : Fm) (sz n : Nat) (g : Nat → List V) : Bool := allR n fun j => dec row (g j) fun b _ r => b && (isNil r && Nat.beq (g j).length sz)
def decB : (b : BF) → {R : Type} → Blk → (Bool → TB b → R) → R
  | .dead, _, c, K => K (Nat.beq c.gen 0) ()
  | .list g e w l, _, c, K => match c.d with
    | .list cs => dec l cs fun b x r => K (Nat.beq c.gen g && (Nat.beq c.elem e && (eqB c.wr w && (b && isNil r)))) x
    | _ => K false (dflt l)
  | .ints g e w k, _, c, K => match c.d with
    | .ints k' xs => K (Nat.beq c.gen g && (Nat.beq c.elem e && (eqB c.wr w && eqK k' k))) xs
    | .list [] => K (Nat.beq c.gen g && (Nat.beq c.elem e && eqB c.wr w)) []
    | _ => K false []
  | .recs g e w row sz, _, c, K => match c.d with
    | .recs n sz' gg => K (Nat.beq c.gen g && (Nat.beq c.elem e && (eqB c.wr w && (Nat.beq sz' sz && lenRec row sz n gg)))) (rowsOf n fun j => dec row (gg j) fun _ x _ => x)
    | .list [] => K (Nat.beq c.gen g && (Nat.beq c.elem e && eqB c.wr w)) []
    | _ => K false []
  | .mix g e w pre k, _, c, K => match c.d with
    | .mix p k' xs => dec pre p fun b x r => K (Nat.beq c.gen g && (Nat.beq c.elem e && (eqB c.wr w && (eqK k' k && (b && isNil r))))) (x, xs)
    | _ => K false (dflt pre, [])
def decH : (l : List BF) → {R : Type} → Heap → (Bool → TH l → R) → R
  | [], _, h, K => match h with
    | [] => K true ()
    | _ :: _ => K false ()
  | b :: l, _, h, K => match h with
    | c :: h => decB b c fun t x => decH l h fun t' y => K (t && t') (x, y)
    | [] => K false (dfltH (b :: l))
def BF.fine : BF → Bool
  | .list _ _ _ l => l.fine
  | .recs _ _ _ row _ => row.fine
  | .mix _ _ _ pre _ => pre.fine
  | _ => true
abbrev okB (b : BF) (c : Blk) : Bool := decB b c fun t _ => t
abbrev vlB (b : BF) (c : Blk) : TB b := decB b c fun _ x => x
abbrev okH (l : List BF) (h : Heap) : Bool := decH l h fun t _ => t
abbrev vlH (l : List BF) (h : Heap) : TH l := decH l h fun _ x => x
theorem decB_nat : ∀ (b : BF) {R : Type} (c : Blk) (K : Bool → TB b → R), decB b c K = K (okB b c) (vlB b c)
  | .dead, R, c, K => rfl
  | .list g e w l, R, c, K => by
    simp only [okB, vlB, decB]; split
    · rw [dec_nat l, dec_nat l (R := Bool) _ fun b x r => _, dec_nat l (R := T l) _ fun b x r => _]
    · rfl
  | .ints g e w k, R, c, K => by simp only [okB, vlB, decB]; split <;> rfl
  | .recs g e w row sz, R, c, K => by simp only [okB, vlB, decB]; split <;> rfl
  | .mix g e w pre k, R, c, K => by
    simp only [okB, vlB, decB]; split
    · rw [dec_nat pre, dec_nat pre (R := Bool) _ fun b x r => _, dec_nat pre (R := T pre × List Int) _ fun b x r => _]
    · rfl
theorem decH_nat : ∀ (l : List BF) {R : Type} (h : Heap) (K : Bool → TH l → R), decH l h K = K (okH l h) (vlH l h)
  | [], R, h, K => by cases h <;> rfl
  | b :: l, R, [], K => rfl
  | b :: l, R, c :: h, K => by
    simp only [okH, vlH, decH]
    rw [decB_nat b, decB_nat b (R := Bool) _ fun t x => _, decB_nat b (R := TH (b :: l)) _ fun t x => _]
    rw [decH_nat l, decH_nat l (R := Bool) _ fun t' y => _, decH_nat l (R := TH (b :: l)) _ fun t' y => _]
structure BIY (Y : Cx → Prop) (b c : Blk) : Prop where
  gen : c.gen = b.gen
  rest : 0 < b.gen → c.elem = b.elem ∧ c.wr = b.wr ∧ c.cs.length = b.cs.length ∧ (∀ (x : Cx), Y x → ∀ (l : List Value), VRs x b.cs l → good x b.d l → VRs x c.cs l ∧ good x c.d l) ∧ (b.d.ok → c.d.ok)
  mp : 0 < b.gen → c.d = b.d ∨ (c.d.mpq = false ∧ b.d.mpq = false)
def HIY (Y : Cx → Prop) : Heap → Heap → Prop
  | [], [] => True
  | b :: h, c :: h' => BIY Y b c ∧ HIY Y h h'
  | _, _ => False
abbrev anyC : Cx → Prop := fun _ => True
abbrev BI := BIY anyC
abbrev HI := HIY anyC
theorem BIY.refl (Y : Cx → Prop) (b : Blk) : BIY Y b b := ⟨rfl, fun _ => ⟨rfl, rfl, rfl, fun _ _ _ h k => ⟨h, k⟩, fun h => h⟩, fun _ => .inl rfl⟩
theorem HIY.get {Y : Cx → Prop} : ∀ {h h' : Heap}, HIY Y h h' → ∀ (j : Nat), (∀ b, h[j]? = some b → ∃ c, h'[j]? = some c ∧ BIY Y b c) ∧ ∀ c, h'[j]? = some c → ∃ b, h[j]? = some b ∧ BIY Y b c
  | [], [], _, j => ⟨fun b hb => by simp at hb, fun b hb => by simp at hb⟩
  | b :: h, c :: h', k, 0 => ⟨fun b' hb => by simp at hb; subst hb; exact ⟨c, rfl, k.1⟩, fun c' hc => by simp at hc; subst hc; exact ⟨b, rfl, k.1⟩⟩
  | b :: h, c :: h', k, j + 1 => by simpa using k.2.get j
theorem HIY.len {Y : Cx → Prop} : ∀ {h h' : Heap}, HIY Y h h' → h'.length = h.length
  | [], [], _ => rfl
  | _ :: _, _ :: _, k => by simp [k.2.len]
theorem imps_fitted {sz : Nat} {g f : Nat → List V} : ∀ {n : Nat}, (∀ j, j < n → Imps (g j) (f j)) → Imps (fitted sz g n) (fitted sz f n)
  | 0, _ => trivial
  | n + 1, h => by
    have h1 := imps_fitted (sz := sz) (g := g) (f := f) (n := n) fun j hj => h j (by omega)
    exact h1.append (((h n (by omega)).append (.replicate sz)).take sz)
theorem decB_ok0 : ∀ (b : BF), (∀ g e w pre k, b ≠ .mix g e w pre k) → b.fine = true → ∀ (c : Blk), okB b c = true → BI c (encB b (vlB b c))
  | .mix g e w pre k, hne, _, _, _ => absurd rfl (hne g e w pre k)
  | .dead, _, _, c, h => by
    simp only [okB, decB] at h
    have := beq_spec h
    exact ⟨this.symm, fun k => by omega, fun k => by omega⟩
  | .list g e w l, _, hf, ⟨g', e', d, w'⟩, h => by
    cases d with
    | list cs =>
      simp only [okB, vlB, decB] at h ⊢
      rw [dec_nat] at h
      simp only [Bool.and_eq_true] at h
      have hi := dec_imp l hf cs [] h.2.2.2.1 (by rw [isNil_spec h.2.2.2.2]; trivial)
      have hw : w = w' := by have := h.2.2.1; revert this; cases w <;> cases w' <;> simp [eqB]
      exact ⟨(beq_spec h.1).symm, fun _ => ⟨(beq_spec h.2.1).symm, hw, hi.len.symm, fun x _ l h1 _ => ⟨hi.vrs h1, trivial⟩, fun o => hi.oks o⟩, fun _ => .inr ⟨rfl, rfl⟩⟩
    | _ => cases h
  | .ints g e w k, _, _, ⟨g', e', d, w'⟩, h => by
    cases d with
    | ints k' xs =>
      simp only [okB, vlB, decB, Bool.and_eq_true] at h ⊢
      have hw : w = w' := by have := h.2.2.1; revert this; cases w <;> cases w' <;> simp [eqB]
      have := eqK_spec h.2.2.2; subst this
      exact ⟨(beq_spec h.1).symm, fun _ => ⟨(beq_spec h.2.1).symm, hw, rfl, fun x _ l h1 h2 => ⟨h1, h2⟩, fun o => o⟩, fun _ => .inr ⟨rfl, rfl⟩⟩
    | list cs =>
      cases cs with
      | nil =>
        simp only [okB, vlB, decB, Bool.and_eq_true] at h ⊢
        have hw : w = w' := by have := h.2.2; revert this; cases w <;> cases w' <;> simp [eqB]
        exact ⟨(beq_spec h.1).symm, fun _ => ⟨(beq_spec h.2.1).symm, hw, rfl, fun x _ l h1 h2 => ⟨h1, trivial⟩, fun o e he => by cases he⟩, fun _ => .inr ⟨rfl, rfl⟩⟩
      | cons _ _ => cases h
    | recs _ _ _ => cases h
    | mix _ _ _ => cases h
    | bm _ _ => cases h
  | .recs g e w row sz, _, hf, ⟨g', e', d, w'⟩, h => by
    cases d with
    | recs n sz' gg =>
      simp only [okB, vlB, decB, Bool.and_eq_true] at h ⊢
      have hw : w = w' := by have := h.2.2.1; revert this; cases w <;> cases w' <;> simp [eqB]
      have := beq_spec h.2.2.2.1; subst this
      have hj : ∀ j, j < n → Imps (gg j) (enc row (vld row (gg j)) []) ∧ (gg j).length = sz' := fun j hj => by
        have := allR_spec h.2.2.2.2 hj
        rw [dec_nat] at this
        simp only [Bool.and_eq_true] at this
        exact ⟨dec_imp row hf (gg j) [] this.1 (by rw [isNil_spec this.2.1]; trivial), beq_spec this.2.2⟩
      have hI : Imps (fitted sz' gg n) (fitted sz' (fun j => enc row ((rowsOf n fun j => vld row (gg j)).getD j (dflt row)) []) n)   := imps_fitted fun j h => by rw [rowsOf_get h]; exact (hj j h).1
      refine ⟨(beq_spec h.1).symm, fun _ => ⟨(beq_spec h.2.1).symm, hw, ?_, fun x _ l h1 h2 => ?_, fun o => ?_⟩, fun _ => .inr ⟨rfl, rfl⟩⟩
      · simp only [encB, Blk.cs, D.toV]; rw [rowsOf_len]; exact hI.len.symm
      · simp only [encB, Blk.cs, D.toV, good] at h1 h2 ⊢; rw [rowsOf_len]
        exact ⟨hI.vrs h1, fun j h => by rw [rowsOf_get h]; rw [← (hj j h).1.len]; exact (hj j h).2, hI.vrs h2.2⟩
      · exact oks_rows (fun j h => (hj j h).1) o
    | list cs =>
      cases cs with
      | nil =>
        simp only [okB, vlB, decB, Bool.and_eq_true] at h ⊢
        have hw : w = w' := by have := h.2.2; revert this; cases w <;> cases w' <;> simp [eqB]
        exact ⟨(beq_spec h.1).symm, fun _ => ⟨(beq_spec h.2.1).symm, hw, rfl, fun x _ l h1 h2 => ⟨h1, ⟨fun j hj => absurd hj (Nat.not_lt_zero j), h1⟩⟩, fun o j => by show oks (enc row (List.getD [] j (dflt row)) []); rw [List.getD_nil]; exact dflt_oks row [] trivial⟩, fun _ => .inr ⟨rfl, rfl⟩⟩
      | cons _ _ => cases h
    | ints _ _ => cases h
    | mix _ _ _ => cases h
    | bm _ _ => cases h
theorem decB_mix (g : Nat) (e : TypeId) (w : Bool) (pre : Fm) (k : IntKind) (hf : pre.fine = true) (c : Blk) (h : okB (.mix g e w pre k) c = true) : BI c (encB (.mix g e w pre k) (vlB (.mix g e w pre k) c)) ∧ (c.d.ok → (encB (.mix g e w pre k) (vlB (.mix g e w pre k) c)).d.ok) := by
  obtain ⟨g', e', d, w'⟩ := c
  cases d with
  | mix p k' xs =>
    simp only [okB, vlB, decB] at h ⊢
    rw [dec_nat] at h
    rw [dec_nat]
    simp only [Bool.and_eq_true] at h
    have hi := dec_imp pre hf p [] h.2.2.2.2.1 (by rw [isNil_spec h.2.2.2.2.2]; trivial)
    have hw : w = w' := by have := h.2.2.1; revert this; cases w <;> cases w' <;> simp [eqB]
    have := eqK_spec h.2.2.2.1; subst this
    refine ⟨⟨(beq_spec h.1).symm, fun _ => ⟨(beq_spec h.2.1).symm, hw, ?_, fun x _ l h1 _ => ⟨?_, trivial⟩, fun o => ⟨hi.oks o.1, o.2⟩⟩, fun _ => .inr ⟨rfl, rfl⟩⟩, fun o => ⟨hi.oks o.1, o.2⟩⟩
    · simp only [encB, Blk.cs, D.toV, List.length_append, hi.len]
    · simp only [encB, Blk.cs, D.toV] at h1 ⊢
      exact (hi.append (.refl _)).vrs h1
  | _ => cases h
theorem decB_ok (b : BF) (hf : b.fine = true) (c : Blk) (h : okB b c = true) : BI c (encB b (vlB b c)) := by
  cases b with
  | mix g e w pre k => exact (decB_mix g e w pre k hf c h).1
  | _ => exact decB_ok0 _ (by intros; simp) hf c h
theorem decH_ok : ∀ (l : List BF), (l.all BF.fine) = true → ∀ (h : Heap), okH l h = true → HI h (encH l (vlH l h))
  | [], _, [], _ => trivial
  | [], _, _ :: _, h => by cases h
  | _ :: _, _, [], h => by cases h
  | b :: l, hf, c :: h, k => by
    simp only [List.all_cons, Bool.and_eq_true] at hf
    simp only [okH, vlH, decH] at k ⊢
    rw [decB_nat] at k ⊢
    rw [decH_nat] at k ⊢
    simp only [Bool.and_eq_true] at k
    exact ⟨decB_ok b hf.1 c k.1, decH_ok l hf.2 h k.2⟩
def Cx.re (x : Cx) (h : Heap) : Cx := { x with h := h }
section
variable {Y : Cx → Prop} {x : Cx} {h : Heap} (k : HIY Y x.h h)
include k
theorem re_lv {j : Nat} {c : Blk} (hj : (x.re h).h[j]? = some c) : ∃ b, x.h[j]? = some b ∧ BIY Y b c ∧ ((x.re h).lv j c ↔ x.lv j b) := by
  obtain ⟨b, h1, h2⟩ := (k.get j).2 c hj
  exact ⟨b, h1, h2, by unfold Cx.lv; rw [h2.gen]; exact Iff.rfl⟩
theorem re_own (n : Nat) : (x.re h).own n ↔ x.own n := by
  constructor
  · rintro ⟨j, c, h1, h2, h3, h4⟩
    obtain ⟨b, q1, q2, q3⟩ := re_lv k h1
    have hl := q3.1 h2
    exact ⟨j, b, q1, hl, by rw [← (q2.rest hl.1).2.1]; exact h3, h4⟩
  · rintro ⟨j, b, h1, h2, h3, h4⟩
    obtain ⟨c, q1, q2⟩ := (k.get j).1 b h1
    exact ⟨j, c, q1, ⟨by rw [q2.gen]; exact h2.1, h2.2⟩, by rw [(q2.rest h2.1).2.1]; exact h3, h4⟩
theorem re_mono : Mono x (x.re h) := by
  refine ⟨rfl, fun id b hb => ?_, fun n _ ha => ⟨ha, rfl⟩, Nat.le_refl _⟩
  obtain ⟨c, h1, h2⟩ := (k.get id).1 b hb
  exact ⟨c, h1, by rw [h2.gen]; exact Nat.le_refl _, fun _ l => ⟨l.2, rfl, rfl, by rw [(h2.rest l.1).2.2.1]; exact Nat.le_refl _⟩⟩
theorem re_ext : Ext x (x.re h) := ⟨re_mono k, fun n _ ho => ⟨fun q => ho ((re_own k n).1 q), rfl⟩, fun n _ ha _ => ha⟩
theorem re_hr (hY : Y (x.re h)) (hx : HR x) : HR (x.re h) := by
  refine ⟨fun j c hj hl hm => ?_, fun j c k1 es hj hl hdm => ?_, fun i j b b' hi hl hj hl' hρ => ?_, fun n hn => hx.ownav n ((re_own k n).1 hn), hx.avlt, fun j c hj hl => ?_⟩
  · obtain ⟨b, q1, q2, q3⟩ := re_lv k hj
    have hb := q3.1 hl
    obtain ⟨e1, e2, e3, e4, e5⟩ := q2.rest hb.1
    obtain ⟨cs, lo, hi, h1, h2, h3, h4, h5⟩ := hx.blk j b q1 hb (by
      rcases q2.mp hb.1 with p | p
      · rw [← p]; exact hm
      · exact p.2)
    have := e4 (x.re h) hY (cs.toList.take b.cs.length) (h3.mono (re_mono k)) (h5.mono (re_mono k))
    exact ⟨cs, lo, hi, by rw [e1]; exact h1, h2, by rw [e3]; exact this.1, h4, by rw [e3]; exact this.2⟩
  · obtain ⟨b, q1, q2, q3⟩ := re_lv k hj
    have hb := q3.1 hl
    rcases q2.mp hb.1 with p | p
    · exact hx.mps j b k1 es q1 hb (p.symm.trans hdm)
    · rw [hdm] at p; cases p.1
  · obtain ⟨b, q1, q2, q3⟩ := re_lv k hi
    obtain ⟨b', r1, r2, r3⟩ := re_lv k hj
    exact hx.inj i j _ _ q1 (q3.1 hl) r1 (r3.1 hl') hρ
  · obtain ⟨b, q1, q2, q3⟩ := re_lv k hj
    have hb := q3.1 hl
    rw [(q2.rest hb.1).2.1]
    exact hx.safe j b q1 hb
end
theorem HIY.hok {Y : Cx → Prop} : ∀ {h h' : Heap}, HIY Y h h' → (∀ c ∈ h', c.gen = 0 → c.d.ok) → hok h → hok h'
  | [], [], _, _, _ => fun b hb => by cases hb
  | b :: h, c :: h', k, hd, ho => fun d hd' => by
    rcases List.mem_cons.1 hd' with e | e
    · subst e
      rcases Nat.eq_zero_or_pos b.gen with h0 | h0
      · exact hd d (by simp) (by rw [k.1.gen]; exact h0)
      · exact (k.1.rest h0).2.2.2.2 (ho b (by simp))
    · exact k.2.hok (fun c hc => hd c (by simp [hc])) (fun b hb => ho b (by simp [hb])) d e
theorem encB_ok0 : ∀ (b : BF), b.fine = true → ∀ (c : Blk), okB b c = true → c.d.ok → (encB b (vlB b c)).d.ok
  | .dead, _, _, _, _ => trivial
  | .mix g e w pre k, hf, c, h, ho => (decB_mix g e w pre k hf c h).2 ho
  | .list g e w l, hf, c, h, ho => by
    obtain ⟨g', e', d, w'⟩ := c
    cases d with
    | list cs =>
      simp only [okB, vlB, decB] at h ⊢
      rw [dec_nat] at h
      simp only [Bool.and_eq_true] at h
      exact (dec_imp l hf cs [] h.2.2.2.1 (by rw [isNil_spec h.2.2.2.2]; trivial)).oks ho
    | _ => cases h
  | .ints g e w k, _, ⟨g', e', d, w'⟩, h, ho => by
    cases d with
    | ints k' xs =>
      simp only [okB, vlB, decB, Bool.and_eq_true] at h ⊢
      have := eqK_spec h.2.2.2; subst this
      exact ho
    | list cs =>
      cases cs with
      | nil => exact fun e he => by cases he
      | cons _ _ => cases h
    | recs _ _ _ => cases h
    | mix _ _ _ => cases h
    | bm _ _ => cases h
  | .recs g e w row sz, hf, ⟨g', e', d, w'⟩, h, ho => by
    cases d with
    | recs n sz' gg =>
      simp only [okB, vlB, decB, Bool.and_eq_true] at h ⊢
      exact oks_rows (fun j hj => by
        have := allR_spec h.2.2.2.2 hj
        rw [dec_nat] at this
        simp only [Bool.and_eq_true] at this
        exact dec_imp row hf (gg j) [] this.1 (by rw [isNil_spec this.2.1]; trivial)) ho
    | list cs =>
      cases cs with
      | nil => intro j; simp only [vlB, decB]; rw [List.getD_nil]; exact dflt_oks row [] trivial
      | cons _ _ => cases h
    | ints _ _ => cases h
    | mix _ _ _ => cases h
    | bm _ _ => cases h
theorem encH_ok : ∀ (l : List BF), (l.all BF.fine) = true → ∀ (h : Heap), okH l h = true → hok h → hok (encH l (vlH l h))
  | [], _, [], _, _ => fun b hb => by cases hb
  | [], _, _ :: _, h, _ => by cases h
  | _ :: _, _, [], h, _ => by cases h
  | b :: l, hf, c :: h, k, ho => by
    simp only [List.all_cons, Bool.and_eq_true] at hf
    simp only [okH, vlH, decH] at k ⊢
    rw [decB_nat] at k ⊢
    rw [decH_nat] at k ⊢
    simp only [Bool.and_eq_true] at k
    intro d hd
    rcases List.mem_cons.1 hd with e | e
    · subst e; exact encB_ok0 b hf.1 c k.1 (ho c (by simp))
    · exact encH_ok l hf.2 h k.2 (fun c hc => ho c (by simp [hc])) d e
end Go.Proofs.YtkmkhcmfpbffjaaGreat.VI

namespace Go.Proofs.YtkmkhcmfpbffjaaGreat.VI
set_option linter.unusedVariables false
set_option linter.unusedSimpArgs false
theorem re_to {x : Cx} (hx : HR x) {h : Heap} (k : HI x.h h) : To x (x.re h) := ⟨re_ext k, re_hr k trivial hx, Beside.refl _⟩
theorem CallOk.re {P : Program} {f : FuncId} {args args' : List V} {hc hc' : Heap} {Q : V → Heap → Prop} (h : CallOk P f args' hc' Q) (ha : Imps args args') (hh : HI hc hc') (ho : hok hc → hok hc') : CallOk P f args hc Q := by
  refine ⟨h.1, fun x us h1 h2 h3 h4 h5 h6 => ?_⟩
  subst h2
  have hm := re_mono hh
  refine (h.2 (x.re hc') us h1 rfl (re_hr hh trivial h3) (ha.vrs (h4.mono hm)) (ha.oks h5) (ho h6)).mono ?_
  rintro e w' ⟨r, h', u, y, q1, q2, q3, q4, q5, q6, q7⟩
  exact ⟨r, h', u, y, q1, q2, q3, q4, q5, (re_to h3 hh).trans q6, q7⟩
def outV (fr : Fm) (z : T fr) : V := (enc fr z []).headD .u
def sp (fa : Fm) (ha : List BF) (fr : Fm) (hr : List BF) {α : Type} (F : T fa → TH ha → Option α) (out : α → T fr × TH hr) (l : List V) (hc : Heap) : Tr :=
  match dec fa l fun b x r => (b, x, r) with
  | (b, x, r) => match decH ha hc fun b' y => (b', y) with
    | (b', y) => .br (b && (isNil r && b')) (.bnd (F x y) fun a => .ret (outV fr (out a).1) (encH hr (out a).2)) .no
def decR {α : Type} (fr : Fm) (hr : List BF) (inn : T fr → TH hr → α) (r : V) (h : Heap) : Option α := dec fr [r] fun b z rest => decH hr h fun b' w => gud (b && (isNil rest && b')) (some (inn z w))
theorem CallOk.out {P : Program} {f : FuncId} {args : List V} {hc : Heap} {fr : Fm} {hr : List BF} (hf : fr.fine = true) (hfh : hr.all BF.fine = true) {α : Type} {inn : T fr → TH hr → α} {out : α → T fr × TH hr} (hio : ∀ z w, out (inn z w) = (z, w)) {a : α}
    (h : CallOk P f args hc fun r h => decR fr hr inn r h = some a) : CallOk P f args hc fun q k => q = outV fr (out a).1 ∧ k = encH hr (out a).2 := by
  refine ⟨h.1, fun x us h1 h2 h3 h4 h5 h6 => (h.2 x us h1 h2 h3 h4 h5 h6).mono ?_⟩
  rintro e w' ⟨r, h', u, y, q1, q2, q3, q4, q5, q6, q7, q8, q9⟩
  unfold decR at q1
  rw [dec_nat, decH_nat] at q1
  cases hb : (okd fr [r] && (isNil (rmd fr [r]) && okH hr h')) with
  | false => rw [hb] at q1; cases q1
  | true =>
    rw [hb] at q1
    have q1 : some (inn (vld fr [r]) (vlH hr h')) = some a := q1
    injection q1 with q1
    subst q1
    rw [hio]
    simp only [Bool.and_eq_true] at hb
    have hi := dec_imp fr hf [r] [] hb.1 (by rw [isNil_spec hb.2.1]; trivial)
    have hh := decH_ok hr hfh h' hb.2.2
    have ho := encH_ok hr hfh h' hb.2.2 q3
    subst q8
    cases he : enc fr (vld fr [r]) [] with
    | nil => rw [he] at hi; exact hi.elim
    | cons c cs =>
      rw [he] at hi
      have hc : outV fr (vld fr [r]) = c := by unfold outV; rw [he]; rfl
      exact ⟨_, _, u, y.re (encH hr (vlH hr y.h)), ⟨rfl, rfl⟩, by simp only [hc]; exact hi.1.2 q2, ho, q4, q5, q6.trans (re_to q6.hr hh), q7, rfl, by simp only [hc]; exact hi.1.1 _ _ (q9.mono (re_mono hh))⟩
theorem encH_len : ∀ (l : List BF) (y : TH l), (encH l y).length = l.length
  | [], _ => rfl
  | _ :: l, y => by simp [encH, encH_len l y.2]
theorem fnT {P : Program} {C : Orc} (hC : OrcOk P C) (hm : P.follows .mixedOrders = true) {L : Lps} {f : FuncId} {fn : Func} (hf : P.funcs[f]? = some fn) (hb : fn.body.isSome = true) (hn : (fn.name == "runtime.NumGoroutine") = false) {kp : Bool}
    {fa : Fm} {ha : List BF} {fr : Fm} {hr : List BF} (hfine : (fa.fine && (ha.all BF.fine && (fr.fine && hr.all BF.fine))) = true) {md : List Bool} {nf : Nat} {α : Type} {F : T fa → TH ha → Option α} {inn : T fr → TH hr → α} {out : α → T fr × TH hr} (hio : ∀ z w, out (inn z w) = (z, w))
    (hL : LoopsOk P L ha.length 0 (fn.body.getD .skip))
    (h : ∀ x y, runk P C L kp fn (fn.body.getD .skip) (enc fa x []) (encH ha y) (decR fr hr inn) = F x y) : OrcOk P (ent f md nf (sp fa ha fr hr F out)) := by
  cases hbd : fn.body with
  | none => rw [hbd] at hb; cases hb
  | some c =>
    rw [hbd] at h hL
    refine ent_ok (fun l hc r h' hv ho hh => ?_) (enters hf hn (by rw [hbd]; rfl))
    unfold sp at hv
    rw [dec_nat, decH_nat] at hv
    simp only at hv
    obtain ⟨hc1, hv⟩ := Tr.br_val hv
    simp only [Bool.and_eq_true] at hc1 hfine
    cases hF : F (vld fa l) (vlH ha hc) with
    | none => simp [Tr.val, Tr.run, hF] at hv
    | some a =>
      simp [Tr.val, Tr.run, hF] at hv
      obtain ⟨rfl, rfl⟩ := hv
      have hi := dec_imp fa hfine.1 l [] hc1.1 (by rw [isNil_spec hc1.2.1]; trivial)
      have hhi := decH_ok ha hfine.2.1 hc hc1.2.2
      have hho := encH_ok ha hfine.2.1 hc hc1.2.2
      have key := run_ok hC hm hf hbd hn (kp := kp) (L := L) (args := enc fa (vld fa l) []) (hc := encH ha (vlH ha hc)) (by rw [encH_len]; exact hL) (k := decR fr hr inn) (res := a) ((h _ _).trans hF)
      exact (CallOk.out hfine.2.2.1 hfine.2.2.2 hio key).re hi hhi hho
def decS (ff : Fm) (hf : List BF) {R : Type} (s : St) (K : Bool → T ff → TH hf → R) : R := dec ff s.t fun b x r => decH hf s.h fun b' y => K (b && (isNil r && b')) x y
def encS (ff : Fm) (hf : List BF) (p : T ff × TH hf) : St := ⟨enc ff p.1 [], encH hf p.2⟩
theorem sr_dec {x0 x : Cx} {s : St} {a : Act} (hs : SR x0 x s a) {ff : Fm} {hf : List BF} (h1 : ff.fine = true) (h2 : hf.all BF.fine = true) (hb : (decS ff hf s fun b _ _ => b) = true) : ∃ z : Cx, z.w = x.w ∧ SR x0 z (encS ff hf (decS ff hf s fun _ x y => (x, y))) a := by
  unfold decS at hb ⊢
  rw [dec_nat, decH_nat] at hb ⊢
  simp only [Bool.and_eq_true] at hb ⊢
  have hi := dec_imp ff h1 s.t [] hb.1 (by rw [isNil_spec hb.2.1]; trivial)
  have hh := decH_ok hf h2 s.h hb.2.2
  have ho := encH_ok hf h2 s.h hb.2.2 hs.oh
  have hxh := hs.h
  have hh' : HI x.h (encH hf (vlH hf s.h)) := by rw [hxh]; exact hh
  exact ⟨x.re (encH hf (vlH hf s.h)), rfl, re_hr hh' trivial hs.hr, rfl, hi.vrs (hs.t.mono (re_mono hh')), hs.P, hs.to.trans (re_to hs.hr hh'), hs.d, hi.oks hs.ot, ho⟩
def eqEx : Ex → Ex → Bool
  | .normal, .normal => true
  | .ret, .ret => true
  | .exit a, .exit b => Nat.beq a b
  | _, _ => false
theorem eqEx_spec {a b : Ex} (h : eqEx a b = true) : a = b := by
  cases a <;> cases b <;> simp_all [eqEx]
inductive Xs where
  | one (e : Ex) (ks : List Nat) (ff : Fm) (hf : List BF)
  | alt (e : Ex) (ks : List Nat) (ff : Fm) (hf : List BF) (r : Xs)
@[reducible] def TX : Xs → Type
  | .one _ _ ff hf => T ff × TH hf
  | .alt _ _ ff hf r => (T ff × TH hf) ⊕ TX r
def decX (bs : List Nat) (m0 : Nat) : (X : Xs) → {R : Type} → Ex → St → (TX X → Option R) → Option R
  | .one e ks ff hf, _, e', s, K => match eqEx e' e with
    | true => decS ff hf (cleanB bs ks m0 s) fun b x y => gud b (K (x, y))
    | false => none
  | .alt e ks ff hf r, _, e', s, K => match eqEx e' e with
    | true => decS ff hf (cleanB bs ks m0 s) fun b x y => gud b (K (.inl (x, y)))
    | false => decX bs m0 r e' s fun z => K (.inr z)
def encX : (X : Xs) → TX X → Ex × St
  | .one e _ ff hf, z => (e, encS ff hf z)
  | .alt e _ ff hf r, z => match z with
    | .inl z => (e, encS ff hf z)
    | .inr z => encX r z
def ltrX : (X : Xs) → TX X → LTr
  | .one e _ ff hf, z => .ret e (encS ff hf z)
  | .alt e _ ff hf r, z => .sum z (fun z => .ret e (encS ff hf z)) fun z => ltrX r z
def Xs.fine : Xs → Bool
  | .one e _ ff hf => ff.fine && (hf.all BF.fine && !eqEx e .normal)
  | .alt e _ ff hf r => (ff.fine && (hf.all BF.fine && !eqEx e .normal)) && r.fine
theorem ltrX_val : ∀ (X : Xs) (z : TX X), (ltrX X z).val = some (encX X z)
  | .one e _ ff hf, z => rfl
  | .alt e _ ff hf r, .inl z => rfl
  | .alt e _ ff hf r, .inr z => ltrX_val r z
theorem decS_nat (ff : Fm) (hf : List BF) {R : Type} (s : St) (K : Bool → T ff → TH hf → R) : decS ff hf s K = K (decS ff hf s fun b _ _ => b) (decS ff hf s fun _ x y => (x, y)).1 (decS ff hf s fun _ x y => (x, y)).2 := by
  unfold decS
  rw [dec_nat, decH_nat, dec_nat (R := Bool), decH_nat (R := Bool), dec_nat (R := T ff × TH hf), decH_nat (R := T ff × TH hf)]
theorem decX_ok {bs : List Nat} {x0 x : Cx} {m0 : Nat} (hg1 : gens1 x0.h = true) (hm0 : x0.h.length = m0) {e : Ex} {s : St} {a : Act} (hs : SR x0 x s a) {R : Type} {res : R} : ∀ (X : Xs), X.fine = true → ∀ (K : TX X → Option R), decX bs m0 X e s K = some res → ∃ (z : TX X) (y : Cx), K z = some res ∧ y.w = x.w ∧ (encX X z).1 = e ∧ SR x0 y (encX X z).2 a
  | .one e' ks ff hf, hf1, K, h => by
    simp only [Xs.fine, Bool.and_eq_true] at hf1
    simp only [decX] at h
    split at h
    case h_2 => cases h
    rename_i he
    obtain ⟨y, y1, y2⟩ := cleanB_ok bs hg1 hm0 ks hs
    rw [decS_nat] at h
    cases hb : (decS ff hf (cleanB bs ks m0 s) fun b _ _ => b) with
    | false => rw [hb] at h; cases h
    | true =>
      rw [hb] at h
      obtain ⟨z, z1, z2⟩ := sr_dec y2 hf1.1 hf1.2.1 hb
      exact ⟨_, z, h, z1.trans y1, (eqEx_spec he).symm, z2⟩
  | .alt e' ks ff hf r, hf1, K, h => by
    simp only [Xs.fine, Bool.and_eq_true] at hf1
    simp only [decX] at h
    split at h
    · rename_i he
      obtain ⟨y, y1, y2⟩ := cleanB_ok bs hg1 hm0 ks hs
      rw [decS_nat] at h
      cases hb : (decS ff hf (cleanB bs ks m0 s) fun b _ _ => b) with
      | false => rw [hb] at h; cases h
      | true =>
        rw [hb] at h
        obtain ⟨z, z1, z2⟩ := sr_dec y2 hf1.1.1 hf1.1.2.1 hb
        exact ⟨.inl _, z, h, z1.trans y1, (eqEx_spec he).symm, z2⟩
    · obtain ⟨z, y, h1, h2, h3, h4⟩ := decX_ok hg1 hm0 hs r hf1.2 _ h
      exact ⟨.inr z, y, h1, h2, h3, h4⟩
def rndT (P : Program) (C : Orc) (L : Lps) (d m0 : Nat) (bs ks : List Nat) (a : Code) (ff : Fm) (hf : List BF) (X : Xs) {σ ε : Type} (inS : T ff → TH hf → σ) (outS : σ → T ff × TH hf) (inX : TX X → ε) {R : Type} (v : σ) (kn : σ → Option R) (ko : ε → Option R) : Option R :=
  codek P C L d a (encS ff hf (outS v)) fun e s' => match e with
    | .normal => decS ff hf (cleanB bs ks m0 s') fun b x y => gud b (kn (inS x y))
    | .exit i => decX bs m0 X (.exit i) s' fun z => ko (inX z)
    | .ret => decX bs m0 X .ret s' fun z => ko (inX z)
abbrev StepT (σ ε : Type) := ∀ (R : Type), σ → (σ → Option R) → (ε → Option R) → Option R
def Goes {σ ε : Type} (st : StepT σ ε) (v : σ) (b : ε) : Prop := ∃ n, ∀ (R : Type) (ko : ε → Option R), iterk (st R) n v ko = ko b
def GoesN {σ ε : Type} (st : StepT σ ε) (n : Nat) (v : σ) (b : ε) : Prop := ∀ (R : Type) (ko : ε → Option R), iterk (st R) n v ko = ko b
def First {σ ε : Type} (st : StepT σ ε) (v : σ) (p : Nat × ε) : Prop := GoesN st p.1 v p.2 ∧ ∀ m, m < p.1 → ∀ b, ¬ GoesN st m v b
open Classical in
noncomputable def lim {σ ε : Type} (st : StepT σ ε) (v : σ) : Option ε := if h : ∃ p, First st v p then some (Classical.choose h).2 else none
theorem GoesN.uniq {σ ε : Type} {st : StepT σ ε} {n : Nat} {v : σ} {b c : ε} (h : GoesN st n v b) (k : GoesN st n v c) : b = c := by
  have := (h ε some).symm.trans (k ε some)
  exact Option.some.inj this
theorem first_of {σ ε : Type} {st : StepT σ ε} {v : σ} : ∀ (n : Nat) (b : ε), GoesN st n v b → ∃ p, First st v p := by
  intro n
  induction n using Nat.strongRecOn with
  | _ n ih =>
    intro b h
    by_cases hm : ∃ m, m < n ∧ ∃ c, GoesN st m v c
    · obtain ⟨m, h1, c, h2⟩ := hm
      exact ih m h1 c h2
    · exact ⟨(n, b), h, fun m hmn c hc => hm ⟨m, hmn, c, hc⟩⟩
theorem First.uniq {σ ε : Type} {st : StepT σ ε} {v : σ} {p q : Nat × ε} (h : First st v p) (k : First st v q) : p = q := by
  have e : p.1 = q.1 := by
    rcases Nat.lt_trichotomy p.1 q.1 with l | l | l
    · exact absurd h.1 (k.2 _ l _)
    · exact l
    · exact absurd k.1 (h.2 _ l _)
  obtain ⟨n, b⟩ := p
  obtain ⟨m, c⟩ := q
  simp only at e; subst e
  have := GoesN.uniq h.1 k.1
  simp only at this; subst this; rfl
theorem lim_first {σ ε : Type} {st : StepT σ ε} {v : σ} {p : Nat × ε} (h : First st v p) : lim st v = some p.2 := by
  have hx : ∃ p, First st v p := ⟨p, h⟩
  unfold lim
  rw [dif_pos hx, (Classical.choose_spec hx).uniq h]
theorem lim_spec {σ ε : Type} {st : StepT σ ε} {v : σ} {b : ε} (h : lim st v = some b) : Goes st v b := by
  unfold lim at h
  split at h
  · rename_i hb
    injection h with h
    have := (Classical.choose_spec hb).1
    rw [h] at this
    exact ⟨_, this⟩
  · cases h
theorem lim_none {σ ε : Type} {st : StepT σ ε} {v : σ} (h : ¬ ∃ p, First st v p) : lim st v = none := by
  unfold lim; rw [dif_neg h]
theorem lim_done {σ ε : Type} {st : StepT σ ε} {v : σ} {b : ε} (h : ∀ R kn ko, st R v kn ko = ko b) : lim st v = some b := by
  refine lim_first (p := (1, b)) ⟨fun R ko => by simp only [iterk]; exact h R _ _, fun m hm c hc => ?_⟩
  have : m = 0 := by simp only at hm; omega
  subst this
  have := hc ε some
  simp [iterk] at this
theorem goes_succ {σ ε : Type} {st : StepT σ ε} {v v' : σ} (h : ∀ R kn ko, st R v kn ko = kn v') (n : Nat) (b : ε) : GoesN st (n + 1) v b ↔ GoesN st n v' b := by
  unfold GoesN
  simp only [iterk, h]
theorem lim_step {σ ε : Type} {st : StepT σ ε} {v v' : σ} (h : ∀ R kn ko, st R v kn ko = kn v') : lim st v = lim st v' := by
  by_cases hp : ∃ p, First st v' p
  · obtain ⟨p, h1, h2⟩ := hp
    rw [lim_first ⟨h1, h2⟩]
    refine lim_first (p := (p.1 + 1, p.2)) ⟨(goes_succ h _ _).2 h1, fun m hm c hc => ?_⟩
    cases m with
    | zero => have := hc ε some; simp [iterk] at this
    | succ m => exact h2 m (by simp only at hm; omega) c ((goes_succ h _ _).1 hc)
  · rw [lim_none hp]
    refine lim_none fun ⟨p, h1, h2⟩ => hp ?_
    obtain ⟨n, b⟩ := p
    cases n with
    | zero => have := h1 ε some; simp [iterk] at this
    | succ n => exact first_of n b ((goes_succ h _ _).1 h1)
theorem lim_seq {σ ε : Type} {st : StepT σ ε} (s : Nat → σ) {b : ε} : ∀ (n : Nat), (∀ i, i < n → ∀ R kn ko, st R (s i) kn ko = kn (s (i + 1))) → (∀ R kn ko, st R (s n) kn ko = ko b) → lim st (s 0) = some b := by
  intro n h hb
  have key : ∀ k, k ≤ n → lim st (s 0) = lim st (s k) := by
    intro k
    induction k with
    | zero => intro _; rfl
    | succ k ih => intro hk; exact (ih (by omega)).trans (lim_step (h k (by omega)))
  exact (key n (Nat.le_refl n)).trans (lim_done hb)
theorem lim_post {σ ε : Type} {st : StepT σ ε} (Inv : σ → Prop) (μ : σ → Nat) (Q : ε → Prop)
    (h : ∀ v, Inv v → (∃ v', (∀ R kn ko, st R v kn ko = kn v') ∧ Inv v' ∧ μ v' < μ v) ∨ ∃ b, (∀ R kn ko, st R v kn ko = ko b) ∧ Q b) (v : σ) (hv : Inv v) : ∃ b, lim st v = some b ∧ Q b := by
  have key : ∀ (m : Nat) (v : σ), μ v < m → Inv v → ∃ b, lim st v = some b ∧ Q b := by
    intro m
    induction m with
    | zero => intro v h0; omega
    | succ m ih =>
      intro v hm hv
      rcases h v hv with ⟨v', h1, h2, h3⟩ | ⟨b, h1, h2⟩
      · rw [lim_step h1]; exact ih v' (by omega) h2
      · exact ⟨b, lim_done h1, h2⟩
  exact key _ v (Nat.lt_succ_self _) hv
noncomputable def lsum (ff : Fm) (hf : List BF) (X : Xs) {σ ε : Type} (inS : T ff → TH hf → σ) (outX : ε → TX X) (st : StepT σ ε) (pre : St → St) (s : St) : LTr :=
  match decS ff hf (pre s) fun b x y => (b, x, y) with
  | (b, x, y) => .br b (.bnd (lim st (inS x y)) fun e => ltrX X (outX e)) .no
theorem loopT {P : Program} {C : Orc} (hC : OrcOk P C) (hmx : P.follows .mixedOrders = true) {L : Lps} {d m0 : Nat} {bs ks : List Nat} {a : Code} (hL : LoopsOk P L m0 d a) {ff : Fm} {hf : List BF} {X : Xs} (hfine : (ff.fine && (hf.all BF.fine && X.fine)) = true)
    {σ ε : Type} {inS : T ff → TH hf → σ} {outS : σ → T ff × TH hf} (hS : ∀ x y, outS (inS x y) = (x, y)) {inX : TX X → ε} {outX : ε → TX X} (hX : ∀ z, outX (inX z) = z) {st : StepT σ ε}
    (hst : ∀ (v : σ) (R : Type) (kn : σ → Option R) (ko : ε → Option R), rndT P C L d m0 bs ks a ff hf X inS outS inX v kn ko = st R v kn ko) {pre : St → St} (hpre : ∀ s, Wk P m0 s (pre s)) : LoopOk P m0 a (lsum ff hf X inS outX st pre) := by
  intro x0 x s act e s' hP hg1 hm0 hs hv Q hQ
  subst hP
  simp only [Bool.and_eq_true] at hfine
  unfold lsum at hv
  rw [decS_nat] at hv
  cases hb : (decS ff hf (pre s) fun b _ _ => b) with
  | false => rw [hb] at hv; cases hv
  | true =>
    rw [hb] at hv
    cases hl : lim st (inS (decS ff hf (pre s) fun _ x y => (x, y)).1 (decS ff hf (pre s) fun _ x y => (x, y)).2) with
    | none => simp [LTr.val, LTr.run, hl] at hv
    | some b =>
      have hv : ((ltrX X (outX b))).val = some (e, s') := by simpa [LTr.val, LTr.run, hl] using hv
      rw [ltrX_val] at hv
      injection hv with hv
      obtain ⟨n, hn⟩ := lim_spec hl
      obtain ⟨z, z1, z2⟩ := hpre s x0 x act rfl hg1 hm0 hs
      obtain ⟨y, y1, y2⟩ := sr_dec z2 hfine.1 hfine.2.1 hb
      rw [← z1, ← y1]
      refine wp_loop_rounds n ?_
      have key : ∀ (n : Nat) (v : σ) (z : Cx) (act : Act), SR x0 z (encS ff hf (outS v)) act → iterk (st (Ex × St)) n v (fun b => some (encX X (outX b))) = some (e, s') → Code.rounds x0.P a Q n act z.w := by
        intro n
        induction n with
        | zero => intro v z act _ h; simp [iterk] at h
        | succ n ih =>
          intro v z act hz h
          simp only [iterk] at h
          rw [← hst] at h
          rw [rounds_succ]
          refine codek_ok hC hmx hg1 hm0 a d hL z _ act _ _ hz h ?_
          intro e2 y s2 a' hs' hk
          cases e2 with
          | normal =>
            obtain ⟨y', hy1, hy2⟩ := cleanB_ok bs hg1 hm0 ks hs'
            simp only at hk
            rw [decS_nat] at hk
            cases hb2 : (decS ff hf (cleanB bs ks m0 s2) fun b _ _ => b) with
            | false => rw [hb2] at hk; cases hk
            | true =>
              rw [hb2] at hk
              obtain ⟨y2, k1, k2⟩ := sr_dec hy2 hfine.1 hfine.2.1 hb2
              have := ih _ y2 a' (by rw [hS]; exact k2) hk
              rw [k1, hy1] at this
              exact this
          | exit id =>
            obtain ⟨z', y', k1, k2, k3, k4⟩ := decX_ok hg1 hm0 hs' X hfine.2.2 _ hk
            injection k1 with k1
            rw [hX] at k1
            have := hQ y' a' (by rw [k1] at k4; exact k4)
            rw [k1] at k3
            rw [k2, show e = .exit id from k3] at this
            exact this
          | ret =>
            obtain ⟨z', y', k1, k2, k3, k4⟩ := decX_ok hg1 hm0 hs' X hfine.2.2 _ hk
            injection k1 with k1
            rw [hX] at k1
            have := hQ y' a' (by rw [k1] at k4; exact k4)
            rw [k1] at k3
            rw [k2, show e = .ret from k3] at this
            exact this
      refine key n _ y act (by rw [hS]; exact y2) ?_
      exact (hn _ _).trans (by rw [hv])
theorem wk_clean {P : Program} {m0 : Nat} (bs ks : List Nat) (s : St) : Wk P m0 s (cleanB bs ks m0 s) := fun x0 x act _ hg hm hs => cleanB_ok bs hg hm ks hs
theorem Wk.trans {P : Program} {m0 : Nat} {s t u : St} (h : Wk P m0 s t) (k : Wk P m0 t u) : Wk P m0 s u := fun x0 x act hP hg hm hs => by
  obtain ⟨z, z1, z2⟩ := h x0 x act hP hg hm hs
  obtain ⟨y, y1, y2⟩ := k x0 z act hP hg hm z2
  exact ⟨y, y1.trans z1, y2⟩
end Go.Proofs.YtkmkhcmfpbffjaaGreat.VI

namespace Go.Proofs.YtkmkhcmfpbffjaaGreat.VI
set_option linter.unusedVariables false
set_option linter.unusedSimpArgs false
open Go.ChangeShapes Go.WideShapes Go.RowKit Go.WideElems
theorem trodAll_below {H : Type} {enc : TypeId × Value → H} {P : Program} (hl : laidOutB P = true) {W W' : World} (hb : Below W.heap.size W W') : ∀ {ts : List TypeId} {vs : List Value} {ds : List (DataW H)} {ps : List MemPlace},
    (ts.all fun t => P.readableRec t && decide (t < P.types.size)) = true → DataW.TrodAll enc P W 0 (fun _ => true) true ts vs ds ps → DataW.TrodAll enc P W' 0 (fun b => decide (b < W.heap.size)) true ts vs ds ps
  | [], [], [], _, _, h => h
  | [], _ :: _, _, _, _, h => h.elim
  | [], [], _ :: _, _, _, h => h.elim
  | _ :: _, [], _, _, _, h => h.elim
  | _ :: _, _ :: _, [], _, _, h => h.elim
  | t :: ts, v :: vs, d :: ds, ps, hr, h => by
    simp only [List.all_cons, Bool.and_eq_true, decide_eq_true_eq] at hr
    obtain ⟨p, q, h1, h2, e⟩ := h
    have hlt : ∀ x ∈ p, x.block < W.heap.size := fun x hx => by
      obtain ⟨n, hn⟩ := h1
      exact DataW.trod_lt n t _ _ hn x hx
    refine ⟨p, q, Trod_stays hl hr.1.1 hr.1.2 h1 (fun x hx => hb.same (hlt x hx)) (fun x hx => by simpa using hlt x hx), trodAll_below hl hb (by simpa using hr.2) h2, e⟩
theorem trodAll_len {H : Type} {enc : TypeId × Value → H} {P : Program} {W : World} {base : Nat} {spare : Nat → Bool} {held : Bool} : ∀ {ts : List TypeId} {vs : List Value} {ds : List (DataW H)} {ps : List MemPlace}, DataW.TrodAll enc P W base spare held ts vs ds ps → ds.length = ts.length
  | [], [], [], _, _ => rfl
  | [], _ :: _, _, _, h => h.elim
  | [], [], _ :: _, _, h => h.elim
  | _ :: _, [], _, _, h => h.elim
  | _ :: _, _ :: _, [], _, h => h.elim
  | t :: ts, v :: vs, d :: ds, ps, h => by
    obtain ⟨p, q, _, h2, _⟩ := h
    simp [trodAll_len h2]
theorem lift_true {H : Type} {enc : TypeId × Value → H} {C : Checked} {os : Os} {f : FuncId} {fn : Func} {s : ChangeSpec} {conds : List PathCond} (own : ownKnob C.prog.godebug = none) (started : os.Started) (hi : C.prog.inits.idxOf? f = none) (hf : C.prog.funcs[f]? = some fn)
    (hw : ∃ (w : World) (tape : Tape) (i : Input), w.os = os ∧ World.Shaped C.prog (w.forCall tape i) ∧ i.vars = [] ∧ Input.okWide C.prog (w.forCall tape i) .any w.heap.size f i ∧ ChangeSpec.pre6 enc C.prog fn s conds false (w.forCall tape i).memory i.args ∧ ({} : Assume).holds C.prog (lone (Frame.enter C.prog f i.args .normal) [] (w.forCall tape i)))
    (hl : laidOutB C.prog = true) {tb : TypeId} (hb : C.prog.underlying tb = some .bool) (hr : fn.resultTypes = #[tb]) (hp : (fn.params.toList.all fun t => C.prog.readableRec t && decide (t < C.prog.types.size)) = true) (hv : s.vars = [])
    (hs : ∀ ds : List (DataW H), ds.length = fn.params.toList.length → s.fn H ds = { results := [.lit (.bool true)], args := ds })
    (hcall : ∀ (W : World) (base : Nat) (args : Array Value) (ds : List (DataW H)) (p : List MemPlace), (∀ (j : Nat) t v, fn.params[j]? = some t → args[j]? = some v → Value.okWide C.prog W .any base t v) →
      DataW.TrodAll enc C.prog W 0 (fun _ => true) true fn.params.toList args.toList ds p → Calls C.prog f args W fun e W' => e = .returned (.bool true) ∧ Below W.heap.size W W') :
    ReturnsInHanded {} C os f .any (ChangeSpec.pre6 enc C.prog fn s conds false) (ChangeSpec.post enc C.prog fn s false true false false) := by
  refine returnsInHanded_of_change_sized own started hi hf hw ?_
  intro W base args ds gs before hval hW hcnd hsz _
  have hW' := hW
  obtain ⟨p, q, hA, hV, rfl, hfz, hnd⟩ := hW
  rw [hv] at hV
  have hg : gs = [] ∧ q = [] := by
    cases gs with
    | nil => exact ⟨rfl, hV⟩
    | cons _ _ => exact hV.elim
  obtain ⟨rfl, rfl⟩ := hg
  refine (hcall W base args ds p hval hA).mono fun e W' ⟨he, bel⟩ => ?_
  subst he
  have hf2 : s.fn H (ds ++ []) = { results := [.lit (.bool true)], args := ds } := by rw [List.append_nil]; exact hs ds (trodAll_len hA)
  refine ⟨_, rfl, ds, [], _, [], p, [], hW', ?_, ?_, ?_, bel.frame _, fun h => by cases h⟩
  · rw [hf2, hr]
    exact trodAll_mk1 (shut_bool hb _)
  · rw [hf2]
    exact trodAll_below hl bel hp hA
  · rw [hf2, hv]; rfl
end Go.Proofs.YtkmkhcmfpbffjaaGreat.VI

namespace Go.Proofs.YtkmkhcmfpbffjaaGreat.VI
set_option linter.unusedVariables false
set_option linter.unusedSimpArgs false
open Go.ChangeShapes Go.RowKit Go.Deep Go.WideElems Go.WideShapes
inductive Form where
  | b
  | i (k : IntKind)
  | st
  | ints (k : IntKind)
  | rows (e : Form) (sz : Nat)
  | unit
  | pair (f g : Form)
  | rep (n : Nat) (e : Form)
  | bad
def Form.fine : Form → Bool
  | .bad => false
  | .rows e _ => e.fine
  | .pair f g => f.fine && g.fine
  | .rep _ e => e.fine
  | _ => true
def Form.is1 : Form → Bool
  | .b => true
  | .i _ => true
  | .st => true
  | .ints _ => true
  | .rows _ _ => true
  | _ => false
def formF (P : Program) (f : TypeId → Form) (tot : Nat) : Nat → List Field → Form
  | off, [] => if off = tot then .unit else .bad
  | off, fd :: l => if fd.offset = off then .pair (f fd.type) (formF P f tot (off + P.cellsOf fd.type) l) else .bad
def form (P : Program) : Nat → TypeId → Form
  | 0, _ => .bad
  | d + 1, t => match P.underlying t with
    | some .bool => .b
    | some (.int k) => .i k
    | some .string => .st
    | some (.slice e) => match P.underlying e with
      | some (.int k) => if P.cellsOf e = 1 then .ints k else .bad
      | _ => if P.cellsOf e = 0 then .bad else .rows (form P d e) (P.cellsOf e)
    | some (.struct fs) => formF P (form P d) (P.cellsOf t) 0 fs.toList
    | some (.array n e) => if P.cellsOf t = n * P.cellsOf e then .rep n (form P d e) else .bad
    | _ => .bad
def shp : Form → List V → Prop
  | .b, c => ∃ x, c = [.b x]
  | .i k, c => ∃ n, inR k n ∧ c = [.i k n]
  | .st, c => ∃ xs, (V.st xs).ok ∧ c = [.st xs]
  | .ints k, c => ∃ xs, xs.length ≤ lenM ∧ (∀ e ∈ xs, inR k e) ∧ c = [.si xs.length k xs]
  | .rows e sz, c => ∃ n g, n ≤ lenM ∧ (∀ j, j < n → shp e (g j)) ∧ (∀ j, oks (g j)) ∧ c = [.sr n sz g]
  | .unit, c => c = []
  | .pair f g, c => ∃ c1 c2, shp f c1 ∧ shp g c2 ∧ c = c1 ++ c2
  | .rep n e, c => ∃ l : List (List V), l.length = n ∧ (∀ r ∈ l, shp e r) ∧ c = l.flatten
  | .bad, _ => False
theorem wf_in {k : IntKind} {n : Int} (h : (Lit.int k n).wf = true) : inR k n := by
  simpa [Lit.wf] using h
section
variable {H : Type} {enc : TypeId × Value → H} {P : Program} {W : World} {spare : Nat → Bool} {held : Bool}
def Got (P : Program) (W : World) (F : Form) (cs : List Value) : Prop := ∃ c, shp F c ∧ VRs (Cx.top P W) c cs ∧ oks c ∧ ∀ v ∈ cs, one v = true
theorem vrc_of {x : Cx} {bk : Nat} : ∀ {c : List V} {l : List Value} {off : Nat}, VRs x c l → (∀ i v, l[i]? = some v → x.w.cell? ⟨bk, off + i, none⟩ = some v) → (∀ v ∈ l, one v = true) → VRc x c bk off
  | [], _, _, _, _, _ => trivial
  | c :: cs, _, off, h, hc, h1 => by
    obtain ⟨v, vs, rfl, h2, h3⟩ := h
    refine ⟨⟨v, by have := hc 0 v rfl; rwa [Nat.add_zero] at this, h1 v (by simp), h2⟩, vrc_of h3 (fun i u hu => ?_) fun u hu => h1 u (by simp [hu])⟩
    have := hc (i + 1) u (by simpa using hu)
    rwa [show off + (i + 1) = off + 1 + i by omega] at this
theorem got_nil : Got P W .unit [] := ⟨[], rfl, rfl, trivial, fun v hv => by cases hv⟩
theorem Got.pair {F G : Form} {a b : List Value} (h : Got P W F a) (k : Got P W G b) : Got P W (.pair F G) (a ++ b) := by
  obtain ⟨c, h1, h2, h3, h4⟩ := h
  obtain ⟨d, k1, k2, k3, k4⟩ := k
  exact ⟨c ++ d, ⟨c, d, h1, k1, rfl⟩, h2.append k2, h3.app k3, fun v hv => (List.mem_append.1 hv).elim (h4 v) (k4 v)⟩
theorem got_fields {f : TypeId → Form} {tot : Nat} {cs : List Value} (hl : cs.length = tot) : ∀ (fs : List Field) (off : Nat), (formF P f tot off fs).fine = true → (∀ fd ∈ fs, (f fd.type).fine = true → Got P W (f fd.type) ((cs.drop fd.offset).take (P.cellsOf fd.type))) → Got P W (formF P f tot off fs) (cs.drop off)
  | [], off, h, _ => by
    simp only [formF] at h ⊢
    split at h
    · rename_i ho
      rw [if_pos ho, List.drop_of_length_le (by omega)]
      exact got_nil
    · cases h
  | fd :: l, off, h, hf => by
    simp only [formF] at h ⊢
    split at h
    · rename_i ho
      simp only [Form.fine, Bool.and_eq_true] at h
      rw [if_pos ho]
      have h1 := hf fd (by simp) h.1
      have h2 := got_fields hl l (off + P.cellsOf fd.type) h.2 fun g hg => hf g (by simp [hg])
      rw [ho] at h1
      have : cs.drop off = (cs.drop off).take (P.cellsOf fd.type) ++ cs.drop (off + P.cellsOf fd.type) := by
        rw [← List.drop_drop, List.take_append_drop]
      rw [this]
      exact h1.pair h2
    · cases h
theorem got_rep {e : Form} {s : Nat} {cs : List Value} : ∀ (n i : Nat), cs.length = (i + n) * s → (∀ j, j < i + n → Got P W e ((cs.drop (j * s)).take s)) → Got P W (.rep n e) (cs.drop (i * s))
  | 0, i, hl, _ => by
    rw [List.drop_of_length_le (by rw [hl]; simp)]
    exact ⟨[], ⟨[], rfl, fun r hr => absurd hr (by simp), rfl⟩, rfl, trivial, fun v hv => absurd hv (by simp)⟩
  | n + 1, i, hl, h => by
    obtain ⟨c, h1, h2, h3, h4⟩ := h i (by omega)
    obtain ⟨d, ⟨l, k0, k1, rfl⟩, k2, k3, k4⟩ := got_rep n (i + 1) (by rw [hl]; congr 1; omega) fun j hj => h j (by omega)
    have e1 : cs.drop (i * s) = (cs.drop (i * s)).take s ++ cs.drop ((i + 1) * s) := by
      rw [show (i + 1) * s = i * s + s by rw [Nat.add_mul, Nat.one_mul], ← List.drop_drop, List.take_append_drop]
    rw [e1]
    exact ⟨c ++ l.flatten, ⟨c :: l, by simp [k0], fun r hr => (List.mem_cons.1 hr).elim (fun e => e ▸ h1) (k1 r), rfl⟩, h2.append k2, h3.app k3, fun v hv => (List.mem_append.1 hv).elim (h4 v) (k4 v)⟩
theorem got_slice {e : Form} {s : Nat} (hs : 0 < s) {a : Addr} {len cap : Nat} (h1 : len ≤ cap) (h2 : cap ≤ maxLen) (h : ∀ i, i < len → ∃ cs', W.cells? 0 (a.add (i * s)) s = some cs' ∧ Got P W e cs') : Got P W (.rows e s) [.slice (some a) len cap] := by
  have hlen : len ≤ lenM := Nat.le_trans h1 h2
  by_cases h0 : len = 0
  · subst h0
    exact ⟨[.sr 0 s fun _ => []], ⟨0, fun _ => [], by decide, fun j hj => by omega, fun j => trivial, rfl⟩, ⟨_, _, rfl, ⟨_, cap, rfl, Nat.zero_le _, hs, .inl rfl⟩, rfl⟩, ⟨⟨by decide, fun j => trivial⟩, trivial⟩, fun v hv => by simp at hv; subst hv; rfl⟩
  · have key : ∀ i, ∃ c : List V, (i < len → shp e c ∧ c.length = s ∧ ∃ cs', W.cells? 0 (a.add (i * s)) s = some cs' ∧ VRs (Cx.top P W) c cs' ∧ ∀ v ∈ cs', one v = true) ∧ oks c := fun i => by
      by_cases hi : i < len
      · obtain ⟨cs', k1, c, k2, k3, k4, k5⟩ := h i hi
        exact ⟨c, fun _ => ⟨k2, by rw [← k3.length]; exact (World.cells?_some k1).2.1, cs', k1, k3, k5⟩, k4⟩
      · exact ⟨[], fun h => absurd h hi, trivial⟩
    let g : Nat → List V := fun i => Classical.choose (key i)
    have hg : ∀ i, (i < len → shp e (g i) ∧ (g i).length = s ∧ ∃ cs', W.cells? 0 (a.add (i * s)) s = some cs' ∧ VRs (Cx.top P W) (g i) cs' ∧ ∀ v ∈ cs', one v = true) ∧ oks (g i) := fun i => Classical.choose_spec (key i)
    obtain ⟨bk, off, spot⟩ := a
    have hspot : spot = none := by
      obtain ⟨_, _, cs', k1, _, _⟩ := (hg 0).1 (by omega)
      obtain ⟨_, k2, k3⟩ := World.cells?_some k1
      have := k3 0 hs
      rw [List.getElem?_eq_getElem (by omega)] at this
      simpa [Addr.add] using World.cell?_spot this
    subst hspot
    refine ⟨[.sr len s g], ⟨len, g, hlen, fun j hj => ((hg j).1 hj).1, fun j => (hg j).2, rfl⟩, ⟨_, _, rfl, ⟨_, cap, rfl, h1, hs, .inr ⟨bk, off, rfl, id, fun j hj => ?_⟩⟩, rfl⟩, ⟨⟨hlen, fun j => (hg j).2⟩, trivial⟩, fun v hv => by simp at hv; subst hv; rfl⟩
    obtain ⟨q1, q2, cs', q3, q4, q5⟩ := (hg j).1 hj
    refine ⟨q2, vrc_of (x := (Cx.top P W).bare) q4 (fun i v hv => ?_) q5⟩
    obtain ⟨_, p2, p3⟩ := World.cells?_some q3
    have hi : i < s := by rw [← p2]; exact (List.getElem?_eq_some_iff.1 hv).1
    have := p3 i hi
    rw [hv, Go.WideShapes.add_plain, Go.WideShapes.add_plain] at this
    exact this
theorem read_ok : ∀ (d : Nat) (t : TypeId) (fuel : Nat) (cs : List Value) (x : DataW H × List MemPlace), (form P d t).fine = true → DataW.trod enc P W 0 spare held fuel t cs = some x → Got P W (form P d t) cs := by
  intro d
  induction d with
  | zero => intro t fuel cs x hf; simp [form, Form.fine] at hf
  | succ d ih =>
    intro t fuel cs x hf h
    unfold form at hf ⊢
    split at hf
    · rename_i ht
      obtain ⟨b, rfl, _⟩ := DataW.trod_bool ht h
      exact ⟨_, ⟨b, rfl⟩, ⟨_, _, rfl, rfl, rfl⟩, ⟨trivial, trivial⟩, fun v hv => by simp at hv; subst hv; rfl⟩
    · rename_i k ht
      obtain ⟨n, rfl, _, hw⟩ := DataW.trod_int ht h
      exact ⟨_, ⟨n, wf_in hw, rfl⟩, ⟨_, _, rfl, rfl, rfl⟩, ⟨wf_in hw, trivial⟩, fun v hv => by simp at hv; subst hv; rfl⟩
    · rename_i ht
      obtain ⟨s, rfl, _, hs⟩ := DataW.trod_string ht h
      have hok : (V.st (s.data.toList.map fun c => (c.toNat : Int))).ok := by
        refine ⟨?_, fun e he => ?_⟩
        · rw [List.length_map, Array.length_toList]; exact hs
        · obtain ⟨c, _, rfl⟩ := List.mem_map.1 he
          have := c.toNat_lt
          omega
      exact ⟨_, ⟨_, hok, rfl⟩, ⟨_, _, rfl, ⟨s, rfl, rfl⟩, rfl⟩, ⟨hok, trivial⟩, fun v hv => by simp at hv; subst hv; rfl⟩
    · rename_i e ht
      split at hf
      · rename_i k he
        split at hf
        case isFalse => cases hf
        rename_i hc
        rw [if_pos hc]
        rcases open_slice ht h with ⟨rfl, _⟩ | ⟨a, len, cap, m, n, D, Pl, rfl, hb, hl, hm, hmm, _, hx⟩
        · exact ⟨[.si 0 k []], ⟨[], by decide, fun e he => absurd he (by simp), rfl⟩, ⟨_, _, rfl, ⟨none, 0, rfl, Nat.le_refl _, .inl rfl⟩, rfl⟩, ⟨⟨by decide, fun e he => absurd he (by simp)⟩, trivial⟩, fun v hv => by simp at hv; subst hv; rfl⟩
        · have hle : len ≤ m := by rw [hmm]; split <;> omega
          have key : ∀ i, ∃ z : Int, i < len → W.cell? (a.add i) = some (.int k z) ∧ inR k z := fun i => by
            by_cases hi : i < len
            · obtain ⟨cs', k1, k2⟩ := hx i (by omega)
              obtain ⟨z, rfl, _, hw⟩ := DataW.trod_int he k2
              rw [hc, Nat.mul_one] at k1
              exact ⟨z, fun _ => ⟨cell_of_cells?_one k1, wf_in hw⟩⟩
            · exact ⟨0, fun h => absurd h hi⟩
          let z : Nat → Int := fun i => Classical.choose (key i)
          have hz : ∀ i, i < len → W.cell? (a.add i) = some (.int k (z i)) ∧ inR k (z i) := fun i => Classical.choose_spec (key i)
          have hxs : ((List.range len).map z).length = len := by simp
          have hin : ∀ e ∈ (List.range len).map z, inR k e := fun e he => by
            obtain ⟨i, hi, rfl⟩ := List.mem_map.1 he
            exact (hz i (List.mem_range.1 hi)).2
          have hlm : ((List.range len).map z).length ≤ lenM := by rw [hxs]; exact Nat.le_trans hl hm
          refine ⟨_, ⟨(List.range len).map z, hlm, hin, rfl⟩, ⟨_, _, rfl, ⟨some a, cap, by rw [hxs], by rw [hxs]; exact hl, ?_⟩, rfl⟩, ⟨⟨hlm, hin⟩, trivial⟩, fun v hv => by simp at hv; subst hv; rfl⟩
          by_cases h0 : len = 0
          · exact .inl (by rw [hxs]; exact h0)
          · right
            obtain ⟨bk, off, spot⟩ := a
            have hspot : spot = none := by simpa [Addr.add] using World.cell?_spot (hz 0 (by omega)).1
            subst hspot
            refine ⟨bk, off, rfl, id, Nat.le_refl _, fun j e hj he => ?_⟩
            rw [hxs] at hj
            rw [List.getElem?_map, List.getElem?_range hj] at he
            injection he with he; subst he
            have := (hz j hj).1
            rw [Go.WideShapes.add_plain] at this
            exact this
      · rename_i hno
        split at hf
        · cases hf
        rename_i hc
        rw [if_neg hc]
        rcases open_slice ht h with ⟨rfl, _⟩ | ⟨a, len, cap, m, n, D, Pl, rfl, hb, hl, hm, hmm, _, hx⟩
        · exact ⟨_, ⟨0, fun _ => [], by decide, fun j hj => by omega, fun j => trivial, rfl⟩, ⟨_, _, rfl, ⟨none, 0, rfl, Nat.le_refl _, Nat.pos_of_ne_zero hc, .inl rfl⟩, rfl⟩, ⟨⟨by decide, fun j => trivial⟩, trivial⟩, fun v hv => by simp at hv; subst hv; rfl⟩
        · have hle : len ≤ m := by rw [hmm]; split <;> omega
          refine got_slice (Nat.pos_of_ne_zero hc) hl hm fun i hi => ?_
          obtain ⟨cs', k1, k2⟩ := hx i (by omega)
          exact ⟨cs', k1, ih e n cs' _ hf k2⟩
    · rename_i fs ht
      obtain ⟨xs, n, _, _, hlen, hxl, hx⟩ := DataW.trod_struct ht h
      have := got_fields (P := P) (W := W) (f := form P d) hlen fs.toList 0 hf fun fd hfd hfine => by
        obtain ⟨i, hi⟩ := List.getElem?_of_mem hfd
        have h1 := hx i fd (by simpa using hi)
        have hil : i < xs.length := by rw [hxl]; have := (List.getElem?_eq_some_iff.1 hi).1; simpa using this
        rw [List.getElem?_eq_getElem hil] at h1
        exact ih _ _ _ _ hfine h1
      rwa [List.drop_zero] at this
    · rename_i n e ht
      split at hf
      case isFalse => cases hf
      rename_i hc
      rw [if_pos hc]
      obtain ⟨xs, m, _, _, hlen, hxl, hx⟩ := DataW.trod_array ht h
      have := got_rep (P := P) (W := W) (e := form P d e) (s := P.cellsOf e) (cs := cs) n 0 (by rw [hlen, hc, Nat.zero_add]) fun j hj => by
        have h1 := hx j (by omega)
        rw [List.getElem?_eq_getElem (by omega)] at h1
        exact ih _ _ _ _ hf h1
      rwa [Nat.zero_mul, List.drop_zero] at this
    · cases hf
def arg (F : Form) (c : V) : Prop := match F.is1 with
  | true => shp F [c]
  | false => ∃ cs, shp F cs ∧ c = .agg cs
def args : List Form → List V → Prop
  | [], l => l = []
  | F :: Fs, l => ∃ c cs, arg F c ∧ args Fs cs ∧ l = c :: cs
theorem form_is1 {P : Program} {d : Nat} {t : TypeId} (h : (form P d t).fine = true) : (form P d t).is1 = (match P.underlying t with
    | some (.struct _) => false
    | some (.array _ _) => false
    | _ => true) := by
  cases d with
  | zero => simp [form, Form.fine] at h
  | succ d =>
    unfold form at h ⊢
    cases hu : P.underlying t with
    | none => rw [hu] at h; cases h
    | some ds =>
      rw [hu] at h
      cases ds with
      | bool => rfl
      | int k => rfl
      | string => rfl
      | slice e =>
        simp only at h ⊢
        split at h
        · split at h
          · rename_i hc; rw [if_pos hc]; rfl
          · cases h
        · split at h
          · cases h
          · rename_i hc; rw [if_neg hc]; rfl
      | struct fs =>
        have : ∀ (l : List Field) (off : Nat), (formF P (form P d) (P.cellsOf t) off l).is1 = false := fun l off => by
          cases l <;> simp only [formF] <;> split <;> rfl
        exact this _ _
      | array n e => simp only; split <;> rfl
      | _ => cases h
theorem no_agg {r : Reach} {b0 : Nat} {d : Nat} {t : TypeId} {v : Value} (hf : (form P d t).fine = true) (h1 : (form P d t).is1 = true) (hval : Value.okWide P W r b0 t v) : v.cells = #[v] := by
  have key : ∀ cs, v ≠ .agg cs := by
    rintro cs rfl
    cases d with
    | zero => simp [form, Form.fine] at hf
    | succ d =>
      have hi := form_is1 hf
      rw [h1] at hi
      unfold form at hf
      cases hu : P.underlying t with
      | none => rw [hu] at hf; cases hf
      | some ds =>
        rw [hu] at hf hi
        unfold Value.okWide Cell.okWide at hval
        cases ds <;> simp [hu, Cell.ok] at hval hi hf <;> first | exact hf.elim | cases hf | skip
  cases v <;> first | rfl | exact absurd rfl (key _)
theorem is1_arg {r : Reach} {b0 : Nat} {d : Nat} {t : TypeId} {v : Value} (hf : (form P d t).fine = true) (h1 : (form P d t).is1 = false) (hval : Value.okWide P W r b0 t v) : ∃ cs, v = .agg cs := by
  have hi := form_is1 hf
  rw [h1] at hi
  unfold Value.okWide at hval
  cases hu : P.underlying t with
  | none => rw [hu] at hi; cases hi
  | some ds =>
    rw [hu] at hi hval
    cases ds with
    | struct fs => obtain ⟨cs, h, _⟩ := hval; exact ⟨cs, h⟩
    | array n e => obtain ⟨cs, h, _⟩ := hval; exact ⟨cs, h⟩
    | _ => cases hi
theorem read_arg {r : Reach} {b0 : Nat} {d : Nat} {t : TypeId} {v : Value} {x : DataW H} {ps : List MemPlace} (hf : (form P d t).fine = true) (hval : Value.okWide P W r b0 t v) (hd : DataW.Trod enc P W 0 spare held t v x ps) : ∃ c, arg (form P d t) c ∧ VR (Cx.top P W) c v ∧ c.ok := by
  obtain ⟨fuel, h⟩ := hd
  obtain ⟨c, h1, h2, h3, h4⟩ := read_ok d t fuel _ _ hf h
  unfold arg
  cases h0 : (form P d t).is1 with
  | true =>
    rw [no_agg hf h0 hval] at h2 h4
    obtain ⟨e, es, rfl⟩ : ∃ e es, c = e :: es := by
      cases c with
      | nil => have := h2.length; simp at this
      | cons e es => exact ⟨e, es, rfl⟩
    obtain ⟨u, us, hl, hv, hn⟩ := h2
    have hl : [v] = u :: us := hl
    injection hl with e1 e2
    subst e1 e2
    have : es = [] := by
      cases es with
      | nil => rfl
      | cons a b => obtain ⟨_, _, h, _⟩ := hn; cases h
    subst this
    exact ⟨e, h1, hv, h3.1⟩
  | false =>
    obtain ⟨cs, rfl⟩ := is1_arg hf h0 hval
    exact ⟨.agg c, ⟨c, h1, rfl⟩, ⟨cs.toList, by simp, h2⟩, h3⟩
theorem read_args {r : Reach} {b0 : Nat} {d : Nat} : ∀ (ts : List TypeId) (vs : List Value) (xs : List (DataW H)) (ps : List MemPlace), (ts.all fun t => (form P d t).fine) = true → (∀ (j : Nat) t v, ts[j]? = some t → vs[j]? = some v → Value.okWide P W r b0 t v) → DataW.TrodAll enc P W 0 spare held ts vs xs ps →
    ∃ l, args (ts.map (form P d)) l ∧ VRs (Cx.top P W) l vs ∧ oks l
  | [], vs, xs, ps, _, _, h => by
    obtain ⟨rfl, _, _⟩ := trodAll_nil h
    exact ⟨[], rfl, rfl, trivial⟩
  | t :: ts, vs, xs, ps, hf, hval, h => by
    obtain ⟨v, vs', x, xs', p, q, rfl, rfl, rfl, h1, h2⟩ := trodAll_cons h
    simp only [List.all_cons, Bool.and_eq_true] at hf
    obtain ⟨c, a1, a2, a3⟩ := read_arg hf.1 (hval 0 t v rfl rfl) h1
    obtain ⟨l, b1, b2, b3⟩ := read_args ts vs' xs' q hf.2 (fun j t v ht hv => hval (j + 1) t v (by simpa using ht) (by simpa using hv)) h2
    exact ⟨c :: l, ⟨c, l, a1, b1, rfl⟩, ⟨v, vs', rfl, a2, b2⟩, a3, b3⟩
end
theorem lift_args {H : Type} {enc : TypeId × Value → H} {C : Checked} {os : Os} {f : FuncId} {fn : Func} {s : ChangeSpec} {conds : List PathCond} (own : ownKnob C.prog.godebug = none) (started : os.Started) (hi : C.prog.inits.idxOf? f = none) (hf : C.prog.funcs[f]? = some fn)
    (hw : ∃ (w : World) (tape : Tape) (i : Input), w.os = os ∧ World.Shaped C.prog (w.forCall tape i) ∧ i.vars = [] ∧ Input.okWide C.prog (w.forCall tape i) .any w.heap.size f i ∧ ChangeSpec.pre6 enc C.prog fn s conds false (w.forCall tape i).memory i.args ∧ ({} : Assume).holds C.prog (lone (Frame.enter C.prog f i.args .normal) [] (w.forCall tape i)))
    (hl : laidOutB C.prog = true) {tb : TypeId} (hb : C.prog.underlying tb = some .bool) (hr : fn.resultTypes = #[tb]) (hp : (fn.params.toList.all fun t => C.prog.readableRec t && decide (t < C.prog.types.size)) = true) (hv : s.vars = [])
    (hs : ∀ ds : List (DataW H), ds.length = fn.params.toList.length → s.fn H ds = { results := [.lit (.bool true)], args := ds })
    {d : Nat} (hfine : (fn.params.toList.all fun t => (form C.prog d t).fine) = true) {Fs : List Form} (hFs : fn.params.toList.map (form C.prog d) = Fs)
    (hcall : ∀ l, args Fs l → oks l → CallOk C.prog f l [] fun r _ => r = .b true) :
    ReturnsInHanded {} C os f .any (ChangeSpec.pre6 enc C.prog fn s conds false) (ChangeSpec.post enc C.prog fn s false true false false) := by
  refine lift_true own started hi hf hw hl hb hr hp hv hs fun W base as ds p hval hA => ?_
  obtain ⟨l, h1, h2, h3⟩ := read_args (d := d) _ _ _ _ hfine (fun j t v ht hv => hval j t v (by simpa using ht) (by simpa using hv)) hA
  rw [hFs] at h1
  have := true_of_call (hcall l h1 h3) h2 h3
  simpa using this
end Go.Proofs.YtkmkhcmfpbffjaaGreat.VI

namespace Go.Proofs.YtkmkhcmfpbffjaaGreat.VI
set_option linter.unusedVariables false
set_option linter.unusedSimpArgs false
inductive Wh where
  | pl (j : Nat) | ag (j c : Nat) | via (j c : Nat)
inductive Ph where
  | ints (k : IntKind) | recs
def Ph.D (sz : Nat) : Ph → D
  | .ints k => .ints k []
  | .recs => .recs 0 (sz + 1) fun _ => []
def phn1 (w : Wh) (e : TypeId) (sz : Nat) (d : Ph) (s : St) : St := match w with
  | .pl j => match s.t.getD j .u with
    | .nils => ⟨s.t.set j (.own s.h.length 1 0 0 (sz + 1)), s.h ++ [⟨1, e, d.D sz, true⟩]⟩
    | _ => s
  | .ag j c => match s.t.getD j .u with
    | .agg cs => match cs.getD c .u with
      | .nils => ⟨s.t.set j (.agg (cs.set c (.own s.h.length 1 0 0 (sz + 1)))), s.h ++ [⟨1, e, d.D sz, true⟩]⟩
      | _ => s
    | _ => s
  | .via j c => match s.t.getD j .u with
    | .ref id _ off => match s.h[id]? with
      | some b => match b.d with
        | .list cs => match cs.getD (off + c) .u with
          | .nils => ⟨s.t, s.h.set id { b with d := .list (cs.set (off + c) (.own s.h.length 1 0 0 (sz + 1))) } ++ [⟨1, e, d.D sz, true⟩]⟩
          | _ => s
        | _ => s
      | none => s
    | _ => s
def phn : List (Wh × TypeId × Nat × Ph) → St → St
  | [], s => s
  | p :: l, s => phn l (phn1 p.1 p.2.1 p.2.2.1 p.2.2.2 s)
def Cx.nilb (x : Cx) (e : TypeId) (d : D) : Cx := { x with h := x.h ++ [⟨1, e, d, true⟩], ph := fun j => j = x.h.length ∨ x.ph j }
theorem nilb_eq (x : Cx) (e : TypeId) (d : D) : (x.more 1).phan x.h.length 1 e d = x.nilb e d := by
  unfold Cx.phan Cx.more Cx.nilb newg
  simp [blanks]
theorem nilb_to {x : Cx} (hx : HR x) (e : TypeId) (d : D) : To x (x.nilb e d) := by
  rw [← nilb_eq]
  have h1 := more_to hx 1
  refine h1.trans (phan_to h1.hr ?_ e d)
  unfold lw Cx.more
  simp [blanks, blankB]
theorem nilb_own (x : Cx) (e : TypeId) (d : D) (sz : Nat) {v : Value} (h : VR x .nils v) : VR (x.nilb e d) (.own x.h.length 1 0 0 (sz + 1)) v := by
  obtain ⟨a, rfl⟩ := h
  rw [← nilb_eq]
  exact phan_own (by unfold lw Cx.more; simp [blanks, blankB]) e d a (by omega)
theorem Ph.ok (sz : Nat) (d : Ph) : (d.D sz).ok := by
  cases d with
  | ints k => exact fun e he => by cases he
  | recs => exact fun j => trivial
theorem getD_some {l : List V} {j : Nat} {c : V} (h : l.getD j .u = c) (hc : c ≠ .u) : l[j]? = some c := by
  rw [List.getD_eq_getElem?_getD] at h
  cases hl : l[j]? with
  | none => rw [hl] at h; exact absurd h.symm hc
  | some d => rw [hl] at h; simpa using h
theorem VRs.set' {x : Cx} {cs : List V} {l : List Value} (h : VRs x cs l) (j : Nat) {c d : V} (hc : cs[j]? = some c) (k : ∀ v, VR x c v → VR x d v) : VRs x (cs.set j d) l := by
  obtain ⟨v, h1, h2⟩ := h.get j c hc
  have := h.set j (k v h2)
  obtain ⟨hl, he⟩ := List.getElem?_eq_some_iff.1 h1
  rw [← he, List.set_getElem_self] at this
  exact this
theorem phn1_wk {P : Program} {m0 : Nat} (w : Wh) (e : TypeId) (sz : Nat) (d : Ph) (s : St) : Wk P m0 s (phn1 w e sz d s) := by
  intro x0 x act hP hg hm hs
  have hid : ∃ z : Cx, z.w = x.w ∧ SR x0 z s act := ⟨x, rfl, hs⟩
  have hxh := hs.h
  have hto := nilb_to hs.hr e (d.D sz)
  have hho : hok (s.h ++ [⟨1, e, d.D sz, true⟩]) := hs.oh.app fun b hb => by simp at hb; subst hb; exact Ph.ok sz d
  unfold phn1
  cases w with
  | pl j =>
    simp only
    split
    · rename_i hj
      refine ⟨x.nilb e (d.D sz), rfl, hto.hr, by simp only [Cx.nilb, hxh], ?_, hs.P, hs.to.trans hto, hs.d, hs.ot.set j (by show (0:Nat) ≤ lenM; exact Nat.zero_le _), hho⟩
      have ht := hs.t.mono hto.ext.mono
      refine ht.set' j (getD_some hj (by simp)) fun v hv => ?_
      rw [← hxh]; exact nilb_own x e _ sz hv
    · exact hid
  | ag j c =>
    simp only
    split
    · rename_i cs hj
      split
      · rename_i hc
        have hjs := getD_some hj (by simp)
        refine ⟨x.nilb e (d.D sz), rfl, hto.hr, by simp only [Cx.nilb, hxh], ?_, hs.P, hs.to.trans hto, hs.d, hs.ot.set j (oks.set (hs.ot.get hjs) c (by show (0:Nat) ≤ lenM; exact Nat.zero_le _)), hho⟩
        have ht := hs.t.mono hto.ext.mono
        refine ht.set' j hjs fun v hv => ?_
        obtain ⟨l, h1, h2⟩ := hv
        refine ⟨l, h1, h2.set' c (getD_some hc (by simp)) fun v hv => ?_⟩
        rw [← hxh]; exact nilb_own x e _ sz hv
      · exact hid
    · exact hid
  | via j c =>
    simp only
    split
    · rename_i id g off hj
      split
      · rename_i b hb
        split
        · rename_i cs hcs
          split
          · rename_i hc
            let b' : Blk := { b with d := .list (cs.set (off + c) (.own s.h.length 1 0 0 (sz + 1))) }
            let h2 : Heap := s.h.set id b' ++ [⟨1, e, d.D sz, true⟩]
            have hlt : id < s.h.length := (List.getElem?_eq_some_iff.1 hb).1
            have hoc : hok (s.h.set id b') := hs.oh.set id (b := b') (by
              have := hs.oh b (List.mem_of_getElem? hb)
              rw [hcs] at this
              exact oks.set this _ (by show (0:Nat) ≤ lenM; exact Nat.zero_le _))
            have hk : HIY (fun z => z = (x.nilb e (d.D sz)).re h2) (x.nilb e (d.D sz)).h h2 := by
              have key : ∀ (pre : Heap) (h h' : Heap), h'.length = h.length → (∀ i, i < h.length → ∃ a a', h[i]? = some a ∧ h'[i]? = some a' ∧ BIY (fun z => z = (x.nilb e (d.D sz)).re h2) a a') → HIY (fun z => z = (x.nilb e (d.D sz)).re h2) h h' := by
                intro _ h
                induction h with
                | nil => intro h' hl _; cases h' with
                  | nil => trivial
                  | cons _ _ => cases hl
                | cons a h ih => intro h' hl hi; cases h' with
                  | nil => cases hl
                  | cons a' h' =>
                    obtain ⟨q, q', q1, q2, q3⟩ := hi 0 (by simp)
                    simp at q1 q2; subst q1 q2
                    exact ⟨q3, ih h' (by simpa using hl) fun i hlt => by simpa using hi (i + 1) (by simp; omega)⟩
              refine key [] _ _ (by simp [h2, Cx.nilb, hxh]) fun i hi => ?_
              simp only [Cx.nilb, hxh, List.length_append, List.length_cons, List.length_nil] at hi
              by_cases hid : i = id
              · subst hid
                refine ⟨b, b', by simp only [Cx.nilb, hxh]; rw [List.getElem?_append_left hlt]; exact hb, by simp only [h2]; rw [List.getElem?_append_left (by simpa using hlt), List.getElem?_set_self hlt], rfl, fun _ => ⟨rfl, rfl, ?_, ?_, ?_⟩, fun _ => .inr ⟨rfl, by rw [hcs]; rfl⟩⟩
                · simp only [b', Blk.cs, D.toV, hcs, List.length_set]
                · rintro z rfl l h1 _
                  simp only [b', Blk.cs, D.toV, hcs] at h1 ⊢
                  refine ⟨h1.set' (off + c) (getD_some hc (by simp)) fun v hv => ?_, trivial⟩
                  obtain ⟨a, rfl⟩ := hv
                  refine ⟨rfl, ⟨1, e, d.D sz, true⟩, ?_, Nat.le_refl _, fun _ _ => ⟨a, 0, rfl, Nat.le_refl _, by omega, .inl ⟨rfl, rfl⟩⟩⟩
                  show h2[s.h.length]? = _
                  simp only [h2]
                  rw [List.getElem?_append_right (by simp)]
                  simp
                · intro ho
                  rw [hcs] at ho
                  exact oks.set ho _ (by show (0:Nat) ≤ lenM; exact Nat.zero_le _)
              · have he : h2[i]? = (x.nilb e (d.D sz)).h[i]? := by
                  simp only [h2, Cx.nilb, hxh]
                  by_cases hi2 : i < s.h.length
                  · rw [List.getElem?_append_left (by simpa using hi2), List.getElem?_append_left hi2, List.getElem?_set_ne (Ne.symm hid)]
                  · rw [List.getElem?_append_right (by simp; omega), List.getElem?_append_right (by omega), List.length_set]
                cases hq : (x.nilb e (d.D sz)).h[i]? with
                | none =>
                  rw [List.getElem?_eq_none_iff] at hq
                  simp only [Cx.nilb, hxh, List.length_append, List.length_cons, List.length_nil] at hq
                  omega
                | some a => exact ⟨a, a, rfl, he.trans hq, BIY.refl _ a⟩
            have hhr := re_hr hk rfl hto.hr
            have hto2 : To (x.nilb e (d.D sz)) ((x.nilb e (d.D sz)).re h2) := ⟨re_ext hk, hhr, Beside.refl _⟩
            exact ⟨(x.nilb e (d.D sz)).re h2, rfl, hhr, rfl, (hs.t.mono hto.ext.mono).mono hto2.ext.mono, hs.P, (hs.to.trans hto).trans hto2, hs.d, hs.ot, hoc.app fun b hb => by simp at hb; subst hb; exact Ph.ok sz d⟩
          · exact hid
        · exact hid
      · exact hid
    · exact hid
theorem phn_wk {P : Program} {m0 : Nat} : ∀ (l : List (Wh × TypeId × Nat × Ph)) (s : St), Wk P m0 s (phn l s)
  | [], s => fun x0 x act _ _ _ hs => ⟨x, rfl, hs⟩
  | p :: l, s => (phn1_wk _ _ _ _ s).trans (phn_wk l _)
def hd (ps : List (Wh × TypeId × Nat × Ph)) (bs ks : List Nat) (m0 : Nat) (s : St) : St := cleanB bs ks m0 (phn ps s)
theorem hd_wk {P : Program} (ps : List (Wh × TypeId × Nat × Ph)) (bs ks : List Nat) (m0 : Nat) (s : St) : Wk P m0 s (hd ps bs ks m0 s) := (phn_wk ps s).trans (wk_clean bs ks _)
def shut1 (b : Blk) : Blk := ⟨b.gen, b.elem, b.d, false⟩
def shutH : List Nat → Heap → Heap
  | [], h => h
  | j :: l, h => match h[j]? with
    | some b => shutH l (h.set j (shut1 b))
    | none => shutH l h
def hds (sh : List Nat) (ps : List (Wh × TypeId × Nat × Ph)) (bs ks : List Nat) (m0 : Nat) (s : St) : St := match hd ps bs ks m0 s with
  | ⟨t, h⟩ => ⟨t, shutH sh h⟩
def okT : (f : Fm) → T f → Prop
  | .i k, x => inR k x
  | .b, _ => True
  | .st, xs => List.length xs ≤ lenM ∧ ∀ e ∈ (xs : List Int), 0 ≤ e ∧ e < 256
  | .si k, xs => List.length xs ≤ lenM ∧ ∀ e ∈ (xs : List Int), inR k e
  | .sr row _, l => List.length l ≤ lenM ∧ ∀ r ∈ l, okT row r
  | .agg l, x => okT l x
  | .tup l, x => okT l x
  | .pl l, x => okT l x
  | .fn _ l, x => okT l x
  | .own _ _ _ _, n => n ≤ lenM
  | .ref _ _ _, _ => True
  | .u, _ => True
  | .nilp, _ => True
  | .nils, _ => True
  | .nilf, _ => True
  | .unit, _ => True
  | .pair f g, x => okT f x.1 ∧ okT g x.2
  | .cst _ g, x => okT g x
  | .us _ g, x => okT g x
  | .rep n f, l => ∀ j, j < n → okT f (List.getD l j (dflt f))
theorem okT_of : ∀ (f : Fm) (x : T f) (r : List V), oks (enc f x r) → okT f x ∧ oks r
  | .i k, x, r, h => h
  | .b, x, r, h => ⟨trivial, h.2⟩
  | .st, x, r, h => h
  | .si k, x, r, h => h
  | .sr row sz, l, r, h => ⟨⟨h.1.1, fun a ha => by
    obtain ⟨j, hj⟩ := List.getElem?_of_mem ha
    have := h.1.2 j
    simp only [List.getD_eq_getElem?_getD, hj, Option.getD_some] at this
    exact (okT_of row a [] this).1⟩, h.2⟩
  | .agg l, x, r, h => ⟨(okT_of l x [] h.1).1, h.2⟩
  | .tup l, x, r, h => ⟨(okT_of l x [] h.1).1, h.2⟩
  | .pl l, x, r, h => ⟨(okT_of l x [] h.1).1, h.2⟩
  | .fn _ l, x, r, h => ⟨(okT_of l x [] h.1).1, h.2⟩
  | .own _ _ _ _, x, r, h => h
  | .ref _ _ _, x, r, h => ⟨trivial, h.2⟩
  | .u, x, r, h => ⟨trivial, h.2⟩
  | .nilp, x, r, h => ⟨trivial, h.2⟩
  | .nils, x, r, h => ⟨trivial, h.2⟩
  | .nilf, x, r, h => ⟨trivial, h.2⟩
  | .unit, x, r, h => ⟨trivial, h⟩
  | .pair f g, x, r, h => by
    obtain ⟨h1, h2⟩ := okT_of f x.1 _ h
    obtain ⟨h3, h4⟩ := okT_of g x.2 _ h2
    exact ⟨⟨h1, h3⟩, h4⟩
  | .cst c g, x, r, h => okT_of g x _ (okT_of c _ _ h).2
  | .us n g, x, r, h => by
    have : ∀ (n : Nat) (l : List V), oks (usN n l) → oks l := fun n => by
      induction n with
      | zero => exact fun l h => h
      | succ n ih => exact fun l h => ih l h.2
    exact okT_of g x r (this n _ h)
  | .rep n f, l, r, h => by
    have key : ∀ (n j : Nat), oks (repE (enc f) (dflt f) l n j r) → (∀ i, j ≤ i → i < j + n → okT f (List.getD l i (dflt f))) ∧ oks r := by
      intro n
      induction n with
      | zero => intro j h; exact ⟨fun i h1 h2 => by omega, h⟩
      | succ n ih =>
        intro j h
        obtain ⟨h1, h2⟩ := okT_of f _ _ h
        obtain ⟨h3, h4⟩ := ih (j + 1) h2
        refine ⟨fun i hi hi2 => ?_, h4⟩
        rcases Nat.eq_or_lt_of_le hi with e | e
        · subst e; exact h1
        · exact h3 i e (by omega)
    obtain ⟨h1, h2⟩ := key n 0 h
    exact ⟨fun j hj => h1 j (Nat.zero_le _) (by omega), h2⟩
def okTB : (b : BF) → TB b → Prop
  | .dead, _ => True
  | .list _ _ _ l, x => okT l x
  | .ints _ _ _ k, xs => ∀ e ∈ (xs : List Int), inR k e
  | .recs _ _ _ row _, l => ∀ r ∈ l, okT row r
  | .mix _ _ _ pre k, x => okT pre x.1 ∧ ∀ e ∈ (x.2 : List Int), inR k e
def okTH : (l : List BF) → TH l → Prop
  | [], _ => True
  | b :: l, x => okTB b x.1 ∧ okTH l x.2
theorem okTB_of : ∀ (b : BF) (x : TB b), (encB b x).d.ok → okTB b x
  | .dead, _, _ => trivial
  | .list _ _ _ l, x, h => (okT_of l x [] h).1
  | .ints _ _ _ k, xs, h => h
  | .mix _ _ _ pre k, x, h => ⟨(okT_of pre x.1 [] h.1).1, h.2⟩
  | .recs _ _ _ row _, l, h => fun r hr => by
    obtain ⟨j, hj⟩ := List.getElem?_of_mem hr
    have := h j
    simp only [List.getD_eq_getElem?_getD, hj, Option.getD_some] at this
    exact (okT_of row r [] this).1
theorem okTH_of : ∀ (l : List BF) (x : TH l), hok (encH l x) → okTH l x
  | [], _, _ => trivial
  | b :: l, x, h => ⟨okTB_of b x.1 (h _ (by simp [encH])), okTH_of l x.2 fun c hc => h c (by simp [encH, hc])⟩
def spc (fa : Fm) (ha : List BF) (fr : Fm) (hr : List BF) {α : Type} (c : T fa → TH ha → Bool) (G : T fa → TH ha → α) (out : α → T fr × TH hr) (l : List V) (hc : Heap) : Tr :=
  match dec fa l fun b x r => (b, x, r) with
  | (b, x, r) => match decH ha hc fun b' y => (b', y) with
    | (b', y) => .br (b && (isNil r && b')) (.br (c x y) (.ret (outV fr (out (G x y)).1) (encH hr (out (G x y)).2)) .no) .no
theorem fnC {P : Program} {f : FuncId} {md : List Bool} {nf : Nat} {fa : Fm} {ha : List BF} {fr : Fm} {hr : List BF} {α : Type} {F : T fa → TH ha → Option α} {out : α → T fr × TH hr} (h : OrcOk P (ent f md nf (sp fa ha fr hr F out))) (he : Enters P f) (hfine : (fa.fine && ha.all BF.fine) = true)
    {c : T fa → TH ha → Bool} {G : T fa → TH ha → α} (hG : ∀ x y, okT fa x → okTH ha y → c x y = true → F x y = some (G x y)) : OrcOk P (ent f md nf (spc fa ha fr hr c G out)) := by
  refine ent_ok (fun l hc r h' hv ho hh => ?_) he
  unfold spc at hv
  rw [dec_nat, decH_nat] at hv
  simp only at hv
  obtain ⟨hc1, hv⟩ := Tr.br_val hv
  obtain ⟨hc2, hv⟩ := Tr.br_val hv
  have hc3 := hc1
  simp only [Bool.and_eq_true] at hc1 hfine
  have hi := dec_imp fa hfine.1 l [] hc1.1 (by rw [isNil_spec hc1.2.1]; trivial)
  have hho := encH_ok ha hfine.2 hc hc1.2.2 hh
  have hF := hG _ _ (okT_of fa _ [] (hi.oks ho)).1 (okTH_of ha _ hho) hc2
  refine h f ⟨md, nf, sp fa ha fr hr F out⟩ (by simp [ent]) l hc r h' ?_
  simp only [sp]
  rw [dec_nat, decH_nat]
  simp only [hc3, Tr.val, Tr.run, hF, Option.bind_some]
  exact hv
def spOr (s1 s2 : List V → Heap → Tr) (l : List V) (h : Heap) : Tr := match s1 l h with
  | .br c t _ => .br c t (s2 l h)
  | _ => s2 l h
def els {α β γ : Type} (f : α → γ) (g : β → γ) (s : α ⊕ β) : γ := match s with
  | .inl a => f a
  | .inr b => g b
def orm (A B : Orc) : Orc := fun g => match A g with
  | none => B g
  | some a => match B g with
    | none => some a
    | some b => some ⟨a.md, a.nf, spOr a.tr b.tr⟩
theorem orm_ok {P : Program} {A B : Orc} (hA : OrcOk P A) (hB : OrcOk P B) : OrcOk P (orm A B) := by
  intro g en hen args hc r h' hr
  unfold orm at hen
  cases ha : A g with
  | none => rw [ha] at hen; exact hB g en hen args hc r h' hr
  | some a =>
    rw [ha] at hen
    cases hb : B g with
    | none => rw [hb] at hen; injection hen with hen; subst hen; exact hA g _ ha args hc r h' hr
    | some b =>
      rw [hb] at hen; injection hen with hen; subst hen
      simp only [spOr] at hr
      split at hr
      · rename_i c t e he
        cases c with
        | true => exact hA g a ha args hc r h' (by simp only [he]; exact hr)
        | false => exact hB g b hb args hc r h' hr
      · exact hB g b hb args hc r h' hr
def AllOk (P : Program) (m0 : Nat) : List (Code × (St → LTr)) → Prop
  | [] => True
  | p :: l => LoopOk P m0 p.1 p.2 ∧ AllOk P m0 l
theorem AllOk.mem {P : Program} {m0 : Nat} : ∀ {l : List (Code × (St → LTr))}, AllOk P m0 l → ∀ p ∈ l, LoopOk P m0 p.1 p.2
  | q :: l, h, p, hp => by
    rcases List.mem_cons.1 hp with e | e
    · subst e; exact h.1
    · exact h.2.mem p e
theorem loopsL {P : Program} {L : Lps} {m0 d : Nat} {c : Code} {l : List (Code × (St → LTr))} (h : lpsOf L d c = l) (hl : AllOk P m0 l) : LoopsOk P L m0 d c := loopsOk (by rw [h]; exact fun p hp => hl.mem p hp)
def lpB (h : Nat) (m : LM) (L : Lps) : Lps := fun d k => match Nat.beq k h with
  | true => m
  | false => L d k
def toFm : Form → Fm
  | .b => .b
  | .i k => .i k
  | .st => .st
  | .ints k => .si k
  | .rows e sz => .sr (toFm e) sz
  | .unit => .unit
  | .pair f g => .pair (toFm f) (toFm g)
  | .rep n e => .rep n (toFm e)
  | .bad => .unit
def toArg (F : Form) : Fm := match F.is1 with
  | true => toFm F
  | false => .agg (toFm F)
def toArgs : List Form → Fm
  | [] => .unit
  | F :: Fs => .pair (toArg F) (toArgs Fs)
theorem dec_app : ∀ (F : Form) (c r : List V), shp F c → F.fine = true → okd (toFm F) (c ++ r) = true ∧ rmd (toFm F) (c ++ r) = r
  | .b, c, r, ⟨x, h⟩, _ => by subst h; exact ⟨rfl, rfl⟩
  | .i k, c, r, ⟨n, _, h⟩, _ => by subst h; exact ⟨by simp [okd, toFm, dec, eqK], rfl⟩
  | .st, c, r, ⟨n, _, h⟩, _ => by subst h; exact ⟨rfl, rfl⟩
  | .ints k, c, r, ⟨xs, _, _, h⟩, _ => by subst h; exact ⟨by simp [okd, toFm, dec, eqK], rfl⟩
  | .rows e sz, c, r, ⟨n, g, _, hg, _, h⟩, hf => by
    subst h
    refine ⟨?_, rfl⟩
    simp only [okd, toFm, dec, List.cons_append, List.nil_append, Bool.and_eq_true]
    refine ⟨by simp, ?_⟩
    unfold allR
    rw [List.all_eq_true]
    intro j hj
    have := dec_app e (g j) [] (hg j (by simpa using hj)) hf
    rw [List.append_nil] at this
    rw [dec_nat]
    simp only [this.1, this.2, isNil, Bool.and_self]
  | .unit, c, r, h, _ => by
    have h : c = [] := h
    subst h; exact ⟨rfl, rfl⟩
  | .pair f g, c, r, ⟨c1, c2, h1, h2, h⟩, hf => by
    subst h
    simp only [Form.fine, Bool.and_eq_true] at hf
    rw [List.append_assoc]
    obtain ⟨k1, k2⟩ := dec_app f c1 (c2 ++ r) h1 hf.1
    obtain ⟨k3, k4⟩ := dec_app g c2 r h2 hf.2
    simp only [okd, rmd, toFm, dec] at *
    rw [dec_nat, dec_nat (R := List V)]
    simp only [rmd, k2]
    rw [dec_nat]
    simp only [okd, k1, k3, Bool.and_self, true_and]
    exact k4
  | .rep n e, c, r, ⟨l, hl, hr, h⟩, hf => by
    subst h
    have key : ∀ (l : List (List V)), (∀ q ∈ l, shp e q) → (decRep (fun l K => dec (toFm e) l K) l.length (l.flatten ++ r) fun b _ _ => b) = true ∧ (decRep (fun l K => dec (toFm e) l K) l.length (l.flatten ++ r) fun _ _ q => q) = r := by
      intro l
      induction l with
      | nil => intro _; exact ⟨rfl, rfl⟩
      | cons a l ih =>
        intro h
        obtain ⟨k1, k2⟩ := dec_app e a (l.flatten ++ r) (h a (by simp)) hf
        obtain ⟨k3, k4⟩ := ih fun q hq => h q (by simp [hq])
        simp only [List.length_cons, decRep, List.flatten_cons, List.append_assoc]
        rw [dec_nat, dec_nat (R := List V)]
        rw [decRep_nat (fun l K => dec_nat _ l K)]
        simp only [k1, k2, k3, k4, Bool.and_self, true_and]
    have := key l hr
    rw [hl] at this
    exact this
theorem dec_args : ∀ (Fs : List Form) (l : List V), args Fs l → (Fs.all Form.fine) = true → okd (toArgs Fs) l = true ∧ rmd (toArgs Fs) l = []
  | [], l, h, _ => by
    have h : l = [] := h
    subst h; exact ⟨rfl, rfl⟩
  | F :: Fs, l, ⟨c, cs, h1, h2, h⟩, hf => by
    subst h
    simp only [List.all_cons, Bool.and_eq_true] at hf
    obtain ⟨k1, k2⟩ := dec_args Fs cs h2 hf.2
    have : okd (toArg F) (c :: cs) = true ∧ rmd (toArg F) (c :: cs) = cs := by
      unfold arg at h1
      unfold toArg
      cases hi : F.is1 with
      | true =>
        rw [hi] at h1
        exact dec_app F [c] cs h1 hf.1
      | false =>
        rw [hi] at h1
        obtain ⟨q, h1, rfl⟩ := h1
        have := dec_app F q [] h1 hf.1
        rw [List.append_nil] at this
        refine ⟨?_, by simp only [rmd, dec]; rw [dec_nat]⟩
        simp only [okd, dec]
        rw [dec_nat]
        simp only [this.1, this.2, isNil, Bool.and_self]
    simp only [okd, rmd, toArgs, dec] at *
    rw [dec_nat, dec_nat (R := List V)]
    simp only [rmd, this.2]
    rw [dec_nat]
    simp only [okd, this.1, k1, Bool.and_self, true_and]
    exact k2
theorem rowT {P : Program} {f : FuncId} {Fs : List Form} {fa : Fm} (hfa : toArgs Fs = fa) (hfs : (Fs.all Form.fine) = true) {F : T fa → TH [] → Option Bool} (h : OrcOk P (ent f [] 0 (sp fa [] .b [] F fun a => (a, ())))) (he : Enters P f) (hf : fa.fine = true)
    (law : ∀ x, okT fa x → F x () = some true) : ∀ l, args Fs l → oks l → CallOk P f l [] fun r _ => r = .b true := by
  intro l hl ho
  subst hfa
  have hc := fnC (c := fun _ _ => true) (G := fun _ _ => true) h he (by simp [hf]) (fun x y hx _ _ => law x hx)
  obtain ⟨k1, k2⟩ := dec_args Fs l hl hfs
  have := hc f ⟨[], 0, spc (toArgs Fs) [] .b [] (fun _ _ => true) (fun _ _ => true) fun a => (a, ())⟩ (by simp [ent]) l [] (.b true) [] (by
    simp only [spc]
    rw [dec_nat]
    simp only [okd, rmd] at k1 k2
    simp [k1, k2, isNil, decH, Tr.val, Tr.run, outV, enc, encH])
  exact this.mono fun r k q => q.1
end Go.Proofs.YtkmkhcmfpbffjaaGreat.VI

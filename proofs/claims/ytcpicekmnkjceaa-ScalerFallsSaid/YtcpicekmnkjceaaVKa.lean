import Derived.Test.YtcpicekmnkjceaaVK
namespace Go.Proofs.Ytcpicekmnkjceaa.VI
set_option linter.unusedVariables false
set_option linter.unusedSimpArgs false
set_option linter.unusedSimpArgs false

section
variable {R : Type}
def ifk (c : Prop) [Decidable c] (v : V) (k : V → Option R) : Option R := match decide c with
  | true => k v
  | false => none
theorem ifk_eq (c : Prop) [Decidable c] (v : V) (k : V → Option R) : (if c then some v else none : Option V).bind k = ifk c v k := by
  unfold ifk
  by_cases h : c <;> simp [h]
theorem ifk_def (c : Prop) [Decidable c] (v : V) (k : V → Option R) : ifk c v k = if c then k v else none := by
  unfold ifk
  by_cases h : c <;> simp [h]
theorem ite_bind (c : Prop) [Decidable c] (X : Option V) (k : V → Option R) : (if c then X else none).bind k = if c then X.bind k else none := by
  split <;> rfl
def vbink (op : BinOp) (X : Option V) (c d : V) (k : V → Option R) : Option R :=
  match c with
  | .i ka a => match d with
    | .i kb b => match op with
      | .shl => ifk (0 ≤ b) (.i ka (ka.wrap (a * 2 ^ min b.toNat ka.bits))) k
      | .shr => ifk (0 ≤ b) (.i ka (a / 2 ^ min b.toNat ka.bits)) k
      | .quo => if ka = kb then (match b == 0 with
        | true => none
        | false => k (.i ka (ka.wrap (a.tdiv b)))) else none
      | .rem => if ka = kb then (match b == 0 with
        | true => none
        | false => k (.i ka (a.tmod b))) else none
      | _ => X.bind k
    | _ => X.bind k
  | _ => X.bind k
theorem vbink_eq (P : Program) (op : BinOp) (t : TypeId) (c d : V) (k : V → Option R) : vbink op (vbinx P op t c d) c d k = (vbinx P op t c d).bind k := by
  unfold vbink
  split
  · split
    · split
      · rw [← ifk_eq]; rfl
      · rw [← ifk_eq]; rfl
      · simp only [vbinx, vbin]
        repeat' split
        all_goals simp_all
      · simp only [vbinx, vbin]
        repeat' split
        all_goals simp_all
      · rfl
    · rfl
  · rfl
/-- A place that is only known when it runs: each that it may be. -/
def offk : Nat → Nat → Nat → (Nat → Option R) → Option R
  | 0, _, _, _ => none
  | n + 1, j, off, k => match Nat.beq off j with
    | true => k j
    | false => offk n (j + 1) off k
theorem offk_eq (off : Nat) (k : Nat → Option R) : ∀ n j, j ≤ off → off < j + n → offk n j off k = k off
  | 0, j, h1, h2 => by omega
  | n + 1, j, h1, h2 => by
    simp only [offk]
    cases hb : Nat.beq off j with
    | true => rw [Nat.eq_of_beq_eq_true hb]
    | false =>
      have : off ≠ j := Nat.ne_of_beq_eq_false hb
      exact offk_eq off k n (j + 1) (by omega) (by omega)
theorem offk_none (off : Nat) (k : Nat → Option R) : ∀ n j, j + n ≤ off → offk n j off k = none
  | 0, j, h => rfl
  | n + 1, j, h => by
    simp only [offk]
    cases hb : Nat.beq off j with
    | true => have := Nat.eq_of_beq_eq_true hb; omega
    | false => exact offk_none off k n (j + 1) (by omega)
def vloadk (P : Program) (h : Heap) (t : TypeId) (c : V) (k : V → Option R) : Option R :=
  match c with
  | .ref id gen off => match blkOf h id gen with
    | some b => match b.d with
      | .list cs => offk (cs.length + 1) 0 off fun j => (vload P t cs j).bind k
      | .ints kk xs => match aggOf P t with
        | some false => ifk (off < xs.length) (.i kk (xs.getD off 0)) k
        | _ => none
    | none => none
  | c => (vloadAt P h t c).bind k
theorem vloadk_eq (P : Program) (h : Heap) (t : TypeId) (c : V) (k : V → Option R) : vloadk P h t c k = (vloadAt P h t c).bind k := by
  unfold vloadk
  split
  · rename_i id gen off
    simp only [vloadAt]
    cases blkOf h id gen with
    | none => rfl
    | some b =>
      simp only [vloadD]
      cases b.d with
      | list cs =>
        simp only
        rcases Nat.lt_or_ge off (cs.length + 1) with hl | hl
        · exact offk_eq off _ _ 0 (by omega) (by omega)
        · rw [offk_none off _ _ 0 (by omega)]
          have : vload P t cs off = none := by
            unfold vload
            split
            · rw [if_neg (by omega)]
            · exact List.getElem?_eq_none (by omega)
            · rfl
          rw [this]; rfl
      | ints kk xs =>
        simp only
        cases aggOf P t with
        | none => rfl
        | some b => cases b with
          | true => rfl
          | false => simp only; rw [ifk_eq]
  · rfl
def vindexAddrk (P : Program) (h : Heap) (t : TypeId) (c ix : V) (k : V → Option R) : Option R :=
  match ix with
  | .i _ j => match P.underlying t with
    | some (.slice elem) => match szOf P elem with
      | some sz => match c with
        | .sl n s cs => if s = sz then ifk (0 ≤ j ∧ j < (n : Int)) (.pl ((cs.drop (j.toNat * s)).take s)) k else none
        | .si n kk xs => if sz = 1 then ifk (0 ≤ j ∧ j < (n : Int)) (.pl [.i kk (xs.getD j.toNat 0)]) k else none
        | .sr n s g => if s = sz then ifk (0 ≤ j ∧ j < (n : Int)) (.pl (g j.toNat)) k else none
        | .own id gen off n s => if s = sz ∧ cur h id gen = true then ifk (0 ≤ j ∧ j < (n : Int)) (.ref id gen (off + j.toNat * s)) k else none
        | _ => none
      | none => none
    | some (.array len elem) => match szOf P elem with
      | some sz => match c with
        | .ref id gen off => if cur h id gen = true then ifk (0 ≤ j ∧ j < (len : Int)) (.ref id gen (off + j.toNat * sz)) k else none
        | .pl cs => ifk (0 ≤ j ∧ j < (len : Int)) (.pl (cs.drop (j.toNat * sz))) k
        | _ => none
      | none => none
    | _ => none
  | _ => none
theorem vindexAddrk_eq (P : Program) (h : Heap) (t : TypeId) (c ix : V) (k : V → Option R) : vindexAddrk P h t c ix k = (vindexAddr P h t c ix).bind k := by
  unfold vindexAddrk vindexAddr
  cases ix with
  | i _ j =>
    simp only
    cases P.underlying t with
    | none => rfl
    | some d =>
      cases d with
      | slice elem =>
        simp only
        cases szOf P elem with
        | none => rfl
        | some sz => cases c <;> first | rfl | simp only [ite_bind, ifk_def, Option.bind_some]
      | array len elem =>
        simp only
        cases szOf P elem with
        | none => rfl
        | some sz => cases c <;> first | rfl | simp only [ite_bind, ifk_def, Option.bind_some]
      | _ => rfl
  | _ => rfl
def bnds (l m n : Int) : Prop := 0 ≤ l ∧ l ≤ m ∧ m ≤ n
instance (l m n : Int) : Decidable (bnds l m n) := inferInstanceAs (Decidable (_ ∧ _ ∧ _))
def vslicek (P : Program) (h : Heap) (t : TypeId) (c : V) (lo hi mx : Option V) (k : V → Option R) : Option R :=
  match P.underlying t with
  | some (.slice elem) => match szOf P elem with
    | some (z + 1) => match mx with
      | none => match c with
        | .sl n s cs => if s = z + 1 then (match oint 0 lo, oint n hi with
          | some l, some m => ifk (0 ≤ l ∧ l ≤ m ∧ m ≤ n) (.sl (m.toNat - l.toNat) s ((cs.drop (l.toNat * s)).take ((m.toNat - l.toNat) * s))) k
          | _, _ => none) else none
        | .si n kk xs => if 1 = z + 1 then (match oint 0 lo, oint n hi with
          | some l, some m => ifk (0 ≤ l ∧ l ≤ m ∧ m ≤ n) (.si (m.toNat - l.toNat) kk ((xs.drop l.toNat).take (m.toNat - l.toNat))) k
          | _, _ => none) else none
        | .sr n s g => if s = z + 1 then (match oint 0 lo, oint n hi with
          | some l, some m => ifk (0 ≤ l ∧ l ≤ m ∧ m ≤ n) (.sr (m.toNat - l.toNat) s (fun j => g (l.toNat + j))) k
          | _, _ => none) else none
        | .own id gen off n s => if s = z + 1 ∧ cur h id gen = true then (match oint 0 lo, oint n hi with
          | some l, some m => ifk (0 ≤ l ∧ l ≤ m ∧ m ≤ n) (.own id gen (off + l.toNat * s) (m.toNat - l.toNat) s) k
          | _, _ => none) else none
        | _ => none
      | some _ => (vslice P h t c lo hi mx).bind k
    | _ => none
  | some .string => match c, mx with
    | .s a, none => match oint 0 lo, oint a.size hi with
      | some l, some m => ifk (0 ≤ l ∧ l ≤ m ∧ m ≤ a.size) (.s (a.extract l.toNat m.toNat)) k
      | _, _ => none
    | _, _ => none
  | _ => none
theorem vslicek_eq (P : Program) (h : Heap) (t : TypeId) (c : V) (lo hi mx : Option V) (k : V → Option R) : vslicek P h t c lo hi mx k = (vslice P h t c lo hi mx).bind k := by
  unfold vslicek
  cases hu : P.underlying t with
  | none => simp only [vslice, hu]; rfl
  | some d =>
    cases d with
    | slice elem =>
      simp only
      cases hs : szOf P elem with
      | none => simp only [vslice, hu, hs]; rfl
      | some z =>
        cases z with
        | zero => simp only [vslice, hu, hs]; rfl
        | succ z =>
          cases mx with
          | some q => rfl
          | none =>
            simp only [vslice, hu, hs]
            cases c <;> first | rfl | (simp only [ite_bind]; split <;> first | rfl | (generalize oint 0 lo = L; generalize oint _ hi = H; cases L <;> cases H <;> first | rfl | simp only [ite_bind, ifk_def, Option.bind_some]))
    | string =>
      simp only [vslice, hu]
      cases c with
      | s a =>
        cases mx with
        | some q => rfl
        | none =>
          have key : ∀ L H : Option Int, (match L, H with
              | some l, some m => ifk (0 ≤ l ∧ l ≤ m ∧ m ≤ (a.size : Int)) (.s (a.extract l.toNat m.toNat)) k
              | _, _ => none) = (match L, H with
              | some l, some m => if 0 ≤ l ∧ l ≤ m ∧ m ≤ (a.size : Int) then some (.s (a.extract l.toNat m.toNat)) else none
              | _, _ => none : Option V).bind k := by
            intro L H
            cases L <;> cases H <;> first | rfl | simp only [ite_bind, ifk_def, Option.bind_some]
          exact key _ _
      | _ => rfl
    | _ => simp only [vslice, hu]; rfl
end
end Go.Proofs.Ytcpicekmnkjceaa.VI

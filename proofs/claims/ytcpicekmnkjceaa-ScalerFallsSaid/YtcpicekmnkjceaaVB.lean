import Derived.Test.YtcpicekmnkjceaaVA
import Derived.Laws.Entries
import Derived.Laws.Cells
import Derived.WalkKit
namespace Go.Proofs.Ytcpicekmnkjceaa.VI
set_option linter.unusedVariables false
set_option linter.unusedSimpArgs false

structure HR (x : Cx) : Prop where
  blk : ∀ id b, x.h[id]? = some b → 0 < b.gen → ∃ cs lo hi, x.w.heap[x.ρ id]? = some (.cells cs b.elem (lo, hi)) ∧ (hi ≤ lo ∨ cs.size ≤ lo) ∧ VRs x b.cs (cs.toList.take b.cs.length)
  inj : ∀ id id' b b', x.h[id]? = some b → 0 < b.gen → x.h[id']? = some b' → 0 < b'.gen → x.ρ id = x.ρ id' → id = id'
  ownav : ∀ n, x.own n → x.av n
  avlt : ∀ n, x.av n → n < x.w.heap.size
  safe : ∀ id b, x.h[id]? = some b → 0 < b.gen → b.wr = true ∨ ¬ x.av (x.ρ id)

def szOf (P : Program) (t : TypeId) : Option Nat := (P.info? t).map (·.size)
def aggOf (P : Program) (t : TypeId) : Option Bool :=
  match P.underlying t with
  | some (.struct _) => some true
  | some (.array _ _) => some true
  | some _ => some false
  | none => none
theorem run_szOf {P : Program} {t n : Nat} (h : szOf P t = some n) (w : World) : (sizeOf t).run P w = .ok n w := by
  unfold szOf at h
  cases hi : P.info? t with
  | none => simp [hi] at h
  | some i => simp [hi] at h; simp [sizeOf, typeInfo, hi, h]
theorem run_aggOf {P : Program} {t : Nat} {b : Bool} (h : aggOf P t = some b) (w : World) : (isAgg t).run P w = .ok b w := by
  unfold aggOf at h
  cases hu : P.underlying t with
  | none => simp [hu] at h
  | some d =>
    simp only [hu] at h
    unfold isAgg
    simp only [Sem.run_bind, run_underlying hu, Result.andThen_ok]
    cases d <;> simp at h <;> subst h <;> rfl

def vpart (P : Program) (t : TypeId) (cs : List V) (off : Nat) : Option V :=
  match aggOf P t with
  | some true => match szOf P t with
    | some n => some (.agg ((cs.drop off).take n))
    | none => none
  | some false => cs[off]?
  | none => none
theorem vpart_ok {x : Cx} {t : TypeId} {cs : List V} {l : List Value} {off : Nat} {r : V} (h : vpart x.P t cs off = some r) (hc : VRs x cs l) :
    ∃ v, (part t l.toArray off).run x.P x.w = .ok v x.w ∧ VR x r v := by
  unfold vpart at h
  cases ha : aggOf x.P t with
  | none => simp [ha] at h
  | some b =>
    cases b with
    | true =>
      simp only [ha] at h
      cases hs : szOf x.P t with
      | none => simp [hs] at h
      | some n =>
        simp only [hs, Option.some.injEq] at h
        subst h
        refine ⟨.agg ((l.drop off).take n).toArray, ?_, ⟨_, rfl, (hc.drop off).take n⟩⟩
        unfold part
        simp only [Sem.run_bind, run_aggOf ha, Result.andThen_ok, if_true, run_szOf hs, Sem.run_pure]
        congr 2
        apply Array.ext'
        simp
    | false =>
      simp only [ha] at h
      obtain ⟨v, hv, hr⟩ := hc.get off r h
      refine ⟨v, ?_, hr⟩
      unfold part
      simp only [Sem.run_bind, run_aggOf ha, Result.andThen_ok, Bool.false_eq_true, if_false]
      rw [show l.toArray[off]? = some v by simpa using hv]
      rfl

/-- Two whole numbers, strings, truths. -/
def vbin (op : BinOp) : V → V → Option V
  | .i k a, .i k' b =>
    match op with
    | .shl => if 0 ≤ b then some (.i k (k.wrap (a * 2 ^ min b.toNat k.bits))) else none
    | .shr => if 0 ≤ b then some (.i k (a / 2 ^ min b.toNat k.bits)) else none
    | _ =>
      if k = k' then
        match op with
        | .add => some (.i k (k.wrap (a + b)))
        | .sub => some (.i k (k.wrap (a - b)))
        | .mul => some (.i k (k.wrap (a * b)))
        | .quo => if b = 0 then none else some (.i k (k.wrap (a.tdiv b)))
        | .rem => if b = 0 then none else some (.i k (a.tmod b))
        | .and => some (.i k (Go.bits .and k a b))
        | .or => some (.i k (Go.bits .or k a b))
        | .xor => some (.i k (Go.bits .xor k a b))
        | .andNot => some (.i k (Go.bits .andNot k a b))
        | .eql => some (.b (a == b))
        | .neq => some (.b (a != b))
        | .lss => some (.b (decide (a < b)))
        | .leq => some (.b (decide (a ≤ b)))
        | .gtr => some (.b (decide (a > b)))
        | .geq => some (.b (decide (a ≥ b)))
        | _ => none
      else none
  | .s a, .s b =>
    match op with
    | .eql => some (.b (a.toList == b.toList))
    | .neq => some (.b (!(a.toList == b.toList)))
    | _ => none
  | _, _ => none
theorem run_eqGuard_int {P : Program} (op : BinOp) (t : TypeId) (x y : Operand) (k k' : IntKind) (a b : Int) (w : World) : (eqGuard op t x y (.int k a) (.int k' b)).run P w = .ok () w := by
  unfold eqGuard
  split <;> rfl
theorem run_eqGuard_str {P : Program} (op : BinOp) (t : TypeId) (x y : Operand) (a b : ByteArray) (w : World) : (eqGuard op t x y (.string a) (.string b)).run P w = .ok () w := by
  unfold eqGuard
  split <;> rfl
theorem vbin_ok {x : Cx} {op : BinOp} {t : TypeId} {p q : Operand} {c d r : V} {v u : Value} (h : vbin op c d = some r) (hv : VR x c v) (hu : VR x d u) :
    ∃ z, (do eqGuard op t p q v u; binOp op t v u : Sem Value).run x.P x.w = .ok z x.w ∧ VR x r z := by
  cases c with
  | i k a =>
    cases d with
    | i k' b =>
      simp only [VR] at hv hu
      subst hv hu
      simp only [Sem.run_bind, run_eqGuard_int, Result.andThen_ok]
      cases op with
      | shl =>
        simp only [vbin] at h
        split at h
        · rename_i hb
          simp only [Option.some.injEq] at h; subst h
          refine ⟨_, ?_, rfl⟩
          unfold binOp Op.shift
          simp only [if_neg (by omega : ¬ b < 0), Sem.run_pure]
        · cases h
      | shr =>
        simp only [vbin] at h
        split at h
        · rename_i hb
          simp only [Option.some.injEq] at h; subst h
          refine ⟨_, ?_, rfl⟩
          unfold binOp Op.shift
          simp only [if_neg (by omega : ¬ b < 0), Sem.run_pure]
          rw [Int.fdiv_eq_ediv_of_nonneg _ (Int.le_of_lt (Int.pow_pos (by omega)))]
        · cases h
      | quo =>
        simp only [vbin] at h
        split at h
        · rename_i hk; subst hk
          split at h
          · cases h
          · rename_i hb
            simp only [Option.some.injEq] at h; subst h
            refine ⟨_, ?_, rfl⟩
            simp [binOp, Op.intDiv, hb]
        · cases h
      | rem =>
        simp only [vbin] at h
        split at h
        · rename_i hk; subst hk
          split at h
          · cases h
          · rename_i hb
            simp only [Option.some.injEq] at h; subst h
            refine ⟨_, ?_, rfl⟩
            simp [binOp, Op.intDiv, hb]
        · cases h
      | _ =>
        simp only [vbin] at h
        split at h
        · rename_i hk; subst hk
          simp only [Option.some.injEq] at h; subst h
          refine ⟨_, ?_, rfl⟩
          simp [binOp, Op.intArith, Op.intBits, Op.intCmp, Go.bits]
        · cases h
    | _ => simp [vbin] at h
  | s a =>
    cases d with
    | s b =>
      simp only [VR] at hv hu
      subst hv hu
      simp only [Sem.run_bind, run_eqGuard_str, Result.andThen_ok]
      cases op <;> simp only [vbin, Option.some.injEq, reduceCtorEq] at h
      all_goals
        subst h
        exact ⟨_, rfl, rfl⟩
    | _ => simp [vbin] at h
  | _ => simp [vbin] at h
end Go.Proofs.Ytcpicekmnkjceaa.VI

import Derived.Test.YtcpicekmnkjceaaVM
import Derived.Below
import Derived.KernelRfl
namespace Go.Proofs.Ytcpicekmnkjceaa.VI
set_option linter.unusedVariables false
set_option linter.unusedSimpArgs false
open Go.RowKit

/-- A world from outside. -/
def Cx.top (P : Program) (W : World) : Cx := { P := P, w := W, ρ := fun n => n, h := [], av := fun _ => False }
theorem top_hr (P : Program) (W : World) : HR (Cx.top P W) :=
  ⟨fun id b hb => by simp [Cx.top] at hb, fun i j b b' hi => by simp [Cx.top] at hi, fun n hn => by obtain ⟨j, b, hb, _⟩ := hn; simp [Cx.top] at hb, fun n hn => hn.elim, fun id b hb => by simp [Cx.top] at hb⟩
theorem true_of_call {P : Program} {f : FuncId} {args : List V} (h : CallOk P f args fun r => r = .b true) {W : World} {us : List Value} (hu : VRs (Cx.top P W) args us) :
    Calls P f us.toArray W fun e W' => e = .returned (.bool true) ∧ Below W.heap.size W W' := by
  refine (h.2 (Cx.top P W) us rfl rfl (top_hr P W) hu).mono ?_
  rintro e W' ⟨r, u, y, rfl, rfl, rfl, hto, _, _, hr⟩
  have hr : u = .bool true := hr
  subst hr
  exact ⟨rfl, hto.beside.os, hto.beside.tape, hto.beside.output, hto.ext.mono.size, fun k hk => (hto.ext.heap k hk (by rintro ⟨j, b, hb, _⟩; simp [Cx.top] at hb)).2⟩

theorem run_fn {P : Program} {C : Orc} (hC : OrcOk P C) (hm : P.follows .mixedOrders = true) {M : Nat → Option (List Nat)} {n : Nat} {f : FuncId} {fn : Func} (hf : P.funcs[f]? = some fn) (hb : fn.body.isSome = true) (hn : (fn.name == "runtime.NumGoroutine") = false)
    {args : List V} {r : V} (h : runk P C M n fn (fn.body.getD .skip) args some = some r) : CallOk P f args fun q => q = r := by
  cases hbd : fn.body with
  | none => rw [hbd] at hb; cases hb
  | some c =>
    rw [hbd] at h
    exact (run_ok hC hm hf hbd hn h).mono fun q hq => Option.some.inj hq

/-- What is known of one function. -/
def ent (f : FuncId) (spec : List V → Tr) : Orc := fun g l => match Nat.beq g f with
  | true => spec l
  | false => .no
def ors (A B : Orc) : Orc := fun g l => match A g l with
  | .no => B g l
  | t => t
def orn : Orc := fun _ _ => .no
theorem orn_ok (P : Program) : OrcOk P orn := fun _ _ _ h => by simp [orn, Tr.val, Tr.run] at h
theorem ors_ok {P : Program} {A B : Orc} (hA : OrcOk P A) (hB : OrcOk P B) : OrcOk P (ors A B) := by
  intro g l r h
  unfold ors at h
  cases hA' : A g l with
  | no => rw [hA'] at h; exact hB g l r h
  | ret v => rw [hA'] at h; exact hA g l r (by rw [hA']; exact h)
  | br b t f => rw [hA'] at h; exact hA g l r (by rw [hA']; exact h)
theorem ent_ok {P : Program} {f : FuncId} {spec : List V → Tr} (h : ∀ l r, (spec l).val = some r → CallOk P f l fun q => q = r) : OrcOk P (ent f spec) := by
  intro g l r hr
  unfold ent at hr
  cases hb : Nat.beq g f with
  | true =>
    rw [hb] at hr
    have := Nat.eq_of_beq_eq_true hb
    subst this
    exact h l r hr
  | false => rw [hb] at hr; simp [Tr.val, Tr.run] at hr
end Go.Proofs.Ytcpicekmnkjceaa.VI

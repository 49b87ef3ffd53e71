import Derived.Test.YtcpicekmnkjceaaVQ
import Derived.LoopN
namespace Go.Proofs.Ytcpicekmnkjceaa.VI
set_option linter.unusedVariables false
set_option linter.unusedSimpArgs false

def hdR : Code → Nat
  | .region id _ _ => id + 1
  | .seq a b => match hdR a with
    | 0 => hdR b
    | n + 1 => n + 1
  | .cond _ a b => match hdR a with
    | 0 => hdR b
    | n + 1 => n + 1
  | .block _ a => hdR a
  | .loop a => hdR a
  | _ => 0
/-- The frame's places that a loop goes on with. -/
def keepT (ks : List Nat) : Nat → List V → List V
  | _, [] => []
  | j, c :: cs => (if ks.contains j = true then c else .u) :: keepT ks (j + 1) cs
theorem keepT_ok {x : Cx} (ks : List Nat) : ∀ (j : Nat) (cs : List V) (l : List Value), VRs x cs l → VRs x (keepT ks j cs) l
  | _, [], _, h => h
  | j, c :: cs, _, h => by
    obtain ⟨v, vs, rfl, h1, h2⟩ := h
    refine ⟨v, vs, rfl, ?_, keepT_ok ks (j + 1) cs vs h2⟩
    split
    · exact h1
    · trivial
def knok {R : Type} (s : St) (c : Operand) (x : Bool) (k : St → Option R) : Option R := match c with
  | .tmp n => knk s n x k
  | _ => k s
theorem knok_eq {R : Type} (s : St) (c : Operand) (x : Bool) (k : St → Option R) : knok s c x k = k (kno s c x) := by
  cases c with
  | tmp n => exact knk_eq s n x k
  | _ => rfl
section
variable {R : Type} (P : Program) (C : Orc) (M : Nat → Option (List Nat))
def loopk (body : St → (Ex → St → Option R) → Option R) (fg : St → St) : Nat → St → (Ex → St → Option R) → Option R
  | 0, _, _ => none
  | n + 1, s, k => body (fg s) fun e s' => match e with
    | .normal => loopk body fg n s' k
    | .exit id => k (.exit id) s'
    | .ret => k .ret s'
def codek (n : Nat) : Code → St → (Ex → St → Option R) → Option R
  | .skip, s, k => k .normal s
  | .region _ ops draw, s, k => match draw with
    | true => match Region.lexB .any ops with
      | true => frH (s.h ++ blanks (nallocs ops.toList)) fun h => regd P C ops 0 s.h.length ops.toList [] ⟨s.t, h⟩ (k .normal)
      | false => none
    | false => frH (s.h ++ blanks (nallocs ops.toList)) fun h => regk P C ops s.h.length ops.toList ⟨s.t, h⟩ (k .normal)
  | .seq a b, s, k => codek n a s fun e s' => match e with
    | .normal => codek n b s' k
    | .exit id => k (.exit id) s'
    | .ret => k .ret s'
  | .cond c a b, s, k => match ev s.t c with
    | .b t => match t with
      | true => knok s c true fun s => codek n a s k
      | false => knok s c false fun s => codek n b s k
    | _ => none
  | .block id a, s, k => codek n a s fun e s' => match e with
    | .normal => k .normal s'
    | .exit i => if i = id then k .normal s' else k (.exit i) s'
    | .ret => k .ret s'
  | .loop a, s, k => match M (hdR a) with
    | some ks => loopk (codek n a) (fun s => ⟨keepT ks 0 s.t, s.h⟩) n s k
    | none => none
  | .exit id, s, k => k (.exit id) s
  | .ret, s, k => k .ret s
  | _, _, _ => none
def vres1 (s : St) : ResultVar → Option V
  | .tmp n => some (s.t.getD n .u)
  | .cell a t => vloadAt P s.h t (s.t.getD a .u)
def vres (s : St) : List ResultVar → List TypeId → Option (List V)
  | [], [] => some []
  | r :: rs, t :: ts => match vres1 P s r with
    | some c => match fzv P s.h t c, vres s rs ts with
      | some (d, _), some ds => some (d :: ds)
      | _, _ => none
    | none => none
  | _, _ => none
def fink (fn : Func) (s : St) (k : V → Option R) : Option R :=
  match vres P s fn.results.toList fn.resultTypes.toList with
  | some [r] => k r
  | some [] => k (.tup [])
  | some (a :: b :: l) => k (.tup (a :: b :: l))
  | none => none
def runk (n : Nat) (fn : Func) (c : Code) (args : List V) (k : V → Option R) : Option R :=
  frL (args ++ List.replicate (fn.ntmps - args.length) .u) fun t => codek P C M n c ⟨t, []⟩ fun e s => match e with
    | .normal => fink P fn s k
    | .ret => fink P fn s k
    | .exit _ => none
end
theorem codek_ok {x0 : Cx} {R : Type} {C : Orc} (hC : OrcOk x0.P C) (hm : x0.P.follows .mixedOrders = true) {M : Nat → Option (List Nat)} {n : Nat} {res : R} : ∀ (c : Code) (x : Cx) (s : St) (a : Act) (k : Ex → St → Option R) (Q : Exit → Act → World → Prop), SR x0 x s a → codek x0.P C M n c s k = some res →
    (∀ (e : Ex) (y : Cx) (s' : St) (a' : Act), SR x0 y s' a' → k e s' = some res → Q (match e with | .normal => .normal | .exit id => .exit id | .ret => .ret) a' y.w) → c.wp x0.P Q a x.w := by
  intro c
  induction c with
  | skip => intro x s a k Q hs h hQ; exact wp_skip (hQ .normal x s a hs h)
  | exit id => intro x s a k Q hs h hQ; exact wp_exit (hQ (.exit id) x s a hs h)
  | ret => intro x s a k Q hs h hQ; exact wp_ret (hQ .ret x s a hs h)
  | region id ops draw =>
    intro x s a k Q hs h hQ
    simp only [codek, frH_eq] at h
    cases draw with
    | true =>
      simp only at h
      split at h
      · rename_i hB
        exact regd_ok hC hm hB (fun y s' a' h1 h2 => hQ .normal y s' a' h1 h2) hs h
      · cases h
    | false =>
      simp only at h
      have hm := more_to hs.hr (nallocs ops.toList)
      have hs' : SR x0 (x.more (nallocs ops.toList)) ⟨s.t, s.h ++ blanks (nallocs ops.toList)⟩ a := ⟨hm.hr, by simp [Cx.more, hs.h], hs.t.mono hm.ext.mono, hs.P, hs.to.trans hm, hs.d⟩
      have := regk_ok (Q := Q) hC (fun y s' a' h1 h2 => hQ .normal y s' a' h1 h2) ops.toList 0 _ _ _ _ (fun j => by simp) hs' h
      simp only [Nat.zero_add] at this
      refine wp_region ?_
      simpa [Cx.more] using this
  | seq p q ihp ihq =>
    intro x s a k Q hs h hQ
    simp only [codek] at h
    refine wp_seq (ihp x s a _ _ hs h ?_)
    intro e y s' a' hs' hk
    cases e with
    | normal => exact ihq y s' a' k Q hs' hk hQ
    | exit id => exact hQ (.exit id) y s' a' hs' hk
    | ret => exact hQ .ret y s' a' hs' hk
  | cond c p q ihp ihq =>
    intro x s a k Q hs h hQ
    simp only [codek] at h
    split at h
    · rename_i t ht
      have hv := VR_ev hs.t c
      rw [ht] at hv
      have hv : a.eval c = .bool t := hv
      cases t with
      | true => simp only [knok_eq, kno_eq ht] at h; exact wp_cond hv (ihp x s a k Q hs h hQ)
      | false => simp only [knok_eq, kno_eq ht] at h; exact wp_cond hv (ihq x s a k Q hs h hQ)
    · cases h
  | block id p ihp =>
    intro x s a k Q hs h hQ
    simp only [codek] at h
    refine wp_block (ihp x s a _ _ hs h ?_)
    intro e y s' a' hs' hk
    cases e with
    | normal => exact hQ .normal y s' a' hs' hk
    | ret => exact hQ .ret y s' a' hs' hk
    | exit i =>
      simp only [Exit.inBlock]
      dsimp only at hk
      split at hk
      · rename_i he; rw [if_pos he]; exact hQ .normal y s' a' hs' hk
      · rename_i he; rw [if_neg he]; exact hQ (.exit i) y s' a' hs' hk
  | loop p ihp =>
    intro x s a k Q hs h hQ
    simp only [codek] at h
    split at h
    · rename_i ks hks
      refine wp_loop_rounds n ?_
      have key : ∀ (m : Nat) (x : Cx) (s : St) (a : Act), SR x0 x s a → loopk (codek x0.P C M n p) (fun s => ⟨keepT ks 0 s.t, s.h⟩) m s k = some res → Code.rounds x0.P p Q m a x.w := by
        intro m
        induction m with
        | zero => intro x s a _ h; simp [loopk] at h
        | succ m ih =>
          intro x s a hs h
          simp only [loopk] at h
          rw [rounds_succ]
          refine ihp x ⟨keepT ks 0 s.t, s.h⟩ a _ _ ⟨hs.hr, hs.h, keepT_ok ks 0 _ _ hs.t, hs.P, hs.to, hs.d⟩ h ?_
          intro e y s' a' hs' hk
          cases e with
          | normal => exact ih y s' a' hs' hk
          | exit id => exact hQ (.exit id) y s' a' hs' hk
          | ret => exact hQ .ret y s' a' hs' hk
      exact key n x s a hs h
    · cases h
  | _ => intro x s a k Q hs h hQ; simp [codek] at h

theorem vres1_ok {x : Cx} (hx : HR x) {s : St} {a : Act} (hh : x.h = s.h) (ht : VRs x s.t a.tmps.toList) {r : ResultVar} {c : V} (h : vres1 x.P s r = some c) :
    ∃ v, (match r with | .tmp t => pure (a.tmps.getD t undef) | .cell d t => do loadVar t (← asAddr (a.tmps.getD d undef)) : Sem Value).run x.P x.w = .ok v x.w ∧ VR x c v := by
  cases r with
  | tmp n =>
    simp only [vres1, Option.some.injEq] at h; subst h
    exact ⟨_, rfl, VR_ev ht (.tmp n)⟩
  | cell d t =>
    simp only [vres1] at h
    have hv := VR_ev ht (.tmp d)
    rw [← hh] at h
    obtain ⟨z, h1, h2⟩ := vloadAt_ok hx h hv
    refine ⟨z, ?_, h2⟩
    have e : a.eval (.tmp d) = a.tmps.getD d undef := rfl
    rw [e] at h1
    simp only [Instr.loadAt, Instr.sureAddr, Sem.run_bind] at h1
    simp only [asAddr, Sem.run_bind]
    generalize a.tmps.getD d undef = u at *
    cases u with
    | pointer p => cases p with
      | none => simp [stuck] at h1
      | some ad => simpa using h1
    | _ => simp [stuck] at h1
theorem vres_ok {x : Cx} (hx : HR x) {s : St} {a : Act} (hh : x.h = s.h) (ht : VRs x s.t a.tmps.toList) {av : Nat → Prop} (hav : ∀ n, av n → x.av n) (hno : ∀ id b, x.h[id]? = some b → 0 < b.gen → ¬ av (x.ρ id)) :
    ∀ (rs : List ResultVar) (ts : List TypeId) (cs : List V), vres x.P s rs ts = some cs → ∃ l : List Value, (rs.mapM fun r => (match r with | .tmp t => pure (a.tmps.getD t undef) | .cell d t => do loadVar t (← asAddr (a.tmps.getD d undef)) : Sem Value)).run x.P x.w = .ok l x.w ∧ VRs (x.out av) cs l
  | [], [], cs, h => by simp [vres] at h; subst h; exact ⟨[], rfl, rfl⟩
  | [], _ :: _, _, h => by simp [vres] at h
  | _ :: _, [], _, h => by simp [vres] at h
  | r :: rs, t :: ts, cs, h => by
    simp only [vres] at h
    split at h
    · rename_i c hc
      split at h
      · rename_i d i ds hd hds
        simp only [Option.some.injEq] at h; subst h
        obtain ⟨v, h1, h2⟩ := vres1_ok hx hh ht hc
        obtain ⟨l, k1, k2⟩ := vres_ok hx hh ht hav hno rs ts ds hds
        rw [← hh] at hd
        refine ⟨v :: l, ?_, v, l, rfl, fzv_ok hx hav hd (fun id _ b hb hg => hno id b hb hg) h2, k2⟩
        rw [List.mapM_cons]
        simp only [Sem.run_bind, h1, Result.andThen_ok, k1, Sem.run_pure]
      · cases h
    · cases h
/-- One function: what its body comes to is what its call comes to. -/
theorem run_ok {P : Program} {R : Type} {C : Orc} (hC : OrcOk P C) (hm : P.follows .mixedOrders = true) {M : Nat → Option (List Nat)} {n : Nat} {f : FuncId} {fn : Func} {c : Code} (hf : P.funcs[f]? = some fn) (hb : fn.body = some c) (hn : (fn.name == "runtime.NumGoroutine") = false)
    {args : List V} {k : V → Option R} {res : R} (h : runk P C M n fn c args k = some res) : CallOk P f args fun r => k r = some res := by
  refine ⟨⟨fn, hf, hn, by rw [hb]; rfl⟩, fun x us hP hh hx ha => ?_⟩
  subst hP
  refine calls_of_wp hf hb ?_
  have hlen := ha.length
  have hs : SR x x ⟨args ++ List.replicate (fn.ntmps - args.length) .u, []⟩ { tmps := us.toArray ++ Array.replicate (fn.ntmps - us.toArray.size) undef, defers := [] } := by
    refine ⟨hx, hh, ?_, rfl, To.refl hx, rfl⟩
    have : VRs x (List.replicate (fn.ntmps - args.length) .u) (List.replicate (fn.ntmps - args.length) undef) := by
      generalize fn.ntmps - args.length = m
      induction m with
      | zero => rfl
      | succ m ih => exact ⟨undef, _, rfl, trivial, ih⟩
    have := ha.append this
    simpa [hlen] using this
  unfold runk at h
  rw [frL_eq] at h
  refine codek_ok hC hm c x _ _ _ _ hs h ?_
  intro e y s a hsr hk
  have fin : fink x.P fn s k = some res → a.defers = [] ∧ ∃ v, (results fn a.tmps).run x.P y.w = .ok v y.w ∧ ∃ r u z, k r = some res ∧ Ending.returned v = .returned u ∧ z.w = y.w ∧ To x z ∧ z.P = x.P ∧ z.h = [] ∧ VR z r u := by
    intro hfin
    refine ⟨hsr.d, ?_⟩
    unfold fink at hfin
    let av : Nat → Prop := fun m => y.av m ∧ ¬ ∃ id b, y.h[id]? = some b ∧ 0 < b.gen ∧ y.ρ id = m
    have hav : ∀ m, av m → y.av m := fun m hm => hm.1
    have hno : ∀ id b, y.h[id]? = some b → 0 < b.gen → ¬ av (y.ρ id) := fun id b h1 h2 h3 => h3.2 ⟨id, b, h1, h2, rfl⟩
    have hz : To x (y.out av) := by
      have h1 := hsr.to
      have hxo : ∀ m, ¬ x.own m := by rintro m ⟨id, b, hb, _⟩; rw [hh] at hb; simp at hb
      refine ⟨⟨⟨h1.ext.mono.P, fun id b hb => by rw [hh] at hb; simp at hb, fun m hm ha => ⟨fun q => (h1.ext.mono.blocks m hm ha).1 q.1, (h1.ext.mono.blocks m hm ha).2⟩, h1.ext.mono.size⟩, fun m hm _ => ⟨?_, (h1.ext.heap m hm (hxo m)).2⟩, fun m hm ha ho => ⟨h1.ext.keep m hm ha ho, ?_⟩⟩,
        ⟨fun id b hb => by simp [Cx.out] at hb, fun i j b b' hi => by simp [Cx.out] at hi, fun m hm => by obtain ⟨j, b, hb, _⟩ := hm; simp [Cx.out] at hb, fun m hm => h1.hr.avlt m hm.1, fun id b hb => by simp [Cx.out] at hb⟩, h1.beside⟩
      · rintro ⟨j, b, hb, _⟩; simp [Cx.out] at hb
      · rintro ⟨id, b, hb, hg, he⟩
        rcases h1.hr.safe id b hb hg with hw | hw
        · exact (h1.ext.heap m hm ho).1 ⟨id, b, hb, hg, hw, he⟩
        · exact hw (he ▸ h1.ext.keep m hm ha ho)
    have main : ∀ cs, vres x.P s fn.results.toList fn.resultTypes.toList = some cs → ∃ l : List Value, (fn.results.mapM fun r => (match r with | .tmp t => pure (a.tmps.getD t undef) | .cell d t => do loadVar t (← asAddr (a.tmps.getD d undef)) : Sem Value)).run x.P y.w = .ok l.toArray y.w ∧ VRs (y.out av) cs l := by
      intro cs hcs
      obtain ⟨l, h1, h2⟩ := vres_ok (x := y) hsr.hr hsr.h hsr.t hav hno _ _ cs (by rw [hsr.P]; exact hcs)
      refine ⟨l, ?_, h2⟩
      rw [hsr.P] at h1
      rw [Array.mapM_eq_mapM_toList]
      simp only [map_eq_pure_bind, Sem.run_bind, h1, Result.andThen_ok, Sem.run_pure]
    split at hfin
    · rename_i r hr
      obtain ⟨l, h1, h2⟩ := main _ hr
      obtain ⟨v, vs, rfl, h3, h4⟩ := h2
      have h4 : vs = [] := h4
      subst h4
      refine ⟨v, ?_, r, v, y.out av, hfin, rfl, rfl, hz, hsr.P, rfl, h3⟩
      unfold results
      simp only [Sem.run_bind]
      erw [h1]
      simp
    · rename_i hr
      obtain ⟨l, h1, h2⟩ := main _ hr
      have h2 : l = [] := h2
      subst h2
      refine ⟨.tuple #[], ?_, .tup [], _, y.out av, hfin, rfl, rfl, hz, hsr.P, rfl, ⟨[], rfl, rfl⟩⟩
      unfold results
      simp only [Sem.run_bind]
      erw [h1]
      simp
    · rename_i p q cs hr
      obtain ⟨l, h1, h2⟩ := main _ hr
      have hl := h2.length
      refine ⟨.tuple l.toArray, ?_, .tup (p :: q :: cs), _, y.out av, hfin, rfl, rfl, hz, hsr.P, rfl, ⟨l, rfl, h2⟩⟩
      unfold results
      simp only [Sem.run_bind]
      erw [h1]
      simp only [Result.andThen_ok, Sem.run_pure]
      rw [dif_neg (by simp [hl])]
    · cases hfin
  cases e with
  | normal => exact fin hk
  | ret => exact fin hk
  | exit id => simp at hk
end Go.Proofs.Ytcpicekmnkjceaa.VI

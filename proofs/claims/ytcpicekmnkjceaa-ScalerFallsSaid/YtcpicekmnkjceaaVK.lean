import Derived.Test.YtcpicekmnkjceaaVJ
namespace Go.Proofs.Ytcpicekmnkjceaa.VI
set_option linter.unusedVariables false
set_option linter.unusedSimpArgs false

def flat : V → Bool
  | .b _ => true
  | .i _ _ => true
  | .s _ => true
  | .nilp => true
  | .agg cs => flats cs
  | .tup cs => flats cs
  | _ => false
where flats : List V → Bool
  | [] => true
  | .b _ :: l => flats l
  | .i _ _ :: l => flats l
  | .s _ :: l => flats l
  | .nilp :: l => flats l
  | _ => false
theorem flats_VR {x y : Cx} : ∀ (cs : List V) (l : List Value), flat.flats cs = true → VRs x cs l → VRs y cs l
  | [], _, _, h => h
  | c :: cs, _, hf, h => by
    obtain ⟨v, vs, rfl, h1, h2⟩ := h
    cases c <;> simp only [flat.flats, Bool.false_eq_true] at hf
    all_goals exact ⟨v, vs, rfl, h1, flats_VR cs vs hf h2⟩
theorem flat_VR {x y : Cx} {c : V} {v : Value} (hf : flat c = true) (h : VR x c v) : VR y c v := by
  cases c <;> simp only [flat, Bool.false_eq_true] at hf
  case agg cs => obtain ⟨l, rfl, hl⟩ := h; exact ⟨l, rfl, flats_VR cs l hf hl⟩
  case tup cs => obtain ⟨l, rfl, hl⟩ := h; exact ⟨l, rfl, flats_VR cs l hf hl⟩
  all_goals exact h

def fzArgs (P : Program) (h : Heap) : List TypeId → List V → Option (List V × List Nat)
  | [], [] => some ([], [])
  | t :: ts, c :: cs => match fzv P h t c, fzArgs P h ts cs with
    | some (r, i1), some (rs, i2) => some (r :: rs, i1 ++ i2)
    | _, _ => none
  | _, _ => none
theorem fzArgs_ok {x : Cx} (hx : HR x) {av : Nat → Prop} (hav : ∀ n, av n → x.av n) : ∀ (ts : List TypeId) (cs rs : List V) (i : List Nat), fzArgs x.P x.h ts cs = some (rs, i) →
    (∀ id ∈ i, ∀ b, x.h[id]? = some b → 0 < b.gen → ¬ av (x.ρ id)) → ∀ l, VRs x cs l → VRs (x.out av) rs l
  | [], [], rs, i, h, _, l, hl => by simp [fzArgs] at h; obtain ⟨rfl, rfl⟩ := h; exact hl
  | [], _ :: _, _, _, h, _, _, _ => by simp [fzArgs] at h
  | _ :: _, [], _, _, h, _, _, _ => by simp [fzArgs] at h
  | t :: ts, c :: cs, rs, i, h, hi, l, hl => by
    obtain ⟨v, vs, rfl, h1, h2⟩ := hl
    simp only [fzArgs] at h
    split at h
    · rename_i r i1 rs' i2 e1 e2
      simp only [Option.some.injEq, Prod.mk.injEq] at h; obtain ⟨rfl, rfl⟩ := h
      exact ⟨v, vs, rfl, fzv_ok hx hav e1 (fun id hid => hi id (List.mem_append_left _ hid)) h1, fzArgs_ok hx hav ts cs _ _ e2 (fun id hid => hi id (List.mem_append_right _ hid)) vs h2⟩
    · cases h
def latch (h : Heap) (F : List Nat) : Heap := h.mapIdx fun j b => if F.contains j then { b with wr := false } else b
theorem latch_get (h : Heap) (F : List Nat) (j : Nat) : (latch h F)[j]? = (h[j]?).map fun b => if F.contains j then { b with wr := false } else b := by
  simp [latch, List.getElem?_mapIdx]
theorem latch_cs (b : Blk) (c : Bool) : (if c = true then { b with wr := false } else b).cs = b.cs := by cases c <;> rfl
theorem latch_gen (b : Blk) (c : Bool) : (if c = true then { b with wr := false } else b).gen = b.gen := by cases c <;> rfl
theorem latch_elem (b : Blk) (c : Bool) : (if c = true then { b with wr := false } else b).elem = b.elem := by cases c <;> rfl
def Cx.shut (x : Cx) (F : List Nat) : Cx := { x with h := latch x.h F, av := fun n => x.av n ∧ ∀ id ∈ F, ∀ b, x.h[id]? = some b → 0 < b.gen → x.ρ id ≠ n }
theorem shut_own {x : Cx} {F : List Nat} {n : Nat} (h : (x.shut F).own n) : x.own n ∧ ∀ id ∈ F, ∀ b, x.h[id]? = some b → 0 < b.gen → x.ρ id = n → HR x → False := by
  obtain ⟨j, b, h1, h2, h3, h4⟩ := h
  simp only [Cx.shut, latch_get] at h1 h4
  cases hb : x.h[j]? with
  | none => simp [hb] at h1
  | some b0 =>
    simp only [hb, Option.map_some, Option.some.injEq] at h1
    subst h1
    have hw : b0.wr = true ∧ F.contains j = false := by
      cases hc : F.contains j
      · rw [hc] at h3; exact ⟨h3, rfl⟩
      · rw [hc] at h3; exact absurd h3 (by simp)
    refine ⟨⟨j, b0, hb, by rw [latch_gen] at h2; exact h2, hw.1, h4⟩, fun id hid b1 hb1 hg1 he hx => ?_⟩
    have : id = j := hx.inj id j b1 b0 hb1 hg1 hb (by rw [latch_gen] at h2; exact h2) (by rw [he, h4])
    subst this
    rw [List.contains_iff_mem.2 hid] at hw
    exact absurd hw.2 (by simp)
theorem shut_to {x : Cx} (hx : HR x) (F : List Nat) : To x (x.shut F) := by
  have mono : Mono x (x.shut F) := by
    refine ⟨rfl, fun id b hb => ?_, fun n _ hn => ⟨fun k => hn k.1, rfl⟩, Nat.le_refl _⟩
    refine ⟨_, by simp only [Cx.shut, latch_get, hb, Option.map_some]; rfl, by rw [latch_gen]; exact Nat.le_refl _, fun _ _ => ⟨rfl, rfl, by rw [latch_cs]; exact Nat.le_refl _⟩⟩
  refine ⟨⟨mono, fun n _ hn => ⟨fun k => hn (shut_own k).1, rfl⟩, fun n _ ha hn => ⟨ha, fun id hid b hb hg he => ?_⟩⟩, ⟨fun id b hb hg => ?_, fun i j b b' hi hg hj hg' hρ => ?_, fun n hn => ?_, fun n hn => hx.avlt n hn.1, fun id b hb hg => ?_⟩, Beside.refl _⟩
  · rcases hx.safe id b hb hg with h | h
    · exact hn ⟨id, b, hb, hg, h, he⟩
    · exact h (he ▸ ha)
  · simp only [Cx.shut, latch_get] at hb
    cases h0 : x.h[id]? with
    | none => simp [h0] at hb
    | some b0 =>
      simp only [h0, Option.map_some, Option.some.injEq] at hb
      subst hb
      rw [latch_gen] at hg
      obtain ⟨cs, lo, hi, h1, h2, h3⟩ := hx.blk id b0 h0 hg
      exact ⟨cs, lo, hi, by rw [latch_elem]; exact h1, h2, by rw [latch_cs]; exact h3.mono mono⟩
  · simp only [Cx.shut, latch_get] at hi hj hρ
    cases h0 : x.h[i]? with
    | none => simp [h0] at hi
    | some b0 =>
      cases h1 : x.h[j]? with
      | none => simp [h1] at hj
      | some b1 =>
        simp only [h0, h1, Option.map_some, Option.some.injEq] at hi hj
        subst hi hj
        rw [latch_gen] at hg hg'
        exact hx.inj i j b0 b1 h0 hg h1 hg' hρ
  · obtain ⟨k1, k2⟩ := shut_own hn
    exact ⟨hx.ownav n k1, fun id hid b hb hg he => k2 id hid b hb hg he hx⟩
  · simp only [Cx.shut, latch_get] at hb
    cases h0 : x.h[id]? with
    | none => simp [h0] at hb
    | some b0 =>
      simp only [h0, Option.map_some, Option.some.injEq] at hb
      subst hb
      rw [latch_gen] at hg
      by_cases hc : F.contains id = true
      · exact .inr (fun k => k.2 id (List.contains_iff_mem.1 hc) b0 h0 hg rfl)
      · rcases hx.safe id b0 h0 hg with h | h
        · exact .inl (by rw [if_neg hc]; exact h)
        · exact .inr (fun k => h k.1)

def Enters (P : Program) (f : FuncId) : Prop := ∃ fn, P.funcs[f]? = some fn ∧ (fn.name == "runtime.NumGoroutine") = false ∧ fn.body.isNone = false
theorem run_callFunc {P : Program} {f : FuncId} (h : Enters P f) (args : Array Value) (w : World) : (callFunc f args).run P w = .ok (.enter f args) w := by
  obtain ⟨fn, h1, h2, h3⟩ := h
  simp only [callFunc, Sem.run_bind, run_program, Result.andThen_ok, h1, h2, h3, Bool.false_eq_true, if_false, Sem.run_pure]
/-- A call of f with these arguments comes back with an r of which Post holds, and has written nothing of what was there. -/
def CallOk (P : Program) (f : FuncId) (args : List V) (Post : V → Prop) : Prop :=
  Enters P f ∧ ∀ (x : Cx) (us : List Value), x.P = P → x.h = [] → HR x → VRs x args us → Calls P f us.toArray x.w fun e w' => ∃ r u y, Post r ∧ e = .returned u ∧ y.w = w' ∧ To x y ∧ y.P = P ∧ y.h = [] ∧ VR y r u
/-- What is known of a call: a value, or one of two. -/
inductive Tr where
  | ret (v : V)
  | br (b : Bool) (t f : Tr)
  | no
def Tr.run {R : Type} : Tr → (V → Option R) → Option R
  | .ret v, k => k v
  | .br b t f, k => match b with
    | true => t.run k
    | false => f.run k
  | .no, _ => none
def Tr.val (t : Tr) : Option V := t.run some
theorem Tr.run_eq {R : Type} (k : V → Option R) : ∀ t : Tr, t.run k = t.val.bind k
  | .ret v => rfl
  | .br true t f => run_eq k t
  | .br false t f => run_eq k f
  | .no => rfl
/-- What is known of the functions that are called. -/
abbrev Orc := FuncId → List V → Tr
def OrcOk (P : Program) (C : Orc) : Prop := ∀ f args r, (C f args).val = some r → CallOk P f args fun q => q = r
theorem CallOk.mono {P : Program} {f : FuncId} {args : List V} {A B : V → Prop} (h : CallOk P f args A) (hab : ∀ r, A r → B r) : CallOk P f args B :=
  ⟨h.1, fun x us h1 h2 h3 h4 => (h.2 x us h1 h2 h3 h4).mono fun _ _ ⟨r, u, y, q, rest⟩ => ⟨r, u, y, hab r q, rest⟩⟩
theorem OrcOk.use {P : Program} {C : Orc} (hC : OrcOk P C) {R : Type} {f : FuncId} {args : List V} {k : V → Option R} {res : R} (h : (C f args).run k = some res) : CallOk P f args fun r => k r = some res := by
  rw [Tr.run_eq] at h
  cases hv : (C f args).val with
  | none => simp [hv] at h
  | some r => exact (hC f args r hv).mono fun q hq => by subst hq; simpa [hv] using h

def callk {R : Type} (P : Program) (C : Orc) (h : Heap) (e : Operand → V) (c : Call) (k : V → Heap → Option R) : Option R :=
  match c.callee with
  | .value fo => match e fo with
    | .fn f [] => match fzArgs P h c.argTypes.toList (c.args.toList.map e) with
      | some (as, F) => (C f as).run fun r => if flat r = true then k r h else k r (latch h F)
      | none => none
    | _ => none
  | _ => none
theorem callk_ok {x : Cx} (hx : HR x) {R : Type} {C : Orc} (hC : OrcOk x.P C) {e : Operand → V} {ρ : Operand → Value} (he : ∀ o, VR x (e o) (ρ o)) {c : Call} {k : V → Heap → Option R} {res : R} (h : callk x.P C x.h e c k = some res) (ty : TypeId) :
    ∃ (f : FuncId) (as : Array Value), (do let d ← resolve ρ c ty; invoke d.target d.args : Sem Next).run x.P x.w = .ok (.enter f as) x.w ∧
      Calls x.P f as x.w fun e w' => ∃ r h' u y, k r h' = some res ∧ e = .returned u ∧ y.w = w' ∧ To x y ∧ y.P = x.P ∧ y.h = h' ∧ VR y r u := by
  unfold callk at h
  obtain ⟨callee, cas, cts⟩ := c
  cases callee with
  | value fo =>
    simp only at h
    split at h
    · rename_i f hf
      split at h
      · rename_i as F hfz
        obtain ⟨hen, hcall⟩ := hC.use h
        have hfo := he fo
        rw [hf] at hfo
        obtain ⟨l0, hfo, hl0⟩ := hfo
        have hl0 : l0 = [] := hl0
        subst hl0
        have hrun : (do let d ← resolve ρ { callee := .value fo, args := cas, argTypes := cts } ty; invoke d.target d.args : Sem Next).run x.P x.w = .ok (.enter f (cas.map ρ)) x.w := by
          simp only [resolve, hfo, Deferred.ofValue, Sem.run_bind, Sem.run_pure, Result.andThen_ok, invoke]
          simp [run_callFunc hen]
        have hsh := shut_to hx F
        have hargs := fzArgs_ok hx (av := (x.shut F).av) (fun n hn => hn.1) _ _ _ _ hfz (fun id hid b hb hg hn => hn.2 id hid b hb hg rfl) ((cas.toList.map ρ)) (VRs.map he _)
        have hxc : HR (x.out (x.shut F).av) := ⟨fun id b hb => by simp [Cx.out] at hb, fun i j b b' hi => by simp [Cx.out] at hi, fun n hn => by obtain ⟨j, b, hb, _⟩ := hn; simp [Cx.out] at hb, fun n hn => hx.avlt n hn.1, fun id b hb => by simp [Cx.out] at hb⟩
        have hcl := hcall (x.out (x.shut F).av) _ rfl rfl hxc hargs
        have hnoown : ∀ n, ¬ (x.out (x.shut F).av).own n := by
          rintro n ⟨j, b, hb, _⟩; simp [Cx.out] at hb
        -- the caller's state behind it
        have back : ∀ (z y : Cx), HR z → z.P = x.P → z.w = x.w → (∀ n, z.av n → x.av n) → To (x.out (x.shut F).av) y → To z { z with w := y.w } := by
          intro z y hz hP hw hzav hto
          have hsame : ∀ n, n < z.w.heap.size → y.w.heap[n]? = z.w.heap[n]? := fun n hn => by
            rw [hw] at hn ⊢
            exact (hto.ext.heap n hn (hnoown n)).2
          have hshape : ∀ n, n < z.w.heap.size → y.w.shape? n = z.w.shape? n := fun n hn => by unfold World.shape?; rw [hsame n hn]
          have hsz : z.w.heap.size ≤ y.w.heap.size := by rw [hw]; exact hto.ext.mono.size
          have mono : Mono z { z with w := y.w } := ⟨rfl, fun id b hb => ⟨b, hb, Nat.le_refl _, fun _ hg => ⟨rfl, hshape _ (hz.lt hb (by omega)), Nat.le_refl _⟩⟩, fun n hn ha => ⟨ha, hsame n hn⟩, hsz⟩
          refine ⟨⟨mono, fun n hn ho => ⟨ho, hsame n hn⟩, fun n _ ha _ => ha⟩, ⟨fun id b hb hg => ?_, hz.inj, hz.ownav, fun n hn => Nat.lt_of_lt_of_le (hz.avlt n hn) hsz, hz.safe⟩, ?_⟩
          · obtain ⟨cs, lo, hi, h1, h2, h3⟩ := hz.blk id b hb hg
            exact ⟨cs, lo, hi, (hsame _ (hz.lt hb hg)).trans h1, h2, h3.mono mono⟩
          · have := hto.beside
            rw [hw]; exact this
        refine ⟨f, cas.map ρ, hrun, ?_⟩
        have e1 : (cas.toList.map ρ).toArray = cas.map ρ := by rw [← Array.toList_map, Array.toArray_toList]
        rw [e1] at hcl
        refine hcl.mono ?_
        rintro e w' ⟨r, u, y, hk, rfl, rfl, hto, hyP, hyh, hr⟩
        by_cases hfl : flat r = true
        · rw [if_pos hfl] at hk
          exact ⟨r, x.h, u, { x with w := y.w }, hk, rfl, rfl, back x y hx rfl rfl (fun _ h => h) hto, rfl, rfl, flat_VR hfl hr⟩
        · rw [if_neg hfl] at hk
          have h2 := back (x.shut F) y hsh.hr rfl rfl (fun n hn => hn.1) hto
          refine ⟨r, latch x.h F, u, { x.shut F with w := y.w }, hk, rfl, rfl, hsh.trans h2, rfl, rfl, hr.mono ?_⟩
          refine ⟨hyP.symm, fun id b hb => by rw [hyh] at hb; simp at hb, fun n _ hn => ⟨fun ha => hn ?_, rfl⟩, Nat.le_refl _⟩
          exact hto.ext.keep n (hx.avlt n ha.1) ha (hnoown n)
      · cases h
    · cases h
  | _ => simp at h
end Go.Proofs.Ytcpicekmnkjceaa.VI

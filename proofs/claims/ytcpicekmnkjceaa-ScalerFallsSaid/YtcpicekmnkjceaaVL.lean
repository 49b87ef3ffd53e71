import Derived.Test.YtcpicekmnkjceaaVKb
namespace Go.Proofs.Ytcpicekmnkjceaa.VI
set_option linter.unusedVariables false
set_option linter.unusedSimpArgs false

structure St where
  t : List V
  h : Heap
inductive Ex where
  | normal
  | exit (id : Nat)
  | ret

/-- The truth of a place, once it is known, written into it. -/
def kn (s : St) (d : Nat) (x : Bool) : St := ⟨s.t.set d (.b x), s.h⟩
theorem kn_eq {s : St} {d : Nat} {x : Bool} (h : s.t.getD d .u = .b x) : kn s d x = s := by
  unfold kn
  have : s.t.set d (.b x) = s.t := by
    apply List.ext_getElem?
    intro i
    rw [List.getElem?_set]
    rw [List.getD_eq_getElem?_getD] at h
    split
    · rename_i e; subst e
      cases hc : s.t[d]? with
      | none => rw [hc] at h; cases h
      | some c =>
        rw [hc] at h
        simp only [Option.getD_some] at h
        subst h
        rw [if_pos (List.getElem?_eq_some_iff.1 hc).1]
    · rfl
  rw [this]
def kno (s : St) (c : Operand) (x : Bool) : St := match c with
  | .tmp n => kn s n x
  | _ => s
theorem kno_eq {s : St} {c : Operand} {x : Bool} (h : ev s.t c = .b x) : kno s c x = s := by
  cases c with
  | tmp n => exact kn_eq h
  | _ => rfl
def isAlloc : Op → Bool
  | .alloc _ => true
  | .box _ _ => true
  | .buildSlice _ _ _ => true
  | _ => false
def nallocs : List Oper → Nat
  | [] => 0
  | o :: l => if isAlloc o.op = true then nallocs l + 1 else nallocs l
def blankB : Blk := ⟨0, 0, .list [], false⟩
def blanks : Nat → Heap
  | 0 => []
  | n + 1 => blankB :: blanks n

section
variable {R : Type} (P : Program) (C : Orc)
def opk (id : Nat) (e : Operand → V) (h : Heap) (k : V → Heap → Option R) : Op → Option R
  | .call c => match c.callee with
    | .value _ => callk P C h e c k
    | _ => (opv P h id e (.call c)).bind fun p => k p.1 p.2
  | .binOp op t a b _ => vbink op (vbinx P op t (e a) (e b)) (e a) (e b) fun r => k r h
  | .load t a => vloadk P h t (e a) fun r => k r h
  | .indexAddr t a i => vindexAddrk P h t (e a) (e i) fun r => k r h
  | .slice t a lo hi mx => vslicek P h t (e a) (lo.map e) (hi.map e) (mx.map e) fun r => k r h
  | op => (opv P h id e op).bind fun p => k p.1 p.2
theorem bind_pr (X : Option V) (h : Heap) (k : V → Heap → Option R) : (X.bind fun r => k r h) = (X.bind fun r => some (r, h)).bind fun p => k p.1 p.2 := by
  cases X <;> rfl
theorem opk_plain {P : Program} {C : Orc} {id : Nat} {e : Operand → V} {h : Heap} {k : V → Heap → Option R} {op : Op} (hc : ∀ fo as ts, op ≠ .call { callee := .value fo, args := as, argTypes := ts }) :
    opk P C id e h k op = (opv P h id e op).bind fun p => k p.1 p.2 := by
  cases op with
  | call c =>
    obtain ⟨callee, as, ts⟩ := c
    cases callee with
    | value fo => exact absurd rfl (hc fo as ts)
    | _ => rfl
  | binOp op t a b t2 => simp only [opk, opv, vbink_eq]; exact bind_pr _ _ _
  | load t a => simp only [opk, opv, vloadk_eq]; exact bind_pr _ _ _
  | indexAddr t a i => simp only [opk, opv, vindexAddrk_eq]; exact bind_pr _ _ _
  | slice t a lo hi mx => simp only [opk, opv, vslicek_eq]; exact bind_pr _ _ _
  | _ => rfl
def isW : Op → Bool
  | .alloc _ => true
  | .box _ _ => true
  | .buildSlice _ _ _ => true
  | .store _ _ _ => true
  | .call _ => true
  | _ => false
def fin (o : Oper) (s : St) (k : St → Option R) (r : V) (h : Heap) : Option R :=
  match o.dst with
  | some d => frV r fun r => frS s.t d r fun t => match isW o.op with
    | true => frH h fun h => k ⟨t, h⟩
    | false => k ⟨t, h⟩
  | none => match isW o.op with
    | true => frH h fun h => k ⟨s.t, h⟩
    | false => k ⟨s.t, h⟩
theorem fin_eq (o : Oper) (s : St) (k : St → Option R) : fin o s k = fun r h => k ⟨putt s.t o.dst r, h⟩ := by
  funext r h
  unfold fin
  cases o.dst with
  | none => cases isW o.op <;> simp [frH_eq, putt]
  | some d => cases isW o.op <;> simp [frV_eq, frS_eq, frH_eq, putt]
def stepg (id : Nat) (o : Oper) (s : St) (k : St → Option R) (g : Bool) : Option R :=
  match g with
  | true => opk P C id (ev s.t) s.h (fin o s k) o.op
  | false => fin o s k .u s.h
/-- A place's truth, once it is known. -/
def knk (s : St) (d : Nat) (x : Bool) (k : St → Option R) : Option R := frS s.t d (.b x) fun t => k ⟨t, s.h⟩
theorem knk_eq (s : St) (d : Nat) (x : Bool) (k : St → Option R) : knk s d x k = k (kn s d x) := by unfold knk kn; rw [frS_eq]
def stepk (ops : Array Oper) (id : Nat) (o : Oper) (s : St) (k : St → Option R) : Option R :=
  match o.guard with
  | none => opk P C id (ev s.t) s.h (fin o s k) o.op
  | some (j, w) => match (ops[j]?).bind (·.dst) with
    | some d => match s.t.getD d .u with
      | .b x => match x with
        | true => knk s d true fun s => stepg P C id o s k w
        | false => knk s d false fun s => stepg P C id o s k (!w)
      | _ => none
    | none => none
def regk (ops : Array Oper) : Nat → List Oper → St → (St → Option R) → Option R
  | _, [], s, k => k s
  | id, o :: l, s, k => stepk P C ops id o s fun s' => regk ops (if isAlloc o.op = true then id + 1 else id) l s' k
end

/-- More blank names. -/
theorem blanks_get : ∀ (n j : Nat) (b : Blk), (blanks n)[j]? = some b → b.gen = 0
  | 0, _, _, h => by simp [blanks] at h
  | n + 1, 0, b, h => by simp [blanks] at h; subst h; rfl
  | n + 1, j + 1, b, h => blanks_get n j b (by simpa [blanks] using h)
def Cx.more (x : Cx) (n : Nat) : Cx := { x with h := x.h ++ blanks n }
theorem more_get {x : Cx} {n j : Nat} {b : Blk} (h : (x.more n).h[j]? = some b) : x.h[j]? = some b ∨ b.gen = 0 := by
  simp only [Cx.more, List.getElem?_append] at h
  split at h
  · exact .inl h
  · exact .inr (blanks_get _ _ _ h)
theorem more_old {x : Cx} {n j : Nat} {b : Blk} (h : x.h[j]? = some b) : (x.more n).h[j]? = some b := by
  simp only [Cx.more]
  rw [List.getElem?_append_left (List.getElem?_eq_some_iff.1 h).1]; exact h
theorem more_own {x : Cx} {n k : Nat} : (x.more n).own k → x.own k := by
  rintro ⟨j, b, h1, h2, h3, h4⟩
  rcases more_get h1 with h | h
  · exact ⟨j, b, h, h2, h3, h4⟩
  · omega
theorem more_to {x : Cx} (hx : HR x) (n : Nat) : To x (x.more n) := by
  have mono : Mono x (x.more n) := ⟨rfl, fun id b hb => ⟨b, more_old hb, Nat.le_refl _, fun _ _ => ⟨rfl, rfl, Nat.le_refl _⟩⟩, fun _ _ ha => ⟨ha, rfl⟩, Nat.le_refl _⟩
  refine ⟨⟨mono, fun _ _ ho => ⟨fun k => ho (more_own k), rfl⟩, fun _ _ ha _ => ha⟩, ⟨fun id b hb hg => ?_, fun i j b b' hi hg hj hg' hρ => ?_, fun k hk => hx.ownav k (more_own hk), hx.avlt, fun id b hb hg => ?_⟩, Beside.refl _⟩
  · rcases more_get hb with h | h
    · obtain ⟨cs, lo, hi, h1, h2, h3⟩ := hx.blk id b h hg
      exact ⟨cs, lo, hi, h1, h2, h3.mono mono⟩
    · omega
  · rcases more_get hi with h | h
    · rcases more_get hj with k | k
      · exact hx.inj i j b b' h hg k hg' hρ
      · omega
    · omega
  · rcases more_get hb with h | h
    · exact hx.safe id b h hg
    · omega

/-- The state x, s is what the frame a holds in the world; x0 is where the function began. -/
structure SR (x0 : Cx) (x : Cx) (s : St) (a : Act) : Prop where
  hr : HR x
  h : x.h = s.h
  t : VRs x s.t a.tmps.toList
  P : x.P = x0.P
  to : To x0 x
  d : a.defers = []

theorem step_ok {x0 : Cx} {R : Type} {C : Orc} (hC : OrcOk x0.P C) {id : Nat} {o : Oper} {x : Cx} {s : St} {a : Act} (hs : SR x0 x s a) {k : V → Heap → Option R} {res : R} (h : opk x0.P C id (ev s.t) s.h k o.op = some res)
    {K : Act → World → Prop} {Q : Exit → Act → World → Prop} (hK : ∀ (y : Cx) (r : V) (h' : Heap) (v : Value), To x y → y.P = x.P → y.h = h' → VR y r v → k r h' = some res → K (a.put o.dst v) y.w) : o.wp x0.P a x.w K Q := by
  have hev := VR_ev hs.t
  have hPP := hs.P
  have plain : ∀ r h', opv x0.P s.h id (ev s.t) o.op = some (r, h') → k r h' = some res → o.wp x0.P a x.w K Q := by
    intro r h' hop hk
    have hd := opv_ok (x := x) hs.hr (ρ := a.eval) hev (id := id) (o := o) (r := r) (h' := h') (by rw [hPP, hs.h]; exact hop)
    obtain ⟨n, y, h1, h2, h3, h4, h5⟩ := hd
    unfold Oper.wp
    rw [hPP] at h1
    rw [h1]
    rcases h5 with ⟨v, rfl, hv⟩ | ⟨rfl, rfl⟩
    · exact hK y r h' v h2 h3 h4 hv hk
    · exact hK y .u h' undef h2 h3 h4 trivial hk
  cases ho : o.op with
  | call c =>
    rw [ho] at h
    simp only [opk] at h
    have viaPlain : ∀ {z}, z = (opv x0.P s.h id (ev s.t) (.call c)).bind (fun p => k p.1 p.2) → z = some res → o.wp x0.P a x.w K Q := by
      intro z hz hzr
      rw [hz] at hzr
      cases hop : opv x0.P s.h id (ev s.t) (.call c) with
      | none => simp [hop] at hzr
      | some p => exact plain p.1 p.2 (by rw [ho, hop]) (by simpa [hop] using hzr)
    split at h
    · obtain ⟨f, as, h1, h3⟩ := callk_ok (x := x) hs.hr (C := C) (by rw [hPP]; exact hC) (ρ := a.eval) hev (c := c) (k := k) (res := res) (by rw [hPP, hs.h]; exact h) o.type
      unfold Oper.wp
      have he : execOp a.eval o = (do let d ← resolve a.eval c o.type; invoke d.target d.args) := by
        unfold execOp; rw [ho]
      rw [he]
      rw [hPP] at h1 h3
      rw [h1, Oper.upon_enter]
      refine h3.mono ?_
      rintro e w' ⟨r, h', u, y, h2, rfl, rfl, hto, hyP, hyh, hr⟩
      exact hK y r h' u hto (hyP.trans hPP.symm) hyh hr h2
    · exact viaPlain rfl h
  | _ =>
    rw [opk_plain (by rw [ho]; intro fo as ts; simp)] at h
    cases hop : opv x0.P s.h id (ev s.t) o.op with
    | none => simp [hop] at h
    | some p => exact plain p.1 p.2 hop (by simpa [hop] using h)

theorem stepk_ok {x0 : Cx} {R : Type} {C : Orc} (hC : OrcOk x0.P C) {ops : Array Oper} {id : Nat} {o : Oper} {x : Cx} {s : St} {a : Act} (hs : SR x0 x s a) {k : St → Option R} {res : R} (h : stepk x0.P C ops id o s k = some res)
    {K : Act → World → Prop} {Q : Exit → Act → World → Prop} (hK : ∀ (y : Cx) (s' : St) (a' : Act), SR x0 y s' a' → k s' = some res → K a' y.w) :
    (Region.wanted o (yielded ops a.tmps) = true → o.wp x0.P a x.w K Q) ∧ (¬ Region.wanted o (yielded ops a.tmps) = true → K (a.put o.dst undef) x.w) := by
  have go : opk x0.P C id (ev s.t) s.h (fin o s k) o.op = some res → o.wp x0.P a x.w K Q := by
    intro h
    rw [fin_eq] at h
    refine step_ok hC hs h ?_
    intro y r h' v h1 h2 h3 h4 h5
    exact hK y ⟨putt s.t o.dst r, h'⟩ _ ⟨h1.hr, h3, VRs_put (hs.t.mono h1.ext.mono) o.dst h4, h2.trans hs.P, hs.to.trans h1, by cases hd : o.dst <;> simp [Act.put, hs.d]⟩ h5
  unfold stepk at h
  unfold Region.wanted
  cases hg : o.guard with
  | none =>
    simp only [hg] at h
    exact ⟨fun _ => go h, fun hn => absurd rfl hn⟩
  | some jw =>
    obtain ⟨j, w⟩ := jw
    simp only [hg] at h
    simp only
    split at h
    · rename_i d hd
      split at h
      · rename_i b hb
        have hy : yielded ops a.tmps j = some b := by
          unfold yielded
          rw [hd]
          simp only [Option.bind_some]
          cases hc : s.t[d]? with
          | none => rw [List.getD_eq_getElem?_getD, hc] at hb; cases hb
          | some c =>
            rw [List.getD_eq_getElem?_getD, hc] at hb
            simp only [Option.getD_some] at hb
            subst hb
            obtain ⟨v, hv, hr⟩ := hs.t.get d (.b b) hc
            have hr : v = .bool b := hr
            subst hr
            rw [show a.tmps[d]? = some (.bool b) by simpa using hv]
        rw [hy]
        have h2 : stepg x0.P C id o s k (b == w) = some res := by
          cases b <;> simp only [knk_eq, kn_eq hb] at h <;> simpa using h
        cases hbw : (b == w) with
        | true =>
          rw [hbw] at h2
          have := eq_of_beq hbw
          subst this
          exact ⟨fun _ => go h2, fun hn => absurd (by simp) hn⟩
        | false =>
          rw [hbw] at h2
          simp only [stepg, fin_eq] at h2
          refine ⟨fun hn => absurd (by simpa using hn) (by simpa using hbw), fun _ => ?_⟩
          exact hK x ⟨putt s.t o.dst .u, s.h⟩ _ ⟨hs.hr, hs.h, VRs_put hs.t o.dst trivial, hs.P, hs.to, by cases hd : o.dst <;> simp [Act.put, hs.d]⟩ h2
      · cases h
    · cases h
theorem regk_ok {x0 : Cx} {R : Type} {C : Orc} (hC : OrcOk x0.P C) {ops : Array Oper} {k : St → Option R} {res : R} {Q : Exit → Act → World → Prop} (hK : ∀ (y : Cx) (s' : St) (a' : Act), SR x0 y s' a' → k s' = some res → Q .normal a' y.w) :
    ∀ (l : List Oper) (m id : Nat) (x : Cx) (s : St) (a : Act), (∀ j, l[j]? = ops[m + j]?) → SR x0 x s a → regk x0.P C ops id l s k = some res → wpOps x0.P ops Q ((List.range l.length).map (m + ·)) a x.w
  | [], m, id, x, s, a, _, hs, h => by
    simp only [regk] at h
    exact hK x s a hs h
  | o :: l, m, id, x, s, a, hl, hs, h => by
    simp only [regk] at h
    have h0 : ops[m]? = some o := by simpa using (hl 0).symm
    rw [List.length_cons, List.range_succ_eq_map, List.map_cons, List.map_map]
    simp only [Nat.add_zero]
    rw [wpOps_cons]
    unfold wpOp
    simp only [h0]
    have hstep := stepk_ok hC hs h (K := wpOps x0.P ops Q (List.map ((fun x => m + x) ∘ Nat.succ) (List.range l.length))) (Q := Q) (fun y s' a' hs' hk => by
      have := regk_ok hC hK l (m + 1) _ y s' a' (fun j => by have := hl (j + 1); simpa [Nat.add_assoc, Nat.add_comm 1 j] using this) hs' hk
      have e : (List.map ((fun x => m + x) ∘ Nat.succ) (List.range l.length)) = (List.range l.length).map (m + 1 + ·) := by
        apply List.map_congr_left; intro j _; simp only [Function.comp]; omega
      rw [e]; exact this)
    split
    · rename_i hw; exact .inl (hstep.1 hw)
    · rename_i hw; exact hstep.2 hw
end Go.Proofs.Ytcpicekmnkjceaa.VI

import Derived.Test.YtcpicekmnkjceaaV33
import Derived.Still
import Derived.LoopN
namespace Go.Proofs.Ytcpicekmnkjceaa.VI
set_option linter.unusedVariables false
set_option linter.unusedSimpArgs false
structure St where
  t : List V
  h : Heap
inductive Ex where
  | normal
  | exit (id : Nat)
  | ret
def kn (s : St) (d : Nat) (x : Bool) : St := ⟨s.t.set d (.b x), s.h⟩
theorem kn_eq {s : St} {d : Nat} {x : Bool} (h : s.t.getD d .u = .b x) : kn s d x = s := by
  unfold kn
  have : s.t.set d (.b x) = s.t := by
    apply List.ext_getElem?
    intro i
    rw [List.getElem?_set]
    rw [List.getD_eq_getElem?_getD] at h
    split
    · rename_i e; subst e
      cases hc : s.t[d]? with
      | none => rw [hc] at h; cases h
      | some c =>
        rw [hc] at h
        simp only [Option.getD_some] at h
        subst h
        rw [if_pos (List.getElem?_eq_some_iff.1 hc).1]
    · rfl
  rw [this]
def kno (s : St) (c : Operand) (x : Bool) : St := match c with
  | .tmp n => kn s n x
  | _ => s
theorem kno_eq {s : St} {c : Operand} {x : Bool} (h : ev s.t c = .b x) : kno s c x = s := by
  cases c with
  | tmp n => exact kn_eq h
  | _ => rfl
def nal (P : Program) (C : Orc) : Op → Nat
  | .alloc _ => 1
  | .box _ _ => 1
  | .buildSlice _ _ _ => 1
  | .makeSlice _ _ _ => 1
  | .convert s d _ => match toBys P s d with
    | true => 1
    | false => 0
  | .call { callee := .builtin .append, args := _, argTypes := _ } => 1
  | .call { callee := .value (.func f), args := _, argTypes := _ } => match C f with
    | some en => en.nf
    | none => 0
  | _ => 0
def nallocs (P : Program) (C : Orc) : List Oper → Nat
  | [] => 0
  | o :: l => nal P C o.op + nallocs P C l
def blankB : Blk := ⟨0, 0, .list [], false⟩
def blanks : Nat → Heap
  | 0 => []
  | n + 1 => blankB :: blanks n
section
variable {R : Type} (P : Program) (C : Orc)
def opk (id : Nat) (e : Operand → V) (h : Heap) (k : V → Heap → Option R) : Op → Option R
  | .call c => match c.callee with
    | .value _ => callk P C h id e c k
    | .builtin .append => match c.args.toList, c.argTypes.toList with
      | [a, b], [st, xt] => vappendk P h id st xt (e a) (e b) k
      | _, _ => none
    | _ => (opv P h id e (.call c)).bind fun p => k p.1 p.2
  | .binOp op t a b _ => vbink op (vbinx P op t (wk h (e a)) (wk h (e b))) (wk h (e a)) (wk h (e b)) fun r => k r h
  | .load t a => vloadk P h t (e a) fun r => k r h
  | .store t a c => vstorek P h t (e a) (e c) fun h' => k .u h'
  | .makeSlice t l c => if sameOp l c = true then vmakek P h id t (e l) k else none
  | .indexAddr t a i => vindexAddrk P h t (e a) (e i) fun r => k r h
  | .index t a i => vindexk P t (e a) (e i) fun r => k r h
  | .slice t a lo hi mx => vslicek P h t (e a) (lo.map e) (hi.map e) (mx.map e) fun r => k r h
  | op => (opv P h id e op).bind fun p => k p.1 p.2
theorem bind_pr (X : Option V) (h : Heap) (k : V → Heap → Option R) : (X.bind fun r => k r h) = (X.bind fun r => some (r, h)).bind fun p => k p.1 p.2 := by
  cases X <;> rfl
theorem opk_plain {P : Program} {C : Orc} {id : Nat} {e : Operand → V} {h : Heap} {k : V → Heap → Option R} {op : Op} (hc : ∀ fo as ts, op ≠ .call { callee := .value fo, args := as, argTypes := ts }) :
    opk P C id e h k op = (opv P h id e op).bind fun p => k p.1 p.2 := by
  cases op with
  | call c =>
    obtain ⟨callee, as, ts⟩ := c
    cases callee with
    | value fo => exact absurd rfl (hc fo as ts)
    | builtin b => cases b with
      | append =>
        simp only [opk, opv]
        rcases as.toList with _ | ⟨a, _ | ⟨b, _ | _⟩⟩ <;> rcases ts.toList with _ | ⟨s, _ | ⟨t, _ | _⟩⟩ <;> first | rfl | exact vappendk_eq _ _ _ _ _ _ _ _
      | _ => rfl
    | _ => rfl
  | store t a c => simp only [opk, opv, vstorek_eq]; cases vstoreAt P h t (e a) (e c) <;> rfl
  | makeSlice t l c =>
    simp only [opk, opv]
    split
    · exact vmakek_eq _ _ _ _ _ _
    · rfl
  | binOp op t a b t2 => simp only [opk, opv, vbink_eq]; exact bind_pr _ _ _
  | load t a => simp only [opk, opv, vloadk_eq]; exact bind_pr _ _ _
  | indexAddr t a i => simp only [opk, opv, vindexAddrk_eq]; exact bind_pr _ _ _
  | index t a i => simp only [opk, opv, vindexk_eq]; exact bind_pr _ _ _
  | slice t a lo hi mx => simp only [opk, opv, vslicek_eq]; exact bind_pr _ _ _
  | _ => rfl
def isW : Op → Bool
  | .makeSlice _ _ _ => true
  | .convert _ _ _ => true
  | .alloc _ => true
  | .box _ _ => true
  | .buildSlice _ _ _ => true
  | .store _ _ _ => true
  | .call _ => true
  | _ => false
def fin (o : Oper) (s : St) (k : St → Option R) (r : V) (h : Heap) : Option R :=
  match o.dst with
  | some d => frV r fun r => frS s.t d r fun t => match isW o.op with
    | true => frH h fun h => k ⟨t, h⟩
    | false => k ⟨t, h⟩
  | none => match isW o.op with
    | true => frH h fun h => k ⟨s.t, h⟩
    | false => k ⟨s.t, h⟩
theorem fin_eq (o : Oper) (s : St) (k : St → Option R) : fin o s k = fun r h => k ⟨putt s.t o.dst r, h⟩ := by
  funext r h
  unfold fin
  cases o.dst with
  | none => cases isW o.op <;> simp [frH_eq, putt]
  | some d => cases isW o.op <;> simp [frV_eq, frS_eq, frH_eq, putt]
def stepg (id : Nat) (o : Oper) (s : St) (k : St → Option R) (g : Bool) : Option R :=
  match g with
  | true => opk P C id (ev s.t) s.h (fin o s k) o.op
  | false => fin o s k (.tup []) s.h
def knk (s : St) (d : Nat) (x : Bool) (k : St → Option R) : Option R := frS s.t d (.b x) fun t => k ⟨t, s.h⟩
theorem knk_eq (s : St) (d : Nat) (x : Bool) (k : St → Option R) : knk s d x k = k (kn s d x) := by unfold knk kn; rw [frS_eq]
def stepk (ops : Array Oper) (id : Nat) (o : Oper) (s : St) (k : St → Option R) : Option R :=
  match o.guard with
  | none => opk P C id (ev s.t) s.h (fin o s k) o.op
  | some (j, w) => match (ops[j]?).bind (·.dst) with
    | some d => match s.t.getD d .u with
      | .b x => match x with
        | true => knk s d true fun s => stepg P C id o s k w
        | false => knk s d false fun s => stepg P C id o s k (!w)
      | .tup [] => stepg P C id o s k false
      | _ => none
    | none => none
def regk (ops : Array Oper) : Nat → List Oper → St → (St → Option R) → Option R
  | _, [], s, k => k s
  | id, o :: l, s, k => stepk P C ops id o s fun s' => regk ops (id + nal P C o.op) l s' k
end
theorem blanks_get : ∀ (n j : Nat) (b : Blk), (blanks n)[j]? = some b → b.gen = 0
  | 0, _, _, h => by simp [blanks] at h
  | n + 1, 0, b, h => by simp [blanks] at h; subst h; rfl
  | n + 1, j + 1, b, h => blanks_get n j b (by simpa [blanks] using h)
def Cx.more (x : Cx) (n : Nat) : Cx := { x with h := x.h ++ blanks n }
theorem more_get {x : Cx} {n j : Nat} {b : Blk} (h : (x.more n).h[j]? = some b) : x.h[j]? = some b ∨ b.gen = 0 := by
  simp only [Cx.more, List.getElem?_append] at h
  split at h
  · exact .inl h
  · exact .inr (blanks_get _ _ _ h)
theorem more_old {x : Cx} {n j : Nat} {b : Blk} (h : x.h[j]? = some b) : (x.more n).h[j]? = some b := by
  simp only [Cx.more]
  rw [List.getElem?_append_left (List.getElem?_eq_some_iff.1 h).1]; exact h
theorem more_own {x : Cx} {n k : Nat} : (x.more n).own k → x.own k := by
  rintro ⟨j, b, h1, h2, h3, h4⟩
  rcases more_get h1 with h | h
  · exact ⟨j, b, h, h2, h3, h4⟩
  · have := h2.1; omega
theorem more_to {x : Cx} (hx : HR x) (n : Nat) : To x (x.more n) := by
  have mono : Mono x (x.more n) := ⟨rfl, fun id b hb => ⟨b, more_old hb, Nat.le_refl _, fun _ l => ⟨l.2, rfl, rfl, Nat.le_refl _⟩⟩, fun _ _ ha => ⟨ha, rfl⟩, Nat.le_refl _⟩
  refine ⟨⟨mono, fun _ _ ho => ⟨fun k => ho (more_own k), rfl⟩, fun _ _ ha _ => ha⟩, ⟨fun id b hb hg => ?_, fun i j b b' hi hg hj hg' hρ => ?_, fun k hk => hx.ownav k (more_own hk), hx.avlt, fun id b hb hg => ?_⟩, Beside.refl _⟩
  · rcases more_get hb with h | h
    · obtain ⟨cs, lo, hi, h1, h2, h3, h4, h5⟩ := hx.blk id b h hg
      exact ⟨cs, lo, hi, h1, h2, h3.mono mono, h4, h5.mono mono⟩
    · have := hg.1; omega
  · rcases more_get hi with h | h
    · rcases more_get hj with k | k
      · exact hx.inj i j b b' h hg k hg' hρ
      · have := hg'.1; omega
    · have := hg.1; omega
  · rcases more_get hb with h | h
    · exact hx.safe id b h hg
    · have := hg.1; omega
theorem ok_blanks : ∀ n : Nat, hok (blanks n)
  | 0 => fun b hb => by cases hb
  | n + 1 => fun b hb => by
    rcases List.mem_cons.1 hb with e | e
    · subst e; trivial
    · exact ok_blanks n b e
theorem hok.app {h g : Heap} (a : hok h) (b : hok g) : hok (h ++ g) := fun c hc => (List.mem_append.1 hc).elim (a c) (b c)
structure SR (x0 : Cx) (x : Cx) (s : St) (a : Act) : Prop where
  hr : HR x
  h : x.h = s.h
  t : VRs x s.t a.tmps.toList
  P : x.P = x0.P
  to : To x0 x
  d : a.defers = []
  ot : oks s.t
  oh : hok s.h
theorem step_ok {x0 : Cx} {R : Type} {C : Orc} (hC : OrcOk x0.P C) {id : Nat} {o : Oper} {x : Cx} {s : St} {a : Act} (hs : SR x0 x s a) {k : V → Heap → Option R} {res : R} (h : opk x0.P C id (ev s.t) s.h k o.op = some res)
    {K : Act → World → Prop} {Q : Exit → Act → World → Prop} (hK : ∀ (y : Cx) (r : V) (h' : Heap) (v : Value), To x y → y.P = x.P → y.h = h' → VR y r v → r.ok → hok h' → k r h' = some res → K (a.put o.dst v) y.w) : o.wp x0.P a x.w K Q := by
  have hev := VR_ev hs.t
  have hPP := hs.P
  have plain : ∀ r h', opv x0.P s.h id (ev s.t) o.op = some (r, h') → k r h' = some res → o.wp x0.P a x.w K Q := by
    intro r h' hop hk
    have hd := opv_ok (x := x) hs.hr (ρ := a.eval) hev (id := id) (o := o) (r := r) (h' := h') (by rw [hPP, hs.h]; exact hop)
    obtain ⟨n, y, h1, h2, h3, h4, h5⟩ := hd
    obtain ⟨o1, o2⟩ := opv_okk hop hs.oh (fun o => ok_ev hs.ot o)
    unfold Oper.wp
    rw [hPP] at h1
    rw [h1]
    rcases h5 with ⟨v, rfl, hv⟩ | ⟨rfl, rfl⟩
    · exact hK y r h' v h2 h3 h4 hv o1 o2 hk
    · exact hK y .u h' undef h2 h3 h4 trivial trivial o2 hk
  by_cases hcall : ∃ fo as ts, o.op = .call { callee := .value fo, args := as, argTypes := ts }
  · obtain ⟨fo, as, ts, ho⟩ := hcall
    rw [ho] at h
    simp only [opk] at h
    obtain ⟨f, us, h1, h3⟩ := callk_ok (x := x) hs.hr (by rw [hs.h]; exact hs.oh) (C := C) (by rw [hPP]; exact hC) (ρ := a.eval) hev (fun o => ok_ev hs.ot o) (c := { callee := .value fo, args := as, argTypes := ts }) (k := k) (res := res) (by rw [hPP, hs.h]; exact h) o.type
    unfold Oper.wp
    have he : execOp a.eval o = (do let d ← resolve a.eval { callee := .value fo, args := as, argTypes := ts } o.type; invoke d.target d.args) := by
      unfold execOp; rw [ho]
    rw [he]
    rw [hPP] at h1 h3
    rw [h1, Oper.upon_enter]
    refine h3.mono ?_
    rintro e w' ⟨r, h', u, y, h2, o1, o2, rfl, rfl, hto, hyP, hyh, hr⟩
    exact hK y r h' u hto (hyP.trans hPP.symm) hyh hr o1 o2 h2
  · rw [opk_plain (fun fo as ts e => hcall ⟨fo, as, ts, e⟩)] at h
    cases hop : opv x0.P s.h id (ev s.t) o.op with
    | none => simp [hop] at h
    | some p => exact plain p.1 p.2 hop (by simpa [hop] using h)
theorem oks_put {t : List V} (h : oks t) (d : Option Tmp) {c : V} (hc : c.ok) : oks (putt t d c) := by
  cases d with
  | none => exact h
  | some d => exact h.set d hc
theorem stepk_ok {x0 : Cx} {R : Type} {C : Orc} (hC : OrcOk x0.P C) {ops : Array Oper} {id : Nat} {o : Oper} {x : Cx} {s : St} {a : Act} (hs : SR x0 x s a) {k : St → Option R} {res : R} (h : stepk x0.P C ops id o s k = some res)
    {K : Act → World → Prop} {Q : Exit → Act → World → Prop} (hK : ∀ (y : Cx) (s' : St) (a' : Act), SR x0 y s' a' → k s' = some res → K a' y.w) :
    (Region.wanted o (yielded ops a.tmps) = true → o.wp x0.P a x.w K Q) ∧ (¬ Region.wanted o (yielded ops a.tmps) = true → K (a.put o.dst undef) x.w) := by
  have go : opk x0.P C id (ev s.t) s.h (fin o s k) o.op = some res → o.wp x0.P a x.w K Q := by
    intro h
    rw [fin_eq] at h
    refine step_ok hC hs h ?_
    intro y r h' v h1 h2 h3 h4 o1 o2 h5
    exact hK y ⟨putt s.t o.dst r, h'⟩ _ ⟨h1.hr, h3, VRs_put (hs.t.mono h1.ext.mono) o.dst h4, h2.trans hs.P, hs.to.trans h1, by cases hd : o.dst <;> simp [Act.put, hs.d], oks_put hs.ot _ o1, o2⟩ h5
  unfold stepk at h
  unfold Region.wanted
  cases hg : o.guard with
  | none =>
    simp only [hg] at h
    exact ⟨fun _ => go h, fun hn => absurd rfl hn⟩
  | some jw =>
    obtain ⟨j, w⟩ := jw
    simp only [hg] at h
    simp only
    split at h
    · rename_i d hd
      split at h
      · rename_i b hb
        have hy : yielded ops a.tmps j = some b := by
          unfold yielded
          rw [hd]
          simp only [Option.bind_some]
          cases hc : s.t[d]? with
          | none => rw [List.getD_eq_getElem?_getD, hc] at hb; cases hb
          | some c =>
            rw [List.getD_eq_getElem?_getD, hc] at hb
            simp only [Option.getD_some] at hb
            subst hb
            obtain ⟨v, hv, hr⟩ := hs.t.get d (.b b) hc
            have hr : v = .bool b := hr
            subst hr
            rw [show a.tmps[d]? = some (.bool b) by simpa using hv]
        rw [hy]
        have h2 : stepg x0.P C id o s k (b == w) = some res := by
          cases b <;> simp only [knk_eq, kn_eq hb] at h <;> simpa using h
        cases hbw : (b == w) with
        | true =>
          rw [hbw] at h2
          have := eq_of_beq hbw
          subst this
          exact ⟨fun _ => go h2, fun hn => absurd (by simp) hn⟩
        | false =>
          rw [hbw] at h2
          simp only [stepg, fin_eq] at h2
          refine ⟨fun hn => absurd (by simpa using hn) (by simpa using hbw), fun _ => ?_⟩
          exact hK x ⟨putt s.t o.dst (.tup []), s.h⟩ _ ⟨hs.hr, hs.h, VRs_put hs.t o.dst ⟨[], rfl, rfl⟩, hs.P, hs.to, by cases hd : o.dst <;> simp [Act.put, hs.d], oks_put hs.ot _ trivial, hs.oh⟩ h2
      · rename_i hb
        have hy : yielded ops a.tmps j = none := by
          unfold yielded
          rw [hd]
          simp only [Option.bind_some]
          cases hc : s.t[d]? with
          | none => rw [List.getD_eq_getElem?_getD, hc] at hb; cases hb
          | some c =>
            rw [List.getD_eq_getElem?_getD, hc] at hb
            simp only [Option.getD_some] at hb
            subst hb
            obtain ⟨v, hv, hr⟩ := hs.t.get d (.tup []) hc
            obtain ⟨l, rfl, hl⟩ := hr
            rw [show a.tmps[d]? = some (.tuple l.toArray) by simpa using hv]
        rw [hy]
        simp only [stepg, fin_eq] at h
        exact ⟨fun hn => by simp at hn, fun _ => hK x ⟨putt s.t o.dst (.tup []), s.h⟩ _ ⟨hs.hr, hs.h, VRs_put hs.t o.dst ⟨[], rfl, rfl⟩, hs.P, hs.to, by cases hd : o.dst <;> simp [Act.put, hs.d], oks_put hs.ot _ trivial, hs.oh⟩ h⟩
      · cases h
    · cases h
theorem regk_ok {x0 : Cx} {R : Type} {C : Orc} (hC : OrcOk x0.P C) {ops : Array Oper} {k : St → Option R} {res : R} {Q : Exit → Act → World → Prop} (hK : ∀ (y : Cx) (s' : St) (a' : Act), SR x0 y s' a' → k s' = some res → Q .normal a' y.w) :
    ∀ (l : List Oper) (m id : Nat) (x : Cx) (s : St) (a : Act), (∀ j, l[j]? = ops[m + j]?) → SR x0 x s a → regk x0.P C ops id l s k = some res → wpOps x0.P ops Q ((List.range l.length).map (m + ·)) a x.w
  | [], m, id, x, s, a, _, hs, h => by
    simp only [regk] at h
    exact hK x s a hs h
  | o :: l, m, id, x, s, a, hl, hs, h => by
    simp only [regk] at h
    have h0 : ops[m]? = some o := by simpa using (hl 0).symm
    rw [List.length_cons, List.range_succ_eq_map, List.map_cons, List.map_map]
    simp only [Nat.add_zero]
    rw [wpOps_cons]
    unfold wpOp
    simp only [h0]
    have hstep := stepk_ok hC hs h (K := wpOps x0.P ops Q (List.map ((fun x => m + x) ∘ Nat.succ) (List.range l.length))) (Q := Q) (fun y s' a' hs' hk => by
      have := regk_ok hC hK l (m + 1) _ y s' a' (fun j => by have := hl (j + 1); simpa [Nat.add_assoc, Nat.add_comm 1 j] using this) hs' hk
      have e : (List.map ((fun x => m + x) ∘ Nat.succ) (List.range l.length)) = (List.range l.length).map (m + 1 + ·) := by
        apply List.map_congr_left; intro j _; simp only [Function.comp]; omega
      rw [e]; exact this)
    split
    · rename_i hw; exact .inl (hstep.1 hw)
    · rename_i hw; exact hstep.2 hw
end Go.Proofs.Ytcpicekmnkjceaa.VI

namespace Go.Proofs.Ytcpicekmnkjceaa.VI
set_option linter.unusedVariables false
set_option linter.unusedSimpArgs false
def agree (T : List Nat) (h2 h : Heap) : Prop := ∀ j ∈ T, h2[j]? = h[j]?
structure Local (T : List Nat) (U : Heap → Heap) : Prop where
  out : ∀ h j, j ∉ T → (U h)[j]? = h[j]?
  inn : ∀ h h2, agree T h2 h → ∀ j ∈ T, (U h2)[j]? = (U h)[j]?
theorem Local.id (T : List Nat) : Local T fun h => h := ⟨fun _ _ _ => rfl, fun _ _ h j hj => h j hj⟩
theorem Local.set {T : List Nat} {i : Nat} (hi : i ∈ T) (b : Blk) : Local T fun h => h.set i b := by
  refine ⟨fun h j hj => ?_, fun h h2 ha j hj => ?_⟩
  · rw [List.getElem?_set_ne]; intro e; subst e; exact hj hi
  · by_cases e : i = j
    · subst e
      have := ha i hi
      simp only [List.getElem?_set_self']
      rw [this]
    · rw [List.getElem?_set_ne e, List.getElem?_set_ne e]; exact ha j hj
theorem Local.pt {T : List Nat} {U : Heap → Heap} (f : Nat → Blk → Blk) (hU : ∀ h j, (U h)[j]? = (h[j]?).map (f j)) (hf : ∀ j b, j ∉ T → f j b = b) : Local T U := by
  refine ⟨fun h j hj => ?_, fun h h2 ha j hj => ?_⟩
  · rw [hU]
    cases h[j]? with
    | none => rfl
    | some b => rw [Option.map_some, hf j b hj]
  · rw [hU, hU, ha j hj]
theorem Local.comm {T T' : List Nat} {U U' : Heap → Heap} (h1 : Local T U) (h2 : Local T' U') (hd : ∀ i ∈ T, i ∉ T') (h : Heap) : U (U' h) = U' (U h) := by
  apply List.ext_getElem?
  intro j
  by_cases hj : j ∈ T
  · rw [h2.out (U h) j (hd j hj)]
    exact h1.inn h (U' h) (fun i hi => h2.out h i (hd i hi)) j hj
  · rw [h1.out (U' h) j hj]
    by_cases hj' : j ∈ T'
    · exact (h2.inn h (U h) (fun i hi => h1.out h i fun q => hd i q hi) j hj').symm
    · rw [h2.out h j hj', h2.out (U h) j hj', h1.out h j hj]
def hid : V → List Nat
  | .ref id _ _ => [id]
  | .rrf id _ _ _ _ => [id]
  | .own id _ _ _ _ => [id]
  | _ => []
def tchC (P : Program) (C : Orc) (h : Heap) (id : Nat) (e : Operand → V) (c : Call) : List Nat × Bool :=
  match c.callee with
  | .value fo => match e fo with
    | .fn f caps => match C f with
      | some en => match reach h 4 (dedup [] (byRef en.md (c.args.toList.map e ++ caps))) with
        | ids => match fzA P h (sig1 h ids) en.md c.argTypes.toList (c.args.toList.map e ++ caps) with
          | some (_, F) => (ids ++ (F ++ List.range' id en.nf), false)
          | none => ([], false)
      | none => ([], false)
    | _ => ([], false)
  | _ => ([], true)
def tch (P : Program) (C : Orc) (h : Heap) (id : Nat) (e : Operand → V) : Op → List Nat × Bool
  | .alloc _ => ([id], false)
  | .box _ _ => ([id], false)
  | .buildSlice _ _ _ => ([id], false)
  | .makeSlice _ _ _ => ([id], false)
  | .convert s d a => match toBys P s d with
    | true => ([id], false)
    | false => (hid (e a), true)
  | .load _ a => (hid (e a), true)
  | .store _ a _ => (hid (e a), false)
  | .nilCheck a => (hid (e a), true)
  | .binOp _ _ a b _ => (hid (e a) ++ hid (e b), true)
  | .slice _ a _ _ _ => (hid (e a), true)
  | .fieldAddr _ a _ => (hid (e a), true)
  | .indexAddr _ a _ => (hid (e a), true)
  | .call c => match c.callee with
    | .builtin .append => (id :: (c.args.toList.map fun a => hid (e a)).flatten, false)
    | .builtin _ => ((c.args.toList.map fun a => hid (e a)).flatten, true)
    | _ => tchC P C h id e c
  | _ => ([], true)
theorem cur_agree {h h2 : Heap} {id : Nat} (he : h2[id]? = h[id]?) (gen : Nat) : cur h2 id gen = cur h id gen := by unfold cur; rw [he]
theorem blkOf_agree {h h2 : Heap} {id : Nat} (he : h2[id]? = h[id]?) (gen : Nat) : blkOf h2 id gen = blkOf h id gen := by unfold blkOf; rw [he]
theorem blank_agree {h h2 : Heap} {id : Nat} (he : h2[id]? = h[id]?) : blank h2 id = blank h id := by unfold blank; rw [he]
theorem vloadAt_agree {P : Program} {h h2 : Heap} {t : TypeId} {c : V} (ha : agree (hid c) h2 h) : vloadAt P h2 t c = vloadAt P h t c := by
  cases c <;> first | rfl | (simp only [vloadAt]; rw [blkOf_agree (ha _ (by simp [hid]))])
theorem vnil_agree {h h2 : Heap} {c : V} (ha : agree (hid c) h2 h) : vnil h2 c = vnil h c := by
  cases c <;> first | rfl | (simp only [vnil]; rw [cur_agree (ha _ (by simp [hid]))])
theorem vlen_agree {P : Program} {h h2 : Heap} {t : TypeId} {c : V} (ha : agree (hid c) h2 h) : vlen P h2 t c = vlen P h t c := by
  cases c with
  | own id gen off n s =>
    have hc := cur_agree (ha id (by simp [hid])) gen
    unfold vlen
    cases P.underlying t with
    | none => rfl
    | some d => cases d with
      | slice el => show (if cur h2 id gen = true then _ else _) = (if cur h id gen = true then _ else _); rw [hc]
      | _ => rfl
  | ref id gen off => unfold vlen; cases P.underlying t with
    | none => rfl
    | some d => cases d <;> rfl
  | _ => unfold vlen; (cases P.underlying t with
    | none => rfl
    | some d => cases d <;> rfl)
theorem vslice_agree {P : Program} {h h2 : Heap} {t : TypeId} {c : V} {lo hi mx : Option V} (ha : agree (hid c) h2 h) : vslice P h2 t c lo hi mx = vslice P h t c lo hi mx := by
  cases c <;> first | rfl | (simp only [vslice]; rw [cur_agree (ha _ (by simp [hid]))])
theorem vfieldAddr_agree {P : Program} {h h2 : Heap} {t : TypeId} {c : V} {f : Nat} (ha : agree (hid c) h2 h) : vfieldAddr P h2 t c f = vfieldAddr P h t c f := by
  cases c <;> first | rfl | (simp only [vfieldAddr]; rw [cur_agree (ha _ (by simp [hid]))])
theorem rowAt_agree {h h2 : Heap} {id : Nat} (he : h2[id]? = h[id]?) (gen off s j : Nat) : rowAt h2 id gen off s j = rowAt h id gen off s j := by unfold rowAt isRows; rw [he]
theorem wk_agree {h h2 : Heap} {c : V} (ha : agree (hid c) h2 h) : wk h2 c = wk h c := by
  cases c <;> first | rfl | (simp only [wk]; rw [cur_agree (ha _ (by simp [hid]))])
theorem vsrc_agree {h h2 : Heap} {sz : Nat} {c : V} (ha : agree (hid c) h2 h) : vsrc h2 sz c = vsrc h sz c := by
  cases c <;> first | rfl | (simp only [vsrc]; rw [blkOf_agree (ha _ (by simp [hid]))])
theorem vmark_agree {h h2 : Heap} {c : V} (ha : agree (hid c) h2 h) : vmark h2 c = vmark h c := by
  cases c <;> first | rfl | (simp only [vmark]; rw [blkOf_agree (ha _ (by simp [hid]))])
theorem vstr_agree {h h2 : Heap} {c : V} (ha : agree (hid c) h2 h) : vstr h2 c = vstr h c := by
  cases c <;> first | rfl | (simp only [vstr]; rw [vsrc_agree ha])
theorem vindexAddr_agree {P : Program} {h h2 : Heap} {t : TypeId} {c i : V} (ha : agree (hid c) h2 h) : vindexAddr P h2 t c i = vindexAddr P h t c i := by
  cases c with
  | own id gen off n s => simp only [vindexAddr, cur_agree (ha id (by simp [hid])), rowAt_agree (ha id (by simp [hid]))]
  | ref id gen off => simp only [vindexAddr]; rw [cur_agree (ha _ (by simp [hid]))]
  | _ => rfl
theorem opv_loc {P : Program} {C : Orc} {h : Heap} {id : Nat} {e : Operand → V} {op : Op} {r : V} {h1 : Heap} (ho : opv P h id e op = some (r, h1)) :
    ∃ U : Heap → Heap, h1 = U h ∧ Local (tch P C h id e op).1 U ∧ ((tch P C h id e op).2 = true → ∀ g, U g = g) ∧ ∀ h2, agree (tch P C h id e op).1 h2 h → opv P h2 id e op = some (r, U h2) ∧ tch P C h2 id e op = tch P C h id e op := by
  have quiet : ∀ (X : Heap → Option V), (∀ g, opv P g id e op = (X g).bind fun z => some (z, g)) → (∀ h2, agree (tch P C h id e op).1 h2 h → X h2 = X h) → (∀ h2, tch P C h2 id e op = tch P C h id e op) →
      ∃ U : Heap → Heap, h1 = U h ∧ Local (tch P C h id e op).1 U ∧ ((tch P C h id e op).2 = true → ∀ g, U g = g) ∧ ∀ h2, agree (tch P C h id e op).1 h2 h → opv P h2 id e op = some (r, U h2) ∧ tch P C h2 id e op = tch P C h id e op := by
    intro X h3 h4 ht
    rw [h3] at ho
    obtain ⟨h5, rfl⟩ := bind_pair ho
    exact ⟨fun g => g, rfl, Local.id _, fun _ _ => rfl, fun h2 ha => ⟨by rw [h3, h4 h2 ha, h5]; rfl, ht h2⟩⟩
  cases op with
  | alloc t =>
    simp only [opv] at ho
    split at ho
    · rename_i hb
      cases hz : zcells P t with
      | none => simp [hz] at ho
      | some cs =>
        simp only [hz, Option.bind_some, Option.some.injEq, Prod.mk.injEq] at ho
        obtain ⟨rfl, rfl⟩ := ho
        refine ⟨fun g => newb g id t (mkD P t cs), rfl, Local.set (by simp [tch]) _, fun h => by simp [tch] at h, fun h2 ha => ⟨?_, rfl⟩⟩
        simp only [opv, blank_agree (ha id (by simp [tch])), hb, if_true, hz, Option.bind_some]
    · cases ho
  | box t a =>
    simp only [opv] at ho
    split at ho
    · rename_i hb
      cases hz : vcells (e a) with
      | none => simp [hz] at ho
      | some cs =>
        simp only [hz, Option.bind_some] at ho
        split at ho
        · rename_i hok
          simp only [Option.some.injEq, Prod.mk.injEq] at ho
          obtain ⟨rfl, rfl⟩ := ho
          refine ⟨fun g => newb g id t (mkD P t cs), rfl, Local.set (by simp [tch]) _, fun h => by simp [tch] at h, fun h2 ha => ⟨?_, rfl⟩⟩
          simp only [opv, blank_agree (ha id (by simp [tch])), hb, if_true, hz, Option.bind_some, hok]
        · cases ho
    · cases ho
  | buildSlice t len ps =>
    simp only [opv, vbuildSlice] at ho
    split at ho
    · rename_i elem hu
      split at ho
      · rename_i s zs hs hz
        split at ho
        · rename_i hc
          split at ho
          · rename_i cs hf
            split at ho
            · rename_i hok
              simp only [Option.some.injEq, Prod.mk.injEq] at ho
              obtain ⟨rfl, rfl⟩ := ho
              refine ⟨fun g => newb g id elem (mkD P elem cs), rfl, Local.set (by simp [tch]) _, fun h => by simp [tch] at h, fun h2 ha => ⟨?_, rfl⟩⟩
              simp only [opv, vbuildSlice, hu, hs, hz, blank_agree (ha id (by simp [tch])), hf]
              rw [if_pos hc, if_pos hok]
            · cases ho
          · cases ho
        · cases ho
      · cases ho
    · cases ho
  | makeSlice t l c =>
    simp only [opv] at ho
    split at ho
    · rename_i hs
      have ho' := ho
      unfold vmake at ho
      split at ho
      case h_2 => cases ho
      rename_i k n hl
      split at ho
      case h_2 => cases ho
      rename_i elem hu
      split at ho
      case h_2 => cases ho
      rename_i s b zs hsz hb hz
      split at ho
      case isFalse => cases ho
      rename_i hc
      split at ho
      case isFalse => cases ho
      rename_i hn
      simp only [Option.some.injEq, Prod.mk.injEq] at ho
      obtain ⟨rfl, rfl⟩ := ho
      refine ⟨fun g => newb g id elem (zD zs n.toNat), rfl, Local.set (by simp [tch]) _, fun h => by simp [tch] at h, fun h2 ha => ⟨?_, rfl⟩⟩
      simp only [opv, hs, if_true, vmake, hl, hu, hsz, hb, hz, blank_agree (ha id (by simp [tch]))]
      rw [if_pos hc, if_pos hn]
    · cases ho
  | store t a c =>
    simp only [opv] at ho
    cases hs : vstoreAt P h t (e a) (e c) with
    | none => simp [hs] at ho
    | some g =>
      simp only [hs, Option.bind_some, Option.some.injEq, Prod.mk.injEq] at ho
      obtain ⟨rfl, rfl⟩ := ho
      unfold vstoreAt at hs
      split at hs
      · rename_i i gen off hea
        split at hs
        · rename_i b vs n hb hvs hn
          split at hs
          · rename_i hc
            split at hs
            · rename_i d hd
              injection hs with hs
              subst hs
              refine ⟨fun g => g.set i { b with d := d }, rfl, Local.set (by simp [tch, hea, hid]) _, fun h => by simp [tch] at h, fun h2 ha => ⟨?_, rfl⟩⟩
              simp only [opv, vstoreAt, hea, blkOf_agree (ha i (by simp [tch, hea, hid])), hb, hvs, hn, if_pos hc, hd, Option.bind_some]
            · cases hs
          · cases hs
        · cases hs
      · rename_i i gen row sz fld hea
        split at hs
        · rename_i b vs n hb hvs hn
          split at hs
          · rename_i hc
            split at hs
            · rename_i d hd
              injection hs with hs
              subst hs
              refine ⟨fun g => g.set i { b with d := d }, rfl, Local.set (by simp [tch, hea, hid]) _, fun h => by simp [tch] at h, fun h2 ha => ⟨?_, rfl⟩⟩
              simp only [opv, vstoreAt, hea, blkOf_agree (ha i (by simp [tch, hea, hid])), hb, hvs, hn, if_pos hc, hd, Option.bind_some]
            · cases hs
          · cases hs
        · cases hs
      · cases hs
  | load t a => exact quiet (fun g => vloadAt P g t (e a)) (fun _ => rfl) (fun h2 ha => vloadAt_agree ha) fun _ => rfl
  | nilCheck a => exact quiet (fun g => vnil g (e a)) (fun _ => rfl) (fun h2 ha => vnil_agree ha) fun _ => rfl
  | slice t a lo hi mx => exact quiet (fun g => vslice P g t (e a) (lo.map e) (hi.map e) (mx.map e)) (fun _ => rfl) (fun h2 ha => vslice_agree ha) fun _ => rfl
  | fieldAddr t a f => exact quiet (fun g => vfieldAddr P g t (e a) f) (fun _ => rfl) (fun h2 ha => vfieldAddr_agree ha) fun _ => rfl
  | indexAddr t a i => exact quiet (fun g => vindexAddr P g t (e a) (e i)) (fun _ => rfl) (fun h2 ha => vindexAddr_agree ha) fun _ => rfl
  | move a => exact quiet (fun _ => some (e a)) (fun _ => rfl) (fun _ _ => rfl) fun _ => rfl
  | assign a => exact quiet (fun _ => some (e a)) (fun _ => rfl) (fun _ _ => rfl) fun _ => rfl
  | pick c a b => exact quiet (fun _ => vpick (e c) (e a) (e b)) (fun _ => rfl) (fun _ _ => rfl) fun _ => rfl
  | build t ps => exact quiet (fun _ => vbuild P t (ps.toList.map fun p => (p.1, e p.2))) (fun _ => rfl) (fun _ _ => rfl) fun _ => rfl
  | binOp o t a b t2 => exact quiet (fun g => vbinx P o t (wk g (e a)) (wk g (e b))) (fun _ => rfl) (fun h2 ha => by rw [wk_agree (fun j hj => ha j (by simp [tch, hj])), wk_agree (fun j hj => ha j (by simp [tch, hj]))]) fun _ => rfl
  | unOp o t a => exact quiet (fun _ => vun o (e a)) (fun _ => rfl) (fun _ _ => rfl) fun _ => rfl
  | convert s d a =>
    cases ht1 : toBys P s d with
    | true =>
      have ht2 : toStr P s d = false := by
        unfold toBys at ht1
        unfold toStr
        simp only [Bool.and_eq_true] at ht1
        cases hs : isByteSl P s with
        | false => rfl
        | true =>
          exfalso
          have h1 := ht1.2
          unfold isByteSl at hs
          cases hu : P.underlying s with
          | none => rw [hu] at hs; cases hs
          | some dd => rw [hu] at hs h1; cases dd <;> first | cases hs | cases h1
      simp only [opv, ht1, ht2] at ho
      split at ho
      · rename_i el hu
        have ho' := ho
        unfold vbys at ho
        split at ho
        case h_2 => cases ho
        rename_i hbl
        have key : ∀ (d' : D) (n : Nat), r = .own id 1 0 n 1 → h1 = newb h id el d' → (∀ g, blank g id = true → vbys g id el (e a) = some (.own id 1 0 n 1, newb g id el d')) → ∃ U : Heap → Heap, h1 = U h ∧ Local (tch P C h id e (.convert s d a)).1 U ∧ ((tch P C h id e (.convert s d a)).2 = true → ∀ g, U g = g) ∧ ∀ h2, agree (tch P C h id e (.convert s d a)).1 h2 h → opv P h2 id e (.convert s d a) = some (r, U h2) ∧ tch P C h2 id e (.convert s d a) = tch P C h id e (.convert s d a) := by
          intro d' n hr hh hg
          subst hr hh
          refine ⟨fun g => newb g id el d', rfl, by simp only [tch, ht1]; exact Local.set (by simp) _, fun h => by simp [tch, ht1] at h, fun g ha => ⟨?_, by simp only [tch, ht1]⟩⟩
          have hb : blank g id = true := by
            rw [blank_agree (ha id (by simp [tch, ht1]))]; exact hbl
          simp only [opv, ht1, ht2, hu, hg g hb]
        split at ho
        · rename_i x hx
          simp only [Option.some.injEq, Prod.mk.injEq] at ho
          refine key (.ints .u8 (bys x)) x.size ho.1.symm ho.2.symm fun g hg => ?_
          simp only [vbys, hg, hx]
        · rename_i xs hx
          simp only [Option.some.injEq, Prod.mk.injEq] at ho
          refine key (.ints .u8 xs) xs.length ho.1.symm ho.2.symm fun g hg => ?_
          simp only [vbys, hg, hx]
        · cases ho
      · cases ho
    | false =>
      cases ht2 : toStr P s d with
      | true => exact quiet (fun g => vstr g (e a)) (fun _ => by simp only [opv, ht2]) (fun g ha => vstr_agree (fun j hj => ha j (by simp only [tch, ht1]; exact hj))) fun g => by simp only [tch, ht1]
      | false => cases ht3 : toSelf P s d with
        | true => exact quiet (fun g => vmark g (e a)) (fun _ => by simp only [opv, ht2, ht1, ht3]) (fun g ha => vmark_agree (fun j hj => ha j (by simp only [tch, ht1]; exact hj))) fun g => by simp only [tch, ht1]
        | false => exact quiet (fun _ => vconv P s d (e a)) (fun _ => by simp only [opv, ht2, ht1, ht3]) (fun _ _ => rfl) fun g => by simp only [tch, ht1]
  | field s a f => exact quiet (fun _ => vfield P s (e a) f) (fun _ => rfl) (fun _ _ => rfl) fun _ => rfl
  | index t a i => exact quiet (fun _ => vindex P t (e a) (e i)) (fun _ => rfl) (fun _ _ => rfl) fun _ => rfl
  | extract a i => exact quiet (fun _ => vextract (e a) i) (fun _ => rfl) (fun _ _ => rfl) fun _ => rfl
  | makeFunc k first caps =>
    cases k with
    | func f => exact quiet (fun _ => if first.size = 0 then some (.fn f (caps.toList.map e)) else none) (fun g => by simp only [opv]; split <;> rfl) (fun _ _ => rfl) fun _ => rfl
    | _ => simp [opv] at ho
  | call c =>
    obtain ⟨callee, as, ts⟩ := c
    cases callee with
    | builtin b =>
      cases b with
      | len =>
        refine quiet (fun g => match as.toList, ts[0]? with | [a], some t => vlen P g t (e a) | _, _ => none) (fun g => by simp only [opv]; generalize as.toList = l; generalize ts[0]? = o; rcases l with _ | ⟨a, _ | _⟩ <;> cases o <;> rfl) (fun h2 ha => ?_) fun _ => rfl
        split
        · rename_i a t h3 h4
          exact vlen_agree fun j hj => ha j (by simp [tch, h3, hj])
        · rfl
      | min => exact quiet (fun _ => match as.toList.map e with | .i k m :: l => vmin k m l | _ => none) (fun g => by simp only [opv]; generalize as.toList.map e = l; rcases l with _ | ⟨c, l⟩ <;> (try rfl); cases c <;> rfl) (fun _ _ => rfl) fun _ => rfl
      | max => exact quiet (fun _ => match as.toList.map e with | .i k m :: l => vmax k m l | _ => none) (fun g => by simp only [opv]; generalize as.toList.map e = l; rcases l with _ | ⟨c, l⟩ <;> (try rfl); cases c <;> rfl) (fun _ _ => rfl) fun _ => rfl
      | append =>
        simp only [opv] at ho
        split at ho
        case h_2 => cases ho
        rename_i a b st xt has hts
        have ho' := ho
        unfold vappend at ho
        split at ho
        case h_2 => cases ho
        rename_i elem hst
        split at ho
        case h_2 => cases ho
        rename_i z by_ zs hsz hb hz
        split at ho
        case isFalse => cases ho
        rename_i hc
        split at ho
        case h_2 => cases ho
        rename_i bid g n d1 m d2 hbase hapx
        split at ho
        case h_2 => cases ho
        rename_i d hcat
        split at ho
        case isFalse => cases ho
        rename_i hnm
        simp only [Option.some.injEq, Prod.mk.injEq] at ho
        obtain ⟨rfl, rfl⟩ := ho
        have hbid : bid ∈ (id :: (as.toList.map fun a => hid (e a)).flatten) := by
          unfold vbase at hbase
          split at hbase
          · split at hbase
            · simp only [Option.some.injEq, Prod.mk.injEq] at hbase; rw [← hbase.1]; simp
            · cases hbase
          · rename_i hea
            split at hbase
            · split at hbase
              · split at hbase
                · simp only [Option.some.injEq, Prod.mk.injEq] at hbase
                  rw [← hbase.1]
                  simp [has, hea, hid]
                · cases hbase
              · cases hbase
            · cases hbase
          · cases hbase
        refine ⟨fun g' => newg g' bid g elem d, rfl, Local.set hbid _, fun h => by simp [tch] at h, fun h2 ha => ⟨?_, rfl⟩⟩
        have ha : agree (id :: (as.toList.map fun a => hid (e a)).flatten) h2 h := ha
        have hb1 : vbase h2 id (z + 1) elem (e a) = vbase h id (z + 1) elem (e a) := by
          unfold vbase
          split
          · rw [blank_agree (ha id (by simp))]
          · rename_i bid' g' off n' s' hea
            split
            · rw [blkOf_agree (ha bid' (by simp [has, hea, hid]))]
            · rfl
          · rfl
        have hb2 : vapx P h2 (z + 1) zs xt (e b) = vapx P h (z + 1) zs xt (e b) := by
          unfold vapx
          split
          · rfl
          · exact vsrc_agree fun j hj => ha j (by simp [has, hj])
          · rfl
        simp only [opv, has, hts, vappend, hst, hsz, hb, hz, if_pos hc, hb1, hbase, hb2, hapx, hcat, if_pos hnm]
      | _ => simp [opv] at ho
    | _ => simp [opv] at ho
  | _ => simp [opv] at ho
end Go.Proofs.Ytcpicekmnkjceaa.VI

namespace Go.Proofs.Ytcpicekmnkjceaa.VI
set_option linter.unusedVariables false
set_option linter.unusedSimpArgs false
theorem opv_congr {P : Program} {C : Orc} {h : Heap} {id : Nat} {e e' : Operand → V} {op : Op} (he : ∀ x ∈ op.operands, e x = e' x) : opv P h id e op = opv P h id e' op ∧ tch P C h id e op = tch P C h id e' op := by
  have pairs : ∀ ps : Array (Nat × Operand), (∀ x ∈ (ps.toList.map (·.2)).toArray, e x = e' x) → (ps.toList.map fun p => (p.1, e p.2)) = ps.toList.map fun p => (p.1, e' p.2) := fun ps hp =>
    List.map_congr_left fun p hm => by rw [hp p.2 (by simp; exact ⟨p.1, by simpa using hm⟩)]
  have lists : ∀ xs : Array Operand, (∀ x ∈ xs, e x = e' x) → xs.toList.map e = xs.toList.map e' := fun xs hp => List.map_congr_left fun p hm => hp p (by simpa using hm)
  cases op <;> simp only [Op.operands] at he
  case build t ps => simp only [opv, tch, pairs ps he]; exact ⟨trivial, trivial⟩
  case buildSlice t n ps => simp only [opv, tch, pairs ps he]; exact ⟨trivial, trivial⟩
  case makeFunc k first caps =>
    have := lists caps fun x hx => he x (by simp [hx])
    cases k <;> simp only [opv, tch, this] <;> exact ⟨trivial, trivial⟩
  case slice t x lo hi mx =>
    cases lo <;> cases hi <;> cases mx <;> simp_all [opv, tch]
  case call c =>
    obtain ⟨callee, as, ts⟩ := c
    have has : ∀ x ∈ as, e x = e' x := fun x hx => he x (by simp [Call.operands, hx])
    have hl := lists as has
    have hh : (as.toList.map fun a => hid (e a)) = as.toList.map fun a => hid (e' a) := List.map_congr_left fun p hm => by rw [has p (by simpa using hm)]
    cases callee with
    | builtin b =>
      cases b with
      | len =>
        refine ⟨?_, by simp only [tch, hh]⟩
        simp only [opv]
        rcases hx : as.toList with _ | ⟨a, _ | _⟩
        · rfl
        · cases ts[0]? with
          | none => rfl
          | some t => simp only; rw [has a (by rw [← Array.mem_toList_iff, hx]; simp)]
        · rfl
      | min => simp only [opv, tch, hl, hh]; exact ⟨trivial, trivial⟩
      | max => simp only [opv, tch, hl, hh]; exact ⟨trivial, trivial⟩
      | append =>
        refine ⟨?_, by simp only [tch, hh]⟩
        simp only [opv]
        rcases hx : as.toList with _ | ⟨a, _ | ⟨b, _ | _⟩⟩ <;> rcases ts.toList with _ | ⟨s, _ | ⟨t, _ | _⟩⟩ <;> first
          | rfl
          | (simp only; rw [has a (by rw [← Array.mem_toList_iff, hx]; simp), has b (by rw [← Array.mem_toList_iff, hx]; simp)])
      | _ => exact ⟨rfl, by simp only [tch, hh]⟩
    | value f =>
      have hf : e f = e' f := he f (by simp [Call.operands])
      refine ⟨rfl, ?_⟩
      simp only [tch, tchC, hl, hf]
    | _ => exact ⟨rfl, rfl⟩
  all_goals (first | exact ⟨rfl, rfl⟩ | (simp_all [opv, tch]; done))
theorem fzl_agree {h h2 : Heap} {f g : TypeId → V → Option (V × List Nat)} (hf : ∀ t c r i, f t c = some (r, i) → agree i h2 h → g t c = some (r, i)) (all : List TypeId) :
    ∀ (ts : List TypeId) (cs rs : List V) (i : List Nat), fzl f all ts cs = some (rs, i) → agree i h2 h → fzl g all ts cs = some (rs, i)
  | _, [], rs, i, h, _ => by simp [fzl] at h ⊢; exact h
  | [], c :: cs, rs, i, h, ha => by
    simp only [fzl] at h ⊢
    cases all with
    | nil => simp at h
    | cons t ts =>
      simp only at h ⊢
      split at h
      · rename_i r i1 rs' i2 e1 e2
        simp only [Option.some.injEq, Prod.mk.injEq] at h; obtain ⟨rfl, rfl⟩ := h
        rw [hf _ _ _ _ e1 fun j hj => ha j (List.mem_append_left _ hj), fzl_agree hf (t :: ts) ts cs _ _ e2 fun j hj => ha j (List.mem_append_right _ hj)]
      · cases h
  | t :: ts, c :: cs, rs, i, h, ha => by
    simp only [fzl] at h ⊢
    split at h
    · rename_i r i1 rs' i2 e1 e2
      simp only [Option.some.injEq, Prod.mk.injEq] at h; obtain ⟨rfl, rfl⟩ := h
      rw [hf _ _ _ _ e1 fun j hj => ha j (List.mem_append_left _ hj), fzl_agree hf all ts cs _ _ e2 fun j hj => ha j (List.mem_append_right _ hj)]
    · cases h
theorem fzc_agree {P : Program} {h h2 : Heap} : ∀ (d : Nat) (t : TypeId) (c r : V) (i : List Nat), fzc P h d t c = some (r, i) → agree i h2 h → fzc P h2 d t c = some (r, i)
  | 0, _, _, _, _, e, _ => by simp [fzc] at e
  | d + 1, t, c, r, i, e, ha => by
    cases c with
    | own id gen off n sz =>
      simp only [fzc] at e ⊢
      have hid : id ∈ i := by
        split at e
        · cases e
        · split at e
          · split at e
            · simp only [Option.some.injEq, Prod.mk.injEq] at e; rw [← e.2]; simp
            · cases e
          · split at e
            · split at e
              · simp only [Option.some.injEq, Prod.mk.injEq] at e; rw [← e.2]; simp
              · cases e
            · cases e
          · split at e
            · simp only [Option.some.injEq, Prod.mk.injEq] at e; rw [← e.2]; simp
            · cases e
      rw [blkOf_agree (ha id hid)]
      split at e
      · cases e
      · rename_i b hb
        split at e
        · rename_i k xs hd
          exact e
        · rename_i cs hd
          split at e
          · rename_i el hu
            split at e
            · rename_i ds ids hz
              simp only [Option.some.injEq, Prod.mk.injEq] at e
              obtain ⟨rfl, rfl⟩ := e
              rw [fzl_agree (g := fzc P h2 d) (fun t c r i h1 h2 => fzc_agree d t c r i h1 h2) _ _ _ _ _ hz fun j hj => ha j (by simp [hj])]
            · cases e
          · cases e
        · exact e
    | ref id gen off =>
      simp only [fzc] at e ⊢
      have hid : id ∈ i := by
        split at e
        · cases e
        · split at e
          · simp only [Option.some.injEq, Prod.mk.injEq] at e; rw [← e.2]; simp
          · split at e
            · simp only [Option.some.injEq, Prod.mk.injEq] at e; rw [← e.2]; simp
            · cases e
          · cases e
      rw [blkOf_agree (ha id hid)]
      split at e
      · cases e
      · split at e
        · exact e
        · split at e
          · rename_i ds ids hz
            simp only [Option.some.injEq, Prod.mk.injEq] at e
            obtain ⟨rfl, rfl⟩ := e
            rw [fzl_agree (g := fzc P h2 d) (fun t c r i h1 h2 => fzc_agree d t c r i h1 h2) _ _ _ _ _ hz fun j hj => ha j (by simp [hj])]
          · cases e
        · cases e
    | fn f cs =>
      simp only [fzc] at e ⊢
      split at e
      · rename_i ds ids hz
        simp only [Option.some.injEq, Prod.mk.injEq] at e
        obtain ⟨rfl, rfl⟩ := e
        rw [fzl_agree (g := fzc P h2 d) (fun t c r i h1 h2 => fzc_agree d t c r i h1 h2) _ _ _ _ _ hz ha]
      · cases e
    | _ => exact e
theorem fzv_agree {P : Program} {h h2 : Heap} {t : TypeId} {c r : V} {i : List Nat} (e : fzv P h t c = some (r, i)) (ha : agree i h2 h) : fzv P h2 t c = some (r, i) := by
  cases c with
  | agg cs =>
    simp only [fzv] at e ⊢
    split at e
    · rename_i ds ids hz
      simp only [Option.some.injEq, Prod.mk.injEq] at e
      obtain ⟨rfl, rfl⟩ := e
      rw [fzl_agree (g := fzc P h2 6) (fun t c r i h1 h2 => fzc_agree 6 t c r i h1 h2) _ _ _ _ _ hz ha]
    · cases e
  | _ => simp only [fzv] at e ⊢; exact fzc_agree 6 _ _ _ _ e ha
theorem fzA_agree {P : Program} {h h2 : Heap} {σ : Rn} : ∀ (cs : List V) (ms : List Bool) (ts : List TypeId) (rs : List V) (i : List Nat), fzA P h σ ms ts cs = some (rs, i) → agree i h2 h → fzA P h2 σ ms ts cs = some (rs, i)
  | [], _, _, _, _, e, _ => by simpa [fzA] using e
  | c :: cs, ms, ts, rs, i, e, ha => by
    simp only [fzA] at e ⊢
    split at e
    case h_2 => cases e
    rename_i rs' i2 e2
    split at e
    · simp only [Option.some.injEq, Prod.mk.injEq] at e; obtain ⟨rfl, rfl⟩ := e
      rw [fzA_agree cs _ _ _ _ e2 ha]
    · rename_i hm
      split at e
      · rename_i r i1 e1
        simp only [Option.some.injEq, Prod.mk.injEq] at e; obtain ⟨rfl, rfl⟩ := e
        rw [fzA_agree cs _ _ _ _ e2 fun j hj => ha j (List.mem_append_right _ hj)]
        have e1' := fzv_agree e1 fun j hj => ha j (List.mem_append_left _ hj)
        cases ms with
        | nil => simp only [e1']
        | cons b ms => cases b with
          | true => exact (hm ms rfl).elim
          | false => simp only [e1']
      · cases e
theorem behind_agree {h h2 : Heap} : ∀ {l : List Nat}, agree l h2 h → Go.Proofs.Ytcpicekmnkjceaa.VI.behind h2 l = Go.Proofs.Ytcpicekmnkjceaa.VI.behind h l
  | [], _ => rfl
  | i :: l, ha => by
    simp only [Go.Proofs.Ytcpicekmnkjceaa.VI.behind]
    rw [ha i (by simp), behind_agree (l := l) fun j hj => ha j (by simp [hj])]
theorem reach_sub (h : Heap) : ∀ (n : Nat) (ids : List Nat), ∀ j ∈ ids, j ∈ reach h n ids
  | 0, _, _, hj => hj
  | n + 1, ids, j, hj => reach_sub h n _ j (dedup_sub _ _ j hj)
theorem reach_agree {h h2 : Heap} : ∀ (n : Nat) (ids : List Nat), agree (reach h n ids) h2 h → reach h2 n ids = reach h n ids
  | 0, _, _ => rfl
  | n + 1, ids, ha => by
    simp only [reach] at ha ⊢
    have hsub : ∀ j ∈ ids, j ∈ reach h n (dedup ids (Go.Proofs.Ytcpicekmnkjceaa.VI.behind h ids)) := fun j hj => reach_sub h n _ j (dedup_sub _ _ j hj)
    rw [behind_agree (l := ids) fun j hj => ha j (hsub j hj)]
    exact reach_agree n _ ha
theorem sig1_agree {h h2 : Heap} {ids : List Nat} (ha : agree ids h2 h) : sig1 h2 ids = sig1 h ids := by
  funext id g
  unfold sig1
  cases hi : ids.idxOf? id with
  | none => cases cur h2 id g <;> cases cur h id g <;> rfl
  | some j => rw [cur_agree (ha id (List.mem_of_getElem? (idx_some hi)))]
theorem sig2_agree {h h2 : Heap} {h' : Heap} {ids : List Nat} {id0 : Nat} (ha : agree ids h2 h) : sig2 h2 h' ids id0 = sig2 h h' ids id0 := by
  funext j g
  unfold sig2
  cases cur h' j g with
  | false => rfl
  | true =>
    simp only
    cases hj : ids[j]? with
    | none => rfl
    | some i => simp only; rw [ha i (List.mem_of_getElem? hj)]
theorem hand_agree {h h2 : Heap} {σ : Rn} : ∀ {ids : List Nat}, agree ids h2 h → hand h2 σ ids = hand h σ ids
  | [], _ => rfl
  | i :: l, ha => by
    simp only [hand]
    rw [ha i (by simp), hand_agree (ids := l) fun j hj => ha j (by simp [hj])]
theorem blanksAt_agree {h h2 : Heap} : ∀ {n id : Nat}, (∀ j, id ≤ j → j < id + n → h2[j]? = h[j]?) → blanksAt h2 n id = blanksAt h n id
  | 0, _, _ => rfl
  | n + 1, id, ha => by
    simp only [blanksAt]
    rw [blank_agree (ha id (Nat.le_refl _) (by omega)), blanksAt_agree (n := n) (id := id + 1) fun j h1 h2 => ha j (by omega) (by omega)]
section
variable (P : Program) (C : Orc)
def opd (id : Nat) (e : Operand → V) (h : Heap) (op : Op) : Option (V × Heap) := opk P C id e h (fun r g => some (r, g)) op
end
theorem opd_plain {P : Program} {C : Orc} {id : Nat} {e : Operand → V} {h : Heap} {op : Op} (hc : ∀ fo as ts, op ≠ .call { callee := .value fo, args := as, argTypes := ts }) : opd P C id e h op = opv P h id e op := by
  unfold opd
  rw [opk_plain hc]
  cases opv P h id e op <;> rfl
theorem callk_bind {P : Program} {C : Orc} {id : Nat} {e : Operand → V} {h : Heap} {R : Type} (k : V → Heap → Option R) (c : Call) : callk P C h id e c k = (callk P C h id e c fun r g => some (r, g)).bind fun p => k p.1 p.2 := by
  unfold callk
  cases c.callee with
  | value fo =>
    simp only
    cases e fo with
    | fn f caps =>
      simp only
      cases C f with
      | none => rfl
      | some en =>
        simp only
        generalize reach h 4 (dedup [] (byRef en.md (c.args.toList.map e ++ caps))) = ids
        cases fzA P h (sig1 h ids) en.md c.argTypes.toList (c.args.toList.map e ++ caps) with
        | none => rfl
        | some p =>
          obtain ⟨as, F⟩ := p
          simp only
          cases disj F ids with
          | false => rfl
          | true =>
            simp only
            cases hand h (sig1 h ids) ids with
            | none => rfl
            | some hc =>
              simp only [Tr.run_eq]
              cases (en.tr as hc).val with
              | none => rfl
              | some q =>
                obtain ⟨r, h'⟩ := q
                simp only [Option.bind_some]
                cases wb h id ids F en.nf r h' <;> rfl
    | _ => rfl
  | _ => rfl
theorem opk_bind {P : Program} {C : Orc} {id : Nat} {e : Operand → V} {h : Heap} {R : Type} (k : V → Heap → Option R) (op : Op) : opk P C id e h k op = (opd P C id e h op).bind fun p => k p.1 p.2 := by
  by_cases hc : ∃ fo as ts, op = .call { callee := .value fo, args := as, argTypes := ts }
  · obtain ⟨fo, as, ts, rfl⟩ := hc
    unfold opd
    simp only [opk]
    exact callk_bind k _
  · have hc : ∀ fo as ts, op ≠ .call { callee := .value fo, args := as, argTypes := ts } := fun fo as ts e => hc ⟨fo, as, ts, e⟩
    rw [opd_plain hc, opk_plain hc]
theorem opd_congr {P : Program} {C : Orc} {id : Nat} {e e' : Operand → V} {h : Heap} {op : Op} (he : ∀ x ∈ op.operands, e x = e' x) : opd P C id e h op = opd P C id e' h op := by
  by_cases hc : ∃ fo as ts, op = .call { callee := .value fo, args := as, argTypes := ts }
  · obtain ⟨fo, as, ts, rfl⟩ := hc
    have has : ∀ x ∈ as, e x = e' x := fun x hx => he x (by simp [Op.operands, Call.operands, hx])
    have hfo : e fo = e' fo := he fo (by simp [Op.operands, Call.operands])
    have hl : as.toList.map e = as.toList.map e' := List.map_congr_left fun p hm => has p (by simpa using hm)
    unfold opd
    simp only [opk, callk, hfo, hl]
  · have e1 : ∀ e : Operand → V, opd P C id e h op = opv P h id e op := fun e => opd_plain fun fo as ts e => hc ⟨fo, as, ts, e⟩
    rw [e1, e1, (opv_congr (C := C) he).1]
theorem newBlk_out {σ : Rn} {h' : Heap} {ids : List Nat} {id0 j : Nat} {b : Blk} (h1 : j ∉ ids) (h2 : ¬ (id0 ≤ j ∧ j < id0 + (h'.length - ids.length))) : newBlk σ h' ids id0 j b = b := by
  unfold newBlk
  cases hi : ids.idxOf? j with
  | some k => exact absurd (List.mem_of_getElem? (idx_some hi)) h1
  | none =>
    simp only
    split
    · rename_i hq
      simp only [Bool.and_eq_true, decide_eq_true_eq] at hq
      exact absurd hq h2
    · rfl
theorem wbH_local {T : List Nat} {σ : Rn} {h' : Heap} {ids F : List Nat} {id0 : Nat} (hT : ∀ j, j ∉ T → j ∉ ids ∧ j ∉ F ∧ ¬ (id0 ≤ j ∧ j < id0 + (h'.length - ids.length))) (l : Bool) : Local T fun g => wbH σ (if l = true then latch g F else g) h' ids id0 := by
  refine Local.pt (fun j b => newBlk σ h' ids id0 j (if (l && F.contains j) = true then { b with wr := false } else b)) (fun g j => ?_) fun j b hj => ?_
  · rw [wbH_get]
    cases l with
    | true => simp only [if_true, latch_get, Option.map_map, Bool.true_and]; rfl
    | false => simp
  · obtain ⟨h1, h2, h3⟩ := hT j hj
    have : F.contains j = false := by
      cases hc : F.contains j with
      | false => rfl
      | true => exact absurd (List.contains_iff_mem.1 hc) h2
    rw [this, Bool.and_false, if_neg (by simp)]
    exact newBlk_out h1 h3
theorem opd_loc {P : Program} {C : Orc} {id : Nat} {e : Operand → V} {h : Heap} {op : Op} {r : V} {h1 : Heap} (ho : opd P C id e h op = some (r, h1)) :
    ∃ U : Heap → Heap, h1 = U h ∧ Local (tch P C h id e op).1 U ∧ ((tch P C h id e op).2 = true → ∀ g, U g = g) ∧ ∀ h2, agree (tch P C h id e op).1 h2 h → opd P C id e h2 op = some (r, U h2) ∧ tch P C h2 id e op = tch P C h id e op := by
  by_cases hc : ∃ fo as ts, op = .call { callee := .value fo, args := as, argTypes := ts }
  · obtain ⟨fo, as, ts, rfl⟩ := hc
    unfold opd at ho ⊢
    simp only [opk, callk] at ho ⊢
    cases hfo : e fo with
    | fn f caps =>
      rw [hfo] at ho
      simp only at ho ⊢
      cases hen : C f with
      | none => rw [hen] at ho; cases ho
      | some en =>
        rw [hen] at ho
        simp only at ho ⊢
        generalize hids : reach h 4 (dedup [] (byRef en.md (as.toList.map e ++ caps))) = ids at ho
        cases hz : fzA P h (sig1 h ids) en.md ts.toList (as.toList.map e ++ caps) with
        | none => rw [hz] at ho; cases ho
        | some p =>
          obtain ⟨xs, F⟩ := p
          rw [hz] at ho
          simp only at ho
          cases hdj : disj F ids with
          | false => rw [hdj] at ho; cases ho
          | true =>
            rw [hdj] at ho
            simp only at ho
            cases hh : hand h (sig1 h ids) ids with
            | none => rw [hh] at ho; cases ho
            | some hc =>
              rw [hh] at ho
              simp only [Tr.run_eq] at ho
              cases hv : (en.tr xs hc).val with
              | none => rw [hv] at ho; cases ho
              | some q =>
                obtain ⟨r', h'⟩ := q
                rw [hv] at ho
                simp only [Option.bind_some] at ho
                cases hw : wb h id ids F en.nf r' h' with
                | none => rw [hw] at ho; cases ho
                | some q2 =>
                  rw [hw] at ho
                  obtain ⟨qa, qb⟩ := q2
                  simp only [Option.some.injEq, Prod.mk.injEq] at ho
                  obtain ⟨hqa, hqb⟩ := ho
                  subst hqa hqb
                  have hT : tch P C h id e (.call { callee := .value fo, args := as, argTypes := ts }) = (ids ++ (F ++ List.range' id en.nf), false) := by
                    simp only [tch, tchC, hfo, hen, hids, hz]
                  have hw' := hw
                  unfold wb at hw
                  split at hw
                  case h_2 => cases hw
                  rename_i hck
                  have hck' := hck
                  simp only [Bool.and_eq_true] at hck'
                  have c2 := Nat.le_of_ble_eq_true hck'.2.1
                  have hloc := fun l : Bool => wbH_local (T := ids ++ (F ++ List.range' id en.nf)) (σ := sig2 h h' ids id) (h' := h') (ids := ids) (F := F) (id0 := id) (fun j hj => by
                    simp only [List.mem_append, List.mem_range'_1, not_or] at hj
                    exact ⟨hj.1, hj.2.1, fun hq => hj.2.2 ⟨hq.1, by omega⟩⟩) l
                  have key : ∀ l : Bool, (nofz r' && allNofz h') = !l → qa = rn (sig2 h h' ids id) r' → qb = wbH (sig2 h h' ids id) (if l = true then latch h F else h) h' ids id →
                      ∃ U : Heap → Heap, qb = U h ∧ Local (tch P C h id e (.call { callee := .value fo, args := as, argTypes := ts })).1 U ∧ ((tch P C h id e (.call { callee := .value fo, args := as, argTypes := ts })).2 = true → ∀ g, U g = g) ∧ ∀ h2, agree (tch P C h id e (.call { callee := .value fo, args := as, argTypes := ts })).1 h2 h →
                        (match reach h2 4 (dedup [] (byRef en.md (as.toList.map e ++ caps))) with
                          | ids => match fzA P h2 (sig1 h2 ids) en.md ts.toList (as.toList.map e ++ caps) with
                            | some (as, F) => match disj F ids with
                              | true => match hand h2 (sig1 h2 ids) ids with
                                | some hc => (en.tr as hc).run fun r h' => match wb h2 id ids F en.nf r h' with
                                  | some (r2, h3) => some (r2, h3)
                                  | none => none
                                | none => none
                              | false => none
                            | none => none) = some (qa, U h2) ∧ tch P C h2 id e (.call { callee := .value fo, args := as, argTypes := ts }) = tch P C h id e (.call { callee := .value fo, args := as, argTypes := ts }) := by
                    intro l hl hr hh1
                    refine ⟨fun g => wbH (sig2 h h' ids id) (if l = true then latch g F else g) h' ids id, hh1, by rw [hT]; exact hloc l, (fun hq => by rw [hT] at hq; cases hq), fun h2 ha => ?_⟩
                    rw [hT] at ha
                    have a1 : agree ids h2 h := fun j hj => ha j (List.mem_append_left _ hj)
                    have a2 : agree F h2 h := fun j hj => ha j (List.mem_append_right _ (List.mem_append_left _ hj))
                    have a3 : ∀ j, id ≤ j → j < id + (h'.length - ids.length) → h2[j]? = h[j]? := fun j h1 h3 => ha j (List.mem_append_right _ (List.mem_append_right _ (by rw [List.mem_range'_1]; omega)))
                    have e1 : reach h2 4 (dedup [] (byRef en.md (as.toList.map e ++ caps))) = ids := by
                      rw [reach_agree 4 _ (by rw [hids]; exact a1), hids]
                    have e2 := sig1_agree a1
                    have e3 := fzA_agree _ _ _ _ _ hz a2
                    have e4 : hand h2 (sig1 h ids) ids = some hc := by rw [hand_agree a1]; exact hh
                    have e5 := sig2_agree (h' := h') (id0 := id) a1
                    have e6 := blanksAt_agree (h := h) (h2 := h2) (n := h'.length - ids.length) (id := id) a3
                    constructor
                    · rw [e1]
                      simp only [e2, e3, hdj, e4, Tr.run_eq, hv, Option.bind_some]
                      have hw2 : wb h2 id ids F en.nf r' h' = some (qa, wbH (sig2 h h' ids id) (if l = true then latch h2 F else h2) h' ids id) := by
                        unfold wb
                        rw [e6, hck, e5, hl, hr]
                        cases l <;> rfl
                      rw [hw2]
                    · rw [hT]
                      simp only [tch, tchC, hfo, hen, e1, e2, e3]
                  split at hw
                  · rename_i hnz
                    simp only [Option.some.injEq, Prod.mk.injEq] at hw
                    exact key false (by rw [hnz]; rfl) hw.1.symm (by rw [if_neg (by simp)]; exact hw.2.symm)
                  · rename_i hnz
                    simp only [Option.some.injEq, Prod.mk.injEq] at hw
                    exact key true (by rw [hnz]; rfl) hw.1.symm (by rw [if_pos rfl]; exact hw.2.symm)
    | _ => rw [hfo] at ho; cases ho
  · have e1 : ∀ h : Heap, opd P C id e h op = opv P h id e op := fun h => opd_plain fun fo as ts e => hc ⟨fo, as, ts, e⟩
    rw [e1] at ho
    obtain ⟨U, h2, h3, h4, h5⟩ := opv_loc (C := C) ho
    exact ⟨U, h2, h3, h4, fun g hg => ⟨by rw [e1, (h5 g hg).1], (h5 g hg).2⟩⟩
end Go.Proofs.Ytcpicekmnkjceaa.VI

namespace Go.Proofs.Ytcpicekmnkjceaa.VI
set_option linter.unusedVariables false
set_option linter.unusedSimpArgs false
open Go.Region (ready)
section
variable (P : Program) (C : Orc)
def dst (ops : Array Oper) (id : Nat) (o : Oper) (s : St) : Option St := stepk P C ops id o s some
end
def gd (ops : Array Oper) (o : Oper) (t : List V) : Option Bool := match o.guard with
  | none => some true
  | some (j, w) => match (ops[j]?).bind (·.dst) with
    | some d => match t.getD d .u with
      | .b x => some (x == w)
      | .tup [] => some false
      | _ => none
    | none => none
theorem stepk_bind {P : Program} {C : Orc} {ops : Array Oper} {id : Nat} {o : Oper} {s : St} {R : Type} (k : St → Option R) : stepk P C ops id o s k = (dst P C ops id o s).bind k := by
  have hop : ∀ s : St, opk P C id (ev s.t) s.h (fin o s k) o.op = (opk P C id (ev s.t) s.h (fin o s some) o.op).bind k := by
    intro s
    rw [fin_eq, fin_eq, opk_bind, opk_bind]
    cases opd P C id (ev s.t) s.h o.op <;> rfl
  have hg : ∀ (s : St) (w : Bool), stepg P C id o s k w = (stepg P C id o s some w).bind k := by
    intro s w
    cases w with
    | true => exact hop s
    | false => simp only [stepg, fin_eq, Option.bind_some]
  unfold dst stepk
  cases o.guard with
  | none => exact hop s
  | some jw =>
    obtain ⟨j, w⟩ := jw
    simp only
    cases (ops[j]?).bind (·.dst) with
    | none => rfl
    | some d =>
      simp only
      cases s.t.getD d .u with
      | b x => cases x <;> simp only [knk_eq] <;> exact hg _ _
      | tup l => cases l with
        | nil => exact hg _ _
        | cons _ _ => rfl
      | _ => rfl
theorem dst_eq {P : Program} {C : Orc} {ops : Array Oper} {id : Nat} {o : Oper} {s : St} : dst P C ops id o s = match gd ops o s.t with
    | some true => (opd P C id (ev s.t) s.h o.op).bind fun p => some ⟨putt s.t o.dst p.1, p.2⟩
    | some false => some ⟨putt s.t o.dst (.tup []), s.h⟩
    | none => none := by
  unfold dst stepk gd
  cases o.guard with
  | none => simp only [fin_eq]; rw [opk_bind]
  | some jw =>
    obtain ⟨j, w⟩ := jw
    simp only
    cases (ops[j]?).bind (·.dst) with
    | none => rfl
    | some d =>
      simp only
      cases hx : s.t.getD d .u with
      | b x =>
        cases x with
        | true =>
          simp only [knk_eq, kn_eq hx]
          cases w with
          | true => simp only [stepg, fin_eq]; rw [opk_bind]; rfl
          | false => simp only [stepg, fin_eq]; rfl
        | false =>
          simp only [knk_eq, kn_eq hx]
          cases w with
          | false => simp only [stepg, fin_eq, Bool.not_false]; rw [opk_bind]; rfl
          | true => simp only [stepg, fin_eq, Bool.not_true]; rfl
      | tup l => cases l with
        | nil => simp only [stepg, fin_eq]
        | cons _ _ => rfl
      | _ => rfl
def same (ds : List Tmp) (t2 t : List V) : Prop := ∀ d ∈ ds, t2.getD d .u = t.getD d .u
theorem same_put {t : List V} {d : Option Tmp} {c : V} {ds : List Tmp} (h : ∀ k, d = some k → k ∉ ds) : same ds (putt t d c) t := by
  intro k hk
  cases d with
  | none => rfl
  | some d =>
    simp only [putt]
    have : d ≠ k := fun e => h d rfl (e ▸ hk)
    rw [List.getD_eq_getElem?_getD, List.getD_eq_getElem?_getD, List.getElem?_set_ne this]
theorem ev_same {ops : Array Oper} {o : Oper} {t2 t : List V} (h : same (o.looksAt ops) t2 t) : ∀ x ∈ o.op.operands, ev t2 x = ev t x := by
  intro x hx
  cases x with
  | tmp n =>
    simp only [ev]
    exact h n (List.mem_append_left _ (List.mem_filterMap.2 ⟨.tmp n, by simpa using hx, rfl⟩))
  | _ => rfl
theorem gd_same {ops : Array Oper} {o : Oper} {t2 t : List V} (h : same (o.looksAt ops) t2 t) : gd ops o t2 = gd ops o t := by
  unfold gd
  cases hg : o.guard with
  | none => rfl
  | some jw =>
    obtain ⟨j, w⟩ := jw
    simp only
    cases hd : (ops[j]?).bind (·.dst) with
    | none => rfl
    | some d =>
      simp only
      rw [h d (List.mem_append_right _ (by simp [hg, hd]))]
def acc (P : Program) (C : Orc) (id : Nat) (o : Oper) (s : St) : List Nat × Bool := tch P C s.h id (ev s.t) o.op
structure Loc (P : Program) (C : Orc) (ops : Array Oper) (id : Nat) (o : Oper) (s : St) (r : V) (U : Heap → Heap) : Prop where
  loc : Local (acc P C id o s).1 U
  q : (acc P C id o s).2 = true → ∀ g, U g = g
  st : ∀ t2 h2, same (o.looksAt ops) t2 s.t → agree (acc P C id o s).1 h2 s.h → dst P C ops id o ⟨t2, h2⟩ = some ⟨putt t2 o.dst r, U h2⟩ ∧ acc P C id o ⟨t2, h2⟩ = acc P C id o s
theorem dst_loc {P : Program} {C : Orc} {ops : Array Oper} {id : Nat} {o : Oper} {s s1 : St} (h : dst P C ops id o s = some s1) (hg : gd ops o s.t = some true) :
    ∃ r U, s1 = ⟨putt s.t o.dst r, U s.h⟩ ∧ Loc P C ops id o s r U := by
  rw [dst_eq, hg] at h
  simp only at h
  cases hv : opd P C id (ev s.t) s.h o.op with
  | none => rw [hv] at h; cases h
  | some p =>
    rw [hv] at h
    obtain ⟨r, h1⟩ := p
    simp only [Option.bind_some, Option.some.injEq] at h
    subst h
    obtain ⟨U, e1, e2, e3, e4⟩ := opd_loc hv
    subst e1
    refine ⟨r, U, rfl, e2, e3, fun t2 h2 hs ha => ?_⟩
    obtain ⟨k1, k2⟩ := e4 h2 ha
    have he := ev_same hs
    have hc := opd_congr (P := P) (C := C) (id := id) (h := h2) he
    refine ⟨?_, ?_⟩
    · rw [dst_eq, gd_same hs, hg]
      simp only [hc, k1, Option.bind_some]
    · unfold acc
      rw [(opv_congr (P := P) (C := C) (h := h2) (id := id) he).2]
      exact k2
def gacc (P : Program) (C : Orc) (ops : Array Oper) (id : Nat) (o : Oper) (s : St) : List Nat × Bool := match gd ops o s.t with
  | some true => acc P C id o s
  | _ => ([], true)
structure GLoc (P : Program) (C : Orc) (ops : Array Oper) (id : Nat) (o : Oper) (s : St) (r : V) (U : Heap → Heap) : Prop where
  loc : Local (gacc P C ops id o s).1 U
  q : (gacc P C ops id o s).2 = true → ∀ g, U g = g
  st : ∀ t2 h2, same (o.looksAt ops) t2 s.t → agree (gacc P C ops id o s).1 h2 s.h → dst P C ops id o ⟨t2, h2⟩ = some ⟨putt t2 o.dst r, U h2⟩ ∧ gacc P C ops id o ⟨t2, h2⟩ = gacc P C ops id o s
theorem dst_gloc {P : Program} {C : Orc} {ops : Array Oper} {id : Nat} {o : Oper} {s s1 : St} (h : dst P C ops id o s = some s1) : ∃ r U, s1 = ⟨putt s.t o.dst r, U s.h⟩ ∧ GLoc P C ops id o s r U := by
  have h0 := h
  rw [dst_eq] at h
  split at h
  · rename_i hg
    obtain ⟨r, U, e, L⟩ := dst_loc h0 hg
    have eg : gacc P C ops id o s = acc P C id o s := by unfold gacc; rw [hg]
    refine ⟨r, U, e, by rw [eg]; exact L.loc, by rw [eg]; exact L.q, fun t2 h2 hs ha => ?_⟩
    rw [eg] at ha ⊢
    obtain ⟨k1, k2⟩ := L.st t2 h2 hs ha
    refine ⟨k1, ?_⟩
    unfold gacc
    rw [gd_same hs, hg]
    exact k2
  · rename_i hg
    simp only [Option.some.injEq] at h
    subst h
    have eg : gacc P C ops id o s = ([], true) := by unfold gacc; rw [hg]
    refine ⟨(.tup []), fun g => g, rfl, by rw [eg]; exact Local.id _, fun _ _ => rfl, fun t2 h2 hs ha => ⟨?_, ?_⟩⟩
    · rw [dst_eq, gd_same hs, hg]
    · rw [eg]; unfold gacc; rw [gd_same hs, hg]
  · cases h
def compat (a b : List Nat × Bool) : Bool := (a.2 && b.2) || a.1.all fun i => !b.1.contains i
theorem compat_spec {a b : List Nat × Bool} (h : compat a b = true) : (a.2 = true ∧ b.2 = true) ∨ ∀ i ∈ a.1, i ∉ b.1 := by
  simp only [compat, Bool.or_eq_true, Bool.and_eq_true] at h
  rcases h with h | h
  · exact .inl h
  · refine .inr fun i hi hb => ?_
    have := List.all_eq_true.1 h i hi
    rw [List.contains_iff_mem.2 hb] at this
    cases this
theorem compat_symm {a b : List Nat × Bool} (h : compat a b = true) : compat b a = true := by
  rcases compat_spec h with h | h
  · simp [compat, h.1, h.2]
  · simp only [compat, Bool.or_eq_true]
    refine .inr (List.all_eq_true.2 fun i hi => ?_)
    cases hc : a.1.contains i with
    | false => rfl
    | true => exact absurd hi (h i (List.contains_iff_mem.1 hc))
theorem agree_of_compat {T : List Nat} {q : Bool} {U : Heap → Heap} {b : List Nat × Bool} (hl : Local T U) (hq : q = true → ∀ g, U g = g) (hc : compat (T, q) b = true) (h : Heap) : agree b.1 (U h) h := by
  intro j hj
  rcases compat_spec hc with ⟨k, _⟩ | k
  · rw [hq k]
  · exact hl.out h j fun e => k j e hj
theorem swap {P : Program} {C : Orc} {ops : Array Oper} {id id' : Nat} {o o' : Oper} {s s1 s2 : St} (hap : o.apart ops o' = true) (hc : compat (gacc P C ops id o s) (gacc P C ops id' o' s1) = true)
    (h1 : dst P C ops id o s = some s1) (h2 : dst P C ops id' o' s1 = some s2) :
    gacc P C ops id' o' s = gacc P C ops id' o' s1 ∧ ∃ s1', dst P C ops id' o' s = some s1' ∧ dst P C ops id o s1' = some s2 ∧ gacc P C ops id o s1' = gacc P C ops id o s := by
  obtain ⟨a1, a2, a3⟩ := Oper.apart_spec hap
  obtain ⟨r, U, rfl, L⟩ := dst_gloc h1
  obtain ⟨r', U', rfl, L'⟩ := dst_gloc h2
  have hs : same (o'.looksAt ops) s.t (putt s.t o.dst r) := fun d hd => (same_put a1 d hd).symm
  have hag : agree (gacc P C ops id' o' ⟨putt s.t o.dst r, U s.h⟩).1 s.h (U s.h) := fun j hj => (agree_of_compat L.loc L.q hc s.h j hj).symm
  obtain ⟨k1, k2⟩ := L'.st s.t s.h hs hag
  refine ⟨k2, _, k1, ?_⟩
  have hag' : agree (gacc P C ops id o s).1 (U' s.h) s.h := agree_of_compat L'.loc L'.q (compat_symm hc) s.h
  obtain ⟨m1, m2⟩ := L.st (putt s.t o'.dst r') (U' s.h) (same_put a3) hag'
  refine ⟨?_, m2⟩
  rw [m1]
  have e1 : putt (putt s.t o'.dst r') o.dst r = putt (putt s.t o.dst r) o'.dst r' := by
    cases hd : o.dst with
    | none => rfl
    | some d =>
      cases hd' : o'.dst with
      | none => rfl
      | some d' => simp only [putt]; exact List.set_comm _ _ (fun e => a2 d hd (by rw [hd', e]))
  have e2 : U (U' s.h) = U' (U s.h) := by
    rcases compat_spec hc with ⟨q1, q2⟩ | hd
    · rw [L.q q1, L.q q1]
    · exact L.loc.comm L'.loc hd s.h
  rw [e1, e2]
end Go.Proofs.Ytcpicekmnkjceaa.VI

namespace Go.Proofs.Ytcpicekmnkjceaa.VI
set_option linter.unusedVariables false
set_option linter.unusedSimpArgs false
open Go.Region (ready)
abbrev Acc := List Nat × Bool
def dep (o : Oper) (i : Nat) : Bool := o.after.any fun e => Region.binds .any e && e.on == i
def idAt (P : Program) (C : Orc) (ops : Array Oper) (base k : Nat) : Nat := base + nallocs P C (ops.toList.take k)
section
variable (P : Program) (C : Orc) (ops : Array Oper) (base : Nat) (Q : St → Prop)
def AnyD : Nat → Array Bool → List (Nat × Acc) → St → Prop
  | 0, L, _, s => ready .any ops L = [] ∧ Q s
  | n + 1, L, log, s => (ready .any ops L = [] → Q s) ∧ ∀ i ∈ ready .any ops L, ∀ o, ops[i]? = some o →
      (∀ p ∈ log, dep o p.1 = false → compat p.2 (gacc P C ops (idAt P C ops base i) o s) = true) ∧
        ∃ s1, dst P C ops (idAt P C ops base i) o s = some s1 ∧ AnyD n (L.setIfInBounds i true) ((i, gacc P C ops (idAt P C ops base i) o s) :: log) s1
def LexD : List Oper → Nat → List (Nat × Acc) → St → Prop
  | [], _, _, s => Q s
  | o :: l, k, log, s => (∀ p ∈ log, dep o p.1 = false → compat p.2 (gacc P C ops (idAt P C ops base k) o s) = true) ∧
        ∃ s1, dst P C ops (idAt P C ops base k) o s = some s1 ∧ LexD l (k + 1) ((k, gacc P C ops (idAt P C ops base k) o s) :: log) s1
end
section
variable {P : Program} {C : Orc} {ops : Array Oper} {base : Nat} {Q : St → Prop}
theorem AnyD_sub : ∀ (n : Nat) (L : Array Bool) (log log' : List (Nat × Acc)) (s : St), (∀ p ∈ log', p ∈ log) → AnyD P C ops base Q n L log s → AnyD P C ops base Q n L log' s
  | 0, _, _, _, _, _, h => h
  | n + 1, L, log, log', s, hs, h => ⟨h.1, fun i hi o ho => by
      obtain ⟨h2, s1, h3, h4⟩ := h.2 i hi o ho
      refine ⟨fun p hp => h2 p (hs p hp), s1, h3, AnyD_sub n _ _ _ _ (fun p hp => ?_) h4⟩
      rcases List.mem_cons.1 hp with e | e
      · rw [e]; simp
      · exact List.mem_cons_of_mem _ (hs p e)⟩
theorem AnyD_first {i : Nat} {oi : Oper} (hi : ops[i]? = some oi) : ∀ (n : Nat) (L : Array Bool) (log : List (Nat × Acc)) (s s1 : St),
    (∀ j oj, ops[j]? = some oj → j ≠ i → L.getD j true = false → (∀ e ∈ oj.after, Region.binds .any e = true → e.on ≠ i) → oi.apart ops oj = true) →
    i ∈ ready .any ops L → (∀ p ∈ log, dep oi p.1 = false → compat p.2 (gacc P C ops (idAt P C ops base i) oi s) = true) →
    dst P C ops (idAt P C ops base i) oi s = some s1 → AnyD P C ops base Q n (L.setIfInBounds i true) ((i, gacc P C ops (idAt P C ops base i) oi s) :: log) s1 → AnyD P C ops base Q (n + 1) L log s := by
  intro n
  induction n with
  | zero =>
    intro L log s s1 _ hr c h1 H
    refine ⟨fun h => (by rw [h] at hr; cases hr), fun j hj o ho => ?_⟩
    by_cases hji : j = i
    · subst hji
      have : o = oi := by rw [hi] at ho; exact (Option.some.inj ho).symm
      subst this
      exact ⟨c, s1, h1, H⟩
    · have := ready_mono hj hji
      rw [H.1] at this
      cases this
  | succ n ih =>
    intro L log s s1 hfree hr c h1 H
    refine ⟨fun h => (by rw [h] at hr; cases hr), fun j hj o ho => ?_⟩
    by_cases hji : j = i
    · subst hji
      have : o = oi := by rw [hi] at ho; exact (Option.some.inj ho).symm
      subst this
      exact ⟨c, s1, h1, H⟩
    · obtain ⟨c2, s2, h2, H2⟩ := H.2 j (ready_mono hj hji) o ho
      obtain ⟨hjun, oj, hoj, hall⟩ := mem_ready.1 hj
      have : oj = o := by rw [ho] at hoj; exact (Option.some.inj hoj).symm
      subst this
      have hnot : ∀ e ∈ oj.after, Region.binds .any e = true → e.on ≠ i := fun e he hb heq => by
        have h1 := hall e he hb
        have h0 := (mem_ready.1 hr).1
        rw [heq] at h1
        rcases Nat.lt_or_ge i L.size with h' | h'
        · simp [h'] at h0 h1; rw [h0] at h1; cases h1
        · simp [Array.getElem?_eq_none h'] at h1
      have hdep : dep oj i = false := by
        unfold dep
        rw [Bool.eq_false_iff]
        intro h
        obtain ⟨e, he, hb⟩ := Array.any_eq_true'.1 h
        simp only [Bool.and_eq_true, beq_iff_eq] at hb
        exact hnot e he hb.1 hb.2
      have hc := c2 (i, gacc P C ops (idAt P C ops base i) oi s) (by simp) hdep
      obtain ⟨k1, s1', d1, d2, k3⟩ := swap (hfree j oj hoj hji hjun hnot) hc h1 h2
      refine ⟨fun p hp hd => ?_, s1', d1, ?_⟩
      · rw [k1]; exact c2 p (List.mem_cons_of_mem _ hp) hd
      · refine ih _ _ s1' s2 (fun k ok hk hki hun hno => ?_) (ready_mono hr (Ne.symm hji)) (fun p hp hd => ?_) d2 ?_
        · refine hfree k ok hk hki ?_ hno
          by_cases hjk : j = k
          · subst hjk; exact hjun
          · rw [getD_set_ne true hjk] at hun; exact hun
        · rw [k3]
          rcases List.mem_cons.1 hp with e | e
          · rw [e, k1]; exact compat_symm hc
          · exact c p e hd
        · rw [Array.setIfInBounds_comm _ _ hji, k3, k1]
          refine AnyD_sub _ _ _ _ _ (fun p hp => ?_) H2
          simp only [List.mem_cons] at hp ⊢
          rcases hp with e | e | e
          · exact .inr (.inl e)
          · exact .inl e
          · exact .inr (.inr e)
theorem AnyD_lex : ∀ (l : List Oper) (k : Nat) (L : Array Bool) (log : List (Nat × Acc)) (s : St), (∀ j, l[j]? = ops[k + j]?) → Region.lexFrom .any ops l.length k L = true →
    LexD P C ops base Q l k log s → AnyD P C ops base Q l.length L log s
  | [], _, _, _, _, _, hB, h => ⟨by simpa [Region.lexFrom] using hB, h⟩
  | o :: l, k, L, log, s, hl, hB, h => by
    have h0 : ops[k]? = some o := by simpa using (hl 0).symm
    simp only [List.length_cons, Region.lexFrom, Bool.and_eq_true] at hB
    obtain ⟨⟨hr, hf⟩, hB'⟩ := hB
    obtain ⟨c, s1, h1, H⟩ := h
    exact AnyD_first h0 l.length L log s s1 (Region.free_spec h0 hf) (by simpa using hr) c h1
      (AnyD_lex l (k + 1) _ _ s1 (fun j => by have := hl (j + 1); simpa [Nat.add_assoc, Nat.add_comm 1 j] using this) hB' H)
end
section
variable {R : Type} (P : Program) (C : Orc) (ops : Array Oper)
def chk (o : Oper) (a : Acc) : List (Nat × Acc) → Bool
  | [] => true
  | p :: l => match dep o p.1 with
    | true => chk o a l
    | false => match compat p.2 a with
      | true => chk o a l
      | false => false
def addl (k : Nat) (a : Acc) (log : List (Nat × Acc)) : List (Nat × Acc) := match a.1 with
  | [] => log
  | _ => (k, a) :: log
def gdk (o : Oper) (s : St) (k : Bool → St → Option R) : Option R := match o.guard with
  | none => k true s
  | some (j, w) => match (ops[j]?).bind (·.dst) with
    | some d => match s.t.getD d .u with
      | .b x => match x with
        | true => knk s d true fun s => k w s
        | false => knk s d false fun s => k (!w) s
      | .tup [] => k false s
      | _ => none
    | none => none
def accg (id : Nat) (o : Oper) (s : St) (g : Bool) : Acc := match g with
  | true => acc P C id o s
  | false => ([], true)
def regd : Nat → Nat → List Oper → List (Nat × Acc) → St → (St → Option R) → Option R
  | _, _, [], _, s, K => K s
  | k, id, o :: l, log, s, K => gdk ops o s fun g s => match chk o (accg P C id o s g) log with
    | true => stepg P C id o s (fun s' => regd (k + 1) (id + nal P C o.op) l (addl k (accg P C id o s g) log) s' K) g
    | false => none
end
theorem chk_spec {o : Oper} {a : Acc} : ∀ {log : List (Nat × Acc)}, chk o a log = true → ∀ p ∈ log, dep o p.1 = false → compat p.2 a = true
  | [], _, _, hp, _ => by cases hp
  | q :: l, h, p, hp, hd => by
    simp only [chk] at h
    rcases List.mem_cons.1 hp with e | e
    · subst e
      rw [hd] at h
      simp only at h
      cases hc : compat p.2 a with
      | true => rfl
      | false => rw [hc] at h; cases h
    · refine chk_spec (log := l) ?_ p e hd
      split at h
      · exact h
      · split at h
        · exact h
        · cases h
theorem nallocs_take {P : Program} {C : Orc} {ops : Array Oper} {k : Nat} {o : Oper} (h : ops[k]? = some o) : nallocs P C (ops.toList.take (k + 1)) = nallocs P C (ops.toList.take k) + nal P C o.op := by
  have h' : ops.toList[k]? = some o := by simpa using h
  clear h
  generalize ops.toList = l at h'
  have h := h'
  clear h'
  induction l generalizing k with
  | nil => simp at h
  | cons q l ih =>
    cases k with
    | zero =>
      simp at h; subst h
      simp only [List.take_succ_cons, List.take_zero, nallocs]
      omega
    | succ k =>
      have := ih (k := k) (by simpa using h)
      simp only [List.take_succ_cons, nallocs] at this ⊢
      rw [this]
      omega
theorem gdk_eq {ops : Array Oper} {o : Oper} {s : St} {R : Type} (k : Bool → St → Option R) : gdk ops o s k = match gd ops o s.t with
    | some g => k g s
    | none => none := by
  unfold gdk gd
  cases o.guard with
  | none => rfl
  | some jw =>
    obtain ⟨j, w⟩ := jw
    simp only
    cases (ops[j]?).bind (·.dst) with
    | none => rfl
    | some d =>
      simp only
      cases hx : s.t.getD d .u with
      | b x =>
        cases x with
        | true => simp only [knk_eq, kn_eq hx]; cases w <;> rfl
        | false => simp only [knk_eq, kn_eq hx]; cases w <;> rfl
      | tup l => cases l <;> rfl
      | _ => rfl
theorem stepg_dst {P : Program} {C : Orc} {ops : Array Oper} {id : Nat} {o : Oper} {s : St} {g : Bool} (hg : gd ops o s.t = some g) {R : Type} (k : St → Option R) : stepg P C id o s k g = (dst P C ops id o s).bind k := by
  rw [dst_eq, hg]
  cases g with
  | true =>
    simp only [stepg, fin_eq]
    rw [opk_bind]
    cases opd P C id (ev s.t) s.h o.op <;> rfl
  | false => simp only [stepg, fin_eq]; rfl
theorem regd_lex {P : Program} {C : Orc} {ops : Array Oper} {base : Nat} {R : Type} {K : St → Option R} {res : R} : ∀ (l : List Oper) (k : Nat) (log full : List (Nat × Acc)) (s : St), (∀ j, l[j]? = ops[k + j]?) → (∀ p ∈ full, p ∈ log ∨ p.2.1 = []) →
    regd P C ops k (idAt P C ops base k) l log s K = some res → LexD P C ops base (fun s => K s = some res) l k full s
  | [], _, _, _, _, _, _, h => h
  | o :: l, k, log, full, s, hl, hf, h => by
    have h0 : ops[k]? = some o := by simpa using (hl 0).symm
    simp only [regd] at h
    rw [gdk_eq] at h
    split at h
    case h_2 => cases h
    rename_i g hg
    have eg : gacc P C ops (idAt P C ops base k) o s = accg P C (idAt P C ops base k) o s g := by
      unfold gacc accg
      rw [hg]
      cases g <;> rfl
    split at h
    · rename_i hc
      rw [stepg_dst hg] at h
      cases hs : dst P C ops (idAt P C ops base k) o s with
      | none => rw [hs] at h; cases h
      | some s1 =>
        rw [hs] at h
        simp only [Option.bind_some] at h
        refine ⟨fun p hp hd => ?_, s1, hs, ?_⟩
        · rw [eg]
          rcases hf p hp with e | e
          · exact chk_spec hc p e hd
          · simp [compat, e]
        · rw [eg]
          refine regd_lex l (k + 1) _ _ s1 (fun j => by have := hl (j + 1); simpa [Nat.add_assoc, Nat.add_comm 1 j] using this) (fun p hp => ?_) (by
            have e : idAt P C ops base (k + 1) = idAt P C ops base k + nal P C o.op := by
              unfold idAt
              rw [nallocs_take h0]
              omega
            rw [e]; exact h)
          rcases List.mem_cons.1 hp with e | e
          · subst e
            cases ht : (accg P C (idAt P C ops base k) o s g).1 with
            | nil => exact .inr rfl
            | cons a b => refine .inl ?_; unfold addl; rw [ht]; simp
          · rcases hf p e with q | q
            · refine .inl ?_
              unfold addl
              split
              · exact q
              · exact List.mem_cons_of_mem _ q
            · exact .inr q
    · cases h
theorem any_sound {x0 : Cx} {C : Orc} (hC : OrcOk x0.P C) {ops : Array Oper} {base : Nat} {Q : St → Prop} {Q' : Exit → Act → World → Prop} (hQ : ∀ (y : Cx) (s' : St) (a' : Act), SR x0 y s' a' → Q s' → Q' .normal a' y.w) :
    ∀ (n : Nat) (L : Array Bool) (log : List (Nat × Acc)) (x : Cx) (s : St) (a : Act), SR x0 x s a → AnyD x0.P C ops base Q n L log s → wpAny x0.P .any ops Q' n L a x.w
  | 0, _, _, x, s, a, hs, h => ⟨h.1, hQ x s a hs h.2⟩
  | n + 1, L, log, x, s, a, hs, h => by
    refine ⟨fun h0 => hQ x s a hs (h.1 h0), fun i hi => ?_⟩
    obtain ⟨_, o, ho, _⟩ := mem_ready.1 hi
    obtain ⟨_, s1, h1, H⟩ := h.2 i hi o ho
    unfold wpOp
    simp only [ho]
    have hstep := stepk_ok hC hs (k := some) (res := s1) h1 (K := wpAny x0.P .any ops Q' n (L.setIfInBounds i true)) (Q := Q') (fun y s' a' hs' hk => by
      have : s' = s1 := Option.some.inj hk
      subst this
      exact any_sound hC hQ n _ _ y s' a' hs' H)
    split
    · rename_i hw; exact .inl (hstep.1 hw)
    · rename_i hw; exact hstep.2 hw
def Cx.draw (x : Cx) : Cx := { x with w := { x.w with drawn := x.w.drawn + 1 } }
theorem draw_to {x : Cx} (hx : HR x) : To x x.draw := draw_ok hx
theorem regd_ok {x0 : Cx} {C : Orc} (hC : OrcOk x0.P C) (hm : x0.P.follows .mixedOrders = true) {id : Nat} {ops : Array Oper} (hB : Region.lexB .any ops = true) {R : Type} {k : St → Option R} {res : R} {Q : Exit → Act → World → Prop}
    (hQ : ∀ (y : Cx) (s' : St) (a' : Act), SR x0 y s' a' → k s' = some res → Q .normal a' y.w) {x : Cx} {s : St} {a : Act} (hs : SR x0 x s a)
    (h : regd x0.P C ops 0 s.h.length ops.toList [] ⟨s.t, s.h ++ blanks (nallocs x0.P C ops.toList)⟩ k = some res) : (Code.region id ops true).wp x0.P Q a x.w := by
  simp only [Region.lexB, Bool.and_eq_true] at hB
  have h1 := draw_to hs.hr
  have h2 := more_to h1.hr (nallocs x0.P C ops.toList)
  have hs' : SR x0 (x.draw.more (nallocs x0.P C ops.toList)) ⟨s.t, s.h ++ blanks (nallocs x0.P C ops.toList)⟩ a := ⟨h2.hr, by simp [Cx.more, Cx.draw, hs.h], (hs.t.mono h1.ext.mono).mono h2.ext.mono, hs.P, (hs.to.trans h1).trans h2, hs.d, hs.ot, hs.oh.app (ok_blanks _)⟩
  refine wp_region_any hm ?_
  have hl := regd_lex (ops := ops) (base := s.h.length) ops.toList 0 [] [] _ (fun j => by simp) (fun p hp => by cases hp) (by simpa [idAt, nallocs] using h)
  have ha := AnyD_lex (ops := ops) ops.toList 0 (Array.replicate ops.size false) [] _ (fun j => by simp) (by simpa using hB.2) hl
  have := any_sound hC hQ _ _ _ _ _ _ hs' ha
  simpa [Cx.more, Cx.draw] using this
end Go.Proofs.Ytcpicekmnkjceaa.VI

namespace Go.Proofs.Ytcpicekmnkjceaa.VI
set_option linter.unusedVariables false
set_option linter.unusedSimpArgs false
set_option linter.unusedSimpArgs false
set_option linter.unusedVariables false
def hdR : Code → Nat
  | .region id _ _ => id + 1
  | .seq a b => match hdR a with
    | 0 => hdR b
    | n + 1 => n + 1
  | .cond _ a b => match hdR a with
    | 0 => hdR b
    | n + 1 => n + 1
  | .block _ a => hdR a
  | .loop a => hdR a
  | _ => 0
def keepT (ks : List Nat) : Nat → List V → List V
  | _, [] => []
  | j, c :: cs => (match memN j ks with
    | true => c
    | false => .u) :: keepT ks (j + 1) cs
theorem keepT_ok {x : Cx} (ks : List Nat) : ∀ (j : Nat) (cs : List V) (l : List Value), VRs x cs l → VRs x (keepT ks j cs) l
  | _, [], _, h => h
  | j, c :: cs, _, h => by
    obtain ⟨v, vs, rfl, h1, h2⟩ := h
    refine ⟨v, vs, rfl, ?_, keepT_ok ks (j + 1) cs vs h2⟩
    split
    · exact h1
    · trivial
theorem ok_keepT (ks : List Nat) : ∀ (j : Nat) (cs : List V), oks cs → oks (keepT ks j cs)
  | _, [], _ => trivial
  | j, c :: cs, h => by
    refine ⟨?_, ok_keepT ks (j + 1) cs h.2⟩
    split
    · exact h.1
    · trivial
def gens1 : Heap → Bool
  | [] => true
  | b :: l => match b.gen with
    | 1 => gens1 l
    | _ => false
theorem gens1_spec : ∀ {l : Heap}, gens1 l = true → ∀ b ∈ l, b.gen = 1
  | [], _, b, hb => by cases hb
  | a :: l, h, b, hb => by
    simp only [gens1] at h
    split at h
    · rename_i h0
      rcases List.mem_cons.1 hb with e | e
      · subst e; exact h0
      · exact gens1_spec h b e
    · cases h
def fgen (m0 j g : Nat) : Nat := match g with
  | 0 => 0
  | 1 => 1
  | _ => match Nat.blt j m0 with
    | true => 2
    | false => 1
theorem fgen_pos {m0 j g : Nat} : 0 < fgen m0 j g ↔ 0 < g := by
  unfold fgen
  split
  · simp
  · simp
  · rename_i h0 h1
    have : 0 < g := Nat.pos_of_ne_zero h0
    split
    · exact ⟨fun _ => this, fun _ => by decide⟩
    · exact ⟨fun _ => this, fun _ => by decide⟩
def posN (n : Nat) : Nat → List Nat → Option Nat
  | _, [] => none
  | j, m :: l => match Nat.beq n m with
    | true => some j
    | false => posN n (j + 1) l
theorem posN_spec {n : Nat} : ∀ {l : List Nat} {j r : Nat}, posN n j l = some r → j ≤ r ∧ l[r - j]? = some n
  | [], _, _, h => by cases h
  | m :: l, j, r, h => by
    simp only [posN] at h
    split at h
    · rename_i hb
      injection h with h; subst h
      exact ⟨Nat.le_refl _, by simp [Nat.eq_of_beq_eq_true hb]⟩
    · obtain ⟨h1, h2⟩ := posN_spec h
      refine ⟨by omega, ?_⟩
      rw [show r - j = (r - (j + 1)) + 1 by omega]
      simpa using h2
def sigf (m0 : Nat) (h : Heap) (K : List Nat) : Rn := fun id g => match cur h id g with
  | true => match posN id 0 K with
    | some j => some (j, fgen m0 j g)
    | none => none
  | false => none
def upto : Nat → Nat → List Nat
  | _, 0 => []
  | j, n + 1 => j :: upto (j + 1) n
theorem upto_get : ∀ (n j i : Nat), (upto j n)[i]? = if i < n then some (j + i) else none
  | 0, j, i => by simp [upto]
  | n + 1, j, 0 => by simp [upto]
  | n + 1, j, i + 1 => by
    simp only [upto, List.getElem?_cons_succ]
    rw [upto_get n (j + 1) i]
    simp only [Nat.add_lt_add_iff_right]
    rw [show j + 1 + i = j + (i + 1) by omega]
theorem upto_len : ∀ (n j : Nat), (upto j n).length = n
  | 0, _ => rfl
  | n + 1, j => by simp [upto, upto_len n (j + 1)]
def geN (m : Nat) : List Nat → List Nat
  | [] => []
  | n :: l => match Nat.ble m n with
    | true => n :: geN m l
    | false => geN m l
def nodupB : List Nat → Bool
  | [] => true
  | n :: l => match memN n l with
    | true => false
    | false => nodupB l
theorem nodupB_spec : ∀ {l : List Nat}, nodupB l = true → l.Nodup
  | [], _ => List.nodup_nil
  | n :: l, h => by
    simp only [nodupB] at h
    split at h
    · cases h
    · rename_i hm
      refine List.nodup_cons.2 ⟨fun hi => ?_, nodupB_spec h⟩
      have := memN_iff.2 hi
      rw [hm] at this; cases this
def keeps (kp : Bool) (m0 : Nat) (h : Heap) (rs : List V) : List Nat := match kp with
  | true => upto 0 m0 ++ geN m0 (reach h 4 (dedup [] (hvs rs)))
  | false => upto 0 m0
theorem keeps_low {kp : Bool} {m0 : Nat} {h : Heap} {rs : List V} {j : Nat} (hj : j < m0) : (keeps kp m0 h rs)[j]? = some j := by
  have h0 : (upto 0 m0)[j]? = some j := by rw [upto_get, if_pos hj, Nat.zero_add]
  unfold keeps
  split
  · rw [List.getElem?_append_left (by rw [upto_len]; exact hj), h0]
  · exact h0
theorem posN_mem {n : Nat} : ∀ {l : List Nat} {j : Nat}, n ∈ l → posN n j l ≠ none
  | m :: l, j, h => by
    simp only [posN]
    split
    · simp
    · rename_i hb
      rcases List.mem_cons.1 h with e | e
      · subst e; simp at hb
      · exact posN_mem e
theorem posN_keeps {kp : Bool} {m0 : Nat} {h : Heap} {rs : List V} {i : Nat} (hi : i < m0) : posN i 0 (keeps kp m0 h rs) ≠ none := posN_mem (List.mem_of_getElem? (keeps_low hi))
theorem geN_spec {m : Nat} : ∀ {l : List Nat} {n : Nat}, n ∈ geN m l → m ≤ n ∧ n ∈ l
  | a :: l, n, h => by
    simp only [geN] at h
    split at h
    · rename_i hb
      rcases List.mem_cons.1 h with e | e
      · subst e; exact ⟨Nat.le_of_ble_eq_true hb, by simp⟩
      · exact ⟨(geN_spec e).1, by simp [(geN_spec e).2]⟩
    · exact ⟨(geN_spec h).1, by simp [(geN_spec h).2]⟩
theorem geN_nodup {m : Nat} : ∀ {l : List Nat}, l.Nodup → (geN m l).Nodup
  | [], _ => List.nodup_nil
  | a :: l, h => by
    obtain ⟨h1, h2⟩ := List.nodup_cons.1 h
    simp only [geN]
    split
    · exact List.nodup_cons.2 ⟨fun k => h1 (geN_spec k).2, geN_nodup h2⟩
    · exact geN_nodup h2
theorem upto_spec : ∀ {n j a : Nat}, a ∈ upto j n → j ≤ a ∧ a < j + n
  | n + 1, j, a, h => by
    rcases List.mem_cons.1 h with e | e
    · subst e; omega
    · have := upto_spec e; omega
theorem upto_nodup : ∀ (n j : Nat), (upto j n).Nodup
  | 0, _ => List.nodup_nil
  | n + 1, j => List.nodup_cons.2 ⟨fun k => by have := upto_spec k; omega, upto_nodup n (j + 1)⟩
theorem keeps_nodup {kp : Bool} {m0 : Nat} {h : Heap} {rs : List V} : (keeps kp m0 h rs).Nodup := by
  unfold keeps
  split
  · refine List.nodup_append.2 ⟨upto_nodup m0 0, geN_nodup (reach_nodup _ _ _ (dedup_nodup _ _ List.nodup_nil)), fun a ha b hb => ?_⟩
    have := upto_spec ha; have := (geN_spec hb).1
    omega
  · exact upto_nodup m0 0
def nrmD : D → D
  | .list (.i k n :: l) => match Nat.ble 8 l.length with
    | true => match asInts k (.i k n :: l) with
      | some xs => .ints k xs
      | none => .list (.i k n :: l)
    | false => .list (.i k n :: l)
  | d => d
theorem nrmD_toV (d : D) : (nrmD d).toV = d.toV := by
  unfold nrmD
  split
  · split
    · split
      · rename_i h; exact asInts_ok h
      · rfl
    · rfl
  · rfl
theorem nrmD_good {x : Cx} {d : D} {l : List Value} (h : good x d l) : good x (nrmD d) l := by
  unfold nrmD
  split
  · split
    · split <;> trivial
    · trivial
  · exact h
theorem nrmD_ok {d : D} (h : d.ok) : (nrmD d).ok := by
  unfold nrmD
  split
  · split
    · split
      · rename_i e; exact ints_oks e h
      · exact h
    · exact h
  · exact h
def cleanH (σ : Rn) (m0 : Nat) (h : Heap) : Nat → List Nat → Heap
  | _, [] => []
  | j, id :: l => (match h[id]? with
    | some b => match b.gen with
      | 0 => ⟨0, b.elem, .list [], true⟩
      | g + 1 => ⟨fgen m0 j (g + 1), b.elem, nrmD (rnD σ b.d), b.wr⟩
    | none => ⟨0, 0, .list [], true⟩) :: cleanH σ m0 h (j + 1) l
theorem cleanH_get (σ : Rn) (m0 : Nat) (h : Heap) : ∀ (l : List Nat) (j i : Nat), (cleanH σ m0 h j l)[i]? = (l[i]?).map fun id => match h[id]? with
    | some b => match b.gen with
      | 0 => ⟨0, b.elem, .list [], true⟩
      | g + 1 => ⟨fgen m0 (j + i) (g + 1), b.elem, nrmD (rnD σ b.d), b.wr⟩
    | none => ⟨0, 0, .list [], true⟩
  | [], j, i => by simp [cleanH]
  | id :: l, j, 0 => by simp [cleanH]
  | id :: l, j, i + 1 => by
    simp only [cleanH, List.getElem?_cons_succ]
    rw [cleanH_get σ m0 h l (j + 1) i, show j + 1 + i = j + (i + 1) by omega]
def cleanK (K : List Nat) (m0 : Nat) (t : List V) (h : Heap) : St := ⟨rns (sigf m0 h K) t, cleanH (sigf m0 h K) m0 h 0 K⟩
def clean (ks : List Nat) (m0 : Nat) (s : St) : St := cleanK (keeps true m0 s.h (keepT ks 0 s.t)) m0 (keepT ks 0 s.t) s.h
theorem clean_ok {x0 x : Cx} {s : St} {a : Act} (h1 : gens1 x0.h = true) {m0 : Nat} (hm0 : x0.h.length = m0) (ks : List Nat) (hs : SR x0 x s a) : ∃ z : Cx, z.w = x.w ∧ SR x0 z (clean ks m0 s) a := by
  generalize hK : keeps true m0 s.h (keepT ks 0 s.t) = K
  have hnd : K.Nodup := by rw [← hK]; exact keeps_nodup
  have hcl : clean ks m0 s = ⟨rns (sigf m0 s.h K) (keepT ks 0 s.t), cleanH (sigf m0 s.h K) m0 s.h 0 K⟩ := by unfold clean cleanK; rw [hK]
  have hxh := hs.h
  let z : Cx := { P := x.P, w := x.w, h := cleanH (sigf m0 s.h K) m0 s.h 0 K, ρ := fun j => x.ρ (K.getD j 0), ph := fun j => x.ph (K.getD j 0), av := x.av }
  have getD : ∀ j id, K[j]? = some id → K.getD j 0 = id := fun j id h => by rw [List.getD_eq_getElem?_getD, h]; rfl
  have zget : ∀ j c, z.h[j]? = some c → z.lv j c → ∃ (id : Nat) (b : Blk), K[j]? = some id ∧ x.h[id]? = some b ∧ x.lv id b ∧ z.ρ j = x.ρ id ∧ c = ⟨fgen m0 j b.gen, b.elem, nrmD (rnD (sigf m0 s.h K) b.d), b.wr⟩ := by
    intro j c hc hl
    have hc' : (cleanH (sigf m0 s.h K) m0 s.h 0 K)[j]? = some c := hc
    rw [cleanH_get] at hc'
    cases hid : K[j]? with
    | none => rw [hid] at hc'; cases hc'
    | some id =>
      rw [hid] at hc'
      simp only [Option.map_some, Option.some.injEq, Nat.zero_add] at hc'
      split at hc'
      · rename_i b hb
        split at hc'
        · subst hc'; exact absurd hl.1 (by simp)
        · rename_i g hg
          refine ⟨id, b, rfl, by rw [hxh]; exact hb, ⟨by omega, ?_⟩, ?_, ?_⟩
          · have := hl.2; simp only [z, getD j _ hid] at this; exact this
          · simp only [z, getD j _ hid]
          · rw [← hc', hg]
      · subst hc'; exact absurd hl.1 (by simp)
  have zput : ∀ (j id : Nat) (b : Blk), K[j]? = some id → x.h[id]? = some b → 0 < b.gen → z.h[j]? = some ⟨fgen m0 j b.gen, b.elem, nrmD (rnD (sigf m0 s.h K) b.d), b.wr⟩ := by
    intro j id b hj hb hg
    show (cleanH (sigf m0 s.h K) m0 s.h 0 K)[j]? = _
    rw [cleanH_get, hj]
    simp only [Option.map_some, Option.some.injEq, Nat.zero_add]
    rw [← hxh, hb]
    simp only
    split
    · omega
    · rename_i g hg'; rw [hg']
  have hRl : Rl (sigf m0 s.h K) x z := by
    refine ⟨rfl, rfl, fun id g i k hq => ?_⟩
    unfold sigf at hq
    split at hq
    case h_2 => cases hq
    rename_i hcur
    split at hq
    case h_2 => cases hq
    rename_i j hj
    simp only [Option.some.injEq, Prod.mk.injEq] at hq
    obtain ⟨rfl, rfl⟩ := hq
    obtain ⟨_, hj⟩ := posN_spec hj
    rw [Nat.sub_zero] at hj
    unfold cur at hcur
    rw [← hxh] at hcur
    cases hb : x.h[id]? with
    | none => rw [hb] at hcur; cases hcur
    | some b =>
      rw [hb] at hcur
      simp only [Bool.and_eq_true, beq_iff_eq, decide_eq_true_eq] at hcur
      refine ⟨b, _, rfl, hcur.1, hcur.2, zput j id b hj hb (by omega), by rw [hcur.1], fgen_pos.2 hcur.2, by simp only [Blk.cs, nrmD_toV, rnD_length]; exact Nat.le_refl _, fun hp => ?_⟩
      simp only [z, getD j id hj]; exact ⟨hp, trivial⟩
  have hbare : Mono x.bare z.bare := bareR rfl rfl fun _ _ h => h
  have own : ∀ n, z.own n → x.own n := by
    rintro n ⟨j, c, q1, q2, q3, q4⟩
    obtain ⟨id, b, r1, r2, r3, r4, r5⟩ := zget j c q1 q2
    exact ⟨id, b, r2, r3, by rw [r5] at q3; exact q3, by rw [← r4]; exact q4⟩
  have hr : HR z := by
    refine ⟨fun j c hj hl => ?_, fun i j c d hi hl hj hl' hρ => ?_, fun n hn => hs.hr.ownav n (own n hn), hs.hr.avlt, fun j c hj hl => ?_⟩
    · obtain ⟨id, b, r1, r2, r3, r4, r5⟩ := zget j c hj hl
      obtain ⟨cs, lo, hi', k1, k2, k3, k4, k5⟩ := hs.hr.blk id b r2 r3
      obtain ⟨q1, q2⟩ := rnD_ok hRl (.inr hbare) k3 k5
      refine ⟨cs, lo, hi', by rw [r4, r5]; exact k1, k2, ?_, k4, ?_⟩
      · rw [r5]; simp only [Blk.cs, nrmD_toV, rnD_length]; exact q1
      · rw [r5]; simp only [Blk.cs, nrmD_toV, rnD_length]; exact nrmD_good q2
    · obtain ⟨id, b, r1, r2, r3, r4, _⟩ := zget i c hi hl
      obtain ⟨id', b', r1', r2', r3', r4', _⟩ := zget j d hj hl'
      rw [r4, r4'] at hρ
      have e := hs.hr.inj id id' b b' r2 r3 r2' r3' hρ
      subst e
      obtain ⟨p1, p2⟩ := List.getElem?_eq_some_iff.1 r1
      obtain ⟨p1', p2'⟩ := List.getElem?_eq_some_iff.1 r1'
      exact (List.getElem_inj hnd).1 (p2.trans p2'.symm)
    · obtain ⟨id, b, r1, r2, r3, r4, r5⟩ := zget j c hj hl
      rw [r4, r5]
      exact hs.hr.safe id b r2 r3
  have h2 := hs.to
  have hto : To x0 z := by
    refine ⟨⟨⟨h2.ext.mono.P, fun i b hb => ?_, h2.ext.mono.blocks, h2.ext.mono.size⟩, fun n hn ho => ⟨fun k => (h2.ext.heap n hn ho).1 (own n k), (h2.ext.heap n hn ho).2⟩, h2.ext.keep⟩, hr, h2.beside⟩
    have hil : i < m0 := by rw [← hm0]; exact (List.getElem?_eq_some_iff.1 hb).1
    have hg1 := gens1_spec h1 b (List.mem_of_getElem? hb)
    obtain ⟨b', k1, k2, k3⟩ := h2.ext.mono.gens i b hb
    have hKi : K[i]? = some i := by rw [← hK]; exact keeps_low hil
    have hD := getD i i hKi
    refine ⟨_, zput i i b' hKi k1 (by omega), ?_, fun he hl => ?_⟩
    · have := fgen_pos (m0 := m0) (j := i) (g := b'.gen)
      show b.gen ≤ fgen m0 i b'.gen
      omega
    · have he : b.gen = fgen m0 i b'.gen := he
      have : b'.gen = 1 := by
        unfold fgen at he
        split at he
        · omega
        · assumption
        · rw [show Nat.blt i m0 = true from Nat.ble_eq_true_of_le hil] at he
          simp only at he
          omega
      obtain ⟨q1, q2, q3, q4⟩ := k3 (by omega) hl
      refine ⟨?_, ?_, ?_, by simp only [Blk.cs, nrmD_toV, rnD_length]; exact q4⟩
      · simp only [z, hD]; exact q1
      · simp only [z, hD]; exact q2
      · simp only [z, hD]; exact q3
  refine ⟨z, rfl, ?_⟩
  rw [hcl]
  refine ⟨hr, rfl, rns_ok hRl _ _ (.inr hbare) (keepT_ok ks 0 _ _ hs.t), hs.P, hto, hs.d, ok_rns _ _ (ok_keepT _ _ _ hs.ot), fun b hb => ?_⟩
  obtain ⟨j, hj⟩ := List.getElem?_of_mem hb
  simp only at hj
  rw [cleanH_get] at hj
  cases hid : K[j]? with
  | none => rw [hid] at hj; cases hj
  | some id =>
    rw [hid] at hj
    simp only [Option.map_some, Option.some.injEq] at hj
    split at hj
    · rename_i b' hb'
      split at hj
      · subst hj; trivial
      · subst hj; exact nrmD_ok (ok_rnD (hs.oh b' (List.mem_of_getElem? hb')))
    · subst hj; trivial
def knok {R : Type} (s : St) (c : Operand) (x : Bool) (k : St → Option R) : Option R := match c with
  | .tmp n => knk s n x k
  | _ => k s
theorem knok_eq {R : Type} (s : St) (c : Operand) (x : Bool) (k : St → Option R) : knok s c x k = k (kno s c x) := by
  cases c with
  | tmp n => exact knk_eq s n x k
  | _ => rfl
inductive LTr : Type 1 where
  | ret (e : Ex) (s : St)
  | br (b : Bool) (t f : LTr)
  | no
  | bnd {α : Type} (o : Option α) (k : α → LTr)
  | sum {α β : Type} (o : α ⊕ β) (f : α → LTr) (g : β → LTr)
def LTr.run {R : Type} : LTr → (Ex → St → Option R) → Option R
  | .ret e s, k => k e s
  | .br b t f, k => match b with
    | true => t.run k
    | false => f.run k
  | .no, _ => none
  | .bnd o f, k => o.bind fun a => (f a).run k
  | .sum o f g, k => match o with
    | .inl a => (f a).run k
    | .inr b => (g b).run k
def LTr.val (t : LTr) : Option (Ex × St) := t.run fun e s => some (e, s)
theorem LTr.run_eq {R : Type} (k : Ex → St → Option R) : ∀ t : LTr, t.run k = t.val.bind fun p => k p.1 p.2
  | .ret e s => rfl
  | .br true t f => run_eq k t
  | .br false t f => run_eq k f
  | .no => rfl
  | .bnd none f => rfl
  | .bnd (some a) f => run_eq k (f a)
  | .sum (.inl a) f g => run_eq k (f a)
  | .sum (.inr a) f g => run_eq k (g a)
inductive LM where
  | un (n : Nat) (ks : List Nat)
  | by_ (f : St → LTr)
  | no
abbrev Lps := Nat → Nat → LM
section
variable {R : Type}
def loopk (body : St → (Ex → St → Option R) → Option R) (fg : St → St) : Nat → St → (Ex → St → Option R) → Option R
  | 0, _, _ => none
  | n + 1, s, k => body (fg s) fun e s' => match e with
    | .normal => loopk body fg n s' k
    | .exit id => k (.exit id) s'
    | .ret => k .ret s'
variable (P : Program) (C : Orc) (L : Lps)
def codek : Nat → Code → St → (Ex → St → Option R) → Option R
  | _, .skip, s, k => k .normal s
  | _, .region _ ops draw, s, k => match draw with
    | true => match Region.lexB .any ops with
      | true => frH (s.h ++ blanks (nallocs P C ops.toList)) fun h => regd P C ops 0 s.h.length ops.toList [] ⟨s.t, h⟩ (k .normal)
      | false => none
    | false => frH (s.h ++ blanks (nallocs P C ops.toList)) fun h => regk P C ops s.h.length ops.toList ⟨s.t, h⟩ (k .normal)
  | d, .seq a b, s, k => codek d a s fun e s' => match e with
    | .normal => codek d b s' k
    | .exit id => k (.exit id) s'
    | .ret => k .ret s'
  | d, .cond c a b, s, k => match ev s.t c with
    | .b t => match t with
      | true => knok s c true fun s => codek d a s k
      | false => knok s c false fun s => codek d b s k
    | _ => none
  | d, .block id a, s, k => codek d a s fun e s' => match e with
    | .normal => k .normal s'
    | .exit i => if i = id then k .normal s' else k (.exit i) s'
    | .ret => k .ret s'
  | d, .loop a, s, k => match L d (hdR a) with
    | .un n ks => loopk (codek (d + 1) a) (fun s => ⟨keepT ks 0 s.t, s.h⟩) n s k
    | .by_ f => (f s).run k
    | .no => none
  | _, .exit id, s, k => k (.exit id) s
  | _, .ret, s, k => k .ret s
  | _, _, _, _ => none
end
def Ex.to : Ex → Exit
  | .normal => .normal
  | .exit id => .exit id
  | .ret => .ret
def LoopOk (P : Program) (m0 : Nat) (a : Code) (f : St → LTr) : Prop := ∀ (x0 x : Cx) (s : St) (act : Act) (e : Ex) (s' : St), x0.P = P → gens1 x0.h = true → x0.h.length = m0 → SR x0 x s act → (f s).val = some (e, s') →
  ∀ Q : Exit → Act → World → Prop, (∀ (y : Cx) (act' : Act), SR x0 y s' act' → Q e.to act' y.w) → (Code.loop a).wp P Q act x.w
def LoopsOk (P : Program) (L : Lps) (m0 : Nat) : Nat → Code → Prop
  | d, .seq a b => LoopsOk P L m0 d a ∧ LoopsOk P L m0 d b
  | d, .cond _ a b => LoopsOk P L m0 d a ∧ LoopsOk P L m0 d b
  | d, .block _ a => LoopsOk P L m0 d a
  | d, .loop a => match L d (hdR a) with
    | .un _ _ => LoopsOk P L m0 (d + 1) a
    | .by_ f => LoopOk P m0 a f
    | .no => True
  | _, _ => True
theorem codek_ok {x0 : Cx} {R : Type} {C : Orc} (hC : OrcOk x0.P C) (hmx : x0.P.follows .mixedOrders = true) (hg1 : gens1 x0.h = true) {m0 : Nat} (hm0 : x0.h.length = m0) {L : Lps} {res : R} : ∀ (c : Code) (d : Nat) (hL : LoopsOk x0.P L m0 d c) (x : Cx) (s : St) (a : Act) (k : Ex → St → Option R) (Q : Exit → Act → World → Prop), SR x0 x s a → codek x0.P C L d c s k = some res →
    (∀ (e : Ex) (y : Cx) (s' : St) (a' : Act), SR x0 y s' a' → k e s' = some res → Q e.to a' y.w) → c.wp x0.P Q a x.w := by
  intro c
  induction c with
  | skip => intro d _ x s a k Q hs h hQ; exact wp_skip (hQ .normal x s a hs h)
  | exit id => intro d _ x s a k Q hs h hQ; exact wp_exit (hQ (.exit id) x s a hs h)
  | ret => intro d _ x s a k Q hs h hQ; exact wp_ret (hQ .ret x s a hs h)
  | region id ops draw =>
    intro d _ x s a k Q hs h hQ
    simp only [codek, frH_eq] at h
    cases draw with
    | true =>
      simp only at h
      split at h
      · rename_i hB
        exact regd_ok hC hmx hB (fun y s' a' h1 h2 => hQ .normal y s' a' h1 h2) hs h
      · cases h
    | false =>
      simp only at h
      have hm := more_to hs.hr (nallocs x0.P C ops.toList)
      have hs' : SR x0 (x.more (nallocs x0.P C ops.toList)) ⟨s.t, s.h ++ blanks (nallocs x0.P C ops.toList)⟩ a := ⟨hm.hr, by simp [Cx.more, hs.h], hs.t.mono hm.ext.mono, hs.P, hs.to.trans hm, hs.d, hs.ot, hs.oh.app (ok_blanks _)⟩
      have := regk_ok (Q := Q) hC (fun y s' a' h1 h2 => hQ .normal y s' a' h1 h2) ops.toList 0 _ _ _ _ (fun j => by simp) hs' h
      simp only [Nat.zero_add] at this
      refine wp_region ?_
      simpa [Cx.more] using this
  | seq p q ihp ihq =>
    intro d hL x s a k Q hs h hQ
    simp only [codek] at h
    refine wp_seq (ihp d hL.1 x s a _ _ hs h ?_)
    intro e y s' a' hs' hk
    cases e with
    | normal => exact ihq d hL.2 y s' a' k Q hs' hk hQ
    | exit id => exact hQ (.exit id) y s' a' hs' hk
    | ret => exact hQ .ret y s' a' hs' hk
  | cond c p q ihp ihq =>
    intro d hL x s a k Q hs h hQ
    simp only [codek] at h
    split at h
    · rename_i t ht
      have hv := VR_ev hs.t c
      rw [ht] at hv
      have hv : a.eval c = .bool t := hv
      cases t with
      | true => simp only [knok_eq, kno_eq ht] at h; exact wp_cond hv (ihp d hL.1 x s a k Q hs h hQ)
      | false => simp only [knok_eq, kno_eq ht] at h; exact wp_cond hv (ihq d hL.2 x s a k Q hs h hQ)
    · cases h
  | block id p ihp =>
    intro d hL x s a k Q hs h hQ
    simp only [codek] at h
    refine wp_block (ihp d hL x s a _ _ hs h ?_)
    intro e y s' a' hs' hk
    cases e with
    | normal => exact hQ .normal y s' a' hs' hk
    | ret => exact hQ .ret y s' a' hs' hk
    | exit i =>
      simp only [Ex.to, Exit.inBlock]
      dsimp only at hk
      split at hk
      · rename_i he; rw [if_pos he]; exact hQ .normal y s' a' hs' hk
      · rename_i he; rw [if_neg he]; exact hQ (.exit i) y s' a' hs' hk
  | loop p ihp =>
    intro d hL x s a k Q hs h hQ
    simp only [codek] at h
    simp only [LoopsOk] at hL
    split at h
    · rename_i n ks hks
      rw [hks] at hL
      refine wp_loop_rounds n ?_
      have key : ∀ (m : Nat) (x : Cx) (s : St) (a : Act), SR x0 x s a → loopk (codek x0.P C L (d + 1) p) (fun s => ⟨keepT ks 0 s.t, s.h⟩) m s k = some res → Code.rounds x0.P p Q m a x.w := by
        intro m
        induction m with
        | zero => intro x s a _ h; simp [loopk] at h
        | succ m ih =>
          intro x s a hs h
          simp only [loopk] at h
          rw [rounds_succ]
          refine ihp (d + 1) hL x ⟨keepT ks 0 s.t, s.h⟩ a _ _ ⟨hs.hr, hs.h, keepT_ok ks 0 _ _ hs.t, hs.P, hs.to, hs.d, ok_keepT _ _ _ hs.ot, hs.oh⟩ h ?_
          intro e y s' a' hs' hk
          cases e with
          | normal => exact ih y s' a' hs' hk
          | exit id => exact hQ (.exit id) y s' a' hs' hk
          | ret => exact hQ .ret y s' a' hs' hk
      exact key n x s a hs h
    · rename_i f hf
      rw [hf] at hL
      rw [LTr.run_eq] at h
      cases hv : (f s).val with
      | none => rw [hv] at h; cases h
      | some p =>
        obtain ⟨e, s'⟩ := p
        rw [hv] at h
        exact hL x0 x s a e s' rfl hg1 hm0 hs hv Q fun y a' hs' => hQ e y s' a' hs' h
    · cases h
  | _ => intro d _ x s a k Q hs h hQ; simp [codek] at h
end Go.Proofs.Ytcpicekmnkjceaa.VI

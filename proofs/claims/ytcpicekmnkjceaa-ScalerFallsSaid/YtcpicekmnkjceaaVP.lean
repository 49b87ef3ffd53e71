import Derived.Test.YtcpicekmnkjceaaVO
namespace Go.Proofs.Ytcpicekmnkjceaa.VI
set_option linter.unusedVariables false
set_option linter.unusedSimpArgs false
open Go.Region (ready)

section
variable (P : Program) (C : Orc)
def dst (ops : Array Oper) (id : Nat) (o : Oper) (s : St) : Option St := stepk P C ops id o s some
end
/-- Is it wanted? -/
def gd (ops : Array Oper) (o : Oper) (t : List V) : Option Bool := match o.guard with
  | none => some true
  | some (j, w) => match (ops[j]?).bind (·.dst) with
    | some d => match t.getD d .u with
      | .b x => some (x == w)
      | _ => none
    | none => none
theorem stepk_bind {P : Program} {C : Orc} {ops : Array Oper} {id : Nat} {o : Oper} {s : St} {R : Type} (k : St → Option R) : stepk P C ops id o s k = (dst P C ops id o s).bind k := by
  have hop : ∀ s : St, opk P C id (ev s.t) s.h (fin o s k) o.op = (opk P C id (ev s.t) s.h (fin o s some) o.op).bind k := by
    intro s
    rw [fin_eq, fin_eq, opk_bind, opk_bind]
    cases opd P C id (ev s.t) s.h o.op <;> rfl
  have hg : ∀ (s : St) (w : Bool), stepg P C id o s k w = (stepg P C id o s some w).bind k := by
    intro s w
    cases w with
    | true => exact hop s
    | false => simp only [stepg, fin_eq, Option.bind_some]
  unfold dst stepk
  cases o.guard with
  | none => exact hop s
  | some jw =>
    obtain ⟨j, w⟩ := jw
    simp only
    cases (ops[j]?).bind (·.dst) with
    | none => rfl
    | some d =>
      simp only
      cases s.t.getD d .u with
      | b x => cases x <;> simp only [knk_eq] <;> exact hg _ _
      | _ => rfl
theorem dst_eq {P : Program} {C : Orc} {ops : Array Oper} {id : Nat} {o : Oper} {s : St} : dst P C ops id o s = match gd ops o s.t with
    | some true => (opd P C id (ev s.t) s.h o.op).bind fun p => some ⟨putt s.t o.dst p.1, p.2⟩
    | some false => some ⟨putt s.t o.dst .u, s.h⟩
    | none => none := by
  unfold dst stepk gd
  cases o.guard with
  | none => simp only [fin_eq]; rw [opk_bind]
  | some jw =>
    obtain ⟨j, w⟩ := jw
    simp only
    cases (ops[j]?).bind (·.dst) with
    | none => rfl
    | some d =>
      simp only
      cases hx : s.t.getD d .u with
      | b x =>
        cases x with
        | true =>
          simp only [knk_eq, kn_eq hx]
          cases w with
          | true => simp only [stepg, fin_eq]; rw [opk_bind]; rfl
          | false => simp only [stepg, fin_eq]; rfl
        | false =>
          simp only [knk_eq, kn_eq hx]
          cases w with
          | false => simp only [stepg, fin_eq, Bool.not_false]; rw [opk_bind]; rfl
          | true => simp only [stepg, fin_eq, Bool.not_true]; rfl
      | _ => rfl

/-- These places hold the same. -/
def same (ds : List Tmp) (t2 t : List V) : Prop := ∀ d ∈ ds, t2.getD d .u = t.getD d .u
theorem same_put {t : List V} {d : Option Tmp} {c : V} {ds : List Tmp} (h : ∀ k, d = some k → k ∉ ds) : same ds (putt t d c) t := by
  intro k hk
  cases d with
  | none => rfl
  | some d =>
    simp only [putt]
    have : d ≠ k := fun e => h d rfl (e ▸ hk)
    rw [List.getD_eq_getElem?_getD, List.getD_eq_getElem?_getD, List.getElem?_set_ne this]
theorem ev_same {ops : Array Oper} {o : Oper} {t2 t : List V} (h : same (o.looksAt ops) t2 t) : ∀ x ∈ o.op.operands, ev t2 x = ev t x := by
  intro x hx
  cases x with
  | tmp n =>
    simp only [ev]
    exact h n (List.mem_append_left _ (List.mem_filterMap.2 ⟨.tmp n, by simpa using hx, rfl⟩))
  | _ => rfl
theorem gd_same {ops : Array Oper} {o : Oper} {t2 t : List V} (h : same (o.looksAt ops) t2 t) : gd ops o t2 = gd ops o t := by
  unfold gd
  cases hg : o.guard with
  | none => rfl
  | some jw =>
    obtain ⟨j, w⟩ := jw
    simp only
    cases hd : (ops[j]?).bind (·.dst) with
    | none => rfl
    | some d =>
      simp only
      rw [h d (List.mem_append_right _ (by simp [hg, hd]))]
def acc (id : Nat) (o : Oper) (t : List V) : List Nat × Bool := tch id (ev t) o.op
/-- What a step does, wherever it does it. -/
structure Loc (P : Program) (C : Orc) (ops : Array Oper) (id : Nat) (o : Oper) (s : St) (r : V) (U : Heap → Heap) : Prop where
  loc : Local (acc id o s.t).1 U
  q : (acc id o s.t).2 = true → ∀ g, U g = g
  st : ∀ t2 h2, same (o.looksAt ops) t2 s.t → agree (acc id o s.t).1 h2 s.h → dst P C ops id o ⟨t2, h2⟩ = some ⟨putt t2 o.dst r, U h2⟩ ∧ acc id o t2 = acc id o s.t ∧ (gd ops o t2 = some true → fok P h2 (ev t2) o.op = true)
theorem dst_loc {P : Program} {C : Orc} {ops : Array Oper} {id : Nat} {o : Oper} {s s1 : St} (h : dst P C ops id o s = some s1) (hf : gd ops o s.t = some true → fok P s.h (ev s.t) o.op = true) :
    ∃ r U, s1 = ⟨putt s.t o.dst r, U s.h⟩ ∧ Loc P C ops id o s r U := by
  rw [dst_eq] at h
  split at h
  · rename_i hg
    cases hv : opd P C id (ev s.t) s.h o.op with
    | none => rw [hv] at h; cases h
    | some p =>
      rw [hv] at h
      obtain ⟨r, h1⟩ := p
      simp only [Option.bind_some, Option.some.injEq] at h
      subst h
      obtain ⟨U, e1, e2, e3, e4⟩ := opd_loc hv (hf hg)
      subst e1
      refine ⟨r, U, rfl, e2, e3, fun t2 h2 hs ha => ?_⟩
      obtain ⟨k1, k2⟩ := e4 h2 ha
      have he := ev_same hs
      have hc := opd_congr (P := P) (C := C) (id := id) (h := h2) he
      refine ⟨?_, (opv_congr (P := P) (h := h2) (id := id) he).2, fun _ => by rw [hc.2]; exact k2⟩
      rw [dst_eq, gd_same hs, hg]
      simp only [hc.1, k1, Option.bind_some]
  · rename_i hg
    simp only [Option.some.injEq] at h
    subst h
    refine ⟨.u, fun g => g, rfl, Local.id _, fun _ _ => rfl, fun t2 h2 hs ha => ?_⟩
    refine ⟨?_, (opv_congr (P := P) (h := h2) (id := id) (ev_same hs)).2, fun hk => ?_⟩
    · rw [dst_eq, gd_same hs, hg]
    · rw [gd_same hs, hg] at hk; cases hk
  · cases h

def compat (a b : List Nat × Bool) : Bool := (a.2 && b.2) || a.1.all fun i => !b.1.contains i
theorem compat_spec {a b : List Nat × Bool} (h : compat a b = true) : (a.2 = true ∧ b.2 = true) ∨ ∀ i ∈ a.1, i ∉ b.1 := by
  simp only [compat, Bool.or_eq_true, Bool.and_eq_true] at h
  rcases h with h | h
  · exact .inl h
  · refine .inr fun i hi hb => ?_
    have := List.all_eq_true.1 h i hi
    rw [List.contains_iff_mem.2 hb] at this
    cases this
theorem compat_symm {a b : List Nat × Bool} (h : compat a b = true) : compat b a = true := by
  rcases compat_spec h with h | h
  · simp [compat, h.1, h.2]
  · simp only [compat, Bool.or_eq_true]
    refine .inr (List.all_eq_true.2 fun i hi => ?_)
    cases hc : a.1.contains i with
    | false => rfl
    | true => exact absurd hi (h i (List.contains_iff_mem.1 hc))
/-- Two steps that do not see each other. -/
theorem agree_of_compat {T : List Nat} {q : Bool} {U : Heap → Heap} {b : List Nat × Bool} (hl : Local T U) (hq : q = true → ∀ g, U g = g) (hc : compat (T, q) b = true) (h : Heap) : agree b.1 (U h) h := by
  intro j hj
  rcases compat_spec hc with ⟨k, _⟩ | k
  · rw [hq k]
  · exact hl.out h j fun e => k j e hj
theorem swap {P : Program} {C : Orc} {ops : Array Oper} {id id' : Nat} {o o' : Oper} {s s1 s2 : St} (hap : o.apart ops o' = true) (hc : compat (acc id o s.t) (acc id' o' s1.t) = true)
    (h1 : dst P C ops id o s = some s1) (f1 : gd ops o s.t = some true → fok P s.h (ev s.t) o.op = true) (h2 : dst P C ops id' o' s1 = some s2) (f2 : gd ops o' s1.t = some true → fok P s1.h (ev s1.t) o'.op = true) :
    acc id' o' s.t = acc id' o' s1.t ∧ (gd ops o' s.t = some true → fok P s.h (ev s.t) o'.op = true) ∧ ∃ s1', dst P C ops id' o' s = some s1' ∧ dst P C ops id o s1' = some s2 ∧ acc id o s1'.t = acc id o s.t ∧ (gd ops o s1'.t = some true → fok P s1'.h (ev s1'.t) o.op = true) := by
  obtain ⟨a1, a2, a3⟩ := Oper.apart_spec hap
  obtain ⟨r, U, rfl, L⟩ := dst_loc h1 f1
  obtain ⟨r', U', rfl, L'⟩ := dst_loc h2 f2
  have hs : same (o'.looksAt ops) s.t (putt s.t o.dst r) := fun d hd => (same_put a1 d hd).symm
  have hag : agree (acc id' o' (putt s.t o.dst r)).1 s.h (U s.h) := fun j hj => (agree_of_compat L.loc L.q hc s.h j hj).symm
  obtain ⟨k1, k2, k3⟩ := L'.st s.t s.h hs hag
  refine ⟨k2, k3, _, k1, ?_⟩
  have hag' : agree (acc id o s.t).1 (U' s.h) s.h := agree_of_compat L'.loc L'.q (compat_symm hc) s.h
  obtain ⟨m1, m2, m3⟩ := L.st (putt s.t o'.dst r') (U' s.h) (same_put a3) hag'
  refine ⟨?_, m2, m3⟩
  rw [m1]
  have e1 : putt (putt s.t o'.dst r') o.dst r = putt (putt s.t o.dst r) o'.dst r' := by
    cases hd : o.dst with
    | none => rfl
    | some d =>
      cases hd' : o'.dst with
      | none => rfl
      | some d' => simp only [putt]; exact List.set_comm _ _ (fun e => a2 d hd (by rw [hd', e]))
  have e2 : U (U' s.h) = U' (U s.h) := by
    rcases compat_spec hc with ⟨q1, q2⟩ | hd
    · rw [L.q q1, L.q q1]
    · exact L.loc.comm L'.loc hd s.h
  rw [e1, e2]
end Go.Proofs.Ytcpicekmnkjceaa.VI

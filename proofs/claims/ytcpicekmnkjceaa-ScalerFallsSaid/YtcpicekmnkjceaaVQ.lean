import Derived.Test.YtcpicekmnkjceaaVP
namespace Go.Proofs.Ytcpicekmnkjceaa.VI
set_option linter.unusedVariables false
set_option linter.unusedSimpArgs false
open Go.Region (ready)

abbrev Acc := List Nat × Bool
def dep (o : Oper) (i : Nat) : Bool := o.after.any fun e => Region.binds .any e && e.on == i
def idAt (ops : Array Oper) (base k : Nat) : Nat := base + nallocs (ops.toList.take k)

section
variable (P : Program) (C : Orc) (ops : Array Oper) (base : Nat) (Q : St → Prop)
def AnyD : Nat → Array Bool → List (Nat × Acc) → St → Prop
  | 0, L, _, s => ready .any ops L = [] ∧ Q s
  | n + 1, L, log, s => (ready .any ops L = [] → Q s) ∧ ∀ i ∈ ready .any ops L, ∀ o, ops[i]? = some o →
      (gd ops o s.t = some true → fok P s.h (ev s.t) o.op = true) ∧ (∀ p ∈ log, dep o p.1 = false → compat p.2 (acc (idAt ops base i) o s.t) = true) ∧
        ∃ s1, dst P C ops (idAt ops base i) o s = some s1 ∧ AnyD n (L.setIfInBounds i true) ((i, acc (idAt ops base i) o s.t) :: log) s1
def LexD : List Oper → Nat → List (Nat × Acc) → St → Prop
  | [], _, _, s => Q s
  | o :: l, k, log, s => (gd ops o s.t = some true → fok P s.h (ev s.t) o.op = true) ∧ (∀ p ∈ log, dep o p.1 = false → compat p.2 (acc (idAt ops base k) o s.t) = true) ∧
        ∃ s1, dst P C ops (idAt ops base k) o s = some s1 ∧ LexD l (k + 1) ((k, acc (idAt ops base k) o s.t) :: log) s1
end
section
variable {P : Program} {C : Orc} {ops : Array Oper} {base : Nat} {Q : St → Prop}
theorem AnyD_sub : ∀ (n : Nat) (L : Array Bool) (log log' : List (Nat × Acc)) (s : St), (∀ p ∈ log', p ∈ log) → AnyD P C ops base Q n L log s → AnyD P C ops base Q n L log' s
  | 0, _, _, _, _, _, h => h
  | n + 1, L, log, log', s, hs, h => ⟨h.1, fun i hi o ho => by
      obtain ⟨h1, h2, s1, h3, h4⟩ := h.2 i hi o ho
      refine ⟨h1, fun p hp => h2 p (hs p hp), s1, h3, AnyD_sub n _ _ _ _ (fun p hp => ?_) h4⟩
      rcases List.mem_cons.1 hp with e | e
      · rw [e]; simp
      · exact List.mem_cons_of_mem _ (hs p e)⟩
theorem AnyD_first {i : Nat} {oi : Oper} (hi : ops[i]? = some oi) : ∀ (n : Nat) (L : Array Bool) (log : List (Nat × Acc)) (s s1 : St),
    (∀ j oj, ops[j]? = some oj → j ≠ i → L.getD j true = false → (∀ e ∈ oj.after, Region.binds .any e = true → e.on ≠ i) → oi.apart ops oj = true) →
    i ∈ ready .any ops L → (gd ops oi s.t = some true → fok P s.h (ev s.t) oi.op = true) → (∀ p ∈ log, dep oi p.1 = false → compat p.2 (acc (idAt ops base i) oi s.t) = true) →
    dst P C ops (idAt ops base i) oi s = some s1 → AnyD P C ops base Q n (L.setIfInBounds i true) ((i, acc (idAt ops base i) oi s.t) :: log) s1 → AnyD P C ops base Q (n + 1) L log s := by
  intro n
  induction n with
  | zero =>
    intro L log s s1 _ hr f c h1 H
    refine ⟨fun h => (by rw [h] at hr; cases hr), fun j hj o ho => ?_⟩
    by_cases hji : j = i
    · subst hji
      have : o = oi := by rw [hi] at ho; exact (Option.some.inj ho).symm
      subst this
      exact ⟨f, c, s1, h1, H⟩
    · have := ready_mono hj hji
      rw [H.1] at this
      cases this
  | succ n ih =>
    intro L log s s1 hfree hr f c h1 H
    refine ⟨fun h => (by rw [h] at hr; cases hr), fun j hj o ho => ?_⟩
    by_cases hji : j = i
    · subst hji
      have : o = oi := by rw [hi] at ho; exact (Option.some.inj ho).symm
      subst this
      exact ⟨f, c, s1, h1, H⟩
    · obtain ⟨f2, c2, s2, h2, H2⟩ := H.2 j (ready_mono hj hji) o ho
      obtain ⟨hjun, oj, hoj, hall⟩ := mem_ready.1 hj
      have : oj = o := by rw [ho] at hoj; exact (Option.some.inj hoj).symm
      subst this
      have hnot : ∀ e ∈ oj.after, Region.binds .any e = true → e.on ≠ i := fun e he hb heq => by
        have h1 := hall e he hb
        have h0 := (mem_ready.1 hr).1
        rw [heq] at h1
        rcases Nat.lt_or_ge i L.size with h' | h'
        · simp [h'] at h0 h1; rw [h0] at h1; cases h1
        · simp [Array.getElem?_eq_none h'] at h1
      have hdep : dep oj i = false := by
        unfold dep
        rw [Bool.eq_false_iff]
        intro h
        obtain ⟨e, he, hb⟩ := Array.any_eq_true'.1 h
        simp only [Bool.and_eq_true, beq_iff_eq] at hb
        exact hnot e he hb.1 hb.2
      have hc := c2 (i, acc (idAt ops base i) oi s.t) (by simp) hdep
      obtain ⟨k1, k2, s1', d1, d2, k3, k4⟩ := swap (hfree j oj hoj hji hjun hnot) hc h1 f h2 f2
      refine ⟨k2, fun p hp hd => ?_, s1', d1, ?_⟩
      · rw [k1]; exact c2 p (List.mem_cons_of_mem _ hp) hd
      · refine ih _ _ s1' s2 (fun k ok hk hki hun hno => ?_) (ready_mono hr (Ne.symm hji)) k4 (fun p hp hd => ?_) d2 ?_
        · refine hfree k ok hk hki ?_ hno
          by_cases hjk : j = k
          · subst hjk; exact hjun
          · rw [getD_set_ne true hjk] at hun; exact hun
        · rw [k3]
          rcases List.mem_cons.1 hp with e | e
          · rw [e, k1]; exact compat_symm hc
          · exact c p e hd
        · rw [Array.setIfInBounds_comm _ _ hji, k3, k1]
          refine AnyD_sub _ _ _ _ _ (fun p hp => ?_) H2
          simp only [List.mem_cons] at hp ⊢
          rcases hp with e | e | e
          · exact .inr (.inl e)
          · exact .inl e
          · exact .inr (.inr e)
theorem AnyD_lex : ∀ (l : List Oper) (k : Nat) (L : Array Bool) (log : List (Nat × Acc)) (s : St), (∀ j, l[j]? = ops[k + j]?) → Region.lexFrom .any ops l.length k L = true →
    LexD P C ops base Q l k log s → AnyD P C ops base Q l.length L log s
  | [], _, _, _, _, _, hB, h => ⟨by simpa [Region.lexFrom] using hB, h⟩
  | o :: l, k, L, log, s, hl, hB, h => by
    have h0 : ops[k]? = some o := by simpa using (hl 0).symm
    simp only [List.length_cons, Region.lexFrom, Bool.and_eq_true] at hB
    obtain ⟨⟨hr, hf⟩, hB'⟩ := hB
    obtain ⟨f, c, s1, h1, H⟩ := h
    exact AnyD_first h0 l.length L log s s1 (Region.free_spec h0 hf) (by simpa using hr) f c h1
      (AnyD_lex l (k + 1) _ _ s1 (fun j => by have := hl (j + 1); simpa [Nat.add_assoc, Nat.add_comm 1 j] using this) hB' H)
end
section
variable {R : Type} (P : Program) (C : Orc) (ops : Array Oper)
def chk (o : Oper) (a : Acc) : List (Nat × Acc) → Bool
  | [] => true
  | p :: l => match dep o p.1 with
    | true => chk o a l
    | false => match compat p.2 a with
      | true => chk o a l
      | false => false
def addl (k : Nat) (a : Acc) (log : List (Nat × Acc)) : List (Nat × Acc) := match a.1 with
  | [] => log
  | _ => (k, a) :: log
def regd : Nat → Nat → List Oper → List (Nat × Acc) → St → (St → Option R) → Option R
  | _, _, [], _, s, K => K s
  | k, id, o :: l, log, s, K => match fok P s.h (ev s.t) o.op && chk o (acc id o s.t) log with
    | true => stepk P C ops id o s fun s' => regd (k + 1) (if isAlloc o.op = true then id + 1 else id) l (addl k (acc id o s.t) log) s' K
    | false => none
end
theorem chk_spec {o : Oper} {a : Acc} : ∀ {log : List (Nat × Acc)}, chk o a log = true → ∀ p ∈ log, dep o p.1 = false → compat p.2 a = true
  | [], _, _, hp, _ => by cases hp
  | q :: l, h, p, hp, hd => by
    simp only [chk] at h
    rcases List.mem_cons.1 hp with e | e
    · subst e
      rw [hd] at h
      simp only at h
      cases hc : compat p.2 a with
      | true => rfl
      | false => rw [hc] at h; cases h
    · refine chk_spec (log := l) ?_ p e hd
      split at h
      · exact h
      · split at h
        · exact h
        · cases h
theorem nallocs_take {ops : Array Oper} {k : Nat} {o : Oper} (h : ops[k]? = some o) : nallocs (ops.toList.take (k + 1)) = nallocs (ops.toList.take k) + if isAlloc o.op = true then 1 else 0 := by
  have h' : ops.toList[k]? = some o := by simpa using h
  clear h
  generalize ops.toList = l at h'
  have h := h'
  clear h'
  induction l generalizing k with
  | nil => simp at h
  | cons q l ih =>
    cases k with
    | zero =>
      simp at h; subst h
      simp only [List.take_succ_cons, List.take_zero, nallocs]
      split <;> simp
    | succ k =>
      have := ih (k := k) (by simpa using h)
      simp only [List.take_succ_cons, nallocs] at this ⊢
      rw [this]
      split <;> split <;> omega
theorem regd_lex {P : Program} {C : Orc} {ops : Array Oper} {base : Nat} {R : Type} {K : St → Option R} {res : R} : ∀ (l : List Oper) (k : Nat) (log full : List (Nat × Acc)) (s : St), (∀ j, l[j]? = ops[k + j]?) → (∀ p ∈ full, p ∈ log ∨ p.2.1 = []) →
    regd P C ops k (idAt ops base k) l log s K = some res → LexD P C ops base (fun s => K s = some res) l k full s
  | [], _, _, _, _, _, _, h => h
  | o :: l, k, log, full, s, hl, hf, h => by
    have h0 : ops[k]? = some o := by simpa using (hl 0).symm
    simp only [regd] at h
    split at h
    · rename_i hc
      simp only [Bool.and_eq_true] at hc
      rw [stepk_bind] at h
      cases hs : dst P C ops (idAt ops base k) o s with
      | none => rw [hs] at h; cases h
      | some s1 =>
        rw [hs] at h
        simp only [Option.bind_some] at h
        refine ⟨fun _ => hc.1, fun p hp hd => ?_, s1, hs, ?_⟩
        · rcases hf p hp with e | e
          · exact chk_spec hc.2 p e hd
          · simp [compat, e]
        · refine regd_lex l (k + 1) _ _ s1 (fun j => by have := hl (j + 1); simpa [Nat.add_assoc, Nat.add_comm 1 j] using this) (fun p hp => ?_) (by
            have e : idAt ops base (k + 1) = if isAlloc o.op = true then idAt ops base k + 1 else idAt ops base k := by
              unfold idAt
              rw [nallocs_take h0]
              split <;> omega
            rw [e]; exact h)
          rcases List.mem_cons.1 hp with e | e
          · subst e
            cases ht : (acc (idAt ops base k) o s.t).1 with
            | nil => exact .inr rfl
            | cons a b => refine .inl ?_; unfold addl; rw [ht]; simp
          · rcases hf p e with q | q
            · refine .inl ?_
              unfold addl
              split
              · exact q
              · exact List.mem_cons_of_mem _ q
            · exact .inr q
    · cases h

theorem any_sound {x0 : Cx} {C : Orc} (hC : OrcOk x0.P C) {ops : Array Oper} {base : Nat} {Q : St → Prop} {Q' : Exit → Act → World → Prop} (hQ : ∀ (y : Cx) (s' : St) (a' : Act), SR x0 y s' a' → Q s' → Q' .normal a' y.w) :
    ∀ (n : Nat) (L : Array Bool) (log : List (Nat × Acc)) (x : Cx) (s : St) (a : Act), SR x0 x s a → AnyD x0.P C ops base Q n L log s → wpAny x0.P .any ops Q' n L a x.w
  | 0, _, _, x, s, a, hs, h => ⟨h.1, hQ x s a hs h.2⟩
  | n + 1, L, log, x, s, a, hs, h => by
    refine ⟨fun h0 => hQ x s a hs (h.1 h0), fun i hi => ?_⟩
    obtain ⟨_, o, ho, _⟩ := mem_ready.1 hi
    obtain ⟨_, _, s1, h1, H⟩ := h.2 i hi o ho
    unfold wpOp
    simp only [ho]
    have hstep := stepk_ok hC hs (k := some) (res := s1) h1 (K := wpAny x0.P .any ops Q' n (L.setIfInBounds i true)) (Q := Q') (fun y s' a' hs' hk => by
      have : s' = s1 := Option.some.inj hk
      subst this
      exact any_sound hC hQ n _ _ y s' a' hs' H)
    split
    · rename_i hw; exact .inl (hstep.1 hw)
    · rename_i hw; exact hstep.2 hw

def Cx.draw (x : Cx) : Cx := { x with w := { x.w with drawn := x.w.drawn + 1 } }
theorem draw_to {x : Cx} (hx : HR x) : To x x.draw := by
  have mono : Mono x x.draw := ⟨rfl, fun id b hb => ⟨b, hb, Nat.le_refl _, fun _ _ => ⟨rfl, rfl, Nat.le_refl _⟩⟩, fun _ _ ha => ⟨ha, rfl⟩, Nat.le_refl _⟩
  refine ⟨⟨mono, fun _ _ ho => ⟨ho, rfl⟩, fun _ _ ha _ => ha⟩, ⟨fun id b hb hg => ?_, hx.inj, hx.ownav, hx.avlt, hx.safe⟩, ⟨rfl, rfl, rfl⟩⟩
  obtain ⟨cs, lo, hi, h1, h2, h3⟩ := hx.blk id b hb hg
  exact ⟨cs, lo, hi, h1, h2, h3.mono mono⟩
/-- A region whose operations come in any order. -/
theorem regd_ok {x0 : Cx} {C : Orc} (hC : OrcOk x0.P C) (hm : x0.P.follows .mixedOrders = true) {id : Nat} {ops : Array Oper} (hB : Region.lexB .any ops = true) {R : Type} {k : St → Option R} {res : R} {Q : Exit → Act → World → Prop}
    (hQ : ∀ (y : Cx) (s' : St) (a' : Act), SR x0 y s' a' → k s' = some res → Q .normal a' y.w) {x : Cx} {s : St} {a : Act} (hs : SR x0 x s a)
    (h : regd x0.P C ops 0 s.h.length ops.toList [] ⟨s.t, s.h ++ blanks (nallocs ops.toList)⟩ k = some res) : (Code.region id ops true).wp x0.P Q a x.w := by
  simp only [Region.lexB, Bool.and_eq_true] at hB
  have h1 := draw_to hs.hr
  have h2 := more_to h1.hr (nallocs ops.toList)
  have hs' : SR x0 (x.draw.more (nallocs ops.toList)) ⟨s.t, s.h ++ blanks (nallocs ops.toList)⟩ a := ⟨h2.hr, by simp [Cx.more, Cx.draw, hs.h], (hs.t.mono h1.ext.mono).mono h2.ext.mono, hs.P, (hs.to.trans h1).trans h2, hs.d⟩
  refine wp_region_any hm ?_
  have hl := regd_lex (ops := ops) (base := s.h.length) ops.toList 0 [] [] _ (fun j => by simp) (fun p hp => by cases hp) (by simpa [idAt, nallocs] using h)
  have ha := AnyD_lex (ops := ops) ops.toList 0 (Array.replicate ops.size false) [] _ (fun j => by simp) (by simpa using hB.2) hl
  have := any_sound hC hQ _ _ _ _ _ _ hs' ha
  simpa [Cx.more, Cx.draw] using this
end Go.Proofs.Ytcpicekmnkjceaa.VI

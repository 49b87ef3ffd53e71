import Derived.Test.YtkmkhcmfpbffjaaGreatT16f78fe4
import Derived.LoopN
import Derived.Below
import Derived.KernelRfl
namespace Go.Proofs.YtkmkhcmfpbffjaaGreat.VI
set_option linter.unusedVariables false
set_option linter.unusedSimpArgs false
open Go.Region (ready)
abbrev Acc := List Nat × Bool
def dep (o : Oper) (i : Nat) : Bool := o.after.any fun e => Region.binds .any e && e.on == i
def idAt (P : Program) (C : Orc) (ops : Array Oper) (base k : Nat) : Nat := base + nallocs P C (ops.toList.take k)
section
variable (P : Program) (C : Orc) (ops : Array Oper) (base : Nat) (Q : St → Prop)
def AnyD : Nat → Array Bool → List (Nat × Acc) → St → Prop
  | 0, L, _, s => ready .any ops L = [] ∧ Q s
  | n + 1, L, log, s => (ready .any ops L = [] → Q s) ∧ ∀ i ∈ ready .any ops L, ∀ o, ops[i]? = some o →
      (∀ p ∈ log, dep o p.1 = false → compat p.2 (gacc P C ops (idAt P C ops base i) o s) = true) ∧
        ∃ s1, dst P C ops (idAt P C ops base i) o s = some s1 ∧ AnyD n (L.setIfInBounds i true) ((i, gacc P C ops (idAt P C ops base i) o s) :: log) s1
def LexD : List Oper → Nat → List (Nat × Acc) → St → Prop
  | [], _, _, s => Q s
  | o :: l, k, log, s => (∀ p ∈ log, dep o p.1 = false → compat p.2 (gacc P C ops (idAt P C ops base k) o s) = true) ∧
        ∃ s1, dst P C ops (idAt P C ops base k) o s = some s1 ∧ LexD l (k + 1) ((k, gacc P C ops (idAt P C ops base k) o s) :: log) s1
end
section
variable {P : Program} {C : Orc} {ops : Array Oper} {base : Nat} {Q : St → Prop}
theorem AnyD_sub : ∀ (n : Nat) (L : Array Bool) (log log' : List (Nat × Acc)) (s : St), (∀ p ∈ log', p ∈ log) → AnyD P C ops base Q n L log s → AnyD P C ops base Q n L log' s
  | 0, _, _, _, _, _, h => h
  | n + 1, L, log, log', s, hs, h => ⟨h.1, fun i hi o ho => by
      obtain ⟨h2, s1, h3, h4⟩ := h.2 i hi o ho
      refine ⟨fun p hp => h2 p (hs p hp), s1, h3, AnyD_sub n _ _ _ _ (fun p hp => ?_) h4⟩
      rcases List.mem_cons.1 hp with e | e
      · rw [e]; simp
      · exact List.mem_cons_of_mem _ (hs p e)⟩
theorem AnyD_first {i : Nat} {oi : Oper} (hi : ops[i]? = some oi) : ∀ (n : Nat) (L : Array Bool) (log : List (Nat × Acc)) (s s1 : St),
    (∀ j oj, ops[j]? = some oj → j ≠ i → L.getD j true = false → (∀ e ∈ oj.after, Region.binds .any e = true → e.on ≠ i) → oi.apart ops oj = true) →
    i ∈ ready .any ops L → (∀ p ∈ log, dep oi p.1 = false → compat p.2 (gacc P C ops (idAt P C ops base i) oi s) = true) →
    dst P C ops (idAt P C ops base i) oi s = some s1 → AnyD P C ops base Q n (L.setIfInBounds i true) ((i, gacc P C ops (idAt P C ops base i) oi s) :: log) s1 → AnyD P C ops base Q (n + 1) L log s := by
  intro n
  induction n with
  | zero =>
    intro L log s s1 _ hr c h1 H
    refine ⟨fun h => (by rw [h] at hr; cases hr), fun j hj o ho => ?_⟩
    by_cases hji : j = i
    · subst hji
      have : o = oi := by rw [hi] at ho; exact (Option.some.inj ho).symm
      subst this
      exact ⟨c, s1, h1, H⟩
    · have := ready_mono hj hji
      rw [H.1] at this
      cases this
  | succ n ih =>
    intro L log s s1 hfree hr c h1 H
    refine ⟨fun h => (by rw [h] at hr; cases hr), fun j hj o ho => ?_⟩
    by_cases hji : j = i
    · subst hji
      have : o = oi := by rw [hi] at ho; exact (Option.some.inj ho).symm
      subst this
      exact ⟨c, s1, h1, H⟩
    · obtain ⟨c2, s2, h2, H2⟩ := H.2 j (ready_mono hj hji) o ho
      obtain ⟨hjun, oj, hoj, hall⟩ := mem_ready.1 hj
      have : oj = o := by rw [ho] at hoj; exact (Option.some.inj hoj).symm
      subst this
      have hnot : ∀ e ∈ oj.after, Region.binds .any e = true → e.on ≠ i := fun e he hb heq => by
        have h1 := hall e he hb
        have h0 := (mem_ready.1 hr).1
        rw [heq] at h1
        rcases Nat.lt_or_ge i L.size with h' | h'
        · simp [h'] at h0 h1; rw [h0] at h1; cases h1
        · simp [Array.getElem?_eq_none h'] at h1
      have hdep : dep oj i = false := by
        unfold dep
        rw [Bool.eq_false_iff]
        intro h
        obtain ⟨e, he, hb⟩ := Array.any_eq_true'.1 h
        simp only [Bool.and_eq_true, beq_iff_eq] at hb
        exact hnot e he hb.1 hb.2
      have hc := c2 (i, gacc P C ops (idAt P C ops base i) oi s) (by simp) hdep
      obtain ⟨k1, s1', d1, d2, k3⟩ := swap (hfree j oj hoj hji hjun hnot) hc h1 h2
      refine ⟨fun p hp hd => ?_, s1', d1, ?_⟩
      · rw [k1]; exact c2 p (List.mem_cons_of_mem _ hp) hd
      · refine ih _ _ s1' s2 (fun k ok hk hki hun hno => ?_) (ready_mono hr (Ne.symm hji)) (fun p hp hd => ?_) d2 ?_
        · refine hfree k ok hk hki ?_ hno
          by_cases hjk : j = k
          · subst hjk; exact hjun
          · rw [getD_set_ne true hjk] at hun; exact hun
        · rw [k3]
          rcases List.mem_cons.1 hp with e | e
          · rw [e, k1]; exact compat_symm hc
          · exact c p e hd
        · rw [Array.setIfInBounds_comm _ _ hji, k3, k1]
          refine AnyD_sub _ _ _ _ _ (fun p hp => ?_) H2
          simp only [List.mem_cons] at hp ⊢
          rcases hp with e | e | e
          · exact .inr (.inl e)
          · exact .inl e
          · exact .inr (.inr e)
theorem AnyD_lex : ∀ (l : List Oper) (k : Nat) (L : Array Bool) (log : List (Nat × Acc)) (s : St), (∀ j, l[j]? = ops[k + j]?) → Region.lexFrom .any ops l.length k L = true →
    LexD P C ops base Q l k log s → AnyD P C ops base Q l.length L log s
  | [], _, _, _, _, _, hB, h => ⟨by simpa [Region.lexFrom] using hB, h⟩
  | o :: l, k, L, log, s, hl, hB, h => by
    have h0 : ops[k]? = some o := by simpa using (hl 0).symm
    simp only [List.length_cons, Region.lexFrom, Bool.and_eq_true] at hB
    obtain ⟨⟨hr, hf⟩, hB'⟩ := hB
    obtain ⟨c, s1, h1, H⟩ := h
    exact AnyD_first h0 l.length L log s s1 (Region.free_spec h0 hf) (by simpa using hr) c h1
      (AnyD_lex l (k + 1) _ _ s1 (fun j => by have := hl (j + 1); simpa [Nat.add_assoc, Nat.add_comm 1 j] using this) hB' H)
end
section
variable {R : Type} (P : Program) (C : Orc) (ops : Array Oper)
def chk (o : Oper) (a : Acc) : List (Nat × Acc) → Bool
  | [] => true
  | p :: l => match dep o p.1 with
    | true => chk o a l
    | false => match compat p.2 a with
      | true => chk o a l
      | false => false
def addl (k : Nat) (a : Acc) (log : List (Nat × Acc)) : List (Nat × Acc) := match a.1 with
  | [] => log
  | _ => (k, a) :: log
def gdk (o : Oper) (s : St) (k : Bool → St → Option R) : Option R := match o.guard with
  | none => k true s
  | some (j, w) => match (ops[j]?).bind (·.dst) with
    | some d => match s.t.getD d .u with
      | .b x => match x with
        | true => knk s d true fun s => k w s
        | false => knk s d false fun s => k (!w) s
      | .tup [] => k false s
      | _ => none
    | none => none
def accg (id : Nat) (o : Oper) (s : St) (g : Bool) : Acc := match g with
  | true => acc P C id o s
  | false => ([], true)
def regd : Nat → Nat → List Oper → List (Nat × Acc) → St → (St → Option R) → Option R
  | _, _, [], _, s, K => K s
  | k, id, o :: l, log, s, K => gdk ops o s fun g s => match chk o (accg P C id o s g) log with
    | true => stepg P C id o s (fun s' => regd (k + 1) (id + nal P C o.op) l (addl k (accg P C id o s g) log) s' K) g
    | false => none
end
theorem chk_spec {o : Oper} {a : Acc} : ∀ {log : List (Nat × Acc)}, chk o a log = true → ∀ p ∈ log, dep o p.1 = false → compat p.2 a = true
  | [], _, _, hp, _ => by cases hp
  | q :: l, h, p, hp, hd => by
    simp only [chk] at h
    rcases List.mem_cons.1 hp with e | e
    · subst e
      rw [hd] at h
      simp only at h
      cases hc : compat p.2 a with
      | true => rfl
      | false => rw [hc] at h; cases h
    · refine chk_spec (log := l) ?_ p e hd
      split at h
      · exact h
      · split at h
        · exact h
        · cases h
theorem nallocs_take {P : Program} {C : Orc} {ops : Array Oper} {k : Nat} {o : Oper} (h : ops[k]? = some o) : nallocs P C (ops.toList.take (k + 1)) = nallocs P C (ops.toList.take k) + nal P C o.op := by
  have h' : ops.toList[k]? = some o := by simpa using h
  clear h
  generalize ops.toList = l at h'
  have h := h'
  clear h'
  induction l generalizing k with
  | nil => simp at h
  | cons q l ih =>
    cases k with
    | zero =>
      simp at h; subst h
      simp only [List.take_succ_cons, List.take_zero, nallocs]
      omega
    | succ k =>
      have := ih (k := k) (by simpa using h)
      simp only [List.take_succ_cons, nallocs] at this ⊢
      rw [this]
      omega
theorem gdk_eq {ops : Array Oper} {o : Oper} {s : St} {R : Type} (k : Bool → St → Option R) : gdk ops o s k = match gd ops o s.t with
    | some g => k g s
    | none => none := by
  unfold gdk gd
  cases o.guard with
  | none => rfl
  | some jw =>
    obtain ⟨j, w⟩ := jw
    simp only
    cases (ops[j]?).bind (·.dst) with
    | none => rfl
    | some d =>
      simp only
      cases hx : s.t.getD d .u with
      | b x =>
        cases x with
        | true => simp only [knk_eq, kn_eq hx]; cases w <;> rfl
        | false => simp only [knk_eq, kn_eq hx]; cases w <;> rfl
      | tup l => cases l <;> rfl
      | _ => rfl
theorem stepg_dst {P : Program} {C : Orc} {ops : Array Oper} {id : Nat} {o : Oper} {s : St} {g : Bool} (hg : gd ops o s.t = some g) {R : Type} (k : St → Option R) : stepg P C id o s k g = (dst P C ops id o s).bind k := by
  rw [dst_eq, hg]
  cases g with
  | true =>
    simp only [stepg, fin_eq]
    rw [opk_bind]
    cases opd P C id (ev s.t) s.h o.op <;> rfl
  | false => simp only [stepg, fin_eq]; rfl
theorem regd_lex {P : Program} {C : Orc} {ops : Array Oper} {base : Nat} {R : Type} {K : St → Option R} {res : R} : ∀ (l : List Oper) (k : Nat) (log full : List (Nat × Acc)) (s : St), (∀ j, l[j]? = ops[k + j]?) → (∀ p ∈ full, p ∈ log ∨ p.2.1 = []) →
    regd P C ops k (idAt P C ops base k) l log s K = some res → LexD P C ops base (fun s => K s = some res) l k full s
  | [], _, _, _, _, _, _, h => h
  | o :: l, k, log, full, s, hl, hf, h => by
    have h0 : ops[k]? = some o := by simpa using (hl 0).symm
    simp only [regd] at h
    rw [gdk_eq] at h
    split at h
    case h_2 => cases h
    rename_i g hg
    have eg : gacc P C ops (idAt P C ops base k) o s = accg P C (idAt P C ops base k) o s g := by
      unfold gacc accg
      rw [hg]
      cases g <;> rfl
    split at h
    · rename_i hc
      rw [stepg_dst hg] at h
      cases hs : dst P C ops (idAt P C ops base k) o s with
      | none => rw [hs] at h; cases h
      | some s1 =>
        rw [hs] at h
        simp only [Option.bind_some] at h
        refine ⟨fun p hp hd => ?_, s1, hs, ?_⟩
        · rw [eg]
          rcases hf p hp with e | e
          · exact chk_spec hc p e hd
          · simp [compat, e]
        · rw [eg]
          refine regd_lex l (k + 1) _ _ s1 (fun j => by have := hl (j + 1); simpa [Nat.add_assoc, Nat.add_comm 1 j] using this) (fun p hp => ?_) (by
            have e : idAt P C ops base (k + 1) = idAt P C ops base k + nal P C o.op := by
              unfold idAt
              rw [nallocs_take h0]
              omega
            rw [e]; exact h)
          rcases List.mem_cons.1 hp with e | e
          · subst e
            cases ht : (accg P C (idAt P C ops base k) o s g).1 with
            | nil => exact .inr rfl
            | cons a b => refine .inl ?_; unfold addl; rw [ht]; simp
          · rcases hf p e with q | q
            · refine .inl ?_
              unfold addl
              split
              · exact q
              · exact List.mem_cons_of_mem _ q
            · exact .inr q
    · cases h
theorem any_sound {x0 : Cx} {C : Orc} (hC : OrcOk x0.P C) {ops : Array Oper} {base : Nat} {Q : St → Prop} {Q' : Exit → Act → World → Prop} (hQ : ∀ (y : Cx) (s' : St) (a' : Act), SR x0 y s' a' → Q s' → Q' .normal a' y.w) :
    ∀ (n : Nat) (L : Array Bool) (log : List (Nat × Acc)) (x : Cx) (s : St) (a : Act), SR x0 x s a → AnyD x0.P C ops base Q n L log s → wpAny x0.P .any ops Q' n L a x.w
  | 0, _, _, x, s, a, hs, h => ⟨h.1, hQ x s a hs h.2⟩
  | n + 1, L, log, x, s, a, hs, h => by
    refine ⟨fun h0 => hQ x s a hs (h.1 h0), fun i hi => ?_⟩
    obtain ⟨_, o, ho, _⟩ := mem_ready.1 hi
    obtain ⟨_, s1, h1, H⟩ := h.2 i hi o ho
    unfold wpOp
    simp only [ho]
    have hstep := stepk_ok hC hs (k := some) (res := s1) h1 (K := wpAny x0.P .any ops Q' n (L.setIfInBounds i true)) (Q := Q') (fun y s' a' hs' hk => by
      have : s' = s1 := Option.some.inj hk
      subst this
      exact any_sound hC hQ n _ _ y s' a' hs' H)
    split
    · rename_i hw; exact .inl (hstep.1 hw)
    · rename_i hw; exact hstep.2 hw
def Cx.draw (x : Cx) : Cx := { x with w := { x.w with drawn := x.w.drawn + 1 } }
theorem draw_to {x : Cx} (hx : HR x) : To x x.draw := draw_ok hx
theorem regd_ok {x0 : Cx} {C : Orc} (hC : OrcOk x0.P C) (hm : x0.P.follows .mixedOrders = true) {id : Nat} {ops : Array Oper} (hB : Region.lexB .any ops = true) {R : Type} {k : St → Option R} {res : R} {Q : Exit → Act → World → Prop}
    (hQ : ∀ (y : Cx) (s' : St) (a' : Act), SR x0 y s' a' → k s' = some res → Q .normal a' y.w) {x : Cx} {s : St} {a : Act} (hs : SR x0 x s a)
    (h : regd x0.P C ops 0 s.h.length ops.toList [] ⟨s.t, s.h ++ blanks (nallocs x0.P C ops.toList)⟩ k = some res) : (Code.region id ops true).wp x0.P Q a x.w := by
  simp only [Region.lexB, Bool.and_eq_true] at hB
  have h1 := draw_to hs.hr
  have h2 := more_to h1.hr (nallocs x0.P C ops.toList)
  have hs' : SR x0 (x.draw.more (nallocs x0.P C ops.toList)) ⟨s.t, s.h ++ blanks (nallocs x0.P C ops.toList)⟩ a := ⟨h2.hr, by simp [Cx.more, Cx.draw, hs.h], (hs.t.mono h1.ext.mono).mono h2.ext.mono, hs.P, (hs.to.trans h1).trans h2, hs.d, hs.ot, hs.oh.app (ok_blanks _)⟩
  refine wp_region_any hm ?_
  have hl := regd_lex (ops := ops) (base := s.h.length) ops.toList 0 [] [] _ (fun j => by simp) (fun p hp => by cases hp) (by simpa [idAt, nallocs] using h)
  have ha := AnyD_lex (ops := ops) ops.toList 0 (Array.replicate ops.size false) [] _ (fun j => by simp) (by simpa using hB.2) hl
  have := any_sound hC hQ _ _ _ _ _ _ hs' ha
  simpa [Cx.more, Cx.draw] using this
end Go.Proofs.YtkmkhcmfpbffjaaGreat.VI

namespace Go.Proofs.YtkmkhcmfpbffjaaGreat.VI
set_option linter.unusedVariables false
set_option linter.unusedSimpArgs false
def hdR : Code → Nat
  | .region id _ _ => id + 1
  | .seq a b => match hdR a with
    | 0 => hdR b
    | n + 1 => n + 1
  | .cond _ a b => match hdR a with
    | 0 => hdR b
    | n + 1 => n + 1
  | .block _ a => hdR a
  | .loop a => hdR a
  | _ => 0
def keepT (ks : List Nat) : Nat → List V → List V
  | _, [] => []
  | j, c :: cs => (match memN j ks with
    | true => c
    | false => .u) :: keepT ks (j + 1) cs
theorem keepT_ok {x : Cx} (ks : List Nat) : ∀ (j : Nat) (cs : List V) (l : List Value), VRs x cs l → VRs x (keepT ks j cs) l
  | _, [], _, h => h
  | j, c :: cs, _, h => by
    obtain ⟨v, vs, rfl, h1, h2⟩ := h
    refine ⟨v, vs, rfl, ?_, keepT_ok ks (j + 1) cs vs h2⟩
    split
    · exact h1
    · trivial
theorem ok_keepT (ks : List Nat) : ∀ (j : Nat) (cs : List V), oks cs → oks (keepT ks j cs)
  | _, [], _ => trivial
  | j, c :: cs, h => by
    refine ⟨?_, ok_keepT ks (j + 1) cs h.2⟩
    split
    · exact h.1
    · trivial
def gens1 : Heap → Bool
  | [] => true
  | b :: l => match b.gen with
    | 1 => gens1 l
    | _ => false
theorem gens1_spec : ∀ {l : Heap}, gens1 l = true → ∀ b ∈ l, b.gen = 1
  | [], _, b, hb => by cases hb
  | a :: l, h, b, hb => by
    simp only [gens1] at h
    split at h
    · rename_i h0
      rcases List.mem_cons.1 hb with e | e
      · subst e; exact h0
      · exact gens1_spec h b e
    · cases h
def fgen (m0 j g : Nat) : Nat := match g with
  | 0 => 0
  | 1 => 1
  | _ => match Nat.blt j m0 with
    | true => 2
    | false => 1
theorem fgen_pos {m0 j g : Nat} : 0 < fgen m0 j g ↔ 0 < g := by
  unfold fgen
  split
  · simp
  · simp
  · rename_i h0 h1
    have : 0 < g := Nat.pos_of_ne_zero h0
    split
    · exact ⟨fun _ => this, fun _ => by decide⟩
    · exact ⟨fun _ => this, fun _ => by decide⟩
def posN (n : Nat) : Nat → List Nat → Option Nat
  | _, [] => none
  | j, m :: l => match Nat.beq n m with
    | true => some j
    | false => posN n (j + 1) l
theorem posN_spec {n : Nat} : ∀ {l : List Nat} {j r : Nat}, posN n j l = some r → j ≤ r ∧ l[r - j]? = some n
  | [], _, _, h => by cases h
  | m :: l, j, r, h => by
    simp only [posN] at h
    split at h
    · rename_i hb
      injection h with h; subst h
      exact ⟨Nat.le_refl _, by simp [Nat.eq_of_beq_eq_true hb]⟩
    · obtain ⟨h1, h2⟩ := posN_spec h
      refine ⟨by omega, ?_⟩
      rw [show r - j = (r - (j + 1)) + 1 by omega]
      simpa using h2
def sigf (m0 : Nat) (h : Heap) (K : List Nat) : Rn := fun id g => match cur h id g with
  | true => match posN id 0 K with
    | some j => some (j, fgen m0 j g)
    | none => none
  | false => none
def upto : Nat → Nat → List Nat
  | _, 0 => []
  | j, n + 1 => j :: upto (j + 1) n
theorem upto_get : ∀ (n j i : Nat), (upto j n)[i]? = if i < n then some (j + i) else none
  | 0, j, i => by simp [upto]
  | n + 1, j, 0 => by simp [upto]
  | n + 1, j, i + 1 => by
    simp only [upto, List.getElem?_cons_succ]
    rw [upto_get n (j + 1) i]
    simp only [Nat.add_lt_add_iff_right]
    rw [show j + 1 + i = j + (i + 1) by omega]
theorem upto_len : ∀ (n j : Nat), (upto j n).length = n
  | 0, _ => rfl
  | n + 1, j => by simp [upto, upto_len n (j + 1)]
def geN (m : Nat) : List Nat → List Nat
  | [] => []
  | n :: l => match Nat.ble m n with
    | true => n :: geN m l
    | false => geN m l
def nodupB : List Nat → Bool
  | [] => true
  | n :: l => match memN n l with
    | true => false
    | false => nodupB l
theorem nodupB_spec : ∀ {l : List Nat}, nodupB l = true → l.Nodup
  | [], _ => List.nodup_nil
  | n :: l, h => by
    simp only [nodupB] at h
    split at h
    · cases h
    · rename_i hm
      refine List.nodup_cons.2 ⟨fun hi => ?_, nodupB_spec h⟩
      have := memN_iff.2 hi
      rw [hm] at this; cases this
def keeps (kp : Bool) (m0 : Nat) (h : Heap) (rs : List V) : List Nat := match kp with
  | true => upto 0 m0 ++ geN m0 (reach h 4 (dedup [] (hvs rs)))
  | false => upto 0 m0
theorem keeps_low {kp : Bool} {m0 : Nat} {h : Heap} {rs : List V} {j : Nat} (hj : j < m0) : (keeps kp m0 h rs)[j]? = some j := by
  have h0 : (upto 0 m0)[j]? = some j := by rw [upto_get, if_pos hj, Nat.zero_add]
  unfold keeps
  split
  · rw [List.getElem?_append_left (by rw [upto_len]; exact hj), h0]
  · exact h0
theorem posN_mem {n : Nat} : ∀ {l : List Nat} {j : Nat}, n ∈ l → posN n j l ≠ none
  | m :: l, j, h => by
    simp only [posN]
    split
    · simp
    · rename_i hb
      rcases List.mem_cons.1 h with e | e
      · subst e; simp at hb
      · exact posN_mem e
theorem posN_keeps {kp : Bool} {m0 : Nat} {h : Heap} {rs : List V} {i : Nat} (hi : i < m0) : posN i 0 (keeps kp m0 h rs) ≠ none := posN_mem (List.mem_of_getElem? (keeps_low hi))
theorem geN_spec {m : Nat} : ∀ {l : List Nat} {n : Nat}, n ∈ geN m l → m ≤ n ∧ n ∈ l
  | a :: l, n, h => by
    simp only [geN] at h
    split at h
    · rename_i hb
      rcases List.mem_cons.1 h with e | e
      · subst e; exact ⟨Nat.le_of_ble_eq_true hb, by simp⟩
      · exact ⟨(geN_spec e).1, by simp [(geN_spec e).2]⟩
    · exact ⟨(geN_spec h).1, by simp [(geN_spec h).2]⟩
theorem geN_nodup {m : Nat} : ∀ {l : List Nat}, l.Nodup → (geN m l).Nodup
  | [], _ => List.nodup_nil
  | a :: l, h => by
    obtain ⟨h1, h2⟩ := List.nodup_cons.1 h
    simp only [geN]
    split
    · exact List.nodup_cons.2 ⟨fun k => h1 (geN_spec k).2, geN_nodup h2⟩
    · exact geN_nodup h2
theorem upto_spec : ∀ {n j a : Nat}, a ∈ upto j n → j ≤ a ∧ a < j + n
  | n + 1, j, a, h => by
    rcases List.mem_cons.1 h with e | e
    · subst e; omega
    · have := upto_spec e; omega
theorem upto_nodup : ∀ (n j : Nat), (upto j n).Nodup
  | 0, _ => List.nodup_nil
  | n + 1, j => List.nodup_cons.2 ⟨fun k => by have := upto_spec k; omega, upto_nodup n (j + 1)⟩
theorem keeps_nodup {kp : Bool} {m0 : Nat} {h : Heap} {rs : List V} : (keeps kp m0 h rs).Nodup := by
  unfold keeps
  split
  · refine List.nodup_append.2 ⟨upto_nodup m0 0, geN_nodup (reach_nodup _ _ _ (dedup_nodup _ _ List.nodup_nil)), fun a ha b hb => ?_⟩
    have := upto_spec ha; have := (geN_spec hb).1
    omega
  · exact upto_nodup m0 0
def nrmD : D → D
  | .list (.i k n :: l) => match Nat.ble 8 l.length with
    | true => match asInts k (.i k n :: l) with
      | some xs => .ints k xs
      | none => .list (.i k n :: l)
    | false => .list (.i k n :: l)
  | d => d
theorem nrmD_toV (d : D) : (nrmD d).toV = d.toV := by
  unfold nrmD
  split
  · split
    · split
      · rename_i h; exact asInts_ok h
      · rfl
    · rfl
  · rfl
theorem nrmD_mpq (d : D) : (nrmD d).mpq = d.mpq := by
  unfold nrmD
  split
  · split
    · split <;> rfl
    · rfl
  · rfl
theorem nrmD_bm {d : D} {k : IntKind} {es : List (Bool × Int)} (h : nrmD d = .bm k es) : d = .bm k es := by
  unfold nrmD at h
  split at h
  · split at h
    · split at h <;> cases h
    · cases h
  · exact h
theorem nrmD_good {x : Cx} {d : D} {l : List Value} (h : good x d l) : good x (nrmD d) l := by
  unfold nrmD
  split
  · split
    · split <;> trivial
    · trivial
  · exact h
theorem nrmD_ok {d : D} (h : d.ok) : (nrmD d).ok := by
  unfold nrmD
  split
  · split
    · split
      · rename_i e; exact ints_oks e h
      · exact h
    · exact h
  · exact h
def knok {R : Type} (s : St) (c : Operand) (x : Bool) (k : St → Option R) : Option R := match c with
  | .tmp n => knk s n x k
  | _ => k s
theorem knok_eq {R : Type} (s : St) (c : Operand) (x : Bool) (k : St → Option R) : knok s c x k = k (kno s c x) := by
  cases c with
  | tmp n => exact knk_eq s n x k
  | _ => rfl
inductive LTr : Type 1 where
  | ret (e : Ex) (s : St)
  | br (b : Bool) (t f : LTr)
  | no
  | bnd {α : Type} (o : Option α) (k : α → LTr)
  | sum {α β : Type} (o : α ⊕ β) (f : α → LTr) (g : β → LTr)
def LTr.run {R : Type} : LTr → (Ex → St → Option R) → Option R
  | .ret e s, k => k e s
  | .br b t f, k => match b with
    | true => t.run k
    | false => f.run k
  | .no, _ => none
  | .bnd o f, k => o.bind fun a => (f a).run k
  | .sum o f g, k => match o with
    | .inl a => (f a).run k
    | .inr b => (g b).run k
def LTr.val (t : LTr) : Option (Ex × St) := t.run fun e s => some (e, s)
theorem LTr.run_eq {R : Type} (k : Ex → St → Option R) : ∀ t : LTr, t.run k = t.val.bind fun p => k p.1 p.2
  | .ret e s => rfl
  | .br true t f => run_eq k t
  | .br false t f => run_eq k f
  | .no => rfl
  | .bnd none f => rfl
  | .bnd (some a) f => run_eq k (f a)
  | .sum (.inl a) f g => run_eq k (f a)
  | .sum (.inr a) f g => run_eq k (g a)
inductive LM where
  | un (n : Nat) (ks : List Nat)
  | by_ (f : St → LTr)
  | no
abbrev Lps := Nat → Nat → LM
def isC : Operand → Bool
  | .const (.int _ n) => match n with
    | .ofNat m => Nat.blt 0 m
    | .negSucc _ => false
  | _ => false
def pbin (op : BinOp) (y : Operand) (c d : V) : Option V := match c with
  | .i k a => match d with
    | .i k' b => match op with
      | .shl => match isC y with
        | true => vbin .shl (.i k a) (.i k' b)
        | false => none
      | .shr => match isC y with
        | true => vbin .shr (.i k a) (.i k' b)
        | false => none
      | .quo => match isC y with
        | true => vbin .quo (.i k a) (.i k' b)
        | false => none
      | .rem => match isC y with
        | true => vbin .rem (.i k a) (.i k' b)
        | false => none
      | op => vbin op (.i k a) (.i k' b)
    | _ => none
  | _ => none
def ppick (c a b : V) : Option V := match c with
  | .b t => match a with
    | .b p => match b with
      | .b q => some (.b (bif t then p else q))
      | _ => none
    | .i k p => match b with
      | .i k' q => if k = k' then some (.i k (bif t then p else q)) else none
      | _ => none
    | _ => none
  | _ => none
def pureOp (P : Program) (t : List V) : Op → Option V
  | .move a => some (ev t a)
  | .assign a => some (ev t a)
  | .pick c a b => ppick (ev t c) (ev t a) (ev t b)
  | .binOp op _ a b _ => pbin op b (ev t a) (ev t b)
  | .unOp op _ a => vun op (ev t a)
  | .convert s d a => match toStr P s d || (toBys P s d || toSelf P s d) with
    | true => none
    | false => vconv P s d (ev t a)
  | .extract a i => vextract (ev t a) i
  | _ => none
def pureOps (P : Program) : List Oper → List V → Option (List V)
  | [], t => some t
  | o :: l, t => match o.guard with
    | none => match o.dst with
      | some d => match pureOp P t o.op with
        | some r => frV r fun r => frS t d r fun t => pureOps P l t
        | none => none
      | none => none
    | some _ => none
def pureC (P : Program) : Code → List V → Option (List V)
  | .skip, t => some t
  | .region _ ops draw, t => match draw with
    | true => none
    | false => pureOps P ops.toList t
  | .seq a b, t => match pureC P a t with
    | some t' => pureC P b t'
    | none => none
  | _, _ => none
def wrs : Code → List Nat
  | .region _ ops _ => ops.toList.filterMap (·.dst)
  | .seq a b => wrs a ++ wrs b
  | _ => []
def mrgV (t : Bool) (c d : V) : Option V := match c with
  | .u => some .u
  | .i k a => match d with
    | .u => some .u
    | .i k' b => if k = k' then some (.i k (bif t then a else b)) else none
    | _ => none
  | .b a => match d with
    | .u => some .u
    | .b b => some (.b (bif t then a else b))
    | _ => none
  | _ => match d with
    | .u => some .u
    | _ => none
def mrgL (t : Bool) (ds : List Nat) : Nat → List V → List V → List V → Option (List V)
  | j, c :: s, a :: s1, b :: s2 => match mrgL t ds (j + 1) s s1 s2 with
    | some r => match memN j ds with
      | true => match mrgV t a b with
        | some q => some (q :: r)
        | none => none
      | false => some (c :: r)
    | none => none
  | _, [], [], [] => some []
  | _, _, _, _ => none
def joinC (P : Program) (t : Bool) (a b : Code) (s : List V) : Option (List V) := match pureC P a s with
  | some s1 => match pureC P b s with
    | some s2 => mrgL t (wrs a ++ wrs b) 0 s s1 s2
    | none => none
  | none => none
theorem pureOps_ok {P : Program} {C : Orc} {ops : Array Oper} {R : Type} : ∀ (l : List Oper) (id : Nat) (t t' : List V) (h : Heap) (k : St → Option R), pureOps P l t = some t' → regk P C ops id l ⟨t, h⟩ k = k ⟨t', h⟩
  | [], id, t, t', h, k, e => by simp [pureOps] at e; subst e; rfl
  | o :: l, id, t, t', h, k, e => by
    simp only [pureOps] at e
    split at e
    case h_2 => cases e
    rename_i hg
    split at e
    case h_2 => cases e
    rename_i d hd
    split at e
    case h_2 => cases e
    rename_i r hr
    rw [frV_eq, frS_eq] at e
    simp only [regk, stepk, hg]
    have key : ∀ K : V → Heap → Option R, opk P C id (ev t) h K o.op = K r h := fun K => by
      rw [opk_plain (by
        intro fo as ts hc; rw [hc] at hr; simp [pureOp] at hr)]
      have : opv P h id (ev t) o.op = some (r, h) := by
        revert hr
        cases o.op with
        | move a => intro hr; simp only [pureOp, Option.some.injEq] at hr; simp [opv, hr]
        | assign a => intro hr; simp only [pureOp, Option.some.injEq] at hr; simp [opv, hr]
        | pick c a b =>
          intro hr
          simp only [pureOp, ppick] at hr
          simp only [opv]
          split at hr
          case h_2 => cases hr
          rename_i q hq
          revert hr
          cases e1 : ev t a with
          | b p => cases e2 : ev t b with
            | b q' => intro hr; rw [hq]; simp only [e1, e2] at hr; injection hr with hr; subst hr; cases q <;> rfl
            | _ => intro hr; simp only [e1, e2] at hr; cases hr
          | i k1 p => cases e2 : ev t b with
            | i k2 q' =>
              intro hr; rw [hq]; simp only [e1, e2] at hr
              split at hr
              · rename_i hk; subst hk; injection hr with hr; subst hr; simp [vpick]
              · cases hr
            | _ => intro hr; simp only [e1, e2] at hr; cases hr
          | _ => intro hr; simp only [e1] at hr; cases hr
        | binOp op ty a b ty2 =>
          intro hr
          simp only [pureOp, pbin] at hr
          simp only [opv]
          split at hr
          case h_2 => cases hr
          rename_i k1 x hx
          split at hr
          case h_2 => cases hr
          rename_i k2 y hy
          rw [hx, hy]
          have : vbinx P op ty (wk h (.i k1 x)) (wk h (.i k2 y)) = vbin op (.i k1 x) (.i k2 y) := rfl
          rw [this]
          have : vbin op (.i k1 x) (.i k2 y) = some r := by
            split at hr
            · split at hr
              · exact hr
              · cases hr
            · split at hr
              · exact hr
              · cases hr
            · split at hr
              · exact hr
              · cases hr
            · split at hr
              · exact hr
              · cases hr
            · exact hr
          rw [this]; rfl
        | unOp op ty a => intro hr; simp only [pureOp] at hr; simp [opv, hr]
        | convert s d a =>
          intro hr
          simp only [pureOp] at hr
          split at hr
          · cases hr
          · rename_i hb
            have h1 : toStr P s d = false := by cases q : toStr P s d <;> simp_all
            have h2 : toBys P s d = false := by cases q : toBys P s d <;> simp_all
            have h3 : toSelf P s d = false := by cases q : toSelf P s d <;> simp_all
            simp [opv, h1, h2, h3, hr]
        | extract a i => intro hr; simp only [pureOp] at hr; simp [opv, hr]
        | _ => intro hr; simp [pureOp] at hr
      rw [this]; rfl
    rw [key, fin_eq]
    simp only [hd, putt]
    exact pureOps_ok l _ _ t' h k e
theorem pureOps_nal {P : Program} {C : Orc} : ∀ (l : List Oper) (t t' : List V), pureOps P l t = some t' → nallocs P C l = 0
  | [], _, _, _ => rfl
  | o :: l, t, t', e => by
    simp only [pureOps] at e
    split at e
    case h_2 => cases e
    split at e
    case h_2 => cases e
    split at e
    case h_2 => cases e
    rename_i r hr
    rw [frV_eq, frS_eq] at e
    have h0 : nal P C o.op = 0 := by
      revert hr
      cases o.op with
      | convert s d a =>
        intro hr
        simp only [pureOp] at hr
        split at hr
        · cases hr
        · rename_i hb
          have h2 : toBys P s d = false := by cases q : toBys P s d <;> simp_all
          simp [nal, h2]
      | move a => intro _; rfl
      | assign a => intro _; rfl
      | pick a b c => intro _; rfl
      | binOp _ _ _ _ _ => intro _; rfl
      | unOp _ _ _ => intro _; rfl
      | extract _ _ => intro _; rfl
      | _ => intro hr; simp [pureOp] at hr
    simp [nallocs, h0, pureOps_nal l _ _ e]
theorem pureOps_at {P : Program} : ∀ (l : List Oper) (t t' : List V), pureOps P l t = some t' → t'.length = t.length ∧ ∀ j, j ∉ l.filterMap (·.dst) → t'[j]? = t[j]?
  | [], t, t', e => by simp [pureOps] at e; subst e; exact ⟨rfl, fun _ _ => rfl⟩
  | o :: l, t, t', e => by
    simp only [pureOps] at e
    split at e
    case h_2 => cases e
    split at e
    case h_2 => cases e
    rename_i d hd
    split at e
    case h_2 => cases e
    rename_i r hr
    rw [frV_eq, frS_eq] at e
    obtain ⟨h1, h2⟩ := pureOps_at l _ _ e
    refine ⟨by simpa using h1, fun j hj => ?_⟩
    simp only [List.filterMap_cons, hd, List.mem_cons, not_or] at hj
    rw [h2 j hj.2, List.getElem?_set_ne (Ne.symm hj.1)]
theorem pureC_at {P : Program} : ∀ (c : Code) (t t' : List V), pureC P c t = some t' → t'.length = t.length ∧ ∀ j, j ∉ wrs c → t'[j]? = t[j]? := by
  intro c
  induction c with
  | skip => intro t t' e; simp [pureC] at e; subst e; exact ⟨rfl, fun _ _ => rfl⟩
  | region id ops draw =>
    intro t t' e
    simp only [pureC] at e
    split at e
    · cases e
    · exact pureOps_at _ _ _ e
  | seq a b iha ihb =>
    intro t t' e
    simp only [pureC] at e
    split at e
    · rename_i t1 h1
      obtain ⟨p1, p2⟩ := iha _ _ h1
      obtain ⟨q1, q2⟩ := ihb _ _ e
      refine ⟨q1.trans p1, fun j hj => ?_⟩
      simp only [wrs, List.mem_append, not_or] at hj
      rw [q2 j hj.2, p2 j hj.1]
    · cases e
  | _ => intro t t' e; simp [pureC] at e
theorem mrgV_ok {x : Cx} {t : Bool} {c d r : V} (h : mrgV t c d = some r) {v : Value} (hv : VR x (bif t then c else d) v) : VR x r v := by
  unfold mrgV at h
  cases t with
  | true =>
    have hv : VR x c v := hv
    split at h
    · injection h with h; subst h; trivial
    · split at h
      · injection h with h; subst h; trivial
      · split at h
        · injection h with h; subst h; exact hv
        · cases h
      · cases h
    · split at h
      · injection h with h; subst h; trivial
      · injection h with h; subst h; exact hv
      · cases h
    · split at h
      · injection h with h; subst h; trivial
      · cases h
  | false =>
    have hv : VR x d v := hv
    split at h
    · injection h with h; subst h; trivial
    · split at h
      · injection h with h; subst h; trivial
      · split at h
        · rename_i hk; subst hk; injection h with h; subst h; exact hv
        · cases h
      · cases h
    · split at h
      · injection h with h; subst h; trivial
      · injection h with h; subst h; exact hv
      · cases h
    · split at h
      · injection h with h; subst h; trivial
      · cases h
theorem mrgV_okk {t : Bool} {c d r : V} (h : mrgV t c d = some r) (hc : V.ok (bif t then c else d)) : r.ok := by
  unfold mrgV at h
  cases t with
  | true =>
    have hc : V.ok c := hc
    split at h
    · injection h with h; subst h; trivial
    · split at h
      · injection h with h; subst h; trivial
      · split at h
        · injection h with h; subst h; exact hc
        · cases h
      · cases h
    · split at h
      · injection h with h; subst h; trivial
      · injection h with h; subst h; exact hc
      · cases h
    · split at h
      · injection h with h; subst h; trivial
      · cases h
  | false =>
    have hc : V.ok d := hc
    split at h
    · injection h with h; subst h; trivial
    · split at h
      · injection h with h; subst h; trivial
      · split at h
        · rename_i hk; subst hk; injection h with h; subst h; exact hc
        · cases h
      · cases h
    · split at h
      · injection h with h; subst h; trivial
      · injection h with h; subst h; exact hc
      · cases h
    · split at h
      · injection h with h; subst h; trivial
      · cases h
theorem mrgL_ok {x : Cx} {t : Bool} {ds : List Nat} : ∀ (s s1 s2 r : List V) (j : Nat), mrgL t ds j s s1 s2 = some r → (∀ i, i + j ∉ ds → s1[i]? = s[i]? ∧ s2[i]? = s[i]?) → oks (bif t then s1 else s2) → (∀ l, VRs x (bif t then s1 else s2) l → VRs x r l) ∧ oks r
  | [], [], [], r, j, h, _, _ => by
    simp only [mrgL, Option.some.injEq] at h; subst h
    exact ⟨fun l hl => by cases t <;> exact hl, trivial⟩
  | c :: s, a :: s1, b :: s2, r, j, h, hj, o => by
    simp only [mrgL] at h
    split at h
    case h_2 => cases h
    rename_i r' hr'
    have o' : V.ok (bif t then a else b) ∧ oks (bif t then s1 else s2) := by cases t <;> exact o
    obtain ⟨k1, k2⟩ := mrgL_ok s s1 s2 r' (j + 1) hr' (fun i hi => by
      have := hj (i + 1) (by rw [show i + 1 + j = i + (j + 1) by omega]; exact hi)
      simpa using this) o'.2
    split at h
    · split at h
      · rename_i q hq
        injection h with h; subst h
        refine ⟨fun l hl => ?_, mrgV_okk hq o'.1, k2⟩
        have hl' : ∃ v vs, l = v :: vs ∧ VR x (bif t then a else b) v ∧ VRs x (bif t then s1 else s2) vs := by cases t <;> exact hl
        obtain ⟨v, vs, rfl, h1, h2⟩ := hl'
        exact ⟨v, vs, rfl, mrgV_ok hq h1, k1 vs h2⟩
      · cases h
    · rename_i hm
      injection h with h; subst h
      have hn : 0 + j ∉ ds := fun hh => by
        rw [Nat.zero_add] at hh
        rw [memN_iff.2 hh] at hm; cases hm
      obtain ⟨e1, e2⟩ := hj 0 hn
      simp at e1 e2
      have e3 : (bif t then a else b) = c := by cases t <;> simp [e1, e2]
      rw [e3] at o'
      refine ⟨fun l hl => ?_, o'.1, k2⟩
      have hl' : ∃ v vs, l = v :: vs ∧ VR x (bif t then a else b) v ∧ VRs x (bif t then s1 else s2) vs := by cases t <;> exact hl
      obtain ⟨v, vs, rfl, h1, h2⟩ := hl'
      exact ⟨v, vs, rfl, e3 ▸ h1, k1 vs h2⟩
  | [], [], _ :: _, _, _, h, _, _ => by simp [mrgL] at h
  | [], _ :: _, _, _, _, h, _, _ => by simp [mrgL] at h
  | _ :: _, [], _, _, _, h, _, _ => by simp [mrgL] at h
  | _ :: _, _ :: _, [], _, _, h, _, _ => by simp [mrgL] at h
section
variable {R : Type}
def loopk (body : St → (Ex → St → Option R) → Option R) (fg : St → St) : Nat → St → (Ex → St → Option R) → Option R
  | 0, _, _ => none
  | n + 1, s, k => body (fg s) fun e s' => match e with
    | .normal => loopk body fg n s' k
    | .exit id => k (.exit id) s'
    | .ret => k .ret s'
variable (P : Program) (C : Orc) (L : Lps)
def codek : Nat → Code → St → (Ex → St → Option R) → Option R
  | _, .skip, s, k => k .normal s
  | _, .region _ ops draw, s, k => match draw with
    | true => match Region.lexB .any ops with
      | true => frH (s.h ++ blanks (nallocs P C ops.toList)) fun h => regd P C ops 0 s.h.length ops.toList [] ⟨s.t, h⟩ (k .normal)
      | false => none
    | false => frH (s.h ++ blanks (nallocs P C ops.toList)) fun h => regk P C ops s.h.length ops.toList ⟨s.t, h⟩ (k .normal)
  | d, .seq a b, s, k => codek d a s fun e s' => match e with
    | .normal => codek d b s' k
    | .exit id => k (.exit id) s'
    | .ret => k .ret s'
  | d, .cond c a b, s, k => match ev s.t c with
    | .b t => match joinC P t a b s.t with
      | some t3 => k .normal ⟨t3, s.h⟩
      | none => match t with
        | true => knok s c true fun s => codek d a s k
        | false => knok s c false fun s => codek d b s k
    | _ => none
  | d, .block id a, s, k => codek d a s fun e s' => match e with
    | .normal => k .normal s'
    | .exit i => if i = id then k .normal s' else k (.exit i) s'
    | .ret => k .ret s'
  | d, .loop a, s, k => match L d (hdR a) with
    | .un n ks => loopk (codek (d + 1) a) (fun s => ⟨keepT ks 0 s.t, s.h⟩) n s k
    | .by_ f => (f s).run k
    | .no => none
  | _, .exit id, s, k => k (.exit id) s
  | _, .ret, s, k => k .ret s
  | _, _, _, _ => none
end
theorem codek_pure {R : Type} {P : Program} {C : Orc} {L : Lps} : ∀ (c : Code) (d : Nat) (t t' : List V) (h : Heap) (k : Ex → St → Option R), pureC P c t = some t' → codek P C L d c ⟨t, h⟩ k = k .normal ⟨t', h⟩ := by
  intro c
  induction c with
  | skip => intro d t t' h k e; simp [pureC] at e; subst e; rfl
  | region id ops draw =>
    intro d t t' h k e
    simp only [pureC] at e
    split at e
    · cases e
    · simp only [codek, frH_eq]
      rw [pureOps_nal _ _ _ e]
      simp only [blanks, List.append_nil]
      exact pureOps_ok _ _ _ _ _ _ e
  | seq a b iha ihb =>
    intro d t t' h k e
    simp only [pureC] at e
    split at e
    · rename_i t1 h1
      simp only [codek]
      rw [iha d t t1 h _ h1]
      exact ihb d t1 t' h k e
    · cases e
  | _ => intro d t t' h k e; simp [pureC] at e
def Ex.to : Ex → Exit
  | .normal => .normal
  | .exit id => .exit id
  | .ret => .ret
def LoopOk (P : Program) (m0 : Nat) (a : Code) (f : St → LTr) : Prop := ∀ (x0 x : Cx) (s : St) (act : Act) (e : Ex) (s' : St), x0.P = P → gens1 x0.h = true → x0.h.length = m0 → SR x0 x s act → (f s).val = some (e, s') →
  ∀ Q : Exit → Act → World → Prop, (∀ (y : Cx) (act' : Act), SR x0 y s' act' → Q e.to act' y.w) → (Code.loop a).wp P Q act x.w
def LoopsOk (P : Program) (L : Lps) (m0 : Nat) : Nat → Code → Prop
  | d, .seq a b => LoopsOk P L m0 d a ∧ LoopsOk P L m0 d b
  | d, .cond _ a b => LoopsOk P L m0 d a ∧ LoopsOk P L m0 d b
  | d, .block _ a => LoopsOk P L m0 d a
  | d, .loop a => match L d (hdR a) with
    | .un _ _ => LoopsOk P L m0 (d + 1) a
    | .by_ f => LoopOk P m0 a f
    | .no => True
  | _, _ => True
theorem codek_ok {x0 : Cx} {R : Type} {C : Orc} (hC : OrcOk x0.P C) (hmx : x0.P.follows .mixedOrders = true) (hg1 : gens1 x0.h = true) {m0 : Nat} (hm0 : x0.h.length = m0) {L : Lps} {res : R} : ∀ (c : Code) (d : Nat) (hL : LoopsOk x0.P L m0 d c) (x : Cx) (s : St) (a : Act) (k : Ex → St → Option R) (Q : Exit → Act → World → Prop), SR x0 x s a → codek x0.P C L d c s k = some res →
    (∀ (e : Ex) (y : Cx) (s' : St) (a' : Act), SR x0 y s' a' → k e s' = some res → Q e.to a' y.w) → c.wp x0.P Q a x.w := by
  intro c
  induction c with
  | skip => intro d _ x s a k Q hs h hQ; exact wp_skip (hQ .normal x s a hs h)
  | exit id => intro d _ x s a k Q hs h hQ; exact wp_exit (hQ (.exit id) x s a hs h)
  | ret => intro d _ x s a k Q hs h hQ; exact wp_ret (hQ .ret x s a hs h)
  | region id ops draw =>
    intro d _ x s a k Q hs h hQ
    simp only [codek, frH_eq] at h
    cases draw with
    | true =>
      simp only at h
      split at h
      · rename_i hB
        exact regd_ok hC hmx hB (fun y s' a' h1 h2 => hQ .normal y s' a' h1 h2) hs h
      · cases h
    | false =>
      simp only at h
      have hm := more_to hs.hr (nallocs x0.P C ops.toList)
      have hs' : SR x0 (x.more (nallocs x0.P C ops.toList)) ⟨s.t, s.h ++ blanks (nallocs x0.P C ops.toList)⟩ a := ⟨hm.hr, by simp [Cx.more, hs.h], hs.t.mono hm.ext.mono, hs.P, hs.to.trans hm, hs.d, hs.ot, hs.oh.app (ok_blanks _)⟩
      have := regk_ok (Q := Q) hC (fun y s' a' h1 h2 => hQ .normal y s' a' h1 h2) ops.toList 0 _ _ _ _ (fun j => by simp) hs' h
      simp only [Nat.zero_add] at this
      refine wp_region ?_
      simpa [Cx.more] using this
  | seq p q ihp ihq =>
    intro d hL x s a k Q hs h hQ
    simp only [codek] at h
    refine wp_seq (ihp d hL.1 x s a _ _ hs h ?_)
    intro e y s' a' hs' hk
    cases e with
    | normal => exact ihq d hL.2 y s' a' k Q hs' hk hQ
    | exit id => exact hQ (.exit id) y s' a' hs' hk
    | ret => exact hQ .ret y s' a' hs' hk
  | cond c p q ihp ihq =>
    intro d hL x s a k Q hs h hQ
    simp only [codek] at h
    split at h
    · rename_i t ht
      have hv := VR_ev hs.t c
      rw [ht] at hv
      have hv : a.eval c = .bool t := hv
      split at h
      · rename_i t3 hj
        unfold joinC at hj
        split at hj
        case h_2 => cases hj
        rename_i t1 h1
        split at hj
        case h_2 => cases hj
        rename_i t2 h2
        obtain ⟨l1, p1⟩ := pureC_at _ _ _ h1
        obtain ⟨l2, p2⟩ := pureC_at _ _ _ h2
        have way : ∀ (w : Code) (tw : List V), (w = p ∧ tw = t1 ∧ t = true) ∨ (w = q ∧ tw = t2 ∧ t = false) → pureC x0.P w s.t = some tw → (∀ (k : Ex → St → Option R), codek x0.P C L d w s k = some res → (∀ (e : Ex) (y : Cx) (s' : St) (a' : Act), SR x0 y s' a' → k e s' = some res → Q e.to a' y.w) → w.wp x0.P Q a x.w) → w.wp x0.P Q a x.w := by
          intro w tw hw hp ih
          classical
          refine ih (fun e s2 => if e = .normal ∧ s2 = ⟨tw, s.h⟩ then some res else none) ?_ ?_
          · rw [show s = ⟨s.t, s.h⟩ from rfl, codek_pure w d s.t tw s.h _ hp]
            exact if_pos ⟨rfl, rfl⟩
          · intro e y s2 a' hs' hk
            by_cases hc : e = .normal ∧ s2 = ⟨tw, s.h⟩
            · obtain ⟨rfl, rfl⟩ := hc
              have e3 : tw = bif t then t1 else t2 := by
                rcases hw with ⟨-, rfl, rfl⟩ | ⟨-, rfl, rfl⟩ <;> rfl
              have hm := mrgL_ok (x := y) s.t t1 t2 t3 0 hj (fun i hi => by
                simp only [Nat.add_zero, List.mem_append, not_or] at hi
                exact ⟨p1 i hi.1, p2 i hi.2⟩) (e3 ▸ hs'.ot)
              exact hQ .normal y ⟨t3, s.h⟩ a' ⟨hs'.hr, hs'.h, hm.1 _ (e3 ▸ hs'.t), hs'.P, hs'.to, hs'.d, hm.2, hs'.oh⟩ h
            · rw [if_neg hc] at hk; cases hk
        cases t with
        | true => exact wp_cond hv (way p t1 (.inl ⟨rfl, rfl, rfl⟩) h1 fun k hk hq => ihp d hL.1 x s a k Q hs hk hq)
        | false => exact wp_cond hv (way q t2 (.inr ⟨rfl, rfl, rfl⟩) h2 fun k hk hq => ihq d hL.2 x s a k Q hs hk hq)
      cases t with
      | true => simp only [knok_eq, kno_eq ht] at h; exact wp_cond hv (ihp d hL.1 x s a k Q hs h hQ)
      | false => simp only [knok_eq, kno_eq ht] at h; exact wp_cond hv (ihq d hL.2 x s a k Q hs h hQ)
    · cases h
  | block id p ihp =>
    intro d hL x s a k Q hs h hQ
    simp only [codek] at h
    refine wp_block (ihp d hL x s a _ _ hs h ?_)
    intro e y s' a' hs' hk
    cases e with
    | normal => exact hQ .normal y s' a' hs' hk
    | ret => exact hQ .ret y s' a' hs' hk
    | exit i =>
      simp only [Ex.to, Exit.inBlock]
      dsimp only at hk
      split at hk
      · rename_i he; rw [if_pos he]; exact hQ .normal y s' a' hs' hk
      · rename_i he; rw [if_neg he]; exact hQ (.exit i) y s' a' hs' hk
  | loop p ihp =>
    intro d hL x s a k Q hs h hQ
    simp only [codek] at h
    simp only [LoopsOk] at hL
    split at h
    · rename_i n ks hks
      rw [hks] at hL
      refine wp_loop_rounds n ?_
      have key : ∀ (m : Nat) (x : Cx) (s : St) (a : Act), SR x0 x s a → loopk (codek x0.P C L (d + 1) p) (fun s => ⟨keepT ks 0 s.t, s.h⟩) m s k = some res → Code.rounds x0.P p Q m a x.w := by
        intro m
        induction m with
        | zero => intro x s a _ h; simp [loopk] at h
        | succ m ih =>
          intro x s a hs h
          simp only [loopk] at h
          rw [rounds_succ]
          refine ihp (d + 1) hL x ⟨keepT ks 0 s.t, s.h⟩ a _ _ ⟨hs.hr, hs.h, keepT_ok ks 0 _ _ hs.t, hs.P, hs.to, hs.d, ok_keepT _ _ _ hs.ot, hs.oh⟩ h ?_
          intro e y s' a' hs' hk
          cases e with
          | normal => exact ih y s' a' hs' hk
          | exit id => exact hQ (.exit id) y s' a' hs' hk
          | ret => exact hQ .ret y s' a' hs' hk
      exact key n x s a hs h
    · rename_i f hf
      rw [hf] at hL
      rw [LTr.run_eq] at h
      cases hv : (f s).val with
      | none => rw [hv] at h; cases h
      | some p =>
        obtain ⟨e, s'⟩ := p
        rw [hv] at h
        exact hL x0 x s a e s' rfl hg1 hm0 hs hv Q fun y a' hs' => hQ e y s' a' hs' h
    · cases h
  | _ => intro d _ x s a k Q hs h hQ; simp [codek] at h
end Go.Proofs.YtkmkhcmfpbffjaaGreat.VI

namespace Go.Proofs.YtkmkhcmfpbffjaaGreat.VI
set_option linter.unusedVariables false
set_option linter.unusedSimpArgs false
section
variable {R : Type}
def iterk {α β : Type} (st : α → (α → Option R) → (β → Option R) → Option R) : Nat → α → (β → Option R) → Option R
  | 0, _, _ => none
  | n + 1, v, ko => st v (fun v' => iterk st n v' ko) ko
end
def Wk (P : Program) (m0 : Nat) (s s2 : St) : Prop := ∀ (x0 x : Cx) (act : Act), x0.P = P → gens1 x0.h = true → x0.h.length = m0 → SR x0 x s act → ∃ z : Cx, z.w = x.w ∧ SR x0 z s2 act
def frA (ps : List (Nat × V)) : Nat → Nat → List V
  | 0, _ => []
  | n + 1, j => look j ps :: frA ps n (j + 1)
where look (j : Nat) : List (Nat × V) → V
  | [] => .u
  | (i, c) :: l => match Nat.beq i j with
    | true => c
    | false => look j l
def fr (n : Nat) (ps : List (Nat × V)) : List V := frA ps n 0
end Go.Proofs.YtkmkhcmfpbffjaaGreat.VI

namespace Go.Proofs.YtkmkhcmfpbffjaaGreat.VI
set_option linter.unusedVariables false
set_option linter.unusedSimpArgs false
set_option linter.unusedSectionVars false
def allIn (K : List Nat) : List Nat → Bool
  | [] => true
  | n :: l => match memN n K with
    | true => allIn K l
    | false => false
def fzk (P : Program) (h : Heap) (σ : Rn) (K : List Nat) (res : Bool) (t : TypeId) (c : V) : Option (V × List Nat) := match hv c with
  | [] => match res with
    | true => fzc P h 6 t c
    | false => some (rn σ c, [])
  | ids => match allIn K ids with
    | true => some (rn σ c, [])
    | false => fzc P h 6 t c
def fzkv (P : Program) (h : Heap) (σ : Rn) (K : List Nat) (t : TypeId) : V → Option (V × List Nat)
  | .agg cs => match fzl (fzk P h σ K true) (leaves P 8 t) (leaves P 8 t) cs with
    | some (ds, ids) => some (.agg ds, ids)
    | none => none
  | c => fzk P h σ K true t c
def vres1 (P : Program) (s : St) : ResultVar → Option V
  | .tmp n => some (s.t.getD n .u)
  | .cell a t => vloadAt P s.h t (s.t.getD a .u)
def vress (P : Program) (s : St) : List ResultVar → Option (List V)
  | [] => some []
  | r :: rs => match vres1 P s r with
    | some c => match vress P s rs with
      | some cs => some (c :: cs)
      | none => none
    | none => none
def finrs (P : Program) (h : Heap) (σ : Rn) (K : List Nat) : List V → List TypeId → Option (List V × List Nat)
  | [], [] => some ([], [])
  | c :: cs, t :: ts => match fzkv P h σ K t c with
    | some (d, i) => match finrs P h σ K cs ts with
      | some (ds, is) => some (d :: ds, i ++ is)
      | none => none
    | none => none
  | _, _ => none
def finD (P : Program) (h : Heap) (σ : Rn) (K : List Nat) (e : TypeId) : D → Option (D × List Nat)
  | .list cs => match fzl (fzk P h σ K false) (leaves P 8 e) (leaves P 8 e) cs with
    | some (ds, ids) => some (.list ds, ids)
    | none => none
  | .mix pre k xs => match allIn K (hvs pre) with
    | true => some (.mix (rns σ pre) k xs, [])
    | false => none
  | .bm _ _ => none
  | d => some (d, [])
theorem finD_mpq {P : Program} {h : Heap} {σ : Rn} {K : List Nat} {e : TypeId} {d d' : D} {i : List Nat} (q : finD P h σ K e d = some (d', i)) : d.mpq = false := by
  cases d with
  | bm => cases q
  | _ => rfl
theorem finD_mpq' {P : Program} {h : Heap} {σ : Rn} {K : List Nat} {e : TypeId} {d d' : D} {i : List Nat} (q : finD P h σ K e d = some (d', i)) : d'.mpq = false := by
  unfold finD at q
  split at q
  · split at q
    · simp only [Option.some.injEq, Prod.mk.injEq] at q; obtain ⟨rfl, _⟩ := q; rfl
    · cases q
  · split at q
    · simp only [Option.some.injEq, Prod.mk.injEq] at q; obtain ⟨rfl, _⟩ := q; rfl
    · cases q
  · cases q
  · rename_i h1 h2 h3
    simp only [Option.some.injEq, Prod.mk.injEq] at q; obtain ⟨rfl, _⟩ := q
    cases d with
    | bm k es => exact absurd rfl (h3 k es)
    | _ => rfl
def finB (P : Program) (h : Heap) (σ : Rn) (K : List Nat) (m0 : Nat) : Nat → List Nat → Option (Heap × List Nat)
  | _, [] => some ([], [])
  | j, id :: l => match h[id]? with
    | some b => match b.gen with
      | 0 => match finB P h σ K m0 (j + 1) l with
        | some (H, is) => some (⟨0, b.elem, .list [], true⟩ :: H, is)
        | none => none
      | g + 1 => match finD P h σ K b.elem b.d with
        | some (d, i) => match finB P h σ K m0 (j + 1) l with
          | some (H, is) => some (⟨fgen m0 j (g + 1), b.elem, nrmD d, b.wr⟩ :: H, i ++ is)
          | none => none
        | none => none
    | none => none
def fink {R : Type} (P : Program) (kp : Bool) (m0 : Nat) (fn : Func) (s : St) (k : V → Heap → Option R) : Option R :=
  match vress P s fn.results.toList with
  | some rs => match keeps kp m0 s.h rs with
    | K => match nodupB K with
      | true => match finrs P s.h (sigf m0 s.h K) K rs fn.resultTypes.toList with
        | some (ds, i1) => match finB P s.h (sigf m0 s.h K) K m0 0 K with
          | some (H, i2) => match disj (i1 ++ i2) K with
            | true => match ds with
              | [] => k (.tup []) H
              | [r] => k r H
              | a :: b :: l => k (.tup (a :: b :: l)) H
            | false => none
          | none => none
        | none => none
      | false => none
  | none => none
def runk {R : Type} (P : Program) (C : Orc) (L : Lps) (kp : Bool) (fn : Func) (c : Code) (args : List V) (hc : Heap) (k : V → Heap → Option R) : Option R :=
  match gens1 hc with
  | true => frL (args ++ List.replicate (fn.ntmps - args.length) .u) fun t => frH hc fun h => codek P C L 0 c ⟨t, h⟩ fun e s => match e with
    | .normal => fink P kp hc.length fn s k
    | .ret => fink P kp hc.length fn s k
    | .exit _ => none
  | false => none
theorem vres1_ok {x : Cx} (hx : HR x) {s : St} {a : Act} (hh : x.h = s.h) (ht : VRs x s.t a.tmps.toList) {r : ResultVar} {c : V} (h : vres1 x.P s r = some c) :
    ∃ v, (match r with | .tmp t => pure (a.tmps.getD t undef) | .cell d t => do loadVar t (← asAddr (a.tmps.getD d undef)) : Sem Value).run x.P x.w = .ok v x.w ∧ VR x c v := by
  cases r with
  | tmp n =>
    simp only [vres1, Option.some.injEq] at h; subst h
    exact ⟨_, rfl, VR_ev ht (.tmp n)⟩
  | cell d t =>
    simp only [vres1] at h
    have hv := VR_ev ht (.tmp d)
    rw [← hh] at h
    obtain ⟨z, h1, h2⟩ := vloadAt_ok hx h hv
    refine ⟨z, ?_, h2⟩
    have e : a.eval (.tmp d) = a.tmps.getD d undef := rfl
    rw [e] at h1
    simp only [Instr.loadAt, Instr.sureAddr, Sem.run_bind] at h1
    simp only [asAddr, Sem.run_bind]
    generalize a.tmps.getD d undef = u at *
    cases u with
    | pointer p => cases p with
      | none => simp [stuck] at h1
      | some ad => simpa using h1
    | _ => simp [stuck] at h1
theorem vress_ok {x : Cx} (hx : HR x) {s : St} {a : Act} (hh : x.h = s.h) (ht : VRs x s.t a.tmps.toList) (ho : oks s.t) (hho : hok s.h) :
    ∀ (rs : List ResultVar) (cs : List V), vress x.P s rs = some cs → oks cs ∧ ∃ l : List Value, (rs.mapM fun r => (match r with | .tmp t => pure (a.tmps.getD t undef) | .cell d t => do loadVar t (← asAddr (a.tmps.getD d undef)) : Sem Value)).run x.P x.w = .ok l x.w ∧ VRs x cs l
  | [], cs, h => by simp [vress] at h; subst h; exact ⟨trivial, [], rfl, rfl⟩
  | r :: rs, cs, h => by
    simp only [vress] at h
    split at h
    · rename_i c hc
      split at h
      · rename_i ds hds
        simp only [Option.some.injEq] at h; subst h
        obtain ⟨v, h1, h2⟩ := vres1_ok hx hh ht hc
        obtain ⟨k0, l, k1, k2⟩ := vress_ok hx hh ht ho hho rs ds hds
        refine ⟨⟨?_, k0⟩, v :: l, ?_, v, l, rfl, h2, k2⟩
        · cases r with
          | tmp n => simp only [vres1, Option.some.injEq] at hc; subst hc; exact ho.getD _
          | cell d t => simp only [vres1] at hc; exact ok_loadAt hc hho (ho.getD _)
        · rw [List.mapM_cons]
          simp only [Sem.run_bind, h1, Result.andThen_ok, k1, Sem.run_pure]
      · cases h
    · cases h
section
variable {y z : Cx} (hy : HR y) {σ : Rn} {K : List Nat} (hR : Rl σ y z) (hav : ∀ n, z.av n → y.av n)
def Out (y z : Cx) (i : List Nat) : Prop := ∀ id ∈ i, ∀ b, y.h[id]? = some b → y.lv id b → ¬ z.av (y.ρ id)
theorem Out.app {y z : Cx} {a b : List Nat} (h : Out y z (a ++ b)) : Out y z a ∧ Out y z b := ⟨fun id hid => h id (List.mem_append_left _ hid), fun id hid => h id (List.mem_append_right _ hid)⟩
include hy hR hav
theorem fin_bare : Mono y.bare z.bare := bareR hR.P hR.w fun n _ h1 h2 => h1 (hav n h2)
theorem fin_out {t : TypeId} {c r : V} {i : List Nat} (h : fzc y.P y.h 6 t c = some (r, i)) (hi : Out y z i) {v : Value} (hv : VR y c v) : VR z r v := by
  have := fzc_ok (av := z.av) hy hav 6 t c r i h hi v hv
  have hm : Mono (y.out z.av) z := ⟨hR.P, fun id b hb => by simp [Cx.out] at hb, fun n _ hn => ⟨hn, by rw [hR.w]; rfl⟩, by rw [hR.w]; exact Nat.le_refl _⟩
  exact this.mono hm
theorem fzk_ok {res : Bool} {t : TypeId} {c r : V} {i : List Nat} (h : fzk y.P y.h σ K res t c = some (r, i)) (hi : Out y z i) (v : Value) (hv : VR y c v) : VR z r v := by
  have hrn : VR z (rn σ c) v := rn_ok hR c v (.inr (fin_bare hy hR hav)) hv
  unfold fzk at h
  split at h
  · split at h
    · exact fin_out hy hR hav h hi hv
    · simp only [Option.some.injEq, Prod.mk.injEq] at h; obtain ⟨rfl, _⟩ := h; exact hrn
  · split at h
    · simp only [Option.some.injEq, Prod.mk.injEq] at h; obtain ⟨rfl, _⟩ := h; exact hrn
    · exact fin_out hy hR hav h hi hv
theorem fzkv_ok {t : TypeId} {c r : V} {i : List Nat} (h : fzkv y.P y.h σ K t c = some (r, i)) (hi : Out y z i) {v : Value} (hv : VR y c v) : VR z r v := by
  unfold fzkv at h
  split at h
  · split at h
    · rename_i ds ids hf
      simp only [Option.some.injEq, Prod.mk.injEq] at h; obtain ⟨rfl, rfl⟩ := h
      obtain ⟨l, rfl, hl⟩ := hv
      exact ⟨l, rfl, fzl_ok (S := Out y z) (fun a b h => h.app) (fun t c r i e s => fzk_ok hy hR hav e s) _ _ _ _ _ hf hi l hl⟩
    · cases h
  · exact fzk_ok hy hR hav h hi v hv
theorem finrs_ok : ∀ (cs : List V) (ts : List TypeId) (ds : List V) (i : List Nat), finrs y.P y.h σ K cs ts = some (ds, i) → Out y z i → ∀ l, VRs y cs l → VRs z ds l
  | [], [], ds, i, h, _, l, hl => by simp [finrs] at h; obtain ⟨rfl, rfl⟩ := h; exact hl
  | [], _ :: _, _, _, h, _, _, _ => by simp [finrs] at h
  | _ :: _, [], _, _, h, _, _, _ => by simp [finrs] at h
  | c :: cs, t :: ts, ds, i, h, hi, l, hl => by
    obtain ⟨v, vs, rfl, h1, h2⟩ := hl
    simp only [finrs] at h
    split at h
    · rename_i d i1 hd
      split at h
      · rename_i ds' i2 hds
        simp only [Option.some.injEq, Prod.mk.injEq] at h; obtain ⟨rfl, rfl⟩ := h
        exact ⟨v, vs, rfl, fzkv_ok hy hR hav hd hi.app.1 h1, finrs_ok cs ts ds' i2 hds hi.app.2 vs h2⟩
      · cases h
    · cases h
theorem finD_ok {e : TypeId} {d d' : D} {i : List Nat} (h : finD y.P y.h σ K e d = some (d', i)) (hi : Out y z i) {l : List Value} (hv : VRs y d.toV l) (hg : good y d l) : VRs z d'.toV l ∧ good z d' l := by
  unfold finD at h
  split at h
  · split at h
    · rename_i ds ids hf
      simp only [Option.some.injEq, Prod.mk.injEq] at h; obtain ⟨rfl, rfl⟩ := h
      exact ⟨fzl_ok (S := Out y z) (fun a b h => h.app) (fun t c r i e s => fzk_ok hy hR hav e s) _ _ _ _ _ hf hi l hv, trivial⟩
    · cases h
  · split at h
    · simp only [Option.some.injEq, Prod.mk.injEq] at h; obtain ⟨rfl, rfl⟩ := h
      exact rnD_ok hR (.inr (fin_bare hy hR hav)) hv hg
    · cases h
  · cases h
  · rename_i hno hno2 hno3
    simp only [Option.some.injEq, Prod.mk.injEq] at h; obtain ⟨rfl, rfl⟩ := h
    have := rnD_ok hR (.inr (fin_bare hy hR hav)) hv hg
    cases d with
    | list cs => exact absurd rfl (hno cs)
    | ints k xs => exact this
    | recs n s g => exact this
    | mix pre k xs => exact absurd rfl (hno2 pre k xs)
    | bm k es => exact absurd rfl (hno3 k es)
end
theorem fzk_okk {P : Program} {h : Heap} {σ : Rn} {K : List Nat} (hh : hok h) {res : Bool} {t : TypeId} {c r : V} {i : List Nat} (e : fzk P h σ K res t c = some (r, i)) (hc : c.ok) : r.ok := by
  unfold fzk at e
  split at e
  · split at e
    · exact ok_fzc hh 6 _ _ _ _ e hc
    · simp only [Option.some.injEq, Prod.mk.injEq] at e; obtain ⟨rfl, _⟩ := e; exact ok_rn _ _ hc
  · split at e
    · simp only [Option.some.injEq, Prod.mk.injEq] at e; obtain ⟨rfl, _⟩ := e; exact ok_rn _ _ hc
    · exact ok_fzc hh 6 _ _ _ _ e hc
theorem finrs_okk {P : Program} {h : Heap} {σ : Rn} {K : List Nat} (hh : hok h) : ∀ (cs : List V) (ts : List TypeId) (ds : List V) (i : List Nat), finrs P h σ K cs ts = some (ds, i) → oks cs → oks ds
  | [], [], ds, i, e, _ => by simp [finrs] at e; obtain ⟨rfl, rfl⟩ := e; trivial
  | [], _ :: _, _, _, e, _ => by simp [finrs] at e
  | _ :: _, [], _, _, e, _ => by simp [finrs] at e
  | c :: cs, t :: ts, ds, i, e, ho => by
    simp only [finrs] at e
    split at e
    · rename_i d i1 hd
      split at e
      · rename_i ds' i2 hds
        simp only [Option.some.injEq, Prod.mk.injEq] at e; obtain ⟨rfl, rfl⟩ := e
        refine ⟨?_, finrs_okk hh cs ts ds' i2 hds ho.2⟩
        unfold fzkv at hd
        split at hd
        · split at hd
          · rename_i hf
            simp only [Option.some.injEq, Prod.mk.injEq] at hd; obtain ⟨rfl, rfl⟩ := hd
            exact ok_fzl (fun t c r i e h => fzk_okk hh e h) _ _ _ _ _ hf ho.1
          · cases hd
        · exact fzk_okk hh hd ho.1
      · cases e
    · cases e
theorem finB_get {P : Program} {h : Heap} {σ : Rn} {K : List Nat} {m0 : Nat} : ∀ (l : List Nat) (j : Nat) (H : Heap) (i : List Nat), finB P h σ K m0 j l = some (H, i) → H.length = l.length ∧ ∀ (m id : Nat), l[m]? = some id → ∃ (b c : Blk), h[id]? = some b ∧ H[m]? = some c ∧
      ((b.gen = 0 ∧ c = ⟨0, b.elem, .list [], true⟩) ∨ (0 < b.gen ∧ ∃ d i', finD P h σ K b.elem b.d = some (d, i') ∧ (∀ a ∈ i', a ∈ i) ∧ c = ⟨fgen m0 (j + m) b.gen, b.elem, nrmD d, b.wr⟩))
  | [], j, H, i, e => by simp [finB] at e; obtain ⟨rfl, rfl⟩ := e; exact ⟨rfl, fun m id h => by simp at h⟩
  | id :: l, j, H, i, e => by
    simp only [finB] at e
    split at e
    case h_2 => cases e
    rename_i b hb
    split at e
    · rename_i hg
      split at e
      · rename_i H' is hrec
        simp only [Option.some.injEq, Prod.mk.injEq] at e; obtain ⟨rfl, rfl⟩ := e
        obtain ⟨q1, q2⟩ := finB_get l (j + 1) H' is hrec
        refine ⟨by simp [q1], fun m id' hm => ?_⟩
        cases m with
        | zero => simp at hm; subst hm; exact ⟨b, _, hb, rfl, .inl ⟨hg, rfl⟩⟩
        | succ m =>
          obtain ⟨b', c, p1, p2, p3⟩ := q2 m id' (by simpa using hm)
          refine ⟨b', c, p1, by simpa using p2, p3.imp (fun z => z) ?_⟩
          rintro ⟨r0, d, i', r1, r2, r3⟩
          exact ⟨r0, d, i', r1, r2, by rw [show j + (m + 1) = j + 1 + m by omega]; exact r3⟩
      · cases e
    · rename_i g hg
      split at e
      case h_2 => cases e
      rename_i d i1 hd
      split at e
      · rename_i H' is hrec
        simp only [Option.some.injEq, Prod.mk.injEq] at e; obtain ⟨rfl, rfl⟩ := e
        obtain ⟨q1, q2⟩ := finB_get l (j + 1) H' is hrec
        refine ⟨by simp [q1], fun m id' hm => ?_⟩
        cases m with
        | zero => simp at hm; subst hm; exact ⟨b, _, hb, rfl, .inr ⟨by omega, d, i1, hd, fun a ha => List.mem_append_left _ ha, by rw [hg]; rfl⟩⟩
        | succ m =>
          obtain ⟨b', c, p1, p2, p3⟩ := q2 m id' (by simpa using hm)
          refine ⟨b', c, p1, by simpa using p2, p3.imp (fun z => z) ?_⟩
          rintro ⟨r0, d, i', r1, r2, r3⟩
          exact ⟨r0, d, i', r1, fun a ha => List.mem_append_right _ (r2 a ha), by rw [show j + (m + 1) = j + 1 + m by omega]; exact r3⟩
      · cases e
theorem fzl_len {f : TypeId → V → Option (V × List Nat)} (all : List TypeId) : ∀ (ts : List TypeId) (cs rs : List V) (i : List Nat), fzl f all ts cs = some (rs, i) → rs.length = cs.length
  | _, [], rs, i, h => by simp [fzl] at h; obtain ⟨rfl, rfl⟩ := h; rfl
  | [], c :: cs, rs, i, h => by
    simp only [fzl] at h
    cases all with
    | nil => simp at h
    | cons t ts =>
      simp only at h
      split at h
      · rename_i e2
        simp only [Option.some.injEq, Prod.mk.injEq] at h; obtain ⟨rfl, rfl⟩ := h
        simp [fzl_len (t :: ts) ts cs _ _ e2]
      · cases h
  | t :: ts, c :: cs, rs, i, h => by
    simp only [fzl] at h
    split at h
    · rename_i e2
      simp only [Option.some.injEq, Prod.mk.injEq] at h; obtain ⟨rfl, rfl⟩ := h
      simp [fzl_len all ts cs _ _ e2]
    · cases h
theorem end_ok {x y : Cx} (h1 : gens1 x.h = true) {s : St} {a : Act} (hs : SR x y s a) {kp : Bool} {K : List Nat} {rs : List V} (hK : keeps kp x.h.length s.h rs = K) (hnd : nodupB K = true) {H : Heap} {i1 i2 : List Nat} (hB : finB x.P s.h (sigf x.h.length s.h K) K x.h.length 0 K = some (H, i2)) (hdj : disj (i1 ++ i2) K = true) :
    ∃ z : Cx, z.w = y.w ∧ z.h = H ∧ z.P = x.P ∧ To x z ∧ hok H ∧ Rl (sigf x.h.length s.h K) y z ∧ (∀ n, z.av n → y.av n) ∧ Out y z i1 := by
  have hnd := nodupB_spec hnd
  obtain ⟨hlen, hget⟩ := finB_get _ _ _ _ hB
  have hyh := hs.h
  generalize hm0 : x.h.length = m0 at *
  let z : Cx := { P := y.P, w := y.w, h := H, ρ := fun j => y.ρ (K.getD j 0), ph := fun j => y.ph (K.getD j 0), av := fun n => y.av n ∧ ¬ ∃ id b, id ∉ K ∧ y.h[id]? = some b ∧ y.lv id b ∧ y.ρ id = n }
  have hav : ∀ n, z.av n → y.av n := fun n h => h.1
  have getD : ∀ j id, K[j]? = some id → K.getD j 0 = id := fun j id h => by rw [List.getD_eq_getElem?_getD, h]; rfl
  have zget : ∀ j c, z.h[j]? = some c → z.lv j c → ∃ (id : Nat) (b : Blk), K[j]? = some id ∧ y.h[id]? = some b ∧ y.lv id b ∧ z.ρ j = y.ρ id ∧ c.elem = b.elem ∧ c.wr = b.wr ∧ c.gen = fgen m0 j b.gen ∧ ∃ d' i', finD x.P s.h (sigf m0 s.h K) K b.elem b.d = some (d', i') ∧ (∀ a ∈ i', a ∈ i2) ∧ c.d = nrmD d' := by
    intro j c hc hl
    have hj : j < K.length := by rw [← hlen]; exact (List.getElem?_eq_some_iff.1 hc).1
    obtain ⟨b, c', q1, q2, q3⟩ := hget j _ (List.getElem?_eq_getElem hj)
    have hc' : H[j]? = some c := hc
    rw [q2] at hc'; injection hc' with hc'; subst hc'
    have hid := List.getElem?_eq_getElem hj
    rcases q3 with ⟨r0, r1⟩ | ⟨r0, d, i', r1, r2, r3⟩
    · subst r1; exact absurd hl.1 (by simp)
    · subst r3
      refine ⟨_, b, hid, by rw [hyh]; exact q1, ⟨r0, ?_⟩, ?_, rfl, rfl, by simp, d, i', r1, r2, rfl⟩
      · have := hl.2; simp only [z, getD j _ hid] at this; exact this
      · simp only [z, getD j _ hid]
  have hout : ∀ i, (∀ a ∈ i, a ∈ i1 ++ i2) → Out y z i := fun i hi id hid b hb hl hz => hz.2 ⟨id, b, disj_spec hdj id (hi id hid), hb, hl, rfl⟩
  have hRl : Rl (sigf m0 s.h K) y z := by
    refine ⟨rfl, rfl, fun id g i k hq => ?_⟩
    unfold sigf at hq
    split at hq
    case h_2 => cases hq
    rename_i hcur
    split at hq
    case h_2 => cases hq
    rename_i j hj
    simp only [Option.some.injEq, Prod.mk.injEq] at hq
    obtain ⟨rfl, rfl⟩ := hq
    obtain ⟨_, hj⟩ := posN_spec hj
    rw [Nat.sub_zero] at hj
    obtain ⟨b, c, q1, q2, q3⟩ := hget j id hj
    unfold cur at hcur
    rw [q1] at hcur
    simp only [Bool.and_eq_true, beq_iff_eq, decide_eq_true_eq] at hcur
    rcases q3 with ⟨r0, r1⟩ | ⟨r0, d, i', r1, r2, r3⟩
    · omega
    · refine ⟨b, c, by rw [hyh]; exact q1, hcur.1, hcur.2, q2, by rw [r3, hcur.1]; simp, fgen_pos.2 hcur.2, ?_, fun hp => ?_⟩
      · rw [r3]
        simp only [Blk.cs, nrmD_toV]
        unfold finD at r1
        split at r1
        · rename_i hd
          split at r1
          · rename_i ds ids hf
            simp only [Option.some.injEq, Prod.mk.injEq] at r1; obtain ⟨rfl, rfl⟩ := r1
            rw [hd]
            exact Nat.le_of_eq (fzl_len _ _ _ _ _ hf).symm
          · cases r1
        · rename_i hd
          split at r1
          · simp only [Option.some.injEq, Prod.mk.injEq] at r1; obtain ⟨rfl, rfl⟩ := r1
            rw [hd]
            simp [D.toV, rns_length]
          · cases r1
        · cases r1
        · simp only [Option.some.injEq, Prod.mk.injEq] at r1; obtain ⟨rfl, rfl⟩ := r1; exact Nat.le_refl _
      · simp only [z, getD j id hj]; exact ⟨hp, trivial⟩
  have own : ∀ n, z.own n → y.own n ∧ ∃ (j id : Nat) (b : Blk), K[j]? = some id ∧ y.h[id]? = some b ∧ y.lv id b ∧ y.ρ id = n := by
    rintro n ⟨j, c, q1, q2, q3, q4⟩
    obtain ⟨id, b, r1, r2, r3, r4, r5, r6, _⟩ := zget j c q1 q2
    exact ⟨⟨id, b, r2, r3, by rw [← r6]; exact q3, by rw [← r4]; exact q4⟩, j, id, b, r1, r2, r3, by rw [← r4]; exact q4⟩
  have hr : HR z := by
    refine ⟨fun j c hj hl hm => ?_, fun j c k es hj hl hdm => ?_, fun i j c d hi hl hj hl' hρ => ?_, fun n hn => ?_, fun n hn => hs.hr.avlt n hn.1, fun j c hj hl => ?_⟩
    · obtain ⟨id, b, r1, r2, r3, r4, r5, r6, r7, d', i', r8, r9, r10⟩ := zget j c hj hl
      obtain ⟨cs, lo, hi', k1, k2, k3, k4, k5⟩ := hs.hr.blk id b r2 r3 (finD_mpq r8)
      rw [← hyh, ← hs.P] at r8
      rw [← hyh] at hRl
      obtain ⟨p1, p2⟩ := finD_ok hs.hr hRl hav r8 (hout _ fun a ha => List.mem_append_right _ (r9 a ha)) k3 k5
      have hlen' : d'.toV.length = b.cs.length := by
        have e1 := p1.length; have e2 := k3.length
        omega
      refine ⟨cs, lo, hi', by rw [r4, r5]; exact k1, k2, ?_, k4, ?_⟩
      · simp only [Blk.cs, r10, nrmD_toV, hlen']; exact p1
      · simp only [Blk.cs, r10, nrmD_toV, hlen']; exact nrmD_good p2
    · obtain ⟨id, b, r1, r2, r3, r4, r5, r6, r7, d', i', r8, r9, r10⟩ := zget j c hj hl
      rw [r10] at hdm
      have := finD_mpq' r8
      rw [nrmD_bm hdm] at this
      cases this
    · obtain ⟨id, b, r1, r2, r3, r4, _⟩ := zget i c hi hl
      obtain ⟨id', b', r1', r2', r3', r4', _⟩ := zget j d hj hl'
      rw [r4, r4'] at hρ
      have e := hs.hr.inj id id' b b' r2 r3 r2' r3' hρ
      subst e
      obtain ⟨p1, p2⟩ := List.getElem?_eq_some_iff.1 r1
      obtain ⟨p1', p2'⟩ := List.getElem?_eq_some_iff.1 r1'
      exact (List.getElem_inj hnd).1 (p2.trans p2'.symm)
    · obtain ⟨q1, j, id, b, q2, q3, q4, q5⟩ := own n hn
      refine ⟨hs.hr.ownav n q1, ?_⟩
      rintro ⟨id', b', e1, e2, e3, e4⟩
      have := hs.hr.inj id' id b' b e2 e3 q3 q4 (e4.trans q5.symm)
      subst this
      exact e1 (List.mem_of_getElem? q2)
    · obtain ⟨id, b, r1, r2, r3, r4, r5, r6, _⟩ := zget j c hj hl
      rcases hs.hr.safe id b r2 r3 with h | h
      · exact .inl (by rw [r6]; exact h)
      · exact .inr fun hz => h (by rw [← r4]; exact hz.1)
  have h2 := hs.to
  have hto : To x z := by
    refine ⟨⟨⟨h2.ext.mono.P, fun i b hb => ?_, fun n hn ha => ⟨fun k => (h2.ext.mono.blocks n hn ha).1 k.1, (h2.ext.mono.blocks n hn ha).2⟩, h2.ext.mono.size⟩, fun n hn ho => ⟨fun k => (h2.ext.heap n hn ho).1 (own n k).1, (h2.ext.heap n hn ho).2⟩, fun n hn ha ho => ⟨h2.ext.keep n hn ha ho, ?_⟩⟩, hr, h2.beside⟩
    · have hil : i < m0 := by rw [← hm0]; exact (List.getElem?_eq_some_iff.1 hb).1
      have hg1 := gens1_spec h1 b (List.mem_of_getElem? hb)
      obtain ⟨b', k1, k2, k3⟩ := h2.ext.mono.gens i b hb
      have hKi : K[i]? = some i := by rw [← hK]; exact keeps_low hil
      obtain ⟨b2, c, q1, q2, q3⟩ := hget i i hKi
      rw [← hyh, k1] at q1
      injection q1 with q1; subst q1
      rcases q3 with ⟨r0, r1⟩ | ⟨r0, d, i', r1, r2, r3⟩
      · omega
      · refine ⟨c, q2, ?_, fun he hl => ?_⟩
        · have := fgen_pos (m0 := m0) (j := 0 + i) (g := b'.gen)
          rw [r3]
          show b.gen ≤ fgen m0 (0 + i) b'.gen
          omega
        · rw [r3] at he
          have he : b.gen = fgen m0 (0 + i) b'.gen := he
          have : b'.gen = 1 := by
            unfold fgen at he
            split at he
            · omega
            · assumption
            · rw [Nat.zero_add, show Nat.blt i m0 = true from Nat.ble_eq_true_of_le hil] at he
              simp only at he
              omega
          obtain ⟨q1', q2', q3', q4'⟩ := k3 (by omega) hl
          have hD := getD i i hKi
          refine ⟨?_, ?_, ?_, ?_⟩
          · simp only [z, hD]; exact q1'
          · simp only [z, hD]; exact q2'
          · simp only [z, hD]; exact q3'
          · obtain ⟨_, _, e1, _, _, e2, _, _, e3, _⟩ := hRl.at_ i b'.gen i (fgen m0 i b'.gen) (by
              unfold sigf cur
              rw [← hyh, k1]
              have : decide (0 < b'.gen) = true := by simpa using r0
              simp only [beq_self_eq_true, this, Bool.and_self]
              cases hp : posN i 0 K with
              | none => exact absurd hp (by rw [← hK]; exact posN_keeps hil)
              | some j =>
                obtain ⟨_, hj⟩ := posN_spec hp
                rw [Nat.sub_zero] at hj
                obtain ⟨p1, p2⟩ := List.getElem?_eq_some_iff.1 hj
                obtain ⟨p1', p2'⟩ := List.getElem?_eq_some_iff.1 hKi
                have := (List.getElem_inj hnd).1 (p2.trans p2'.symm)
                subst this
                rfl)
            rw [k1] at e1; injection e1 with e1; subst e1
            rw [show z.h[i]? = some c from q2] at e2; injection e2 with e2; subst e2
            omega
    · rintro ⟨id, b, _, e2, e3, e4⟩
      rcases hs.hr.safe id b e2 e3 with hw | hw
      · exact (h2.ext.heap n hn ho).1 ⟨id, b, e2, e3, hw, e4⟩
      · exact hw (e4 ▸ h2.ext.keep n hn ha ho)
  refine ⟨z, rfl, rfl, hs.P, hto, fun c hc => ?_, hRl, hav, hout _ fun a ha => List.mem_append_left _ ha⟩
  obtain ⟨j, hj⟩ := List.getElem?_of_mem hc
  have hjl : j < K.length := by rw [← hlen]; exact (List.getElem?_eq_some_iff.1 hj).1
  obtain ⟨b, c', q1, q2, q3⟩ := hget j _ (List.getElem?_eq_getElem hjl)
  rw [q2] at hj; injection hj with hj; subst hj
  have hbo := hs.oh b (List.mem_of_getElem? q1)
  rcases q3 with ⟨_, rfl⟩ | ⟨_, d, i', r1, _, rfl⟩
  · trivial
  · show (nrmD d).ok
    refine nrmD_ok ?_
    unfold finD at r1
    split at r1
    · rename_i hd
      split at r1
      · rename_i ds ids hf
        simp only [Option.some.injEq, Prod.mk.injEq] at r1; obtain ⟨rfl, rfl⟩ := r1
        rw [hd] at hbo
        exact ok_fzl (fun t c r i e h => fzk_okk hs.oh e h) _ _ _ _ _ hf hbo
      · cases r1
    · rename_i hd
      split at r1
      · simp only [Option.some.injEq, Prod.mk.injEq] at r1; obtain ⟨rfl, rfl⟩ := r1
        rw [hd] at hbo
        exact ⟨ok_rns _ _ hbo.1, hbo.2⟩
      · cases r1
    · cases r1
    · simp only [Option.some.injEq, Prod.mk.injEq] at r1; obtain ⟨rfl, rfl⟩ := r1; exact hbo
end Go.Proofs.YtkmkhcmfpbffjaaGreat.VI

namespace Go.Proofs.YtkmkhcmfpbffjaaGreat.VI
set_option linter.unusedVariables false
set_option linter.unusedSimpArgs false
theorem run_ok {P : Program} {R : Type} {C : Orc} (hC : OrcOk P C) (hmx : P.follows .mixedOrders = true) {L : Lps} {kp : Bool} {f : FuncId} {fn : Func} {c : Code} (hf : P.funcs[f]? = some fn) (hb : fn.body = some c) (hn : (fn.name == "runtime.NumGoroutine") = false)
    {args : List V} {hc : Heap} (hL : LoopsOk P L hc.length 0 c) {k : V → Heap → Option R} {res : R} (h : runk P C L kp fn c args hc k = some res) : CallOk P f args hc fun r h' => k r h' = some res := by
  refine ⟨⟨fn, hf, hn, by rw [hb]; rfl⟩, fun x us hP hh hx ha hoa hoh => ?_⟩
  subst hP
  subst hh
  unfold runk at h
  split at h
  case h_2 => cases h
  rename_i hg1
  refine calls_of_wp hf hb ?_
  have hlen := ha.length
  have hs : SR x x ⟨args ++ List.replicate (fn.ntmps - args.length) .u, x.h⟩ { tmps := us.toArray ++ Array.replicate (fn.ntmps - us.toArray.size) undef, defers := [] } := by
    refine ⟨hx, rfl, ?_, rfl, To.refl hx, rfl, hoa.app (oks_us _), hoh⟩
    have : VRs x (List.replicate (fn.ntmps - args.length) .u) (List.replicate (fn.ntmps - args.length) undef) := by
      generalize fn.ntmps - args.length = m
      induction m with
      | zero => rfl
      | succ m ih => exact ⟨undef, _, rfl, trivial, ih⟩
    have := ha.append this
    simpa [hlen] using this
  simp only [frL_eq, frH_eq] at h
  refine codek_ok hC hmx hg1 rfl c 0 hL x _ _ _ _ hs h ?_
  intro e y s a hsr hk
  have fin : fink x.P kp x.h.length fn s k = some res → a.defers = [] ∧ ∃ v, (results fn a.tmps).run x.P y.w = .ok v y.w ∧ ∃ r h' u z, k r h' = some res ∧ r.ok ∧ hok h' ∧ Ending.returned v = .returned u ∧ z.w = y.w ∧ To x z ∧ z.P = x.P ∧ z.h = h' ∧ VR z r u := by
    intro hfin
    refine ⟨hsr.d, ?_⟩
    unfold fink at hfin
    split at hfin
    case h_2 => cases hfin
    rename_i rs hrs
    generalize hKq : keeps kp x.h.length s.h rs = K at hfin
    simp only at hfin
    split at hfin
    case h_2 => cases hfin
    rename_i hnd
    split at hfin
    case h_2 => cases hfin
    rename_i ds i1 hds
    split at hfin
    case h_2 => cases hfin
    rename_i H i2 hH
    split at hfin
    case h_2 => cases hfin
    rename_i hdj
    obtain ⟨z, z1, z2, z3, z4, z5, z6, z7, z8⟩ := end_ok hg1 hsr hKq hnd hH hdj
    rw [← hsr.P] at hrs hds
    obtain ⟨o1, l, l1, l2⟩ := vress_ok (x := y) hsr.hr hsr.h hsr.t hsr.ot hsr.oh _ _ hrs
    rw [← hsr.h] at hds z6
    have hVs := finrs_ok hsr.hr z6 z7 _ _ _ _ hds z8 l l2
    have hok2 := finrs_okk (by rw [hsr.h]; exact hsr.oh) _ _ _ _ hds o1
    rw [hsr.P] at l1
    have main : (fn.results.mapM fun r => (match r with | .tmp t => pure (a.tmps.getD t undef) | .cell d t => do loadVar t (← asAddr (a.tmps.getD d undef)) : Sem Value)).run x.P y.w = .ok l.toArray y.w := by
      rw [Array.mapM_eq_mapM_toList]
      simp only [map_eq_pure_bind, Sem.run_bind, Sem.run_pure]
      erw [l1]
      rfl
    split at hfin
    · have h2 : l = [] := hVs
      subst h2
      refine ⟨.tuple #[], ?_, .tup [], H, _, z, hfin, trivial, z5, rfl, z1, z4, z3, z2, ⟨[], rfl, rfl⟩⟩
      unfold results
      simp only [Sem.run_bind]
      erw [main]
      simp
    · rename_i r
      obtain ⟨v, vs, rfl, h3, h4⟩ := hVs
      have h4 : vs = [] := h4
      subst h4
      refine ⟨v, ?_, r, H, v, z, hfin, hok2.1, z5, rfl, z1, z4, z3, z2, h3⟩
      unfold results
      simp only [Sem.run_bind]
      erw [main]
      simp
    · rename_i p q cs
      have hl := hVs.length
      refine ⟨.tuple l.toArray, ?_, .tup (p :: q :: cs), H, _, z, hfin, hok2, z5, rfl, z1, z4, z3, z2, ⟨l, rfl, hVs⟩⟩
      unfold results
      simp only [Sem.run_bind]
      erw [main]
      simp only [Result.andThen_ok, Sem.run_pure]
      rw [dif_neg (by simp at hl; simp [hl])]
  cases e with
  | normal => exact fin hk
  | ret => exact fin hk
  | exit id => simp at hk
end Go.Proofs.YtkmkhcmfpbffjaaGreat.VI

namespace Go.Proofs.YtkmkhcmfpbffjaaGreat.VI
set_option linter.unusedVariables false
set_option linter.unusedSimpArgs false
open Go.RowKit
def Cx.top (P : Program) (W : World) : Cx := { P := P, w := W, ρ := fun n => n, h := [], av := fun _ => False, ph := fun _ => False }
theorem top_hr (P : Program) (W : World) : HR (Cx.top P W) :=
  ⟨fun id b hb => by simp [Cx.top] at hb, fun id b k es hb => by simp [Cx.top] at hb, fun i j b b' hi => by simp [Cx.top] at hi, fun n hn => by obtain ⟨j, b, hb, _⟩ := hn; simp [Cx.top] at hb, fun n hn => hn.elim, fun id b hb => by simp [Cx.top] at hb⟩
theorem true_of_call {P : Program} {f : FuncId} {args : List V} (h : CallOk P f args [] fun r _ => r = .b true) {W : World} {us : List Value} (hu : VRs (Cx.top P W) args us) (ho : oks args) :
    Calls P f us.toArray W fun e W' => e = .returned (.bool true) ∧ Below W.heap.size W W' := by
  refine (h.2 (Cx.top P W) us rfl rfl (top_hr P W) hu ho (fun b hb => by cases hb)).mono ?_
  rintro e W' ⟨r, h', u, y, rfl, _, _, rfl, rfl, hto, _, _, hr⟩
  have hr : u = .bool true := hr
  subst hr
  exact ⟨rfl, hto.beside.os, hto.beside.tape, hto.beside.output, hto.ext.mono.size, fun k hk => (hto.ext.heap k hk (by rintro ⟨j, b, hb, _⟩; simp [Cx.top] at hb)).2⟩
theorem CallOk.of {P : Program} {f : FuncId} {args : List V} {hc : Heap} {Q : V → Heap → Prop} (he : Enters P f) (h : oks args → hok hc → CallOk P f args hc Q) : CallOk P f args hc Q :=
  ⟨he, fun x us h1 h2 h3 h4 h5 h6 => (h h5 h6).2 x us h1 h2 h3 h4 h5 h6⟩
def ent (f : FuncId) (md : List Bool) (nf : Nat) (spec : List V → Heap → Tr) : Orc := fun g => match Nat.beq g f with
  | true => some ⟨md, nf, spec⟩
  | false => none
def orn : Orc := fun _ => none
theorem orn_ok (P : Program) : OrcOk P orn := fun _ _ h => by cases h
theorem ent_ok {P : Program} {f : FuncId} {md : List Bool} {nf : Nat} {spec : List V → Heap → Tr} (h : ∀ l hc r h', (spec l hc).val = some (r, h') → oks l → hok hc → CallOk P f l hc fun q k => q = r ∧ k = h') (he : Enters P f) : OrcOk P (ent f md nf spec) := by
  intro g en hen args hc r h' hr
  unfold ent at hen
  cases hb : Nat.beq g f with
  | true =>
    rw [hb] at hen
    have := Nat.eq_of_beq_eq_true hb
    subst this
    injection hen with hen; subst hen
    exact .of he (h args hc r h' hr)
  | false => rw [hb] at hen; cases hen
theorem enters {P : Program} {f : FuncId} {fn : Func} (hf : P.funcs[f]? = some fn) (hn : (fn.name == "runtime.NumGoroutine") = false) (hb : fn.body.isNone = false) : Enters P f := ⟨fn, hf, hn, hb⟩
end Go.Proofs.YtkmkhcmfpbffjaaGreat.VI

namespace Go.Proofs.YtkmkhcmfpbffjaaGreat.VI
set_option linter.unusedVariables false
set_option linter.unusedSimpArgs false
theorem LTr.br_val {b : Bool} {t : LTr} {r : Ex × St} (h : (LTr.br b t .no).val = some r) : b = true ∧ t.val = some r := by
  cases b with
  | true => exact ⟨rfl, h⟩
  | false => cases h
theorem Tr.br_val {b : Bool} {t : Tr} {r : V × Heap} (h : (Tr.br b t .no).val = some r) : b = true ∧ t.val = some r := by
  cases b with
  | true => exact ⟨rfl, h⟩
  | false => cases h
def lpsOf (L : Lps) : Nat → Code → List (Code × (St → LTr))
  | d, .seq a b => lpsOf L d a ++ lpsOf L d b
  | d, .cond _ a b => lpsOf L d a ++ lpsOf L d b
  | d, .block _ a => lpsOf L d a
  | d, .loop a => match L d (hdR a) with
    | .un _ _ => lpsOf L (d + 1) a
    | .by_ f => [(a, f)]
    | .no => []
  | _, _ => []
theorem loopsOk {P : Program} {L : Lps} {m0 : Nat} : ∀ {c : Code} {d : Nat}, (∀ p ∈ lpsOf L d c, LoopOk P m0 p.1 p.2) → LoopsOk P L m0 d c := by
  intro c
  induction c with
  | seq a b iha ihb => intro d h; exact ⟨iha fun p hp => h p (List.mem_append_left _ hp), ihb fun p hp => h p (List.mem_append_right _ hp)⟩
  | cond o a b iha ihb => intro d h; exact ⟨iha fun p hp => h p (List.mem_append_left _ hp), ihb fun p hp => h p (List.mem_append_right _ hp)⟩
  | block id a ih => intro d h; exact ih h
  | loop a ih =>
    intro d h
    simp only [LoopsOk]
    simp only [lpsOf] at h
    cases hL : L d (hdR a) with
    | un n ks => rw [hL] at h; exact ih h
    | by_ f => rw [hL] at h; exact h (a, f) (by simp)
    | no => trivial
  | _ => intro d h; trivial
def loopsIn : Code → List Code
  | .loop a => a :: loopsIn a
  | .seq a b => loopsIn a ++ loopsIn b
  | .cond _ a b => loopsIn a ++ loopsIn b
  | .block _ a => loopsIn a
  | _ => []
def lpN (f : Func) (n : Nat) : Code := (loopsIn (f.body.getD .skip)).getD n .skip
def gud {α : Type} (c : Bool) (r : Option α) : Option α := bif c then r else none
theorem bifI {α : Type} {a b : Int} {x y : α} : (bif a == b then x else y) = if a = b then x else y := by
  by_cases h : a = b
  · subst h; simp
  · rw [if_neg h, show (a == b) = false by simpa using h]; rfl
theorem bifN {α : Type} {a b : Int} {x y : α} : (bif a != b then x else y) = if a = b then y else x := by
  by_cases h : a = b
  · subst h; simp
  · rw [if_neg h, show (a != b) = true by simpa using h]; rfl
theorem bifD {α : Type} {p : Prop} [Decidable p] {x y : α} : (bif decide p then x else y) = if p then x else y := by
  by_cases h : p <;> simp [h]
theorem wrap_nat {k : IntKind} (hk : k.signed = false) {n : Nat} (h : n < 2 ^ k.bits) : k.wrap (n : Int) = n := by
  cases k <;> simp [IntKind.signed] at hk <;> simp only [IntKind.bits] at h <;> simp only [IntKind.wrap, IntKind.signed, IntKind.bits] <;> simp <;> omega
theorem ofInt_nat (w n : Nat) : BitVec.ofInt w (n : Int) = BitVec.ofNat w n := by simp
theorem bits_xor {k : IntKind} (hk : k.signed = false) {a b : Nat} (ha : a < 2 ^ k.bits) (hb : b < 2 ^ k.bits) : bits .xor k (a : Int) (b : Int) = ((a ^^^ b : Nat) : Int) := by
  unfold bits
  simp only [ofInt_nat, BitVec.toNat_xor, BitVec.toNat_ofNat, Nat.mod_eq_of_lt ha, Nat.mod_eq_of_lt hb]
  exact wrap_nat hk (Nat.xor_lt_two_pow ha hb)
theorem bits_and {k : IntKind} (hk : k.signed = false) {a b : Nat} (ha : a < 2 ^ k.bits) (hb : b < 2 ^ k.bits) : bits .and k (a : Int) (b : Int) = ((a &&& b : Nat) : Int) := by
  unfold bits
  simp only [ofInt_nat, BitVec.toNat_and, BitVec.toNat_ofNat, Nat.mod_eq_of_lt ha, Nat.mod_eq_of_lt hb]
  exact wrap_nat hk (Nat.and_lt_two_pow _ hb)
theorem bits_or {k : IntKind} (hk : k.signed = false) {a b : Nat} (ha : a < 2 ^ k.bits) (hb : b < 2 ^ k.bits) : bits .or k (a : Int) (b : Int) = ((a ||| b : Nat) : Int) := by
  unfold bits
  simp only [ofInt_nat, BitVec.toNat_or, BitVec.toNat_ofNat, Nat.mod_eq_of_lt ha, Nat.mod_eq_of_lt hb]
  exact wrap_nat hk (Nat.or_lt_two_pow ha hb)
theorem u32_xor {a b : Nat} (ha : a < 4294967296) (hb : b < 4294967296) : bits .xor .u32 (a : Int) (b : Int) = ((a ^^^ b : Nat) : Int) := bits_xor rfl ha hb
theorem u32_and {a b : Nat} (ha : a < 4294967296) (hb : b < 4294967296) : bits .and .u32 (a : Int) (b : Int) = ((a &&& b : Nat) : Int) := bits_and rfl ha hb
theorem u32_or {a b : Nat} (ha : a < 4294967296) (hb : b < 4294967296) : bits .or .u32 (a : Int) (b : Int) = ((a ||| b : Nat) : Int) := bits_or rfl ha hb
theorem i64_in {n : Int} (h : inR .i64 n) : -9223372036854775808 ≤ n ∧ n ≤ 9223372036854775807 := h
theorem wrap_i64 (n : Int) : IntKind.i64.wrap n = (n + 9223372036854775808) % 18446744073709551616 - 9223372036854775808 := by
  simp only [IntKind.wrap, IntKind.bits, IntKind.signed]
  simp
  omega
theorem w64_id {n : Int} (h : -9223372036854775808 ≤ n ∧ n ≤ 9223372036854775807) : IntKind.i64.wrap n = n := by rw [wrap_i64]; omega
end Go.Proofs.YtkmkhcmfpbffjaaGreat.VI

namespace Go.Proofs.YtkmkhcmfpbffjaaGreat.VI
set_option linter.unusedVariables false
set_option linter.unusedSimpArgs false
def fgenB (bs : List Nat) (m0 j g : Nat) : Nat := match g with
  | 0 => 0
  | 1 => match memN j bs with
    | true => 2
    | false => 1
  | _ => match Nat.blt j m0 with
    | true => 2
    | false => 1
theorem fgenB_pos {bs : List Nat} {m0 j g : Nat} : 0 < fgenB bs m0 j g ↔ 0 < g := by
  unfold fgenB
  split
  · simp
  · split <;> simp
  · split <;> simp_all <;> omega
def sigfB (bs : List Nat) (m0 : Nat) (h : Heap) (K : List Nat) : Rn := fun id g => match cur h id g with
  | true => match posN id 0 K with
    | some j => some (j, fgenB bs m0 j g)
    | none => none
  | false => none
def cleanHB (bs : List Nat) (σ : Rn) (m0 : Nat) (h : Heap) : Nat → List Nat → Heap
  | _, [] => []
  | j, id :: l => (match h[id]? with
    | some b => match b.gen with
      | 0 => ⟨0, b.elem, .list [], true⟩
      | g + 1 => ⟨fgenB bs m0 j (g + 1), b.elem, nrmD (rnD σ b.d), b.wr⟩
    | none => ⟨0, 0, .list [], true⟩) :: cleanHB bs σ m0 h (j + 1) l
theorem cleanHB_get (bs : List Nat) (σ : Rn) (m0 : Nat) (h : Heap) : ∀ (l : List Nat) (j i : Nat), (cleanHB bs σ m0 h j l)[i]? = (l[i]?).map fun id => match h[id]? with
    | some b => match b.gen with
      | 0 => ⟨0, b.elem, .list [], true⟩
      | g + 1 => ⟨fgenB bs m0 (j + i) (g + 1), b.elem, nrmD (rnD σ b.d), b.wr⟩
    | none => ⟨0, 0, .list [], true⟩
  | [], j, i => by simp [cleanHB]
  | id :: l, j, 0 => by simp [cleanHB]
  | id :: l, j, i + 1 => by
    simp only [cleanHB, List.getElem?_cons_succ]
    rw [cleanHB_get bs σ m0 h l (j + 1) i, show j + 1 + i = j + (i + 1) by omega]
def cleanKB (bs : List Nat) (K : List Nat) (m0 : Nat) (t : List V) (h : Heap) : St := ⟨rns (sigfB bs m0 h K) t, cleanHB bs (sigfB bs m0 h K) m0 h 0 K⟩
def cleanB (bs : List Nat) (ks : List Nat) (m0 : Nat) (s : St) : St := cleanKB bs (keeps true m0 s.h (keepT ks 0 s.t)) m0 (keepT ks 0 s.t) s.h
theorem cleanB_ok (bs : List Nat) {x0 x : Cx} {s : St} {a : Act} (h1 : gens1 x0.h = true) {m0 : Nat} (hm0 : x0.h.length = m0) (ks : List Nat) (hs : SR x0 x s a) : ∃ z : Cx, z.w = x.w ∧ SR x0 z (cleanB bs ks m0 s) a := by
  generalize hK : keeps true m0 s.h (keepT ks 0 s.t) = K
  have hnd : K.Nodup := by rw [← hK]; exact keeps_nodup
  have hcl : cleanB bs ks m0 s = ⟨rns (sigfB bs m0 s.h K) (keepT ks 0 s.t), cleanHB bs (sigfB bs m0 s.h K) m0 s.h 0 K⟩ := by unfold cleanB cleanKB; rw [hK]
  have hxh := hs.h
  let z : Cx := { P := x.P, w := x.w, h := cleanHB bs (sigfB bs m0 s.h K) m0 s.h 0 K, ρ := fun j => x.ρ (K.getD j 0), ph := fun j => x.ph (K.getD j 0), av := x.av }
  have getD : ∀ j id, K[j]? = some id → K.getD j 0 = id := fun j id h => by rw [List.getD_eq_getElem?_getD, h]; rfl
  have zget : ∀ j c, z.h[j]? = some c → z.lv j c → ∃ (id : Nat) (b : Blk), K[j]? = some id ∧ x.h[id]? = some b ∧ x.lv id b ∧ z.ρ j = x.ρ id ∧ c = ⟨fgenB bs m0 j b.gen, b.elem, nrmD (rnD (sigfB bs m0 s.h K) b.d), b.wr⟩ := by
    intro j c hc hl
    have hc' : (cleanHB bs (sigfB bs m0 s.h K) m0 s.h 0 K)[j]? = some c := hc
    rw [cleanHB_get] at hc'
    cases hid : K[j]? with
    | none => rw [hid] at hc'; cases hc'
    | some id =>
      rw [hid] at hc'
      simp only [Option.map_some, Option.some.injEq, Nat.zero_add] at hc'
      split at hc'
      · rename_i b hb
        split at hc'
        · subst hc'; exact absurd hl.1 (by simp)
        · rename_i g hg
          refine ⟨id, b, rfl, by rw [hxh]; exact hb, ⟨by omega, ?_⟩, ?_, ?_⟩
          · have := hl.2; simp only [z, getD j _ hid] at this; exact this
          · simp only [z, getD j _ hid]
          · rw [← hc', hg]
      · subst hc'; exact absurd hl.1 (by simp)
  have zput : ∀ (j id : Nat) (b : Blk), K[j]? = some id → x.h[id]? = some b → 0 < b.gen → z.h[j]? = some ⟨fgenB bs m0 j b.gen, b.elem, nrmD (rnD (sigfB bs m0 s.h K) b.d), b.wr⟩ := by
    intro j id b hj hb hg
    show (cleanHB bs (sigfB bs m0 s.h K) m0 s.h 0 K)[j]? = _
    rw [cleanHB_get, hj]
    simp only [Option.map_some, Option.some.injEq, Nat.zero_add]
    rw [← hxh, hb]
    simp only
    split
    · omega
    · rename_i g hg'; rw [hg']
  have hRl : Rl (sigfB bs m0 s.h K) x z := by
    refine ⟨rfl, rfl, fun id g i k hq => ?_⟩
    unfold sigfB at hq
    split at hq
    case h_2 => cases hq
    rename_i hcur
    split at hq
    case h_2 => cases hq
    rename_i j hj
    simp only [Option.some.injEq, Prod.mk.injEq] at hq
    obtain ⟨rfl, rfl⟩ := hq
    obtain ⟨_, hj⟩ := posN_spec hj
    rw [Nat.sub_zero] at hj
    unfold cur at hcur
    rw [← hxh] at hcur
    cases hb : x.h[id]? with
    | none => rw [hb] at hcur; cases hcur
    | some b =>
      rw [hb] at hcur
      simp only [Bool.and_eq_true, beq_iff_eq, decide_eq_true_eq] at hcur
      refine ⟨b, _, rfl, hcur.1, hcur.2, zput j id b hj hb (by omega), by rw [hcur.1], fgenB_pos.2 hcur.2, by simp only [Blk.cs, nrmD_toV, rnD_length]; exact Nat.le_refl _, fun hp => ?_⟩
      simp only [z, getD j id hj]; exact ⟨hp, trivial⟩
  have hbare : Mono x.bare z.bare := bareR rfl rfl fun _ _ h => h
  have own : ∀ n, z.own n → x.own n := by
    rintro n ⟨j, c, q1, q2, q3, q4⟩
    obtain ⟨id, b, r1, r2, r3, r4, r5⟩ := zget j c q1 q2
    exact ⟨id, b, r2, r3, by rw [r5] at q3; exact q3, by rw [← r4]; exact q4⟩
  have hr : HR z := by
    refine ⟨fun j c hj hl hm => ?_, fun j c k es hj hl hdm => ?_, fun i j c d hi hl hj hl' hρ => ?_, fun n hn => hs.hr.ownav n (own n hn), hs.hr.avlt, fun j c hj hl => ?_⟩
    · obtain ⟨id, b, r1, r2, r3, r4, r5⟩ := zget j c hj hl
      obtain ⟨cs, lo, hi', k1, k2, k3, k4, k5⟩ := hs.hr.blk id b r2 r3 (by rw [r5] at hm; simpa only [nrmD_mpq, rnD_mpq] using hm)
      obtain ⟨q1, q2⟩ := rnD_ok hRl (.inr hbare) k3 k5
      refine ⟨cs, lo, hi', by rw [r4, r5]; exact k1, k2, ?_, k4, ?_⟩
      · rw [r5]; simp only [Blk.cs, nrmD_toV, rnD_length]; exact q1
      · rw [r5]; simp only [Blk.cs, nrmD_toV, rnD_length]; exact nrmD_good q2
    · obtain ⟨id, b, r1, r2, r3, r4, r5⟩ := zget j c hj hl
      rw [r5] at hdm
      rw [r4]
      exact hs.hr.mps id b k es r2 r3 (rnD_bm (nrmD_bm hdm))
    · obtain ⟨id, b, r1, r2, r3, r4, _⟩ := zget i c hi hl
      obtain ⟨id', b', r1', r2', r3', r4', _⟩ := zget j d hj hl'
      rw [r4, r4'] at hρ
      have e := hs.hr.inj id id' b b' r2 r3 r2' r3' hρ
      subst e
      obtain ⟨p1, p2⟩ := List.getElem?_eq_some_iff.1 r1
      obtain ⟨p1', p2'⟩ := List.getElem?_eq_some_iff.1 r1'
      exact (List.getElem_inj hnd).1 (p2.trans p2'.symm)
    · obtain ⟨id, b, r1, r2, r3, r4, r5⟩ := zget j c hj hl
      rw [r4, r5]
      exact hs.hr.safe id b r2 r3
  have h2 := hs.to
  have hto : To x0 z := by
    refine ⟨⟨⟨h2.ext.mono.P, fun i b hb => ?_, h2.ext.mono.blocks, h2.ext.mono.size⟩, fun n hn ho => ⟨fun k => (h2.ext.heap n hn ho).1 (own n k), (h2.ext.heap n hn ho).2⟩, h2.ext.keep⟩, hr, h2.beside⟩
    have hil : i < m0 := by rw [← hm0]; exact (List.getElem?_eq_some_iff.1 hb).1
    have hg1 := gens1_spec h1 b (List.mem_of_getElem? hb)
    obtain ⟨b', k1, k2, k3⟩ := h2.ext.mono.gens i b hb
    have hKi : K[i]? = some i := by rw [← hK]; exact keeps_low hil
    have hD := getD i i hKi
    refine ⟨_, zput i i b' hKi k1 (by omega), ?_, fun he hl => ?_⟩
    · have := fgenB_pos (bs := bs) (m0 := m0) (j := i) (g := b'.gen)
      show b.gen ≤ fgenB bs m0 i b'.gen
      omega
    · have he : b.gen = fgenB bs m0 i b'.gen := he
      have : b'.gen = 1 := by
        unfold fgenB at he
        split at he
        · omega
        · assumption
        · rw [show Nat.blt i m0 = true from Nat.ble_eq_true_of_le hil] at he
          simp only at he
          omega
      obtain ⟨q1, q2, q3, q4⟩ := k3 (by omega) hl
      refine ⟨?_, ?_, ?_, by simp only [Blk.cs, nrmD_toV, rnD_length]; exact q4⟩
      · simp only [z, hD]; exact q1
      · simp only [z, hD]; exact q2
      · simp only [z, hD]; exact q3
  refine ⟨z, rfl, ?_⟩
  rw [hcl]
  refine ⟨hr, rfl, rns_ok hRl _ _ (.inr hbare) (keepT_ok ks 0 _ _ hs.t), hs.P, hto, hs.d, ok_rns _ _ (ok_keepT _ _ _ hs.ot), fun b hb => ?_⟩
  obtain ⟨j, hj⟩ := List.getElem?_of_mem hb
  simp only at hj
  rw [cleanHB_get] at hj
  cases hid : K[j]? with
  | none => rw [hid] at hj; cases hj
  | some id =>
    rw [hid] at hj
    simp only [Option.map_some, Option.some.injEq] at hj
    split at hj
    · rename_i b' hb'
      split at hj
      · subst hj; trivial
      · subst hj; exact nrmD_ok (ok_rnD (hs.oh b' (List.mem_of_getElem? hb')))
    · subst hj; trivial
end Go.Proofs.YtkmkhcmfpbffjaaGreat.VI

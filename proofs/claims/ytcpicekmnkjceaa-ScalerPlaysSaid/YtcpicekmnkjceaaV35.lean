import Derived.Test.YtcpicekmnkjceaaV34
import Derived.Below
import Derived.KernelRfl
import Derived.WalkKit
import Derived.ProofKit
import Derived.OpenShut
import Derived.ShutString
import Derived.ChangeOld
import Derived.SizedLaws
import Derived.WideKeyArgs
import GoSem.ClaimJoined
import Derived.Deep.Slices
import Derived.ChangeArms
namespace Go.Proofs.Ytcpicekmnkjceaa.VI
set_option linter.unusedVariables false
set_option linter.unusedSimpArgs false
set_option linter.unusedSimpArgs false
set_option linter.unusedVariables false
section
variable {R : Type}
def lapk (body : St → (Ex → St → Option R) → Option R) (c1 c2 : St → St) : Nat → St → (Ex → St → Option R) → Option R
  | 0, _, _ => none
  | n + 1, s, k => body s fun e s' => match e with
    | .normal => lapk body c1 c2 n (c1 s') k
    | .exit id => k (.exit id) (c2 s')
    | .ret => k .ret (c2 s')
def rndk (P : Program) (C : Orc) (L : Lps) (d m0 : Nat) (ks ks2 : List Nat) (a : Code) (s : St) (k : Ex → St → Option R) : Option R := codek P C L d a s fun e s' => match e with
  | .normal => k .normal (clean ks m0 s')
  | .exit id => k (.exit id) (clean ks2 m0 s')
  | .ret => k .ret (clean ks2 m0 s')
def iterk {α β : Type} (st : α → (α → Option R) → (β → Option R) → Option R) : Nat → α → (β → Option R) → Option R
  | 0, _, _ => none
  | n + 1, v, ko => st v (fun v' => iterk st n v' ko) ko
end
def Wk (P : Program) (m0 : Nat) (s s2 : St) : Prop := ∀ (x0 x : Cx) (act : Act), x0.P = P → gens1 x0.h = true → x0.h.length = m0 → SR x0 x s act → ∃ z : Cx, z.w = x.w ∧ SR x0 z s2 act
theorem lap_iter {P : Program} {C : Orc} {L : Lps} {d m0 : Nat} {ks ks2 : List Nat} {a : Code} {α β : Type} {S : α → St} {E : β → Ex × St} (hE : ∀ b, (E b).1 ≠ .normal)
    {st : ∀ {R : Type}, α → (α → Option R) → (β → Option R) → Option R}
    (hst : ∀ (v : α) (R : Type) (K : Ex → St → Option R), rndk P C L d m0 ks ks2 a (S v) K = st v (fun v' => K .normal (S v')) (fun b => K (E b).1 (E b).2)) {R : Type} (k : Ex → St → Option R) :
    ∀ (n : Nat) (v : α), lapk (codek P C L d a) (clean ks m0) (clean ks2 m0) n (S v) k = iterk (st (R := R)) n v fun b => k (E b).1 (E b).2
  | 0, _ => rfl
  | n + 1, v => by
    have h := hst v R fun e s => match e with
      | .normal => lapk (codek P C L d a) (clean ks m0) (clean ks2 m0) n s k
      | .exit id => k (.exit id) s
      | .ret => k .ret s
    simp only [iterk, lapk]
    have e1 : (fun v' => iterk (st (R := R)) n v' fun b => k (E b).1 (E b).2) = fun v' => lapk (codek P C L d a) (clean ks m0) (clean ks2 m0) n (S v') k := funext fun v' => (lap_iter hE hst k n v').symm
    rw [e1]
    refine Eq.trans ?_ (h.trans ?_)
    · unfold rndk
      congr 1
    · congr 1
      funext b
      cases hb : (E b).1 with
      | normal => exact absurd hb (hE b)
      | _ => rfl
theorem loop_ok {P : Program} {C : Orc} (hC : OrcOk P C) (hmx : P.follows .mixedOrders = true) {L : Lps} {d m0 : Nat} {ks ks2 : List Nat} {a : Code} (hL : LoopsOk P L m0 d a) {α β : Type} {S : α → St} {E : β → Ex × St} (hE : ∀ b, (E b).1 ≠ .normal)
    {st : ∀ {R : Type}, α → (α → Option R) → (β → Option R) → Option R}
    (hst : ∀ (v : α) (R : Type) (K : Ex → St → Option R), rndk P C L d m0 ks ks2 a (S v) K = st v (fun v' => K .normal (S v')) (fun b => K (E b).1 (E b).2))
    {f : St → LTr} (hf : ∀ s e s', (f s).val = some (e, s') → oks s.t → hok s.h → ∃ (v : α) (b : β) (n : Nat), Wk P m0 s (S v) ∧ E b = (e, s') ∧ ∀ (R : Type) (ko : β → Option R), iterk (st (R := R)) n v ko = ko b) : LoopOk P m0 a fun s => f (clean ks m0 s) := by
  intro x0 x s act e s' hP hg1 hm0 hs hv Q hQ
  subst hP
  obtain ⟨z0, hz0w, hz0⟩ := clean_ok hg1 hm0 ks hs
  obtain ⟨v, b, n, hwk, hEb, hit⟩ := hf _ e s' hv hz0.ot hz0.oh
  obtain ⟨z, hzw, hz⟩ := hwk x0 z0 act rfl hg1 hm0 hz0
  rw [← hz0w, ← hzw]
  refine wp_loop_rounds n ?_
  have key : ∀ (n : Nat) (s : St) (z : Cx) (act : Act), SR x0 z s act → lapk (codek x0.P C L d a) (clean ks m0) (clean ks2 m0) n s (fun e s => some (e, s)) = some (e, s') → Code.rounds x0.P a Q n act z.w := by
    intro n
    induction n with
    | zero => intro s z act _ h; simp [lapk] at h
    | succ n ih =>
      intro s z act hz h
      simp only [lapk] at h
      rw [rounds_succ]
      refine codek_ok hC hmx hg1 hm0 a d hL z s act _ _ hz h ?_
      intro e2 y s2 a' hs' hk
      cases e2 with
      | normal =>
        obtain ⟨y', hy1, hy2⟩ := clean_ok hg1 hm0 ks hs'
        have := ih _ y' a' hy2 hk
        rw [hy1] at this
        exact this
      | exit id =>
        obtain ⟨y', hy1, hy2⟩ := clean_ok hg1 hm0 ks2 hs'
        simp only [Option.some.injEq, Prod.mk.injEq] at hk
        obtain ⟨rfl, rfl⟩ := hk
        have := hQ y' a' hy2
        rw [hy1] at this
        exact this
      | ret =>
        obtain ⟨y', hy1, hy2⟩ := clean_ok hg1 hm0 ks2 hs'
        simp only [Option.some.injEq, Prod.mk.injEq] at hk
        obtain ⟨rfl, rfl⟩ := hk
        have := hQ y' a' hy2
        rw [hy1] at this
        exact this
  refine key n (S v) z act hz ?_
  rw [lap_iter hE hst, hit, hEb]
def frA (ps : List (Nat × V)) : Nat → Nat → List V
  | 0, _ => []
  | n + 1, j => look j ps :: frA ps n (j + 1)
where look (j : Nat) : List (Nat × V) → V
  | [] => .u
  | (i, c) :: l => match Nat.beq i j with
    | true => c
    | false => look j l
def fr (n : Nat) (ps : List (Nat × V)) : List V := frA ps n 0
theorem look_ok {x : Cx} {j : Nat} {v : Value} : ∀ {ps : List (Nat × V)}, (∀ p ∈ ps, p.1 = j → VR x p.2 v) → VR x (frA.look j ps) v
  | [], _ => trivial
  | (i, c) :: l, h => by
    simp only [frA.look]
    split
    · rename_i hb; exact h (i, c) (by simp) (Nat.eq_of_beq_eq_true hb)
    · exact look_ok fun p hp => h p (List.mem_cons_of_mem _ hp)
theorem ok_look {j : Nat} : ∀ {ps : List (Nat × V)}, (∀ p ∈ ps, p.2.ok) → (frA.look j ps).ok
  | [], _ => trivial
  | (i, c) :: l, h => by
    simp only [frA.look]
    split
    · exact h (i, c) (by simp)
    · exact ok_look fun p hp => h p (List.mem_cons_of_mem _ hp)
theorem fr_ok {x : Cx} {ps : List (Nat × V)} : ∀ (l : List Value) (j : Nat), (∀ p ∈ ps, ∀ v, j ≤ p.1 → l[p.1 - j]? = some v → VR x p.2 v) → VRs x (frA ps l.length j) l
  | [], _, _ => rfl
  | v :: l, j, h => by
    refine ⟨v, l, rfl, look_ok fun p hp hj => h p hp v (by omega) (by rw [hj]; simp), fr_ok l (j + 1) fun p hp u hj hu => h p hp u (by omega) ?_⟩
    rw [show p.1 - j = (p.1 - (j + 1)) + 1 by omega]
    simpa using hu
theorem ok_fr {ps : List (Nat × V)} (h : ∀ p ∈ ps, p.2.ok) : ∀ (n j : Nat), oks (frA ps n j)
  | 0, _ => trivial
  | n + 1, j => ⟨ok_look h, ok_fr h n (j + 1)⟩
theorem wk_same {P : Program} {m0 n : Nat} {s : St} {ps : List (Nat × V)} (hn : s.t.length = n) (h : ∀ p ∈ ps, s.t.getD p.1 .u = p.2) : Wk P m0 s ⟨fr n ps, s.h⟩ := by
  intro x0 x act hP hg1 hm0 hs
  refine ⟨x, rfl, hs.hr, hs.h, ?_, hs.P, hs.to, hs.d, ok_fr (fun p hp => by rw [← h p hp]; exact hs.ot.getD _) n 0, hs.oh⟩
  have hl := hs.t.length
  have := fr_ok (x := x) (ps := ps) act.tmps.toList 0 (fun p hp v _ hv => by
    rw [Nat.sub_zero] at hv
    have hlt : p.1 < s.t.length := by have := (List.getElem?_eq_some_iff.1 hv).1; omega
    obtain ⟨u, h1, h2⟩ := hs.t.get p.1 _ (List.getElem?_eq_getElem hlt)
    rw [hv] at h1; injection h1 with h1; subst h1
    have := h p hp
    rw [List.getD_eq_getElem?_getD, List.getElem?_eq_getElem hlt] at this
    rw [← this]; exact h2)
  rw [hl, hn] at this
  exact this
end Go.Proofs.Ytcpicekmnkjceaa.VI

namespace Go.Proofs.Ytcpicekmnkjceaa.VI
set_option linter.unusedVariables false
set_option linter.unusedSimpArgs false
set_option linter.unusedSimpArgs false
set_option linter.unusedVariables false
set_option linter.unusedSectionVars false
def allIn (K : List Nat) : List Nat → Bool
  | [] => true
  | n :: l => match memN n K with
    | true => allIn K l
    | false => false
def fzk (P : Program) (h : Heap) (σ : Rn) (K : List Nat) (res : Bool) (t : TypeId) (c : V) : Option (V × List Nat) := match hv c with
  | [] => match res with
    | true => fzc P h 6 t c
    | false => some (rn σ c, [])
  | ids => match allIn K ids with
    | true => some (rn σ c, [])
    | false => fzc P h 6 t c
def fzkv (P : Program) (h : Heap) (σ : Rn) (K : List Nat) (t : TypeId) : V → Option (V × List Nat)
  | .agg cs => match fzl (fzk P h σ K true) (leaves P 8 t) (leaves P 8 t) cs with
    | some (ds, ids) => some (.agg ds, ids)
    | none => none
  | c => fzk P h σ K true t c
def vres1 (P : Program) (s : St) : ResultVar → Option V
  | .tmp n => some (s.t.getD n .u)
  | .cell a t => vloadAt P s.h t (s.t.getD a .u)
def vress (P : Program) (s : St) : List ResultVar → Option (List V)
  | [] => some []
  | r :: rs => match vres1 P s r with
    | some c => match vress P s rs with
      | some cs => some (c :: cs)
      | none => none
    | none => none
def finrs (P : Program) (h : Heap) (σ : Rn) (K : List Nat) : List V → List TypeId → Option (List V × List Nat)
  | [], [] => some ([], [])
  | c :: cs, t :: ts => match fzkv P h σ K t c with
    | some (d, i) => match finrs P h σ K cs ts with
      | some (ds, is) => some (d :: ds, i ++ is)
      | none => none
    | none => none
  | _, _ => none
def finD (P : Program) (h : Heap) (σ : Rn) (K : List Nat) (e : TypeId) : D → Option (D × List Nat)
  | .list cs => match fzl (fzk P h σ K false) (leaves P 8 e) (leaves P 8 e) cs with
    | some (ds, ids) => some (.list ds, ids)
    | none => none
  | d => some (d, [])
def finB (P : Program) (h : Heap) (σ : Rn) (K : List Nat) (m0 : Nat) : Nat → List Nat → Option (Heap × List Nat)
  | _, [] => some ([], [])
  | j, id :: l => match h[id]? with
    | some b => match b.gen with
      | 0 => match finB P h σ K m0 (j + 1) l with
        | some (H, is) => some (⟨0, b.elem, .list [], true⟩ :: H, is)
        | none => none
      | g + 1 => match finD P h σ K b.elem b.d with
        | some (d, i) => match finB P h σ K m0 (j + 1) l with
          | some (H, is) => some (⟨fgen m0 j (g + 1), b.elem, nrmD d, b.wr⟩ :: H, i ++ is)
          | none => none
        | none => none
    | none => none
def fink {R : Type} (P : Program) (kp : Bool) (m0 : Nat) (fn : Func) (s : St) (k : V → Heap → Option R) : Option R :=
  match vress P s fn.results.toList with
  | some rs => match keeps kp m0 s.h rs with
    | K => match nodupB K with
      | true => match finrs P s.h (sigf m0 s.h K) K rs fn.resultTypes.toList with
        | some (ds, i1) => match finB P s.h (sigf m0 s.h K) K m0 0 K with
          | some (H, i2) => match disj (i1 ++ i2) K with
            | true => match ds with
              | [] => k (.tup []) H
              | [r] => k r H
              | a :: b :: l => k (.tup (a :: b :: l)) H
            | false => none
          | none => none
        | none => none
      | false => none
  | none => none
def runk {R : Type} (P : Program) (C : Orc) (L : Lps) (kp : Bool) (fn : Func) (c : Code) (args : List V) (hc : Heap) (k : V → Heap → Option R) : Option R :=
  match gens1 hc with
  | true => frL (args ++ List.replicate (fn.ntmps - args.length) .u) fun t => frH hc fun h => codek P C L 0 c ⟨t, h⟩ fun e s => match e with
    | .normal => fink P kp hc.length fn s k
    | .ret => fink P kp hc.length fn s k
    | .exit _ => none
  | false => none
theorem vres1_ok {x : Cx} (hx : HR x) {s : St} {a : Act} (hh : x.h = s.h) (ht : VRs x s.t a.tmps.toList) {r : ResultVar} {c : V} (h : vres1 x.P s r = some c) :
    ∃ v, (match r with | .tmp t => pure (a.tmps.getD t undef) | .cell d t => do loadVar t (← asAddr (a.tmps.getD d undef)) : Sem Value).run x.P x.w = .ok v x.w ∧ VR x c v := by
  cases r with
  | tmp n =>
    simp only [vres1, Option.some.injEq] at h; subst h
    exact ⟨_, rfl, VR_ev ht (.tmp n)⟩
  | cell d t =>
    simp only [vres1] at h
    have hv := VR_ev ht (.tmp d)
    rw [← hh] at h
    obtain ⟨z, h1, h2⟩ := vloadAt_ok hx h hv
    refine ⟨z, ?_, h2⟩
    have e : a.eval (.tmp d) = a.tmps.getD d undef := rfl
    rw [e] at h1
    simp only [Instr.loadAt, Instr.sureAddr, Sem.run_bind] at h1
    simp only [asAddr, Sem.run_bind]
    generalize a.tmps.getD d undef = u at *
    cases u with
    | pointer p => cases p with
      | none => simp [stuck] at h1
      | some ad => simpa using h1
    | _ => simp [stuck] at h1
theorem vress_ok {x : Cx} (hx : HR x) {s : St} {a : Act} (hh : x.h = s.h) (ht : VRs x s.t a.tmps.toList) (ho : oks s.t) (hho : hok s.h) :
    ∀ (rs : List ResultVar) (cs : List V), vress x.P s rs = some cs → oks cs ∧ ∃ l : List Value, (rs.mapM fun r => (match r with | .tmp t => pure (a.tmps.getD t undef) | .cell d t => do loadVar t (← asAddr (a.tmps.getD d undef)) : Sem Value)).run x.P x.w = .ok l x.w ∧ VRs x cs l
  | [], cs, h => by simp [vress] at h; subst h; exact ⟨trivial, [], rfl, rfl⟩
  | r :: rs, cs, h => by
    simp only [vress] at h
    split at h
    · rename_i c hc
      split at h
      · rename_i ds hds
        simp only [Option.some.injEq] at h; subst h
        obtain ⟨v, h1, h2⟩ := vres1_ok hx hh ht hc
        obtain ⟨k0, l, k1, k2⟩ := vress_ok hx hh ht ho hho rs ds hds
        refine ⟨⟨?_, k0⟩, v :: l, ?_, v, l, rfl, h2, k2⟩
        · cases r with
          | tmp n => simp only [vres1, Option.some.injEq] at hc; subst hc; exact ho.getD _
          | cell d t => simp only [vres1] at hc; exact ok_loadAt hc hho (ho.getD _)
        · rw [List.mapM_cons]
          simp only [Sem.run_bind, h1, Result.andThen_ok, k1, Sem.run_pure]
      · cases h
    · cases h
section
variable {y z : Cx} (hy : HR y) {σ : Rn} {K : List Nat} (hR : Rl σ y z) (hav : ∀ n, z.av n → y.av n)
def Out (y z : Cx) (i : List Nat) : Prop := ∀ id ∈ i, ∀ b, y.h[id]? = some b → y.lv id b → ¬ z.av (y.ρ id)
theorem Out.app {y z : Cx} {a b : List Nat} (h : Out y z (a ++ b)) : Out y z a ∧ Out y z b := ⟨fun id hid => h id (List.mem_append_left _ hid), fun id hid => h id (List.mem_append_right _ hid)⟩
include hy hR hav
theorem fin_bare : Mono y.bare z.bare := bareR hR.P hR.w fun n _ h1 h2 => h1 (hav n h2)
theorem fin_out {t : TypeId} {c r : V} {i : List Nat} (h : fzc y.P y.h 6 t c = some (r, i)) (hi : Out y z i) {v : Value} (hv : VR y c v) : VR z r v := by
  have := fzc_ok (av := z.av) hy hav 6 t c r i h hi v hv
  have hm : Mono (y.out z.av) z := ⟨hR.P, fun id b hb => by simp [Cx.out] at hb, fun n _ hn => ⟨hn, by rw [hR.w]; rfl⟩, by rw [hR.w]; exact Nat.le_refl _⟩
  exact this.mono hm
theorem fzk_ok {res : Bool} {t : TypeId} {c r : V} {i : List Nat} (h : fzk y.P y.h σ K res t c = some (r, i)) (hi : Out y z i) (v : Value) (hv : VR y c v) : VR z r v := by
  have hrn : VR z (rn σ c) v := rn_ok hR c v (.inr (fin_bare hy hR hav)) hv
  unfold fzk at h
  split at h
  · split at h
    · exact fin_out hy hR hav h hi hv
    · simp only [Option.some.injEq, Prod.mk.injEq] at h; obtain ⟨rfl, _⟩ := h; exact hrn
  · split at h
    · simp only [Option.some.injEq, Prod.mk.injEq] at h; obtain ⟨rfl, _⟩ := h; exact hrn
    · exact fin_out hy hR hav h hi hv
theorem fzkv_ok {t : TypeId} {c r : V} {i : List Nat} (h : fzkv y.P y.h σ K t c = some (r, i)) (hi : Out y z i) {v : Value} (hv : VR y c v) : VR z r v := by
  unfold fzkv at h
  split at h
  · split at h
    · rename_i ds ids hf
      simp only [Option.some.injEq, Prod.mk.injEq] at h; obtain ⟨rfl, rfl⟩ := h
      obtain ⟨l, rfl, hl⟩ := hv
      exact ⟨l, rfl, fzl_ok (S := Out y z) (fun a b h => h.app) (fun t c r i e s => fzk_ok hy hR hav e s) _ _ _ _ _ hf hi l hl⟩
    · cases h
  · exact fzk_ok hy hR hav h hi v hv
theorem finrs_ok : ∀ (cs : List V) (ts : List TypeId) (ds : List V) (i : List Nat), finrs y.P y.h σ K cs ts = some (ds, i) → Out y z i → ∀ l, VRs y cs l → VRs z ds l
  | [], [], ds, i, h, _, l, hl => by simp [finrs] at h; obtain ⟨rfl, rfl⟩ := h; exact hl
  | [], _ :: _, _, _, h, _, _, _ => by simp [finrs] at h
  | _ :: _, [], _, _, h, _, _, _ => by simp [finrs] at h
  | c :: cs, t :: ts, ds, i, h, hi, l, hl => by
    obtain ⟨v, vs, rfl, h1, h2⟩ := hl
    simp only [finrs] at h
    split at h
    · rename_i d i1 hd
      split at h
      · rename_i ds' i2 hds
        simp only [Option.some.injEq, Prod.mk.injEq] at h; obtain ⟨rfl, rfl⟩ := h
        exact ⟨v, vs, rfl, fzkv_ok hy hR hav hd hi.app.1 h1, finrs_ok cs ts ds' i2 hds hi.app.2 vs h2⟩
      · cases h
    · cases h
theorem finD_ok {e : TypeId} {d d' : D} {i : List Nat} (h : finD y.P y.h σ K e d = some (d', i)) (hi : Out y z i) {l : List Value} (hv : VRs y d.toV l) (hg : good y d l) : VRs z d'.toV l ∧ good z d' l := by
  unfold finD at h
  split at h
  · split at h
    · rename_i ds ids hf
      simp only [Option.some.injEq, Prod.mk.injEq] at h; obtain ⟨rfl, rfl⟩ := h
      exact ⟨fzl_ok (S := Out y z) (fun a b h => h.app) (fun t c r i e s => fzk_ok hy hR hav e s) _ _ _ _ _ hf hi l hv, trivial⟩
    · cases h
  · rename_i hno
    simp only [Option.some.injEq, Prod.mk.injEq] at h; obtain ⟨rfl, rfl⟩ := h
    have := rnD_ok hR (.inr (fin_bare hy hR hav)) hv hg
    cases d with
    | list cs => exact absurd rfl (hno cs)
    | ints k xs => exact this
    | recs n s g => exact this
end
theorem fzk_okk {P : Program} {h : Heap} {σ : Rn} {K : List Nat} (hh : hok h) {res : Bool} {t : TypeId} {c r : V} {i : List Nat} (e : fzk P h σ K res t c = some (r, i)) (hc : c.ok) : r.ok := by
  unfold fzk at e
  split at e
  · split at e
    · exact ok_fzc hh 6 _ _ _ _ e hc
    · simp only [Option.some.injEq, Prod.mk.injEq] at e; obtain ⟨rfl, _⟩ := e; exact ok_rn _ _ hc
  · split at e
    · simp only [Option.some.injEq, Prod.mk.injEq] at e; obtain ⟨rfl, _⟩ := e; exact ok_rn _ _ hc
    · exact ok_fzc hh 6 _ _ _ _ e hc
theorem finrs_okk {P : Program} {h : Heap} {σ : Rn} {K : List Nat} (hh : hok h) : ∀ (cs : List V) (ts : List TypeId) (ds : List V) (i : List Nat), finrs P h σ K cs ts = some (ds, i) → oks cs → oks ds
  | [], [], ds, i, e, _ => by simp [finrs] at e; obtain ⟨rfl, rfl⟩ := e; trivial
  | [], _ :: _, _, _, e, _ => by simp [finrs] at e
  | _ :: _, [], _, _, e, _ => by simp [finrs] at e
  | c :: cs, t :: ts, ds, i, e, ho => by
    simp only [finrs] at e
    split at e
    · rename_i d i1 hd
      split at e
      · rename_i ds' i2 hds
        simp only [Option.some.injEq, Prod.mk.injEq] at e; obtain ⟨rfl, rfl⟩ := e
        refine ⟨?_, finrs_okk hh cs ts ds' i2 hds ho.2⟩
        unfold fzkv at hd
        split at hd
        · split at hd
          · rename_i hf
            simp only [Option.some.injEq, Prod.mk.injEq] at hd; obtain ⟨rfl, rfl⟩ := hd
            exact ok_fzl (fun t c r i e h => fzk_okk hh e h) _ _ _ _ _ hf ho.1
          · cases hd
        · exact fzk_okk hh hd ho.1
      · cases e
    · cases e
theorem finB_get {P : Program} {h : Heap} {σ : Rn} {K : List Nat} {m0 : Nat} : ∀ (l : List Nat) (j : Nat) (H : Heap) (i : List Nat), finB P h σ K m0 j l = some (H, i) → H.length = l.length ∧ ∀ (m id : Nat), l[m]? = some id → ∃ (b c : Blk), h[id]? = some b ∧ H[m]? = some c ∧
      ((b.gen = 0 ∧ c = ⟨0, b.elem, .list [], true⟩) ∨ (0 < b.gen ∧ ∃ d i', finD P h σ K b.elem b.d = some (d, i') ∧ (∀ a ∈ i', a ∈ i) ∧ c = ⟨fgen m0 (j + m) b.gen, b.elem, nrmD d, b.wr⟩))
  | [], j, H, i, e => by simp [finB] at e; obtain ⟨rfl, rfl⟩ := e; exact ⟨rfl, fun m id h => by simp at h⟩
  | id :: l, j, H, i, e => by
    simp only [finB] at e
    split at e
    case h_2 => cases e
    rename_i b hb
    split at e
    · rename_i hg
      split at e
      · rename_i H' is hrec
        simp only [Option.some.injEq, Prod.mk.injEq] at e; obtain ⟨rfl, rfl⟩ := e
        obtain ⟨q1, q2⟩ := finB_get l (j + 1) H' is hrec
        refine ⟨by simp [q1], fun m id' hm => ?_⟩
        cases m with
        | zero => simp at hm; subst hm; exact ⟨b, _, hb, rfl, .inl ⟨hg, rfl⟩⟩
        | succ m =>
          obtain ⟨b', c, p1, p2, p3⟩ := q2 m id' (by simpa using hm)
          refine ⟨b', c, p1, by simpa using p2, p3.imp (fun z => z) ?_⟩
          rintro ⟨r0, d, i', r1, r2, r3⟩
          exact ⟨r0, d, i', r1, r2, by rw [show j + (m + 1) = j + 1 + m by omega]; exact r3⟩
      · cases e
    · rename_i g hg
      split at e
      case h_2 => cases e
      rename_i d i1 hd
      split at e
      · rename_i H' is hrec
        simp only [Option.some.injEq, Prod.mk.injEq] at e; obtain ⟨rfl, rfl⟩ := e
        obtain ⟨q1, q2⟩ := finB_get l (j + 1) H' is hrec
        refine ⟨by simp [q1], fun m id' hm => ?_⟩
        cases m with
        | zero => simp at hm; subst hm; exact ⟨b, _, hb, rfl, .inr ⟨by omega, d, i1, hd, fun a ha => List.mem_append_left _ ha, by rw [hg]; rfl⟩⟩
        | succ m =>
          obtain ⟨b', c, p1, p2, p3⟩ := q2 m id' (by simpa using hm)
          refine ⟨b', c, p1, by simpa using p2, p3.imp (fun z => z) ?_⟩
          rintro ⟨r0, d, i', r1, r2, r3⟩
          exact ⟨r0, d, i', r1, fun a ha => List.mem_append_right _ (r2 a ha), by rw [show j + (m + 1) = j + 1 + m by omega]; exact r3⟩
      · cases e
theorem fzl_len {f : TypeId → V → Option (V × List Nat)} (all : List TypeId) : ∀ (ts : List TypeId) (cs rs : List V) (i : List Nat), fzl f all ts cs = some (rs, i) → rs.length = cs.length
  | _, [], rs, i, h => by simp [fzl] at h; obtain ⟨rfl, rfl⟩ := h; rfl
  | [], c :: cs, rs, i, h => by
    simp only [fzl] at h
    cases all with
    | nil => simp at h
    | cons t ts =>
      simp only at h
      split at h
      · rename_i e2
        simp only [Option.some.injEq, Prod.mk.injEq] at h; obtain ⟨rfl, rfl⟩ := h
        simp [fzl_len (t :: ts) ts cs _ _ e2]
      · cases h
  | t :: ts, c :: cs, rs, i, h => by
    simp only [fzl] at h
    split at h
    · rename_i e2
      simp only [Option.some.injEq, Prod.mk.injEq] at h; obtain ⟨rfl, rfl⟩ := h
      simp [fzl_len all ts cs _ _ e2]
    · cases h
theorem end_ok {x y : Cx} (h1 : gens1 x.h = true) {s : St} {a : Act} (hs : SR x y s a) {kp : Bool} {K : List Nat} {rs : List V} (hK : keeps kp x.h.length s.h rs = K) (hnd : nodupB K = true) {H : Heap} {i1 i2 : List Nat} (hB : finB x.P s.h (sigf x.h.length s.h K) K x.h.length 0 K = some (H, i2)) (hdj : disj (i1 ++ i2) K = true) :
    ∃ z : Cx, z.w = y.w ∧ z.h = H ∧ z.P = x.P ∧ To x z ∧ hok H ∧ Rl (sigf x.h.length s.h K) y z ∧ (∀ n, z.av n → y.av n) ∧ Out y z i1 := by
  have hnd := nodupB_spec hnd
  obtain ⟨hlen, hget⟩ := finB_get _ _ _ _ hB
  have hyh := hs.h
  generalize hm0 : x.h.length = m0 at *
  let z : Cx := { P := y.P, w := y.w, h := H, ρ := fun j => y.ρ (K.getD j 0), ph := fun j => y.ph (K.getD j 0), av := fun n => y.av n ∧ ¬ ∃ id b, id ∉ K ∧ y.h[id]? = some b ∧ y.lv id b ∧ y.ρ id = n }
  have hav : ∀ n, z.av n → y.av n := fun n h => h.1
  have getD : ∀ j id, K[j]? = some id → K.getD j 0 = id := fun j id h => by rw [List.getD_eq_getElem?_getD, h]; rfl
  have zget : ∀ j c, z.h[j]? = some c → z.lv j c → ∃ (id : Nat) (b : Blk), K[j]? = some id ∧ y.h[id]? = some b ∧ y.lv id b ∧ z.ρ j = y.ρ id ∧ c.elem = b.elem ∧ c.wr = b.wr ∧ c.gen = fgen m0 j b.gen ∧ ∃ d' i', finD x.P s.h (sigf m0 s.h K) K b.elem b.d = some (d', i') ∧ (∀ a ∈ i', a ∈ i2) ∧ c.d = nrmD d' := by
    intro j c hc hl
    have hj : j < K.length := by rw [← hlen]; exact (List.getElem?_eq_some_iff.1 hc).1
    obtain ⟨b, c', q1, q2, q3⟩ := hget j _ (List.getElem?_eq_getElem hj)
    have hc' : H[j]? = some c := hc
    rw [q2] at hc'; injection hc' with hc'; subst hc'
    have hid := List.getElem?_eq_getElem hj
    rcases q3 with ⟨r0, r1⟩ | ⟨r0, d, i', r1, r2, r3⟩
    · subst r1; exact absurd hl.1 (by simp)
    · subst r3
      refine ⟨_, b, hid, by rw [hyh]; exact q1, ⟨r0, ?_⟩, ?_, rfl, rfl, by simp, d, i', r1, r2, rfl⟩
      · have := hl.2; simp only [z, getD j _ hid] at this; exact this
      · simp only [z, getD j _ hid]
  have hout : ∀ i, (∀ a ∈ i, a ∈ i1 ++ i2) → Out y z i := fun i hi id hid b hb hl hz => hz.2 ⟨id, b, disj_spec hdj id (hi id hid), hb, hl, rfl⟩
  have hRl : Rl (sigf m0 s.h K) y z := by
    refine ⟨rfl, rfl, fun id g i k hq => ?_⟩
    unfold sigf at hq
    split at hq
    case h_2 => cases hq
    rename_i hcur
    split at hq
    case h_2 => cases hq
    rename_i j hj
    simp only [Option.some.injEq, Prod.mk.injEq] at hq
    obtain ⟨rfl, rfl⟩ := hq
    obtain ⟨_, hj⟩ := posN_spec hj
    rw [Nat.sub_zero] at hj
    obtain ⟨b, c, q1, q2, q3⟩ := hget j id hj
    unfold cur at hcur
    rw [q1] at hcur
    simp only [Bool.and_eq_true, beq_iff_eq, decide_eq_true_eq] at hcur
    rcases q3 with ⟨r0, r1⟩ | ⟨r0, d, i', r1, r2, r3⟩
    · omega
    · refine ⟨b, c, by rw [hyh]; exact q1, hcur.1, hcur.2, q2, by rw [r3, hcur.1]; simp, fgen_pos.2 hcur.2, ?_, fun hp => ?_⟩
      · rw [r3]
        simp only [Blk.cs, nrmD_toV]
        unfold finD at r1
        split at r1
        · rename_i hd
          split at r1
          · rename_i ds ids hf
            simp only [Option.some.injEq, Prod.mk.injEq] at r1; obtain ⟨rfl, rfl⟩ := r1
            rw [hd]
            exact Nat.le_of_eq (fzl_len _ _ _ _ _ hf).symm
          · cases r1
        · simp only [Option.some.injEq, Prod.mk.injEq] at r1; obtain ⟨rfl, rfl⟩ := r1; exact Nat.le_refl _
      · simp only [z, getD j id hj]; exact ⟨hp, trivial⟩
  have own : ∀ n, z.own n → y.own n ∧ ∃ (j id : Nat) (b : Blk), K[j]? = some id ∧ y.h[id]? = some b ∧ y.lv id b ∧ y.ρ id = n := by
    rintro n ⟨j, c, q1, q2, q3, q4⟩
    obtain ⟨id, b, r1, r2, r3, r4, r5, r6, _⟩ := zget j c q1 q2
    exact ⟨⟨id, b, r2, r3, by rw [← r6]; exact q3, by rw [← r4]; exact q4⟩, j, id, b, r1, r2, r3, by rw [← r4]; exact q4⟩
  have hr : HR z := by
    refine ⟨fun j c hj hl => ?_, fun i j c d hi hl hj hl' hρ => ?_, fun n hn => ?_, fun n hn => hs.hr.avlt n hn.1, fun j c hj hl => ?_⟩
    · obtain ⟨id, b, r1, r2, r3, r4, r5, r6, r7, d', i', r8, r9, r10⟩ := zget j c hj hl
      obtain ⟨cs, lo, hi', k1, k2, k3, k4, k5⟩ := hs.hr.blk id b r2 r3
      rw [← hyh, ← hs.P] at r8
      rw [← hyh] at hRl
      obtain ⟨p1, p2⟩ := finD_ok hs.hr hRl hav r8 (hout _ fun a ha => List.mem_append_right _ (r9 a ha)) k3 k5
      have hlen' : d'.toV.length = b.cs.length := by
        have e1 := p1.length; have e2 := k3.length
        omega
      refine ⟨cs, lo, hi', by rw [r4, r5]; exact k1, k2, ?_, k4, ?_⟩
      · simp only [Blk.cs, r10, nrmD_toV, hlen']; exact p1
      · simp only [Blk.cs, r10, nrmD_toV, hlen']; exact nrmD_good p2
    · obtain ⟨id, b, r1, r2, r3, r4, _⟩ := zget i c hi hl
      obtain ⟨id', b', r1', r2', r3', r4', _⟩ := zget j d hj hl'
      rw [r4, r4'] at hρ
      have e := hs.hr.inj id id' b b' r2 r3 r2' r3' hρ
      subst e
      obtain ⟨p1, p2⟩ := List.getElem?_eq_some_iff.1 r1
      obtain ⟨p1', p2'⟩ := List.getElem?_eq_some_iff.1 r1'
      exact (List.getElem_inj hnd).1 (p2.trans p2'.symm)
    · obtain ⟨q1, j, id, b, q2, q3, q4, q5⟩ := own n hn
      refine ⟨hs.hr.ownav n q1, ?_⟩
      rintro ⟨id', b', e1, e2, e3, e4⟩
      have := hs.hr.inj id' id b' b e2 e3 q3 q4 (e4.trans q5.symm)
      subst this
      exact e1 (List.mem_of_getElem? q2)
    · obtain ⟨id, b, r1, r2, r3, r4, r5, r6, _⟩ := zget j c hj hl
      rcases hs.hr.safe id b r2 r3 with h | h
      · exact .inl (by rw [r6]; exact h)
      · exact .inr fun hz => h (by rw [← r4]; exact hz.1)
  have h2 := hs.to
  have hto : To x z := by
    refine ⟨⟨⟨h2.ext.mono.P, fun i b hb => ?_, fun n hn ha => ⟨fun k => (h2.ext.mono.blocks n hn ha).1 k.1, (h2.ext.mono.blocks n hn ha).2⟩, h2.ext.mono.size⟩, fun n hn ho => ⟨fun k => (h2.ext.heap n hn ho).1 (own n k).1, (h2.ext.heap n hn ho).2⟩, fun n hn ha ho => ⟨h2.ext.keep n hn ha ho, ?_⟩⟩, hr, h2.beside⟩
    · have hil : i < m0 := by rw [← hm0]; exact (List.getElem?_eq_some_iff.1 hb).1
      have hg1 := gens1_spec h1 b (List.mem_of_getElem? hb)
      obtain ⟨b', k1, k2, k3⟩ := h2.ext.mono.gens i b hb
      have hKi : K[i]? = some i := by rw [← hK]; exact keeps_low hil
      obtain ⟨b2, c, q1, q2, q3⟩ := hget i i hKi
      rw [← hyh, k1] at q1
      injection q1 with q1; subst q1
      rcases q3 with ⟨r0, r1⟩ | ⟨r0, d, i', r1, r2, r3⟩
      · omega
      · refine ⟨c, q2, ?_, fun he hl => ?_⟩
        · have := fgen_pos (m0 := m0) (j := 0 + i) (g := b'.gen)
          rw [r3]
          show b.gen ≤ fgen m0 (0 + i) b'.gen
          omega
        · rw [r3] at he
          have he : b.gen = fgen m0 (0 + i) b'.gen := he
          have : b'.gen = 1 := by
            unfold fgen at he
            split at he
            · omega
            · assumption
            · rw [Nat.zero_add, show Nat.blt i m0 = true from Nat.ble_eq_true_of_le hil] at he
              simp only at he
              omega
          obtain ⟨q1', q2', q3', q4'⟩ := k3 (by omega) hl
          have hD := getD i i hKi
          refine ⟨?_, ?_, ?_, ?_⟩
          · simp only [z, hD]; exact q1'
          · simp only [z, hD]; exact q2'
          · simp only [z, hD]; exact q3'
          · obtain ⟨_, _, e1, _, _, e2, _, _, e3, _⟩ := hRl.at_ i b'.gen i (fgen m0 i b'.gen) (by
              unfold sigf cur
              rw [← hyh, k1]
              have : decide (0 < b'.gen) = true := by simpa using r0
              simp only [beq_self_eq_true, this, Bool.and_self]
              cases hp : posN i 0 K with
              | none => exact absurd hp (by rw [← hK]; exact posN_keeps hil)
              | some j =>
                obtain ⟨_, hj⟩ := posN_spec hp
                rw [Nat.sub_zero] at hj
                obtain ⟨p1, p2⟩ := List.getElem?_eq_some_iff.1 hj
                obtain ⟨p1', p2'⟩ := List.getElem?_eq_some_iff.1 hKi
                have := (List.getElem_inj hnd).1 (p2.trans p2'.symm)
                subst this
                rfl)
            rw [k1] at e1; injection e1 with e1; subst e1
            rw [show z.h[i]? = some c from q2] at e2; injection e2 with e2; subst e2
            omega
    · rintro ⟨id, b, _, e2, e3, e4⟩
      rcases hs.hr.safe id b e2 e3 with hw | hw
      · exact (h2.ext.heap n hn ho).1 ⟨id, b, e2, e3, hw, e4⟩
      · exact hw (e4 ▸ h2.ext.keep n hn ha ho)
  refine ⟨z, rfl, rfl, hs.P, hto, fun c hc => ?_, hRl, hav, hout _ fun a ha => List.mem_append_left _ ha⟩
  obtain ⟨j, hj⟩ := List.getElem?_of_mem hc
  have hjl : j < K.length := by rw [← hlen]; exact (List.getElem?_eq_some_iff.1 hj).1
  obtain ⟨b, c', q1, q2, q3⟩ := hget j _ (List.getElem?_eq_getElem hjl)
  rw [q2] at hj; injection hj with hj; subst hj
  have hbo := hs.oh b (List.mem_of_getElem? q1)
  rcases q3 with ⟨_, rfl⟩ | ⟨_, d, i', r1, _, rfl⟩
  · trivial
  · show (nrmD d).ok
    refine nrmD_ok ?_
    unfold finD at r1
    split at r1
    · rename_i hd
      split at r1
      · rename_i ds ids hf
        simp only [Option.some.injEq, Prod.mk.injEq] at r1; obtain ⟨rfl, rfl⟩ := r1
        rw [hd] at hbo
        exact ok_fzl (fun t c r i e h => fzk_okk hs.oh e h) _ _ _ _ _ hf hbo
      · cases r1
    · simp only [Option.some.injEq, Prod.mk.injEq] at r1; obtain ⟨rfl, rfl⟩ := r1; exact hbo
end Go.Proofs.Ytcpicekmnkjceaa.VI

namespace Go.Proofs.Ytcpicekmnkjceaa.VI
set_option linter.unusedVariables false
set_option linter.unusedSimpArgs false
set_option linter.unusedSimpArgs false
set_option linter.unusedVariables false
theorem run_ok {P : Program} {R : Type} {C : Orc} (hC : OrcOk P C) (hmx : P.follows .mixedOrders = true) {L : Lps} {kp : Bool} {f : FuncId} {fn : Func} {c : Code} (hf : P.funcs[f]? = some fn) (hb : fn.body = some c) (hn : (fn.name == "runtime.NumGoroutine") = false)
    {args : List V} {hc : Heap} (hL : LoopsOk P L hc.length 0 c) {k : V → Heap → Option R} {res : R} (h : runk P C L kp fn c args hc k = some res) : CallOk P f args hc fun r h' => k r h' = some res := by
  refine ⟨⟨fn, hf, hn, by rw [hb]; rfl⟩, fun x us hP hh hx ha hoa hoh => ?_⟩
  subst hP
  subst hh
  unfold runk at h
  split at h
  case h_2 => cases h
  rename_i hg1
  refine calls_of_wp hf hb ?_
  have hlen := ha.length
  have hs : SR x x ⟨args ++ List.replicate (fn.ntmps - args.length) .u, x.h⟩ { tmps := us.toArray ++ Array.replicate (fn.ntmps - us.toArray.size) undef, defers := [] } := by
    refine ⟨hx, rfl, ?_, rfl, To.refl hx, rfl, hoa.app (oks_us _), hoh⟩
    have : VRs x (List.replicate (fn.ntmps - args.length) .u) (List.replicate (fn.ntmps - args.length) undef) := by
      generalize fn.ntmps - args.length = m
      induction m with
      | zero => rfl
      | succ m ih => exact ⟨undef, _, rfl, trivial, ih⟩
    have := ha.append this
    simpa [hlen] using this
  simp only [frL_eq, frH_eq] at h
  refine codek_ok hC hmx hg1 rfl c 0 hL x _ _ _ _ hs h ?_
  intro e y s a hsr hk
  have fin : fink x.P kp x.h.length fn s k = some res → a.defers = [] ∧ ∃ v, (results fn a.tmps).run x.P y.w = .ok v y.w ∧ ∃ r h' u z, k r h' = some res ∧ r.ok ∧ hok h' ∧ Ending.returned v = .returned u ∧ z.w = y.w ∧ To x z ∧ z.P = x.P ∧ z.h = h' ∧ VR z r u := by
    intro hfin
    refine ⟨hsr.d, ?_⟩
    unfold fink at hfin
    split at hfin
    case h_2 => cases hfin
    rename_i rs hrs
    generalize hKq : keeps kp x.h.length s.h rs = K at hfin
    simp only at hfin
    split at hfin
    case h_2 => cases hfin
    rename_i hnd
    split at hfin
    case h_2 => cases hfin
    rename_i ds i1 hds
    split at hfin
    case h_2 => cases hfin
    rename_i H i2 hH
    split at hfin
    case h_2 => cases hfin
    rename_i hdj
    obtain ⟨z, z1, z2, z3, z4, z5, z6, z7, z8⟩ := end_ok hg1 hsr hKq hnd hH hdj
    rw [← hsr.P] at hrs hds
    obtain ⟨o1, l, l1, l2⟩ := vress_ok (x := y) hsr.hr hsr.h hsr.t hsr.ot hsr.oh _ _ hrs
    rw [← hsr.h] at hds z6
    have hVs := finrs_ok hsr.hr z6 z7 _ _ _ _ hds z8 l l2
    have hok2 := finrs_okk (by rw [hsr.h]; exact hsr.oh) _ _ _ _ hds o1
    rw [hsr.P] at l1
    have main : (fn.results.mapM fun r => (match r with | .tmp t => pure (a.tmps.getD t undef) | .cell d t => do loadVar t (← asAddr (a.tmps.getD d undef)) : Sem Value)).run x.P y.w = .ok l.toArray y.w := by
      rw [Array.mapM_eq_mapM_toList]
      simp only [map_eq_pure_bind, Sem.run_bind, Sem.run_pure]
      erw [l1]
      rfl
    split at hfin
    · have h2 : l = [] := hVs
      subst h2
      refine ⟨.tuple #[], ?_, .tup [], H, _, z, hfin, trivial, z5, rfl, z1, z4, z3, z2, ⟨[], rfl, rfl⟩⟩
      unfold results
      simp only [Sem.run_bind]
      erw [main]
      simp
    · rename_i r
      obtain ⟨v, vs, rfl, h3, h4⟩ := hVs
      have h4 : vs = [] := h4
      subst h4
      refine ⟨v, ?_, r, H, v, z, hfin, hok2.1, z5, rfl, z1, z4, z3, z2, h3⟩
      unfold results
      simp only [Sem.run_bind]
      erw [main]
      simp
    · rename_i p q cs
      have hl := hVs.length
      refine ⟨.tuple l.toArray, ?_, .tup (p :: q :: cs), H, _, z, hfin, hok2, z5, rfl, z1, z4, z3, z2, ⟨l, rfl, hVs⟩⟩
      unfold results
      simp only [Sem.run_bind]
      erw [main]
      simp only [Result.andThen_ok, Sem.run_pure]
      rw [dif_neg (by simp at hl; simp [hl])]
  cases e with
  | normal => exact fin hk
  | ret => exact fin hk
  | exit id => simp at hk
end Go.Proofs.Ytcpicekmnkjceaa.VI

namespace Go.Proofs.Ytcpicekmnkjceaa.VI
set_option linter.unusedVariables false
set_option linter.unusedSimpArgs false
open Go.RowKit
set_option linter.unusedVariables false
def Cx.top (P : Program) (W : World) : Cx := { P := P, w := W, ρ := fun n => n, h := [], av := fun _ => False, ph := fun _ => False }
theorem top_hr (P : Program) (W : World) : HR (Cx.top P W) :=
  ⟨fun id b hb => by simp [Cx.top] at hb, fun i j b b' hi => by simp [Cx.top] at hi, fun n hn => by obtain ⟨j, b, hb, _⟩ := hn; simp [Cx.top] at hb, fun n hn => hn.elim, fun id b hb => by simp [Cx.top] at hb⟩
theorem true_of_call {P : Program} {f : FuncId} {args : List V} (h : CallOk P f args [] fun r _ => r = .b true) {W : World} {us : List Value} (hu : VRs (Cx.top P W) args us) (ho : oks args) :
    Calls P f us.toArray W fun e W' => e = .returned (.bool true) ∧ Below W.heap.size W W' := by
  refine (h.2 (Cx.top P W) us rfl rfl (top_hr P W) hu ho (fun b hb => by cases hb)).mono ?_
  rintro e W' ⟨r, h', u, y, rfl, _, _, rfl, rfl, hto, _, _, hr⟩
  have hr : u = .bool true := hr
  subst hr
  exact ⟨rfl, hto.beside.os, hto.beside.tape, hto.beside.output, hto.ext.mono.size, fun k hk => (hto.ext.heap k hk (by rintro ⟨j, b, hb, _⟩; simp [Cx.top] at hb)).2⟩
theorem run_fn {P : Program} {C : Orc} (hC : OrcOk P C) (hm : P.follows .mixedOrders = true) {L : Lps} {kp : Bool} {f : FuncId} {fn : Func} (hf : P.funcs[f]? = some fn) (hb : fn.body.isSome = true) (hn : (fn.name == "runtime.NumGoroutine") = false)
    {args : List V} {hc : Heap} (hL : LoopsOk P L hc.length 0 (fn.body.getD .skip)) {r : V} {h' : Heap} (h : oks args → hok hc → runk P C L kp fn (fn.body.getD .skip) args hc (fun r h => some (r, h)) = some (r, h')) : CallOk P f args hc fun q k => q = r ∧ k = h' := by
  cases hbd : fn.body with
  | none => rw [hbd] at hb; cases hb
  | some c =>
    rw [hbd] at h hL
    refine ⟨⟨fn, hf, hn, by rw [hbd]; rfl⟩, fun x us h1 h2 h3 h4 h5 h6 => ?_⟩
    exact ((run_ok hC hm hf hbd hn hL (h h5 h6)).mono fun q k e => by simpa using Option.some.inj e).2 x us h1 h2 h3 h4 h5 h6
theorem CallOk.of {P : Program} {f : FuncId} {args : List V} {hc : Heap} {Q : V → Heap → Prop} (he : Enters P f) (h : oks args → hok hc → CallOk P f args hc Q) : CallOk P f args hc Q :=
  ⟨he, fun x us h1 h2 h3 h4 h5 h6 => (h h5 h6).2 x us h1 h2 h3 h4 h5 h6⟩
def ent (f : FuncId) (md : List Bool) (nf : Nat) (spec : List V → Heap → Tr) : Orc := fun g => match Nat.beq g f with
  | true => some ⟨md, nf, spec⟩
  | false => none
def ors (A B : Orc) : Orc := fun g => match A g with
  | none => B g
  | some t => some t
def orn : Orc := fun _ => none
theorem orn_ok (P : Program) : OrcOk P orn := fun _ _ h => by cases h
theorem ors_ok {P : Program} {A B : Orc} (hA : OrcOk P A) (hB : OrcOk P B) : OrcOk P (ors A B) := by
  intro g en h
  unfold ors at h
  cases hA' : A g with
  | none => rw [hA'] at h; exact hB g en h
  | some v => rw [hA'] at h; injection h with h; subst h; exact hA g _ hA'
theorem ent_ok {P : Program} {f : FuncId} {md : List Bool} {nf : Nat} {spec : List V → Heap → Tr} (h : ∀ l hc r h', (spec l hc).val = some (r, h') → oks l → hok hc → CallOk P f l hc fun q k => q = r ∧ k = h') (he : Enters P f) : OrcOk P (ent f md nf spec) := by
  intro g en hen args hc r h' hr
  unfold ent at hen
  cases hb : Nat.beq g f with
  | true =>
    rw [hb] at hen
    have := Nat.eq_of_beq_eq_true hb
    subst this
    injection hen with hen; subst hen
    exact .of he (h args hc r h' hr)
  | false => rw [hb] at hen; cases hen
theorem enters {P : Program} {f : FuncId} {fn : Func} (hf : P.funcs[f]? = some fn) (hn : (fn.name == "runtime.NumGoroutine") = false) (hb : fn.body.isNone = false) : Enters P f := ⟨fn, hf, hn, hb⟩
theorem fn_ok {P : Program} {C : Orc} (hC : OrcOk P C) (hm : P.follows .mixedOrders = true) {L : Lps} {f : FuncId} {fn : Func} (hf : P.funcs[f]? = some fn) (hb : fn.body.isSome = true) (hn : (fn.name == "runtime.NumGoroutine") = false)
    {md : List Bool} {nf : Nat} {kp : Bool} {spec : List V → Heap → Tr} (h : ∀ l hc r h', (spec l hc).val = some (r, h') → oks l → hok hc → LoopsOk P L hc.length 0 (fn.body.getD .skip) ∧ runk P C L kp fn (fn.body.getD .skip) l hc (fun r h => some (r, h)) = some (r, h')) : OrcOk P (ent f md nf spec) :=
  ent_ok (fun l hc r h' hv ho hh => by obtain ⟨h1, h2⟩ := h l hc r h' hv ho hh; exact run_fn hC hm hf hb hn h1 fun _ _ => h2) (enters hf hn (by cases h : fn.body <;> simp_all))
end Go.Proofs.Ytcpicekmnkjceaa.VI

namespace Go.Proofs.Ytcpicekmnkjceaa.VI
set_option linter.unusedVariables false
set_option linter.unusedSimpArgs false
open Go.ChangeShapes Go.WideShapes Go.RowKit Go.WideElems
set_option linter.unusedVariables false
theorem trodAll_below {H : Type} {enc : TypeId × Value → H} {P : Program} (hl : laidOutB P = true) {W W' : World} (hb : Below W.heap.size W W') : ∀ {ts : List TypeId} {vs : List Value} {ds : List (DataW H)} {ps : List MemPlace},
    (ts.all fun t => P.readableRec t && decide (t < P.types.size)) = true → DataW.TrodAll enc P W 0 (fun _ => true) true ts vs ds ps → DataW.TrodAll enc P W' 0 (fun b => decide (b < W.heap.size)) true ts vs ds ps
  | [], [], [], _, _, h => h
  | [], _ :: _, _, _, _, h => h.elim
  | [], [], _ :: _, _, _, h => h.elim
  | _ :: _, [], _, _, _, h => h.elim
  | _ :: _, _ :: _, [], _, _, h => h.elim
  | t :: ts, v :: vs, d :: ds, ps, hr, h => by
    simp only [List.all_cons, Bool.and_eq_true, decide_eq_true_eq] at hr
    obtain ⟨p, q, h1, h2, e⟩ := h
    have hlt : ∀ x ∈ p, x.block < W.heap.size := fun x hx => by
      obtain ⟨n, hn⟩ := h1
      exact DataW.trod_lt n t _ _ hn x hx
    refine ⟨p, q, Trod_stays hl hr.1.1 hr.1.2 h1 (fun x hx => hb.same (hlt x hx)) (fun x hx => by simpa using hlt x hx), trodAll_below hl hb (by simpa using hr.2) h2, e⟩
theorem trodAll_len {H : Type} {enc : TypeId × Value → H} {P : Program} {W : World} {base : Nat} {spare : Nat → Bool} {held : Bool} : ∀ {ts : List TypeId} {vs : List Value} {ds : List (DataW H)} {ps : List MemPlace}, DataW.TrodAll enc P W base spare held ts vs ds ps → ds.length = ts.length
  | [], [], [], _, _ => rfl
  | [], _ :: _, _, _, h => h.elim
  | [], [], _ :: _, _, h => h.elim
  | _ :: _, [], _, _, h => h.elim
  | _ :: _, _ :: _, [], _, h => h.elim
  | t :: ts, v :: vs, d :: ds, ps, h => by
    obtain ⟨p, q, _, h2, _⟩ := h
    simp [trodAll_len h2]
theorem lift_true {H : Type} {enc : TypeId × Value → H} {C : Checked} {os : Os} {f : FuncId} {fn : Func} {s : ChangeSpec} {conds : List PathCond} (own : ownKnob C.prog.godebug = none) (started : os.Started) (hi : C.prog.inits.idxOf? f = none) (hf : C.prog.funcs[f]? = some fn)
    (hw : ∃ (w : World) (tape : Tape) (i : Input), w.os = os ∧ World.Shaped C.prog (w.forCall tape i) ∧ i.vars = [] ∧ Input.okWide C.prog (w.forCall tape i) .any w.heap.size f i ∧ ChangeSpec.pre6 enc C.prog fn s conds false (w.forCall tape i).memory i.args ∧ ({} : Assume).holds C.prog (lone (Frame.enter C.prog f i.args .normal) [] (w.forCall tape i)))
    (hl : laidOutB C.prog = true) {tb : TypeId} (hb : C.prog.underlying tb = some .bool) (hr : fn.resultTypes = #[tb]) (hp : (fn.params.toList.all fun t => C.prog.readableRec t && decide (t < C.prog.types.size)) = true) (hv : s.vars = [])
    (hs : ∀ ds : List (DataW H), ds.length = fn.params.toList.length → s.fn H ds = { results := [.lit (.bool true)], args := ds })
    (hcall : ∀ (W : World) (base : Nat) (args : Array Value) (ds : List (DataW H)) (p : List MemPlace), (∀ (j : Nat) t v, fn.params[j]? = some t → args[j]? = some v → Value.okWide C.prog W .any base t v) →
      DataW.TrodAll enc C.prog W 0 (fun _ => true) true fn.params.toList args.toList ds p → Calls C.prog f args W fun e W' => e = .returned (.bool true) ∧ Below W.heap.size W W') :
    ReturnsInHanded {} C os f .any (ChangeSpec.pre6 enc C.prog fn s conds false) (ChangeSpec.post enc C.prog fn s false true false false) := by
  refine returnsInHanded_of_change_sized own started hi hf hw ?_
  intro W base args ds gs before hval hW hcnd hsz _
  have hW' := hW
  obtain ⟨p, q, hA, hV, rfl, hfz, hnd⟩ := hW
  rw [hv] at hV
  have hg : gs = [] ∧ q = [] := by
    cases gs with
    | nil => exact ⟨rfl, hV⟩
    | cons _ _ => exact hV.elim
  obtain ⟨rfl, rfl⟩ := hg
  refine (hcall W base args ds p hval hA).mono fun e W' ⟨he, bel⟩ => ?_
  subst he
  have hf2 : s.fn H (ds ++ []) = { results := [.lit (.bool true)], args := ds } := by rw [List.append_nil]; exact hs ds (trodAll_len hA)
  refine ⟨_, rfl, ds, [], _, [], p, [], hW', ?_, ?_, ?_, bel.frame _, fun h => by cases h⟩
  · rw [hf2, hr]
    exact trodAll_mk1 (shut_bool hb _)
  · rw [hf2]
    exact trodAll_below hl bel hp hA
  · rw [hf2, hv]; rfl
end Go.Proofs.Ytcpicekmnkjceaa.VI

namespace Go.Proofs.Ytcpicekmnkjceaa.VI
set_option linter.unusedVariables false
set_option linter.unusedSimpArgs false
open Go.ChangeShapes Go.RowKit Go.Deep Go.WideElems Go.WideShapes
set_option linter.unusedVariables false
set_option linter.unusedSimpArgs false
inductive Form where
  | b
  | i (k : IntKind)
  | st
  | ints (k : IntKind)
  | rows (e : Form) (sz : Nat)
  | unit
  | pair (f g : Form)
  | rep (n : Nat) (e : Form)
  | bad
def Form.fine : Form → Bool
  | .bad => false
  | .rows e _ => e.fine
  | .pair f g => f.fine && g.fine
  | .rep _ e => e.fine
  | _ => true
def Form.is1 : Form → Bool
  | .b => true
  | .i _ => true
  | .st => true
  | .ints _ => true
  | .rows _ _ => true
  | _ => false
def formF (P : Program) (f : TypeId → Form) (tot : Nat) : Nat → List Field → Form
  | off, [] => if off = tot then .unit else .bad
  | off, fd :: l => if fd.offset = off then .pair (f fd.type) (formF P f tot (off + P.cellsOf fd.type) l) else .bad
def form (P : Program) : Nat → TypeId → Form
  | 0, _ => .bad
  | d + 1, t => match P.underlying t with
    | some .bool => .b
    | some (.int k) => .i k
    | some .string => .st
    | some (.slice e) => match P.underlying e with
      | some (.int k) => if P.cellsOf e = 1 then .ints k else .bad
      | _ => if P.cellsOf e = 0 then .bad else .rows (form P d e) (P.cellsOf e)
    | some (.struct fs) => formF P (form P d) (P.cellsOf t) 0 fs.toList
    | some (.array n e) => if P.cellsOf t = n * P.cellsOf e then .rep n (form P d e) else .bad
    | _ => .bad
def shp : Form → List V → Prop
  | .b, c => ∃ x, c = [.b x]
  | .i k, c => ∃ n, inR k n ∧ c = [.i k n]
  | .st, c => ∃ xs, (V.st xs).ok ∧ c = [.st xs]
  | .ints k, c => ∃ xs, xs.length ≤ lenM ∧ (∀ e ∈ xs, inR k e) ∧ c = [.si xs.length k xs]
  | .rows e sz, c => ∃ n g, n ≤ lenM ∧ (∀ j, j < n → shp e (g j)) ∧ (∀ j, oks (g j)) ∧ c = [.sr n sz g]
  | .unit, c => c = []
  | .pair f g, c => ∃ c1 c2, shp f c1 ∧ shp g c2 ∧ c = c1 ++ c2
  | .rep n e, c => ∃ l : List (List V), l.length = n ∧ (∀ r ∈ l, shp e r) ∧ c = l.flatten
  | .bad, _ => False
theorem wf_in {k : IntKind} {n : Int} (h : (Lit.int k n).wf = true) : inR k n := by
  simpa [Lit.wf] using h
section
variable {H : Type} {enc : TypeId × Value → H} {P : Program} {W : World} {spare : Nat → Bool} {held : Bool}
def Got (P : Program) (W : World) (F : Form) (cs : List Value) : Prop := ∃ c, shp F c ∧ VRs (Cx.top P W) c cs ∧ oks c ∧ ∀ v ∈ cs, one v = true
theorem vrc_of {x : Cx} {bk : Nat} : ∀ {c : List V} {l : List Value} {off : Nat}, VRs x c l → (∀ i v, l[i]? = some v → x.w.cell? ⟨bk, off + i, none⟩ = some v) → (∀ v ∈ l, one v = true) → VRc x c bk off
  | [], _, _, _, _, _ => trivial
  | c :: cs, _, off, h, hc, h1 => by
    obtain ⟨v, vs, rfl, h2, h3⟩ := h
    refine ⟨⟨v, by have := hc 0 v rfl; rwa [Nat.add_zero] at this, h1 v (by simp), h2⟩, vrc_of h3 (fun i u hu => ?_) fun u hu => h1 u (by simp [hu])⟩
    have := hc (i + 1) u (by simpa using hu)
    rwa [show off + (i + 1) = off + 1 + i by omega] at this
theorem got_nil : Got P W .unit [] := ⟨[], rfl, rfl, trivial, fun v hv => by cases hv⟩
theorem Got.pair {F G : Form} {a b : List Value} (h : Got P W F a) (k : Got P W G b) : Got P W (.pair F G) (a ++ b) := by
  obtain ⟨c, h1, h2, h3, h4⟩ := h
  obtain ⟨d, k1, k2, k3, k4⟩ := k
  exact ⟨c ++ d, ⟨c, d, h1, k1, rfl⟩, h2.append k2, h3.app k3, fun v hv => (List.mem_append.1 hv).elim (h4 v) (k4 v)⟩
theorem got_fields {f : TypeId → Form} {tot : Nat} {cs : List Value} (hl : cs.length = tot) : ∀ (fs : List Field) (off : Nat), (formF P f tot off fs).fine = true → (∀ fd ∈ fs, (f fd.type).fine = true → Got P W (f fd.type) ((cs.drop fd.offset).take (P.cellsOf fd.type))) → Got P W (formF P f tot off fs) (cs.drop off)
  | [], off, h, _ => by
    simp only [formF] at h ⊢
    split at h
    · rename_i ho
      rw [if_pos ho, List.drop_of_length_le (by omega)]
      exact got_nil
    · cases h
  | fd :: l, off, h, hf => by
    simp only [formF] at h ⊢
    split at h
    · rename_i ho
      simp only [Form.fine, Bool.and_eq_true] at h
      rw [if_pos ho]
      have h1 := hf fd (by simp) h.1
      have h2 := got_fields hl l (off + P.cellsOf fd.type) h.2 fun g hg => hf g (by simp [hg])
      rw [ho] at h1
      have : cs.drop off = (cs.drop off).take (P.cellsOf fd.type) ++ cs.drop (off + P.cellsOf fd.type) := by
        rw [← List.drop_drop, List.take_append_drop]
      rw [this]
      exact h1.pair h2
    · cases h
theorem got_rep {e : Form} {s : Nat} {cs : List Value} : ∀ (n i : Nat), cs.length = (i + n) * s → (∀ j, j < i + n → Got P W e ((cs.drop (j * s)).take s)) → Got P W (.rep n e) (cs.drop (i * s))
  | 0, i, hl, _ => by
    rw [List.drop_of_length_le (by rw [hl]; simp)]
    exact ⟨[], ⟨[], rfl, fun r hr => absurd hr (by simp), rfl⟩, rfl, trivial, fun v hv => absurd hv (by simp)⟩
  | n + 1, i, hl, h => by
    obtain ⟨c, h1, h2, h3, h4⟩ := h i (by omega)
    obtain ⟨d, ⟨l, k0, k1, rfl⟩, k2, k3, k4⟩ := got_rep n (i + 1) (by rw [hl]; congr 1; omega) fun j hj => h j (by omega)
    have e1 : cs.drop (i * s) = (cs.drop (i * s)).take s ++ cs.drop ((i + 1) * s) := by
      rw [show (i + 1) * s = i * s + s by rw [Nat.add_mul, Nat.one_mul], ← List.drop_drop, List.take_append_drop]
    rw [e1]
    exact ⟨c ++ l.flatten, ⟨c :: l, by simp [k0], fun r hr => (List.mem_cons.1 hr).elim (fun e => e ▸ h1) (k1 r), rfl⟩, h2.append k2, h3.app k3, fun v hv => (List.mem_append.1 hv).elim (h4 v) (k4 v)⟩
theorem got_slice {e : Form} {s : Nat} (hs : 0 < s) {a : Addr} {len cap : Nat} (h1 : len ≤ cap) (h2 : cap ≤ maxLen) (h : ∀ i, i < len → ∃ cs', W.cells? 0 (a.add (i * s)) s = some cs' ∧ Got P W e cs') : Got P W (.rows e s) [.slice (some a) len cap] := by
  have hlen : len ≤ lenM := Nat.le_trans h1 h2
  by_cases h0 : len = 0
  · subst h0
    exact ⟨[.sr 0 s fun _ => []], ⟨0, fun _ => [], by decide, fun j hj => by omega, fun j => trivial, rfl⟩, ⟨_, _, rfl, ⟨_, cap, rfl, Nat.zero_le _, hs, .inl rfl⟩, rfl⟩, ⟨⟨by decide, fun j => trivial⟩, trivial⟩, fun v hv => by simp at hv; subst hv; rfl⟩
  · have key : ∀ i, ∃ c : List V, (i < len → shp e c ∧ c.length = s ∧ ∃ cs', W.cells? 0 (a.add (i * s)) s = some cs' ∧ VRs (Cx.top P W) c cs' ∧ ∀ v ∈ cs', one v = true) ∧ oks c := fun i => by
      by_cases hi : i < len
      · obtain ⟨cs', k1, c, k2, k3, k4, k5⟩ := h i hi
        exact ⟨c, fun _ => ⟨k2, by rw [← k3.length]; exact (World.cells?_some k1).2.1, cs', k1, k3, k5⟩, k4⟩
      · exact ⟨[], fun h => absurd h hi, trivial⟩
    let g : Nat → List V := fun i => Classical.choose (key i)
    have hg : ∀ i, (i < len → shp e (g i) ∧ (g i).length = s ∧ ∃ cs', W.cells? 0 (a.add (i * s)) s = some cs' ∧ VRs (Cx.top P W) (g i) cs' ∧ ∀ v ∈ cs', one v = true) ∧ oks (g i) := fun i => Classical.choose_spec (key i)
    obtain ⟨bk, off, spot⟩ := a
    have hspot : spot = none := by
      obtain ⟨_, _, cs', k1, _, _⟩ := (hg 0).1 (by omega)
      obtain ⟨_, k2, k3⟩ := World.cells?_some k1
      have := k3 0 hs
      rw [List.getElem?_eq_getElem (by omega)] at this
      simpa [Addr.add] using World.cell?_spot this
    subst hspot
    refine ⟨[.sr len s g], ⟨len, g, hlen, fun j hj => ((hg j).1 hj).1, fun j => (hg j).2, rfl⟩, ⟨_, _, rfl, ⟨_, cap, rfl, h1, hs, .inr ⟨bk, off, rfl, id, fun j hj => ?_⟩⟩, rfl⟩, ⟨⟨hlen, fun j => (hg j).2⟩, trivial⟩, fun v hv => by simp at hv; subst hv; rfl⟩
    obtain ⟨q1, q2, cs', q3, q4, q5⟩ := (hg j).1 hj
    refine ⟨q2, vrc_of (x := (Cx.top P W).bare) q4 (fun i v hv => ?_) q5⟩
    obtain ⟨_, p2, p3⟩ := World.cells?_some q3
    have hi : i < s := by rw [← p2]; exact (List.getElem?_eq_some_iff.1 hv).1
    have := p3 i hi
    rw [hv, Go.WideShapes.add_plain, Go.WideShapes.add_plain] at this
    exact this
theorem read_ok : ∀ (d : Nat) (t : TypeId) (fuel : Nat) (cs : List Value) (x : DataW H × List MemPlace), (form P d t).fine = true → DataW.trod enc P W 0 spare held fuel t cs = some x → Got P W (form P d t) cs := by
  intro d
  induction d with
  | zero => intro t fuel cs x hf; simp [form, Form.fine] at hf
  | succ d ih =>
    intro t fuel cs x hf h
    unfold form at hf ⊢
    split at hf
    · rename_i ht
      obtain ⟨b, rfl, _⟩ := DataW.trod_bool ht h
      exact ⟨_, ⟨b, rfl⟩, ⟨_, _, rfl, rfl, rfl⟩, ⟨trivial, trivial⟩, fun v hv => by simp at hv; subst hv; rfl⟩
    · rename_i k ht
      obtain ⟨n, rfl, _, hw⟩ := DataW.trod_int ht h
      exact ⟨_, ⟨n, wf_in hw, rfl⟩, ⟨_, _, rfl, rfl, rfl⟩, ⟨wf_in hw, trivial⟩, fun v hv => by simp at hv; subst hv; rfl⟩
    · rename_i ht
      obtain ⟨s, rfl, _, hs⟩ := DataW.trod_string ht h
      have hok : (V.st (s.data.toList.map fun c => (c.toNat : Int))).ok := by
        refine ⟨?_, fun e he => ?_⟩
        · rw [List.length_map, Array.length_toList]; exact hs
        · obtain ⟨c, _, rfl⟩ := List.mem_map.1 he
          have := c.toNat_lt
          omega
      exact ⟨_, ⟨_, hok, rfl⟩, ⟨_, _, rfl, ⟨s, rfl, rfl⟩, rfl⟩, ⟨hok, trivial⟩, fun v hv => by simp at hv; subst hv; rfl⟩
    · rename_i e ht
      split at hf
      · rename_i k he
        split at hf
        case isFalse => cases hf
        rename_i hc
        rw [if_pos hc]
        rcases open_slice ht h with ⟨rfl, _⟩ | ⟨a, len, cap, m, n, D, Pl, rfl, hb, hl, hm, hmm, _, hx⟩
        · exact ⟨[.si 0 k []], ⟨[], by decide, fun e he => absurd he (by simp), rfl⟩, ⟨_, _, rfl, ⟨none, 0, rfl, Nat.le_refl _, .inl rfl⟩, rfl⟩, ⟨⟨by decide, fun e he => absurd he (by simp)⟩, trivial⟩, fun v hv => by simp at hv; subst hv; rfl⟩
        · have hle : len ≤ m := by rw [hmm]; split <;> omega
          have key : ∀ i, ∃ z : Int, i < len → W.cell? (a.add i) = some (.int k z) ∧ inR k z := fun i => by
            by_cases hi : i < len
            · obtain ⟨cs', k1, k2⟩ := hx i (by omega)
              obtain ⟨z, rfl, _, hw⟩ := DataW.trod_int he k2
              rw [hc, Nat.mul_one] at k1
              exact ⟨z, fun _ => ⟨cell_of_cells?_one k1, wf_in hw⟩⟩
            · exact ⟨0, fun h => absurd h hi⟩
          let z : Nat → Int := fun i => Classical.choose (key i)
          have hz : ∀ i, i < len → W.cell? (a.add i) = some (.int k (z i)) ∧ inR k (z i) := fun i => Classical.choose_spec (key i)
          have hxs : ((List.range len).map z).length = len := by simp
          have hin : ∀ e ∈ (List.range len).map z, inR k e := fun e he => by
            obtain ⟨i, hi, rfl⟩ := List.mem_map.1 he
            exact (hz i (List.mem_range.1 hi)).2
          have hlm : ((List.range len).map z).length ≤ lenM := by rw [hxs]; exact Nat.le_trans hl hm
          refine ⟨_, ⟨(List.range len).map z, hlm, hin, rfl⟩, ⟨_, _, rfl, ⟨some a, cap, by rw [hxs], by rw [hxs]; exact hl, ?_⟩, rfl⟩, ⟨⟨hlm, hin⟩, trivial⟩, fun v hv => by simp at hv; subst hv; rfl⟩
          by_cases h0 : len = 0
          · exact .inl (by rw [hxs]; exact h0)
          · right
            obtain ⟨bk, off, spot⟩ := a
            have hspot : spot = none := by simpa [Addr.add] using World.cell?_spot (hz 0 (by omega)).1
            subst hspot
            refine ⟨bk, off, rfl, id, Nat.le_refl _, fun j e hj he => ?_⟩
            rw [hxs] at hj
            rw [List.getElem?_map, List.getElem?_range hj] at he
            injection he with he; subst he
            have := (hz j hj).1
            rw [Go.WideShapes.add_plain] at this
            exact this
      · rename_i hno
        split at hf
        · cases hf
        rename_i hc
        rw [if_neg hc]
        rcases open_slice ht h with ⟨rfl, _⟩ | ⟨a, len, cap, m, n, D, Pl, rfl, hb, hl, hm, hmm, _, hx⟩
        · exact ⟨_, ⟨0, fun _ => [], by decide, fun j hj => by omega, fun j => trivial, rfl⟩, ⟨_, _, rfl, ⟨none, 0, rfl, Nat.le_refl _, Nat.pos_of_ne_zero hc, .inl rfl⟩, rfl⟩, ⟨⟨by decide, fun j => trivial⟩, trivial⟩, fun v hv => by simp at hv; subst hv; rfl⟩
        · have hle : len ≤ m := by rw [hmm]; split <;> omega
          refine got_slice (Nat.pos_of_ne_zero hc) hl hm fun i hi => ?_
          obtain ⟨cs', k1, k2⟩ := hx i (by omega)
          exact ⟨cs', k1, ih e n cs' _ hf k2⟩
    · rename_i fs ht
      obtain ⟨xs, n, _, _, hlen, hxl, hx⟩ := DataW.trod_struct ht h
      have := got_fields (P := P) (W := W) (f := form P d) hlen fs.toList 0 hf fun fd hfd hfine => by
        obtain ⟨i, hi⟩ := List.getElem?_of_mem hfd
        have h1 := hx i fd (by simpa using hi)
        have hil : i < xs.length := by rw [hxl]; have := (List.getElem?_eq_some_iff.1 hi).1; simpa using this
        rw [List.getElem?_eq_getElem hil] at h1
        exact ih _ _ _ _ hfine h1
      rwa [List.drop_zero] at this
    · rename_i n e ht
      split at hf
      case isFalse => cases hf
      rename_i hc
      rw [if_pos hc]
      obtain ⟨xs, m, _, _, hlen, hxl, hx⟩ := DataW.trod_array ht h
      have := got_rep (P := P) (W := W) (e := form P d e) (s := P.cellsOf e) (cs := cs) n 0 (by rw [hlen, hc, Nat.zero_add]) fun j hj => by
        have h1 := hx j (by omega)
        rw [List.getElem?_eq_getElem (by omega)] at h1
        exact ih _ _ _ _ hf h1
      rwa [Nat.zero_mul, List.drop_zero] at this
    · cases hf
def arg (F : Form) (c : V) : Prop := match F.is1 with
  | true => shp F [c]
  | false => ∃ cs, shp F cs ∧ c = .agg cs
def args : List Form → List V → Prop
  | [], l => l = []
  | F :: Fs, l => ∃ c cs, arg F c ∧ args Fs cs ∧ l = c :: cs
theorem form_is1 {P : Program} {d : Nat} {t : TypeId} (h : (form P d t).fine = true) : (form P d t).is1 = (match P.underlying t with
    | some (.struct _) => false
    | some (.array _ _) => false
    | _ => true) := by
  cases d with
  | zero => simp [form, Form.fine] at h
  | succ d =>
    unfold form at h ⊢
    cases hu : P.underlying t with
    | none => rw [hu] at h; cases h
    | some ds =>
      rw [hu] at h
      cases ds with
      | bool => rfl
      | int k => rfl
      | string => rfl
      | slice e =>
        simp only at h ⊢
        split at h
        · split at h
          · rename_i hc; rw [if_pos hc]; rfl
          · cases h
        · split at h
          · cases h
          · rename_i hc; rw [if_neg hc]; rfl
      | struct fs =>
        have : ∀ (l : List Field) (off : Nat), (formF P (form P d) (P.cellsOf t) off l).is1 = false := fun l off => by
          cases l <;> simp only [formF] <;> split <;> rfl
        exact this _ _
      | array n e => simp only; split <;> rfl
      | _ => cases h
theorem no_agg {r : Reach} {b0 : Nat} {d : Nat} {t : TypeId} {v : Value} (hf : (form P d t).fine = true) (h1 : (form P d t).is1 = true) (hval : Value.okWide P W r b0 t v) : v.cells = #[v] := by
  have key : ∀ cs, v ≠ .agg cs := by
    rintro cs rfl
    cases d with
    | zero => simp [form, Form.fine] at hf
    | succ d =>
      have hi := form_is1 hf
      rw [h1] at hi
      unfold form at hf
      cases hu : P.underlying t with
      | none => rw [hu] at hf; cases hf
      | some ds =>
        rw [hu] at hf hi
        unfold Value.okWide Cell.okWide at hval
        cases ds <;> simp [hu, Cell.ok] at hval hi hf <;> first | exact hf.elim | cases hf | skip
  cases v <;> first | rfl | exact absurd rfl (key _)
theorem is1_arg {r : Reach} {b0 : Nat} {d : Nat} {t : TypeId} {v : Value} (hf : (form P d t).fine = true) (h1 : (form P d t).is1 = false) (hval : Value.okWide P W r b0 t v) : ∃ cs, v = .agg cs := by
  have hi := form_is1 hf
  rw [h1] at hi
  unfold Value.okWide at hval
  cases hu : P.underlying t with
  | none => rw [hu] at hi; cases hi
  | some ds =>
    rw [hu] at hi hval
    cases ds with
    | struct fs => obtain ⟨cs, h, _⟩ := hval; exact ⟨cs, h⟩
    | array n e => obtain ⟨cs, h, _⟩ := hval; exact ⟨cs, h⟩
    | _ => cases hi
theorem read_arg {r : Reach} {b0 : Nat} {d : Nat} {t : TypeId} {v : Value} {x : DataW H} {ps : List MemPlace} (hf : (form P d t).fine = true) (hval : Value.okWide P W r b0 t v) (hd : DataW.Trod enc P W 0 spare held t v x ps) : ∃ c, arg (form P d t) c ∧ VR (Cx.top P W) c v ∧ c.ok := by
  obtain ⟨fuel, h⟩ := hd
  obtain ⟨c, h1, h2, h3, h4⟩ := read_ok d t fuel _ _ hf h
  unfold arg
  cases h0 : (form P d t).is1 with
  | true =>
    rw [no_agg hf h0 hval] at h2 h4
    obtain ⟨e, es, rfl⟩ : ∃ e es, c = e :: es := by
      cases c with
      | nil => have := h2.length; simp at this
      | cons e es => exact ⟨e, es, rfl⟩
    obtain ⟨u, us, hl, hv, hn⟩ := h2
    have hl : [v] = u :: us := hl
    injection hl with e1 e2
    subst e1 e2
    have : es = [] := by
      cases es with
      | nil => rfl
      | cons a b => obtain ⟨_, _, h, _⟩ := hn; cases h
    subst this
    exact ⟨e, h1, hv, h3.1⟩
  | false =>
    obtain ⟨cs, rfl⟩ := is1_arg hf h0 hval
    exact ⟨.agg c, ⟨c, h1, rfl⟩, ⟨cs.toList, by simp, h2⟩, h3⟩
theorem read_args {r : Reach} {b0 : Nat} {d : Nat} : ∀ (ts : List TypeId) (vs : List Value) (xs : List (DataW H)) (ps : List MemPlace), (ts.all fun t => (form P d t).fine) = true → (∀ (j : Nat) t v, ts[j]? = some t → vs[j]? = some v → Value.okWide P W r b0 t v) → DataW.TrodAll enc P W 0 spare held ts vs xs ps →
    ∃ l, args (ts.map (form P d)) l ∧ VRs (Cx.top P W) l vs ∧ oks l
  | [], vs, xs, ps, _, _, h => by
    obtain ⟨rfl, _, _⟩ := trodAll_nil h
    exact ⟨[], rfl, rfl, trivial⟩
  | t :: ts, vs, xs, ps, hf, hval, h => by
    obtain ⟨v, vs', x, xs', p, q, rfl, rfl, rfl, h1, h2⟩ := trodAll_cons h
    simp only [List.all_cons, Bool.and_eq_true] at hf
    obtain ⟨c, a1, a2, a3⟩ := read_arg hf.1 (hval 0 t v rfl rfl) h1
    obtain ⟨l, b1, b2, b3⟩ := read_args ts vs' xs' q hf.2 (fun j t v ht hv => hval (j + 1) t v (by simpa using ht) (by simpa using hv)) h2
    exact ⟨c :: l, ⟨c, l, a1, b1, rfl⟩, ⟨v, vs', rfl, a2, b2⟩, a3, b3⟩
end
theorem lift_args {H : Type} {enc : TypeId × Value → H} {C : Checked} {os : Os} {f : FuncId} {fn : Func} {s : ChangeSpec} {conds : List PathCond} (own : ownKnob C.prog.godebug = none) (started : os.Started) (hi : C.prog.inits.idxOf? f = none) (hf : C.prog.funcs[f]? = some fn)
    (hw : ∃ (w : World) (tape : Tape) (i : Input), w.os = os ∧ World.Shaped C.prog (w.forCall tape i) ∧ i.vars = [] ∧ Input.okWide C.prog (w.forCall tape i) .any w.heap.size f i ∧ ChangeSpec.pre6 enc C.prog fn s conds false (w.forCall tape i).memory i.args ∧ ({} : Assume).holds C.prog (lone (Frame.enter C.prog f i.args .normal) [] (w.forCall tape i)))
    (hl : laidOutB C.prog = true) {tb : TypeId} (hb : C.prog.underlying tb = some .bool) (hr : fn.resultTypes = #[tb]) (hp : (fn.params.toList.all fun t => C.prog.readableRec t && decide (t < C.prog.types.size)) = true) (hv : s.vars = [])
    (hs : ∀ ds : List (DataW H), ds.length = fn.params.toList.length → s.fn H ds = { results := [.lit (.bool true)], args := ds })
    {d : Nat} (hfine : (fn.params.toList.all fun t => (form C.prog d t).fine) = true) {Fs : List Form} (hFs : fn.params.toList.map (form C.prog d) = Fs)
    (hcall : ∀ l, args Fs l → oks l → CallOk C.prog f l [] fun r _ => r = .b true) :
    ReturnsInHanded {} C os f .any (ChangeSpec.pre6 enc C.prog fn s conds false) (ChangeSpec.post enc C.prog fn s false true false false) := by
  refine lift_true own started hi hf hw hl hb hr hp hv hs fun W base as ds p hval hA => ?_
  obtain ⟨l, h1, h2, h3⟩ := read_args (d := d) _ _ _ _ hfine (fun j t v ht hv => hval j t v (by simpa using ht) (by simpa using hv)) hA
  rw [hFs] at h1
  have := true_of_call (hcall l h1 h3) h2 h3
  simpa using this
end Go.Proofs.Ytcpicekmnkjceaa.VI

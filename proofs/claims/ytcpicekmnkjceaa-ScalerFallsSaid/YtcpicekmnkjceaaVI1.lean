import Derived.Test.YtcpicekmnkjceaaVH
namespace Go.Proofs.Ytcpicekmnkjceaa.VI
set_option linter.unusedVariables false
set_option linter.unusedSimpArgs false

def vnil (h : Heap) : V → Option V
  | .u => none
  | .nilp => none
  | .nilf => none
  | .tup _ => none
  | .ref id gen off => if cur h id gen = true then some (.ref id gen off) else none
  | .own _ _ _ _ _ => none
  | c => some c
theorem vnil_ok {x : Cx} {c r : V} {v : Value} (h : vnil x.h c = some r) (hv : VR x c v) : c = r ∧ v ≠ .pointer none ∧ v ≠ .nilIface ∧ v ≠ .nilFunc ∧ ∀ m a b, v ≠ .func (.method m) a b := by
  cases c with
  | ref id gen off =>
    simp only [vnil] at h
    split at h
    · rename_i hc
      injection h with h
      refine ⟨h, ?_⟩
      rw [cur_ref hc hv]
      simp
    · cases h
  | sl n sz cs => simp only [vnil, Option.some.injEq] at h; obtain ⟨a, cap, rfl, _⟩ := hv; exact ⟨h, by simp⟩
  | si n k xs => simp only [vnil, Option.some.injEq] at h; obtain ⟨a, cap, rfl, _⟩ := hv; exact ⟨h, by simp⟩
  | sr n sz g => simp only [vnil, Option.some.injEq] at h; obtain ⟨a, cap, rfl, _⟩ := hv; exact ⟨h, by simp⟩
  | pl cs => simp only [vnil, Option.some.injEq] at h; obtain ⟨a, cap, rfl, _⟩ := hv; exact ⟨h, by simp⟩
  | fn f cs => simp only [vnil, Option.some.injEq] at h; obtain ⟨l, rfl, _⟩ := hv; exact ⟨h, by simp⟩
  | agg cs => simp only [vnil, Option.some.injEq] at h; obtain ⟨l, rfl, _⟩ := hv; exact ⟨h, by simp⟩
  | nils => simp only [vnil, Option.some.injEq] at h; obtain ⟨l, rfl⟩ := hv; exact ⟨h, by simp⟩
  | b t => simp only [vnil, Option.some.injEq] at h; simp only [VR] at hv; subst hv; exact ⟨h, by simp⟩
  | i k t => simp only [vnil, Option.some.injEq] at h; simp only [VR] at hv; subst hv; exact ⟨h, by simp⟩
  | s t => simp only [vnil, Option.some.injEq] at h; simp only [VR] at hv; subst hv; exact ⟨h, by simp⟩
  | _ => simp [vnil] at h

def vpick : V → V → V → Option V
  | .b t, .b p, .b q => some (.b (bif t then p else q))
  | .b t, .i k p, .i k' q => if k = k' then some (.i k (bif t then p else q)) else none
  | .b t, p, q => match t with
    | true => some p
    | false => some q
  | _, _, _ => none
theorem vpick_ok {x : Cx} {c p q r : V} {v u z : Value} (h : vpick c p q = some r) (hc : VR x c v) (hp : VR x p u) (hq : VR x q z) :
    ∃ o, (do pure (.value (if ← asBool v then u else z)) : Sem Next).run x.P x.w = .ok (.value o) x.w ∧ VR x r o := by
  unfold vpick at h
  split at h
  · injection h with h; subst h
    simp only [VR] at hc hp hq; subst hc hp hq
    rename_i t p q
    cases t
    · exact ⟨_, rfl, rfl⟩
    · exact ⟨_, rfl, rfl⟩
  · split at h
    · rename_i hk; subst hk
      injection h with h; subst h
      simp only [VR] at hc hp hq; subst hc hp hq
      rename_i t k p q
      cases t
      · exact ⟨_, rfl, rfl⟩
      · exact ⟨_, rfl, rfl⟩
    · cases h
  · simp only [VR] at hc; subst hc
    split at h
    · injection h with h; subst h; exact ⟨_, rfl, hp⟩
    · injection h with h; subst h; exact ⟨_, rfl, hq⟩
  · cases h

/-- One operation, no call of a function. -/
def opv (P : Program) (h : Heap) (id : Nat) (e : Operand → V) : Op → Option (V × Heap)
  | .move a => some (e a, h)
  | .assign a => some (e a, h)
  | .pick c a b => (vpick (e c) (e a) (e b)).bind fun r => some (r, h)
  | .alloc elem => if blank h id = true then (zcells P elem).bind fun cs => some (.ref id 1 0, newb h id elem (mkD P elem cs)) else none
  | .box elem a => if blank h id = true then (vcells (e a)).bind fun cs => some (.ref id 1 0, newb h id elem (mkD P elem cs)) else none
  | .build t ps => (vbuild P t (ps.toList.map fun p => (p.1, e p.2))).bind fun r => some (r, h)
  | .buildSlice t len ps => vbuildSlice P h id t len (ps.toList.map fun p => (p.1, e p.2))
  | .load t a => (vloadAt P h t (e a)).bind fun r => some (r, h)
  | .store t a c => (vstoreAt P h t (e a) (e c)).bind fun h' => some (.u, h')
  | .nilCheck a => (vnil h (e a)).bind fun r => some (r, h)
  | .binOp op t a b _ => (vbinx P op t (e a) (e b)).bind fun r => some (r, h)
  | .unOp op _ a => (vun op (e a)).bind fun r => some (r, h)
  | .convert s d a => (vconv P s d (e a)).bind fun r => some (r, h)
  | .makeFunc (.func f) first caps => if first.size = 0 then some (.fn f (caps.toList.map e), h) else none
  | .slice t a lo hi mx => (vslice P h t (e a) (lo.map e) (hi.map e) (mx.map e)).bind fun r => some (r, h)
  | .fieldAddr s a f => (vfieldAddr P h s (e a) f).bind fun r => some (r, h)
  | .field s a f => (vfield P s (e a) f).bind fun r => some (r, h)
  | .indexAddr t a i => (vindexAddr P h t (e a) (e i)).bind fun r => some (r, h)
  | .index t a i => (vindex P t (e a) (e i)).bind fun r => some (r, h)
  | .extract a i => (vextract (e a) i).bind fun r => some (r, h)
  | .call { callee := .builtin .len, args := as, argTypes := ts } => match as.toList, ts[0]? with
    | [a], some t => (vlen P h t (e a)).bind fun r => some (r, h)
    | _, _ => none
  | .call { callee := .builtin .min, args := as, argTypes := _ } => match as.toList.map e with
    | .i k m :: l => (vmin k m l).bind fun r => some (r, h)
    | _ => none
  | .call { callee := .builtin .max, args := as, argTypes := _ } => match as.toList.map e with
    | .i k m :: l => (vmax k m l).bind fun r => some (r, h)
    | _ => none
  | _ => none
theorem bind_pair {r : Option V} {h h' : Heap} {c : V} (e : (r.bind fun z => some (z, h)) = some (c, h')) : r = some c ∧ h' = h := by
  cases r with
  | none => cases e
  | some z => simp only [Option.bind_some, Option.some.injEq, Prod.mk.injEq] at e; obtain ⟨rfl, rfl⟩ := e; exact ⟨rfl, rfl⟩
theorem parts_ok {x : Cx} {e : Operand → V} {ρ : Operand → Value} (he : ∀ o, VR x (e o) (ρ o)) (ps : Array (Nat × Operand)) :
    (ps.toList.map fun p => (p.1, e p.2)).length = (ps.map fun (i, y) => (i, ρ y)).toList.length ∧ ∀ (j : Nat) p q, (ps.toList.map fun p => (p.1, e p.2))[j]? = some p → (ps.map fun (i, y) => (i, ρ y)).toList[j]? = some q → p.1 = q.1 ∧ VR x p.2 q.2 := by
  refine ⟨by simp, fun j p q hp hq => ?_⟩
  simp only [List.getElem?_map] at hp
  simp at hq
  cases hj : ps.toList[j]? with
  | none => rw [hj] at hp; cases hp
  | some o =>
    rw [hj] at hp
    simp only [Option.map_some, Option.some.injEq] at hp
    have : ps[j]? = some o := by simpa using hj
    rw [this] at hq
    simp at hq
    obtain ⟨p1, p2, rfl, rfl⟩ := hq
    subst hp
    exact ⟨rfl, he _⟩
theorem opv_ok {x : Cx} (hx : HR x) {id : Nat} {e : Operand → V} {ρ : Operand → Value} (he : ∀ o, VR x (e o) (ρ o)) {o : Oper} {r : V} {h' : Heap} (h : opv x.P x.h id e o.op = some (r, h')) : Does x (execOp ρ o) r h' := by
  unfold execOp
  cases ho : o.op with
  | move a =>
    rw [ho] at h; simp only [opv, Option.some.injEq, Prod.mk.injEq] at h; obtain ⟨rfl, rfl⟩ := h
    exact Does.pure_ hx (s := pure (ρ a)) ⟨_, rfl, he a⟩
  | assign a =>
    rw [ho] at h; simp only [opv, Option.some.injEq, Prod.mk.injEq] at h; obtain ⟨rfl, rfl⟩ := h
    exact Does.pure_ hx (s := pure (ρ a)) ⟨_, rfl, he a⟩
  | pick c a b =>
    rw [ho] at h; obtain ⟨g, rfl⟩ := bind_pair h
    obtain ⟨z, h1, h2⟩ := vpick_ok g (he c) (he a) (he b)
    exact ⟨_, x, h1, To.refl hx, rfl, rfl, .inl ⟨z, rfl, h2⟩⟩
  | alloc elem =>
    rw [ho] at h; simp only [opv] at h
    split at h
    · rename_i hb
      cases hz : zcells x.P elem with
      | none => simp [hz] at h
      | some cs =>
        simp only [hz, Option.bind_some, Option.some.injEq, Prod.mk.injEq] at h; obtain ⟨rfl, rfl⟩ := h
        exact alloc_ok hx hb elem hz
    · cases h
  | box elem a =>
    rw [ho] at h; simp only [opv] at h
    split at h
    · rename_i hb
      cases hz : vcells (e a) with
      | none => simp [hz] at h
      | some cs =>
        simp only [hz, Option.bind_some, Option.some.injEq, Prod.mk.injEq] at h; obtain ⟨rfl, rfl⟩ := h
        exact box_ok hx hb elem hz (he a)
    · cases h
  | build t ps =>
    rw [ho] at h; obtain ⟨g, rfl⟩ := bind_pair h
    exact Does.pure_ hx (vbuild_ok g (parts_ok he ps))
  | buildSlice t len ps =>
    rw [ho] at h; simp only [opv] at h
    exact vbuildSlice_ok hx h (parts_ok he ps)
  | load t a =>
    rw [ho] at h; obtain ⟨g, rfl⟩ := bind_pair h
    exact Does.pure_ hx (vloadAt_ok hx g (he a))
  | store t a c =>
    rw [ho] at h; simp only [opv] at h
    cases hz : vstoreAt x.P x.h t (e a) (e c) with
    | none => simp [hz] at h
    | some h2 =>
      simp only [hz, Option.bind_some, Option.some.injEq, Prod.mk.injEq] at h; obtain ⟨rfl, rfl⟩ := h
      exact vstoreAt_ok hx hz (he a) (he c)
  | nilCheck a =>
    rw [ho] at h; obtain ⟨g, rfl⟩ := bind_pair h
    obtain ⟨e1, n1, n2, n3, n4⟩ := vnil_ok g (he a)
    refine ⟨.value (ρ a), x, ?_, To.refl hx, rfl, rfl, .inl ⟨_, rfl, e1 ▸ he a⟩⟩
    simp only
    generalize ρ a = v at *
    rfl
  | binOp op t a b t' =>
    rw [ho] at h; obtain ⟨g, rfl⟩ := bind_pair h
    exact Does.pure_ hx (vbinx_ok g (he a) (he b))
  | unOp op t a =>
    rw [ho] at h; obtain ⟨g, rfl⟩ := bind_pair h
    exact Does.pure_ hx (vun_ok g (he a))
  | convert s d a =>
    rw [ho] at h; obtain ⟨g, rfl⟩ := bind_pair h
    exact Does.pure_ hx (vconv_ok g (he a))
  | makeFunc fn first caps =>
    rw [ho] at h
    cases fn with
    | func f =>
      simp only [opv] at h
      split at h
      · rename_i hs
        simp only [Option.some.injEq, Prod.mk.injEq] at h; obtain ⟨rfl, rfl⟩ := h
        have : first = #[] := Array.eq_empty_of_size_eq_zero hs
        subst this
        refine Does.pure_ hx ⟨_, rfl, (caps.map ρ).toList, by rw [Array.map_empty], ?_⟩
        have := VRs.map he caps.toList
        simpa using this
      · cases h
    | _ => simp [opv] at h
  | slice t a lo hi mx =>
    rw [ho] at h; obtain ⟨g, rfl⟩ := bind_pair h
    have ho : ∀ o : Option Operand, OR x (o.map e) (o.map ρ) := fun o => by cases o with
      | none => trivial
      | some o => exact he o
    exact Does.pure_ hx (vslice_ok g (he a) (ho lo) (ho hi) (ho mx))
  | fieldAddr s a f =>
    rw [ho] at h; obtain ⟨g, rfl⟩ := bind_pair h
    exact Does.pure_ hx (vfieldAddr_ok g (he a))
  | field s a f =>
    rw [ho] at h; obtain ⟨g, rfl⟩ := bind_pair h
    exact Does.pure_ hx (vfield_ok g (he a))
  | indexAddr t a i =>
    rw [ho] at h; obtain ⟨g, rfl⟩ := bind_pair h
    exact Does.pure_ hx (vindexAddr_ok g (he a) (he i))
  | index t a i =>
    rw [ho] at h; obtain ⟨g, rfl⟩ := bind_pair h
    exact Does.pure_ hx (vindex_ok g (he a) (he i))
  | extract a i =>
    rw [ho] at h; obtain ⟨g, rfl⟩ := bind_pair h
    exact Does.pure_ hx (vextract_ok g (he a))
  | call c =>
    rw [ho] at h
    obtain ⟨callee, as, ts⟩ := c
    have run1 : ∀ (b : Builtin) (s : Sem Value), (∀ cs ty, builtin b ts ty cs (as.map ρ) = (do pure (.value (← s)) : Sem Next)) → (∃ z, s.run x.P x.w = .ok z x.w ∧ VR x r z) → h' = x.h → Does x (do let d ← resolve ρ { callee := .builtin b, args := as, argTypes := ts } o.type; invoke d.target d.args) r h' := by
      rintro b s hb hz rfl
      have := Does.pure_ hx hz
      simp only [resolve]
      show Does x ((Sem.bind (pure _) _)) r x.h
      simp only [pure, Sem.bind, invoke, hb]
      exact this
    cases callee with
    | builtin b =>
      cases b with
      | len =>
        simp only [opv] at h
        split at h
        · rename_i a t has hts
          obtain ⟨g, rfl⟩ := bind_pair h
          have has' : as = #[a] := by
            apply Array.toList_inj.1; simpa using has
          subst has'
          refine run1 .len _ (fun _ _ => rfl) (vlen_ok (ty := 0) hts (v := ρ a) (by simp) g (he a)) rfl
        · cases h
      | min =>
        simp only [opv] at h
        split at h
        · rename_i k m l hl
          obtain ⟨g, rfl⟩ := bind_pair h
          cases has : as.toList with
          | nil => rw [has] at hl; simp at hl
          | cons a rest =>
            rw [has] at hl
            simp only [List.map_cons, List.cons.injEq] at hl
            obtain ⟨h1, h2⟩ := hl
            have hv := he a
            rw [h1] at hv
            simp only [VR] at hv
            obtain ⟨z, k1, k2⟩ := vmin_ok k l (rest.map ρ) m r (by rw [← h2]; exact VRs.map he rest) g
            refine run1 .min _ (fun _ _ => rfl) ⟨z, ?_, k2⟩ rfl
            simp only [Array.toList_map, has, List.map_cons, hv]
            exact k1
        · cases h
      | max =>
        simp only [opv] at h
        split at h
        · rename_i k m l hl
          obtain ⟨g, rfl⟩ := bind_pair h
          cases has : as.toList with
          | nil => rw [has] at hl; simp at hl
          | cons a rest =>
            rw [has] at hl
            simp only [List.map_cons, List.cons.injEq] at hl
            obtain ⟨h1, h2⟩ := hl
            have hv := he a
            rw [h1] at hv
            simp only [VR] at hv
            obtain ⟨z, k1, k2⟩ := vmax_ok k l (rest.map ρ) m r (by rw [← h2]; exact VRs.map he rest) g
            refine run1 .max _ (fun _ _ => rfl) ⟨z, ?_, k2⟩ rfl
            simp only [Array.toList_map, has, List.map_cons, hv]
            exact k1
        · cases h
      | _ => simp [opv] at h
    | _ => simp [opv] at h
  | _ => rw [ho] at h; simp [opv] at h
end Go.Proofs.Ytcpicekmnkjceaa.VI

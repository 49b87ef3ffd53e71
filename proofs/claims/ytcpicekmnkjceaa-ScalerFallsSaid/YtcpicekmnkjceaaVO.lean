import Derived.Test.YtcpicekmnkjceaaVN
namespace Go.Proofs.Ytcpicekmnkjceaa.VI
set_option linter.unusedVariables false
set_option linter.unusedSimpArgs false

theorem opv_congr {P : Program} {h : Heap} {id : Nat} {e e' : Operand → V} {op : Op} (he : ∀ x ∈ op.operands, e x = e' x) : opv P h id e op = opv P h id e' op ∧ tch id e op = tch id e' op := by
  have pairs : ∀ ps : Array (Nat × Operand), (∀ x ∈ (ps.toList.map (·.2)).toArray, e x = e' x) → (ps.toList.map fun p => (p.1, e p.2)) = ps.toList.map fun p => (p.1, e' p.2) := fun ps hp =>
    List.map_congr_left fun p hm => by rw [hp p.2 (by simp; exact ⟨p.1, by simpa using hm⟩)]
  have lists : ∀ xs : Array Operand, (∀ x ∈ xs, e x = e' x) → xs.toList.map e = xs.toList.map e' := fun xs hp => List.map_congr_left fun p hm => hp p (by simpa using hm)
  cases op <;> simp only [Op.operands] at he
  case build t ps => simp only [opv, tch, pairs ps he]; exact ⟨trivial, trivial⟩
  case buildSlice t n ps => simp only [opv, tch, pairs ps he]; exact ⟨trivial, trivial⟩
  case makeFunc k first caps =>
    have := lists caps fun x hx => he x (by simp [hx])
    cases k <;> simp only [opv, tch, this] <;> exact ⟨trivial, trivial⟩
  case slice t x lo hi mx =>
    cases lo <;> cases hi <;> cases mx <;> simp_all [opv, tch]
  case call c =>
    obtain ⟨callee, as, ts⟩ := c
    have has : ∀ x ∈ as, e x = e' x := fun x hx => he x (by simp [Call.operands, hx])
    have hl := lists as has
    have hh : (as.toList.map fun a => hid (e a)) = as.toList.map fun a => hid (e' a) := List.map_congr_left fun p hm => by rw [has p (by simpa using hm)]
    have hhs : (as.toList.map fun a => hids (e a)) = as.toList.map fun a => hids (e' a) := List.map_congr_left fun p hm => by rw [has p (by simpa using hm)]
    cases callee with
    | builtin b =>
      cases b with
      | len =>
        refine ⟨?_, by simp only [tch, hh]⟩
        simp only [opv]
        rcases hx : as.toList with _ | ⟨a, _ | _⟩
        · rfl
        · cases ts[0]? with
          | none => rfl
          | some t => simp only; rw [has a (by rw [← Array.mem_toList_iff, hx]; simp)]
        · rfl
      | min => simp only [opv, tch, hl]; exact ⟨trivial, trivial⟩
      | max => simp only [opv, tch, hl]; exact ⟨trivial, trivial⟩
      | _ => exact ⟨rfl, rfl⟩
    | value f => exact ⟨rfl, by simp only [tch, hhs]⟩
    | _ => exact ⟨rfl, rfl⟩
  all_goals (first | exact ⟨rfl, rfl⟩ | (simp_all [opv, tch]; done))

theorem fzl_agree {h h2 : Heap} {f g : TypeId → V → Option (V × List Nat)} (hf : ∀ t c r i, f t c = some (r, i) → agree i h2 h → g t c = some (r, i)) (all : List TypeId) :
    ∀ (ts : List TypeId) (cs rs : List V) (i : List Nat), fzl f all ts cs = some (rs, i) → agree i h2 h → fzl g all ts cs = some (rs, i)
  | _, [], rs, i, h, _ => by simp [fzl] at h ⊢; exact h
  | [], c :: cs, rs, i, h, ha => by
    simp only [fzl] at h ⊢
    cases all with
    | nil => simp at h
    | cons t ts =>
      simp only at h ⊢
      split at h
      · rename_i r i1 rs' i2 e1 e2
        simp only [Option.some.injEq, Prod.mk.injEq] at h; obtain ⟨rfl, rfl⟩ := h
        rw [hf _ _ _ _ e1 fun j hj => ha j (List.mem_append_left _ hj), fzl_agree hf (t :: ts) ts cs _ _ e2 fun j hj => ha j (List.mem_append_right _ hj)]
      · cases h
  | t :: ts, c :: cs, rs, i, h, ha => by
    simp only [fzl] at h ⊢
    split at h
    · rename_i r i1 rs' i2 e1 e2
      simp only [Option.some.injEq, Prod.mk.injEq] at h; obtain ⟨rfl, rfl⟩ := h
      rw [hf _ _ _ _ e1 fun j hj => ha j (List.mem_append_left _ hj), fzl_agree hf all ts cs _ _ e2 fun j hj => ha j (List.mem_append_right _ hj)]
    · cases h
theorem fzc_agree {P : Program} {h h2 : Heap} : ∀ (d : Nat) (t : TypeId) (c r : V) (i : List Nat), fzc P h d t c = some (r, i) → agree i h2 h → fzc P h2 d t c = some (r, i)
  | 0, _, _, _, _, e, _ => by simp [fzc] at e
  | d + 1, t, c, r, i, e, ha => by
    cases c with
    | own id gen off n sz =>
      simp only [fzc] at e ⊢
      have hid : id ∈ i := by
        split at e
        · cases e
        · split at e
          · split at e
            · simp only [Option.some.injEq, Prod.mk.injEq] at e; rw [← e.2]; simp
            · cases e
          · split at e
            · split at e
              · simp only [Option.some.injEq, Prod.mk.injEq] at e; rw [← e.2]; simp
              · cases e
            · cases e
      rw [blkOf_agree (ha id hid)]
      split at e
      · cases e
      · rename_i b hb
        split at e
        · rename_i k xs hd
          exact e
        · rename_i cs hd
          split at e
          · rename_i el hu
            split at e
            · rename_i ds ids hz
              simp only [Option.some.injEq, Prod.mk.injEq] at e
              obtain ⟨rfl, rfl⟩ := e
              rw [fzl_agree (g := fzc P h2 d) (fun t c r i h1 h2 => fzc_agree d t c r i h1 h2) _ _ _ _ _ hz fun j hj => ha j (by simp [hj])]
            · cases e
          · cases e
    | fn f cs => cases cs <;> exact e
    | _ => exact e
theorem fzv_agree {P : Program} {h h2 : Heap} {t : TypeId} {c r : V} {i : List Nat} (e : fzv P h t c = some (r, i)) (ha : agree i h2 h) : fzv P h2 t c = some (r, i) := by
  cases c with
  | agg cs =>
    simp only [fzv] at e ⊢
    split at e
    · rename_i ds ids hz
      simp only [Option.some.injEq, Prod.mk.injEq] at e
      obtain ⟨rfl, rfl⟩ := e
      rw [fzl_agree (g := fzc P h2 6) (fun t c r i h1 h2 => fzc_agree 6 t c r i h1 h2) _ _ _ _ _ hz ha]
    · cases e
  | _ => simp only [fzv] at e ⊢; exact fzc_agree 6 _ _ _ _ e ha
theorem fzArgs_agree {P : Program} {h h2 : Heap} : ∀ (ts : List TypeId) (cs rs : List V) (i : List Nat), fzArgs P h ts cs = some (rs, i) → agree i h2 h → fzArgs P h2 ts cs = some (rs, i)
  | [], [], _, _, e, _ => e
  | [], _ :: _, _, _, e, _ => by simp [fzArgs] at e
  | _ :: _, [], _, _, e, _ => by simp [fzArgs] at e
  | t :: ts, c :: cs, rs, i, e, ha => by
    simp only [fzArgs] at e ⊢
    split at e
    · rename_i r i1 rs' i2 e1 e2
      simp only [Option.some.injEq, Prod.mk.injEq] at e; obtain ⟨rfl, rfl⟩ := e
      rw [fzv_agree e1 fun j hj => ha j (List.mem_append_left _ hj), fzArgs_agree ts cs _ _ e2 fun j hj => ha j (List.mem_append_right _ hj)]
    · cases e

section
variable (P : Program) (C : Orc)
def opd (id : Nat) (e : Operand → V) (h : Heap) (op : Op) : Option (V × Heap) := opk P C id e h (fun r g => some (r, g)) op
/-- A call's blocks are the ones that its arguments name. -/
def fok (h : Heap) (e : Operand → V) (op : Op) : Bool := match op with
  | .call { callee := .value _, args := as, argTypes := ts } => match fzArgs P h ts.toList (as.toList.map e) with
    | some (_, F) => F.all fun i => ((as.toList.map fun a => hids (e a)).flatten).contains i
    | none => true
  | _ => true
end
theorem opd_plain {P : Program} {C : Orc} {id : Nat} {e : Operand → V} {h : Heap} {op : Op} (hc : ∀ fo as ts, op ≠ .call { callee := .value fo, args := as, argTypes := ts }) : opd P C id e h op = opv P h id e op := by
  unfold opd
  rw [opk_plain hc]
  cases opv P h id e op <;> rfl
theorem opk_bind {P : Program} {C : Orc} {id : Nat} {e : Operand → V} {h : Heap} {R : Type} (k : V → Heap → Option R) (op : Op) : opk P C id e h k op = (opd P C id e h op).bind fun p => k p.1 p.2 := by
  by_cases hc : ∃ fo as ts, op = .call { callee := .value fo, args := as, argTypes := ts }
  · obtain ⟨fo, as, ts, rfl⟩ := hc
    unfold opd
    simp only [opk, callk]
    cases e fo with
    | fn f cs =>
      cases cs with
      | nil =>
        cases fzArgs P h ts.toList (as.toList.map e) with
        | none => rfl
        | some p =>
          obtain ⟨xs, F⟩ := p
          simp only [Tr.run_eq]
          cases (C f xs).val with
          | none => rfl
          | some r =>
            simp only [Option.bind_some]
            split <;> rfl
      | cons _ _ => rfl
    | _ => rfl
  · have hc : ∀ fo as ts, op ≠ .call { callee := .value fo, args := as, argTypes := ts } := fun fo as ts e => hc ⟨fo, as, ts, e⟩
    rw [opd_plain hc, opk_plain hc]
theorem opd_call {P : Program} {C : Orc} {id : Nat} {e : Operand → V} {h : Heap} {fo : Operand} {as : Array Operand} {ts : Array TypeId} : opd P C id e h (.call { callee := .value fo, args := as, argTypes := ts }) =
    match e fo with
    | .fn f [] => match fzArgs P h ts.toList (as.toList.map e) with
      | some (xs, F) => (C f xs).val.map fun r => (r, if flat r = true then h else latch h F)
      | none => none
    | _ => none := by
  unfold opd
  simp only [opk, callk]
  cases e fo with
  | fn f cs =>
    cases cs with
    | nil =>
      cases fzArgs P h ts.toList (as.toList.map e) with
      | none => rfl
      | some p =>
        obtain ⟨xs, F⟩ := p
        simp only [Tr.run_eq]
        cases (C f xs).val with
        | none => rfl
        | some r => simp only [Option.bind_some, Option.map_some]; split <;> rfl
    | cons _ _ => rfl
  | _ => rfl
theorem opd_congr {P : Program} {C : Orc} {id : Nat} {e e' : Operand → V} {h : Heap} {op : Op} (he : ∀ x ∈ op.operands, e x = e' x) : opd P C id e h op = opd P C id e' h op ∧ fok P h e op = fok P h e' op := by
  by_cases hc : ∃ fo as ts, op = .call { callee := .value fo, args := as, argTypes := ts }
  · obtain ⟨fo, as, ts, rfl⟩ := hc
    have has : ∀ x ∈ as, e x = e' x := fun x hx => he x (by simp [Op.operands, Call.operands, hx])
    have hfo : e fo = e' fo := he fo (by simp [Op.operands, Call.operands])
    have hl : as.toList.map e = as.toList.map e' := List.map_congr_left fun p hm => has p (by simpa using hm)
    have hhs : (as.toList.map fun a => hids (e a)) = as.toList.map fun a => hids (e' a) := List.map_congr_left fun p hm => by rw [has p (by simpa using hm)]
    rw [opd_call, opd_call, hfo, hl]
    refine ⟨rfl, ?_⟩
    simp only [fok, hl, hhs]
  · have e1 : ∀ e : Operand → V, opd P C id e h op = opv P h id e op := fun e => opd_plain fun fo as ts e => hc ⟨fo, as, ts, e⟩
    have e2 : ∀ e : Operand → V, fok P h e op = true := by
      intro e
      unfold fok
      split
      · exact absurd ⟨_, _, _, rfl⟩ hc
      · rfl
    rw [e1, e1, e2, e2, (opv_congr he).1]
    exact ⟨rfl, rfl⟩
theorem opd_loc {P : Program} {C : Orc} {id : Nat} {e : Operand → V} {h : Heap} {op : Op} {r : V} {h1 : Heap} (ho : opd P C id e h op = some (r, h1)) (hf : fok P h e op = true) :
    ∃ U : Heap → Heap, h1 = U h ∧ Local (tch id e op).1 U ∧ ((tch id e op).2 = true → ∀ g, U g = g) ∧ ∀ h2, agree (tch id e op).1 h2 h → opd P C id e h2 op = some (r, U h2) ∧ fok P h2 e op = true := by
  by_cases hc : ∃ fo as ts, op = .call { callee := .value fo, args := as, argTypes := ts }
  · obtain ⟨fo, as, ts, rfl⟩ := hc
    rw [opd_call] at ho
    simp only [fok] at hf
    split at ho
    · rename_i f hfo
      cases hz : fzArgs P h ts.toList (as.toList.map e) with
      | none => rw [hz] at ho; cases ho
      | some p =>
        obtain ⟨xs, F⟩ := p
        rw [hz] at ho hf
        simp only at ho hf
        have hF : ∀ i ∈ F, i ∈ (tch id e (.call { callee := .value fo, args := as, argTypes := ts })).1 := fun i hi => by
          have := List.all_eq_true.1 hf i hi
          simpa [tch] using this
        cases hv : (C f xs).val with
        | none => rw [hv] at ho; cases ho
        | some q =>
          rw [hv] at ho
          simp only [Option.map_some, Option.some.injEq, Prod.mk.injEq] at ho
          obtain ⟨rfl, rfl⟩ := ho
          have key : ∀ h2, agree (tch id e (.call { callee := .value fo, args := as, argTypes := ts })).1 h2 h → opd P C id e h2 (.call { callee := .value fo, args := as, argTypes := ts }) = some (q, if flat q = true then h2 else latch h2 F) ∧ fok P h2 e (.call { callee := .value fo, args := as, argTypes := ts }) = true := by
            intro h2 ha
            have hz2 := fzArgs_agree _ _ _ _ hz fun j hj => ha j (hF j hj)
            rw [opd_call, hfo]
            simp only [hz2, hv, Option.map_some, fok, hf]
            exact ⟨trivial, trivial⟩
          by_cases hfl : flat q = true
          · exact ⟨fun g => g, by rw [if_pos hfl], Local.id _, fun _ _ => rfl, fun h2 ha => by have := key h2 ha; rw [if_pos hfl] at this; exact this⟩
          · exact ⟨fun g => latch g F, by rw [if_neg hfl], Local.latch _ _ hF, fun h => by simp [tch] at h, fun h2 ha => by have := key h2 ha; rw [if_neg hfl] at this; exact this⟩
    · cases ho
  · have e1 : ∀ h : Heap, opd P C id e h op = opv P h id e op := fun h => opd_plain fun fo as ts e => hc ⟨fo, as, ts, e⟩
    have e2 : ∀ h : Heap, fok P h e op = true := by
      intro h
      unfold fok
      split
      · exact absurd ⟨_, _, _, rfl⟩ hc
      · rfl
    rw [e1] at ho
    obtain ⟨U, h2, h3, h4, h5⟩ := opv_loc ho
    exact ⟨U, h2, h3, h4, fun g hg => ⟨by rw [e1, h5 g hg], e2 g⟩⟩
end Go.Proofs.Ytcpicekmnkjceaa.VI

import Derived.Test.YtcpicekmnkjceaaVC
import Derived.Laws.StructEq
import Derived.Laws.Cover3
namespace Go.Proofs.Ytcpicekmnkjceaa.VI
set_option linter.unusedVariables false
set_option linter.unusedSimpArgs false

def veqF (P : Program) (f : TypeId → V → V → Option Bool) : List Field → List V → List V → Option Bool
  | [], _, _ => some true
  | fd :: l, cs, ds => match decide (fd.name ≠ "_") with
    | true => match vpart P fd.type cs fd.offset, vpart P fd.type ds fd.offset with
      | some a, some b => match f fd.type a b with
        | some r => match veqF P f l cs ds with
          | some q => some (r && q)
          | none => none
        | none => none
      | _, _ => none
    | false => veqF P f l cs ds
def veq (P : Program) : Nat → TypeId → V → V → Option Bool
  | 0, _, _, _ => none
  | d + 1, t, c, e => match P.underlying t with
    | some .bool => match c, e with
      | .b a, .b b => some (a == b)
      | _, _ => none
    | some (.int _) => match c, e with
      | .i k a, .i k' b => if k = k' then some (a == b) else none
      | _, _ => none
    | some .string => match c, e with
      | .s a, .s b => some (a.toList == b.toList)
      | _, _ => none
    | some (.struct fs) => match c, e with
      | .agg cs, .agg ds => match P.stoodInHeld t with
        | false => veqF P (veq P d) fs.toList cs ds
        | true => none
      | _, _ => none
    | _ => none
theorem veqF_ok {x : Cx} {n : Nat} {f : TypeId → V → V → Option Bool} (hf : ∀ t c e r v u, f t c e = some r → VR x c v → VR x e u → (Op.equalIn n t v u).run x.P x.w = .ok r x.w) :
    ∀ (fs : List Field) (cs ds : List V) (l m : List Value) (r : Bool), veqF x.P f fs cs ds = some r → VRs x cs l → VRs x ds m → (Op.eqFields n l.toArray m.toArray fs).run x.P x.w = .ok r x.w
  | [], _, _, _, _, r, h, _, _ => by simp [veqF] at h; subst h; rfl
  | fd :: fs, cs, ds, l, m, r, h, hc, hd => by
    simp only [veqF] at h
    unfold Op.eqFields
    cases hn : decide (fd.name ≠ "_") with
    | true =>
      rw [hn] at h
      simp only at h
      rw [if_pos (of_decide_eq_true hn)]
      split at h
      · rename_i a b ha hb
        split at h
        · rename_i p hp
          split at h
          · rename_i q hq
            injection h with h
            subst h
            obtain ⟨v, h1, h2⟩ := vpart_ok ha hc
            obtain ⟨u, h3, h4⟩ := vpart_ok hb hd
            have h5 := hf _ _ _ _ _ _ hp h2 h4
            have h6 := veqF_ok hf fs cs ds l m q hq hc hd
            simp only [Sem.run_bind, h1, h3, h5, Result.andThen_ok]
            cases p
            · rfl
            · simpa using h6
          · cases h
        · cases h
      · cases h
    | false =>
      rw [hn] at h
      simp only at h
      rw [if_neg (of_decide_eq_false hn)]
      exact veqF_ok hf fs cs ds l m r h hc hd
theorem veq_ok {x : Cx} : ∀ (d n : Nat) (t : TypeId) (c e : V) (r : Bool) (v u : Value), d ≤ n → veq x.P d t c e = some r → VR x c v → VR x e u → (Op.equalIn n t v u).run x.P x.w = .ok r x.w
  | 0, _, _, _, _, _, _, _, _, h, _, _ => by simp [veq] at h
  | d + 1, 0, _, _, _, _, _, _, hn, _, _, _ => by omega
  | d + 1, n + 1, t, c, e, r, v, u, hn, h, hv, hu => by
    simp only [veq] at h
    split at h
    · rename_i hd
      split at h
      · simp only [Option.some.injEq] at h; subst h; simp only [VR] at hv hu; subst hv hu; exact run_equalIn_bool x.w n t _ _ hd
      · cases h
    · rename_i hd
      split at h
      · split at h
        · rename_i hk; subst hk
          simp only [Option.some.injEq] at h; subst h; simp only [VR] at hv hu; subst hv hu; exact run_equalIn_int x.w n t _ _ _ _ hd
        · cases h
      · cases h
    · rename_i hd
      split at h
      · simp only [Option.some.injEq] at h; subst h; simp only [VR] at hv hu; subst hv hu; exact run_equalIn_string x.w n t _ _ hd
      · cases h
    · rename_i fs hd
      split at h
      · rename_i cs ds
        split at h
        · rename_i hp
          obtain ⟨l, rfl, hl⟩ := hv
          obtain ⟨m, rfl, hm⟩ := hu
          have hfs : x.P.fieldsOf t = fs := by unfold Program.fieldsOf; rw [hd]
          rw [run_equalIn_struct x.w n t _ _ (by rw [hfs]; exact hd) hp, hfs]
          exact veqF_ok (fun t c e r v u h1 h2 h3 => veq_ok d n t c e r v u (by omega) h1 h2 h3) _ _ _ _ _ _ h hl hm
        · cases h
      · cases h
    · cases h
def vbinx (P : Program) (op : BinOp) (t : TypeId) (c d : V) : Option V :=
  match c with
  | .i _ _ => vbin op c d
  | .s _ => vbin op c d
  | _ => match op with
    | .eql => match P.eqGuardType P.depth t with
      | false => (veq P 8 t c d).bind fun r => some (.b r)
      | true => none
    | .neq => match P.eqGuardType P.depth t with
      | false => (veq P 8 t c d).bind fun r => some (.b (!r))
      | true => none
    | _ => none
theorem run_eqGuard_gen {P : Program} {w : World} {op : BinOp} {t : TypeId} {p q : Operand} {v u : Value} (hm : P.eqGuardType P.depth t = false) (hv : (∃ b, v = .bool b) ∨ (∃ a, v = .agg a)) : (eqGuard op t p q v u).run P w = .ok () w := by
  rcases hv with ⟨b, rfl⟩ | ⟨b, rfl⟩
  · cases op <;> simp [eqGuard]
  · cases op <;> cases u <;> simp [eqGuard, run_program, hm]
theorem run_eql_gen {P : Program} {w : World} {t : TypeId} {v u : Value} {r : Bool} (hv : (∃ b, v = .bool b) ∨ (∃ a, v = .agg a)) (h : (Op.equal t v u).run P w = .ok r w) :
    (binOp .eql t v u).run P w = .ok (.bool r) w ∧ (binOp .neq t v u).run P w = .ok (.bool (!r)) w := by
  rcases hv with ⟨b, rfl⟩ | ⟨b, rfl⟩ <;> constructor <;> simp only [binOp] <;> simp [h]
theorem vbinx_ok {x : Cx} {op : BinOp} {t : TypeId} {p q : Operand} {c d r : V} {v u : Value} (h : vbinx x.P op t c d = some r) (hv : VR x c v) (hu : VR x d u) :
    ∃ z, (do eqGuard op t p q v u; binOp op t v u : Sem Value).run x.P x.w = .ok z x.w ∧ VR x r z := by
  unfold vbinx at h
  split at h
  · exact vbin_ok h hv hu
  · exact vbin_ok h hv hu
  · have shape : ∀ b, veq x.P 8 t c d = some b → (∃ b, v = .bool b) ∨ (∃ a, v = .agg a) := by
      intro b hb
      cases c with
      | i k n => exact absurd rfl (by rename_i h1 h2; exact h1 k n)
      | s a => exact absurd rfl (by rename_i h1 h2; exact h2 a)
      | b t => exact .inl ⟨_, hv⟩
      | agg cs => obtain ⟨l, rfl, _⟩ := hv; exact .inr ⟨_, rfl⟩
      | _ =>
        exfalso
        simp only [veq] at hb
        split at hb <;> simp at hb
    split at h
    · split at h
      · rename_i hm
        cases hb : veq x.P 8 t c d with
        | none => rw [hb] at h; cases h
        | some b =>
          rw [hb] at h
          simp only [Option.bind_some, Option.some.injEq] at h
          subst h
          have hs := shape b hb
          have he := veq_ok 8 Op.maxDepth t c d b v u (by decide) hb hv hu
          have hg := (run_eql_gen hs he).1
          refine ⟨_, ?_, rfl⟩
          simp only [Sem.run_bind, run_eqGuard_gen hm hs, Result.andThen_ok, hg]
      · cases h
    · split at h
      · rename_i hm
        cases hb : veq x.P 8 t c d with
        | none => rw [hb] at h; cases h
        | some b =>
          rw [hb] at h
          simp only [Option.bind_some, Option.some.injEq] at h
          subst h
          have hs := shape b hb
          have he := veq_ok 8 Op.maxDepth t c d b v u (by decide) hb hv hu
          have hg := (run_eql_gen hs he).2
          refine ⟨_, ?_, rfl⟩
          simp only [Sem.run_bind, run_eqGuard_gen hm hs, Result.andThen_ok, hg]
      · cases h
    · cases h
end Go.Proofs.Ytcpicekmnkjceaa.VI

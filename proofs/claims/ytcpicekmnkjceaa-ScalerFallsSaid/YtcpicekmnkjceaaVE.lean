import Derived.Test.YtcpicekmnkjceaaVD
namespace Go.Proofs.Ytcpicekmnkjceaa.VI
set_option linter.unusedVariables false
set_option linter.unusedSimpArgs false

def oint (d : Int) : Option V → Option Int
  | none => some d
  | some (.i _ a) => some a
  | some _ => none
def OR (x : Cx) : Option V → Option Value → Prop
  | none, none => True
  | some c, some v => VR x c v
  | _, _ => False
theorem run_bound {P : Program} {w : World} {k : IntKind} {i : Int} {y : Nat} {code : BoundsCode} (h : 0 ≤ i ∧ i ≤ y) : (Instr.sliceBound (.int k i) y code).run P w = .ok i.toNat w := by
  simp [Instr.sliceBound, asIntOf, h]
theorem run_bounds {x : Cx} {isS : Bool} {n cap : Nat} {lo hi : Option V} {lv hv : Option Value} {l h : Int} (hl : oint 0 lo = some l) (hh : oint n hi = some h) (rl : OR x lo lv) (rh : OR x hi hv) (b : 0 ≤ l ∧ l ≤ h ∧ h ≤ n) (hc : n ≤ cap) :
    (Instr.sliceBounds isS n cap lv hv none).run x.P x.w = .ok (l.toNat, h.toNat, cap) x.w := by
  have key : ∀ (d : Nat) (o : Option V) (ov : Option Value) (r : Int), oint d o = some r → OR x o ov → (o = none ∧ ov = none ∧ r = d) ∨ ∃ k, ov = some (.int k r) := by
    intro d o ov r h1 h2
    cases o with
    | none =>
      cases ov with
      | none => simp [oint] at h1; exact .inl ⟨rfl, rfl, h1.symm⟩
      | some v => exact h2.elim
    | some c =>
      cases ov with
      | none => exact h2.elim
      | some v =>
        cases c with
        | i k a =>
          simp [oint] at h1; subst h1
          exact .inr ⟨k, by rw [show v = .int k a from h2]⟩
        | _ => simp [oint] at h1
  unfold Instr.sliceBounds
  rcases key 0 lo lv l hl rl with ⟨_, rfl, rfl⟩ | ⟨k, rfl⟩ <;> rcases key n hi hv h hh rh with ⟨_, rfl, rfl⟩ | ⟨k', rfl⟩
  · simp
  · simp [run_bound (show 0 ≤ h ∧ h ≤ (cap : Nat) by omega)]
  · simp [run_bound (show 0 ≤ l ∧ l ≤ (n : Nat) by omega)]
  · simp [run_bound (show 0 ≤ h ∧ h ≤ (cap : Nat) by omega), run_bound (show 0 ≤ l ∧ l ≤ (h.toNat : Nat) by omega)]

def vslice (P : Program) (h : Heap) (t : TypeId) (c : V) (lo hi mx : Option V) : Option V :=
  match P.underlying t with
  | some (.slice elem) => match szOf P elem with
    | some (z + 1) => match mx with
      | none => match c with
        | .sl n s cs => if s = z + 1 then (match oint 0 lo, oint n hi with
          | some l, some m => if 0 ≤ l ∧ l ≤ m ∧ m ≤ n then some (.sl (m.toNat - l.toNat) s ((cs.drop (l.toNat * s)).take ((m.toNat - l.toNat) * s))) else none
          | _, _ => none) else none
        | .si n k xs => if 1 = z + 1 then (match oint 0 lo, oint n hi with
          | some l, some m => if 0 ≤ l ∧ l ≤ m ∧ m ≤ n then some (.si (m.toNat - l.toNat) k ((xs.drop l.toNat).take (m.toNat - l.toNat))) else none
          | _, _ => none) else none
        | .sr n s g => if s = z + 1 then (match oint 0 lo, oint n hi with
          | some l, some m => if 0 ≤ l ∧ l ≤ m ∧ m ≤ n then some (.sr (m.toNat - l.toNat) s (fun j => g (l.toNat + j))) else none
          | _, _ => none) else none
        | .own id gen off n s => if s = z + 1 ∧ cur h id gen = true then (match oint 0 lo, oint n hi with
          | some l, some m => if 0 ≤ l ∧ l ≤ m ∧ m ≤ n then some (.own id gen (off + l.toNat * s) (m.toNat - l.toNat) s) else none
          | _, _ => none) else none
        | _ => none
      | some (.i _ m) => match lo, hi with
        | none, some (.i _ b) => if m = 0 ∧ b = 0 then (match c with
          | .sl _ _ _ => some .nils
          | .si _ _ _ => some .nils
          | .sr _ _ _ => some .nils
          | .own id gen _ _ _ => if cur h id gen = true then some .nils else none
          | .nils => some .nils
          | _ => none) else none
        | _, _ => none
      | _ => none
    | _ => none
  | some .string => match c, mx with
    | .s a, none => match oint 0 lo, oint a.size hi with
      | some l, some m => if 0 ≤ l ∧ l ≤ m ∧ m ≤ a.size then some (.s (a.extract l.toNat m.toNat)) else none
      | _, _ => none
    | _, _ => none
  | _ => none
theorem vslice_ok {x : Cx} {t : TypeId} {c r : V} {lo hi mx : Option V} {v : Value} {lv hv mv : Option Value} (h : vslice x.P x.h t c lo hi mx = some r) (hc : VR x c v) (rl : OR x lo lv) (rh : OR x hi hv) (rm : OR x mx mv) :
    ∃ z, (Instr.sliceAt t v lv hv mv).run x.P x.w = .ok z x.w ∧ VR x r z := by
  unfold vslice at h
  split at h
  · rename_i elem hu
    unfold Instr.sliceAt
    simp only [Sem.run_bind, run_underlying hu, Result.andThen_ok]
    unfold Instr.slice
    simp only [Sem.run_bind, run_underlying hu, Result.andThen_ok]
    split at h
    · rename_i z hz
      have hz' := run_szOf hz x.w
      split at h
      · have : mv = none := by cases mv with
          | none => rfl
          | some _ => exact rm.elim
        subst this
        split at h
        · rename_i n s cs
          obtain ⟨a, cap, rfl, hcap, hp, hr⟩ := hc
          split at h
          · rename_i hs; subst hs
            split at h
            · rename_i l m hl hm
              split at h
              · rename_i hb
                simp only [Option.some.injEq] at h; subst h
                simp only [Sem.run_bind, run_bounds hl hm rl rh hb hcap, Result.andThen_ok, hz', Sem.run_pure]
                refine ⟨_, rfl, _, _, rfl, by omega, hp, ?_⟩
                by_cases h0 : m.toNat - l.toNat = 0
                · exact .inl h0
                · rcases hr with h1 | ⟨bk, off, rfl, ho, hn, hs⟩
                  · omega
                  · refine .inr ⟨bk, off + l.toNat * (z + 1), ?_, ho, ?_, (hs.drop _).take _⟩
                    · rw [if_neg (by omega)]; simp [addr_add]
                    · have e1 : m.toNat * (z + 1) ≤ n * (z + 1) := Nat.mul_le_mul_right _ (by omega)
                      rw [List.length_take, List.length_drop, Nat.sub_mul]
                      have e2 : l.toNat * (z + 1) ≤ m.toNat * (z + 1) := Nat.mul_le_mul_right _ (by omega)
                      omega
              · cases h
            · cases h
          · cases h
        · rename_i n k xs
          obtain ⟨a, cap, rfl, hcap, hr⟩ := hc
          split at h
          · rename_i hs
            split at h
            · rename_i l m hl hm
              split at h
              · rename_i hb
                simp only [Option.some.injEq] at h; subst h
                simp only [Sem.run_bind, run_bounds hl hm rl rh hb hcap, Result.andThen_ok, hz', Sem.run_pure]
                refine ⟨_, rfl, _, _, rfl, by omega, ?_⟩
                by_cases h0 : m.toNat - l.toNat = 0
                · exact .inl h0
                · rcases hr with h1 | ⟨bk, off, rfl, ho, hn, hs⟩
                  · omega
                  · refine .inr ⟨bk, off + l.toNat, ?_, ho, ?_, fun j e hj he => ?_⟩
                    · rw [if_neg (by omega)]; simp [addr_add, show z = 0 by omega]
                    · rw [List.length_take, List.length_drop]; omega
                    · rw [List.getElem?_take, if_pos hj, List.getElem?_drop] at he
                      have := hs (l.toNat + j) e (by omega) he
                      rwa [← Nat.add_assoc] at this
              · cases h
            · cases h
          · cases h
        · rename_i n s g
          obtain ⟨a, cap, rfl, hcap, hp, hr⟩ := hc
          split at h
          · rename_i hs; subst hs
            split at h
            · rename_i l m hl hm
              split at h
              · rename_i hb
                simp only [Option.some.injEq] at h; subst h
                simp only [Sem.run_bind, run_bounds hl hm rl rh hb hcap, Result.andThen_ok, hz', Sem.run_pure]
                refine ⟨_, rfl, _, _, rfl, by omega, hp, ?_⟩
                by_cases h0 : m.toNat - l.toNat = 0
                · exact .inl h0
                · rcases hr with h1 | ⟨bk, off, rfl, ho, hs⟩
                  · omega
                  · refine .inr ⟨bk, off + l.toNat * (z + 1), ?_, ho, fun j hj => ?_⟩
                    · rw [if_neg (by omega)]; simp [addr_add]
                    · have := hs (l.toNat + j) (by omega)
                      rw [Nat.add_mul, ← Nat.add_assoc] at this
                      exact this
              · cases h
            · cases h
          · cases h
        · rename_i id gen off n s
          split at h
          · rename_i hscu
            obtain ⟨hs, hcu⟩ := hscu
            subst hs
            obtain ⟨o, cap, rfl, hcap, hr⟩ := cur_own hcu hc
            split at h
            · rename_i l m hl hm
              split at h
              · rename_i hb
                simp only [Option.some.injEq] at h; subst h
                simp only [Sem.run_bind, run_bounds hl hm rl rh hb hcap, Result.andThen_ok, hz', Sem.run_pure]
                obtain ⟨_, bk, hbk, _, hq⟩ := hc
                have hcu' := hcu
                simp [cur, hbk] at hcu'
                have hlen : 0 < z + 1 ∧ (n = 0 ∨ off + n * (z + 1) ≤ bk.cs.length) := by
                  obtain ⟨_, _, _, _, q, _⟩ := hq hcu'.1.symm hcu'.2
                  exact q
                refine ⟨_, rfl, by split <;> rfl, bk, hbk, by omega, fun _ _ => ?_⟩
                have hlen' : 0 < z + 1 ∧ (m.toNat - l.toNat = 0 ∨ off + l.toNat * (z + 1) + (m.toNat - l.toNat) * (z + 1) ≤ bk.cs.length) := by
                  refine ⟨by omega, ?_⟩
                  rcases hlen.2 with h0 | h0
                  · exact .inl (by omega)
                  · refine .inr ?_
                    have e1 : l.toNat * (z + 1) + (m.toNat - l.toNat) * (z + 1) = m.toNat * (z + 1) := by
                      rw [← Nat.add_mul]; congr 1; omega
                    have e2 : m.toNat * (z + 1) ≤ n * (z + 1) := Nat.mul_le_mul_right _ (by omega)
                    omega
                by_cases hl0 : cap = l.toNat
                · rw [if_pos hl0]
                  refine ⟨o, _, rfl, by omega, hlen', ?_⟩
                  by_cases hl1 : l.toNat = 0
                  · rcases hr with ⟨h1, h2⟩ | ⟨h1, el, tot, h2, h3⟩
                    · exact .inl ⟨by omega, by omega⟩
                    · exact .inr ⟨by rw [hl1]; omega, el, tot, h2, by rw [hl1]; simpa using h3⟩
                  · exact .inl ⟨by omega, by have : 0 < l.toNat * (z + 1) := Nat.mul_pos (by omega) (by omega); omega⟩
                · rw [if_neg hl0]
                  refine ⟨o + l.toNat * (z + 1), cap - l.toNat, by simp [addr_add], by omega, hlen', ?_⟩
                  rcases hr with ⟨h1, h2⟩ | ⟨h1, el, tot, h2, h3⟩
                  · exact .inl ⟨by omega, by omega⟩
                  · refine .inr ⟨by omega, el, tot, h2, ?_⟩
                    have : (cap - l.toNat) * (z + 1) + l.toNat * (z + 1) = cap * (z + 1) := by
                      rw [← Nat.add_mul, Nat.sub_add_cancel (by omega)]
                    omega
              · cases h
            · cases h
          · cases h
        · cases h
      · rename_i k m
        have : mv = some (.int k m) := by
          cases mv with
          | none => exact rm.elim
          | some u => rw [show u = .int k m from rm]
        subst this
        split at h
        · rename_i k' b
          have e1 : lv = none := by cases lv with
            | none => rfl
            | some _ => exact rl.elim
          have e2 : hv = some (.int k' b) := by
            cases hv with
            | none => exact rh.elim
            | some u => rw [show u = .int k' b from rh]
          subst e1 e2
          split at h
          · rename_i hmb
            obtain ⟨rfl, rfl⟩ := hmb
            have key : ∀ a n cap, v = .slice a n cap → r = .nils → ∃ z, (do
                let (l, h, m) ← Instr.sliceBounds true n cap none (some (.int k' 0)) (some (.int k 0))
                let size ← sizeOf elem
                pure (Value.slice (if m = l then a else a.map (·.add (l * size))) (h - l) (m - l)) : Sem Value).run x.P x.w = .ok z x.w ∧ VR x r z := by
              intro a n cap _ hr
              subst hr
              refine ⟨.slice a 0 0, ?_, a, rfl⟩
              simp [Instr.sliceBounds, Instr.sliceBound, asIntOf, hz']
            split at h
            · simp only [Option.some.injEq] at h; obtain ⟨a, cap, rfl, _⟩ := hc; exact key a _ cap rfl h.symm
            · simp only [Option.some.injEq] at h; obtain ⟨a, cap, rfl, _⟩ := hc; exact key a _ cap rfl h.symm
            · simp only [Option.some.injEq] at h; obtain ⟨a, cap, rfl, _⟩ := hc; exact key a _ cap rfl h.symm
            · split at h
              · rename_i hcu
                simp only [Option.some.injEq] at h
                obtain ⟨o, cap, rfl, _⟩ := cur_own hcu hc
                exact key _ _ cap rfl h.symm
              · cases h
            · simp only [Option.some.injEq] at h; obtain ⟨a, rfl⟩ := hc; exact key a _ _ rfl h.symm
            · cases h
          · cases h
        · cases h
      · cases h
    · cases h
  · rename_i hu
    unfold Instr.sliceAt
    simp only [Sem.run_bind, run_underlying hu, Result.andThen_ok]
    unfold Instr.slice
    simp only [Sem.run_bind, run_underlying hu, Result.andThen_ok]
    split at h
    · rename_i a
      have : mv = none := by cases mv with
        | none => rfl
        | some _ => exact rm.elim
      subst this
      simp only [VR] at hc; subst hc
      split at h
      · rename_i l m hl hm
        split at h
        · rename_i hb
          simp only [Option.some.injEq] at h; subst h
          refine ⟨_, ?_, rfl⟩
          simp [run_bounds hl hm rl rh hb (Nat.le_refl _)]
        · cases h
      · cases h
    · cases h
  · cases h
end Go.Proofs.Ytcpicekmnkjceaa.VI

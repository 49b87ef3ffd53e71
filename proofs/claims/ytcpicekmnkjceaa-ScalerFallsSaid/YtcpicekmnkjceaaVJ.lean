import Derived.Test.YtcpicekmnkjceaaVI1
namespace Go.Proofs.Ytcpicekmnkjceaa.VI
set_option linter.unusedVariables false
set_option linter.unusedSimpArgs false

/-- The types of a value's cells. -/
def leaves (P : Program) : Nat → TypeId → List TypeId
  | 0, t => [t]
  | d + 1, t => match P.underlying t with
    | some (.struct fs) => (fs.toList.map fun f => leaves P d f.type).flatten
    | some (.array n e) => (List.replicate n (leaves P d e)).flatten
    | _ => [t]
/-- A cell without handles. -/
def bareOk : V → Bool
  | .b _ => true
  | .i _ _ => true
  | .s _ => true
  | .nilp => true
  | .nilf => true
  | .sl _ _ _ => true
  | .si _ _ _ => true
  | .sr _ _ _ => true
  | _ => false
theorem VR_bareOk {x : Cx} {c : V} {v : Value} (hb : bareOk c = true) (h : VR x c v) : VR x.bare c v := by
  cases c <;> simp [bareOk] at hb <;> exact h
def Cx.out (x : Cx) (av : Nat → Prop) : Cx := { x with h := [], av := av }
theorem mono_out {x : Cx} {av : Nat → Prop} (h : ∀ n, av n → x.av n) : Mono x.bare (x.out av) :=
  ⟨rfl, fun id bk hb => by simp [Cx.bare] at hb, fun n _ hn => ⟨fun k => hn (h n k), rfl⟩, Nat.le_refl _⟩
def fzl (f : TypeId → V → Option (V × List Nat)) (all : List TypeId) : List TypeId → List V → Option (List V × List Nat)
  | _, [] => some ([], [])
  | [], c :: cs => match all with
    | [] => none
    | t :: ts => match f t c, fzl f all ts cs with
      | some (r, i1), some (rs, i2) => some (r :: rs, i1 ++ i2)
      | _, _ => none
  | t :: ts, c :: cs => match f t c, fzl f all ts cs with
      | some (r, i1), some (rs, i2) => some (r :: rs, i1 ++ i2)
      | _, _ => none
/-- A cell as it is told to others: (what it is then, the blocks that it leads to). -/
def fzc (P : Program) (h : Heap) : Nat → TypeId → V → Option (V × List Nat)
  | 0, _, _ => none
  | d + 1, t, c => match c with
    | .own id gen off n sz => match blkOf h id gen with
      | none => none
      | some b => match b.d with
        | .ints k xs => if sz = 1 then some (.si n k (xs.drop off), [id]) else none
        | .list cs => match P.underlying t with
          | some (.slice el) => match fzl (fzc P h d) (leaves P 8 el) (leaves P 8 el) (cs.drop off) with
            | some (ds, ids) => some (.sl n sz ds, id :: ids)
            | none => none
          | _ => none
    | .nils => match P.underlying t with
      | some (.slice el) => match P.underlying el with
        | some (.int k) => some (.si 0 k [], [])
        | _ => match szOf P el with
          | some (s + 1) => some (.sl 0 (s + 1) [], [])
          | _ => none
      | _ => none
    | .fn f [] => some (.fn f [], [])
    | c => if bareOk c = true then some (c, []) else none
/-- A value as it is told to others. -/
def fzv (P : Program) (h : Heap) (t : TypeId) : V → Option (V × List Nat)
  | .agg cs => match fzl (fzc P h 6) (leaves P 8 t) (leaves P 8 t) cs with
    | some (ds, ids) => some (.agg ds, ids)
    | none => none
  | c => fzc P h 6 t c
theorem fzl_ok {x y : Cx} {f : TypeId → V → Option (V × List Nat)} {S : List Nat → Prop} (hS : ∀ a b, S (a ++ b) → S a ∧ S b) (hf : ∀ t c r i, f t c = some (r, i) → S i → ∀ v, VR x c v → VR y r v) (all : List TypeId) :
    ∀ (ts : List TypeId) (cs rs : List V) (i : List Nat), fzl f all ts cs = some (rs, i) → S i → ∀ l, VRs x cs l → VRs y rs l
  | _, [], rs, i, h, _, l, hl => by simp [fzl] at h; obtain ⟨rfl, rfl⟩ := h; exact hl
  | [], c :: cs, rs, i, h, hs, l, hl => by
    obtain ⟨v, vs, rfl, h1, h2⟩ := hl
    simp only [fzl] at h
    cases all with
    | nil => simp at h
    | cons t ts =>
      simp only at h
      split at h
      · rename_i r i1 rs' i2 e1 e2
        simp only [Option.some.injEq, Prod.mk.injEq] at h; obtain ⟨rfl, rfl⟩ := h
        obtain ⟨s1, s2⟩ := hS _ _ hs
        exact ⟨v, vs, rfl, hf _ _ _ _ e1 s1 v h1, fzl_ok hS hf (t :: ts) ts cs _ _ e2 s2 vs h2⟩
      · cases h
  | t :: ts, c :: cs, rs, i, h, hs, l, hl => by
    obtain ⟨v, vs, rfl, h1, h2⟩ := hl
    simp only [fzl] at h
    split at h
    · rename_i r i1 rs' i2 e1 e2
      simp only [Option.some.injEq, Prod.mk.injEq] at h; obtain ⟨rfl, rfl⟩ := h
      obtain ⟨s1, s2⟩ := hS _ _ hs
      exact ⟨v, vs, rfl, hf _ _ _ _ e1 s1 v h1, fzl_ok hS hf all ts cs _ _ e2 s2 vs h2⟩
    · cases h
theorem fzl_cells {x y : Cx} {f : TypeId → V → Option (V × List Nat)} {S : List Nat → Prop} (hS : ∀ a b, S (a ++ b) → S a ∧ S b) (hf : ∀ t c r i, f t c = some (r, i) → S i → ∀ v, VR x c v → VR y r v) (hw : y.w = x.w) (all : List TypeId) :
    ∀ (ts : List TypeId) (cs rs : List V) (i : List Nat), fzl f all ts cs = some (rs, i) → S i → rs.length = cs.length ∧ ∀ bk off, (∀ j c, cs[j]? = some c → ∃ v, x.w.cell? ⟨bk, off + j, none⟩ = some v ∧ VR x c v) → VRc y rs bk off
  | _, [], rs, i, h, _ => by simp [fzl] at h; obtain ⟨rfl, rfl⟩ := h; exact ⟨rfl, fun _ _ _ => trivial⟩
  | [], c :: cs, rs, i, h, hs => by
    simp only [fzl] at h
    cases all with
    | nil => simp at h
    | cons t ts =>
      simp only at h
      split at h
      · rename_i r i1 rs' i2 e1 e2
        simp only [Option.some.injEq, Prod.mk.injEq] at h; obtain ⟨rfl, rfl⟩ := h
        obtain ⟨s1, s2⟩ := hS _ _ hs
        obtain ⟨k1, k2⟩ := fzl_cells hS hf hw (t :: ts) ts cs _ _ e2 s2
        refine ⟨by simp [k1], fun bk off hc => ⟨?_, k2 bk (off + 1) (fun j d hj => ?_)⟩⟩
        · obtain ⟨v, p, q⟩ := hc 0 c rfl
          exact ⟨v, by rw [hw]; exact p, hf _ _ _ _ e1 s1 v q⟩
        · have := hc (j + 1) d (by simpa using hj)
          rwa [show off + (j + 1) = off + 1 + j by omega] at this
      · cases h
  | t :: ts, c :: cs, rs, i, h, hs => by
    simp only [fzl] at h
    split at h
    · rename_i r i1 rs' i2 e1 e2
      simp only [Option.some.injEq, Prod.mk.injEq] at h; obtain ⟨rfl, rfl⟩ := h
      obtain ⟨s1, s2⟩ := hS _ _ hs
      obtain ⟨k1, k2⟩ := fzl_cells hS hf hw all ts cs _ _ e2 s2
      refine ⟨by simp [k1], fun bk off hc => ⟨?_, k2 bk (off + 1) (fun j d hj => ?_)⟩⟩
      · obtain ⟨v, p, q⟩ := hc 0 c rfl
        exact ⟨v, by rw [hw]; exact p, hf _ _ _ _ e1 s1 v q⟩
      · have := hc (j + 1) d (by simpa using hj)
        rwa [show off + (j + 1) = off + 1 + j by omega] at this
    · cases h
theorem fzc_ok {x : Cx} (hx : HR x) {av : Nat → Prop} (hav : ∀ n, av n → x.av n) : ∀ (d : Nat) (t : TypeId) (c r : V) (i : List Nat), fzc x.P x.h d t c = some (r, i) → (∀ id ∈ i, ∀ b, x.h[id]? = some b → 0 < b.gen → ¬ av (x.ρ id)) → ∀ v, VR x c v → VR (x.out av) r v
  | 0, _, _, _, _, h, _ => by simp [fzc] at h
  | d + 1, t, c, r, i, h, hi => by
    intro v hv
    have hbare : bareOk c = true → some (c, []) = some (r, i) → VR (x.out av) r v := by
      intro hb he
      simp only [Option.some.injEq, Prod.mk.injEq] at he; obtain ⟨rfl, rfl⟩ := he
      exact (VR_bareOk hb hv).mono (mono_out hav)
    cases c with
    | own id gen off n sz =>
      simp only [fzc] at h
      cases hb : blkOf x.h id gen with
      | none => simp [hb] at h
      | some b =>
        simp only [hb] at h
        obtain ⟨h1, h2, h3, h4⟩ := blkOf_spec hb
        obtain ⟨_, bk, g1, _, g3⟩ := hv
        rw [h1] at g1; injection g1 with g1; subst g1
        obtain ⟨o, cap, rfl, q1, q2, q3⟩ := g3 h2.symm h3
        have hcell := fun j c hj => block_cell hx h1 (by omega) j c hj
        split at h
        · rename_i k xs hd
          split at h
          · rename_i hs; subst hs
            simp only [Option.some.injEq, Prod.mk.injEq] at h; obtain ⟨rfl, rfl⟩ := h
            refine ⟨_, cap, rfl, q1, ?_⟩
            rcases q3 with ⟨p1, _⟩ | ⟨rfl, _⟩
            · exact .inl p1
            · rcases q2.2 with p1 | p1
              · exact .inl p1
              · have hlen : b.cs.length = xs.length := by simp [Blk.cs, hd, D.toV]
                refine .inr ⟨x.ρ id, o, rfl, hi id (by simp) b h1 (by omega), by rw [List.length_drop]; omega, fun j e hj he => ?_⟩
                rw [List.getElem?_drop] at he
                obtain ⟨z, z1, z2⟩ := hcell (o + j) (.i k e) (by simp [Blk.cs, hd, D.toV, he])
                simp only [VR] at z2; subst z2
                exact z1
          · cases h
        · rename_i cs hd
          split at h
          · rename_i el hu
            split at h
            · rename_i ds ids hf
              simp only [Option.some.injEq, Prod.mk.injEq] at h; obtain ⟨rfl, rfl⟩ := h
              by_cases hn : n = 0
              · subst hn
                exact ⟨_, cap, rfl, q1, q2.1, .inl rfl⟩
              · rcases q3 with ⟨p1, _⟩ | ⟨rfl, _⟩
                · exact absurd p1 hn
                · obtain ⟨p0, p1⟩ := q2
                  rcases p1 with p1 | p1
                  · exact absurd p1 hn
                  · have hlen : b.cs.length = cs.length := by simp [Blk.cs, hd, D.toV]
                    obtain ⟨k1, k2⟩ := fzl_cells (y := x.out av) (S := fun i => ∀ id ∈ i, ∀ b, x.h[id]? = some b → 0 < b.gen → ¬ av (x.ρ id)) (fun a b h => ⟨fun id hid => h id (List.mem_append_left _ hid), fun id hid => h id (List.mem_append_right _ hid)⟩)
                      (fun t c r i e s => fzc_ok hx hav d t c r i e s) rfl _ _ _ _ _ hf (fun id hid => hi id (List.mem_cons_of_mem _ hid))
                    refine ⟨_, cap, rfl, q1, p0, .inr ⟨x.ρ id, o, rfl, hi id (by simp) b h1 (by omega), ?_, ?_⟩⟩
                    · rw [k1, List.length_drop]; omega
                    · exact k2 (x.ρ id) o (fun j c hj => by
                        rw [List.getElem?_drop] at hj
                        exact hcell (o + j) c (by simpa [Blk.cs, hd, D.toV] using hj))
            · cases h
          · cases h
    | nils =>
      simp only [fzc] at h
      obtain ⟨a, rfl⟩ := hv
      split at h
      · split at h
        · simp only [Option.some.injEq, Prod.mk.injEq] at h; obtain ⟨rfl, rfl⟩ := h
          exact ⟨a, 0, rfl, Nat.le_refl _, .inl rfl⟩
        · split at h
          · simp only [Option.some.injEq, Prod.mk.injEq] at h; obtain ⟨rfl, rfl⟩ := h
            exact ⟨a, 0, rfl, Nat.le_refl _, by omega, .inl rfl⟩
          · cases h
      · cases h
    | fn f caps =>
      cases caps with
      | nil => simp only [fzc, Option.some.injEq, Prod.mk.injEq] at h; obtain ⟨rfl, rfl⟩ := h; exact hv
      | cons c cs => simp [fzc, bareOk] at h
    | b t' => exact hbare rfl (by simpa [fzc, bareOk] using h)
    | i k n => exact hbare rfl (by simpa [fzc, bareOk] using h)
    | s b => exact hbare rfl (by simpa [fzc, bareOk] using h)
    | nilp => exact hbare rfl (by simpa [fzc, bareOk] using h)
    | nilf => exact hbare rfl (by simpa [fzc, bareOk] using h)
    | sl n sz cs => exact hbare rfl (by simpa [fzc, bareOk] using h)
    | si n k xs => exact hbare rfl (by simpa [fzc, bareOk] using h)
    | sr n sz g => exact hbare rfl (by simpa [fzc, bareOk] using h)
    | _ => simp [fzc, bareOk] at h
theorem fzv_ok {x : Cx} (hx : HR x) {av : Nat → Prop} (hav : ∀ n, av n → x.av n) {t : TypeId} {c r : V} {i : List Nat} (h : fzv x.P x.h t c = some (r, i)) (hi : ∀ id ∈ i, ∀ b, x.h[id]? = some b → 0 < b.gen → ¬ av (x.ρ id)) {v : Value} (hv : VR x c v) : VR (x.out av) r v := by
  cases c with
  | agg cs =>
    simp only [fzv] at h
    split at h
    · rename_i ds ids hf
      simp only [Option.some.injEq, Prod.mk.injEq] at h; obtain ⟨rfl, rfl⟩ := h
      obtain ⟨l, rfl, hl⟩ := hv
      exact ⟨l, rfl, fzl_ok (S := fun i => ∀ id ∈ i, ∀ b, x.h[id]? = some b → 0 < b.gen → ¬ av (x.ρ id)) (fun a b h => ⟨fun id hid => h id (List.mem_append_left _ hid), fun id hid => h id (List.mem_append_right _ hid)⟩) (fun t c r i e s => fzc_ok hx hav 6 t c r i e s) _ _ _ _ _ hf hi l hl⟩
    · cases h
  | _ => simp only [fzv] at h; exact fzc_ok hx hav 6 _ _ _ _ h hi v hv
end Go.Proofs.Ytcpicekmnkjceaa.VI

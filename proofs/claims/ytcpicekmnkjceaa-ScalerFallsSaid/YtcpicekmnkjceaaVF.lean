import Derived.Test.YtcpicekmnkjceaaVE
import Derived.Laws.IdiomCopy
namespace Go.Proofs.Ytcpicekmnkjceaa.VI
set_option linter.unusedVariables false
set_option linter.unusedSimpArgs false

/-- vs laid over cs from place o on. -/
def lay {α : Type} : List α → Nat → List α → List α
  | cs, _, [] => cs
  | cs, o, v :: vs => lay (cs.set o v) (o + 1) vs
theorem lay_length {α : Type} : ∀ (vs : List α) (cs : List α) (o : Nat), (lay cs o vs).length = cs.length
  | [], _, _ => rfl
  | v :: vs, cs, o => by simp [lay, lay_length vs]
theorem VRs.lay_ {x : Cx} : ∀ {vs : List V} {us : List Value} {cs : List V} {l : List Value} (o : Nat), VRs x vs us → VRs x cs l → VRs x (lay cs o vs) (lay l o us)
  | [], _, _, _, _, h, k => by subst h; exact k
  | _ :: _, _, _, _, o, h, k => by
    obtain ⟨v, vs, hl, hv, hs⟩ := h
    subst hl
    exact VRs.lay_ (o + 1) hs (k.set o hv)
theorem lay_take {α : Type} : ∀ (vs : List α) (cs : List α) (o n : Nat), o + vs.length ≤ n → (lay cs o vs).take n = lay (cs.take n) o vs
  | [], _, _, _, _ => rfl
  | v :: vs, cs, o, n, h => by
    simp only [lay]
    rw [lay_take vs _ _ _ (by simp at h; omega), List.take_set]

theorem fill_lay (cells : Array Value) (off : Nat) : ∀ (vs : List Value) (k : Nat) (l : List Value), (vs.zipIdx k).foldl (fun cs (c, j) => cs.setIfInBounds (off + j) c) l.toArray = (lay l (off + k) vs).toArray
  | [], _, _ => rfl
  | v :: vs, k, l => by
    simp only [List.zipIdx_cons, List.foldl_cons, lay]
    have := fill_lay cells off vs (k + 1) (l.set (off + k) v)
    rw [show off + (k + 1) = off + k + 1 by omega] at this
    rw [← this]; simp
/-- A literal's parts. -/
def vfill (place : Nat → Option (Nat × Nat)) (cells : List V) : List (Nat × V) → Option (List V)
  | [] => some cells
  | (i, v) :: rest =>
    match place i with
    | none => none
    | some (off, size) => match vcells v with
      | none => none
      | some vs => if vs.length = size ∧ off + vs.length ≤ cells.length then vfill place (lay cells off vs) rest else none
theorem vfill_ok {x : Cx} {place : Nat → Option (Nat × Nat)} : ∀ (ps : List (Nat × V)) (qs : List (Nat × Value)) (cells : List V) (l : List Value) (r : List V), vfill place cells ps = some r → VRs x cells l →
    (ps.length = qs.length ∧ ∀ (j : Nat) p q, ps[j]? = some p → qs[j]? = some q → p.1 = q.1 ∧ VR x p.2 q.2) → ∃ m : List Value, Instr.fill place l.toArray qs = some m.toArray ∧ VRs x r m
  | [], [], cells, l, r, h, hc, _ => by simp [vfill] at h; subst h; exact ⟨l, rfl, hc⟩
  | [], _ :: _, _, _, _, _, _, hq => by simp at hq
  | _ :: _, [], _, _, _, _, _, hq => by simp at hq
  | (i, v) :: ps, (i', u) :: qs, cells, l, r, h, hc, hq => by
    obtain ⟨hlen, hrel⟩ := hq
    obtain ⟨e1, e2⟩ := hrel 0 (i, v) (i', u) rfl rfl
    simp only at e1 e2
    subst e1
    simp only [vfill] at h
    cases hp : place i with
    | none => simp [hp] at h
    | some pl =>
      obtain ⟨off, size⟩ := pl
      simp only [hp] at h
      cases hv : vcells v with
      | none => simp [hv] at h
      | some vs =>
        simp only [hv] at h
        split at h
        · rename_i hb
          have hcv := VR_cells e2 hv
          have hl1 := hcv.length
          have hl2 := hc.length
          obtain ⟨m, h1, h2⟩ := vfill_ok ps qs (lay cells off vs) (lay l off u.cells.toList) r h (VRs.lay_ off hcv hc) ⟨by simpa using hlen, fun j p q h1 h2 => hrel (j + 1) p q (by simpa using h1) (by simpa using h2)⟩
          refine ⟨m, ?_, h2⟩
          simp only [Instr.fill, hp]
          have s1 : u.cells.size = size := by rw [← Array.length_toList, hl1]; exact hb.1
          have s2 : ¬ off + u.cells.size > l.toArray.size := by
            rw [← Array.length_toList, hl1]; simp [hl2]; omega
          rw [if_neg (by simp [s1]; have := s2; simp [s1] at this; omega)]
          rw [← h1]
          congr 1
          have := fill_lay #[] off u.cells.toList 0 l
          rw [← Array.foldl_toList, Array.toList_zipIdx]
          simpa using this
        · cases h

def zcells (P : Program) (t : TypeId) : Option (List V) :=
  match P.info? t with
  | some i => match i.zero with
    | some z => some (z.cells.toList.map ofCell)
    | none => none
  | none => none
theorem zcells_ok {x : Cx} {t : TypeId} {cs : List V} (h : zcells x.P t = some cs) : ∃ z : Value, (zeroValue t).run x.P x.w = .ok z x.w ∧ VRs x cs z.cells.toList := by
  unfold zcells at h
  split at h
  · rename_i i hi
    split at h
    · rename_i z hz
      simp only [Option.some.injEq] at h; subst h
      refine ⟨z, by simp [zeroValue, typeInfo, hi, hz], ?_⟩
      have := VRs.map (x := x) (fun a => VR_ofCell x a) z.cells.toList
      simpa using this
    · cases h
  · cases h

def fplaces (P : Program) : List Field → Option (List (Nat × Nat))
  | [] => some []
  | f :: fs => match szOf P f.type, fplaces P fs with
    | some n, some l => some ((f.offset, n) :: l)
    | _, _ => none
theorem fplaces_ok {x : Cx} : ∀ (fs : List Field) (l : List (Nat × Nat)), fplaces x.P fs = some l → (fs.mapM (fun f => Prod.mk f.offset <$> sizeOf f.type : Field → Sem (Nat × Nat))).run x.P x.w = .ok l x.w
  | [], l, h => by simp [fplaces] at h; subst h; rfl
  | f :: fs, l, h => by
    simp only [fplaces] at h
    split at h
    · rename_i n l' h1 h2
      simp only [Option.some.injEq] at h; subst h
      simp [List.mapM_cons, run_szOf h1, fplaces_ok fs l' h2]
    · cases h
def vbuild (P : Program) (t : TypeId) (ps : List (Nat × V)) : Option V :=
  match zcells P t with
  | none => none
  | some zs => match P.underlying t with
    | some (.struct fs) => match fplaces P fs.toList with
      | some pl => match vfill (fun i => pl[i]?) zs ps with
        | some cs => some (.agg cs)
        | none => none
      | none => none
    | some (.array _ elem) => match szOf P elem with
      | some sz => match vfill (fun i => some (i * sz, sz)) zs ps with
        | some cs => some (.agg cs)
        | none => none
      | none => none
    | _ => none
theorem vbuild_ok {x : Cx} {t : TypeId} {ps : List (Nat × V)} {qs : Array (Nat × Value)} {r : V} (h : vbuild x.P t ps = some r)
    (hq : ps.length = qs.toList.length ∧ ∀ (j : Nat) p q, ps[j]? = some p → qs.toList[j]? = some q → p.1 = q.1 ∧ VR x p.2 q.2) : ∃ z, (Instr.build t qs).run x.P x.w = .ok z x.w ∧ VR x r z := by
  unfold vbuild at h
  split at h
  · cases h
  · rename_i zs hz
    obtain ⟨z, hz1, hz2⟩ := zcells_ok hz
    unfold Instr.build
    simp only [Sem.run_bind, hz1, Result.andThen_ok]
    split at h
    · rename_i fs hu
      simp only [run_underlying hu, Result.andThen_ok]
      split at h
      · rename_i pl hp
        split at h
        · rename_i cs hf
          simp only [Option.some.injEq] at h; subst h
          obtain ⟨m, h1, h2⟩ := vfill_ok ps qs.toList zs z.cells.toList cs hf hz2 hq
          refine ⟨.agg m.toArray, ?_, m, rfl, h2⟩
          have hm : (fs.mapM (fun f => do pure (f.offset, ← sizeOf f.type) : Field → Sem (Nat × Nat))).run x.P x.w = .ok pl.toArray x.w := by
            rw [Array.mapM_eq_mapM_toList]
            simp [fplaces_ok fs.toList pl hp]
          simp only [Sem.run_bind, hm, Result.andThen_ok]
          have e : (fun i : Nat => pl.toArray[i]?) = (fun i : Nat => pl[i]?) := by funext i; simp
          rw [e]
          simp only [Array.toArray_toList] at h1
          rw [h1]
          rfl
        · cases h
      · cases h
    · rename_i k elem hu
      simp only [run_underlying hu, Result.andThen_ok]
      split at h
      · rename_i sz hs
        split at h
        · rename_i cs hf
          simp only [Option.some.injEq] at h; subst h
          obtain ⟨m, h1, h2⟩ := vfill_ok ps qs.toList zs z.cells.toList cs hf hz2 hq
          refine ⟨.agg m.toArray, ?_, m, rfl, h2⟩
          simp only [Sem.run_bind, run_szOf hs, Result.andThen_ok]
          simp only [Array.toArray_toList] at h1
          rw [h1]
          rfl
        · cases h
      · cases h
    · cases h
end Go.Proofs.Ytcpicekmnkjceaa.VI

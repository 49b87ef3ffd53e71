import Derived.Test.YtcpicekmnkjceaaVG
namespace Go.Proofs.Ytcpicekmnkjceaa.VI
set_option linter.unusedVariables false
set_option linter.unusedSimpArgs false

def zrep (zs : List V) (n : Nat) : List V := (List.range n).map fun j => zs.getD (j % zs.length) .u
theorem zrep_ok {x : Cx} {zs : List V} {z : Value} (h : VRs x zs z.cells.toList) (hz : 0 < zs.length) (n : Nat) : VRs x (zrep zs n) ((Array.range n).map (z.cells[· % z.cells.size]!)).toList := by
  have hl := h.length
  have : ((Array.range n).map (z.cells[· % z.cells.size]!)).toList = (List.range n).map (z.cells[· % z.cells.size]!) := by simp
  rw [this]
  unfold zrep
  apply VRs.map
  intro j
  have hj : j % zs.length < zs.length := Nat.mod_lt _ hz
  obtain ⟨v, hv, hr⟩ := h.get (j % zs.length) (zs[j % zs.length]) (List.getElem?_eq_getElem hj)
  rw [List.getD_eq_getElem?_getD, List.getElem?_eq_getElem hj, Option.getD_some]
  have hs : z.cells.size = zs.length := by rw [← hl]; simp
  rw [hs]
  rw [Array.getElem?_toList] at hv
  rw [Array.getElem!_eq_getD, Array.getD_eq_getD_getElem?, hv]
  exact hr
def vbuildSlice (P : Program) (h : Heap) (id : Nat) (t : TypeId) (len : Nat) (ps : List (Nat × V)) : Option (V × Heap) :=
  match P.underlying t with
  | some (.slice elem) => match szOf P elem, zcells P elem with
    | some (s + 1), some zs => if zs.length = s + 1 ∧ len * (s + 1) ≤ 16777216 ∧ 0 < len ∧ blank h id = true then (match vfill (fun i => some (i * (s + 1), s + 1)) (zrep zs (len * (s + 1))) ps with
      | some cs => some (.own id 1 0 len (s + 1), newb h id elem (mkD P elem cs))
      | none => none) else none
    | _, _ => none
  | _ => none
theorem vfill_length {place : Nat → Option (Nat × Nat)} : ∀ (ps : List (Nat × V)) (cells r : List V), vfill place cells ps = some r → r.length = cells.length
  | [], _, _, h => by simp [vfill] at h; rw [h]
  | (i, v) :: ps, cells, r, h => by
    simp only [vfill] at h
    split at h
    · cases h
    · split at h
      · cases h
      · split at h
        · rw [vfill_length ps _ _ h, lay_length]
        · cases h
theorem vbuildSlice_ok {x : Cx} (hx : HR x) {id : Nat} {t : TypeId} {len : Nat} {ps : List (Nat × V)} {qs : Array (Nat × Value)} {r : V} {h' : Heap} (h : vbuildSlice x.P x.h id t len ps = some (r, h'))
    (hq : ps.length = qs.toList.length ∧ ∀ (j : Nat) p q, ps[j]? = some p → qs.toList[j]? = some q → p.1 = q.1 ∧ VR x p.2 q.2) : Does x (do pure (.value (← Instr.buildSlice t len qs))) r h' := by
  unfold vbuildSlice at h
  split at h
  · rename_i elem hu
    split at h
    · rename_i s zs hs hz
      split at h
      · rename_i hc
        obtain ⟨c1, c2, c3, c4⟩ := hc
        split at h
        · rename_i cs hf
          simp only [Option.some.injEq, Prod.mk.injEq] at h
          obtain ⟨rfl, rfl⟩ := h
          obtain ⟨z, hz1, hz2⟩ := zcells_ok hz
          obtain ⟨m, h1, h2⟩ := vfill_ok ps qs.toList _ _ cs hf (zrep_ok hz2 (by omega) _) hq
          have hm := h2.length
          have hl := vfill_length _ _ _ hf
          have hlen : m.length = len * (s + 1) := by rw [hm, hl]; simp [zrep]
          refine ⟨_, x.new id elem (mkD x.P elem cs) m, ?_, new_to hx c4 elem (by rw [mkD_toV, List.take_of_length_le (by omega)]; exact h2), rfl, rfl, .inl ⟨_, rfl, new_own c4 elem _ m len len (s + 1) (Nat.le_refl _) hlen.symm ⟨by omega, .inr (by rw [mkD_toV]; omega)⟩⟩⟩
          have hne : ¬ (len * (s + 1) > 2 ^ 24) := by omega
          have hn0 : ¬ (len * (s + 1) = 0) := by
            have : 0 < len * (s + 1) := Nat.mul_pos c3 (by omega)
            omega
          simp only [Array.toArray_toList] at h1
          simp only [Instr.buildSlice, Sem.run_bind, run_underlying hu, Result.andThen_ok, run_szOf hs, if_neg hne, if_neg hn0, hz1, Sem.run_pure, h1, run_newRow, Cx.new]
        · cases h
      · cases h
    · cases h
  · cases h
end Go.Proofs.Ytcpicekmnkjceaa.VI

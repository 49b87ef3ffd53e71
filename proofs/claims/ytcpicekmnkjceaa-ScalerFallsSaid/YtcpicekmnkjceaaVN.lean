import Derived.Test.YtcpicekmnkjceaaVL
import Derived.Still
namespace Go.Proofs.Ytcpicekmnkjceaa.VI
set_option linter.unusedVariables false
set_option linter.unusedSimpArgs false

/-- These names' blocks are alike. -/
def agree (T : List Nat) (h2 h : Heap) : Prop := ∀ j ∈ T, h2[j]? = h[j]?
structure Local (T : List Nat) (U : Heap → Heap) : Prop where
  out : ∀ h j, j ∉ T → (U h)[j]? = h[j]?
  inn : ∀ h h2, agree T h2 h → ∀ j ∈ T, (U h2)[j]? = (U h)[j]?
theorem Local.id (T : List Nat) : Local T fun h => h := ⟨fun _ _ _ => rfl, fun _ _ h j hj => h j hj⟩
theorem Local.set (i : Nat) (b : Blk) : Local [i] fun h => h.set i b := by
  refine ⟨fun h j hj => ?_, fun h h2 ha j hj => ?_⟩
  · rw [List.getElem?_set_ne]; intro e; exact hj (by simp [e])
  · have hj : j = i := by simpa using hj
    subst hj
    have := ha j (by simp)
    simp only [List.getElem?_set_self']
    rw [this]
theorem Local.latch (T F : List Nat) (hF : ∀ i ∈ F, i ∈ T) : Local T fun h => latch h F := by
  refine ⟨fun h j hj => ?_, fun h h2 ha j hj => ?_⟩
  · rw [latch_get]
    have : F.contains j = false := by
      cases hc : F.contains j with
      | false => rfl
      | true => exact absurd (hF j (List.contains_iff_mem.1 hc)) hj
    simp only [this, Bool.false_eq_true, if_false]
    cases h[j]? <;> rfl
  · rw [latch_get, latch_get, ha j hj]
theorem Local.comm {T T' : List Nat} {U U' : Heap → Heap} (h1 : Local T U) (h2 : Local T' U') (hd : ∀ i ∈ T, i ∉ T') (h : Heap) : U (U' h) = U' (U h) := by
  apply List.ext_getElem?
  intro j
  by_cases hj : j ∈ T
  · rw [h2.out (U h) j (hd j hj)]
    exact h1.inn h (U' h) (fun i hi => h2.out h i (hd i hi)) j hj
  · rw [h1.out (U' h) j hj]
    by_cases hj' : j ∈ T'
    · exact (h2.inn h (U h) (fun i hi => h1.out h i fun q => hd i q hi) j hj').symm
    · rw [h2.out h j hj', h2.out (U h) j hj', h1.out h j hj]

def hid : V → List Nat
  | .ref id _ _ => [id]
  | .own id _ _ _ _ => [id]
  | _ => []
def hids : V → List Nat
  | .ref id _ _ => [id]
  | .own id _ _ _ _ => [id]
  | .agg cs => (cs.map hid).flatten
  | _ => []
/-- Which blocks an operation looks at; whether it leaves them as they are. -/
def tch (id : Nat) (e : Operand → V) : Op → List Nat × Bool
  | .alloc _ => ([id], false)
  | .box _ _ => ([id], false)
  | .buildSlice _ _ _ => ([id], false)
  | .load _ a => (hid (e a), true)
  | .store _ a _ => (hid (e a), false)
  | .nilCheck a => (hid (e a), true)
  | .slice _ a _ _ _ => (hid (e a), true)
  | .fieldAddr _ a _ => (hid (e a), true)
  | .indexAddr _ a _ => (hid (e a), true)
  | .call { callee := .builtin .len, args := as, argTypes := _ } => ((as.toList.map fun a => hid (e a)).flatten, true)
  | .call { callee := .value _, args := as, argTypes := _ } => ((as.toList.map fun a => hids (e a)).flatten, false)
  | _ => ([], true)

theorem cur_agree {h h2 : Heap} {id : Nat} (he : h2[id]? = h[id]?) (gen : Nat) : cur h2 id gen = cur h id gen := by unfold cur; rw [he]
theorem blkOf_agree {h h2 : Heap} {id : Nat} (he : h2[id]? = h[id]?) (gen : Nat) : blkOf h2 id gen = blkOf h id gen := by unfold blkOf; rw [he]
theorem blank_agree {h h2 : Heap} {id : Nat} (he : h2[id]? = h[id]?) : blank h2 id = blank h id := by unfold blank; rw [he]
theorem vloadAt_agree {P : Program} {h h2 : Heap} {t : TypeId} {c : V} (ha : agree (hid c) h2 h) : vloadAt P h2 t c = vloadAt P h t c := by
  cases c <;> first | rfl | (simp only [vloadAt]; rw [blkOf_agree (ha _ (by simp [hid]))])
theorem vnil_agree {h h2 : Heap} {c : V} (ha : agree (hid c) h2 h) : vnil h2 c = vnil h c := by
  cases c <;> first | rfl | (simp only [vnil]; rw [cur_agree (ha _ (by simp [hid]))])
theorem vlen_agree {P : Program} {h h2 : Heap} {t : TypeId} {c : V} (ha : agree (hid c) h2 h) : vlen P h2 t c = vlen P h t c := by
  cases c with
  | own id gen off n s =>
    have hc := cur_agree (ha id (by simp [hid])) gen
    unfold vlen
    cases P.underlying t with
    | none => rfl
    | some d => cases d with
      | slice el => show (if cur h2 id gen = true then _ else _) = (if cur h id gen = true then _ else _); rw [hc]
      | _ => rfl
  | ref id gen off => unfold vlen; cases P.underlying t with
    | none => rfl
    | some d => cases d <;> rfl
  | _ => unfold vlen; (cases P.underlying t with
    | none => rfl
    | some d => cases d <;> rfl)
theorem vslice_agree {P : Program} {h h2 : Heap} {t : TypeId} {c : V} {lo hi mx : Option V} (ha : agree (hid c) h2 h) : vslice P h2 t c lo hi mx = vslice P h t c lo hi mx := by
  cases c <;> first | rfl | (simp only [vslice]; rw [cur_agree (ha _ (by simp [hid]))])
theorem vfieldAddr_agree {P : Program} {h h2 : Heap} {t : TypeId} {c : V} {f : Nat} (ha : agree (hid c) h2 h) : vfieldAddr P h2 t c f = vfieldAddr P h t c f := by
  cases c <;> first | rfl | (simp only [vfieldAddr]; rw [cur_agree (ha _ (by simp [hid]))])
theorem vindexAddr_agree {P : Program} {h h2 : Heap} {t : TypeId} {c i : V} (ha : agree (hid c) h2 h) : vindexAddr P h2 t c i = vindexAddr P h t c i := by
  cases c <;> first | rfl | (simp only [vindexAddr]; rw [cur_agree (ha _ (by simp [hid]))])

theorem opv_loc {P : Program} {h : Heap} {id : Nat} {e : Operand → V} {op : Op} {r : V} {h1 : Heap} (ho : opv P h id e op = some (r, h1)) :
    ∃ U : Heap → Heap, h1 = U h ∧ Local (tch id e op).1 U ∧ ((tch id e op).2 = true → ∀ g, U g = g) ∧ ∀ h2, agree (tch id e op).1 h2 h → opv P h2 id e op = some (r, U h2) := by
  have quiet : ∀ (X : Heap → Option V), (∀ g, opv P g id e op = (X g).bind fun z => some (z, g)) → (∀ h2, agree (tch id e op).1 h2 h → X h2 = X h) →
      ∃ U : Heap → Heap, h1 = U h ∧ Local (tch id e op).1 U ∧ ((tch id e op).2 = true → ∀ g, U g = g) ∧ ∀ h2, agree (tch id e op).1 h2 h → opv P h2 id e op = some (r, U h2) := by
    intro X h3 h4
    rw [h3] at ho
    obtain ⟨h5, rfl⟩ := bind_pair ho
    exact ⟨fun g => g, rfl, Local.id _, fun _ _ => rfl, fun h2 ha => by rw [h3, h4 h2 ha, h5]; rfl⟩
  cases op with
  | alloc t =>
    simp only [opv] at ho
    split at ho
    · rename_i hb
      cases hz : zcells P t with
      | none => simp [hz] at ho
      | some cs =>
        simp only [hz, Option.bind_some, Option.some.injEq, Prod.mk.injEq] at ho
        obtain ⟨rfl, rfl⟩ := ho
        refine ⟨fun g => newb g id t (mkD P t cs), rfl, Local.set _ _, fun h => by simp [tch] at h, fun h2 ha => ?_⟩
        simp only [opv, blank_agree (ha id (by simp [tch])), hb, if_true, hz, Option.bind_some]
    · cases ho
  | box t a =>
    simp only [opv] at ho
    split at ho
    · rename_i hb
      cases hz : vcells (e a) with
      | none => simp [hz] at ho
      | some cs =>
        simp only [hz, Option.bind_some, Option.some.injEq, Prod.mk.injEq] at ho
        obtain ⟨rfl, rfl⟩ := ho
        refine ⟨fun g => newb g id t (mkD P t cs), rfl, Local.set _ _, fun h => by simp [tch] at h, fun h2 ha => ?_⟩
        simp only [opv, blank_agree (ha id (by simp [tch])), hb, if_true, hz, Option.bind_some]
    · cases ho
  | buildSlice t len ps =>
    simp only [opv, vbuildSlice] at ho
    split at ho
    · rename_i elem hu
      split at ho
      · rename_i s zs hs hz
        split at ho
        · rename_i hc
          split at ho
          · rename_i cs hf
            simp only [Option.some.injEq, Prod.mk.injEq] at ho
            obtain ⟨rfl, rfl⟩ := ho
            refine ⟨fun g => newb g id elem (mkD P elem cs), rfl, Local.set _ _, fun h => by simp [tch] at h, fun h2 ha => ?_⟩
            simp only [opv, vbuildSlice, hu, hs, hz, blank_agree (ha id (by simp [tch])), hf]
            rw [if_pos hc]
          · cases ho
        · cases ho
      · cases ho
    · cases ho
  | store t a c =>
    simp only [opv] at ho
    cases hs : vstoreAt P h t (e a) (e c) with
    | none => simp [hs] at ho
    | some g =>
      simp only [hs, Option.bind_some, Option.some.injEq, Prod.mk.injEq] at ho
      obtain ⟨rfl, rfl⟩ := ho
      unfold vstoreAt at hs
      split at hs
      · rename_i i gen off hea
        split at hs
        · rename_i b vs n hb hvs hn
          split at hs
          · rename_i hc
            split at hs
            · rename_i d hd
              injection hs with hs
              subst hs
              refine ⟨fun g => g.set i { b with d := d }, rfl, by simp only [tch, hea, hid]; exact Local.set _ _, fun h => by simp [tch] at h, fun h2 ha => ?_⟩
              simp only [opv, vstoreAt, hea, blkOf_agree (ha i (by simp [tch, hea, hid])), hb, hvs, hn, if_pos hc, hd, Option.bind_some]
            · cases hs
          · cases hs
        · cases hs
      · cases hs
  | load t a => exact quiet (fun g => vloadAt P g t (e a)) (fun _ => rfl) fun h2 ha => vloadAt_agree ha
  | nilCheck a => exact quiet (fun g => vnil g (e a)) (fun _ => rfl) fun h2 ha => vnil_agree ha
  | slice t a lo hi mx => exact quiet (fun g => vslice P g t (e a) (lo.map e) (hi.map e) (mx.map e)) (fun _ => rfl) fun h2 ha => vslice_agree ha
  | fieldAddr t a f => exact quiet (fun g => vfieldAddr P g t (e a) f) (fun _ => rfl) fun h2 ha => vfieldAddr_agree ha
  | indexAddr t a i => exact quiet (fun g => vindexAddr P g t (e a) (e i)) (fun _ => rfl) fun h2 ha => vindexAddr_agree ha
  | move a => exact quiet (fun _ => some (e a)) (fun _ => rfl) fun _ _ => rfl
  | assign a => exact quiet (fun _ => some (e a)) (fun _ => rfl) fun _ _ => rfl
  | pick c a b => exact quiet (fun _ => vpick (e c) (e a) (e b)) (fun _ => rfl) fun _ _ => rfl
  | build t ps => exact quiet (fun _ => vbuild P t (ps.toList.map fun p => (p.1, e p.2))) (fun _ => rfl) fun _ _ => rfl
  | binOp o t a b t2 => exact quiet (fun _ => vbinx P o t (e a) (e b)) (fun _ => rfl) fun _ _ => rfl
  | unOp o t a => exact quiet (fun _ => vun o (e a)) (fun _ => rfl) fun _ _ => rfl
  | convert s d a => exact quiet (fun _ => vconv P s d (e a)) (fun _ => rfl) fun _ _ => rfl
  | field s a f => exact quiet (fun _ => vfield P s (e a) f) (fun _ => rfl) fun _ _ => rfl
  | index t a i => exact quiet (fun _ => vindex P t (e a) (e i)) (fun _ => rfl) fun _ _ => rfl
  | extract a i => exact quiet (fun _ => vextract (e a) i) (fun _ => rfl) fun _ _ => rfl
  | makeFunc k first caps =>
    cases k with
    | func f => exact quiet (fun _ => if first.size = 0 then some (.fn f (caps.toList.map e)) else none) (fun g => by simp only [opv]; split <;> rfl) fun _ _ => rfl
    | _ => simp [opv] at ho
  | call c =>
    obtain ⟨callee, as, ts⟩ := c
    cases callee with
    | builtin b =>
      cases b with
      | len =>
        refine quiet (fun g => match as.toList, ts[0]? with | [a], some t => vlen P g t (e a) | _, _ => none) (fun g => by simp only [opv]; generalize as.toList = l; generalize ts[0]? = o; rcases l with _ | ⟨a, _ | _⟩ <;> cases o <;> rfl) fun h2 ha => ?_
        split
        · rename_i a t h3 h4
          exact vlen_agree fun j hj => ha j (by simp [tch, h3, hj])
        · rfl
      | min => exact quiet (fun _ => match as.toList.map e with | .i k m :: l => vmin k m l | _ => none) (fun g => by simp only [opv]; generalize as.toList.map e = l; rcases l with _ | ⟨c, l⟩ <;> (try rfl); cases c <;> rfl) fun _ _ => rfl
      | max => exact quiet (fun _ => match as.toList.map e with | .i k m :: l => vmax k m l | _ => none) (fun g => by simp only [opv]; generalize as.toList.map e = l; rcases l with _ | ⟨c, l⟩ <;> (try rfl); cases c <;> rfl) fun _ _ => rfl
      | _ => simp [opv] at ho
    | _ => simp [opv] at ho
  | _ => simp [opv] at ho
end Go.Proofs.Ytcpicekmnkjceaa.VI

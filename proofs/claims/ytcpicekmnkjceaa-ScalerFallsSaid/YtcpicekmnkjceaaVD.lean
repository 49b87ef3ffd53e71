import Derived.Test.YtcpicekmnkjceaaVBx
namespace Go.Proofs.Ytcpicekmnkjceaa.VI
set_option linter.unusedVariables false
set_option linter.unusedSimpArgs false

def vextract : V → Nat → Option V
  | .tup cs, i => cs[i]?
  | _, _ => none
theorem vextract_ok {x : Cx} {c r : V} {i : Nat} {v : Value} (h : vextract c i = some r) (hv : VR x c v) : ∃ z, (Instr.extract v i).run x.P x.w = .ok z x.w ∧ VR x r z := by
  unfold vextract at h
  split at h
  · obtain ⟨l, rfl, hs⟩ := hv
    obtain ⟨z, h1, h2⟩ := hs.get i r h
    refine ⟨z, ?_, h2⟩
    unfold Instr.extract
    simp [h1]
  · cases h

/-- x[i] of an array's value, or of a string. -/
def vindex (P : Program) (t : TypeId) (c ix : V) : Option V :=
  match ix with
  | .i _ j => match P.underlying t with
    | some (.array len elem) => match c with
      | .agg cs => match szOf P elem with
        | some sz => if 0 ≤ j ∧ j < (len : Int) then vpart P elem cs (j.toNat * sz) else none
        | none => none
      | _ => none
    | some .string => match c with
      | .s a => if 0 ≤ j ∧ j < (a.size : Int) then some (.i .u8 ((a.data.toList.getD j.toNat 0).toNat : Int)) else none
      | _ => none
    | _ => none
  | _ => none
theorem vindex_ok {x : Cx} {t : TypeId} {c ix r : V} {v u : Value} (h : vindex x.P t c ix = some r) (hv : VR x c v) (hu : VR x ix u) : ∃ z, (Instr.index t v u).run x.P x.w = .ok z x.w ∧ VR x r z := by
  unfold vindex at h
  split at h
  · rename_i k j
    simp only [VR] at hu; subst hu
    unfold Instr.index
    simp only [Sem.run_bind, asIntOf, Sem.run_pure, Result.andThen_ok]
    split at h
    · rename_i len elem hd
      simp only [run_underlying hd, Result.andThen_ok]
      split at h
      · rename_i cs
        obtain ⟨l, rfl, hs⟩ := hv
        split at h
        · rename_i sz hz
          split at h
          · rename_i hb
            obtain ⟨z, h1, h2⟩ := vpart_ok h hs
            refine ⟨z, ?_, h2⟩
            simp only [hb, if_true, and_self, Sem.run_bind, run_szOf hz, Result.andThen_ok]
            exact h1
          · cases h
        · cases h
      · cases h
    · rename_i hd
      simp only [run_underlying hd, Result.andThen_ok]
      split at h
      · rename_i a
        simp only [VR] at hv; subst hv
        split at h
        · rename_i hb
          simp only [Option.some.injEq] at h; subst h
          have hlt : j.toNat < a.size := by omega
          have hlt' : j.toNat < a.data.toList.length := by simpa using hlt
          refine ⟨_, ?_, rfl⟩
          simp only [hb.1, if_true]
          rw [show a[j.toNat]? = some (a.data.toList[j.toNat]) by
            rw [getElem?_pos a j.toNat hlt]; rfl]
          simp [List.getD, List.getElem?_eq_getElem hlt']
        · cases h
      · cases h
    · cases h
  · cases h

/-- &x[i]. -/
def vindexAddr (P : Program) (h : Heap) (t : TypeId) (c ix : V) : Option V :=
  match ix with
  | .i _ j => match P.underlying t with
    | some (.slice elem) => match szOf P elem with
      | some sz => match c with
        | .sl n s cs => if s = sz then (if 0 ≤ j ∧ j < (n : Int) then some (.pl ((cs.drop (j.toNat * s)).take s)) else none) else none
        | .si n k xs => if sz = 1 then (if 0 ≤ j ∧ j < (n : Int) then some (.pl [.i k (xs.getD j.toNat 0)]) else none) else none
        | .sr n s g => if s = sz then (if 0 ≤ j ∧ j < (n : Int) then some (.pl (g j.toNat)) else none) else none
        | .own id gen off n s => if s = sz ∧ cur h id gen = true then (if 0 ≤ j ∧ j < (n : Int) then some (.ref id gen (off + j.toNat * s)) else none) else none
        | _ => none
      | none => none
    | some (.array len elem) => match szOf P elem with
      | some sz => match c with
        | .ref id gen off => if cur h id gen = true then (if 0 ≤ j ∧ j < (len : Int) then some (.ref id gen (off + j.toNat * sz)) else none) else none
        | .pl cs => if 0 ≤ j ∧ j < (len : Int) then some (.pl (cs.drop (j.toNat * sz))) else none
        | _ => none
      | none => none
    | _ => none
  | _ => none
theorem vindexAddr_ok {x : Cx} {t : TypeId} {c ix r : V} {v u : Value} (h : vindexAddr x.P x.h t c ix = some r) (hv : VR x c v) (hu : VR x ix u) : ∃ z, (Instr.indexAt t v u).run x.P x.w = .ok z x.w ∧ VR x r z := by
  unfold vindexAddr at h
  split at h
  · rename_i k j
    simp only [VR] at hu; subst hu
    unfold Instr.indexAt
    simp only [Sem.run_bind, asIntOf, Sem.run_pure, Result.andThen_ok]
    split at h
    · rename_i elem hd
      split at h
      · rename_i sz hz
        have hz' := run_szOf hz x.w
        simp only [run_underlying hd, Result.andThen_ok]
        split at h
        · rename_i n s cs
          obtain ⟨a, cap, rfl, hc, hp, hr⟩ := hv
          split at h
          · rename_i hss; subst hss
            split at h
            · rename_i hb
              simp only [Option.some.injEq] at h; subst h
              rcases hr with h0 | ⟨bk, off, rfl, ho, hn, hs⟩
              · omega
              · refine ⟨.pointer (some ⟨bk, off + j.toNat * s, none⟩), ?_, bk, _, rfl, .inr ⟨ho, (hs.drop _).take _⟩⟩
                simp [hb, hz', addr_add, run_underlying hd]
            · cases h
          · cases h
        · rename_i n k xs
          obtain ⟨a, cap, rfl, hc, hr⟩ := hv
          split at h
          · rename_i hss; subst hss
            split at h
            · rename_i hb
              simp only [Option.some.injEq] at h; subst h
              rcases hr with h0 | ⟨bk, off, rfl, ho, hn, hs⟩
              · omega
              · have hj : j.toNat < xs.length := by omega
                refine ⟨.pointer (some ⟨bk, off + j.toNat * 1, none⟩), ?_, bk, _, rfl, .inr ⟨ho, ⟨_, ?_, rfl⟩, trivial⟩⟩
                · simp [hb, hz', addr_add, run_underlying hd]
                · have := hs j.toNat xs[j.toNat] (by omega) (List.getElem?_eq_getElem hj)
                  rw [Nat.mul_one]
                  simpa [List.getD, List.getElem?_eq_getElem hj, Cx.bare] using this
            · cases h
          · cases h
        · rename_i n s g
          obtain ⟨a, cap, rfl, hc, hp, hr⟩ := hv
          split at h
          · rename_i hss; subst hss
            split at h
            · rename_i hb
              simp only [Option.some.injEq] at h; subst h
              rcases hr with h0 | ⟨bk, off, rfl, ho, hs⟩
              · omega
              · refine ⟨.pointer (some ⟨bk, off + j.toNat * s, none⟩), ?_, bk, _, rfl, .inr ⟨ho, (hs j.toNat (by omega)).2⟩⟩
                simp [hb, hz', addr_add, run_underlying hd]
            · cases h
          · cases h
        · rename_i id gen off n s
          split at h
          · rename_i hsc
            obtain ⟨hss, hc⟩ := hsc
            subst hss
            split at h
            · rename_i hb
              simp only [Option.some.injEq] at h; subst h
              obtain ⟨o, cap, rfl, h1, h2⟩ := cur_own hc hv
              rcases h2 with h2 | ⟨rfl, _⟩
              · omega
              · refine ⟨_, ?_, mk_ref hc⟩
                simp [hb, hz', addr_add, run_underlying hd]
            · cases h
          · cases h
        · cases h
      · cases h
    · rename_i len elem hd
      split at h
      · rename_i sz hz
        have hz' := run_szOf hz x.w
        simp only [run_underlying hd, Result.andThen_ok]
        split at h
        · rename_i id gen off
          split at h
          · rename_i hc
            split at h
            · rename_i hb
              simp only [Option.some.injEq] at h; subst h
              rw [cur_ref hc hv]
              refine ⟨_, ?_, mk_ref hc⟩
              simp [hb, hz', addr_add, run_underlying hd, Instr.sureAddr]
            · cases h
          · cases h
        · rename_i cs
          split at h
          · rename_i hb
            simp only [Option.some.injEq] at h; subst h
            obtain ⟨bk, off, rfl, hr⟩ := hv
            refine ⟨.pointer (some ⟨bk, off + j.toNat * sz, none⟩), ?_, bk, _, rfl, ?_⟩
            · simp [hb, hz', addr_add, run_underlying hd, Instr.sureAddr]
            · rcases hr with h0 | ⟨ho, hs⟩
              · subst h0; exact .inl (by simp)
              · exact .inr ⟨ho, hs.drop _⟩
          · cases h
        · cases h
      · cases h
    · cases h
  · cases h
end Go.Proofs.Ytcpicekmnkjceaa.VI

import Derived.Test.YtcpicekmnkjceaaVB
import Derived.Laws.MakeOwn
namespace Go.Proofs.Ytcpicekmnkjceaa.VI
set_option linter.unusedVariables false
set_option linter.unusedSimpArgs false

def mn (a b : Int) : Int := if b < a then b else a
def mx (a b : Int) : Int := if b > a then b else a
def vmin (k : IntKind) (m : Int) : List V → Option V
  | [] => some (.i k m)
  | .i _ y :: l => vmin k (mn m y) l
  | _ => none
def vmax (k : IntKind) (m : Int) : List V → Option V
  | [] => some (.i k m)
  | .i _ y :: l => vmax k (mx m y) l
  | _ => none
theorem vmin_ok {x : Cx} (k : IntKind) : ∀ (cs : List V) (l : List Value) (m : Int) (r : V), VRs x cs l → vmin k m cs = some r → ∃ z, (l.foldlM Builtin.min2 (.int k m)).run x.P x.w = .ok z x.w ∧ VR x r z
  | [], _, m, r, h, hr => by subst h; simp [vmin] at hr; subst hr; exact ⟨_, rfl, rfl⟩
  | c :: cs, _, m, r, h, hr => by
    obtain ⟨v, vs, hl, hv, hs⟩ := h
    subst hl
    cases c with
    | i k' y =>
      simp only [VR] at hv; subst hv
      obtain ⟨z, h1, h2⟩ := vmin_ok k cs vs (mn m y) r hs hr
      exact ⟨z, by simpa [Builtin.min2, mn] using h1, h2⟩
    | _ => simp [vmin] at hr
theorem vmax_ok {x : Cx} (k : IntKind) : ∀ (cs : List V) (l : List Value) (m : Int) (r : V), VRs x cs l → vmax k m cs = some r → ∃ z, (l.foldlM Builtin.max2 (.int k m)).run x.P x.w = .ok z x.w ∧ VR x r z
  | [], _, m, r, h, hr => by subst h; simp [vmax] at hr; subst hr; exact ⟨_, rfl, rfl⟩
  | c :: cs, _, m, r, h, hr => by
    obtain ⟨v, vs, hl, hv, hs⟩ := h
    subst hl
    cases c with
    | i k' y =>
      simp only [VR] at hv; subst hv
      obtain ⟨z, h1, h2⟩ := vmax_ok k cs vs (mx m y) r hs hr
      exact ⟨z, by simpa [Builtin.max2, mx] using h1, h2⟩
    | _ => simp [vmax] at hr

/-- Is this handle the block's own, as it is now? -/
def cur (h : Heap) (id gen : Nat) : Bool := match h[id]? with | some b => b.gen == gen && decide (0 < gen) | none => false
theorem cur_ref {x : Cx} {id gen off : Nat} {v : Value} (hc : cur x.h id gen = true) (hv : VR x (.ref id gen off) v) : v = .pointer (some ⟨x.ρ id, off, none⟩) := by
  obtain ⟨_, bk, h2, _, h4⟩ := hv
  simp [cur, h2] at hc
  exact h4 hc.1.symm hc.2
theorem cur_own {x : Cx} {id gen off n sz : Nat} {v : Value} (hc : cur x.h id gen = true) (hv : VR x (.own id gen off n sz) v) : ∃ o cap, v = .slice (some ⟨x.ρ id, o, none⟩) n cap ∧ n ≤ cap ∧
    ((n = 0 ∧ 0 < off) ∨ (o = off ∧ ∃ el tot, x.w.shape? (x.ρ id) = some (el, tot) ∧ off + cap * sz = tot)) := by
  obtain ⟨_, bk, h2, _, h4⟩ := hv
  simp [cur, h2] at hc
  obtain ⟨o, cap, p1, p2, _, p3⟩ := h4 hc.1.symm hc.2
  exact ⟨o, cap, p1, p2, p3⟩
def vlen (P : Program) (h : Heap) (t : TypeId) (c : V) : Option V :=
  match P.underlying t, c with
  | some .string, .s a => some (.i .i64 a.size)
  | some (.slice _), .sl n _ _ => some (.i .i64 n)
  | some (.slice _), .si n _ _ => some (.i .i64 n)
  | some (.slice _), .sr n _ _ => some (.i .i64 n)
  | some (.slice _), .own id gen _ n _ => if cur h id gen = true then some (.i .i64 n) else none
  | some (.slice _), .nils => some (.i .i64 0)
  | some (.array n _), _ => some (.i .i64 n)
  | _, _ => none
theorem vlen_ok {x : Cx} {t ty : TypeId} {ts : Array TypeId} {c r : V} {v : Value} {rest : Array Value} (ht : ts[0]? = some t) (ha : rest[0]? = some v) (h : vlen x.P x.h t c = some r) (hv : VR x c v) :
    ∃ z, (Builtin.len_ ts ty rest).run x.P x.w = .ok z x.w ∧ VR x r z := by
  unfold vlen at h
  unfold Builtin.len_
  simp only [ht, ha]
  cases hu : x.P.underlying t with
  | none => simp [hu] at h
  | some d =>
    simp only [Sem.run_bind, run_underlying hu, Result.andThen_ok]
    simp only [hu] at h
    split at h
    · rename_i e; injection e with e; subst e
      simp only [Option.some.injEq] at h; subst h; simp only [VR] at hv; subst hv; exact ⟨_, rfl, rfl⟩
    · rename_i e; injection e with e; subst e
      simp only [Option.some.injEq] at h; subst h; obtain ⟨a, cap, rfl, _⟩ := hv; exact ⟨_, rfl, rfl⟩
    · rename_i e; injection e with e; subst e
      simp only [Option.some.injEq] at h; subst h; obtain ⟨a, cap, rfl, _⟩ := hv; exact ⟨_, rfl, rfl⟩
    · rename_i e; injection e with e; subst e
      simp only [Option.some.injEq] at h; subst h; obtain ⟨a, cap, rfl, _⟩ := hv; exact ⟨_, rfl, rfl⟩
    · rename_i e; injection e with e; subst e
      split at h
      · rename_i hc
        simp only [Option.some.injEq] at h; subst h; obtain ⟨o, cap, rfl, _⟩ := cur_own hc hv; exact ⟨_, rfl, rfl⟩
      · cases h
    · rename_i e; injection e with e; subst e
      simp only [Option.some.injEq] at h; subst h; obtain ⟨a, rfl⟩ := hv; exact ⟨_, rfl, rfl⟩
    · rename_i e; injection e with e; subst e
      simp only [Option.some.injEq] at h; subst h; exact ⟨_, rfl, rfl⟩
    · cases h
def vun : UnOp → V → Option V
  | .neg, .i k n => some (.i k (k.wrap (0 - n)))
  | .xor, .i k n => some (.i k (Go.bits .xor k (if k.signed then -1 else k.max) n))
  | .not, .b t => some (.b (!t))
  | _, _ => none
theorem vun_ok {x : Cx} {op : UnOp} {c r : V} {v : Value} (h : vun op c = some r) (hv : VR x c v) : ∃ z, (Op.unary op v).run x.P x.w = .ok z x.w ∧ VR x r z := by
  unfold vun at h
  split at h <;> simp only [Option.some.injEq, reduceCtorEq] at h <;> subst h <;> simp only [VR] at hv <;> subst hv
  · exact ⟨_, rfl, rfl⟩
  · exact ⟨_, rfl, by simp [VR, Go.bits]⟩
  · exact ⟨_, rfl, rfl⟩
def vconv (P : Program) (src dst : TypeId) : V → Option V
  | .i _ n => match P.underlying src, P.underlying dst with
    | some _, some (.int k) => some (.i k (k.wrap n))
    | _, _ => none
  | .s a => match P.underlying src, P.underlying dst with
    | some .string, some .string => some (.s a)
    | _, _ => none
  | _ => none
theorem vconv_ok {x : Cx} {src dst : TypeId} {c r : V} {v : Value} (h : vconv x.P src dst c = some r) (hv : VR x c v) : ∃ z, (convert src dst v).run x.P x.w = .ok z x.w ∧ VR x r z := by
  unfold vconv at h
  split at h
  · split at h
    · rename_i n d k h1 h2
      simp only [Option.some.injEq] at h; subst h
      simp only [VR] at hv; subst hv
      refine ⟨_, ?_, rfl⟩
      unfold convert
      simp only [Sem.run_bind, run_underlying h1, run_underlying h2, Result.andThen_ok]
      cases d <;> rfl
    · cases h
  · split at h
    · rename_i h1 h2
      simp only [Option.some.injEq] at h; subst h
      simp only [VR] at hv; subst hv
      refine ⟨_, ?_, rfl⟩
      unfold convert
      simp only [Sem.run_bind, run_underlying h1, run_underlying h2, Result.andThen_ok]
      rfl
    · cases h
  · cases h

theorem mk_ref {x : Cx} {id gen off : Nat} (hc : cur x.h id gen = true) : VR x (.ref id gen off) (.pointer (some ⟨x.ρ id, off, none⟩)) := by
  unfold cur at hc
  cases hb : x.h[id]? with
  | none => simp [hb] at hc
  | some bk =>
    simp [hb] at hc
    exact ⟨rfl, bk, hb, by omega, fun _ _ => rfl⟩
theorem addr_add (bk off n : Nat) : Addr.add ⟨bk, off, none⟩ n = ⟨bk, off + n, none⟩ := by
  unfold Addr.add; split
  · rename_i h; subst h; rfl
  · rfl

def vfieldAddr (P : Program) (h : Heap) (s : TypeId) (c : V) (f : Nat) : Option V :=
  match P.underlying s with
  | some (.struct fs) => match fs[f]? with
    | some fd => match szOf P fd.type with
      | some (_ + 1) => match c with
        | .ref id gen off => if cur h id gen = true then some (.ref id gen (off + fd.offset)) else none
        | .pl cs => some (.pl (cs.drop fd.offset))
        | _ => none
      | _ => none
    | none => none
  | _ => none
theorem vfieldAddr_ok {x : Cx} {s : TypeId} {c r : V} {f : Nat} {v : Value} (h : vfieldAddr x.P x.h s c f = some r) (hv : VR x c v) : ∃ z, (Instr.fieldAt s v f).run x.P x.w = .ok z x.w ∧ VR x r z := by
  unfold vfieldAddr at h
  split at h
  · rename_i fs hu
    split at h
    · rename_i fd hf
      split at h
      · rename_i n hn
        unfold Instr.fieldAt
        simp only [Sem.run_bind, run_underlying hu, Result.andThen_ok, hf]
        have hz := run_szOf hn x.w
        split at h
        · rename_i id gen off
          split at h
          · rename_i hc
            simp only [Option.some.injEq] at h; subst h
            rw [cur_ref hc hv]
            refine ⟨_, ?_, mk_ref hc⟩
            simp [Instr.sureAddr, fieldPlace, hz, addr_add]
          · cases h
        · rename_i cs
          simp only [Option.some.injEq] at h; subst h
          obtain ⟨bk, off, rfl, hr⟩ := hv
          refine ⟨.pointer (some ⟨bk, off + fd.offset, none⟩), ?_, bk, _, rfl, ?_⟩
          · simp [Instr.sureAddr, fieldPlace, hz, addr_add]
          · rcases hr with h0 | ⟨ho, hs⟩
            · subst h0; exact .inl (by simp)
            · exact .inr ⟨ho, hs.drop _⟩
        · cases h
      · cases h
    · cases h
  · cases h
def vfield (P : Program) (s : TypeId) (c : V) (f : Nat) : Option V :=
  match P.underlying s with
  | some (.struct fs) => match fs[f]? with
    | some fd => match c with
      | .agg cs => vpart P fd.type cs fd.offset
      | _ => none
    | none => none
  | _ => none
theorem vfield_ok {x : Cx} {s : TypeId} {c r : V} {f : Nat} {v : Value} (h : vfield x.P s c f = some r) (hv : VR x c v) : ∃ z, (Instr.field s v f).run x.P x.w = .ok z x.w ∧ VR x r z := by
  unfold vfield at h
  split at h
  · rename_i fs hu
    split at h
    · rename_i fd hf
      split at h
      · obtain ⟨l, rfl, hs⟩ := hv
        obtain ⟨z, h1, h2⟩ := vpart_ok h hs
        refine ⟨z, ?_, h2⟩
        unfold Instr.field
        simp only [Sem.run_bind, run_underlying hu, Result.andThen_ok, hf, asAgg, Sem.run_pure]
        exact h1
      · cases h
    · cases h
  · cases h
end Go.Proofs.Ytcpicekmnkjceaa.VI

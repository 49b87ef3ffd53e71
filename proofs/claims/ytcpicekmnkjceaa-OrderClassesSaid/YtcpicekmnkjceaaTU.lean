import Derived.Test.YtcpicekmnkjceaaV26
namespace Go.Proofs.Ytcpicekmnkjceaa.VI
set_option linter.unusedVariables false
set_option linter.unusedSimpArgs false
set_option linter.unusedSimpArgs false
set_option linter.unusedVariables false
theorem LTr.br_val {b : Bool} {t : LTr} {r : Ex × St} (h : (LTr.br b t .no).val = some r) : b = true ∧ t.val = some r := by
  cases b with
  | true => exact ⟨rfl, h⟩
  | false => cases h
theorem Tr.br_val {b : Bool} {t : Tr} {r : V × Heap} (h : (Tr.br b t .no).val = some r) : b = true ∧ t.val = some r := by
  cases b with
  | true => exact ⟨rfl, h⟩
  | false => cases h
theorem iter_fin {α β : Type} {st : ∀ {R : Type}, α → (α → Option R) → (β → Option R) → Option R} (Inv : α → Prop) (μ : α → Nat) (fin : α → β)
    (h : ∀ v, Inv v → (∃ v', (∀ (R : Type) kn ko, st (R := R) v kn ko = kn v') ∧ Inv v' ∧ μ v' < μ v ∧ fin v' = fin v) ∨ ∀ (R : Type) kn ko, st (R := R) v kn ko = ko (fin v)) : ∀ v, Inv v → ∃ n, ∀ (R : Type) (ko : β → Option R), iterk (st (R := R)) n v ko = ko (fin v) := by
  have key : ∀ (m : Nat) (v : α), μ v < m → Inv v → ∃ n, ∀ (R : Type) (ko : β → Option R), iterk (st (R := R)) n v ko = ko (fin v) := by
    intro m
    induction m with
    | zero => intro v h0; omega
    | succ m ih =>
      intro v hm hv
      rcases h v hv with ⟨v', h1, h2, h3, h4⟩ | h1
      · obtain ⟨n, hn⟩ := ih v' (by omega) h2
        refine ⟨n + 1, fun R ko => ?_⟩
        simp only [iterk]
        rw [h1, hn, h4]
      · exact ⟨1, fun R ko => by simp only [iterk]; exact h1 R _ _⟩
  exact fun v hv => key _ v (Nat.lt_succ_self _) hv
theorem loop_fin {P : Program} {C : Orc} (hC : OrcOk P C) (hmx : P.follows .mixedOrders = true) {L : Lps} {d m0 : Nat} {ks ks2 : List Nat} {a : Code} (hL : LoopsOk P L m0 d a) {α β : Type} {S : α → St} {E : β → Ex × St} (hE : ∀ b, (E b).1 ≠ .normal)
    {st : ∀ {R : Type}, α → (α → Option R) → (β → Option R) → Option R}
    (hst : ∀ (v : α) (R : Type) (K : Ex → St → Option R), rndk P C L d m0 ks ks2 a (S v) K = st v (fun v' => K .normal (S v')) (fun b => K (E b).1 (E b).2))
    (Inv : α → Prop) (μ : α → Nat) (fin : α → β)
    (h : ∀ v, Inv v → (∃ v', (∀ (R : Type) kn ko, st (R := R) v kn ko = kn v') ∧ Inv v' ∧ μ v' < μ v ∧ fin v' = fin v) ∨ ∀ (R : Type) kn ko, st (R := R) v kn ko = ko (fin v))
    {f : St → LTr} (hf : ∀ s e s', (f s).val = some (e, s') → oks s.t → hok s.h → ∃ v, Wk P m0 s (S v) ∧ Inv v ∧ E (fin v) = (e, s')) : LoopOk P m0 a fun s => f (clean ks m0 s) :=
  loop_ok hC hmx hL hE hst fun s e s' hv ho hh => by
    obtain ⟨v, h1, h2, h3⟩ := hf s e s' hv ho hh
    obtain ⟨n, hn⟩ := iter_fin Inv μ fin h v h2
    exact ⟨v, fin v, n, h1, h3, hn⟩
def lpsOf (L : Lps) : Nat → Code → List (Code × (St → LTr))
  | d, .seq a b => lpsOf L d a ++ lpsOf L d b
  | d, .cond _ a b => lpsOf L d a ++ lpsOf L d b
  | d, .block _ a => lpsOf L d a
  | d, .loop a => match L d (hdR a) with
    | .un _ _ => lpsOf L (d + 1) a
    | .by_ f => [(a, f)]
    | .no => []
  | _, _ => []
theorem loopsOk {P : Program} {L : Lps} {m0 : Nat} : ∀ {c : Code} {d : Nat}, (∀ p ∈ lpsOf L d c, LoopOk P m0 p.1 p.2) → LoopsOk P L m0 d c := by
  intro c
  induction c with
  | seq a b iha ihb => intro d h; exact ⟨iha fun p hp => h p (List.mem_append_left _ hp), ihb fun p hp => h p (List.mem_append_right _ hp)⟩
  | cond o a b iha ihb => intro d h; exact ⟨iha fun p hp => h p (List.mem_append_left _ hp), ihb fun p hp => h p (List.mem_append_right _ hp)⟩
  | block id a ih => intro d h; exact ih h
  | loop a ih =>
    intro d h
    simp only [LoopsOk]
    simp only [lpsOf] at h
    cases hL : L d (hdR a) with
    | un n ks => rw [hL] at h; exact ih h
    | by_ f => rw [hL] at h; exact h (a, f) (by simp)
    | no => trivial
  | _ => intro d h; trivial
theorem loopsOk0 {P : Program} {L : Lps} {m0 d : Nat} {c : Code} (h : lpsOf L d c = []) : LoopsOk P L m0 d c := loopsOk (by rw [h]; intro p hp; cases hp)
theorem loopsOk1 {P : Program} {L : Lps} {m0 d : Nat} {c a : Code} {f : St → LTr} (h : lpsOf L d c = [(a, f)]) (h1 : LoopOk P m0 a f) : LoopsOk P L m0 d c := loopsOk (by
  rw [h]; intro p hp; have : p = (a, f) := by simpa using hp
  subst this; exact h1)
theorem loopsOk2 {P : Program} {L : Lps} {m0 d : Nat} {c a b : Code} {f g : St → LTr} (h : lpsOf L d c = [(a, f), (b, g)]) (h1 : LoopOk P m0 a f) (h2 : LoopOk P m0 b g) : LoopsOk P L m0 d c := loopsOk (by
  rw [h]; intro p hp; have : p = (a, f) ∨ p = (b, g) := by simpa using hp
  rcases this with e | e
  · subst e; exact h1
  · subst e; exact h2)
def loopsIn : Code → List Code
  | .loop a => a :: loopsIn a
  | .seq a b => loopsIn a ++ loopsIn b
  | .cond _ a b => loopsIn a ++ loopsIn b
  | .block _ a => loopsIn a
  | _ => []
def lpN (f : Func) (n : Nat) : Code := (loopsIn (f.body.getD .skip)).getD n .skip
def byL (ks : List Nat) (m0 : Nat) (f : St → LTr) : Lps := fun _ _ => .by_ fun s => f (clean ks m0 s)
def tells (t : List V) : List (Nat × V) → Prop
  | [] => True
  | p :: l => t.getD p.1 .u = p.2 ∧ tells t l
theorem tells_mem {t : List V} : ∀ {ps : List (Nat × V)}, tells t ps → ∀ p ∈ ps, t.getD p.1 .u = p.2
  | q :: l, h, p, hp => by
    rcases List.mem_cons.1 hp with e | e
    · subst e; exact h.1
    · exact tells_mem h.2 p e
theorem wk_st {P : Program} {m0 n : Nat} {s : St} {ps : List (Nat × V)} {H : Heap} (hn : Nat.beq s.t.length n = true) (h : tells s.t ps) (hh : s.h = H) : Wk P m0 s ⟨fr n ps, H⟩ := by
  subst hh; exact wk_same (Nat.eq_of_beq_eq_true hn) (tells_mem h)
theorem ok_at {t : List V} (h : oks t) {j : Nat} {c : V} (e : t.getD j .u = c) : c.ok := e ▸ h.getD j
theorem LTr.ret_val {e e' : Ex} {s s' : St} (h : (LTr.ret e s).val = some (e', s')) : (e, s) = (e', s') := Option.some.inj h
theorem Tr.ret_val {e e' : V} {s s' : Heap} (h : (Tr.ret e s).val = some (e', s')) : e = e' ∧ s = s' := by
  have := Option.some.inj h; exact ⟨congrArg Prod.fst this, congrArg Prod.snd this⟩
def run0 (P : Program) (C : Orc) (fn : Func) (l : List V) (hc : Heap) : Option (V × Heap) := runk P C L00 false fn (fn.body.getD .skip) l hc fun r h => some (r, h)
where L00 : Lps := fun _ _ => .no
theorem fn0 {P : Program} {C : Orc} (hC : OrcOk P C) (hm : P.follows .mixedOrders = true) {f : FuncId} {fn : Func} (hf : P.funcs[f]? = some fn) (hb : fn.body.isSome = true) (hn : (fn.name == "runtime.NumGoroutine") = false) (hl : lpsOf run0.L00 0 (fn.body.getD .skip) = [])
    {spec : List V → Heap → Tr} (h : ∀ l hc r h', (spec l hc).val = some (r, h') → oks l → hok hc → run0 P C fn l hc = some (r, h')) : OrcOk P (ent f [] 0 spec) :=
  fn_ok hC hm (L := run0.L00) (kp := false) hf hb hn fun l hc r h' hv ho hh => ⟨loopsOk0 hl, h l hc r h' hv ho hh⟩
def gud {α : Type} (c : Bool) (r : Option α) : Option α := bif c then r else none
def aud (c : Bool) (r : Option (V × Heap)) : Option (V × Heap) := bif c then r else some (.b false, [])
theorem bifI {α : Type} {a b : Int} {x y : α} : (bif a == b then x else y) = if a = b then x else y := by
  by_cases h : a = b
  · subst h; simp
  · rw [if_neg h, show (a == b) = false by simpa using h]; rfl
theorem bifN {α : Type} {a b : Int} {x y : α} : (bif a != b then x else y) = if a = b then y else x := by
  by_cases h : a = b
  · subst h; simp
  · rw [if_neg h, show (a != b) = true by simpa using h]; rfl
theorem bifD {α : Type} {p : Prop} [Decidable p] {x y : α} : (bif decide p then x else y) = if p then x else y := by
  by_cases h : p <;> simp [h]
theorem wrap_nat {k : IntKind} (hk : k.signed = false) {n : Nat} (h : n < 2 ^ k.bits) : k.wrap (n : Int) = n := by
  cases k <;> simp [IntKind.signed] at hk <;> simp only [IntKind.bits] at h <;> simp only [IntKind.wrap, IntKind.signed, IntKind.bits] <;> simp <;> omega
theorem ofInt_nat (w n : Nat) : BitVec.ofInt w (n : Int) = BitVec.ofNat w n := by simp
theorem bits_xor {k : IntKind} (hk : k.signed = false) {a b : Nat} (ha : a < 2 ^ k.bits) (hb : b < 2 ^ k.bits) : bits .xor k (a : Int) (b : Int) = ((a ^^^ b : Nat) : Int) := by
  unfold bits
  simp only [ofInt_nat, BitVec.toNat_xor, BitVec.toNat_ofNat, Nat.mod_eq_of_lt ha, Nat.mod_eq_of_lt hb]
  exact wrap_nat hk (Nat.xor_lt_two_pow ha hb)
theorem bits_and {k : IntKind} (hk : k.signed = false) {a b : Nat} (ha : a < 2 ^ k.bits) (hb : b < 2 ^ k.bits) : bits .and k (a : Int) (b : Int) = ((a &&& b : Nat) : Int) := by
  unfold bits
  simp only [ofInt_nat, BitVec.toNat_and, BitVec.toNat_ofNat, Nat.mod_eq_of_lt ha, Nat.mod_eq_of_lt hb]
  exact wrap_nat hk (Nat.and_lt_two_pow _ hb)
theorem bits_or {k : IntKind} (hk : k.signed = false) {a b : Nat} (ha : a < 2 ^ k.bits) (hb : b < 2 ^ k.bits) : bits .or k (a : Int) (b : Int) = ((a ||| b : Nat) : Int) := by
  unfold bits
  simp only [ofInt_nat, BitVec.toNat_or, BitVec.toNat_ofNat, Nat.mod_eq_of_lt ha, Nat.mod_eq_of_lt hb]
  exact wrap_nat hk (Nat.or_lt_two_pow ha hb)
theorem u32_xor {a b : Nat} (ha : a < 4294967296) (hb : b < 4294967296) : bits .xor .u32 (a : Int) (b : Int) = ((a ^^^ b : Nat) : Int) := bits_xor rfl ha hb
theorem u32_and {a b : Nat} (ha : a < 4294967296) (hb : b < 4294967296) : bits .and .u32 (a : Int) (b : Int) = ((a &&& b : Nat) : Int) := bits_and rfl ha hb
theorem u32_or {a b : Nat} (ha : a < 4294967296) (hb : b < 4294967296) : bits .or .u32 (a : Int) (b : Int) = ((a ||| b : Nat) : Int) := bits_or rfl ha hb
theorem u32_xor_lt {a b : Nat} (ha : a < 4294967296) (hb : b < 4294967296) : a ^^^ b < 4294967296 := Nat.xor_lt_two_pow (n := 32) ha hb
theorem u32_nat {n : Int} (h : inR .u32 n) : ∃ a : Nat, n = a ∧ a < 4294967296 := by
  have h : 0 ≤ n ∧ n ≤ 4294967295 := h
  exact ⟨n.toNat, by omega, by omega⟩
theorem u8_nat {n : Int} (h : inR .u8 n) : ∃ a : Nat, n = a ∧ a < 256 := by
  have h : 0 ≤ n ∧ n ≤ 255 := h
  exact ⟨n.toNat, by omega, by omega⟩
theorem i64_in {n : Int} (h : inR .i64 n) : -9223372036854775808 ≤ n ∧ n ≤ 9223372036854775807 := h
theorem wrap_i64 (n : Int) : IntKind.i64.wrap n = (n + 9223372036854775808) % 18446744073709551616 - 9223372036854775808 := by
  simp only [IntKind.wrap, IntKind.bits, IntKind.signed]
  simp
  omega
theorem w64_id {n : Int} (h : -9223372036854775808 ≤ n ∧ n ≤ 9223372036854775807) : IntKind.i64.wrap n = n := by rw [wrap_i64]; omega
end Go.Proofs.Ytcpicekmnkjceaa.VI

import Derived.Test.YtcpicekmnkjceaaV26
import Derived.Test.YtcpicekmnkjceaaProg
import Derived.Test.YtcpicekmnkjceaaRows
import Derived.WalkKit
import Derived.ProofKit
namespace Go.Proofs.Ytcpicekmnkjceaa.VI
set_option linter.unusedVariables false
set_option linter.unusedSimpArgs false
set_option linter.unusedSimpArgs false
set_option linter.unusedVariables false
theorem LTr.br_val {b : Bool} {t : LTr} {r : Ex × St} (h : (LTr.br b t .no).val = some r) : b = true ∧ t.val = some r := by
  cases b with
  | true => exact ⟨rfl, h⟩
  | false => cases h
theorem Tr.br_val {b : Bool} {t : Tr} {r : V × Heap} (h : (Tr.br b t .no).val = some r) : b = true ∧ t.val = some r := by
  cases b with
  | true => exact ⟨rfl, h⟩
  | false => cases h
theorem iter_fin {α β : Type} {st : ∀ {R : Type}, α → (α → Option R) → (β → Option R) → Option R} (Inv : α → Prop) (μ : α → Nat) (fin : α → β)
    (h : ∀ v, Inv v → (∃ v', (∀ (R : Type) kn ko, st (R := R) v kn ko = kn v') ∧ Inv v' ∧ μ v' < μ v ∧ fin v' = fin v) ∨ ∀ (R : Type) kn ko, st (R := R) v kn ko = ko (fin v)) : ∀ v, Inv v → ∃ n, ∀ (R : Type) (ko : β → Option R), iterk (st (R := R)) n v ko = ko (fin v) := by
  have key : ∀ (m : Nat) (v : α), μ v < m → Inv v → ∃ n, ∀ (R : Type) (ko : β → Option R), iterk (st (R := R)) n v ko = ko (fin v) := by
    intro m
    induction m with
    | zero => intro v h0; omega
    | succ m ih =>
      intro v hm hv
      rcases h v hv with ⟨v', h1, h2, h3, h4⟩ | h1
      · obtain ⟨n, hn⟩ := ih v' (by omega) h2
        refine ⟨n + 1, fun R ko => ?_⟩
        simp only [iterk]
        rw [h1, hn, h4]
      · exact ⟨1, fun R ko => by simp only [iterk]; exact h1 R _ _⟩
  exact fun v hv => key _ v (Nat.lt_succ_self _) hv
theorem loop_fin {P : Program} {C : Orc} (hC : OrcOk P C) (hmx : P.follows .mixedOrders = true) {L : Lps} {d m0 : Nat} {ks ks2 : List Nat} {a : Code} (hL : LoopsOk P L m0 d a) {α β : Type} {S : α → St} {E : β → Ex × St} (hE : ∀ b, (E b).1 ≠ .normal)
    {st : ∀ {R : Type}, α → (α → Option R) → (β → Option R) → Option R}
    (hst : ∀ (v : α) (R : Type) (K : Ex → St → Option R), rndk P C L d m0 ks ks2 a (S v) K = st v (fun v' => K .normal (S v')) (fun b => K (E b).1 (E b).2))
    (Inv : α → Prop) (μ : α → Nat) (fin : α → β)
    (h : ∀ v, Inv v → (∃ v', (∀ (R : Type) kn ko, st (R := R) v kn ko = kn v') ∧ Inv v' ∧ μ v' < μ v ∧ fin v' = fin v) ∨ ∀ (R : Type) kn ko, st (R := R) v kn ko = ko (fin v))
    {f : St → LTr} (hf : ∀ s e s', (f s).val = some (e, s') → oks s.t → hok s.h → ∃ v, Wk P m0 s (S v) ∧ Inv v ∧ E (fin v) = (e, s')) : LoopOk P m0 a fun s => f (clean ks m0 s) :=
  loop_ok hC hmx hL hE hst fun s e s' hv ho hh => by
    obtain ⟨v, h1, h2, h3⟩ := hf s e s' hv ho hh
    obtain ⟨n, hn⟩ := iter_fin Inv μ fin h v h2
    exact ⟨v, fin v, n, h1, h3, hn⟩
def lpsOf (L : Lps) : Nat → Code → List (Code × (St → LTr))
  | d, .seq a b => lpsOf L d a ++ lpsOf L d b
  | d, .cond _ a b => lpsOf L d a ++ lpsOf L d b
  | d, .block _ a => lpsOf L d a
  | d, .loop a => match L d (hdR a) with
    | .un _ _ => lpsOf L (d + 1) a
    | .by_ f => [(a, f)]
    | .no => []
  | _, _ => []
theorem loopsOk {P : Program} {L : Lps} {m0 : Nat} : ∀ {c : Code} {d : Nat}, (∀ p ∈ lpsOf L d c, LoopOk P m0 p.1 p.2) → LoopsOk P L m0 d c := by
  intro c
  induction c with
  | seq a b iha ihb => intro d h; exact ⟨iha fun p hp => h p (List.mem_append_left _ hp), ihb fun p hp => h p (List.mem_append_right _ hp)⟩
  | cond o a b iha ihb => intro d h; exact ⟨iha fun p hp => h p (List.mem_append_left _ hp), ihb fun p hp => h p (List.mem_append_right _ hp)⟩
  | block id a ih => intro d h; exact ih h
  | loop a ih =>
    intro d h
    simp only [LoopsOk]
    simp only [lpsOf] at h
    cases hL : L d (hdR a) with
    | un n ks => rw [hL] at h; exact ih h
    | by_ f => rw [hL] at h; exact h (a, f) (by simp)
    | no => trivial
  | _ => intro d h; trivial
theorem loopsOk0 {P : Program} {L : Lps} {m0 d : Nat} {c : Code} (h : lpsOf L d c = []) : LoopsOk P L m0 d c := loopsOk (by rw [h]; intro p hp; cases hp)
theorem loopsOk1 {P : Program} {L : Lps} {m0 d : Nat} {c a : Code} {f : St → LTr} (h : lpsOf L d c = [(a, f)]) (h1 : LoopOk P m0 a f) : LoopsOk P L m0 d c := loopsOk (by
  rw [h]; intro p hp; have : p = (a, f) := by simpa using hp
  subst this; exact h1)
theorem loopsOk2 {P : Program} {L : Lps} {m0 d : Nat} {c a b : Code} {f g : St → LTr} (h : lpsOf L d c = [(a, f), (b, g)]) (h1 : LoopOk P m0 a f) (h2 : LoopOk P m0 b g) : LoopsOk P L m0 d c := loopsOk (by
  rw [h]; intro p hp; have : p = (a, f) ∨ p = (b, g) := by simpa using hp
  rcases this with e | e
  · subst e; exact h1
  · subst e; exact h2)
def loopsIn : Code → List Code
  | .loop a => a :: loopsIn a
  | .seq a b => loopsIn a ++ loopsIn b
  | .cond _ a b => loopsIn a ++ loopsIn b
  | .block _ a => loopsIn a
  | _ => []
def lpN (f : Func) (n : Nat) : Code := (loopsIn (f.body.getD .skip)).getD n .skip
def byL (ks : List Nat) (m0 : Nat) (f : St → LTr) : Lps := fun _ _ => .by_ fun s => f (clean ks m0 s)
def tells (t : List V) : List (Nat × V) → Prop
  | [] => True
  | p :: l => t.getD p.1 .u = p.2 ∧ tells t l
theorem tells_mem {t : List V} : ∀ {ps : List (Nat × V)}, tells t ps → ∀ p ∈ ps, t.getD p.1 .u = p.2
  | q :: l, h, p, hp => by
    rcases List.mem_cons.1 hp with e | e
    · subst e; exact h.1
    · exact tells_mem h.2 p e
theorem wk_st {P : Program} {m0 n : Nat} {s : St} {ps : List (Nat × V)} {H : Heap} (hn : Nat.beq s.t.length n = true) (h : tells s.t ps) (hh : s.h = H) : Wk P m0 s ⟨fr n ps, H⟩ := by
  subst hh; exact wk_same (Nat.eq_of_beq_eq_true hn) (tells_mem h)
theorem ok_at {t : List V} (h : oks t) {j : Nat} {c : V} (e : t.getD j .u = c) : c.ok := e ▸ h.getD j
theorem LTr.ret_val {e e' : Ex} {s s' : St} (h : (LTr.ret e s).val = some (e', s')) : (e, s) = (e', s') := Option.some.inj h
theorem Tr.ret_val {e e' : V} {s s' : Heap} (h : (Tr.ret e s).val = some (e', s')) : e = e' ∧ s = s' := by
  have := Option.some.inj h; exact ⟨congrArg Prod.fst this, congrArg Prod.snd this⟩
theorem wrap_nat {k : IntKind} (hk : k.signed = false) {n : Nat} (h : n < 2 ^ k.bits) : k.wrap (n : Int) = n := by
  cases k <;> simp [IntKind.signed] at hk <;> simp only [IntKind.bits] at h <;> simp only [IntKind.wrap, IntKind.signed, IntKind.bits] <;> simp <;> omega
theorem ofInt_nat (w n : Nat) : BitVec.ofInt w (n : Int) = BitVec.ofNat w n := by simp
theorem bits_xor {k : IntKind} (hk : k.signed = false) {a b : Nat} (ha : a < 2 ^ k.bits) (hb : b < 2 ^ k.bits) : bits .xor k (a : Int) (b : Int) = ((a ^^^ b : Nat) : Int) := by
  unfold bits
  simp only [ofInt_nat, BitVec.toNat_xor, BitVec.toNat_ofNat, Nat.mod_eq_of_lt ha, Nat.mod_eq_of_lt hb]
  exact wrap_nat hk (Nat.xor_lt_two_pow ha hb)
theorem bits_and {k : IntKind} (hk : k.signed = false) {a b : Nat} (ha : a < 2 ^ k.bits) (hb : b < 2 ^ k.bits) : bits .and k (a : Int) (b : Int) = ((a &&& b : Nat) : Int) := by
  unfold bits
  simp only [ofInt_nat, BitVec.toNat_and, BitVec.toNat_ofNat, Nat.mod_eq_of_lt ha, Nat.mod_eq_of_lt hb]
  exact wrap_nat hk (Nat.and_lt_two_pow _ hb)
theorem bits_or {k : IntKind} (hk : k.signed = false) {a b : Nat} (ha : a < 2 ^ k.bits) (hb : b < 2 ^ k.bits) : bits .or k (a : Int) (b : Int) = ((a ||| b : Nat) : Int) := by
  unfold bits
  simp only [ofInt_nat, BitVec.toNat_or, BitVec.toNat_ofNat, Nat.mod_eq_of_lt ha, Nat.mod_eq_of_lt hb]
  exact wrap_nat hk (Nat.or_lt_two_pow ha hb)
theorem u32_xor {a b : Nat} (ha : a < 4294967296) (hb : b < 4294967296) : bits .xor .u32 (a : Int) (b : Int) = ((a ^^^ b : Nat) : Int) := bits_xor rfl ha hb
theorem u32_and {a b : Nat} (ha : a < 4294967296) (hb : b < 4294967296) : bits .and .u32 (a : Int) (b : Int) = ((a &&& b : Nat) : Int) := bits_and rfl ha hb
theorem u32_or {a b : Nat} (ha : a < 4294967296) (hb : b < 4294967296) : bits .or .u32 (a : Int) (b : Int) = ((a ||| b : Nat) : Int) := bits_or rfl ha hb
theorem u32_xor_lt {a b : Nat} (ha : a < 4294967296) (hb : b < 4294967296) : a ^^^ b < 4294967296 := Nat.xor_lt_two_pow (n := 32) ha hb
theorem u32_nat {n : Int} (h : inR .u32 n) : ∃ a : Nat, n = a ∧ a < 4294967296 := by
  have h : 0 ≤ n ∧ n ≤ 4294967295 := h
  exact ⟨n.toNat, by omega, by omega⟩
theorem u8_nat {n : Int} (h : inR .u8 n) : ∃ a : Nat, n = a ∧ a < 256 := by
  have h : 0 ≤ n ∧ n ≤ 255 := h
  exact ⟨n.toNat, by omega, by omega⟩
theorem i64_in {n : Int} (h : inR .i64 n) : -9223372036854775808 ≤ n ∧ n ≤ 9223372036854775807 := h
theorem wrap_i64 (n : Int) : IntKind.i64.wrap n = (n + 9223372036854775808) % 18446744073709551616 - 9223372036854775808 := by
  simp only [IntKind.wrap, IntKind.bits, IntKind.signed]
  simp
  omega
theorem w64_id {n : Int} (h : -9223372036854775808 ≤ n ∧ n ≤ 9223372036854775807) : IntKind.i64.wrap n = n := by rw [wrap_i64]; omega
end Go.Proofs.Ytcpicekmnkjceaa.VI

namespace Go.Proofs.Ytcpicekmnkjceaa.VI
set_option linter.unusedVariables false
set_option linter.unusedSimpArgs false
noncomputable abbrev PR : Program := Try.prog
theorem mixed : PR.follows .mixedOrders = true := by kernel_rfl
def L0 : Lps := fun _ _ => .no
abbrev i_anneallaw27_SumSees : FuncId := 3
noncomputable abbrev f_anneallaw27_SumSees : Func := Try.f3
theorem p_anneallaw27_SumSees : PR.funcs[i_anneallaw27_SumSees]? = some f_anneallaw27_SumSees := Try.func3
abbrev i_anneallaw22_ScalerTells : FuncId := 4
noncomputable abbrev f_anneallaw22_ScalerTells : Func := Try.f4
theorem p_anneallaw22_ScalerTells : PR.funcs[i_anneallaw22_ScalerTells]? = some f_anneallaw22_ScalerTells := Try.func4
abbrev i_anneallaw22_ScalerPlays : FuncId := 5
noncomputable abbrev f_anneallaw22_ScalerPlays : Func := Try.f5
theorem p_anneallaw22_ScalerPlays : PR.funcs[i_anneallaw22_ScalerPlays]? = some f_anneallaw22_ScalerPlays := Try.func5
abbrev i_anneallaw22_ScalerFalls : FuncId := 6
noncomputable abbrev f_anneallaw22_ScalerFalls : Func := Try.f6
theorem p_anneallaw22_ScalerFalls : PR.funcs[i_anneallaw22_ScalerFalls]? = some f_anneallaw22_ScalerFalls := Try.func6
abbrev i_anneallaw22_ScalerEdges : FuncId := 7
noncomputable abbrev f_anneallaw22_ScalerEdges : Func := Try.f7
theorem p_anneallaw22_ScalerEdges : PR.funcs[i_anneallaw22_ScalerEdges]? = some f_anneallaw22_ScalerEdges := Try.func7
abbrev i_anneallaw27_SumLong : FuncId := 8
noncomputable abbrev f_anneallaw27_SumLong : Func := Try.f8
theorem p_anneallaw27_SumLong : PR.funcs[i_anneallaw27_SumLong]? = some f_anneallaw27_SumLong := Try.func8
abbrev i_anneallaw27_SumTells32 : FuncId := 9
noncomputable abbrev f_anneallaw27_SumTells32 : Func := Try.f9
theorem p_anneallaw27_SumTells32 : PR.funcs[i_anneallaw27_SumTells32]? = some f_anneallaw27_SumTells32 := Try.func9
abbrev i_anneallaw2_FormatHigh : FuncId := 10
noncomputable abbrev f_anneallaw2_FormatHigh : Func := Try.f10
theorem p_anneallaw2_FormatHigh : PR.funcs[i_anneallaw2_FormatHigh]? = some f_anneallaw2_FormatHigh := Try.func10
abbrev i_anneallaw2_FormatBack : FuncId := 11
noncomputable abbrev f_anneallaw2_FormatBack : Func := Try.f11
theorem p_anneallaw2_FormatBack : PR.funcs[i_anneallaw2_FormatBack]? = some f_anneallaw2_FormatBack := Try.func11
abbrev i_anneallaw2_FormatEdges : FuncId := 12
noncomputable abbrev f_anneallaw2_FormatEdges : Func := Try.f12
theorem p_anneallaw2_FormatEdges : PR.funcs[i_anneallaw2_FormatEdges]? = some f_anneallaw2_FormatEdges := Try.func12
abbrev i_anneallaw2_FormatTells : FuncId := 13
noncomputable abbrev f_anneallaw2_FormatTells : Func := Try.f13
theorem p_anneallaw2_FormatTells : PR.funcs[i_anneallaw2_FormatTells]? = some f_anneallaw2_FormatTells := Try.func13
abbrev i_anneallaw7_OrderTells : FuncId := 14
noncomputable abbrev f_anneallaw7_OrderTells : Func := Try.f14
theorem p_anneallaw7_OrderTells : PR.funcs[i_anneallaw7_OrderTells]? = some f_anneallaw7_OrderTells := Try.func14
abbrev i_anneallaw7_OrderLine : FuncId := 15
noncomputable abbrev f_anneallaw7_OrderLine : Func := Try.f15
theorem p_anneallaw7_OrderLine : PR.funcs[i_anneallaw7_OrderLine]? = some f_anneallaw7_OrderLine := Try.func15
abbrev i_anneallaw7_OrderClasses : FuncId := 16
noncomputable abbrev f_anneallaw7_OrderClasses : Func := Try.f16
theorem p_anneallaw7_OrderClasses : PR.funcs[i_anneallaw7_OrderClasses]? = some f_anneallaw7_OrderClasses := Try.func16
abbrev i_anneallaw24_ConfigTells : FuncId := 17
noncomputable abbrev f_anneallaw24_ConfigTells : Func := Try.f17
theorem p_anneallaw24_ConfigTells : PR.funcs[i_anneallaw24_ConfigTells]? = some f_anneallaw24_ConfigTells := Try.func17
abbrev i_anneallaw24_ConfigReads : FuncId := 18
noncomputable abbrev f_anneallaw24_ConfigReads : Func := Try.f18
theorem p_anneallaw24_ConfigReads : PR.funcs[i_anneallaw24_ConfigReads]? = some f_anneallaw24_ConfigReads := Try.func18
abbrev i_anneallaw24_ConfigEdges : FuncId := 19
noncomputable abbrev f_anneallaw24_ConfigEdges : Func := Try.f19
theorem p_anneallaw24_ConfigEdges : PR.funcs[i_anneallaw24_ConfigEdges]? = some f_anneallaw24_ConfigEdges := Try.func19
abbrev i_anneallaw24_ConfigBytes : FuncId := 20
noncomputable abbrev f_anneallaw24_ConfigBytes : Func := Try.f20
theorem p_anneallaw24_ConfigBytes : PR.funcs[i_anneallaw24_ConfigBytes]? = some f_anneallaw24_ConfigBytes := Try.func20
abbrev i_anneallaw27_known : FuncId := 21
noncomputable abbrev f_anneallaw27_known : Func := Try.f21
theorem p_anneallaw27_known : PR.funcs[i_anneallaw27_known]? = some f_anneallaw27_known := Try.func21
abbrev i_sum32_Of : FuncId := 22
noncomputable abbrev f_sum32_Of : Func := Try.f22
theorem p_sum32_Of : PR.funcs[i_sum32_Of]? = some f_sum32_Of := Try.func22
abbrev i_anneallaw22_known : FuncId := 23
noncomputable abbrev f_anneallaw22_known : Func := Try.f23
theorem p_anneallaw22_known : PR.funcs[i_anneallaw22_known]? = some f_anneallaw22_known := Try.func23
abbrev i_annealseat_Config : FuncId := 24
noncomputable abbrev f_annealseat_Config : Func := Try.f24
theorem p_annealseat_Config : PR.funcs[i_annealseat_Config]? = some f_annealseat_Config := Try.func24
abbrev i_scaler_Begin : FuncId := 25
noncomputable abbrev f_scaler_Begin : Func := Try.f25
theorem p_scaler_Begin : PR.funcs[i_scaler_Begin]? = some f_scaler_Begin := Try.func25
abbrev i_scaler_Right : FuncId := 26
noncomputable abbrev f_scaler_Right : Func := Try.f26
theorem p_scaler_Right : PR.funcs[i_scaler_Right]? = some f_scaler_Right := Try.func26
abbrev i_annealref17_ScaleRight : FuncId := 27
noncomputable abbrev f_annealref17_ScaleRight : Func := Try.f27
theorem p_annealref17_ScaleRight : PR.funcs[i_annealref17_ScaleRight]? = some f_annealref17_ScaleRight := Try.func27
abbrev i_scaler_Good : FuncId := 28
noncomputable abbrev f_scaler_Good : Func := Try.f28
theorem p_scaler_Good : PR.funcs[i_scaler_Good]? = some f_scaler_Good := Try.func28
abbrev i_annealref17_Good : FuncId := 29
noncomputable abbrev f_annealref17_Good : Func := Try.f29
theorem p_annealref17_Good : PR.funcs[i_annealref17_Good]? = some f_annealref17_Good := Try.func29
abbrev i_scaler_Skip : FuncId := 30
noncomputable abbrev f_scaler_Skip : Func := Try.f30
theorem p_scaler_Skip : PR.funcs[i_scaler_Skip]? = some f_scaler_Skip := Try.func30
abbrev i_annealref17_Skip : FuncId := 31
noncomputable abbrev f_annealref17_Skip : Func := Try.f31
theorem p_annealref17_Skip : PR.funcs[i_annealref17_Skip]? = some f_annealref17_Skip := Try.func31
abbrev i_sum32_Zeros : FuncId := 32
noncomputable abbrev f_sum32_Zeros : Func := Try.f32
theorem p_sum32_Zeros : PR.funcs[i_sum32_Zeros]? = some f_sum32_Zeros := Try.func32
abbrev i_annealref24_Sum : FuncId := 33
noncomputable abbrev f_annealref24_Sum : Func := Try.f33
theorem p_annealref24_Sum : PR.funcs[i_annealref24_Sum]? = some f_annealref24_Sum := Try.func33
abbrev i_sum32_More : FuncId := 34
noncomputable abbrev f_sum32_More : Func := Try.f34
theorem p_sum32_More : PR.funcs[i_sum32_More]? = some f_sum32_More := Try.func34
abbrev i_sum32_Join : FuncId := 35
noncomputable abbrev f_sum32_Join : Func := Try.f35
theorem p_sum32_Join : PR.funcs[i_sum32_Join]? = some f_sum32_Join := Try.func35
abbrev i_anneallaw2_known : FuncId := 36
noncomputable abbrev f_anneallaw2_known : Func := Try.f36
theorem p_anneallaw2_known : PR.funcs[i_anneallaw2_known]? = some f_anneallaw2_known := Try.func36
abbrev i_format_Unpack : FuncId := 37
noncomputable abbrev f_format_Unpack : Func := Try.f37
theorem p_format_Unpack : PR.funcs[i_format_Unpack]? = some f_format_Unpack := Try.func37
abbrev i_format_Class : FuncId := 38
noncomputable abbrev f_format_Class : Func := Try.f38
theorem p_format_Class : PR.funcs[i_format_Class]? = some f_format_Class := Try.func38
abbrev i_format_Mask : FuncId := 39
noncomputable abbrev f_format_Mask : Func := Try.f39
theorem p_format_Mask : PR.funcs[i_format_Mask]? = some f_format_Mask := Try.func39
abbrev i_anneallaw2_form : FuncId := 40
noncomputable abbrev f_anneallaw2_form : Func := Try.f40
theorem p_anneallaw2_form : PR.funcs[i_anneallaw2_form]? = some f_anneallaw2_form := Try.func40
abbrev i_format_Finite : FuncId := 41
noncomputable abbrev f_format_Finite : Func := Try.f41
theorem p_format_Finite : PR.funcs[i_format_Finite]? = some f_format_Finite := Try.func41
abbrev i_format_Widths : FuncId := 42
noncomputable abbrev f_format_Widths : Func := Try.f42
theorem p_format_Widths : PR.funcs[i_format_Widths]? = some f_format_Widths := Try.func42
abbrev i_format_Zero : FuncId := 43
noncomputable abbrev f_format_Zero : Func := Try.f43
theorem p_format_Zero : PR.funcs[i_format_Zero]? = some f_format_Zero := Try.func43
abbrev i_format_Greatest : FuncId := 44
noncomputable abbrev f_format_Greatest : Func := Try.f44
theorem p_format_Greatest : PR.funcs[i_format_Greatest]? = some f_format_Greatest := Try.func44
abbrev i_format_Inf : FuncId := 45
noncomputable abbrev f_format_Inf : Func := Try.f45
theorem p_format_Inf : PR.funcs[i_format_Inf]? = some f_format_Inf := Try.func45
abbrev i_annealseat_Num : FuncId := 46
noncomputable abbrev f_annealseat_Num : Func := Try.f46
theorem p_annealseat_Num : PR.funcs[i_annealseat_Num]? = some f_annealseat_Num := Try.func46
abbrev i_annealref1_Unpack : FuncId := 47
noncomputable abbrev f_annealref1_Unpack : Func := Try.f47
theorem p_annealref1_Unpack : PR.funcs[i_annealref1_Unpack]? = some f_annealref1_Unpack := Try.func47
abbrev i_annealref1_Class : FuncId := 48
noncomputable abbrev f_annealref1_Class : Func := Try.f48
theorem p_annealref1_Class : PR.funcs[i_annealref1_Class]? = some f_annealref1_Class := Try.func48
abbrev i_annealref1_Finite : FuncId := 49
noncomputable abbrev f_annealref1_Finite : Func := Try.f49
theorem p_annealref1_Finite : PR.funcs[i_annealref1_Finite]? = some f_annealref1_Finite := Try.func49
abbrev i_annealref1_Widths : FuncId := 50
noncomputable abbrev f_annealref1_Widths : Func := Try.f50
theorem p_annealref1_Widths : PR.funcs[i_annealref1_Widths]? = some f_annealref1_Widths := Try.func50
abbrev i_annealref1_Mask : FuncId := 51
noncomputable abbrev f_annealref1_Mask : Func := Try.f51
theorem p_annealref1_Mask : PR.funcs[i_annealref1_Mask]? = some f_annealref1_Mask := Try.func51
abbrev i_annealref1_Zero : FuncId := 52
noncomputable abbrev f_annealref1_Zero : Func := Try.f52
theorem p_annealref1_Zero : PR.funcs[i_annealref1_Zero]? = some f_annealref1_Zero := Try.func52
abbrev i_annealref1_Inf : FuncId := 53
noncomputable abbrev f_annealref1_Inf : Func := Try.f53
theorem p_annealref1_Inf : PR.funcs[i_annealref1_Inf]? = some f_annealref1_Inf := Try.func53
abbrev i_annealref1_Greatest : FuncId := 54
noncomputable abbrev f_annealref1_Greatest : Func := Try.f54
theorem p_annealref1_Greatest : PR.funcs[i_annealref1_Greatest]? = some f_annealref1_Greatest := Try.func54
abbrev i_format_Nan : FuncId := 55
noncomputable abbrev f_format_Nan : Func := Try.f55
theorem p_format_Nan : PR.funcs[i_format_Nan]? = some f_format_Nan := Try.func55
abbrev i_annealref1_Nan : FuncId := 56
noncomputable abbrev f_annealref1_Nan : Func := Try.f56
theorem p_annealref1_Nan : PR.funcs[i_annealref1_Nan]? = some f_annealref1_Nan := Try.func56
abbrev i_anneallaw7_known : FuncId := 57
noncomputable abbrev f_anneallaw7_known : Func := Try.f57
theorem p_anneallaw7_known : PR.funcs[i_anneallaw7_known]? = some f_anneallaw7_known := Try.func57
abbrev i_anneallaw7_form : FuncId := 58
noncomputable abbrev f_anneallaw7_form : Func := Try.f58
theorem p_anneallaw7_form : PR.funcs[i_anneallaw7_form]? = some f_anneallaw7_form := Try.func58
abbrev i_order_Compare : FuncId := 59
noncomputable abbrev f_order_Compare : Func := Try.f59
theorem p_order_Compare : PR.funcs[i_order_Compare]? = some f_order_Compare := Try.func59
abbrev i_annealref1_Compare : FuncId := 60
noncomputable abbrev f_annealref1_Compare : Func := Try.f60
theorem p_annealref1_Compare : PR.funcs[i_annealref1_Compare]? = some f_annealref1_Compare := Try.func60
abbrev i_order_Less : FuncId := 61
noncomputable abbrev f_order_Less : Func := Try.f61
theorem p_order_Less : PR.funcs[i_order_Less]? = some f_order_Less := Try.func61
abbrev i_annealref1_Less : FuncId := 62
noncomputable abbrev f_annealref1_Less : Func := Try.f62
theorem p_annealref1_Less : PR.funcs[i_annealref1_Less]? = some f_annealref1_Less := Try.func62
abbrev i_order_Min : FuncId := 63
noncomputable abbrev f_order_Min : Func := Try.f63
theorem p_order_Min : PR.funcs[i_order_Min]? = some f_order_Min := Try.func63
abbrev i_annealref1_Min : FuncId := 64
noncomputable abbrev f_annealref1_Min : Func := Try.f64
theorem p_annealref1_Min : PR.funcs[i_annealref1_Min]? = some f_annealref1_Min := Try.func64
abbrev i_order_Max : FuncId := 65
noncomputable abbrev f_order_Max : Func := Try.f65
theorem p_order_Max : PR.funcs[i_order_Max]? = some f_order_Max := Try.func65
abbrev i_annealref1_Max : FuncId := 66
noncomputable abbrev f_annealref1_Max : Func := Try.f66
theorem p_annealref1_Max : PR.funcs[i_annealref1_Max]? = some f_annealref1_Max := Try.func66
abbrev i_order_Key : FuncId := 67
noncomputable abbrev f_order_Key : Func := Try.f67
theorem p_order_Key : PR.funcs[i_order_Key]? = some f_order_Key := Try.func67
abbrev i_annealref1_Key : FuncId := 68
noncomputable abbrev f_annealref1_Key : Func := Try.f68
theorem p_annealref1_Key : PR.funcs[i_annealref1_Key]? = some f_annealref1_Key := Try.func68
abbrev i_anneallaw24_known : FuncId := 69
noncomputable abbrev f_anneallaw24_known : Func := Try.f69
theorem p_anneallaw24_known : PR.funcs[i_anneallaw24_known]? = some f_anneallaw24_known := Try.func69
abbrev i_config_Put : FuncId := 70
noncomputable abbrev f_config_Put : Func := Try.f70
theorem p_config_Put : PR.funcs[i_config_Put]? = some f_config_Put := Try.func70
abbrev i_annealref24_Put : FuncId := 71
noncomputable abbrev f_annealref24_Put : Func := Try.f71
theorem p_annealref24_Put : PR.funcs[i_annealref24_Put]? = some f_annealref24_Put := Try.func71
abbrev i_config_Check : FuncId := 72
noncomputable abbrev f_config_Check : Func := Try.f72
theorem p_config_Check : PR.funcs[i_config_Check]? = some f_config_Check := Try.func72
abbrev i_annealref24_Check : FuncId := 73
noncomputable abbrev f_annealref24_Check : Func := Try.f73
theorem p_annealref24_Check : PR.funcs[i_annealref24_Check]? = some f_annealref24_Check := Try.func73
abbrev i_config_Params : FuncId := 74
noncomputable abbrev f_config_Params : Func := Try.f74
theorem p_config_Params : PR.funcs[i_config_Params]? = some f_config_Params := Try.func74
abbrev i_annealref24_Params : FuncId := 75
noncomputable abbrev f_annealref24_Params : Func := Try.f75
theorem p_annealref24_Params : PR.funcs[i_annealref24_Params]? = some f_annealref24_Params := Try.func75
abbrev i_config_Read : FuncId := 76
noncomputable abbrev f_config_Read : Func := Try.f76
theorem p_config_Read : PR.funcs[i_config_Read]? = some f_config_Read := Try.func76
abbrev i_annealhelp_Config : FuncId := 77
noncomputable abbrev f_annealhelp_Config : Func := Try.f77
theorem p_annealhelp_Config : PR.funcs[i_annealhelp_Config]? = some f_annealhelp_Config := Try.func77
abbrev i_config_Same : FuncId := 78
noncomputable abbrev f_config_Same : Func := Try.f78
theorem p_config_Same : PR.funcs[i_config_Same]? = some f_config_Same := Try.func78
abbrev i_annealref24_Read : FuncId := 79
noncomputable abbrev f_annealref24_Read : Func := Try.f79
theorem p_annealref24_Read : PR.funcs[i_annealref24_Read]? = some f_annealref24_Read := Try.func79
abbrev i_scaler_count : FuncId := 80
noncomputable abbrev f_scaler_count : Func := Try.f80
theorem p_scaler_count : PR.funcs[i_scaler_count]? = some f_scaler_count := Try.func80
abbrev i_sum32_noughts : FuncId := 81
noncomputable abbrev f_sum32_noughts : Func := Try.f81
theorem p_sum32_noughts : PR.funcs[i_sum32_noughts]? = some f_sum32_noughts := Try.func81
abbrev i_format_Parts : FuncId := 82
noncomputable abbrev f_format_Parts : Func := Try.f82
theorem p_format_Parts : PR.funcs[i_format_Parts]? = some f_format_Parts := Try.func82
abbrev i_format_Least : FuncId := 83
noncomputable abbrev f_format_Least : Func := Try.f83
theorem p_format_Least : PR.funcs[i_format_Least]? = some f_format_Least := Try.func83
abbrev i_format_Top : FuncId := 84
noncomputable abbrev f_format_Top : Func := Try.f84
theorem p_format_Top : PR.funcs[i_format_Top]? = some f_format_Top := Try.func84
abbrev i_format_Join : FuncId := 85
noncomputable abbrev f_format_Join : Func := Try.f85
theorem p_format_Join : PR.funcs[i_format_Join]? = some f_format_Join := Try.func85
abbrev i_annealref1_parts : FuncId := 86
noncomputable abbrev f_annealref1_parts : Func := Try.f86
theorem p_annealref1_parts : PR.funcs[i_annealref1_parts]? = some f_annealref1_parts := Try.func86
abbrev i_annealref1_bias : FuncId := 87
noncomputable abbrev f_annealref1_bias : Func := Try.f87
theorem p_annealref1_bias : PR.funcs[i_annealref1_bias]? = some f_annealref1_bias := Try.func87
abbrev i_annealref1_sign : FuncId := 88
noncomputable abbrev f_annealref1_sign : Func := Try.f88
theorem p_annealref1_sign : PR.funcs[i_annealref1_sign]? = some f_annealref1_sign := Try.func88
abbrev i_format_IsNan : FuncId := 89
noncomputable abbrev f_format_IsNan : Func := Try.f89
theorem p_format_IsNan : PR.funcs[i_format_IsNan]? = some f_format_IsNan := Try.func89
abbrev i_format_IsZero : FuncId := 90
noncomputable abbrev f_format_IsZero : Func := Try.f90
theorem p_format_IsZero : PR.funcs[i_format_IsZero]? = some f_format_IsZero := Try.func90
abbrev i_annealref1_nans : FuncId := 91
noncomputable abbrev f_annealref1_nans : Func := Try.f91
theorem p_annealref1_nans : PR.funcs[i_annealref1_nans]? = some f_annealref1_nans := Try.func91
abbrev i_annealref1_zero : FuncId := 92
noncomputable abbrev f_annealref1_zero : Func := Try.f92
theorem p_annealref1_zero : PR.funcs[i_annealref1_zero]? = some f_annealref1_zero := Try.func92
abbrev i_order_pick : FuncId := 93
noncomputable abbrev f_order_pick : Func := Try.f93
theorem p_order_pick : PR.funcs[i_order_pick]? = some f_order_pick := Try.func93
abbrev i_annealref1_pick : FuncId := 94
noncomputable abbrev f_annealref1_pick : Func := Try.f94
theorem p_annealref1_pick : PR.funcs[i_annealref1_pick]? = some f_annealref1_pick := Try.func94
abbrev i_format_Neg : FuncId := 95
noncomputable abbrev f_format_Neg : Func := Try.f95
theorem p_format_Neg : PR.funcs[i_format_Neg]? = some f_format_Neg := Try.func95
abbrev i_format_Turn : FuncId := 96
noncomputable abbrev f_format_Turn : Func := Try.f96
theorem p_format_Turn : PR.funcs[i_format_Turn]? = some f_format_Turn := Try.func96
abbrev i_annealref1_neg : FuncId := 97
noncomputable abbrev f_annealref1_neg : Func := Try.f97
theorem p_annealref1_neg : PR.funcs[i_annealref1_neg]? = some f_annealref1_neg := Try.func97
abbrev i_config_lay : FuncId := 98
noncomputable abbrev f_config_lay : Func := Try.f98
theorem p_config_lay : PR.funcs[i_config_lay]? = some f_config_lay := Try.func98
abbrev i_config_flag : FuncId := 99
noncomputable abbrev f_config_flag : Func := Try.f99
theorem p_config_flag : PR.funcs[i_config_flag]? = some f_config_flag := Try.func99
abbrev i_annealref24_put : FuncId := 100
noncomputable abbrev f_annealref24_put : Func := Try.f100
theorem p_annealref24_put : PR.funcs[i_annealref24_put]? = some f_annealref24_put := Try.func100
abbrev i_config_params : FuncId := 101
noncomputable abbrev f_config_params : Func := Try.f101
theorem p_config_params : PR.funcs[i_config_params]? = some f_config_params := Try.func101
abbrev i_config_kinds : FuncId := 102
noncomputable abbrev f_config_kinds : Func := Try.f102
theorem p_config_kinds : PR.funcs[i_config_kinds]? = some f_config_kinds := Try.func102
abbrev i_config_numbers : FuncId := 103
noncomputable abbrev f_config_numbers : Func := Try.f103
theorem p_config_numbers : PR.funcs[i_config_numbers]? = some f_config_numbers := Try.func103
abbrev i_config_counts : FuncId := 104
noncomputable abbrev f_config_counts : Func := Try.f104
theorem p_config_counts : PR.funcs[i_config_counts]? = some f_config_counts := Try.func104
abbrev i_slices_Max : FuncId := 105
noncomputable abbrev f_slices_Max : Func := Try.f105
theorem p_slices_Max : PR.funcs[i_slices_Max]? = some f_slices_Max := Try.func105
abbrev i_annealref24_in : FuncId := 106
noncomputable abbrev f_annealref24_in : Func := Try.f106
theorem p_annealref24_in : PR.funcs[i_annealref24_in]? = some f_annealref24_in := Try.func106
abbrev i_annealref24_plus : FuncId := 107
noncomputable abbrev f_annealref24_plus : Func := Try.f107
theorem p_annealref24_plus : PR.funcs[i_annealref24_plus]? = some f_annealref24_plus := Try.func107
abbrev i_annealref24_params : FuncId := 108
noncomputable abbrev f_annealref24_params : Func := Try.f108
theorem p_annealref24_params : PR.funcs[i_annealref24_params]? = some f_annealref24_params := Try.func108
abbrev i_config_take : FuncId := 109
noncomputable abbrev f_config_take : Func := Try.f109
theorem p_config_take : PR.funcs[i_config_take]? = some f_config_take := Try.func109
abbrev i_config_fill : FuncId := 110
noncomputable abbrev f_config_fill : Func := Try.f110
theorem p_config_fill : PR.funcs[i_config_fill]? = some f_config_fill := Try.func110
abbrev i_annealhelp_Ints : FuncId := 111
noncomputable abbrev f_annealhelp_Ints : Func := Try.f111
theorem p_annealhelp_Ints : PR.funcs[i_annealhelp_Ints]? = some f_annealhelp_Ints := Try.func111
abbrev i_slices_Equal : FuncId := 112
noncomputable abbrev f_slices_Equal : Func := Try.f112
theorem p_slices_Equal : PR.funcs[i_slices_Equal]? = some f_slices_Equal := Try.func112
abbrev i_config_bare : FuncId := 113
noncomputable abbrev f_config_bare : Func := Try.f113
theorem p_config_bare : PR.funcs[i_config_bare]? = some f_config_bare := Try.func113
abbrev i_annealref24_take : FuncId := 114
noncomputable abbrev f_annealref24_take : Func := Try.f114
theorem p_annealref24_take : PR.funcs[i_annealref24_take]? = some f_annealref24_take := Try.func114
abbrev i_sum32_one : FuncId := 115
noncomputable abbrev f_sum32_one : Func := Try.f115
theorem p_sum32_one : PR.funcs[i_sum32_one]? = some f_sum32_one := Try.func115
abbrev i_sum32_matrix_twice : FuncId := 116
noncomputable abbrev f_sum32_matrix_twice : Func := Try.f116
theorem p_sum32_matrix_twice : PR.funcs[i_sum32_matrix_twice]? = some f_sum32_matrix_twice := Try.func116
abbrev i_sum32_matrix_times : FuncId := 117
noncomputable abbrev f_sum32_matrix_times : Func := Try.f117
theorem p_sum32_matrix_times : PR.funcs[i_sum32_matrix_times]? = some f_sum32_matrix_times := Try.func117
abbrev i_config_in : FuncId := 118
noncomputable abbrev f_config_in : Func := Try.f118
theorem p_config_in : PR.funcs[i_config_in]? = some f_config_in := Try.func118
abbrev i_config_positive : FuncId := 119
noncomputable abbrev f_config_positive : Func := Try.f119
theorem p_config_positive : PR.funcs[i_config_positive]? = some f_config_positive := Try.func119
abbrev i_funcs_Above : FuncId := 120
noncomputable abbrev f_funcs_Above : Func := Try.f120
theorem p_funcs_Above : PR.funcs[i_funcs_Above]? = some f_funcs_Above := Try.func120
end Go.Proofs.Ytcpicekmnkjceaa.VI

namespace Go.Proofs.Ytcpicekmnkjceaa.VI
set_option linter.unusedVariables false
set_option linter.unusedSimpArgs false
set_option maxRecDepth 100000
set_option linter.unusedSimpArgs false
set_option linter.unusedVariables false
def poly : Nat := 3988292384
def bst (s : Nat) : Nat := (s / 2) ^^^ (if s % 2 = 1 then poly else 0)
def bsts : Nat → Nat → Nat
  | 0, s => s
  | n + 1, s => bsts n (bst s)
def crc : Nat → List Int → Nat
  | s, [] => s
  | s, c :: l => crc (bsts 8 (s ^^^ c.toNat)) l
theorem bst_lt {s : Nat} (h : s < 4294967296) : bst s < 4294967296 := by
  unfold bst
  refine u32_xor_lt (by omega) ?_
  split <;> decide
theorem bsts_lt : ∀ (n : Nat) {s : Nat}, s < 4294967296 → bsts n s < 4294967296
  | 0, _, h => h
  | n + 1, _, h => bsts_lt n (bst_lt h)
theorem bst_int {a : Nat} (h : a < 4294967296) : bits BinOp.xor IntKind.u32 ((a : Int) / 2 ^ 1) (IntKind.u32.wrap (3988292384 * bits BinOp.and IntKind.u32 a 1)) = (bst a : Nat) := by
  have h1 : bits BinOp.and IntKind.u32 (a : Int) 1 = ((a % 2 : Nat) : Int) := by
    have := u32_and h (b := 1) (by decide)
    rw [Nat.and_one_is_mod] at this
    exact this
  rw [h1]
  have h2 : IntKind.u32.wrap (3988292384 * ((a % 2 : Nat) : Int)) = ((if a % 2 = 1 then poly else 0 : Nat) : Int) := by
    rcases Nat.mod_two_eq_zero_or_one a with e | e <;> rw [e] <;> decide
  rw [h2, show (a : Int) / 2 ^ 1 = ((a / 2 : Nat) : Int) by omega]
  exact u32_xor (by omega) (by split <;> decide)
abbrev Am := (Nat × List Int × Int × Int) × Int × Int
def S34b (a : Am) : St := ⟨fr 31 [(0, .i .u32 a.2.1), (9, .si a.1.1 .u8 a.1.2.1), (10, .i .i64 a.1.2.2.1), (11, .i .i64 a.1.2.2.2), (19, .i .i64 a.2.2)], []⟩
def E34b (b : (Nat × List Int × Int × Int) × Int) : Ex × St := (.exit 2, ⟨fr 31 [(0, .i .u32 b.2), (9, .si b.1.1 .u8 b.1.2.1), (10, .i .i64 b.1.2.2.1), (11, .i .i64 b.1.2.2.2)], []⟩)
def t34b {R : Type} (a : Am) (kn : Am → Option R) (ko : (Nat × List Int × Int × Int) × Int → Option R) : Option R := bif decide (a.2.2 < 8) then kn (a.1, bits BinOp.xor IntKind.u32 (a.2.1 / 2 ^ 1) (IntKind.u32.wrap (3988292384 * bits BinOp.and IntKind.u32 a.2.1 1)), IntKind.i64.wrap (a.2.2 + 1)) else ko (a.1, a.2.1)
theorem st34b (a : Am) (R : Type) (K : Ex → St → Option R) : rndk PR orn L0 0 0 [0, 9, 10, 11, 19] [0, 9, 10, 11] (lpN f_sum32_More 1) (S34b a) K = t34b a (fun v => K .normal (S34b v)) (fun b => K (E34b b).1 (E34b b).2) := by
  obtain ⟨⟨n, xs, l, i⟩, v, j⟩ := a
  kernel_rfl
def g34b (s : St) : LTr := match s.t.getD 0 .u, s.t.getD 9 .u, s.t.getD 10 .u, s.t.getD 11 .u, s.t.getD 19 .u, s.h with
  | .i .u32 v, .si n .u8 xs, .i .i64 l, .i .i64 i, .i .i64 0, [] => .br (Nat.beq s.t.length 31) (.ret (.exit 2) ⟨fr 31 [(0, .i .u32 (bsts 8 v.toNat)), (9, .si n .u8 xs), (10, .i .i64 l), (11, .i .i64 i)], []⟩) .no
  | _, _, _, _, _, _ => .no
theorem lp34b : LoopOk PR 0 (lpN f_sum32_More 1) fun s => g34b (clean [0, 9, 10, 11, 19] 0 s) := by
  refine loop_fin (orn_ok _) mixed (L := L0) (d := 0) (ks2 := [0, 9, 10, 11]) (loopsOk0 (by kernel_rfl)) (E := E34b) (fun b => by simp [E34b]) st34b
    (fun a => inR .u32 a.2.1 ∧ 0 ≤ a.2.2 ∧ a.2.2 ≤ 8) (fun a => (8 - a.2.2).toNat) (fun a => (a.1, (bsts (8 - a.2.2).toNat a.2.1.toNat : Nat))) ?_ ?_
  · rintro ⟨c, v, j⟩ ⟨h1, h2, h3⟩
    simp only at h1 h2 h3
    obtain ⟨a, rfl, ha⟩ := u32_nat h1
    by_cases hj : j < 8
    · refine .inl ⟨(c, (bst a : Nat), j + 1), fun R kn ko => ?_, ⟨⟨Int.natCast_nonneg _, ?_⟩, by simp only; omega, by simp only; omega⟩, by simp only; omega, ?_⟩
      · simp only [t34b, hj, decide_true, cond_true, bst_int ha]
        rw [w64_id (by omega)]
      · have := bst_lt ha; show ((bst a : Nat) : Int) ≤ 4294967295; omega
      · simp only [Int.toNat_natCast]
        rw [show (8 - j).toNat = (8 - (j + 1)).toNat + 1 by omega]; rfl
    · refine .inr fun R kn ko => ?_
      simp only [t34b, hj, decide_false, cond_false]
      rw [show (8 - j).toNat = 0 by omega]; rfl
  · intro s e s' h ho hh
    unfold g34b at h
    split at h
    · rename_i v n xs l i h1 h2 h3 h4 h5 h6
      obtain ⟨hl, h⟩ := LTr.br_val h
      refine ⟨((n, xs, l, i), v, 0), wk_st hl ⟨h1, h2, h3, h4, h5, trivial⟩ h6, ⟨ok_at ho h1, Int.le_refl 0, show (0:Int) ≤ 8 by decide⟩, ?_⟩
      exact LTr.ret_val h
    · cases h
end Go.Proofs.Ytcpicekmnkjceaa.VI

namespace Go.Proofs.Ytcpicekmnkjceaa.VI
set_option linter.unusedVariables false
set_option linter.unusedSimpArgs false
set_option maxRecDepth 100000
set_option linter.unusedSimpArgs false
set_option linter.unusedVariables false
noncomputable def L34a : Lps := byL [0, 9, 10, 11, 19] 0 g34b
abbrev An := Nat × List Int × Int × Int × Int
def S34a (a : An) : St := ⟨fr 31 [(0, .i .u32 a.2.2.1), (9, .si a.1 .u8 a.2.1), (10, .i .i64 a.2.2.2.1), (11, .i .i64 a.2.2.2.2)], []⟩
def E34a (b : Int) : Ex × St := (.exit 0, ⟨fr 31 [(0, .i .u32 b)], []⟩)
def t34a {R : Type} (a : An) (kn : An → Option R) (ko : Int → Option R) : Option R := bif decide (a.2.2.2.2 < a.2.2.2.1) then bif decide (0 ≤ a.2.2.2.2 ∧ a.2.2.2.2 < (a.1 : Int)) then
    kn (a.1, a.2.1, (bsts 8 (bits .xor .u32 a.2.2.1 (IntKind.u32.wrap (a.2.1.getD a.2.2.2.2.toNat 0))).toNat : Nat), a.2.2.2.1, IntKind.i64.wrap (a.2.2.2.2 + 1)) else none else ko a.2.2.1
theorem st34a (a : An) (R : Type) (K : Ex → St → Option R) : rndk PR orn L34a 0 0 [0, 9, 10, 11] [0] (lpN f_sum32_More 0) (S34a a) K = t34a a (fun v => K .normal (S34a v)) (fun b => K (E34a b).1 (E34a b).2) := by
  obtain ⟨n, xs, v, l, i⟩ := a
  kernel_rfl
def g34a (s : St) : LTr := match s.t.getD 0 .u, s.t.getD 9 .u, s.t.getD 10 .u, s.t.getD 11 .u, s.h with
  | .i .u32 v, .si n .u8 xs, .i .i64 l, .i .i64 0, [] => .br (Nat.beq s.t.length 31 && decide (l = n) && Nat.ble n xs.length) (.ret (.exit 0) ⟨fr 31 [(0, .i .u32 (crc v.toNat (xs.take n)))], []⟩) .no
  | _, _, _, _, _ => .no
theorem crc_lt : ∀ (l : List Int) {s : Nat}, s < 4294967296 → (∀ c ∈ l, inR .u8 c) → crc s l < 4294967296
  | [], _, h, _ => h
  | c :: l, s, h, hl => by
    obtain ⟨a, rfl, ha⟩ := u8_nat (hl c (by simp))
    exact crc_lt l (bsts_lt 8 (u32_xor_lt h (by simp only [Int.toNat_natCast]; omega))) fun c hc => hl c (by simp [hc])
theorem lp34a : LoopOk PR 0 (lpN f_sum32_More 0) fun s => g34a (clean [0, 9, 10, 11] 0 s) := by
  refine loop_fin (orn_ok _) mixed (L := L34a) (d := 0) (ks2 := [0]) (loopsOk1 (a := lpN f_sum32_More 1) (f := fun s => g34b (clean [0, 9, 10, 11, 19] 0 s)) (by kernel_rfl) lp34b) (E := E34a) (fun b => by simp [E34a]) st34a
    (fun a => inR .u32 a.2.2.1 ∧ a.2.2.2.1 = a.1 ∧ a.1 ≤ a.2.1.length ∧ 0 ≤ a.2.2.2.2 ∧ a.2.2.2.2 ≤ a.1 ∧ (a.1 : Int) ≤ 9223372036854775807 ∧ ∀ c ∈ a.2.1, inR .u8 c) (fun a => (a.1 - a.2.2.2.2).toNat) (fun a => (crc a.2.2.1.toNat ((a.2.1.take a.1).drop a.2.2.2.2.toNat) : Nat)) ?_ ?_
  · rintro ⟨n, xs, v, l, i⟩ ⟨h1, h2, h3, h4, h5, h6, h7⟩
    simp only at h1 h2 h3 h4 h5 h6 h7
    obtain ⟨a, rfl, ha⟩ := u32_nat h1
    by_cases hj : i < n
    · have hx : i.toNat < xs.length := by omega
      have hxd : xs.getD i.toNat 0 = xs[i.toNat] := by simp [List.getD, hx]
      obtain ⟨c, hc, hc'⟩ := u8_nat (h7 _ (List.getElem_mem hx))
      have hw : bits .xor .u32 (a : Int) (IntKind.u32.wrap (xs.getD i.toNat 0)) = ((a ^^^ c : Nat) : Int) := by
        rw [hxd, hc, wrap_nat (k := .u32) rfl (by show c < 4294967296; omega)]
        exact u32_xor ha (by omega)
      have hlt := bsts_lt 8 (u32_xor_lt ha (show c < 4294967296 by omega))
      refine .inl ⟨(n, xs, (bsts 8 (a ^^^ c) : Nat), l, i + 1), fun R kn ko => ?_, ⟨⟨Int.natCast_nonneg _, ?_⟩, h2, h3, by simp only; omega, by simp only; omega, h6, h7⟩, by simp only; omega, ?_⟩
      · simp only [t34a, h2, hj, h4, and_self, decide_true, cond_true, hw, Int.toNat_natCast]
        rw [w64_id (by omega)]
      · show ((bsts 8 (a ^^^ c) : Nat) : Int) ≤ 4294967295; omega
      · simp only [Int.toNat_natCast]
        have hd : (xs.take n).drop i.toNat = (c : Int) :: (xs.take n).drop (i + 1).toNat := by
          rw [List.drop_eq_getElem_cons (by simp; omega), show (i + 1).toNat = i.toNat + 1 by omega]
          congr 1
          rw [List.getElem_take, hc]
        rw [hd]; simp only [crc, Int.toNat_natCast]
    · refine .inr fun R kn ko => ?_
      simp only [t34a, h2, hj, decide_false, cond_false]
      rw [List.drop_of_length_le (by simp; omega)]
      simp [crc]
  · intro s e s' h ho hh
    unfold g34a at h
    split at h
    · rename_i v n xs l h1 h2 h3 h4 h5
      obtain ⟨hl, hr⟩ := LTr.br_val h
      simp only [Bool.and_eq_true, decide_eq_true_eq] at hl
      obtain ⟨⟨hl, rfl⟩, hn⟩ := hl
      have ho2 := ok_at ho h2
      refine ⟨(n, xs, v, n, 0), wk_st hl ⟨h1, h2, h3, h4, trivial⟩ h5, ⟨ok_at ho h1, rfl, Nat.le_of_ble_eq_true hn, Int.le_refl 0, Int.natCast_nonneg n, Int.ofNat_le.2 ho2.1, ho2.2⟩, ?_⟩
      exact LTr.ret_val hr
    · cases h
def sp34 (l : List V) (h : Heap) : Tr := match l, h with
  | [.i .u32 s, .si n .u8 xs], [] => .br (Nat.ble n xs.length) (.ret (.i .u32 (4294967295 - crc (4294967295 - s.toNat) (xs.take n) : Nat)) []) .no
  | _, _ => .no
def k34 : Lps := byL [0, 9, 10, 11] 0 g34a
theorem not32 {a : Nat} (h : a < 4294967296) : bits .xor .u32 4294967295 (a : Int) = ((4294967295 - a : Nat) : Int) := by
  have := u32_xor (a := 4294967295) (b := a) (by decide) h
  rw [show ((4294967295 : Nat) : Int) = 4294967295 from rfl] at this
  rw [this]
  congr 1
  apply Nat.eq_of_testBit_eq
  intro i
  rw [show 4294967295 - a = 2 ^ 32 - (a + 1) by omega, Nat.testBit_two_pow_sub_succ (by omega), Nat.testBit_xor, show 4294967295 = 2 ^ 32 - 1 from rfl, Nat.testBit_two_pow_sub_one]
  by_cases hi : i < 32
  · simp [hi]
  · rw [Nat.testBit_lt_two_pow (Nat.lt_of_lt_of_le (show a < 2 ^ 32 from h) (Nat.pow_le_pow_right (by decide : 2 > 0) (show 32 ≤ i by omega)))]
    simp [hi]
end Go.Proofs.Ytcpicekmnkjceaa.VI

namespace Go.Proofs.Ytcpicekmnkjceaa.VI
set_option linter.unusedVariables false
set_option linter.unusedSimpArgs false
set_option maxRecDepth 100000
set_option linter.unusedSimpArgs false
set_option linter.unusedVariables false
theorem run34 (n : Nat) (xs : List Int) (v : Int) : runk PR orn k34 false f_sum32_More (f_sum32_More.body.getD .skip) [.i .u32 v, .si n .u8 xs] [] (fun r h => some (r, h)) = bif decide ((n : Int) = n) && Nat.ble n xs.length then some (.i .u32 (bits .xor .u32 4294967295 (crc (bits .xor .u32 4294967295 v).toNat (xs.take n))), []) else none := by kernel_rfl
theorem ok34 : OrcOk PR (ent i_sum32_More [] 0 sp34) := fn_ok (orn_ok _) mixed (L := k34) (kp := false) p_sum32_More (by kernel_rfl) (by kernel_rfl) fun l hc r h' hv ho hh => by
  unfold sp34 at hv
  split at hv
  · rename_i v n xs
    obtain ⟨hb, hv⟩ := Tr.br_val hv
    obtain ⟨rfl, rfl⟩ := Tr.ret_val hv
    refine ⟨loopsOk1 (a := lpN f_sum32_More 0) (f := fun s => g34a (clean [0, 9, 10, 11] 0 s)) (by kernel_rfl) lp34a, (run34 n xs v).trans ?_⟩
    obtain ⟨a, rfl, ha⟩ := u32_nat ho.1
    have hl := crc_lt (xs.take n) (show 4294967295 - a < 4294967296 by omega) fun c hc => ho.2.1.2 c (List.mem_of_mem_take hc)
    simp only [decide_true, hb, Bool.and_self, cond_true, not32 ha, Int.toNat_natCast, not32 hl]
  · cases hv
def sp22 (l : List V) (h : Heap) : Tr := match l, h with
  | [.si n .u8 xs], [] => .br (Nat.ble n xs.length) (.ret (.i .u32 (4294967295 - crc 4294967295 (xs.take n) : Nat)) []) .no
  | _, _ => .no
theorem run22 (n : Nat) (xs : List Int) : runk PR (ent i_sum32_More [] 0 sp34) L0 false f_sum32_Of (f_sum32_Of.body.getD .skip) [.si n .u8 xs] [] (fun r h => some (r, h)) = (sp22 [.si n .u8 xs] []).val := by kernel_rfl
theorem ok22 : OrcOk PR (ent i_sum32_Of [] 0 sp22) := fn_ok ok34 mixed (L := L0) (kp := false) p_sum32_Of (by kernel_rfl) (by kernel_rfl) fun l hc r h' hv ho hh => by
  have hv2 := hv
  unfold sp22 at hv
  split at hv
  · exact ⟨loopsOk0 (by kernel_rfl), (run22 _ _).trans hv2⟩
  · cases hv
end Go.Proofs.Ytcpicekmnkjceaa.VI

namespace Go.Proofs.Ytcpicekmnkjceaa.VI
set_option linter.unusedVariables false
set_option linter.unusedSimpArgs false
set_option maxRecDepth 100000
set_option linter.unusedSimpArgs false
set_option linter.unusedVariables false
theorem xor_mod2 (a b : Nat) : (a ^^^ b) % 2 = (a % 2 + b % 2) % 2 := by
  have := Nat.xor_mod_two_pow (a := a) (b := b) (n := 1)
  rw [Nat.pow_one] at this
  rw [this]
  rcases Nat.mod_two_eq_zero_or_one a with h1 | h1 <;> rcases Nat.mod_two_eq_zero_or_one b with h2 | h2 <;> rw [h1, h2] <;> rfl
theorem xor_two (a b : Nat) (h : b < 2) : 2 * a ^^^ b = 2 * a + b := by
  have h1 : (2 * a ^^^ b) / 2 = a := by rw [Nat.xor_div_two, show 2 * a / 2 = a by omega, show b / 2 = 0 by omega, Nat.xor_zero]
  have h2 : (2 * a ^^^ b) % 2 = b := by rw [xor_mod2]; omega
  omega
theorem xor_4 (a b c d : Nat) : (a ^^^ b) ^^^ (c ^^^ d) = (a ^^^ c) ^^^ (b ^^^ d) := by
  rw [Nat.xor_assoc, Nat.xor_assoc, ← Nat.xor_assoc b, Nat.xor_comm b c, Nat.xor_assoc]
theorem bst_xor (a b : Nat) : bst (a ^^^ b) = bst a ^^^ bst b := by
  unfold bst
  rw [Nat.xor_div_two, xor_4, xor_mod2]
  congr 1
  rcases Nat.mod_two_eq_zero_or_one a with h1 | h1 <;> rcases Nat.mod_two_eq_zero_or_one b with h2 | h2 <;> simp [h1, h2]
theorem bsts_xor : ∀ (n a b : Nat), bsts n (a ^^^ b) = bsts n a ^^^ bsts n b
  | 0, _, _ => rfl
  | n + 1, a, b => by simp only [bsts, bst_xor, bsts_xor n]
theorem bsts_zero : ∀ n, bsts n 0 = 0
  | 0 => rfl
  | n + 1 => by simp only [bsts]; rw [show bst 0 = 0 by decide]; exact bsts_zero n
theorem bsts_add : ∀ (m n s : Nat), bsts (m + n) s = bsts n (bsts m s)
  | 0, n, s => by rw [Nat.zero_add]; rfl
  | m + 1, n, s => by rw [show m + 1 + n = (m + n) + 1 by omega]; simp only [bsts]; exact bsts_add m n (bst s)
def mulN : List Int → Nat → Nat
  | [], _ => 0
  | x :: l, v => (if v % 2 = 1 then x.toNat else 0) ^^^ mulN l (v / 2)
def matF (f : Nat → Nat) : Nat → Nat → List Int
  | _, 0 => []
  | i, n + 1 => (f (2 ^ i) : Nat) :: matF f (i + 1) n
theorem mulN_mat {f : Nat → Nat} (h0 : f 0 = 0) (hx : ∀ a b, f (a ^^^ b) = f a ^^^ f b) : ∀ (n i v : Nat), v < 2 ^ n → mulN (matF f i n) v = f (v * 2 ^ i)
  | 0, i, v, h => by
    have : v = 0 := by omega
    subst this; simp [matF, mulN, h0]
  | n + 1, i, v, h => by
    have hv : v / 2 < 2 ^ n := by rw [Nat.pow_succ] at h; omega
    simp only [matF, mulN, mulN_mat h0 hx n (i + 1) (v / 2) hv, Int.toNat_natCast]
    have e : v * 2 ^ i = (v % 2) * 2 ^ i ^^^ (v / 2) * 2 ^ (i + 1) := by
      have hz := xor_two (v / 2) (v % 2) (by omega)
      have h2 : 2 * (v / 2) + v % 2 = v := by omega
      rw [h2] at hz
      have : (2 * (v / 2) ^^^ v % 2) <<< i = v <<< i := by rw [hz]
      rw [Nat.shiftLeft_xor_distrib] at this
      simp only [Nat.shiftLeft_eq] at this
      rw [← this, Nat.xor_comm]
      congr 1
      rw [Nat.pow_succ]; ac_rfl
    rw [e, hx]
    congr 1
    rcases Nat.mod_two_eq_zero_or_one v with h1 | h1 <;> simp [h1, h0]
theorem matF_len (f : Nat → Nat) : ∀ (n i : Nat), (matF f i n).length = n
  | 0, _ => rfl
  | n + 1, i => by simp [matF, matF_len f n (i + 1)]
theorem matF_mem {f : Nat → Nat} : ∀ {n i : Nat} {x : Int}, x ∈ matF f i n → ∃ j, i ≤ j ∧ j < i + n ∧ x = (f (2 ^ j) : Nat)
  | n + 1, i, x, h => by
    rcases List.mem_cons.1 h with e | e
    · exact ⟨i, by omega, by omega, e⟩
    · obtain ⟨j, h1, h2, h3⟩ := matF_mem e; exact ⟨j, by omega, by omega, h3⟩
def matL (k : Nat) : List Int := matF (bsts k) 0 32
def twL (xs : List Int) : List Int := xs.map fun x => (mulN xs x.toNat : Nat)
theorem matF_map {f g : Nat → Nat} {h : Int → Int} (hh : ∀ j, j < 32 → h ((f (2 ^ j) : Nat) : Int) = (g (2 ^ j) : Nat)) : ∀ (n i : Nat), i + n ≤ 32 → (matF f i n).map h = matF g i n
  | 0, _, _ => rfl
  | n + 1, i, hi => by simp only [matF, List.map_cons, hh i (by omega), matF_map hh n (i + 1) (by omega)]
theorem mul_matL (k v : Nat) (h : v < 4294967296) : mulN (matL k) v = bsts k v := by
  unfold matL
  rw [mulN_mat (bsts_zero k) (bsts_xor k) 32 0 v h, Nat.pow_zero, Nat.mul_one]
theorem tw_matL (k : Nat) : twL (matL k) = matL (2 * k) := by
  refine matF_map (fun j hj => ?_) 32 0 (by omega)
  have h2 : 2 ^ j < 4294967296 := Nat.lt_of_lt_of_le (Nat.pow_lt_pow_right (by decide) hj) (by decide)
  simp only [Int.toNat_natCast]
  rw [mul_matL k _ (bsts_lt k h2), show 2 * k = k + k by omega, bsts_add]
theorem matL_in (k : Nat) : ∀ x ∈ matL k, inR .u32 x := fun x hx => by
  obtain ⟨j, h1, h2, rfl⟩ := matF_mem hx
  have h2 : 2 ^ j < 4294967296 := Nat.lt_of_lt_of_le (Nat.pow_lt_pow_right (by decide) (show j < 32 by omega)) (by decide)
  have := bsts_lt k h2
  exact ⟨Int.natCast_nonneg _, by show ((bsts k (2 ^ j) : Nat) : Int) ≤ 4294967295; omega⟩
theorem mulN_lt : ∀ {l : List Int} {v : Nat}, (∀ x ∈ l, inR .u32 x) → mulN l v < 4294967296
  | [], _, _ => show 0 < 4294967296 by decide
  | x :: l, v, h => by
    obtain ⟨a, rfl, ha⟩ := u32_nat (h x (by simp))
    refine u32_xor_lt ?_ (mulN_lt fun y hy => h y (by simp [hy]))
    split
    · simpa using ha
    · decide
theorem mulN_zero : ∀ l : List Int, mulN l 0 = 0
  | [] => rfl
  | x :: l => by simp [mulN, mulN_zero l]
abbrev At := (Nat × List Int) × Int × Int × Int
def blkM (e : Nat) (xs : List Int) : Blk := ⟨1, e, .ints .u32 xs, true⟩
def S117 (a : At) : St := ⟨fr 24 [(0, .ref 0 1 0), (1, .i .u32 a.2.1), (5, .i .u32 a.2.2.1), (6, .i .i64 a.2.2.2)], [blkM a.1.1 a.1.2]⟩
def E117 (b : (Nat × List Int) × Int) : Ex × St := (.exit 0, ⟨fr 24 [(5, .i .u32 b.2)], [blkM b.1.1 b.1.2]⟩)
def t117 {R : Type} (a : At) (kn : At → Option R) (ko : (Nat × List Int) × Int → Option R) : Option R := bif a.2.1 != 0 then
    bif bits BinOp.and IntKind.u32 a.2.1 1 == 1 then bif decide (0 ≤ a.2.2.2 ∧ a.2.2.2 < 32) then bif decide (0 + a.2.2.2.toNat * 1 < a.1.2.length) then
      kn (a.1, a.2.1 / 2, bits .xor .u32 a.2.2.1 (a.1.2.getD (0 + a.2.2.2.toNat * 1) 0), IntKind.i64.wrap (a.2.2.2 + 1)) else none else none
    else kn (a.1, a.2.1 / 2, a.2.2.1, IntKind.i64.wrap (a.2.2.2 + 1))
  else ko (a.1, a.2.2.1)
theorem st117 (a : At) (R : Type) (K : Ex → St → Option R) : rndk PR orn L0 0 1 [0, 1, 5, 6] [5] (lpN f_sum32_matrix_times 0) (S117 a) K = t117 a (fun v => K .normal (S117 v)) (fun b => K (E117 b).1 (E117 b).2) := by
  obtain ⟨⟨e, xs⟩, v, o, i⟩ := a
  kernel_rfl
def g117 (s : St) : LTr := match s.t.getD 0 .u, s.t.getD 1 .u, s.t.getD 5 .u, s.t.getD 6 .u, s.h with
  | .ref 0 1 0, .i .u32 v, .i .u32 0, .i .i64 0, [⟨1, e, .ints .u32 xs, true⟩] => .br (Nat.beq s.t.length 24 && Nat.beq xs.length 32) (.ret (.exit 0) ⟨fr 24 [(5, .i .u32 (mulN xs v.toNat : Nat))], [blkM e xs]⟩) .no
  | _, _, _, _, _ => .no
theorem lp117 : LoopOk PR 1 (lpN f_sum32_matrix_times 0) fun s => g117 (clean [0, 1, 5, 6] 1 s) := by
  refine loop_fin (orn_ok _) mixed (L := L0) (d := 0) (ks2 := [5]) (loopsOk0 (by kernel_rfl)) (E := E117) (fun b => by simp [E117]) st117
    (fun a => inR .u32 a.2.1 ∧ inR .u32 a.2.2.1 ∧ 0 ≤ a.2.2.2 ∧ a.2.2.2 ≤ 32 ∧ a.1.2.length = 32 ∧ a.2.1.toNat < 2 ^ (32 - a.2.2.2.toNat) ∧ ∀ x ∈ a.1.2, inR .u32 x) (fun a => a.2.1.toNat) (fun a => (a.1, (a.2.2.1.toNat ^^^ mulN (a.1.2.drop a.2.2.2.toNat) a.2.1.toNat : Nat))) ?_ ?_
  · rintro ⟨⟨e, xs⟩, v, o, i⟩ ⟨h1, h2, h3, h4, h5, h6, h7⟩
    simp only at h1 h2 h3 h4 h5 h6 h7
    obtain ⟨a, rfl, ha⟩ := u32_nat h1
    obtain ⟨b, rfl, hb⟩ := u32_nat h2
    simp only [Int.toNat_natCast] at h6
    have hand : bits BinOp.and IntKind.u32 (a : Int) 1 = ((a % 2 : Nat) : Int) := by
      have := u32_and ha (b := 1) (by decide)
      rw [Nat.and_one_is_mod] at this
      exact this
    by_cases h0 : a = 0
    · subst h0
      refine .inr fun R kn ko => ?_
      simp [t117, mulN_zero]
    · have hi : i.toNat < 32 := by
        rcases Nat.lt_or_ge i.toNat 32 with h | h
        · exact h
        · rw [show 32 - i.toNat = 0 by omega] at h6; omega
      have hne : ((a : Int) != 0) = true := by simp; omega
      have hx : i.toNat < xs.length := by omega
      obtain ⟨c, hc, hc'⟩ := u32_nat (h7 _ (List.getElem_mem hx))
      have hd : xs.drop i.toNat = (c : Int) :: xs.drop (i + 1).toNat := by
        rw [List.drop_eq_getElem_cons hx, show (i + 1).toNat = i.toNat + 1 by omega, hc]
      have hp : a / 2 < 2 ^ (32 - (i + 1).toNat) := by
        rw [show 32 - i.toNat = (32 - (i + 1).toNat) + 1 by omega, Nat.pow_succ] at h6
        omega
      have hdv : ((a : Int) / 2) = ((a / 2 : Nat) : Int) := by omega
      have hw := w64_id (n := i + 1) (by omega)
      have hu2 : inR .u32 ((a / 2 : Nat) : Int) := ⟨Int.natCast_nonneg _, by show ((a / 2 : Nat) : Int) ≤ 4294967295; omega⟩
      rcases Nat.mod_two_eq_zero_or_one a with hm | hm
      · refine .inl ⟨((e, xs), (a / 2 : Nat), (b : Int), i + 1), fun R kn ko => ?_, ⟨hu2, h2, by simp only; omega, by simp only; omega, h5, by simp only [Int.toNat_natCast]; exact hp, h7⟩, by simp only [Int.toNat_natCast]; omega, ?_⟩
        · simp only [t117, hne, cond_true, hand, hm, hdv, hw]; rfl
        · simp only [Int.toNat_natCast, hd, mulN, hm]; simp
      · have hlt := u32_xor_lt hb hc'
        refine .inl ⟨((e, xs), (a / 2 : Nat), (b ^^^ c : Nat), i + 1), fun R kn ko => ?_, ⟨hu2, ⟨Int.natCast_nonneg _, by show ((b ^^^ c : Nat) : Int) ≤ 4294967295; omega⟩, by simp only; omega, by simp only; omega, h5, by simp only [Int.toNat_natCast]; exact hp, h7⟩, by simp only [Int.toNat_natCast]; omega, ?_⟩
        · have hg : xs.getD (0 + i.toNat * 1) 0 = (c : Int) := by
            rw [show 0 + i.toNat * 1 = i.toNat by omega, List.getD_eq_getElem?_getD, List.getElem?_eq_getElem hx, hc]; rfl
          simp only [t117, hne, cond_true, hand, hm, hdv, hw, hg, u32_xor hb hc', show (0 ≤ i ∧ i < 32) from ⟨h3, by omega⟩, show 0 + i.toNat * 1 < xs.length by omega, decide_true]
          rfl
        · simp only [Int.toNat_natCast, hd, mulN, hm, if_true, Nat.xor_assoc]
  · intro s e s' h ho hh
    unfold g117 at h
    split at h
    · rename_i v e0 xs h1 h2 h3 h4 h5
      obtain ⟨hl, hr⟩ := LTr.br_val h
      simp only [Bool.and_eq_true] at hl
      obtain ⟨hl, hn⟩ := hl
      have hn := Nat.eq_of_beq_eq_true hn
      have hv := ok_at ho h2
      obtain ⟨a, rfl, ha⟩ := u32_nat hv
      have hxs : ∀ x ∈ xs, inR .u32 x := hh ⟨1, e0, .ints .u32 xs, true⟩ (by rw [h5]; exact List.mem_cons_self)
      refine ⟨((e0, xs), a, 0, 0), wk_st hl ⟨h1, h2, h3, h4, trivial⟩ h5, ⟨hv, ⟨Int.le_refl 0, show (0 : Int) ≤ 4294967295 by decide⟩, Int.le_refl 0, show (0 : Int) ≤ 32 by decide, hn, ha, hxs⟩, ?_⟩
      rw [← LTr.ret_val hr]
      simp [E117]
    · cases h
def sp117 (l : List V) (h : Heap) : Tr := match l, h with
  | [.ref 0 1 0, .i .u32 v], [⟨1, e, .ints .u32 xs, true⟩] => .br (Nat.beq xs.length 32) (.ret (.i .u32 (mulN xs v.toNat : Nat)) [blkM e xs]) .no
  | _, _ => .no
theorem run117 (e : Nat) (xs : List Int) (v : Int) : runk PR orn (byL [0, 1, 5, 6] 1 g117) false f_sum32_matrix_times (f_sum32_matrix_times.body.getD .skip) [.ref 0 1 0, .i .u32 v] [blkM e xs] (fun r h => some (r, h)) = (sp117 [.ref 0 1 0, .i .u32 v] [blkM e xs]).val := by kernel_rfl
theorem ok117 : OrcOk PR (ent i_sum32_matrix_times [true] 0 sp117) := fn_ok (orn_ok _) mixed (L := byL [0, 1, 5, 6] 1 g117) (kp := false) p_sum32_matrix_times (by kernel_rfl) (by kernel_rfl) fun l hc r h' hv ho hh => by
  have hv2 := hv
  unfold sp117 at hv
  split at hv
  · exact ⟨loopsOk1 (a := lpN f_sum32_matrix_times 0) (f := fun s => g117 (clean [0, 1, 5, 6] 1 s)) (by kernel_rfl) lp117, (run117 _ _ _).trans hv2⟩
  · cases hv
end Go.Proofs.Ytcpicekmnkjceaa.VI

namespace Go.Proofs.Ytcpicekmnkjceaa.VI
set_option linter.unusedVariables false
set_option linter.unusedSimpArgs false
set_option maxRecDepth 100000
set_option linter.unusedSimpArgs false
set_option linter.unusedVariables false
def tyM : Nat := 131
theorem run115 : runk PR orn (fun _ _ => .un 33 [1, 2]) true f_sum32_one (f_sum32_one.body.getD .skip) [] [] (fun r h => some (r, h)) = some (.ref 0 1 0, [blkM tyM (matL 1)]) := by kernel_rfl
def sp115 (l : List V) (h : Heap) : Tr := match l, h with
  | [], [] => .ret (.ref 0 1 0) [blkM tyM (matL 1)]
  | _, _ => .no
theorem ok115 : OrcOk PR (ent i_sum32_one [] 1 sp115) := fn_ok (orn_ok _) mixed (L := fun _ _ => .un 33 [1, 2]) (kp := true) p_sum32_one (by kernel_rfl) (by kernel_rfl) fun l hc r h' hv ho hh => by
  unfold sp115 at hv
  split at hv
  · obtain ⟨rfl, rfl⟩ := Tr.ret_val hv
    exact ⟨loopsOk0 (by kernel_rfl), run115⟩
  · cases hv
def O117 : Orc := ent i_sum32_matrix_times [true] 0 sp117
abbrev Aw := (Nat × Nat × List Int) × List Int × Int
def S116 (a : Aw) : St := ⟨fr 19 [(0, .ref 0 1 0), (3, .ref 1 1 0), (6, .ref 0 1 0), (7, .i .i64 a.2.2)], [blkM a.1.1 a.1.2.2, blkM a.1.2.1 a.2.1]⟩
def E116 (b : (Nat × Nat × List Int) × List Int) : Ex × St := (.exit 0, ⟨fr 19 [(3, .ref 1 1 0)], [blkM b.1.1 b.1.2.2, blkM b.1.2.1 b.2]⟩)
def t116 {R : Type} (a : Aw) (kn : Aw → Option R) (ko : (Nat × Nat × List Int) × List Int → Option R) : Option R := bif decide (a.2.2 < 32) then
    bif decide (0 ≤ a.2.2 ∧ a.2.2 < 32) then
      bif decide (0 + a.2.2.toNat * 1 < a.1.2.2.length) then
        bif a.1.2.2.length.beq 32 then
          bif decide (0 ≤ a.2.2 ∧ a.2.2 < 32) then
            bif decide (0 + a.2.2.toNat * 1 < a.2.1.length) then
              kn (a.1, a.2.1.set (0 + a.2.2.toNat * 1) (mulN a.1.2.2 (a.1.2.2.getD (0 + a.2.2.toNat * 1) 0).toNat : Nat), IntKind.i64.wrap (a.2.2 + 1))
            else none
          else none
        else none
      else none
    else none
  else ko (a.1, a.2.1)
theorem st116 (a : Aw) (R : Type) (K : Ex → St → Option R) : rndk PR O117 L0 0 1 [0, 3, 6, 7] [3] (lpN f_sum32_matrix_twice 0) (S116 a) K = t116 a (fun v => K .normal (S116 v)) (fun b => K (E116 b).1 (E116 b).2) := by
  obtain ⟨⟨e, e2, xs⟩, ys, i⟩ := a
  kernel_rfl
def g116 (s : St) : LTr := match s.t.getD 0 .u, s.t.getD 3 .u, s.t.getD 6 .u, s.t.getD 7 .u, s.h with
  | .ref 0 1 0, .ref 1 1 0, .ref 0 1 0, .i .i64 0, [⟨1, e, .ints .u32 xs, true⟩, ⟨1, e2, .ints .u32 ys, true⟩] => .br (Nat.beq s.t.length 19 && (Nat.beq xs.length 32 && Nat.beq ys.length 32)) (.ret (.exit 0) ⟨fr 19 [(3, .ref 1 1 0)], [blkM e xs, blkM e2 (twL xs)]⟩) .no
  | _, _, _, _, _ => .no
theorem lp116 : LoopOk PR 1 (lpN f_sum32_matrix_twice 0) fun s => g116 (clean [0, 3, 6, 7] 1 s) := by
  refine loop_fin ok117 mixed (L := L0) (d := 0) (ks2 := [3]) (loopsOk0 (by kernel_rfl)) (E := E116) (fun b => by simp [E116]) st116
    (fun a => 0 ≤ a.2.2 ∧ a.2.2 ≤ 32 ∧ a.1.2.2.length = 32 ∧ a.2.1.length = 32 ∧ a.2.1.take a.2.2.toNat = (twL a.1.2.2).take a.2.2.toNat) (fun a => (32 - a.2.2).toNat) (fun a => (a.1, twL a.1.2.2)) ?_ ?_
  · rintro ⟨⟨e, e2, xs⟩, ys, i⟩ ⟨h1, h2, h3, h4, h5⟩
    simp only at h1 h2 h3 h4 h5
    by_cases hi : i < 32
    · have hx : i.toNat < xs.length := by omega
      refine .inl ⟨((e, e2, xs), ys.set i.toNat (mulN xs (xs.getD i.toNat 0).toNat : Nat), i + 1), fun R kn ko => ?_, ⟨by simp only; omega, by simp only; omega, h3, by simpa using h4, ?_⟩, by simp only; omega, rfl⟩
      · simp only [t116, h1, hi, and_self, decide_true, cond_true, show 0 + i.toNat * 1 = i.toNat by omega, hx, h3, h4, show i.toNat < 32 by omega]
        rw [w64_id (by omega)]; rfl
      · simp only
        rw [show (i + 1).toNat = i.toNat + 1 by omega, List.take_add_one, List.take_add_one, List.take_set_of_le (by omega), h5]
        congr 1
        rw [List.getElem?_set_self (by omega)]
        simp [twL, hx]
    · refine .inr fun R kn ko => ?_
      have : i = 32 := by omega
      subst this
      rw [List.take_of_length_le (by simp; omega), List.take_of_length_le (by simp [twL]; omega)] at h5
      simp [t116, h5]
  · intro s e s' h ho hh
    unfold g116 at h
    split at h
    · rename_i e0 xs e2 ys h1 h2 h3 h4 h5
      obtain ⟨hl, hr⟩ := LTr.br_val h
      simp only [Bool.and_eq_true] at hl
      obtain ⟨hl, hn, hn2⟩ := hl
      exact ⟨((e0, e2, xs), ys, 0), wk_st hl ⟨h1, h2, h3, h4, trivial⟩ h5, ⟨Int.le_refl 0, show (0 : Int) ≤ 32 by decide, Nat.eq_of_beq_eq_true hn, Nat.eq_of_beq_eq_true hn2, rfl⟩, LTr.ret_val hr⟩
    · cases h
def sp116 (l : List V) (h : Heap) : Tr := match l, h with
  | [.ref 0 1 0], [⟨1, e, .ints .u32 xs, true⟩] => .br (Nat.beq xs.length 32) (.ret (.ref 1 1 0) [blkM e xs, blkM tyM (twL xs)]) .no
  | _, _ => .no
theorem run116 (e : Nat) (xs : List Int) : runk PR O117 (byL [0, 3, 6, 7] 1 g116) true f_sum32_matrix_twice (f_sum32_matrix_twice.body.getD .skip) [.ref 0 1 0] [blkM e xs] (fun r h => some (r, h)) = (bif Nat.beq xs.length 32 && true then some (.ref 1 1 0, [blkM e xs, blkM tyM (twL xs)]) else none) := by kernel_rfl
theorem ok116 : OrcOk PR (ent i_sum32_matrix_twice [true] 1 sp116) := fn_ok ok117 mixed (L := byL [0, 3, 6, 7] 1 g116) (kp := true) p_sum32_matrix_twice (by kernel_rfl) (by kernel_rfl) fun l hc r h' hv ho hh => by
  unfold sp116 at hv
  split at hv
  · rename_i e xs
    obtain ⟨hb, hv⟩ := Tr.br_val hv
    obtain ⟨rfl, rfl⟩ := Tr.ret_val hv
    exact ⟨loopsOk1 (a := lpN f_sum32_matrix_twice 0) (f := fun s => g116 (clean [0, 3, 6, 7] 1 s)) (by kernel_rfl) lp116, (run116 _ _).trans (by rw [hb]; rfl)⟩
  · cases hv
end Go.Proofs.Ytcpicekmnkjceaa.VI

namespace Go.Proofs.Ytcpicekmnkjceaa.VI
set_option linter.unusedVariables false
set_option linter.unusedSimpArgs false
set_option maxRecDepth 100000
set_option linter.unusedSimpArgs false
set_option linter.unusedVariables false
theorem i64_and1 {a : Nat} (h : a < 9223372036854775808) : bits .and .i64 (a : Int) 1 = ((a % 2 : Nat) : Int) := by
  unfold bits
  rw [show (1 : Int) = ((1 : Nat) : Int) from rfl]
  simp only [ofInt_nat, BitVec.toNat_and, BitVec.toNat_ofNat]
  rw [show IntKind.i64.bits = 64 from rfl, Nat.mod_eq_of_lt (show a < 2 ^ 64 by omega), show 1 % 2 ^ 64 = 1 from rfl, Nat.and_one_is_mod]
  exact w64_id (by omega)
def O81 : Orc := ors (ent i_sum32_one [] 1 sp115) (ors O117 (ent i_sum32_matrix_twice [true] 1 sp116))
theorem okO81 : OrcOk PR O81 := ors_ok ok115 (ors_ok ok117 ok116)
abbrev Ao := (Nat × List Int × Nat) × Int × Int
def S81 (a : Ao) : St := ⟨fr 26 [(0, .i .u32 a.2.1), (1, .i .i64 a.2.2), (5, .ref 0 1 0)], [blkM a.1.1 a.1.2.1]⟩
def E81 (b : Int) : Ex × St := (.exit 0, ⟨fr 26 [(0, .i .u32 b)], []⟩)
def t81 {R : Type} (a : Ao) (kn : Ao → Option R) (ko : Int → Option R) : Option R := bif decide (a.2.2 > 0) then
    bif bits BinOp.and IntKind.i64 a.2.2 1 == 1 then
      bif a.1.2.1.length.beq 32 then
        bif a.1.2.1.length.beq 32 then kn ((131, twL a.1.2.1, 2 * a.1.2.2), (mulN a.1.2.1 a.2.1.toNat : Nat), a.2.2 / 2)
        else none
      else none
    else
      bif a.1.2.1.length.beq 32 then kn ((131, twL a.1.2.1, 2 * a.1.2.2), a.2.1, a.2.2 / 2)
      else none
  else ko a.2.1
theorem st81 (a : Ao) (R : Type) (K : Ex → St → Option R) : rndk PR O81 L0 0 0 [0, 1, 5] [0] (lpN f_sum32_noughts 0) (S81 a) K = t81 a (fun v => K .normal (S81 v)) (fun b => K (E81 b).1 (E81 b).2) := by
  obtain ⟨⟨e, xs, k⟩, v, n⟩ := a
  kernel_rfl
def g81 (s : St) : LTr := match s.t.getD 0 .u, s.t.getD 1 .u, s.t.getD 5 .u, s.h with
  | .i .u32 v, .i .i64 n, .ref 0 1 0, [⟨1, e, .ints .u32 xs, true⟩] => .br (Nat.beq s.t.length 26 && decide (xs = matL 8)) (.ret (.exit 0) ⟨fr 26 [(0, .i .u32 (bsts (8 * n.toNat) v.toNat : Nat))], []⟩) .no
  | _, _, _, _ => .no
theorem lp81 : LoopOk PR 0 (lpN f_sum32_noughts 0) fun s => g81 (clean [0, 1, 5] 0 s) := by
  refine loop_fin okO81 mixed (L := L0) (d := 0) (ks2 := [0]) (loopsOk0 (by kernel_rfl)) (E := E81) (fun b => by simp [E81]) st81
    (fun a => a.1.2.1 = matL a.1.2.2 ∧ inR .u32 a.2.1 ∧ inR .i64 a.2.2) (fun a => a.2.2.toNat) (fun a => (bsts (a.1.2.2 * a.2.2.toNat) a.2.1.toNat : Nat)) ?_ ?_
  · rintro ⟨⟨e, xs, k⟩, v, n⟩ ⟨h1, h2, h3⟩
    simp only at h1 h2 h3
    subst h1
    have h3 := i64_in h3
    obtain ⟨a, rfl, ha⟩ := u32_nat h2
    have hlen : (matL k).length.beq 32 = true := by rw [show (matL k).length = 32 from matF_len _ _ _]; rfl
    by_cases hn : n > 0
    · obtain ⟨b, rfl⟩ := Int.eq_ofNat_of_zero_le (show 0 ≤ n by omega)
      have hb : b < 9223372036854775808 := by omega
      have hd : ((b : Int) / 2) = ((b / 2 : Nat) : Int) := by omega
      have h3' : inR .i64 ((b / 2 : Nat) : Int) := ⟨by show -9223372036854775808 ≤ ((b / 2 : Nat) : Int); omega, by show ((b / 2 : Nat) : Int) ≤ 9223372036854775807; omega⟩
      have hlt := bsts_lt k ha
      rcases Nat.mod_two_eq_zero_or_one b with hm | hm
      · refine .inl ⟨((131, twL (matL k), 2 * k), (a : Int), ((b / 2 : Nat) : Int)), fun R kn ko => ?_, ⟨tw_matL k, h2, h3'⟩, by simp only [Int.toNat_natCast]; omega, ?_⟩
        · simp only [t81, hn, decide_true, cond_true, i64_and1 hb, hm, hlen, hd]; rfl
        · simp only [Int.toNat_natCast]
          rw [Nat.mul_comm 2 k, Nat.mul_assoc, show 2 * (b / 2) = b by omega]
      · refine .inl ⟨((131, twL (matL k), 2 * k), (bsts k a : Nat), ((b / 2 : Nat) : Int)), fun R kn ko => ?_, ⟨tw_matL k, ⟨Int.natCast_nonneg _, by show ((bsts k a : Nat) : Int) ≤ 4294967295; omega⟩, h3'⟩, by simp only [Int.toNat_natCast]; omega, ?_⟩
        · simp only [t81, hn, decide_true, cond_true, i64_and1 hb, hm, hlen, hd, Int.toNat_natCast, mul_matL k a ha]; rfl
        · simp only [Int.toNat_natCast]
          rw [← bsts_add, Nat.mul_comm 2 k, Nat.mul_assoc]
          congr 2
          rw [show b = 2 * (b / 2) + 1 by omega, Nat.mul_add, Nat.mul_one, show (2 * (b / 2) + 1) / 2 = b / 2 by omega]
          omega
    · refine .inr fun R kn ko => ?_
      simp only [t81, hn, decide_false, cond_false]
      rw [show n.toNat = 0 by omega]; rfl
  · intro s e s' h ho hh
    unfold g81 at h
    split at h
    · rename_i v n e0 xs h1 h2 h3 h4
      obtain ⟨hl, hr⟩ := LTr.br_val h
      simp only [Bool.and_eq_true, decide_eq_true_eq] at hl
      obtain ⟨hl, rfl⟩ := hl
      exact ⟨((e0, matL 8, 8), v, n), wk_st hl ⟨h1, h2, h3, trivial⟩ h4, ⟨rfl, ok_at ho h1, ok_at ho h2⟩, LTr.ret_val hr⟩
    · cases h
def cl (n : Int) : Int := if 1073741824 < if 0 > n then 0 else n then 1073741824 else if 0 > n then 0 else n
def sp81 (l : List V) (h : Heap) : Tr := match l, h with
  | [.i .u32 v, .i .i64 n], [] => .ret (.i .u32 (bsts (8 * (cl n).toNat) v.toNat : Nat)) []
  | _, _ => .no
theorem run81 (v n : Int) : runk PR O81 (byL [0, 1, 5] 0 g81) false f_sum32_noughts (f_sum32_noughts.body.getD .skip) [.i .u32 v, .i .i64 n] [] (fun r h => some (r, h)) = (sp81 [.i .u32 v, .i .i64 n] []).val := by kernel_rfl
theorem ok81 : OrcOk PR (ent i_sum32_noughts [] 0 sp81) := fn_ok okO81 mixed (L := byL [0, 1, 5] 0 g81) (kp := false) p_sum32_noughts (by kernel_rfl) (by kernel_rfl) fun l hc r h' hv ho hh => by
  have hv2 := hv
  unfold sp81 at hv
  split at hv
  · exact ⟨loopsOk1 (a := lpN f_sum32_noughts 0) (f := fun s => g81 (clean [0, 1, 5] 0 s)) (by kernel_rfl) lp81, (run81 _ _).trans hv2⟩
  · cases hv
def O32 : Orc := ent i_sum32_noughts [] 0 sp81
def sp32 (l : List V) (h : Heap) : Tr := match l, h with
  | [.i .u32 v, .i .i64 n], [] => .ret (.i .u32 (4294967295 - bsts (8 * (cl n).toNat) (4294967295 - v.toNat) : Nat)) []
  | _, _ => .no
theorem run32 (v n : Int) : runk PR O32 L0 false f_sum32_Zeros (f_sum32_Zeros.body.getD .skip) [.i .u32 v, .i .i64 n] [] (fun r h => some (r, h)) = some (.i .u32 (bits .xor .u32 4294967295 (bsts (8 * (cl n).toNat) (bits .xor .u32 4294967295 v).toNat : Nat)), []) := by kernel_rfl
theorem ok32 : OrcOk PR (ent i_sum32_Zeros [] 0 sp32) := fn_ok ok81 mixed (L := L0) (kp := false) p_sum32_Zeros (by kernel_rfl) (by kernel_rfl) fun l hc r h' hv ho hh => by
  unfold sp32 at hv
  split at hv
  · rename_i v n
    obtain ⟨rfl, rfl⟩ := Tr.ret_val hv
    refine ⟨loopsOk0 (by kernel_rfl), (run32 v n).trans ?_⟩
    obtain ⟨a, rfl, ha⟩ := u32_nat ho.1
    simp only [not32 ha, Int.toNat_natCast, not32 (bsts_lt _ (show 4294967295 - a < 4294967296 by omega))]
  · cases hv
def sp35 (l : List V) (h : Heap) : Tr := match l, h with
  | [.i .u32 a, .i .u32 b, .i .i64 n], [] => .ret (.i .u32 (bsts (8 * (cl n).toNat) a.toNat ^^^ b.toNat : Nat)) []
  | _, _ => .no
theorem run35 (a b n : Int) : runk PR O32 L0 false f_sum32_Join (f_sum32_Join.body.getD .skip) [.i .u32 a, .i .u32 b, .i .i64 n] [] (fun r h => some (r, h)) = some (.i .u32 (bits .xor .u32 (bsts (8 * (cl n).toNat) a.toNat : Nat) b), []) := by kernel_rfl
theorem ok35 : OrcOk PR (ent i_sum32_Join [] 0 sp35) := fn_ok ok81 mixed (L := L0) (kp := false) p_sum32_Join (by kernel_rfl) (by kernel_rfl) fun l hc r h' hv ho hh => by
  unfold sp35 at hv
  split at hv
  · rename_i a b n
    obtain ⟨rfl, rfl⟩ := Tr.ret_val hv
    refine ⟨loopsOk0 (by kernel_rfl), (run35 a b n).trans ?_⟩
    obtain ⟨a, rfl, ha⟩ := u32_nat ho.1
    obtain ⟨b, rfl, hb⟩ := u32_nat ho.2.1
    simp only [Int.toNat_natCast, u32_xor (bsts_lt _ ha) hb]
  · cases hv
end Go.Proofs.Ytcpicekmnkjceaa.VI

namespace Go.Proofs.Ytcpicekmnkjceaa.VI
set_option linter.unusedVariables false
set_option linter.unusedSimpArgs false
set_option maxRecDepth 100000
set_option linter.unusedSimpArgs false
set_option linter.unusedVariables false
def sp21 (l : List V) (h : Heap) : Tr := match l, h with
  | [], [] => .ret (.b true) []
  | _, _ => .no
theorem ok21 : OrcOk PR (ent i_anneallaw27_known [] 0 sp21) := fn_ok ok22 mixed (L := L0) (kp := false) p_anneallaw27_known (by kernel_rfl) (by kernel_rfl) fun l hc r h' hv ho hh => by
  unfold sp21 at hv
  split at hv
  · obtain ⟨rfl, rfl⟩ := Tr.ret_val hv
    exact ⟨loopsOk0 (by kernel_rfl), by kernel_rfl⟩
  · cases hv
def zer (n : Int) (s : Nat) : Nat := 4294967295 - bsts (8 * (cl n).toNat) (4294967295 - s)
theorem zer_lt (n : Int) (s : Nat) : zer n s < 4294967296 := by unfold zer; omega
theorem run8 (s n m : Int) : runk PR (ors (ent i_anneallaw27_known [] 0 sp21) (ent i_sum32_Zeros [] 0 sp32)) L0 false f_anneallaw27_SumLong (f_anneallaw27_SumLong.body.getD .skip) [.i .u32 s, .i .u32 n, .i .u16 m] [] (fun r h => some (r, h)) =
  bif ((zer (IntKind.i64.wrap m) ((zer (IntKind.i64.wrap (n.tmod 262144)) s.toNat : Nat) : Int).toNat : Nat) : Int) == (zer (IntKind.i64.wrap (IntKind.i64.wrap (n.tmod 262144) + IntKind.i64.wrap m)) s.toNat : Nat) then
    bif ((zer 0 s.toNat : Nat) : Int) == s then
      some (V.b (((zer (IntKind.i64.wrap (0 - IntKind.i64.wrap (n.tmod 262144))) s.toNat : Nat) : Int) == s), [])
    else some (V.b false, [])
  else some (V.b false, []) := by kernel_rfl
theorem cl_id {n : Int} (h : 0 ≤ n ∧ n ≤ 1073741824) : cl n = n := by unfold cl; (repeat' split) <;> omega
theorem cl_neg {n : Int} (h : n ≤ 0) : cl n = 0 := by unfold cl; (repeat' split) <;> omega
theorem call8 : ∀ l, args [.i .u32, .i .u32, .i .u16] l → oks l → CallOk PR i_anneallaw27_SumLong l [] fun r _ => r = .b true := by
  rintro l ⟨c0, l, ⟨s, hs, h0⟩, ⟨c1, l, ⟨n, hn, h1⟩, ⟨c2, l, ⟨m, hm, h2⟩, rfl, rfl⟩, rfl⟩, rfl⟩ ho
  injection h0 with h0; injection h1 with h1; injection h2 with h2; subst h0 h1 h2
  refine (run_fn (kp := false) (L := L0) (ors_ok ok21 ok32) mixed p_anneallaw27_SumLong (by kernel_rfl) (by kernel_rfl) (loopsOk0 (by kernel_rfl)) (r := .b true) (h' := []) fun _ _ => (run8 s n m).trans ?_).mono fun q _ h => h.1
  obtain ⟨s, rfl, hs'⟩ := u32_nat hs
  obtain ⟨n, rfl, hn'⟩ := u32_nat hn
  have hm : 0 ≤ m ∧ m ≤ 65535 := hm
  obtain ⟨m, rfl⟩ := Int.eq_ofNat_of_zero_le hm.1
  have e1 : ((n : Int)).tmod 262144 = ((n % 262144 : Nat) : Int) := by
    rw [Int.tmod_eq_emod_of_nonneg (by omega)]; rfl
  rw [e1, w64_id (n := (m : Int)) (by omega), w64_id (n := ((n % 262144 : Nat) : Int)) (by omega), w64_id (n := 0 - ((n % 262144 : Nat) : Int)) (by omega), w64_id (n := ((n % 262144 : Nat) : Int) + (m : Int)) (by omega)]
  have z0 : ∀ k : Int, k ≤ 0 → zer k s = s := fun k hk => by
    unfold zer; rw [cl_neg hk]; show 4294967295 - bsts 0 _ = s; simp only [bsts]; omega
  have zz : zer (m : Int) (zer ((n % 262144 : Nat) : Int) s) = zer (((n % 262144 : Nat) : Int) + (m : Int)) s := by
    have hb := bsts_lt (8 * (n % 262144)) (show 4294967295 - s < 4294967296 by omega)
    unfold zer
    rw [cl_id (n := (m : Int)) (by omega), cl_id (n := ((n % 262144 : Nat) : Int)) (by omega), cl_id (n := ((n % 262144 : Nat) : Int) + (m : Int)) (by omega)]
    rw [Int.toNat_natCast, Int.toNat_natCast, show (((n % 262144 : Nat) : Int) + (m : Int)).toNat = n % 262144 + m by omega]
    rw [show 4294967295 - (4294967295 - bsts (8 * (n % 262144)) (4294967295 - s)) = bsts (8 * (n % 262144)) (4294967295 - s) by omega, ← bsts_add, Nat.mul_add]
  simp only [Int.toNat_natCast, zz, z0 0 (Int.le_refl _), z0 (0 - ((n % 262144 : Nat) : Int)) (by omega), beq_self_eq_true, cond_true]
end Go.Proofs.Ytcpicekmnkjceaa.VI

namespace Go.Proofs.Ytcpicekmnkjceaa.VI
set_option linter.unusedVariables false
set_option linter.unusedSimpArgs false
open Go.ChangeShapes Go.WideShapes Go.RowKit Go.WideElems Ytcpicekmnkjceaa
set_option maxRecDepth 100000
theorem laid : laidOutB Try.prog = true := by kernel_rfl
theorem own : ownKnob Try.prog.godebug = none := by kernel_rfl
theorem lifted (os : Os) (started : os.Started) (H : Type) (enc : TypeId × Value → H) :
    ReturnsInHanded {} Try.checked os 8 .any (Rows.sumLongSpec.pre6 enc Try.prog Try.f8 Rows.sumLongRow.domain false) (Rows.sumLongSpec.post enc Try.prog Try.f8 false true false false) :=
  lift_args (C := Try.checked) own started (by kernel_rfl) Try.func8
    (ChangeSpec.witness6 (enc := enc) (C := Try.checked) false ⟨#[], #[.int .u32 0, .int .u32 0, .int .u16 0], []⟩ 8 (by kernel_rfl) (by kernel_rfl) (by kernel_rfl) (by kernel_rfl))
    laid Try.underlying4 rfl (by kernel_rfl) rfl (fun ds hd => match ds, hd with
    | [_, _, _], _ => rfl) (d := 6) (by kernel_rfl) (Fs := [.i .u32, .i .u32, .i .u16]) (by kernel_rfl) call8
theorem over : Rows.sumLongRow.holds Try.pinned (OpenSpec.ofChange Rows.sumLongSpec) :=
  OpenClaim.holds_of_wide 8 Try.f8 rfl rfl rfl rfl rfl rfl rfl ⟨rfl, rfl, rfl, rfl, rfl⟩ rfl rfl rfl rfl rfl (by kernel_rfl) Try.func8 (by kernel_rfl)
    (of_decide_eq_true (by kernel_rfl)) (by unfold Func.isWrapper; first | (rw [if_pos (by decide +kernel)]; kernel_rfl) | (rw [if_neg (by decide +kernel)]; exact ⟨rfl, rfl⟩))
    (fun os started H enc _ => lifted os started H enc)
end Go.Proofs.Ytcpicekmnkjceaa.VI

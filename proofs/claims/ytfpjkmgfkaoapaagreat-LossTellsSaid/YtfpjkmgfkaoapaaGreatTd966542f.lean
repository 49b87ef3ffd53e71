import Derived.Test.YtfpjkmgfkaoapaaGreatTdf803f5d
namespace Go.Proofs.YtfpjkmgfkaoapaaGreat.VI
set_option linter.unusedVariables false
set_option linter.unusedSimpArgs false
set_option maxRecDepth 100000
set_option maxHeartbeats 4000000
def mildP (f v : Int) : Prop := nan f v = false ∧ inff f v = false ∧ (v % TT f = 0 → v = 0)
theorem mild_p {k : Int} (f : Int) (h : w32 k) : ∃ v, F_9a f k = some v ∧ wf f v ∧ mildP f v := by
  have fb := fmt_bd f
  unfold F_9a
  rw [bif_eq]
  by_cases h0 : Int.tmod k 7 = 0
  · rw [if_pos h0]; refine ⟨0, rfl, ⟨by omega, by omega⟩, ?_⟩
    have ib := IN_bd f
    refine ⟨?_, ?_, fun _ => rfl⟩
    · unfold nan; rw [Int.zero_emod]; exact decide_eq_false (by omega)
    · unfold inff; rw [Int.zero_emod]; exact decide_eq_false (by omega)
  rw [if_neg h0, zeror_w, ← widr_nf f]
  have key : ∀ (x : Int), 0 < x → x < IN f → (x % (TT f) = x ∧ (TT f + x) % TT f = x) := by
    intro x h1 h2
    have ib := IN_bd f
    refine ⟨Int.emod_eq_of_lt (by omega) (by omega), ?_⟩
    rw [Int.add_comm, Int.add_emod_right]; exact Int.emod_eq_of_lt (by omega) (by omega)
  have fin : ∀ (x : Int), 0 < x → x < IN f → ∃ v, (bif (bits .and .u32 k 1 == 1) then some (bits .or .u32 x (sgn f true)) else some x) = some v ∧ wf f v ∧ mildP f v := by
    intro x h1 h2
    have ib := IN_bd f
    have kx := key x h1 h2
    cases bits .and .u32 k 1 == 1
    · refine ⟨x, rfl, ⟨by omega, by omega⟩, ?_, ?_, ?_⟩
      · unfold nan; rw [kx.1]; simp; omega
      · unfold inff; rw [kx.1]; simp; omega
      · rw [kx.1]; intro q; exact q
    · have e : bits .or .u32 x (sgn f true) = TT f + x := by
        rw [or_comm32, sgn_or f true ⟨by omega, by omega⟩]; unfold sgn; simp
      refine ⟨TT f + x, by rw [e]; rfl, ⟨by omega, by omega⟩, ?_, ?_, ?_⟩
      · unfold nan; rw [kx.2]; simp; omega
      · unfold inff; rw [kx.2]; simp; omega
      · rw [kx.2]; intro q; omega
  have hd : Int.tmod (k / 8) 4096 = k / 8 % 4096 ∧ Int.tmod (k / 8) 512 = k / 8 % 512 ∧ Int.tmod (k / 8) 33554432 = k / 8 % 33554432 := by
    have : 0 ≤ k / 8 := by have := h.1; omega
    exact ⟨tmod_nn this, tmod_nn this, tmod_nn this⟩
  have hI : IN f = (RR f - 1) * BB f := rfl
  rw [← nf_RR f, ← nf_BB f] at hI
  rcases nf_cases f with e | e | e <;> rw [e] at hI ⊢
  · have hI2 : IN f = 31744 := hI
    have := fin (IntKind.wrap .u32 (13312 + Int.tmod (k / 8) 4096)) (by rw [hd.1, wu32 (by omega)]; omega) (by rw [hd.1, wu32 (by omega)]; omega)
    exact this
  · have hI2 : IN f = 32640 := hI
    have := fin (IntKind.wrap .u32 (16000 + Int.tmod (k / 8) 512)) (by rw [hd.2.1, wu32 (by omega)]; omega) (by rw [hd.2.1, wu32 (by omega)]; omega)
    exact this
  · have hI2 : IN f = 2139095040 := hI
    have := fin (IntKind.wrap .u32 (1048576000 + Int.tmod (k / 8) 33554432)) (by rw [hd.2.2, wu32 (by omega)]; omega) (by rw [hd.2.2, wu32 (by omega)]; omega)
    exact this
theorem num_wf (f : Int) {k : Int} (h : w32 k) : ∃ v, F_99 f k = some v ∧ wf f v := by
  unfold F_99
  rw [maskr_eq, zeror_w, ← widr_nf f]
  have h15 : (0:Int) ≤ Int.tmod k 15 ∧ Int.tmod k 15 < 15 := by rw [tmod_nn h.1]; omega
  have o : ∀ y, wf f (bits .or .u32 (bits .and .u32 y (2 * TT f - 1)) (sgn f true)) := fun y => by
    have := or_top_bd f y
    unfold sgn; exact this
  rcases nf_cases f with e | e | e <;> rw [e]
  all_goals
    show ∃ v, (bif decide ((0:Int) ≤ Int.tmod k 15 ∧ Int.tmod k 15 < 15) then (bif decide ((0:Nat) + (Int.toNat (Int.tmod k 15)) * 1 < 15) then (bif (k / 2147483648 == 1) then some (bits .or .u32 (bits .and .u32 _ (2 * TT f - 1)) (sgn f true)) else some (bits .and .u32 _ (2 * TT f - 1))) else none) else none) = some v ∧ wf f v
    rw [bif_dec, if_pos h15, bif_dec, if_pos (by omega)]
    cases k / 2147483648 == 1
    · exact ⟨_, rfl, and_mask_bd f _⟩
    · exact ⟨_, rfl, o _⟩
theorem wrap_w (n : Int) : w32 (IntKind.wrap .u32 n) := by rw [wu32_eq]; exact ⟨by omega, by omega⟩
theorem seatT (R C : Nat) (f : Int) (l : List Int) (m : Bool) (hR : R ≤ 4096) (hC : C ≤ 4096) (hl : l.length < 4611686018427387904) :
    ∃ V, F_96 (R : Int) (C : Int) f l m = some ((R : Int), (C : Int), f, V, ()) ∧ V.length = R * C ∧ (∀ v ∈ V, wf f v) ∧ (m = true → ∀ v ∈ V, mildP f v) := by
  have hb := rc_bd hR hC
  have hRC : ((R : Int) * (C : Int)) = ((R * C : Nat) : Int) := by simp
  obtain ⟨r, hr, V, hr2, lV, wV, mV⟩ := lim_post (st := st_96_0)
    (fun v => ∃ (i : Nat) (V : List Int), v = (((R : Int), ((C : Int), (f, (l, (m, ((i : Int), ())))))), (((0:Int), ((0:Int), ((0:Int), ()))), (((R : Int), ((C : Int), (f, ((i : Nat), ())))), (V, ())))) ∧ i ≤ R * C ∧ V.length = i ∧ (∀ v ∈ V, wf f v) ∧ (m = true → ∀ v ∈ V, mildP f v))
    (fun v => R * C + 1 - v.2.2.1.2.2.2.1)
    (fun r => ∃ (V : List Int), r = ((), (((0:Int), ((0:Int), ((0:Int), ()))), (((R : Int), ((C : Int), (f, ((R * C : Nat), ())))), (V, ())))) ∧ V.length = R * C ∧ (∀ v ∈ V, wf f v) ∧ (m = true → ∀ v ∈ V, mildP f v))
    (fun v hv => by
      obtain ⟨i, V, rfl, h1, h2, h3, h4⟩ := hv
      by_cases hi : i < R * C
      · left
        have h30 : i + 1 ≤ 1073741824 := by omega
        have stp : ∃ v, (∀ R' kn ko, st_96_0 R' (((R : Int), ((C : Int), (f, (l, (m, ((i : Int), ())))))), (((0:Int), ((0:Int), ((0:Int), ()))), (((R : Int), ((C : Int), (f, ((i : Nat), ())))), (V, ())))) kn ko = kn (((R : Int), ((C : Int), (f, (l, (m, (((i + 1 : Nat) : Int), ())))))), (((0:Int), ((0:Int), ((0:Int), ()))), (((R : Int), ((C : Int), (f, ((i + 1 : Nat), ())))), (V ++ [v], ()))))) ∧ wf f v ∧ (m = true → mildP f v) := by
          by_cases hl0 : ((l.length : Nat) : Int) > 0
          · have ht : 0 ≤ Int.tmod (i : Int) ((l.length : Nat) : Int) ∧ Int.tmod (i : Int) ((l.length : Nat) : Int) < ((l.length : Nat) : Int) := by
              rw [tmod_nn (by omega)]; exact ⟨Int.emod_nonneg _ (by omega), Int.emod_lt_of_pos _ hl0⟩
            have hz : (((l.length : Nat) : Int) == 0) = false := beq_false_of_ne (by omega)
            cases m
            · obtain ⟨v, hv, hw⟩ := num_wf f  (k := (IntKind.wrap .u32 ((List.getD l (Int.toNat (Int.tmod (i : Int) ((l.length : Nat) : Int))) (0:Int)) + (IntKind.wrap .u32 ((IntKind.wrap .u32 (IntKind.wrap .i64 (Int.tdiv (i : Int) ((l.length : Nat) : Int)))) * (40503:Int)))))) (wrap_w _)
              refine ⟨v, fun R' kn ko => ?_, hw, fun h => by cases h⟩
              unfold st_96_0
              dsimp only
              simp only [List.take_length, bif_dec, hz, hRC]
              rw [wi64 (n := ((R * C : Nat) : Int)) (by omega), if_pos (show (i : Int) < ((R * C : Nat) : Int) by omega), if_pos hl0, cond_false, if_pos ht, cond_false, cond_false, hv, wi64 (n := (i : Int) + 1) (by omega), show ((i + 1 : Nat) : Int) = (i : Int) + 1 by omega]
              rw [List.take_of_length_le (show V.length ≤ i by omega)]
              simp only [Option.bind_some]
              rw [if_pos h30]
            · obtain ⟨v, hv, hw, hm⟩ := mild_p f  (k := (IntKind.wrap .u32 ((List.getD l (Int.toNat (Int.tmod (i : Int) ((l.length : Nat) : Int))) (0:Int)) + (IntKind.wrap .u32 ((IntKind.wrap .u32 (IntKind.wrap .i64 (Int.tdiv (i : Int) ((l.length : Nat) : Int)))) * (40503:Int)))))) (wrap_w _)
              refine ⟨v, fun R' kn ko => ?_, hw, fun _ => hm⟩
              unfold st_96_0
              dsimp only
              simp only [List.take_length, bif_dec, hz, hRC]
              rw [wi64 (n := ((R * C : Nat) : Int)) (by omega), if_pos (show (i : Int) < ((R * C : Nat) : Int) by omega), if_pos hl0, cond_false, if_pos ht, cond_false, cond_true, hv, wi64 (n := (i : Int) + 1) (by omega), show ((i + 1 : Nat) : Int) = (i : Int) + 1 by omega]
              rw [List.take_of_length_le (show V.length ≤ i by omega)]
              simp only [Option.bind_some]
              rw [if_pos h30]
          · cases m
            · obtain ⟨v, hv, hw⟩ := num_wf f  (k := (IntKind.wrap .u32 ((IntKind.wrap .u32 (i : Int)) * (2654435761:Int)))) (wrap_w _)
              refine ⟨v, fun R' kn ko => ?_, hw, fun h => by cases h⟩
              unfold st_96_0
              dsimp only
              simp only [List.take_length, bif_dec, hRC]
              rw [wi64 (n := ((R * C : Nat) : Int)) (by omega), if_pos (show (i : Int) < ((R * C : Nat) : Int) by omega), if_neg hl0, cond_false, hv, wi64 (n := (i : Int) + 1) (by omega), show ((i + 1 : Nat) : Int) = (i : Int) + 1 by omega]
              rw [List.take_of_length_le (show V.length ≤ i by omega)]
              simp only [Option.bind_some]
              rw [if_pos h30]
            · obtain ⟨v, hv, hw, hm⟩ := mild_p f  (k := (IntKind.wrap .u32 ((IntKind.wrap .u32 (i : Int)) * (2654435761:Int)))) (wrap_w _)
              refine ⟨v, fun R' kn ko => ?_, hw, fun _ => hm⟩
              unfold st_96_0
              dsimp only
              simp only [List.take_length, bif_dec, hRC]
              rw [wi64 (n := ((R * C : Nat) : Int)) (by omega), if_pos (show (i : Int) < ((R * C : Nat) : Int) by omega), if_neg hl0, cond_true, hv, wi64 (n := (i : Int) + 1) (by omega), show ((i + 1 : Nat) : Int) = (i : Int) + 1 by omega]
              rw [List.take_of_length_le (show V.length ≤ i by omega)]
              simp only [Option.bind_some]
              rw [if_pos h30]
        obtain ⟨v, hs, hw, hm⟩ := stp
        refine ⟨_, hs, ⟨i + 1, V ++ [v], rfl, by omega, by simp [h2], ?_, ?_⟩, by simp only; omega⟩
        · intro c hc; rcases List.mem_append.1 hc with q | q
          · exact h3 c q
          · simp at q; rw [q]; exact hw
        · intro hmt c hc; rcases List.mem_append.1 hc with q | q
          · exact h4 hmt c q
          · simp at q; rw [q]; exact hm hmt
      · right
        have e : i = R * C := by omega
        subst e
        refine ⟨_, fun R' kn ko => ?_, ⟨V, rfl, h2, h3, h4⟩⟩
        unfold st_96_0
        dsimp only
        simp only [List.take_length, bif_dec, hRC]
        rw [wi64 (n := ((R * C : Nat) : Int)) (by omega), if_neg (show ¬ ((R * C : Nat) : Int) < ((R * C : Nat) : Int) by omega)])
    (((R : Int), ((C : Int), (f, (l, (m, ((0:Int), ())))))), (((0:Int), ((0:Int), ((0:Int), ()))), (((R : Int), ((C : Int), (f, ((0:Nat), ())))), ([], ()))))
    ⟨0, [], rfl, by omega, rfl, fun c hc => absurd hc (by simp), fun _ c hc => absurd hc (by simp)⟩
  refine ⟨V, ?_, lV, wV, mV⟩
  unfold F_96
  rw [List.take_length, hr, hr2]
  simp only [Option.bind_some, List.drop_zero]
  rw [List.take_of_length_le (by omega)]
theorem wf_wl {f : Int} {V : List Int} (h : ∀ v ∈ V, wf f v) : wl V := fun a ha => wf_w (h a ha)
set_option maxHeartbeats 8000000
theorem wider_eq (t : TsT) {i : Nat} (hl : wl t.2.2.2.1) (hi : i < t.2.2.2.1.length) : F_92a t (i : Int) = some (gl (wideL t) i) := by
  obtain ⟨r, c, f, l, ⟨⟩⟩ := t
  simp only at hl hi
  unfold F_92a F_97
  dsimp only
  rw [bif_dec, if_pos (by omega), Int.toNat_natCast, tor_eq f 2 0 (wl_get hl i)]
  simp only [Option.bind_some]
  unfold wideL
  have : gl ((List.range l.length).map fun i => widen f (l.getD i 0)) i = widen f (l.getD i 0) := by
    unfold gl; rw [List.getD_eq_getElem?_getD, List.getElem?_map, List.getElem?_range hi]; rfl
  rw [this]; rfl
def tk (a : TsT) : TsT := (a.1, (a.2.1, (a.2.2.1, ((List.take (List.length a.2.2.2.1) a.2.2.2.1), ()))))
theorem tk_id (a : TsT) : tk a = a := by unfold tk; rw [List.take_length]
theorem light_len {a : TsT} (h : F_98 a = some true) : a.2.2.2.1.length ≤ 60 := by
  unfold F_98 at h
  rw [bif_dec] at h
  by_cases k : ((List.length a.2.2.2.1 : Nat) : Int) ≤ 60
  · omega
  · rw [if_neg k] at h; cases h
theorem light_some (a : TsT) : ∃ b, F_98 a = some b := by
  unfold F_98
  simp only [bif_dec]
  (repeat' split) <;> exact ⟨_, rfl⟩
theorem tmod5 {a : Int} (h : 0 ≤ a) : ∃ n : Nat, IntKind.wrap .i64 (Int.tmod a 5) = n ∧ n ≤ 4 := by
  refine ⟨(a % 5).toNat, ?_, by omega⟩
  rw [tmod_nn h, wi64 (by omega)]; omega
theorem gl_mapA {h : Nat → Int} {n i : Nat} (hi : i < n) : gl ((List.range n).map h) i = h i := by
  unfold gl; rw [List.getD_eq_getElem?_getD]; simp [hi]
noncomputable def O_987 : Orc := (orm c_94d (orm c_94e c_94b))
theorem okO_987 : OrcOk PR O_987 := (orm_ok ok_94d (orm_ok ok_94e ok_94b))
abbrev fa_987 : Fm := (.pair (.i .i64) (.pair (.i .u32) (.pair (.i .u32) (.pair .b .unit))))
abbrev fr_987 : Fm := (.i .u32)
noncomputable def F_987 (a0 : Int) (a1 : Int) (a2 : Int) (a3 : Bool) : Option (Int) :=
 ((F_94d a0 a1)).bind fun r0 =>
 bif r0 then
 ((F_94d a0 a2)).bind fun r1 =>
 bif r1 then
 ((F_94e a0)).bind fun r2 =>
 (some r2)
 else
 ((F_94d a0 a1)).bind fun r3 =>
 bif r3 then
 ((F_94b a0)).bind fun r4 =>
 (some (bits .and .u32 a2 r4))
 else
 ((F_94d a0 a2)).bind fun r5 =>
 bif (bif r5 then true else a3) then
 ((F_94b a0)).bind fun r6 =>
 (some (bits .and .u32 a1 r6))
 else
 ((F_94b a0)).bind fun r7 =>
 (some (bits .and .u32 a2 r7))
 else
 ((F_94d a0 a1)).bind fun r8 =>
 bif r8 then
 ((F_94b a0)).bind fun r9 =>
 (some (bits .and .u32 a2 r9))
 else
 ((F_94d a0 a2)).bind fun r10 =>
 bif (bif r10 then true else a3) then
 ((F_94b a0)).bind fun r11 =>
 (some (bits .and .u32 a1 r11))
 else
 ((F_94b a0)).bind fun r12 =>
 (some (bits .and .u32 a2 r12))
noncomputable def G_987 : T fa_987 → TH hN0 → Option (Int) := fun x y => F_987 x.1 x.2.1 x.2.2.1 x.2.2.2.1
noncomputable def c_987 : Orc := ent i_987 [] 0 (sp fa_987 hN0 fr_987 hN0 G_987 (outN fr_987))
theorem ok_987 : OrcOk PR c_987 := fnT okO_987 mixed p_987 (by kernel_rfl) (by kernel_rfl) (L := L0) (kp := false) (by kernel_rfl) (inn := (innN fr_987)) (out := (outN fr_987)) (fun _ _ => rfl) (loopsL (l := []) (by kernel_rfl) trivial) (fun x y => by kernel_rfl)
noncomputable def O_95d : Orc := (orm c_988 c_987)
theorem okO_95d : OrcOk PR O_95d := (orm_ok ok_988 ok_987)
abbrev fa_95d : Fm := (.pair (.i .i64) (.pair (.i .u32) (.pair (.i .u32) .unit)))
abbrev fr_95d : Fm := (.i .u32)
noncomputable def F_95d (a0 : Int) (a1 : Int) (a2 : Int) : Option (Int) :=
 ((F_988 a0 a1)).bind fun r0 =>
 ((F_988 a0 a2)).bind fun r1 =>
 ((F_987 a0 a1 a2 (decide (r0 > r1)))).bind fun r2 =>
 (some r2)
noncomputable def G_95d : T fa_95d → TH hN0 → Option (Int) := fun x y => F_95d x.1 x.2.1 x.2.2.1
noncomputable def c_95d : Orc := ent i_95d [] 0 (sp fa_95d hN0 fr_95d hN0 G_95d (outN fr_95d))
theorem ok_95d : OrcOk PR c_95d := fnT okO_95d mixed p_95d (by kernel_rfl) (by kernel_rfl) (L := L0) (kp := false) (by kernel_rfl) (inn := (innN fr_95d)) (out := (outN fr_95d)) (fun _ _ => rfl) (loopsL (l := []) (by kernel_rfl) trivial) (fun x y => by kernel_rfl)
noncomputable def O_965 : Orc := (orm c_942 (orm c_926 c_923))
theorem okO_965 : OrcOk PR O_965 := (orm_ok ok_942 (orm_ok ok_926 ok_923))
abbrev fa_965 : Fm := (.pair (.i .i64) (.pair (.i .u32) (.pair (.i .u32) (.pair .b .unit))))
abbrev fr_965 : Fm := (.i .u32)
noncomputable def F_965 (a0 : Int) (a1 : Int) (a2 : Int) (a3 : Bool) : Option (Int) :=
 ((F_942 a0 [a1])).bind fun r0 =>
 ((F_942 a0 [a2])).bind fun r1 =>
 bif r0.1 then
 bif r1.1 then
 ((F_926 a0)).bind fun r2 =>
 (some r2)
 else
 bif r0.1 then
 ((F_923 a0)).bind fun r3 =>
 (some (bits .and .u32 a2 r3))
 else
 bif (!r1.1) then
 bif (!a3) then
 ((F_923 a0)).bind fun r4 =>
 (some (bits .and .u32 a2 r4))
 else
 ((F_923 a0)).bind fun r5 =>
 (some (bits .and .u32 a1 r5))
 else
 ((F_923 a0)).bind fun r6 =>
 (some (bits .and .u32 a1 r6))
 else
 bif r0.1 then
 ((F_923 a0)).bind fun r7 =>
 (some (bits .and .u32 a2 r7))
 else
 bif (!r1.1) then
 bif (!a3) then
 ((F_923 a0)).bind fun r8 =>
 (some (bits .and .u32 a2 r8))
 else
 ((F_923 a0)).bind fun r9 =>
 (some (bits .and .u32 a1 r9))
 else
 ((F_923 a0)).bind fun r10 =>
 (some (bits .and .u32 a1 r10))
noncomputable def G_965 : T fa_965 → TH hN0 → Option (Int) := fun x y => F_965 x.1 x.2.1 x.2.2.1 x.2.2.2.1
noncomputable def c_965 : Orc := ent i_965 [] 0 (sp fa_965 hN0 fr_965 hN0 G_965 (outN fr_965))
theorem ok_965 : OrcOk PR c_965 := fnT okO_965 mixed p_965 (by kernel_rfl) (by kernel_rfl) (L := L0) (kp := false) (by kernel_rfl) (inn := (innN fr_965)) (out := (outN fr_965)) (fun _ _ => rfl) (loopsL (l := []) (by kernel_rfl) trivial) (fun x y => by kernel_rfl)
noncomputable def O_935 : Orc := (orm c_966 c_965)
theorem okO_935 : OrcOk PR O_935 := (orm_ok ok_966 ok_965)
abbrev fa_935 : Fm := (.pair (.i .i64) (.pair (.i .u32) (.pair (.i .u32) .unit)))
abbrev fr_935 : Fm := (.i .u32)
noncomputable def F_935 (a0 : Int) (a1 : Int) (a2 : Int) : Option (Int) :=
 ((F_966 a0 a1)).bind fun r0 =>
 ((F_966 a0 a2)).bind fun r1 =>
 ((F_965 a0 a1 a2 (decide (r0 ≥ r1)))).bind fun r2 =>
 (some r2)
noncomputable def G_935 : T fa_935 → TH hN0 → Option (Int) := fun x y => F_935 x.1 x.2.1 x.2.2.1
noncomputable def c_935 : Orc := ent i_935 [] 0 (sp fa_935 hN0 fr_935 hN0 G_935 (outN fr_935))
theorem ok_935 : OrcOk PR c_935 := fnT okO_935 mixed p_935 (by kernel_rfl) (by kernel_rfl) (L := L0) (kp := false) (by kernel_rfl) (inn := (innN fr_935)) (out := (outN fr_935)) (fun _ _ => rfl) (loopsL (l := []) (by kernel_rfl) trivial) (fun x y => by kernel_rfl)
noncomputable def O_92e : Orc := c_939
theorem okO_92e : OrcOk PR O_92e := ok_939
abbrev fa_92e : Fm := (.pair (.agg (.pair (.i .i64) (.pair (.i .i64) (.pair (.i .i64) (.pair (.si .u32) .unit))))) (.pair (.si .i64) .unit))
abbrev fr_92e : Fm := (.tup (.pair (.agg (.pair (.i .i64) (.pair (.i .i64) (.pair (.i .i64) (.pair (.si .u32) .unit))))) (.pair (.i .i64) .unit)))
abbrev ff_92e_0 : Fm := (.us 4 (.cst (.ref 0 1 0) (.us 1 (.cst (.ref 1 1 0) (.us 28 (.pair (.si .i64) (.pair (.i .i64) (.pair (.i .i64) (.us 14 .unit)))))))))
abbrev hf_92e_0 : List BF := [(.list 1 y_91 true (.pair (.i .i64) (.pair (.i .i64) (.pair (.i .i64) (.cst .nils .unit))))), (.list 1 y_91 true (.pair (.i .i64) (.pair (.i .i64) (.pair (.i .i64) (.pair (.si .u32) .unit)))))]
abbrev X_92e_0 : Xs := (.alt (.exit 0) [4, 6] (.us 4 (.cst (.ref 0 1 0) (.us 1 (.cst (.ref 1 1 0) (.us 45 .unit))))) [(.list 1 y_91 true (.pair (.i .i64) (.pair (.i .i64) (.pair (.i .i64) (.cst .nils .unit))))), (.list 1 y_91 true (.pair (.i .i64) (.pair (.i .i64) (.pair (.i .i64) (.pair (.si .u32) .unit)))))] (.one .ret [4, 5] (.us 4 (.cst (.ref 0 1 0) (.pair (.i .i64) (.us 46 .unit)))) [(.list 1 y_91 true (.pair (.i .i64) (.pair (.i .i64) (.pair (.i .i64) (.cst .nils .unit)))))]))
abbrev S_92e_0 : Type := T ff_92e_0 × TH hf_92e_0
abbrev E_92e_0 : Type := TX X_92e_0
noncomputable def LB_92e_0 : Lps := L0
noncomputable def st_92e_0 : StepT S_92e_0 E_92e_0 := fun R v kn ko =>
 let x0 : List Int := v.1.1
 let x1 : List Int := v.2.2.1.2.2.2.1
 bif (decide (v.1.2.2.1 < v.1.2.1)) then
 bif (decide (((0:Int) ≤ v.1.2.2.1) ∧ (v.1.2.2.1 < (((List.length x0) : Nat) : Int)))) then
 bif (decide ((List.getD x0 (Int.toNat v.1.2.2.1) (0:Int)) < (0:Int))) then
 (ko (Sum.inr (((22:Int), ()), (((0:Int), ((0:Int), ((0:Int), ()))), ()))))
 else
 bif (decide ((List.getD x0 (Int.toNat v.1.2.2.1) (0:Int)) ≥ v.2.2.1.2.1)) then
 (ko (Sum.inr (((22:Int), ()), (((0:Int), ((0:Int), ((0:Int), ()))), ()))))
 else
 (kn (((List.take (List.length x0) x0), (v.1.2.1, ((IntKind.wrap .i64 (v.1.2.2.1 + (1:Int))), ()))), (v.2.1, ((v.2.2.1.1, (v.2.2.1.2.1, (v.2.2.1.2.2.1, ((List.take (List.length x1) x1), ())))), ()))))
 else
 none
 else
 (ko (Sum.inl ((), (v.2.1, ((v.2.2.1.1, (v.2.2.1.2.1, (v.2.2.1.2.2.1, ((List.take (List.length x1) x1), ())))), ())))))
noncomputable def ls_92e_0 : St → LTr := (lsum ff_92e_0 hf_92e_0 X_92e_0 Prod.mk id st_92e_0 (hd [] [] [4, 6, 35, 36, 37] 0))
theorem lp_92e_0 : LoopOk PR 0 (lpN f_92e 0) ls_92e_0 := loopT okO_92e mixed (L := LB_92e_0) (d := 1) (bs := []) (ks := [4, 6, 35, 36, 37]) (loopsL (l := []) (by kernel_rfl) trivial) (by kernel_rfl) (inS := Prod.mk) (outS := id) (fun _ _ => rfl) (inX := id) (outX := id) (fun _ => rfl) (fun v R kn ko => by kernel_rfl) (hd_wk [] [] [4, 6, 35, 36, 37] 0)
noncomputable def L_92e : Lps := (lpB 6 (.by_ ls_92e_0) L0)
noncomputable def F_92e (a0 : Int × Int × Int × List Int × Unit) (a1 : List Int) : Option ((Int × Int × Int × List Int × Unit) × Int × Unit) :=
 let x0 : Int := a0.2.2.1
 let x1 : List Int := a0.2.2.2.1
 ((F_939 (a0.1, (a0.2.1, (x0, ((List.take (List.length x1) x1), ())))))).bind fun r2 =>
 let x3 : Int := r2.1.2.1
 let x4 : Int := r2.1.2.2.1
 let x5 : List Int := r2.1.2.2.2.1
 bif (r2.2.1 != (0:Int)) then
 (some (((0:Int), ((0:Int), ((0:Int), ([], ())))), ((21:Int), ())))
 else
 bif (r2.1.1 != (((List.length a1) : Nat) : Int)) then
 (some (((0:Int), ((0:Int), ((0:Int), ([], ())))), ((21:Int), ())))
 else
 bif (decide (r2.1.1 > (0:Int))) then
 bif (x3 == (0:Int)) then
 (some (((0:Int), ((0:Int), ((0:Int), ([], ())))), ((21:Int), ())))
 else
 ((lim st_92e_0 (((List.take (List.length a1) a1), ((((List.length a1) : Nat) : Int), ((0:Int), ()))), (((0:Int), ((0:Int), ((0:Int), ()))), ((r2.1.1, (x3, (x4, ((List.take (List.length x5) x5), ())))), ()))))).bind fun r6 =>
 els (fun l7 =>
 let x9 : Int := l7.2.2.1.1
 let x10 : Int := l7.2.2.1.2.1
 let x11 : Int := l7.2.2.1.2.2.1
 let x12 : List Int := l7.2.2.1.2.2.2.1
 (some ((x9, (x10, (x11, ((List.take (List.length x12) x12), ())))), ((0:Int), ())))) (fun r8 =>
 let x13 : Int := r8.2.1.1
 let x14 : Int := r8.2.1.2.1
 let x15 : Int := r8.2.1.2.2.1
 (some ((x13, (x14, (x15, ([], ())))), r8.1))) r6
 else
 ((lim st_92e_0 (((List.take (List.length a1) a1), ((((List.length a1) : Nat) : Int), ((0:Int), ()))), (((0:Int), ((0:Int), ((0:Int), ()))), ((r2.1.1, (x3, (x4, ((List.take (List.length x5) x5), ())))), ()))))).bind fun r16 =>
 els (fun l17 =>
 let x19 : Int := l17.2.2.1.1
 let x20 : Int := l17.2.2.1.2.1
 let x21 : Int := l17.2.2.1.2.2.1
 let x22 : List Int := l17.2.2.1.2.2.2.1
 (some ((x19, (x20, (x21, ((List.take (List.length x22) x22), ())))), ((0:Int), ())))) (fun r18 =>
 let x23 : Int := r18.2.1.1
 let x24 : Int := r18.2.1.2.1
 let x25 : Int := r18.2.1.2.2.1
 (some ((x23, (x24, (x25, ([], ())))), r18.1))) r16
noncomputable def G_92e : T fa_92e → TH hN0 → Option ((Int × Int × Int × List Int × Unit) × Int × Unit) := fun x y => F_92e x.1 x.2.1
noncomputable def c_92e : Orc := ent i_92e [] 0 (sp fa_92e hN0 fr_92e hN0 G_92e (outN fr_92e))
theorem ok_92e : OrcOk PR c_92e := fnT okO_92e mixed p_92e (by kernel_rfl) (by kernel_rfl) (L := L_92e) (kp := false) (by kernel_rfl) (inn := (innN fr_92e)) (out := (outN fr_92e)) (fun _ _ => rfl) (loopsL (l := [((lpN f_92e 0), ls_92e_0)]) (by kernel_rfl) ⟨lp_92e_0, trivial⟩) (fun x y => by kernel_rfl)
noncomputable def O_92f : Orc := orn
theorem okO_92f : OrcOk PR O_92f := (orn_ok _)
abbrev fa_92f : Fm := (.pair (.agg (.pair (.i .i64) (.pair (.i .i64) (.pair (.i .i64) (.pair (.si .u32) .unit))))) (.pair (.i .i64) .unit))
abbrev fr_92f : Fm := (.si .u32)
noncomputable def F_92f (a0 : Int × Int × Int × List Int × Unit) (a1 : Int) : Option (List Int) :=
 let x0 : Nat := (Int.toNat (IntKind.wrap .i64 (a1 * a0.2.1)))
 let x1 : Nat := ((Int.toNat (IntKind.wrap .i64 ((IntKind.wrap .i64 (a1 + (1:Int))) * a0.2.1))) - x0)
 let x2 : List Int := a0.2.2.2.1
 bif (decide (((0:Int) ≤ (IntKind.wrap .i64 (a1 * a0.2.1))) ∧ (((IntKind.wrap .i64 (a1 * a0.2.1)) ≤ (IntKind.wrap .i64 ((IntKind.wrap .i64 (a1 + (1:Int))) * a0.2.1))) ∧ ((IntKind.wrap .i64 ((IntKind.wrap .i64 (a1 + (1:Int))) * a0.2.1)) ≤ (((List.length x2) : Nat) : Int))))) then
 (some (List.take x1 (List.take x1 (List.drop x0 x2))))
 else
 none
noncomputable def G_92f : T fa_92f → TH hN0 → Option (List Int) := fun x y => F_92f x.1 x.2.1
noncomputable def c_92f : Orc := ent i_92f [] 0 (sp fa_92f hN0 fr_92f hN0 G_92f (outN fr_92f))
theorem ok_92f : OrcOk PR c_92f := fnT okO_92f mixed p_92f (by kernel_rfl) (by kernel_rfl) (L := L0) (kp := false) (by kernel_rfl) (inn := (innN fr_92f)) (out := (outN fr_92f)) (fun _ _ => rfl) (loopsL (l := []) (by kernel_rfl) trivial) (fun x y => by kernel_rfl)
noncomputable def O_930 : Orc := (orm c_95d (orm c_927 (orm c_954 c_931)))
theorem okO_930 : OrcOk PR O_930 := (orm_ok ok_95d (orm_ok ok_927 (orm_ok ok_954 ok_931)))
abbrev fa_930 : Fm := (.pair (.si .u32) .unit)
abbrev fr_930 : Fm := (.tup (.pair (.si .u32) (.pair (.i .u32) (.pair (.i .u32) .unit))))
abbrev ff_930_0 : Fm := (.pair (.si .u32) (.us 4 (.pair (.i .u32) (.us 10 (.pair (.si .u32) (.pair (.i .i64) (.pair (.i .i64) (.us 28 .unit))))))))
abbrev hf_930_0 : List BF := []
abbrev X_930_0 : Xs := (.one (.exit 0) [0, 5] (.pair (.si .u32) (.us 4 (.pair (.i .u32) (.us 41 .unit)))) [])
abbrev S_930_0 : Type := T ff_930_0 × TH hf_930_0
abbrev E_930_0 : Type := TX X_930_0
noncomputable def LB_930_0 : Lps := L0
noncomputable def st_930_0 : StepT S_930_0 E_930_0 := fun R v kn ko =>
 let x0 : Int := v.1.2.1
 let x1 : List Int := v.1.2.2.1
 let x2 : Int := v.1.2.2.2.2.1
 let x3 : List Int := v.1.1
 let x4 : List Int := (List.take (List.length x3) x3)
 bif (decide (x2 < v.1.2.2.2.1)) then
 bif (decide (((0:Int) ≤ x2) ∧ (x2 < (((List.length x1) : Nat) : Int)))) then
 ((F_95d (2:Int) x0 (List.getD x1 (Int.toNat x2) (0:Int)))).bind fun r5 =>
 (kn ((x4, (r5, ((List.take (List.length x1) x1), (v.1.2.2.2.1, ((IntKind.wrap .i64 (x2 + (1:Int))), ()))))), ()))
 else
 none
 else
 (ko ((x4, (x0, ())), ()))
noncomputable def ls_930_0 : St → LTr := (lsum ff_930_0 hf_930_0 X_930_0 Prod.mk id st_930_0 (hd [] [] [0, 5, 16, 17, 18] 0))
theorem lp_930_0 : LoopOk PR 0 (lpN f_930 0) ls_930_0 := loopT okO_930 mixed (L := LB_930_0) (d := 1) (bs := []) (ks := [0, 5, 16, 17, 18]) (loopsL (l := []) (by kernel_rfl) trivial) (by kernel_rfl) (inS := Prod.mk) (outS := id) (fun _ _ => rfl) (inX := id) (outX := id) (fun _ => rfl) (fun v R kn ko => by kernel_rfl) (hd_wk [] [] [0, 5, 16, 17, 18] 0)
abbrev ff_930_1 : Fm := (.us 5 (.pair (.i .u32) (.us 2 (.pair (.own 0 1 0 1) (.pair (.i .u32) (.us 16 (.pair (.si .u32) (.pair (.i .i64) (.pair (.i .i64) (.us 18 .unit))))))))))
abbrev hf_930_1 : List BF := [(.ints 1 y_92 true .u32)]
abbrev X_930_1 : Xs := (.one (.exit 2) [5, 8, 9] (.us 5 (.pair (.i .u32) (.us 2 (.pair (.own 0 1 0 1) (.pair (.i .u32) (.us 37 .unit)))))) [(.ints 1 y_92 true .u32)])
abbrev S_930_1 : Type := T ff_930_1 × TH hf_930_1
abbrev E_930_1 : Type := TX X_930_1
noncomputable def LB_930_1 : Lps := (lpB 4 (.by_ ls_930_0) L0)
noncomputable def st_930_1 : StepT S_930_1 E_930_1 := fun R v kn ko =>
 let x0 : List Int := v.1.2.2.2.1
 let x1 : Int := v.1.2.2.2.2.2.1
 let x2 : Int := v.1.1
 let x3 : Int := v.1.2.2.1
 let x4 : Nat := v.1.2.1
 bif (decide (x1 < v.1.2.2.2.2.1)) then
 bif (decide (((0:Int) ≤ x1) ∧ (x1 < (((List.length x0) : Nat) : Int)))) then
 ((F_927 (List.getD x0 (Int.toNat x1) (0:Int)) x2)).bind fun r5 =>
 ((F_954 r5)).bind fun r6 =>
 bif (decide ((x4 + (1:Nat)) ≤ (1073741824:Nat))) then
 ((F_931 x3 r6)).bind fun r7 =>
 (kn ((x2, ((x4 + (1:Nat)), (r7, ((List.take (List.length x0) x0), (v.1.2.2.2.2.1, ((IntKind.wrap .i64 (x1 + (1:Int))), ())))))), (((List.take x4 v.2.1) ++ [r6]), ())))
 else
 none
 else
 none
 else
 (ko ((x2, (x4, (x3, ()))), v.2))
noncomputable def ls_930_1 : St → LTr := (lsum ff_930_1 hf_930_1 X_930_1 Prod.mk id st_930_1 (hd [(.pl 8, y_92, 0, .ints .u32)] [] [5, 8, 9, 26, 27, 28] 0))
theorem lp_930_1 : LoopOk PR 0 (lpN f_930 1) ls_930_1 := loopT okO_930 mixed (L := LB_930_1) (d := 1) (bs := []) (ks := [5, 8, 9, 26, 27, 28]) (loopsL (l := []) (by kernel_rfl) trivial) (by kernel_rfl) (inS := Prod.mk) (outS := id) (fun _ _ => rfl) (inX := id) (outX := id) (fun _ => rfl) (fun v R kn ko => by kernel_rfl) (hd_wk [(.pl 8, y_92, 0, .ints .u32)] [] [5, 8, 9, 26, 27, 28] 0)
noncomputable def L_930 : Lps := (lpB 11 (.by_ ls_930_1) (lpB 4 (.by_ ls_930_0) L0))
noncomputable def F_930 (a0 : List Int) : Option (List Int × Int × Int × Unit) :=
 let x0 : List Int := (List.take (List.length a0) a0)
 bif (decide (((0:Int) ≤ (0:Int)) ∧ ((0:Int) < (((List.length a0) : Nat) : Int)))) then
 ((lim st_930_0 ((x0, ((List.getD a0 (0:Nat) (0:Int)), (x0, ((((List.length a0) : Nat) : Int), ((0:Int), ()))))), ()))).bind fun r1 =>
 let x2 : List Int := r1.1.1
 let x3 : Nat := (List.length x2)
 ((lim st_930_1 ((r1.1.2.1, ((0:Nat), ((0:Int), ((List.take x3 x2), (((x3 : Nat) : Int), ((0:Int), ())))))), ([], ())))).bind fun r4 =>
 (some ((List.take r4.1.2.1 (List.drop (0:Nat) r4.2.1)), (r4.1.2.2.1, (r4.1.1, ()))))
 else
 none
noncomputable def G_930 : T fa_930 → TH hN0 → Option (List Int × Int × Int × Unit) := fun x y => F_930 x.1
noncomputable def c_930 : Orc := ent i_930 [] 0 (sp fa_930 hN0 fr_930 hN0 G_930 (outN fr_930))
theorem ok_930 : OrcOk PR c_930 := fnT okO_930 mixed p_930 (by kernel_rfl) (by kernel_rfl) (L := L_930) (kp := false) (by kernel_rfl) (inn := (innN fr_930)) (out := (outN fr_930)) (fun _ _ => rfl) (loopsL (l := [((lpN f_930 0), ls_930_0), ((lpN f_930 1), ls_930_1)]) (by kernel_rfl) ⟨lp_930_0, ⟨lp_930_1, trivial⟩⟩) (fun x y => by kernel_rfl)
noncomputable def O_933 : Orc := c_92b
theorem okO_933 : OrcOk PR O_933 := ok_92b
abbrev fa_933 : Fm := (.pair (.i .u32) (.pair (.i .u32) (.pair (.i .i64) .unit)))
abbrev fr_933 : Fm := (.i .u32)
noncomputable def F_933 (a0 : Int) (a1 : Int) (a2 : Int) : Option (Int) :=
 bif (a2 == (0:Int)) then
 (some (0:Int))
 else
 ((F_92b a0 a1)).bind fun r0 =>
 (some r0)
noncomputable def G_933 : T fa_933 → TH hN0 → Option (Int) := fun x y => F_933 x.1 x.2.1 x.2.2.1
noncomputable def c_933 : Orc := ent i_933 [] 0 (sp fa_933 hN0 fr_933 hN0 G_933 (outN fr_933))
theorem ok_933 : OrcOk PR c_933 := fnT okO_933 mixed p_933 (by kernel_rfl) (by kernel_rfl) (L := L0) (kp := false) (by kernel_rfl) (inn := (innN fr_933)) (out := (outN fr_933)) (fun _ _ => rfl) (loopsL (l := []) (by kernel_rfl) trivial) (fun x y => by kernel_rfl)
noncomputable def O_9f : Orc := (orm c_92e (orm c_92c (orm c_92f (orm c_930 (orm c_932 (orm c_927 (orm c_931 (orm c_92b c_933))))))))
theorem okO_9f : OrcOk PR O_9f := (orm_ok ok_92e (orm_ok ok_92c (orm_ok ok_92f (orm_ok ok_930 (orm_ok ok_932 (orm_ok ok_927 (orm_ok ok_931 (orm_ok ok_92b ok_933))))))))
abbrev fa_9f : Fm := (.pair (.agg (.pair (.i .i64) (.pair (.i .i64) (.pair (.i .i64) (.pair (.si .u32) .unit))))) (.pair (.si .i64) .unit))
abbrev fr_9f : Fm := (.tup (.pair (.i .u32) (.pair (.agg (.pair (.i .i64) (.pair (.i .i64) (.pair (.i .i64) (.pair (.si .u32) .unit))))) (.pair (.i .i64) .unit))))
abbrev ff_9f_1 : Fm := (.us 5 (.cst (.ref 0 1 0) (.us 1 (.cst (.ref 1 1 0) (.us 1 (.pair (.i .u32) (.cst (.ref 2 1 0) (.pair (.i .u32) (.us 1 (.pair (.i .i64) (.us 2 (.pair (.i .u32) (.us 22 (.pair (.si .i64) (.pair (.i .i64) (.pair (.i .i64) (.us 24 (.pair (.si .u32) (.pair (.i .i64) (.pair (.i .i64) (.us 27 .unit)))))))))))))))))))))
abbrev hf_9f_1 : List BF := [(.list 1 y_91 true (.pair (.i .i64) (.pair (.i .i64) (.pair (.i .i64) (.cst .nils .unit))))), (.list 1 y_91 true (.pair (.i .i64) (.pair (.i .i64) (.pair (.i .i64) (.pair (.si .u32) .unit))))), (.list 1 y_91 true (.pair (.i .i64) (.pair (.i .i64) (.pair (.i .i64) (.pair (.own 3 1 0 1) .unit))))), (.ints 1 y_92 true .u32)]
abbrev X_9f_1 : Xs := (.one (.exit 2) [5, 7, 9, 10, 11, 39, 40, 41] (.us 5 (.cst (.ref 0 1 0) (.us 1 (.cst (.ref 1 1 0) (.us 1 (.pair (.i .u32) (.cst (.ref 2 1 0) (.pair (.i .u32) (.us 27 (.pair (.si .i64) (.pair (.i .i64) (.pair (.i .i64) (.us 54 .unit))))))))))))) [(.list 1 y_91 true (.pair (.i .i64) (.pair (.i .i64) (.pair (.i .i64) (.cst .nils .unit))))), (.list 1 y_91 true (.pair (.i .i64) (.pair (.i .i64) (.pair (.i .i64) (.pair (.si .u32) .unit))))), (.list 1 y_91 true (.pair (.i .i64) (.pair (.i .i64) (.pair (.i .i64) (.pair (.own 3 1 0 1) .unit))))), (.ints 1 y_92 true .u32)])
abbrev S_9f_1 : Type := T ff_9f_1 × TH hf_9f_1
abbrev E_9f_1 : Type := TX X_9f_1
noncomputable def LB_9f_1 : Lps := L0
noncomputable def st_9f_1 : StepT S_9f_1 E_9f_1 := fun R v kn ko =>
 let x0 : List Int := v.1.2.2.2.2.2.2.2.1
 let x1 : Int := v.1.2.2.2.2.2.2.2.2.2.1
 let x2 : Int := v.1.2.2.2.1
 let x3 : Int := v.1.2.2.1
 let x4 : Int := v.1.1
 let x5 : Int := v.1.2.1
 let x6 : List Int := v.1.2.2.2.2.1
 let x7 : List Int := (List.take (List.length x6) x6)
 let x8 : Int := v.1.2.2.2.2.2.1
 let x9 : Int := v.1.2.2.2.2.2.2.1
 let x10 : List Int := v.2.2.1.2.2.2.1
 let x11 : Nat := v.2.2.2.1.2.2.2.1
 bif (decide (x1 < v.1.2.2.2.2.2.2.2.2.1)) then
 bif (decide (((0:Int) ≤ x1) ∧ (x1 < (((List.length x0) : Nat) : Int)))) then
 ((F_92b (List.getD x0 (Int.toNat x1) (0:Int)) x2)).bind fun r12 =>
 ((F_927 r12 (bif (x1 == x3) then (1065353216:Int) else (0:Int)))).bind fun r13 =>
 ((F_92b r13 x4)).bind fun r14 =>
 bif (decide ((x11 + (1:Nat)) ≤ (1073741824:Nat))) then
 (kn ((x4, (x5, (x3, (x2, (x7, (x8, (x9, ((List.take (List.length x0) x0), (v.1.2.2.2.2.2.2.2.2.1, ((IntKind.wrap .i64 (x1 + (1:Int))), ())))))))))), (v.2.1, ((v.2.2.1.1, (v.2.2.1.2.1, (v.2.2.1.2.2.1, ((List.take (List.length x10) x10), ())))), ((v.2.2.2.1.1, (v.2.2.2.1.2.1, (v.2.2.2.1.2.2.1, ((x11 + (1:Nat)), ())))), (((List.take x11 v.2.2.2.2.1) ++ [r14]), ()))))))
 else
 none
 else
 none
 else
 (ko ((x4, (x5, (x7, (x8, (x9, ()))))), (v.2.1, ((v.2.2.1.1, (v.2.2.1.2.1, (v.2.2.1.2.2.1, ((List.take (List.length x10) x10), ())))), v.2.2.2))))
noncomputable def ls_9f_1 : St → LTr := (lsum ff_9f_1 hf_9f_1 X_9f_1 Prod.mk id st_9f_1 (hd [] [] [5, 7, 9, 10, 11, 13, 16, 39, 40, 41, 66, 67, 68] 0))
theorem lp_9f_1 : LoopOk PR 0 (lpN f_9f 1) ls_9f_1 := loopT okO_9f mixed (L := LB_9f_1) (d := 2) (bs := []) (ks := [5, 7, 9, 10, 11, 13, 16, 39, 40, 41, 66, 67, 68]) (loopsL (l := []) (by kernel_rfl) trivial) (by kernel_rfl) (inS := Prod.mk) (outS := id) (fun _ _ => rfl) (inX := id) (outX := id) (fun _ => rfl) (fun v R kn ko => by kernel_rfl) (hd_wk [] [] [5, 7, 9, 10, 11, 13, 16, 39, 40, 41, 66, 67, 68] 0)
abbrev ff_9f_0 : Fm := (.us 5 (.cst (.ref 0 1 0) (.us 1 (.cst (.ref 1 1 0) (.us 1 (.pair (.i .u32) (.cst (.ref 2 1 0) (.pair (.i .u32) (.us 27 (.pair (.si .i64) (.pair (.i .i64) (.pair (.i .i64) (.us 54 .unit)))))))))))))
abbrev hf_9f_0 : List BF := [(.list 1 y_91 true (.pair (.i .i64) (.pair (.i .i64) (.pair (.i .i64) (.cst .nils .unit))))), (.list 1 y_91 true (.pair (.i .i64) (.pair (.i .i64) (.pair (.i .i64) (.pair (.si .u32) .unit))))), (.list 1 y_91 true (.pair (.i .i64) (.pair (.i .i64) (.pair (.i .i64) (.pair (.own 3 1 0 1) .unit))))), (.ints 1 y_92 true .u32)]
abbrev X_9f_0 : Xs := (.one (.exit 0) [5, 7, 9, 10, 11] (.us 5 (.cst (.ref 0 1 0) (.us 1 (.cst (.ref 1 1 0) (.us 1 (.pair (.i .u32) (.cst (.ref 2 1 0) (.pair (.i .u32) (.us 84 .unit))))))))) [(.list 1 y_91 true (.pair (.i .i64) (.pair (.i .i64) (.pair (.i .i64) (.cst .nils .unit))))), (.list 1 y_91 true (.pair (.i .i64) (.pair (.i .i64) (.pair (.i .i64) (.pair (.si .u32) .unit))))), (.list 1 y_91 true (.pair (.i .i64) (.pair (.i .i64) (.pair (.i .i64) (.pair (.own 3 1 0 1) .unit))))), (.ints 1 y_92 true .u32)])
abbrev S_9f_0 : Type := T ff_9f_0 × TH hf_9f_0
abbrev E_9f_0 : Type := TX X_9f_0
noncomputable def LB_9f_0 : Lps := (lpB 15 (.by_ ls_9f_1) L0)
noncomputable def st_9f_0 : StepT S_9f_0 E_9f_0 := fun R v kn ko =>
 let x0 : List Int := v.2.2.1.2.2.2.1
 let x1 : Int := v.1.2.2.2.2.1
 let x2 : List Int := v.1.2.2.1
 let x3 : Int := (List.getD x2 (Int.toNat x1) (0:Int))
 let x4 : Int := v.1.2.1
 let x5 : Int := v.1.1
 bif (decide (x1 < v.1.2.2.2.1)) then
 bif (decide (((0:Int) ≤ x1) ∧ (x1 < (((List.length x2) : Nat) : Int)))) then
 ((F_92f (v.2.2.1.1, (v.2.2.1.2.1, (v.2.2.1.2.2.1, ((List.take (List.length x0) x0), ())))) x1)).bind fun r6 =>
 ((F_930 (List.take (List.length r6) r6))).bind fun r7 =>
 let x8 : Int := r7.2.2.1
 ((F_932 r7.2.1)).bind fun r9 =>
 bif (decide (((0:Int) ≤ x3) ∧ (x3 < (((List.length r6) : Nat) : Int)))) then
 ((F_927 (List.getD r6 (Int.toNat x3) (0:Int)) x8)).bind fun r10 =>
 ((F_927 r9 r10)).bind fun r11 =>
 ((F_931 x4 r11)).bind fun r12 =>
 ((lim st_9f_1 ((x5, (r12, (x3, (r7.2.1, ((List.take (List.length x2) x2), (v.1.2.2.2.1, (x1, ((List.take (List.length r7.1) r7.1), ((((List.length r7.1) : Nat) : Int), ((0:Int), ())))))))))), (v.2.1, ((v.2.2.1.1, (v.2.2.1.2.1, (v.2.2.1.2.2.1, ((List.take (List.length x0) x0), ())))), v.2.2.2))))).bind fun r13 =>
 let x14 : List Int := r13.1.2.2.1
 let x15 : List Int := r13.2.2.1.2.2.2.1
 (kn ((r13.1.1, (r13.1.2.1, ((List.take (List.length x14) x14), (r13.1.2.2.2.1, ((IntKind.wrap .i64 (r13.1.2.2.2.2.1 + (1:Int))), ()))))), (r13.2.1, ((r13.2.2.1.1, (r13.2.2.1.2.1, (r13.2.2.1.2.2.1, ((List.take (List.length x15) x15), ())))), r13.2.2.2))))
 else
 none
 else
 none
 else
 (ko ((x5, (x4, ())), (v.2.1, ((v.2.2.1.1, (v.2.2.1.2.1, (v.2.2.1.2.2.1, ((List.take (List.length x0) x0), ())))), v.2.2.2))))
noncomputable def ls_9f_0 : St → LTr := (lsum ff_9f_0 hf_9f_0 X_9f_0 Prod.mk id st_9f_0 (hd [(.via 10 3, y_92, 0, .ints .u32)] [] [5, 7, 9, 10, 11, 39, 40, 41] 0))
theorem lp_9f_0 : LoopOk PR 0 (lpN f_9f 0) ls_9f_0 := loopT okO_9f mixed (L := LB_9f_0) (d := 1) (bs := []) (ks := [5, 7, 9, 10, 11, 39, 40, 41]) (loopsL (l := [((lpN f_9f 1), ls_9f_1)]) (by kernel_rfl) ⟨lp_9f_1, trivial⟩) (by kernel_rfl) (inS := Prod.mk) (outS := id) (fun _ _ => rfl) (inX := id) (outX := id) (fun _ => rfl) (fun v R kn ko => by kernel_rfl) (hd_wk [(.via 10 3, y_92, 0, .ints .u32)] [] [5, 7, 9, 10, 11, 39, 40, 41] 0)
noncomputable def L_9f : Lps := (lpB 9 (.by_ ls_9f_0) (lpB 15 (.by_ ls_9f_1) L0))
noncomputable def F_9f (a0 : Int × Int × Int × List Int × Unit) (a1 : List Int) : Option (Int × (Int × Int × Int × List Int × Unit) × Int × Unit) :=
 let x0 : Int := a0.2.2.1
 let x1 : List Int := a0.2.2.2.1
 let x2 : List Int := (List.take (List.length a1) a1)
 ((F_92e (a0.1, (a0.2.1, (x0, ((List.take (List.length x1) x1), ())))) x2)).bind fun r3 =>
 let x4 : Int := r3.1.2.1
 let x5 : Int := r3.1.2.2.1
 let x6 : List Int := r3.1.2.2.2.1
 bif (r3.2.1 != (0:Int)) then
 (some ((0:Int), (((0:Int), ((0:Int), ((0:Int), ([], ())))), r3.2)))
 else
 ((F_92c r3.1.1)).bind fun r7 =>
 ((lim st_9f_0 ((r7, ((0:Int), (x2, ((((List.length a1) : Nat) : Int), ((0:Int), ()))))), (((0:Int), ((0:Int), ((0:Int), ()))), ((r3.1.1, (x4, (x5, ((List.take (List.length x6) x6), ())))), ((r3.1.1, (x4, ((2:Int), ((0:Nat), ())))), ([], ()))))))).bind fun r8 =>
 ((F_933 r8.1.2.1 r8.1.1 r8.2.2.1.1)).bind fun r9 =>
 (some (r9, ((r8.2.2.2.1.1, (r8.2.2.2.1.2.1, (r8.2.2.2.1.2.2.1, ((List.take r8.2.2.2.1.2.2.2.1 (List.drop (0:Nat) r8.2.2.2.2.1)), ())))), ((0:Int), ()))))
noncomputable def G_9f : T fa_9f → TH hN0 → Option (Int × (Int × Int × Int × List Int × Unit) × Int × Unit) := fun x y => F_9f x.1 x.2.1
noncomputable def c_9f : Orc := ent i_9f [] 0 (sp fa_9f hN0 fr_9f hN0 G_9f (outN fr_9f))
theorem ok_9f : OrcOk PR c_9f := fnT okO_9f mixed p_9f (by kernel_rfl) (by kernel_rfl) (L := L_9f) (kp := false) (by kernel_rfl) (inn := (innN fr_9f)) (out := (outN fr_9f)) (fun _ _ => rfl) (loopsL (l := [((lpN f_9f 0), ls_9f_0)]) (by kernel_rfl) ⟨lp_9f_0, trivial⟩) (fun x y => by kernel_rfl)
noncomputable def O_938 : Orc := c_96a
theorem okO_938 : OrcOk PR O_938 := ok_96a
abbrev fa_938 : Fm := (.pair (.si .u32) (.pair (.i .i64) .unit))
abbrev fr_938 : Fm := .b
abbrev ff_938_0 : Fm := (.pair (.si .u32) (.pair (.i .i64) (.us 7 (.pair (.si .u32) (.pair (.i .i64) (.pair (.i .i64) (.us 37 .unit)))))))
abbrev hf_938_0 : List BF := []
abbrev X_938_0 : Xs := (.alt (.exit 0) [] (.us 49 .unit) [] (.one .ret [4] (.us 4 (.pair .b (.us 44 .unit))) []))
abbrev S_938_0 : Type := T ff_938_0 × TH hf_938_0
abbrev E_938_0 : Type := TX X_938_0
noncomputable def LB_938_0 : Lps := L0
noncomputable def st_938_0 : StepT S_938_0 E_938_0 := fun R v kn ko =>
 let x0 : List Int := v.1.1
 let x1 : Int := v.1.2.1
 let x2 : List Int := v.1.2.2.1
 let x3 : Int := v.1.2.2.2.2.1
 bif (decide (x3 < v.1.2.2.2.1)) then
 bif (decide (((0:Int) ≤ x3) ∧ (x3 < (((List.length x2) : Nat) : Int)))) then
 bif (decide (((0:Int) ≤ x1) ∧ (x1 < (((List.length x0) : Nat) : Int)))) then
 ((F_96a (2:Int) (List.getD x0 (Int.toNat x1) (0:Int)) (List.getD x2 (Int.toNat x3) (0:Int)))).bind fun r4 =>
 bif (decide (x3 < x1)) then
 bif r4.2.1 then
 bif (!(decide (r4.1 > (0:Int)))) then
 (ko (Sum.inr ((false, ()), ())))
 else
 bif (decide (x3 > x1)) then
 bif r4.2.1 then
 bif (decide (r4.1 < (0:Int))) then
 (ko (Sum.inr ((false, ()), ())))
 else
 (kn (((List.take (List.length x0) x0), (x1, ((List.take (List.length x2) x2), (v.1.2.2.2.1, ((IntKind.wrap .i64 (x3 + (1:Int))), ()))))), ()))
 else
 (kn (((List.take (List.length x0) x0), (x1, ((List.take (List.length x2) x2), (v.1.2.2.2.1, ((IntKind.wrap .i64 (x3 + (1:Int))), ()))))), ()))
 else
 (kn (((List.take (List.length x0) x0), (x1, ((List.take (List.length x2) x2), (v.1.2.2.2.1, ((IntKind.wrap .i64 (x3 + (1:Int))), ()))))), ()))
 else
 (ko (Sum.inr ((false, ()), ())))
 else
 bif (decide (x3 > x1)) then
 bif r4.2.1 then
 bif (decide (r4.1 < (0:Int))) then
 (ko (Sum.inr ((false, ()), ())))
 else
 (kn (((List.take (List.length x0) x0), (x1, ((List.take (List.length x2) x2), (v.1.2.2.2.1, ((IntKind.wrap .i64 (x3 + (1:Int))), ()))))), ()))
 else
 (kn (((List.take (List.length x0) x0), (x1, ((List.take (List.length x2) x2), (v.1.2.2.2.1, ((IntKind.wrap .i64 (x3 + (1:Int))), ()))))), ()))
 else
 (kn (((List.take (List.length x0) x0), (x1, ((List.take (List.length x2) x2), (v.1.2.2.2.1, ((IntKind.wrap .i64 (x3 + (1:Int))), ()))))), ()))
 else
 none
 else
 none
 else
 (ko (Sum.inl ((), ())))
noncomputable def ls_938_0 : St → LTr := (lsum ff_938_0 hf_938_0 X_938_0 Prod.mk id st_938_0 (hd [] [] [0, 1, 9, 10, 11] 0))
theorem lp_938_0 : LoopOk PR 0 (lpN f_938 0) ls_938_0 := loopT okO_938 mixed (L := LB_938_0) (d := 1) (bs := []) (ks := [0, 1, 9, 10, 11]) (loopsL (l := []) (by kernel_rfl) trivial) (by kernel_rfl) (inS := Prod.mk) (outS := id) (fun _ _ => rfl) (inX := id) (outX := id) (fun _ => rfl) (fun v R kn ko => by kernel_rfl) (hd_wk [] [] [0, 1, 9, 10, 11] 0)
noncomputable def L_938 : Lps := (lpB 3 (.by_ ls_938_0) L0)
noncomputable def F_938 (a0 : List Int) (a1 : Int) : Option (Bool) :=
 let x0 : List Int := (List.take (List.length a0) a0)
 ((lim st_938_0 ((x0, (a1, (x0, ((((List.length a0) : Nat) : Int), ((0:Int), ()))))), ()))).bind fun r1 =>
 els (fun l2 =>
 (some true)) (fun r3 =>
 (some r3.1.1)) r1
noncomputable def G_938 : T fa_938 → TH hN0 → Option (Bool) := fun x y => F_938 x.1 x.2.1
noncomputable def c_938 : Orc := ent i_938 [] 0 (sp fa_938 hN0 fr_938 hN0 G_938 (outN fr_938))
theorem ok_938 : OrcOk PR c_938 := fnT okO_938 mixed p_938 (by kernel_rfl) (by kernel_rfl) (L := L_938) (kp := false) (by kernel_rfl) (inn := (innN fr_938)) (out := (outN fr_938)) (fun _ _ => rfl) (loopsL (l := [((lpN f_938 0), ls_938_0)]) (by kernel_rfl) ⟨lp_938_0, trivial⟩) (fun x y => by kernel_rfl)
noncomputable def O_911 : Orc := (orm c_92e (orm c_92f c_938))
theorem okO_911 : OrcOk PR O_911 := (orm_ok ok_92e (orm_ok ok_92f ok_938))
abbrev fa_911 : Fm := (.pair (.agg (.pair (.i .i64) (.pair (.i .i64) (.pair (.i .i64) (.pair (.si .u32) .unit))))) (.pair (.si .i64) .unit))
abbrev fr_911 : Fm := (.tup (.pair (.i .i64) (.pair (.i .i64) .unit)))
abbrev ff_911_0 : Fm := (.us 6 (.cst (.ref 0 1 0) (.us 1 (.pair (.i .i64) (.us 11 (.pair (.si .i64) (.pair (.i .i64) (.pair (.i .i64) (.us 13 .unit)))))))))
abbrev hf_911_0 : List BF := [(.list 1 y_91 true (.pair (.i .i64) (.pair (.i .i64) (.pair (.i .i64) (.pair (.si .u32) .unit)))))]
abbrev X_911_0 : Xs := (.one (.exit 0) [8] (.us 8 (.pair (.i .i64) (.us 27 .unit))) [])
abbrev S_911_0 : Type := T ff_911_0 × TH hf_911_0
abbrev E_911_0 : Type := TX X_911_0
noncomputable def LB_911_0 : Lps := L0
noncomputable def st_911_0 : StepT S_911_0 E_911_0 := fun R v kn ko =>
 let x0 : List Int := v.2.1.2.2.2.1
 let x1 : Int := v.1.2.2.2.1
 let x2 : List Int := v.1.2.1
 let x3 : Int := v.1.1
 bif (decide (x1 < v.1.2.2.1)) then
 bif (decide (((0:Int) ≤ x1) ∧ (x1 < (((List.length x2) : Nat) : Int)))) then
 ((F_92f (v.2.1.1, (v.2.1.2.1, (v.2.1.2.2.1, ((List.take (List.length x0) x0), ())))) x1)).bind fun r4 =>
 ((F_938 (List.take (List.length r4) r4) (List.getD x2 (Int.toNat x1) (0:Int)))).bind fun r5 =>
 (kn (((bif r5 then (IntKind.wrap .i64 (x3 + (1:Int))) else x3), ((List.take (List.length x2) x2), (v.1.2.2.1, ((IntKind.wrap .i64 (x1 + (1:Int))), ())))), ((v.2.1.1, (v.2.1.2.1, (v.2.1.2.2.1, ((List.take (List.length x0) x0), ())))), ())))
 else
 none
 else
 (ko ((x3, ()), ()))
noncomputable def ls_911_0 : St → LTr := (lsum ff_911_0 hf_911_0 X_911_0 Prod.mk id st_911_0 (hd [] [] [6, 8, 20, 21, 22] 0))
theorem lp_911_0 : LoopOk PR 0 (lpN f_911 0) ls_911_0 := loopT okO_911 mixed (L := LB_911_0) (d := 1) (bs := []) (ks := [6, 8, 20, 21, 22]) (loopsL (l := []) (by kernel_rfl) trivial) (by kernel_rfl) (inS := Prod.mk) (outS := id) (fun _ _ => rfl) (inX := id) (outX := id) (fun _ => rfl) (fun v R kn ko => by kernel_rfl) (hd_wk [] [] [6, 8, 20, 21, 22] 0)
noncomputable def L_911 : Lps := (lpB 7 (.by_ ls_911_0) L0)
noncomputable def F_911 (a0 : Int × Int × Int × List Int × Unit) (a1 : List Int) : Option (Int × Int × Unit) :=
 let x0 : Int := a0.2.2.1
 let x1 : List Int := a0.2.2.2.1
 let x2 : List Int := (List.take (List.length a1) a1)
 ((F_92e (a0.1, (a0.2.1, (x0, ((List.take (List.length x1) x1), ())))) x2)).bind fun r3 =>
 let x4 : Int := r3.1.2.1
 let x5 : Int := r3.1.2.2.1
 let x6 : List Int := r3.1.2.2.2.1
 bif (r3.2.1 != (0:Int)) then
 (some ((0:Int), r3.2))
 else
 ((lim st_911_0 (((0:Int), (x2, ((((List.length a1) : Nat) : Int), ((0:Int), ())))), ((r3.1.1, (x4, (x5, ((List.take (List.length x6) x6), ())))), ())))).bind fun r7 =>
 (some (r7.1.1, ((0:Int), ())))
noncomputable def G_911 : T fa_911 → TH hN0 → Option (Int × Int × Unit) := fun x y => F_911 x.1 x.2.1
noncomputable def c_911 : Orc := ent i_911 [] 0 (sp fa_911 hN0 fr_911 hN0 G_911 (outN fr_911))
theorem ok_911 : OrcOk PR c_911 := fnT okO_911 mixed p_911 (by kernel_rfl) (by kernel_rfl) (L := L_911) (kp := false) (by kernel_rfl) (inn := (innN fr_911)) (out := (outN fr_911)) (fun _ _ => rfl) (loopsL (l := [((lpN f_911 0), ls_911_0)]) (by kernel_rfl) ⟨lp_911_0, trivial⟩) (fun x y => by kernel_rfl)
noncomputable def O_913 : Orc := (orm c_939 (orm c_92c (orm c_927 (orm c_93a (orm c_931 (orm c_92b c_933))))))
theorem okO_913 : OrcOk PR O_913 := (orm_ok ok_939 (orm_ok ok_92c (orm_ok ok_927 (orm_ok ok_93a (orm_ok ok_931 (orm_ok ok_92b ok_933))))))
abbrev fa_913 : Fm := (.pair (.agg (.pair (.i .i64) (.pair (.i .i64) (.pair (.i .i64) (.pair (.si .u32) .unit))))) (.pair (.agg (.pair (.i .i64) (.pair (.i .i64) (.pair (.i .i64) (.pair (.si .u32) .unit))))) .unit))
abbrev fr_913 : Fm := (.tup (.pair (.i .u32) (.pair (.agg (.pair (.i .i64) (.pair (.i .i64) (.pair (.i .i64) (.pair (.si .u32) .unit))))) (.pair (.i .i64) .unit))))
abbrev ff_913_0 : Fm := (.us 5 (.cst (.ref 0 1 0) (.us 1 (.cst (.ref 1 1 0) (.us 1 (.cst (.ref 2 1 0) (.us 1 (.pair (.i .u32) (.cst (.ref 3 1 0) (.pair (.i .u32) (.us 46 (.pair (.si .u32) (.pair (.i .i64) (.pair (.i .i64) (.us 32 .unit)))))))))))))))
abbrev hf_913_0 : List BF := [(.list 1 y_91 true (.pair (.i .i64) (.pair (.i .i64) (.pair (.i .i64) (.cst .nils .unit))))), (.list 1 y_91 true (.pair (.i .i64) (.pair (.i .i64) (.pair (.i .i64) (.pair (.si .u32) .unit))))), (.list 1 y_91 true (.pair (.i .i64) (.pair (.i .i64) (.pair (.i .i64) (.pair (.si .u32) .unit))))), (.list 1 y_91 true (.pair (.i .i64) (.pair (.i .i64) (.pair (.i .i64) (.pair (.own 4 1 0 1) .unit))))), (.ints 1 y_92 true .u32)]
abbrev X_913_0 : Xs := (.one (.exit 0) [5, 7, 11, 12, 13] (.us 5 (.cst (.ref 0 1 0) (.us 1 (.cst (.ref 1 1 0) (.us 3 (.pair (.i .u32) (.cst (.ref 2 1 0) (.pair (.i .u32) (.us 81 .unit))))))))) [(.list 1 y_91 true (.pair (.i .i64) (.pair (.i .i64) (.pair (.i .i64) (.cst .nils .unit))))), (.list 1 y_91 true (.pair (.i .i64) (.pair (.i .i64) (.pair (.i .i64) (.pair (.si .u32) .unit))))), (.list 1 y_91 true (.pair (.i .i64) (.pair (.i .i64) (.pair (.i .i64) (.pair (.own 3 1 0 1) .unit))))), (.ints 1 y_92 true .u32)])
abbrev S_913_0 : Type := T ff_913_0 × TH hf_913_0
abbrev E_913_0 : Type := TX X_913_0
noncomputable def LB_913_0 : Lps := L0
noncomputable def st_913_0 : StepT S_913_0 E_913_0 := fun R v kn ko =>
 let x0 : List Int := v.1.2.2.1
 let x1 : Int := v.1.2.2.2.2.1
 let x2 : Nat := (Int.toNat x1)
 let x3 : List Int := v.2.2.2.1.2.2.2.1
 let x4 : Int := v.1.2.1
 let x5 : Int := v.1.1
 let x6 : List Int := v.2.2.1.2.2.2.1
 let x7 : Nat := v.2.2.2.2.1.2.2.2.1
 bif (decide (x1 < v.1.2.2.2.1)) then
 bif (decide (((0:Int) ≤ x1) ∧ (x1 < (((List.length x0) : Nat) : Int)))) then
 bif (decide (((0:Int) ≤ x1) ∧ (x1 < (((List.length x3) : Nat) : Int)))) then
 ((F_927 (List.getD x0 x2 (0:Int)) (List.getD x3 x2 (0:Int)))).bind fun r8 =>
 ((F_93a r8 r8 x4)).bind fun r9 =>
 ((F_931 r8 r8)).bind fun r10 =>
 ((F_92b r10 x5)).bind fun r11 =>
 bif (decide ((x7 + (1:Nat)) ≤ (1073741824:Nat))) then
 (kn ((x5, (r9, ((List.take (List.length x0) x0), (v.1.2.2.2.1, ((IntKind.wrap .i64 (x1 + (1:Int))), ()))))), (v.2.1, ((v.2.2.1.1, (v.2.2.1.2.1, (v.2.2.1.2.2.1, ((List.take (List.length x6) x6), ())))), ((v.2.2.2.1.1, (v.2.2.2.1.2.1, (v.2.2.2.1.2.2.1, ((List.take (List.length x3) x3), ())))), ((v.2.2.2.2.1.1, (v.2.2.2.2.1.2.1, (v.2.2.2.2.1.2.2.1, ((x7 + (1:Nat)), ())))), (((List.take x7 v.2.2.2.2.2.1) ++ [r11]), ())))))))
 else
 none
 else
 none
 else
 none
 else
 (ko ((x5, (x4, ())), (v.2.1, ((v.2.2.1.1, (v.2.2.1.2.1, (v.2.2.1.2.2.1, ((List.take (List.length x6) x6), ())))), v.2.2.2.2))))
noncomputable def ls_913_0 : St → LTr := (lsum ff_913_0 hf_913_0 X_913_0 Prod.mk id st_913_0 (hd [(.via 12 3, y_92, 0, .ints .u32)] [] [5, 7, 9, 11, 12, 13, 60, 61, 62] 0))
theorem lp_913_0 : LoopOk PR 0 (lpN f_913 0) ls_913_0 := loopT okO_913 mixed (L := LB_913_0) (d := 1) (bs := []) (ks := [5, 7, 9, 11, 12, 13, 60, 61, 62]) (loopsL (l := []) (by kernel_rfl) trivial) (by kernel_rfl) (inS := Prod.mk) (outS := id) (fun _ _ => rfl) (inX := id) (outX := id) (fun _ => rfl) (fun v R kn ko => by kernel_rfl) (hd_wk [(.via 12 3, y_92, 0, .ints .u32)] [] [5, 7, 9, 11, 12, 13, 60, 61, 62] 0)
noncomputable def L_913 : Lps := (lpB 10 (.by_ ls_913_0) L0)
noncomputable def F_913 (a0 : Int × Int × Int × List Int × Unit) (a1 : Int × Int × Int × List Int × Unit) : Option (Int × (Int × Int × Int × List Int × Unit) × Int × Unit) :=
 let x0 : Int := a0.2.2.1
 let x1 : List Int := a0.2.2.2.1
 let x2 : Int := a1.2.2.1
 let x3 : List Int := a1.2.2.2.1
 ((F_939 (a0.1, (a0.2.1, (x0, ((List.take (List.length x1) x1), ())))))).bind fun r4 =>
 let x5 : Int := r4.1.2.1
 let x6 : List Int := r4.1.2.2.2.1
 let x7 : Nat := (List.length x6)
 let x8 : List Int := (List.take x7 x6)
 let x9 : Int := r4.1.2.2.1
 ((F_939 (a1.1, (a1.2.1, (x2, ((List.take (List.length x3) x3), ())))))).bind fun r10 =>
 let x11 : Int := r10.1.2.1
 let x12 : Int := r10.1.2.2.1
 let x13 : List Int := r10.1.2.2.2.1
 bif (r4.2.1 != (0:Int)) then
 (some ((0:Int), (((0:Int), ((0:Int), ((0:Int), ([], ())))), ((21:Int), ()))))
 else
 bif (r10.2.1 != (0:Int)) then
 (some ((0:Int), (((0:Int), ((0:Int), ((0:Int), ([], ())))), ((21:Int), ()))))
 else
 bif (r4.1.1 != r10.1.1) then
 (some ((0:Int), (((0:Int), ((0:Int), ((0:Int), ([], ())))), ((21:Int), ()))))
 else
 bif (x5 != x11) then
 (some ((0:Int), (((0:Int), ((0:Int), ((0:Int), ([], ())))), ((21:Int), ()))))
 else
 ((F_92c (IntKind.wrap .i64 (r4.1.1 * x5)))).bind fun r14 =>
 ((lim st_913_0 ((r14, ((0:Int), (x8, (((x7 : Nat) : Int), ((0:Int), ()))))), (((0:Int), ((0:Int), ((0:Int), ()))), ((r4.1.1, (x5, (x9, (x8, ())))), ((r10.1.1, (x11, (x12, ((List.take (List.length x13) x13), ())))), ((r4.1.1, (x5, ((2:Int), ((0:Nat), ())))), ([], ())))))))).bind fun r15 =>
 ((F_933 r15.1.2.1 r15.1.1 r15.2.2.1.1)).bind fun r16 =>
 (some (r16, ((r15.2.2.2.1.1, (r15.2.2.2.1.2.1, (r15.2.2.2.1.2.2.1, ((List.take r15.2.2.2.1.2.2.2.1 (List.drop (0:Nat) r15.2.2.2.2.1)), ())))), ((0:Int), ()))))
noncomputable def G_913 : T fa_913 → TH hN0 → Option (Int × (Int × Int × Int × List Int × Unit) × Int × Unit) := fun x y => F_913 x.1 x.2.1
noncomputable def c_913 : Orc := ent i_913 [] 0 (sp fa_913 hN0 fr_913 hN0 G_913 (outN fr_913))
theorem ok_913 : OrcOk PR c_913 := fnT okO_913 mixed p_913 (by kernel_rfl) (by kernel_rfl) (L := L_913) (kp := false) (by kernel_rfl) (inn := (innN fr_913)) (out := (outN fr_913)) (fun _ _ => rfl) (loopsL (l := [((lpN f_913 0), ls_913_0)]) (by kernel_rfl) ⟨lp_913_0, trivial⟩) (fun x y => by kernel_rfl)
noncomputable def O_934 : Orc := c_91c
theorem okO_934 : OrcOk PR O_934 := ok_91c
abbrev fa_934 : Fm := (.pair (.agg (.pair (.i .i64) (.pair (.i .i64) (.pair (.i .i64) (.pair (.si .u32) .unit))))) (.pair (.si .i64) .unit))
abbrev fr_934 : Fm := (.i .i64)
abbrev ff_934_0 : Fm := (.us 1 (.pair (.si .i64) (.cst (.ref 0 1 0) (.us 2 (.pair (.i .i64) (.us 40 .unit))))))
abbrev hf_934_0 : List BF := [(.list 1 y_91 true (.pair (.i .i64) (.pair (.i .i64) (.pair (.i .i64) (.pair (.si .u32) .unit)))))]
abbrev X_934_0 : Xs := (.alt (.exit 0) [] (.us 46 .unit) [] (.one .ret [4] (.us 4 (.pair (.i .i64) (.us 41 .unit))) []))
abbrev S_934_0 : Type := T ff_934_0 × TH hf_934_0
abbrev E_934_0 : Type := TX X_934_0
noncomputable def LB_934_0 : Lps := L0
noncomputable def st_934_0 : StepT S_934_0 E_934_0 := fun R v kn ko =>
 let x0 : List Int := v.1.1
 let x1 : List Int := v.2.1.2.2.2.1
 bif (decide (v.1.2.1 < (((List.length x0) : Nat) : Int))) then
 bif (decide (((0:Int) ≤ v.1.2.1) ∧ (v.1.2.1 < (((List.length x0) : Nat) : Int)))) then
 bif (decide ((List.getD x0 (Int.toNat v.1.2.1) (0:Int)) < (0:Int))) then
 (ko (Sum.inr (((22:Int), ()), ())))
 else
 bif (decide (((0:Int) ≤ v.1.2.1) ∧ (v.1.2.1 < (((List.length x0) : Nat) : Int)))) then
 bif (decide ((List.getD x0 (Int.toNat v.1.2.1) (0:Int)) ≥ v.2.1.2.1)) then
 (ko (Sum.inr (((22:Int), ()), ())))
 else
 (kn (((List.take (List.length x0) x0), ((IntKind.wrap .i64 (v.1.2.1 + (1:Int))), ())), ((v.2.1.1, (v.2.1.2.1, (v.2.1.2.2.1, ((List.take (List.length x1) x1), ())))), ())))
 else
 none
 else
 none
 else
 (ko (Sum.inl ((), ())))
noncomputable def ls_934_0 : St → LTr := (lsum ff_934_0 hf_934_0 X_934_0 Prod.mk id st_934_0 (hd [] [] [1, 2, 5] 0))
theorem lp_934_0 : LoopOk PR 0 (lpN f_934 0) ls_934_0 := loopT okO_934 mixed (L := LB_934_0) (d := 1) (bs := []) (ks := [1, 2, 5]) (loopsL (l := []) (by kernel_rfl) trivial) (by kernel_rfl) (inS := Prod.mk) (outS := id) (fun _ _ => rfl) (inX := id) (outX := id) (fun _ => rfl) (fun v R kn ko => by kernel_rfl) (hd_wk [] [] [1, 2, 5] 0)
noncomputable def L_934 : Lps := (lpB 5 (.by_ ls_934_0) L0)
noncomputable def F_934 (a0 : Int × Int × Int × List Int × Unit) (a1 : List Int) : Option (Int) :=
 let x0 : Int := a0.2.2.1
 let x1 : List Int := a0.2.2.2.1
 ((F_91c (a0.1, (a0.2.1, (x0, ((List.take (List.length x1) x1), ())))))).bind fun r2 =>
 bif (!r2) then
 (some (21:Int))
 else
 bif (a0.1 != (((List.length a1) : Nat) : Int)) then
 (some (21:Int))
 else
 bif (decide (a0.1 > (0:Int))) then
 bif (a0.2.1 == (0:Int)) then
 (some (21:Int))
 else
 ((lim st_934_0 (((List.take (List.length a1) a1), ((0:Int), ())), ((a0.1, (a0.2.1, (x0, ((List.take (List.length x1) x1), ())))), ())))).bind fun r3 =>
 els (fun l4 =>
 (some (0:Int))) (fun r5 =>
 (some r5.1.1)) r3
 else
 ((lim st_934_0 (((List.take (List.length a1) a1), ((0:Int), ())), ((a0.1, (a0.2.1, (x0, ((List.take (List.length x1) x1), ())))), ())))).bind fun r6 =>
 els (fun l7 =>
 (some (0:Int))) (fun r8 =>
 (some r8.1.1)) r6
noncomputable def G_934 : T fa_934 → TH hN0 → Option (Int) := fun x y => F_934 x.1 x.2.1
noncomputable def c_934 : Orc := ent i_934 [] 0 (sp fa_934 hN0 fr_934 hN0 G_934 (outN fr_934))
theorem ok_934 : OrcOk PR c_934 := fnT okO_934 mixed p_934 (by kernel_rfl) (by kernel_rfl) (L := L_934) (kp := false) (by kernel_rfl) (inn := (innN fr_934)) (out := (outN fr_934)) (fun _ _ => rfl) (loopsL (l := [((lpN f_934 0), ls_934_0)]) (by kernel_rfl) ⟨lp_934_0, trivial⟩) (fun x y => by kernel_rfl)
noncomputable def O_910 : Orc := (orm c_934 (orm c_916 (orm c_92a (orm c_935 (orm c_917 (orm c_936 (orm c_937 (orm c_918 c_915))))))))
theorem okO_910 : OrcOk PR O_910 := (orm_ok ok_934 (orm_ok ok_916 (orm_ok ok_92a (orm_ok ok_935 (orm_ok ok_917 (orm_ok ok_936 (orm_ok ok_937 (orm_ok ok_918 ok_915))))))))
abbrev fa_910 : Fm := (.pair (.agg (.pair (.i .i64) (.pair (.i .i64) (.pair (.i .i64) (.pair (.si .u32) .unit))))) (.pair (.si .i64) .unit))
abbrev fr_910 : Fm := (.tup (.pair (.i .u32) (.pair (.agg (.pair (.i .i64) (.pair (.i .i64) (.pair (.i .i64) (.pair (.si .u32) .unit))))) (.pair (.i .i64) .unit))))
abbrev ff_910_1 : Fm := (.us 1 (.pair (.si .i64) (.cst (.ref 0 1 0) (.us 2 (.cst (.ref 1 1 0) (.us 2 (.cst (.ref 2 1 0) (.pair (.i .u32) (.pair (.i .u32) (.pair (.i .i64) (.pair (.i .u32) (.pair (.i .i64) (.us 140 .unit)))))))))))))
abbrev hf_910_1 : List BF := [(.list 1 y_91 true (.pair (.i .i64) (.pair (.i .i64) (.pair (.i .i64) (.pair (.si .u32) .unit))))), (.list 1 y_91 true (.pair (.i .i64) (.pair (.i .i64) (.pair (.i .i64) (.cst .nils .unit))))), (.list 1 y_91 true (.pair (.i .i64) (.pair (.i .i64) (.pair (.i .i64) (.pair (.own 3 1 0 1) .unit))))), (.ints 1 y_92 true .u32)]
abbrev X_910_1 : Xs := (.one (.exit 2) [1, 2, 5, 8, 9, 10, 11, 12] (.us 1 (.pair (.si .i64) (.cst (.ref 0 1 0) (.us 2 (.cst (.ref 1 1 0) (.us 2 (.cst (.ref 2 1 0) (.pair (.i .u32) (.pair (.i .u32) (.pair (.i .i64) (.pair (.i .u32) (.us 141 .unit)))))))))))) [(.list 1 y_91 true (.pair (.i .i64) (.pair (.i .i64) (.pair (.i .i64) (.pair (.si .u32) .unit))))), (.list 1 y_91 true (.pair (.i .i64) (.pair (.i .i64) (.pair (.i .i64) (.cst .nils .unit))))), (.list 1 y_91 true (.pair (.i .i64) (.pair (.i .i64) (.pair (.i .i64) (.pair (.own 3 1 0 1) .unit))))), (.ints 1 y_92 true .u32)])
abbrev S_910_1 : Type := T ff_910_1 × TH hf_910_1
abbrev E_910_1 : Type := TX X_910_1
noncomputable def LB_910_1 : Lps := L0
noncomputable def st_910_1 : StepT S_910_1 E_910_1 := fun R v kn ko =>
 let x0 : Int := v.2.1.2.1
 let x1 : List Int := v.2.1.2.2.2.1
 let x2 : Int := v.1.2.2.2.1
 let x3 : Int := v.1.2.2.2.2.2.1
 let x4 : Int := v.1.2.2.2.2.1
 let x5 : List Int := v.1.1
 let x6 : List Int := (List.take (List.length x5) x5)
 let x7 : Int := v.1.2.1
 let x8 : Int := v.1.2.2.1
 bif (decide (x3 < x0)) then
 ((F_92a (v.2.1.1, (x0, (v.2.1.2.2.1, ((List.take (List.length x1) x1), ())))) (IntKind.wrap .i64 ((IntKind.wrap .i64 (x2 * x0)) + x3)))).bind fun r9 =>
 ((F_935 (2:Int) x4 r9)).bind fun r10 =>
 (kn ((x6, (x7, (x8, (x2, (r10, ((IntKind.wrap .i64 (x3 + (1:Int))), ())))))), ((v.2.1.1, (x0, (v.2.1.2.2.1, ((List.take (List.length x1) x1), ())))), v.2.2)))
 else
 (ko ((x6, (x7, (x8, (x2, (x4, ()))))), ((v.2.1.1, (x0, (v.2.1.2.2.1, ((List.take (List.length x1) x1), ())))), v.2.2)))
noncomputable def ls_910_1 : St → LTr := (lsum ff_910_1 hf_910_1 X_910_1 Prod.mk id st_910_1 (hd [] [] [1, 2, 5, 8, 9, 10, 11, 12, 13] 0))
theorem lp_910_1 : LoopOk PR 0 (lpN f_910 1) ls_910_1 := loopT okO_910 mixed (L := LB_910_1) (d := 2) (bs := []) (ks := [1, 2, 5, 8, 9, 10, 11, 12, 13]) (loopsL (l := []) (by kernel_rfl) trivial) (by kernel_rfl) (inS := Prod.mk) (outS := id) (fun _ _ => rfl) (inX := id) (outX := id) (fun _ => rfl) (fun v R kn ko => by kernel_rfl) (hd_wk [] [] [1, 2, 5, 8, 9, 10, 11, 12, 13] 0)
abbrev ff_910_2 : Fm := (.us 1 (.pair (.si .i64) (.cst (.ref 0 1 0) (.us 2 (.cst (.ref 1 1 0) (.us 2 (.cst (.ref 2 1 0) (.pair (.i .u32) (.pair (.i .u32) (.pair (.i .i64) (.pair (.i .u32) (.us 1 (.pair (.own 3 1 0 1) (.pair (.i .u32) (.pair (.i .i64) (.us 137 .unit))))))))))))))))
abbrev hf_910_2 : List BF := [(.list 1 y_91 true (.pair (.i .i64) (.pair (.i .i64) (.pair (.i .i64) (.pair (.si .u32) .unit))))), (.list 1 y_91 true (.pair (.i .i64) (.pair (.i .i64) (.pair (.i .i64) (.cst .nils .unit))))), (.list 1 y_91 true (.pair (.i .i64) (.pair (.i .i64) (.pair (.i .i64) (.pair (.own 4 1 0 1) .unit))))), (.ints 1 y_92 true .u32), (.ints 1 y_92 true .u32)]
abbrev X_910_2 : Xs := (.one (.exit 4) [1, 2, 5, 8, 9, 10, 11, 12, 14, 15] (.us 1 (.pair (.si .i64) (.cst (.ref 0 1 0) (.us 2 (.cst (.ref 1 1 0) (.us 2 (.cst (.ref 2 1 0) (.pair (.i .u32) (.pair (.i .u32) (.pair (.i .i64) (.pair (.i .u32) (.us 1 (.pair (.own 3 1 0 1) (.pair (.i .u32) (.us 138 .unit))))))))))))))) [(.list 1 y_91 true (.pair (.i .i64) (.pair (.i .i64) (.pair (.i .i64) (.pair (.si .u32) .unit))))), (.list 1 y_91 true (.pair (.i .i64) (.pair (.i .i64) (.pair (.i .i64) (.cst .nils .unit))))), (.list 1 y_91 true (.pair (.i .i64) (.pair (.i .i64) (.pair (.i .i64) (.pair (.own 4 1 0 1) .unit))))), (.ints 1 y_92 true .u32), (.ints 1 y_92 true .u32)])
abbrev S_910_2 : Type := T ff_910_2 × TH hf_910_2
abbrev E_910_2 : Type := TX X_910_2
noncomputable def LB_910_2 : Lps := (lpB 13 (.by_ ls_910_1) L0)
noncomputable def st_910_2 : StepT S_910_2 E_910_2 := fun R v kn ko =>
 let x0 : Int := v.2.1.2.1
 let x1 : List Int := v.2.1.2.2.2.1
 let x2 : Int := v.1.2.2.2.1
 let x3 : Int := v.1.2.2.2.2.2.2.2.1
 let x4 : Int := v.1.2.2.2.2.1
 let x5 : Int := v.1.2.2.2.2.2.2.1
 let x6 : Nat := ((0:Nat) + ((Int.toNat x3) * (1:Nat)))
 let x7 : List Int := v.1.1
 let x8 : List Int := (List.take (List.length x7) x7)
 let x9 : Int := v.1.2.1
 let x10 : Int := v.1.2.2.1
 let x11 : Nat := v.1.2.2.2.2.2.1
 bif (decide (x3 < x0)) then
 ((F_92a (v.2.1.1, (x0, (v.2.1.2.2.1, ((List.take (List.length x1) x1), ())))) (IntKind.wrap .i64 ((IntKind.wrap .i64 (x2 * x0)) + x3)))).bind fun r12 =>
 ((F_917 r12 x4)).bind fun r13 =>
 ((F_936 r13)).bind fun r14 =>
 let x15 : List Int := (List.set v.2.2.2.2.1 x6 r14)
 bif (decide (((0:Int) ≤ x3) ∧ (x3 < ((x11 : Nat) : Int)))) then
 bif (decide (x6 < (List.length v.2.2.2.2.1))) then
 bif (decide (((0:Int) ≤ x3) ∧ (x3 < ((x11 : Nat) : Int)))) then
 bif (decide (x6 < (List.length x15))) then
 ((F_937 x5 (List.getD x15 x6 (0:Int)))).bind fun r16 =>
 (kn ((x8, (x9, (x10, (x2, (x4, (x11, (r16, ((IntKind.wrap .i64 (x3 + (1:Int))), ())))))))), ((v.2.1.1, (x0, (v.2.1.2.2.1, ((List.take (List.length x1) x1), ())))), (v.2.2.1, (v.2.2.2.1, (x15, v.2.2.2.2.2))))))
 else
 none
 else
 none
 else
 none
 else
 none
 else
 (ko ((x8, (x9, (x10, (x2, (x4, (x11, (x5, ()))))))), ((v.2.1.1, (x0, (v.2.1.2.2.1, ((List.take (List.length x1) x1), ())))), v.2.2)))
noncomputable def ls_910_2 : St → LTr := (lsum ff_910_2 hf_910_2 X_910_2 Prod.mk id st_910_2 (hd [] [] [1, 2, 5, 8, 9, 10, 11, 12, 14, 15, 16] 0))
theorem lp_910_2 : LoopOk PR 0 (lpN f_910 2) ls_910_2 := loopT okO_910 mixed (L := LB_910_2) (d := 2) (bs := []) (ks := [1, 2, 5, 8, 9, 10, 11, 12, 14, 15, 16]) (loopsL (l := []) (by kernel_rfl) trivial) (by kernel_rfl) (inS := Prod.mk) (outS := id) (fun _ _ => rfl) (inX := id) (outX := id) (fun _ => rfl) (fun v R kn ko => by kernel_rfl) (hd_wk [] [] [1, 2, 5, 8, 9, 10, 11, 12, 14, 15, 16] 0)
abbrev ff_910_3 : Fm := (.us 1 (.pair (.si .i64) (.cst (.ref 0 1 0) (.us 2 (.cst (.ref 1 1 0) (.us 2 (.cst (.ref 2 1 0) (.pair (.i .u32) (.pair (.i .u32) (.pair (.i .i64) (.us 2 (.pair (.own 3 1 0 1) (.pair (.i .u32) (.us 2 (.pair (.i .i64) (.us 135 .unit))))))))))))))))
abbrev hf_910_3 : List BF := [(.list 1 y_91 true (.pair (.i .i64) (.pair (.i .i64) (.pair (.i .i64) (.pair (.si .u32) .unit))))), (.list 1 y_91 true (.pair (.i .i64) (.pair (.i .i64) (.pair (.i .i64) (.cst .nils .unit))))), (.list 1 y_91 true (.pair (.i .i64) (.pair (.i .i64) (.pair (.i .i64) (.pair (.own 4 1 0 1) .unit))))), (.ints 1 y_92 true .u32), (.ints 1 y_92 true .u32)]
abbrev X_910_3 : Xs := (.one (.exit 6) [1, 2, 5, 8, 9, 10, 11] (.us 1 (.pair (.si .i64) (.cst (.ref 0 1 0) (.us 2 (.cst (.ref 1 1 0) (.us 2 (.cst (.ref 2 1 0) (.pair (.i .u32) (.pair (.i .u32) (.pair (.i .i64) (.us 142 .unit))))))))))) [(.list 1 y_91 true (.pair (.i .i64) (.pair (.i .i64) (.pair (.i .i64) (.pair (.si .u32) .unit))))), (.list 1 y_91 true (.pair (.i .i64) (.pair (.i .i64) (.pair (.i .i64) (.cst .nils .unit))))), (.list 1 y_91 true (.pair (.i .i64) (.pair (.i .i64) (.pair (.i .i64) (.pair (.own 3 1 0 1) .unit))))), (.ints 1 y_92 true .u32)])
abbrev S_910_3 : Type := T ff_910_3 × TH hf_910_3
abbrev E_910_3 : Type := TX X_910_3
noncomputable def LB_910_3 : Lps := (lpB 19 (.by_ ls_910_2) (lpB 13 (.by_ ls_910_1) L0))
noncomputable def st_910_3 : StepT S_910_3 E_910_3 := fun R v kn ko =>
 let x0 : List Int := v.2.2.2.2.1
 let x1 : Int := v.1.2.2.2.2.2.2.1
 let x2 : Int := v.1.2.2.2.2.2.1
 let x3 : List Int := v.1.1
 let x4 : Int := v.1.2.2.2.1
 let x5 : Int := v.1.2.1
 let x6 : List Int := (List.take (List.length x3) x3)
 let x7 : Int := v.1.2.2.1
 let x8 : Int := v.2.1.2.1
 let x9 : List Int := v.2.1.2.2.2.1
 bif (decide (x1 < x8)) then
 bif (decide (((0:Int) ≤ x4) ∧ (x4 < (((List.length x3) : Nat) : Int)))) then
 bif (decide (((0:Int) ≤ x1) ∧ (x1 < ((v.1.2.2.2.2.1 : Nat) : Int)))) then
 bif (decide (((0:Nat) + ((Int.toNat x1) * (1:Nat))) < (List.length x0))) then
 ((F_915 (List.getD x0 ((0:Nat) + ((Int.toNat x1) * (1:Nat))) (0:Int)) x2)).bind fun r10 =>
 ((F_917 r10 (bif (x1 == (List.getD x3 (Int.toNat x4) (0:Int))) then (1065353216:Int) else (0:Int)))).bind fun r11 =>
 ((F_915 r11 x5)).bind fun r12 =>
 bif (decide (((0:Int) ≤ (IntKind.wrap .i64 ((IntKind.wrap .i64 (x4 * x8)) + x1))) ∧ ((IntKind.wrap .i64 ((IntKind.wrap .i64 (x4 * x8)) + x1)) < ((v.2.2.2.1.2.2.2.1 : Nat) : Int)))) then
 bif (decide (((0:Nat) + ((Int.toNat (IntKind.wrap .i64 ((IntKind.wrap .i64 (x4 * x8)) + x1))) * (1:Nat))) < (List.length v.2.2.2.2.2.1))) then
 (kn ((x6, (x5, (x7, (x4, (v.1.2.2.2.2.1, (x2, ((IntKind.wrap .i64 (x1 + (1:Int))), ()))))))), ((v.2.1.1, (x8, (v.2.1.2.2.1, ((List.take (List.length x9) x9), ())))), (v.2.2.1, (v.2.2.2.1, (x0, ((List.set v.2.2.2.2.2.1 ((0:Nat) + ((Int.toNat (IntKind.wrap .i64 ((IntKind.wrap .i64 (x4 * x8)) + x1))) * (1:Nat))) r12), ())))))))
 else
 none
 else
 none
 else
 none
 else
 none
 else
 none
 else
 (ko ((x6, (x5, (x7, (x4, ())))), ((v.2.1.1, (x8, (v.2.1.2.2.1, ((List.take (List.length x9) x9), ())))), (v.2.2.1, (v.2.2.2.1, v.2.2.2.2.2)))))
noncomputable def ls_910_3 : St → LTr := (lsum ff_910_3 hf_910_3 X_910_3 Prod.mk id st_910_3 (hd [] [] [1, 2, 5, 8, 9, 10, 11, 14, 15, 18] 0))
theorem lp_910_3 : LoopOk PR 0 (lpN f_910 3) ls_910_3 := loopT okO_910 mixed (L := LB_910_3) (d := 2) (bs := []) (ks := [1, 2, 5, 8, 9, 10, 11, 14, 15, 18]) (loopsL (l := []) (by kernel_rfl) trivial) (by kernel_rfl) (inS := Prod.mk) (outS := id) (fun _ _ => rfl) (inX := id) (outX := id) (fun _ => rfl) (fun v R kn ko => by kernel_rfl) (hd_wk [] [] [1, 2, 5, 8, 9, 10, 11, 14, 15, 18] 0)
abbrev ff_910_0 : Fm := (.us 1 (.pair (.si .i64) (.cst (.ref 0 1 0) (.us 2 (.cst (.ref 1 1 0) (.us 2 (.cst (.ref 2 1 0) (.pair (.i .u32) (.pair (.i .u32) (.pair (.i .i64) (.us 142 .unit)))))))))))
abbrev hf_910_0 : List BF := [(.list 1 y_91 true (.pair (.i .i64) (.pair (.i .i64) (.pair (.i .i64) (.pair (.si .u32) .unit))))), (.list 1 y_91 true (.pair (.i .i64) (.pair (.i .i64) (.pair (.i .i64) (.cst .nils .unit))))), (.list 1 y_91 true (.pair (.i .i64) (.pair (.i .i64) (.pair (.i .i64) (.pair (.own 3 1 0 1) .unit))))), (.ints 1 y_92 true .u32)]
abbrev X_910_0 : Xs := (.one (.exit 0) [2, 5, 8, 9, 10] (.us 2 (.cst (.ref 0 1 0) (.us 2 (.cst (.ref 1 1 0) (.us 2 (.cst (.ref 2 1 0) (.pair (.i .u32) (.pair (.i .u32) (.us 143 .unit))))))))) [(.list 1 y_91 true (.pair (.i .i64) (.pair (.i .i64) (.pair (.i .i64) (.pair (.si .u32) .unit))))), (.list 1 y_91 true (.pair (.i .i64) (.pair (.i .i64) (.pair (.i .i64) (.cst .nils .unit))))), (.list 1 y_91 true (.pair (.i .i64) (.pair (.i .i64) (.pair (.i .i64) (.pair (.own 3 1 0 1) .unit))))), (.ints 1 y_92 true .u32)])
abbrev S_910_0 : Type := T ff_910_0 × TH hf_910_0
abbrev E_910_0 : Type := TX X_910_0
noncomputable def LB_910_0 : Lps := (lpB 26 (.by_ ls_910_3) (lpB 19 (.by_ ls_910_2) (lpB 13 (.by_ ls_910_1) L0)))
noncomputable def st_910_0 : StepT S_910_0 E_910_0 := fun R v kn ko =>
 let x0 : Int := v.2.1.2.1
 let x1 : List Int := v.2.1.2.2.2.1
 let x2 : Int := v.1.2.2.2.1
 let x3 : List Int := v.1.1
 let x4 : Int := v.1.2.1
 let x5 : Int := v.1.2.2.1
 bif (decide (x2 < v.2.1.1)) then
 ((F_92a (v.2.1.1, (x0, (v.2.1.2.2.1, ((List.take (List.length x1) x1), ())))) (IntKind.wrap .i64 (x2 * x0)))).bind fun r6 =>
 ((lim st_910_1 (((List.take (List.length x3) x3), (x4, (x5, (x2, (r6, ((1:Int), ())))))), ((v.2.1.1, (x0, (v.2.1.2.2.1, ((List.take (List.length x1) x1), ())))), v.2.2)))).bind fun r7 =>
 let x8 : List Int := r7.1.1
 let x9 : Int := r7.2.1.2.1
 let x10 : Nat := (Int.toNat x9)
 let x11 : List Int := r7.2.1.2.2.2.1
 bif (decide (((0:Int) ≤ x9) ∧ (x9 ≤ (1073741824:Int)))) then
 ((lim st_910_2 (((List.take (List.length x8) x8), (r7.1.2.1, (r7.1.2.2.1, (r7.1.2.2.2.1, (r7.1.2.2.2.2.1, (x10, ((0:Int), ((0:Int), ())))))))), ((r7.2.1.1, (x9, (r7.2.1.2.2.1, ((List.take (List.length x11) x11), ())))), (r7.2.2.1, (r7.2.2.2.1, ((List.replicate x10 (0:Int)), r7.2.2.2.2))))))).bind fun r12 =>
 let x13 : Int := r12.2.1.2.1
 let x14 : List Int := r12.2.1.2.2.2.1
 let x15 : Int := r12.1.2.2.2.1
 let x16 : List Int := r12.1.1
 let x17 : Int := r12.1.2.2.2.2.2.2.1
 bif (decide (((0:Int) ≤ x15) ∧ (x15 < (((List.length x16) : Nat) : Int)))) then
 ((F_92a (r12.2.1.1, (x13, (r12.2.1.2.2.1, ((List.take (List.length x14) x14), ())))) (IntKind.wrap .i64 ((IntKind.wrap .i64 (x15 * x13)) + (List.getD x16 (Int.toNat x15) (0:Int)))))).bind fun r18 =>
 ((F_917 r18 r12.1.2.2.2.2.1)).bind fun r19 =>
 ((F_918 x17)).bind fun r20 =>
 ((F_917 r20 r19)).bind fun r21 =>
 ((F_937 r12.1.2.2.1 r21)).bind fun r22 =>
 ((lim st_910_3 (((List.take (List.length x16) x16), (r12.1.2.1, (r22, (x15, (r12.1.2.2.2.2.2.1, (x17, ((0:Int), ()))))))), ((r12.2.1.1, (x13, (r12.2.1.2.2.1, ((List.take (List.length x14) x14), ())))), r12.2.2)))).bind fun r23 =>
 let x24 : List Int := r23.1.1
 let x25 : List Int := r23.2.1.2.2.2.1
 (kn (((List.take (List.length x24) x24), (r23.1.2.1, (r23.1.2.2.1, ((IntKind.wrap .i64 (r23.1.2.2.2.1 + (1:Int))), ())))), ((r23.2.1.1, (r23.2.1.2.1, (r23.2.1.2.2.1, ((List.take (List.length x25) x25), ())))), r23.2.2)))
 else
 none
 else
 none
 else
 (ko ((x4, (x5, ())), ((v.2.1.1, (x0, (v.2.1.2.2.1, ((List.take (List.length x1) x1), ())))), v.2.2)))
noncomputable def ls_910_0 : St → LTr := (lsum ff_910_0 hf_910_0 X_910_0 Prod.mk id st_910_0 (hd [] [] [1, 2, 5, 8, 9, 10, 11] 0))
theorem lp_910_0 : LoopOk PR 0 (lpN f_910 0) ls_910_0 := loopT okO_910 mixed (L := LB_910_0) (d := 1) (bs := []) (ks := [1, 2, 5, 8, 9, 10, 11]) (loopsL (l := [((lpN f_910 1), ls_910_1), ((lpN f_910 2), ls_910_2), ((lpN f_910 3), ls_910_3)]) (by kernel_rfl) ⟨lp_910_1, ⟨lp_910_2, ⟨lp_910_3, trivial⟩⟩⟩) (by kernel_rfl) (inS := Prod.mk) (outS := id) (fun _ _ => rfl) (inX := id) (outX := id) (fun _ => rfl) (fun v R kn ko => by kernel_rfl) (hd_wk [] [] [1, 2, 5, 8, 9, 10, 11] 0)
noncomputable def L_910 : Lps := (lpB 9 (.by_ ls_910_0) (lpB 26 (.by_ ls_910_3) (lpB 19 (.by_ ls_910_2) (lpB 13 (.by_ ls_910_1) L0))))
noncomputable def F_910 (a0 : Int × Int × Int × List Int × Unit) (a1 : List Int) : Option (Int × (Int × Int × Int × List Int × Unit) × Int × Unit) :=
 let x0 : Int := a0.2.2.1
 let x1 : List Int := a0.2.2.2.1
 let x2 : Nat := (List.length x1)
 let x3 : List Int := (List.take (List.length a1) a1)
 let x4 : Nat := (Int.toNat ((x2 : Nat) : Int))
 ((F_934 (a0.1, (a0.2.1, (x0, ((List.take x2 x1), ())))) x3)).bind fun r5 =>
 bif (r5 != (0:Int)) then
 (some ((0:Int), (((0:Int), ((0:Int), ((0:Int), ([], ())))), (r5, ()))))
 else
 bif (decide (((0:Int) ≤ ((x2 : Nat) : Int)) ∧ (((x2 : Nat) : Int) ≤ (1073741824:Int)))) then
 ((F_916 a0.1)).bind fun r6 =>
 ((lim st_910_0 ((x3, (r6, ((0:Int), ((0:Int), ())))), ((a0.1, (a0.2.1, (x0, ((List.take x2 x1), ())))), (((0:Int), ((0:Int), ((0:Int), ()))), ((a0.1, (a0.2.1, ((2:Int), (x4, ())))), ((List.replicate x4 (0:Int)), ()))))))).bind fun r7 =>
 bif (r7.2.1.1 == (0:Int)) then
 (some ((0:Int), ((r7.2.2.2.1.1, (r7.2.2.2.1.2.1, (r7.2.2.2.1.2.2.1, ((List.take r7.2.2.2.1.2.2.2.1 (List.drop (0:Nat) r7.2.2.2.2.1)), ())))), ((0:Int), ()))))
 else
 ((F_915 r7.1.2.1 r7.1.1)).bind fun r8 =>
 (some (r8, ((r7.2.2.2.1.1, (r7.2.2.2.1.2.1, (r7.2.2.2.1.2.2.1, ((List.take r7.2.2.2.1.2.2.2.1 (List.drop (0:Nat) r7.2.2.2.2.1)), ())))), ((0:Int), ()))))
 else
 none
noncomputable def G_910 : T fa_910 → TH hN0 → Option (Int × (Int × Int × Int × List Int × Unit) × Int × Unit) := fun x y => F_910 x.1 x.2.1
noncomputable def c_910 : Orc := ent i_910 [] 0 (sp fa_910 hN0 fr_910 hN0 G_910 (outN fr_910))
theorem ok_910 : OrcOk PR c_910 := fnT okO_910 mixed p_910 (by kernel_rfl) (by kernel_rfl) (L := L_910) (kp := false) (by kernel_rfl) (inn := (innN fr_910)) (out := (outN fr_910)) (fun _ _ => rfl) (loopsL (l := [((lpN f_910 0), ls_910_0)]) (by kernel_rfl) ⟨lp_910_0, trivial⟩) (fun x y => by kernel_rfl)
noncomputable def O_914 : Orc := (orm c_91c (orm c_916 (orm c_92a (orm c_917 (orm c_93b (orm c_937 c_915))))))
theorem okO_914 : OrcOk PR O_914 := (orm_ok ok_91c (orm_ok ok_916 (orm_ok ok_92a (orm_ok ok_917 (orm_ok ok_93b (orm_ok ok_937 ok_915))))))
abbrev fa_914 : Fm := (.pair (.agg (.pair (.i .i64) (.pair (.i .i64) (.pair (.i .i64) (.pair (.si .u32) .unit))))) (.pair (.agg (.pair (.i .i64) (.pair (.i .i64) (.pair (.i .i64) (.pair (.si .u32) .unit))))) .unit))
abbrev fr_914 : Fm := (.tup (.pair (.i .u32) (.pair (.agg (.pair (.i .i64) (.pair (.i .i64) (.pair (.i .i64) (.pair (.si .u32) .unit))))) (.pair (.i .i64) .unit))))
abbrev ff_914_0 : Fm := (.us 2 (.cst (.ref 0 1 0) (.cst (.ref 1 1 0) (.us 1 (.cst (.ref 2 1 0) (.us 1 (.cst (.ref 3 1 0) (.pair (.i .u32) (.pair (.i .u32) (.pair (.i .i64) (.us 72 .unit)))))))))))
abbrev hf_914_0 : List BF := [(.list 1 y_91 true (.pair (.i .i64) (.pair (.i .i64) (.pair (.i .i64) (.pair (.si .u32) .unit))))), (.list 1 y_91 true (.pair (.i .i64) (.pair (.i .i64) (.pair (.i .i64) (.pair (.si .u32) .unit))))), (.list 1 y_91 true (.pair (.i .i64) (.pair (.i .i64) (.pair (.i .i64) (.cst .nils .unit))))), (.list 1 y_91 true (.pair (.i .i64) (.pair (.i .i64) (.pair (.i .i64) (.pair (.own 4 1 0 1) .unit))))), (.ints 1 y_92 true .u32)]
abbrev X_914_0 : Xs := (.one (.exit 0) [2, 5, 7, 8, 9] (.us 2 (.cst (.ref 0 1 0) (.us 2 (.cst (.ref 1 1 0) (.us 1 (.cst (.ref 2 1 0) (.pair (.i .u32) (.pair (.i .u32) (.us 73 .unit))))))))) [(.list 1 y_91 true (.pair (.i .i64) (.pair (.i .i64) (.pair (.i .i64) (.pair (.si .u32) .unit))))), (.list 1 y_91 true (.pair (.i .i64) (.pair (.i .i64) (.pair (.i .i64) (.cst .nils .unit))))), (.list 1 y_91 true (.pair (.i .i64) (.pair (.i .i64) (.pair (.i .i64) (.pair (.own 3 1 0 1) .unit))))), (.ints 1 y_92 true .u32)])
abbrev S_914_0 : Type := T ff_914_0 × TH hf_914_0
abbrev E_914_0 : Type := TX X_914_0
noncomputable def LB_914_0 : Lps := L0
noncomputable def st_914_0 : StepT S_914_0 E_914_0 := fun R v kn ko =>
 let x0 : List Int := v.2.1.2.2.2.1
 let x1 : Int := v.1.2.2.1
 let x2 : List Int := v.2.2.1.2.2.2.1
 let x3 : Int := v.1.2.1
 let x4 : Int := v.1.1
 bif (decide (x1 < (((List.length x0) : Nat) : Int))) then
 ((F_92a (v.2.1.1, (v.2.1.2.1, (v.2.1.2.2.1, ((List.take (List.length x0) x0), ())))) x1)).bind fun r5 =>
 ((F_92a (v.2.2.1.1, (v.2.2.1.2.1, (v.2.2.1.2.2.1, ((List.take (List.length x2) x2), ())))) x1)).bind fun r6 =>
 ((F_917 r5 r6)).bind fun r7 =>
 ((F_93b r7 r7 x3)).bind fun r8 =>
 ((F_937 r7 r7)).bind fun r9 =>
 ((F_915 r9 x4)).bind fun r10 =>
 bif (decide (((0:Int) ≤ x1) ∧ (x1 < ((v.2.2.2.2.1.2.2.2.1 : Nat) : Int)))) then
 bif (decide (((0:Nat) + ((Int.toNat x1) * (1:Nat))) < (List.length v.2.2.2.2.2.1))) then
 (kn ((x4, (r8, ((IntKind.wrap .i64 (x1 + (1:Int))), ()))), ((v.2.1.1, (v.2.1.2.1, (v.2.1.2.2.1, ((List.take (List.length x0) x0), ())))), ((v.2.2.1.1, (v.2.2.1.2.1, (v.2.2.1.2.2.1, ((List.take (List.length x2) x2), ())))), (v.2.2.2.1, (v.2.2.2.2.1, ((List.set v.2.2.2.2.2.1 ((0:Nat) + ((Int.toNat x1) * (1:Nat))) r10), ())))))))
 else
 none
 else
 none
 else
 (ko ((x4, (x3, ())), ((v.2.1.1, (v.2.1.2.1, (v.2.1.2.2.1, ((List.take (List.length x0) x0), ())))), v.2.2.2)))
noncomputable def ls_914_0 : St → LTr := (lsum ff_914_0 hf_914_0 X_914_0 Prod.mk id st_914_0 (hd [] [] [2, 3, 5, 7, 8, 9, 10] 0))
theorem lp_914_0 : LoopOk PR 0 (lpN f_914 0) ls_914_0 := loopT okO_914 mixed (L := LB_914_0) (d := 1) (bs := []) (ks := [2, 3, 5, 7, 8, 9, 10]) (loopsL (l := []) (by kernel_rfl) trivial) (by kernel_rfl) (inS := Prod.mk) (outS := id) (fun _ _ => rfl) (inX := id) (outX := id) (fun _ => rfl) (fun v R kn ko => by kernel_rfl) (hd_wk [] [] [2, 3, 5, 7, 8, 9, 10] 0)
noncomputable def L_914 : Lps := (lpB 8 (.by_ ls_914_0) L0)
noncomputable def F_914 (a0 : Int × Int × Int × List Int × Unit) (a1 : Int × Int × Int × List Int × Unit) : Option (Int × (Int × Int × Int × List Int × Unit) × Int × Unit) :=
 let x0 : Int := a0.2.2.1
 let x1 : List Int := a0.2.2.2.1
 let x2 : Nat := (List.length x1)
 let x3 : Int := a1.2.2.1
 let x4 : List Int := a1.2.2.2.1
 let x5 : Int := ((x2 : Nat) : Int)
 let x6 : Nat := (Int.toNat x5)
 ((F_91c (a0.1, (a0.2.1, (x0, ((List.take x2 x1), ())))))).bind fun r7 =>
 bif (!r7) then
 (some ((0:Int), (((0:Int), ((0:Int), ((0:Int), ([], ())))), ((21:Int), ()))))
 else
 ((F_91c (a1.1, (a1.2.1, (x3, ((List.take (List.length x4) x4), ())))))).bind fun r8 =>
 bif (!r8) then
 (some ((0:Int), (((0:Int), ((0:Int), ((0:Int), ([], ())))), ((21:Int), ()))))
 else
 bif (a0.1 != a1.1) then
 (some ((0:Int), (((0:Int), ((0:Int), ((0:Int), ([], ())))), ((21:Int), ()))))
 else
 bif (a0.2.1 != a1.2.1) then
 (some ((0:Int), (((0:Int), ((0:Int), ((0:Int), ([], ())))), ((21:Int), ()))))
 else
 bif (decide (((0:Int) ≤ x5) ∧ (x5 ≤ (1073741824:Int)))) then
 ((F_916 x5)).bind fun r9 =>
 ((lim st_914_0 ((r9, ((0:Int), ((0:Int), ()))), ((a0.1, (a0.2.1, (x0, ((List.take x2 x1), ())))), ((a1.1, (a1.2.1, (x3, ((List.take (List.length x4) x4), ())))), (((0:Int), ((0:Int), ((0:Int), ()))), ((a0.1, (a0.2.1, ((2:Int), (x6, ())))), ((List.replicate x6 (0:Int)), ())))))))).bind fun r10 =>
 bif (r10.2.1.1 == (0:Int)) then
 (some ((0:Int), ((r10.2.2.2.1.1, (r10.2.2.2.1.2.1, (r10.2.2.2.1.2.2.1, ((List.take r10.2.2.2.1.2.2.2.1 (List.drop (0:Nat) r10.2.2.2.2.1)), ())))), ((0:Int), ()))))
 else
 ((F_915 r10.1.2.1 r10.1.1)).bind fun r11 =>
 (some (r11, ((r10.2.2.2.1.1, (r10.2.2.2.1.2.1, (r10.2.2.2.1.2.2.1, ((List.take r10.2.2.2.1.2.2.2.1 (List.drop (0:Nat) r10.2.2.2.2.1)), ())))), ((0:Int), ()))))
 else
 none
noncomputable def G_914 : T fa_914 → TH hN0 → Option (Int × (Int × Int × Int × List Int × Unit) × Int × Unit) := fun x y => F_914 x.1 x.2.1
noncomputable def c_914 : Orc := ent i_914 [] 0 (sp fa_914 hN0 fr_914 hN0 G_914 (outN fr_914))
theorem ok_914 : OrcOk PR c_914 := fnT okO_914 mixed p_914 (by kernel_rfl) (by kernel_rfl) (L := L_914) (kp := false) (by kernel_rfl) (inn := (innN fr_914)) (out := (outN fr_914)) (fun _ _ => rfl) (loopsL (l := [((lpN f_914 0), ls_914_0)]) (by kernel_rfl) ⟨lp_914_0, trivial⟩) (fun x y => by kernel_rfl)
noncomputable def O_912 : Orc := (orm c_934 (orm c_92a c_9c))
theorem okO_912 : OrcOk PR O_912 := (orm_ok ok_934 (orm_ok ok_92a ok_9c))
abbrev fa_912 : Fm := (.pair (.agg (.pair (.i .i64) (.pair (.i .i64) (.pair (.i .i64) (.pair (.si .u32) .unit))))) (.pair (.si .i64) .unit))
abbrev fr_912 : Fm := (.tup (.pair (.i .i64) (.pair (.i .i64) .unit)))
abbrev ff_912_1 : Fm := (.us 1 (.pair (.si .i64) (.cst (.ref 0 1 0) (.us 4 (.pair (.i .i64) (.pair (.i .i64) (.pair (.i .u32) (.pair .b (.pair (.i .i64) (.us 67 .unit))))))))))
abbrev hf_912_1 : List BF := [(.list 1 y_91 true (.pair (.i .i64) (.pair (.i .i64) (.pair (.i .i64) (.pair (.si .u32) .unit)))))]
abbrev X_912_1 : Xs := (.one (.exit 2) [1, 2, 7, 8, 10] (.us 1 (.pair (.si .i64) (.cst (.ref 0 1 0) (.us 4 (.pair (.i .i64) (.pair (.i .i64) (.us 1 (.pair .b (.us 68 .unit))))))))) [(.list 1 y_91 true (.pair (.i .i64) (.pair (.i .i64) (.pair (.i .i64) (.pair (.si .u32) .unit)))))])
abbrev S_912_1 : Type := T ff_912_1 × TH hf_912_1
abbrev E_912_1 : Type := TX X_912_1
noncomputable def LB_912_1 : Lps := L0
noncomputable def st_912_1 : StepT S_912_1 E_912_1 := fun R v kn ko =>
 let x0 : Int := v.2.1.2.1
 let x1 : List Int := v.2.1.2.2.2.1
 let x2 : Int := v.1.2.2.1
 let x3 : Int := v.1.2.2.2.2.2.1
 let x4 : Int := v.1.2.2.2.1
 let x5 : List Int := v.1.1
 let x6 : List Int := (List.take (List.length x5) x5)
 let x7 : Int := v.1.2.1
 let x8 : Bool := v.1.2.2.2.2.1
 bif (decide (x3 < x0)) then
 ((F_92a (v.2.1.1, (x0, (v.2.1.2.2.1, ((List.take (List.length x1) x1), ())))) (IntKind.wrap .i64 ((IntKind.wrap .i64 (x2 * x0)) + x3)))).bind fun r9 =>
 bif (decide (((0:Int) ≤ x2) ∧ (x2 < (((List.length x5) : Nat) : Int)))) then
 bif (decide (x3 < (List.getD x5 (Int.toNat x2) (0:Int)))) then
 ((F_9c x4 r9)).bind fun r10 =>
 bif (!r10) then
 (kn ((x6, (x7, (x2, (x4, (false, ((IntKind.wrap .i64 (x3 + (1:Int))), ())))))), ((v.2.1.1, (x0, (v.2.1.2.2.1, ((List.take (List.length x1) x1), ())))), ())))
 else
 bif (decide (((0:Int) ≤ x2) ∧ (x2 < (((List.length x5) : Nat) : Int)))) then
 bif (decide (x3 > (List.getD x5 (Int.toNat x2) (0:Int)))) then
 ((F_9c r9 x4)).bind fun r11 =>
 (kn ((x6, (x7, (x2, (x4, ((bif r11 then false else x8), ((IntKind.wrap .i64 (x3 + (1:Int))), ())))))), ((v.2.1.1, (x0, (v.2.1.2.2.1, ((List.take (List.length x1) x1), ())))), ())))
 else
 (kn ((x6, (x7, (x2, (x4, (x8, ((IntKind.wrap .i64 (x3 + (1:Int))), ())))))), ((v.2.1.1, (x0, (v.2.1.2.2.1, ((List.take (List.length x1) x1), ())))), ())))
 else
 none
 else
 bif (decide (((0:Int) ≤ x2) ∧ (x2 < (((List.length x5) : Nat) : Int)))) then
 bif (decide (x3 > (List.getD x5 (Int.toNat x2) (0:Int)))) then
 ((F_9c r9 x4)).bind fun r12 =>
 (kn ((x6, (x7, (x2, (x4, ((bif r12 then false else x8), ((IntKind.wrap .i64 (x3 + (1:Int))), ())))))), ((v.2.1.1, (x0, (v.2.1.2.2.1, ((List.take (List.length x1) x1), ())))), ())))
 else
 (kn ((x6, (x7, (x2, (x4, (x8, ((IntKind.wrap .i64 (x3 + (1:Int))), ())))))), ((v.2.1.1, (x0, (v.2.1.2.2.1, ((List.take (List.length x1) x1), ())))), ())))
 else
 none
 else
 none
 else
 (ko ((x6, (x7, (x2, (x8, ())))), ((v.2.1.1, (x0, (v.2.1.2.2.1, ((List.take (List.length x1) x1), ())))), ())))
noncomputable def ls_912_1 : St → LTr := (lsum ff_912_1 hf_912_1 X_912_1 Prod.mk id st_912_1 (hd [] [] [1, 2, 7, 8, 9, 10, 11] 0))
theorem lp_912_1 : LoopOk PR 0 (lpN f_912 1) ls_912_1 := loopT okO_912 mixed (L := LB_912_1) (d := 2) (bs := []) (ks := [1, 2, 7, 8, 9, 10, 11]) (loopsL (l := []) (by kernel_rfl) trivial) (by kernel_rfl) (inS := Prod.mk) (outS := id) (fun _ _ => rfl) (inX := id) (outX := id) (fun _ => rfl) (fun v R kn ko => by kernel_rfl) (hd_wk [] [] [1, 2, 7, 8, 9, 10, 11] 0)
abbrev ff_912_0 : Fm := (.us 1 (.pair (.si .i64) (.cst (.ref 0 1 0) (.us 4 (.pair (.i .i64) (.pair (.i .i64) (.us 70 .unit)))))))
abbrev hf_912_0 : List BF := [(.list 1 y_91 true (.pair (.i .i64) (.pair (.i .i64) (.pair (.i .i64) (.pair (.si .u32) .unit)))))]
abbrev X_912_0 : Xs := (.one (.exit 0) [7] (.us 7 (.pair (.i .i64) (.us 71 .unit))) [])
abbrev S_912_0 : Type := T ff_912_0 × TH hf_912_0
abbrev E_912_0 : Type := TX X_912_0
noncomputable def LB_912_0 : Lps := (lpB 12 (.by_ ls_912_1) L0)
noncomputable def st_912_0 : StepT S_912_0 E_912_0 := fun R v kn ko =>
 let x0 : Int := v.2.1.2.1
 let x1 : List Int := v.2.1.2.2.2.1
 let x2 : Int := v.1.2.2.1
 let x3 : List Int := v.1.1
 let x4 : Int := v.1.2.1
 bif (decide (x2 < v.2.1.1)) then
 bif (decide (((0:Int) ≤ x2) ∧ (x2 < (((List.length x3) : Nat) : Int)))) then
 ((F_92a (v.2.1.1, (x0, (v.2.1.2.2.1, ((List.take (List.length x1) x1), ())))) (IntKind.wrap .i64 ((IntKind.wrap .i64 (x2 * x0)) + (List.getD x3 (Int.toNat x2) (0:Int)))))).bind fun r5 =>
 ((lim st_912_1 (((List.take (List.length x3) x3), (x4, (x2, (r5, (true, ((0:Int), ())))))), ((v.2.1.1, (x0, (v.2.1.2.2.1, ((List.take (List.length x1) x1), ())))), ())))).bind fun r6 =>
 let x7 : List Int := r6.1.1
 let x8 : Int := r6.1.2.1
 let x9 : List Int := r6.2.1.2.2.2.1
 (kn (((List.take (List.length x7) x7), ((bif r6.1.2.2.2.1 then (IntKind.wrap .i64 (x8 + (1:Int))) else x8), ((IntKind.wrap .i64 (r6.1.2.2.1 + (1:Int))), ()))), ((r6.2.1.1, (r6.2.1.2.1, (r6.2.1.2.2.1, ((List.take (List.length x9) x9), ())))), ())))
 else
 none
 else
 (ko ((x4, ()), ()))
noncomputable def ls_912_0 : St → LTr := (lsum ff_912_0 hf_912_0 X_912_0 Prod.mk id st_912_0 (hd [] [] [1, 2, 7, 8] 0))
theorem lp_912_0 : LoopOk PR 0 (lpN f_912 0) ls_912_0 := loopT okO_912 mixed (L := LB_912_0) (d := 1) (bs := []) (ks := [1, 2, 7, 8]) (loopsL (l := [((lpN f_912 1), ls_912_1)]) (by kernel_rfl) ⟨lp_912_1, trivial⟩) (by kernel_rfl) (inS := Prod.mk) (outS := id) (fun _ _ => rfl) (inX := id) (outX := id) (fun _ => rfl) (fun v R kn ko => by kernel_rfl) (hd_wk [] [] [1, 2, 7, 8] 0)
noncomputable def L_912 : Lps := (lpB 7 (.by_ ls_912_0) (lpB 12 (.by_ ls_912_1) L0))
noncomputable def F_912 (a0 : Int × Int × Int × List Int × Unit) (a1 : List Int) : Option (Int × Int × Unit) :=
 let x0 : Int := a0.2.2.1
 let x1 : List Int := a0.2.2.2.1
 let x2 : List Int := (List.take (List.length a1) a1)
 ((F_934 (a0.1, (a0.2.1, (x0, ((List.take (List.length x1) x1), ())))) x2)).bind fun r3 =>
 bif (r3 != (0:Int)) then
 (some ((0:Int), (r3, ())))
 else
 ((lim st_912_0 ((x2, ((0:Int), ((0:Int), ()))), ((a0.1, (a0.2.1, (x0, ((List.take (List.length x1) x1), ())))), ())))).bind fun r4 =>
 (some (r4.1.1, ((0:Int), ())))
noncomputable def G_912 : T fa_912 → TH hN0 → Option (Int × Int × Unit) := fun x y => F_912 x.1 x.2.1
noncomputable def c_912 : Orc := ent i_912 [] 0 (sp fa_912 hN0 fr_912 hN0 G_912 (outN fr_912))
theorem ok_912 : OrcOk PR c_912 := fnT okO_912 mixed p_912 (by kernel_rfl) (by kernel_rfl) (L := L_912) (kp := false) (by kernel_rfl) (inn := (innN fr_912)) (out := (outN fr_912)) (fun _ _ => rfl) (loopsL (l := [((lpN f_912 0), ls_912_0)]) (by kernel_rfl) ⟨lp_912_0, trivial⟩) (fun x y => by kernel_rfl)
def yOk (c y : Int) : Bool := decide (0 ≤ y) && decide (y < c)
def labE (t : TsT) (y : List Int) : Int :=
  if rightS t = true ∧ t.1 = (y.length : Int) ∧ ¬ (t.1 > 0 ∧ t.2.1 = 0) then (if y.all (yOk t.2.1) = true then 0 else 22) else 21
theorem lab_loop (a b f : Int) (W y : List Int) (hn : y.length < 4611686018427387904) :
    lim st_92e_0 ((y, ((y.length : Int), ((0 : Int), ()))), (((0:Int), ((0:Int), ((0:Int), ()))), ((a, (b, (f, (W, ())))), ()))) =
      some (if y.all (yOk b) = true then Sum.inl ((), (((0:Int), ((0:Int), ((0:Int), ()))), ((a, (b, (f, (W, ())))), ()))) else Sum.inr (((22:Int), ()), (((0:Int), ((0:Int), ((0:Int), ()))), ()))) := by
  have stp : ∀ i, i < y.length → yOk b (y.getD i 0) = true → ∀ R kn ko, st_92e_0 R ((y, ((y.length : Int), ((i : Int), ()))), (((0:Int), ((0:Int), ((0:Int), ()))), ((a, (b, (f, (W, ())))), ()))) kn ko
      = kn ((y, ((y.length : Int), (((i + 1 : Nat) : Int), ()))), (((0:Int), ((0:Int), ((0:Int), ()))), ((a, (b, (f, (W, ())))), ()))) := by
    intro i hi h R kn ko
    unfold yOk at h
    simp only [Bool.and_eq_true, decide_eq_true_eq] at h
    unfold st_92e_0
    dsimp only
    simp only [List.take_length, bif_dec, Int.toNat_natCast]
    rw [if_pos (show (i : Int) < (y.length : Int) by omega), if_pos (show 0 ≤ (i : Int) ∧ (i : Int) < (y.length : Int) by omega), if_neg (show ¬ y.getD i 0 < 0 by omega), if_neg (show ¬ y.getD i 0 ≥ b by omega), wi64 (by omega), show ((i + 1 : Nat) : Int) = (i : Int) + 1 by omega]
  rcases first_or (fun i => !(yOk b (y.getD i 0))) y.length with h | ⟨k, hk, hb, hx⟩
  · have ha : y.all (yOk b) = true := all_get.2 fun i hi => by have := h i hi; simpa using this
    rw [if_pos ha]
    exact lim_seq (st := st_92e_0) (fun i => ((y, ((y.length : Int), ((i : Int), ()))), (((0:Int), ((0:Int), ((0:Int), ()))), ((a, (b, (f, (W, ())))), ())))) y.length
      (fun i hi => stp i hi (by have := h i hi; simpa using this))
      (fun R kn ko => by
        unfold st_92e_0
        dsimp only
        simp only [List.take_length, bif_dec]
        rw [if_neg (show ¬ (y.length : Int) < (y.length : Int) by omega)])
  · have ha : ¬ y.all (yOk b) = true := fun q => by have := all_get.1 q k hk; rw [this] at hx; cases hx
    rw [if_neg ha]
    exact lim_seq (st := st_92e_0) (fun i => ((y, ((y.length : Int), ((i : Int), ()))), (((0:Int), ((0:Int), ((0:Int), ()))), ((a, (b, (f, (W, ())))), ())))) k
      (fun i hi => stp i (by omega) (by have := hb i hi; simpa using this))
      (fun R kn ko => by
        have hx' : ¬ (0 ≤ y.getD k 0 ∧ y.getD k 0 < b) := by
          intro q; have : yOk b (y.getD k 0) = true := by unfold yOk; rw [decide_eq_true q.1, decide_eq_true q.2]; rfl
          simp only [this] at hx; cases hx
        unfold st_92e_0
        dsimp only
        simp only [List.take_length, bif_dec, Int.toNat_natCast]
        rw [if_pos (show (k : Int) < (y.length : Int) by omega), if_pos (show 0 ≤ (k : Int) ∧ (k : Int) < (y.length : Int) by omega)]
        by_cases c : y.getD k 0 < 0
        · rw [if_pos c]
        · rw [if_neg c, if_pos (show y.getD k 0 ≥ b by omega)])
theorem labr_loop (a b f : Int) (W y : List Int) (hn : y.length < 4611686018427387904) :
    lim st_934_0 ((y, ((0 : Int), ())), ((a, (b, (f, (W, ())))), ())) = some (if y.all (yOk b) = true then Sum.inl ((), ()) else Sum.inr (((22:Int), ()), ())) := by
  have stp : ∀ i, i < y.length → yOk b (y.getD i 0) = true → ∀ R kn ko, st_934_0 R ((y, ((i : Int), ())), ((a, (b, (f, (W, ())))), ())) kn ko
      = kn ((y, (((i + 1 : Nat) : Int), ())), ((a, (b, (f, (W, ())))), ())) := by
    intro i hi h R kn ko
    unfold yOk at h
    simp only [Bool.and_eq_true, decide_eq_true_eq] at h
    unfold st_934_0
    dsimp only
    simp only [List.take_length, bif_dec, Int.toNat_natCast]
    rw [if_pos (show (i : Int) < (y.length : Int) by omega), if_pos (show 0 ≤ (i : Int) ∧ (i : Int) < (y.length : Int) by omega), if_neg (show ¬ y.getD i 0 < 0 by omega), if_neg (show ¬ y.getD i 0 ≥ b by omega), wi64 (by omega), show ((i + 1 : Nat) : Int) = (i : Int) + 1 by omega]
    try rw [if_pos (show 0 ≤ (i : Int) ∧ (i : Int) < (y.length : Int) by omega)]
  rcases first_or (fun i => !(yOk b (y.getD i 0))) y.length with h | ⟨k, hk, hb, hx⟩
  · have ha : y.all (yOk b) = true := all_get.2 fun i hi => by have := h i hi; simpa using this
    rw [if_pos ha]
    exact lim_seq (st := st_934_0) (fun i => ((y, ((i : Int), ())), ((a, (b, (f, (W, ())))), ()))) y.length
      (fun i hi => stp i hi (by have := h i hi; simpa using this))
      (fun R kn ko => by
        unfold st_934_0
        dsimp only
        simp only [List.take_length, bif_dec]
        rw [if_neg (show ¬ (y.length : Int) < (y.length : Int) by omega)])
  · have ha : ¬ y.all (yOk b) = true := fun q => by have := all_get.1 q k hk; rw [this] at hx; cases hx
    rw [if_neg ha]
    exact lim_seq (st := st_934_0) (fun i => ((y, ((i : Int), ())), ((a, (b, (f, (W, ())))), ()))) k
      (fun i hi => stp i (by omega) (by have := hb i hi; simpa using this))
      (fun R kn ko => by
        have hx' : ¬ (0 ≤ y.getD k 0 ∧ y.getD k 0 < b) := by
          intro q; have : yOk b (y.getD k 0) = true := by unfold yOk; rw [decide_eq_true q.1, decide_eq_true q.2]; rfl
          simp only [this] at hx; cases hx
        unfold st_934_0
        dsimp only
        simp only [List.take_length, bif_dec, Int.toNat_natCast]
        rw [if_pos (show (k : Int) < (y.length : Int) by omega), if_pos (show 0 ≤ (k : Int) ∧ (k : Int) < (y.length : Int) by omega)]
        by_cases c : y.getD k 0 < 0
        · rw [if_pos c]
        · rw [if_neg c]
          try rw [if_pos (show 0 ≤ (k : Int) ∧ (k : Int) < (y.length : Int) by omega)]
          rw [if_pos (show y.getD k 0 ≥ b by omega)])
theorem labE_bad {t : TsT} {y : List Int} (h : ¬ (rightS t = true ∧ t.1 = (y.length : Int) ∧ ¬ (t.1 > 0 ∧ t.2.1 = 0))) : labE t y = 21 := by unfold labE; rw [if_neg h]
theorem labE_ok {t : TsT} {y : List Int} (h : rightS t = true ∧ t.1 = (y.length : Int) ∧ ¬ (t.1 > 0 ∧ t.2.1 = 0)) : labE t y = if y.all (yOk t.2.1) = true then 0 else 22 := by unfold labE; rw [if_pos h]
theorem labelled_eq (t : TsT) (y : List Int) (hl : wl t.2.2.2.1) (hn : t.2.2.2.1.length ≤ 1073741824) (hy : y.length < 4611686018427387904) :
    F_92e t y = some (if labE t y = 0 then ((t.1, t.2.1, 2, wideL t, ()), 0, ()) else (noT, labE t y, ())) := by
  have hw := wide_eq t hl hn
  have B := fun h => @labE_bad t y h
  have O := fun h => @labE_ok t y h
  obtain ⟨a, b, f, A, ⟨⟩⟩ := t
  simp only at hl hn hw B O
  have L := lab_loop a b 2 (wideL (a, b, f, A, ())) y hy
  unfold F_92e
  dsimp only
  simp only [List.take_length]
  rw [show F_939 (a, (b, (f, (A, ())))) = _ from hw]
  cases hr : rightS (a, b, f, A, ())
  · rw [B (by rw [hr]; simp)]; rfl
  · rw [hr] at B O
    simp only [Option.bind_some, if_true, bif_ne, List.take_length, bif_dec, bif_eq]
    by_cases h1 : a = (y.length : Int)
    · rw [if_pos h1, L]
      by_cases h2 : a > 0
      · rw [if_pos h2]
        by_cases h3 : b = 0
        · rw [if_pos h3, B (by rintro ⟨_, _, q⟩; exact q ⟨h2, h3⟩)]; rfl
        · rw [if_neg h3, O ⟨rfl, h1, fun q => h3 q.2⟩]
          cases y.all (yOk b) <;> simp [els]
      · rw [if_neg h2, O ⟨rfl, h1, fun q => h2 q.1⟩]
        cases y.all (yOk b) <;> simp [els]
    · rw [if_neg h1, B (fun q => h1 q.2.1)]; rfl
theorem labels_eq (t : TsT) (y : List Int) (hl : wl t.2.2.2.1) (hn : t.2.2.2.1.length ≤ 1073741824) (hy : y.length < 4611686018427387904) :
    F_934 t y = some (labE t y) := by
  have hw := rightr_eq t hl (by omega)
  have B := fun h => @labE_bad t y h
  have O := fun h => @labE_ok t y h
  obtain ⟨a, b, f, A, ⟨⟩⟩ := t
  simp only at hl hn hw B O
  have L := labr_loop a b f A y hy
  unfold F_934
  dsimp only
  simp only [List.take_length]
  rw [show F_91c (a, (b, (f, (A, ())))) = _ from hw]
  cases hr : rightS (a, b, f, A, ())
  · rw [B (by rw [hr]; simp)]; rfl
  · rw [hr] at B O
    simp only [Option.bind_some, Bool.not_true, cond_false, bif_ne, bif_dec, bif_eq]
    by_cases h1 : a = (y.length : Int)
    · rw [if_pos h1, L]
      by_cases h2 : a > 0
      · rw [if_pos h2]
        by_cases h3 : b = 0
        · rw [if_pos h3, B (by rintro ⟨_, _, q⟩; exact q ⟨h2, h3⟩)]
        · rw [if_neg h3, O ⟨rfl, h1, fun q => h3 q.2⟩]
          cases y.all (yOk b) <;> simp [els]
      · rw [if_neg h2, O ⟨rfl, h1, fun q => h2 q.1⟩]
        cases y.all (yOk b) <;> simp [els]
    · rw [if_neg h1, B (fun q => h1 q.2.1)]
def mseA (X Z : Nat → Int) : Nat → Int
  | 0 => 0
  | n + 1 => fma (subf (X n) (Z n)) (subf (X n) (Z n)) (mseA X Z n)
theorem mseA_w (X Z : Nat → Int) : ∀ n, w32 (mseA X Z n)
  | 0 => w0
  | n + 1 => fma_w _ _ _
def mseH (X Z : Nat → Int) (m : Int) (i : Nat) : Int := divf (addf (subf (X i) (Z i)) (subf (X i) (Z i))) m
def mseT (t u : TsT) : Int × TsT × Int × Unit :=
  if rightS t && rightS u && (decide (t.1 = u.1) && decide (t.2.1 = u.2.1)) then
    (if t.1 = 0 then 0 else divf (mseA (gl (wideL t)) (gl (wideL u)) t.2.2.2.1.length) (intf t.2.2.2.1.length), (t.1, t.2.1, 2, (List.range t.2.2.2.1.length).map (mseH (gl (wideL t)) (gl (wideL u)) (intf t.2.2.2.1.length)), ()), 0, ())
  else (0, noT, 21, ())
theorem range_app (h : Nat → Int) (i : Nat) : (List.range i).map h ++ [h i] = (List.range (i + 1)).map h := by
  rw [List.range_succ, List.map_append]; rfl
theorem mse_eq (t u : TsT) (hl : wl t.2.2.2.1) (hn : t.2.2.2.1.length ≤ 1073741824) (ul : wl u.2.2.2.1) (un : u.2.2.2.1.length ≤ 1073741824) : F_913 t u = some (mseT t u) := by
  have r1 := wide_eq t hl hn
  have r2 := wide_eq u ul un
  unfold mseT
  obtain ⟨a1, a2, a3, A, ⟨⟩⟩ := t
  obtain ⟨b1, b2, b3, B, ⟨⟩⟩ := u
  simp only at hl hn ul un
  unfold F_913
  dsimp only
  simp only [List.take_length]
  rw [show F_939 (a1, (a2, (a3, (A, ())))) = _ from r1]
  simp only [Option.bind_some]
  rw [show F_939 (b1, (b2, (b3, (B, ())))) = _ from r2]
  simp only [Option.bind_some]
  cases c1 : rightS (a1, a2, a3, A, ())
  · simp [bif_ne]
  cases c2 : rightS (b1, b2, b3, B, ())
  · simp [bif_ne]
  simp only [if_true, bif_ne, Bool.true_and]
  by_cases h1 : a1 = b1
  · by_cases h2 : a2 = b2
    · subst h1; subst h2
      obtain ⟨R, C, rfl, rfl, hR, hC, lA, _, _⟩ := right_nat c1
      obtain ⟨R', C', e1, e2, _, _, lB, _, _⟩ := right_nat c2
      obtain rfl : R = R' := by omega
      obtain rfl : C = C' := by omega
      have hb := rc_bd hR hC
      rw [if_pos rfl, if_pos rfl, decide_eq_true rfl, decide_eq_true rfl]
      have eRC : (R : Int) * (C : Int) = ((R * C : Nat) : Int) := by simp
      rw [eRC, wi64 (n := ((R * C : Nat) : Int)) (by omega), ← lA, fsint_eq (by omega)]
      simp only [Option.bind_some, List.take_length, Bool.and_self, if_true]
      have lX := wideL_len ((R : Int), (C : Int), a3, A, ())
      have lZ := wideL_len ((R : Int), (C : Int), b3, B, ())
      have wX := wideL_wl ((R : Int), (C : Int), a3, A, ())
      have wZ := wideL_wl ((R : Int), (C : Int), b3, B, ())
      simp only at lX lZ
      generalize wideL ((R : Int), (C : Int), a3, A, ()) = X at *
      generalize wideL ((R : Int), (C : Int), b3, B, ()) = Z at *
      have wm := intf_w (A.length : Int)
      generalize intf (A.length : Int) = m at *
      have := lim_seq (st := st_913_0) (fun i => ((m, (mseA (gl X) (gl Z) i, (X, ((X.length : Int), ((i : Int), ()))))), (((0:Int), ((0:Int), ((0:Int), ()))), (((R : Int), ((C : Int), ((2:Int), (X, ())))), (((R : Int), ((C : Int), ((2:Int), (Z, ())))), (((R : Int), ((C : Int), ((2:Int), (i, ())))), ((List.range i).map (mseH (gl X) (gl Z) m), ())))))))
        (b := ((m, (mseA (gl X) (gl Z) X.length, ())), (((0:Int), ((0:Int), ((0:Int), ()))), (((R : Int), ((C : Int), ((2:Int), (X, ())))), (((R : Int), ((C : Int), ((2:Int), (X.length, ())))), ((List.range X.length).map (mseH (gl X) (gl Z) m), ())))))) X.length
        (fun i hi Q kn ko => by
          have e1 := fsub_eq (wl_get wX i) (wl_get wZ i)
          have wd : w32 (subf (X.getD i 0) (Z.getD i 0)) := subf_w _ _
          have hl2 : List.take i ((List.range i).map (mseH (gl X) (gl Z) m)) = (List.range i).map (mseH (gl X) (gl Z) m) := List.take_of_length_le (by simp)
          unfold st_913_0
          dsimp only
          simp only [List.take_length, bif_dec, Int.toNat_natCast, hl2]
          rw [if_pos (show (i : Int) < (X.length : Int) by omega), if_pos (show 0 ≤ (i : Int) ∧ (i : Int) < (X.length : Int) by omega), if_pos (show 0 ≤ (i : Int) ∧ (i : Int) < (Z.length : Int) by omega)]
          rw [show F_927 (X.getD i 0) (Z.getD i 0) = _ from e1]
          simp only [Option.bind_some]
          rw [ffma_eq wd wd (mseA_w _ _ i)]
          simp only [Option.bind_some]
          rw [fadd_eq wd wd]
          simp only [Option.bind_some]
          rw [fdiv_eq (addf_w _ _) wm]
          simp only [Option.bind_some]
          rw [if_pos (show i + 1 ≤ 1073741824 by omega), wi64 (by omega), show ((i + 1 : Nat) : Int) = (i : Int) + 1 by omega, ← range_app]
          rfl)
        (fun Q kn ko => by
          unfold st_913_0
          dsimp only
          simp only [List.take_length, bif_dec]
          rw [if_neg (show ¬ (X.length : Int) < (X.length : Int) by omega)])
      have e : lim st_913_0 ((m, ((0 : Int), (X, ((X.length : Int), ((0 : Int), ()))))), (((0:Int), ((0:Int), ((0:Int), ()))), (((R : Int), ((C : Int), ((2:Int), (X, ())))), (((R : Int), ((C : Int), ((2:Int), (Z, ())))), (((R : Int), ((C : Int), ((2:Int), ((0:Nat), ())))), ([], ())))))) = _ := this
      rw [e]
      simp only [Option.bind_some, List.drop_zero]
      have hl3 : List.take X.length ((List.range X.length).map (mseH (gl X) (gl Z) m)) = (List.range X.length).map (mseH (gl X) (gl Z) m) := List.take_of_length_le (by simp)
      rw [hl3, lX]
      unfold F_933
      rw [bif_eq]
      by_cases h0 : (R : Int) = 0
      · rw [if_pos h0, if_pos h0]; rfl
      · rw [if_neg h0, if_neg h0, fdiv_eq (mseA_w _ _ _) wm]; rfl
    · rw [if_pos h1, if_neg h2, decide_eq_false h2]; simp
  · rw [if_neg h1, decide_eq_false h1]; simp
theorem mser_eq (t u : TsT) (hl : wl t.2.2.2.1) (hn : t.2.2.2.1.length ≤ 1073741824) (ul : wl u.2.2.2.1) (un : u.2.2.2.1.length ≤ 1073741824) : F_914 t u = some (mseT t u) := by
  have r1 := rightr_eq t hl (by omega)
  have r2 := rightr_eq u ul (by omega)
  unfold mseT
  obtain ⟨a1, a2, a3, A, ⟨⟩⟩ := t
  obtain ⟨b1, b2, b3, B, ⟨⟩⟩ := u
  simp only at hl hn ul un
  unfold F_914
  dsimp only
  simp only [List.take_length, Int.toNat_natCast]
  rw [show F_91c (a1, (a2, (a3, (A, ())))) = _ from r1]
  simp only [Option.bind_some]
  cases c1 : rightS (a1, a2, a3, A, ())
  · rfl
  rw [show F_91c (b1, (b2, (b3, (B, ())))) = _ from r2]
  simp only [Option.bind_some]
  cases c2 : rightS (b1, b2, b3, B, ())
  · rfl
  simp only [Bool.not_true, cond_false, bif_ne, Bool.true_and]
  by_cases h1 : a1 = b1
  · by_cases h2 : a2 = b2
    · subst h1; subst h2
      obtain ⟨R, C, rfl, rfl, hR, hC, lA, _, _⟩ := right_nat c1
      obtain ⟨R', C', e1, e2, _, _, lB, _, _⟩ := right_nat c2
      obtain rfl : R = R' := by omega
      obtain rfl : C = C' := by omega
      have hb := rc_bd hR hC
      rw [if_pos rfl, if_pos rfl, decide_eq_true rfl, decide_eq_true rfl, bif_dec, if_pos (by omega), rint_eq (by omega)]
      simp only [Option.bind_some, Bool.and_self, if_true]
      have wX := wideL_wl ((R : Int), (C : Int), a3, A, ())
      have wZ := wideL_wl ((R : Int), (C : Int), b3, B, ())
      have eX : ∀ i, i < A.length → F_92a ((R : Int), (C : Int), a3, A, ()) (i : Int) = some (gl (wideL ((R : Int), (C : Int), a3, A, ())) i) := fun i hi => wider_eq ((R : Int), (C : Int), a3, A, ()) hl hi
      have eZ : ∀ i, i < B.length → F_92a ((R : Int), (C : Int), b3, B, ()) (i : Int) = some (gl (wideL ((R : Int), (C : Int), b3, B, ())) i) := fun i hi => wider_eq ((R : Int), (C : Int), b3, B, ()) ul hi
      generalize wideL ((R : Int), (C : Int), a3, A, ()) = X at *
      generalize wideL ((R : Int), (C : Int), b3, B, ()) = Z at *
      have wm := intf_w (A.length : Int)
      generalize intf (A.length : Int) = m at *
      have := lim_seq (st := st_914_0) (fun i => ((m, (mseA (gl X) (gl Z) i, ((i : Int), ()))), (((R : Int), ((C : Int), (a3, (A, ())))), (((R : Int), ((C : Int), (b3, (B, ())))), (((0:Int), ((0:Int), ((0:Int), ()))), (((R : Int), ((C : Int), ((2:Int), (A.length, ())))), (lay1 (mseH (gl X) (gl Z) m) A.length i, ())))))))
        (b := ((m, (mseA (gl X) (gl Z) A.length, ())), (((R : Int), ((C : Int), (a3, (A, ())))), (((0:Int), ((0:Int), ((0:Int), ()))), (((R : Int), ((C : Int), ((2:Int), (A.length, ())))), (lay1 (mseH (gl X) (gl Z) m) A.length A.length, ())))))) A.length
        (fun i hi Q kn ko => by
          have hll := lay1_len (mseH (gl X) (gl Z) m) (Nat.le_of_lt hi)
          have hls := lay1_set (mseH (gl X) (gl Z) m) hi
          have wd : w32 (subf (gl X i) (gl Z i)) := subf_w _ _
          unfold st_914_0
          dsimp only
          simp only [List.take_length, bif_dec, hll, Int.toNat_natCast]
          rw [if_pos (show (i : Int) < (A.length : Int) by omega)]
          rw [show F_92a ((R : Int), ((C : Int), (a3, (A, ())))) (i : Int) = _ from eX i hi]
          simp only [Option.bind_some]
          rw [show F_92a ((R : Int), ((C : Int), (b3, (B, ())))) (i : Int) = _ from eZ i (by omega)]
          simp only [Option.bind_some]
          rw [rsub_eq (wl_get wX i) (wl_get wZ i)]
          simp only [Option.bind_some]
          rw [rfma_eq wd wd (mseA_w _ _ i)]
          simp only [Option.bind_some]
          rw [radd_eq wd wd]
          simp only [Option.bind_some]
          rw [rdiv_eq (addf_w _ _) wm]
          simp only [Option.bind_some]
          rw [if_pos (show 0 ≤ (i : Int) ∧ (i : Int) < (A.length : Int) by omega), if_pos (show 0 + i * 1 < A.length by omega), show 0 + i * 1 = i by omega, wi64 (by omega), show ((i + 1 : Nat) : Int) = (i : Int) + 1 by omega]
          rw [show (lay1 (mseH (gl X) (gl Z) m) A.length i).set i (divf (addf (subf (gl X i) (gl Z i)) (subf (gl X i) (gl Z i))) m) = _ from hls]
          rfl)
        (fun Q kn ko => by
          unfold st_914_0
          dsimp only
          simp only [List.take_length, bif_dec]
          rw [if_neg (show ¬ (A.length : Int) < (A.length : Int) by omega)])
      rw [lay1_zero] at this
      have e : lim st_914_0 ((m, ((0 : Int), ((0 : Int), ()))), (((R : Int), ((C : Int), (a3, (A, ())))), (((R : Int), ((C : Int), (b3, (B, ())))), (((0:Int), ((0:Int), ((0:Int), ()))), (((R : Int), ((C : Int), ((2:Int), (A.length, ())))), (List.replicate A.length 0, ())))))) = _ := this
      rw [e]
      simp only [Option.bind_some, List.drop_zero, lay1_all]
      rw [List.take_of_length_le (by simp), bif_eq]
      by_cases h0 : (R : Int) = 0
      · rw [if_pos h0, if_pos h0]
      · rw [if_neg h0, if_neg h0, rdiv_eq (mseA_w _ _ _) wm]; rfl
    · rw [if_pos h1, if_neg h2, decide_eq_false h2]; simp
  · rw [if_neg h1, decide_eq_false h1]; simp
theorem pick_eq (f : Int) {a b : Int} (ha : w32 a) (hb : w32 b) (t : Bool) : F_987 f a b t = some (pck f a b t) := by
  unfold F_987 pck
  rw [isnan_eq f ha, isnan_eq f hb, mask_eq, nan_w]
  simp only [Option.bind_some, and_TT f ha.1 ha.2, and_TT f hb.1 hb.2]
  cases nan f a <;> cases nan f b <;> cases t <;> rfl
theorem pickr_eq (f : Int) {a b : Int} (ha : w32 a) (hb : w32 b) (t : Bool) : F_965 f a b t = some (pck f a b t) := by
  unfold F_965 pck
  rw [nans_eq f [a] (by simp) (by simpa using ha), nans_eq f [b] (by simp) (by simpa using hb), maskr_eq, nanr_w]
  simp only [Option.bind_some, and_TT f ha.1 ha.2, and_TT f hb.1 hb.2, List.any_cons, List.any_nil, Bool.or_false]
  cases nan f a <;> cases nan f b <;> cases t <;> rfl
theorem ky_inj (f : Int) {a b : Int} (ha : w32 a) (hb : w32 b) (h : ky f a = ky f b) : a % (2 * TT f) = b % (2 * TT f) := by
  unfold ky at h
  have sa := sg_iff f a ha.1
  have sb := sg_iff f b hb.1
  have ba := mod_bd f a
  have bb := mod_bd f b
  have : 0 ≤ a % TT f ∧ 0 ≤ b % TT f := by rcases TT_cs f with e | e <;> rw [e] <;> omega
  cases ea : sg f a <;> cases eb : sg f b <;> rw [ea, eb] at h <;> simp [ea, eb] at sa sb h <;> omega
theorem max_eq' (f : Int) {a b : Int} (ha : w32 a) (hb : w32 b) : F_95d f a b = some (pck f a b (decide (ky f a > ky f b))) := by
  unfold F_95d; rw [key_eq f ha, key_eq f hb]; simp only [Option.bind_some, pick_eq f ha hb]
theorem maxr_eq (f : Int) {a b : Int} (ha : w32 a) (hb : w32 b) : F_935 f a b = some (pck f a b (decide (ky f a > ky f b))) := by
  unfold F_935; rw [keyr_eq f ha, keyr_eq f hb]; simp only [Option.bind_some, pickr_eq f ha hb]
  by_cases h : ky f a = ky f b
  · have := ky_inj f ha hb h
    unfold pck; rw [this]; simp
  · have : (ky f a ≥ ky f b) ↔ (ky f a > ky f b) := by omega
    rw [decide_eq_decide.2 this]
end Go.Proofs.YtfpjkmgfkaoapaaGreat.VI

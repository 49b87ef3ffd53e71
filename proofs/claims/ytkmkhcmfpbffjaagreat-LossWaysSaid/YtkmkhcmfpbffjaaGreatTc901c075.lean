import Derived.Test.YtkmkhcmfpbffjaaGreatT0fe78634
import Derived.Test.YtkmkhcmfpbffjaaGreatRows
import Derived.WalkKit
import Derived.ProofKit
namespace Go.Proofs.YtkmkhcmfpbffjaaGreat.VI
set_option linter.unusedVariables false
set_option linter.unusedSimpArgs false
set_option maxRecDepth 100000
set_option maxHeartbeats 4000000
def mildP (f v : Int) : Prop := nan f v = false ∧ inff f v = false ∧ (v % TT f = 0 → v = 0)
theorem mild_p {k : Int} (f : Int) (h : w32 k) : ∃ v, F_96 f k = some v ∧ wf f v ∧ mildP f v := by
  have fb := fmt_bd f
  unfold F_96
  rw [bif_eq]
  by_cases h0 : Int.tmod k 7 = 0
  · rw [if_pos h0]; refine ⟨0, rfl, ⟨by omega, by omega⟩, ?_⟩
    have ib := IN_bd f
    refine ⟨?_, ?_, fun _ => rfl⟩
    · unfold nan; rw [Int.zero_emod]; exact decide_eq_false (by omega)
    · unfold inff; rw [Int.zero_emod]; exact decide_eq_false (by omega)
  rw [if_neg h0, zeror_w, ← widr_nf f]
  have key : ∀ (x : Int), 0 < x → x < IN f → (x % (TT f) = x ∧ (TT f + x) % TT f = x) := by
    intro x h1 h2
    have ib := IN_bd f
    refine ⟨Int.emod_eq_of_lt (by omega) (by omega), ?_⟩
    rw [Int.add_comm, Int.add_emod_right]; exact Int.emod_eq_of_lt (by omega) (by omega)
  have fin : ∀ (x : Int), 0 < x → x < IN f → ∃ v, (bif (bits .and .u32 k 1 == 1) then some (bits .or .u32 x (sgn f true)) else some x) = some v ∧ wf f v ∧ mildP f v := by
    intro x h1 h2
    have ib := IN_bd f
    have kx := key x h1 h2
    cases bits .and .u32 k 1 == 1
    · refine ⟨x, rfl, ⟨by omega, by omega⟩, ?_, ?_, ?_⟩
      · unfold nan; rw [kx.1]; simp; omega
      · unfold inff; rw [kx.1]; simp; omega
      · rw [kx.1]; intro q; exact q
    · have e : bits .or .u32 x (sgn f true) = TT f + x := by
        rw [or_comm32, sgn_or f true ⟨by omega, by omega⟩]; unfold sgn; simp
      refine ⟨TT f + x, by rw [e]; rfl, ⟨by omega, by omega⟩, ?_, ?_, ?_⟩
      · unfold nan; rw [kx.2]; simp; omega
      · unfold inff; rw [kx.2]; simp; omega
      · rw [kx.2]; intro q; omega
  have hd : Int.tmod (k / 8) 4096 = k / 8 % 4096 ∧ Int.tmod (k / 8) 512 = k / 8 % 512 ∧ Int.tmod (k / 8) 33554432 = k / 8 % 33554432 := by
    have : 0 ≤ k / 8 := by have := h.1; omega
    exact ⟨tmod_nn this, tmod_nn this, tmod_nn this⟩
  have hI : IN f = (RR f - 1) * BB f := rfl
  rw [← nf_RR f, ← nf_BB f] at hI
  rcases nf_cases f with e | e | e <;> rw [e] at hI ⊢
  · have hI2 : IN f = 31744 := hI
    have := fin (IntKind.wrap .u32 (13312 + Int.tmod (k / 8) 4096)) (by rw [hd.1, wu32 (by omega)]; omega) (by rw [hd.1, wu32 (by omega)]; omega)
    exact this
  · have hI2 : IN f = 32640 := hI
    have := fin (IntKind.wrap .u32 (16000 + Int.tmod (k / 8) 512)) (by rw [hd.2.1, wu32 (by omega)]; omega) (by rw [hd.2.1, wu32 (by omega)]; omega)
    exact this
  · have hI2 : IN f = 2139095040 := hI
    have := fin (IntKind.wrap .u32 (1048576000 + Int.tmod (k / 8) 33554432)) (by rw [hd.2.2, wu32 (by omega)]; omega) (by rw [hd.2.2, wu32 (by omega)]; omega)
    exact this
theorem wf_right {R C : Nat} {f : Int} {V : List Int} (hR : R ≤ 4096) (hC : C ≤ 4096) (hl : V.length = R * C) (hf : knownS f = true) (h : ∀ v ∈ V, wf f v) : rightS ((R : Int), (C : Int), f, V, ()) = true :=
  right_mk hR hC hl hf (List.all_eq_true.2 fun a ha => decide_eq_true (h a ha).2)
end Go.Proofs.YtkmkhcmfpbffjaaGreat.VI

namespace Go.Proofs.YtkmkhcmfpbffjaaGreat.VI
set_option linter.unusedVariables false
set_option linter.unusedSimpArgs false
set_option maxRecDepth 100000
set_option maxHeartbeats 8000000
def tk (a : TsT) : TsT := (a.1, (a.2.1, (a.2.2.1, ((List.take (List.length a.2.2.2.1) a.2.2.2.1), ()))))
end Go.Proofs.YtkmkhcmfpbffjaaGreat.VI

namespace Go.Proofs.YtkmkhcmfpbffjaaGreat.VI
set_option linter.unusedVariables false
set_option linter.unusedSimpArgs false
set_option maxRecDepth 100000
set_option maxHeartbeats 4000000
theorem gl_mapA {h : Nat → Int} {n i : Nat} (hi : i < n) : gl ((List.range n).map h) i = h i := by
  unfold gl; rw [List.getD_eq_getElem?_getD]; simp [hi]
end Go.Proofs.YtkmkhcmfpbffjaaGreat.VI

namespace Go.Proofs.YtkmkhcmfpbffjaaGreat.VI
set_option linter.unusedVariables false
set_option linter.unusedSimpArgs false
set_option maxRecDepth 100000
noncomputable def O_957 : Orc := (orm c_961 (orm c_962 c_977))
theorem okO_957 : OrcOk PR O_957 := (orm_ok ok_961 (orm_ok ok_962 ok_977))
abbrev fa_957 : Fm := (.pair (.i .i64) (.pair (.i .u32) (.pair (.i .u32) (.pair .b .unit))))
abbrev fr_957 : Fm := (.i .u32)
noncomputable def F_957 (a0 : Int) (a1 : Int) (a2 : Int) (a3 : Bool) : Option (Int) :=
 ((F_961 a0 a1)).bind fun r0 =>
 bif r0 then
 ((F_961 a0 a2)).bind fun r1 =>
 bif r1 then
 ((F_962 a0)).bind fun r2 =>
 (some r2)
 else
 ((F_961 a0 a1)).bind fun r3 =>
 bif r3 then
 ((F_977 a0)).bind fun r4 =>
 (some (bits .and .u32 a2 r4))
 else
 ((F_961 a0 a2)).bind fun r5 =>
 bif (bif r5 then true else a3) then
 ((F_977 a0)).bind fun r6 =>
 (some (bits .and .u32 a1 r6))
 else
 ((F_977 a0)).bind fun r7 =>
 (some (bits .and .u32 a2 r7))
 else
 ((F_961 a0 a1)).bind fun r8 =>
 bif r8 then
 ((F_977 a0)).bind fun r9 =>
 (some (bits .and .u32 a2 r9))
 else
 ((F_961 a0 a2)).bind fun r10 =>
 bif (bif r10 then true else a3) then
 ((F_977 a0)).bind fun r11 =>
 (some (bits .and .u32 a1 r11))
 else
 ((F_977 a0)).bind fun r12 =>
 (some (bits .and .u32 a2 r12))
noncomputable def G_957 : T fa_957 → TH hN0 → Option (Int) := fun x y => F_957 x.1 x.2.1 x.2.2.1 x.2.2.2.1
noncomputable def c_957 : Orc := ent i_957 [] 0 (sp fa_957 hN0 fr_957 hN0 G_957 (outN fr_957))
theorem ok_957 : OrcOk PR c_957 := fnT okO_957 mixed p_957 (by kernel_rfl) (by kernel_rfl) (L := L0) (kp := false) (by kernel_rfl) (inn := (innN fr_957)) (out := (outN fr_957)) (fun _ _ => rfl) (loopsL (l := []) (by kernel_rfl) trivial) (fun x y => by kernel_rfl)
noncomputable def O_931 : Orc := (orm c_958 c_957)
theorem okO_931 : OrcOk PR O_931 := (orm_ok ok_958 ok_957)
abbrev fa_931 : Fm := (.pair (.i .i64) (.pair (.i .u32) (.pair (.i .u32) .unit)))
abbrev fr_931 : Fm := (.i .u32)
noncomputable def F_931 (a0 : Int) (a1 : Int) (a2 : Int) : Option (Int) :=
 ((F_958 a0 a1)).bind fun r0 =>
 ((F_958 a0 a2)).bind fun r1 =>
 ((F_957 a0 a1 a2 (decide (r0 > r1)))).bind fun r2 =>
 (some r2)
noncomputable def G_931 : T fa_931 → TH hN0 → Option (Int) := fun x y => F_931 x.1 x.2.1 x.2.2.1
noncomputable def c_931 : Orc := ent i_931 [] 0 (sp fa_931 hN0 fr_931 hN0 G_931 (outN fr_931))
theorem ok_931 : OrcOk PR c_931 := fnT okO_931 mixed p_931 (by kernel_rfl) (by kernel_rfl) (L := L0) (kp := false) (by kernel_rfl) (inn := (innN fr_931)) (out := (outN fr_931)) (fun _ _ => rfl) (loopsL (l := []) (by kernel_rfl) trivial) (fun x y => by kernel_rfl)
noncomputable def O_911 : Orc := c_92d
theorem okO_911 : OrcOk PR O_911 := ok_92d
abbrev fa_911 : Fm := (.pair (.agg (.pair (.i .i64) (.pair (.i .i64) (.pair (.i .i64) (.pair (.si .u32) .unit))))) (.pair (.si .i64) .unit))
abbrev fr_911 : Fm := (.tup (.pair (.agg (.pair (.i .i64) (.pair (.i .i64) (.pair (.i .i64) (.pair (.si .u32) .unit))))) (.pair (.i .i64) .unit)))
abbrev ff_911_0 : Fm := (.us 4 (.cst (.ref 0 1 0) (.us 1 (.cst (.ref 1 1 0) (.us 28 (.pair (.si .i64) (.pair (.i .i64) (.pair (.i .i64) (.us 14 .unit)))))))))
abbrev hf_911_0 : List BF := [(.list 1 y_91 true (.pair (.i .i64) (.pair (.i .i64) (.pair (.i .i64) (.cst .nils .unit))))), (.list 1 y_91 true (.pair (.i .i64) (.pair (.i .i64) (.pair (.i .i64) (.pair (.si .u32) .unit)))))]
abbrev X_911_0 : Xs := (.alt (.exit 0) [4, 6] (.us 4 (.cst (.ref 0 1 0) (.us 1 (.cst (.ref 1 1 0) (.us 45 .unit))))) [(.list 1 y_91 true (.pair (.i .i64) (.pair (.i .i64) (.pair (.i .i64) (.cst .nils .unit))))), (.list 1 y_91 true (.pair (.i .i64) (.pair (.i .i64) (.pair (.i .i64) (.pair (.si .u32) .unit)))))] (.one .ret [4, 5] (.us 4 (.cst (.ref 0 1 0) (.pair (.i .i64) (.us 46 .unit)))) [(.list 1 y_91 true (.pair (.i .i64) (.pair (.i .i64) (.pair (.i .i64) (.cst .nils .unit)))))]))
abbrev S_911_0 : Type := T ff_911_0 × TH hf_911_0
abbrev E_911_0 : Type := TX X_911_0
noncomputable def LB_911_0 : Lps := L0
noncomputable def st_911_0 : StepT S_911_0 E_911_0 := fun R v kn ko =>
 let x0 : List Int := v.1.1
 let x1 : List Int := v.2.2.1.2.2.2.1
 bif (decide (v.1.2.2.1 < v.1.2.1)) then
 bif (decide (((0:Int) ≤ v.1.2.2.1) ∧ (v.1.2.2.1 < (((List.length x0) : Nat) : Int)))) then
 bif (decide ((List.getD x0 (Int.toNat v.1.2.2.1) (0:Int)) < (0:Int))) then
 (ko (Sum.inr (((22:Int), ()), (((0:Int), ((0:Int), ((0:Int), ()))), ()))))
 else
 bif (decide ((List.getD x0 (Int.toNat v.1.2.2.1) (0:Int)) ≥ v.2.2.1.2.1)) then
 (ko (Sum.inr (((22:Int), ()), (((0:Int), ((0:Int), ((0:Int), ()))), ()))))
 else
 (kn (((List.take (List.length x0) x0), (v.1.2.1, ((IntKind.wrap .i64 (v.1.2.2.1 + (1:Int))), ()))), (v.2.1, ((v.2.2.1.1, (v.2.2.1.2.1, (v.2.2.1.2.2.1, ((List.take (List.length x1) x1), ())))), ()))))
 else
 none
 else
 (ko (Sum.inl ((), (v.2.1, ((v.2.2.1.1, (v.2.2.1.2.1, (v.2.2.1.2.2.1, ((List.take (List.length x1) x1), ())))), ())))))
noncomputable def ls_911_0 : St → LTr := (lsum ff_911_0 hf_911_0 X_911_0 Prod.mk id st_911_0 (hd [] [] [4, 6, 35, 36, 37] 0))
theorem lp_911_0 : LoopOk PR 0 (lpN f_911 0) ls_911_0 := loopT okO_911 mixed (L := LB_911_0) (d := 1) (bs := []) (ks := [4, 6, 35, 36, 37]) (loopsL (l := []) (by kernel_rfl) trivial) (by kernel_rfl) (inS := Prod.mk) (outS := id) (fun _ _ => rfl) (inX := id) (outX := id) (fun _ => rfl) (fun v R kn ko => by kernel_rfl) (hd_wk [] [] [4, 6, 35, 36, 37] 0)
noncomputable def L_911 : Lps := (lpB 6 (.by_ ls_911_0) L0)
noncomputable def F_911 (a0 : Int × Int × Int × List Int × Unit) (a1 : List Int) : Option ((Int × Int × Int × List Int × Unit) × Int × Unit) :=
 let x0 : Int := a0.2.2.1
 let x1 : List Int := a0.2.2.2.1
 ((F_92d (a0.1, (a0.2.1, (x0, ((List.take (List.length x1) x1), ())))))).bind fun r2 =>
 let x3 : Int := r2.1.2.1
 let x4 : Int := r2.1.2.2.1
 let x5 : List Int := r2.1.2.2.2.1
 bif (r2.2.1 != (0:Int)) then
 (some (((0:Int), ((0:Int), ((0:Int), ([], ())))), ((21:Int), ())))
 else
 bif (r2.1.1 != (((List.length a1) : Nat) : Int)) then
 (some (((0:Int), ((0:Int), ((0:Int), ([], ())))), ((21:Int), ())))
 else
 bif (decide (r2.1.1 > (0:Int))) then
 bif (x3 == (0:Int)) then
 (some (((0:Int), ((0:Int), ((0:Int), ([], ())))), ((21:Int), ())))
 else
 ((lim st_911_0 (((List.take (List.length a1) a1), ((((List.length a1) : Nat) : Int), ((0:Int), ()))), (((0:Int), ((0:Int), ((0:Int), ()))), ((r2.1.1, (x3, (x4, ((List.take (List.length x5) x5), ())))), ()))))).bind fun r6 =>
 els (fun l7 =>
 let x9 : Int := l7.2.2.1.1
 let x10 : Int := l7.2.2.1.2.1
 let x11 : Int := l7.2.2.1.2.2.1
 let x12 : List Int := l7.2.2.1.2.2.2.1
 (some ((x9, (x10, (x11, ((List.take (List.length x12) x12), ())))), ((0:Int), ())))) (fun r8 =>
 let x13 : Int := r8.2.1.1
 let x14 : Int := r8.2.1.2.1
 let x15 : Int := r8.2.1.2.2.1
 (some ((x13, (x14, (x15, ([], ())))), r8.1))) r6
 else
 ((lim st_911_0 (((List.take (List.length a1) a1), ((((List.length a1) : Nat) : Int), ((0:Int), ()))), (((0:Int), ((0:Int), ((0:Int), ()))), ((r2.1.1, (x3, (x4, ((List.take (List.length x5) x5), ())))), ()))))).bind fun r16 =>
 els (fun l17 =>
 let x19 : Int := l17.2.2.1.1
 let x20 : Int := l17.2.2.1.2.1
 let x21 : Int := l17.2.2.1.2.2.1
 let x22 : List Int := l17.2.2.1.2.2.2.1
 (some ((x19, (x20, (x21, ((List.take (List.length x22) x22), ())))), ((0:Int), ())))) (fun r18 =>
 let x23 : Int := r18.2.1.1
 let x24 : Int := r18.2.1.2.1
 let x25 : Int := r18.2.1.2.2.1
 (some ((x23, (x24, (x25, ([], ())))), r18.1))) r16
noncomputable def G_911 : T fa_911 → TH hN0 → Option ((Int × Int × Int × List Int × Unit) × Int × Unit) := fun x y => F_911 x.1 x.2.1
noncomputable def c_911 : Orc := ent i_911 [] 0 (sp fa_911 hN0 fr_911 hN0 G_911 (outN fr_911))
theorem ok_911 : OrcOk PR c_911 := fnT okO_911 mixed p_911 (by kernel_rfl) (by kernel_rfl) (L := L_911) (kp := false) (by kernel_rfl) (inn := (innN fr_911)) (out := (outN fr_911)) (fun _ _ => rfl) (loopsL (l := [((lpN f_911 0), ls_911_0)]) (by kernel_rfl) ⟨lp_911_0, trivial⟩) (fun x y => by kernel_rfl)
noncomputable def O_913 : Orc := orn
theorem okO_913 : OrcOk PR O_913 := (orn_ok _)
abbrev fa_913 : Fm := (.pair (.agg (.pair (.i .i64) (.pair (.i .i64) (.pair (.i .i64) (.pair (.si .u32) .unit))))) (.pair (.i .i64) .unit))
abbrev fr_913 : Fm := (.si .u32)
noncomputable def F_913 (a0 : Int × Int × Int × List Int × Unit) (a1 : Int) : Option (List Int) :=
 let x0 : Nat := (Int.toNat (IntKind.wrap .i64 (a1 * a0.2.1)))
 let x1 : Nat := ((Int.toNat (IntKind.wrap .i64 ((IntKind.wrap .i64 (a1 + (1:Int))) * a0.2.1))) - x0)
 let x2 : List Int := a0.2.2.2.1
 bif (decide (((0:Int) ≤ (IntKind.wrap .i64 (a1 * a0.2.1))) ∧ (((IntKind.wrap .i64 (a1 * a0.2.1)) ≤ (IntKind.wrap .i64 ((IntKind.wrap .i64 (a1 + (1:Int))) * a0.2.1))) ∧ ((IntKind.wrap .i64 ((IntKind.wrap .i64 (a1 + (1:Int))) * a0.2.1)) ≤ (((List.length x2) : Nat) : Int))))) then
 (some (List.take x1 (List.take x1 (List.drop x0 x2))))
 else
 none
noncomputable def G_913 : T fa_913 → TH hN0 → Option (List Int) := fun x y => F_913 x.1 x.2.1
noncomputable def c_913 : Orc := ent i_913 [] 0 (sp fa_913 hN0 fr_913 hN0 G_913 (outN fr_913))
theorem ok_913 : OrcOk PR c_913 := fnT okO_913 mixed p_913 (by kernel_rfl) (by kernel_rfl) (L := L0) (kp := false) (by kernel_rfl) (inn := (innN fr_913)) (out := (outN fr_913)) (fun _ _ => rfl) (loopsL (l := []) (by kernel_rfl) trivial) (fun x y => by kernel_rfl)
noncomputable def O_914 : Orc := (orm c_931 (orm c_916 (orm c_932 c_915)))
theorem okO_914 : OrcOk PR O_914 := (orm_ok ok_931 (orm_ok ok_916 (orm_ok ok_932 ok_915)))
abbrev fa_914 : Fm := (.pair (.si .u32) .unit)
abbrev fr_914 : Fm := (.tup (.pair (.si .u32) (.pair (.i .u32) (.pair (.i .u32) .unit))))
abbrev ff_914_0 : Fm := (.pair (.si .u32) (.us 4 (.pair (.i .u32) (.us 10 (.pair (.si .u32) (.pair (.i .i64) (.pair (.i .i64) (.us 28 .unit))))))))
abbrev hf_914_0 : List BF := []
abbrev X_914_0 : Xs := (.one (.exit 0) [0, 5] (.pair (.si .u32) (.us 4 (.pair (.i .u32) (.us 41 .unit)))) [])
abbrev S_914_0 : Type := T ff_914_0 × TH hf_914_0
abbrev E_914_0 : Type := TX X_914_0
noncomputable def LB_914_0 : Lps := L0
noncomputable def st_914_0 : StepT S_914_0 E_914_0 := fun R v kn ko =>
 let x0 : Int := v.1.2.1
 let x1 : List Int := v.1.2.2.1
 let x2 : Int := v.1.2.2.2.2.1
 let x3 : List Int := v.1.1
 let x4 : List Int := (List.take (List.length x3) x3)
 bif (decide (x2 < v.1.2.2.2.1)) then
 bif (decide (((0:Int) ≤ x2) ∧ (x2 < (((List.length x1) : Nat) : Int)))) then
 ((F_931 (2:Int) x0 (List.getD x1 (Int.toNat x2) (0:Int)))).bind fun r5 =>
 (kn ((x4, (r5, ((List.take (List.length x1) x1), (v.1.2.2.2.1, ((IntKind.wrap .i64 (x2 + (1:Int))), ()))))), ()))
 else
 none
 else
 (ko ((x4, (x0, ())), ()))
noncomputable def ls_914_0 : St → LTr := (lsum ff_914_0 hf_914_0 X_914_0 Prod.mk id st_914_0 (hd [] [] [0, 5, 16, 17, 18] 0))
theorem lp_914_0 : LoopOk PR 0 (lpN f_914 0) ls_914_0 := loopT okO_914 mixed (L := LB_914_0) (d := 1) (bs := []) (ks := [0, 5, 16, 17, 18]) (loopsL (l := []) (by kernel_rfl) trivial) (by kernel_rfl) (inS := Prod.mk) (outS := id) (fun _ _ => rfl) (inX := id) (outX := id) (fun _ => rfl) (fun v R kn ko => by kernel_rfl) (hd_wk [] [] [0, 5, 16, 17, 18] 0)
abbrev ff_914_1 : Fm := (.us 5 (.pair (.i .u32) (.us 2 (.pair (.own 0 1 0 1) (.pair (.i .u32) (.us 16 (.pair (.si .u32) (.pair (.i .i64) (.pair (.i .i64) (.us 18 .unit))))))))))
abbrev hf_914_1 : List BF := [(.ints 1 y_90 true .u32)]
abbrev X_914_1 : Xs := (.one (.exit 2) [5, 8, 9] (.us 5 (.pair (.i .u32) (.us 2 (.pair (.own 0 1 0 1) (.pair (.i .u32) (.us 37 .unit)))))) [(.ints 1 y_90 true .u32)])
abbrev S_914_1 : Type := T ff_914_1 × TH hf_914_1
abbrev E_914_1 : Type := TX X_914_1
noncomputable def LB_914_1 : Lps := (lpB 4 (.by_ ls_914_0) L0)
noncomputable def st_914_1 : StepT S_914_1 E_914_1 := fun R v kn ko =>
 let x0 : List Int := v.1.2.2.2.1
 let x1 : Int := v.1.2.2.2.2.2.1
 let x2 : Int := v.1.1
 let x3 : Int := v.1.2.2.1
 let x4 : Nat := v.1.2.1
 bif (decide (x1 < v.1.2.2.2.2.1)) then
 bif (decide (((0:Int) ≤ x1) ∧ (x1 < (((List.length x0) : Nat) : Int)))) then
 ((F_916 (List.getD x0 (Int.toNat x1) (0:Int)) x2)).bind fun r5 =>
 ((F_932 r5)).bind fun r6 =>
 bif (decide ((x4 + (1:Nat)) ≤ (1073741824:Nat))) then
 ((F_915 x3 r6)).bind fun r7 =>
 (kn ((x2, ((x4 + (1:Nat)), (r7, ((List.take (List.length x0) x0), (v.1.2.2.2.2.1, ((IntKind.wrap .i64 (x1 + (1:Int))), ())))))), (((List.take x4 v.2.1) ++ [r6]), ())))
 else
 none
 else
 none
 else
 (ko ((x2, (x4, (x3, ()))), v.2))
noncomputable def ls_914_1 : St → LTr := (lsum ff_914_1 hf_914_1 X_914_1 Prod.mk id st_914_1 (hd [(.pl 8, y_90, 0, .ints .u32)] [] [5, 8, 9, 26, 27, 28] 0))
theorem lp_914_1 : LoopOk PR 0 (lpN f_914 1) ls_914_1 := loopT okO_914 mixed (L := LB_914_1) (d := 1) (bs := []) (ks := [5, 8, 9, 26, 27, 28]) (loopsL (l := []) (by kernel_rfl) trivial) (by kernel_rfl) (inS := Prod.mk) (outS := id) (fun _ _ => rfl) (inX := id) (outX := id) (fun _ => rfl) (fun v R kn ko => by kernel_rfl) (hd_wk [(.pl 8, y_90, 0, .ints .u32)] [] [5, 8, 9, 26, 27, 28] 0)
noncomputable def L_914 : Lps := (lpB 11 (.by_ ls_914_1) (lpB 4 (.by_ ls_914_0) L0))
noncomputable def F_914 (a0 : List Int) : Option (List Int × Int × Int × Unit) :=
 let x0 : List Int := (List.take (List.length a0) a0)
 bif (decide (((0:Int) ≤ (0:Int)) ∧ ((0:Int) < (((List.length a0) : Nat) : Int)))) then
 ((lim st_914_0 ((x0, ((List.getD a0 (0:Nat) (0:Int)), (x0, ((((List.length a0) : Nat) : Int), ((0:Int), ()))))), ()))).bind fun r1 =>
 let x2 : List Int := r1.1.1
 let x3 : Nat := (List.length x2)
 ((lim st_914_1 ((r1.1.2.1, ((0:Nat), ((0:Int), ((List.take x3 x2), (((x3 : Nat) : Int), ((0:Int), ())))))), ([], ())))).bind fun r4 =>
 (some ((List.take r4.1.2.1 (List.drop (0:Nat) r4.2.1)), (r4.1.2.2.1, (r4.1.1, ()))))
 else
 none
noncomputable def G_914 : T fa_914 → TH hN0 → Option (List Int × Int × Int × Unit) := fun x y => F_914 x.1
noncomputable def c_914 : Orc := ent i_914 [] 0 (sp fa_914 hN0 fr_914 hN0 G_914 (outN fr_914))
theorem ok_914 : OrcOk PR c_914 := fnT okO_914 mixed p_914 (by kernel_rfl) (by kernel_rfl) (L := L_914) (kp := false) (by kernel_rfl) (inn := (innN fr_914)) (out := (outN fr_914)) (fun _ _ => rfl) (loopsL (l := [((lpN f_914 0), ls_914_0), ((lpN f_914 1), ls_914_1)]) (by kernel_rfl) ⟨lp_914_0, ⟨lp_914_1, trivial⟩⟩) (fun x y => by kernel_rfl)
noncomputable def O_919 : Orc := c_918
theorem okO_919 : OrcOk PR O_919 := ok_918
abbrev fa_919 : Fm := (.pair (.i .u32) (.pair (.i .u32) (.pair (.i .i64) .unit)))
abbrev fr_919 : Fm := (.i .u32)
noncomputable def F_919 (a0 : Int) (a1 : Int) (a2 : Int) : Option (Int) :=
 bif (a2 == (0:Int)) then
 (some (0:Int))
 else
 ((F_918 a0 a1)).bind fun r0 =>
 (some r0)
noncomputable def G_919 : T fa_919 → TH hN0 → Option (Int) := fun x y => F_919 x.1 x.2.1 x.2.2.1
noncomputable def c_919 : Orc := ent i_919 [] 0 (sp fa_919 hN0 fr_919 hN0 G_919 (outN fr_919))
theorem ok_919 : OrcOk PR c_919 := fnT okO_919 mixed p_919 (by kernel_rfl) (by kernel_rfl) (L := L0) (kp := false) (by kernel_rfl) (inn := (innN fr_919)) (out := (outN fr_919)) (fun _ _ => rfl) (loopsL (l := []) (by kernel_rfl) trivial) (fun x y => by kernel_rfl)
noncomputable def O_97 : Orc := (orm c_911 (orm c_912 (orm c_913 (orm c_914 (orm c_917 (orm c_916 (orm c_915 (orm c_918 c_919))))))))
theorem okO_97 : OrcOk PR O_97 := (orm_ok ok_911 (orm_ok ok_912 (orm_ok ok_913 (orm_ok ok_914 (orm_ok ok_917 (orm_ok ok_916 (orm_ok ok_915 (orm_ok ok_918 ok_919))))))))
abbrev fa_97 : Fm := (.pair (.agg (.pair (.i .i64) (.pair (.i .i64) (.pair (.i .i64) (.pair (.si .u32) .unit))))) (.pair (.si .i64) .unit))
abbrev fr_97 : Fm := (.tup (.pair (.i .u32) (.pair (.agg (.pair (.i .i64) (.pair (.i .i64) (.pair (.i .i64) (.pair (.si .u32) .unit))))) (.pair (.i .i64) .unit))))
abbrev ff_97_1 : Fm := (.us 5 (.cst (.ref 0 1 0) (.us 1 (.cst (.ref 1 1 0) (.us 1 (.pair (.i .u32) (.cst (.ref 2 1 0) (.pair (.i .u32) (.us 1 (.pair (.i .i64) (.us 2 (.pair (.i .u32) (.us 22 (.pair (.si .i64) (.pair (.i .i64) (.pair (.i .i64) (.us 24 (.pair (.si .u32) (.pair (.i .i64) (.pair (.i .i64) (.us 27 .unit)))))))))))))))))))))
abbrev hf_97_1 : List BF := [(.list 1 y_91 true (.pair (.i .i64) (.pair (.i .i64) (.pair (.i .i64) (.cst .nils .unit))))), (.list 1 y_91 true (.pair (.i .i64) (.pair (.i .i64) (.pair (.i .i64) (.pair (.si .u32) .unit))))), (.list 1 y_91 true (.pair (.i .i64) (.pair (.i .i64) (.pair (.i .i64) (.pair (.own 3 1 0 1) .unit))))), (.ints 1 y_90 true .u32)]
abbrev X_97_1 : Xs := (.one (.exit 2) [5, 7, 9, 10, 11, 39, 40, 41] (.us 5 (.cst (.ref 0 1 0) (.us 1 (.cst (.ref 1 1 0) (.us 1 (.pair (.i .u32) (.cst (.ref 2 1 0) (.pair (.i .u32) (.us 27 (.pair (.si .i64) (.pair (.i .i64) (.pair (.i .i64) (.us 54 .unit))))))))))))) [(.list 1 y_91 true (.pair (.i .i64) (.pair (.i .i64) (.pair (.i .i64) (.cst .nils .unit))))), (.list 1 y_91 true (.pair (.i .i64) (.pair (.i .i64) (.pair (.i .i64) (.pair (.si .u32) .unit))))), (.list 1 y_91 true (.pair (.i .i64) (.pair (.i .i64) (.pair (.i .i64) (.pair (.own 3 1 0 1) .unit))))), (.ints 1 y_90 true .u32)])
abbrev S_97_1 : Type := T ff_97_1 × TH hf_97_1
abbrev E_97_1 : Type := TX X_97_1
noncomputable def LB_97_1 : Lps := L0
noncomputable def st_97_1 : StepT S_97_1 E_97_1 := fun R v kn ko =>
 let x0 : List Int := v.1.2.2.2.2.2.2.2.1
 let x1 : Int := v.1.2.2.2.2.2.2.2.2.2.1
 let x2 : Int := v.1.2.2.2.1
 let x3 : Int := v.1.2.2.1
 let x4 : Int := v.1.1
 let x5 : Int := v.1.2.1
 let x6 : List Int := v.1.2.2.2.2.1
 let x7 : List Int := (List.take (List.length x6) x6)
 let x8 : Int := v.1.2.2.2.2.2.1
 let x9 : Int := v.1.2.2.2.2.2.2.1
 let x10 : List Int := v.2.2.1.2.2.2.1
 let x11 : Nat := v.2.2.2.1.2.2.2.1
 bif (decide (x1 < v.1.2.2.2.2.2.2.2.2.1)) then
 bif (decide (((0:Int) ≤ x1) ∧ (x1 < (((List.length x0) : Nat) : Int)))) then
 ((F_918 (List.getD x0 (Int.toNat x1) (0:Int)) x2)).bind fun r12 =>
 ((F_916 r12 (bif (x1 == x3) then (1065353216:Int) else (0:Int)))).bind fun r13 =>
 ((F_918 r13 x4)).bind fun r14 =>
 bif (decide ((x11 + (1:Nat)) ≤ (1073741824:Nat))) then
 (kn ((x4, (x5, (x3, (x2, (x7, (x8, (x9, ((List.take (List.length x0) x0), (v.1.2.2.2.2.2.2.2.2.1, ((IntKind.wrap .i64 (x1 + (1:Int))), ())))))))))), (v.2.1, ((v.2.2.1.1, (v.2.2.1.2.1, (v.2.2.1.2.2.1, ((List.take (List.length x10) x10), ())))), ((v.2.2.2.1.1, (v.2.2.2.1.2.1, (v.2.2.2.1.2.2.1, ((x11 + (1:Nat)), ())))), (((List.take x11 v.2.2.2.2.1) ++ [r14]), ()))))))
 else
 none
 else
 none
 else
 (ko ((x4, (x5, (x7, (x8, (x9, ()))))), (v.2.1, ((v.2.2.1.1, (v.2.2.1.2.1, (v.2.2.1.2.2.1, ((List.take (List.length x10) x10), ())))), v.2.2.2))))
noncomputable def ls_97_1 : St → LTr := (lsum ff_97_1 hf_97_1 X_97_1 Prod.mk id st_97_1 (hd [] [] [5, 7, 9, 10, 11, 13, 16, 39, 40, 41, 66, 67, 68] 0))
theorem lp_97_1 : LoopOk PR 0 (lpN f_97 1) ls_97_1 := loopT okO_97 mixed (L := LB_97_1) (d := 2) (bs := []) (ks := [5, 7, 9, 10, 11, 13, 16, 39, 40, 41, 66, 67, 68]) (loopsL (l := []) (by kernel_rfl) trivial) (by kernel_rfl) (inS := Prod.mk) (outS := id) (fun _ _ => rfl) (inX := id) (outX := id) (fun _ => rfl) (fun v R kn ko => by kernel_rfl) (hd_wk [] [] [5, 7, 9, 10, 11, 13, 16, 39, 40, 41, 66, 67, 68] 0)
abbrev ff_97_0 : Fm := (.us 5 (.cst (.ref 0 1 0) (.us 1 (.cst (.ref 1 1 0) (.us 1 (.pair (.i .u32) (.cst (.ref 2 1 0) (.pair (.i .u32) (.us 27 (.pair (.si .i64) (.pair (.i .i64) (.pair (.i .i64) (.us 54 .unit)))))))))))))
abbrev hf_97_0 : List BF := [(.list 1 y_91 true (.pair (.i .i64) (.pair (.i .i64) (.pair (.i .i64) (.cst .nils .unit))))), (.list 1 y_91 true (.pair (.i .i64) (.pair (.i .i64) (.pair (.i .i64) (.pair (.si .u32) .unit))))), (.list 1 y_91 true (.pair (.i .i64) (.pair (.i .i64) (.pair (.i .i64) (.pair (.own 3 1 0 1) .unit))))), (.ints 1 y_90 true .u32)]
abbrev X_97_0 : Xs := (.one (.exit 0) [5, 7, 9, 10, 11] (.us 5 (.cst (.ref 0 1 0) (.us 1 (.cst (.ref 1 1 0) (.us 1 (.pair (.i .u32) (.cst (.ref 2 1 0) (.pair (.i .u32) (.us 84 .unit))))))))) [(.list 1 y_91 true (.pair (.i .i64) (.pair (.i .i64) (.pair (.i .i64) (.cst .nils .unit))))), (.list 1 y_91 true (.pair (.i .i64) (.pair (.i .i64) (.pair (.i .i64) (.pair (.si .u32) .unit))))), (.list 1 y_91 true (.pair (.i .i64) (.pair (.i .i64) (.pair (.i .i64) (.pair (.own 3 1 0 1) .unit))))), (.ints 1 y_90 true .u32)])
abbrev S_97_0 : Type := T ff_97_0 × TH hf_97_0
abbrev E_97_0 : Type := TX X_97_0
noncomputable def LB_97_0 : Lps := (lpB 15 (.by_ ls_97_1) L0)
noncomputable def st_97_0 : StepT S_97_0 E_97_0 := fun R v kn ko =>
 let x0 : List Int := v.2.2.1.2.2.2.1
 let x1 : Int := v.1.2.2.2.2.1
 let x2 : List Int := v.1.2.2.1
 let x3 : Int := (List.getD x2 (Int.toNat x1) (0:Int))
 let x4 : Int := v.1.2.1
 let x5 : Int := v.1.1
 bif (decide (x1 < v.1.2.2.2.1)) then
 bif (decide (((0:Int) ≤ x1) ∧ (x1 < (((List.length x2) : Nat) : Int)))) then
 ((F_913 (v.2.2.1.1, (v.2.2.1.2.1, (v.2.2.1.2.2.1, ((List.take (List.length x0) x0), ())))) x1)).bind fun r6 =>
 ((F_914 (List.take (List.length r6) r6))).bind fun r7 =>
 let x8 : Int := r7.2.2.1
 ((F_917 r7.2.1)).bind fun r9 =>
 bif (decide (((0:Int) ≤ x3) ∧ (x3 < (((List.length r6) : Nat) : Int)))) then
 ((F_916 (List.getD r6 (Int.toNat x3) (0:Int)) x8)).bind fun r10 =>
 ((F_916 r9 r10)).bind fun r11 =>
 ((F_915 x4 r11)).bind fun r12 =>
 ((lim st_97_1 ((x5, (r12, (x3, (r7.2.1, ((List.take (List.length x2) x2), (v.1.2.2.2.1, (x1, ((List.take (List.length r7.1) r7.1), ((((List.length r7.1) : Nat) : Int), ((0:Int), ())))))))))), (v.2.1, ((v.2.2.1.1, (v.2.2.1.2.1, (v.2.2.1.2.2.1, ((List.take (List.length x0) x0), ())))), v.2.2.2))))).bind fun r13 =>
 let x14 : List Int := r13.1.2.2.1
 let x15 : List Int := r13.2.2.1.2.2.2.1
 (kn ((r13.1.1, (r13.1.2.1, ((List.take (List.length x14) x14), (r13.1.2.2.2.1, ((IntKind.wrap .i64 (r13.1.2.2.2.2.1 + (1:Int))), ()))))), (r13.2.1, ((r13.2.2.1.1, (r13.2.2.1.2.1, (r13.2.2.1.2.2.1, ((List.take (List.length x15) x15), ())))), r13.2.2.2))))
 else
 none
 else
 none
 else
 (ko ((x5, (x4, ())), (v.2.1, ((v.2.2.1.1, (v.2.2.1.2.1, (v.2.2.1.2.2.1, ((List.take (List.length x0) x0), ())))), v.2.2.2))))
noncomputable def ls_97_0 : St → LTr := (lsum ff_97_0 hf_97_0 X_97_0 Prod.mk id st_97_0 (hd [(.via 10 3, y_90, 0, .ints .u32)] [] [5, 7, 9, 10, 11, 39, 40, 41] 0))
theorem lp_97_0 : LoopOk PR 0 (lpN f_97 0) ls_97_0 := loopT okO_97 mixed (L := LB_97_0) (d := 1) (bs := []) (ks := [5, 7, 9, 10, 11, 39, 40, 41]) (loopsL (l := [((lpN f_97 1), ls_97_1)]) (by kernel_rfl) ⟨lp_97_1, trivial⟩) (by kernel_rfl) (inS := Prod.mk) (outS := id) (fun _ _ => rfl) (inX := id) (outX := id) (fun _ => rfl) (fun v R kn ko => by kernel_rfl) (hd_wk [(.via 10 3, y_90, 0, .ints .u32)] [] [5, 7, 9, 10, 11, 39, 40, 41] 0)
noncomputable def L_97 : Lps := (lpB 9 (.by_ ls_97_0) (lpB 15 (.by_ ls_97_1) L0))
noncomputable def F_97 (a0 : Int × Int × Int × List Int × Unit) (a1 : List Int) : Option (Int × (Int × Int × Int × List Int × Unit) × Int × Unit) :=
 let x0 : Int := a0.2.2.1
 let x1 : List Int := a0.2.2.2.1
 let x2 : List Int := (List.take (List.length a1) a1)
 ((F_911 (a0.1, (a0.2.1, (x0, ((List.take (List.length x1) x1), ())))) x2)).bind fun r3 =>
 let x4 : Int := r3.1.2.1
 let x5 : Int := r3.1.2.2.1
 let x6 : List Int := r3.1.2.2.2.1
 bif (r3.2.1 != (0:Int)) then
 (some ((0:Int), (((0:Int), ((0:Int), ((0:Int), ([], ())))), r3.2)))
 else
 ((F_912 r3.1.1)).bind fun r7 =>
 ((lim st_97_0 ((r7, ((0:Int), (x2, ((((List.length a1) : Nat) : Int), ((0:Int), ()))))), (((0:Int), ((0:Int), ((0:Int), ()))), ((r3.1.1, (x4, (x5, ((List.take (List.length x6) x6), ())))), ((r3.1.1, (x4, ((2:Int), ((0:Nat), ())))), ([], ()))))))).bind fun r8 =>
 ((F_919 r8.1.2.1 r8.1.1 r8.2.2.1.1)).bind fun r9 =>
 (some (r9, ((r8.2.2.2.1.1, (r8.2.2.2.1.2.1, (r8.2.2.2.1.2.2.1, ((List.take r8.2.2.2.1.2.2.2.1 (List.drop (0:Nat) r8.2.2.2.2.1)), ())))), ((0:Int), ()))))
noncomputable def G_97 : T fa_97 → TH hN0 → Option (Int × (Int × Int × Int × List Int × Unit) × Int × Unit) := fun x y => F_97 x.1 x.2.1
noncomputable def c_97 : Orc := ent i_97 [] 0 (sp fa_97 hN0 fr_97 hN0 G_97 (outN fr_97))
theorem ok_97 : OrcOk PR c_97 := fnT okO_97 mixed p_97 (by kernel_rfl) (by kernel_rfl) (L := L_97) (kp := false) (by kernel_rfl) (inn := (innN fr_97)) (out := (outN fr_97)) (fun _ _ => rfl) (loopsL (l := [((lpN f_97 0), ls_97_0)]) (by kernel_rfl) ⟨lp_97_0, trivial⟩) (fun x y => by kernel_rfl)
noncomputable def O_91c : Orc := c_943
theorem okO_91c : OrcOk PR O_91c := ok_943
abbrev fa_91c : Fm := (.pair (.si .u32) (.pair (.i .i64) .unit))
abbrev fr_91c : Fm := .b
abbrev ff_91c_0 : Fm := (.pair (.si .u32) (.pair (.i .i64) (.us 7 (.pair (.si .u32) (.pair (.i .i64) (.pair (.i .i64) (.us 37 .unit)))))))
abbrev hf_91c_0 : List BF := []
abbrev X_91c_0 : Xs := (.alt (.exit 0) [] (.us 49 .unit) [] (.one .ret [4] (.us 4 (.pair .b (.us 44 .unit))) []))
abbrev S_91c_0 : Type := T ff_91c_0 × TH hf_91c_0
abbrev E_91c_0 : Type := TX X_91c_0
noncomputable def LB_91c_0 : Lps := L0
noncomputable def st_91c_0 : StepT S_91c_0 E_91c_0 := fun R v kn ko =>
 let x0 : List Int := v.1.1
 let x1 : Int := v.1.2.1
 let x2 : List Int := v.1.2.2.1
 let x3 : Int := v.1.2.2.2.2.1
 bif (decide (x3 < v.1.2.2.2.1)) then
 bif (decide (((0:Int) ≤ x3) ∧ (x3 < (((List.length x2) : Nat) : Int)))) then
 bif (decide (((0:Int) ≤ x1) ∧ (x1 < (((List.length x0) : Nat) : Int)))) then
 ((F_943 (2:Int) (List.getD x0 (Int.toNat x1) (0:Int)) (List.getD x2 (Int.toNat x3) (0:Int)))).bind fun r4 =>
 bif (decide (x3 < x1)) then
 bif r4.2.1 then
 bif (!(decide (r4.1 > (0:Int)))) then
 (ko (Sum.inr ((false, ()), ())))
 else
 bif (decide (x3 > x1)) then
 bif r4.2.1 then
 bif (decide (r4.1 < (0:Int))) then
 (ko (Sum.inr ((false, ()), ())))
 else
 (kn (((List.take (List.length x0) x0), (x1, ((List.take (List.length x2) x2), (v.1.2.2.2.1, ((IntKind.wrap .i64 (x3 + (1:Int))), ()))))), ()))
 else
 (kn (((List.take (List.length x0) x0), (x1, ((List.take (List.length x2) x2), (v.1.2.2.2.1, ((IntKind.wrap .i64 (x3 + (1:Int))), ()))))), ()))
 else
 (kn (((List.take (List.length x0) x0), (x1, ((List.take (List.length x2) x2), (v.1.2.2.2.1, ((IntKind.wrap .i64 (x3 + (1:Int))), ()))))), ()))
 else
 (ko (Sum.inr ((false, ()), ())))
 else
 bif (decide (x3 > x1)) then
 bif r4.2.1 then
 bif (decide (r4.1 < (0:Int))) then
 (ko (Sum.inr ((false, ()), ())))
 else
 (kn (((List.take (List.length x0) x0), (x1, ((List.take (List.length x2) x2), (v.1.2.2.2.1, ((IntKind.wrap .i64 (x3 + (1:Int))), ()))))), ()))
 else
 (kn (((List.take (List.length x0) x0), (x1, ((List.take (List.length x2) x2), (v.1.2.2.2.1, ((IntKind.wrap .i64 (x3 + (1:Int))), ()))))), ()))
 else
 (kn (((List.take (List.length x0) x0), (x1, ((List.take (List.length x2) x2), (v.1.2.2.2.1, ((IntKind.wrap .i64 (x3 + (1:Int))), ()))))), ()))
 else
 none
 else
 none
 else
 (ko (Sum.inl ((), ())))
noncomputable def ls_91c_0 : St → LTr := (lsum ff_91c_0 hf_91c_0 X_91c_0 Prod.mk id st_91c_0 (hd [] [] [0, 1, 9, 10, 11] 0))
theorem lp_91c_0 : LoopOk PR 0 (lpN f_91c 0) ls_91c_0 := loopT okO_91c mixed (L := LB_91c_0) (d := 1) (bs := []) (ks := [0, 1, 9, 10, 11]) (loopsL (l := []) (by kernel_rfl) trivial) (by kernel_rfl) (inS := Prod.mk) (outS := id) (fun _ _ => rfl) (inX := id) (outX := id) (fun _ => rfl) (fun v R kn ko => by kernel_rfl) (hd_wk [] [] [0, 1, 9, 10, 11] 0)
noncomputable def L_91c : Lps := (lpB 3 (.by_ ls_91c_0) L0)
noncomputable def F_91c (a0 : List Int) (a1 : Int) : Option (Bool) :=
 let x0 : List Int := (List.take (List.length a0) a0)
 ((lim st_91c_0 ((x0, (a1, (x0, ((((List.length a0) : Nat) : Int), ((0:Int), ()))))), ()))).bind fun r1 =>
 els (fun l2 =>
 (some true)) (fun r3 =>
 (some r3.1.1)) r1
noncomputable def G_91c : T fa_91c → TH hN0 → Option (Bool) := fun x y => F_91c x.1 x.2.1
noncomputable def c_91c : Orc := ent i_91c [] 0 (sp fa_91c hN0 fr_91c hN0 G_91c (outN fr_91c))
theorem ok_91c : OrcOk PR c_91c := fnT okO_91c mixed p_91c (by kernel_rfl) (by kernel_rfl) (L := L_91c) (kp := false) (by kernel_rfl) (inn := (innN fr_91c)) (out := (outN fr_91c)) (fun _ _ => rfl) (loopsL (l := [((lpN f_91c 0), ls_91c_0)]) (by kernel_rfl) ⟨lp_91c_0, trivial⟩) (fun x y => by kernel_rfl)
noncomputable def O_9a : Orc := (orm c_911 (orm c_913 c_91c))
theorem okO_9a : OrcOk PR O_9a := (orm_ok ok_911 (orm_ok ok_913 ok_91c))
abbrev fa_9a : Fm := (.pair (.agg (.pair (.i .i64) (.pair (.i .i64) (.pair (.i .i64) (.pair (.si .u32) .unit))))) (.pair (.si .i64) .unit))
abbrev fr_9a : Fm := (.tup (.pair (.i .i64) (.pair (.i .i64) .unit)))
abbrev ff_9a_0 : Fm := (.us 6 (.cst (.ref 0 1 0) (.us 1 (.pair (.i .i64) (.us 11 (.pair (.si .i64) (.pair (.i .i64) (.pair (.i .i64) (.us 13 .unit)))))))))
abbrev hf_9a_0 : List BF := [(.list 1 y_91 true (.pair (.i .i64) (.pair (.i .i64) (.pair (.i .i64) (.pair (.si .u32) .unit)))))]
abbrev X_9a_0 : Xs := (.one (.exit 0) [8] (.us 8 (.pair (.i .i64) (.us 27 .unit))) [])
abbrev S_9a_0 : Type := T ff_9a_0 × TH hf_9a_0
abbrev E_9a_0 : Type := TX X_9a_0
noncomputable def LB_9a_0 : Lps := L0
noncomputable def st_9a_0 : StepT S_9a_0 E_9a_0 := fun R v kn ko =>
 let x0 : List Int := v.2.1.2.2.2.1
 let x1 : Int := v.1.2.2.2.1
 let x2 : List Int := v.1.2.1
 let x3 : Int := v.1.1
 bif (decide (x1 < v.1.2.2.1)) then
 bif (decide (((0:Int) ≤ x1) ∧ (x1 < (((List.length x2) : Nat) : Int)))) then
 ((F_913 (v.2.1.1, (v.2.1.2.1, (v.2.1.2.2.1, ((List.take (List.length x0) x0), ())))) x1)).bind fun r4 =>
 ((F_91c (List.take (List.length r4) r4) (List.getD x2 (Int.toNat x1) (0:Int)))).bind fun r5 =>
 (kn (((bif r5 then (IntKind.wrap .i64 (x3 + (1:Int))) else x3), ((List.take (List.length x2) x2), (v.1.2.2.1, ((IntKind.wrap .i64 (x1 + (1:Int))), ())))), ((v.2.1.1, (v.2.1.2.1, (v.2.1.2.2.1, ((List.take (List.length x0) x0), ())))), ())))
 else
 none
 else
 (ko ((x3, ()), ()))
noncomputable def ls_9a_0 : St → LTr := (lsum ff_9a_0 hf_9a_0 X_9a_0 Prod.mk id st_9a_0 (hd [] [] [6, 8, 20, 21, 22] 0))
theorem lp_9a_0 : LoopOk PR 0 (lpN f_9a 0) ls_9a_0 := loopT okO_9a mixed (L := LB_9a_0) (d := 1) (bs := []) (ks := [6, 8, 20, 21, 22]) (loopsL (l := []) (by kernel_rfl) trivial) (by kernel_rfl) (inS := Prod.mk) (outS := id) (fun _ _ => rfl) (inX := id) (outX := id) (fun _ => rfl) (fun v R kn ko => by kernel_rfl) (hd_wk [] [] [6, 8, 20, 21, 22] 0)
noncomputable def L_9a : Lps := (lpB 7 (.by_ ls_9a_0) L0)
noncomputable def F_9a (a0 : Int × Int × Int × List Int × Unit) (a1 : List Int) : Option (Int × Int × Unit) :=
 let x0 : Int := a0.2.2.1
 let x1 : List Int := a0.2.2.2.1
 let x2 : List Int := (List.take (List.length a1) a1)
 ((F_911 (a0.1, (a0.2.1, (x0, ((List.take (List.length x1) x1), ())))) x2)).bind fun r3 =>
 let x4 : Int := r3.1.2.1
 let x5 : Int := r3.1.2.2.1
 let x6 : List Int := r3.1.2.2.2.1
 bif (r3.2.1 != (0:Int)) then
 (some ((0:Int), r3.2))
 else
 ((lim st_9a_0 (((0:Int), (x2, ((((List.length a1) : Nat) : Int), ((0:Int), ())))), ((r3.1.1, (x4, (x5, ((List.take (List.length x6) x6), ())))), ())))).bind fun r7 =>
 (some (r7.1.1, ((0:Int), ())))
noncomputable def G_9a : T fa_9a → TH hN0 → Option (Int × Int × Unit) := fun x y => F_9a x.1 x.2.1
noncomputable def c_9a : Orc := ent i_9a [] 0 (sp fa_9a hN0 fr_9a hN0 G_9a (outN fr_9a))
theorem ok_9a : OrcOk PR c_9a := fnT okO_9a mixed p_9a (by kernel_rfl) (by kernel_rfl) (L := L_9a) (kp := false) (by kernel_rfl) (inn := (innN fr_9a)) (out := (outN fr_9a)) (fun _ _ => rfl) (loopsL (l := [((lpN f_9a 0), ls_9a_0)]) (by kernel_rfl) ⟨lp_9a_0, trivial⟩) (fun x y => by kernel_rfl)
noncomputable def O_9e : Orc := (orm c_92d (orm c_912 (orm c_916 (orm c_92e (orm c_915 (orm c_918 c_919))))))
theorem okO_9e : OrcOk PR O_9e := (orm_ok ok_92d (orm_ok ok_912 (orm_ok ok_916 (orm_ok ok_92e (orm_ok ok_915 (orm_ok ok_918 ok_919))))))
abbrev fa_9e : Fm := (.pair (.agg (.pair (.i .i64) (.pair (.i .i64) (.pair (.i .i64) (.pair (.si .u32) .unit))))) (.pair (.agg (.pair (.i .i64) (.pair (.i .i64) (.pair (.i .i64) (.pair (.si .u32) .unit))))) .unit))
abbrev fr_9e : Fm := (.tup (.pair (.i .u32) (.pair (.agg (.pair (.i .i64) (.pair (.i .i64) (.pair (.i .i64) (.pair (.si .u32) .unit))))) (.pair (.i .i64) .unit))))
abbrev ff_9e_0 : Fm := (.us 5 (.cst (.ref 0 1 0) (.us 1 (.cst (.ref 1 1 0) (.us 1 (.cst (.ref 2 1 0) (.us 1 (.pair (.i .u32) (.cst (.ref 3 1 0) (.pair (.i .u32) (.us 46 (.pair (.si .u32) (.pair (.i .i64) (.pair (.i .i64) (.us 32 .unit)))))))))))))))
abbrev hf_9e_0 : List BF := [(.list 1 y_91 true (.pair (.i .i64) (.pair (.i .i64) (.pair (.i .i64) (.cst .nils .unit))))), (.list 1 y_91 true (.pair (.i .i64) (.pair (.i .i64) (.pair (.i .i64) (.pair (.si .u32) .unit))))), (.list 1 y_91 true (.pair (.i .i64) (.pair (.i .i64) (.pair (.i .i64) (.pair (.si .u32) .unit))))), (.list 1 y_91 true (.pair (.i .i64) (.pair (.i .i64) (.pair (.i .i64) (.pair (.own 4 1 0 1) .unit))))), (.ints 1 y_90 true .u32)]
abbrev X_9e_0 : Xs := (.one (.exit 0) [5, 7, 11, 12, 13] (.us 5 (.cst (.ref 0 1 0) (.us 1 (.cst (.ref 1 1 0) (.us 3 (.pair (.i .u32) (.cst (.ref 2 1 0) (.pair (.i .u32) (.us 81 .unit))))))))) [(.list 1 y_91 true (.pair (.i .i64) (.pair (.i .i64) (.pair (.i .i64) (.cst .nils .unit))))), (.list 1 y_91 true (.pair (.i .i64) (.pair (.i .i64) (.pair (.i .i64) (.pair (.si .u32) .unit))))), (.list 1 y_91 true (.pair (.i .i64) (.pair (.i .i64) (.pair (.i .i64) (.pair (.own 3 1 0 1) .unit))))), (.ints 1 y_90 true .u32)])
abbrev S_9e_0 : Type := T ff_9e_0 × TH hf_9e_0
abbrev E_9e_0 : Type := TX X_9e_0
noncomputable def LB_9e_0 : Lps := L0
noncomputable def st_9e_0 : StepT S_9e_0 E_9e_0 := fun R v kn ko =>
 let x0 : List Int := v.1.2.2.1
 let x1 : Int := v.1.2.2.2.2.1
 let x2 : Nat := (Int.toNat x1)
 let x3 : List Int := v.2.2.2.1.2.2.2.1
 let x4 : Int := v.1.2.1
 let x5 : Int := v.1.1
 let x6 : List Int := v.2.2.1.2.2.2.1
 let x7 : Nat := v.2.2.2.2.1.2.2.2.1
 bif (decide (x1 < v.1.2.2.2.1)) then
 bif (decide (((0:Int) ≤ x1) ∧ (x1 < (((List.length x0) : Nat) : Int)))) then
 bif (decide (((0:Int) ≤ x1) ∧ (x1 < (((List.length x3) : Nat) : Int)))) then
 ((F_916 (List.getD x0 x2 (0:Int)) (List.getD x3 x2 (0:Int)))).bind fun r8 =>
 ((F_92e r8 r8 x4)).bind fun r9 =>
 ((F_915 r8 r8)).bind fun r10 =>
 ((F_918 r10 x5)).bind fun r11 =>
 bif (decide ((x7 + (1:Nat)) ≤ (1073741824:Nat))) then
 (kn ((x5, (r9, ((List.take (List.length x0) x0), (v.1.2.2.2.1, ((IntKind.wrap .i64 (x1 + (1:Int))), ()))))), (v.2.1, ((v.2.2.1.1, (v.2.2.1.2.1, (v.2.2.1.2.2.1, ((List.take (List.length x6) x6), ())))), ((v.2.2.2.1.1, (v.2.2.2.1.2.1, (v.2.2.2.1.2.2.1, ((List.take (List.length x3) x3), ())))), ((v.2.2.2.2.1.1, (v.2.2.2.2.1.2.1, (v.2.2.2.2.1.2.2.1, ((x7 + (1:Nat)), ())))), (((List.take x7 v.2.2.2.2.2.1) ++ [r11]), ())))))))
 else
 none
 else
 none
 else
 none
 else
 (ko ((x5, (x4, ())), (v.2.1, ((v.2.2.1.1, (v.2.2.1.2.1, (v.2.2.1.2.2.1, ((List.take (List.length x6) x6), ())))), v.2.2.2.2))))
noncomputable def ls_9e_0 : St → LTr := (lsum ff_9e_0 hf_9e_0 X_9e_0 Prod.mk id st_9e_0 (hd [(.via 12 3, y_90, 0, .ints .u32)] [] [5, 7, 9, 11, 12, 13, 60, 61, 62] 0))
theorem lp_9e_0 : LoopOk PR 0 (lpN f_9e 0) ls_9e_0 := loopT okO_9e mixed (L := LB_9e_0) (d := 1) (bs := []) (ks := [5, 7, 9, 11, 12, 13, 60, 61, 62]) (loopsL (l := []) (by kernel_rfl) trivial) (by kernel_rfl) (inS := Prod.mk) (outS := id) (fun _ _ => rfl) (inX := id) (outX := id) (fun _ => rfl) (fun v R kn ko => by kernel_rfl) (hd_wk [(.via 12 3, y_90, 0, .ints .u32)] [] [5, 7, 9, 11, 12, 13, 60, 61, 62] 0)
noncomputable def L_9e : Lps := (lpB 10 (.by_ ls_9e_0) L0)
noncomputable def F_9e (a0 : Int × Int × Int × List Int × Unit) (a1 : Int × Int × Int × List Int × Unit) : Option (Int × (Int × Int × Int × List Int × Unit) × Int × Unit) :=
 let x0 : Int := a0.2.2.1
 let x1 : List Int := a0.2.2.2.1
 let x2 : Int := a1.2.2.1
 let x3 : List Int := a1.2.2.2.1
 ((F_92d (a0.1, (a0.2.1, (x0, ((List.take (List.length x1) x1), ())))))).bind fun r4 =>
 let x5 : Int := r4.1.2.1
 let x6 : List Int := r4.1.2.2.2.1
 let x7 : Nat := (List.length x6)
 let x8 : List Int := (List.take x7 x6)
 let x9 : Int := r4.1.2.2.1
 ((F_92d (a1.1, (a1.2.1, (x2, ((List.take (List.length x3) x3), ())))))).bind fun r10 =>
 let x11 : Int := r10.1.2.1
 let x12 : Int := r10.1.2.2.1
 let x13 : List Int := r10.1.2.2.2.1
 bif (r4.2.1 != (0:Int)) then
 (some ((0:Int), (((0:Int), ((0:Int), ((0:Int), ([], ())))), ((21:Int), ()))))
 else
 bif (r10.2.1 != (0:Int)) then
 (some ((0:Int), (((0:Int), ((0:Int), ((0:Int), ([], ())))), ((21:Int), ()))))
 else
 bif (r4.1.1 != r10.1.1) then
 (some ((0:Int), (((0:Int), ((0:Int), ((0:Int), ([], ())))), ((21:Int), ()))))
 else
 bif (x5 != x11) then
 (some ((0:Int), (((0:Int), ((0:Int), ((0:Int), ([], ())))), ((21:Int), ()))))
 else
 ((F_912 (IntKind.wrap .i64 (r4.1.1 * x5)))).bind fun r14 =>
 ((lim st_9e_0 ((r14, ((0:Int), (x8, (((x7 : Nat) : Int), ((0:Int), ()))))), (((0:Int), ((0:Int), ((0:Int), ()))), ((r4.1.1, (x5, (x9, (x8, ())))), ((r10.1.1, (x11, (x12, ((List.take (List.length x13) x13), ())))), ((r4.1.1, (x5, ((2:Int), ((0:Nat), ())))), ([], ())))))))).bind fun r15 =>
 ((F_919 r15.1.2.1 r15.1.1 r15.2.2.1.1)).bind fun r16 =>
 (some (r16, ((r15.2.2.2.1.1, (r15.2.2.2.1.2.1, (r15.2.2.2.1.2.2.1, ((List.take r15.2.2.2.1.2.2.2.1 (List.drop (0:Nat) r15.2.2.2.2.1)), ())))), ((0:Int), ()))))
noncomputable def G_9e : T fa_9e → TH hN0 → Option (Int × (Int × Int × Int × List Int × Unit) × Int × Unit) := fun x y => F_9e x.1 x.2.1
noncomputable def c_9e : Orc := ent i_9e [] 0 (sp fa_9e hN0 fr_9e hN0 G_9e (outN fr_9e))
theorem ok_9e : OrcOk PR c_9e := fnT okO_9e mixed p_9e (by kernel_rfl) (by kernel_rfl) (L := L_9e) (kp := false) (by kernel_rfl) (inn := (innN fr_9e)) (out := (outN fr_9e)) (fun _ _ => rfl) (loopsL (l := [((lpN f_9e 0), ls_9e_0)]) (by kernel_rfl) ⟨lp_9e_0, trivial⟩) (fun x y => by kernel_rfl)
end Go.Proofs.YtkmkhcmfpbffjaaGreat.VI

namespace Go.Proofs.YtkmkhcmfpbffjaaGreat.VI
set_option linter.unusedVariables false
set_option linter.unusedSimpArgs false
set_option maxRecDepth 100000
set_option maxHeartbeats 4000000
def yOk (c y : Int) : Bool := decide (0 ≤ y) && decide (y < c)
def labE (t : TsT) (y : List Int) : Int :=
  if rightS t = true ∧ t.1 = (y.length : Int) ∧ ¬ (t.1 > 0 ∧ t.2.1 = 0) then (if y.all (yOk t.2.1) = true then 0 else 22) else 21
theorem lab_loop (a b f : Int) (W y : List Int) (hn : y.length < 4611686018427387904) :
    lim st_911_0 ((y, ((y.length : Int), ((0 : Int), ()))), (((0:Int), ((0:Int), ((0:Int), ()))), ((a, (b, (f, (W, ())))), ()))) =
      some (if y.all (yOk b) = true then Sum.inl ((), (((0:Int), ((0:Int), ((0:Int), ()))), ((a, (b, (f, (W, ())))), ()))) else Sum.inr (((22:Int), ()), (((0:Int), ((0:Int), ((0:Int), ()))), ()))) := by
  have stp : ∀ i, i < y.length → yOk b (y.getD i 0) = true → ∀ R kn ko, st_911_0 R ((y, ((y.length : Int), ((i : Int), ()))), (((0:Int), ((0:Int), ((0:Int), ()))), ((a, (b, (f, (W, ())))), ()))) kn ko
      = kn ((y, ((y.length : Int), (((i + 1 : Nat) : Int), ()))), (((0:Int), ((0:Int), ((0:Int), ()))), ((a, (b, (f, (W, ())))), ()))) := by
    intro i hi h R kn ko
    unfold yOk at h
    simp only [Bool.and_eq_true, decide_eq_true_eq] at h
    unfold st_911_0
    dsimp only
    simp only [List.take_length, bif_dec, Int.toNat_natCast]
    rw [if_pos (show (i : Int) < (y.length : Int) by omega), if_pos (show 0 ≤ (i : Int) ∧ (i : Int) < (y.length : Int) by omega), if_neg (show ¬ y.getD i 0 < 0 by omega), if_neg (show ¬ y.getD i 0 ≥ b by omega), wi64 (by omega), show ((i + 1 : Nat) : Int) = (i : Int) + 1 by omega]
  rcases first_or (fun i => !(yOk b (y.getD i 0))) y.length with h | ⟨k, hk, hb, hx⟩
  · have ha : y.all (yOk b) = true := all_get.2 fun i hi => by have := h i hi; simpa using this
    rw [if_pos ha]
    exact lim_seq (st := st_911_0) (fun i => ((y, ((y.length : Int), ((i : Int), ()))), (((0:Int), ((0:Int), ((0:Int), ()))), ((a, (b, (f, (W, ())))), ())))) y.length
      (fun i hi => stp i hi (by have := h i hi; simpa using this))
      (fun R kn ko => by
        unfold st_911_0
        dsimp only
        simp only [List.take_length, bif_dec]
        rw [if_neg (show ¬ (y.length : Int) < (y.length : Int) by omega)])
  · have ha : ¬ y.all (yOk b) = true := fun q => by have := all_get.1 q k hk; rw [this] at hx; cases hx
    rw [if_neg ha]
    exact lim_seq (st := st_911_0) (fun i => ((y, ((y.length : Int), ((i : Int), ()))), (((0:Int), ((0:Int), ((0:Int), ()))), ((a, (b, (f, (W, ())))), ())))) k
      (fun i hi => stp i (by omega) (by have := hb i hi; simpa using this))
      (fun R kn ko => by
        have hx' : ¬ (0 ≤ y.getD k 0 ∧ y.getD k 0 < b) := by
          intro q; have : yOk b (y.getD k 0) = true := by unfold yOk; rw [decide_eq_true q.1, decide_eq_true q.2]; rfl
          simp only [this] at hx; cases hx
        unfold st_911_0
        dsimp only
        simp only [List.take_length, bif_dec, Int.toNat_natCast]
        rw [if_pos (show (k : Int) < (y.length : Int) by omega), if_pos (show 0 ≤ (k : Int) ∧ (k : Int) < (y.length : Int) by omega)]
        by_cases c : y.getD k 0 < 0
        · rw [if_pos c]
        · rw [if_neg c, if_pos (show y.getD k 0 ≥ b by omega)])
theorem labE_bad {t : TsT} {y : List Int} (h : ¬ (rightS t = true ∧ t.1 = (y.length : Int) ∧ ¬ (t.1 > 0 ∧ t.2.1 = 0))) : labE t y = 21 := by unfold labE; rw [if_neg h]
theorem labE_ok {t : TsT} {y : List Int} (h : rightS t = true ∧ t.1 = (y.length : Int) ∧ ¬ (t.1 > 0 ∧ t.2.1 = 0)) : labE t y = if y.all (yOk t.2.1) = true then 0 else 22 := by unfold labE; rw [if_pos h]
theorem labelled_eq (t : TsT) (y : List Int) (hl : wl t.2.2.2.1) (hn : t.2.2.2.1.length ≤ 1073741824) (hy : y.length < 4611686018427387904) :
    F_911 t y = some (if labE t y = 0 then ((t.1, t.2.1, 2, wideL t, ()), 0, ()) else (noT, labE t y, ())) := by
  have hw := wide_eq t hl hn
  have B := fun h => @labE_bad t y h
  have O := fun h => @labE_ok t y h
  obtain ⟨a, b, f, A, ⟨⟩⟩ := t
  simp only at hl hn hw B O
  have L := lab_loop a b 2 (wideL (a, b, f, A, ())) y hy
  unfold F_911
  dsimp only
  simp only [List.take_length]
  rw [show F_92d (a, (b, (f, (A, ())))) = _ from hw]
  cases hr : rightS (a, b, f, A, ())
  · rw [B (by rw [hr]; simp)]; rfl
  · rw [hr] at B O
    simp only [Option.bind_some, if_true, bif_ne, List.take_length, bif_dec, bif_eq]
    by_cases h1 : a = (y.length : Int)
    · rw [if_pos h1, L]
      by_cases h2 : a > 0
      · rw [if_pos h2]
        by_cases h3 : b = 0
        · rw [if_pos h3, B (by rintro ⟨_, _, q⟩; exact q ⟨h2, h3⟩)]; rfl
        · rw [if_neg h3, O ⟨rfl, h1, fun q => h3 q.2⟩]
          cases y.all (yOk b) <;> simp [els]
      · rw [if_neg h2, O ⟨rfl, h1, fun q => h2 q.1⟩]
        cases y.all (yOk b) <;> simp [els]
    · rw [if_neg h1, B (fun q => h1 q.2.1)]; rfl
end Go.Proofs.YtkmkhcmfpbffjaaGreat.VI

namespace Go.Proofs.YtkmkhcmfpbffjaaGreat.VI
set_option linter.unusedVariables false
set_option linter.unusedSimpArgs false
set_option maxRecDepth 100000
set_option maxHeartbeats 4000000
def mseA (X Z : Nat → Int) : Nat → Int
  | 0 => 0
  | n + 1 => fma (subf (X n) (Z n)) (subf (X n) (Z n)) (mseA X Z n)
theorem mseA_w (X Z : Nat → Int) : ∀ n, w32 (mseA X Z n)
  | 0 => w0
  | n + 1 => fma_w _ _ _
def mseH (X Z : Nat → Int) (m : Int) (i : Nat) : Int := divf (addf (subf (X i) (Z i)) (subf (X i) (Z i))) m
def mseT (t u : TsT) : Int × TsT × Int × Unit :=
  if rightS t && rightS u && (decide (t.1 = u.1) && decide (t.2.1 = u.2.1)) then
    (if t.1 = 0 then 0 else divf (mseA (gl (wideL t)) (gl (wideL u)) t.2.2.2.1.length) (intf t.2.2.2.1.length), (t.1, t.2.1, 2, (List.range t.2.2.2.1.length).map (mseH (gl (wideL t)) (gl (wideL u)) (intf t.2.2.2.1.length)), ()), 0, ())
  else (0, noT, 21, ())
theorem range_app (h : Nat → Int) (i : Nat) : (List.range i).map h ++ [h i] = (List.range (i + 1)).map h := by
  rw [List.range_succ, List.map_append]; rfl
theorem mse_eq (t u : TsT) (hl : wl t.2.2.2.1) (hn : t.2.2.2.1.length ≤ 1073741824) (ul : wl u.2.2.2.1) (un : u.2.2.2.1.length ≤ 1073741824) : F_9e t u = some (mseT t u) := by
  have r1 := wide_eq t hl hn
  have r2 := wide_eq u ul un
  unfold mseT
  obtain ⟨a1, a2, a3, A, ⟨⟩⟩ := t
  obtain ⟨b1, b2, b3, B, ⟨⟩⟩ := u
  simp only at hl hn ul un
  unfold F_9e
  dsimp only
  simp only [List.take_length]
  rw [show F_92d (a1, (a2, (a3, (A, ())))) = _ from r1]
  simp only [Option.bind_some]
  rw [show F_92d (b1, (b2, (b3, (B, ())))) = _ from r2]
  simp only [Option.bind_some]
  cases c1 : rightS (a1, a2, a3, A, ())
  · simp [bif_ne]
  cases c2 : rightS (b1, b2, b3, B, ())
  · simp [bif_ne]
  simp only [if_true, bif_ne, Bool.true_and]
  by_cases h1 : a1 = b1
  · by_cases h2 : a2 = b2
    · subst h1; subst h2
      obtain ⟨R, C, rfl, rfl, hR, hC, lA, _, _⟩ := right_nat c1
      obtain ⟨R', C', e1, e2, _, _, lB, _, _⟩ := right_nat c2
      obtain rfl : R = R' := by omega
      obtain rfl : C = C' := by omega
      have hb := rc_bd hR hC
      rw [if_pos rfl, if_pos rfl, decide_eq_true rfl, decide_eq_true rfl]
      have eRC : (R : Int) * (C : Int) = ((R * C : Nat) : Int) := by simp
      rw [eRC, wi64 (n := ((R * C : Nat) : Int)) (by omega), ← lA, fsint_eq (by omega)]
      simp only [Option.bind_some, List.take_length, Bool.and_self, if_true]
      have lX := wideL_len ((R : Int), (C : Int), a3, A, ())
      have lZ := wideL_len ((R : Int), (C : Int), b3, B, ())
      have wX := wideL_wl ((R : Int), (C : Int), a3, A, ())
      have wZ := wideL_wl ((R : Int), (C : Int), b3, B, ())
      simp only at lX lZ
      generalize wideL ((R : Int), (C : Int), a3, A, ()) = X at *
      generalize wideL ((R : Int), (C : Int), b3, B, ()) = Z at *
      have wm := intf_w (A.length : Int)
      generalize intf (A.length : Int) = m at *
      have := lim_seq (st := st_9e_0) (fun i => ((m, (mseA (gl X) (gl Z) i, (X, ((X.length : Int), ((i : Int), ()))))), (((0:Int), ((0:Int), ((0:Int), ()))), (((R : Int), ((C : Int), ((2:Int), (X, ())))), (((R : Int), ((C : Int), ((2:Int), (Z, ())))), (((R : Int), ((C : Int), ((2:Int), (i, ())))), ((List.range i).map (mseH (gl X) (gl Z) m), ())))))))
        (b := ((m, (mseA (gl X) (gl Z) X.length, ())), (((0:Int), ((0:Int), ((0:Int), ()))), (((R : Int), ((C : Int), ((2:Int), (X, ())))), (((R : Int), ((C : Int), ((2:Int), (X.length, ())))), ((List.range X.length).map (mseH (gl X) (gl Z) m), ())))))) X.length
        (fun i hi Q kn ko => by
          have e1 := fsub_eq (wl_get wX i) (wl_get wZ i)
          have wd : w32 (subf (X.getD i 0) (Z.getD i 0)) := subf_w _ _
          have hl2 : List.take i ((List.range i).map (mseH (gl X) (gl Z) m)) = (List.range i).map (mseH (gl X) (gl Z) m) := List.take_of_length_le (by simp)
          unfold st_9e_0
          dsimp only
          simp only [List.take_length, bif_dec, Int.toNat_natCast, hl2]
          rw [if_pos (show (i : Int) < (X.length : Int) by omega), if_pos (show 0 ≤ (i : Int) ∧ (i : Int) < (X.length : Int) by omega), if_pos (show 0 ≤ (i : Int) ∧ (i : Int) < (Z.length : Int) by omega)]
          rw [show F_916 (X.getD i 0) (Z.getD i 0) = _ from e1]
          simp only [Option.bind_some]
          rw [ffma_eq wd wd (mseA_w _ _ i)]
          simp only [Option.bind_some]
          rw [fadd_eq wd wd]
          simp only [Option.bind_some]
          rw [fdiv_eq (addf_w _ _) wm]
          simp only [Option.bind_some]
          rw [if_pos (show i + 1 ≤ 1073741824 by omega), wi64 (by omega), show ((i + 1 : Nat) : Int) = (i : Int) + 1 by omega, ← range_app]
          rfl)
        (fun Q kn ko => by
          unfold st_9e_0
          dsimp only
          simp only [List.take_length, bif_dec]
          rw [if_neg (show ¬ (X.length : Int) < (X.length : Int) by omega)])
      have e : lim st_9e_0 ((m, ((0 : Int), (X, ((X.length : Int), ((0 : Int), ()))))), (((0:Int), ((0:Int), ((0:Int), ()))), (((R : Int), ((C : Int), ((2:Int), (X, ())))), (((R : Int), ((C : Int), ((2:Int), (Z, ())))), (((R : Int), ((C : Int), ((2:Int), ((0:Nat), ())))), ([], ())))))) = _ := this
      rw [e]
      simp only [Option.bind_some, List.drop_zero]
      have hl3 : List.take X.length ((List.range X.length).map (mseH (gl X) (gl Z) m)) = (List.range X.length).map (mseH (gl X) (gl Z) m) := List.take_of_length_le (by simp)
      rw [hl3, lX]
      unfold F_919
      rw [bif_eq]
      by_cases h0 : (R : Int) = 0
      · rw [if_pos h0, if_pos h0]; rfl
      · rw [if_neg h0, if_neg h0, fdiv_eq (mseA_w _ _ _) wm]; rfl
    · rw [if_pos h1, if_neg h2, decide_eq_false h2]; simp
  · rw [if_neg h1, decide_eq_false h1]; simp
end Go.Proofs.YtkmkhcmfpbffjaaGreat.VI

namespace Go.Proofs.YtkmkhcmfpbffjaaGreat.VI
set_option linter.unusedVariables false
set_option linter.unusedSimpArgs false
set_option maxRecDepth 100000
set_option maxHeartbeats 4000000
theorem pick_eq (f : Int) {a b : Int} (ha : w32 a) (hb : w32 b) (t : Bool) : F_957 f a b t = some (pck f a b t) := by
  unfold F_957 pck
  rw [isnan_eq f ha, isnan_eq f hb, mask_eq, nan_w]
  simp only [Option.bind_some, and_TT f ha.1 ha.2, and_TT f hb.1 hb.2]
  cases nan f a <;> cases nan f b <;> cases t <;> rfl
theorem max_eq' (f : Int) {a b : Int} (ha : w32 a) (hb : w32 b) : F_931 f a b = some (pck f a b (decide (ky f a > ky f b))) := by
  unfold F_931; rw [key_eq f ha, key_eq f hb]; simp only [Option.bind_some, pick_eq f ha hb]
end Go.Proofs.YtkmkhcmfpbffjaaGreat.VI

namespace Go.Proofs.YtkmkhcmfpbffjaaGreat.VI
set_option linter.unusedVariables false
set_option linter.unusedSimpArgs false
set_option maxRecDepth 100000
set_option maxHeartbeats 4000000
def mx2 (a b : Int) : Int := pck 2 a b (decide (ky 2 a > ky 2 b))
theorem mx2_w (a b : Int) : w32 (mx2 a b) := by
  unfold mx2 pck
  have e : ∀ x : Int, w32 (x % (2 * TT 2)) := fun x => ⟨by show 0 ≤ x % 4294967296; omega, by show x % 4294967296 < 4294967296; omega⟩
  split
  · split
    · exact wlit rfl
    · exact e _
  · split
    · exact e _
    · split
      · exact e _
      · exact e _
def mxf (R : Nat → Int) (m : Int) (a : Nat) : Nat → Int
  | 0 => m
  | k + 1 => mx2 (mxf R m a k) (R (a + k))
theorem mxf_w (R : Nat → Int) {m : Int} (hm : w32 m) (a : Nat) : ∀ k, w32 (mxf R m a k)
  | 0 => hm
  | k + 1 => mx2_w _ _
theorem mx2_nan {a b : Int} (ha : nan 2 a = true) (hb : nan 2 b = true) (x : Int) : mx2 a x = mx2 b x := by
  unfold mx2 pck; rw [ha, hb]; simp
theorem mx2_self {a : Int} (h : w32 a) : mx2 a a = a ∨ (nan 2 a = true ∧ nan 2 (mx2 a a) = true) := by
  have h0 := h.1
  have h1 := h.2
  have e : a % (2 * TT 2) = a := by show a % 4294967296 = a; omega
  cases hn : nan 2 a
  · left; unfold mx2 pck; rw [hn]; simp [e]
  · right; refine ⟨rfl, ?_⟩; unfold mx2 pck; rw [hn]; simp; decide
theorem mxf_two (R : Nat → Int) (h : w32 (R 0)) : ∀ k, mxf R (R 0) 0 (k + 1) = mxf R (R 0) 1 k ∨ (nan 2 (mxf R (R 0) 0 (k + 1)) = true ∧ nan 2 (mxf R (R 0) 1 k) = true)
  | 0 => by
    show mx2 (R 0) (R (0 + 0)) = R 0 ∨ _
    rcases mx2_self h with e | ⟨e1, e2⟩
    · left; exact e
    · right; exact ⟨e2, e1⟩
  | k + 1 => by
    show mx2 (mxf R (R 0) 0 (k + 1)) (R (0 + (k + 1))) = mx2 (mxf R (R 0) 1 k) (R (1 + k)) ∨ _
    rw [show 0 + (k + 1) = 1 + k by omega]
    rcases mxf_two R h k with e | ⟨e1, e2⟩
    · left; rw [e]
    · left; exact mx2_nan e1 e2 _
theorem subf_nan {a m : Int} (h : nan 2 m = true) : subf a m = 2143289344 := by
  unfold subf subS; rw [h]; simp; decide
theorem sub_two (R : Nat → Int) (h : w32 (R 0)) (k : Nat) (x : Int) : subf x (mxf R (R 0) 0 (k + 1)) = subf x (mxf R (R 0) 1 k) := by
  rcases mxf_two R h k with e | ⟨e1, e2⟩
  · rw [e]
  · rw [subf_nan e1, subf_nan e2]
def sacc (R : Nat → Int) (m : Int) : Nat → Int
  | 0 => 0
  | k + 1 => addf (sacc R m k) (expS (subf (R k) m))
theorem sacc_w (R : Nat → Int) (m : Int) : ∀ k, w32 (sacc R m k)
  | 0 => w0
  | k + 1 => addf_w _ _
theorem sacc_two (R : Nat → Int) (h : w32 (R 0)) (j : Nat) : ∀ k, sacc R (mxf R (R 0) 0 (j + 1)) k = sacc R (mxf R (R 0) 1 j) k
  | 0 => rfl
  | k + 1 => by unfold sacc; rw [sacc_two R h j k, sub_two R h]
theorem fmax_eq {a b : Int} (ha : w32 a) (hb : w32 b) : F_931 2 a b = some (mx2 a b) := max_eq' 2 ha hb
theorem shares_eq (l : List Int) (hl : wl l) (hn : l.length ≤ 1073741824) (h0 : 0 < l.length) :
    F_914 l = some ((List.range l.length).map (fun j => expS (subf (gl l j) (mxf (gl l) (gl l 0) 0 l.length))), sacc (gl l) (mxf (gl l) (gl l 0) 0 l.length) l.length, mxf (gl l) (gl l 0) 0 l.length, ()) := by
  have A := lim_seq (st := st_914_0) (fun i => ((l, (mxf (gl l) (gl l 0) 0 i, (l, ((l.length : Int), ((i : Int), ()))))), ()))
    (b := ((l, (mxf (gl l) (gl l 0) 0 l.length, ())), ())) l.length
    (fun i hi R kn ko => by
      have e1 := fmax_eq (mxf_w (gl l) (wl_get hl 0) 0 i) (wl_get hl i)
      unfold st_914_0
      dsimp only
      simp only [List.take_length, bif_dec, Int.toNat_natCast]
      rw [if_pos (show (i : Int) < (l.length : Int) by omega), if_pos (show 0 ≤ (i : Int) ∧ (i : Int) < (l.length : Int) by omega)]
      rw [show F_931 2 (mxf (gl l) (gl l 0) 0 i) (l.getD i 0) = _ from e1]
      simp only [Option.bind_some]
      rw [wi64 (by omega), show ((i + 1 : Nat) : Int) = (i : Int) + 1 by omega]
      rw [show mxf (gl l) (gl l 0) 0 (i + 1) = mx2 (mxf (gl l) (gl l 0) 0 i) (gl l (0 + i)) from rfl, show 0 + i = i by omega])
    (fun R kn ko => by
      unfold st_914_0
      dsimp only
      simp only [List.take_length, bif_dec]
      rw [if_neg (show ¬ (l.length : Int) < (l.length : Int) by omega)])
  have eA : lim st_914_0 ((l, ((List.getD l (0:Nat) (0:Int)), (l, ((l.length : Int), ((0:Int), ()))))), ()) = _ := A
  have wm := mxf_w (gl l) (wl_get hl 0) 0 l.length
  have B := fun (m : Int) (wm : w32 m) => lim_seq (st := st_914_1) (fun i => ((m, (i, (sacc (gl l) m i, (l, ((l.length : Int), ((i : Int), ())))))), ((List.range i).map (fun j => expS (subf (gl l j) m)), ())))
    (b := ((m, (l.length, (sacc (gl l) m l.length, ()))), ((List.range l.length).map (fun j => expS (subf (gl l j) m)), ()))) l.length
    (fun i hi R kn ko => by
      have e1 := fsub_eq (wl_get hl i) wm
      have hl2 : List.take i ((List.range i).map (fun j => expS (subf (gl l j) m))) = (List.range i).map (fun j => expS (subf (gl l j) m)) := List.take_of_length_le (by simp)
      unfold st_914_1
      dsimp only
      simp only [List.take_length, bif_dec, Int.toNat_natCast, hl2]
      rw [if_pos (show (i : Int) < (l.length : Int) by omega), if_pos (show 0 ≤ (i : Int) ∧ (i : Int) < (l.length : Int) by omega)]
      rw [show F_916 (l.getD i 0) m = _ from e1]
      simp only [Option.bind_some]
      rw [exp_eq (subf_w _ _)]
      simp only [Option.bind_some]
      rw [if_pos (show i + 1 ≤ 1073741824 by omega), fadd_eq (sacc_w _ _ i) exp_w]
      simp only [Option.bind_some]
      rw [wi64 (by omega), show ((i + 1 : Nat) : Int) = (i : Int) + 1 by omega, ← range_app]
      rfl)
    (fun R kn ko => by
      unfold st_914_1
      dsimp only
      simp only [List.take_length, bif_dec]
      rw [if_neg (show ¬ (l.length : Int) < (l.length : Int) by omega)])
  unfold F_914
  dsimp only
  simp only [List.take_length, bif_dec]
  rw [if_pos (by omega), eA]
  simp only [Option.bind_some, List.take_length]
  have eB : lim st_914_1 ((mxf (gl l) (gl l 0) 0 l.length, ((0:Nat), ((0:Int), (l, ((l.length : Int), ((0:Int), ())))))), ([], ())) = _ := B _ wm
  rw [eB]
  simp only [Option.bind_some, List.drop_zero]
  rw [List.take_of_length_le (by simp)]
end Go.Proofs.YtkmkhcmfpbffjaaGreat.VI

namespace Go.Proofs.YtkmkhcmfpbffjaaGreat.VI
set_option linter.unusedVariables false
set_option linter.unusedSimpArgs false
set_option maxRecDepth 100000
set_option maxHeartbeats 8000000
def rwM (w : Nat → Int) (C : Nat) : Int := mxf w (w 0) 1 (C - 1)
def smG (w : Nat → Int) (C : Nat) (l m : Int) (j : Nat) : Int := divf (subf (divf (expS (subf (w j) (rwM w C))) (sacc w (rwM w C) C)) (if (j : Int) = l then 1065353216 else 0)) m
def smL (w : Nat → Int) (C : Nat) (l : Int) : Int := subf (logS (sacc w (rwM w C) C)) (subf (w l.toNat) (rwM w C))
def smA (X y : List Int) (C : Nat) : Nat → Int
  | 0 => 0
  | r + 1 => addf (smA X y C r) (smL (gl (rowL X C r)) C (y.getD r 0))
theorem smA_w (X y : List Int) (C : Nat) : ∀ r, w32 (smA X y C r)
  | 0 => w0
  | r + 1 => addf_w _ _
def smH (X y : List Int) (C : Nat) (m : Int) (k : Nat) : Int := smG (gl (rowL X C (k / C))) C (y.getD (k / C) 0) m (k % C)
theorem smH_at {X y : List Int} {C : Nat} {m : Int} {r j : Nat} (hj : j < C) : smH X y C m (r * C + j) = smG (gl (rowL X C r)) C (y.getD r 0) m j := by
  have h1 : (r * C + j) / C = r := by rw [Nat.mul_comm, Nat.mul_add_div (by omega), Nat.div_eq_of_lt hj]; omega
  have h2 : (r * C + j) % C = j := by rw [Nat.mul_comm, Nat.mul_add_mod, Nat.mod_eq_of_lt hj]
  unfold smH; rw [h1, h2]
def smT (t : TsT) (y : List Int) : Int × TsT × Int × Unit :=
  if labE t y = 0 then (if t.1 = 0 then 0 else divf (smA (wideL t) y t.2.1.toNat t.1.toNat) (intf t.1), (t.1, t.2.1, 2, (List.range (t.1.toNat * t.2.1.toNat)).map (smH (wideL t) y t.2.1.toNat (intf t.1)), ()), 0, ())
  else (0, noT, labE t y, ())
theorem shares_row {X : List Int} {R C r : Nat} (hX : X.length = R * C) (wX : wl X) (hr : r < R) (hC : 0 < C) (hC2 : C ≤ 4096) :
    ∃ mP, F_914 (rowL X C r) = some ((List.range C).map (fun j => expS (subf (gl (rowL X C r) j) (rwM (gl (rowL X C r)) C))), sacc (gl (rowL X C r)) (rwM (gl (rowL X C r)) C) C, mP, ())
      ∧ w32 mP ∧ ∀ x, subf x mP = subf x (rwM (gl (rowL X C r)) C) := by
  have hl := rowL_len hX hr
  have hw := rowL_wl (C := C) (i := r) wX
  have hs := shares_eq (rowL X C r) hw (by omega) (by omega)
  rw [hl] at hs
  generalize rowL X C r = l at *
  obtain ⟨k, rfl⟩ : ∃ k, C = k + 1 := ⟨C - 1, by omega⟩
  have w0 : w32 (gl l 0) := wl_get hw 0
  have e2 := fun x => sub_two (gl l) w0 k x
  have e3 := sacc_two (gl l) w0 k (k + 1)
  refine ⟨mxf (gl l) (gl l 0) 0 (k + 1), ?_, mxf_w _ w0 _ _, e2⟩
  rw [hs, e3]
  have : (List.range (k + 1)).map (fun j => expS (subf (gl l j) (mxf (gl l) (gl l 0) 0 (k + 1)))) = (List.range (k + 1)).map (fun j => expS (subf (gl l j) (rwM (gl l) (k + 1)))) := by
    apply List.map_congr_left
    intro j _
    rw [e2]; rfl
  rw [this]; rfl
theorem lline_eq (f : Int) (l : List Int) (R C i : Nat) (hR : R ≤ 4096) (hC : C ≤ 4096) (hl : l.length = R * C) (hi : i < R) : F_913 ((R : Int), (C : Int), f, l, ()) (i : Int) = some (rowL l C i) :=
  line_eq f l R C i hR hC hl hi
theorem grad_loop (R C r : Nat) (X y : List Int) (m tot l : Int) (z : Int × Int × Int × Unit) (hX : X.length = R * C) (wX : wl X) (hr : r < R) (hR : R ≤ 4096) (hC : 0 < C) (hC2 : C ≤ 4096) (hm : w32 m) (hl : y.getD r 0 = l) :
    lim st_97_1 ((m, (tot, (l, (sacc (gl (rowL X C r)) (rwM (gl (rowL X C r)) C) C, (y, ((y.length : Int), ((r : Int), ((List.range C).map (fun j => expS (subf (gl (rowL X C r) j) (rwM (gl (rowL X C r)) C))), ((C : Int), ((0 : Int), ())))))))))), (z, (((R : Int), ((C : Int), ((2:Int), (X, ())))), (((R : Int), ((C : Int), ((2:Int), (r * C, ())))), ((List.range (r * C)).map (smH X y C m), ()))))) =
      some ((m, (tot, (y, ((y.length : Int), ((r : Int), ()))))), (z, (((R : Int), ((C : Int), ((2:Int), (X, ())))), (((R : Int), ((C : Int), ((2:Int), ((r + 1) * C, ())))), ((List.range ((r + 1) * C)).map (smH X y C m), ()))))) := by
  have h1 : (r + 1) * C ≤ R * C := Nat.mul_le_mul_right _ hr
  have h2 : R * C ≤ 4096 * 4096 := Nat.mul_le_mul hR hC2
  have h3 : (r + 1) * C = r * C + C := by rw [Nat.add_mul]; omega
  have hw := rowL_wl (C := C) (i := r) wX
  have hgl : ∀ j, j < C → ((List.range C).map (fun j => expS (subf (gl (rowL X C r) j) (rwM (gl (rowL X C r)) C)))).getD j 0 = expS (subf (gl (rowL X C r) j) (rwM (gl (rowL X C r)) C)) := fun j hj => gl_mapA hj
  have hlen : ((List.range C).map (fun j => expS (subf (gl (rowL X C r) j) (rwM (gl (rowL X C r)) C)))).length = C := by simp
  have hH : ∀ j, j < C → smH X y C m (r * C + j) = smG (gl (rowL X C r)) C l m j := fun j hj => by rw [smH_at hj, hl]
  have ws := sacc_w (gl (rowL X C r)) (rwM (gl (rowL X C r)) C) C
  unfold smG at hH
  generalize (List.range C).map (fun j => expS (subf (gl (rowL X C r) j) (rwM (gl (rowL X C r)) C))) = E at *
  generalize sacc (gl (rowL X C r)) (rwM (gl (rowL X C r)) C) C = s at *
  have := lim_seq (st := st_97_1) (fun j => ((m, (tot, (l, (s, (y, ((y.length : Int), ((r : Int), (E, ((C : Int), ((j : Int), ())))))))))), (z, (((R : Int), ((C : Int), ((2:Int), (X, ())))), (((R : Int), ((C : Int), ((2:Int), (r * C + j, ())))), ((List.range (r * C + j)).map (smH X y C m), ()))))))
    (b := ((m, (tot, (y, ((y.length : Int), ((r : Int), ()))))), (z, (((R : Int), ((C : Int), ((2:Int), (X, ())))), (((R : Int), ((C : Int), ((2:Int), (r * C + C, ())))), ((List.range (r * C + C)).map (smH X y C m), ())))))) C
    (fun j hj Q kn ko => by
      have we : w32 (expS (subf (gl (rowL X C r) j) (rwM (gl (rowL X C r)) C))) := exp_w
      have hl2 : List.take (r * C + j) ((List.range (r * C + j)).map (smH X y C m)) = (List.range (r * C + j)).map (smH X y C m) := List.take_of_length_le (by simp)
      have wo : w32 (if (j : Int) = l then (1065353216 : Int) else 0) := by split <;> exact wlit rfl
      unfold st_97_1
      dsimp only
      simp only [List.take_length]
      simp only [bif_dec, bif_eq, Int.toNat_natCast, hl2, hlen]
      rw [if_pos (show (j : Int) < (C : Int) by omega), if_pos (show 0 ≤ (j : Int) ∧ (j : Int) < (C : Int) by omega), hgl j hj, fdiv_eq we ws]
      simp only [Option.bind_some]
      rw [fsub_eq (divf_w _ _) wo]
      simp only [Option.bind_some]
      rw [fdiv_eq (subf_w _ _) hm]
      simp only [Option.bind_some]
      rw [if_pos (show r * C + j + 1 ≤ 1073741824 by omega), wi64 (by omega), show ((j + 1 : Nat) : Int) = (j : Int) + 1 by omega, ← hH j hj, range_app]
      rfl)
    (fun Q kn ko => by
      unfold st_97_1
      dsimp only
      simp only [List.take_length, bif_dec]
      rw [if_neg (show ¬ (C : Int) < (C : Int) by omega)])
  rw [h3]
  exact this
theorem softmax_eq (t : TsT) (y : List Int) (tl : wl t.2.2.2.1) (tn : t.2.2.2.1.length ≤ 1073741824) (hy : y.length < 4611686018427387904) : F_97 t y = some (smT t y) := by
  have hlab := labelled_eq t y tl tn hy
  unfold smT
  by_cases h0 : labE t y = 0
  · rw [if_pos h0] at hlab ⊢
    have hk : rightS t = true ∧ t.1 = (y.length : Int) ∧ ¬ (t.1 > 0 ∧ t.2.1 = 0) := by
      apply Classical.byContradiction; intro q; rw [labE_bad q] at h0; cases h0
    have hall : y.all (yOk t.2.1) = true := by
      rw [labE_ok hk] at h0; apply Classical.byContradiction; intro q; rw [if_neg q] at h0; cases h0
    obtain ⟨a, b, f, A, ⟨⟩⟩ := t
    simp only at tl tn hk hall
    obtain ⟨R, C, rfl, rfl, hR, hC, lA, _, _⟩ := right_nat hk.1
    have hb := rc_bd hR hC
    have hyl : y.length = R := by have := hk.2.1; omega
    have hC0 : 0 < R → 0 < C := fun q => by have := hk.2.2; omega
    have lX := wideL_len ((R : Int), (C : Int), f, A, ())
    have wX := wideL_wl ((R : Int), (C : Int), f, A, ())
    simp only at lX
    unfold F_97
    dsimp only
    simp only [List.take_length]
    rw [show F_911 ((R : Int), ((C : Int), (f, (A, ())))) y = _ from hlab]
    simp only [Option.bind_some, bif_ne, if_true, List.take_length, Int.toNat_natCast]
    rw [fsint_eq (by omega)]
    simp only [Option.bind_some]
    rw [lA] at lX
    generalize wideL ((R : Int), (C : Int), f, A, ()) = X at *
    have wm := intf_w (R : Int)
    generalize intf (R : Int) = m at *
    have := lim_seq (st := st_97_0) (fun r => ((m, (smA X y C r, (y, ((y.length : Int), ((r : Int), ()))))), (((0:Int), ((0:Int), ((0:Int), ()))), (((R : Int), ((C : Int), ((2:Int), (X, ())))), (((R : Int), ((C : Int), ((2:Int), (r * C, ())))), ((List.range (r * C)).map (smH X y C m), ()))))))
      (b := ((m, (smA X y C R, ())), (((0:Int), ((0:Int), ((0:Int), ()))), (((R : Int), ((C : Int), ((2:Int), (X, ())))), (((R : Int), ((C : Int), ((2:Int), (R * C, ())))), ((List.range (R * C)).map (smH X y C m), ())))))) R
      (fun r hr Q kn ko => by
        have hC1 := hC0 (by omega)
        have hyr : 0 ≤ y.getD r 0 ∧ y.getD r 0 < (C : Int) := by
          have := all_get.1 hall r (by omega)
          unfold yOk at this
          simpa using this
        obtain ⟨mP, hs, wP, hP⟩ := shares_row lX wX hr hC1 hC
        have hL := lline_eq 2 X R C r hR hC lX hr
        have hrl := rowL_len lX hr
        have hrw := rowL_wl (C := C) (i := r) wX
        have hG := grad_loop R C r X y m (smA X y C (r + 1)) (y.getD r 0) ((0:Int), ((0:Int), ((0:Int), ()))) lX wX hr hR hC1 hC wm rfl
        have ws := sacc_w (gl (rowL X C r)) (rwM (gl (rowL X C r)) C) C
        unfold st_97_0
        dsimp only
        simp only [List.take_length]
        simp only [bif_dec, Int.toNat_natCast, hyl]
        rw [if_pos (show (r : Int) < (R : Int) by omega), if_pos (show 0 ≤ (r : Int) ∧ (r : Int) < (R : Int) by omega)]
        rw [show F_913 ((R : Int), ((C : Int), ((2:Int), (X, ())))) (r : Int) = _ from hL]
        simp only [Option.bind_some, List.take_length]
        rw [hs]
        simp only [Option.bind_some, hrl]
        rw [log_eq ws]
        simp only [Option.bind_some]
        rw [if_pos hyr]
        rw [show F_916 ((rowL X C r).getD (y.getD r 0).toNat 0) mP = _ from fsub_eq (wl_get hrw _) wP]
        simp only [Option.bind_some]
        rw [hP, fsub_eq (log_w ws) (subf_w _ _)]
        simp only [Option.bind_some]
        rw [fadd_eq (smA_w X y C r) (subf_w _ _)]
        simp only [Option.bind_some, List.take_length, List.length_map, List.length_range]
        rw [hyl] at hG
        rw [show addf (smA X y C r) (subf (logS (sacc (gl (rowL X C r)) (rwM (gl (rowL X C r)) C) C)) (subf ((rowL X C r).getD (y.getD r 0).toNat 0) (rwM (gl (rowL X C r)) C))) = smA X y C (r + 1) from rfl]
        rw [hG]
        simp only [Option.bind_some, List.take_length]
        rw [wi64 (by omega), show ((r + 1 : Nat) : Int) = (r : Int) + 1 by omega])
      (fun Q kn ko => by
        unfold st_97_0
        dsimp only
        simp only [List.take_length, bif_dec, hyl]
        rw [if_neg (show ¬ (R : Int) < (R : Int) by omega)])
    rw [Nat.zero_mul] at this
    rw [show lim st_97_0 ((m, ((0 : Int), (y, ((y.length : Int), ((0 : Int), ()))))), (((0:Int), ((0:Int), ((0:Int), ()))), (((R : Int), ((C : Int), ((2:Int), (X, ())))), (((R : Int), ((C : Int), ((2:Int), ((0:Nat), ())))), ([], ()))))) = _ from this]
    simp only [Option.bind_some, List.drop_zero]
    have hl3 : List.take (R * C) ((List.range (R * C)).map (smH X y C m)) = (List.range (R * C)).map (smH X y C m) := List.take_of_length_le (by simp)
    rw [hl3]
    unfold F_919
    rw [bif_eq]
    by_cases hz : (R : Int) = 0
    · rw [if_pos hz, if_pos hz]; rfl
    · rw [if_neg hz, if_neg hz, fdiv_eq (smA_w _ _ _ _) wm]; rfl
  · rw [if_neg h0] at hlab ⊢
    obtain ⟨a, b, f, A, ⟨⟩⟩ := t
    unfold F_97
    dsimp only
    simp only [List.take_length]
    rw [show F_911 (a, (b, (f, (A, ())))) y = _ from hlab]
    simp only [Option.bind_some, bif_ne]
    rw [if_neg h0]
end Go.Proofs.YtkmkhcmfpbffjaaGreat.VI

namespace Go.Proofs.YtkmkhcmfpbffjaaGreat.VI
set_option linter.unusedVariables false
set_option linter.unusedSimpArgs false
set_option maxRecDepth 100000
set_option maxHeartbeats 8000000
theorem cmp_gt (f a b : Int) : ((cmp f a b).2 && decide ((cmp f a b).1 > 0)) = lt f b a := by
  unfold lt cmp
  rw [Bool.or_comm (nan f b), Bool.and_comm (zr f b)]
  split
  · rfl
  split
  · rfl
  split
  · rw [if_neg (by omega)]; simp
  split
  · simp
  · simp
theorem cmp_lt (f a b : Int) : ((cmp f a b).2 && decide ((cmp f a b).1 < 0)) = lt f a b := by
  unfold lt cmp
  split
  · rfl
  split
  · rfl
  split
  · rfl
  split
  · rfl
  · rfl
def gdR (w : Nat → Int) (l : Int) (j : Nat) : Bool := !((decide ((j : Int) < l) && !lt 2 (w j) (w l.toNat)) || (decide ((j : Int) > l) && lt 2 (w l.toNat) (w j)))
def flg (w : Nat → Int) (l : Int) : Nat → Bool
  | 0 => true
  | c + 1 => flg w l c && gdR w l c
theorem flg_all (w : Nat → Int) (l : Int) : ∀ c, flg w l c = true ↔ ∀ i, i < c → gdR w l i = true
  | 0 => by simp [flg]
  | c + 1 => by
    unfold flg
    rw [Bool.and_eq_true, flg_all w l c]
    constructor
    · rintro ⟨a, b⟩ i hi
      rcases Nat.lt_succ_iff_lt_or_eq.1 hi with h | h
      · exact a i h
      · subst h; exact b
    · intro h; exact ⟨fun i hi => h i (by omega), h c (by omega)⟩
theorem best_eq (X : List Int) (l : Int) (hX : wl X) (hn : X.length ≤ 1073741824) (h0 : 0 ≤ l) (h1 : l < (X.length : Int)) : F_91c X l = some (flg (gl X) l X.length) := by
  have wo : w32 (X.getD l.toNat 0) := wl_get hX _
  have stp : ∀ i, i < X.length → ∀ Q kn ko, st_91c_0 Q ((X, (l, (X, ((X.length : Int), ((i : Int), ()))))), ()) kn ko =
      if gdR (gl X) l i = true then kn ((X, (l, (X, ((X.length : Int), (((i + 1 : Nat) : Int), ()))))), ()) else ko (Sum.inr ((false, ()), ())) := by
    intro i hi Q kn ko
    have g1 := cmp_gt 2 (X.getD l.toNat 0) (X.getD i 0)
    have g2 := cmp_lt 2 (X.getD l.toNat 0) (X.getD i 0)
    unfold st_91c_0
    dsimp only
    simp only [List.take_length]
    simp only [bif_dec, Int.toNat_natCast]
    rw [if_pos (show (i : Int) < (X.length : Int) by omega), if_pos (show 0 ≤ (i : Int) ∧ (i : Int) < (X.length : Int) by omega), if_pos (show 0 ≤ l ∧ l < (X.length : Int) from ⟨h0, h1⟩), cmp_eq 2 wo (wl_get hX i)]
    simp only [Option.bind_some]
    rw [wi64 (by omega), show (i : Int) + 1 = ((i + 1 : Nat) : Int) by omega]
    unfold gdR
    rw [show lt 2 (gl X i) (gl X l.toNat) = _ from g1.symm, show lt 2 (gl X l.toNat) (gl X i) = _ from g2.symm]
    generalize cmp 2 (X.getD l.toNat 0) (X.getD i 0) = q
    obtain ⟨c, ok⟩ := q
    by_cases a1 : (i : Int) < l
    · have a2 : ¬ (i : Int) > l := by omega
      cases ok
      · simp [a1, a2]
      · by_cases a3 : c > 0
        · have a4 : ¬ c < 0 := by omega
          simp [a1, a2, a3, a4]
        · simp [a1, a2, a3]
    · by_cases a2 : (i : Int) > l
      · cases ok
        · simp [a1, a2]
        · by_cases a3 : c < 0
          · simp [a1, a2, a3]
          · simp [a1, a2, a3]
      · simp [a1, a2]
  have en : ∀ Q kn ko, st_91c_0 Q ((X, (l, (X, ((X.length : Int), (((X.length : Nat) : Int), ()))))), ()) kn ko = ko (Sum.inl ((), ())) := by
    intro Q kn ko
    unfold st_91c_0
    dsimp only
    simp only [List.take_length, bif_dec]
    rw [if_neg (show ¬ (X.length : Int) < (X.length : Int) by omega)]
  unfold F_91c
  dsimp only
  simp only [List.take_length]
  rcases first_or (fun i => !(gdR (gl X) l i)) X.length with h | ⟨k, hk, hb, hx⟩
  · have ha : flg (gl X) l X.length = true := (flg_all _ _ _).2 fun i hi => by have := h i hi; simpa using this
    have := lim_seq (st := st_91c_0) (fun i => ((X, (l, (X, ((X.length : Int), ((i : Int), ()))))), ())) X.length
      (fun i hi Q kn ko => by rw [stp i hi, if_pos (by have := h i hi; simpa using this)]) en
    rw [show lim st_91c_0 ((X, (l, (X, ((X.length : Int), ((0 : Int), ()))))), ()) = _ from this, ha]
    rfl
  · have ha : flg (gl X) l X.length = false := by
      rw [Bool.eq_false_iff]; intro q
      have := (flg_all _ _ _).1 q k hk
      simp only [this] at hx; cases hx
    have := lim_seq (st := st_91c_0) (fun i => ((X, (l, (X, ((X.length : Int), ((i : Int), ()))))), ())) (b := Sum.inr ((false, ()), ())) k
      (fun i hi Q kn ko => by rw [stp i (by omega), if_pos (by have := hb i hi; simpa using this)])
      (fun Q kn ko => by rw [stp k hk, if_neg (by intro q; rw [q] at hx; cases hx)])
    rw [show lim st_91c_0 ((X, (l, (X, ((X.length : Int), ((0 : Int), ()))))), ()) = _ from this, ha]
    rfl
def cntR (X y : List Int) (C : Nat) : Nat → Int
  | 0 => 0
  | r + 1 => if flg (gl (rowL X C r)) (y.getD r 0) C then cntR X y C r + 1 else cntR X y C r
theorem cntR_bd (X y : List Int) (C : Nat) : ∀ r : Nat, 0 ≤ cntR X y C r ∧ cntR X y C r ≤ (r : Int)
  | 0 => by simp [cntR]
  | r + 1 => by
    have := cntR_bd X y C r
    unfold cntR
    split <;> omega
def rgtT (t : TsT) (y : List Int) : Int × Int × Unit := if labE t y = 0 then (cntR (wideL t) y t.2.1.toNat t.1.toNat, 0, ()) else (0, labE t y, ())
theorem rgt_eq (t : TsT) (y : List Int) (tl : wl t.2.2.2.1) (tn : t.2.2.2.1.length ≤ 1073741824) (hy : y.length < 4611686018427387904) : F_9a t y = some (rgtT t y) := by
  have hlab := labelled_eq t y tl tn hy
  unfold rgtT
  by_cases h0 : labE t y = 0
  · rw [if_pos h0] at hlab ⊢
    have hk : rightS t = true ∧ t.1 = (y.length : Int) ∧ ¬ (t.1 > 0 ∧ t.2.1 = 0) := by
      apply Classical.byContradiction; intro q; rw [labE_bad q] at h0; cases h0
    have hall : y.all (yOk t.2.1) = true := by
      rw [labE_ok hk] at h0; apply Classical.byContradiction; intro q; rw [if_neg q] at h0; cases h0
    obtain ⟨a, b, f, A, ⟨⟩⟩ := t
    simp only at tl tn hk hall
    obtain ⟨R, C, rfl, rfl, hR, hC, lA, _, _⟩ := right_nat hk.1
    have hb := rc_bd hR hC
    have hyl : y.length = R := by have := hk.2.1; omega
    have lX := wideL_len ((R : Int), (C : Int), f, A, ())
    have wX := wideL_wl ((R : Int), (C : Int), f, A, ())
    simp only at lX
    unfold F_9a
    dsimp only
    simp only [List.take_length]
    rw [show F_911 ((R : Int), ((C : Int), (f, (A, ())))) y = _ from hlab]
    simp only [Option.bind_some, bif_ne, if_true, List.take_length, Int.toNat_natCast]
    rw [lA] at lX
    generalize wideL ((R : Int), (C : Int), f, A, ()) = X at *
    have := lim_seq (st := st_9a_0) (fun r => ((cntR X y C r, (y, ((y.length : Int), ((r : Int), ())))), (((R : Int), ((C : Int), ((2:Int), (X, ())))), ())))
      (b := ((cntR X y C R, ()), ())) R
      (fun r hr Q kn ko => by
        have hyr : 0 ≤ y.getD r 0 ∧ y.getD r 0 < (C : Int) := by
          have := all_get.1 hall r (by omega)
          unfold yOk at this
          simpa using this
        have hL := lline_eq 2 X R C r hR hC lX hr
        have hrl := rowL_len lX hr
        have hrw := rowL_wl (C := C) (i := r) wX
        have hB := best_eq (rowL X C r) (y.getD r 0) hrw (by omega) hyr.1 (by rw [hrl]; exact hyr.2)
        have hc := cntR_bd X y C r
        unfold st_9a_0
        dsimp only
        simp only [List.take_length]
        simp only [bif_dec, Int.toNat_natCast, hyl]
        rw [if_pos (show (r : Int) < (R : Int) by omega), if_pos (show 0 ≤ (r : Int) ∧ (r : Int) < (R : Int) by omega)]
        rw [show F_913 ((R : Int), ((C : Int), ((2:Int), (X, ())))) (r : Int) = _ from hL]
        simp only [Option.bind_some, List.take_length]
        rw [hB, hrl]
        simp only [Option.bind_some]
        rw [wi64 (n := (r : Int) + 1) (by omega), wi64 (n := cntR X y C r + 1) (by omega), show ((r + 1 : Nat) : Int) = (r : Int) + 1 by omega]
        have hf : cntR X y C (r + 1) = if flg (gl (rowL X C r)) (y.getD r 0) C then cntR X y C r + 1 else cntR X y C r := rfl
        rw [hf]
        cases flg (gl (rowL X C r)) (y.getD r 0) C <;> rfl)
      (fun Q kn ko => by
        unfold st_9a_0
        dsimp only
        simp only [List.take_length, bif_dec, hyl]
        rw [if_neg (show ¬ (R : Int) < (R : Int) by omega)])
    rw [show lim st_9a_0 (((0 : Int), (y, ((y.length : Int), ((0 : Int), ())))), (((R : Int), ((C : Int), ((2:Int), (X, ())))), ())) = _ from this]
    rfl
  · rw [if_neg h0] at hlab ⊢
    obtain ⟨a, b, f, A, ⟨⟩⟩ := t
    unfold F_9a
    dsimp only
    simp only [List.take_length]
    rw [show F_911 (a, (b, (f, (A, ())))) y = _ from hlab]
    simp only [Option.bind_some, bif_ne]
    rw [if_neg h0]
end Go.Proofs.YtkmkhcmfpbffjaaGreat.VI

namespace Go.Proofs.YtkmkhcmfpbffjaaGreat.VI
set_option linter.unusedVariables false
set_option linter.unusedSimpArgs false
set_option maxRecDepth 100000
noncomputable def O_95 : Orc := (orm c_9e c_97)
theorem okO_95 : OrcOk PR O_95 := (orm_ok ok_9e ok_97)
abbrev fa_95 : Fm := .unit
abbrev fr_95 : Fm := .b
noncomputable def F_95  : Option (Bool) :=
 ((F_9e ((1:Int), ((2:Int), ((2:Int), ([(0:Int), (0:Int)], ())))) ((1:Int), ((2:Int), ((2:Int), ([(0:Int), (0:Int)], ())))))).bind fun r0 =>
 let x1 : Int := r0.2.2.1
 let x2 : List Int := r0.2.1.2.2.2.1
 ((F_97 ((1:Int), ((2:Int), ((2:Int), ([(0:Int), (0:Int)], ())))) [(1:Int)])).bind fun r3 =>
 let x4 : Int := r3.2.2.1
 let x5 : List Int := r3.2.1.2.2.2.1
 ((F_97 ((1:Int), ((2:Int), ((2:Int), ([(0:Int), (0:Int)], ())))) [(2:Int)])).bind fun r6 =>
 let x7 : Int := r6.2.2.1
 bif (r0.1 == (0:Int)) then
 bif (x1 == (0:Int)) then
 bif ((((List.length x2) : Nat) : Int) == (2:Int)) then
 bif (x4 == (0:Int)) then
 bif ((((List.length x5) : Nat) : Int) == (2:Int)) then
 bif (decide (((0:Int) ≤ (0:Int)) ∧ ((0:Int) < (((List.length x5) : Nat) : Int)))) then
 bif ((List.getD x5 (0:Nat) (0:Int)) == (1056964608:Int)) then
 bif (decide (((0:Int) ≤ (1:Int)) ∧ ((1:Int) < (((List.length x5) : Nat) : Int)))) then
 bif ((List.getD x5 (1:Nat) (0:Int)) == (3204448256:Int)) then
 (some (x7 == (22:Int)))
 else
 (some false)
 else
 none
 else
 (some false)
 else
 none
 else
 (some false)
 else
 (some false)
 else
 (some false)
 else
 (some false)
 else
 (some false)
noncomputable def G_95 : T fa_95 → TH hN0 → Option (Bool) := fun x y => F_95
noncomputable def c_95 : Orc := ent i_95 [] 0 (sp fa_95 hN0 fr_95 hN0 G_95 (outN fr_95))
theorem ok_95 : OrcOk PR c_95 := fnT okO_95 mixed p_95 (by kernel_rfl) (by kernel_rfl) (L := L0) (kp := false) (by kernel_rfl) (inn := (innN fr_95)) (out := (outN fr_95)) (fun _ _ => rfl) (loopsL (l := []) (by kernel_rfl) trivial) (fun x y => by kernel_rfl)
end Go.Proofs.YtkmkhcmfpbffjaaGreat.VI

namespace Go.Proofs.YtkmkhcmfpbffjaaGreat.VI
set_option linter.unusedVariables false
set_option linter.unusedSimpArgs false
set_option maxRecDepth 100000
noncomputable def O_94 : Orc := (orm c_95 (orm c_96 (orm c_97 (orm c_99 (orm c_98 (orm c_9a (orm c_9c (orm c_9b c_9d))))))))
theorem okO_94 : OrcOk PR O_94 := (orm_ok ok_95 (orm_ok ok_96 (orm_ok ok_97 (orm_ok ok_99 (orm_ok ok_98 (orm_ok ok_9a (orm_ok ok_9c (orm_ok ok_9b ok_9d))))))))
abbrev fa_94 : Fm := (.pair (.i .u8) (.pair (.i .u8) (.pair (.i .u32) .unit)))
abbrev fr_94 : Fm := .b
abbrev ff_94_0 : Fm := (.us 1 (.pair (.i .u8) (.pair (.i .u32) (.us 4 (.pair (.i .i64) (.cst (.ref 0 1 0) (.pair (.i .i64) (.us 115 .unit))))))))
abbrev hf_94_0 : List BF := [(.list 1 y_91 true (.pair (.i .i64) (.pair (.i .i64) (.pair (.i .i64) (.pair (.own 1 1 0 1) .unit))))), (.ints 1 y_90 true .u32)]
abbrev X_94_0 : Xs := (.one (.exit 0) [1, 7, 8] (.us 1 (.pair (.i .u8) (.us 5 (.pair (.i .i64) (.cst (.ref 0 1 0) (.us 116 .unit)))))) [(.list 1 y_91 true (.pair (.i .i64) (.pair (.i .i64) (.pair (.i .i64) (.pair (.own 1 1 0 1) .unit))))), (.ints 1 y_90 true .u32)])
abbrev S_94_0 : Type := T ff_94_0 × TH hf_94_0
abbrev E_94_0 : Type := TX X_94_0
noncomputable def LB_94_0 : Lps := L0
noncomputable def st_94_0 : StepT S_94_0 E_94_0 := fun R v kn ko =>
 let x0 : Int := v.1.2.1
 let x1 : Int := v.1.1
 let x2 : Int := v.1.2.2.1
 let x3 : Nat := v.2.1.2.2.2.1
 bif (decide (v.1.2.2.2.1 < x2)) then
 ((F_96 (2:Int) x0)).bind fun r4 =>
 bif (decide ((x3 + (1:Nat)) ≤ (1073741824:Nat))) then
 (kn ((x1, (x0, (x2, ((IntKind.wrap .i64 (v.1.2.2.2.1 + (1:Int))), ())))), ((v.2.1.1, (v.2.1.2.1, (v.2.1.2.2.1, ((x3 + (1:Nat)), ())))), (((List.take x3 v.2.2.1) ++ [r4]), ()))))
 else
 none
 else
 (ko ((x1, (x2, ())), v.2))
noncomputable def ls_94_0 : St → LTr := (lsum ff_94_0 hf_94_0 X_94_0 Prod.mk id st_94_0 (hd [(.via 8 3, y_90, 0, .ints .u32)] [] [1, 2, 7, 8, 9] 0))
theorem lp_94_0 : LoopOk PR 0 (lpN f_94 0) ls_94_0 := loopT okO_94 mixed (L := LB_94_0) (d := 1) (bs := []) (ks := [1, 2, 7, 8, 9]) (loopsL (l := []) (by kernel_rfl) trivial) (by kernel_rfl) (inS := Prod.mk) (outS := id) (fun _ _ => rfl) (inX := id) (outX := id) (fun _ => rfl) (fun v R kn ko => by kernel_rfl) (hd_wk [(.via 8 3, y_90, 0, .ints .u32)] [] [1, 2, 7, 8, 9] 0)
abbrev ff_94_1 : Fm := (.us 7 (.pair (.i .i64) (.cst (.ref 0 1 0) (.us 1 (.pair (.i .i64) (.pair (.i .u32) (.cst (.ref 1 1 0) (.us 1 (.pair (.i .i64) (.us 110 .unit))))))))))
abbrev hf_94_1 : List BF := [(.list 1 y_91 true (.pair (.i .i64) (.pair (.i .i64) (.pair (.i .i64) (.pair (.own 2 1 0 1) .unit))))), (.list 1 y_91 true (.pair (.i .i64) (.pair (.i .i64) (.pair (.i .i64) (.pair (.si .u32) .unit))))), (.ints 1 y_90 false .u32)]
abbrev X_94_1 : Xs := (.alt (.exit 2) [7, 8, 10, 11] (.us 7 (.pair (.i .i64) (.cst (.ref 0 1 0) (.us 1 (.pair (.i .i64) (.pair (.i .u32) (.us 113 .unit))))))) [(.list 1 y_91 true (.pair (.i .i64) (.pair (.i .i64) (.pair (.i .i64) (.pair (.own 1 1 0 1) .unit))))), (.ints 1 y_90 false .u32)] (.one .ret [6] (.us 6 (.pair .b (.us 118 .unit))) []))
abbrev S_94_1 : Type := T ff_94_1 × TH hf_94_1
abbrev E_94_1 : Type := TX X_94_1
noncomputable def LB_94_1 : Lps := (lpB 7 (.by_ ls_94_0) L0)
noncomputable def st_94_1 : StepT S_94_1 E_94_1 := fun R v kn ko =>
 let x0 : Int := v.1.2.2.2.1
 let x1 : Int := v.1.2.1
 let x2 : List Int := v.2.2.1.2.2.2.1
 let x3 : Int := (List.getD x2 (Int.toNat x0) (0:Int))
 let x4 : Bool := (x0 != x1)
 let x5 : Int := v.1.1
 let x6 : Int := v.1.2.2.1
 bif (decide (x0 < x5)) then
 bif (x0 == x1) then
 bif (decide (((0:Int) ≤ x0) ∧ (x0 < (((List.length x2) : Nat) : Int)))) then
 bif ((x3 / (2147483648:Int)) != (1:Int)) then
 bif (decide (x5 > (1:Int))) then
 (ko (Sum.inr ((false, ()), ())))
 else
 bif x4 then
 bif (decide (((0:Int) ≤ x0) ∧ (x0 < (((List.length x2) : Nat) : Int)))) then
 ((F_99 x5)).bind fun r7 =>
 ((F_98 (1065353216:Int) r7)).bind fun r8 =>
 bif (x3 != r8) then
 (ko (Sum.inr ((false, ()), ())))
 else
 (kn ((x5, (x1, (x6, ((IntKind.wrap .i64 (x0 + (1:Int))), ())))), (v.2.1, ((v.2.2.1.1, (v.2.2.1.2.1, (v.2.2.1.2.2.1, ((List.take (List.length x2) x2), ())))), v.2.2.2))))
 else
 none
 else
 (kn ((x5, (x1, (x6, ((IntKind.wrap .i64 (x0 + (1:Int))), ())))), (v.2.1, ((v.2.2.1.1, (v.2.2.1.2.1, (v.2.2.1.2.2.1, ((List.take (List.length x2) x2), ())))), v.2.2.2))))
 else
 bif x4 then
 bif (decide (((0:Int) ≤ x0) ∧ (x0 < (((List.length x2) : Nat) : Int)))) then
 ((F_99 x5)).bind fun r9 =>
 ((F_98 (1065353216:Int) r9)).bind fun r10 =>
 bif (x3 != r10) then
 (ko (Sum.inr ((false, ()), ())))
 else
 (kn ((x5, (x1, (x6, ((IntKind.wrap .i64 (x0 + (1:Int))), ())))), (v.2.1, ((v.2.2.1.1, (v.2.2.1.2.1, (v.2.2.1.2.2.1, ((List.take (List.length x2) x2), ())))), v.2.2.2))))
 else
 none
 else
 (kn ((x5, (x1, (x6, ((IntKind.wrap .i64 (x0 + (1:Int))), ())))), (v.2.1, ((v.2.2.1.1, (v.2.2.1.2.1, (v.2.2.1.2.2.1, ((List.take (List.length x2) x2), ())))), v.2.2.2))))
 else
 none
 else
 bif x4 then
 bif (decide (((0:Int) ≤ x0) ∧ (x0 < (((List.length x2) : Nat) : Int)))) then
 ((F_99 x5)).bind fun r11 =>
 ((F_98 (1065353216:Int) r11)).bind fun r12 =>
 bif (x3 != r12) then
 (ko (Sum.inr ((false, ()), ())))
 else
 (kn ((x5, (x1, (x6, ((IntKind.wrap .i64 (x0 + (1:Int))), ())))), (v.2.1, ((v.2.2.1.1, (v.2.2.1.2.1, (v.2.2.1.2.2.1, ((List.take (List.length x2) x2), ())))), v.2.2.2))))
 else
 none
 else
 (kn ((x5, (x1, (x6, ((IntKind.wrap .i64 (x0 + (1:Int))), ())))), (v.2.1, ((v.2.2.1.1, (v.2.2.1.2.1, (v.2.2.1.2.2.1, ((List.take (List.length x2) x2), ())))), v.2.2.2))))
 else
 (ko (Sum.inl ((x5, (x1, (x6, ()))), (v.2.1, v.2.2.2))))
noncomputable def ls_94_1 : St → LTr := (lsum ff_94_1 hf_94_1 X_94_1 Prod.mk id st_94_1 (hd [] [] [7, 8, 10, 11, 12, 14] 0))
theorem lp_94_1 : LoopOk PR 0 (lpN f_94 1) ls_94_1 := loopT okO_94 mixed (L := LB_94_1) (d := 1) (bs := []) (ks := [7, 8, 10, 11, 12, 14]) (loopsL (l := []) (by kernel_rfl) trivial) (by kernel_rfl) (inS := Prod.mk) (outS := id) (fun _ _ => rfl) (inX := id) (outX := id) (fun _ => rfl) (fun v R kn ko => by kernel_rfl) (hd_wk [] [] [7, 8, 10, 11, 12, 14] 0)
noncomputable def L_94 : Lps := (lpB 15 (.by_ ls_94_1) (lpB 7 (.by_ ls_94_0) L0))
noncomputable def F_94 (a0 : Int) (a1 : Int) (a2 : Int) : Option (Bool) :=
 let x0 : Int := (IntKind.wrap .i64 ((IntKind.wrap .i64 (Int.tmod a0 (4:Int))) + (1:Int)))
 (F_95).bind fun r1 =>
 bif (!r1) then
 (some false)
 else
 ((lim st_94_0 ((a1, (a2, (x0, ((0:Int), ())))), (((1:Int), (x0, ((2:Int), ((0:Nat), ())))), ([], ()))))).bind fun r2 =>
 let x3 : Int := r2.1.2.1
 let x4 : Int := (Int.tmod (IntKind.wrap .i64 r2.1.1) x3)
 bif (x3 == (0:Int)) then
 none
 else
 ((F_97 (r2.2.1.1, (r2.2.1.2.1, (r2.2.1.2.2.1, ((List.take r2.2.1.2.2.2.1 (List.drop (0:Nat) r2.2.2.1)), ())))) [x4])).bind fun r5 =>
 let x6 : Int := r5.2.2.1
 let x7 : List Int := r5.2.1.2.2.2.1
 let x8 : Nat := (List.length x7)
 let x9 : Int := r5.2.1.1
 let x10 : Int := r5.2.1.2.1
 let x11 : Int := r5.2.1.2.2.1
 bif (x6 != (0:Int)) then
 (some false)
 else
 bif (((x8 : Nat) : Int) != x3) then
 (some false)
 else
 ((lim st_94_1 ((x3, (x4, (r5.1, ((0:Int), ())))), (r2.2.1, ((x9, (x10, (x11, ((List.take x8 x7), ())))), r2.2.2))))).bind fun r12 =>
 els (fun l13 =>
 let x15 : Int := l13.2.1.1
 let x16 : Int := l13.2.1.2.1
 let x17 : Int := l13.2.1.2.2.1
 let x18 : Nat := l13.2.1.2.2.2.1
 let x19 : List Int := l13.2.2.1
 let x20 : Int := l13.1.2.1
 let x21 : Bool := (x20 == (0:Int))
 let x22 : Int := l13.1.2.2.1
 ((F_9a (x15, (x16, (x17, ((List.take x18 (List.drop (0:Nat) x19)), ())))) [x20])).bind fun r23 =>
 bif (r23.2.1 == (0:Int)) then
 bif (r23.1 == (bif x21 then (1:Int) else (bif x21 then (0:Int) else (0:Int)))) then
 ((F_99 l13.1.1)).bind fun r24 =>
 ((F_9c r24)).bind fun r25 =>
 ((F_9b r25 (0:Int))).bind fun r26 =>
 bif (x22 == r26) then
 ((F_9d (2:Int) x22)).bind fun r27 =>
 (some r27)
 else
 (some false)
 else
 (some false)
 else
 (some false)) (fun r14 =>
 (some r14.1.1)) r12
noncomputable def G_94 : T fa_94 → TH hN0 → Option (Bool) := fun x y => F_94 x.1 x.2.1 x.2.2.1
noncomputable def c_94 : Orc := ent i_94 [] 0 (sp fa_94 hN0 fr_94 hN0 G_94 (outN fr_94))
theorem ok_94 : OrcOk PR c_94 := fnT okO_94 mixed p_94 (by kernel_rfl) (by kernel_rfl) (L := L_94) (kp := false) (by kernel_rfl) (inn := (innN fr_94)) (out := (outN fr_94)) (fun _ _ => rfl) (loopsL (l := [((lpN f_94 0), ls_94_0), ((lpN f_94 1), ls_94_1)]) (by kernel_rfl) ⟨lp_94_0, ⟨lp_94_1, trivial⟩⟩) (fun x y => by kernel_rfl)
end Go.Proofs.YtkmkhcmfpbffjaaGreat.VI

namespace Go.Proofs.YtkmkhcmfpbffjaaGreat.VI
set_option linter.unusedVariables false
set_option linter.unusedSimpArgs false
set_option maxRecDepth 100000
set_option maxHeartbeats 8000000
theorem subf_self {m : Int} (f : fnt m) : subf m m = 0 := by
  have ⟨ft, vt⟩ := turn_fin f
  have hs : (sg 2 m == sg 2 (turnS 2 m)) = false := by
    have w := f.1
    have w1 := w.1
    have w2 := w.2
    rw [turn2 w]
    unfold sg
    rw [show TT 2 = 2147483648 from rfl]
    split
    · rw [decide_eq_true (show m / 2147483648 % 2 = 1 by omega), decide_eq_false (show ¬ (m - 2147483648) / 2147483648 % 2 = 1 by omega)]; rfl
    · rw [decide_eq_false (show ¬ m / 2147483648 % 2 = 1 by omega), decide_eq_true (show (m + 2147483648) / 2147483648 % 2 = 1 by omega)]; rfl
  unfold subf subS addS
  rw [fin_nan f, fin_nan ft, fin_inf f, fin_inf ft]
  simp only [Bool.or_false, Bool.and_false, Bool.false_and, Bool.false_eq_true, if_false]
  unfold sumS
  have z : sv (sg 2 m) (sig 2 m * 2 ^ (xp 2 m + 298).toNat) + sv (sg 2 (turnS 2 m)) (sig 2 (turnS 2 m) * 2 ^ (xp 2 (turnS 2 m) + 298).toNat) = 0 := by
    rw [svl_up, svl_up, ← Int.add_mul, vt]; omega
  rw [z, if_neg (by intro h; rw [h.2] at hs; simp at hs)]
  decide
end Go.Proofs.YtkmkhcmfpbffjaaGreat.VI

namespace Go.Proofs.YtkmkhcmfpbffjaaGreat.VI
set_option linter.unusedVariables false
set_option linter.unusedSimpArgs false
set_option maxRecDepth 100000
set_option maxHeartbeats 4000000
theorem known16 : F_95 = some true := by
  have wA : wl [0, 0] := by intro a ha; simp at ha; subst ha; decide
  have h1 := mse_eq (1, 2, 2, [0, 0], ()) (1, 2, 2, [0, 0], ()) wA (by decide) wA (by decide)
  have h2 := softmax_eq (1, 2, 2, [0, 0], ()) [1] wA (by decide) (by decide)
  have h3 := softmax_eq (1, 2, 2, [0, 0], ()) [2] wA (by decide) (by decide)
  have v1 : mseT (1, 2, 2, [0, 0], ()) (1, 2, 2, [0, 0], ()) = (0, (1, 2, 2, [0, 0], ()), 0, ()) := by kernel_rfl
  have v2 : smT (1, 2, 2, [0, 0], ()) [1] = ((smT (1, 2, 2, [0, 0], ()) [1]).1, (1, 2, 2, [1056964608, 3204448256], ()), 0, ()) := by kernel_rfl
  have v3 : (smT (1, 2, 2, [0, 0], ()) [2]).2.2.1 = 22 := by decide +kernel
  rw [v1] at h1
  rw [v2] at h2
  unfold F_95
  rw [h1, h2, h3]
  simp only [Option.bind_some, v3]
  rfl
end Go.Proofs.YtkmkhcmfpbffjaaGreat.VI

namespace Go.Proofs.YtkmkhcmfpbffjaaGreat.VI
set_option linter.unusedVariables false
set_option linter.unusedSimpArgs false
set_option maxRecDepth 100000
set_option maxHeartbeats 8000000
set_option exponentiation.threshold 2000
def uu : Rat := 1 / 713623846352979940529142984724747568191373312
def q (x : Int) : Rat := (vz x : Rat) * uu
end Go.Proofs.YtkmkhcmfpbffjaaGreat.VI

namespace Go.Proofs.YtkmkhcmfpbffjaaGreat.VI
set_option linter.unusedVariables false
set_option linter.unusedSimpArgs false
set_option maxRecDepth 100000
set_option maxHeartbeats 8000000
theorem finr2 {a : Int} (h : fnt a) : F_9d 2 a = some true := by
  have kn := kl_nan 2 a
  have ki := kl_inf 2 a
  have f := h.2
  rw [show TT 2 = 2147483648 from rfl, show IN 2 = 2139095040 from rfl] at kn ki
  unfold F_9d
  rw [classr_eq 2 h.1.1 h.1.2]
  simp only [Option.bind_some]
  congr 1
  apply decide_eq_true
  omega
end Go.Proofs.YtkmkhcmfpbffjaaGreat.VI

namespace Go.Proofs.YtkmkhcmfpbffjaaGreat.VI
set_option linter.unusedVariables false
set_option linter.unusedSimpArgs false
set_option maxRecDepth 100000
set_option maxHeartbeats 8000000
theorem wl_rep {m : Int} (h : w32 m) (n : Nat) : wl (List.replicate n m) := fun v hv => by rw [List.eq_of_mem_replicate hv]; exact h
theorem gl_rep {m : Int} {n i : Nat} (h : i < n) : gl (List.replicate n m) i = m := by
  show (List.replicate n m).getD i 0 = m
  rw [List.getD_eq_getElem?_getD, List.getElem?_replicate, if_pos h]; rfl
theorem wide_rep {m : Int} (hm : mildP 2 m) (hw : wf 2 m) (c : Nat) : wideL ((1 : Int), (c : Int), 2, List.replicate c m, ()) = List.replicate c m := by
  apply List.ext_getElem
  · simp [wideL]
  · intro k h1 h2
    have hk : k < c := by simpa using h2
    simp only [wideL, List.getElem_map, List.getElem_range, List.getElem_replicate]
    have : (List.replicate c m).getD k 0 = m := gl_rep hk
    rw [this]
    exact widen_fin (wf_w hw) hm.1 hm.2.1
theorem mx2_same {m : Int} (h : w32 m) (hn : nan 2 m = false) : mx2 m m = m := by
  rcases mx2_self h with e | ⟨e, _⟩
  · exact e
  · rw [hn] at e; cases e
theorem mxf_rep {m : Int} (h : w32 m) (hn : nan 2 m = false) {c : Nat} : ∀ k, k + 1 ≤ c → mxf (gl (List.replicate c m)) m 1 k = m
  | 0, _ => rfl
  | k + 1, hk => by
    show mx2 (mxf _ m 1 k) (gl (List.replicate c m) (1 + k)) = m
    rw [mxf_rep h hn k (by omega), gl_rep (by omega), mx2_same h hn]
theorem rwM_rep {m : Int} (h : w32 m) (hn : nan 2 m = false) {c : Nat} (hc : 0 < c) : rwM (gl (List.replicate c m)) c = m := by
  unfold rwM
  rw [gl_rep hc]
  exact mxf_rep h hn _ (by omega)
def ones : Nat → Int
  | 0 => 0
  | k + 1 => addf (ones k) (expS 0)
theorem sacc_rep {m : Int} (f : fnt m) {c : Nat} : ∀ k, k ≤ c → sacc (gl (List.replicate c m)) m k = ones k
  | 0, _ => rfl
  | k + 1, hk => by
    show addf (sacc _ m k) (expS (subf (gl (List.replicate c m) k) m)) = _
    rw [sacc_rep f k (by omega), gl_rep (by omega), subf_self f]; rfl
theorem row_rep {m : Int} {c : Nat} : rowL (List.replicate c m) c 0 = List.replicate c m := by
  unfold rowL; simp
def wayG (c : Nat) (eq : Bool) : Int := divf (subf (divf (expS 0) (ones c)) (if eq then 1065353216 else 0)) (intf 1)
def wayV (c : Nat) : Int := divf (addf 0 (subf (logS (ones c)) 0)) (intf 1)
theorem sm_rep {m : Int} (hp : mildP 2 m) (hw : wf 2 m) (f : fnt m) {c k : Nat} (hc : 0 < c) (hc4 : c ≤ 4) (hk : k < c) :
    smT ((1 : Int), (c : Int), 2, List.replicate c m, ()) [(k : Int)] = (wayV c, ((1 : Int), (c : Int), 2, (List.range c).map (fun j => wayG c (decide (j = k))), ()), 0, ()) := by
  have w := f.1
  have hn := fin_nan f
  have hr : rightS ((1 : Int), (c : Int), 2, List.replicate c m, ()) = true := wf_right (R := 1) (C := c) (by omega) (by omega) (by simp) (by decide) (fun v hv => by rw [List.eq_of_mem_replicate hv]; exact hw)
  have hl : labE ((1 : Int), (c : Int), 2, List.replicate c m, ()) [(k : Int)] = 0 := by
    rw [labE_ok ⟨hr, rfl, by show ¬ ((1 : Int) > 0 ∧ (c : Int) = 0); omega⟩]
    have : ([(k : Int)].all (yOk (c : Int))) = true := by
      simp [yOk]; omega
    rw [if_pos this]
  unfold smT
  rw [if_pos hl, wide_rep hp hw c]
  have e0 : ((1 : Int), (c : Int), (2 : Int), List.replicate c m, ()).1 = 1 := rfl
  simp only [Int.toNat_natCast, show (1 : Int).toNat = 1 from rfl, Nat.one_mul, show ((1 : Int) = 0) = False by simp, if_false]
  have hA : smA (List.replicate c m) [(k : Int)] c 1 = addf 0 (subf (logS (ones c)) 0) := by
    show addf 0 (smL (gl (rowL (List.replicate c m) c 0)) c (k : Int)) = _
    unfold smL
    rw [row_rep, rwM_rep w hn hc, sacc_rep f c (Nat.le_refl _), Int.toNat_natCast, gl_rep hk, subf_self f]
  rw [hA]
  have hG : (List.range c).map (smH (List.replicate c m) [(k : Int)] c (intf 1)) = (List.range c).map (fun j => wayG c (decide (j = k))) := by
    apply List.map_congr_left
    intro j hj
    have hj : j < c := List.mem_range.1 hj
    unfold smH
    rw [Nat.div_eq_of_lt hj, Nat.mod_eq_of_lt hj, row_rep]
    show smG (gl (List.replicate c m)) c (k : Int) (intf 1) j = _
    unfold smG wayG
    rw [rwM_rep w hn hc, sacc_rep f c (Nat.le_refl _), gl_rep hj, subf_self f]
    by_cases e : j = k
    · subst e; simp
    · rw [if_neg (show ¬ (j : Int) = (k : Int) by omega)]; simp [e]
  rw [hG]
  rfl
theorem lt_same {m : Int} : lt 2 m m = false := by
  rw [Bool.eq_false_iff]; intro h
  have := (lt_iff 2 m m).1 h
  omega
theorem rg_rep {m : Int} (hp : mildP 2 m) (hw : wf 2 m) (f : fnt m) {c k : Nat} (hc : 0 < c) (hc4 : c ≤ 4) (hk : k < c) :
    rgtT ((1 : Int), (c : Int), 2, List.replicate c m, ()) [(k : Int)] = ((if k = 0 then 1 else 0), 0, ()) := by
  have hr : rightS ((1 : Int), (c : Int), 2, List.replicate c m, ()) = true := wf_right (R := 1) (C := c) (by omega) (by omega) (by simp) (by decide) (fun v hv => by rw [List.eq_of_mem_replicate hv]; exact hw)
  have hl : labE ((1 : Int), (c : Int), 2, List.replicate c m, ()) [(k : Int)] = 0 := by
    rw [labE_ok ⟨hr, rfl, by show ¬ ((1 : Int) > 0 ∧ (c : Int) = 0); omega⟩]
    have : ([(k : Int)].all (yOk (c : Int))) = true := by
      simp [yOk]; omega
    rw [if_pos this]
  unfold rgtT
  rw [if_pos hl, wide_rep hp hw c]
  have hC : cntR (List.replicate c m) [(k : Int)] c 1 = if k = 0 then 1 else 0 := by
    show (if flg (gl (rowL (List.replicate c m) c 0)) (k : Int) c then (0 : Int) + 1 else 0) = _
    rw [row_rep]
    by_cases e : k = 0
    · subst e
      have : flg (gl (List.replicate c m)) ((0 : Nat) : Int) c = true := (flg_all _ _ _).2 fun i hi => by
        unfold gdR
        rw [gl_rep hi, show gl (List.replicate c m) (((0 : Nat) : Int).toNat) = m from gl_rep hc, lt_same]
        simp
      rw [this]; rfl
    · have : ¬ flg (gl (List.replicate c m)) (k : Int) c = true := fun h => by
        have := (flg_all _ _ _).1 h 0 hc
        unfold gdR at this
        rw [gl_rep hc, show gl (List.replicate c m) (((k : Nat) : Int).toNat) = m from gl_rep hk, lt_same] at this
        simp at this
        omega
      rw [if_neg this, if_neg e]
  simp only [Int.toNat_natCast, show (1 : Int).toNat = 1 from rfl, hC]
theorem way_num : ∀ c : Nat, 0 < c → c ≤ 4 → wayG c false = divf 1065353216 (intf (c : Int)) ∧ (1 < c → wayG c true / 2147483648 = 1) ∧ wayV c = subf (logS (intf (c : Int))) 0 ∧ fnt (wayV c) := by
  intro c h0 h4
  match c, h0, h4 with
  | 1, _, _ => exact ⟨by decide +kernel, by decide +kernel, by decide +kernel, ⟨⟨by decide +kernel, by decide +kernel⟩, by decide +kernel⟩⟩
  | 2, _, _ => exact ⟨by decide +kernel, by decide +kernel, by decide +kernel, ⟨⟨by decide +kernel, by decide +kernel⟩, by decide +kernel⟩⟩
  | 3, _, _ => exact ⟨by decide +kernel, by decide +kernel, by decide +kernel, ⟨⟨by decide +kernel, by decide +kernel⟩, by decide +kernel⟩⟩
  | 4, _, _ => exact ⟨by decide +kernel, by decide +kernel, by decide +kernel, ⟨⟨by decide +kernel, by decide +kernel⟩, by decide +kernel⟩⟩
end Go.Proofs.YtkmkhcmfpbffjaaGreat.VI

namespace Go.Proofs.YtkmkhcmfpbffjaaGreat.VI
set_option linter.unusedVariables false
set_option linter.unusedSimpArgs false
set_option maxRecDepth 100000
set_option maxHeartbeats 8000000
theorem ways_fill {m : Int} (a1 a2 : Int) (hm : F_96 2 a2 = some m) (c : Nat) (hc : c ≤ 4) :
    lim st_94_0 ((a1, (a2, ((c : Int), ((0:Int), ())))), (((1:Int), ((c : Int), ((2:Int), ((0:Nat), ())))), ([], ()))) =
      some ((a1, ((c : Int), ())), (((1:Int), ((c : Int), ((2:Int), (c, ())))), (List.replicate c m, ()))) :=
  lim_seq (st := st_94_0) (fun i => ((a1, (a2, ((c : Int), ((i : Int), ())))), (((1:Int), ((c : Int), ((2:Int), (i, ())))), (List.replicate i m, ())))) c
    (fun i hi Q kn ko => by
      unfold st_94_0
      dsimp only
      simp only [bif_dec]
      rw [if_pos (show (i : Int) < (c : Int) by omega), hm]
      simp only [Option.bind_some]
      rw [if_pos (show i + 1 ≤ 1073741824 by omega), wi64 (by omega), show ((i + 1 : Nat) : Int) = (i : Int) + 1 by omega]
      have : List.take i (List.replicate i m) ++ [m] = List.replicate (i + 1) m := by
        rw [List.take_of_length_le (by simp), List.replicate_succ']
      rw [this])
    (fun Q kn ko => by
      unfold st_94_0
      dsimp only
      simp only [bif_dec]
      rw [if_neg (show ¬ (c : Int) < (c : Int) by omega)])
theorem ways_look {c k : Nat} (hc : c ≤ 4) (hk : k < c) (v : Int) (z : Int × Int × Int × Nat × Unit) (h : List Int × Unit) (V : List Int) (hV : V.length = c)
    (g0 : ∀ j, j < c → j ≠ k → V.getD j 0 = divf 1065353216 (intf (c : Int))) (g1 : 1 < c → V.getD k 0 / 2147483648 = 1) :
    lim st_94_1 (((c : Int), ((k : Int), (v, ((0:Int), ())))), (z, (((1 : Int), ((c : Int), ((2 : Int), (V, ())))), h))) =
      some (Sum.inl (((c : Int), ((k : Int), (v, ()))), (z, h))) :=
  lim_seq (st := st_94_1) (fun i => (((c : Int), ((k : Int), (v, ((i : Int), ())))), (z, (((1 : Int), ((c : Int), ((2 : Int), (V, ())))), h)))) c
    (fun i hi Q kn ko => by
      have tv : List.take c V = V := List.take_of_length_le (by omega)
      unfold st_94_1
      dsimp only
      simp only [List.take_length, Int.toNat_natCast, bif_dec, hV]
      rw [if_pos (show (i : Int) < (c : Int) by omega), if_pos (show (0 : Int) ≤ (i : Int) ∧ (i : Int) < (c : Int) by omega), wi64 (by omega), show ((i + 1 : Nat) : Int) = (i : Int) + 1 by omega,
        rint_eq (by omega)]
      simp only [Option.bind_some]
      rw [rdiv_eq (wlit rfl) (intf_w _)]
      simp only [Option.bind_some]
      by_cases e : i = k
      · subst e
        simp only [BEq.rfl, bne_self_eq_false, cond_true, cond_false]
        by_cases h1 : 1 < c
        · rw [g1 h1, tv]; rfl
        · rw [if_neg (show ¬ (c : Int) > 1 by omega), tv]
          simp
      · have e1 : ((i : Int) == (k : Int)) = false := by rw [beq_eq_false_iff_ne]; omega
        have e2 : ((i : Int) != (k : Int)) = true := by rw [bne, e1]; rfl
        rw [e1, e2, g0 i hi e]
        simp only [bne_self_eq_false, cond_true, cond_false, tv]
        rw [if_pos (show (0 : Int) ≤ (i : Int) ∧ (i : Int) < (c : Int) by omega)])
    (fun Q kn ko => by
      unfold st_94_1
      dsimp only
      simp only [bif_dec]
      rw [if_neg (show ¬ (c : Int) < (c : Int) by omega)])
theorem lossWays {n y x : Int} (hn : 0 ≤ n ∧ n ≤ 255) (hy : 0 ≤ y ∧ y ≤ 255) (hx : w32 x) : F_94 n y x = some true := by
  obtain ⟨c, ec, c1, c4⟩ : ∃ c : Nat, IntKind.wrap .i64 (IntKind.wrap .i64 (Int.tmod n 4) + 1) = c ∧ 1 ≤ c ∧ c ≤ 4 := by
    refine ⟨(n % 4 + 1).toNat, ?_, by omega, by omega⟩
    rw [tmod_nn hn.1, wi64 (n := n % 4) (by omega), wi64 (by omega)]; omega
  obtain ⟨k, ek, hk⟩ : ∃ k : Nat, Int.tmod (IntKind.wrap .i64 y) (c : Int) = k ∧ k < c := by
    refine ⟨(y % (c : Int)).toNat, ?_, ?_⟩
    · rw [wi64 (by omega), tmod_nn hy.1]
      have := Int.emod_nonneg y (show (c : Int) ≠ 0 by omega)
      omega
    · have := Int.emod_nonneg y (show (c : Int) ≠ 0 by omega)
      have := Int.emod_lt_of_pos y (show 0 < (c : Int) by omega)
      omega
  obtain ⟨m, hm, wm, pm⟩ := mild_p 2 hx
  have f : fnt m := by
    have h1 : nan 2 m = false := pm.1
    have h2 : inff 2 m = false := pm.2.1
    have w := wf_w wm
    refine ⟨w, ?_⟩
    have a1 : ¬ (2139095040 < m % 2147483648) := of_decide_eq_false h1
    have a2 : ¬ (m % 2147483648 = 2139095040) := of_decide_eq_false h2
    omega
  have W := wl_rep f.1 c
  obtain ⟨q1, q2, q3, q4⟩ := way_num c c1 c4
  unfold F_94
  dsimp only
  rw [known16, ec]
  simp only [Option.bind_some, Bool.not_true, cond_false]
  rw [ways_fill y x hm c c4]
  simp only [Option.bind_some, List.drop_zero]
  rw [ek]
  have ne : ((c : Int) == 0) = false := by rw [beq_eq_false_iff_ne]; omega
  rw [ne]
  have tk : List.take c (List.replicate c m) = List.replicate c m := List.take_of_length_le (by simp)
  rw [tk]
  simp only [cond_false]
  rw [softmax_eq ((1 : Int), (c : Int), 2, List.replicate c m, ()) [(k : Int)] W (by simp; omega) (by simp), sm_rep pm wm f c1 c4 hk]
  simp only [Option.bind_some, bne_self_eq_false, cond_false, List.length_map, List.length_range]
  have tk2 : List.take c ((List.range c).map (fun j => wayG c (decide (j = k)))) = (List.range c).map (fun j => wayG c (decide (j = k))) := List.take_of_length_le (by simp)
  rw [tk2, ways_look c4 hk (wayV c) _ _ ((List.range c).map (fun j => wayG c (decide (j = k)))) (by simp) (fun j hj hjk => by
    rw [← q1, gtd (by simpa using hj)]; simp [hjk]) (fun h1 => by
    rw [← q2 h1, gtd (by simpa using hk)]; simp)]
  simp only [Option.bind_some, els, List.drop_zero, tk]
  rw [rgt_eq ((1 : Int), (c : Int), 2, List.replicate c m, ()) [(k : Int)] W (by simp; omega) (by simp), rg_rep pm wm f c1 c4 hk]
  simp only [Option.bind_some, BEq.rfl, cond_true]
  have hr : ((if k = 0 then (1 : Int) else 0) == (bif ((k : Int) == 0) then (1:Int) else (bif ((k : Int) == 0) then (0:Int) else (0:Int)))) = true := by
    by_cases e : k = 0
    · subst e; rfl
    · have : ((k : Int) == 0) = false := by rw [beq_eq_false_iff_ne]; omega
      rw [if_neg e, this]; rfl
  rw [hr]
  simp only [cond_true]
  rw [rint_eq (by omega)]
  simp only [Option.bind_some]
  rw [rlog_eq (intf_w _)]
  simp only [Option.bind_some]
  rw [rsub_eq (log_w (intf_w _)) w0]
  simp only [Option.bind_some]
  rw [← q3, finr2 q4]
  simp
theorem callLossWays : ∀ l, args [.i .u8, .i .u8, .i .u32] l → oks l → CallOk PR i_94 l [] fun r _ => r = .b true :=
  rowT (fa := fa_94) (F := G_94) rfl rfl ok_94 (enters p_94 (by kernel_rfl) (by kernel_rfl)) rfl fun x hx =>
    lossWays ⟨hx.1.1, hx.1.2⟩ ⟨hx.2.1.1, hx.2.1.2⟩ ⟨hx.2.2.1.1, by have := hx.2.2.1.2; have e : IntKind.max .u32 = 4294967295 := rfl; rw [e] at this; omega⟩
end Go.Proofs.YtkmkhcmfpbffjaaGreat.VI

namespace Go.Proofs.YtkmkhcmfpbffjaaGreat.VI
set_option linter.unusedVariables false
set_option linter.unusedSimpArgs false
open Go.ChangeShapes Go.WideShapes Go.RowKit Go.WideElems YtkmkhcmfpbffjaaGreat
set_option maxRecDepth 100000
theorem laid : laidOutB Tryz.prog = true := by kernel_rfl
theorem own : ownKnob Tryz.prog.godebug = none := by kernel_rfl
theorem lifted (os : Os) (started : os.Started) (H : Type) (enc : TypeId × Value → H) :
    ReturnsInHanded {} Tryz.checked os 3 .any (Rows.lossWaysSpec.pre6 enc Tryz.prog Tryz.f3 Rows.lossWaysRow.domain false) (Rows.lossWaysSpec.post enc Tryz.prog Tryz.f3 false true false false) :=
  lift_args (C := Tryz.checked) own started (by kernel_rfl) Tryz.func3
    (ChangeSpec.witness6 (enc := enc) (C := Tryz.checked) false ⟨#[], #[.int .u8 0, .int .u8 0, .int .u32 0], []⟩ 8 (by kernel_rfl) (by kernel_rfl) (by kernel_rfl) (by kernel_rfl))
    laid Tryz.underlying4 rfl (by kernel_rfl) rfl (fun ds hd => match ds, hd with
    | [_, _, _], _ => rfl) (d := 6) (by kernel_rfl) (Fs := [.i .u8, .i .u8, .i .u32]) (by kernel_rfl) callLossWays
theorem over : Rows.lossWaysRow.holds Tryz.pinned (OpenSpec.ofChange Rows.lossWaysSpec) :=
  OpenClaim.holds_of_wide 3 Tryz.f3 rfl rfl rfl rfl rfl rfl rfl ⟨rfl, rfl, rfl, rfl, rfl⟩ rfl rfl rfl rfl rfl (by kernel_rfl) Tryz.func3 (by kernel_rfl)
    (of_decide_eq_true (by kernel_rfl)) (by unfold Func.isWrapper; first | (rw [if_pos (by decide +kernel)]; kernel_rfl) | (rw [if_neg (by decide +kernel)]; exact ⟨rfl, rfl⟩))
    (fun os started H enc _ => lifted os started H enc)
end Go.Proofs.YtkmkhcmfpbffjaaGreat.VI

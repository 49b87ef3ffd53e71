import Derived.Test.YtcpicekmnkjceaaS7
import Derived.Test.YtcpicekmnkjceaaVS
namespace Go.Proofs.Ytcpicekmnkjceaa.VI
set_option linter.unusedVariables false
set_option linter.unusedSimpArgs false
open Go.ChangeShapes Go.WideShapes Go.RowKit Go.WideElems Ytcpicekmnkjceaa
set_option maxRecDepth 100000
theorem laid : laidOutB Try.prog = true := by kernel_rfl
theorem own : ownKnob Try.prog.godebug = none := by kernel_rfl
theorem u8_of {n : Int} (h : (Lit.int .u8 n).wf = true) : 0 ≤ n ∧ n < 256 := by
  simp [Lit.wf, IntKind.min, IntKind.max, IntKind.signed, IntKind.bits] at h
  omega
section
variable {H : Type} {enc : TypeId × Value → H} {w : World} {base b0 : Nat} {spare : Nat → Bool} {held : Bool}
theorem open_scale {r : Reach} {v : Value} {d : DataW H} {ps : List MemPlace} (hval : Value.okWide Try.prog w r b0 29 v) (hd : DataW.Trod enc Try.prog w base spare held 29 v d ps) :
    ∃ a b c d : Int, v = .agg #[.int .i64 a, .int .i64 b, .int .i64 c, .int .i64 d] := by
  unfold Value.okWide at hval
  rw [Try.underlying29] at hval
  obtain ⟨cs, rfl, hsz, _⟩ := hval
  obtain ⟨fuel, hf⟩ := hd
  obtain ⟨xs, n, rfl, hx, hl, hlen, hall⟩ := DataW.trod_struct Try.underlying29 hf
  have c1 : Try.prog.cellsOf 3 = 1 := by kernel_rfl
  have c4 : Try.prog.cellsOf 29 = 4 := by kernel_rfl
  rw [c4] at hl
  have key : ∀ (i : Nat) (f : Field), #[({ name := "Log", type := 3, offset := 0, embedded := false, tag := "", pkgPath := "", byteOffset := 0 } : Field), { name := "Good", type := 3, offset := 1, embedded := false, tag := "", pkgPath := "", byteOffset := 8 },
        { name := "Skips", type := 3, offset := 2, embedded := false, tag := "", pkgPath := "", byteOffset := 16 }, { name := "Row", type := 3, offset := 3, embedded := false, tag := "", pkgPath := "", byteOffset := 24 }][i]? = some f → f.type = 3 → ∃ k : Int, ((Value.agg cs).cells.toList.drop f.offset).take 1 = [.int .i64 k] := by
    intro i f hfi ht
    have h := hall i f hfi
    rw [ht, c1] at h
    have hi : i < xs.length := by rw [hlen]; exact (Array.getElem?_eq_some_iff.1 hfi).1
    rw [List.getElem?_eq_getElem hi] at h
    obtain ⟨k, hk, _⟩ := DataW.trod_int Try.underlying3 h
    exact ⟨k, hk⟩
  obtain ⟨k0, h0⟩ := key 0 _ rfl rfl
  obtain ⟨k1, h1⟩ := key 1 _ rfl rfl
  obtain ⟨k2, h2⟩ := key 2 _ rfl rfl
  obtain ⟨k3, h3⟩ := key 3 _ rfl rfl
  refine ⟨k0, k1, k2, k3, ?_⟩
  have hcs : (Value.agg cs).cells.toList = cs.toList := rfl
  rw [hcs] at h0 h1 h2 h3 hl
  obtain ⟨l⟩ := cs
  simp only at h0 h1 h2 h3 hl
  match l, hl with
  | [a, b, c, d], _ => simp at h0 h1 h2 h3; simp [h0, h1, h2, h3]
end
theorem lifted4 (os : Os) (started : os.Started) (H : Type) (enc : TypeId × Value → H) :
    ReturnsInHanded {} Try.checked os 4 .any (Rows.scalerTellsSpec.pre6 enc Try.prog Try.f4 Rows.scalerTellsRow.domain false) (Rows.scalerTellsSpec.post enc Try.prog Try.f4 false true false false) := by
  refine lift_true (C := Try.checked) own started (by kernel_rfl) Try.func4
    (ChangeSpec.witness6 (enc := enc) (C := Try.checked) false ⟨#[], #[.int .u8 0, .int .u8 0, .int .u8 0, .int .u8 0, .agg #[.int .i64 0, .int .i64 0, .int .i64 0, .int .i64 0], .int .i64 0, .int .i64 0, .int .i64 0, .int .i64 0], []⟩ 8 (by kernel_rfl) (by kernel_rfl) (by kernel_rfl) (by kernel_rfl))
    laid Try.underlying4 rfl (by kernel_rfl) rfl (fun ds hd => ?_) ?_
  · match ds, hd with
    | [_, _, _, _, _, _, _, _, _], _ => rfl
  · intro W base args ds p hval hA
    have e : Try.f4.params.toList = [5, 5, 5, 5, 29, 3, 3, 3, 3] := rfl
    rw [e] at hA
    rw [Try.params4] at hval
    obtain ⟨v0, vs0, d0, ds0, p0, q0, hargs, rfl, rfl, h0, r0⟩ := trodAll_cons hA
    obtain ⟨v1, vs1, d1, ds1, p1, q1, rfl, rfl, rfl, h1, r1⟩ := trodAll_cons r0
    obtain ⟨v2, vs2, d2, ds2, p2, q2, rfl, rfl, rfl, h2, r2⟩ := trodAll_cons r1
    obtain ⟨v3, vs3, d3, ds3, p3, q3, rfl, rfl, rfl, h3, r3⟩ := trodAll_cons r2
    obtain ⟨v4, vs4, d4, ds4, p4, q4, rfl, rfl, rfl, h4, r4⟩ := trodAll_cons r3
    obtain ⟨v5, vs5, d5, ds5, p5, q5, rfl, rfl, rfl, h5, r5⟩ := trodAll_cons r4
    obtain ⟨v6, vs6, d6, ds6, p6, q6, rfl, rfl, rfl, h6, r6⟩ := trodAll_cons r5
    obtain ⟨v7, vs7, d7, ds7, p7, q7, rfl, rfl, rfl, h7, r7⟩ := trodAll_cons r6
    obtain ⟨v8, vs8, d8, ds8, p8, q8, rfl, rfl, rfl, h8, r8⟩ := trodAll_cons r7
    obtain ⟨rfl, rfl, rfl⟩ := trodAll_nil r8
    obtain rfl : args = #[v0, v1, v2, v3, v4, v5, v6, v7, v8] := by cases args; simp_all
    obtain ⟨a0, rfl, _, _, w0⟩ := open_int Try.underlying5 (hval 0 5 v0 rfl rfl) h0
    obtain ⟨a1, rfl, _, _, w1⟩ := open_int Try.underlying5 (hval 1 5 v1 rfl rfl) h1
    obtain ⟨a2, rfl, _, _, w2⟩ := open_int Try.underlying5 (hval 2 5 v2 rfl rfl) h2
    obtain ⟨a3, rfl, _, _, w3⟩ := open_int Try.underlying5 (hval 3 5 v3 rfl rfl) h3
    obtain ⟨s1, s2, s3, s4, rfl⟩ := open_scale (hval 4 29 v4 rfl rfl) h4
    obtain ⟨a5, rfl, _, _, w5⟩ := open_int Try.underlying3 (hval 5 3 v5 rfl rfl) h5
    obtain ⟨a6, rfl, _, _, w6⟩ := open_int Try.underlying3 (hval 6 3 v6 rfl rfl) h6
    obtain ⟨a7, rfl, _, _, w7⟩ := open_int Try.underlying3 (hval 7 3 v7 rfl rfl) h7
    obtain ⟨a8, rfl, _, _, w8⟩ := open_int Try.underlying3 (hval 8 3 v8 rfl rfl) h8
    exact true_of_call (call4 (u8_of w0) (u8_of w1) (u8_of w2) (u8_of w3) s1 s2 s3 s4 a5 a6 a7 a8)
      ⟨_, _, rfl, rfl, _, _, rfl, rfl, _, _, rfl, rfl, _, _, rfl, rfl, _, _, rfl, ⟨_, rfl, _, _, rfl, rfl, _, _, rfl, rfl, _, _, rfl, rfl, _, _, rfl, rfl, rfl⟩, _, _, rfl, rfl, _, _, rfl, rfl, _, _, rfl, rfl, _, _, rfl, rfl, rfl⟩
theorem over4 : Rows.scalerTellsRow.holds Try.pinned (OpenSpec.ofChange Rows.scalerTellsSpec) :=
  OpenClaim.holds_of_wide 4 Try.f4 rfl rfl rfl rfl rfl rfl rfl ⟨rfl, rfl, rfl, rfl, rfl⟩ rfl rfl rfl rfl rfl (by kernel_rfl) Try.func4 (by kernel_rfl)
    (of_decide_eq_true (by kernel_rfl)) (by unfold Func.isWrapper; first | (rw [if_pos (by decide +kernel)]; kernel_rfl) | (rw [if_neg (by decide +kernel)]; exact ⟨rfl, rfl⟩))
    (fun os started H enc _ => lifted4 os started H enc)
theorem scalerTells_holds : Rows.ScalerTellsSaid := over4
#print axioms scalerTells_holds
end Go.Proofs.Ytcpicekmnkjceaa.VI

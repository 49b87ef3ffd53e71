import Derived.Test.YtcpicekmnkjceaaTa2b53243
import Derived.Test.YtcpicekmnkjceaaRows
import Derived.WalkKit
import Derived.ProofKit
namespace Go.Proofs.Ytcpicekmnkjceaa.VI
set_option linter.unusedVariables false
set_option linter.unusedSimpArgs false
set_option linter.unusedSimpArgs false
set_option linter.unusedVariables false
set_option maxRecDepth 100000
set_option maxHeartbeats 4000000
noncomputable def OB (f p q : Int) (K : Option Bool) : Option Bool :=
  (F_order_Compare f p q).bind fun r9 =>
  (F_annealref1_Compare f p q).bind fun r10 =>
  bif (r9.1 != r10.1) then
    (some false)
  else
    bif (!(r9.2.1 == r10.2.1)) then
      (some false)
    else
      (F_order_Less f p q).bind fun r11 =>
      (F_annealref1_Less f p q).bind fun r12 =>
      bif (!(r11 == r12)) then
        (some false)
      else
        (F_order_Min f p q).bind fun r13 =>
        (F_annealref1_Min f p q).bind fun r14 =>
        bif (r13 != r14) then
          (some false)
        else
          (F_order_Max f p q).bind fun r15 =>
          (F_annealref1_Max f p q).bind fun r16 =>
          bif (r15 != r16) then
            (some false)
          else
            (F_order_Key f p).bind fun r17 =>
            (F_annealref1_Key f p).bind fun r18 =>
            bif (r17 != r18) then
              (some false)
            else K
theorem ob_ok (f : Int) {p q : Int} (hp : w32 p) (hq : w32 q) (K) : OB f p q K = K := by
  unfold OB
  rw [cmp_eq f hp hq, cmpr_eq f hp hq, less_eq f hp hq, lessr_eq f hp hq, min_eq' f hp hq, minr_eq f hp hq, max_eq' f hp hq, maxr_eq f hp hq, key_eq f hp, keyr_eq f hp]
  simp
noncomputable def OROW (f a b : Int) (K : Option Bool) : Option Bool :=
  (F_annealseat_Num f a).bind fun r4 =>
  (F_annealseat_Num f b).bind fun r5 =>
  (F_annealseat_Num f a).bind fun r6 =>
  (F_annealseat_Num f a).bind fun r7 =>
  OB f a b <| OB f r4 r5 <| OB f r6 (bits .xor .u32 r7 1) <| OB f a a K
theorem orow_ok (f : Int) {a b : Int} (ha : w32 a) (hb : w32 b) (K) : OROW f a b K = K := by
  unfold OROW
  obtain ⟨x, hx, wx⟩ := num_w f ha
  obtain ⟨y, hy, wy⟩ := num_w f hb
  rw [hx, hy]
  simp only [Option.bind_some, ob_ok f ha hb, ob_ok f wx wy, ob_ok f wx (xor_w _ _), ob_ok f ha ha]
theorem form_eq7 {k : Int} (h : 0 ≤ k) : ∃ f, F_anneallaw7_form k = some f := by
  unfold F_anneallaw7_form
  have h15 : (0:Int) ≤ Int.tmod k 3 ∧ Int.tmod k 3 < 3 := by rw [tmod_nn h]; omega
  rw [bif_dec, if_pos h15, bif_dec, if_pos (by omega)]
  exact ⟨_, rfl⟩
theorem orderTells (f k a b : Int) (hk : 0 ≤ k) (ha : w32 a) (hb : w32 b) : F_anneallaw7_OrderTells f k a b = some true := by
  have : F_anneallaw7_OrderTells f k a b = (F_anneallaw7_form k).bind fun g => OROW f a b <| OROW g a b <| some true := by kernel_rfl
  rw [this]
  obtain ⟨g, hg⟩ := form_eq7 hk
  rw [hg]
  simp only [Option.bind_some, orow_ok _ ha hb]
end Go.Proofs.Ytcpicekmnkjceaa.VI

namespace Go.Proofs.Ytcpicekmnkjceaa.VI
set_option linter.unusedVariables false
set_option linter.unusedSimpArgs false
set_option maxRecDepth 100000
theorem callOrderTells : ∀ l, args [.i .i64, .i .u8, .i .u32, .i .u32] l → oks l → CallOk PR i_anneallaw7_OrderTells l [] fun r _ => r = .b true :=
  rowT (fa := fa_anneallaw7_OrderTells) (F := G_anneallaw7_OrderTells) rfl rfl ok_anneallaw7_OrderTells (enters p_anneallaw7_OrderTells (by kernel_rfl) (by kernel_rfl)) rfl fun x hx =>
    orderTells _ _ _ _ hx.2.1.1 ⟨hx.2.2.1.1, Int.lt_add_one_of_le hx.2.2.1.2⟩ ⟨hx.2.2.2.1.1, Int.lt_add_one_of_le hx.2.2.2.1.2⟩
end Go.Proofs.Ytcpicekmnkjceaa.VI

namespace Go.Proofs.Ytcpicekmnkjceaa.VI
set_option linter.unusedVariables false
set_option linter.unusedSimpArgs false
open Go.ChangeShapes Go.WideShapes Go.RowKit Go.WideElems Ytcpicekmnkjceaa
set_option maxRecDepth 100000
theorem laid : laidOutB Try.prog = true := by kernel_rfl
theorem own : ownKnob Try.prog.godebug = none := by kernel_rfl
theorem lifted (os : Os) (started : os.Started) (H : Type) (enc : TypeId × Value → H) :
    ReturnsInHanded {} Try.checked os 14 .any (Rows.orderTellsSpec.pre6 enc Try.prog Try.f14 Rows.orderTellsRow.domain false) (Rows.orderTellsSpec.post enc Try.prog Try.f14 false true false false) :=
  lift_args (C := Try.checked) own started (by kernel_rfl) Try.func14
    (ChangeSpec.witness6 (enc := enc) (C := Try.checked) false ⟨#[], #[.int .i64 0, .int .u8 0, .int .u32 0, .int .u32 0], []⟩ 8 (by kernel_rfl) (by kernel_rfl) (by kernel_rfl) (by kernel_rfl))
    laid Try.underlying4 rfl (by kernel_rfl) rfl (fun ds hd => match ds, hd with
    | [_, _, _, _], _ => rfl) (d := 6) (by kernel_rfl) (Fs := [.i .i64, .i .u8, .i .u32, .i .u32]) (by kernel_rfl) callOrderTells
theorem over : Rows.orderTellsRow.holds Try.pinned (OpenSpec.ofChange Rows.orderTellsSpec) :=
  OpenClaim.holds_of_wide 14 Try.f14 rfl rfl rfl rfl rfl rfl rfl ⟨rfl, rfl, rfl, rfl, rfl⟩ rfl rfl rfl rfl rfl (by kernel_rfl) Try.func14 (by kernel_rfl)
    (of_decide_eq_true (by kernel_rfl)) (by unfold Func.isWrapper; first | (rw [if_pos (by decide +kernel)]; kernel_rfl) | (rw [if_neg (by decide +kernel)]; exact ⟨rfl, rfl⟩))
    (fun os started H enc _ => lifted os started H enc)
end Go.Proofs.Ytcpicekmnkjceaa.VI

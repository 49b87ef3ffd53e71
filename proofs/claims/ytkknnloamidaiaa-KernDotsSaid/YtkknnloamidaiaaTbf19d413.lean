import Derived.Test.YtkknnloamidaiaaTf5d86d7c
import Derived.Test.YtkknnloamidaiaaRows
import Derived.WalkKit
import Derived.ProofKit
namespace Go.Proofs.Ytkknnloamidaiaa.VI
set_option linter.unusedVariables false
set_option linter.unusedSimpArgs false
set_option linter.unusedSimpArgs false
set_option linter.unusedVariables false
set_option maxRecDepth 100000
set_option maxHeartbeats 4000000
theorem mild_w {k : Int} (f : Int) (h : w32 k) : ∃ v, F_annealseat_Mild f k = some v ∧ w32 v := by
  unfold F_annealseat_Mild
  rw [bif_eq]
  by_cases h0 : Int.tmod k 7 = 0
  · rw [if_pos h0]; exact ⟨0, rfl, ⟨by decide, by decide⟩⟩
  rw [if_neg h0, zeror_w, ← widr_nf f]
  rcases nf_cases f with e | e | e <;> rw [e]
  all_goals
    show ∃ v, (bif (bits .and .u32 k 1 == 1) then some (bits .or .u32 _ _) else some (IntKind.wrap .u32 _)) = some v ∧ w32 v
    cases bits .and .u32 k 1 == 1
    · refine ⟨_, rfl, ?_⟩; rw [wu32_eq]; exact ⟨by omega, by omega⟩
    · exact ⟨_, rfl, or_w _ _⟩
theorem kernDots (a b : List Int) (m : Bool) (ha : wl a) (hb : wl b) : F_anneallaw14_KernDots a b m = some true := by
  unfold F_anneallaw14_KernDots
  rw [known14]
  simp only [Option.bind_some, Bool.not_true, cond_false, bif_dec, List.take_length]
  by_cases la : (((a.length : Nat) : Int) > 60)
  · rw [if_pos la]
  rw [if_neg la]
  by_cases lb : (((b.length : Nat) : Int) > 60)
  · rw [if_pos lb]
  rw [if_neg lb]
  obtain ⟨r, hr, k, X, Y, hr2, hk, lX, lY, wX, wY⟩ := lim_post (st := st_anneallaw14_KernDots_0)
    (fun v => ∃ (i : Nat) (X Y : List Int), v = ((a, (b, (i, (i, ((i : Int), ()))))), (X, (Y, ()))) ∧ i ≤ a.length ∧ i ≤ b.length ∧ X.length = i ∧ Y.length = i ∧ wl X ∧ wl Y)
    (fun v => a.length + 1 - v.1.2.2.1)
    (fun r => ∃ (i : Nat) (X Y : List Int), r = ((a, (b, (i, (i, ())))), (X, (Y, ()))) ∧ i ≤ a.length ∧ X.length = i ∧ Y.length = i ∧ wl X ∧ wl Y)
    (fun v hv => by
      obtain ⟨i, X, Y, rfl, h1, h2, h3, h4, h5, h6⟩ := hv
      by_cases hi : i < a.length ∧ i < b.length
      · left
        obtain ⟨x, hx, wx⟩ := mild_w 2 (wl_get ha i)
        obtain ⟨y, hy, wy⟩ := mild_w 2 (wl_get hb i)
        refine ⟨((a, (b, (i + 1, (i + 1, (((i + 1 : Nat) : Int), ()))))), (X ++ [x], (Y ++ [y], ()))), fun R kn ko => ?_, ⟨i + 1, X ++ [x], Y ++ [y], rfl, by omega, by omega, by simp [h3], by simp [h4], ?_, ?_⟩, by simp only; omega⟩
        · unfold st_anneallaw14_KernDots_0
          dsimp only
          simp only [List.take_length, bif_dec, Int.toNat_natCast, mn_eq]
          rw [if_pos (show (i : Int) < min (a.length : Int) (b.length : Int) by omega), if_pos (by omega), hx]
          simp only [Option.bind_some]
          rw [if_pos (by omega), if_pos (by omega), hy]
          simp only [Option.bind_some]
          rw [if_pos (by omega), wi64 (by omega), show ((i + 1 : Nat) : Int) = (i : Int) + 1 by omega]
          rw [List.take_of_length_le (by omega), List.take_of_length_le (by omega)]
        · intro c hc; rcases List.mem_append.1 hc with q | q
          · exact h5 c q
          · simp at q; rw [q]; exact wx
        · intro c hc; rcases List.mem_append.1 hc with q | q
          · exact h6 c q
          · simp at q; rw [q]; exact wy
      · right
        refine ⟨((a, (b, (i, (i, ())))), (X, (Y, ()))), fun R kn ko => ?_, ⟨i, X, Y, rfl, h1, h3, h4, h5, h6⟩⟩
        unfold st_anneallaw14_KernDots_0
        dsimp only
        simp only [List.take_length, bif_dec, mn_eq]
        rw [if_neg (show ¬ (i : Int) < min (a.length : Int) (b.length : Int) by omega)])
    ((a, (b, ((0:Nat), ((0:Nat), ((0:Int), ()))))), ([], ([], ()))) ⟨0, [], [], rfl, by omega, by omega, rfl, rfl, fun c hc => absurd hc (by simp), fun c hc => absurd hc (by simp)⟩
  rw [hr, hr2]
  simp only [Option.bind_some, List.take_length, List.drop_zero]
  rw [List.take_of_length_le (by omega), List.take_of_length_le (by omega)]
  rw [dot_eq a b ha hb (by omega), dotr_eq a b ha hb (by omega), dot_eq X Y wX wY (by omega), dotr_eq X Y wX wY (by omega)]
  simp only [Option.bind_some]
  rw [if_pos (show X.length = Y.length by omega)]
  simp
theorem wl_ok {l : List Int} (h : ∀ a ∈ l, inR .u32 a) : wl l := fun a ha => ⟨(h a ha).1, Int.lt_add_one_of_le (h a ha).2⟩
theorem callKernDots : ∀ l, args [.ints .u32, .ints .u32, .b] l → oks l → CallOk PR i_anneallaw14_KernDots l [] fun r _ => r = .b true :=
  rowT (fa := fa_anneallaw14_KernDots) (F := G_anneallaw14_KernDots) rfl rfl ok_anneallaw14_KernDots (enters p_anneallaw14_KernDots (by kernel_rfl) (by kernel_rfl)) rfl fun x hx =>
    kernDots _ _ _ (wl_ok hx.1.2) (wl_ok hx.2.1.2)
end Go.Proofs.Ytkknnloamidaiaa.VI

namespace Go.Proofs.Ytkknnloamidaiaa.VI
set_option linter.unusedVariables false
set_option linter.unusedSimpArgs false
open Go.ChangeShapes Go.WideShapes Go.RowKit Go.WideElems Ytkknnloamidaiaa
set_option maxRecDepth 100000
theorem laid : laidOutB Try.prog = true := by kernel_rfl
theorem own : ownKnob Try.prog.godebug = none := by kernel_rfl
theorem lifted (os : Os) (started : os.Started) (H : Type) (enc : TypeId × Value → H) :
    ReturnsInHanded {} Try.checked os 7 .any (Rows.kernDotsSpec.pre6 enc Try.prog Try.f7 Rows.kernDotsRow.domain false) (Rows.kernDotsSpec.post enc Try.prog Try.f7 false true false false) :=
  lift_args (C := Try.checked) own started (by kernel_rfl) Try.func7
    (ChangeSpec.witness6 (enc := enc) (C := Try.checked) false ⟨#[], #[.slice none 0 0, .slice none 0 0, .bool false], []⟩ 8 (by kernel_rfl) (by kernel_rfl) (by kernel_rfl) (by kernel_rfl))
    laid Try.underlying4 rfl (by kernel_rfl) rfl (fun ds hd => match ds, hd with
    | [_, _, _], _ => rfl) (d := 6) (by kernel_rfl) (Fs := [.ints .u32, .ints .u32, .b]) (by kernel_rfl) callKernDots
theorem over : Rows.kernDotsRow.holds Try.pinned (OpenSpec.ofChange Rows.kernDotsSpec) :=
  OpenClaim.holds_of_wide 7 Try.f7 rfl rfl rfl rfl rfl rfl rfl ⟨rfl, rfl, rfl, rfl, rfl⟩ rfl rfl rfl rfl rfl (by kernel_rfl) Try.func7 (by kernel_rfl)
    (of_decide_eq_true (by kernel_rfl)) (by unfold Func.isWrapper; first | (rw [if_pos (by decide +kernel)]; kernel_rfl) | (rw [if_neg (by decide +kernel)]; exact ⟨rfl, rfl⟩))
    (fun os started H enc _ => lifted os started H enc)
end Go.Proofs.Ytkknnloamidaiaa.VI

import Derived.Test.YtkmkhcmfpbffjaaGreatT38a19083
import Derived.Test.YtkmkhcmfpbffjaaGreatRows
import Derived.WalkKit
import Derived.ProofKit
namespace Go.Proofs.YtkmkhcmfpbffjaaGreat.VI
set_option linter.unusedVariables false
set_option linter.unusedSimpArgs false
set_option maxRecDepth 100000
set_option maxHeartbeats 4000000
def addP (n : Nat) (t u : TsT) (W : List PaT) : List PaT := rowsOf (n + 1) (fun j => (putR (Nat.beq j (n + 0)) t (W.getD j dP).1, putR (Nat.beq j (n + 0)) u (W.getD j dP).2.1, ()))
theorem addP_eq {n : Nat} (t u : TsT) {W : List PaT} (h : W.length = n) : addP n t u W = W ++ [(t, u, ())] := by
  unfold addP
  simp only [putR_eq]
  apply List.ext_getElem
  · simp [rowsOf, h]
  · intro k h1 h2
    have hk : k < n + 1 := by simpa [rowsOf] using h1
    simp only [rowsOf, List.getElem_map, List.getElem_range]
    by_cases e : k = n
    · subst e
      rw [show Nat.beq k (k + 0) = true from Nat.beq_refl _]
      rw [List.getElem_append_right (by omega)]
      simp [h]
    · have : Nat.beq k (n + 0) = false := by
        rw [Bool.eq_false_iff]; intro z; exact e (Nat.eq_of_beq_eq_true z)
      rw [this, List.getElem_append_left (by omega)]
      simp [List.getD, show k < W.length by omega]
theorem par1St (w l : List Int) (m : Bool) (n : Nat) (i : Int) (k : Nat) (j : Int) (P : List PaT) (L : List Int) (R : Type) (kn : S_9f_1 → Option R) (ko : E_9f_1 → Option R) :
    st_9f_1 R ((w, (l, (m, (n, (i, (k, (j, ()))))))), (P, (L, ()))) kn ko =
      bif (decide (j < ((l.length : Nat) : Int))) then
        bif (decide (((0:Int) ≤ j) ∧ (j < ((l.length : Nat) : Int)))) then
          bif (decide ((k + 1) ≤ 1073741824)) then
            bif ((allR P.length (fun _ => true)) && true) then
              kn (((w.take w.length), ((l.take l.length), (m, (n, (i, (k + 1, (IntKind.wrap .i64 (j + 1), ()))))))), (rowsP P, (L.take k ++ [IntKind.wrap .u32 (l.getD (Int.toNat j) 0 + IntKind.wrap .u32 (IntKind.wrap .u32 i * 77))], ())))
            else none
          else none
        else none
      else
        bif ((allR P.length (fun _ => true)) && true) then
          ko (((w.take w.length), ((l.take l.length), (m, (n, (i, (k, ())))))), (rowsP P, (L, ())))
        else none := by kernel_rfl
theorem par0St (w l : List Int) (m : Bool) (n : Nat) (i : Int) (P : List PaT) (R : Type) (kn : S_9f_0 → Option R) (ko : E_9f_0 → Option R) :
    st_9f_0 R ((w, (l, (m, (n, (i, ()))))), (P, ())) kn ko =
      bif (decide ((IntKind.wrap .i64 (i + 1)) < ((w.length : Nat) : Int))) then
        bif ((allR P.length (fun _ => true)) && true) then
          (lim st_9f_1 ((w.take w.length, (l.take l.length, (m, (n, (i, ((0 : Nat), ((0 : Int), ()))))))), (rowsP P, ([], ())))).bind fun r =>
          bif (decide (((0:Int) ≤ (IntKind.wrap .i64 (r.1.2.2.2.2.1 + 1))) ∧ ((IntKind.wrap .i64 (r.1.2.2.2.2.1 + 1)) < ((r.1.1.length : Nat) : Int)))) then
            bif (decide (((0:Int) ≤ r.1.2.2.2.2.1) ∧ (r.1.2.2.2.2.1 < ((r.1.1.length : Nat) : Int)))) then
              (F_910 (r.1.1.getD (Int.toNat (IntKind.wrap .i64 (r.1.2.2.2.2.1 + 1))) 0) (r.1.1.getD (Int.toNat r.1.2.2.2.2.1) 0) 2 ((r.2.2.1.drop 0).take r.1.2.2.2.2.2.1) r.1.2.2.1).bind fun t =>
              bif (decide (((0:Int) ≤ (IntKind.wrap .i64 (r.1.2.2.2.2.1 + 1))) ∧ ((IntKind.wrap .i64 (r.1.2.2.2.2.1 + 1)) < ((r.1.1.length : Nat) : Int)))) then
                (F_910 1 (r.1.1.getD (Int.toNat (IntKind.wrap .i64 (r.1.2.2.2.2.1 + 1))) 0) 2 ((r.2.2.1.drop 0).take r.1.2.2.2.2.2.1) r.1.2.2.1).bind fun u =>
                bif (decide (r.1.2.2.2.1 + 1 ≤ 1073741824)) then
                  bif ((allR (r.1.2.2.2.1 + 1) (fun _ => true)) && true) then
                    kn ((r.1.1.take r.1.1.length, (r.1.2.1.take r.1.2.1.length, (r.1.2.2.1, (r.1.2.2.2.1 + 1, (IntKind.wrap .i64 (r.1.2.2.2.2.1 + 1), ()))))), (addP r.1.2.2.2.1 t u r.2.1, ()))
                  else none
                else none
              else none
            else none
          else none
        else none
      else
        bif ((allR P.length (fun _ => true)) && true) then ko ((n, ()), (rowsP P, ())) else none := by kernel_rfl
theorem parF (w l : List Int) (m : Bool) : F_9f w l m =
    (lim st_9f_0 ((w.take w.length, (l.take l.length, (m, ((0 : Nat), ((0 : Int), ()))))), ([], ()))).bind fun r =>
    bif ((allR r.1.1 (fun _ => true)) && true) then some (rowsOf r.1.1 (fun j => tkP (r.2.1.getD j dP))) else none := by kernel_rfl
noncomputable def sT (r c f : Int) (l : List Int) (m : Bool) : TsT := (F_910 r c f l m).getD dT
theorem sT_ok (R C : Nat) (f : Int) (l : List Int) (m : Bool) (hR : R ≤ 4096) (hC : C ≤ 4096) (hl : l.length < 4611686018427387904) :
    F_910 (R : Int) (C : Int) f l m = some (sT R C f l m) ∧ ∃ V, sT R C f l m = ((R : Int), (C : Int), f, V, ()) ∧ V.length = R * C ∧ (∀ v ∈ V, wf f v) ∧ (m = true → ∀ v ∈ V, mildP f v) := by
  obtain ⟨V, h1, h2⟩ := seatT R C f l m hR hC hl
  have e : sT R C f l m = ((R : Int), (C : Int), f, V, ()) := by unfold sT; rw [h1]; rfl
  exact ⟨by rw [e]; exact h1, V, e, h2⟩
def parR (l : List Int) (i : Int) (n : Nat) : List Int := (List.range n).map (fun k => IntKind.wrap .u32 (l.getD k 0 + IntKind.wrap .u32 (IntKind.wrap .u32 i * 77)))
theorem par1_loop (w l : List Int) (m : Bool) (n : Nat) (i : Int) (P : List PaT) (hl : l.length ≤ 1000000) :
    lim st_9f_1 ((w, (l, (m, (n, (i, ((0 : Nat), ((0 : Int), ()))))))), (P, ([], ()))) = some ((w, (l, (m, (n, (i, (l.length, ())))))), (P, (parR l i l.length, ()))) :=
  lim_seq (st := st_9f_1) (fun (k : Nat) => ((w, (l, (m, (n, (i, (k, ((k : Int), ()))))))), (P, (parR l i k, ())))) l.length
    (fun k hk R kn ko => by
      show st_9f_1 R ((w, (l, (m, (n, (i, (k, ((k : Int), ()))))))), (P, (parR l i k, ()))) kn ko = kn ((w, (l, (m, (n, (i, (k + 1, (((k + 1 : Nat) : Int), ()))))))), (P, (parR l i (k + 1), ())))
      have hp : (parR l i k).length = k := by simp [parR]
      have hs : parR l i (k + 1) = parR l i k ++ [IntKind.wrap .u32 (l.getD k 0 + IntKind.wrap .u32 (IntKind.wrap .u32 i * 77))] := by unfold parR; rw [List.range_succ, List.map_append]; rfl
      rw [par1St, hs]
      simp only [bif_dec, allR_true, Bool.and_true, cond_true, rowsP_id, List.take_length, Int.toNat_natCast]
      rw [if_pos (show (k : Int) < (l.length : Int) by omega), if_pos (show (0 : Int) ≤ (k : Int) ∧ (k : Int) < (l.length : Int) by omega), if_pos (show k + 1 ≤ 1073741824 by omega), wi64 (n := (k : Int) + 1) (by omega), List.take_of_length_le (by omega), show ((k + 1 : Nat) : Int) = (k : Int) + 1 by omega])
    (fun R kn ko => by
      show st_9f_1 R ((w, (l, (m, (n, (i, (l.length, ((l.length : Int), ()))))))), (P, (parR l i l.length, ()))) kn ko = _
      rw [par1St]
      simp only [bif_dec, allR_true, Bool.and_true, cond_true, rowsP_id, List.take_length]
      rw [if_neg (show ¬ (l.length : Int) < (l.length : Int) by omega)])
noncomputable def parO (w : List Int) (l : List Int) (m : Bool) (i : Nat) : PaT := (sT (w.getD (i + 1) 0) (w.getD i 0) 2 (parR l i l.length) m, sT 1 (w.getD (i + 1) 0) 2 (parR l i l.length) m, ())
noncomputable def parL (w : List Int) (l : List Int) (m : Bool) (n : Nat) : List PaT := (List.range n).map (parO w l m)
theorem params_eq (w l : List Int) (m : Bool) (hl : l.length ≤ 1000000) (hw0 : 0 < w.length) (hw1 : w.length ≤ 1000) (hw : ∀ i, i < w.length → 0 ≤ w.getD i 0 ∧ w.getD i 0 ≤ 4096) :
    F_9f w l m = some (parL w l m (w.length - 1)) := by
  have key : lim st_9f_0 ((w, (l, (m, ((0 : Nat), ((0 : Int), ()))))), ([], ())) = some ((w.length - 1, ()), (parL w l m (w.length - 1), ())) :=
    lim_seq (st := st_9f_0) (fun (i : Nat) => ((w, (l, (m, (i, ((i : Int), ()))))), (parL w l m i, ()))) (w.length - 1)
      (fun i hi R kn ko => by
        show st_9f_0 R ((w, (l, (m, (i, ((i : Int), ()))))), (parL w l m i, ())) kn ko = kn ((w, (l, (m, (i + 1, (((i + 1 : Nat) : Int), ()))))), (parL w l m (i + 1), ()))
        have hp : (parL w l m i).length = i := by simp [parL]
        have hs : parL w l m (i + 1) = parL w l m i ++ [parO w l m i] := by unfold parL; rw [List.range_succ, List.map_append]; rfl
        have ew : IntKind.i64.wrap ((i : Int) + 1) = (i : Int) + 1 := wi64 (by omega)
        have et : ((i : Int) + 1).toNat = i + 1 := by omega
        have hr : (parR l i l.length).length = l.length := by simp [parR]
        obtain ⟨a, ha⟩ : ∃ a : Nat, w.getD (i + 1) 0 = a := ⟨(w.getD (i + 1) 0).toNat, by have := (hw (i + 1) (by omega)).1; omega⟩
        obtain ⟨b, hb⟩ : ∃ b : Nat, w.getD i 0 = b := ⟨(w.getD i 0).toNat, by have := (hw i (by omega)).1; omega⟩
        have a1 := (hw (i + 1) (by omega)).2
        have b1 := (hw i (by omega)).2
        rw [par0St, hs]
        simp only [bif_dec, allR_true, Bool.and_true, cond_true, rowsP_id, List.take_length, ew]
        rw [if_pos (show (i : Int) + 1 < (w.length : Int) by omega), par1_loop w l m i (i : Int) _ hl]
        simp only [Option.bind_some, ew, et, Int.toNat_natCast, List.drop_zero, List.take_length]
        rw [if_pos (show (0 : Int) ≤ (i : Int) + 1 ∧ (i : Int) + 1 < (w.length : Int) by omega), if_pos (show (0 : Int) ≤ (i : Int) ∧ (i : Int) < (w.length : Int) by omega), List.take_of_length_le (show (parR l (i : Int) l.length).length ≤ l.length by omega)]
        unfold parO
        rw [ha, hb, (sT_ok a b 2 (parR l i l.length) m (by omega) (by omega) (by omega)).1]
        simp only [Option.bind_some]
        rw [if_pos (show (0 : Int) ≤ (i : Int) + 1 ∧ (i : Int) + 1 < (w.length : Int) by omega), show F_910 1 (a : Int) 2 (parR l i l.length) m = _ from (sT_ok 1 a 2 (parR l i l.length) m (by omega) (by omega) (by omega)).1]
        simp only [Option.bind_some]
        rw [if_pos (show i + 1 ≤ 1073741824 by omega), addP_eq _ _ hp, show ((i + 1 : Nat) : Int) = (i : Int) + 1 by omega]
        rfl)
      (fun R kn ko => by
        show st_9f_0 R ((w, (l, (m, (w.length - 1, (((w.length - 1 : Nat) : Int), ()))))), (parL w l m (w.length - 1), ())) kn ko = _
        rw [par0St]
        simp only [bif_dec, allR_true, Bool.and_true, cond_true, rowsP_id]
        rw [wi64 (n := ((w.length - 1 : Nat) : Int) + 1) (by omega), if_neg (show ¬ ((w.length - 1 : Nat) : Int) + 1 < (w.length : Int) by omega)])
  rw [parF]
  simp only [List.take_length]
  rw [key]
  simp only [Option.bind_some, allR_true, Bool.and_true, cond_true, tkP_id]
  have h := rowsOf_id (parL w l m (w.length - 1)) dP
  rw [show (parL w l m (w.length - 1)).length = w.length - 1 by simp [parL]] at h
  rw [h]
end Go.Proofs.YtkmkhcmfpbffjaaGreat.VI

namespace Go.Proofs.YtkmkhcmfpbffjaaGreat.VI
set_option linter.unusedVariables false
set_option linter.unusedSimpArgs false
set_option maxRecDepth 100000
set_option maxHeartbeats 4000000
noncomputable def tailNL {α : Type} (ch dw dwk dp dpk ok : Bool) (nar : Option Int) (X : Int) (bad good : Option α) : Option α :=
  bif (!ch) then
    bif dw then bif dwk then bif dp then bif dpk then
      nar.bind fun r => bif (X != r) then bad else bif ok then good else none
    else none else none else none else none
  else bif ok then good else none
theorem nl1St (ch : Bool) (p : List PaT) (w : List TsT) (i k : Int) (c : CfgT) (R : Type) (kn : S_9b_1 → Option R) (ko : E_9b_1 → Option R) :
    st_9b_1 R ((ch, (p, (w, (i, (k, ()))))), (c, ())) kn ko =
      bif (decide (((0:Int) ≤ i) ∧ (i < ((w.length : Nat) : Int)))) then
        bif (decide (k < (((w.getD (Int.toNat i) dT).2.2.2.1.length : Nat) : Int))) then
          bif (decide (((0:Int) ≤ i) ∧ (i < ((p.length : Nat) : Int)))) then
            bif (decide (((0:Int) ≤ k) ∧ (k < (((p.getD (Int.toNat i) dP).1.2.2.2.1.length : Nat) : Int)))) then
              (F_913 2 (cFmt c) 3 ((p.getD (Int.toNat i) dP).1.2.2.2.1.getD (Int.toNat k) 0)).bind fun a =>
              bif (decide (((0:Int) ≤ i) ∧ (i < ((p.length : Nat) : Int)))) then
                bif (decide (((0:Int) ≤ k) ∧ (k < (((p.getD (Int.toNat i) dP).1.2.2.2.1.length : Nat) : Int)))) then
                  (F_913 2 (cFmt c) 2 ((p.getD (Int.toNat i) dP).1.2.2.2.1.getD (Int.toNat k) 0)).bind fun b =>
                  bif (decide (((0:Int) ≤ i) ∧ (i < ((w.length : Nat) : Int)))) then
                    bif (decide (((0:Int) ≤ k) ∧ (k < (((w.getD (Int.toNat i) dT).2.2.2.1.length : Nat) : Int)))) then
                      bif ((w.getD (Int.toNat i) dT).2.2.2.1.getD (Int.toNat k) 0 != a.1) then
                        bif (decide (((0:Int) ≤ i) ∧ (i < ((w.length : Nat) : Int)))) then
                          bif (decide (((0:Int) ≤ k) ∧ (k < (((w.getD (Int.toNat i) dT).2.2.2.1.length : Nat) : Int)))) then
                            bif ((w.getD (Int.toNat i) dT).2.2.2.1.getD (Int.toNat k) 0 != b.1) then ko (Sum.inr ((false, ()), ()))
                            else
                              tailNL ch (decide (((0:Int) ≤ i) ∧ (i < ((w.length : Nat) : Int)))) (decide (((0:Int) ≤ k) ∧ (k < (((w.getD (Int.toNat i) dT).2.2.2.1.length : Nat) : Int)))) (decide (((0:Int) ≤ i) ∧ (i < ((p.length : Nat) : Int)))) (decide (((0:Int) ≤ k) ∧ (k < (((p.getD (Int.toNat i) dP).1.2.2.2.1.length : Nat) : Int))))
                                (((allR p.length (fun _ => true)) && ((allR w.length (fun _ => true)) && true)) && true) (F_914 (cFmt c) ((p.getD (Int.toNat i) dP).1.2.2.2.1.getD (Int.toNat k) 0)) ((w.getD (Int.toNat i) dT).2.2.2.1.getD (Int.toNat k) 0)
                                (ko (Sum.inr ((false, ()), ()))) (kn ((ch, (rowsP p, (rowsT w, (i, (IntKind.wrap .i64 (k + 1), ()))))), (tkc c, ())))
                          else none
                        else none
                      else
                        tailNL ch (decide (((0:Int) ≤ i) ∧ (i < ((w.length : Nat) : Int)))) (decide (((0:Int) ≤ k) ∧ (k < (((w.getD (Int.toNat i) dT).2.2.2.1.length : Nat) : Int)))) (decide (((0:Int) ≤ i) ∧ (i < ((p.length : Nat) : Int)))) (decide (((0:Int) ≤ k) ∧ (k < (((p.getD (Int.toNat i) dP).1.2.2.2.1.length : Nat) : Int))))
                          (((allR p.length (fun _ => true)) && ((allR w.length (fun _ => true)) && true)) && true) (F_914 (cFmt c) ((p.getD (Int.toNat i) dP).1.2.2.2.1.getD (Int.toNat k) 0)) ((w.getD (Int.toNat i) dT).2.2.2.1.getD (Int.toNat k) 0)
                          (ko (Sum.inr ((false, ()), ()))) (kn ((ch, (rowsP p, (rowsT w, (i, (IntKind.wrap .i64 (k + 1), ()))))), (tkc c, ())))
                    else none
                  else none
                else none
              else none
            else none
          else none
        else
          bif (((allR p.length (fun _ => true)) && ((allR w.length (fun _ => true)) && true)) && true) then ko (Sum.inl ((ch, (rowsP p, (rowsT w, (i, ())))), (tkc c, ()))) else none
      else none := by kernel_rfl
theorem nl0St (ch : Bool) (p : List PaT) (w : List TsT) (i : Int) (c : CfgT) (R : Type) (kn : S_9b_0 → Option R) (ko : E_9b_0 → Option R) :
    st_9b_0 R ((ch, (p, (w, (i, ())))), (c, ())) kn ko =
      bif (decide (i < ((p.length : Nat) : Int))) then
        bif (decide (((0:Int) ≤ i) ∧ (i < ((w.length : Nat) : Int)))) then
          bif (decide (((0:Int) ≤ i) ∧ (i < ((p.length : Nat) : Int)))) then
            bif ((((w.getD (Int.toNat i) dT).2.2.2.1.length : Nat) : Int) != (((p.getD (Int.toNat i) dP).1.2.2.2.1.length : Nat) : Int)) then ko (Sum.inr ((false, ()), ()))
            else
              bif (decide (((0:Int) ≤ i) ∧ (i < ((w.length : Nat) : Int)))) then
                bif ((w.getD (Int.toNat i) dT).2.2.1 != cFmt c) then ko (Sum.inr ((false, ()), ()))
                else
                  bif (((allR p.length (fun _ => true)) && ((allR w.length (fun _ => true)) && true)) && true) then
                    (lim st_9b_1 ((ch, (rowsP p, (rowsT w, (i, ((0:Int), ()))))), (tkc c, ()))).bind fun r =>
                    els (fun l =>
                      bif (((allR l.1.2.1.length (fun _ => true)) && ((allR l.1.2.2.1.length (fun _ => true)) && true)) && true) then
                        kn ((l.1.1, (rowsP l.1.2.1, (rowsT l.1.2.2.1, (IntKind.wrap .i64 (l.1.2.2.2.1 + 1), ())))), (tkc l.2.1, ()))
                      else none) (fun r13 => ko (Sum.inr r13)) r
                  else none
              else none
          else none
        else none
      else ko (Sum.inl ((), ())) := by kernel_rfl
end Go.Proofs.YtkmkhcmfpbffjaaGreat.VI

namespace Go.Proofs.YtkmkhcmfpbffjaaGreat.VI
set_option linter.unusedVariables false
set_option linter.unusedSimpArgs false
set_option maxRecDepth 100000
set_option maxHeartbeats 4000000
abbrev U3 : Type := Int × Int × Int × Unit
def tl {α : Type} (ok : Bool) (d : Bool) (good : Option α) : Option α := bif d then (bif ok then good else none) else none
theorem fwdSt (p : List PaT) (w : List TsT) (micro N i : Int) (c : CfgT) (x : TsT) (U : U3) (nX nZ nK : Nat) (X Z K : List TsT) (R : Type) (kn : S_911_0 → Option R) (ko : E_911_0 → Option R) :
    st_911_0 R ((p, (w, (micro, (N, (i, ()))))), (c, (x, (U, ((), ((nX, (nZ, (nK, ()))), (X, (Z, (K, ()))))))))) kn ko =
      bif (decide (i < N)) then
        bif (decide (((0:Int) ≤ i) ∧ (i < ((w.length : Nat) : Int)))) then
          bif (decide (((0:Int) ≤ i) ∧ (i < ((p.length : Nat) : Int)))) then
            (F_922 (tkc c) (tkN x) (tkN (w.getD (Int.toNat i) dT)) (tkN (p.getD (Int.toNat i) dP).2.1)).bind fun r =>
            bif (decide (nX + 1 ≤ 1073741824)) then
              bif (decide (nZ + 1 ≤ 1073741824)) then
                bif (r.2.1 == (0:Int)) then
                  bif (decide (i < (IntKind.wrap .i64 (((p.length : Nat) : Int) - 1)))) then
                    (F_923 (tkc c) (tkN r.1) micro i).bind fun h =>
                    bif (h.2.2.1 != (0:Int)) then ko (Sum.inr (h.2.2, (((0:Int), ((0:Int), ((0:Int), ()))), ((), ()))))
                    else
                      tl (((allR p.length (fun _ => true)) && ((allR w.length (fun _ => true)) && true)) && ((allR (nX + 1) (fun _ => true)) && ((allR (nZ + 1) (fun _ => true)) && ((allR (nK + 1) (fun _ => true)) && true)))) (decide (nK + 1 ≤ 1073741824))
                        (kn ((rowsP p, (rowsT w, (micro, (N, (IntKind.wrap .i64 (i + 1), ()))))), (tkc c, (tkN h.1, (U, ((), ((nX + 1, (nZ + 1, (nK + 1, ()))), (addR nX x X, (addR nZ r.1 Z, (addR nK h.2.1 K, ()))))))))))
                  else
                    bif (r.2.1 != (0:Int)) then ko (Sum.inr (r.2, (((0:Int), ((0:Int), ((0:Int), ()))), ((), ()))))
                    else
                      tl (((allR p.length (fun _ => true)) && ((allR w.length (fun _ => true)) && true)) && ((allR (nX + 1) (fun _ => true)) && ((allR (nZ + 1) (fun _ => true)) && ((allR (nK + 1) (fun _ => true)) && true)))) (decide (nK + 1 ≤ 1073741824))
                        (kn ((rowsP p, (rowsT w, (micro, (N, (IntKind.wrap .i64 (i + 1), ()))))), (tkc c, (tkN x, (U, ((), ((nX + 1, (nZ + 1, (nK + 1, ()))), (addR nX x X, (addR nZ r.1 Z, (addR nK dT K, ()))))))))))
                else
                  bif (r.2.1 != (0:Int)) then ko (Sum.inr (r.2, (((0:Int), ((0:Int), ((0:Int), ()))), ((), ()))))
                  else
                    tl (((allR p.length (fun _ => true)) && ((allR w.length (fun _ => true)) && true)) && ((allR (nX + 1) (fun _ => true)) && ((allR (nZ + 1) (fun _ => true)) && ((allR (nK + 1) (fun _ => true)) && true)))) (decide (nK + 1 ≤ 1073741824))
                      (kn ((rowsP p, (rowsT w, (micro, (N, (IntKind.wrap .i64 (i + 1), ()))))), (tkc c, (tkN x, (U, ((), ((nX + 1, (nZ + 1, (nK + 1, ()))), (addR nX x X, (addR nZ r.1 Z, (addR nK dT K, ()))))))))))
              else none
            else none
          else none
        else none
      else
        bif (((allR p.length (fun _ => true)) && true) && ((allR X.length (fun _ => true)) && ((allR Z.length (fun _ => true)) && ((allR K.length (fun _ => true)) && true)))) then
          ko (Sum.inl ((rowsP p, ()), (U, ((), ((nX, (nZ, (nK, ()))), (rowsT X, (rowsT Z, (rowsT K, ()))))))))
        else none := by kernel_rfl
end Go.Proofs.YtkmkhcmfpbffjaaGreat.VI

namespace Go.Proofs.YtkmkhcmfpbffjaaGreat.VI
set_option linter.unusedVariables false
set_option linter.unusedSimpArgs false
set_option maxRecDepth 100000
set_option maxHeartbeats 8000000
def qb (q : Bool) (D j x : Nat) : Nat := if q then j * D + x else x * D + j
end Go.Proofs.YtkmkhcmfpbffjaaGreat.VI

namespace Go.Proofs.YtkmkhcmfpbffjaaGreat.VI
set_option linter.unusedVariables false
set_option linter.unusedSimpArgs false
set_option maxRecDepth 100000
set_option maxHeartbeats 4000000
theorem linearF (c : CfgT) (x w b : TsT) : F_922 c x w b =
    (F_948 (tkN x) (tkN w)).bind fun r =>
    bif (r.2.1 != (0:Int)) then some (dT, r.2)
    else
      (F_949 (tkN r.1) (tkN b)).bind fun s =>
      (F_94a (tkc c) (tkN s.1) s.2.1).bind fun t => some (tkN t.1, t.2) := by kernel_rfl
theorem castF (c : CfgT) (x : TsT) (e : Int) : F_94a c x e = bif (e != (0:Int)) then some (dT, (e, ())) else (F_925 (tkN x) (cFmt c)).bind fun r => some (tkN r.1, r.2) := by kernel_rfl
def rowsL (x w : TsT) (R C J : Nat) : List Int := prodL (wideL x) (wideL w) C J (R * J)
def biasL (x w b : TsT) (R C J : Nat) : List Int := (List.range (R * J)).map (fun i => addf (gl (wideL ((R : Int), (J : Int), 2, rowsL x w R C J, ())) i) (gl (wideL b) (i % J)))
def linL (f : Int) (x w b : TsT) (R C J : Nat) : List Int := castL ((R : Int), (J : Int), 2, biasL x w b R C J, ()) f
theorem biasL_wl (x w b : TsT) (R C J : Nat) : wl (biasL x w b R C J) := range_wl fun i => addf_w _ _
theorem biasL_len (x w b : TsT) (R C J : Nat) : (biasL x w b R C J).length = R * J := by simp [biasL]
theorem castL_len (t : TsT) (f : Int) : (castL t f).length = t.2.2.2.1.length := by simp [castL]
theorem castL_wf (t : TsT) (f : Int) : ∀ v ∈ castL t f, wf f v := by
  intro v hv
  obtain ⟨i, _, rfl⟩ := List.mem_map.1 hv
  exact to_wf _ _ _ _
theorem linL_len (f : Int) (x w b : TsT) (R C J : Nat) : (linL f x w b R C J).length = R * J := by unfold linL; rw [castL_len]; exact biasL_len _ _ _ _ _ _
theorem rc16 {R J : Nat} (hR : R ≤ 4096) (hJ : J ≤ 4096) : R * J ≤ 16777216 := Nat.mul_le_mul hR hJ
theorem linear_ok (c : CfgT) {R C J : Nat} {f g h : Int} {A B D : List Int} (hk : knownS (cFmt c) = true) (hA : wl A) (hB : wl B) (hD : wl D)
    (rx : rightS ((R : Int), (C : Int), f, A, ()) = true) (rw' : rightS ((J : Int), (C : Int), g, B, ()) = true) (rb : rightS ((1 : Int), (J : Int), h, D, ()) = true) :
    F_922 c ((R : Int), (C : Int), f, A, ()) ((J : Int), (C : Int), g, B, ()) ((1 : Int), (J : Int), h, D, ()) =
      some (((R : Int), (J : Int), cFmt c, linL (cFmt c) ((R : Int), (C : Int), f, A, ()) ((J : Int), (C : Int), g, B, ()) ((1 : Int), (J : Int), h, D, ()) R C J, ()), 0, ()) := by
  obtain ⟨R', C', e1, e2, hR, hC, lA, _, _⟩ := right_nat rx
  obtain rfl : R = R' := by omega
  obtain rfl : C = C' := by omega
  obtain ⟨J', D', e3, e4, hJ, _, lB, _, _⟩ := right_nat rw'
  obtain rfl : J = J' := by omega
  rw [linearF]
  simp only [tkN_id, tkc_id]
  rw [rows_un, times_ok R C J C f g A B false false hA hB rx rw']
  simp only [Bool.false_eq_true, if_false, if_true, Option.bind_some, bne_self_eq_false, cond_false]
  have P : prodL (wideL ((R : Int), (C : Int), f, A, ())) (wideL ((J : Int), (C : Int), g, B, ())) C J (R * J) = rowsL ((R : Int), (C : Int), f, A, ()) ((J : Int), (C : Int), g, B, ()) R C J := rfl
  rw [P]
  have wP : wl (rowsL ((R : Int), (C : Int), f, A, ()) ((J : Int), (C : Int), g, B, ()) R C J) := prodL_wl _ _ _ _ _
  have lP : (rowsL ((R : Int), (C : Int), f, A, ()) ((J : Int), (C : Int), g, B, ()) R C J).length = R * J := prodL_len _ _ _ _ _
  have rP : rightS ((R : Int), (J : Int), 2, rowsL ((R : Int), (C : Int), f, A, ()) ((J : Int), (C : Int), g, B, ()) R C J, ()) = true := right_mk hR hJ lP (by decide) (fits2 wP)
  rw [show F_949 ((R : Int), (J : Int), 2, rowsL ((R : Int), (C : Int), f, A, ()) ((J : Int), (C : Int), g, B, ()) R C J, ()) ((1 : Int), (J : Int), h, D, ()) = _ from bias_ok R J 1 J 2 h _ D wP hD rP rb]
  simp only [and_self, if_true, Option.bind_some]
  rw [castF]
  simp only [tkN_id, bne_self_eq_false, cond_false]
  have hb16 := rc16 hR hJ
  have eB : (List.range (R * J)).map (fun i => addf (gl (wideL ((R : Int), (J : Int), 2, rowsL ((R : Int), (C : Int), f, A, ()) ((J : Int), (C : Int), g, B, ()) R C J, ())) i) (gl (wideL (((1 : Nat) : Int), (J : Int), h, D, ())) (i % J))) = biasL ((R : Int), (C : Int), f, A, ()) ((J : Int), (C : Int), g, B, ()) ((1 : Int), (J : Int), h, D, ()) R C J := rfl
  rw [eB]
  rw [cast_eq ((R : Int), (J : Int), 2, biasL ((R : Int), (C : Int), f, A, ()) ((J : Int), (C : Int), g, B, ()) ((1 : Int), (J : Int), h, D, ()) R C J, ()) (cFmt c) (biasL_wl _ _ _ _ _ _) (by show (biasL _ _ _ R C J).length ≤ _; rw [biasL_len]; omega)]
  have rB : rightS ((R : Int), (J : Int), 2, biasL ((R : Int), (C : Int), f, A, ()) ((J : Int), (C : Int), g, B, ()) ((1 : Int), (J : Int), h, D, ()) R C J, ()) = true := right_mk hR hJ (biasL_len _ _ _ _ _ _) (by decide) (fits2 (biasL_wl _ _ _ _ _ _))
  unfold castT
  rw [if_pos rB, if_pos hk]
  rfl
theorem lwSt (w : List TsT) (N i : Int) (c : CfgT) (R : Type) (kn : S_91f_0 → Option R) (ko : E_91f_0 → Option R) :
    st_91f_0 R ((w, (N, (i, ()))), (c, ())) kn ko =
      bif (decide (i < N)) then
        bif (decide (((0:Int) ≤ i) ∧ (i < ((w.length : Nat) : Int)))) then
          bif (decide (((0:Int) ≤ (IntKind.wrap .i64 (i + 1))) ∧ ((IntKind.wrap .i64 (i + 1)) < ((c.1.length : Nat) : Int)))) then
            bif (decide (((0:Int) ≤ i) ∧ (i < ((c.1.length : Nat) : Int)))) then
              (F_920 (tkN (w.getD (Int.toNat i) dT)) (c.1.getD (Int.toNat (IntKind.wrap .i64 (i + 1))) 0) (c.1.getD (Int.toNat i) 0) (cFmt c)).bind fun a =>
              bif (!a) then ko (Sum.inr ((false, ()), ()))
              else bif (((allR w.length (fun _ => true)) && true) && true) then kn ((rowsT w, (N, (IntKind.wrap .i64 (i + 1), ()))), (tkc c, ())) else none
            else none
          else none
        else none
      else ko (Sum.inl ((), ())) := by kernel_rfl
theorem lwF (c : CfgT) (w : List TsT) : F_91f c w =
    bif (((w.length : Nat) : Int) != (IntKind.wrap .i64 ((((List.take c.1.length c.1).length : Nat) : Int) - 1))) then some false
    else
      bif (((allR w.length (fun _ => true)) && true) && true) then
        (lim st_91f_0 ((rowsT w, (((w.length : Nat) : Int), ((0:Int), ()))), (tkc c, ()))).bind fun r => els (fun _ => some true) (fun r5 => some r5.1.1) r
      else none := by kernel_rfl
def okL (t : TsT) : Prop := wl t.2.2.2.1 ∧ t.2.2.2.1.length ≤ 1073741824
theorem lowered_ok (c : CfgT) (w : List TsT) (hN : w.length + 1 = c.1.length) (hc : c.1.length ≤ 1000) (hw : ∀ i, i < w.length → okL (w.getD i dT)) (hs : ∀ i, i < w.length → shp1 (w.getD i dT) (c.1.getD (i + 1) 0) (c.1.getD i 0) (cFmt c) = true) : F_91f c w = some true := by
  rw [lwF, List.take_length, wi64 (n := (c.1.length : Int) - 1) (by omega), show (c.1.length : Int) - 1 = ((w.length : Nat) : Int) by omega]
  simp only [bne_self_eq_false, cond_false, allR_true, Bool.and_true, cond_true, tkc_id, rowsT_id]
  have key : lim st_91f_0 ((w, (((w.length : Nat) : Int), ((0 : Int), ()))), (c, ())) = some (Sum.inl ((), ())) :=
    lim_seq (st := st_91f_0) (fun (i : Nat) => ((w, (((w.length : Nat) : Int), ((i : Int), ()))), (c, ()))) w.length
      (fun i hi R kn ko => by
        show st_91f_0 R ((w, (((w.length : Nat) : Int), ((i : Int), ()))), (c, ())) kn ko = kn ((w, (((w.length : Nat) : Int), (((i + 1 : Nat) : Int), ()))), (c, ()))
        have ew : IntKind.i64.wrap ((i : Int) + 1) = (i : Int) + 1 := wi64 (by omega)
        have et : ((i : Int) + 1).toNat = i + 1 := by omega
        rw [lwSt]
        simp only [Int.toNat_natCast, bif_dec, tkN_id, tkc_id, allR_true, Bool.and_true, cond_true, rowsT_id, ew, et]
        rw [if_pos (show (i : Int) < (w.length : Int) by omega), if_pos (show (0 : Int) ≤ (i : Int) ∧ (i : Int) < (w.length : Int) by omega), if_pos (show (0 : Int) ≤ (i : Int) + 1 ∧ (i : Int) + 1 < (c.1.length : Int) by omega), if_pos (show (0 : Int) ≤ (i : Int) ∧ (i : Int) < (c.1.length : Int) by omega),
          shaped_eq _ _ _ _ (hw i hi).1 (hw i hi).2, hs i hi]
        simp only [Option.bind_some, Bool.not_true, cond_false]
        rw [show ((i + 1 : Nat) : Int) = (i : Int) + 1 by omega])
      (fun R kn ko => by
        show st_91f_0 R ((w, (((w.length : Nat) : Int), ((w.length : Int), ()))), (c, ())) kn ko = _
        rw [lwSt]
        simp only [bif_dec]
        rw [if_neg (show ¬ (w.length : Int) < (w.length : Int) by omega)])
  rw [key]
  rfl
theorem fewF (c : CfgT) (r : Int) : F_921 c r = (lim st_921_0 ((r, (List.take c.1.length c.1, (((c.1.length : Nat) : Int), ((0:Int), ())))), ())).bind fun r0 => els (fun _ => some true) (fun r2 => some r2.1.1) r0 := by kernel_rfl
theorem few_ok (c : CfgT) (r : Int) (hc : c.1.length ≤ 1000) (hs : ∀ i, i < c.1.length → 0 ≤ r * c.1.getD i 0 ∧ r * c.1.getD i 0 ≤ 262144) : F_921 c r = some true := by
  rw [fewF, List.take_length]
  have key : lim st_921_0 ((r, (c.1, (((c.1.length : Nat) : Int), ((0:Int), ())))), ()) = some (Sum.inl ((), ())) :=
    lim_seq (st := st_921_0) (fun (i : Nat) => ((r, (c.1, (((c.1.length : Nat) : Int), ((i : Int), ())))), ())) c.1.length
      (fun i hi R kn ko => by
        have h := hs i hi
        unfold st_921_0
        dsimp only
        simp only [List.take_length, bif_dec, Int.toNat_natCast]
        rw [if_pos (show (i : Int) < (c.1.length : Int) by omega), if_pos (show (0 : Int) ≤ (i : Int) ∧ (i : Int) < (c.1.length : Int) by omega), if_neg (show ¬ (IntKind.wrap .i64 (r * c.1.getD i 0) > 262144) by rw [wi64 (n := r * c.1.getD i 0) (by omega)]; omega), wi64 (n := (i : Int) + 1) (by omega), show ((i + 1 : Nat) : Int) = (i : Int) + 1 by omega])
      (fun R kn ko => by
        unfold st_921_0
        dsimp only
        simp only [bif_dec]
        rw [if_neg (show ¬ (c.1.length : Int) < (c.1.length : Int) by omega)])
  rw [key]
  rfl
end Go.Proofs.YtkmkhcmfpbffjaaGreat.VI

namespace Go.Proofs.YtkmkhcmfpbffjaaGreat.VI
set_option linter.unusedVariables false
set_option linter.unusedSimpArgs false
set_option maxRecDepth 100000
set_option maxHeartbeats 4000000
abbrev TrT : Type := List TsT × List TsT × List TsT × Unit
def noTr : TrT := ([], ([], ([], ())))
theorem fwdF (c : CfgT) (p : List PaT) (w : List TsT) (x : TsT) (micro : Int) : F_911 c p w x micro =
    bif (((allR p.length (fun _ => true)) && true) && true) then
      (F_915 (tkc c) (rowsP p)).bind fun r10 =>
      bif (!r10) then some (dT, (noTr, ((21:Int), ())))
      else
        bif (((allR w.length (fun _ => true)) && true) && true) then
          (F_91f (tkc c) (rowsT w)).bind fun r11 =>
          bif (!r11) then some (dT, (noTr, ((21:Int), ())))
          else
            bif (decide (((0:Int) ≤ (0:Int)) ∧ ((0:Int) < ((c.1.length : Nat) : Int)))) then
              (F_920 (tkN x) x.1 (c.1.getD 0 0) (cFmt c)).bind fun r12 =>
              bif (!r12) then some (dT, (noTr, ((21:Int), ())))
              else
                (F_921 (tkc c) x.1).bind fun r13 =>
                bif (!r13) then some (dT, (noTr, ((21:Int), ())))
                else
                  bif (((allR p.length (fun _ => true)) && ((allR w.length (fun _ => true)) && true)) && true) then
                    (lim st_911_0 ((rowsP p, (rowsT w, (micro, (((p.length : Nat) : Int), ((0:Int), ()))))), (tkc c, (tkN x, (((0:Int), ((0:Int), ((0:Int), ()))), ((), (((0:Nat), ((0:Nat), ((0:Nat), ()))), ([], ([], ([], ())))))))))).bind fun r =>
                    els (fun l =>
                      bif (decide (((0:Int) ≤ (IntKind.wrap .i64 (((l.1.1.length : Nat) : Int) - 1))) ∧ ((IntKind.wrap .i64 (((l.1.1.length : Nat) : Int) - 1)) < ((l.2.2.2.1.2.1 : Nat) : Int)))) then
                        bif (decide (0 + Int.toNat (IntKind.wrap .i64 (((l.1.1.length : Nat) : Int) - 1)) < l.2.2.2.2.2.1.length)) then
                          (F_924 (tkN (l.2.2.2.2.2.1.getD (0 + Int.toNat (IntKind.wrap .i64 (((l.1.1.length : Nat) : Int) - 1))) dT))).bind fun z =>
                          bif ((((((allR l.2.2.2.1.1 (fun _ => true)) && ((allR l.2.2.2.1.2.1 (fun _ => true)) && ((allR l.2.2.2.1.2.2.1 (fun _ => true)) && true))) && true) && true) && true) && true) then
                            some (tkN z, ((rowsOf l.2.2.2.1.1 (fun j => tkN (l.2.2.2.2.1.getD j dT)), (rowsOf l.2.2.2.1.2.1 (fun j => tkN (l.2.2.2.2.2.1.getD j dT)), (rowsOf l.2.2.2.1.2.2.1 (fun j => tkN (l.2.2.2.2.2.2.1.getD j dT)), ()))), ((0:Int), ())))
                          else none
                        else none
                      else none) (fun e => some ((e.2.1.1, (e.2.1.2.1, (e.2.1.2.2.1, ([], ())))), (noTr, e.1))) r
                  else none
            else none
        else none
    else none := by kernel_rfl
end Go.Proofs.YtkmkhcmfpbffjaaGreat.VI

namespace Go.Proofs.YtkmkhcmfpbffjaaGreat.VI
set_option linter.unusedVariables false
set_option linter.unusedSimpArgs false
set_option maxRecDepth 100000
set_option maxHeartbeats 4000000
set_option linter.unusedSectionVars false
def cAct (c : CfgT) : Int := c.2.2.1
structure Fit (c : CfgT) (p : List PaT) (w : List TsT) (d : Nat → Nat) : Prop where
  n : 0 < p.length
  wn : w.length = p.length
  cn : c.1.length = p.length + 1
  c1000 : c.1.length ≤ 1000
  dim : ∀ i, i ≤ p.length → c.1.getD i 0 = (d i : Int)
  dle : ∀ i, d i ≤ 4096
  okp : ∀ i, i < p.length → okP (p.getD i dP)
  shp : ∀ i, i < p.length → shpP c p i = true
  okw : ∀ i, i < p.length → okL (w.getD i dT)
  shw : ∀ i, i < p.length → shp1 (w.getD i dT) (c.1.getD (i + 1) 0) (c.1.getD i 0) (cFmt c) = true
  fmt : knownS (cFmt c) = true
  act : 0 ≤ cAct c ∧ cAct c ≤ 3
section
variable (c : CfgT) (p : List PaT) (w : List TsT) (d : Nat → Nat) (R : Nat)
def stepL (i : Nat) (A : List Int) : List Int := linL (cFmt c) ((R : Int), (d i : Int), cFmt c, A, ()) (w.getD i dT) (p.getD i dP).2.1 R (d i) (d (i + 1))
def xl (A : List Int) : Nat → List Int
  | 0 => A
  | i + 1 => fwdL (cAct c) ((R : Int), (d (i + 1) : Int), cFmt c, stepL c p w d R i (xl A i), ())
def tX (A : List Int) (i : Nat) : TsT := ((R : Int), (d i : Int), cFmt c, xl c p w d R A i, ())
def tZ (A : List Int) (i : Nat) : TsT := ((R : Int), (d (i + 1) : Int), cFmt c, stepL c p w d R i (xl c p w d R A i), ())
end
section
variable {c : CfgT} {p : List PaT} {w : List TsT} {d : Nat → Nat} {R : Nat} {A : List Int} (h : Fit c p w d)
include h
theorem stepL_len (i : Nat) (B : List Int) : (stepL c p w d R i B).length = R * d (i + 1) := linL_len _ _ _ _ _ _ _
theorem stepL_wf (i : Nat) (B : List Int) : ∀ v ∈ stepL c p w d R i B, wf (cFmt c) v := castL_wf _ _
theorem tZ_right (hR : R ≤ 4096) (i : Nat) : rightS (tZ c p w d R A i) = true := wf_right hR (h.dle _) (stepL_len h i _) h.fmt (stepL_wf h i _)
theorem xl_wf (hA : ∀ v ∈ A, wf (cFmt c) v) : ∀ i, ∀ v ∈ xl c p w d R A i, wf (cFmt c) v
  | 0 => hA
  | i + 1 => by
    intro v hv
    obtain ⟨j, _, rfl⟩ := List.mem_map.1 hv
    exact to_wf _ _ _ _
theorem xl_len (hA : A.length = R * d 0) : ∀ i, (xl c p w d R A i).length = R * d i
  | 0 => hA
  | i + 1 => by
    show (fwdL _ _).length = _
    unfold fwdL
    rw [List.length_map, List.length_range]
    exact stepL_len h i _
theorem tX_right (hR : R ≤ 4096) (hA : A.length = R * d 0) (wA : ∀ v ∈ A, wf (cFmt c) v) (i : Nat) : rightS (tX c p w d R A i) = true := wf_right hR (h.dle _) (xl_len h hA i) h.fmt (xl_wf h wA i)
theorem lin_at (hR : R ≤ 4096) (hA : A.length = R * d 0) (wA : ∀ v ∈ A, wf (cFmt c) v) {i : Nat} (hi : i < p.length) :
    F_922 c (tX c p w d R A i) (w.getD i dT) (p.getD i dP).2.1 = some (tZ c p w d R A i, 0, ()) := by
  have s1 := h.shw i hi
  have s2 := h.shp i hi
  unfold shpP at s2
  unfold shp1 at s1 s2
  simp only [Bool.and_eq_true, decide_eq_true_eq] at s1 s2
  rw [h.dim (i + 1) (by omega), h.dim i (by omega)] at s1
  rw [h.dim (i + 1) (by omega)] at s2
  have ew : w.getD i dT = (((d (i + 1) : Nat) : Int), ((d i : Nat) : Int), cFmt c, (w.getD i dT).2.2.2.1, ()) := by
    rw [← s1.1, ← s1.2.1, ← s1.2.2.1]
  have eb : (p.getD i dP).2.1 = ((1 : Int), ((d (i + 1) : Nat) : Int), 2, (p.getD i dP).2.1.2.2.2.1, ()) := by
    have a1 := s2.2.1; have a2 := s2.2.2.1; have a3 := s2.2.2.2.1
    rw [← a2]
    show (p.getD i dP).2.1 = (1, _, 2, _, ())
    rw [← a1, ← a3]
  have r1 := s1.2.2.2
  have r2 := s2.2.2.2.2
  unfold tZ stepL tX
  rw [ew, eb]
  rw [ew] at r1
  rw [eb] at r2
  exact linear_ok c h.fmt (wf_wl (xl_wf h wA i)) (h.okw i hi).1 (h.okp i hi).2.1 (tX_right h hR hA wA i) r1 r2
theorem hid_at {micro : Int} (hm : micro < 0) (hR : R ≤ 4096) (i : Int) (j : Nat) : F_923 c (tZ c p w d R A j) micro i = some (tX c p w d R A (j + 1), dT, 0, ()) := by
  have rz := tZ_right (A := A) h hR j
  have lz : (tZ c p w d R A j).2.2.2.1.length ≤ 1073741824 := by
    show (stepL c p w d R j _).length ≤ _
    rw [stepL_len h]
    have := rc16 hR (h.dle (j + 1)); omega
  have wz : wl (tZ c p w d R A j).2.2.2.1 := wf_wl (stepL_wf h j _)
  unfold F_923
  dsimp only
  rw [show (((tZ c p w d R A j).1, ((tZ c p w d R A j).2.1, ((tZ c p w d R A j).2.2.1, ((List.take (List.length (tZ c p w d R A j).2.2.2.1) (tZ c p w d R A j).2.2.2.1), ())))) : TsT) = tZ c p w d R A j from tkN_id _, fwd_all _ _ wz lz]
  unfold fwdT
  rw [rz, if_pos rfl, if_pos (show 0 ≤ c.2.2.1 ∧ c.2.2.1 ≤ 3 from h.act)]
  simp only [Option.bind_some, bne_self_eq_false, cond_false, bif_dec, List.take_length]
  rw [if_pos hm]
  rfl
end
theorem clone_ok (t : TsT) (hn : t.2.2.2.1.length ≤ 1073741824) : F_924 t = some t := by
  unfold F_924
  dsimp only
  simp only [List.take_length, Nat.zero_add, List.drop_zero, List.nil_append, bif_dec]
  rw [if_pos hn]
theorem rowsOf_map {n : Nat} (f : Nat → TsT) : rowsOf n (fun j => (((List.range n).map f).getD j dT)) = (List.range n).map f := by
  have e := rowsOf_id ((List.range n).map f) dT
  rw [List.length_map, List.length_range] at e
  exact e
theorem fwd_ok {c : CfgT} {p : List PaT} {w : List TsT} {d : Nat → Nat} {R : Nat} {A : List Int} (h : Fit c p w d) {micro : Int} (hm : p.length = 1 ∨ micro < 0) (hR : R ≤ 4096) (hA : A.length = R * d 0) (wA : ∀ v ∈ A, wf (cFmt c) v)
    (hfew : ∀ i, i < c.1.length → (R : Int) * c.1.getD i 0 ≤ 262144) :
    F_911 c p w (tX c p w d R A 0) micro = some (tZ c p w d R A (p.length - 1), ((List.range p.length).map (tX c p w d R A), ((List.range p.length).map (tZ c p w d R A), (List.replicate p.length dT, ()))), 0, ()) := by
  have h0 := h.n
  have h1 := h.c1000
  have h2 := h.cn
  have tl_ok : ∀ {α : Type} (g : Option α), tl true true g = g := fun g => rfl
  have Xl : ∀ i, ((List.range i).map (tX c p w d R A)).length = i := fun i => by simp
  have Zl : ∀ i, ((List.range i).map (tZ c p w d R A)).length = i := fun i => by simp
  have Kl : ∀ i, (List.replicate i dT).length = i := fun i => by simp
  have Xs : ∀ i, (List.range (i + 1)).map (tX c p w d R A) = (List.range i).map (tX c p w d R A) ++ [tX c p w d R A i] := fun i => by rw [List.range_succ, List.map_append]; rfl
  have Zs : ∀ i, (List.range (i + 1)).map (tZ c p w d R A) = (List.range i).map (tZ c p w d R A) ++ [tZ c p w d R A i] := fun i => by rw [List.range_succ, List.map_append]; rfl
  have Ks : ∀ i, List.replicate (i + 1) dT = List.replicate i dT ++ [dT] := fun i => by rw [List.replicate_succ']
  have key : lim st_911_0 ((p, (w, (micro, (((p.length : Nat) : Int), ((0:Int), ()))))), (c, (tX c p w d R A 0, (((0:Int), ((0:Int), ((0:Int), ()))), ((), (((0:Nat), ((0:Nat), ((0:Nat), ()))), ([], ([], ([], ())))))))))
      = some (Sum.inl ((p, ()), (((0:Int), ((0:Int), ((0:Int), ()))), ((), ((p.length, (p.length, (p.length, ()))), ((List.range p.length).map (tX c p w d R A), ((List.range p.length).map (tZ c p w d R A), (List.replicate p.length dT, ())))))))) :=
    lim_seq (st := st_911_0) (fun (i : Nat) => ((p, (w, (micro, (((p.length : Nat) : Int), ((i : Int), ()))))), (c, (tX c p w d R A (min i (p.length - 1)), (((0:Int), ((0:Int), ((0:Int), ()))), ((), ((i, (i, (i, ()))), ((List.range i).map (tX c p w d R A), ((List.range i).map (tZ c p w d R A), (List.replicate i dT, ())))))))))) p.length
      (fun i hi Q kn ko => by
        show st_911_0 Q ((p, (w, (micro, (((p.length : Nat) : Int), ((i : Int), ()))))), (c, (tX c p w d R A (min i (p.length - 1)), (((0:Int), ((0:Int), ((0:Int), ()))), ((), ((i, (i, (i, ()))), ((List.range i).map (tX c p w d R A), ((List.range i).map (tZ c p w d R A), (List.replicate i dT, ()))))))))) kn ko
          = kn ((p, (w, (micro, (((p.length : Nat) : Int), (((i + 1 : Nat) : Int), ()))))), (c, (tX c p w d R A (min (i + 1) (p.length - 1)), (((0:Int), ((0:Int), ((0:Int), ()))), ((), ((i + 1, (i + 1, (i + 1, ()))), ((List.range (i + 1)).map (tX c p w d R A), ((List.range (i + 1)).map (tZ c p w d R A), (List.replicate (i + 1) dT, ())))))))))
        rw [fwdSt, show min i (p.length - 1) = i by omega]
        simp only [bif_dec, allR_true, Bool.and_true, tkc_id, tkN_id, rowsP_id, rowsT_id, Int.toNat_natCast]
        rw [if_pos (show (i : Int) < ((p.length : Nat) : Int) by omega), if_pos (show (0 : Int) ≤ (i : Int) ∧ (i : Int) < ((w.length : Nat) : Int) by rw [h.wn]; omega), if_pos (show (0 : Int) ≤ (i : Int) ∧ (i : Int) < ((p.length : Nat) : Int) by omega), lin_at h hR hA wA hi]
        simp only [Option.bind_some, BEq.rfl, cond_true, bne_self_eq_false, cond_false]
        rw [if_pos (show i + 1 ≤ 1073741824 by omega), if_pos (show i + 1 ≤ 1073741824 by omega), wi64 (n := ((p.length : Nat) : Int) - 1) (by omega), addR_eq _ (Xl i), addR_eq _ (Zl i), addR_eq _ (Kl i), wi64 (n := (i : Int) + 1) (by omega), decide_eq_true (show i + 1 ≤ 1073741824 by omega), Xs, Zs, Ks, show ((i + 1 : Nat) : Int) = (i : Int) + 1 by omega]
        by_cases hl : (i : Int) < ((p.length : Nat) : Int) - 1
        · have hm' : micro < 0 := hm.resolve_left (by omega)
          rw [if_pos hl, hid_at h hm' hR (i : Int) i]
          simp only [Option.bind_some, bne_self_eq_false, cond_false]
          rw [addR_eq _ (Kl i), show min (i + 1) (p.length - 1) = i + 1 by omega]
          exact tl_ok _
        · rw [if_neg hl, show min (i + 1) (p.length - 1) = i by omega]
          exact tl_ok _)
      (fun Q kn ko => by
        show st_911_0 Q ((p, (w, (micro, (((p.length : Nat) : Int), ((p.length : Int), ()))))), (c, (tX c p w d R A (min p.length (p.length - 1)), (((0:Int), ((0:Int), ((0:Int), ()))), ((), ((p.length, (p.length, (p.length, ()))), ((List.range p.length).map (tX c p w d R A), ((List.range p.length).map (tZ c p w d R A), (List.replicate p.length dT, ()))))))))) kn ko = _
        rw [fwdSt]
        simp only [bif_dec, allR_true, Bool.and_true, cond_true, rowsP_id, rowsT_id]
        rw [if_neg (show ¬ (p.length : Int) < ((p.length : Nat) : Int) by omega)])
  have rx := tX_right h hR hA wA 0
  have lx : (tX c p w d R A 0).2.2.2.1.length ≤ 1073741824 := by
    show A.length ≤ _
    have := rc16 hR (h.dle 0); omega
  have hs : F_920 (tX c p w d R A 0) (tX c p w d R A 0).1 (c.1.getD 0 0) (cFmt c) = some true := by
    rw [shaped_eq _ _ _ _ (wf_wl wA) lx]
    unfold shp1
    rw [rx, h.dim 0 (by omega)]
    simp [tX]
  have hf : F_921 c (tX c p w d R A 0).1 = some true := few_ok c _ h1 fun i hi => by
    refine ⟨?_, hfew i hi⟩
    rw [h.dim i (by omega)]
    exact Int.mul_nonneg (Int.natCast_nonneg _) (Int.natCast_nonneg _)
  rw [fwdF]
  simp only [allR_true, Bool.and_true, cond_true, tkc_id, tkN_id, rowsP_id, rowsT_id]
  rw [shape_ok c p (by omega) h1 h.okp h.shp]
  simp only [Option.bind_some, Bool.not_true, cond_false]
  rw [lowered_ok c w (by rw [h.wn]; omega) h1 (fun i hi => h.okw i (by rw [← h.wn]; exact hi)) (fun i hi => h.shw i (by rw [← h.wn]; exact hi))]
  simp only [Option.bind_some, Bool.not_true, cond_false, bif_dec]
  rw [if_pos (show (0 : Int) ≤ 0 ∧ (0 : Int) < ((c.1.length : Nat) : Int) by omega), hs]
  simp only [Option.bind_some, Bool.not_true, cond_false]
  rw [hf]
  simp only [Option.bind_some, Bool.not_true, cond_false]
  rw [key]
  simp only [Option.bind_some, els]
  rw [wi64 (n := ((p.length : Nat) : Int) - 1) (by omega), if_pos (show (0 : Int) ≤ ((p.length : Nat) : Int) - 1 ∧ ((p.length : Nat) : Int) - 1 < ((p.length : Nat) : Int) by omega), Zl, show 0 + (((p.length : Nat) : Int) - 1).toNat = p.length - 1 by omega, if_pos (show p.length - 1 < p.length by omega)]
  have ez : ((List.range p.length).map (tZ c p w d R A)).getD (p.length - 1) dT = tZ c p w d R A (p.length - 1) := by
    simp [List.getD, show p.length - 1 < p.length by omega]
  rw [ez, clone_ok _ (by
    show (stepL c p w d R _ _).length ≤ _
    rw [stepL_len h]
    have := rc16 hR (h.dle (p.length - 1 + 1)); omega)]
  simp only [Option.bind_some]
  rw [rowsOf_map, rowsOf_map]
  have ek : rowsOf p.length (fun j => (List.replicate p.length dT).getD j dT) = List.replicate p.length dT := by
    have e := rowsOf_id (List.replicate p.length dT) dT
    rw [List.length_replicate] at e
    exact e
  rw [ek]
end Go.Proofs.YtkmkhcmfpbffjaaGreat.VI

namespace Go.Proofs.YtkmkhcmfpbffjaaGreat.VI
set_option linter.unusedVariables false
set_option linter.unusedSimpArgs false
set_option maxRecDepth 100000
set_option maxHeartbeats 4000000
def c17 : CfgT := ([(1:Int), (1:Int)], ((0:Int), ((0:Int), ((0:Int), ((0:Int), ((0:Int), ((981668463:Int), ((0:Int), ((1065336439:Int), ((841731191:Int), ((0:Int), ((1065353216:Int), ((0:Int), ((2:Int), ((1:Int), ((1:Int), ((1:Int), ((0:Int), (false, ((3:Int), ((0:Int), ((4:Int), ((1:Int), ((2:Int), ((2:Int), ((0:Int), ()))))))))))))))))))))))))))
def p17 : List PaT := [(((1:Int), ((1:Int), ((2:Int), ([(1073741824:Int)], ())))), (((1:Int), ((1:Int), ((2:Int), ([(1065353216:Int)], ())))), ()))]
def w17 : List TsT := [((1:Int), ((1:Int), ((0:Int), ([(16384:Int)], ()))))]
theorem known17F : F_9d =
    (F_912 c17 p17 0).bind fun r1 =>
    bif (((allR r1.1.length (fun _ => true)) && true) && true) then
      (F_911 c17 p17 (rowsT r1.1) ((1:Int), ((1:Int), ((0:Int), ([(16896:Int)], ())))) 0).bind fun r4 =>
      bif (r1.2.1 == (0:Int)) then
        bif (r4.2.2.1 == (0:Int)) then
          bif (((r4.1.2.2.2.1.length : Nat) : Int) == (1:Int)) then
            bif (decide (((0:Int) ≤ (0:Int)) ∧ ((0:Int) < ((r4.1.2.2.2.1.length : Nat) : Int)))) then
              bif (r4.1.2.2.2.1.getD 0 0 == (18176:Int)) then
                bif (((r4.2.1.1.length : Nat) : Int) == (1:Int)) then
                  (F_915 c17 p17).bind fun r8 => bif r8 then some true else some false
                else some false
              else some false
            else none
          else some false
        else some false
      else some false
    else none := by kernel_rfl
theorem one_of {P : Nat → Prop} (h : P 0) (i : Nat) (hi : i < 1) : P i := by
  have e : i = 0 := by omega
  subst e
  exact h
theorem lit_wl {l : List Int} (h : (l.all fun v => decide (0 ≤ v) && decide (v < 4294967296)) = true) : wl l := fun v hv => by
  have := List.all_eq_true.1 h v hv
  simp only [Bool.and_eq_true, decide_eq_true_eq] at this
  exact ⟨this.1, this.2⟩
theorem fit17 : Fit c17 p17 w17 (fun _ => 1) where
  n := by decide
  wn := rfl
  cn := rfl
  c1000 := by decide
  dim := fun i hi => by
    have : i = 0 ∨ i = 1 := by have : p17.length = 1 := rfl; omega
    rcases this with rfl | rfl <;> rfl
  dle := fun _ => by omega
  okp := one_of ⟨⟨lit_wl (by decide), by decide⟩, lit_wl (by decide), by decide⟩
  shp := one_of (by decide +kernel)
  okw := one_of ⟨lit_wl (by decide), by decide⟩
  shw := one_of (by decide +kernel)
  fmt := by decide
  act := by decide
theorem known17 : F_9d = some true := by
  rw [known17F, low_ok c17 p17 0 rfl (by decide) fit17.okp fit17.shp (by decide)]
  have e : lowL c17 0 p17 p17.length = w17 := by
    show [lowOne c17 0 0 (p17.getD 0 dP).1] = w17
    have : lowOne c17 0 0 (p17.getD 0 dP).1 = (castT (p17.getD 0 dP).1 0).1 := by
      unfold lowOne; rw [if_neg (by decide)]; rfl
    rw [this]
    decide +kernel
  rw [e]
  simp only [Option.bind_some, allR_true, Bool.and_true, cond_true, rowsT_id]
  have f := fwd_ok (c := c17) (p := p17) (w := w17) (d := fun _ => 1) (R := 1) (A := [16896]) fit17 (micro := 0) (.inl rfl) (by decide) rfl (fun v hv => by
    rw [List.mem_singleton] at hv; subst hv; exact ⟨by decide, by decide⟩) (fun i hi => by
    have : i = 0 ∨ i = 1 := by have : c17.1.length = 2 := rfl; omega
    rcases this with rfl | rfl <;> decide)
  rw [show F_911 c17 p17 w17 ((1:Int), ((1:Int), ((0:Int), ([(16896:Int)], ())))) 0 = _ from f]
  simp only [Option.bind_some]
  have s : stepL c17 p17 w17 (fun _ => 1) 1 0 [16896] = [18176] := by decide +kernel
  show (bif ((0 : Int) == 0) then bif ((0 : Int) == 0) then bif (((stepL c17 p17 w17 (fun _ => 1) 1 0 [16896]).length : Int) == 1) then bif (decide (((0:Int) ≤ (0:Int)) ∧ ((0:Int) < (((stepL c17 p17 w17 (fun _ => 1) 1 0 [16896]).length : Nat) : Int)))) then bif ((stepL c17 p17 w17 (fun _ => 1) 1 0 [16896]).getD 0 0 == (18176:Int)) then _ else _ else _ else _ else _ else _) = _
  rw [s, shape_ok c17 p17 rfl (by decide) fit17.okp fit17.shp]
  rfl
end Go.Proofs.YtkmkhcmfpbffjaaGreat.VI

namespace Go.Proofs.YtkmkhcmfpbffjaaGreat.VI
set_option linter.unusedVariables false
set_option linter.unusedSimpArgs false
set_option maxRecDepth 100000
set_option maxHeartbeats 4000000
theorem tail_good {α : Type} {ch : Bool} {f a X : Int} {bad good : Option α} (hn : ch = false → X = narrow f a) : tailNL ch true true true true true (some (narrow f a)) X bad good = good := by
  unfold tailNL
  cases ch
  · rw [hn rfl]; simp
  · rfl
theorem nl1_loop (ch : Bool) (p : List PaT) (w : List TsT) (i : Nat) (c : CfgT) (hi : i < p.length) (hw : w.length = p.length) (hp : p.length ≤ 1000)
    (hl : (w.getD i dT).2.2.2.1.length = (p.getD i dP).1.2.2.2.1.length) (hlen : (p.getD i dP).1.2.2.2.1.length ≤ 1000000) (hwl : wl (p.getD i dP).1.2.2.2.1)
    (hk : ∀ k, k < (p.getD i dP).1.2.2.2.1.length → nearP (cFmt c) ((p.getD i dP).1.2.2.2.1.getD k 0) ((w.getD i dT).2.2.2.1.getD k 0) ∧ (ch = false → (w.getD i dT).2.2.2.1.getD k 0 = narrow (cFmt c) ((p.getD i dP).1.2.2.2.1.getD k 0))) :
    lim st_9b_1 ((ch, (p, (w, ((i : Int), ((0:Int), ()))))), (c, ())) = some (Sum.inl ((ch, (p, (w, ((i : Int), ())))), (c, ()))) :=
  lim_seq (st := st_9b_1) (fun (k : Nat) => ((ch, (p, (w, ((i : Int), ((k : Int), ()))))), (c, ()))) (p.getD i dP).1.2.2.2.1.length
    (fun k hkl R kn ko => by
      show st_9b_1 R ((ch, (p, (w, ((i : Int), ((k : Int), ()))))), (c, ())) kn ko = kn ((ch, (p, (w, ((i : Int), (((k + 1 : Nat) : Int), ()))))), (c, ()))
      obtain ⟨hn, hc⟩ := hk k hkl
      have wa : w32 ((p.getD i dP).1.2.2.2.1.getD k 0) := wl_get hwl k
      have d1 : decide (((0:Int) ≤ (i : Int)) ∧ ((i : Int) < ((w.length : Nat) : Int))) = true := decide_eq_true (by rw [hw]; omega)
      have d2 : decide (((0:Int) ≤ (i : Int)) ∧ ((i : Int) < ((p.length : Nat) : Int))) = true := decide_eq_true (by omega)
      have d3 : decide (((0:Int) ≤ (k : Int)) ∧ ((k : Int) < (((p.getD i dP).1.2.2.2.1.length : Nat) : Int))) = true := decide_eq_true (by omega)
      have d4 : decide ((k : Int) < (((p.getD i dP).1.2.2.2.1.length : Nat) : Int)) = true := decide_eq_true (by omega)
      rw [nl1St]
      simp only [Int.toNat_natCast, hl, d1, d2, d3, d4, cond_true, allR_true, Bool.and_true, rowsP_id, rowsT_id, tkc_id]
      rw [tor_eq 2 (cFmt c) 3 wa]
      simp only [Option.bind_some]
      rw [tor_eq 2 (cFmt c) 2 wa]
      simp only [Option.bind_some]
      rw [narrowr_eq (cFmt c) wa, wi64 (n := (k : Int) + 1) (by omega), show ((k + 1 : Nat) : Int) = (k : Int) + 1 by omega]
      rw [tail_good hc]
      rcases hn with e | e
      · rw [e]; simp
      · rw [e]; simp)
    (fun R kn ko => by
      show st_9b_1 R ((ch, (p, (w, ((i : Int), (((p.getD i dP).1.2.2.2.1.length : Int), ()))))), (c, ())) kn ko = _
      have d1 : decide (((0:Int) ≤ (i : Int)) ∧ ((i : Int) < ((w.length : Nat) : Int))) = true := decide_eq_true (by rw [hw]; omega)
      have d4 : decide ((((p.getD i dP).1.2.2.2.1.length : Nat) : Int) < (((p.getD i dP).1.2.2.2.1.length : Nat) : Int)) = false := decide_eq_false (by omega)
      rw [nl1St]
      simp only [Int.toNat_natCast, hl, d1, d4, cond_true, cond_false, allR_true, Bool.and_true, rowsP_id, rowsT_id, tkc_id])
theorem nl0_loop (ch : Bool) (p : List PaT) (w : List TsT) (c : CfgT) (hw : w.length = p.length) (hp : p.length ≤ 1000)
    (hall : ∀ i, i < p.length → ((w.getD i dT).2.2.2.1.length = (p.getD i dP).1.2.2.2.1.length ∧ (w.getD i dT).2.2.1 = cFmt c) ∧ (p.getD i dP).1.2.2.2.1.length ≤ 1000000 ∧ wl (p.getD i dP).1.2.2.2.1 ∧
      ∀ k, k < (p.getD i dP).1.2.2.2.1.length → nearP (cFmt c) ((p.getD i dP).1.2.2.2.1.getD k 0) ((w.getD i dT).2.2.2.1.getD k 0) ∧ (ch = false → (w.getD i dT).2.2.2.1.getD k 0 = narrow (cFmt c) ((p.getD i dP).1.2.2.2.1.getD k 0))) :
    lim st_9b_0 ((ch, (p, (w, ((0:Int), ())))), (c, ())) = some (Sum.inl ((), ())) :=
  lim_seq (st := st_9b_0) (fun (i : Nat) => ((ch, (p, (w, ((i : Int), ())))), (c, ()))) p.length
    (fun i hi R kn ko => by
      show st_9b_0 R ((ch, (p, (w, ((i : Int), ())))), (c, ())) kn ko = kn ((ch, (p, (w, (((i + 1 : Nat) : Int), ())))), (c, ()))
      obtain ⟨⟨a1, a2⟩, a3, a4, a5⟩ := hall i hi
      have d1 : decide (((0:Int) ≤ (i : Int)) ∧ ((i : Int) < ((w.length : Nat) : Int))) = true := decide_eq_true (by rw [hw]; omega)
      have d2 : decide (((0:Int) ≤ (i : Int)) ∧ ((i : Int) < ((p.length : Nat) : Int))) = true := decide_eq_true (by omega)
      have d3 : decide ((i : Int) < ((p.length : Nat) : Int)) = true := decide_eq_true (by omega)
      rw [nl0St]
      simp only [Int.toNat_natCast, a1, a2, d1, d2, d3, cond_true, cond_false, bne_self_eq_false, allR_true, Bool.and_true, rowsP_id, rowsT_id, tkc_id]
      rw [nl1_loop ch p w i c hi hw hp a1 a3 a4 a5]
      simp only [Option.bind_some, els, allR_true, Bool.and_true, cond_true, rowsP_id, rowsT_id, tkc_id]
      rw [wi64 (n := (i : Int) + 1) (by omega), show ((i + 1 : Nat) : Int) = (i : Int) + 1 by omega])
    (fun R kn ko => by
      show st_9b_0 R ((ch, (p, (w, ((p.length : Int), ())))), (c, ())) kn ko = _
      have d3 : decide ((p.length : Int) < ((p.length : Nat) : Int)) = false := decide_eq_false (by omega)
      rw [nl0St]
      simp only [d3, cond_false])
theorem wlist_bd (k : Int) : (2 ≤ (wlist k).length ∧ (wlist k).length ≤ 4) ∧ ∀ i, i < (wlist k).length → 1 ≤ (wlist k).getD i 0 ∧ (wlist k).getD i 0 ≤ 4 := by
  have key : ∀ l : List Int, (decide (2 ≤ l.length) && (decide (l.length ≤ 4) && (List.range l.length).all fun i => decide (1 ≤ l.getD i 0) && decide (l.getD i 0 ≤ 4))) = true → (2 ≤ l.length ∧ l.length ≤ 4) ∧ ∀ i, i < l.length → 1 ≤ l.getD i 0 ∧ l.getD i 0 ≤ 4 := by
    intro l h
    simp only [Bool.and_eq_true, decide_eq_true_eq] at h
    refine ⟨⟨h.1, h.2.1⟩, fun i hi => ?_⟩
    have := List.all_eq_true.1 h.2.2 i (List.mem_range.2 hi)
    simpa using this
  unfold wlist
  repeat' split
  all_goals exact key _ (by decide)
theorem par_at {W l : List Int} {m : Bool} {n i : Nat} (hi : i < n) (hn : n + 1 = W.length) (hw : ∀ j, j < W.length → 1 ≤ W.getD j 0 ∧ W.getD j 0 ≤ 4) (hl : l.length ≤ 1000000) :
    ∃ (a b : Nat) (V D : List Int), W.getD (i + 1) 0 = a ∧ W.getD i 0 = b ∧ a ≤ 4 ∧ b ≤ 4 ∧ (parL W l m n).getD i dP = (((a : Int), (b : Int), 2, V, ()), ((1 : Int), (a : Int), 2, D, ()), ()) ∧ V.length = a * b ∧ (∀ v ∈ V, wf 2 v) ∧ (m = true → ∀ v ∈ V, mildP 2 v) ∧ D.length = 1 * a ∧ (∀ v ∈ D, wf 2 v) := by
  have h1 := hw (i + 1) (by omega)
  have h2 := hw i (by omega)
  obtain ⟨a, ha⟩ : ∃ a : Nat, W.getD (i + 1) 0 = a := ⟨(W.getD (i + 1) 0).toNat, by omega⟩
  obtain ⟨b, hb⟩ : ∃ b : Nat, W.getD i 0 = b := ⟨(W.getD i 0).toNat, by omega⟩
  have hr : (parR l i l.length).length = l.length := by simp [parR]
  obtain ⟨_, V, e1, v1, v2, v3⟩ := sT_ok a b 2 (parR l i l.length) m (by omega) (by omega) (by omega)
  obtain ⟨_, D, e2, u1, u2, u3⟩ := sT_ok 1 a 2 (parR l i l.length) m (by omega) (by omega) (by omega)
  have eg : (parL W l m n).getD i dP = parO W l m i := by simp [parL, List.getD, hi]
  refine ⟨a, b, V, D, ha, hb, by omega, by omega, ?_, v1, v2, v3, u1, u2⟩
  rw [eg]
  unfold parO
  rw [ha, hb, e1, show sT 1 (a : Int) 2 (parR l i l.length) m = _ from e2]
  rfl
theorem mild_widen {a : Int} (hw : wf 2 a) (hm : mildP 2 a) : widen 2 a = a := widen_fin (wf_w hw) hm.1 hm.2.1
end Go.Proofs.YtkmkhcmfpbffjaaGreat.VI

namespace Go.Proofs.YtkmkhcmfpbffjaaGreat.VI
set_option linter.unusedVariables false
set_option linter.unusedSimpArgs false
set_option maxRecDepth 100000
set_option maxHeartbeats 4000000
def setCh (c : CfgT) (ch : Bool) : CfgT := (List.take c.1.length c.1, (c.2.1, (c.2.2.1, (c.2.2.2.1, (c.2.2.2.2.1, (c.2.2.2.2.2.1, (c.2.2.2.2.2.2.1, (c.2.2.2.2.2.2.2.1, (c.2.2.2.2.2.2.2.2.1, (c.2.2.2.2.2.2.2.2.2.1, (c.2.2.2.2.2.2.2.2.2.2.1, (c.2.2.2.2.2.2.2.2.2.2.2.1, (c.2.2.2.2.2.2.2.2.2.2.2.2.1, (c.2.2.2.2.2.2.2.2.2.2.2.2.2.1, (c.2.2.2.2.2.2.2.2.2.2.2.2.2.2.1, (c.2.2.2.2.2.2.2.2.2.2.2.2.2.2.2.1, (c.2.2.2.2.2.2.2.2.2.2.2.2.2.2.2.2.1, (c.2.2.2.2.2.2.2.2.2.2.2.2.2.2.2.2.2.1, (ch, c.2.2.2.2.2.2.2.2.2.2.2.2.2.2.2.2.2.2.2)))))))))))))))))))
theorem nlF (a b : Int) (l : List Int) (s micro : Int) (ch : Bool) : F_9b a b l s micro ch =
    (F_9d).bind fun r0 =>
    bif (!r0) then some false
    else
      bif (decide (((l.length : Nat) : Int) > (20:Int))) then some true
      else
        (F_9e a b 1 1 s).bind fun c =>
        (F_9f (List.take c.1.length c.1) (List.take l.length l) true).bind fun p =>
        bif (((allR p.length (fun _ => true)) && true) && true) then
          (F_912 (setCh c ch) (rowsP p) micro).bind fun r =>
          bif (r.2.1 != (0:Int)) then some false
          else
            bif (((r.1.length : Nat) : Int) != ((p.length : Nat) : Int)) then some false
            else
              bif (((allR p.length (fun _ => true)) && ((allR r.1.length (fun _ => true)) && true)) && true) then
                (lim st_9b_0 ((ch, (rowsP p, (rowsT r.1, ((0:Int), ())))), (setCh c ch, ()))).bind fun q => els (fun _ => some true) (fun e => some e.1.1) q
              else none
        else none := by kernel_rfl
theorem fmt3 {a : Int} (h : 0 ≤ a) : knownS ((a / 6) % 3) = true := by
  have : a / 6 % 3 = 0 ∨ a / 6 % 3 = 1 ∨ a / 6 % 3 = 2 := by omega
  rcases this with e | e | e <;> rw [e] <;> decide
theorem netLow {a b : Int} {l : List Int} {s micro : Int} {ch : Bool} (ha : 0 ≤ a ∧ a ≤ 255) (hb : 0 ≤ b ∧ b ≤ 255) : F_9b a b l s micro ch = some true := by
  rw [nlF, known17]
  simp only [Option.bind_some, Bool.not_true, cond_false, bif_dec]
  by_cases hl : ((l.length : Nat) : Int) > 20
  · rw [if_pos hl]
  rw [if_neg hl, cfg_eq ha hb (by decide) (by decide)]
  simp only [Option.bind_some, List.take_length]
  obtain ⟨⟨w1, w2⟩, w3⟩ := wlist_bd (a % 6)
  have e1 : (cfg a b 1 1 s).1 = wlist (a % 6) := rfl
  have c1 : (setCh (cfg a b 1 1 s) ch).1 = wlist (a % 6) := by show List.take _ _ = _; rw [List.take_length]; rfl
  have c2 : cFmt (setCh (cfg a b 1 1 s) ch) = (a / 6) % 3 := rfl
  have c3 : cChance (setCh (cfg a b 1 1 s) ch) = ch := rfl
  have kf : knownS (cFmt (setCh (cfg a b 1 1 s) ch)) = true := by rw [c2]; exact fmt3 ha.1
  rw [e1, params_eq (wlist (a % 6)) l true (by omega) (by omega) (by omega) (fun i hi => by have := w3 i hi; omega)]
  simp only [Option.bind_some, allR_true, Bool.and_true, cond_true, rowsP_id]
  generalize hC : setCh (cfg a b 1 1 s) ch = C at c1 c2 c3 kf ⊢
  generalize hW : wlist (a % 6) = W at w1 w2 w3 c1 ⊢
  obtain ⟨n, hn⟩ : ∃ n, n + 1 = W.length := ⟨W.length - 1, by omega⟩
  rw [show W.length - 1 = n by omega]
  have pl : (parL W l true n).length = n := by simp [parL]
  have at_ := fun i (hi : i < n) => par_at (l := l) (m := true) hi hn w3 (show l.length ≤ 1000000 by omega)
  have okp : ∀ i, i < (parL W l true n).length → okP ((parL W l true n).getD i dP) := fun i hi => by
    obtain ⟨x, y, V, D, _, _, x4, y4, e, v1, v2, _, u1, u2⟩ := at_ i (by omega)
    rw [e]
    have := Nat.mul_le_mul x4 y4
    exact ⟨⟨wf_wl v2, by show V.length ≤ _; omega⟩, wf_wl u2, by show D.length ≤ _; omega⟩
  have shp : ∀ i, i < (parL W l true n).length → shpP C (parL W l true n) i = true := fun i hi => by
    obtain ⟨x, y, V, D, ex, ey, x4, y4, e, v1, v2, _, u1, u2⟩ := at_ i (by omega)
    unfold shpP shp1
    rw [e, c1, ex, ey]
    have r1 : rightS ((x : Int), (y : Int), 2, V, ()) = true := wf_right (by omega) (by omega) v1 (by decide) v2
    have r2 : rightS ((1 : Int), (x : Int), 2, D, ()) = true := wf_right (R := 1) (by omega) (by omega) u1 (by decide) u2
    simp [r1, r2]
  rw [low_ok C (parL W l true n) micro (by rw [pl, c1]; omega) (by rw [c1]; omega) okp shp kf]
  have ll : (lowL C micro (parL W l true n) (parL W l true n).length).length = n := by simp [lowL, pl]
  simp only [Option.bind_some, bne_self_eq_false, cond_false, ll, pl, allR_true, Bool.and_true, cond_true, rowsT_id]
  have key : lim st_9b_0 ((ch, (parL W l true n, (lowL C micro (parL W l true n) n, ((0:Int), ())))), (C, ())) = some (Sum.inl ((), ())) := by
    refine nl0_loop ch (parL W l true n) (lowL C micro (parL W l true n) n) C (by simp [lowL, pl]) (by rw [pl]; omega) fun i hi => ?_
    obtain ⟨x, y, V, D, ex, ey, x4, y4, e, v1, v2, v3, u1, u2⟩ := at_ i (by omega)
    have v3 := v3 rfl
    have r1 : rightS ((x : Int), (y : Int), 2, V, ()) = true := wf_right (by omega) (by omega) v1 (by decide) v2
    have hxy := Nat.mul_le_mul x4 y4
    have ew : (lowL C micro (parL W l true n) n).getD i dT = lowOne C micro (i : Int) ((x : Int), (y : Int), 2, V, ()) := by
      have hi' : i < n := by omega
      have : (lowL C micro (parL W l true n) n).getD i dT = lowOne C micro (i : Int) ((parL W l true n).getD i dP).1 := by simp [lowL, List.getD, hi']
      rw [this, e]
    rw [e, ew]
    have wlV := wf_wl v2
    cases hch : ch
    · have eo : lowOne C micro (i : Int) ((x : Int), (y : Int), 2, V, ()) = ((x : Int), (y : Int), cFmt C, castL ((x : Int), (y : Int), 2, V, ()) (cFmt C), ()) := by
        unfold lowOne; rw [c3, hch, if_neg (by decide)]; unfold castT; rw [if_pos r1, if_pos kf]
      rw [eo]
      refine ⟨⟨castL_len _ _, rfl⟩, by show V.length ≤ _; omega, wlV, fun k hk => ?_⟩
      have hk : k < V.length := hk
      have ev : (castL ((x : Int), (y : Int), 2, V, ()) (cFmt C)).getD k 0 = narrow (cFmt C) (V.getD k 0) := by
        unfold castL
        rw [gtd (by simpa using hk)]
        simp
        rfl
      show nearP _ (V.getD k 0) ((castL ((x : Int), (y : Int), 2, V, ()) (cFmt C)).getD k 0) ∧ (false = false → (castL ((x : Int), (y : Int), 2, V, ()) (cFmt C)).getD k 0 = _)
      rw [ev]
      exact ⟨narrow_near _ _, fun _ => rfl⟩
    · have eo : lowOne C micro (i : Int) ((x : Int), (y : Int), 2, V, ()) = ((x : Int), (y : Int), cFmt C, chL ((x : Int), (y : Int), 2, V, ()) (cFmt C) (cSeed C) (strm 1073741824 micro (i : Int)), ()) := by
        unfold lowOne; rw [c3, hch, if_pos rfl]; unfold chT; rw [if_pos r1, if_pos kf]
      rw [eo]
      refine ⟨⟨by simp [chL], rfl⟩, by show V.length ≤ _; omega, wlV, fun k hk => ?_⟩
      have hk : k < V.length := hk
      have hm : V.getD k 0 ∈ V := by rw [gtd hk]; exact List.getElem_mem hk
      have ev : (chL ((x : Int), (y : Int), 2, V, ()) (cFmt C) (cSeed C) (strm 1073741824 micro (i : Int))).getD k 0 = chN (cFmt C) (V.getD k 0) (wordF (cSeed C) (strm 1073741824 micro (i : Int)) (k : Int)) := by
        unfold chL
        rw [gtd (by simpa using hk)]
        simp only [List.getElem_map, List.getElem_range]
        rw [show widen 2 (V.getD k 0) = V.getD k 0 from mild_widen (v2 _ hm) (v3 _ hm)]
      show nearP _ (V.getD k 0) ((chL ((x : Int), (y : Int), 2, V, ()) (cFmt C) (cSeed C) (strm 1073741824 micro (i : Int))).getD k 0) ∧ (true = false → _)
      rw [ev]
      exact ⟨(chN_ok _ _ (wl_get wlV k)).2.2, fun h => by cases h⟩
  rw [pl] at ll
  rw [key, ll]
  simp only [bne_self_eq_false, cond_false]
  rfl
theorem callNetLow : ∀ l, args [.i .u8, .i .u8, .ints .u32, .i .u64, .i .i64, .b] l → oks l → CallOk PR i_9b l [] fun r _ => r = .b true :=
  rowT (fa := fa_9b) (F := G_9b) rfl rfl ok_9b (enters p_9b (by kernel_rfl) (by kernel_rfl)) rfl fun x hx =>
    netLow hx.1 hx.2.1
end Go.Proofs.YtkmkhcmfpbffjaaGreat.VI

namespace Go.Proofs.YtkmkhcmfpbffjaaGreat.VI
set_option linter.unusedVariables false
set_option linter.unusedSimpArgs false
open Go.ChangeShapes Go.WideShapes Go.RowKit Go.WideElems YtkmkhcmfpbffjaaGreat
set_option maxRecDepth 100000
theorem laid : laidOutB Tryz.prog = true := by kernel_rfl
theorem own : ownKnob Tryz.prog.godebug = none := by kernel_rfl
theorem lifted (os : Os) (started : os.Started) (H : Type) (enc : TypeId × Value → H) :
    ReturnsInHanded {} Tryz.checked os 5 .any (Rows.netLowSpec.pre6 enc Tryz.prog Tryz.f5 Rows.netLowRow.domain false) (Rows.netLowSpec.post enc Tryz.prog Tryz.f5 false true false false) :=
  lift_args (C := Tryz.checked) own started (by kernel_rfl) Tryz.func5
    (ChangeSpec.witness6 (enc := enc) (C := Tryz.checked) false ⟨#[], #[.int .u8 0, .int .u8 0, .slice none 0 0, .int .u64 0, .int .i64 0, .bool false], []⟩ 8 (by kernel_rfl) (by kernel_rfl) (by kernel_rfl) (by kernel_rfl))
    laid Tryz.underlying4 rfl (by kernel_rfl) rfl (fun ds hd => match ds, hd with
    | [_, _, _, _, _, _], _ => rfl) (d := 6) (by kernel_rfl) (Fs := [.i .u8, .i .u8, .ints .u32, .i .u64, .i .i64, .b]) (by kernel_rfl) callNetLow
theorem over : Rows.netLowRow.holds Tryz.pinned (OpenSpec.ofChange Rows.netLowSpec) :=
  OpenClaim.holds_of_wide 5 Tryz.f5 rfl rfl rfl rfl rfl rfl rfl ⟨rfl, rfl, rfl, rfl, rfl⟩ rfl rfl rfl rfl rfl (by kernel_rfl) Tryz.func5 (by kernel_rfl)
    (of_decide_eq_true (by kernel_rfl)) (by unfold Func.isWrapper; first | (rw [if_pos (by decide +kernel)]; kernel_rfl) | (rw [if_neg (by decide +kernel)]; exact ⟨rfl, rfl⟩))
    (fun os started H enc _ => lifted os started H enc)
end Go.Proofs.YtkmkhcmfpbffjaaGreat.VI

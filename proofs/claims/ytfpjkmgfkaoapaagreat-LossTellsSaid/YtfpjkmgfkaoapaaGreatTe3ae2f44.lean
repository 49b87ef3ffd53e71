import Derived.Test.YtfpjkmgfkaoapaaGreatTd966542f
import Derived.Test.YtfpjkmgfkaoapaaGreatRows
import Derived.WalkKit
import Derived.ProofKit
namespace Go.Proofs.YtfpjkmgfkaoapaaGreat.VI
set_option linter.unusedVariables false
set_option linter.unusedSimpArgs false
set_option maxRecDepth 100000
set_option maxHeartbeats 4000000
def mx2 (a b : Int) : Int := pck 2 a b (decide (ky 2 a > ky 2 b))
theorem mx2_w (a b : Int) : w32 (mx2 a b) := by
  unfold mx2 pck
  have e : ∀ x : Int, w32 (x % (2 * TT 2)) := fun x => ⟨by show 0 ≤ x % 4294967296; omega, by show x % 4294967296 < 4294967296; omega⟩
  split
  · split
    · exact wlit rfl
    · exact e _
  · split
    · exact e _
    · split
      · exact e _
      · exact e _
def mxf (R : Nat → Int) (m : Int) (a : Nat) : Nat → Int
  | 0 => m
  | k + 1 => mx2 (mxf R m a k) (R (a + k))
theorem mxf_w (R : Nat → Int) {m : Int} (hm : w32 m) (a : Nat) : ∀ k, w32 (mxf R m a k)
  | 0 => hm
  | k + 1 => mx2_w _ _
theorem mx2_nan {a b : Int} (ha : nan 2 a = true) (hb : nan 2 b = true) (x : Int) : mx2 a x = mx2 b x := by
  unfold mx2 pck; rw [ha, hb]; simp
theorem mx2_self {a : Int} (h : w32 a) : mx2 a a = a ∨ (nan 2 a = true ∧ nan 2 (mx2 a a) = true) := by
  have h0 := h.1
  have h1 := h.2
  have e : a % (2 * TT 2) = a := by show a % 4294967296 = a; omega
  cases hn : nan 2 a
  · left; unfold mx2 pck; rw [hn]; simp [e]
  · right; refine ⟨rfl, ?_⟩; unfold mx2 pck; rw [hn]; simp; decide
theorem mxf_two (R : Nat → Int) (h : w32 (R 0)) : ∀ k, mxf R (R 0) 0 (k + 1) = mxf R (R 0) 1 k ∨ (nan 2 (mxf R (R 0) 0 (k + 1)) = true ∧ nan 2 (mxf R (R 0) 1 k) = true)
  | 0 => by
    show mx2 (R 0) (R (0 + 0)) = R 0 ∨ _
    rcases mx2_self h with e | ⟨e1, e2⟩
    · left; exact e
    · right; exact ⟨e2, e1⟩
  | k + 1 => by
    show mx2 (mxf R (R 0) 0 (k + 1)) (R (0 + (k + 1))) = mx2 (mxf R (R 0) 1 k) (R (1 + k)) ∨ _
    rw [show 0 + (k + 1) = 1 + k by omega]
    rcases mxf_two R h k with e | ⟨e1, e2⟩
    · left; rw [e]
    · left; exact mx2_nan e1 e2 _
theorem subf_nan {a m : Int} (h : nan 2 m = true) : subf a m = 2143289344 := by
  unfold subf subS; rw [h]; simp; decide
theorem sub_two (R : Nat → Int) (h : w32 (R 0)) (k : Nat) (x : Int) : subf x (mxf R (R 0) 0 (k + 1)) = subf x (mxf R (R 0) 1 k) := by
  rcases mxf_two R h k with e | ⟨e1, e2⟩
  · rw [e]
  · rw [subf_nan e1, subf_nan e2]
def sacc (R : Nat → Int) (m : Int) : Nat → Int
  | 0 => 0
  | k + 1 => addf (sacc R m k) (expS (subf (R k) m))
theorem sacc_w (R : Nat → Int) (m : Int) : ∀ k, w32 (sacc R m k)
  | 0 => w0
  | k + 1 => addf_w _ _
theorem sacc_two (R : Nat → Int) (h : w32 (R 0)) (j : Nat) : ∀ k, sacc R (mxf R (R 0) 0 (j + 1)) k = sacc R (mxf R (R 0) 1 j) k
  | 0 => rfl
  | k + 1 => by unfold sacc; rw [sacc_two R h j k, sub_two R h]
theorem fmax_eq {a b : Int} (ha : w32 a) (hb : w32 b) : F_95d 2 a b = some (mx2 a b) := max_eq' 2 ha hb
theorem rmax_eq {a b : Int} (ha : w32 a) (hb : w32 b) : F_935 2 a b = some (mx2 a b) := maxr_eq 2 ha hb
theorem shares_eq (l : List Int) (hl : wl l) (hn : l.length ≤ 1073741824) (h0 : 0 < l.length) :
    F_930 l = some ((List.range l.length).map (fun j => expS (subf (gl l j) (mxf (gl l) (gl l 0) 0 l.length))), sacc (gl l) (mxf (gl l) (gl l 0) 0 l.length) l.length, mxf (gl l) (gl l 0) 0 l.length, ()) := by
  have A := lim_seq (st := st_930_0) (fun i => ((l, (mxf (gl l) (gl l 0) 0 i, (l, ((l.length : Int), ((i : Int), ()))))), ()))
    (b := ((l, (mxf (gl l) (gl l 0) 0 l.length, ())), ())) l.length
    (fun i hi R kn ko => by
      have e1 := fmax_eq (mxf_w (gl l) (wl_get hl 0) 0 i) (wl_get hl i)
      unfold st_930_0
      dsimp only
      simp only [List.take_length, bif_dec, Int.toNat_natCast]
      rw [if_pos (show (i : Int) < (l.length : Int) by omega), if_pos (show 0 ≤ (i : Int) ∧ (i : Int) < (l.length : Int) by omega)]
      rw [show F_95d 2 (mxf (gl l) (gl l 0) 0 i) (l.getD i 0) = _ from e1]
      simp only [Option.bind_some]
      rw [wi64 (by omega), show ((i + 1 : Nat) : Int) = (i : Int) + 1 by omega]
      rw [show mxf (gl l) (gl l 0) 0 (i + 1) = mx2 (mxf (gl l) (gl l 0) 0 i) (gl l (0 + i)) from rfl, show 0 + i = i by omega])
    (fun R kn ko => by
      unfold st_930_0
      dsimp only
      simp only [List.take_length, bif_dec]
      rw [if_neg (show ¬ (l.length : Int) < (l.length : Int) by omega)])
  have eA : lim st_930_0 ((l, ((List.getD l (0:Nat) (0:Int)), (l, ((l.length : Int), ((0:Int), ()))))), ()) = _ := A
  have wm := mxf_w (gl l) (wl_get hl 0) 0 l.length
  have B := fun (m : Int) (wm : w32 m) => lim_seq (st := st_930_1) (fun i => ((m, (i, (sacc (gl l) m i, (l, ((l.length : Int), ((i : Int), ())))))), ((List.range i).map (fun j => expS (subf (gl l j) m)), ())))
    (b := ((m, (l.length, (sacc (gl l) m l.length, ()))), ((List.range l.length).map (fun j => expS (subf (gl l j) m)), ()))) l.length
    (fun i hi R kn ko => by
      have e1 := fsub_eq (wl_get hl i) wm
      have hl2 : List.take i ((List.range i).map (fun j => expS (subf (gl l j) m))) = (List.range i).map (fun j => expS (subf (gl l j) m)) := List.take_of_length_le (by simp)
      unfold st_930_1
      dsimp only
      simp only [List.take_length, bif_dec, Int.toNat_natCast, hl2]
      rw [if_pos (show (i : Int) < (l.length : Int) by omega), if_pos (show 0 ≤ (i : Int) ∧ (i : Int) < (l.length : Int) by omega)]
      rw [show F_927 (l.getD i 0) m = _ from e1]
      simp only [Option.bind_some]
      rw [exp_eq (subf_w _ _)]
      simp only [Option.bind_some]
      rw [if_pos (show i + 1 ≤ 1073741824 by omega), fadd_eq (sacc_w _ _ i) exp_w]
      simp only [Option.bind_some]
      rw [wi64 (by omega), show ((i + 1 : Nat) : Int) = (i : Int) + 1 by omega, ← range_app]
      rfl)
    (fun R kn ko => by
      unfold st_930_1
      dsimp only
      simp only [List.take_length, bif_dec]
      rw [if_neg (show ¬ (l.length : Int) < (l.length : Int) by omega)])
  unfold F_930
  dsimp only
  simp only [List.take_length, bif_dec]
  rw [if_pos (by omega), eA]
  simp only [Option.bind_some, List.take_length]
  have eB : lim st_930_1 ((mxf (gl l) (gl l 0) 0 l.length, ((0:Nat), ((0:Int), (l, ((l.length : Int), ((0:Int), ())))))), ([], ())) = _ := B _ wm
  rw [eB]
  simp only [Option.bind_some, List.drop_zero]
  rw [List.take_of_length_le (by simp)]
end Go.Proofs.YtfpjkmgfkaoapaaGreat.VI

namespace Go.Proofs.YtfpjkmgfkaoapaaGreat.VI
set_option linter.unusedVariables false
set_option linter.unusedSimpArgs false
set_option maxRecDepth 100000
set_option maxHeartbeats 8000000
def rwM (w : Nat → Int) (C : Nat) : Int := mxf w (w 0) 1 (C - 1)
def smG (w : Nat → Int) (C : Nat) (l m : Int) (j : Nat) : Int := divf (subf (divf (expS (subf (w j) (rwM w C))) (sacc w (rwM w C) C)) (if (j : Int) = l then 1065353216 else 0)) m
def smL (w : Nat → Int) (C : Nat) (l : Int) : Int := subf (logS (sacc w (rwM w C) C)) (subf (w l.toNat) (rwM w C))
def smA (X y : List Int) (C : Nat) : Nat → Int
  | 0 => 0
  | r + 1 => addf (smA X y C r) (smL (gl (rowL X C r)) C (y.getD r 0))
theorem smA_w (X y : List Int) (C : Nat) : ∀ r, w32 (smA X y C r)
  | 0 => w0
  | r + 1 => addf_w _ _
def smH (X y : List Int) (C : Nat) (m : Int) (k : Nat) : Int := smG (gl (rowL X C (k / C))) C (y.getD (k / C) 0) m (k % C)
theorem smH_at {X y : List Int} {C : Nat} {m : Int} {r j : Nat} (hj : j < C) : smH X y C m (r * C + j) = smG (gl (rowL X C r)) C (y.getD r 0) m j := by
  have h1 : (r * C + j) / C = r := by rw [Nat.mul_comm, Nat.mul_add_div (by omega), Nat.div_eq_of_lt hj]; omega
  have h2 : (r * C + j) % C = j := by rw [Nat.mul_comm, Nat.mul_add_mod, Nat.mod_eq_of_lt hj]
  unfold smH; rw [h1, h2]
def smT (t : TsT) (y : List Int) : Int × TsT × Int × Unit :=
  if labE t y = 0 then (if t.1 = 0 then 0 else divf (smA (wideL t) y t.2.1.toNat t.1.toNat) (intf t.1), (t.1, t.2.1, 2, (List.range (t.1.toNat * t.2.1.toNat)).map (smH (wideL t) y t.2.1.toNat (intf t.1)), ()), 0, ())
  else (0, noT, labE t y, ())
theorem shares_row {X : List Int} {R C r : Nat} (hX : X.length = R * C) (wX : wl X) (hr : r < R) (hC : 0 < C) (hC2 : C ≤ 4096) :
    ∃ mP, F_930 (rowL X C r) = some ((List.range C).map (fun j => expS (subf (gl (rowL X C r) j) (rwM (gl (rowL X C r)) C))), sacc (gl (rowL X C r)) (rwM (gl (rowL X C r)) C) C, mP, ())
      ∧ w32 mP ∧ ∀ x, subf x mP = subf x (rwM (gl (rowL X C r)) C) := by
  have hl := rowL_len hX hr
  have hw := rowL_wl (C := C) (i := r) wX
  have hs := shares_eq (rowL X C r) hw (by omega) (by omega)
  rw [hl] at hs
  generalize rowL X C r = l at *
  obtain ⟨k, rfl⟩ : ∃ k, C = k + 1 := ⟨C - 1, by omega⟩
  have w0 : w32 (gl l 0) := wl_get hw 0
  have e2 := fun x => sub_two (gl l) w0 k x
  have e3 := sacc_two (gl l) w0 k (k + 1)
  refine ⟨mxf (gl l) (gl l 0) 0 (k + 1), ?_, mxf_w _ w0 _ _, e2⟩
  rw [hs, e3]
  have : (List.range (k + 1)).map (fun j => expS (subf (gl l j) (mxf (gl l) (gl l 0) 0 (k + 1)))) = (List.range (k + 1)).map (fun j => expS (subf (gl l j) (rwM (gl l) (k + 1)))) := by
    apply List.map_congr_left
    intro j _
    rw [e2]; rfl
  rw [this]; rfl
theorem lline_eq (f : Int) (l : List Int) (R C i : Nat) (hR : R ≤ 4096) (hC : C ≤ 4096) (hl : l.length = R * C) (hi : i < R) : F_92f ((R : Int), (C : Int), f, l, ()) (i : Int) = some (rowL l C i) :=
  line_eq f l R C i hR hC hl hi
theorem grad_loop (R C r : Nat) (X y : List Int) (m tot l : Int) (z : Int × Int × Int × Unit) (hX : X.length = R * C) (wX : wl X) (hr : r < R) (hR : R ≤ 4096) (hC : 0 < C) (hC2 : C ≤ 4096) (hm : w32 m) (hl : y.getD r 0 = l) :
    lim st_9f_1 ((m, (tot, (l, (sacc (gl (rowL X C r)) (rwM (gl (rowL X C r)) C) C, (y, ((y.length : Int), ((r : Int), ((List.range C).map (fun j => expS (subf (gl (rowL X C r) j) (rwM (gl (rowL X C r)) C))), ((C : Int), ((0 : Int), ())))))))))), (z, (((R : Int), ((C : Int), ((2:Int), (X, ())))), (((R : Int), ((C : Int), ((2:Int), (r * C, ())))), ((List.range (r * C)).map (smH X y C m), ()))))) =
      some ((m, (tot, (y, ((y.length : Int), ((r : Int), ()))))), (z, (((R : Int), ((C : Int), ((2:Int), (X, ())))), (((R : Int), ((C : Int), ((2:Int), ((r + 1) * C, ())))), ((List.range ((r + 1) * C)).map (smH X y C m), ()))))) := by
  have h1 : (r + 1) * C ≤ R * C := Nat.mul_le_mul_right _ hr
  have h2 : R * C ≤ 4096 * 4096 := Nat.mul_le_mul hR hC2
  have h3 : (r + 1) * C = r * C + C := by rw [Nat.add_mul]; omega
  have hw := rowL_wl (C := C) (i := r) wX
  have hgl : ∀ j, j < C → ((List.range C).map (fun j => expS (subf (gl (rowL X C r) j) (rwM (gl (rowL X C r)) C)))).getD j 0 = expS (subf (gl (rowL X C r) j) (rwM (gl (rowL X C r)) C)) := fun j hj => gl_mapA hj
  have hlen : ((List.range C).map (fun j => expS (subf (gl (rowL X C r) j) (rwM (gl (rowL X C r)) C)))).length = C := by simp
  have hH : ∀ j, j < C → smH X y C m (r * C + j) = smG (gl (rowL X C r)) C l m j := fun j hj => by rw [smH_at hj, hl]
  have ws := sacc_w (gl (rowL X C r)) (rwM (gl (rowL X C r)) C) C
  unfold smG at hH
  generalize (List.range C).map (fun j => expS (subf (gl (rowL X C r) j) (rwM (gl (rowL X C r)) C))) = E at *
  generalize sacc (gl (rowL X C r)) (rwM (gl (rowL X C r)) C) C = s at *
  have := lim_seq (st := st_9f_1) (fun j => ((m, (tot, (l, (s, (y, ((y.length : Int), ((r : Int), (E, ((C : Int), ((j : Int), ())))))))))), (z, (((R : Int), ((C : Int), ((2:Int), (X, ())))), (((R : Int), ((C : Int), ((2:Int), (r * C + j, ())))), ((List.range (r * C + j)).map (smH X y C m), ()))))))
    (b := ((m, (tot, (y, ((y.length : Int), ((r : Int), ()))))), (z, (((R : Int), ((C : Int), ((2:Int), (X, ())))), (((R : Int), ((C : Int), ((2:Int), (r * C + C, ())))), ((List.range (r * C + C)).map (smH X y C m), ())))))) C
    (fun j hj Q kn ko => by
      have we : w32 (expS (subf (gl (rowL X C r) j) (rwM (gl (rowL X C r)) C))) := exp_w
      have hl2 : List.take (r * C + j) ((List.range (r * C + j)).map (smH X y C m)) = (List.range (r * C + j)).map (smH X y C m) := List.take_of_length_le (by simp)
      have wo : w32 (if (j : Int) = l then (1065353216 : Int) else 0) := by split <;> exact wlit rfl
      unfold st_9f_1
      dsimp only
      simp only [List.take_length]
      simp only [bif_dec, bif_eq, Int.toNat_natCast, hl2, hlen]
      rw [if_pos (show (j : Int) < (C : Int) by omega), if_pos (show 0 ≤ (j : Int) ∧ (j : Int) < (C : Int) by omega), hgl j hj, fdiv_eq we ws]
      simp only [Option.bind_some]
      rw [fsub_eq (divf_w _ _) wo]
      simp only [Option.bind_some]
      rw [fdiv_eq (subf_w _ _) hm]
      simp only [Option.bind_some]
      rw [if_pos (show r * C + j + 1 ≤ 1073741824 by omega), wi64 (by omega), show ((j + 1 : Nat) : Int) = (j : Int) + 1 by omega, ← hH j hj, range_app]
      rfl)
    (fun Q kn ko => by
      unfold st_9f_1
      dsimp only
      simp only [List.take_length, bif_dec]
      rw [if_neg (show ¬ (C : Int) < (C : Int) by omega)])
  rw [h3]
  exact this
theorem softmax_eq (t : TsT) (y : List Int) (tl : wl t.2.2.2.1) (tn : t.2.2.2.1.length ≤ 1073741824) (hy : y.length < 4611686018427387904) : F_9f t y = some (smT t y) := by
  have hlab := labelled_eq t y tl tn hy
  unfold smT
  by_cases h0 : labE t y = 0
  · rw [if_pos h0] at hlab ⊢
    have hk : rightS t = true ∧ t.1 = (y.length : Int) ∧ ¬ (t.1 > 0 ∧ t.2.1 = 0) := by
      apply Classical.byContradiction; intro q; rw [labE_bad q] at h0; cases h0
    have hall : y.all (yOk t.2.1) = true := by
      rw [labE_ok hk] at h0; apply Classical.byContradiction; intro q; rw [if_neg q] at h0; cases h0
    obtain ⟨a, b, f, A, ⟨⟩⟩ := t
    simp only at tl tn hk hall
    obtain ⟨R, C, rfl, rfl, hR, hC, lA, _, _⟩ := right_nat hk.1
    have hb := rc_bd hR hC
    have hyl : y.length = R := by have := hk.2.1; omega
    have hC0 : 0 < R → 0 < C := fun q => by have := hk.2.2; omega
    have lX := wideL_len ((R : Int), (C : Int), f, A, ())
    have wX := wideL_wl ((R : Int), (C : Int), f, A, ())
    simp only at lX
    unfold F_9f
    dsimp only
    simp only [List.take_length]
    rw [show F_92e ((R : Int), ((C : Int), (f, (A, ())))) y = _ from hlab]
    simp only [Option.bind_some, bif_ne, if_true, List.take_length, Int.toNat_natCast]
    rw [fsint_eq (by omega)]
    simp only [Option.bind_some]
    rw [lA] at lX
    generalize wideL ((R : Int), (C : Int), f, A, ()) = X at *
    have wm := intf_w (R : Int)
    generalize intf (R : Int) = m at *
    have := lim_seq (st := st_9f_0) (fun r => ((m, (smA X y C r, (y, ((y.length : Int), ((r : Int), ()))))), (((0:Int), ((0:Int), ((0:Int), ()))), (((R : Int), ((C : Int), ((2:Int), (X, ())))), (((R : Int), ((C : Int), ((2:Int), (r * C, ())))), ((List.range (r * C)).map (smH X y C m), ()))))))
      (b := ((m, (smA X y C R, ())), (((0:Int), ((0:Int), ((0:Int), ()))), (((R : Int), ((C : Int), ((2:Int), (X, ())))), (((R : Int), ((C : Int), ((2:Int), (R * C, ())))), ((List.range (R * C)).map (smH X y C m), ())))))) R
      (fun r hr Q kn ko => by
        have hC1 := hC0 (by omega)
        have hyr : 0 ≤ y.getD r 0 ∧ y.getD r 0 < (C : Int) := by
          have := all_get.1 hall r (by omega)
          unfold yOk at this
          simpa using this
        obtain ⟨mP, hs, wP, hP⟩ := shares_row lX wX hr hC1 hC
        have hL := lline_eq 2 X R C r hR hC lX hr
        have hrl := rowL_len lX hr
        have hrw := rowL_wl (C := C) (i := r) wX
        have hG := grad_loop R C r X y m (smA X y C (r + 1)) (y.getD r 0) ((0:Int), ((0:Int), ((0:Int), ()))) lX wX hr hR hC1 hC wm rfl
        have ws := sacc_w (gl (rowL X C r)) (rwM (gl (rowL X C r)) C) C
        unfold st_9f_0
        dsimp only
        simp only [List.take_length]
        simp only [bif_dec, Int.toNat_natCast, hyl]
        rw [if_pos (show (r : Int) < (R : Int) by omega), if_pos (show 0 ≤ (r : Int) ∧ (r : Int) < (R : Int) by omega)]
        rw [show F_92f ((R : Int), ((C : Int), ((2:Int), (X, ())))) (r : Int) = _ from hL]
        simp only [Option.bind_some, List.take_length]
        rw [hs]
        simp only [Option.bind_some, hrl]
        rw [log_eq ws]
        simp only [Option.bind_some]
        rw [if_pos hyr]
        rw [show F_927 ((rowL X C r).getD (y.getD r 0).toNat 0) mP = _ from fsub_eq (wl_get hrw _) wP]
        simp only [Option.bind_some]
        rw [hP, fsub_eq (log_w ws) (subf_w _ _)]
        simp only [Option.bind_some]
        rw [fadd_eq (smA_w X y C r) (subf_w _ _)]
        simp only [Option.bind_some, List.take_length, List.length_map, List.length_range]
        rw [hyl] at hG
        rw [show addf (smA X y C r) (subf (logS (sacc (gl (rowL X C r)) (rwM (gl (rowL X C r)) C) C)) (subf ((rowL X C r).getD (y.getD r 0).toNat 0) (rwM (gl (rowL X C r)) C))) = smA X y C (r + 1) from rfl]
        rw [hG]
        simp only [Option.bind_some, List.take_length]
        rw [wi64 (by omega), show ((r + 1 : Nat) : Int) = (r : Int) + 1 by omega])
      (fun Q kn ko => by
        unfold st_9f_0
        dsimp only
        simp only [List.take_length, bif_dec, hyl]
        rw [if_neg (show ¬ (R : Int) < (R : Int) by omega)])
    rw [Nat.zero_mul] at this
    rw [show lim st_9f_0 ((m, ((0 : Int), (y, ((y.length : Int), ((0 : Int), ()))))), (((0:Int), ((0:Int), ((0:Int), ()))), (((R : Int), ((C : Int), ((2:Int), (X, ())))), (((R : Int), ((C : Int), ((2:Int), ((0:Nat), ())))), ([], ()))))) = _ from this]
    simp only [Option.bind_some, List.drop_zero]
    have hl3 : List.take (R * C) ((List.range (R * C)).map (smH X y C m)) = (List.range (R * C)).map (smH X y C m) := List.take_of_length_le (by simp)
    rw [hl3]
    unfold F_933
    rw [bif_eq]
    by_cases hz : (R : Int) = 0
    · rw [if_pos hz, if_pos hz]; rfl
    · rw [if_neg hz, if_neg hz, fdiv_eq (smA_w _ _ _ _) wm]; rfl
  · rw [if_neg h0] at hlab ⊢
    obtain ⟨a, b, f, A, ⟨⟩⟩ := t
    unfold F_9f
    dsimp only
    simp only [List.take_length]
    rw [show F_92e (a, (b, (f, (A, ())))) y = _ from hlab]
    simp only [Option.bind_some, bif_ne]
    rw [if_neg h0]
end Go.Proofs.YtfpjkmgfkaoapaaGreat.VI

namespace Go.Proofs.YtfpjkmgfkaoapaaGreat.VI
set_option linter.unusedVariables false
set_option linter.unusedSimpArgs false
set_option maxRecDepth 100000
set_option maxHeartbeats 8000000
theorem lay1_get (h : Nat → Int) {n i : Nat} (hi : i < n) : (lay1 h n (i + 1)).getD i 0 = h i := by
  unfold lay1
  rw [List.getD_eq_getElem?_getD, List.getElem?_append_left (by simp), List.getElem?_map, List.getElem?_range (by omega)]; rfl
abbrev Z4 : Type := Int × Int × Int × Unit
theorem wide_at {R C r j : Nat} {f : Int} {A : List Int} (hA : A.length = R * C) (wA : wl A) (hR : R ≤ 4096) (hC : C ≤ 4096) (hr : r < R) (hj : j < C) :
    F_92a ((R : Int), (C : Int), f, A, ()) (IntKind.wrap .i64 (IntKind.wrap .i64 ((r : Int) * (C : Int)) + (j : Int))) = some (gl (rowL (wideL ((R : Int), (C : Int), f, A, ())) C r) j) := by
  have h1 : (r + 1) * C ≤ R * C := Nat.mul_le_mul_right _ hr
  have h2 : R * C ≤ 4096 * 4096 := Nat.mul_le_mul hR hC
  have h3 : (r + 1) * C = r * C + C := by rw [Nat.add_mul]; omega
  have e : IntKind.wrap .i64 (IntKind.wrap .i64 ((r : Int) * (C : Int)) + (j : Int)) = ((r * C + j : Nat) : Int) := by
    have e1 : (r : Int) * (C : Int) = ((r * C : Nat) : Int) := by simp
    rw [e1, wi64 (n := ((r * C : Nat) : Int)) (by omega), wi64 (by omega)]; omega
  rw [e, wider_eq ((R : Int), (C : Int), f, A, ()) (i := r * C + j) wA (by simp only; omega), rowL_get hj]
theorem max_loop (R C r : Nat) (f : Int) (A y : List Int) (n tot : Int) (W : Z4 × (Int × Int × Int × Nat × Unit) × List Int × Unit) (hA : A.length = R * C) (wA : wl A) (hR : R ≤ 4096) (hC : C ≤ 4096) (hr : r < R) (hC0 : 0 < C) :
    lim st_910_1 ((y, (n, (tot, ((r : Int), (gl (rowL (wideL ((R : Int), (C : Int), f, A, ())) C r) 0, ((1:Int), ())))))), (((R : Int), ((C : Int), (f, (A, ())))), W)) =
      some ((y, (n, (tot, ((r : Int), (rwM (gl (rowL (wideL ((R : Int), (C : Int), f, A, ())) C r)) C, ()))))), (((R : Int), ((C : Int), (f, (A, ())))), W)) := by
  have hw := rowL_wl (C := C) (i := r) (wideL_wl ((R : Int), (C : Int), f, A, ()))
  have wa := fun j (hj : j < C) => wide_at (f := f) hA wA hR hC hr hj
  generalize rowL (wideL ((R : Int), (C : Int), f, A, ())) C r = l at *
  unfold rwM
  exact lim_seq (st := st_910_1) (fun i => ((y, (n, (tot, ((r : Int), (mxf (gl l) (gl l 0) 1 i, (((1 + i : Nat) : Int), ())))))), (((R : Int), ((C : Int), (f, (A, ())))), W))) (C - 1)
    (fun i hi Q kn ko => by
      have e1 := rmax_eq (mxf_w (gl l) (wl_get hw 0) 1 i) (wl_get hw (1 + i))
      unfold st_910_1
      dsimp only
      simp only [List.take_length, bif_dec]
      rw [if_pos (show ((1 + i : Nat) : Int) < (C : Int) by omega)]
      rw [show F_92a ((R : Int), ((C : Int), (f, (A, ())))) _ = _ from wa (1 + i) (by omega)]
      simp only [Option.bind_some]
      rw [show F_935 2 (mxf (gl l) (gl l 0) 1 i) (gl l (1 + i)) = _ from e1]
      simp only [Option.bind_some]
      rw [wi64 (by omega), show ((1 + (i + 1) : Nat) : Int) = ((1 + i : Nat) : Int) + 1 by omega]
      rfl)
    (fun Q kn ko => by
      unfold st_910_1
      dsimp only
      simp only [List.take_length, bif_dec]
      rw [if_neg (show ¬ ((1 + (C - 1) : Nat) : Int) < (C : Int) by omega)])
theorem sum_loop (R C r : Nat) (f m : Int) (A y : List Int) (n tot : Int) (z : Z4) (hd : Int × Int × Int × Nat × Unit) (O : List Int) (hA : A.length = R * C) (wA : wl A) (hR : R ≤ 4096) (hC : C ≤ 4096) (hr : r < R) (hm : w32 m) :
    lim st_910_2 ((y, (n, (tot, ((r : Int), (m, (C, ((0:Int), ((0:Int), ())))))))), (((R : Int), ((C : Int), (f, (A, ())))), (z, (hd, (List.replicate C 0, (O, ())))))) =
      some ((y, (n, (tot, ((r : Int), (m, (C, (sacc (gl (rowL (wideL ((R : Int), (C : Int), f, A, ())) C r)) m C, ()))))))), (((R : Int), ((C : Int), (f, (A, ())))), (z, (hd, ((List.range C).map (fun j => expS (subf (gl (rowL (wideL ((R : Int), (C : Int), f, A, ())) C r) j) m)), (O, ())))))) := by
  have hw := rowL_wl (C := C) (i := r) (wideL_wl ((R : Int), (C : Int), f, A, ()))
  have wa := fun j (hj : j < C) => wide_at (f := f) hA wA hR hC hr hj
  generalize rowL (wideL ((R : Int), (C : Int), f, A, ())) C r = l at *
  have := lim_seq (st := st_910_2) (fun i => ((y, (n, (tot, ((r : Int), (m, (C, (sacc (gl l) m i, ((i : Int), ())))))))), (((R : Int), ((C : Int), (f, (A, ())))), (z, (hd, (lay1 (fun j => expS (subf (gl l j) m)) C i, (O, ())))))))
    (b := ((y, (n, (tot, ((r : Int), (m, (C, (sacc (gl l) m C, ()))))))), (((R : Int), ((C : Int), (f, (A, ())))), (z, (hd, (lay1 (fun j => expS (subf (gl l j) m)) C C, (O, ()))))))) C
    (fun i hi Q kn ko => by
      have hll := lay1_len (fun j => expS (subf (gl l j) m)) (Nat.le_of_lt hi)
      have hll2 := lay1_len (fun j => expS (subf (gl l j) m)) (show i + 1 ≤ C by omega)
      have hls := lay1_set (fun j => expS (subf (gl l j) m)) hi
      have hlg := lay1_get (fun j => expS (subf (gl l j) m)) hi
      unfold st_910_2
      dsimp only at hls hlg ⊢
      simp only [List.take_length]
      simp only [bif_dec, Int.toNat_natCast, hll]
      rw [if_pos (show (i : Int) < (C : Int) by omega)]
      rw [show F_92a ((R : Int), ((C : Int), (f, (A, ())))) _ = _ from wa i hi]
      simp only [Option.bind_some]
      rw [rsub_eq (wl_get hw i) hm]
      simp only [Option.bind_some]
      rw [rexp_eq (subf_w _ _)]
      simp only [Option.bind_some]
      rw [if_pos (show 0 ≤ (i : Int) ∧ (i : Int) < (C : Int) by omega), if_pos (show 0 + i * 1 < C by omega), if_pos (show 0 ≤ (i : Int) ∧ (i : Int) < (C : Int) by omega)]
      have hls' : (lay1 (fun j => expS (subf (gl l j) m)) C i).set i (expS (subf (l.getD i 0) m)) = lay1 (fun j => expS (subf (gl l j) m)) C (i + 1) := hls
      simp only [show 0 + i * 1 = i by omega, hls', hll2, if_pos hi, hlg]
      rw [radd_eq (sacc_w (gl l) m i) exp_w]
      simp only [Option.bind_some]
      rw [wi64 (by omega), show ((i + 1 : Nat) : Int) = (i : Int) + 1 by omega]
      rfl)
    (fun Q kn ko => by
      unfold st_910_2
      dsimp only
      simp only [List.take_length, bif_dec]
      rw [if_neg (show ¬ (C : Int) < (C : Int) by omega)])
  rw [lay1_zero, lay1_all] at this
  exact this
theorem gradr_loop (R C r N : Nat) (f m tot : Int) (A y X : List Int) (z : Z4) (g : Z4) (hA : A.length = R * C) (hN : N = R * C) (wX : wl X) (hR : R ≤ 4096) (hC : C ≤ 4096) (hr : r < R) (hy : r < y.length) (hm : w32 m) :
    lim st_910_3 ((y, (m, (tot, ((r : Int), (C, (sacc (gl (rowL X C r)) (rwM (gl (rowL X C r)) C) C, ((0:Int), ()))))))), (((R : Int), ((C : Int), (f, (A, ())))), (z, ((g.1, (g.2.1, (g.2.2.1, (N, ())))), ((List.range C).map (fun j => expS (subf (gl (rowL X C r) j) (rwM (gl (rowL X C r)) C))), (lay1 (smH X y C m) N (r * C), ())))))) =
      some ((y, (m, (tot, ((r : Int), ())))), (((R : Int), ((C : Int), (f, (A, ())))), (z, ((g.1, (g.2.1, (g.2.2.1, (N, ())))), (lay1 (smH X y C m) N ((r + 1) * C), ()))))) := by
  have h1 : (r + 1) * C ≤ R * C := Nat.mul_le_mul_right _ hr
  have h2 : R * C ≤ 4096 * 4096 := Nat.mul_le_mul hR hC
  have h3 : (r + 1) * C = r * C + C := by rw [Nat.add_mul]; omega
  have hgl : ∀ j, j < C → ((List.range C).map (fun j => expS (subf (gl (rowL X C r) j) (rwM (gl (rowL X C r)) C)))).getD j 0 = expS (subf (gl (rowL X C r) j) (rwM (gl (rowL X C r)) C)) := fun j hj => gl_mapA hj
  have hlen : ((List.range C).map (fun j => expS (subf (gl (rowL X C r) j) (rwM (gl (rowL X C r)) C)))).length = C := by simp
  have hH : ∀ j, j < C → smH X y C m (r * C + j) = smG (gl (rowL X C r)) C (y.getD r 0) m j := fun j hj => smH_at hj
  have ws := sacc_w (gl (rowL X C r)) (rwM (gl (rowL X C r)) C) C
  unfold smG at hH
  generalize (List.range C).map (fun j => expS (subf (gl (rowL X C r) j) (rwM (gl (rowL X C r)) C))) = E at *
  generalize sacc (gl (rowL X C r)) (rwM (gl (rowL X C r)) C) C = s at *
  have e1 : (r : Int) * (C : Int) = ((r * C : Nat) : Int) := by simp
  have := lim_seq (st := st_910_3) (fun j => ((y, (m, (tot, ((r : Int), (C, (s, ((j : Int), ()))))))), (((R : Int), ((C : Int), (f, (A, ())))), (z, ((g.1, (g.2.1, (g.2.2.1, (N, ())))), (E, (lay1 (smH X y C m) N (r * C + j), ())))))))
    (b := ((y, (m, (tot, ((r : Int), ())))), (((R : Int), ((C : Int), (f, (A, ())))), (z, ((g.1, (g.2.1, (g.2.2.1, (N, ())))), (lay1 (smH X y C m) N (r * C + C), ())))))) C
    (fun j hj Q kn ko => by
      have we : w32 (expS (subf (gl (rowL X C r) j) (rwM (gl (rowL X C r)) C))) := exp_w
      have wo : w32 (if (j : Int) = y.getD r 0 then (1065353216 : Int) else 0) := by split <;> exact wlit rfl
      have hll := lay1_len (smH X y C m) (show r * C + j ≤ N by omega)
      have hls := lay1_set (smH X y C m) (show r * C + j < N by omega)
      unfold st_910_3
      dsimp only
      simp only [List.take_length]
      simp only [bif_dec, bif_eq, Int.toNat_natCast, hlen, hll]
      rw [if_pos (show (j : Int) < (C : Int) by omega), if_pos (show 0 ≤ (r : Int) ∧ (r : Int) < (y.length : Int) by omega), if_pos (show 0 ≤ (j : Int) ∧ (j : Int) < (C : Int) by omega), if_pos (show 0 + j * 1 < C by omega), show 0 + j * 1 = j by omega, hgl j hj, rdiv_eq we ws]
      simp only [Option.bind_some]
      rw [rsub_eq (divf_w _ _) wo]
      simp only [Option.bind_some]
      rw [rdiv_eq (subf_w _ _) hm]
      simp only [Option.bind_some]
      rw [e1, wi64 (n := ((r * C : Nat) : Int)) (by omega), wi64 (n := ((r * C : Nat) : Int) + (j : Int)) (by omega), show ((r * C : Nat) : Int) + (j : Int) = ((r * C + j : Nat) : Int) by omega, Int.toNat_natCast]
      rw [if_pos (show 0 ≤ ((r * C + j : Nat) : Int) ∧ ((r * C + j : Nat) : Int) < (N : Int) by omega), if_pos (show 0 + (r * C + j) * 1 < N by omega), show 0 + (r * C + j) * 1 = r * C + j by omega, wi64 (by omega), show ((j + 1 : Nat) : Int) = (j : Int) + 1 by omega, ← hH j hj, hls]
      rfl)
    (fun Q kn ko => by
      unfold st_910_3
      dsimp only
      simp only [List.take_length, bif_dec]
      rw [if_neg (show ¬ (C : Int) < (C : Int) by omega)])
  rw [h3]
  exact this
theorem softmaxr_eq (t : TsT) (y : List Int) (tl : wl t.2.2.2.1) (tn : t.2.2.2.1.length ≤ 1073741824) (hy : y.length < 4611686018427387904) : F_910 t y = some (smT t y) := by
  have hlab := labels_eq t y tl tn hy
  unfold smT
  by_cases h0 : labE t y = 0
  · rw [h0] at hlab
    rw [if_pos h0]
    have hk : rightS t = true ∧ t.1 = (y.length : Int) ∧ ¬ (t.1 > 0 ∧ t.2.1 = 0) := by
      apply Classical.byContradiction; intro q; rw [labE_bad q] at h0; cases h0
    have hall : y.all (yOk t.2.1) = true := by
      rw [labE_ok hk] at h0; apply Classical.byContradiction; intro q; rw [if_neg q] at h0; cases h0
    obtain ⟨a, b, f, A, ⟨⟩⟩ := t
    simp only at tl tn hk hall
    obtain ⟨R, C, rfl, rfl, hR, hC, lA, _, _⟩ := right_nat hk.1
    have hb := rc_bd hR hC
    have hyl : y.length = R := by have := hk.2.1; omega
    have hC0 : 0 < R → 0 < C := fun q => by have := hk.2.2; omega
    have lX := wideL_len ((R : Int), (C : Int), f, A, ())
    have wX := wideL_wl ((R : Int), (C : Int), f, A, ())
    simp only at lX
    unfold F_910
    dsimp only
    simp only [List.take_length]
    rw [show F_934 ((R : Int), ((C : Int), (f, (A, ())))) y = _ from hlab]
    simp only [Option.bind_some, bif_ne, if_true, bif_dec, Int.toNat_natCast]
    rw [if_pos (by omega), rint_eq (by omega)]
    simp only [Option.bind_some]
    have wm := intf_w (R : Int)
    generalize intf (R : Int) = m at *
    have ML := fun r hr hC1 tot W => max_loop R C r f A y m tot W lA tl hR hC hr hC1
    have SL := fun r hr mm hmm tot z hd O => sum_loop R C r f mm A y m tot z hd O lA tl hR hC hr hmm
    have GL := fun r hr tot z g => gradr_loop R C r A.length f m tot A y (wideL ((R : Int), (C : Int), f, A, ())) z g lA lA wX hR hC hr (by omega) wm
    have WA := fun r j hr hj => wide_at (f := f) (r := r) (j := j) lA tl hR hC hr hj
    generalize wideL ((R : Int), (C : Int), f, A, ()) = X at *
    have := lim_seq (st := st_910_0) (fun r => ((y, (m, (smA X y C r, ((r : Int), ())))), (((R : Int), ((C : Int), (f, (A, ())))), (((0:Int), ((0:Int), ((0:Int), ()))), (((R : Int), ((C : Int), ((2:Int), (A.length, ())))), (lay1 (smH X y C m) A.length (r * C), ()))))))
      (b := ((m, (smA X y C R, ())), (((R : Int), ((C : Int), (f, (A, ())))), (((0:Int), ((0:Int), ((0:Int), ()))), (((R : Int), ((C : Int), ((2:Int), (A.length, ())))), (lay1 (smH X y C m) A.length (R * C), ()))))))
      R
      (fun r hr Q kn ko => by
        have hC1 := hC0 (by omega)
        have hyr : 0 ≤ y.getD r 0 ∧ y.getD r 0 < (C : Int) := by
          have := all_get.1 hall r (by omega)
          unfold yOk at this
          simpa using this
        have hrw := rowL_wl (C := C) (i := r) wX
        have wM : w32 (rwM (gl (rowL X C r)) C) := mxf_w _ (wl_get hrw 0) _ _
        have ws := sacc_w (gl (rowL X C r)) (rwM (gl (rowL X C r)) C) C
        have e0 := WA r 0 hr hC1
        have h1 : (r + 1) * C ≤ R * C := Nat.mul_le_mul_right _ hr
        have h3 : (r + 1) * C = r * C + C := by rw [Nat.add_mul]; omega
        have e1 : (r : Int) * (C : Int) = ((r * C : Nat) : Int) := by simp
        have e0' : IntKind.wrap .i64 (IntKind.wrap .i64 ((r : Int) * (C : Int)) + ((0 : Nat) : Int)) = IntKind.wrap .i64 ((r : Int) * (C : Int)) := by
          rw [e1, wi64 (n := ((r * C : Nat) : Int)) (by omega), wi64 (by omega)]; omega
        rw [e0'] at e0
        have e2 := WA r (y.getD r 0).toNat hr (by omega)
        rw [show (((y.getD r 0).toNat : Nat) : Int) = y.getD r 0 by omega] at e2
        unfold st_910_0
        dsimp only
        simp only [List.take_length]
        simp only [bif_dec]
        rw [if_pos (show (r : Int) < (R : Int) by omega)]
        rw [show F_92a ((R : Int), ((C : Int), (f, (A, ())))) (IntKind.wrap .i64 ((r : Int) * (C : Int))) = _ from e0]
        simp only [Option.bind_some]
        rw [ML r hr hC1]
        simp only [Option.bind_some, List.take_length, Int.toNat_natCast]
        rw [if_pos (by omega), SL r hr _ wM]
        simp only [Option.bind_some, List.take_length, Int.toNat_natCast]
        rw [if_pos (show 0 ≤ (r : Int) ∧ (r : Int) < (y.length : Int) by omega)]
        rw [show F_92a ((R : Int), ((C : Int), (f, (A, ())))) _ = _ from e2]
        simp only [Option.bind_some]
        rw [rsub_eq (wl_get hrw _) wM]
        simp only [Option.bind_some]
        rw [rlog_eq ws]
        simp only [Option.bind_some]
        rw [rsub_eq (log_w ws) (subf_w _ _)]
        simp only [Option.bind_some]
        rw [radd_eq (smA_w X y C r) (subf_w _ _)]
        simp only [Option.bind_some]
        rw [show addf (smA X y C r) (subf (logS (sacc (gl (rowL X C r)) (rwM (gl (rowL X C r)) C) C)) (subf (gl (rowL X C r) (y.getD r 0).toNat) (rwM (gl (rowL X C r)) C))) = smA X y C (r + 1) from rfl]
        rw [show lim st_910_3 _ = _ from GL r hr (smA X y C (r + 1)) ((0:Int), ((0:Int), ((0:Int), ()))) ((R : Int), ((C : Int), ((2:Int), ())))]
        simp only [Option.bind_some, List.take_length]
        rw [wi64 (by omega), show ((r + 1 : Nat) : Int) = (r : Int) + 1 by omega])
      (fun Q kn ko => by
        unfold st_910_0
        dsimp only
        simp only [List.take_length, bif_dec]
        rw [if_neg (show ¬ (R : Int) < (R : Int) by omega)])
    rw [Nat.zero_mul, lay1_zero] at this
    rw [show lim st_910_0 ((y, (m, ((0 : Int), ((0 : Int), ())))), (((R : Int), ((C : Int), (f, (A, ())))), (((0:Int), ((0:Int), ((0:Int), ()))), (((R : Int), ((C : Int), ((2:Int), (A.length, ())))), (List.replicate A.length 0, ()))))) = _ from this]
    simp only [Option.bind_some, List.drop_zero]
    rw [lA, lay1_all, List.take_of_length_le (by simp), bif_eq]
    by_cases hz : (R : Int) = 0
    · rw [if_pos hz, if_pos hz]
    · rw [if_neg hz, if_neg hz, rdiv_eq (smA_w _ _ _ _) wm]; rfl
  · rw [if_neg h0]
    obtain ⟨a, b, f, A, ⟨⟩⟩ := t
    unfold F_910
    dsimp only
    simp only [List.take_length]
    rw [show F_934 (a, (b, (f, (A, ())))) y = _ from hlab]
    simp only [Option.bind_some, bif_ne]
    rw [if_neg h0]
end Go.Proofs.YtfpjkmgfkaoapaaGreat.VI

namespace Go.Proofs.YtfpjkmgfkaoapaaGreat.VI
set_option linter.unusedVariables false
set_option linter.unusedSimpArgs false
set_option maxRecDepth 100000
set_option maxHeartbeats 8000000
theorem cmp_gt (f a b : Int) : ((cmp f a b).2 && decide ((cmp f a b).1 > 0)) = lt f b a := by
  unfold lt cmp
  rw [Bool.or_comm (nan f b), Bool.and_comm (zr f b)]
  split
  · rfl
  split
  · rfl
  split
  · rw [if_neg (by omega)]; simp
  split
  · simp
  · simp
theorem cmp_lt (f a b : Int) : ((cmp f a b).2 && decide ((cmp f a b).1 < 0)) = lt f a b := by
  unfold lt cmp
  split
  · rfl
  split
  · rfl
  split
  · rfl
  split
  · rfl
  · rfl
def gdR (w : Nat → Int) (l : Int) (j : Nat) : Bool := !((decide ((j : Int) < l) && !lt 2 (w j) (w l.toNat)) || (decide ((j : Int) > l) && lt 2 (w l.toNat) (w j)))
def flg (w : Nat → Int) (l : Int) : Nat → Bool
  | 0 => true
  | c + 1 => flg w l c && gdR w l c
theorem flg_all (w : Nat → Int) (l : Int) : ∀ c, flg w l c = true ↔ ∀ i, i < c → gdR w l i = true
  | 0 => by simp [flg]
  | c + 1 => by
    unfold flg
    rw [Bool.and_eq_true, flg_all w l c]
    constructor
    · rintro ⟨a, b⟩ i hi
      rcases Nat.lt_succ_iff_lt_or_eq.1 hi with h | h
      · exact a i h
      · subst h; exact b
    · intro h; exact ⟨fun i hi => h i (by omega), h c (by omega)⟩
theorem best_eq (X : List Int) (l : Int) (hX : wl X) (hn : X.length ≤ 1073741824) (h0 : 0 ≤ l) (h1 : l < (X.length : Int)) : F_938 X l = some (flg (gl X) l X.length) := by
  have wo : w32 (X.getD l.toNat 0) := wl_get hX _
  have stp : ∀ i, i < X.length → ∀ Q kn ko, st_938_0 Q ((X, (l, (X, ((X.length : Int), ((i : Int), ()))))), ()) kn ko =
      if gdR (gl X) l i = true then kn ((X, (l, (X, ((X.length : Int), (((i + 1 : Nat) : Int), ()))))), ()) else ko (Sum.inr ((false, ()), ())) := by
    intro i hi Q kn ko
    have g1 := cmp_gt 2 (X.getD l.toNat 0) (X.getD i 0)
    have g2 := cmp_lt 2 (X.getD l.toNat 0) (X.getD i 0)
    unfold st_938_0
    dsimp only
    simp only [List.take_length]
    simp only [bif_dec, Int.toNat_natCast]
    rw [if_pos (show (i : Int) < (X.length : Int) by omega), if_pos (show 0 ≤ (i : Int) ∧ (i : Int) < (X.length : Int) by omega), if_pos (show 0 ≤ l ∧ l < (X.length : Int) from ⟨h0, h1⟩), cmp_eq 2 wo (wl_get hX i)]
    simp only [Option.bind_some]
    rw [wi64 (by omega), show (i : Int) + 1 = ((i + 1 : Nat) : Int) by omega]
    unfold gdR
    rw [show lt 2 (gl X i) (gl X l.toNat) = _ from g1.symm, show lt 2 (gl X l.toNat) (gl X i) = _ from g2.symm]
    generalize cmp 2 (X.getD l.toNat 0) (X.getD i 0) = q
    obtain ⟨c, ok⟩ := q
    by_cases a1 : (i : Int) < l
    · have a2 : ¬ (i : Int) > l := by omega
      cases ok
      · simp [a1, a2]
      · by_cases a3 : c > 0
        · have a4 : ¬ c < 0 := by omega
          simp [a1, a2, a3, a4]
        · simp [a1, a2, a3]
    · by_cases a2 : (i : Int) > l
      · cases ok
        · simp [a1, a2]
        · by_cases a3 : c < 0
          · simp [a1, a2, a3]
          · simp [a1, a2, a3]
      · simp [a1, a2]
  have en : ∀ Q kn ko, st_938_0 Q ((X, (l, (X, ((X.length : Int), (((X.length : Nat) : Int), ()))))), ()) kn ko = ko (Sum.inl ((), ())) := by
    intro Q kn ko
    unfold st_938_0
    dsimp only
    simp only [List.take_length, bif_dec]
    rw [if_neg (show ¬ (X.length : Int) < (X.length : Int) by omega)]
  unfold F_938
  dsimp only
  simp only [List.take_length]
  rcases first_or (fun i => !(gdR (gl X) l i)) X.length with h | ⟨k, hk, hb, hx⟩
  · have ha : flg (gl X) l X.length = true := (flg_all _ _ _).2 fun i hi => by have := h i hi; simpa using this
    have := lim_seq (st := st_938_0) (fun i => ((X, (l, (X, ((X.length : Int), ((i : Int), ()))))), ())) X.length
      (fun i hi Q kn ko => by rw [stp i hi, if_pos (by have := h i hi; simpa using this)]) en
    rw [show lim st_938_0 ((X, (l, (X, ((X.length : Int), ((0 : Int), ()))))), ()) = _ from this, ha]
    rfl
  · have ha : flg (gl X) l X.length = false := by
      rw [Bool.eq_false_iff]; intro q
      have := (flg_all _ _ _).1 q k hk
      simp only [this] at hx; cases hx
    have := lim_seq (st := st_938_0) (fun i => ((X, (l, (X, ((X.length : Int), ((i : Int), ()))))), ())) (b := Sum.inr ((false, ()), ())) k
      (fun i hi Q kn ko => by rw [stp i (by omega), if_pos (by have := hb i hi; simpa using this)])
      (fun Q kn ko => by rw [stp k hk, if_neg (by intro q; rw [q] at hx; cases hx)])
    rw [show lim st_938_0 ((X, (l, (X, ((X.length : Int), ((0 : Int), ()))))), ()) = _ from this, ha]
    rfl
def cntR (X y : List Int) (C : Nat) : Nat → Int
  | 0 => 0
  | r + 1 => if flg (gl (rowL X C r)) (y.getD r 0) C then cntR X y C r + 1 else cntR X y C r
theorem cntR_bd (X y : List Int) (C : Nat) : ∀ r : Nat, 0 ≤ cntR X y C r ∧ cntR X y C r ≤ (r : Int)
  | 0 => by simp [cntR]
  | r + 1 => by
    have := cntR_bd X y C r
    unfold cntR
    split <;> omega
def rgtT (t : TsT) (y : List Int) : Int × Int × Unit := if labE t y = 0 then (cntR (wideL t) y t.2.1.toNat t.1.toNat, 0, ()) else (0, labE t y, ())
theorem rgt_eq (t : TsT) (y : List Int) (tl : wl t.2.2.2.1) (tn : t.2.2.2.1.length ≤ 1073741824) (hy : y.length < 4611686018427387904) : F_911 t y = some (rgtT t y) := by
  have hlab := labelled_eq t y tl tn hy
  unfold rgtT
  by_cases h0 : labE t y = 0
  · rw [if_pos h0] at hlab ⊢
    have hk : rightS t = true ∧ t.1 = (y.length : Int) ∧ ¬ (t.1 > 0 ∧ t.2.1 = 0) := by
      apply Classical.byContradiction; intro q; rw [labE_bad q] at h0; cases h0
    have hall : y.all (yOk t.2.1) = true := by
      rw [labE_ok hk] at h0; apply Classical.byContradiction; intro q; rw [if_neg q] at h0; cases h0
    obtain ⟨a, b, f, A, ⟨⟩⟩ := t
    simp only at tl tn hk hall
    obtain ⟨R, C, rfl, rfl, hR, hC, lA, _, _⟩ := right_nat hk.1
    have hb := rc_bd hR hC
    have hyl : y.length = R := by have := hk.2.1; omega
    have lX := wideL_len ((R : Int), (C : Int), f, A, ())
    have wX := wideL_wl ((R : Int), (C : Int), f, A, ())
    simp only at lX
    unfold F_911
    dsimp only
    simp only [List.take_length]
    rw [show F_92e ((R : Int), ((C : Int), (f, (A, ())))) y = _ from hlab]
    simp only [Option.bind_some, bif_ne, if_true, List.take_length, Int.toNat_natCast]
    rw [lA] at lX
    generalize wideL ((R : Int), (C : Int), f, A, ()) = X at *
    have := lim_seq (st := st_911_0) (fun r => ((cntR X y C r, (y, ((y.length : Int), ((r : Int), ())))), (((R : Int), ((C : Int), ((2:Int), (X, ())))), ())))
      (b := ((cntR X y C R, ()), ())) R
      (fun r hr Q kn ko => by
        have hyr : 0 ≤ y.getD r 0 ∧ y.getD r 0 < (C : Int) := by
          have := all_get.1 hall r (by omega)
          unfold yOk at this
          simpa using this
        have hL := lline_eq 2 X R C r hR hC lX hr
        have hrl := rowL_len lX hr
        have hrw := rowL_wl (C := C) (i := r) wX
        have hB := best_eq (rowL X C r) (y.getD r 0) hrw (by omega) hyr.1 (by rw [hrl]; exact hyr.2)
        have hc := cntR_bd X y C r
        unfold st_911_0
        dsimp only
        simp only [List.take_length]
        simp only [bif_dec, Int.toNat_natCast, hyl]
        rw [if_pos (show (r : Int) < (R : Int) by omega), if_pos (show 0 ≤ (r : Int) ∧ (r : Int) < (R : Int) by omega)]
        rw [show F_92f ((R : Int), ((C : Int), ((2:Int), (X, ())))) (r : Int) = _ from hL]
        simp only [Option.bind_some, List.take_length]
        rw [hB, hrl]
        simp only [Option.bind_some]
        rw [wi64 (n := (r : Int) + 1) (by omega), wi64 (n := cntR X y C r + 1) (by omega), show ((r + 1 : Nat) : Int) = (r : Int) + 1 by omega]
        have hf : cntR X y C (r + 1) = if flg (gl (rowL X C r)) (y.getD r 0) C then cntR X y C r + 1 else cntR X y C r := rfl
        rw [hf]
        cases flg (gl (rowL X C r)) (y.getD r 0) C <;> rfl)
      (fun Q kn ko => by
        unfold st_911_0
        dsimp only
        simp only [List.take_length, bif_dec, hyl]
        rw [if_neg (show ¬ (R : Int) < (R : Int) by omega)])
    rw [show lim st_911_0 (((0 : Int), (y, ((y.length : Int), ((0 : Int), ())))), (((R : Int), ((C : Int), ((2:Int), (X, ())))), ())) = _ from this]
    rfl
  · rw [if_neg h0] at hlab ⊢
    obtain ⟨a, b, f, A, ⟨⟩⟩ := t
    unfold F_911
    dsimp only
    simp only [List.take_length]
    rw [show F_92e (a, (b, (f, (A, ())))) y = _ from hlab]
    simp only [Option.bind_some, bif_ne]
    rw [if_neg h0]
theorem flag_loop (R C r : Nat) (f n : Int) (A y : List Int) (hA : A.length = R * C) (wA : wl A) (hR : R ≤ 4096) (hC : C ≤ 4096) (hr : r < R) (hyl : y.length = R) :
    lim st_912_1 ((y, (n, ((r : Int), (gl (rowL (wideL ((R : Int), (C : Int), f, A, ())) C r) (y.getD r 0).toNat, (true, ((0:Int), ())))))), (((R : Int), ((C : Int), (f, (A, ())))), ())) =
      some ((y, (n, ((r : Int), (flg (gl (rowL (wideL ((R : Int), (C : Int), f, A, ())) C r)) (y.getD r 0) C, ())))), (((R : Int), ((C : Int), (f, (A, ())))), ())) := by
  have hw := rowL_wl (C := C) (i := r) (wideL_wl ((R : Int), (C : Int), f, A, ()))
  have wa := fun j (hj : j < C) => wide_at (f := f) hA wA hR hC hr hj
  generalize rowL (wideL ((R : Int), (C : Int), f, A, ())) C r = l at *
  exact lim_seq (st := st_912_1) (fun i => ((y, (n, ((r : Int), (gl l (y.getD r 0).toNat, (flg (gl l) (y.getD r 0) i, ((i : Int), ())))))), (((R : Int), ((C : Int), (f, (A, ())))), ()))) C
    (fun i hi Q kn ko => by
      have e1 := rabove_eq (wl_get hw (y.getD r 0).toNat) (wl_get hw i)
      have e2 := rabove_eq (wl_get hw i) (wl_get hw (y.getD r 0).toNat)
      unfold st_912_1
      dsimp only
      simp only [List.take_length]
      simp only [bif_dec, Int.toNat_natCast, hyl]
      rw [if_pos (show (i : Int) < (C : Int) by omega)]
      rw [show F_92a ((R : Int), ((C : Int), (f, (A, ())))) _ = _ from wa i hi]
      simp only [Option.bind_some]
      rw [if_pos (show 0 ≤ (r : Int) ∧ (r : Int) < (R : Int) by omega)]
      rw [show F_9c (gl l (y.getD r 0).toNat) (gl l i) = _ from e1, show F_9c (gl l i) (gl l (y.getD r 0).toNat) = _ from e2]
      simp only [Option.bind_some]
      rw [wi64 (by omega), show (i : Int) + 1 = ((i + 1 : Nat) : Int) by omega]
      have hf : flg (gl l) (y.getD r 0) (i + 1) = (flg (gl l) (y.getD r 0) i && gdR (gl l) (y.getD r 0) i) := rfl
      rw [hf]
      unfold gdR
      have g1 : lt 2 (List.getD l i 0) (List.getD l (y.getD r 0).toNat 0) = lt 2 (gl l i) (gl l (y.getD r 0).toNat) := rfl
      have g2 : lt 2 (List.getD l (y.getD r 0).toNat 0) (List.getD l i 0) = lt 2 (gl l (y.getD r 0).toNat) (gl l i) := rfl
      rw [g1, g2]
      generalize lt 2 (gl l i) (gl l (y.getD r 0).toNat) = c1
      generalize lt 2 (gl l (y.getD r 0).toNat) (gl l i) = c2
      generalize flg (gl l) (y.getD r 0) i = F
      by_cases a1 : (i : Int) < y.getD r 0
      · have a2 : ¬ (i : Int) > y.getD r 0 := by omega
        rw [if_pos a1, decide_eq_true a1, decide_eq_false a2]
        cases c1
        · simp
        · simp only [Bool.not_true, cond_false]
          rw [if_pos (show 0 ≤ (r : Int) ∧ (r : Int) < (R : Int) by omega), if_neg a2]
          simp
      · rw [if_neg a1, decide_eq_false a1, if_pos (show 0 ≤ (r : Int) ∧ (r : Int) < (R : Int) by omega)]
        by_cases a2 : (i : Int) > y.getD r 0
        · rw [if_pos a2, decide_eq_true a2]
          cases c2 <;> simp
        · rw [if_neg a2, decide_eq_false a2]
          simp)
    (fun Q kn ko => by
      unfold st_912_1
      dsimp only
      simp only [List.take_length, bif_dec]
      rw [if_neg (show ¬ (C : Int) < (C : Int) by omega)])
theorem rgtr_eq (t : TsT) (y : List Int) (tl : wl t.2.2.2.1) (tn : t.2.2.2.1.length ≤ 1073741824) (hy : y.length < 4611686018427387904) : F_912 t y = some (rgtT t y) := by
  have hlab := labels_eq t y tl tn hy
  unfold rgtT
  by_cases h0 : labE t y = 0
  · rw [h0] at hlab
    rw [if_pos h0]
    have hk : rightS t = true ∧ t.1 = (y.length : Int) ∧ ¬ (t.1 > 0 ∧ t.2.1 = 0) := by
      apply Classical.byContradiction; intro q; rw [labE_bad q] at h0; cases h0
    have hall : y.all (yOk t.2.1) = true := by
      rw [labE_ok hk] at h0; apply Classical.byContradiction; intro q; rw [if_neg q] at h0; cases h0
    obtain ⟨a, b, f, A, ⟨⟩⟩ := t
    simp only at tl tn hk hall
    obtain ⟨R, C, rfl, rfl, hR, hC, lA, _, _⟩ := right_nat hk.1
    have hb := rc_bd hR hC
    have hyl : y.length = R := by have := hk.2.1; omega
    unfold F_912
    dsimp only
    simp only [List.take_length]
    rw [show F_934 ((R : Int), ((C : Int), (f, (A, ())))) y = _ from hlab]
    simp only [Option.bind_some, bif_ne, if_true, Int.toNat_natCast]
    have FL := fun r n hr => flag_loop R C r f n A y lA tl hR hC hr hyl
    have WA := fun r j hr hj => wide_at (f := f) (r := r) (j := j) lA tl hR hC hr hj
    generalize wideL ((R : Int), (C : Int), f, A, ()) = X at *
    have := lim_seq (st := st_912_0) (fun r => ((y, (cntR X y C r, ((r : Int), ()))), (((R : Int), ((C : Int), (f, (A, ())))), ())))
      (b := ((cntR X y C R, ()), ())) R
      (fun r hr Q kn ko => by
        have hyr : 0 ≤ y.getD r 0 ∧ y.getD r 0 < (C : Int) := by
          have := all_get.1 hall r (by omega)
          unfold yOk at this
          simpa using this
        have e2 := WA r (y.getD r 0).toNat hr (by omega)
        rw [show (((y.getD r 0).toNat : Nat) : Int) = y.getD r 0 by omega] at e2
        have hc := cntR_bd X y C r
        unfold st_912_0
        dsimp only
        simp only [List.take_length]
        simp only [bif_dec, Int.toNat_natCast, hyl]
        rw [if_pos (show (r : Int) < (R : Int) by omega), if_pos (show 0 ≤ (r : Int) ∧ (r : Int) < (R : Int) by omega)]
        rw [show F_92a ((R : Int), ((C : Int), (f, (A, ())))) _ = _ from e2]
        simp only [Option.bind_some]
        rw [show lim st_912_1 _ = _ from FL r _ hr]
        simp only [Option.bind_some, List.take_length]
        rw [wi64 (n := (r : Int) + 1) (by omega), wi64 (n := cntR X y C r + 1) (by omega), show ((r + 1 : Nat) : Int) = (r : Int) + 1 by omega]
        have hf : cntR X y C (r + 1) = if flg (gl (rowL X C r)) (y.getD r 0) C then cntR X y C r + 1 else cntR X y C r := rfl
        rw [hf]
        cases flg (gl (rowL X C r)) (y.getD r 0) C <;> rfl)
      (fun Q kn ko => by
        unfold st_912_0
        dsimp only
        simp only [List.take_length, bif_dec]
        rw [if_neg (show ¬ (R : Int) < (R : Int) by omega)])
    rw [show lim st_912_0 ((y, ((0 : Int), ((0 : Int), ()))), (((R : Int), ((C : Int), (f, (A, ())))), ())) = _ from this]
    rfl
  · rw [if_neg h0]
    obtain ⟨a, b, f, A, ⟨⟩⟩ := t
    unfold F_912
    dsimp only
    simp only [List.take_length]
    rw [show F_934 (a, (b, (f, (A, ())))) y = _ from hlab]
    simp only [Option.bind_some, bif_ne]
    rw [if_neg h0]
end Go.Proofs.YtfpjkmgfkaoapaaGreat.VI

namespace Go.Proofs.YtfpjkmgfkaoapaaGreat.VI
set_option linter.unusedVariables false
set_option linter.unusedSimpArgs false
set_option maxRecDepth 100000
noncomputable def O_9e : Orc := orn
theorem okO_9e : OrcOk PR O_9e := (orn_ok _)
abbrev fa_9e : Fm := (.pair (.i .i64) (.pair (.i .i64) .unit))
abbrev fr_9e : Fm := (.i .i64)
noncomputable def F_9e (a0 : Int) (a1 : Int) : Option (Int) :=
 bif (a1 == (0:Int)) then
 none
 else
 (some (bif (decide ((Int.tmod a0 a1) < (0:Int))) then (IntKind.wrap .i64 ((Int.tmod a0 a1) + a1)) else (Int.tmod a0 a1)))
noncomputable def G_9e : T fa_9e → TH hN0 → Option (Int) := fun x y => F_9e x.1 x.2.1
noncomputable def c_9e : Orc := ent i_9e [] 0 (sp fa_9e hN0 fr_9e hN0 G_9e (outN fr_9e))
theorem ok_9e : OrcOk PR c_9e := fnT okO_9e mixed p_9e (by kernel_rfl) (by kernel_rfl) (L := L0) (kp := false) (by kernel_rfl) (inn := (innN fr_9e)) (out := (outN fr_9e)) (fun _ _ => rfl) (loopsL (l := []) (by kernel_rfl) trivial) (fun x y => by kernel_rfl)
noncomputable def O_9d : Orc := (orm c_913 c_9f)
theorem okO_9d : OrcOk PR O_9d := (orm_ok ok_913 ok_9f)
abbrev fa_9d : Fm := .unit
abbrev fr_9d : Fm := .b
noncomputable def F_9d  : Option (Bool) :=
 ((F_913 ((1:Int), ((2:Int), ((2:Int), ([(0:Int), (0:Int)], ())))) ((1:Int), ((2:Int), ((2:Int), ([(0:Int), (0:Int)], ())))))).bind fun r0 =>
 let x1 : Int := r0.2.2.1
 let x2 : List Int := r0.2.1.2.2.2.1
 ((F_9f ((1:Int), ((2:Int), ((2:Int), ([(0:Int), (0:Int)], ())))) [(1:Int)])).bind fun r3 =>
 let x4 : Int := r3.2.2.1
 let x5 : List Int := r3.2.1.2.2.2.1
 ((F_9f ((1:Int), ((2:Int), ((2:Int), ([(0:Int), (0:Int)], ())))) [(2:Int)])).bind fun r6 =>
 let x7 : Int := r6.2.2.1
 bif (r0.1 == (0:Int)) then
 bif (x1 == (0:Int)) then
 bif ((((List.length x2) : Nat) : Int) == (2:Int)) then
 bif (x4 == (0:Int)) then
 bif ((((List.length x5) : Nat) : Int) == (2:Int)) then
 bif (decide (((0:Int) ≤ (0:Int)) ∧ ((0:Int) < (((List.length x5) : Nat) : Int)))) then
 bif ((List.getD x5 (0:Nat) (0:Int)) == (1056964608:Int)) then
 bif (decide (((0:Int) ≤ (1:Int)) ∧ ((1:Int) < (((List.length x5) : Nat) : Int)))) then
 bif ((List.getD x5 (1:Nat) (0:Int)) == (3204448256:Int)) then
 (some (x7 == (22:Int)))
 else
 (some false)
 else
 none
 else
 (some false)
 else
 none
 else
 (some false)
 else
 (some false)
 else
 (some false)
 else
 (some false)
 else
 (some false)
noncomputable def G_9d : T fa_9d → TH hN0 → Option (Bool) := fun x y => F_9d
noncomputable def c_9d : Orc := ent i_9d [] 0 (sp fa_9d hN0 fr_9d hN0 G_9d (outN fr_9d))
theorem ok_9d : OrcOk PR c_9d := fnT okO_9d mixed p_9d (by kernel_rfl) (by kernel_rfl) (L := L0) (kp := false) (by kernel_rfl) (inn := (innN fr_9d)) (out := (outN fr_9d)) (fun _ _ => rfl) (loopsL (l := []) (by kernel_rfl) trivial) (fun x y => by kernel_rfl)
end Go.Proofs.YtfpjkmgfkaoapaaGreat.VI

namespace Go.Proofs.YtfpjkmgfkaoapaaGreat.VI
set_option linter.unusedVariables false
set_option linter.unusedSimpArgs false
set_option maxRecDepth 100000
set_option maxHeartbeats 4000000
theorem known16 : F_9d = some true := by
  have wA : wl [0, 0] := by intro a ha; simp at ha; subst ha; decide
  have h1 := mse_eq (1, 2, 2, [0, 0], ()) (1, 2, 2, [0, 0], ()) wA (by decide) wA (by decide)
  have h2 := softmax_eq (1, 2, 2, [0, 0], ()) [1] wA (by decide) (by decide)
  have h3 := softmax_eq (1, 2, 2, [0, 0], ()) [2] wA (by decide) (by decide)
  have v1 : mseT (1, 2, 2, [0, 0], ()) (1, 2, 2, [0, 0], ()) = (0, (1, 2, 2, [0, 0], ()), 0, ()) := by kernel_rfl
  have v2 : smT (1, 2, 2, [0, 0], ()) [1] = ((smT (1, 2, 2, [0, 0], ()) [1]).1, (1, 2, 2, [1056964608, 3204448256], ()), 0, ()) := by kernel_rfl
  have v3 : (smT (1, 2, 2, [0, 0], ()) [2]).2.2.1 = 22 := by decide +kernel
  rw [v1] at h1
  rw [v2] at h2
  unfold F_9d
  rw [h1, h2, h3]
  simp only [Option.bind_some, v3]
  rfl
end Go.Proofs.YtfpjkmgfkaoapaaGreat.VI

namespace Go.Proofs.YtfpjkmgfkaoapaaGreat.VI
set_option linter.unusedVariables false
set_option linter.unusedSimpArgs false
set_option maxRecDepth 100000
noncomputable def O_95 : Orc := (orm c_9d (orm c_98 (orm c_96 (orm c_9e (orm c_9f (orm c_910 (orm c_911 (orm c_912 (orm c_9b (orm c_913 c_914))))))))))
theorem okO_95 : OrcOk PR O_95 := (orm_ok ok_9d (orm_ok ok_98 (orm_ok ok_96 (orm_ok ok_9e (orm_ok ok_9f (orm_ok ok_910 (orm_ok ok_911 (orm_ok ok_912 (orm_ok ok_9b (orm_ok ok_913 ok_914))))))))))
abbrev fa_95 : Fm := (.pair (.agg (.pair (.i .i64) (.pair (.i .i64) (.pair (.i .i64) (.pair (.si .u32) .unit))))) (.pair (.agg (.pair (.i .i64) (.pair (.i .i64) (.pair (.i .i64) (.pair (.si .u32) .unit))))) (.pair (.si .i64) (.pair (.i .u8) (.pair (.i .u8) (.pair (.i .u8) (.pair (.si .u32) (.pair .b .unit))))))))
abbrev fr_95 : Fm := .b
abbrev ff_95_0 : Fm := (.us 2 (.pair (.si .i64) (.us 5 (.cst (.ref 0 1 0) (.cst (.ref 1 1 0) (.us 7 (.cst (.ref 2 1 0) (.cst (.ref 3 1 0) (.pair (.own 4 1 0 1) (.pair (.i .i64) (.us 191 .unit)))))))))))
abbrev hf_95_0 : List BF := [(.list 1 y_91 true (.pair (.i .i64) (.pair (.i .i64) (.pair (.i .i64) (.pair (.si .u32) .unit))))), (.list 1 y_91 true (.pair (.i .i64) (.pair (.i .i64) (.pair (.i .i64) (.pair (.si .u32) .unit))))), (.list 1 y_91 true (.pair (.i .i64) (.pair (.i .i64) (.pair (.i .i64) (.pair (.si .u32) .unit))))), (.list 1 y_91 true (.pair (.i .i64) (.pair (.i .i64) (.pair (.i .i64) (.pair (.si .u32) .unit))))), (.ints 1 y_90 true .i64)]
abbrev X_95_0 : Xs := (.one (.exit 0) [2, 8, 9, 17, 18, 19] (.us 2 (.pair (.si .i64) (.us 5 (.cst (.ref 0 1 0) (.cst (.ref 1 1 0) (.us 7 (.cst (.ref 2 1 0) (.cst (.ref 3 1 0) (.pair (.own 4 1 0 1) (.us 192 .unit)))))))))) [(.list 1 y_91 true (.pair (.i .i64) (.pair (.i .i64) (.pair (.i .i64) (.pair (.si .u32) .unit))))), (.list 1 y_91 true (.pair (.i .i64) (.pair (.i .i64) (.pair (.i .i64) (.pair (.si .u32) .unit))))), (.list 1 y_91 true (.pair (.i .i64) (.pair (.i .i64) (.pair (.i .i64) (.pair (.si .u32) .unit))))), (.list 1 y_91 true (.pair (.i .i64) (.pair (.i .i64) (.pair (.i .i64) (.pair (.si .u32) .unit))))), (.ints 1 y_90 true .i64)])
abbrev S_95_0 : Type := T ff_95_0 × TH hf_95_0
abbrev E_95_0 : Type := TX X_95_0
noncomputable def LB_95_0 : Lps := L0
noncomputable def st_95_0 : StepT S_95_0 E_95_0 := fun R v kn ko =>
 let x0 : List Int := v.1.1
 let x1 : Nat := (List.length x0)
 let x2 : Int := ((x1 : Nat) : Int)
 let x3 : Int := v.1.2.2.1
 let x4 : Int := v.2.2.2.1.2.1
 let x5 : Int := (mx x4 (1:Int))
 let x6 : List Int := (List.take x1 x0)
 let x7 : Nat := v.1.2.1
 let x8 : List Int := v.2.1.2.2.2.1
 let x9 : List Int := v.2.2.1.2.2.2.1
 let x10 : List Int := v.2.2.2.1.2.2.2.1
 let x11 : List Int := v.2.2.2.2.1.2.2.2.1
 let x12 : List Int := (List.take x7 v.2.2.2.2.2.1)
 bif (decide (x3 < v.2.2.2.1.1)) then
 bif (decide (x2 > (0:Int))) then
 bif (x2 == (0:Int)) then
 none
 else
 bif (decide (((0:Int) ≤ (Int.tmod x3 x2)) ∧ ((Int.tmod x3 x2) < x2))) then
 ((F_9e (List.getD x0 (Int.toNat (Int.tmod x3 x2)) (0:Int)) x5)).bind fun r13 =>
 bif (decide ((x7 + (1:Nat)) ≤ (1073741824:Nat))) then
 (kn ((x6, ((x7 + (1:Nat)), ((IntKind.wrap .i64 (x3 + (1:Int))), ()))), ((v.2.1.1, (v.2.1.2.1, (v.2.1.2.2.1, ((List.take (List.length x8) x8), ())))), ((v.2.2.1.1, (v.2.2.1.2.1, (v.2.2.1.2.2.1, ((List.take (List.length x9) x9), ())))), ((v.2.2.2.1.1, (x4, (v.2.2.2.1.2.2.1, ((List.take (List.length x10) x10), ())))), ((v.2.2.2.2.1.1, (v.2.2.2.2.1.2.1, (v.2.2.2.2.1.2.2.1, ((List.take (List.length x11) x11), ())))), ((x12 ++ [r13]), ())))))))
 else
 none
 else
 none
 else
 ((F_9e x3 x5)).bind fun r14 =>
 bif (decide ((x7 + (1:Nat)) ≤ (1073741824:Nat))) then
 (kn ((x6, ((x7 + (1:Nat)), ((IntKind.wrap .i64 (x3 + (1:Int))), ()))), ((v.2.1.1, (v.2.1.2.1, (v.2.1.2.2.1, ((List.take (List.length x8) x8), ())))), ((v.2.2.1.1, (v.2.2.1.2.1, (v.2.2.1.2.2.1, ((List.take (List.length x9) x9), ())))), ((v.2.2.2.1.1, (x4, (v.2.2.2.1.2.2.1, ((List.take (List.length x10) x10), ())))), ((v.2.2.2.2.1.1, (v.2.2.2.2.1.2.1, (v.2.2.2.2.1.2.2.1, ((List.take (List.length x11) x11), ())))), ((x12 ++ [r14]), ())))))))
 else
 none
 else
 (ko ((x6, (x7, ())), ((v.2.1.1, (v.2.1.2.1, (v.2.1.2.2.1, ((List.take (List.length x8) x8), ())))), ((v.2.2.1.1, (v.2.2.1.2.1, (v.2.2.1.2.2.1, ((List.take (List.length x9) x9), ())))), ((v.2.2.2.1.1, (x4, (v.2.2.2.1.2.2.1, ((List.take (List.length x10) x10), ())))), ((v.2.2.2.2.1.1, (v.2.2.2.2.1.2.1, (v.2.2.2.2.1.2.2.1, ((List.take (List.length x11) x11), ())))), v.2.2.2.2.2))))))
noncomputable def ls_95_0 : St → LTr := (lsum ff_95_0 hf_95_0 X_95_0 Prod.mk id st_95_0 (hd [(.pl 19, y_90, 0, .ints .i64)] [] [2, 8, 9, 17, 18, 19, 20] 0))
theorem lp_95_0 : LoopOk PR 0 (lpN f_95 0) ls_95_0 := loopT okO_95 mixed (L := LB_95_0) (d := 1) (bs := []) (ks := [2, 8, 9, 17, 18, 19, 20]) (loopsL (l := []) (by kernel_rfl) trivial) (by kernel_rfl) (inS := Prod.mk) (outS := id) (fun _ _ => rfl) (inX := id) (outX := id) (fun _ => rfl) (fun v R kn ko => by kernel_rfl) (hd_wk [(.pl 19, y_90, 0, .ints .i64)] [] [2, 8, 9, 17, 18, 19, 20] 0)
noncomputable def L_95 : Lps := (lpB 17 (.un 4 [2, 9, 18, 19, 112, 113, 114]) (lpB 10 (.by_ ls_95_0) L0))
noncomputable def F_95 (a0 : Int × Int × Int × List Int × Unit) (a1 : Int × Int × Int × List Int × Unit) (a2 : List Int) (a3 : Int) (a4 : Int) (a5 : Int) (a6 : List Int) (a7 : Bool) : Option (Bool) :=
 let x0 : Int := a0.2.2.1
 let x1 : List Int := a0.2.2.2.1
 let x2 : Int := a1.2.2.1
 let x3 : List Int := a1.2.2.2.1
 let x4 : Int := (IntKind.wrap .i64 (Int.tmod a3 (5:Int)))
 let x5 : Int := (IntKind.wrap .i64 (Int.tmod a4 (5:Int)))
 let x6 : List Int := (List.take (List.length a6) a6)
 let x7 : Nat := ((0:Nat) + (List.length a6))
 (F_9d).bind fun r8 =>
 bif (!r8) then
 (some false)
 else
 ((F_98 (a0.1, (a0.2.1, (x0, ((List.take (List.length x1) x1), ())))))).bind fun r9 =>
 bif (!r9) then
 (some true)
 else
 ((F_98 (a1.1, (a1.2.1, (x2, ((List.take (List.length x3) x3), ())))))).bind fun r10 =>
 bif (!r10) then
 (some true)
 else
 bif (decide ((((List.length a2) : Nat) : Int) > (30:Int))) then
 (some true)
 else
 bif (decide ((((List.length a6) : Nat) : Int) > (30:Int))) then
 (some true)
 else
 ((F_96 x4 x5 (IntKind.wrap .i64 (Int.tmod a5 (3:Int))) x6 a7)).bind fun r11 =>
 let x12 : Int := r11.2.2.1
 let x13 : List Int := r11.2.2.2.1
 bif (decide (x7 ≤ (1073741824:Nat))) then
 bif (decide ((x7 + (1:Nat)) ≤ (1073741824:Nat))) then
 ((F_96 x4 x5 (IntKind.wrap .i64 (Int.tmod (IntKind.wrap .u8 (Int.tdiv a5 (3:Int))) (3:Int))) (List.take (x7 + (1:Nat)) (List.drop (0:Nat) ((List.take x7 ([] ++ x6)) ++ [(9:Int)]))) a7)).bind fun r14 =>
 let x15 : Int := r14.2.2.1
 let x16 : List Int := r14.2.2.2.1
 ((lim st_95_0 (((List.take (List.length a2) a2), ((0:Nat), ((0:Int), ()))), ((a0.1, (a0.2.1, (x0, ((List.take (List.length x1) x1), ())))), ((a1.1, (a1.2.1, (x2, ((List.take (List.length x3) x3), ())))), ((r11.1, (r11.2.1, (x12, ((List.take (List.length x13) x13), ())))), ((r14.1, (r14.2.1, (x15, ((List.take (List.length x16) x16), ())))), ([], ())))))))).bind fun r17 =>
 let x18 : List Int := r17.2.1.2.2.2.1
 let x19 : List Int := r17.1.1
 let x20 : List Int := (List.take (List.length x19) x19)
 let x21 : List Int := r17.2.2.1.2.2.2.1
 let x22 : List Int := r17.2.2.2.1.2.2.2.1
 let x23 : List Int := (List.take r17.1.2.1 (List.drop (0:Nat) r17.2.2.2.2.2.1))
 let x24 : List Int := r17.2.2.2.2.1.2.2.2.1
 ((F_9f (r17.2.1.1, (r17.2.1.2.1, (r17.2.1.2.2.1, ((List.take (List.length x18) x18), ())))) x20)).bind fun r25 =>
 let x26 : Int := r25.2.2.1
 let x27 : Int := r25.2.1.1
 let x28 : Int := r25.2.1.2.1
 let x29 : Int := r25.2.1.2.2.1
 let x30 : List Int := r25.2.1.2.2.2.1
 ((F_910 (r17.2.1.1, (r17.2.1.2.1, (r17.2.1.2.2.1, ((List.take (List.length x18) x18), ())))) x20)).bind fun r31 =>
 let x32 : Int := r31.2.2.1
 let x33 : Int := r31.2.1.1
 let x34 : Int := r31.2.1.2.1
 let x35 : Int := r31.2.1.2.2.1
 let x36 : List Int := r31.2.1.2.2.2.1
 ((F_911 (r17.2.1.1, (r17.2.1.2.1, (r17.2.1.2.2.1, ((List.take (List.length x18) x18), ())))) x20)).bind fun r37 =>
 ((F_912 (r17.2.1.1, (r17.2.1.2.1, (r17.2.1.2.2.1, ((List.take (List.length x18) x18), ())))) x20)).bind fun r38 =>
 bif (x26 != x32) then
 (some false)
 else
 bif (r25.1 != r31.1) then
 (some false)
 else
 ((F_9b (x27, (x28, (x29, ((List.take (List.length x30) x30), ())))) (x33, (x34, (x35, ((List.take (List.length x36) x36), ())))))).bind fun r39 =>
 bif (!r39) then
 (some false)
 else
 bif (r37.1 != r38.1) then
 (some false)
 else
 bif (r37.2.1 != r38.2.1) then
 (some false)
 else
 ((F_913 (r17.2.1.1, (r17.2.1.2.1, (r17.2.1.2.2.1, ((List.take (List.length x18) x18), ())))) (r17.2.2.1.1, (r17.2.2.1.2.1, (r17.2.2.1.2.2.1, ((List.take (List.length x21) x21), ())))))).bind fun r40 =>
 let x41 : Int := r40.2.2.1
 let x42 : Int := r40.2.1.1
 let x43 : Int := r40.2.1.2.1
 let x44 : Int := r40.2.1.2.2.1
 let x45 : List Int := r40.2.1.2.2.2.1
 ((F_914 (r17.2.1.1, (r17.2.1.2.1, (r17.2.1.2.2.1, ((List.take (List.length x18) x18), ())))) (r17.2.2.1.1, (r17.2.2.1.2.1, (r17.2.2.1.2.2.1, ((List.take (List.length x21) x21), ())))))).bind fun r46 =>
 let x47 : Int := r46.2.2.1
 let x48 : Int := r46.2.1.1
 let x49 : Int := r46.2.1.2.1
 let x50 : Int := r46.2.1.2.2.1
 let x51 : List Int := r46.2.1.2.2.2.1
 bif (x41 != x47) then
 (some false)
 else
 bif (r40.1 != r46.1) then
 (some false)
 else
 ((F_9b (x42, (x43, (x44, ((List.take (List.length x45) x45), ())))) (x48, (x49, (x50, ((List.take (List.length x51) x51), ())))))).bind fun r52 =>
 bif (!r52) then
 (some false)
 else
 ((F_9f (r17.2.2.2.1.1, (r17.2.2.2.1.2.1, (r17.2.2.2.1.2.2.1, ((List.take (List.length x22) x22), ())))) x23)).bind fun r53 =>
 let x54 : Int := r53.2.2.1
 let x55 : Int := r53.2.1.1
 let x56 : Int := r53.2.1.2.1
 let x57 : Int := r53.2.1.2.2.1
 let x58 : List Int := r53.2.1.2.2.2.1
 ((F_910 (r17.2.2.2.1.1, (r17.2.2.2.1.2.1, (r17.2.2.2.1.2.2.1, ((List.take (List.length x22) x22), ())))) x23)).bind fun r59 =>
 let x60 : Int := r59.2.2.1
 let x61 : Int := r59.2.1.1
 let x62 : Int := r59.2.1.2.1
 let x63 : Int := r59.2.1.2.2.1
 let x64 : List Int := r59.2.1.2.2.2.1
 ((F_911 (r17.2.2.2.1.1, (r17.2.2.2.1.2.1, (r17.2.2.2.1.2.2.1, ((List.take (List.length x22) x22), ())))) x23)).bind fun r65 =>
 ((F_912 (r17.2.2.2.1.1, (r17.2.2.2.1.2.1, (r17.2.2.2.1.2.2.1, ((List.take (List.length x22) x22), ())))) x23)).bind fun r66 =>
 bif (x54 != x60) then
 (some false)
 else
 bif (r53.1 != r59.1) then
 (some false)
 else
 ((F_9b (x55, (x56, (x57, ((List.take (List.length x58) x58), ())))) (x61, (x62, (x63, ((List.take (List.length x64) x64), ())))))).bind fun r67 =>
 bif (!r67) then
 (some false)
 else
 bif (r65.1 != r66.1) then
 (some false)
 else
 bif (r65.2.1 != r66.2.1) then
 (some false)
 else
 ((F_913 (r17.2.2.2.1.1, (r17.2.2.2.1.2.1, (r17.2.2.2.1.2.2.1, ((List.take (List.length x22) x22), ())))) (r17.2.2.2.2.1.1, (r17.2.2.2.2.1.2.1, (r17.2.2.2.2.1.2.2.1, ((List.take (List.length x24) x24), ())))))).bind fun r68 =>
 let x69 : Int := r68.2.2.1
 let x70 : Int := r68.2.1.1
 let x71 : Int := r68.2.1.2.1
 let x72 : Int := r68.2.1.2.2.1
 let x73 : List Int := r68.2.1.2.2.2.1
 ((F_914 (r17.2.2.2.1.1, (r17.2.2.2.1.2.1, (r17.2.2.2.1.2.2.1, ((List.take (List.length x22) x22), ())))) (r17.2.2.2.2.1.1, (r17.2.2.2.2.1.2.1, (r17.2.2.2.2.1.2.2.1, ((List.take (List.length x24) x24), ())))))).bind fun r74 =>
 let x75 : Int := r74.2.2.1
 let x76 : Int := r74.2.1.1
 let x77 : Int := r74.2.1.2.1
 let x78 : Int := r74.2.1.2.2.1
 let x79 : List Int := r74.2.1.2.2.2.1
 bif (x69 != x75) then
 (some false)
 else
 bif (r68.1 != r74.1) then
 (some false)
 else
 ((F_9b (x70, (x71, (x72, ((List.take (List.length x73) x73), ())))) (x76, (x77, (x78, ((List.take (List.length x79) x79), ())))))).bind fun r80 =>
 bif (!r80) then
 (some false)
 else
 ((F_9f (r17.2.2.2.1.1, (r17.2.2.2.1.2.1, (r17.2.2.2.1.2.2.1, ((List.take (List.length x22) x22), ())))) x20)).bind fun r81 =>
 let x82 : Int := r81.2.2.1
 let x83 : Int := r81.2.1.1
 let x84 : Int := r81.2.1.2.1
 let x85 : Int := r81.2.1.2.2.1
 let x86 : List Int := r81.2.1.2.2.2.1
 ((F_910 (r17.2.2.2.1.1, (r17.2.2.2.1.2.1, (r17.2.2.2.1.2.2.1, ((List.take (List.length x22) x22), ())))) x20)).bind fun r87 =>
 let x88 : Int := r87.2.2.1
 let x89 : Int := r87.2.1.1
 let x90 : Int := r87.2.1.2.1
 let x91 : Int := r87.2.1.2.2.1
 let x92 : List Int := r87.2.1.2.2.2.1
 ((F_911 (r17.2.2.2.1.1, (r17.2.2.2.1.2.1, (r17.2.2.2.1.2.2.1, ((List.take (List.length x22) x22), ())))) x20)).bind fun r93 =>
 ((F_912 (r17.2.2.2.1.1, (r17.2.2.2.1.2.1, (r17.2.2.2.1.2.2.1, ((List.take (List.length x22) x22), ())))) x20)).bind fun r94 =>
 bif (x82 != x88) then
 (some false)
 else
 bif (r81.1 != r87.1) then
 (some false)
 else
 ((F_9b (x83, (x84, (x85, ((List.take (List.length x86) x86), ())))) (x89, (x90, (x91, ((List.take (List.length x92) x92), ())))))).bind fun r95 =>
 bif (!r95) then
 (some false)
 else
 bif (r93.1 != r94.1) then
 (some false)
 else
 bif (r93.2.1 != r94.2.1) then
 (some false)
 else
 ((F_913 (r17.2.2.2.1.1, (r17.2.2.2.1.2.1, (r17.2.2.2.1.2.2.1, ((List.take (List.length x22) x22), ())))) (r17.2.2.1.1, (r17.2.2.1.2.1, (r17.2.2.1.2.2.1, ((List.take (List.length x21) x21), ())))))).bind fun r96 =>
 let x97 : Int := r96.2.2.1
 let x98 : Int := r96.2.1.1
 let x99 : Int := r96.2.1.2.1
 let x100 : Int := r96.2.1.2.2.1
 let x101 : List Int := r96.2.1.2.2.2.1
 ((F_914 (r17.2.2.2.1.1, (r17.2.2.2.1.2.1, (r17.2.2.2.1.2.2.1, ((List.take (List.length x22) x22), ())))) (r17.2.2.1.1, (r17.2.2.1.2.1, (r17.2.2.1.2.2.1, ((List.take (List.length x21) x21), ())))))).bind fun r102 =>
 let x103 : Int := r102.2.2.1
 let x104 : Int := r102.2.1.1
 let x105 : Int := r102.2.1.2.1
 let x106 : Int := r102.2.1.2.2.1
 let x107 : List Int := r102.2.1.2.2.2.1
 bif (x97 != x103) then
 (some false)
 else
 bif (r96.1 != r102.1) then
 (some false)
 else
 ((F_9b (x98, (x99, (x100, ((List.take (List.length x101) x101), ())))) (x104, (x105, (x106, ((List.take (List.length x107) x107), ())))))).bind fun r108 =>
 bif (!r108) then
 (some false)
 else
 (some true)
 else
 none
 else
 none
noncomputable def G_95 : T fa_95 → TH hN0 → Option (Bool) := fun x y => F_95 x.1 x.2.1 x.2.2.1 x.2.2.2.1 x.2.2.2.2.1 x.2.2.2.2.2.1 x.2.2.2.2.2.2.1 x.2.2.2.2.2.2.2.1
noncomputable def c_95 : Orc := ent i_95 [] 0 (sp fa_95 hN0 fr_95 hN0 G_95 (outN fr_95))
theorem ok_95 : OrcOk PR c_95 := fnT okO_95 mixed p_95 (by kernel_rfl) (by kernel_rfl) (L := L_95) (kp := false) (by kernel_rfl) (inn := (innN fr_95)) (out := (outN fr_95)) (fun _ _ => rfl) (loopsL (l := [((lpN f_95 0), ls_95_0)]) (by kernel_rfl) ⟨lp_95_0, trivial⟩) (fun x y => by kernel_rfl)
end Go.Proofs.YtfpjkmgfkaoapaaGreat.VI

namespace Go.Proofs.YtfpjkmgfkaoapaaGreat.VI
set_option linter.unusedVariables false
set_option linter.unusedSimpArgs false
set_option maxRecDepth 100000
set_option maxHeartbeats 8000000
noncomputable def LSd (x : TsT) (w : List Int) (c : TsT) (K : Option Bool) : Option Bool :=
  (F_9f (tk x) w).bind fun r25 =>
  (F_910 (tk x) w).bind fun r31 =>
  (F_911 (tk x) w).bind fun r37 =>
  (F_912 (tk x) w).bind fun r38 =>
  bif (r25.2.2.1 != r31.2.2.1) then (some false) else
  bif (r25.1 != r31.1) then (some false) else
  (F_9b (tk r25.2.1) (tk r31.2.1)).bind fun r39 =>
  bif (!r39) then (some false) else
  bif (r37.1 != r38.1) then (some false) else
  bif (r37.2.1 != r38.2.1) then (some false) else
  (F_913 (tk x) (tk c)).bind fun r40 =>
  (F_914 (tk x) (tk c)).bind fun r46 =>
  bif (r40.2.2.1 != r46.2.2.1) then (some false) else
  bif (r40.1 != r46.1) then (some false) else
  (F_9b (tk r40.2.1) (tk r46.2.1)).bind fun r52 =>
  bif (!r52) then (some false) else K
theorem smT_len (t : TsT) (y : List Int) : (smT t y).2.1.2.2.2.1.length ≤ 16777216 := by
  unfold smT
  by_cases h0 : labE t y = 0
  · rw [if_pos h0]
    have hk : rightS t = true ∧ t.1 = (y.length : Int) ∧ ¬ (t.1 > 0 ∧ t.2.1 = 0) := by
      apply Classical.byContradiction; intro q; rw [labE_bad q] at h0; cases h0
    obtain ⟨a, b, f, A, ⟨⟩⟩ := t
    obtain ⟨R, C, rfl, rfl, hR, hC, lA, _, _⟩ := right_nat hk.1
    simp only [List.length_map, List.length_range, Int.toNat_natCast]
    exact rc_bd hR hC
  · rw [if_neg h0]; simp
theorem mseT_len (t u : TsT) : (mseT t u).2.1.2.2.2.1.length ≤ t.2.2.2.1.length := by
  unfold mseT
  split <;> simp
theorem ls_ok (x c : TsT) (w : List Int) (K : Option Bool) (hx : wl x.2.2.2.1) (nx : x.2.2.2.1.length ≤ 1073741824) (hc : wl c.2.2.2.1) (nc : c.2.2.2.1.length ≤ 1073741824) (hw : w.length < 4611686018427387904) : LSd x w c K = K := by
  have l1 := smT_len x w
  have l2 := mseT_len x c
  unfold LSd
  simp only [tk_id]
  rw [softmax_eq x w hx nx hw, softmaxr_eq x w hx nx hw, rgt_eq x w hx nx hw, rgtr_eq x w hx nx hw, mse_eq x c hx nx hc nc, mser_eq x c hx nx hc nc]
  simp only [Option.bind_some, bne_self_eq_false, cond_false]
  rw [tens_eq _ _ (by omega), tens_eq _ _ (by omega)]
  simp
def plc (a c : Int) : Int := bif (decide ((Int.tmod a c) < (0:Int))) then (IntKind.wrap .i64 ((Int.tmod a c) + c)) else (Int.tmod a c)
theorem place_eqP (a : Int) {c : Int} (h : c ≠ 0) : F_9e a c = some (plc a c) := by
  unfold F_9e plc
  rw [bif_eq, if_neg h]
def ysH (ys : List Int) (c : Int) (i : Nat) : Int := if 0 < ys.length then plc (ys.getD (i % ys.length) 0) (max c 1) else plc i (max c 1)
theorem ys_loop (ys : List Int) (a b t : TsT) (M : Nat) (z2 z3 : Int) (V : List Int) (hM : M ≤ 4096) (hn : ys.length ≤ 1073741824) :
    lim st_95_0 ((ys, ((0:Nat), ((0:Int), ()))), (a, (b, (((M : Int), (z2, (z3, (V, ())))), (t, ([], ())))))) =
      some ((ys, (M, ())), (a, (b, (((M : Int), (z2, (z3, (V, ())))), (t, ((List.range M).map (ysH ys z2), ())))))) := by
  obtain ⟨a1, a2, a3, A, ⟨⟩⟩ := a
  obtain ⟨b1, b2, b3, B, ⟨⟩⟩ := b
  obtain ⟨t1, t2, t3, T, ⟨⟩⟩ := t
  have hc : max z2 1 ≠ 0 := by omega
  exact lim_seq (st := st_95_0) (fun i => ((ys, (i, ((i : Int), ()))), ((a1, (a2, (a3, (A, ())))), ((b1, (b2, (b3, (B, ())))), (((M : Int), (z2, (z3, (V, ())))), ((t1, (t2, (t3, (T, ())))), ((List.range i).map (ysH ys z2), ()))))))) M
    (fun i hi Q kn ko => by
      have hl2 : List.take i ((List.range i).map (ysH ys z2)) = (List.range i).map (ysH ys z2) := List.take_of_length_le (by simp)
      unfold st_95_0
      dsimp only
      simp only [List.take_length]
      simp only [bif_dec, bif_eq, hl2, mx_eq]
      rw [if_pos (show (i : Int) < (M : Int) by omega)]
      by_cases h0 : 0 < ys.length
      · have e : ysH ys z2 i = plc (ys.getD (i % ys.length) 0) (max z2 1) := by unfold ysH; rw [if_pos h0]
        have ht : Int.tmod (i : Int) (ys.length : Int) = ((i % ys.length : Nat) : Int) := by rw [tmod_nn (by omega)]; simp
        have hm := Nat.mod_lt i h0
        rw [if_pos (show (ys.length : Int) > 0 by omega), if_neg (show ¬ (ys.length : Int) = 0 by omega), ht, if_pos (by omega), Int.toNat_natCast, place_eqP _ hc]
        simp only [Option.bind_some]
        rw [if_pos (show i + 1 ≤ 1073741824 by omega), wi64 (by omega), show ((i + 1 : Nat) : Int) = (i : Int) + 1 by omega, ← e, range_app]
      · have e : ysH ys z2 i = plc i (max z2 1) := by unfold ysH; rw [if_neg h0]
        rw [if_neg (show ¬ (ys.length : Int) > 0 by omega), place_eqP _ hc]
        simp only [Option.bind_some]
        rw [if_pos (show i + 1 ≤ 1073741824 by omega), wi64 (by omega), show ((i + 1 : Nat) : Int) = (i : Int) + 1 by omega, ← e, range_app])
    (fun Q kn ko => by
      unfold st_95_0
      dsimp only
      simp only [List.take_length, bif_dec]
      rw [if_neg (show ¬ (M : Int) < (M : Int) by omega)])
theorem lossTells (a b : TsT) {m n f : Int} (ys l : List Int) (mild : Bool) (hA : wl a.2.2.2.1) (hB : wl b.2.2.2.1) (hm : 0 ≤ m) (hn : 0 ≤ n) :
    F_95 a b ys m n f l mild = some true := by
  have un : F_95 a b ys m n f l mild =
    F_9d.bind fun r11 =>
    bif (!r11) then (some false) else
    (F_98 (tk a)).bind fun r12 =>
    bif (!r12) then (some true) else
    (F_98 (tk b)).bind fun r13 =>
    bif (!r13) then (some true) else
    bif (decide ((((List.length ys) : Nat) : Int) > (30:Int))) then (some true) else
    bif (decide ((((List.length l) : Nat) : Int) > (30:Int))) then (some true) else
    (F_96 (IntKind.wrap .i64 (Int.tmod m (5:Int))) (IntKind.wrap .i64 (Int.tmod n (5:Int))) (IntKind.wrap .i64 (Int.tmod f (3:Int))) (List.take (List.length l) l) mild).bind fun r14 =>
    bif (decide (((0:Nat) + (List.length l)) ≤ (1073741824:Nat))) then
      bif (decide ((((0:Nat) + (List.length l)) + (1:Nat)) ≤ (1073741824:Nat))) then
        (F_96 (IntKind.wrap .i64 (Int.tmod m (5:Int))) (IntKind.wrap .i64 (Int.tmod n (5:Int))) (IntKind.wrap .i64 (Int.tmod (IntKind.wrap .u8 (Int.tdiv f (3:Int))) (3:Int))) (List.take (((0:Nat) + (List.length l)) + (1:Nat)) (List.drop (0:Nat) ((List.take ((0:Nat) + (List.length l)) ([] ++ (List.take (List.length l) l))) ++ [(9:Int)]))) mild).bind fun r17 =>
        (lim st_95_0 (((List.take (List.length ys) ys), ((0:Nat), ((0:Int), ()))), (tk a, (tk b, (tk r14, (tk r17, ([], ()))))))).bind fun r =>
        LSd r.2.1 (List.take (List.length r.1.1) r.1.1) r.2.2.1 <| LSd r.2.2.2.1 (List.take r.1.2.1 (List.drop (0:Nat) r.2.2.2.2.2.1)) r.2.2.2.2.1 <| LSd r.2.2.2.1 (List.take (List.length r.1.1) r.1.1) r.2.2.1 <| some true
      else none
    else none := by kernel_rfl
  rw [un, known16]
  simp only [tk_id, Option.bind_some, Bool.not_true, cond_false, bif_dec, List.take_length]
  obtain ⟨y, hy⟩ := light_some a
  obtain ⟨z, hz⟩ := light_some b
  rw [hy, hz]
  simp only [Option.bind_some]
  cases y
  · rfl
  cases z
  · rfl
  have la := light_len hy
  have lb := light_len hz
  simp only [Bool.not_true, cond_false]
  by_cases lys : (((ys.length : Nat) : Int) > 30)
  · rw [if_pos lys]
  rw [if_neg lys]
  by_cases ll : (((l.length : Nat) : Int) > 30)
  · rw [if_pos ll]
  rw [if_neg ll]
  obtain ⟨M, eM, hM⟩ := tmod5 hm
  obtain ⟨N, eN, hN⟩ := tmod5 hn
  rw [eM, eN]
  generalize IntKind.wrap .i64 (Int.tmod f 3) = f'
  generalize IntKind.wrap .i64 (Int.tmod (IntKind.wrap .u8 (Int.tdiv f 3)) 3) = g'
  obtain ⟨V1, h1, l1, w1, _⟩ := seatT M N f' l mild (by omega) (by omega) (by omega)
  obtain ⟨V2, h2, l2, w2, _⟩ := seatT M N g' (List.take (((0:Nat) + (List.length l)) + (1:Nat)) (List.drop (0:Nat) ((List.take ((0:Nat) + (List.length l)) ([] ++ l)) ++ [(9:Int)]))) mild (by omega) (by omega) (by simp; omega)
  rw [h1]
  simp only [Option.bind_some]
  rw [if_pos (by omega), if_pos (by omega), h2]
  simp only [Option.bind_some]
  rw [show lim st_95_0 _ = _ from ys_loop ys a b ((M : Int), (N : Int), g', V2, ()) M (N : Int) f' V1 (by omega) (by omega)]
  simp only [Option.bind_some, List.take_length, List.drop_zero]
  have b1 := rc_bd (show M ≤ 4096 by omega) (show N ≤ 4096 by omega)
  have W1 := wf_wl w1
  have W2 := wf_wl w2
  rw [ls_ok a b ys _ hA (by omega) hB (by omega) (by omega)]
  rw [ls_ok ((M : Int), (N : Int), f', V1, ()) ((M : Int), (N : Int), g', V2, ()) _ _ W1 (by simp only; omega) W2 (by simp only; omega) (by simp; omega)]
  rw [ls_ok ((M : Int), (N : Int), f', V1, ()) b ys _ W1 (by simp only; omega) hB (by omega) (by omega)]
theorem callLossTells : ∀ l, args [.pair (.i .i64) (.pair (.i .i64) (.pair (.i .i64) (.pair (.ints .u32) (.unit)))), .pair (.i .i64) (.pair (.i .i64) (.pair (.i .i64) (.pair (.ints .u32) (.unit)))), .ints .i64, .i .u8, .i .u8, .i .u8, .ints .u32, .b] l → oks l → CallOk PR i_95 l [] fun r _ => r = .b true :=
  rowT (fa := fa_95) (F := G_95) rfl rfl ok_95 (enters p_95 (by kernel_rfl) (by kernel_rfl)) rfl fun x hx =>
    lossTells _ _ _ _ _ (wl_ok hx.1.2.2.2.1.2) (wl_ok hx.2.1.2.2.2.1.2) hx.2.2.2.1.1 hx.2.2.2.2.1.1
end Go.Proofs.YtfpjkmgfkaoapaaGreat.VI

namespace Go.Proofs.YtfpjkmgfkaoapaaGreat.VI
set_option linter.unusedVariables false
set_option linter.unusedSimpArgs false
open Go.ChangeShapes Go.WideShapes Go.RowKit Go.WideElems YtfpjkmgfkaoapaaGreat
set_option maxRecDepth 100000
theorem laid : laidOutB Tryz.prog = true := by kernel_rfl
theorem own : ownKnob Tryz.prog.godebug = none := by kernel_rfl
theorem lifted (os : Os) (started : os.Started) (H : Type) (enc : TypeId × Value → H) :
    ReturnsInHanded {} Tryz.checked os 7 .any (Rows.lossTellsSpec.pre6 enc Tryz.prog Tryz.f7 Rows.lossTellsRow.domain false) (Rows.lossTellsSpec.post enc Tryz.prog Tryz.f7 false true false false) :=
  lift_args (C := Tryz.checked) own started (by kernel_rfl) Tryz.func7
    (ChangeSpec.witness6 (enc := enc) (C := Tryz.checked) false ⟨#[], #[.agg #[.int .i64 0, .int .i64 0, .int .i64 0, .slice none 0 0], .agg #[.int .i64 0, .int .i64 0, .int .i64 0, .slice none 0 0], .slice none 0 0, .int .u8 0, .int .u8 0, .int .u8 0, .slice none 0 0, .bool false], []⟩ 8 (by kernel_rfl) (by kernel_rfl) (by kernel_rfl) (by kernel_rfl))
    laid Tryz.underlying4 rfl (by kernel_rfl) rfl (fun ds hd => match ds, hd with
    | [_, _, _, _, _, _, _, _], _ => rfl) (d := 6) (by kernel_rfl) (Fs := [.pair (.i .i64) (.pair (.i .i64) (.pair (.i .i64) (.pair (.ints .u32) (.unit)))), .pair (.i .i64) (.pair (.i .i64) (.pair (.i .i64) (.pair (.ints .u32) (.unit)))), .ints .i64, .i .u8, .i .u8, .i .u8, .ints .u32, .b]) (by kernel_rfl) callLossTells
theorem over : Rows.lossTellsRow.holds Tryz.pinned (OpenSpec.ofChange Rows.lossTellsSpec) :=
  OpenClaim.holds_of_wide 7 Tryz.f7 rfl rfl rfl rfl rfl rfl rfl ⟨rfl, rfl, rfl, rfl, rfl⟩ rfl rfl rfl rfl rfl (by kernel_rfl) Tryz.func7 (by kernel_rfl)
    (of_decide_eq_true (by kernel_rfl)) (by unfold Func.isWrapper; first | (rw [if_pos (by decide +kernel)]; kernel_rfl) | (rw [if_neg (by decide +kernel)]; exact ⟨rfl, rfl⟩))
    (fun os started H enc _ => lifted os started H enc)
end Go.Proofs.YtfpjkmgfkaoapaaGreat.VI

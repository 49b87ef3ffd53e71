import Derived.Test.YtkknnloamidaiaaGreatT901fd17c
namespace Go.Proofs.YtkknnloamidaiaaGreat.VI
set_option linter.unusedVariables false
set_option linter.unusedSimpArgs false
set_option linter.unusedSimpArgs false
set_option linter.unusedVariables false
set_option maxRecDepth 100000
set_option maxHeartbeats 8000000
theorem rfma_eq {a b c : Int} (ha : w32 a) (hb : w32 b) (hc : w32 c) : F_annealref10_Fma a b c = some (fma a b c) := by
  unfold F_annealref10_Fma; rw [fmar_eq 2 0 ha hb hc]; rfl
theorem tor_eq (f g mode : Int) {a : Int} (ha : w32 a) : F_annealref1_To f g mode a = some (toS f g mode a) := by
  have xa := xp_bd f a
  unfold F_annealref1_To toS
  rw [nans_eq f [a] (by simp) (by simpa using ha), nanr_w, infr_c f ha, negr_eq f ha, unpackr_eq f ha]
  simp only [Option.bind_some, List.any_cons, List.any_nil, Bool.or_false, infr_eq]
  rw [packr_eq g mode _ _ (sig_w64 f a), show min (max (xp f a) (-10000)) 10000 = xp f a by omega]
  cases nan f a <;> cases inff f a <;> rfl
theorem wider_eq (t : TsT) {i : Nat} (hl : wl t.2.2.2.1) (hi : i < t.2.2.2.1.length) : F_annealref13_wide t (i : Int) = some (gl (wideL t) i) := by
  obtain ⟨r, c, f, l, ⟨⟩⟩ := t
  simp only at hl hi
  unfold F_annealref13_wide F_annealref1_Widen
  dsimp only
  rw [bif_dec, if_pos (by omega), Int.toNat_natCast, tor_eq f 2 0 (wl_get hl i)]
  simp only [Option.bind_some]
  unfold wideL
  have : gl ((List.range l.length).map fun i => widen f (l.getD i 0)) i = widen f (l.getD i 0) := by
    unfold gl; rw [List.getD_eq_getElem?_getD, List.getElem?_map, List.getElem?_range hi]; rfl
  rw [this]; rfl
def pa (p : Bool) (C i x : Nat) : Nat := if p then x * C + i else i * C + x
def qb (q : Bool) (D j x : Nat) : Nat := if q then j * D + x else x * D + j
theorem lin_lt {R C i x : Nat} (hi : i < R) (hx : x < C) : i * C + x < R * C := by
  have : (i + 1) * C ≤ R * C := Nat.mul_le_mul_right _ hi
  rw [Nat.add_mul] at this; omega
theorem pa_lt {p : Bool} {R C i x : Nat} (hi : i < (if p then C else R)) (hx : x < (if p then R else C)) : pa p C i x < R * C := by
  unfold pa
  cases p <;> simp at hi hx ⊢
  · exact lin_lt hi hx
  · exact lin_lt hx hi
theorem qb_lt {q : Bool} {J D j x : Nat} (hj : j < (if q then J else D)) (hx : x < (if q then D else J)) : qb q D j x < J * D := by
  unfold qb
  cases q <;> simp at hj hx ⊢
  · exact lin_lt hx hj
  · exact lin_lt hj hx
theorem lin_w {R C i x : Nat} (hR : R ≤ 4096) (hC : C ≤ 4096) (hi : i < R) (hx : x < C) : IntKind.wrap .i64 (IntKind.wrap .i64 ((i : Int) * (C : Int)) + (x : Int)) = ((i * C + x : Nat) : Int) := by
  have := lin_lt hi hx
  have := rc_bd hR hC
  rw [show ((i : Int) * (C : Int)) = ((i * C : Nat) : Int) by simp, wi64 (n := ((i * C : Nat) : Int)) (by omega), wi64 (by omega)]; omega
theorem prod2 (p q : Bool) (R C J D m k n i j : Nat) (f g : Int) (A B : List Int) (z : (Int × Int × Int × Unit) × ((Int × Int × Int × Nat × Unit) × List Int × Unit)) (hR : R ≤ 4096) (hC : C ≤ 4096) (hJ : J ≤ 4096) (hD : D ≤ 4096)
    (hA : A.length = R * C) (hB : B.length = J * D) (wA : wl A) (wB : wl B) (hm : m = if p then C else R) (hk : k = if p then R else C) (hn : n = if q then J else D) (hk2 : k = if q then D else J) (hi : i < m) (hj : j < n) :
    lim st_annealref13_product_2 ((p, (q, ((m : Int), ((k : Int), ((n : Int), ((i : Int), ((j : Int), ((0:Int), ((0:Int), ()))))))))), (((R : Int), ((C : Int), (f, (A, ())))), (((J : Int), ((D : Int), (g, (B, ())))), z))) =
      some ((p, (q, ((m : Int), ((k : Int), ((n : Int), ((i : Int), ((j : Int), (dtf (fun x => gl (wideL ((R : Int), (C : Int), f, A, ())) (pa p C i x)) (fun x => gl (wideL ((J : Int), (D : Int), g, B, ())) (qb q D j x)) k, ())))))))), (((R : Int), ((C : Int), (f, (A, ())))), (((J : Int), ((D : Int), (g, (B, ())))), z))) := by
  have wWA := wideL_wl ((R : Int), (C : Int), f, A, ())
  have wWB := wideL_wl ((J : Int), (D : Int), g, B, ())
  have hk4 : k ≤ 4096 := by rw [hk]; cases p <;> simp <;> omega
  have := lim_seq (st := st_annealref13_product_2) (fun x => ((p, (q, ((m : Int), ((k : Int), ((n : Int), ((i : Int), ((j : Int), (dtf (fun x => gl (wideL ((R : Int), (C : Int), f, A, ())) (pa p C i x)) (fun x => gl (wideL ((J : Int), (D : Int), g, B, ())) (qb q D j x)) x, ((x : Int), ()))))))))), (((R : Int), ((C : Int), (f, (A, ())))), (((J : Int), ((D : Int), (g, (B, ())))), z))))
    (b := ((p, (q, ((m : Int), ((k : Int), ((n : Int), ((i : Int), ((j : Int), (dtf (fun x => gl (wideL ((R : Int), (C : Int), f, A, ())) (pa p C i x)) (fun x => gl (wideL ((J : Int), (D : Int), g, B, ())) (qb q D j x)) k, ())))))))), (((R : Int), ((C : Int), (f, (A, ())))), (((J : Int), ((D : Int), (g, (B, ())))), z)))) k
    (fun x hx R' kn ko => by
      have e1 := wider_eq ((R : Int), (C : Int), f, A, ()) (i := pa p C i x) wA (by simp only; rw [hA]; exact pa_lt (by omega) (by omega))
      have e2 := wider_eq ((J : Int), (D : Int), g, B, ()) (i := qb q D j x) wB (by simp only; rw [hB]; exact qb_lt (by omega) (by omega))
      have e3 := rfma_eq (wl_get wWA (pa p C i x)) (wl_get wWB (qb q D j x)) (dtf_w (fun x => gl (wideL ((R : Int), (C : Int), f, A, ())) (pa p C i x)) (fun x => gl (wideL ((J : Int), (D : Int), g, B, ())) (qb q D j x)) x)
      have es : dtf (fun x => gl (wideL ((R : Int), (C : Int), f, A, ())) (pa p C i x)) (fun x => gl (wideL ((J : Int), (D : Int), g, B, ())) (qb q D j x)) (x + 1) = fma (gl (wideL ((R : Int), (C : Int), f, A, ())) (pa p C i x)) (gl (wideL ((J : Int), (D : Int), g, B, ())) (qb q D j x)) (dtf (fun x => gl (wideL ((R : Int), (C : Int), f, A, ())) (pa p C i x)) (fun x => gl (wideL ((J : Int), (D : Int), g, B, ())) (qb q D j x)) x) := rfl
      rw [es]
      generalize dtf (fun x => gl (wideL ((R : Int), (C : Int), f, A, ())) (pa p C i x)) (fun x => gl (wideL ((J : Int), (D : Int), g, B, ())) (qb q D j x)) x = s at *
      unfold st_annealref13_product_2
      dsimp only
      simp only [List.take_length, bif_dec]
      rw [if_pos (show (x : Int) < (k : Int) by omega), wi64 (n := (x : Int) + 1) (show -9223372036854775808 ≤ (x : Int) + 1 ∧ (x : Int) + 1 ≤ 9223372036854775807 by omega), show ((x + 1 : Nat) : Int) = (x : Int) + 1 by omega]
      cases p <;> cases q <;> simp only [if_true, if_false, Bool.false_eq_true] at hm hk hn hk2
      · rw [cond_false, cond_false, lin_w hR hC (by omega) (by omega), lin_w hJ hD (by omega) (by omega)]
        rw [show F_annealref13_wide ((R : Int), ((C : Int), (f, (A, ())))) ((i * C + x : Nat) : Int) = _ from e1]
        simp only [Option.bind_some]
        rw [show F_annealref13_wide ((J : Int), ((D : Int), (g, (B, ())))) ((x * D + j : Nat) : Int) = _ from e2]
        simp only [Option.bind_some]
        rw [show F_annealref10_Fma _ _ s = _ from e3]
        rfl
      · rw [cond_false, cond_true, lin_w hR hC (by omega) (by omega), lin_w hJ hD (by omega) (by omega)]
        rw [show F_annealref13_wide ((R : Int), ((C : Int), (f, (A, ())))) ((i * C + x : Nat) : Int) = _ from e1]
        simp only [Option.bind_some]
        rw [show F_annealref13_wide ((J : Int), ((D : Int), (g, (B, ())))) ((j * D + x : Nat) : Int) = _ from e2]
        simp only [Option.bind_some]
        rw [show F_annealref10_Fma _ _ s = _ from e3]
        rfl
      · rw [cond_true, cond_false, lin_w hR hC (by omega) (by omega), lin_w hJ hD (by omega) (by omega)]
        rw [show F_annealref13_wide ((R : Int), ((C : Int), (f, (A, ())))) ((x * C + i : Nat) : Int) = _ from e1]
        simp only [Option.bind_some]
        rw [show F_annealref13_wide ((J : Int), ((D : Int), (g, (B, ())))) ((x * D + j : Nat) : Int) = _ from e2]
        simp only [Option.bind_some]
        rw [show F_annealref10_Fma _ _ s = _ from e3]
        rfl
      · rw [cond_true, cond_true, lin_w hR hC (by omega) (by omega), lin_w hJ hD (by omega) (by omega)]
        rw [show F_annealref13_wide ((R : Int), ((C : Int), (f, (A, ())))) ((x * C + i : Nat) : Int) = _ from e1]
        simp only [Option.bind_some]
        rw [show F_annealref13_wide ((J : Int), ((D : Int), (g, (B, ())))) ((j * D + x : Nat) : Int) = _ from e2]
        simp only [Option.bind_some]
        rw [show F_annealref10_Fma _ _ s = _ from e3]
        rfl)
    (fun R' kn ko => by
      unfold st_annealref13_product_2
      dsimp only
      simp only [List.take_length, bif_dec]
      rw [if_neg (show ¬ (k : Int) < (k : Int) by omega)])
  exact this
def refH (X Y : List Int) (p q : Bool) (C D k n t : Nat) : Int := dtf (fun x => gl X (pa p C (t / n) x)) (fun x => gl Y (qb q D (t % n) x)) k
theorem prod1 (p q : Bool) (R C J D m k n i : Nat) (f g : Int) (A B : List Int) (z : Int × Int × Int × Unit) (hR : R ≤ 4096) (hC : C ≤ 4096) (hJ : J ≤ 4096) (hD : D ≤ 4096)
    (hA : A.length = R * C) (hB : B.length = J * D) (wA : wl A) (wB : wl B) (hm : m = if p then C else R) (hk : k = if p then R else C) (hn : n = if q then J else D) (hk2 : k = if q then D else J) (hi : i < m) :
    lim st_annealref13_product_1 ((p, (q, ((m : Int), ((k : Int), ((n : Int), ((i : Int), ((0:Int), ()))))))), (((R : Int), ((C : Int), (f, (A, ())))), (((J : Int), ((D : Int), (g, (B, ())))), (z, (((m : Int), ((n : Int), ((2 : Int), ((m * n), ())))), (lay1 (refH (wideL ((R : Int), (C : Int), f, A, ())) (wideL ((J : Int), (D : Int), g, B, ())) p q C D k n) (m * n) (i * n), ())))))) =
      some ((p, (q, ((m : Int), ((k : Int), ((n : Int), ((i : Int), ())))))), (((R : Int), ((C : Int), (f, (A, ())))), (((J : Int), ((D : Int), (g, (B, ())))), (z, (((m : Int), ((n : Int), ((2 : Int), ((m * n), ())))), (lay1 (refH (wideL ((R : Int), (C : Int), f, A, ())) (wideL ((J : Int), (D : Int), g, B, ())) p q C D k n) (m * n) ((i + 1) * n), ())))))) := by
  have hm4 : m ≤ 4096 := by rw [hm]; cases p <;> simp <;> omega
  have hn4 : n ≤ 4096 := by rw [hn]; cases q <;> simp <;> omega
  have hb := rc_bd hm4 hn4
  have he : (i + 1) * n = i * n + n := by rw [Nat.add_mul, Nat.one_mul]
  have hle : (i + 1) * n ≤ m * n := Nat.mul_le_mul_right _ hi
  have := lim_seq (st := st_annealref13_product_1) (fun j => ((p, (q, ((m : Int), ((k : Int), ((n : Int), ((i : Int), ((j : Int), ()))))))), (((R : Int), ((C : Int), (f, (A, ())))), (((J : Int), ((D : Int), (g, (B, ())))), (z, (((m : Int), ((n : Int), ((2 : Int), ((m * n), ())))), (lay1 (refH (wideL ((R : Int), (C : Int), f, A, ())) (wideL ((J : Int), (D : Int), g, B, ())) p q C D k n) (m * n) (i * n + j), ())))))))
    (b := ((p, (q, ((m : Int), ((k : Int), ((n : Int), ((i : Int), ())))))), (((R : Int), ((C : Int), (f, (A, ())))), (((J : Int), ((D : Int), (g, (B, ())))), (z, (((m : Int), ((n : Int), ((2 : Int), ((m * n), ())))), (lay1 (refH (wideL ((R : Int), (C : Int), f, A, ())) (wideL ((J : Int), (D : Int), g, B, ())) p q C D k n) (m * n) (i * n + n), ()))))))) n
    (fun j hj R' kn ko => by
      have hlt : i * n + j < m * n := by omega
      have hll := lay1_len (refH (wideL ((R : Int), (C : Int), f, A, ())) (wideL ((J : Int), (D : Int), g, B, ())) p q C D k n) (Nat.le_of_lt hlt)
      have hls := lay1_set (refH (wideL ((R : Int), (C : Int), f, A, ())) (wideL ((J : Int), (D : Int), g, B, ())) p q C D k n) hlt
      have d1 : (i * n + j) / n = i := by rw [Nat.mul_comm, Nat.mul_add_div (by omega), Nat.div_eq_of_lt hj]; omega
      have d2 : (i * n + j) % n = j := by rw [Nat.mul_comm, Nat.mul_add_mod, Nat.mod_eq_of_lt hj]
      have hv : refH (wideL ((R : Int), (C : Int), f, A, ())) (wideL ((J : Int), (D : Int), g, B, ())) p q C D k n (i * n + j) = dtf (fun x => gl (wideL ((R : Int), (C : Int), f, A, ())) (pa p C i x)) (fun x => gl (wideL ((J : Int), (D : Int), g, B, ())) (qb q D j x)) k := by
        unfold refH; rw [d1, d2]
      rw [hv] at hls
      have p2 := prod2 p q R C J D m k n i j f g A B (z, (((m : Int), ((n : Int), ((2 : Int), ((m * n), ())))), (lay1 (refH (wideL ((R : Int), (C : Int), f, A, ())) (wideL ((J : Int), (D : Int), g, B, ())) p q C D k n) (m * n) (i * n + j), ()))) hR hC hJ hD hA hB wA wB hm hk hn hk2 hi hj
      have hix : IntKind.wrap .i64 (IntKind.wrap .i64 ((i : Int) * (n : Int)) + (j : Int)) = ((i * n + j : Nat) : Int) := by
        rw [show ((i : Int) * (n : Int)) = ((i * n : Nat) : Int) by simp, wi64 (n := ((i * n : Nat) : Int)) (by omega), wi64 (by omega)]; omega
      unfold st_annealref13_product_1
      dsimp only
      simp only [List.take_length, bif_dec]
      rw [if_pos (show (j : Int) < (n : Int) by omega), p2]
      simp only [Option.bind_some, List.take_length, hix, hll, Int.toNat_natCast]
      rw [if_pos (show 0 ≤ ((i * n + j : Nat) : Int) ∧ ((i * n + j : Nat) : Int) < ((m * n : Nat) : Int) by omega), if_pos (show 0 + (i * n + j) * 1 < m * n by omega), show 0 + (i * n + j) * 1 = i * n + j by omega, hls, wi64 (by omega), show ((j + 1 : Nat) : Int) = (j : Int) + 1 by omega]
      rfl)
    (fun R' kn ko => by
      unfold st_annealref13_product_1
      dsimp only
      simp only [List.take_length, bif_dec]
      rw [if_neg (show ¬ (n : Int) < (n : Int) by omega)])
  rw [he]
  exact this
theorem prod0 (p q : Bool) (R C J D m k n : Nat) (f g : Int) (A B : List Int) (hR : R ≤ 4096) (hC : C ≤ 4096) (hJ : J ≤ 4096) (hD : D ≤ 4096)
    (hA : A.length = R * C) (hB : B.length = J * D) (wA : wl A) (wB : wl B) (hm : m = if p then C else R) (hk : k = if p then R else C) (hn : n = if q then J else D) (hk2 : k = if q then D else J) :
    lim st_annealref13_product_0 ((p, (q, ((m : Int), ((k : Int), ((n : Int), ((0:Int), ())))))), (((R : Int), ((C : Int), (f, (A, ())))), (((J : Int), ((D : Int), (g, (B, ())))), (((0:Int), ((0:Int), ((0:Int), ()))), (((m : Int), ((n : Int), ((2 : Int), ((m * n), ())))), (List.replicate (m * n) 0, ())))))) =
      some ((), (((0:Int), ((0:Int), ((0:Int), ()))), (((m : Int), ((n : Int), ((2 : Int), ((m * n), ())))), ((List.range (m * n)).map (refH (wideL ((R : Int), (C : Int), f, A, ())) (wideL ((J : Int), (D : Int), g, B, ())) p q C D k n), ())))) := by
  have hm4 : m ≤ 4096 := by rw [hm]; cases p <;> simp <;> omega
  have := lim_seq (st := st_annealref13_product_0) (fun i => ((p, (q, ((m : Int), ((k : Int), ((n : Int), ((i : Int), ())))))), (((R : Int), ((C : Int), (f, (A, ())))), (((J : Int), ((D : Int), (g, (B, ())))), (((0:Int), ((0:Int), ((0:Int), ()))), (((m : Int), ((n : Int), ((2 : Int), ((m * n), ())))), (lay1 (refH (wideL ((R : Int), (C : Int), f, A, ())) (wideL ((J : Int), (D : Int), g, B, ())) p q C D k n) (m * n) (i * n), ())))))))
    (b := ((), (((0:Int), ((0:Int), ((0:Int), ()))), (((m : Int), ((n : Int), ((2 : Int), ((m * n), ())))), ((List.range (m * n)).map (refH (wideL ((R : Int), (C : Int), f, A, ())) (wideL ((J : Int), (D : Int), g, B, ())) p q C D k n), ()))))) m
    (fun i hi R' kn ko => by
      unfold st_annealref13_product_0
      dsimp only
      simp only [List.take_length, bif_dec]
      rw [if_pos (show (i : Int) < (m : Int) by omega), prod1 p q R C J D m k n i f g A B _ hR hC hJ hD hA hB wA wB hm hk hn hk2 hi]
      simp only [Option.bind_some, List.take_length]
      rw [wi64 (by omega), show ((i + 1 : Nat) : Int) = (i : Int) + 1 by omega])
    (fun R' kn ko => by
      unfold st_annealref13_product_0
      dsimp only
      simp only [bif_dec]
      rw [if_neg (show ¬ (m : Int) < (m : Int) by omega), lay1_all])
  have h0 : lay1 (refH (wideL ((R : Int), (C : Int), f, A, ())) (wideL ((J : Int), (D : Int), g, B, ())) p q C D k n) (m * n) (0 * n) = List.replicate (m * n) 0 := by rw [Nat.zero_mul, lay1_zero]
  rw [h0] at this
  exact this
end Go.Proofs.YtkknnloamidaiaaGreat.VI

namespace Go.Proofs.YtkknnloamidaiaaGreat.VI
set_option linter.unusedVariables false
set_option linter.unusedSimpArgs false
set_option linter.unusedSimpArgs false
set_option linter.unusedVariables false
set_option maxRecDepth 100000
set_option maxHeartbeats 8000000
theorem gl_map {h : Nat → Int} {n i : Nat} (hi : i < n) : gl ((List.range n).map h) i = h i := by
  unfold gl; rw [List.getD_eq_getElem?_getD, List.getElem?_map, List.getElem?_range hi]; rfl
theorem turn_at {V : List Int} {R C i x : Nat} (hi : i < C) (hx : x < R) : gl (turnL V R C) (i * R + x) = gl V (x * C + i) := by
  have h1 : i * R + x < R * C := by rw [Nat.mul_comm R C]; exact lin_lt hi hx
  unfold turnL
  rw [gl_map h1]
  have d1 : (i * R + x) / R = i := by rw [Nat.mul_comm, Nat.mul_add_div (by omega), Nat.div_eq_of_lt hx]; omega
  have d2 : (i * R + x) % R = x := by rw [Nat.mul_comm, Nat.mul_add_mod, Nat.mod_eq_of_lt hx]
  unfold tau; rw [d1, d2]
theorem lists_eq (X Y : List Int) (p q : Bool) (R C J D m k n : Nat) (hm : m = if p then C else R) (hk : k = if p then R else C) (hn : n = if q then J else D) (hk2 : k = if q then D else J) :
    (List.range (m * n)).map (refH X Y p q C D k n) = prodL (if p then turnL X R C else X) (if (!q) then turnL Y J D else Y) k n (m * n) := by
  unfold prodL
  apply List.map_congr_left
  intro t ht
  have ht := List.mem_range.1 ht
  have hn0 : 0 < n := by apply Nat.pos_of_ne_zero; intro e; subst e; simp at ht
  have hi : t / n < m := Nat.div_lt_of_lt_mul (by rw [Nat.mul_comm]; exact ht)
  have hj : t % n < n := Nat.mod_lt t hn0
  unfold refH prodH
  apply dtf_congr
  intro x hx
  constructor
  · unfold pa
    cases p
    · simp only [if_false, Bool.false_eq_true] at hk ⊢
      rw [hk]
    · simp only [if_true] at hm hk ⊢
      rw [hk, turn_at (by omega) (by omega)]
  · unfold qb
    cases q
    · simp only [if_false, Bool.false_eq_true, Bool.not_false, if_true] at hn hk2 ⊢
      rw [hk2, turn_at (by omega) (by omega)]
    · simp only [if_true, Bool.not_true, Bool.false_eq_true, if_false] at hn hk2 ⊢
      rw [hk2]
theorem prodr_eq (a b : TsT) (p q : Bool) (hA : wl a.2.2.2.1) (hB : wl b.2.2.2.1) (nA : a.2.2.2.1.length ≤ 1073741824) (nB : b.2.2.2.1.length ≤ 1073741824) : F_annealref13_product a b p q = F_kern_times a b p (!q) := by
  obtain ⟨a1, a2, f, A, ⟨⟩⟩ := a
  obtain ⟨b1, b2, g, B, ⟨⟩⟩ := b
  simp only at hA hB nA nB
  have ra := rightr_eq (a1, a2, f, A, ()) hA (by simp only; omega)
  have rb := rightr_eq (b1, b2, g, B, ()) hB (by simp only; omega)
  by_cases hr : (rightS (a1, a2, f, A, ()) && rightS (b1, b2, g, B, ())) = false
  · rw [times_bad (a1, a2, f, A, ()) (b1, b2, g, B, ()) p (!q) hA hB nA nB hr]
    unfold F_annealref13_product
    dsimp only
    simp only [List.take_length]
    rw [ra]
    simp only [Option.bind_some]
    cases h1 : rightS (a1, a2, f, A, ())
    · rfl
    · rw [h1] at hr
      rw [rb]
      simp only [Option.bind_some]
      cases h2 : rightS (b1, b2, g, B, ())
      · rfl
      · rw [h2] at hr; cases hr
  · have hr' : rightS (a1, a2, f, A, ()) = true ∧ rightS (b1, b2, g, B, ()) = true := by simpa using hr
    obtain ⟨R, C, rfl, rfl, hR, hC, lA, _, _⟩ := right_nat hr'.1
    obtain ⟨J, D, rfl, rfl, hJ, hD, lB, _, _⟩ := right_nat hr'.2
    rw [times_ok R C J D f g A B p (!q) hA hB hr'.1 hr'.2]
    obtain ⟨m, hm⟩ : ∃ m, m = if p then C else R := ⟨_, rfl⟩
    obtain ⟨k, hk⟩ : ∃ k, k = if p then R else C := ⟨_, rfl⟩
    obtain ⟨n, hn⟩ : ∃ n, n = if q then J else D := ⟨_, rfl⟩
    have hn' : n = if (!q) then D else J := by rw [hn]; cases q <;> rfl
    have hm4 : m ≤ 4096 := by rw [hm]; cases p <;> simp <;> omega
    have hn4 : n ≤ 4096 := by rw [hn]; cases q <;> simp <;> omega
    have hb := rc_bd hm4 hn4
    have e5 : (bif p then (C : Int) else (R : Int)) = (m : Int) := by rw [hm]; cases p <;> rfl
    have e4 : (bif p then (R : Int) else (C : Int)) = (k : Int) := by rw [hk]; cases p <;> rfl
    have e6 : (bif q then (J : Int) else (D : Int)) = (n : Int) := by rw [hn]; cases q <;> rfl
    obtain ⟨kk, hkk⟩ : ∃ kk, kk = if q then D else J := ⟨_, rfl⟩
    have e7 : (bif q then (D : Int) else (J : Int)) = (kk : Int) := by rw [hkk]; cases q <;> rfl
    have hkk' : kk = if (!q) then J else D := by rw [hkk]; cases q <;> rfl
    unfold F_annealref13_product
    dsimp only
    simp only [List.take_length, e4, e5, e6, e7]
    rw [ra, rb, hr'.1, hr'.2]
    simp only [Option.bind_some, Bool.not_true, cond_false]
    rw [bif_ne]
    rw [← hk, ← hkk', ← hm, ← hn']
    by_cases hc : k = kk
    · rw [if_pos (by omega), if_pos hc]
      have e8 : IntKind.wrap .i64 ((m : Int) * (n : Int)) = ((m * n : Nat) : Int) := by
        rw [show ((m : Int) * (n : Int)) = ((m * n : Nat) : Int) by simp, wi64 (by omega)]
      rw [e8, bif_dec, if_pos (by omega), Int.toNat_natCast]
      rw [prod0 p q R C J D m k n f g A B hR hC hJ hD lA lB hA hB hm hk hn (by rw [hc]; exact hkk)]
      simp only [Option.bind_some, List.drop_zero]
      rw [List.take_of_length_le (by simp), lists_eq _ _ p q R C J D m k n hm hk hn (by rw [hc]; exact hkk)]
    · rw [if_neg (by omega), if_neg hc]
theorem plainr_un (a b : TsT) : F_annealref13_Plain a b = F_annealref13_product a b false false := by
  unfold F_annealref13_Plain; dsimp only; simp only [List.take_length]
  rw [show (a.1, a.2.1, a.2.2.1, a.2.2.2.1, ()) = a from rfl, show (b.1, b.2.1, b.2.2.1, b.2.2.2.1, ()) = b from rfl]
  cases F_annealref13_product a b false false <;> rfl
theorem rowsr_un (a b : TsT) : F_annealref13_Rows a b = F_annealref13_product a b false true := by
  unfold F_annealref13_Rows; dsimp only; simp only [List.take_length]
  rw [show (a.1, a.2.1, a.2.2.1, a.2.2.2.1, ()) = a from rfl, show (b.1, b.2.1, b.2.2.1, b.2.2.2.1, ()) = b from rfl]
  cases F_annealref13_product a b false true <;> rfl
theorem colsr_un (a b : TsT) : F_annealref13_Cols a b = F_annealref13_product a b true false := by
  unfold F_annealref13_Cols; dsimp only; simp only [List.take_length]
  rw [show (a.1, a.2.1, a.2.2.1, a.2.2.2.1, ()) = a from rfl, show (b.1, b.2.1, b.2.2.1, b.2.2.2.1, ()) = b from rfl]
  cases F_annealref13_product a b true false <;> rfl
theorem times_some (a b : TsT) (p q : Bool) (hA : wl a.2.2.2.1) (hB : wl b.2.2.2.1) (nA : a.2.2.2.1.length ≤ 1073741824) (nB : b.2.2.2.1.length ≤ 1073741824) : ∃ (t : TsT) (e : Int), F_kern_times a b p q = some (t, e, ()) ∧ t.2.2.2.1.length < 4611686018427387904 := by
  obtain ⟨a1, a2, f, A, ⟨⟩⟩ := a
  obtain ⟨b1, b2, g, B, ⟨⟩⟩ := b
  simp only at hA hB nA nB
  by_cases hr : (rightS (a1, a2, f, A, ()) && rightS (b1, b2, g, B, ())) = false
  · exact ⟨_, _, times_bad (a1, a2, f, A, ()) (b1, b2, g, B, ()) p q hA hB nA nB hr, by simp⟩
  · have hr' : rightS (a1, a2, f, A, ()) = true ∧ rightS (b1, b2, g, B, ()) = true := by simpa using hr
    obtain ⟨R, C, rfl, rfl, hR, hC, lA, _, _⟩ := right_nat hr'.1
    obtain ⟨J, D, rfl, rfl, hJ, hD, lB, _, _⟩ := right_nat hr'.2
    rw [times_ok R C J D f g A B p q hA hB hr'.1 hr'.2]
    by_cases hc : (if p then R else C) = (if q then J else D)
    · rw [if_pos hc]
      refine ⟨_, _, rfl, ?_⟩
      simp only
      rw [prodL_len]
      have h1 : (if p then C else R) ≤ 4096 := by cases p <;> simp <;> omega
      have h2 : (if q then D else J) ≤ 4096 := by cases q <;> simp <;> omega
      have := rc_bd h1 h2
      omega
    · rw [if_neg hc]; exact ⟨_, _, rfl, by simp⟩
end Go.Proofs.YtkknnloamidaiaaGreat.VI

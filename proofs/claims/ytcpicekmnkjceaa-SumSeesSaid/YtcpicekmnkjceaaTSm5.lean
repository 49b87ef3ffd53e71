import Derived.Test.YtcpicekmnkjceaaTSm4
namespace Go.Proofs.Ytcpicekmnkjceaa.VI
set_option linter.unusedVariables false
set_option linter.unusedSimpArgs false
set_option maxRecDepth 100000
set_option linter.unusedSimpArgs false
set_option linter.unusedVariables false
def tyM : Nat := 131
theorem run115 : runk PR orn (fun _ _ => .un 33 [1, 2]) true f_sum32_one (f_sum32_one.body.getD .skip) [] [] (fun r h => some (r, h)) = some (.ref 0 1 0, [blkM tyM (matL 1)]) := by kernel_rfl
def sp115 (l : List V) (h : Heap) : Tr := match l, h with
  | [], [] => .ret (.ref 0 1 0) [blkM tyM (matL 1)]
  | _, _ => .no
theorem ok115 : OrcOk PR (ent i_sum32_one [] 1 sp115) := fn_ok (orn_ok _) mixed (L := fun _ _ => .un 33 [1, 2]) (kp := true) p_sum32_one (by kernel_rfl) (by kernel_rfl) fun l hc r h' hv ho hh => by
  unfold sp115 at hv
  split at hv
  · obtain ⟨rfl, rfl⟩ := Tr.ret_val hv
    exact ⟨loopsOk0 (by kernel_rfl), run115⟩
  · cases hv
def O117 : Orc := ent i_sum32_matrix_times [true] 0 sp117
abbrev Aw := (Nat × Nat × List Int) × List Int × Int
def S116 (a : Aw) : St := ⟨fr 19 [(0, .ref 0 1 0), (3, .ref 1 1 0), (6, .ref 0 1 0), (7, .i .i64 a.2.2)], [blkM a.1.1 a.1.2.2, blkM a.1.2.1 a.2.1]⟩
def E116 (b : (Nat × Nat × List Int) × List Int) : Ex × St := (.exit 0, ⟨fr 19 [(3, .ref 1 1 0)], [blkM b.1.1 b.1.2.2, blkM b.1.2.1 b.2]⟩)
def t116 {R : Type} (a : Aw) (kn : Aw → Option R) (ko : (Nat × Nat × List Int) × List Int → Option R) : Option R := bif decide (a.2.2 < 32) then
    bif decide (0 ≤ a.2.2 ∧ a.2.2 < 32) then
      bif decide (0 + a.2.2.toNat * 1 < a.1.2.2.length) then
        bif a.1.2.2.length.beq 32 then
          bif decide (0 ≤ a.2.2 ∧ a.2.2 < 32) then
            bif decide (0 + a.2.2.toNat * 1 < a.2.1.length) then
              kn (a.1, a.2.1.set (0 + a.2.2.toNat * 1) (mulN a.1.2.2 (a.1.2.2.getD (0 + a.2.2.toNat * 1) 0).toNat : Nat), IntKind.i64.wrap (a.2.2 + 1))
            else none
          else none
        else none
      else none
    else none
  else ko (a.1, a.2.1)
theorem st116 (a : Aw) (R : Type) (K : Ex → St → Option R) : rndk PR O117 L0 0 1 [0, 3, 6, 7] [3] (lpN f_sum32_matrix_twice 0) (S116 a) K = t116 a (fun v => K .normal (S116 v)) (fun b => K (E116 b).1 (E116 b).2) := by
  obtain ⟨⟨e, e2, xs⟩, ys, i⟩ := a
  kernel_rfl
def g116 (s : St) : LTr := match s.t.getD 0 .u, s.t.getD 3 .u, s.t.getD 6 .u, s.t.getD 7 .u, s.h with
  | .ref 0 1 0, .ref 1 1 0, .ref 0 1 0, .i .i64 0, [⟨1, e, .ints .u32 xs, true⟩, ⟨1, e2, .ints .u32 ys, true⟩] => .br (Nat.beq s.t.length 19 && (Nat.beq xs.length 32 && Nat.beq ys.length 32)) (.ret (.exit 0) ⟨fr 19 [(3, .ref 1 1 0)], [blkM e xs, blkM e2 (twL xs)]⟩) .no
  | _, _, _, _, _ => .no
theorem lp116 : LoopOk PR 1 (lpN f_sum32_matrix_twice 0) fun s => g116 (clean [0, 3, 6, 7] 1 s) := by
  refine loop_fin ok117 mixed (L := L0) (d := 0) (ks2 := [3]) (loopsOk0 (by kernel_rfl)) (E := E116) (fun b => by simp [E116]) st116
    (fun a => 0 ≤ a.2.2 ∧ a.2.2 ≤ 32 ∧ a.1.2.2.length = 32 ∧ a.2.1.length = 32 ∧ a.2.1.take a.2.2.toNat = (twL a.1.2.2).take a.2.2.toNat) (fun a => (32 - a.2.2).toNat) (fun a => (a.1, twL a.1.2.2)) ?_ ?_
  · rintro ⟨⟨e, e2, xs⟩, ys, i⟩ ⟨h1, h2, h3, h4, h5⟩
    simp only at h1 h2 h3 h4 h5
    by_cases hi : i < 32
    · have hx : i.toNat < xs.length := by omega
      refine .inl ⟨((e, e2, xs), ys.set i.toNat (mulN xs (xs.getD i.toNat 0).toNat : Nat), i + 1), fun R kn ko => ?_, ⟨by simp only; omega, by simp only; omega, h3, by simpa using h4, ?_⟩, by simp only; omega, rfl⟩
      · simp only [t116, h1, hi, and_self, decide_true, cond_true, show 0 + i.toNat * 1 = i.toNat by omega, hx, h3, h4, show i.toNat < 32 by omega]
        rw [w64_id (by omega)]; rfl
      · simp only
        rw [show (i + 1).toNat = i.toNat + 1 by omega, List.take_add_one, List.take_add_one, List.take_set_of_le (by omega), h5]
        congr 1
        rw [List.getElem?_set_self (by omega)]
        simp [twL, hx]
    · refine .inr fun R kn ko => ?_
      have : i = 32 := by omega
      subst this
      rw [List.take_of_length_le (by simp; omega), List.take_of_length_le (by simp [twL]; omega)] at h5
      simp [t116, h5]
  · intro s e s' h ho hh
    unfold g116 at h
    split at h
    · rename_i e0 xs e2 ys h1 h2 h3 h4 h5
      obtain ⟨hl, hr⟩ := LTr.br_val h
      simp only [Bool.and_eq_true] at hl
      obtain ⟨hl, hn, hn2⟩ := hl
      exact ⟨((e0, e2, xs), ys, 0), wk_st hl ⟨h1, h2, h3, h4, trivial⟩ h5, ⟨Int.le_refl 0, show (0 : Int) ≤ 32 by decide, Nat.eq_of_beq_eq_true hn, Nat.eq_of_beq_eq_true hn2, rfl⟩, LTr.ret_val hr⟩
    · cases h
def sp116 (l : List V) (h : Heap) : Tr := match l, h with
  | [.ref 0 1 0], [⟨1, e, .ints .u32 xs, true⟩] => .br (Nat.beq xs.length 32) (.ret (.ref 1 1 0) [blkM e xs, blkM tyM (twL xs)]) .no
  | _, _ => .no
theorem run116 (e : Nat) (xs : List Int) : runk PR O117 (byL [0, 3, 6, 7] 1 g116) true f_sum32_matrix_twice (f_sum32_matrix_twice.body.getD .skip) [.ref 0 1 0] [blkM e xs] (fun r h => some (r, h)) = (bif Nat.beq xs.length 32 && true then some (.ref 1 1 0, [blkM e xs, blkM tyM (twL xs)]) else none) := by kernel_rfl
theorem ok116 : OrcOk PR (ent i_sum32_matrix_twice [true] 1 sp116) := fn_ok ok117 mixed (L := byL [0, 3, 6, 7] 1 g116) (kp := true) p_sum32_matrix_twice (by kernel_rfl) (by kernel_rfl) fun l hc r h' hv ho hh => by
  unfold sp116 at hv
  split at hv
  · rename_i e xs
    obtain ⟨hb, hv⟩ := Tr.br_val hv
    obtain ⟨rfl, rfl⟩ := Tr.ret_val hv
    exact ⟨loopsOk1 (a := lpN f_sum32_matrix_twice 0) (f := fun s => g116 (clean [0, 3, 6, 7] 1 s)) (by kernel_rfl) lp116, (run116 _ _).trans (by rw [hb]; rfl)⟩
  · cases hv
end Go.Proofs.Ytcpicekmnkjceaa.VI

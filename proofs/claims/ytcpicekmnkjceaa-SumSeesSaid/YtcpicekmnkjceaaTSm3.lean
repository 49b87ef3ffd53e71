import Derived.Test.YtcpicekmnkjceaaTSm2
namespace Go.Proofs.Ytcpicekmnkjceaa.VI
set_option linter.unusedVariables false
set_option linter.unusedSimpArgs false
set_option maxRecDepth 100000
set_option linter.unusedSimpArgs false
set_option linter.unusedVariables false
theorem run34 (n : Nat) (xs : List Int) (v : Int) : runk PR orn k34 false f_sum32_More (f_sum32_More.body.getD .skip) [.i .u32 v, .si n .u8 xs] [] (fun r h => some (r, h)) = bif decide ((n : Int) = n) && Nat.ble n xs.length then some (.i .u32 (bits .xor .u32 4294967295 (crc (bits .xor .u32 4294967295 v).toNat (xs.take n))), []) else none := by kernel_rfl
theorem ok34 : OrcOk PR (ent i_sum32_More [] 0 sp34) := fn_ok (orn_ok _) mixed (L := k34) (kp := false) p_sum32_More (by kernel_rfl) (by kernel_rfl) fun l hc r h' hv ho hh => by
  unfold sp34 at hv
  split at hv
  · rename_i v n xs
    obtain ⟨hb, hv⟩ := Tr.br_val hv
    obtain ⟨rfl, rfl⟩ := Tr.ret_val hv
    refine ⟨loopsOk1 (a := lpN f_sum32_More 0) (f := fun s => g34a (clean [0, 9, 10, 11] 0 s)) (by kernel_rfl) lp34a, (run34 n xs v).trans ?_⟩
    obtain ⟨a, rfl, ha⟩ := u32_nat ho.1
    have hl := crc_lt (xs.take n) (show 4294967295 - a < 4294967296 by omega) fun c hc => ho.2.1.2 c (List.mem_of_mem_take hc)
    simp only [decide_true, hb, Bool.and_self, cond_true, not32 ha, Int.toNat_natCast, not32 hl]
  · cases hv
def sp22 (l : List V) (h : Heap) : Tr := match l, h with
  | [.si n .u8 xs], [] => .br (Nat.ble n xs.length) (.ret (.i .u32 (4294967295 - crc 4294967295 (xs.take n) : Nat)) []) .no
  | _, _ => .no
theorem run22 (n : Nat) (xs : List Int) : runk PR (ent i_sum32_More [] 0 sp34) L0 false f_sum32_Of (f_sum32_Of.body.getD .skip) [.si n .u8 xs] [] (fun r h => some (r, h)) = (sp22 [.si n .u8 xs] []).val := by kernel_rfl
theorem ok22 : OrcOk PR (ent i_sum32_Of [] 0 sp22) := fn_ok ok34 mixed (L := L0) (kp := false) p_sum32_Of (by kernel_rfl) (by kernel_rfl) fun l hc r h' hv ho hh => by
  have hv2 := hv
  unfold sp22 at hv
  split at hv
  · exact ⟨loopsOk0 (by kernel_rfl), (run22 _ _).trans hv2⟩
  · cases hv
end Go.Proofs.Ytcpicekmnkjceaa.VI

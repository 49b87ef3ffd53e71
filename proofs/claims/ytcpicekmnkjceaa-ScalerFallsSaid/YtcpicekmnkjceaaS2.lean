import Derived.Test.YtcpicekmnkjceaaS1
namespace Go.Proofs.Ytcpicekmnkjceaa.VI
set_option linter.unusedVariables false
set_option linter.unusedSimpArgs false
set_option maxRecDepth 100000
set_option linter.unusedSimpArgs false
theorem wrap_i64 (n : Int) : IntKind.i64.wrap n = (n + 9223372036854775808) % 18446744073709551616 - 9223372036854775808 := by
  simp only [IntKind.wrap, IntKind.bits, IntKind.signed]
  simp
  omega
/-- The scale behind a good step, behind a skip. -/
def goodV (mn mx gr iv a b c d : Int) : V := scl (bif rgt mn mx iv a b c d then (bif IntKind.i64.wrap (b + 1) == iv then (if mx < IntKind.i64.wrap (a + gr) then mx else IntKind.i64.wrap (a + gr)) else a) else a)
  (bif rgt mn mx iv a b c d then (bif IntKind.i64.wrap (b + 1) == iv then 0 else IntKind.i64.wrap (b + 1)) else b) c (bif rgt mn mx iv a b c d then 0 else d)
def skipV (mn mx bk iv a b c d : Int) : V := scl (bif rgt mn mx iv a b c d then (if mn > IntKind.i64.wrap (a - bk) then mn else IntKind.i64.wrap (a - bk)) else a) (bif rgt mn mx iv a b c d then 0 else b)
  (bif rgt mn mx iv a b c d then (if 4611686018427387903 < c then 4611686018427387904 else c + 1) else c) (bif rgt mn mx iv a b c d then (if 4611686018427387903 < d then 4611686018427387904 else d + 1) else d)
def sp27 : List V → Tr
  | [.agg [.si _ .i64 _, .i .i64 _, .i .i64 _, .i .i64 _, .i .i64 _, .i .i64 _, .i .u32 _, .i .u32 _, .i .u32 _, .i .u32 _, .i .u32 _, .i .u32 _, .i .i64 _, .i .i64 _, .i .i64 _, .i .i64 _, .i .u64 _, .i .u32 _, .b _, .i .i64 _, .i .i64 Min, .i .i64 Max, .i .i64 _, .i .i64 _, .i .i64 Intv, .i .i64 _], .agg [.i .i64 a, .i .i64 b, .i .i64 c, .i .i64 d]] => .ret (.b (rgt Min Max Intv a b c d))
  | _ => .no
theorem run27 (n0 : Nat) (xs : List Int) (F Act Loss Opt Sched Rate Mu Beta Eps Decay Clip Warm Total Batch Accum Seed Drop : Int) (Ch : Bool) (Log Min Max Back Grow Intv Save : Int) (a b c d : Int) : runk Try.prog (orn) M0 10 Try.f27 (Try.f27.body.getD .skip) [cfg n0 xs F Act Loss Opt Sched Rate Mu Beta Eps Decay Clip Warm Total Batch Accum Seed Drop Ch Log Min Max Back Grow Intv Save, scl a b c d] some = bif decide (a ≥ Min) then
    bif decide (a ≤ Max) then
      bif decide (b ≥ 0) then
        bif decide (b < Intv) then
          bif decide (c ≥ 0) then
            bif decide (c ≤ 4611686018427387904) then
              bif decide (d ≥ 0) then some (V.b (decide (d ≤ c))) else some (V.b false)
            else some (V.b false)
          else some (V.b false)
        else some (V.b false)
      else some (V.b false)
    else some (V.b false)
  else some (V.b false) := by kernel_rfl
theorem ok27 : OrcOk Try.prog (ent 27 sp27) := ent_ok fun l r h => by
  unfold sp27 at h
  split at h
  · rename_i n0 xs F Act Loss Opt Sched Rate Mu Beta Eps Decay Clip Warm Total Batch Accum Seed Drop Ch Log Min Max Back Grow Intv Save a b c d
    refine run_fn (orn_ok _) mixed Try.func27 (by kernel_rfl) (by kernel_rfl) ((run27 n0 xs F Act Loss Opt Sched Rate Mu Beta Eps Decay Clip Warm Total Batch Accum Seed Drop Ch Log Min Max Back Grow Intv Save a b c d).trans ?_)
    rw [← Option.some.inj h]
    unfold rgt
    cases decide (a ≥ Min) <;> cases decide (a ≤ Max) <;> cases decide (b ≥ 0) <;> cases decide (b < Intv) <;> cases decide (c ≥ 0) <;> cases decide (c ≤ 4611686018427387904) <;> cases decide (d ≥ 0) <;> rfl
  · cases h
def sp28 : List V → Tr
  | [.agg [.si _ .i64 _, .i .i64 _, .i .i64 _, .i .i64 _, .i .i64 _, .i .i64 _, .i .u32 _, .i .u32 _, .i .u32 _, .i .u32 _, .i .u32 _, .i .u32 _, .i .i64 _, .i .i64 _, .i .i64 _, .i .i64 _, .i .u64 _, .i .u32 _, .b _, .i .i64 _, .i .i64 Min, .i .i64 Max, .i .i64 _, .i .i64 Grow, .i .i64 Intv, .i .i64 _], .agg [.i .i64 a, .i .i64 b, .i .i64 c, .i .i64 d]] => .ret (goodV Min Max Grow Intv a b c d)
  | _ => .no
theorem run28 (n0 : Nat) (xs : List Int) (F Act Loss Opt Sched Rate Mu Beta Eps Decay Clip Warm Total Batch Accum Seed Drop : Int) (Ch : Bool) (Log Min Max Back Grow Intv Save : Int) (a b c d : Int) : runk Try.prog (ent 26 sp26) M0 10 Try.f28 (Try.f28.body.getD .skip) [cfg n0 xs F Act Loss Opt Sched Rate Mu Beta Eps Decay Clip Warm Total Batch Accum Seed Drop Ch Log Min Max Back Grow Intv Save, scl a b c d] some = bif !(rgt Min Max Intv a b c d) then some (scl a b c d)
  else
    bif IntKind.i64.wrap (b + 1) == Intv then some (scl (if Max < IntKind.i64.wrap (a + Grow) then Max else IntKind.i64.wrap (a + Grow)) 0 c 0)
    else some (scl a (IntKind.i64.wrap (b + 1)) c 0) := by kernel_rfl
theorem ok28 : OrcOk Try.prog (ent 28 sp28) := ent_ok fun l r h => by
  unfold sp28 at h
  split at h
  · rename_i n0 xs F Act Loss Opt Sched Rate Mu Beta Eps Decay Clip Warm Total Batch Accum Seed Drop Ch Log Min Max Back Grow Intv Save a b c d
    refine run_fn ok26 mixed Try.func28 (by kernel_rfl) (by kernel_rfl) ((run28 n0 xs F Act Loss Opt Sched Rate Mu Beta Eps Decay Clip Warm Total Batch Accum Seed Drop Ch Log Min Max Back Grow Intv Save a b c d).trans ?_)
    rw [← Option.some.inj h]
    unfold goodV
    cases rgt Min Max Intv a b c d <;> cases (IntKind.i64.wrap (b + 1) == Intv) <;> rfl
  · cases h
def sp29 : List V → Tr
  | [.agg [.si _ .i64 _, .i .i64 _, .i .i64 _, .i .i64 _, .i .i64 _, .i .i64 _, .i .u32 _, .i .u32 _, .i .u32 _, .i .u32 _, .i .u32 _, .i .u32 _, .i .i64 _, .i .i64 _, .i .i64 _, .i .i64 _, .i .u64 _, .i .u32 _, .b _, .i .i64 _, .i .i64 Min, .i .i64 Max, .i .i64 _, .i .i64 Grow, .i .i64 Intv, .i .i64 _], .agg [.i .i64 a, .i .i64 b, .i .i64 c, .i .i64 d]] => .ret (goodV Min Max Grow Intv a b c d)
  | _ => .no
theorem run29 (n0 : Nat) (xs : List Int) (F Act Loss Opt Sched Rate Mu Beta Eps Decay Clip Warm Total Batch Accum Seed Drop : Int) (Ch : Bool) (Log Min Max Back Grow Intv Save : Int) (a b c d : Int) : runk Try.prog (ent 27 sp27) M0 10 Try.f29 (Try.f29.body.getD .skip) [cfg n0 xs F Act Loss Opt Sched Rate Mu Beta Eps Decay Clip Warm Total Batch Accum Seed Drop Ch Log Min Max Back Grow Intv Save, scl a b c d] some = bif !(rgt Min Max Intv a b c d) then some (scl a b c d)
  else
    bif IntKind.i64.wrap (b + 1) == Intv then some (scl (if Max < IntKind.i64.wrap (a + Grow) then Max else IntKind.i64.wrap (a + Grow)) 0 c 0)
    else some (scl a (IntKind.i64.wrap (b + 1)) c 0) := by kernel_rfl
theorem ok29 : OrcOk Try.prog (ent 29 sp29) := ent_ok fun l r h => by
  unfold sp29 at h
  split at h
  · rename_i n0 xs F Act Loss Opt Sched Rate Mu Beta Eps Decay Clip Warm Total Batch Accum Seed Drop Ch Log Min Max Back Grow Intv Save a b c d
    refine run_fn ok27 mixed Try.func29 (by kernel_rfl) (by kernel_rfl) ((run29 n0 xs F Act Loss Opt Sched Rate Mu Beta Eps Decay Clip Warm Total Batch Accum Seed Drop Ch Log Min Max Back Grow Intv Save a b c d).trans ?_)
    rw [← Option.some.inj h]
    unfold goodV
    cases rgt Min Max Intv a b c d <;> cases (IntKind.i64.wrap (b + 1) == Intv) <;> rfl
  · cases h
def sp30 : List V → Tr
  | [.agg [.si _ .i64 _, .i .i64 _, .i .i64 _, .i .i64 _, .i .i64 _, .i .i64 _, .i .u32 _, .i .u32 _, .i .u32 _, .i .u32 _, .i .u32 _, .i .u32 _, .i .i64 _, .i .i64 _, .i .i64 _, .i .i64 _, .i .u64 _, .i .u32 _, .b _, .i .i64 _, .i .i64 Min, .i .i64 Max, .i .i64 Back, .i .i64 _, .i .i64 Intv, .i .i64 _], .agg [.i .i64 a, .i .i64 b, .i .i64 c, .i .i64 d]] => .ret (skipV Min Max Back Intv a b c d)
  | _ => .no
theorem run30 (n0 : Nat) (xs : List Int) (F Act Loss Opt Sched Rate Mu Beta Eps Decay Clip Warm Total Batch Accum Seed Drop : Int) (Ch : Bool) (Log Min Max Back Grow Intv Save : Int) (a b c d : Int) : runk Try.prog (ent 26 sp26) M0 10 Try.f30 (Try.f30.body.getD .skip) [cfg n0 xs F Act Loss Opt Sched Rate Mu Beta Eps Decay Clip Warm Total Batch Accum Seed Drop Ch Log Min Max Back Grow Intv Save, scl a b c d] some = bif !(rgt Min Max Intv a b c d) then some (scl a b c d)
  else
    some (scl (if Min > IntKind.i64.wrap (a - Back) then Min else IntKind.i64.wrap (a - Back)) 0 (if 4611686018427387904 < IntKind.i64.wrap (c + 1) then 4611686018427387904 else IntKind.i64.wrap (c + 1)) (if 4611686018427387904 < IntKind.i64.wrap (d + 1) then 4611686018427387904 else IntKind.i64.wrap (d + 1))) := by kernel_rfl
theorem ok30 : OrcOk Try.prog (ent 30 sp30) := ent_ok fun l r h => by
  unfold sp30 at h
  split at h
  · rename_i n0 xs F Act Loss Opt Sched Rate Mu Beta Eps Decay Clip Warm Total Batch Accum Seed Drop Ch Log Min Max Back Grow Intv Save a b c d
    refine run_fn ok26 mixed Try.func30 (by kernel_rfl) (by kernel_rfl) ((run30 n0 xs F Act Loss Opt Sched Rate Mu Beta Eps Decay Clip Warm Total Batch Accum Seed Drop Ch Log Min Max Back Grow Intv Save a b c d).trans ?_)
    rw [← Option.some.inj h]
    unfold skipV
    cases hr : rgt Min Max Intv a b c d
    · rfl
    · simp only [rgt, Bool.and_eq_true, decide_eq_true_eq] at hr
      simp only [Bool.not_true, cond_false, cond_true, Option.some.injEq]
      congr 1
      · simp only [wrap_i64]; (repeat' split) <;> omega
      · simp only [wrap_i64]; (repeat' split) <;> omega
  · cases h
def sp31 : List V → Tr
  | [.agg [.si _ .i64 _, .i .i64 _, .i .i64 _, .i .i64 _, .i .i64 _, .i .i64 _, .i .u32 _, .i .u32 _, .i .u32 _, .i .u32 _, .i .u32 _, .i .u32 _, .i .i64 _, .i .i64 _, .i .i64 _, .i .i64 _, .i .u64 _, .i .u32 _, .b _, .i .i64 _, .i .i64 Min, .i .i64 Max, .i .i64 Back, .i .i64 _, .i .i64 Intv, .i .i64 _], .agg [.i .i64 a, .i .i64 b, .i .i64 c, .i .i64 d]] => .ret (skipV Min Max Back Intv a b c d)
  | _ => .no
theorem run31 (n0 : Nat) (xs : List Int) (F Act Loss Opt Sched Rate Mu Beta Eps Decay Clip Warm Total Batch Accum Seed Drop : Int) (Ch : Bool) (Log Min Max Back Grow Intv Save : Int) (a b c d : Int) : runk Try.prog (ent 27 sp27) M0 10 Try.f31 (Try.f31.body.getD .skip) [cfg n0 xs F Act Loss Opt Sched Rate Mu Beta Eps Decay Clip Warm Total Batch Accum Seed Drop Ch Log Min Max Back Grow Intv Save, scl a b c d] some = bif !(rgt Min Max Intv a b c d) then some (scl a b c d)
  else
    some (scl (if Min > IntKind.i64.wrap (a - Back) then Min else IntKind.i64.wrap (a - Back)) 0 (IntKind.i64.wrap ((if 4611686018427387903 < c then 4611686018427387903 else c) + 1)) (IntKind.i64.wrap ((if 4611686018427387903 < d then 4611686018427387903 else d) + 1))) := by kernel_rfl
theorem ok31 : OrcOk Try.prog (ent 31 sp31) := ent_ok fun l r h => by
  unfold sp31 at h
  split at h
  · rename_i n0 xs F Act Loss Opt Sched Rate Mu Beta Eps Decay Clip Warm Total Batch Accum Seed Drop Ch Log Min Max Back Grow Intv Save a b c d
    refine run_fn ok27 mixed Try.func31 (by kernel_rfl) (by kernel_rfl) ((run31 n0 xs F Act Loss Opt Sched Rate Mu Beta Eps Decay Clip Warm Total Batch Accum Seed Drop Ch Log Min Max Back Grow Intv Save a b c d).trans ?_)
    rw [← Option.some.inj h]
    unfold skipV
    cases hr : rgt Min Max Intv a b c d
    · rfl
    · simp only [rgt, Bool.and_eq_true, decide_eq_true_eq] at hr
      simp only [Bool.not_true, cond_false, cond_true, Option.some.injEq]
      congr 1
      · simp only [wrap_i64]; (repeat' split) <;> omega
      · simp only [wrap_i64]; (repeat' split) <;> omega
  · cases h
end Go.Proofs.Ytcpicekmnkjceaa.VI

import Derived.Test.YtcpicekmnkjceaaS4
namespace Go.Proofs.Ytcpicekmnkjceaa.VI
set_option linter.unusedVariables false
set_option linter.unusedSimpArgs false
set_option maxRecDepth 100000
def sp25 : List V → Tr
  | [.agg [.si _ .i64 _, .i .i64 _, .i .i64 _, .i .i64 _, .i .i64 _, .i .i64 _, .i .u32 _, .i .u32 _, .i .u32 _, .i .u32 _, .i .u32 _, .i .u32 _, .i .i64 _, .i .i64 _, .i .i64 _, .i .i64 _, .i .u64 _, .i .u32 _, .b _, .i .i64 Log, .i .i64 _, .i .i64 _, .i .i64 _, .i .i64 _, .i .i64 _, .i .i64 _]] => .ret (scl Log 0 0 0)
  | _ => .no
theorem run25 (n0 : Nat) (xs : List Int) (F Act Loss Opt Sched Rate Mu Beta Eps Decay Clip Warm Total Batch Accum Seed Drop : Int) (Ch : Bool) (Log Min Max Back Grow Intv Save : Int) : runk Try.prog orn M0 10 Try.f25 (Try.f25.body.getD .skip) [cfg n0 xs F Act Loss Opt Sched Rate Mu Beta Eps Decay Clip Warm Total Batch Accum Seed Drop Ch Log Min Max Back Grow Intv Save] some = some (scl Log 0 0 0) := by kernel_rfl
theorem ok25 : OrcOk Try.prog (ent 25 sp25) := ent_ok fun l r h => by
  unfold sp25 at h
  split at h
  · rename_i n0 xs F Act Loss Opt Sched Rate Mu Beta Eps Decay Clip Warm Total Batch Accum Seed Drop Ch Log Min Max Back Grow Intv Save
    refine run_fn (orn_ok _) mixed Try.func25 (by kernel_rfl) (by kernel_rfl) ((run25 n0 xs F Act Loss Opt Sched Rate Mu Beta Eps Decay Clip Warm Total Batch Accum Seed Drop Ch Log Min Max Back Grow Intv Save).trans ?_)
    rw [← Option.some.inj h]
  · cases h
def orcS : Orc := ors (ent 24 sp24) (ors (ent 25 sp25) (ors (ent 26 sp26) (ors (ent 27 sp27) (ors (ent 28 sp28) (ors (ent 29 sp29) (ors (ent 30 sp30) (ent 31 sp31)))))))
theorem orcS_ok : OrcOk Try.prog orcS := ors_ok ok24 (ors_ok ok25 (ors_ok ok26 (ors_ok ok27 (ors_ok ok28 (ors_ok ok29 (ors_ok ok30 ok31))))))
theorem run23 : runk Try.prog orcS M0 10 Try.f23 (Try.f23.body.getD .skip) [] some = some (.b true) := by kernel_rfl
def sp23 : List V → Tr
  | [] => .ret (.b true)
  | _ => .no
theorem ok23 : OrcOk Try.prog (ent 23 sp23) := ent_ok fun l r h => by
  unfold sp23 at h
  split at h
  · refine run_fn orcS_ok mixed Try.func23 (by kernel_rfl) (by kernel_rfl) (run23.trans ?_)
    rw [← Option.some.inj h]
  · cases h
def orcT : Orc := ors (ent 23 sp23) orcS
theorem orcT_ok : OrcOk Try.prog orcT := ors_ok ok23 orcS_ok
end Go.Proofs.Ytcpicekmnkjceaa.VI

import Derived.Test.YtcpicekmnkjceaaS0
namespace Go.Proofs.Ytcpicekmnkjceaa.VI
set_option linter.unusedVariables false
set_option linter.unusedSimpArgs false
def cfg (n0 : Nat) (xs : List Int) (F Act Loss Opt Sched Rate Mu Beta Eps Decay Clip Warm Total Batch Accum Seed Drop : Int) (Ch : Bool) (Log Min Max Back Grow Intv Save : Int) : V :=
  .agg [.si n0 .i64 xs, .i .i64 F, .i .i64 Act, .i .i64 Loss, .i .i64 Opt, .i .i64 Sched, .i .u32 Rate, .i .u32 Mu, .i .u32 Beta, .i .u32 Eps, .i .u32 Decay, .i .u32 Clip, .i .i64 Warm, .i .i64 Total, .i .i64 Batch, .i .i64 Accum, .i .u64 Seed, .i .u32 Drop, .b Ch, .i .i64 Log, .i .i64 Min, .i .i64 Max, .i .i64 Back, .i .i64 Grow, .i .i64 Intv, .i .i64 Save]
def scl (a b c d : Int) : V := .agg [.i .i64 a, .i .i64 b, .i .i64 c, .i .i64 d]
def cnt (n : Int) : Bool := decide (n ≥ 0) && decide (n ≤ 4611686018427387904)
def sp80 : List V → Tr
  | [.i .i64 n] => .ret (.b (cnt n))
  | _ => .no
set_option maxRecDepth 100000
theorem ok80 : OrcOk Try.prog (ent 80 sp80) := ent_ok fun l r h => by
  unfold sp80 at h
  split at h
  · rename_i n
    have e : runk Try.prog orn M0 10 Try.f80 (Try.f80.body.getD .skip) [.i .i64 n] some = bif decide (n ≥ 0) then some (.b (decide (n ≤ 4611686018427387904))) else some (.b false) := by kernel_rfl
    refine run_fn (orn_ok _) mixed Try.func80 (by kernel_rfl) (by kernel_rfl) (e.trans ?_)
    rw [← Option.some.inj h]
    unfold cnt
    cases decide (n ≥ 0) <;> rfl
  · cases h
/-- May a scale be? -/
def rgt (mn mx iv a b c d : Int) : Bool := decide (a ≥ mn) && decide (a ≤ mx) && decide (b ≥ 0) && decide (b < iv) && decide (c ≥ 0) && decide (c ≤ 4611686018427387904) && decide (d ≥ 0) && decide (d ≤ c)
def sp26 : List V → Tr
  | [.agg [.si _ .i64 _, .i .i64 _, .i .i64 _, .i .i64 _, .i .i64 _, .i .i64 _, .i .u32 _, .i .u32 _, .i .u32 _, .i .u32 _, .i .u32 _, .i .u32 _, .i .i64 _, .i .i64 _, .i .i64 _, .i .i64 _, .i .u64 _, .i .u32 _, .b _, .i .i64 _, .i .i64 mn, .i .i64 mx, .i .i64 _, .i .i64 _, .i .i64 iv, .i .i64 _], .agg [.i .i64 a, .i .i64 b, .i .i64 c, .i .i64 d]] => .ret (.b (rgt mn mx iv a b c d))
  | _ => .no
theorem run26 (n0 : Nat) (xs : List Int) (F Act Loss Opt Sched Rate Mu Beta Eps Decay Clip Warm Total Batch Accum Seed Drop : Int) (Ch : Bool) (Log Min Max Back Grow Intv Save a b c d : Int) :
    runk Try.prog (ent 80 sp80) M0 10 Try.f26 (Try.f26.body.getD .skip) [cfg n0 xs F Act Loss Opt Sched Rate Mu Beta Eps Decay Clip Warm Total Batch Accum Seed Drop Ch Log Min Max Back Grow Intv Save, scl a b c d] some =
    bif decide (a ≥ Min) then
    bif decide (a ≤ Max) then
      bif decide (b ≥ 0) then
        bif decide (b < Intv) then
          bif cnt c then
            bif cnt d then some (V.b (decide (d ≤ c)))
            else some (V.b false)
          else some (V.b false)
        else some (V.b false)
      else some (V.b false)
    else some (V.b false)
  else some (V.b false) := by kernel_rfl
theorem ok26 : OrcOk Try.prog (ent 26 sp26) := ent_ok fun l r h => by
  unfold sp26 at h
  split at h
  · rename_i n0 xs F Act Loss Opt Sched Rate Mu Beta Eps Decay Clip Warm Total Batch Accum Seed Drop Ch Log Min Max Back Grow Intv Save a b c d
    refine run_fn ok80 mixed Try.func26 (by kernel_rfl) (by kernel_rfl) ((run26 n0 xs F Act Loss Opt Sched Rate Mu Beta Eps Decay Clip Warm Total Batch Accum Seed Drop Ch Log Min Max Back Grow Intv Save a b c d).trans ?_)
    rw [← Option.some.inj h]
    unfold rgt cnt
    by_cases h1 : a ≥ Min <;> by_cases h2 : a ≤ Max <;> by_cases h3 : b ≥ 0 <;> by_cases h4 : b < Intv <;> by_cases h5 : c ≥ 0 <;> by_cases h6 : c ≤ 4611686018427387904 <;> by_cases h7 : d ≥ 0 <;> by_cases h8 : d ≤ c <;> by_cases h9 : d ≤ 4611686018427387904 <;> first | omega | simp [*]
  · cases h
end Go.Proofs.Ytcpicekmnkjceaa.VI

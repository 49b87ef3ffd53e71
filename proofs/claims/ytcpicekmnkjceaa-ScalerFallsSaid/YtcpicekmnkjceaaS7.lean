import Derived.Test.YtcpicekmnkjceaaS6
import Derived.Test.YtcpicekmnkjceaaRows
import Derived.WalkKit
import Derived.ProofKit
import Derived.OpenShut
import Derived.ShutString
import Derived.ChangeOld
import Derived.Below
import Derived.SizedLaws
import Derived.WideKeyArgs
namespace Go.Proofs.Ytcpicekmnkjceaa.VI
set_option linter.unusedVariables false
set_option linter.unusedSimpArgs false
open Go.ChangeShapes Go.WideShapes Go.RowKit Ytcpicekmnkjceaa
set_option maxRecDepth 100000
set_option linter.unusedVariables false
theorem eqS_scl (a b c d : Int) : eqS (scl a b c d) (scl a b c d) = true := by simp [eqS, scl]
theorem rnd_eq (a b c d y1 y2 y3 y4 : Int) (K : Option V) : rnd a b c d y1 y2 y3 y4 K = K := by
  unfold rnd goodV skipV
  rw [eqS_scl, eqS_scl]
  simp
theorem conf_facts {a b c d : Int} (ha : 0 ≤ a ∧ a < 256) (hb : 0 ≤ b ∧ b < 256) (hc : 0 ≤ c ∧ c < 256) (hd : 0 ≤ d ∧ d < 256) :
    cMin b = b % 3 ∧ cMax a b = b % 3 + a % 25 ∧ cLog a b c = b % 3 + c % (a % 25 + 1) ∧ cBack b = b % 3 + 1 ∧ cGrow c = c % 2 + 1 ∧ cInt d = d % 3 + 1 := by
  have e1 : (w64 b).tmod 3 = b % 3 := by rw [w64_id hb.1 (by omega), tm hb.1]
  have e2 : (w64 a).tmod 25 = a % 25 := by rw [w64_id ha.1 (by omega), tm ha.1]
  have e3 : (w64 c).tmod 2 = c % 2 := by rw [w64_id hc.1 (by omega), tm hc.1]
  have e4 : (w64 d).tmod 3 = d % 3 := by rw [w64_id hd.1 (by omega), tm hd.1]
  have e5 : w64 (w64 (w64 (b % 3 + a % 25) - b % 3) + 1) = a % 25 + 1 := by
    rw [w64_id (n := b % 3 + a % 25) (by omega) (by omega), w64_id (n := b % 3 + a % 25 - b % 3) (by omega) (by omega), w64_id (by omega) (by omega)]; omega
  have e6 : 0 ≤ c % (a % 25 + 1) ∧ c % (a % 25 + 1) < a % 25 + 1 := ⟨Int.emod_nonneg _ (by omega), Int.emod_lt_of_pos _ (by omega)⟩
  refine ⟨e1, ?_, ?_, ?_, ?_, ?_⟩
  · unfold cMax; rw [e1, e2, w64_id (by omega) (by omega)]
  · unfold cLog; rw [e1, e2, e5, w64_id hc.1 (by omega), tm hc.1, w64_id (by omega) (by omega)]
  · unfold cBack; rw [e1, w64_id (by omega) (by omega)]
  · unfold cGrow; rw [e3, w64_id (by omega) (by omega)]
  · unfold cInt; rw [e4, w64_id (by omega) (by omega)]
theorem call4 {a b c d : Int} (ha : 0 ≤ a ∧ a < 256) (hb : 0 ≤ b ∧ b < 256) (hc : 0 ≤ c ∧ c < 256) (hd : 0 ≤ d ∧ d < 256) (s1 s2 s3 s4 log good skips row : Int) :
    CallOk Try.prog 4 [.i .u8 a, .i .u8 b, .i .u8 c, .i .u8 d, scl s1 s2 s3 s4, .i .i64 log, .i .i64 good, .i .i64 skips, .i .i64 row] fun r => r = .b true := by
  refine run_fn orcT_ok mixed Try.func4 (by kernel_rfl) (by kernel_rfl) ((run4 a b c d s1 s2 s3 s4 log good skips row).trans ?_)
  rw [show pre24 a b c d = true from decide_eq_true ⟨ha.1, ha.2, hb.1, hb.2, hc.1, hc.2, hd.1, hd.2⟩]
  rw [cond_true, rnd_eq, rnd_eq, rnd_eq, rnd_eq, eqS_scl, cond_true]
  obtain ⟨f1, f2, f3, f4, f5, f6⟩ := conf_facts ha hb hc hd
  rw [f1, f2, f3, f6]
  have e6 : 0 ≤ c % (a % 25 + 1) ∧ c % (a % 25 + 1) < a % 25 + 1 := ⟨Int.emod_nonneg _ (by omega), Int.emod_lt_of_pos _ (by omega)⟩
  congr 2
  simp only [rgt, Bool.and_eq_true, decide_eq_true_eq]
  omega
end Go.Proofs.Ytcpicekmnkjceaa.VI

import Derived.Test.YtcpicekmnkjceaaS3
namespace Go.Proofs.Ytcpicekmnkjceaa.VI
set_option linter.unusedVariables false
set_option linter.unusedSimpArgs false
set_option maxRecDepth 100000
theorem wrap_u8 (n : Int) : w8 n = n % 256 := by
  simp only [w8, IntKind.wrap, IntKind.bits, IntKind.signed]
  simp
theorem tm {x : Int} (h : 0 ≤ x) (n : Int) : x.tmod n = x % n := Int.tmod_eq_emod_of_nonneg h
theorem td {x : Int} (h : 0 ≤ x) (n : Int) : x.tdiv n = x / n := Int.tdiv_eq_ediv_of_nonneg h
theorem ck_ok {i : Int} {n : Nat} (h0 : 0 ≤ i) (h1 : i < n) (X : Option V) : ck i n X = X := by
  unfold ck
  rw [show decide (0 ≤ i ∧ i < (n : Int)) = true from decide_eq_true ⟨h0, h1⟩, show decide (0 + i.toNat * 1 < n) = true from decide_eq_true (by omega)]
  rfl
def wl (a : Int) : List Int := if a % 6 = 0 then [2, 3] else if a % 6 = 1 then [3, 2, 2] else if a % 6 = 2 then [2, 4, 3] else if a % 6 = 3 then [1, 2, 2, 2] else if a % 6 = 4 then [2, 2] else [4, 3, 2]
def conf (a b c d s : Int) : V := conf0 (wl a).length (wl a) a b c d s
def pre24 (a b c d : Int) : Bool := decide (0 ≤ a ∧ a < 256 ∧ 0 ≤ b ∧ b < 256 ∧ 0 ≤ c ∧ c < 256 ∧ 0 ≤ d ∧ d < 256)
def sp24 : List V → Tr
  | [.i .u8 a, .i .u8 b, .i .u8 c, .i .u8 d, .i .u64 s] => .br (pre24 a b c d) (.ret (conf a b c d s)) .no
  | _ => .no
theorem w64_id {n : Int} (h : 0 ≤ n) (h' : n < 9223372036854775808) : w64 n = n := by
  unfold w64
  rw [wrap_i64]; omega
theorem rest24_eq (n0 : Nat) (xs : List Int) {a b c d : Int} (s : Int) (ha : 0 ≤ a ∧ a < 256) (hb : 0 ≤ b ∧ b < 256) (hc : 0 ≤ c ∧ c < 256) (hd : 0 ≤ d ∧ d < 256) : rest24 n0 xs a b c d s = some (conf0 n0 xs a b c d s) := by
  unfold rest24
  rw [td hc.1, td hc.1, td hc.1, td hc.1, tm hc.1, tm hd.1]
  rw [wrap_u8, wrap_u8, wrap_u8, wrap_u8]
  rw [tm (by omega), tm (by omega), tm (by omega), tm (by omega)]
  rw [ck_ok (by omega) (by omega), ck_ok (by omega) (by omega), ck_ok (by omega) (by omega), ck_ok (by omega) (by omega), ck_ok (by omega) (by omega), ck_ok (by omega) (by omega), ck_ok (by omega) (by omega)]
  have e : (w64 (w64 (w64 ((w64 b).tmod 3 + (w64 a).tmod 25) - (w64 b).tmod 3) + 1) == 0) = false := by
    rw [w64_id hb.1 (by omega), w64_id ha.1 (by omega), tm hb.1, tm ha.1]
    rw [w64_id (n := b % 3 + a % 25) (by omega) (by omega), w64_id (n := b % 3 + a % 25 - b % 3) (by omega) (by omega), w64_id (by omega) (by omega)]
    rw [beq_eq_false_iff_ne]
    omega
  rw [e]; rfl
theorem ok24 : OrcOk Try.prog (ent 24 sp24) := ent_ok fun l r h => by
  unfold sp24 at h
  split at h
  · rename_i a b c d s
    cases hp : pre24 a b c d with
    | false => rw [hp] at h; cases h
    | true =>
      rw [hp] at h
      have hr : conf a b c d s = r := Option.some.inj h
      have hp := of_decide_eq_true hp
      refine run_fn (orn_ok _) mixed Try.func24 (by kernel_rfl) (by kernel_rfl) ((run24 a b c d s).trans ?_)
      rw [← hr]
      have hq : ∀ k, bq a k = decide (a % 6 = (k : Int)) := by
        intro k
        unfold bq
        rw [tm hp.1]
        rw [Bool.eq_iff_iff, decide_eq_true_eq, Nat.beq_eq]
        omega
      have ht : decide (0 ≤ a.tmod 6 ∧ a.tmod 6 < ((6 : Nat) : Int)) = true := by rw [tm hp.1]; exact decide_eq_true (by omega)
      have R := fun n0 xs => rest24_eq n0 xs s ⟨hp.1, hp.2.1⟩ ⟨hp.2.2.1, hp.2.2.2.1⟩ ⟨hp.2.2.2.2.1, hp.2.2.2.2.2.1⟩ ⟨hp.2.2.2.2.2.2.1, hp.2.2.2.2.2.2.2⟩
      simp only [ht, hq, R, cond_true]
      have h6 : a % 6 = 0 ∨ a % 6 = 1 ∨ a % 6 = 2 ∨ a % 6 = 3 ∨ a % 6 = 4 ∨ a % 6 = 5 := by omega
      rcases h6 with e | e | e | e | e | e <;> simp [conf, wl, e]
  · cases h
end Go.Proofs.Ytcpicekmnkjceaa.VI

import Derived.Test.YtcpicekmnkjceaaTFo6
namespace Go.Proofs.Ytcpicekmnkjceaa.VI
set_option linter.unusedVariables false
set_option linter.unusedSimpArgs false
set_option maxRecDepth 100000
set_option linter.unusedSimpArgs false
set_option linter.unusedVariables false
def iF (f : Int) (b : Bool) : Int := (RR f - 1) * BB f + if b = true then TT f else 0
def T16 (f x : Int) : Option (V × Heap) :=
  bif !decide (ex f x < RR f - 1) then aud ((cmp f x x).2 == (kl f x == 3)) (bif kl f x == 3 then rB true else aud (!lt f x 0) (rB (!lt f 0 x)))
  else aud (lt f x (iF f false)) <| aud (lt f (iF f true) x) <| aud (IntKind.i64.wrap (ky f x + ky f (bits .xor .u32 x (if true = true then TT f else 0))) == -1) <|
    aud (pck f x (iF f false) (decide (ky f x > ky f (iF f false))) == iF f false) <| rB (pck f x ((RR f - 1) * BB f + BB f / 2) (decide (ky f x < ky f ((RR f - 1) * BB f + BB f / 2))) == x)
theorem run16 (k a : Int) : run0 PR O7 f_anneallaw7_OrderClasses [.i .u8 k, .i .u32 a] [] = T16 (k % 3) (bits .and .u32 a (2 * TT (k % 3) - 1)) := by kernel_rfl
end Go.Proofs.Ytcpicekmnkjceaa.VI

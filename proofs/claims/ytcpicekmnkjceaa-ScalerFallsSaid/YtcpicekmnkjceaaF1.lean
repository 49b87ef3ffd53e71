import Derived.Test.YtcpicekmnkjceaaS6
namespace Go.Proofs.Ytcpicekmnkjceaa.VI
set_option linter.unusedVariables false
set_option linter.unusedSimpArgs false
set_option maxRecDepth 100000
def kL (mn mx bk iv l g k r : Int) : Int := bif rgt mn mx iv l g k r then (if mn > IntKind.i64.wrap (l - bk) then mn else IntKind.i64.wrap (l - bk)) else l
def kG (mn mx iv l g k r : Int) : Int := bif rgt mn mx iv l g k r then 0 else g
def kK (mn mx iv l g k r : Int) : Int := bif rgt mn mx iv l g k r then (if 4611686018427387903 < k then 4611686018427387904 else k + 1) else k
def kR (mn mx iv l g k r : Int) : Int := bif rgt mn mx iv l g k r then (if 4611686018427387903 < r then 4611686018427387904 else r + 1) else r
def fal (a b c d : Int) : Nat → Int → Int → Int → Int → Int → Option V
  | 0, _, _, _, _, _ => none
  | m + 1, l, g, k, r, n => bif decide (l > cMin b) then
      fal a b c d m (kL (cMin b) (cMax a b) (cBack b) (cInt d) l g k r) (kG (cMin b) (cMax a b) (cInt d) l g k r) (kK (cMin b) (cMax a b) (cInt d) l g k r) (kR (cMin b) (cMax a b) (cInt d) l g k r) (w64 (n + 1))
    else bif cBack b == 0 then none else
      bif n == w64 ((w64 (w64 (w64 (cLog a b c - cMin b) + cBack b) - 1)).tdiv (cBack b)) then
        bif l == cMin b then some (.b (kL (cMin b) (cMax a b) (cBack b) (cInt d) l g k r == cMin b)) else some (.b false)
      else some (.b false)
def M6 : Nat → Option (List Nat) := fun _ => some [9, 10, 11]
theorem run6 (a b c d : Int) : runk Try.prog orcT M6 26 Try.f6 (Try.f6.body.getD .skip) [.i .u8 a, .i .u8 b, .i .u8 c, .i .u8 d] some =
    bif pre24 a b c d then fal a b c d 26 (cLog a b c) 0 0 0 0 else none := by kernel_rfl
end Go.Proofs.Ytcpicekmnkjceaa.VI

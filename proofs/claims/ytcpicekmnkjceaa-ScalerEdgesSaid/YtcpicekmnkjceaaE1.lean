import Derived.Test.YtcpicekmnkjceaaS6
namespace Go.Proofs.Ytcpicekmnkjceaa.VI
set_option linter.unusedVariables false
set_option linter.unusedSimpArgs false
set_option maxRecDepth 100000
def edg (a b c d s1 s2 s3 s4 y1 y2 y3 y4 : Int) (K : Option V) : Option V :=
  bif rgt (cMin b) (cMax a b) (cInt d) y1 y2 y3 y4 then (bif !(eqS (scl y1 y2 y3 y4) (scl s1 s2 s3 s4)) then some (.b false) else K) else
  (bif !(eqS (goodV (cMin b) (cMax a b) (cGrow c) (cInt d) y1 y2 y3 y4) (scl y1 y2 y3 y4)) then some (.b false) else
  bif !(eqS (skipV (cMin b) (cMax a b) (cBack b) (cInt d) y1 y2 y3 y4) (scl y1 y2 y3 y4)) then some (.b false) else K)
def M7 : Nat → Option (List Nat) := fun _ => some [9, 11, 44, 45, 46]
theorem run7 (a b c d s1 s2 s3 s4 : Int) : runk Try.prog orcT M7 10 Try.f7 (Try.f7.body.getD .skip) [.i .u8 a, .i .u8 b, .i .u8 c, .i .u8 d, scl s1 s2 s3 s4] some =
    bif pre24 a b c d then
      edg a b c d s1 s2 s3 s4 (w64 (cMin b - 1)) 0 0 0 (edg a b c d s1 s2 s3 s4 (w64 (cMax a b + 1)) 0 0 0 (edg a b c d s1 s2 s3 s4 (cLog a b c) (cInt d) 0 0 (edg a b c d s1 s2 s3 s4 (cLog a b c) (-1) 0 0
        (edg a b c d s1 s2 s3 s4 (cLog a b c) 0 1 2 (edg a b c d s1 s2 s3 s4 (cLog a b c) 0 4611686018427387905 0 (edg a b c d s1 s2 s3 s4 s1 s2 s3 s4 (some (.b true))))))))
    else none := by kernel_rfl
end Go.Proofs.Ytcpicekmnkjceaa.VI

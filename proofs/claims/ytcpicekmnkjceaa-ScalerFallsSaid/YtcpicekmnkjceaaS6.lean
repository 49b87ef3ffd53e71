import Derived.Test.YtcpicekmnkjceaaS5
namespace Go.Proofs.Ytcpicekmnkjceaa.VI
set_option linter.unusedVariables false
set_option linter.unusedSimpArgs false
set_option maxRecDepth 100000
abbrev wu (n : Int) : Int := IntKind.u64.wrap n
def eqS : V → V → Bool
  | .agg [.i _ a, .i _ b, .i _ c, .i _ d], .agg [.i _ a', .i _ b', .i _ c', .i _ d'] => (a == a') && ((b == b') && ((c == c') && ((d == d') && true)))
  | _, _ => false
def cMin (b : Int) : Int := (w64 b).tmod 3
def cMax (a b : Int) : Int := w64 ((w64 b).tmod 3 + (w64 a).tmod 25)
def cLog (a b c : Int) : Int := w64 ((w64 b).tmod 3 + (w64 c).tmod (w64 (w64 (w64 ((w64 b).tmod 3 + (w64 a).tmod 25) - (w64 b).tmod 3) + 1)))
def cBack (b : Int) : Int := w64 ((w64 b).tmod 3 + 1)
def cGrow (c : Int) : Int := w64 ((w64 c).tmod 2 + 1)
def cInt (d : Int) : Int := w64 ((w64 d).tmod 3 + 1)
def rnd (a b c d y1 y2 y3 y4 : Int) (K : Option V) : Option V :=
  bif !(rgt (cMin b) (cMax a b) (cInt d) y1 y2 y3 y4 == rgt (cMin b) (cMax a b) (cInt d) y1 y2 y3 y4) then some (.b false) else
  bif !(eqS (goodV (cMin b) (cMax a b) (cGrow c) (cInt d) y1 y2 y3 y4) (goodV (cMin b) (cMax a b) (cGrow c) (cInt d) y1 y2 y3 y4)) then some (.b false) else
  bif !(eqS (skipV (cMin b) (cMax a b) (cBack b) (cInt d) y1 y2 y3 y4) (skipV (cMin b) (cMax a b) (cBack b) (cInt d) y1 y2 y3 y4)) then some (.b false) else K
def M4 : Nat → Option (List Nat) := fun _ => some (List.range 300)
theorem run4 (a b c d s1 s2 s3 s4 log good skips row : Int) : runk Try.prog orcT M4 10 Try.f4 (Try.f4.body.getD .skip) [.i .u8 a, .i .u8 b, .i .u8 c, .i .u8 d, scl s1 s2 s3 s4, .i .i64 log, .i .i64 good, .i .i64 skips, .i .i64 row] some =
    bif pre24 a b c d then
      rnd a b c d s1 s2 s3 s4 (rnd a b c d (w64 (cMin b + w64 ((wu log).tmod 25))) (w64 ((wu good).tmod 3)) (w64 ((wu skips).tmod 9)) (w64 ((wu row).tmod 9))
        (rnd a b c d (cLog a b c) (w64 (cInt d - 1)) 4611686018427387904 (w64 (4611686018427387904 - w64 ((wu row).tmod 2)))
          (rnd a b c d (cLog a b c) 0 0 0 (bif eqS (scl (cLog a b c) 0 0 0) (scl (cLog a b c) 0 0 0) then some (.b (rgt (cMin b) (cMax a b) (cInt d) (cLog a b c) 0 0 0)) else some (.b false)))))
    else none := by kernel_rfl
end Go.Proofs.Ytcpicekmnkjceaa.VI

import Derived.Test.YtcpicekmnkjceaaS2
namespace Go.Proofs.Ytcpicekmnkjceaa.VI
set_option linter.unusedVariables false
set_option linter.unusedSimpArgs false
set_option maxRecDepth 100000
abbrev w64 (n : Int) : Int := IntKind.i64.wrap n
abbrev w8 (n : Int) : Int := IntKind.u8.wrap n
def lk (l : List Int) (i : Int) : Int := l.getD (0 + i.toNat * (0 + 1)) 0
def ck (i : Int) (n : Nat) (X : Option V) : Option V := bif decide (0 ≤ i ∧ i < (n : Int)) then (bif decide (0 + i.toNat * 1 < n) then X else none) else none
def conf0 (n0 : Nat) (xs : List Int) (a b c d s : Int) : V :=
  cfg n0 xs ((w64 (w8 (a.tdiv 6))).tmod 3) ((w64 b).tmod 4) ((w64 (w8 (b.tdiv 4))).tmod 2) ((w64 (w8 (b.tdiv 8))).tmod 4) ((w64 (w8 (b.tdiv 32))).tmod 3)
    (lk [1008981770, 1036831949, 1065353216, 981668463] (c.tmod 4)) (lk [0, 1063675494, 1056964608] ((w8 (c.tdiv 4)).tmod 3)) (lk [1065336439, 1063675494] ((w8 (c.tdiv 12)).tmod 2)) (lk [841731191, 981668463] ((w8 (c.tdiv 24)).tmod 2))
    (lk [0, 1008981770] ((w8 (c.tdiv 48)).tmod 2)) (lk [0, 1065353216, 1036831949] (d.tmod 3)) ((w64 (w8 (d.tdiv 3))).tmod 4) (w64 (w64 ((w64 (w8 (d.tdiv 3))).tmod 4 + (w64 d).tmod 17) + 1))
    (w64 ((w64 (w8 (d.tdiv 9))).tmod 4 + 1)) (w64 ((w64 (w8 (d.tdiv 36))).tmod 2 + 1)) s (lk [0, 536870912, 2147483647, 0] (c.tmod 4)) (d.tmod 5 == 0)
    (w64 ((w64 b).tmod 3 + (w64 c).tmod (w64 (w64 (w64 ((w64 b).tmod 3 + (w64 a).tmod 25) - (w64 b).tmod 3) + 1)))) ((w64 b).tmod 3) (w64 ((w64 b).tmod 3 + (w64 a).tmod 25)) (w64 ((w64 b).tmod 3 + 1)) (w64 ((w64 c).tmod 2 + 1)) (w64 ((w64 d).tmod 3 + 1)) ((w64 a).tmod 4)
def rest24 (n0 : Nat) (xs : List Int) (a b c d s : Int) : Option V :=
  ck (c.tmod 4) 4 (ck ((w8 (c.tdiv 4)).tmod 3) 3 (ck ((w8 (c.tdiv 12)).tmod 2) 2 (ck ((w8 (c.tdiv 24)).tmod 2) 2 (ck ((w8 (c.tdiv 48)).tmod 2) 2 (ck (d.tmod 3) 3 (ck (c.tmod 4) 4
    (bif w64 (w64 (w64 ((w64 b).tmod 3 + (w64 a).tmod 25) - (w64 b).tmod 3) + 1) == 0 then none else some (conf0 n0 xs a b c d s))))))))
def bq (a : Int) (k : Nat) : Bool := Nat.beq (0 + (a.tmod 6).toNat * (0 + 1)) k
theorem run24 (a b c d s : Int) : runk Try.prog orn M0 10 Try.f24 (Try.f24.body.getD .skip) [.i .u8 a, .i .u8 b, .i .u8 c, .i .u8 d, .i .u64 s] some =
    bif decide (0 ≤ a.tmod 6 ∧ a.tmod 6 < ((6 : Nat) : Int)) then
      bif bq a 0 then rest24 2 [2, 3] a b c d s else bif bq a 1 then rest24 3 [3, 2, 2] a b c d s else bif bq a 2 then rest24 3 [2, 4, 3] a b c d s else
      bif bq a 3 then rest24 4 [1, 2, 2, 2] a b c d s else bif bq a 4 then rest24 2 [2, 2] a b c d s else bif bq a 5 then rest24 3 [4, 3, 2] a b c d s else bif bq a 6 then none else none
    else none := by kernel_rfl
end Go.Proofs.Ytcpicekmnkjceaa.VI

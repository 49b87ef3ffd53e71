import Derived.Test.YtfpjkmgfkaoapaaTb43a0c83
import Derived.Test.YtfpjkmgfkaoapaaProg
namespace Go.Proofs.Ytfpjkmgfkaoapaa.VI
set_option linter.unusedVariables false
set_option linter.unusedSimpArgs false
abbrev hN0 : List BF := []
abbrev innN (f : Fm) (z : T f) (w : TH []) : T f := z
abbrev outN (f : Fm) (r : T f) : T f × TH [] := (r, ())
noncomputable abbrev PR : Program := Try.prog
theorem mixed : PR.follows .mixedOrders = true := by kernel_rfl
def L0 : Lps := fun _ _ => .no
abbrev y_90 : TypeId := 25
abbrev y_91 : TypeId := 27
abbrev y_92 : TypeId := 63
abbrev i_93 : FuncId := 4
noncomputable abbrev f_93 : Func := Try.f4
theorem p_93 : PR.funcs[i_93]? = some f_93 := Try.func4
abbrev i_94 : FuncId := 5
noncomputable abbrev f_94 : Func := Try.f5
theorem p_94 : PR.funcs[i_94]? = some f_94 := Try.func5
abbrev i_95 : FuncId := 6
noncomputable abbrev f_95 : Func := Try.f6
theorem p_95 : PR.funcs[i_95]? = some f_95 := Try.func6
abbrev i_96 : FuncId := 7
noncomputable abbrev f_96 : Func := Try.f7
theorem p_96 : PR.funcs[i_96]? = some f_96 := Try.func7
abbrev i_97 : FuncId := 9
noncomputable abbrev f_97 : Func := Try.f9
theorem p_97 : PR.funcs[i_97]? = some f_97 := Try.func9
abbrev i_98 : FuncId := 10
noncomputable abbrev f_98 : Func := Try.f10
theorem p_98 : PR.funcs[i_98]? = some f_98 := Try.func10
abbrev i_99 : FuncId := 11
noncomputable abbrev f_99 : Func := Try.f11
theorem p_99 : PR.funcs[i_99]? = some f_99 := Try.func11
abbrev i_9a : FuncId := 12
noncomputable abbrev f_9a : Func := Try.f12
theorem p_9a : PR.funcs[i_9a]? = some f_9a := Try.func12
abbrev i_9b : FuncId := 13
noncomputable abbrev f_9b : Func := Try.f13
theorem p_9b : PR.funcs[i_9b]? = some f_9b := Try.func13
abbrev i_9c : FuncId := 14
noncomputable abbrev f_9c : Func := Try.f14
theorem p_9c : PR.funcs[i_9c]? = some f_9c := Try.func14
abbrev i_9d : FuncId := 15
noncomputable abbrev f_9d : Func := Try.f15
theorem p_9d : PR.funcs[i_9d]? = some f_9d := Try.func15
abbrev i_9e : FuncId := 16
noncomputable abbrev f_9e : Func := Try.f16
theorem p_9e : PR.funcs[i_9e]? = some f_9e := Try.func16
abbrev i_9f : FuncId := 17
noncomputable abbrev f_9f : Func := Try.f17
theorem p_9f : PR.funcs[i_9f]? = some f_9f := Try.func17
abbrev i_910 : FuncId := 18
noncomputable abbrev f_910 : Func := Try.f18
theorem p_910 : PR.funcs[i_910]? = some f_910 := Try.func18
abbrev i_911 : FuncId := 19
noncomputable abbrev f_911 : Func := Try.f19
theorem p_911 : PR.funcs[i_911]? = some f_911 := Try.func19
abbrev i_912 : FuncId := 23
noncomputable abbrev f_912 : Func := Try.f23
theorem p_912 : PR.funcs[i_912]? = some f_912 := Try.func23
abbrev i_913 : FuncId := 24
noncomputable abbrev f_913 : Func := Try.f24
theorem p_913 : PR.funcs[i_913]? = some f_913 := Try.func24
abbrev i_914 : FuncId := 25
noncomputable abbrev f_914 : Func := Try.f25
theorem p_914 : PR.funcs[i_914]? = some f_914 := Try.func25
abbrev i_915 : FuncId := 26
noncomputable abbrev f_915 : Func := Try.f26
theorem p_915 : PR.funcs[i_915]? = some f_915 := Try.func26
abbrev i_916 : FuncId := 27
noncomputable abbrev f_916 : Func := Try.f27
theorem p_916 : PR.funcs[i_916]? = some f_916 := Try.func27
abbrev i_917 : FuncId := 28
noncomputable abbrev f_917 : Func := Try.f28
theorem p_917 : PR.funcs[i_917]? = some f_917 := Try.func28
abbrev i_918 : FuncId := 29
noncomputable abbrev f_918 : Func := Try.f29
theorem p_918 : PR.funcs[i_918]? = some f_918 := Try.func29
abbrev i_919 : FuncId := 30
noncomputable abbrev f_919 : Func := Try.f30
theorem p_919 : PR.funcs[i_919]? = some f_919 := Try.func30
abbrev i_91a : FuncId := 31
noncomputable abbrev f_91a : Func := Try.f31
theorem p_91a : PR.funcs[i_91a]? = some f_91a := Try.func31
abbrev i_91b : FuncId := 32
noncomputable abbrev f_91b : Func := Try.f32
theorem p_91b : PR.funcs[i_91b]? = some f_91b := Try.func32
abbrev i_91c : FuncId := 33
noncomputable abbrev f_91c : Func := Try.f33
theorem p_91c : PR.funcs[i_91c]? = some f_91c := Try.func33
abbrev i_91d : FuncId := 34
noncomputable abbrev f_91d : Func := Try.f34
theorem p_91d : PR.funcs[i_91d]? = some f_91d := Try.func34
abbrev i_91e : FuncId := 35
noncomputable abbrev f_91e : Func := Try.f35
theorem p_91e : PR.funcs[i_91e]? = some f_91e := Try.func35
abbrev i_91f : FuncId := 36
noncomputable abbrev f_91f : Func := Try.f36
theorem p_91f : PR.funcs[i_91f]? = some f_91f := Try.func36
abbrev i_920 : FuncId := 37
noncomputable abbrev f_920 : Func := Try.f37
theorem p_920 : PR.funcs[i_920]? = some f_920 := Try.func37
abbrev i_921 : FuncId := 38
noncomputable abbrev f_921 : Func := Try.f38
theorem p_921 : PR.funcs[i_921]? = some f_921 := Try.func38
abbrev i_922 : FuncId := 39
noncomputable abbrev f_922 : Func := Try.f39
theorem p_922 : PR.funcs[i_922]? = some f_922 := Try.func39
abbrev i_923 : FuncId := 41
noncomputable abbrev f_923 : Func := Try.f41
theorem p_923 : PR.funcs[i_923]? = some f_923 := Try.func41
abbrev i_924 : FuncId := 43
noncomputable abbrev f_924 : Func := Try.f43
theorem p_924 : PR.funcs[i_924]? = some f_924 := Try.func43
abbrev i_925 : FuncId := 44
noncomputable abbrev f_925 : Func := Try.f44
theorem p_925 : PR.funcs[i_925]? = some f_925 := Try.func44
abbrev i_926 : FuncId := 45
noncomputable abbrev f_926 : Func := Try.f45
theorem p_926 : PR.funcs[i_926]? = some f_926 := Try.func45
abbrev i_927 : FuncId := 46
noncomputable abbrev f_927 : Func := Try.f46
theorem p_927 : PR.funcs[i_927]? = some f_927 := Try.func46
abbrev i_928 : FuncId := 47
noncomputable abbrev f_928 : Func := Try.f47
theorem p_928 : PR.funcs[i_928]? = some f_928 := Try.func47
abbrev i_929 : FuncId := 48
noncomputable abbrev f_929 : Func := Try.f48
theorem p_929 : PR.funcs[i_929]? = some f_929 := Try.func48
abbrev i_92a : FuncId := 49
noncomputable abbrev f_92a : Func := Try.f49
theorem p_92a : PR.funcs[i_92a]? = some f_92a := Try.func49
abbrev i_92b : FuncId := 50
noncomputable abbrev f_92b : Func := Try.f50
theorem p_92b : PR.funcs[i_92b]? = some f_92b := Try.func50
abbrev i_92c : FuncId := 51
noncomputable abbrev f_92c : Func := Try.f51
theorem p_92c : PR.funcs[i_92c]? = some f_92c := Try.func51
abbrev i_92d : FuncId := 52
noncomputable abbrev f_92d : Func := Try.f52
theorem p_92d : PR.funcs[i_92d]? = some f_92d := Try.func52
abbrev i_92e : FuncId := 53
noncomputable abbrev f_92e : Func := Try.f53
theorem p_92e : PR.funcs[i_92e]? = some f_92e := Try.func53
abbrev i_92f : FuncId := 54
noncomputable abbrev f_92f : Func := Try.f54
theorem p_92f : PR.funcs[i_92f]? = some f_92f := Try.func54
abbrev i_930 : FuncId := 55
noncomputable abbrev f_930 : Func := Try.f55
theorem p_930 : PR.funcs[i_930]? = some f_930 := Try.func55
abbrev i_931 : FuncId := 56
noncomputable abbrev f_931 : Func := Try.f56
theorem p_931 : PR.funcs[i_931]? = some f_931 := Try.func56
abbrev i_932 : FuncId := 57
noncomputable abbrev f_932 : Func := Try.f57
theorem p_932 : PR.funcs[i_932]? = some f_932 := Try.func57
abbrev i_933 : FuncId := 58
noncomputable abbrev f_933 : Func := Try.f58
theorem p_933 : PR.funcs[i_933]? = some f_933 := Try.func58
abbrev i_934 : FuncId := 59
noncomputable abbrev f_934 : Func := Try.f59
theorem p_934 : PR.funcs[i_934]? = some f_934 := Try.func59
abbrev i_935 : FuncId := 60
noncomputable abbrev f_935 : Func := Try.f60
theorem p_935 : PR.funcs[i_935]? = some f_935 := Try.func60
abbrev i_936 : FuncId := 61
noncomputable abbrev f_936 : Func := Try.f61
theorem p_936 : PR.funcs[i_936]? = some f_936 := Try.func61
abbrev i_937 : FuncId := 62
noncomputable abbrev f_937 : Func := Try.f62
theorem p_937 : PR.funcs[i_937]? = some f_937 := Try.func62
abbrev i_938 : FuncId := 63
noncomputable abbrev f_938 : Func := Try.f63
theorem p_938 : PR.funcs[i_938]? = some f_938 := Try.func63
abbrev i_939 : FuncId := 64
noncomputable abbrev f_939 : Func := Try.f64
theorem p_939 : PR.funcs[i_939]? = some f_939 := Try.func64
abbrev i_93a : FuncId := 65
noncomputable abbrev f_93a : Func := Try.f65
theorem p_93a : PR.funcs[i_93a]? = some f_93a := Try.func65
abbrev i_93b : FuncId := 66
noncomputable abbrev f_93b : Func := Try.f66
theorem p_93b : PR.funcs[i_93b]? = some f_93b := Try.func66
abbrev i_93c : FuncId := 67
noncomputable abbrev f_93c : Func := Try.f67
theorem p_93c : PR.funcs[i_93c]? = some f_93c := Try.func67
abbrev i_93d : FuncId := 68
noncomputable abbrev f_93d : Func := Try.f68
theorem p_93d : PR.funcs[i_93d]? = some f_93d := Try.func68
abbrev i_93e : FuncId := 69
noncomputable abbrev f_93e : Func := Try.f69
theorem p_93e : PR.funcs[i_93e]? = some f_93e := Try.func69
abbrev i_93f : FuncId := 70
noncomputable abbrev f_93f : Func := Try.f70
theorem p_93f : PR.funcs[i_93f]? = some f_93f := Try.func70
abbrev i_940 : FuncId := 71
noncomputable abbrev f_940 : Func := Try.f71
theorem p_940 : PR.funcs[i_940]? = some f_940 := Try.func71
abbrev i_941 : FuncId := 72
noncomputable abbrev f_941 : Func := Try.f72
theorem p_941 : PR.funcs[i_941]? = some f_941 := Try.func72
abbrev i_942 : FuncId := 73
noncomputable abbrev f_942 : Func := Try.f73
theorem p_942 : PR.funcs[i_942]? = some f_942 := Try.func73
abbrev i_943 : FuncId := 74
noncomputable abbrev f_943 : Func := Try.f74
theorem p_943 : PR.funcs[i_943]? = some f_943 := Try.func74
abbrev i_944 : FuncId := 75
noncomputable abbrev f_944 : Func := Try.f75
theorem p_944 : PR.funcs[i_944]? = some f_944 := Try.func75
abbrev i_945 : FuncId := 76
noncomputable abbrev f_945 : Func := Try.f76
theorem p_945 : PR.funcs[i_945]? = some f_945 := Try.func76
abbrev i_946 : FuncId := 78
noncomputable abbrev f_946 : Func := Try.f78
theorem p_946 : PR.funcs[i_946]? = some f_946 := Try.func78
abbrev i_947 : FuncId := 79
noncomputable abbrev f_947 : Func := Try.f79
theorem p_947 : PR.funcs[i_947]? = some f_947 := Try.func79
abbrev i_948 : FuncId := 80
noncomputable abbrev f_948 : Func := Try.f80
theorem p_948 : PR.funcs[i_948]? = some f_948 := Try.func80
abbrev i_949 : FuncId := 81
noncomputable abbrev f_949 : Func := Try.f81
theorem p_949 : PR.funcs[i_949]? = some f_949 := Try.func81
abbrev i_94a : FuncId := 82
noncomputable abbrev f_94a : Func := Try.f82
theorem p_94a : PR.funcs[i_94a]? = some f_94a := Try.func82
abbrev i_94b : FuncId := 83
noncomputable abbrev f_94b : Func := Try.f83
theorem p_94b : PR.funcs[i_94b]? = some f_94b := Try.func83
abbrev i_94c : FuncId := 84
noncomputable abbrev f_94c : Func := Try.f84
theorem p_94c : PR.funcs[i_94c]? = some f_94c := Try.func84
abbrev i_94d : FuncId := 85
noncomputable abbrev f_94d : Func := Try.f85
theorem p_94d : PR.funcs[i_94d]? = some f_94d := Try.func85
abbrev i_94e : FuncId := 86
noncomputable abbrev f_94e : Func := Try.f86
theorem p_94e : PR.funcs[i_94e]? = some f_94e := Try.func86
abbrev i_94f : FuncId := 87
noncomputable abbrev f_94f : Func := Try.f87
theorem p_94f : PR.funcs[i_94f]? = some f_94f := Try.func87
abbrev i_950 : FuncId := 88
noncomputable abbrev f_950 : Func := Try.f88
theorem p_950 : PR.funcs[i_950]? = some f_950 := Try.func88
abbrev i_951 : FuncId := 89
noncomputable abbrev f_951 : Func := Try.f89
theorem p_951 : PR.funcs[i_951]? = some f_951 := Try.func89
abbrev i_952 : FuncId := 90
noncomputable abbrev f_952 : Func := Try.f90
theorem p_952 : PR.funcs[i_952]? = some f_952 := Try.func90
abbrev i_953 : FuncId := 91
noncomputable abbrev f_953 : Func := Try.f91
theorem p_953 : PR.funcs[i_953]? = some f_953 := Try.func91
abbrev i_954 : FuncId := 92
noncomputable abbrev f_954 : Func := Try.f92
theorem p_954 : PR.funcs[i_954]? = some f_954 := Try.func92
abbrev i_955 : FuncId := 93
noncomputable abbrev f_955 : Func := Try.f93
theorem p_955 : PR.funcs[i_955]? = some f_955 := Try.func93
abbrev i_956 : FuncId := 94
noncomputable abbrev f_956 : Func := Try.f94
theorem p_956 : PR.funcs[i_956]? = some f_956 := Try.func94
abbrev i_957 : FuncId := 95
noncomputable abbrev f_957 : Func := Try.f95
theorem p_957 : PR.funcs[i_957]? = some f_957 := Try.func95
abbrev i_958 : FuncId := 96
noncomputable abbrev f_958 : Func := Try.f96
theorem p_958 : PR.funcs[i_958]? = some f_958 := Try.func96
abbrev i_959 : FuncId := 97
noncomputable abbrev f_959 : Func := Try.f97
theorem p_959 : PR.funcs[i_959]? = some f_959 := Try.func97
abbrev i_95a : FuncId := 98
noncomputable abbrev f_95a : Func := Try.f98
theorem p_95a : PR.funcs[i_95a]? = some f_95a := Try.func98
abbrev i_95b : FuncId := 99
noncomputable abbrev f_95b : Func := Try.f99
theorem p_95b : PR.funcs[i_95b]? = some f_95b := Try.func99
abbrev i_95c : FuncId := 100
noncomputable abbrev f_95c : Func := Try.f100
theorem p_95c : PR.funcs[i_95c]? = some f_95c := Try.func100
abbrev i_95d : FuncId := 101
noncomputable abbrev f_95d : Func := Try.f101
theorem p_95d : PR.funcs[i_95d]? = some f_95d := Try.func101
abbrev i_95e : FuncId := 102
noncomputable abbrev f_95e : Func := Try.f102
theorem p_95e : PR.funcs[i_95e]? = some f_95e := Try.func102
abbrev i_95f : FuncId := 103
noncomputable abbrev f_95f : Func := Try.f103
theorem p_95f : PR.funcs[i_95f]? = some f_95f := Try.func103
set_option maxRecDepth 100000
noncomputable def O_94f : Orc := orn
theorem okO_94f : OrcOk PR O_94f := (orn_ok _)
abbrev fa_94f : Fm := (.pair (.i .i64) .unit)
abbrev fr_94f : Fm := (.tup (.pair (.i .i64) (.pair (.i .i64) .unit)))
noncomputable def F_94f (a0 : Int) : Option (Int × Int × Unit) :=
 bif (a0 == (0:Int)) then
 (some ((5:Int), ((10:Int), ())))
 else
 bif (a0 == (1:Int)) then
 (some ((8:Int), ((7:Int), ())))
 else
 (some ((8:Int), ((23:Int), ())))
noncomputable def G_94f : T fa_94f → TH hN0 → Option (Int × Int × Unit) := fun x y => F_94f x.1
noncomputable def c_94f : Orc := ent i_94f [] 0 (sp fa_94f hN0 fr_94f hN0 G_94f (outN fr_94f))
theorem ok_94f : OrcOk PR c_94f := fnT okO_94f mixed p_94f (by kernel_rfl) (by kernel_rfl) (L := L0) (kp := false) (by kernel_rfl) (inn := (innN fr_94f)) (out := (outN fr_94f)) (fun _ _ => rfl) (loopsL (l := []) (by kernel_rfl) trivial) (fun x y => by kernel_rfl)
noncomputable def O_94e : Orc := c_94f
theorem okO_94e : OrcOk PR O_94e := ok_94f
abbrev fa_94e : Fm := (.pair (.i .i64) (.pair (.i .u32) .unit))
abbrev fr_94e : Fm := (.tup (.pair .b (.pair (.i .i64) (.pair (.i .u32) .unit))))
noncomputable def F_94e (a0 : Int) (a1 : Int) : Option (Bool × Int × Int × Unit) :=
 ((F_94f a0)).bind fun r0 =>
 let x1 : Int := ((2:Int) ^ (Min.min (Int.toNat (IntKind.wrap .u64 r0.2.1)) (32:Nat)))
 bif (decide ((0:Int) ≤ (IntKind.wrap .u64 (IntKind.wrap .i64 (r0.1 + r0.2.1))))) then
 bif (decide ((0:Int) ≤ (IntKind.wrap .u64 r0.2.1))) then
 bif (decide ((0:Int) ≤ (IntKind.wrap .u64 r0.1))) then
 bif (decide ((0:Int) ≤ (IntKind.wrap .u64 r0.2.1))) then
 (some (((bits .and .u32 (a1 / ((2:Int) ^ (Min.min (Int.toNat (IntKind.wrap .u64 (IntKind.wrap .i64 (r0.1 + r0.2.1)))) (32:Nat)))) (1:Int)) == (1:Int)), ((IntKind.wrap .i64 (bits .and .u32 (a1 / x1) (IntKind.wrap .u32 ((IntKind.wrap .u32 ((1:Int) * ((2:Int) ^ (Min.min (Int.toNat (IntKind.wrap .u64 r0.1)) (32:Nat))))) - (1:Int))))), ((bits .and .u32 a1 (IntKind.wrap .u32 ((IntKind.wrap .u32 ((1:Int) * x1)) - (1:Int)))), ()))))
 else
 none
 else
 none
 else
 none
 else
 none
noncomputable def G_94e : T fa_94e → TH hN0 → Option (Bool × Int × Int × Unit) := fun x y => F_94e x.1 x.2.1
noncomputable def c_94e : Orc := ent i_94e [] 0 (sp fa_94e hN0 fr_94e hN0 G_94e (outN fr_94e))
theorem ok_94e : OrcOk PR c_94e := fnT okO_94e mixed p_94e (by kernel_rfl) (by kernel_rfl) (L := L0) (kp := false) (by kernel_rfl) (inn := (innN fr_94e)) (out := (outN fr_94e)) (fun _ _ => rfl) (loopsL (l := []) (by kernel_rfl) trivial) (fun x y => by kernel_rfl)
noncomputable def O_94d : Orc := c_94f
theorem okO_94d : OrcOk PR O_94d := ok_94f
abbrev fa_94d : Fm := (.pair (.i .i64) .unit)
abbrev fr_94d : Fm := (.i .i64)
noncomputable def F_94d (a0 : Int) : Option (Int) :=
 ((F_94f a0)).bind fun r0 =>
 bif (decide ((0:Int) ≤ (IntKind.wrap .u64 r0.1))) then
 (some (IntKind.wrap .i64 ((IntKind.wrap .i64 ((1:Int) * ((2:Int) ^ (Min.min (Int.toNat (IntKind.wrap .u64 r0.1)) (64:Nat))))) - (1:Int))))
 else
 none
noncomputable def G_94d : T fa_94d → TH hN0 → Option (Int) := fun x y => F_94d x.1
noncomputable def c_94d : Orc := ent i_94d [] 0 (sp fa_94d hN0 fr_94d hN0 G_94d (outN fr_94d))
theorem ok_94d : OrcOk PR c_94d := fnT okO_94d mixed p_94d (by kernel_rfl) (by kernel_rfl) (L := L0) (kp := false) (by kernel_rfl) (inn := (innN fr_94d)) (out := (outN fr_94d)) (fun _ _ => rfl) (loopsL (l := []) (by kernel_rfl) trivial) (fun x y => by kernel_rfl)
noncomputable def O_943 : Orc := (orm c_94f (orm c_94e c_94d))
theorem okO_943 : OrcOk PR O_943 := (orm_ok ok_94f (orm_ok ok_94e ok_94d))
abbrev fa_943 : Fm := (.pair (.i .i64) (.pair (.i .u32) .unit))
abbrev fr_943 : Fm := (.i .i64)
noncomputable def F_943 (a0 : Int) (a1 : Int) : Option (Int) :=
 ((F_94f a0)).bind fun r0 =>
 ((F_94e a0 a1)).bind fun r1 =>
 let x2 : Bool := (r1.2.1 == (0:Int))
 let x3 : Int := r1.2.2.1
 let x4 : Bool := (x3 == (0:Int))
 let x5 : Bool := ((x3 / ((2:Int) ^ (Min.min (Int.toNat (IntKind.wrap .u64 (IntKind.wrap .i64 (r0.2.1 - (1:Int))))) (32:Nat)))) == (1:Int))
 bif x2 then
 bif x4 then
 (some (0:Int))
 else
 bif x2 then
 (some (1:Int))
 else
 ((F_94d a0)).bind fun r6 =>
 bif (decide (r1.2.1 < r6)) then
 (some (2:Int))
 else
 bif x4 then
 (some (3:Int))
 else
 bif (decide ((0:Int) ≤ (IntKind.wrap .u64 (IntKind.wrap .i64 (r0.2.1 - (1:Int)))))) then
 bif x5 then
 (some (4:Int))
 else
 (some (5:Int))
 else
 none
 else
 bif x2 then
 (some (1:Int))
 else
 ((F_94d a0)).bind fun r7 =>
 bif (decide (r1.2.1 < r7)) then
 (some (2:Int))
 else
 bif x4 then
 (some (3:Int))
 else
 bif (decide ((0:Int) ≤ (IntKind.wrap .u64 (IntKind.wrap .i64 (r0.2.1 - (1:Int)))))) then
 bif x5 then
 (some (4:Int))
 else
 (some (5:Int))
 else
 none
noncomputable def G_943 : T fa_943 → TH hN0 → Option (Int) := fun x y => F_943 x.1 x.2.1
noncomputable def c_943 : Orc := ent i_943 [] 0 (sp fa_943 hN0 fr_943 hN0 G_943 (outN fr_943))
theorem ok_943 : OrcOk PR c_943 := fnT okO_943 mixed p_943 (by kernel_rfl) (by kernel_rfl) (L := L0) (kp := false) (by kernel_rfl) (inn := (innN fr_943)) (out := (outN fr_943)) (fun _ _ => rfl) (loopsL (l := []) (by kernel_rfl) trivial) (fun x y => by kernel_rfl)
noncomputable def O_94a : Orc := c_943
theorem okO_94a : OrcOk PR O_94a := ok_943
abbrev fa_94a : Fm := (.pair (.i .i64) (.pair (.i .u32) .unit))
abbrev fr_94a : Fm := .b
noncomputable def F_94a (a0 : Int) (a1 : Int) : Option (Bool) :=
 ((F_943 a0 a1)).bind fun r0 =>
 (some (decide (r0 ≥ (4:Int))))
noncomputable def G_94a : T fa_94a → TH hN0 → Option (Bool) := fun x y => F_94a x.1 x.2.1
noncomputable def c_94a : Orc := ent i_94a [] 0 (sp fa_94a hN0 fr_94a hN0 G_94a (outN fr_94a))
theorem ok_94a : OrcOk PR c_94a := fnT okO_94a mixed p_94a (by kernel_rfl) (by kernel_rfl) (L := L0) (kp := false) (by kernel_rfl) (inn := (innN fr_94a)) (out := (outN fr_94a)) (fun _ _ => rfl) (loopsL (l := []) (by kernel_rfl) trivial) (fun x y => by kernel_rfl)
noncomputable def O_936 : Orc := c_94f
theorem okO_936 : OrcOk PR O_936 := ok_94f
abbrev fa_936 : Fm := (.pair (.i .i64) .unit)
abbrev fr_936 : Fm := (.i .u32)
noncomputable def F_936 (a0 : Int) : Option (Int) :=
 ((F_94f a0)).bind fun r0 =>
 bif (decide ((0:Int) ≤ (IntKind.wrap .u64 (IntKind.wrap .i64 ((IntKind.wrap .i64 (r0.1 + r0.2.1)) + (1:Int)))))) then
 (some (IntKind.wrap .u32 ((IntKind.wrap .u32 ((1:Int) * ((2:Int) ^ (Min.min (Int.toNat (IntKind.wrap .u64 (IntKind.wrap .i64 ((IntKind.wrap .i64 (r0.1 + r0.2.1)) + (1:Int))))) (32:Nat))))) - (1:Int))))
 else
 none
noncomputable def G_936 : T fa_936 → TH hN0 → Option (Int) := fun x y => F_936 x.1
noncomputable def c_936 : Orc := ent i_936 [] 0 (sp fa_936 hN0 fr_936 hN0 G_936 (outN fr_936))
theorem ok_936 : OrcOk PR c_936 := fnT okO_936 mixed p_936 (by kernel_rfl) (by kernel_rfl) (L := L0) (kp := false) (by kernel_rfl) (inn := (innN fr_936)) (out := (outN fr_936)) (fun _ _ => rfl) (loopsL (l := []) (by kernel_rfl) trivial) (fun x y => by kernel_rfl)
noncomputable def O_92a : Orc := c_94e
theorem okO_92a : OrcOk PR O_92a := ok_94e
abbrev fa_92a : Fm := (.pair (.i .i64) (.pair (.i .u32) .unit))
abbrev fr_92a : Fm := .b
noncomputable def F_92a (a0 : Int) (a1 : Int) : Option (Bool) :=
 ((F_94e a0 a1)).bind fun r0 =>
 (some r0.1)
noncomputable def G_92a : T fa_92a → TH hN0 → Option (Bool) := fun x y => F_92a x.1 x.2.1
noncomputable def c_92a : Orc := ent i_92a [] 0 (sp fa_92a hN0 fr_92a hN0 G_92a (outN fr_92a))
theorem ok_92a : OrcOk PR c_92a := fnT okO_92a mixed p_92a (by kernel_rfl) (by kernel_rfl) (L := L0) (kp := false) (by kernel_rfl) (inn := (innN fr_92a)) (out := (outN fr_92a)) (fun _ _ => rfl) (loopsL (l := []) (by kernel_rfl) trivial) (fun x y => by kernel_rfl)
noncomputable def O_93b : Orc := (orm c_94f c_936)
theorem okO_93b : OrcOk PR O_93b := (orm_ok ok_94f ok_936)
abbrev fa_93b : Fm := (.pair (.i .i64) (.pair (.i .u32) .unit))
abbrev fr_93b : Fm := (.i .u32)
noncomputable def F_93b (a0 : Int) (a1 : Int) : Option (Int) :=
 ((F_94f a0)).bind fun r0 =>
 ((F_936 a0)).bind fun r1 =>
 bif (decide ((0:Int) ≤ (IntKind.wrap .u64 (IntKind.wrap .i64 (r0.1 + r0.2.1))))) then
 (some (bits .xor .u32 (bits .and .u32 a1 r1) (IntKind.wrap .u32 ((1:Int) * ((2:Int) ^ (Min.min (Int.toNat (IntKind.wrap .u64 (IntKind.wrap .i64 (r0.1 + r0.2.1)))) (32:Nat)))))))
 else
 none
noncomputable def G_93b : T fa_93b → TH hN0 → Option (Int) := fun x y => F_93b x.1 x.2.1
noncomputable def c_93b : Orc := ent i_93b [] 0 (sp fa_93b hN0 fr_93b hN0 G_93b (outN fr_93b))
theorem ok_93b : OrcOk PR c_93b := fnT okO_93b mixed p_93b (by kernel_rfl) (by kernel_rfl) (L := L0) (kp := false) (by kernel_rfl) (inn := (innN fr_93b)) (out := (outN fr_93b)) (fun _ _ => rfl) (loopsL (l := []) (by kernel_rfl) trivial) (fun x y => by kernel_rfl)
noncomputable def O_947 : Orc := (orm c_936 (orm c_92a c_93b))
theorem okO_947 : OrcOk PR O_947 := (orm_ok ok_936 (orm_ok ok_92a ok_93b))
abbrev fa_947 : Fm := (.pair (.i .i64) (.pair (.i .u32) .unit))
abbrev fr_947 : Fm := (.i .i64)
noncomputable def F_947 (a0 : Int) (a1 : Int) : Option (Int) :=
 ((F_936 a0)).bind fun r0 =>
 ((F_92a a0 a1)).bind fun r1 =>
 bif (!r1) then
 (some (IntKind.wrap .i64 (bits .and .u32 a1 r0)))
 else
 ((F_93b a0 a1)).bind fun r2 =>
 (some (IntKind.wrap .i64 ((-(1:Int)) - (IntKind.wrap .i64 r2))))
noncomputable def G_947 : T fa_947 → TH hN0 → Option (Int) := fun x y => F_947 x.1 x.2.1
noncomputable def c_947 : Orc := ent i_947 [] 0 (sp fa_947 hN0 fr_947 hN0 G_947 (outN fr_947))
theorem ok_947 : OrcOk PR c_947 := fnT okO_947 mixed p_947 (by kernel_rfl) (by kernel_rfl) (L := L0) (kp := false) (by kernel_rfl) (inn := (innN fr_947)) (out := (outN fr_947)) (fun _ _ => rfl) (loopsL (l := []) (by kernel_rfl) trivial) (fun x y => by kernel_rfl)
noncomputable def O_928 : Orc := c_943
theorem okO_928 : OrcOk PR O_928 := ok_943
abbrev fa_928 : Fm := (.pair (.i .i64) (.pair (.i .u32) .unit))
abbrev fr_928 : Fm := .b
noncomputable def F_928 (a0 : Int) (a1 : Int) : Option (Bool) :=
 ((F_943 a0 a1)).bind fun r0 =>
 (some (r0 == (0:Int)))
noncomputable def G_928 : T fa_928 → TH hN0 → Option (Bool) := fun x y => F_928 x.1 x.2.1
noncomputable def c_928 : Orc := ent i_928 [] 0 (sp fa_928 hN0 fr_928 hN0 G_928 (outN fr_928))
theorem ok_928 : OrcOk PR c_928 := fnT okO_928 mixed p_928 (by kernel_rfl) (by kernel_rfl) (L := L0) (kp := false) (by kernel_rfl) (inn := (innN fr_928)) (out := (outN fr_928)) (fun _ _ => rfl) (loopsL (l := []) (by kernel_rfl) trivial) (fun x y => by kernel_rfl)
noncomputable def O_932 : Orc := (orm c_94a (orm c_947 c_928))
theorem okO_932 : OrcOk PR O_932 := (orm_ok ok_94a (orm_ok ok_947 ok_928))
abbrev fa_932 : Fm := (.pair (.i .i64) (.pair (.i .u32) (.pair (.i .u32) .unit)))
abbrev fr_932 : Fm := (.tup (.pair (.i .i64) (.pair .b .unit)))
noncomputable def F_932 (a0 : Int) (a1 : Int) (a2 : Int) : Option (Int × Bool × Unit) :=
 ((F_94a a0 a1)).bind fun r0 =>
 bif r0 then
 (some ((0:Int), (false, ())))
 else
 ((F_94a a0 a2)).bind fun r1 =>
 bif r1 then
 (some ((0:Int), (false, ())))
 else
 ((F_947 a0 a1)).bind fun r2 =>
 ((F_947 a0 a2)).bind fun r3 =>
 ((F_928 a0 a1)).bind fun r4 =>
 bif r4 then
 ((F_928 a0 a2)).bind fun r5 =>
 bif r5 then
 (some ((0:Int), (true, ())))
 else
 bif (decide (r2 < r3)) then
 (some ((-(1:Int)), (true, ())))
 else
 bif (decide (r2 > r3)) then
 (some ((1:Int), (true, ())))
 else
 (some ((0:Int), (true, ())))
 else
 bif (decide (r2 < r3)) then
 (some ((-(1:Int)), (true, ())))
 else
 bif (decide (r2 > r3)) then
 (some ((1:Int), (true, ())))
 else
 (some ((0:Int), (true, ())))
noncomputable def G_932 : T fa_932 → TH hN0 → Option (Int × Bool × Unit) := fun x y => F_932 x.1 x.2.1 x.2.2.1
noncomputable def c_932 : Orc := ent i_932 [] 0 (sp fa_932 hN0 fr_932 hN0 G_932 (outN fr_932))
theorem ok_932 : OrcOk PR c_932 := fnT okO_932 mixed p_932 (by kernel_rfl) (by kernel_rfl) (L := L0) (kp := false) (by kernel_rfl) (inn := (innN fr_932)) (out := (outN fr_932)) (fun _ _ => rfl) (loopsL (l := []) (by kernel_rfl) trivial) (fun x y => by kernel_rfl)
noncomputable def O_953 : Orc := c_932
theorem okO_953 : OrcOk PR O_953 := ok_932
abbrev fa_953 : Fm := (.pair (.i .i64) (.pair (.i .u32) (.pair (.i .u32) .unit)))
abbrev fr_953 : Fm := .b
noncomputable def F_953 (a0 : Int) (a1 : Int) (a2 : Int) : Option (Bool) :=
 ((F_932 a0 a1 a2)).bind fun r0 =>
 (some (decide (r0.1 < (0:Int))))
noncomputable def G_953 : T fa_953 → TH hN0 → Option (Bool) := fun x y => F_953 x.1 x.2.1 x.2.2.1
noncomputable def c_953 : Orc := ent i_953 [] 0 (sp fa_953 hN0 fr_953 hN0 G_953 (outN fr_953))
theorem ok_953 : OrcOk PR c_953 := fnT okO_953 mixed p_953 (by kernel_rfl) (by kernel_rfl) (L := L0) (kp := false) (by kernel_rfl) (inn := (innN fr_953)) (out := (outN fr_953)) (fun _ _ => rfl) (loopsL (l := []) (by kernel_rfl) trivial) (fun x y => by kernel_rfl)
noncomputable def O_94c : Orc := c_94f
theorem okO_94c : OrcOk PR O_94c := ok_94f
abbrev fa_94c : Fm := (.pair (.i .i64) (.pair .b (.pair (.i .i64) (.pair (.i .u32) .unit))))
abbrev fr_94c : Fm := (.i .u32)
noncomputable def F_94c (a0 : Int) (a1 : Bool) (a2 : Int) (a3 : Int) : Option (Int) :=
 ((F_94f a0)).bind fun r0 =>
 let x1 : Int := (bits .or .u32 (IntKind.wrap .u32 ((IntKind.wrap .u32 a2) * ((2:Int) ^ (Min.min (Int.toNat (IntKind.wrap .u64 r0.2.1)) (32:Nat))))) a3)
 bif (decide ((0:Int) ≤ (IntKind.wrap .u64 r0.2.1))) then
 bif a1 then
 bif (decide ((0:Int) ≤ (IntKind.wrap .u64 (IntKind.wrap .i64 (r0.1 + r0.2.1))))) then
 (some (bits .or .u32 x1 (IntKind.wrap .u32 ((1:Int) * ((2:Int) ^ (Min.min (Int.toNat (IntKind.wrap .u64 (IntKind.wrap .i64 (r0.1 + r0.2.1)))) (32:Nat)))))))
 else
 none
 else
 (some x1)
 else
 none
noncomputable def G_94c : T fa_94c → TH hN0 → Option (Int) := fun x y => F_94c x.1 x.2.1 x.2.2.1 x.2.2.2.1
noncomputable def c_94c : Orc := ent i_94c [] 0 (sp fa_94c hN0 fr_94c hN0 G_94c (outN fr_94c))
theorem ok_94c : OrcOk PR c_94c := fnT okO_94c mixed p_94c (by kernel_rfl) (by kernel_rfl) (L := L0) (kp := false) (by kernel_rfl) (inn := (innN fr_94c)) (out := (outN fr_94c)) (fun _ _ => rfl) (loopsL (l := []) (by kernel_rfl) trivial) (fun x y => by kernel_rfl)
noncomputable def O_94b : Orc := (orm c_94f (orm c_94d c_94c))
theorem okO_94b : OrcOk PR O_94b := (orm_ok ok_94f (orm_ok ok_94d ok_94c))
abbrev fa_94b : Fm := (.pair (.i .i64) .unit)
abbrev fr_94b : Fm := (.i .u32)
noncomputable def F_94b (a0 : Int) : Option (Int) :=
 ((F_94f a0)).bind fun r0 =>
 ((F_94d a0)).bind fun r1 =>
 bif (decide ((0:Int) ≤ (IntKind.wrap .u64 (IntKind.wrap .i64 (r0.2.1 - (1:Int)))))) then
 ((F_94c a0 false r1 (IntKind.wrap .u32 ((1:Int) * ((2:Int) ^ (Min.min (Int.toNat (IntKind.wrap .u64 (IntKind.wrap .i64 (r0.2.1 - (1:Int))))) (32:Nat))))))).bind fun r2 =>
 (some r2)
 else
 none
noncomputable def G_94b : T fa_94b → TH hN0 → Option (Int) := fun x y => F_94b x.1
noncomputable def c_94b : Orc := ent i_94b [] 0 (sp fa_94b hN0 fr_94b hN0 G_94b (outN fr_94b))
theorem ok_94b : OrcOk PR c_94b := fnT okO_94b mixed p_94b (by kernel_rfl) (by kernel_rfl) (L := L0) (kp := false) (by kernel_rfl) (inn := (innN fr_94b)) (out := (outN fr_94b)) (fun _ _ => rfl) (loopsL (l := []) (by kernel_rfl) trivial) (fun x y => by kernel_rfl)
noncomputable def O_917 : Orc := orn
theorem okO_917 : OrcOk PR O_917 := (orn_ok _)
abbrev fa_917 : Fm := (.pair (.i .i64) .unit)
abbrev fr_917 : Fm := (.tup (.pair (.i .i64) (.pair (.i .i64) .unit)))
noncomputable def F_917 (a0 : Int) : Option (Int × Int × Unit) :=
 bif (a0 == (0:Int)) then
 (some ((5:Int), ((10:Int), ())))
 else
 bif (a0 == (1:Int)) then
 (some ((8:Int), ((7:Int), ())))
 else
 (some ((8:Int), ((23:Int), ())))
noncomputable def G_917 : T fa_917 → TH hN0 → Option (Int × Int × Unit) := fun x y => F_917 x.1
noncomputable def c_917 : Orc := ent i_917 [] 0 (sp fa_917 hN0 fr_917 hN0 G_917 (outN fr_917))
theorem ok_917 : OrcOk PR c_917 := fnT okO_917 mixed p_917 (by kernel_rfl) (by kernel_rfl) (L := L0) (kp := false) (by kernel_rfl) (inn := (innN fr_917)) (out := (outN fr_917)) (fun _ _ => rfl) (loopsL (l := []) (by kernel_rfl) trivial) (fun x y => by kernel_rfl)
noncomputable def O_919 : Orc := c_917
theorem okO_919 : OrcOk PR O_919 := ok_917
abbrev fa_919 : Fm := (.pair (.i .i64) .unit)
abbrev fr_919 : Fm := (.i .u32)
noncomputable def F_919 (a0 : Int) : Option (Int) :=
 ((F_917 a0)).bind fun r0 =>
 bif (decide ((0:Int) ≤ (IntKind.wrap .i64 ((IntKind.wrap .i64 ((1:Int) + r0.1)) + r0.2.1)))) then
 (some (IntKind.wrap .u32 (IntKind.wrap .u64 ((IntKind.wrap .u64 ((1:Int) * ((2:Int) ^ (Min.min (Int.toNat (IntKind.wrap .i64 ((IntKind.wrap .i64 ((1:Int) + r0.1)) + r0.2.1))) (64:Nat))))) - (1:Int)))))
 else
 none
noncomputable def G_919 : T fa_919 → TH hN0 → Option (Int) := fun x y => F_919 x.1
noncomputable def c_919 : Orc := ent i_919 [] 0 (sp fa_919 hN0 fr_919 hN0 G_919 (outN fr_919))
theorem ok_919 : OrcOk PR c_919 := fnT okO_919 mixed p_919 (by kernel_rfl) (by kernel_rfl) (L := L0) (kp := false) (by kernel_rfl) (inn := (innN fr_919)) (out := (outN fr_919)) (fun _ _ => rfl) (loopsL (l := []) (by kernel_rfl) trivial) (fun x y => by kernel_rfl)
noncomputable def O_923 : Orc := c_917
theorem okO_923 : OrcOk PR O_923 := ok_917
abbrev fa_923 : Fm := (.pair (.i .i64) (.pair .b .unit))
abbrev fr_923 : Fm := (.i .u32)
noncomputable def F_923 (a0 : Int) (a1 : Bool) : Option (Int) :=
 ((F_917 a0)).bind fun r0 =>
 bif a1 then
 bif (decide ((0:Int) ≤ (IntKind.wrap .i64 (r0.1 + r0.2.1)))) then
 (some (IntKind.wrap .u32 ((1:Int) * ((2:Int) ^ (Min.min (Int.toNat (IntKind.wrap .i64 (r0.1 + r0.2.1))) (32:Nat))))))
 else
 none
 else
 (some (0:Int))
noncomputable def G_923 : T fa_923 → TH hN0 → Option (Int) := fun x y => F_923 x.1 x.2.1
noncomputable def c_923 : Orc := ent i_923 [] 0 (sp fa_923 hN0 fr_923 hN0 G_923 (outN fr_923))
theorem ok_923 : OrcOk PR c_923 := fnT okO_923 mixed p_923 (by kernel_rfl) (by kernel_rfl) (L := L0) (kp := false) (by kernel_rfl) (inn := (innN fr_923)) (out := (outN fr_923)) (fun _ _ => rfl) (loopsL (l := []) (by kernel_rfl) trivial) (fun x y => by kernel_rfl)
noncomputable def O_918 : Orc := c_923
theorem okO_918 : OrcOk PR O_918 := ok_923
abbrev fa_918 : Fm := (.pair (.i .i64) (.pair .b .unit))
abbrev fr_918 : Fm := (.i .u32)
noncomputable def F_918 (a0 : Int) (a1 : Bool) : Option (Int) :=
 ((F_923 a0 a1)).bind fun r0 =>
 (some r0)
noncomputable def G_918 : T fa_918 → TH hN0 → Option (Int) := fun x y => F_918 x.1 x.2.1
noncomputable def c_918 : Orc := ent i_918 [] 0 (sp fa_918 hN0 fr_918 hN0 G_918 (outN fr_918))
theorem ok_918 : OrcOk PR c_918 := fnT okO_918 mixed p_918 (by kernel_rfl) (by kernel_rfl) (L := L0) (kp := false) (by kernel_rfl) (inn := (innN fr_918)) (out := (outN fr_918)) (fun _ _ => rfl) (loopsL (l := []) (by kernel_rfl) trivial) (fun x y => by kernel_rfl)
noncomputable def O_9a : Orc := (orm c_917 (orm c_919 c_918))
theorem okO_9a : OrcOk PR O_9a := (orm_ok ok_917 (orm_ok ok_919 ok_918))
abbrev fa_9a : Fm := (.pair (.i .i64) (.pair (.i .u32) .unit))
abbrev fr_9a : Fm := (.i .u32)
noncomputable def F_9a (a0 : Int) (a1 : Int) : Option (Int) :=
 ((F_917 a0)).bind fun r0 =>
 let x1 : Int := ((2:Int) ^ (Min.min (Int.toNat r0.2.1) (32:Nat)))
 let x2 : Int := (IntKind.wrap .u32 ((3:Int) * x1))
 let x3 : Int := (IntKind.wrap .u32 ((9:Int) * x1))
 let x4 : Int := (IntKind.wrap .u32 ((1:Int) * x1))
 let x5 : Int := (IntKind.wrap .u32 ((IntKind.wrap .u32 ((1:Int) * ((2:Int) ^ (Min.min (Int.toNat r0.1) (32:Nat))))) - (1:Int)))
 let x6 : Int := (IntKind.wrap .u32 ((x5 / (2:Int)) * x1))
 let x7 : Int := (IntKind.wrap .u32 (x5 * x1))
 bif (decide ((0:Int) ≤ r0.1)) then
 bif (decide ((0:Int) ≤ r0.2.1)) then
 bif (decide ((0:Int) ≤ r0.2.1)) then
 bif (decide ((0:Int) ≤ r0.2.1)) then
 bif (decide ((0:Int) ≤ r0.2.1)) then
 bif (decide ((0:Int) ≤ r0.2.1)) then
 bif (x2 == (0:Int)) then
 none
 else
 bif (decide ((0:Int) ≤ r0.2.1)) then
 bif (decide ((0:Int) ≤ r0.2.1)) then
 bif (decide ((0:Int) ≤ r0.2.1)) then
 bif (decide ((0:Int) ≤ r0.2.1)) then
 bif (decide ((0:Int) ≤ (IntKind.wrap .i64 (r0.2.1 - (1:Int))))) then
 bif (decide ((0:Int) ≤ r0.2.1)) then
 bif (x3 == (0:Int)) then
 none
 else
 bif (decide (((0:Int) ≤ (Int.tmod a1 (15:Int))) ∧ ((Int.tmod a1 (15:Int)) < (15:Int)))) then
 bif (decide (((0:Nat) + ((Int.toNat (Int.tmod a1 (15:Int))) * (1:Nat))) < (15:Nat))) then
 ((F_919 a0)).bind fun r8 =>
 let x9 : Int := (bits .and .u32 (List.getD [(0:Int), (1:Int), (IntKind.wrap .u32 (x4 - (1:Int))), x4, x6, (IntKind.wrap .u32 (x6 + (1:Int))), (IntKind.wrap .u32 (x6 - (1:Int))), (IntKind.wrap .u32 (x6 + x4)), (IntKind.wrap .u32 (x6 + (Int.tmod (a1 / (16:Int)) x2))), (IntKind.wrap .u32 (x7 - (1:Int))), x7, (bits .or .u32 x7 (1:Int)), (bits .or .u32 x7 (IntKind.wrap .u32 ((1:Int) * ((2:Int) ^ (Min.min (Int.toNat (IntKind.wrap .i64 (r0.2.1 - (1:Int)))) (32:Nat)))))), (IntKind.wrap .u32 (x6 - (Int.tmod (a1 / (16:Int)) x3))), (a1 / (16:Int))] ((0:Nat) + ((Int.toNat (Int.tmod a1 (15:Int))) * (1:Nat))) (0:Int)) r8)
 bif ((a1 / (2147483648:Int)) == (1:Int)) then
 ((F_918 a0 true)).bind fun r10 =>
 (some (bits .or .u32 x9 r10))
 else
 (some x9)
 else
 none
 else
 none
 else
 none
 else
 none
 else
 none
 else
 none
 else
 none
 else
 none
 else
 none
 else
 none
 else
 none
 else
 none
 else
 none
 else
 none
noncomputable def G_9a : T fa_9a → TH hN0 → Option (Int) := fun x y => F_9a x.1 x.2.1
noncomputable def c_9a : Orc := ent i_9a [] 0 (sp fa_9a hN0 fr_9a hN0 G_9a (outN fr_9a))
theorem ok_9a : OrcOk PR c_9a := fnT okO_9a mixed p_9a (by kernel_rfl) (by kernel_rfl) (L := L0) (kp := false) (by kernel_rfl) (inn := (innN fr_9a)) (out := (outN fr_9a)) (fun _ _ => rfl) (loopsL (l := []) (by kernel_rfl) trivial) (fun x y => by kernel_rfl)
noncomputable def O_99 : Orc := (orm c_917 c_918)
theorem okO_99 : OrcOk PR O_99 := (orm_ok ok_917 ok_918)
abbrev fa_99 : Fm := (.pair (.i .i64) (.pair (.i .u32) .unit))
abbrev fr_99 : Fm := (.i .u32)
noncomputable def F_99 (a0 : Int) (a1 : Int) : Option (Int) :=
 bif ((Int.tmod a1 (7:Int)) == (0:Int)) then
 (some (0:Int))
 else
 ((F_917 a0)).bind fun r0 =>
 let x1 : Int := ((2:Int) ^ (Min.min (Int.toNat r0.2.1) (32:Nat)))
 let x2 : Int := (IntKind.wrap .u32 ((4:Int) * x1))
 let x3 : Int := (IntKind.wrap .u32 ((IntKind.wrap .u32 ((IntKind.wrap .u32 (((IntKind.wrap .u32 ((IntKind.wrap .u32 ((1:Int) * ((2:Int) ^ (Min.min (Int.toNat r0.1) (32:Nat))))) - (1:Int))) / (2:Int)) * x1)) - (IntKind.wrap .u32 ((2:Int) * x1)))) + (Int.tmod (a1 / (8:Int)) x2)))
 bif (decide ((0:Int) ≤ r0.1)) then
 bif (decide ((0:Int) ≤ r0.2.1)) then
 bif (decide ((0:Int) ≤ r0.2.1)) then
 bif (decide ((0:Int) ≤ r0.2.1)) then
 bif (x2 == (0:Int)) then
 none
 else
 bif ((bits .and .u32 a1 (1:Int)) == (1:Int)) then
 ((F_918 a0 true)).bind fun r4 =>
 (some (bits .or .u32 x3 r4))
 else
 (some x3)
 else
 none
 else
 none
 else
 none
 else
 none
noncomputable def G_99 : T fa_99 → TH hN0 → Option (Int) := fun x y => F_99 x.1 x.2.1
noncomputable def c_99 : Orc := ent i_99 [] 0 (sp fa_99 hN0 fr_99 hN0 G_99 (outN fr_99))
theorem ok_99 : OrcOk PR c_99 := fnT okO_99 mixed p_99 (by kernel_rfl) (by kernel_rfl) (L := L0) (kp := false) (by kernel_rfl) (inn := (innN fr_99)) (out := (outN fr_99)) (fun _ _ => rfl) (loopsL (l := []) (by kernel_rfl) trivial) (fun x y => by kernel_rfl)
noncomputable def O_95f : Orc := (orm c_94f (orm c_94d c_94c))
theorem okO_95f : OrcOk PR O_95f := (orm_ok ok_94f (orm_ok ok_94d ok_94c))
abbrev fa_95f : Fm := (.pair (.i .i64) (.pair .b .unit))
abbrev fr_95f : Fm := (.i .u32)
noncomputable def F_95f (a0 : Int) (a1 : Bool) : Option (Int) :=
 ((F_94f a0)).bind fun r0 =>
 ((F_94d a0)).bind fun r1 =>
 bif (decide ((0:Int) ≤ (IntKind.wrap .u64 r0.2.1))) then
 ((F_94c a0 a1 (IntKind.wrap .i64 (r1 - (1:Int))) (IntKind.wrap .u32 ((IntKind.wrap .u32 ((1:Int) * ((2:Int) ^ (Min.min (Int.toNat (IntKind.wrap .u64 r0.2.1)) (32:Nat))))) - (1:Int))))).bind fun r2 =>
 (some r2)
 else
 none
noncomputable def G_95f : T fa_95f → TH hN0 → Option (Int) := fun x y => F_95f x.1 x.2.1
noncomputable def c_95f : Orc := ent i_95f [] 0 (sp fa_95f hN0 fr_95f hN0 G_95f (outN fr_95f))
theorem ok_95f : OrcOk PR c_95f := fnT okO_95f mixed p_95f (by kernel_rfl) (by kernel_rfl) (L := L0) (kp := false) (by kernel_rfl) (inn := (innN fr_95f)) (out := (outN fr_95f)) (fun _ _ => rfl) (loopsL (l := []) (by kernel_rfl) trivial) (fun x y => by kernel_rfl)
noncomputable def O_950 : Orc := c_94f
theorem okO_950 : OrcOk PR O_950 := ok_94f
abbrev fa_950 : Fm := (.pair (.i .i64) .unit)
abbrev fr_950 : Fm := (.i .i64)
noncomputable def F_950 (a0 : Int) : Option (Int) :=
 ((F_94f a0)).bind fun r0 =>
 bif (decide ((0:Int) ≤ (IntKind.wrap .u64 (IntKind.wrap .i64 (r0.1 - (1:Int)))))) then
 (some (IntKind.wrap .i64 ((2:Int) - (IntKind.wrap .i64 ((1:Int) * ((2:Int) ^ (Min.min (Int.toNat (IntKind.wrap .u64 (IntKind.wrap .i64 (r0.1 - (1:Int))))) (64:Nat))))))))
 else
 none
noncomputable def G_950 : T fa_950 → TH hN0 → Option (Int) := fun x y => F_950 x.1
noncomputable def c_950 : Orc := ent i_950 [] 0 (sp fa_950 hN0 fr_950 hN0 G_950 (outN fr_950))
theorem ok_950 : OrcOk PR c_950 := fnT okO_950 mixed p_950 (by kernel_rfl) (by kernel_rfl) (L := L0) (kp := false) (by kernel_rfl) (inn := (innN fr_950)) (out := (outN fr_950)) (fun _ _ => rfl) (loopsL (l := []) (by kernel_rfl) trivial) (fun x y => by kernel_rfl)
noncomputable def O_92c : Orc := (orm c_94f (orm c_94e (orm c_950 c_94d)))
theorem okO_92c : OrcOk PR O_92c := (orm_ok ok_94f (orm_ok ok_94e (orm_ok ok_950 ok_94d)))
abbrev fa_92c : Fm := (.pair (.i .i64) (.pair (.i .u32) .unit))
abbrev fr_92c : Fm := (.tup (.pair .b (.pair (.i .i64) (.pair (.i .u64) .unit))))
noncomputable def F_92c (a0 : Int) (a1 : Int) : Option (Bool × Int × Int × Unit) :=
 ((F_94f a0)).bind fun r0 =>
 ((F_94e a0 a1)).bind fun r1 =>
 let x2 : Int := r1.2.2.1
 let x3 : Int := (IntKind.wrap .u64 x2)
 bif (r1.2.1 == (0:Int)) then
 ((F_950 a0)).bind fun r4 =>
 (some (r1.1, ((IntKind.wrap .i64 (r4 - r0.2.1)), (x3, ()))))
 else
 ((F_94d a0)).bind fun r5 =>
 bif (r1.2.1 == r5) then
 (some (r1.1, ((0:Int), ((0:Int), ()))))
 else
 ((F_950 a0)).bind fun r6 =>
 bif (decide ((0:Int) ≤ (IntKind.wrap .u64 r0.2.1))) then
 (some (r1.1, ((IntKind.wrap .i64 ((IntKind.wrap .i64 ((IntKind.wrap .i64 (r6 - r0.2.1)) + r1.2.1)) - (1:Int))), ((bits .or .u64 x3 (IntKind.wrap .u64 ((1:Int) * ((2:Int) ^ (Min.min (Int.toNat (IntKind.wrap .u64 r0.2.1)) (64:Nat)))))), ()))))
 else
 none
noncomputable def G_92c : T fa_92c → TH hN0 → Option (Bool × Int × Int × Unit) := fun x y => F_92c x.1 x.2.1
noncomputable def c_92c : Orc := ent i_92c [] 0 (sp fa_92c hN0 fr_92c hN0 G_92c (outN fr_92c))
theorem ok_92c : OrcOk PR c_92c := fnT okO_92c mixed p_92c (by kernel_rfl) (by kernel_rfl) (L := L0) (kp := false) (by kernel_rfl) (inn := (innN fr_92c)) (out := (outN fr_92c)) (fun _ _ => rfl) (loopsL (l := []) (by kernel_rfl) trivial) (fun x y => by kernel_rfl)
noncomputable def O_929 : Orc := (orm c_94d c_94c)
theorem okO_929 : OrcOk PR O_929 := (orm_ok ok_94d ok_94c)
abbrev fa_929 : Fm := (.pair (.i .i64) (.pair .b .unit))
abbrev fr_929 : Fm := (.i .u32)
noncomputable def F_929 (a0 : Int) (a1 : Bool) : Option (Int) :=
 ((F_94d a0)).bind fun r0 =>
 ((F_94c a0 a1 r0 (0:Int))).bind fun r1 =>
 (some r1)
noncomputable def G_929 : T fa_929 → TH hN0 → Option (Int) := fun x y => F_929 x.1 x.2.1
noncomputable def c_929 : Orc := ent i_929 [] 0 (sp fa_929 hN0 fr_929 hN0 G_929 (outN fr_929))
theorem ok_929 : OrcOk PR c_929 := fnT okO_929 mixed p_929 (by kernel_rfl) (by kernel_rfl) (L := L0) (kp := false) (by kernel_rfl) (inn := (innN fr_929)) (out := (outN fr_929)) (fun _ _ => rfl) (loopsL (l := []) (by kernel_rfl) trivial) (fun x y => by kernel_rfl)
noncomputable def O_92b : Orc := c_943
theorem okO_92b : OrcOk PR O_92b := ok_943
abbrev fa_92b : Fm := (.pair (.i .i64) (.pair (.i .u32) .unit))
abbrev fr_92b : Fm := .b
noncomputable def F_92b (a0 : Int) (a1 : Int) : Option (Bool) :=
 ((F_943 a0 a1)).bind fun r0 =>
 (some (r0 == (3:Int)))
noncomputable def G_92b : T fa_92b → TH hN0 → Option (Bool) := fun x y => F_92b x.1 x.2.1
noncomputable def c_92b : Orc := ent i_92b [] 0 (sp fa_92b hN0 fr_92b hN0 G_92b (outN fr_92b))
theorem ok_92b : OrcOk PR c_92b := fnT okO_92b mixed p_92b (by kernel_rfl) (by kernel_rfl) (L := L0) (kp := false) (by kernel_rfl) (inn := (innN fr_92b)) (out := (outN fr_92b)) (fun _ _ => rfl) (loopsL (l := []) (by kernel_rfl) trivial) (fun x y => by kernel_rfl)
noncomputable def O_944 : Orc := c_94c
theorem okO_944 : OrcOk PR O_944 := ok_94c
abbrev fa_944 : Fm := (.pair (.i .i64) (.pair .b .unit))
abbrev fr_944 : Fm := (.i .u32)
noncomputable def F_944 (a0 : Int) (a1 : Bool) : Option (Int) :=
 ((F_94c a0 a1 (0:Int) (0:Int))).bind fun r0 =>
 (some r0)
noncomputable def G_944 : T fa_944 → TH hN0 → Option (Int) := fun x y => F_944 x.1 x.2.1
noncomputable def c_944 : Orc := ent i_944 [] 0 (sp fa_944 hN0 fr_944 hN0 G_944 (outN fr_944))
theorem ok_944 : OrcOk PR c_944 := fnT okO_944 mixed p_944 (by kernel_rfl) (by kernel_rfl) (L := L0) (kp := false) (by kernel_rfl) (inn := (innN fr_944)) (out := (outN fr_944)) (fun _ _ => rfl) (loopsL (l := []) (by kernel_rfl) trivial) (fun x y => by kernel_rfl)
noncomputable def O_95c : Orc := (orm c_94e c_94d)
theorem okO_95c : OrcOk PR O_95c := (orm_ok ok_94e ok_94d)
abbrev fa_95c : Fm := (.pair (.i .i64) (.pair (.i .u32) .unit))
abbrev fr_95c : Fm := .b
noncomputable def F_95c (a0 : Int) (a1 : Int) : Option (Bool) :=
 ((F_94e a0 a1)).bind fun r0 =>
 ((F_94d a0)).bind fun r1 =>
 (some (decide (r0.2.1 < r1)))
noncomputable def G_95c : T fa_95c → TH hN0 → Option (Bool) := fun x y => F_95c x.1 x.2.1
noncomputable def c_95c : Orc := ent i_95c [] 0 (sp fa_95c hN0 fr_95c hN0 G_95c (outN fr_95c))
theorem ok_95c : OrcOk PR c_95c := fnT okO_95c mixed p_95c (by kernel_rfl) (by kernel_rfl) (L := L0) (kp := false) (by kernel_rfl) (inn := (innN fr_95c)) (out := (outN fr_95c)) (fun _ _ => rfl) (loopsL (l := []) (by kernel_rfl) trivial) (fun x y => by kernel_rfl)
noncomputable def O_959 : Orc := (orm c_95f c_929)
theorem okO_959 : OrcOk PR O_959 := (orm_ok ok_95f ok_929)
abbrev fa_959 : Fm := (.pair (.i .i64) (.pair (.i .i64) (.pair .b .unit)))
abbrev fr_959 : Fm := (.tup (.pair (.i .u32) (.pair (.agg (.pair .b (.pair .b (.pair .b (.pair .b (.pair .b .unit)))))) .unit)))
noncomputable def F_959 (a0 : Int) (a1 : Int) (a2 : Bool) : Option (Int × (Bool × Bool × Bool × Bool × Bool × Unit) × Unit) :=
 bif (a1 == (1:Int)) then
 ((F_95f a0 a2)).bind fun r0 =>
 (some (r0, ((false, (false, (true, (false, (true, ()))))), ())))
 else
 bif (a1 == (2:Int)) then
 bif a2 then
 ((F_95f a0 a2)).bind fun r1 =>
 (some (r1, ((false, (false, (true, (false, (true, ()))))), ())))
 else
 ((F_929 a0 a2)).bind fun r2 =>
 (some (r2, ((false, (false, (true, (false, (true, ()))))), ())))
 else
 bif (a1 == (3:Int)) then
 bif (!a2) then
 ((F_95f a0 a2)).bind fun r3 =>
 (some (r3, ((false, (false, (true, (false, (true, ()))))), ())))
 else
 ((F_929 a0 a2)).bind fun r4 =>
 (some (r4, ((false, (false, (true, (false, (true, ()))))), ())))
 else
 ((F_929 a0 a2)).bind fun r5 =>
 (some (r5, ((false, (false, (true, (false, (true, ()))))), ())))
noncomputable def G_959 : T fa_959 → TH hN0 → Option (Int × (Bool × Bool × Bool × Bool × Bool × Unit) × Unit) := fun x y => F_959 x.1 x.2.1 x.2.2.1
noncomputable def c_959 : Orc := ent i_959 [] 0 (sp fa_959 hN0 fr_959 hN0 G_959 (outN fr_959))
theorem ok_959 : OrcOk PR c_959 := fnT okO_959 mixed p_959 (by kernel_rfl) (by kernel_rfl) (L := L0) (kp := false) (by kernel_rfl) (inn := (innN fr_959)) (out := (outN fr_959)) (fun _ _ => rfl) (loopsL (l := []) (by kernel_rfl) trivial) (fun x y => by kernel_rfl)
noncomputable def O_951 : Orc := orn
theorem okO_951 : OrcOk PR O_951 := (orn_ok _)
abbrev fa_951 : Fm := (.pair (.i .u64) .unit)
abbrev fr_951 : Fm := (.i .i64)
noncomputable def F_951 (a0 : Int) : Option (Int) :=
 let x0 : Int := (bif (decide (a0 ≥ (4294967296:Int))) then (32:Int) else (0:Int))
 let x1 : Int := (bif (decide ((bif (decide (a0 ≥ (4294967296:Int))) then (a0 / (4294967296:Int)) else a0) ≥ (65536:Int))) then (IntKind.wrap .i64 (x0 + (16:Int))) else x0)
 let x2 : Int := (bif (decide (a0 ≥ (4294967296:Int))) then (a0 / (4294967296:Int)) else a0)
 let x3 : Int := (bif (decide (x2 ≥ (65536:Int))) then (x2 / (65536:Int)) else x2)
 bif (decide (((0:Int) ≤ (IntKind.wrap .u8 (bif (decide (x3 ≥ (256:Int))) then (x3 / (256:Int)) else x3))) ∧ ((IntKind.wrap .u8 (bif (decide (x3 ≥ (256:Int))) then (x3 / (256:Int)) else x3)) < (256:Int)))) then
 (some (IntKind.wrap .i64 ((bif (decide (x3 ≥ (256:Int))) then (IntKind.wrap .i64 (x1 + (8:Int))) else x1) + (IntKind.wrap .i64 (((UInt8.toNat (List.getD [(0:UInt8), (1:UInt8), (2:UInt8), (2:UInt8), (3:UInt8), (3:UInt8), (3:UInt8), (3:UInt8), (4:UInt8), (4:UInt8), (4:UInt8), (4:UInt8), (4:UInt8), (4:UInt8), (4:UInt8), (4:UInt8), (5:UInt8), (5:UInt8), (5:UInt8), (5:UInt8), (5:UInt8), (5:UInt8), (5:UInt8), (5:UInt8), (5:UInt8), (5:UInt8), (5:UInt8), (5:UInt8), (5:UInt8), (5:UInt8), (5:UInt8), (5:UInt8), (6:UInt8), (6:UInt8), (6:UInt8), (6:UInt8), (6:UInt8), (6:UInt8), (6:UInt8), (6:UInt8), (6:UInt8), (6:UInt8), (6:UInt8), (6:UInt8), (6:UInt8), (6:UInt8), (6:UInt8), (6:UInt8), (6:UInt8), (6:UInt8), (6:UInt8), (6:UInt8), (6:UInt8), (6:UInt8), (6:UInt8), (6:UInt8), (6:UInt8), (6:UInt8), (6:UInt8), (6:UInt8), (6:UInt8), (6:UInt8), (6:UInt8), (6:UInt8), (7:UInt8), (7:UInt8), (7:UInt8), (7:UInt8), (7:UInt8), (7:UInt8), (7:UInt8), (7:UInt8), (7:UInt8), (7:UInt8), (7:UInt8), (7:UInt8), (7:UInt8), (7:UInt8), (7:UInt8), (7:UInt8), (7:UInt8), (7:UInt8), (7:UInt8), (7:UInt8), (7:UInt8), (7:UInt8), (7:UInt8), (7:UInt8), (7:UInt8), (7:UInt8), (7:UInt8), (7:UInt8), (7:UInt8), (7:UInt8), (7:UInt8), (7:UInt8), (7:UInt8), (7:UInt8), (7:UInt8), (7:UInt8), (7:UInt8), (7:UInt8), (7:UInt8), (7:UInt8), (7:UInt8), (7:UInt8), (7:UInt8), (7:UInt8), (7:UInt8), (7:UInt8), (7:UInt8), (7:UInt8), (7:UInt8), (7:UInt8), (7:UInt8), (7:UInt8), (7:UInt8), (7:UInt8), (7:UInt8), (7:UInt8), (7:UInt8), (7:UInt8), (7:UInt8), (7:UInt8), (7:UInt8), (7:UInt8), (7:UInt8), (7:UInt8), (8:UInt8), (8:UInt8), (8:UInt8), (8:UInt8), (8:UInt8), (8:UInt8), (8:UInt8), (8:UInt8), (8:UInt8), (8:UInt8), (8:UInt8), (8:UInt8), (8:UInt8), (8:UInt8), (8:UInt8), (8:UInt8), (8:UInt8), (8:UInt8), (8:UInt8), (8:UInt8), (8:UInt8), (8:UInt8), (8:UInt8), (8:UInt8), (8:UInt8), (8:UInt8), (8:UInt8), (8:UInt8), (8:UInt8), (8:UInt8), (8:UInt8), (8:UInt8), (8:UInt8), (8:UInt8), (8:UInt8), (8:UInt8), (8:UInt8), (8:UInt8), (8:UInt8), (8:UInt8), (8:UInt8), (8:UInt8), (8:UInt8), (8:UInt8), (8:UInt8), (8:UInt8), (8:UInt8), (8:UInt8), (8:UInt8), (8:UInt8), (8:UInt8), (8:UInt8), (8:UInt8), (8:UInt8), (8:UInt8), (8:UInt8), (8:UInt8), (8:UInt8), (8:UInt8), (8:UInt8), (8:UInt8), (8:UInt8), (8:UInt8), (8:UInt8), (8:UInt8), (8:UInt8), (8:UInt8), (8:UInt8), (8:UInt8), (8:UInt8), (8:UInt8), (8:UInt8), (8:UInt8), (8:UInt8), (8:UInt8), (8:UInt8), (8:UInt8), (8:UInt8), (8:UInt8), (8:UInt8), (8:UInt8), (8:UInt8), (8:UInt8), (8:UInt8), (8:UInt8), (8:UInt8), (8:UInt8), (8:UInt8), (8:UInt8), (8:UInt8), (8:UInt8), (8:UInt8), (8:UInt8), (8:UInt8), (8:UInt8), (8:UInt8), (8:UInt8), (8:UInt8), (8:UInt8), (8:UInt8), (8:UInt8), (8:UInt8), (8:UInt8), (8:UInt8), (8:UInt8), (8:UInt8), (8:UInt8), (8:UInt8), (8:UInt8), (8:UInt8), (8:UInt8), (8:UInt8), (8:UInt8), (8:UInt8), (8:UInt8), (8:UInt8), (8:UInt8), (8:UInt8), (8:UInt8), (8:UInt8), (8:UInt8), (8:UInt8), (8:UInt8), (8:UInt8), (8:UInt8), (8:UInt8), (8:UInt8), (8:UInt8)] (Int.toNat (IntKind.wrap .u8 (bif (decide (x3 ≥ (256:Int))) then (x3 / (256:Int)) else x3))) (0:UInt8))) : Nat) : Int)))))
 else
 none
noncomputable def G_951 : T fa_951 → TH hN0 → Option (Int) := fun x y => F_951 x.1
noncomputable def c_951 : Orc := ent i_951 [] 0 (sp fa_951 hN0 fr_951 hN0 G_951 (outN fr_951))
theorem ok_951 : OrcOk PR c_951 := fnT okO_951 mixed p_951 (by kernel_rfl) (by kernel_rfl) (L := L0) (kp := false) (by kernel_rfl) (inn := (innN fr_951)) (out := (outN fr_951)) (fun _ _ => rfl) (loopsL (l := []) (by kernel_rfl) trivial) (fun x y => by kernel_rfl)
noncomputable def O_92d : Orc := c_951
theorem okO_92d : OrcOk PR O_92d := ok_951
abbrev fa_92d : Fm := (.pair (.i .u64) .unit)
abbrev fr_92d : Fm := (.i .i64)
noncomputable def F_92d (a0 : Int) : Option (Int) :=
 ((F_951 a0)).bind fun r0 =>
 (some r0)
noncomputable def G_92d : T fa_92d → TH hN0 → Option (Int) := fun x y => F_92d x.1
noncomputable def c_92d : Orc := ent i_92d [] 0 (sp fa_92d hN0 fr_92d hN0 G_92d (outN fr_92d))
theorem ok_92d : OrcOk PR c_92d := fnT okO_92d mixed p_92d (by kernel_rfl) (by kernel_rfl) (L := L0) (kp := false) (by kernel_rfl) (inn := (innN fr_92d)) (out := (outN fr_92d)) (fun _ _ => rfl) (loopsL (l := []) (by kernel_rfl) trivial) (fun x y => by kernel_rfl)
noncomputable def O_945 : Orc := orn
theorem okO_945 : OrcOk PR O_945 := (orn_ok _)
abbrev fa_945 : Fm := (.pair (.i .u64) (.pair (.i .i64) .unit))
abbrev fr_945 : Fm := (.tup (.pair (.i .u64) (.pair .b .unit)))
noncomputable def F_945 (a0 : Int) (a1 : Int) : Option (Int × Bool × Unit) :=
 let x0 : Int := ((2:Int) ^ (Min.min (Int.toNat (IntKind.wrap .u64 a1)) (64:Nat)))
 let x1 : Int := (a0 / x0)
 let x2 : Int := ((2:Int) ^ (Min.min (Int.toNat (IntKind.wrap .u64 (IntKind.wrap .i64 ((0:Int) - a1)))) (64:Nat)))
 let x3 : Int := (IntKind.wrap .u64 (a0 * x2))
 bif (decide (a1 ≥ (64:Int))) then
 (some ((0:Int), ((a0 != (0:Int)), ())))
 else
 bif (decide (a1 ≤ (-(64:Int)))) then
 (some ((0:Int), ((a0 != (0:Int)), ())))
 else
 bif (decide (a1 ≥ (0:Int))) then
 bif (decide ((0:Int) ≤ (IntKind.wrap .u64 a1))) then
 bif (decide ((0:Int) ≤ (IntKind.wrap .u64 a1))) then
 (some (x1, (((IntKind.wrap .u64 (x1 * x0)) != a0), ())))
 else
 none
 else
 none
 else
 bif (decide ((0:Int) ≤ (IntKind.wrap .u64 (IntKind.wrap .i64 ((0:Int) - a1))))) then
 bif (decide ((0:Int) ≤ (IntKind.wrap .u64 (IntKind.wrap .i64 ((0:Int) - a1))))) then
 (some (x3, (((x3 / x2) != a0), ())))
 else
 none
 else
 none
noncomputable def G_945 : T fa_945 → TH hN0 → Option (Int × Bool × Unit) := fun x y => F_945 x.1 x.2.1
noncomputable def c_945 : Orc := ent i_945 [] 0 (sp fa_945 hN0 fr_945 hN0 G_945 (outN fr_945))
theorem ok_945 : OrcOk PR c_945 := fnT okO_945 mixed p_945 (by kernel_rfl) (by kernel_rfl) (L := L0) (kp := false) (by kernel_rfl) (inn := (innN fr_945)) (out := (outN fr_945)) (fun _ _ => rfl) (loopsL (l := []) (by kernel_rfl) trivial) (fun x y => by kernel_rfl)
noncomputable def O_95a : Orc := orn
theorem okO_95a : OrcOk PR O_95a := (orn_ok _)
abbrev fa_95a : Fm := (.pair (.i .u64) (.pair (.i .i64) .unit))
abbrev fr_95a : Fm := (.i .u64)
noncomputable def F_95a (a0 : Int) (a1 : Int) : Option (Int) :=
 bif (decide (a1 < (1:Int))) then
 (some (0:Int))
 else
 bif (decide (a1 ≥ (64:Int))) then
 (some a0)
 else
 bif (decide ((0:Int) ≤ (IntKind.wrap .u64 a1))) then
 (some (bits .and .u64 a0 (IntKind.wrap .u64 ((IntKind.wrap .u64 ((1:Int) * ((2:Int) ^ (Min.min (Int.toNat (IntKind.wrap .u64 a1)) (64:Nat))))) - (1:Int)))))
 else
 none
noncomputable def G_95a : T fa_95a → TH hN0 → Option (Int) := fun x y => F_95a x.1 x.2.1
noncomputable def c_95a : Orc := ent i_95a [] 0 (sp fa_95a hN0 fr_95a hN0 G_95a (outN fr_95a))
theorem ok_95a : OrcOk PR c_95a := fnT okO_95a mixed p_95a (by kernel_rfl) (by kernel_rfl) (L := L0) (kp := false) (by kernel_rfl) (inn := (innN fr_95a)) (out := (outN fr_95a)) (fun _ _ => rfl) (loopsL (l := []) (by kernel_rfl) trivial) (fun x y => by kernel_rfl)
noncomputable def O_956 : Orc := (orm c_94f (orm c_950 c_92d))
theorem okO_956 : OrcOk PR O_956 := (orm_ok ok_94f (orm_ok ok_950 ok_92d))
abbrev fa_956 : Fm := (.pair (.i .i64) (.pair (.i .i64) (.pair (.i .u64) .unit)))
abbrev fr_956 : Fm := (.i .i64)
noncomputable def F_956 (a0 : Int) (a1 : Int) (a2 : Int) : Option (Int) :=
 ((F_94f a0)).bind fun r0 =>
 ((F_950 a0)).bind fun r1 =>
 bif (decide (a2 > (0:Int))) then
 ((F_92d a2)).bind fun r2 =>
 (some (IntKind.wrap .i64 ((mx r1 (IntKind.wrap .i64 ((IntKind.wrap .i64 (a1 + r2)) - (1:Int)))) - r0.2.1)))
 else
 (some (IntKind.wrap .i64 (r1 - r0.2.1)))
noncomputable def G_956 : T fa_956 → TH hN0 → Option (Int) := fun x y => F_956 x.1 x.2.1 x.2.2.1
noncomputable def c_956 : Orc := ent i_956 [] 0 (sp fa_956 hN0 fr_956 hN0 G_956 (outN fr_956))
theorem ok_956 : OrcOk PR c_956 := fnT okO_956 mixed p_956 (by kernel_rfl) (by kernel_rfl) (L := L0) (kp := false) (by kernel_rfl) (inn := (innN fr_956)) (out := (outN fr_956)) (fun _ _ => rfl) (loopsL (l := []) (by kernel_rfl) trivial) (fun x y => by kernel_rfl)
noncomputable def O_957 : Orc := c_945
theorem okO_957 : OrcOk PR O_957 := ok_945
abbrev fa_957 : Fm := (.pair (.i .u64) (.pair (.i .i64) (.pair .b .unit)))
abbrev fr_957 : Fm := (.tup (.pair (.i .u64) (.pair (.i .i64) .unit)))
noncomputable def F_957 (a0 : Int) (a1 : Int) (a2 : Bool) : Option (Int × Int × Unit) :=
 bif (decide (a1 ≤ (0:Int))) then
 ((F_945 a0 a1)).bind fun r0 =>
 bif a2 then
 (some (r0.1, ((1:Int), ())))
 else
 (some (r0.1, ((0:Int), ())))
 else
 ((F_945 a0 a1)).bind fun r1 =>
 bif (!r1.2.1) then
 bif a2 then
 (some (r1.1, ((1:Int), ())))
 else
 (some (r1.1, ((0:Int), ())))
 else
 ((F_945 a0 (IntKind.wrap .i64 (a1 - (1:Int))))).bind fun r2 =>
 bif ((bits .and .u64 r2.1 (1:Int)) == (0:Int)) then
 (some (r1.1, ((1:Int), ())))
 else
 bif r2.2.1 then
 (some (r1.1, ((3:Int), ())))
 else
 bif a2 then
 (some (r1.1, ((3:Int), ())))
 else
 (some (r1.1, ((2:Int), ())))
noncomputable def G_957 : T fa_957 → TH hN0 → Option (Int × Int × Unit) := fun x y => F_957 x.1 x.2.1 x.2.2.1
noncomputable def c_957 : Orc := ent i_957 [] 0 (sp fa_957 hN0 fr_957 hN0 G_957 (outN fr_957))
theorem ok_957 : OrcOk PR c_957 := fnT okO_957 mixed p_957 (by kernel_rfl) (by kernel_rfl) (L := L0) (kp := false) (by kernel_rfl) (inn := (innN fr_957)) (out := (outN fr_957)) (fun _ _ => rfl) (loopsL (l := []) (by kernel_rfl) trivial) (fun x y => by kernel_rfl)
noncomputable def O_958 : Orc := orn
theorem okO_958 : OrcOk PR O_958 := (orn_ok _)
abbrev fa_958 : Fm := (.pair (.i .i64) (.pair .b (.pair (.i .u64) (.pair (.i .i64) .unit))))
abbrev fr_958 : Fm := .b
noncomputable def F_958 (a0 : Int) (a1 : Bool) (a2 : Int) (a3 : Int) : Option (Bool) :=
 bif (a0 == (1:Int)) then
 (some false)
 else
 bif (a0 == (2:Int)) then
 bif (!a1) then
 (some (a3 != (0:Int)))
 else
 (some false)
 else
 bif (a0 == (3:Int)) then
 bif a1 then
 (some (a3 != (0:Int)))
 else
 (some false)
 else
 bif (a0 == (4:Int)) then
 (some (decide (a3 ≥ (2:Int))))
 else
 bif (a3 == (3:Int)) then
 (some true)
 else
 bif (a3 == (2:Int)) then
 (some ((bits .and .u64 a2 (1:Int)) == (1:Int)))
 else
 (some false)
noncomputable def G_958 : T fa_958 → TH hN0 → Option (Bool) := fun x y => F_958 x.1 x.2.1 x.2.2.1 x.2.2.2.1
noncomputable def c_958 : Orc := ent i_958 [] 0 (sp fa_958 hN0 fr_958 hN0 G_958 (outN fr_958))
theorem ok_958 : OrcOk PR c_958 := fnT okO_958 mixed p_958 (by kernel_rfl) (by kernel_rfl) (L := L0) (kp := false) (by kernel_rfl) (inn := (innN fr_958)) (out := (outN fr_958)) (fun _ _ => rfl) (loopsL (l := []) (by kernel_rfl) trivial) (fun x y => by kernel_rfl)
noncomputable def O_938 : Orc := (orm c_944 (orm c_94f (orm c_956 (orm c_957 (orm c_958 (orm c_950 (orm c_94d (orm c_959 (orm c_92d (orm c_95a c_94c))))))))))
theorem okO_938 : OrcOk PR O_938 := (orm_ok ok_944 (orm_ok ok_94f (orm_ok ok_956 (orm_ok ok_957 (orm_ok ok_958 (orm_ok ok_950 (orm_ok ok_94d (orm_ok ok_959 (orm_ok ok_92d (orm_ok ok_95a ok_94c))))))))))
abbrev fa_938 : Fm := (.pair (.i .i64) (.pair (.i .i64) (.pair .b (.pair (.i .i64) (.pair (.i .u64) (.pair .b .unit))))))
abbrev fr_938 : Fm := (.tup (.pair (.i .u32) (.pair (.agg (.pair .b (.pair .b (.pair .b (.pair .b (.pair .b .unit)))))) .unit)))
noncomputable def F_938 (a0 : Int) (a1 : Int) (a2 : Bool) (a3 : Int) (a4 : Int) (a5 : Bool) : Option (Int × (Bool × Bool × Bool × Bool × Bool × Unit) × Unit) :=
 let x0 : Int := (mn (mx a3 (-(10000:Int))) (10000:Int))
 bif (a4 == (0:Int)) then
 bif (!a5) then
 ((F_944 a0 a2)).bind fun r1 =>
 (some (r1, ((false, (false, (false, (false, (false, ()))))), ())))
 else
 ((F_94f a0)).bind fun r2 =>
 ((F_956 a0 x0 a4)).bind fun r3 =>
 ((F_957 a4 (IntKind.wrap .i64 (r3 - x0)) a5)).bind fun r4 =>
 let x5 : Bool := (r4.2.1 != (0:Int))
 ((F_958 a1 a2 r4.1 r4.2.1)).bind fun r6 =>
 let x7 : Int := (bif r6 then (IntKind.wrap .u64 (r4.1 + (1:Int))) else r4.1)
 let x8 : Bool := ((x7 / ((2:Int) ^ (Min.min (Int.toNat (IntKind.wrap .u64 (IntKind.wrap .i64 (r2.2.1 + (1:Int))))) (64:Nat)))) != (0:Int))
 let x9 : Int := (bif x8 then (x7 / (2:Int)) else x7)
 bif (decide ((0:Int) ≤ (IntKind.wrap .u64 (IntKind.wrap .i64 (r2.2.1 + (1:Int)))))) then
 ((F_950 a0)).bind fun r10 =>
 let x11 : Int := (bif ((x9 / ((2:Int) ^ (Min.min (Int.toNat (IntKind.wrap .u64 r2.2.1)) (64:Nat)))) == (0:Int)) then (0:Int) else (IntKind.wrap .i64 ((IntKind.wrap .i64 ((IntKind.wrap .i64 ((bif x8 then (IntKind.wrap .i64 (r3 + (1:Int))) else r3) + r2.2.1)) - r10)) + (1:Int))))
 bif (decide ((0:Int) ≤ (IntKind.wrap .u64 r2.2.1))) then
 ((F_94d a0)).bind fun r12 =>
 bif (decide (x11 ≥ r12)) then
 ((F_959 a0 a1 a2)).bind fun r13 =>
 (some r13)
 else
 bif x5 then
 bif (a4 == (0:Int)) then
 ((F_95a x9 r2.2.1)).bind fun r14 =>
 ((F_94c a0 a2 x11 (IntKind.wrap .u32 r14))).bind fun r15 =>
 (some (r15, ((false, (false, (false, (true, (x5, ()))))), ())))
 else
 ((F_92d a4)).bind fun r16 =>
 ((F_950 a0)).bind fun r17 =>
 ((F_95a x9 r2.2.1)).bind fun r18 =>
 ((F_94c a0 a2 x11 (IntKind.wrap .u32 r18))).bind fun r19 =>
 (some (r19, ((false, (false, (false, ((decide ((IntKind.wrap .i64 ((IntKind.wrap .i64 (x0 + r16)) - (1:Int))) < r17)), (x5, ()))))), ())))
 else
 ((F_95a x9 r2.2.1)).bind fun r20 =>
 ((F_94c a0 a2 x11 (IntKind.wrap .u32 r20))).bind fun r21 =>
 (some (r21, ((false, (false, (false, (false, (x5, ()))))), ())))
 else
 none
 else
 none
 else
 ((F_94f a0)).bind fun r22 =>
 ((F_956 a0 x0 a4)).bind fun r23 =>
 ((F_957 a4 (IntKind.wrap .i64 (r23 - x0)) a5)).bind fun r24 =>
 let x25 : Bool := (r24.2.1 != (0:Int))
 ((F_958 a1 a2 r24.1 r24.2.1)).bind fun r26 =>
 let x27 : Int := (bif r26 then (IntKind.wrap .u64 (r24.1 + (1:Int))) else r24.1)
 let x28 : Bool := ((x27 / ((2:Int) ^ (Min.min (Int.toNat (IntKind.wrap .u64 (IntKind.wrap .i64 (r22.2.1 + (1:Int))))) (64:Nat)))) != (0:Int))
 let x29 : Int := (bif x28 then (x27 / (2:Int)) else x27)
 bif (decide ((0:Int) ≤ (IntKind.wrap .u64 (IntKind.wrap .i64 (r22.2.1 + (1:Int)))))) then
 ((F_950 a0)).bind fun r30 =>
 let x31 : Int := (bif ((x29 / ((2:Int) ^ (Min.min (Int.toNat (IntKind.wrap .u64 r22.2.1)) (64:Nat)))) == (0:Int)) then (0:Int) else (IntKind.wrap .i64 ((IntKind.wrap .i64 ((IntKind.wrap .i64 ((bif x28 then (IntKind.wrap .i64 (r23 + (1:Int))) else r23) + r22.2.1)) - r30)) + (1:Int))))
 bif (decide ((0:Int) ≤ (IntKind.wrap .u64 r22.2.1))) then
 ((F_94d a0)).bind fun r32 =>
 bif (decide (x31 ≥ r32)) then
 ((F_959 a0 a1 a2)).bind fun r33 =>
 (some r33)
 else
 bif x25 then
 bif (a4 == (0:Int)) then
 ((F_95a x29 r22.2.1)).bind fun r34 =>
 ((F_94c a0 a2 x31 (IntKind.wrap .u32 r34))).bind fun r35 =>
 (some (r35, ((false, (false, (false, (true, (x25, ()))))), ())))
 else
 ((F_92d a4)).bind fun r36 =>
 ((F_950 a0)).bind fun r37 =>
 ((F_95a x29 r22.2.1)).bind fun r38 =>
 ((F_94c a0 a2 x31 (IntKind.wrap .u32 r38))).bind fun r39 =>
 (some (r39, ((false, (false, (false, ((decide ((IntKind.wrap .i64 ((IntKind.wrap .i64 (x0 + r36)) - (1:Int))) < r37)), (x25, ()))))), ())))
 else
 ((F_95a x29 r22.2.1)).bind fun r40 =>
 ((F_94c a0 a2 x31 (IntKind.wrap .u32 r40))).bind fun r41 =>
 (some (r41, ((false, (false, (false, (false, (x25, ()))))), ())))
 else
 none
 else
 none
noncomputable def G_938 : T fa_938 → TH hN0 → Option (Int × (Bool × Bool × Bool × Bool × Bool × Unit) × Unit) := fun x y => F_938 x.1 x.2.1 x.2.2.1 x.2.2.2.1 x.2.2.2.2.1 x.2.2.2.2.2.1
noncomputable def c_938 : Orc := ent i_938 [] 0 (sp fa_938 hN0 fr_938 hN0 G_938 (outN fr_938))
theorem ok_938 : OrcOk PR c_938 := fnT okO_938 mixed p_938 (by kernel_rfl) (by kernel_rfl) (L := L0) (kp := false) (by kernel_rfl) (inn := (innN fr_938)) (out := (outN fr_938)) (fun _ _ => rfl) (loopsL (l := []) (by kernel_rfl) trivial) (fun x y => by kernel_rfl)
end Go.Proofs.Ytfpjkmgfkaoapaa.VI

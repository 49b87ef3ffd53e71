import Derived.Test.YtfpjkmgfkaoapaaTb43a0c83
import Derived.Test.YtfpjkmgfkaoapaaProg
namespace Go.Proofs.Ytfpjkmgfkaoapaa.VI
set_option linter.unusedVariables false
set_option linter.unusedSimpArgs false
abbrev hN0 : List BF := []
abbrev innN (f : Fm) (z : T f) (w : TH []) : T f := z
abbrev outN (f : Fm) (r : T f) : T f × TH [] := (r, ())
noncomputable abbrev PR : Program := Try.prog
theorem mixed : PR.follows .mixedOrders = true := by kernel_rfl
def L0 : Lps := fun _ _ => .no
abbrev y_90 : TypeId := 25
abbrev y_91 : TypeId := 27
abbrev y_92 : TypeId := 63
abbrev i_93 : FuncId := 3
noncomputable abbrev f_93 : Func := Try.f3
theorem p_93 : PR.funcs[i_93]? = some f_93 := Try.func3
abbrev i_94 : FuncId := 5
noncomputable abbrev f_94 : Func := Try.f5
theorem p_94 : PR.funcs[i_94]? = some f_94 := Try.func5
abbrev i_95 : FuncId := 6
noncomputable abbrev f_95 : Func := Try.f6
theorem p_95 : PR.funcs[i_95]? = some f_95 := Try.func6
abbrev i_96 : FuncId := 7
noncomputable abbrev f_96 : Func := Try.f7
theorem p_96 : PR.funcs[i_96]? = some f_96 := Try.func7
abbrev i_97 : FuncId := 8
noncomputable abbrev f_97 : Func := Try.f8
theorem p_97 : PR.funcs[i_97]? = some f_97 := Try.func8
abbrev i_98 : FuncId := 9
noncomputable abbrev f_98 : Func := Try.f9
theorem p_98 : PR.funcs[i_98]? = some f_98 := Try.func9
abbrev i_99 : FuncId := 11
noncomputable abbrev f_99 : Func := Try.f11
theorem p_99 : PR.funcs[i_99]? = some f_99 := Try.func11
abbrev i_9a : FuncId := 12
noncomputable abbrev f_9a : Func := Try.f12
theorem p_9a : PR.funcs[i_9a]? = some f_9a := Try.func12
abbrev i_9b : FuncId := 13
noncomputable abbrev f_9b : Func := Try.f13
theorem p_9b : PR.funcs[i_9b]? = some f_9b := Try.func13
abbrev i_9c : FuncId := 14
noncomputable abbrev f_9c : Func := Try.f14
theorem p_9c : PR.funcs[i_9c]? = some f_9c := Try.func14
abbrev i_9d : FuncId := 15
noncomputable abbrev f_9d : Func := Try.f15
theorem p_9d : PR.funcs[i_9d]? = some f_9d := Try.func15
abbrev i_9e : FuncId := 16
noncomputable abbrev f_9e : Func := Try.f16
theorem p_9e : PR.funcs[i_9e]? = some f_9e := Try.func16
abbrev i_9f : FuncId := 17
noncomputable abbrev f_9f : Func := Try.f17
theorem p_9f : PR.funcs[i_9f]? = some f_9f := Try.func17
abbrev i_910 : FuncId := 18
noncomputable abbrev f_910 : Func := Try.f18
theorem p_910 : PR.funcs[i_910]? = some f_910 := Try.func18
abbrev i_911 : FuncId := 19
noncomputable abbrev f_911 : Func := Try.f19
theorem p_911 : PR.funcs[i_911]? = some f_911 := Try.func19
abbrev i_912 : FuncId := 20
noncomputable abbrev f_912 : Func := Try.f20
theorem p_912 : PR.funcs[i_912]? = some f_912 := Try.func20
abbrev i_913 : FuncId := 21
noncomputable abbrev f_913 : Func := Try.f21
theorem p_913 : PR.funcs[i_913]? = some f_913 := Try.func21
abbrev i_914 : FuncId := 22
noncomputable abbrev f_914 : Func := Try.f22
theorem p_914 : PR.funcs[i_914]? = some f_914 := Try.func22
abbrev i_915 : FuncId := 23
noncomputable abbrev f_915 : Func := Try.f23
theorem p_915 : PR.funcs[i_915]? = some f_915 := Try.func23
abbrev i_916 : FuncId := 24
noncomputable abbrev f_916 : Func := Try.f24
theorem p_916 : PR.funcs[i_916]? = some f_916 := Try.func24
abbrev i_917 : FuncId := 25
noncomputable abbrev f_917 : Func := Try.f25
theorem p_917 : PR.funcs[i_917]? = some f_917 := Try.func25
abbrev i_918 : FuncId := 26
noncomputable abbrev f_918 : Func := Try.f26
theorem p_918 : PR.funcs[i_918]? = some f_918 := Try.func26
abbrev i_919 : FuncId := 28
noncomputable abbrev f_919 : Func := Try.f28
theorem p_919 : PR.funcs[i_919]? = some f_919 := Try.func28
abbrev i_91a : FuncId := 29
noncomputable abbrev f_91a : Func := Try.f29
theorem p_91a : PR.funcs[i_91a]? = some f_91a := Try.func29
abbrev i_91b : FuncId := 30
noncomputable abbrev f_91b : Func := Try.f30
theorem p_91b : PR.funcs[i_91b]? = some f_91b := Try.func30
abbrev i_91c : FuncId := 31
noncomputable abbrev f_91c : Func := Try.f31
theorem p_91c : PR.funcs[i_91c]? = some f_91c := Try.func31
abbrev i_91d : FuncId := 32
noncomputable abbrev f_91d : Func := Try.f32
theorem p_91d : PR.funcs[i_91d]? = some f_91d := Try.func32
abbrev i_91e : FuncId := 33
noncomputable abbrev f_91e : Func := Try.f33
theorem p_91e : PR.funcs[i_91e]? = some f_91e := Try.func33
abbrev i_91f : FuncId := 34
noncomputable abbrev f_91f : Func := Try.f34
theorem p_91f : PR.funcs[i_91f]? = some f_91f := Try.func34
abbrev i_920 : FuncId := 35
noncomputable abbrev f_920 : Func := Try.f35
theorem p_920 : PR.funcs[i_920]? = some f_920 := Try.func35
abbrev i_921 : FuncId := 36
noncomputable abbrev f_921 : Func := Try.f36
theorem p_921 : PR.funcs[i_921]? = some f_921 := Try.func36
abbrev i_922 : FuncId := 37
noncomputable abbrev f_922 : Func := Try.f37
theorem p_922 : PR.funcs[i_922]? = some f_922 := Try.func37
abbrev i_923 : FuncId := 38
noncomputable abbrev f_923 : Func := Try.f38
theorem p_923 : PR.funcs[i_923]? = some f_923 := Try.func38
abbrev i_924 : FuncId := 39
noncomputable abbrev f_924 : Func := Try.f39
theorem p_924 : PR.funcs[i_924]? = some f_924 := Try.func39
abbrev i_925 : FuncId := 40
noncomputable abbrev f_925 : Func := Try.f40
theorem p_925 : PR.funcs[i_925]? = some f_925 := Try.func40
abbrev i_926 : FuncId := 41
noncomputable abbrev f_926 : Func := Try.f41
theorem p_926 : PR.funcs[i_926]? = some f_926 := Try.func41
abbrev i_927 : FuncId := 42
noncomputable abbrev f_927 : Func := Try.f42
theorem p_927 : PR.funcs[i_927]? = some f_927 := Try.func42
abbrev i_928 : FuncId := 43
noncomputable abbrev f_928 : Func := Try.f43
theorem p_928 : PR.funcs[i_928]? = some f_928 := Try.func43
abbrev i_929 : FuncId := 44
noncomputable abbrev f_929 : Func := Try.f44
theorem p_929 : PR.funcs[i_929]? = some f_929 := Try.func44
abbrev i_92a : FuncId := 45
noncomputable abbrev f_92a : Func := Try.f45
theorem p_92a : PR.funcs[i_92a]? = some f_92a := Try.func45
abbrev i_92b : FuncId := 46
noncomputable abbrev f_92b : Func := Try.f46
theorem p_92b : PR.funcs[i_92b]? = some f_92b := Try.func46
abbrev i_92c : FuncId := 47
noncomputable abbrev f_92c : Func := Try.f47
theorem p_92c : PR.funcs[i_92c]? = some f_92c := Try.func47
abbrev i_92d : FuncId := 48
noncomputable abbrev f_92d : Func := Try.f48
theorem p_92d : PR.funcs[i_92d]? = some f_92d := Try.func48
abbrev i_92e : FuncId := 49
noncomputable abbrev f_92e : Func := Try.f49
theorem p_92e : PR.funcs[i_92e]? = some f_92e := Try.func49
abbrev i_92f : FuncId := 50
noncomputable abbrev f_92f : Func := Try.f50
theorem p_92f : PR.funcs[i_92f]? = some f_92f := Try.func50
abbrev i_930 : FuncId := 51
noncomputable abbrev f_930 : Func := Try.f51
theorem p_930 : PR.funcs[i_930]? = some f_930 := Try.func51
abbrev i_931 : FuncId := 52
noncomputable abbrev f_931 : Func := Try.f52
theorem p_931 : PR.funcs[i_931]? = some f_931 := Try.func52
abbrev i_932 : FuncId := 53
noncomputable abbrev f_932 : Func := Try.f53
theorem p_932 : PR.funcs[i_932]? = some f_932 := Try.func53
abbrev i_933 : FuncId := 54
noncomputable abbrev f_933 : Func := Try.f54
theorem p_933 : PR.funcs[i_933]? = some f_933 := Try.func54
abbrev i_934 : FuncId := 55
noncomputable abbrev f_934 : Func := Try.f55
theorem p_934 : PR.funcs[i_934]? = some f_934 := Try.func55
abbrev i_935 : FuncId := 56
noncomputable abbrev f_935 : Func := Try.f56
theorem p_935 : PR.funcs[i_935]? = some f_935 := Try.func56
abbrev i_936 : FuncId := 57
noncomputable abbrev f_936 : Func := Try.f57
theorem p_936 : PR.funcs[i_936]? = some f_936 := Try.func57
abbrev i_937 : FuncId := 58
noncomputable abbrev f_937 : Func := Try.f58
theorem p_937 : PR.funcs[i_937]? = some f_937 := Try.func58
abbrev i_938 : FuncId := 59
noncomputable abbrev f_938 : Func := Try.f59
theorem p_938 : PR.funcs[i_938]? = some f_938 := Try.func59
abbrev i_939 : FuncId := 60
noncomputable abbrev f_939 : Func := Try.f60
theorem p_939 : PR.funcs[i_939]? = some f_939 := Try.func60
abbrev i_93a : FuncId := 61
noncomputable abbrev f_93a : Func := Try.f61
theorem p_93a : PR.funcs[i_93a]? = some f_93a := Try.func61
abbrev i_93b : FuncId := 62
noncomputable abbrev f_93b : Func := Try.f62
theorem p_93b : PR.funcs[i_93b]? = some f_93b := Try.func62
abbrev i_93c : FuncId := 63
noncomputable abbrev f_93c : Func := Try.f63
theorem p_93c : PR.funcs[i_93c]? = some f_93c := Try.func63
abbrev i_93d : FuncId := 64
noncomputable abbrev f_93d : Func := Try.f64
theorem p_93d : PR.funcs[i_93d]? = some f_93d := Try.func64
abbrev i_93e : FuncId := 65
noncomputable abbrev f_93e : Func := Try.f65
theorem p_93e : PR.funcs[i_93e]? = some f_93e := Try.func65
abbrev i_93f : FuncId := 66
noncomputable abbrev f_93f : Func := Try.f66
theorem p_93f : PR.funcs[i_93f]? = some f_93f := Try.func66
abbrev i_940 : FuncId := 67
noncomputable abbrev f_940 : Func := Try.f67
theorem p_940 : PR.funcs[i_940]? = some f_940 := Try.func67
abbrev i_941 : FuncId := 68
noncomputable abbrev f_941 : Func := Try.f68
theorem p_941 : PR.funcs[i_941]? = some f_941 := Try.func68
abbrev i_942 : FuncId := 69
noncomputable abbrev f_942 : Func := Try.f69
theorem p_942 : PR.funcs[i_942]? = some f_942 := Try.func69
abbrev i_943 : FuncId := 70
noncomputable abbrev f_943 : Func := Try.f70
theorem p_943 : PR.funcs[i_943]? = some f_943 := Try.func70
abbrev i_944 : FuncId := 71
noncomputable abbrev f_944 : Func := Try.f71
theorem p_944 : PR.funcs[i_944]? = some f_944 := Try.func71
abbrev i_945 : FuncId := 72
noncomputable abbrev f_945 : Func := Try.f72
theorem p_945 : PR.funcs[i_945]? = some f_945 := Try.func72
abbrev i_946 : FuncId := 73
noncomputable abbrev f_946 : Func := Try.f73
theorem p_946 : PR.funcs[i_946]? = some f_946 := Try.func73
abbrev i_947 : FuncId := 74
noncomputable abbrev f_947 : Func := Try.f74
theorem p_947 : PR.funcs[i_947]? = some f_947 := Try.func74
abbrev i_948 : FuncId := 75
noncomputable abbrev f_948 : Func := Try.f75
theorem p_948 : PR.funcs[i_948]? = some f_948 := Try.func75
abbrev i_949 : FuncId := 76
noncomputable abbrev f_949 : Func := Try.f76
theorem p_949 : PR.funcs[i_949]? = some f_949 := Try.func76
abbrev i_94a : FuncId := 77
noncomputable abbrev f_94a : Func := Try.f77
theorem p_94a : PR.funcs[i_94a]? = some f_94a := Try.func77
abbrev i_94b : FuncId := 78
noncomputable abbrev f_94b : Func := Try.f78
theorem p_94b : PR.funcs[i_94b]? = some f_94b := Try.func78
abbrev i_94c : FuncId := 79
noncomputable abbrev f_94c : Func := Try.f79
theorem p_94c : PR.funcs[i_94c]? = some f_94c := Try.func79
abbrev i_94d : FuncId := 80
noncomputable abbrev f_94d : Func := Try.f80
theorem p_94d : PR.funcs[i_94d]? = some f_94d := Try.func80
abbrev i_94e : FuncId := 81
noncomputable abbrev f_94e : Func := Try.f81
theorem p_94e : PR.funcs[i_94e]? = some f_94e := Try.func81
abbrev i_94f : FuncId := 82
noncomputable abbrev f_94f : Func := Try.f82
theorem p_94f : PR.funcs[i_94f]? = some f_94f := Try.func82
abbrev i_950 : FuncId := 83
noncomputable abbrev f_950 : Func := Try.f83
theorem p_950 : PR.funcs[i_950]? = some f_950 := Try.func83
abbrev i_951 : FuncId := 84
noncomputable abbrev f_951 : Func := Try.f84
theorem p_951 : PR.funcs[i_951]? = some f_951 := Try.func84
abbrev i_952 : FuncId := 85
noncomputable abbrev f_952 : Func := Try.f85
theorem p_952 : PR.funcs[i_952]? = some f_952 := Try.func85
abbrev i_953 : FuncId := 86
noncomputable abbrev f_953 : Func := Try.f86
theorem p_953 : PR.funcs[i_953]? = some f_953 := Try.func86
abbrev i_954 : FuncId := 87
noncomputable abbrev f_954 : Func := Try.f87
theorem p_954 : PR.funcs[i_954]? = some f_954 := Try.func87
abbrev i_955 : FuncId := 88
noncomputable abbrev f_955 : Func := Try.f88
theorem p_955 : PR.funcs[i_955]? = some f_955 := Try.func88
abbrev i_956 : FuncId := 89
noncomputable abbrev f_956 : Func := Try.f89
theorem p_956 : PR.funcs[i_956]? = some f_956 := Try.func89
abbrev i_957 : FuncId := 90
noncomputable abbrev f_957 : Func := Try.f90
theorem p_957 : PR.funcs[i_957]? = some f_957 := Try.func90
abbrev i_958 : FuncId := 91
noncomputable abbrev f_958 : Func := Try.f91
theorem p_958 : PR.funcs[i_958]? = some f_958 := Try.func91
abbrev i_959 : FuncId := 92
noncomputable abbrev f_959 : Func := Try.f92
theorem p_959 : PR.funcs[i_959]? = some f_959 := Try.func92
abbrev i_95a : FuncId := 93
noncomputable abbrev f_95a : Func := Try.f93
theorem p_95a : PR.funcs[i_95a]? = some f_95a := Try.func93
abbrev i_95b : FuncId := 94
noncomputable abbrev f_95b : Func := Try.f94
theorem p_95b : PR.funcs[i_95b]? = some f_95b := Try.func94
abbrev i_95c : FuncId := 95
noncomputable abbrev f_95c : Func := Try.f95
theorem p_95c : PR.funcs[i_95c]? = some f_95c := Try.func95
abbrev i_95d : FuncId := 96
noncomputable abbrev f_95d : Func := Try.f96
theorem p_95d : PR.funcs[i_95d]? = some f_95d := Try.func96
abbrev i_95e : FuncId := 97
noncomputable abbrev f_95e : Func := Try.f97
theorem p_95e : PR.funcs[i_95e]? = some f_95e := Try.func97
abbrev i_95f : FuncId := 98
noncomputable abbrev f_95f : Func := Try.f98
theorem p_95f : PR.funcs[i_95f]? = some f_95f := Try.func98
abbrev i_960 : FuncId := 99
noncomputable abbrev f_960 : Func := Try.f99
theorem p_960 : PR.funcs[i_960]? = some f_960 := Try.func99
abbrev i_961 : FuncId := 100
noncomputable abbrev f_961 : Func := Try.f100
theorem p_961 : PR.funcs[i_961]? = some f_961 := Try.func100
abbrev i_962 : FuncId := 101
noncomputable abbrev f_962 : Func := Try.f101
theorem p_962 : PR.funcs[i_962]? = some f_962 := Try.func101
abbrev i_963 : FuncId := 102
noncomputable abbrev f_963 : Func := Try.f102
theorem p_963 : PR.funcs[i_963]? = some f_963 := Try.func102
abbrev i_964 : FuncId := 103
noncomputable abbrev f_964 : Func := Try.f103
theorem p_964 : PR.funcs[i_964]? = some f_964 := Try.func103
set_option maxRecDepth 100000
noncomputable def O_954 : Orc := orn
theorem okO_954 : OrcOk PR O_954 := (orn_ok _)
abbrev fa_954 : Fm := (.pair (.i .i64) .unit)
abbrev fr_954 : Fm := (.tup (.pair (.i .i64) (.pair (.i .i64) .unit)))
noncomputable def F_954 (a0 : Int) : Option (Int × Int × Unit) :=
 bif (a0 == (0:Int)) then
 (some ((5:Int), ((10:Int), ())))
 else
 bif (a0 == (1:Int)) then
 (some ((8:Int), ((7:Int), ())))
 else
 (some ((8:Int), ((23:Int), ())))
noncomputable def G_954 : T fa_954 → TH hN0 → Option (Int × Int × Unit) := fun x y => F_954 x.1
noncomputable def c_954 : Orc := ent i_954 [] 0 (sp fa_954 hN0 fr_954 hN0 G_954 (outN fr_954))
theorem ok_954 : OrcOk PR c_954 := fnT okO_954 mixed p_954 (by kernel_rfl) (by kernel_rfl) (L := L0) (kp := false) (by kernel_rfl) (inn := (innN fr_954)) (out := (outN fr_954)) (fun _ _ => rfl) (loopsL (l := []) (by kernel_rfl) trivial) (fun x y => by kernel_rfl)
noncomputable def O_953 : Orc := c_954
theorem okO_953 : OrcOk PR O_953 := ok_954
abbrev fa_953 : Fm := (.pair (.i .i64) (.pair (.i .u32) .unit))
abbrev fr_953 : Fm := (.tup (.pair .b (.pair (.i .i64) (.pair (.i .u32) .unit))))
noncomputable def F_953 (a0 : Int) (a1 : Int) : Option (Bool × Int × Int × Unit) :=
 ((F_954 a0)).bind fun r0 =>
 let x1 : Int := ((2:Int) ^ (Min.min (Int.toNat (IntKind.wrap .u64 r0.2.1)) (32:Nat)))
 bif (decide ((0:Int) ≤ (IntKind.wrap .u64 (IntKind.wrap .i64 (r0.1 + r0.2.1))))) then
 bif (decide ((0:Int) ≤ (IntKind.wrap .u64 r0.2.1))) then
 bif (decide ((0:Int) ≤ (IntKind.wrap .u64 r0.1))) then
 bif (decide ((0:Int) ≤ (IntKind.wrap .u64 r0.2.1))) then
 (some (((bits .and .u32 (a1 / ((2:Int) ^ (Min.min (Int.toNat (IntKind.wrap .u64 (IntKind.wrap .i64 (r0.1 + r0.2.1)))) (32:Nat)))) (1:Int)) == (1:Int)), ((IntKind.wrap .i64 (bits .and .u32 (a1 / x1) (IntKind.wrap .u32 ((IntKind.wrap .u32 ((1:Int) * ((2:Int) ^ (Min.min (Int.toNat (IntKind.wrap .u64 r0.1)) (32:Nat))))) - (1:Int))))), ((bits .and .u32 a1 (IntKind.wrap .u32 ((IntKind.wrap .u32 ((1:Int) * x1)) - (1:Int)))), ()))))
 else
 none
 else
 none
 else
 none
 else
 none
noncomputable def G_953 : T fa_953 → TH hN0 → Option (Bool × Int × Int × Unit) := fun x y => F_953 x.1 x.2.1
noncomputable def c_953 : Orc := ent i_953 [] 0 (sp fa_953 hN0 fr_953 hN0 G_953 (outN fr_953))
theorem ok_953 : OrcOk PR c_953 := fnT okO_953 mixed p_953 (by kernel_rfl) (by kernel_rfl) (L := L0) (kp := false) (by kernel_rfl) (inn := (innN fr_953)) (out := (outN fr_953)) (fun _ _ => rfl) (loopsL (l := []) (by kernel_rfl) trivial) (fun x y => by kernel_rfl)
noncomputable def O_952 : Orc := c_954
theorem okO_952 : OrcOk PR O_952 := ok_954
abbrev fa_952 : Fm := (.pair (.i .i64) .unit)
abbrev fr_952 : Fm := (.i .i64)
noncomputable def F_952 (a0 : Int) : Option (Int) :=
 ((F_954 a0)).bind fun r0 =>
 bif (decide ((0:Int) ≤ (IntKind.wrap .u64 r0.1))) then
 (some (IntKind.wrap .i64 ((IntKind.wrap .i64 ((1:Int) * ((2:Int) ^ (Min.min (Int.toNat (IntKind.wrap .u64 r0.1)) (64:Nat))))) - (1:Int))))
 else
 none
noncomputable def G_952 : T fa_952 → TH hN0 → Option (Int) := fun x y => F_952 x.1
noncomputable def c_952 : Orc := ent i_952 [] 0 (sp fa_952 hN0 fr_952 hN0 G_952 (outN fr_952))
theorem ok_952 : OrcOk PR c_952 := fnT okO_952 mixed p_952 (by kernel_rfl) (by kernel_rfl) (L := L0) (kp := false) (by kernel_rfl) (inn := (innN fr_952)) (out := (outN fr_952)) (fun _ _ => rfl) (loopsL (l := []) (by kernel_rfl) trivial) (fun x y => by kernel_rfl)
noncomputable def O_947 : Orc := (orm c_954 (orm c_953 c_952))
theorem okO_947 : OrcOk PR O_947 := (orm_ok ok_954 (orm_ok ok_953 ok_952))
abbrev fa_947 : Fm := (.pair (.i .i64) (.pair (.i .u32) .unit))
abbrev fr_947 : Fm := (.i .i64)
noncomputable def F_947 (a0 : Int) (a1 : Int) : Option (Int) :=
 ((F_954 a0)).bind fun r0 =>
 ((F_953 a0 a1)).bind fun r1 =>
 let x2 : Bool := (r1.2.1 == (0:Int))
 let x3 : Int := r1.2.2.1
 let x4 : Bool := (x3 == (0:Int))
 let x5 : Bool := ((x3 / ((2:Int) ^ (Min.min (Int.toNat (IntKind.wrap .u64 (IntKind.wrap .i64 (r0.2.1 - (1:Int))))) (32:Nat)))) == (1:Int))
 bif x2 then
 bif x4 then
 (some (0:Int))
 else
 bif x2 then
 (some (1:Int))
 else
 ((F_952 a0)).bind fun r6 =>
 bif (decide (r1.2.1 < r6)) then
 (some (2:Int))
 else
 bif x4 then
 (some (3:Int))
 else
 bif (decide ((0:Int) ≤ (IntKind.wrap .u64 (IntKind.wrap .i64 (r0.2.1 - (1:Int)))))) then
 bif x5 then
 (some (4:Int))
 else
 (some (5:Int))
 else
 none
 else
 bif x2 then
 (some (1:Int))
 else
 ((F_952 a0)).bind fun r7 =>
 bif (decide (r1.2.1 < r7)) then
 (some (2:Int))
 else
 bif x4 then
 (some (3:Int))
 else
 bif (decide ((0:Int) ≤ (IntKind.wrap .u64 (IntKind.wrap .i64 (r0.2.1 - (1:Int)))))) then
 bif x5 then
 (some (4:Int))
 else
 (some (5:Int))
 else
 none
noncomputable def G_947 : T fa_947 → TH hN0 → Option (Int) := fun x y => F_947 x.1 x.2.1
noncomputable def c_947 : Orc := ent i_947 [] 0 (sp fa_947 hN0 fr_947 hN0 G_947 (outN fr_947))
theorem ok_947 : OrcOk PR c_947 := fnT okO_947 mixed p_947 (by kernel_rfl) (by kernel_rfl) (L := L0) (kp := false) (by kernel_rfl) (inn := (innN fr_947)) (out := (outN fr_947)) (fun _ _ => rfl) (loopsL (l := []) (by kernel_rfl) trivial) (fun x y => by kernel_rfl)
noncomputable def O_94f : Orc := c_947
theorem okO_94f : OrcOk PR O_94f := ok_947
abbrev fa_94f : Fm := (.pair (.i .i64) (.pair (.i .u32) .unit))
abbrev fr_94f : Fm := .b
noncomputable def F_94f (a0 : Int) (a1 : Int) : Option (Bool) :=
 ((F_947 a0 a1)).bind fun r0 =>
 (some (decide (r0 ≥ (4:Int))))
noncomputable def G_94f : T fa_94f → TH hN0 → Option (Bool) := fun x y => F_94f x.1 x.2.1
noncomputable def c_94f : Orc := ent i_94f [] 0 (sp fa_94f hN0 fr_94f hN0 G_94f (outN fr_94f))
theorem ok_94f : OrcOk PR c_94f := fnT okO_94f mixed p_94f (by kernel_rfl) (by kernel_rfl) (L := L0) (kp := false) (by kernel_rfl) (inn := (innN fr_94f)) (out := (outN fr_94f)) (fun _ _ => rfl) (loopsL (l := []) (by kernel_rfl) trivial) (fun x y => by kernel_rfl)
noncomputable def O_93a : Orc := c_954
theorem okO_93a : OrcOk PR O_93a := ok_954
abbrev fa_93a : Fm := (.pair (.i .i64) .unit)
abbrev fr_93a : Fm := (.i .u32)
noncomputable def F_93a (a0 : Int) : Option (Int) :=
 ((F_954 a0)).bind fun r0 =>
 bif (decide ((0:Int) ≤ (IntKind.wrap .u64 (IntKind.wrap .i64 ((IntKind.wrap .i64 (r0.1 + r0.2.1)) + (1:Int)))))) then
 (some (IntKind.wrap .u32 ((IntKind.wrap .u32 ((1:Int) * ((2:Int) ^ (Min.min (Int.toNat (IntKind.wrap .u64 (IntKind.wrap .i64 ((IntKind.wrap .i64 (r0.1 + r0.2.1)) + (1:Int))))) (32:Nat))))) - (1:Int))))
 else
 none
noncomputable def G_93a : T fa_93a → TH hN0 → Option (Int) := fun x y => F_93a x.1
noncomputable def c_93a : Orc := ent i_93a [] 0 (sp fa_93a hN0 fr_93a hN0 G_93a (outN fr_93a))
theorem ok_93a : OrcOk PR c_93a := fnT okO_93a mixed p_93a (by kernel_rfl) (by kernel_rfl) (L := L0) (kp := false) (by kernel_rfl) (inn := (innN fr_93a)) (out := (outN fr_93a)) (fun _ _ => rfl) (loopsL (l := []) (by kernel_rfl) trivial) (fun x y => by kernel_rfl)
noncomputable def O_92e : Orc := c_953
theorem okO_92e : OrcOk PR O_92e := ok_953
abbrev fa_92e : Fm := (.pair (.i .i64) (.pair (.i .u32) .unit))
abbrev fr_92e : Fm := .b
noncomputable def F_92e (a0 : Int) (a1 : Int) : Option (Bool) :=
 ((F_953 a0 a1)).bind fun r0 =>
 (some r0.1)
noncomputable def G_92e : T fa_92e → TH hN0 → Option (Bool) := fun x y => F_92e x.1 x.2.1
noncomputable def c_92e : Orc := ent i_92e [] 0 (sp fa_92e hN0 fr_92e hN0 G_92e (outN fr_92e))
theorem ok_92e : OrcOk PR c_92e := fnT okO_92e mixed p_92e (by kernel_rfl) (by kernel_rfl) (L := L0) (kp := false) (by kernel_rfl) (inn := (innN fr_92e)) (out := (outN fr_92e)) (fun _ _ => rfl) (loopsL (l := []) (by kernel_rfl) trivial) (fun x y => by kernel_rfl)
noncomputable def O_93f : Orc := (orm c_954 c_93a)
theorem okO_93f : OrcOk PR O_93f := (orm_ok ok_954 ok_93a)
abbrev fa_93f : Fm := (.pair (.i .i64) (.pair (.i .u32) .unit))
abbrev fr_93f : Fm := (.i .u32)
noncomputable def F_93f (a0 : Int) (a1 : Int) : Option (Int) :=
 ((F_954 a0)).bind fun r0 =>
 ((F_93a a0)).bind fun r1 =>
 bif (decide ((0:Int) ≤ (IntKind.wrap .u64 (IntKind.wrap .i64 (r0.1 + r0.2.1))))) then
 (some (bits .xor .u32 (bits .and .u32 a1 r1) (IntKind.wrap .u32 ((1:Int) * ((2:Int) ^ (Min.min (Int.toNat (IntKind.wrap .u64 (IntKind.wrap .i64 (r0.1 + r0.2.1)))) (32:Nat)))))))
 else
 none
noncomputable def G_93f : T fa_93f → TH hN0 → Option (Int) := fun x y => F_93f x.1 x.2.1
noncomputable def c_93f : Orc := ent i_93f [] 0 (sp fa_93f hN0 fr_93f hN0 G_93f (outN fr_93f))
theorem ok_93f : OrcOk PR c_93f := fnT okO_93f mixed p_93f (by kernel_rfl) (by kernel_rfl) (L := L0) (kp := false) (by kernel_rfl) (inn := (innN fr_93f)) (out := (outN fr_93f)) (fun _ _ => rfl) (loopsL (l := []) (by kernel_rfl) trivial) (fun x y => by kernel_rfl)
noncomputable def O_94c : Orc := (orm c_93a (orm c_92e c_93f))
theorem okO_94c : OrcOk PR O_94c := (orm_ok ok_93a (orm_ok ok_92e ok_93f))
abbrev fa_94c : Fm := (.pair (.i .i64) (.pair (.i .u32) .unit))
abbrev fr_94c : Fm := (.i .i64)
noncomputable def F_94c (a0 : Int) (a1 : Int) : Option (Int) :=
 ((F_93a a0)).bind fun r0 =>
 ((F_92e a0 a1)).bind fun r1 =>
 bif (!r1) then
 (some (IntKind.wrap .i64 (bits .and .u32 a1 r0)))
 else
 ((F_93f a0 a1)).bind fun r2 =>
 (some (IntKind.wrap .i64 ((-(1:Int)) - (IntKind.wrap .i64 r2))))
noncomputable def G_94c : T fa_94c → TH hN0 → Option (Int) := fun x y => F_94c x.1 x.2.1
noncomputable def c_94c : Orc := ent i_94c [] 0 (sp fa_94c hN0 fr_94c hN0 G_94c (outN fr_94c))
theorem ok_94c : OrcOk PR c_94c := fnT okO_94c mixed p_94c (by kernel_rfl) (by kernel_rfl) (L := L0) (kp := false) (by kernel_rfl) (inn := (innN fr_94c)) (out := (outN fr_94c)) (fun _ _ => rfl) (loopsL (l := []) (by kernel_rfl) trivial) (fun x y => by kernel_rfl)
noncomputable def O_92c : Orc := c_947
theorem okO_92c : OrcOk PR O_92c := ok_947
abbrev fa_92c : Fm := (.pair (.i .i64) (.pair (.i .u32) .unit))
abbrev fr_92c : Fm := .b
noncomputable def F_92c (a0 : Int) (a1 : Int) : Option (Bool) :=
 ((F_947 a0 a1)).bind fun r0 =>
 (some (r0 == (0:Int)))
noncomputable def G_92c : T fa_92c → TH hN0 → Option (Bool) := fun x y => F_92c x.1 x.2.1
noncomputable def c_92c : Orc := ent i_92c [] 0 (sp fa_92c hN0 fr_92c hN0 G_92c (outN fr_92c))
theorem ok_92c : OrcOk PR c_92c := fnT okO_92c mixed p_92c (by kernel_rfl) (by kernel_rfl) (L := L0) (kp := false) (by kernel_rfl) (inn := (innN fr_92c)) (out := (outN fr_92c)) (fun _ _ => rfl) (loopsL (l := []) (by kernel_rfl) trivial) (fun x y => by kernel_rfl)
noncomputable def O_936 : Orc := (orm c_94f (orm c_94c c_92c))
theorem okO_936 : OrcOk PR O_936 := (orm_ok ok_94f (orm_ok ok_94c ok_92c))
abbrev fa_936 : Fm := (.pair (.i .i64) (.pair (.i .u32) (.pair (.i .u32) .unit)))
abbrev fr_936 : Fm := (.tup (.pair (.i .i64) (.pair .b .unit)))
noncomputable def F_936 (a0 : Int) (a1 : Int) (a2 : Int) : Option (Int × Bool × Unit) :=
 ((F_94f a0 a1)).bind fun r0 =>
 bif r0 then
 (some ((0:Int), (false, ())))
 else
 ((F_94f a0 a2)).bind fun r1 =>
 bif r1 then
 (some ((0:Int), (false, ())))
 else
 ((F_94c a0 a1)).bind fun r2 =>
 ((F_94c a0 a2)).bind fun r3 =>
 ((F_92c a0 a1)).bind fun r4 =>
 bif r4 then
 ((F_92c a0 a2)).bind fun r5 =>
 bif r5 then
 (some ((0:Int), (true, ())))
 else
 bif (decide (r2 < r3)) then
 (some ((-(1:Int)), (true, ())))
 else
 bif (decide (r2 > r3)) then
 (some ((1:Int), (true, ())))
 else
 (some ((0:Int), (true, ())))
 else
 bif (decide (r2 < r3)) then
 (some ((-(1:Int)), (true, ())))
 else
 bif (decide (r2 > r3)) then
 (some ((1:Int), (true, ())))
 else
 (some ((0:Int), (true, ())))
noncomputable def G_936 : T fa_936 → TH hN0 → Option (Int × Bool × Unit) := fun x y => F_936 x.1 x.2.1 x.2.2.1
noncomputable def c_936 : Orc := ent i_936 [] 0 (sp fa_936 hN0 fr_936 hN0 G_936 (outN fr_936))
theorem ok_936 : OrcOk PR c_936 := fnT okO_936 mixed p_936 (by kernel_rfl) (by kernel_rfl) (L := L0) (kp := false) (by kernel_rfl) (inn := (innN fr_936)) (out := (outN fr_936)) (fun _ _ => rfl) (loopsL (l := []) (by kernel_rfl) trivial) (fun x y => by kernel_rfl)
noncomputable def O_958 : Orc := c_936
theorem okO_958 : OrcOk PR O_958 := ok_936
abbrev fa_958 : Fm := (.pair (.i .i64) (.pair (.i .u32) (.pair (.i .u32) .unit)))
abbrev fr_958 : Fm := .b
noncomputable def F_958 (a0 : Int) (a1 : Int) (a2 : Int) : Option (Bool) :=
 ((F_936 a0 a1 a2)).bind fun r0 =>
 (some (decide (r0.1 < (0:Int))))
noncomputable def G_958 : T fa_958 → TH hN0 → Option (Bool) := fun x y => F_958 x.1 x.2.1 x.2.2.1
noncomputable def c_958 : Orc := ent i_958 [] 0 (sp fa_958 hN0 fr_958 hN0 G_958 (outN fr_958))
theorem ok_958 : OrcOk PR c_958 := fnT okO_958 mixed p_958 (by kernel_rfl) (by kernel_rfl) (L := L0) (kp := false) (by kernel_rfl) (inn := (innN fr_958)) (out := (outN fr_958)) (fun _ _ => rfl) (loopsL (l := []) (by kernel_rfl) trivial) (fun x y => by kernel_rfl)
noncomputable def O_951 : Orc := c_954
theorem okO_951 : OrcOk PR O_951 := ok_954
abbrev fa_951 : Fm := (.pair (.i .i64) (.pair .b (.pair (.i .i64) (.pair (.i .u32) .unit))))
abbrev fr_951 : Fm := (.i .u32)
noncomputable def F_951 (a0 : Int) (a1 : Bool) (a2 : Int) (a3 : Int) : Option (Int) :=
 ((F_954 a0)).bind fun r0 =>
 let x1 : Int := (bits .or .u32 (IntKind.wrap .u32 ((IntKind.wrap .u32 a2) * ((2:Int) ^ (Min.min (Int.toNat (IntKind.wrap .u64 r0.2.1)) (32:Nat))))) a3)
 bif (decide ((0:Int) ≤ (IntKind.wrap .u64 r0.2.1))) then
 bif a1 then
 bif (decide ((0:Int) ≤ (IntKind.wrap .u64 (IntKind.wrap .i64 (r0.1 + r0.2.1))))) then
 (some (bits .or .u32 x1 (IntKind.wrap .u32 ((1:Int) * ((2:Int) ^ (Min.min (Int.toNat (IntKind.wrap .u64 (IntKind.wrap .i64 (r0.1 + r0.2.1)))) (32:Nat)))))))
 else
 none
 else
 (some x1)
 else
 none
noncomputable def G_951 : T fa_951 → TH hN0 → Option (Int) := fun x y => F_951 x.1 x.2.1 x.2.2.1 x.2.2.2.1
noncomputable def c_951 : Orc := ent i_951 [] 0 (sp fa_951 hN0 fr_951 hN0 G_951 (outN fr_951))
theorem ok_951 : OrcOk PR c_951 := fnT okO_951 mixed p_951 (by kernel_rfl) (by kernel_rfl) (L := L0) (kp := false) (by kernel_rfl) (inn := (innN fr_951)) (out := (outN fr_951)) (fun _ _ => rfl) (loopsL (l := []) (by kernel_rfl) trivial) (fun x y => by kernel_rfl)
noncomputable def O_950 : Orc := (orm c_954 (orm c_952 c_951))
theorem okO_950 : OrcOk PR O_950 := (orm_ok ok_954 (orm_ok ok_952 ok_951))
abbrev fa_950 : Fm := (.pair (.i .i64) .unit)
abbrev fr_950 : Fm := (.i .u32)
noncomputable def F_950 (a0 : Int) : Option (Int) :=
 ((F_954 a0)).bind fun r0 =>
 ((F_952 a0)).bind fun r1 =>
 bif (decide ((0:Int) ≤ (IntKind.wrap .u64 (IntKind.wrap .i64 (r0.2.1 - (1:Int)))))) then
 ((F_951 a0 false r1 (IntKind.wrap .u32 ((1:Int) * ((2:Int) ^ (Min.min (Int.toNat (IntKind.wrap .u64 (IntKind.wrap .i64 (r0.2.1 - (1:Int))))) (32:Nat))))))).bind fun r2 =>
 (some r2)
 else
 none
noncomputable def G_950 : T fa_950 → TH hN0 → Option (Int) := fun x y => F_950 x.1
noncomputable def c_950 : Orc := ent i_950 [] 0 (sp fa_950 hN0 fr_950 hN0 G_950 (outN fr_950))
theorem ok_950 : OrcOk PR c_950 := fnT okO_950 mixed p_950 (by kernel_rfl) (by kernel_rfl) (L := L0) (kp := false) (by kernel_rfl) (inn := (innN fr_950)) (out := (outN fr_950)) (fun _ _ => rfl) (loopsL (l := []) (by kernel_rfl) trivial) (fun x y => by kernel_rfl)
noncomputable def O_919 : Orc := orn
theorem okO_919 : OrcOk PR O_919 := (orn_ok _)
abbrev fa_919 : Fm := (.pair (.i .i64) .unit)
abbrev fr_919 : Fm := (.tup (.pair (.i .i64) (.pair (.i .i64) .unit)))
noncomputable def F_919 (a0 : Int) : Option (Int × Int × Unit) :=
 bif (a0 == (0:Int)) then
 (some ((5:Int), ((10:Int), ())))
 else
 bif (a0 == (1:Int)) then
 (some ((8:Int), ((7:Int), ())))
 else
 (some ((8:Int), ((23:Int), ())))
noncomputable def G_919 : T fa_919 → TH hN0 → Option (Int × Int × Unit) := fun x y => F_919 x.1
noncomputable def c_919 : Orc := ent i_919 [] 0 (sp fa_919 hN0 fr_919 hN0 G_919 (outN fr_919))
theorem ok_919 : OrcOk PR c_919 := fnT okO_919 mixed p_919 (by kernel_rfl) (by kernel_rfl) (L := L0) (kp := false) (by kernel_rfl) (inn := (innN fr_919)) (out := (outN fr_919)) (fun _ _ => rfl) (loopsL (l := []) (by kernel_rfl) trivial) (fun x y => by kernel_rfl)
noncomputable def O_91b : Orc := c_919
theorem okO_91b : OrcOk PR O_91b := ok_919
abbrev fa_91b : Fm := (.pair (.i .i64) .unit)
abbrev fr_91b : Fm := (.i .u32)
noncomputable def F_91b (a0 : Int) : Option (Int) :=
 ((F_919 a0)).bind fun r0 =>
 bif (decide ((0:Int) ≤ (IntKind.wrap .i64 ((IntKind.wrap .i64 ((1:Int) + r0.1)) + r0.2.1)))) then
 (some (IntKind.wrap .u32 (IntKind.wrap .u64 ((IntKind.wrap .u64 ((1:Int) * ((2:Int) ^ (Min.min (Int.toNat (IntKind.wrap .i64 ((IntKind.wrap .i64 ((1:Int) + r0.1)) + r0.2.1))) (64:Nat))))) - (1:Int)))))
 else
 none
noncomputable def G_91b : T fa_91b → TH hN0 → Option (Int) := fun x y => F_91b x.1
noncomputable def c_91b : Orc := ent i_91b [] 0 (sp fa_91b hN0 fr_91b hN0 G_91b (outN fr_91b))
theorem ok_91b : OrcOk PR c_91b := fnT okO_91b mixed p_91b (by kernel_rfl) (by kernel_rfl) (L := L0) (kp := false) (by kernel_rfl) (inn := (innN fr_91b)) (out := (outN fr_91b)) (fun _ _ => rfl) (loopsL (l := []) (by kernel_rfl) trivial) (fun x y => by kernel_rfl)
noncomputable def O_926 : Orc := c_919
theorem okO_926 : OrcOk PR O_926 := ok_919
abbrev fa_926 : Fm := (.pair (.i .i64) (.pair .b .unit))
abbrev fr_926 : Fm := (.i .u32)
noncomputable def F_926 (a0 : Int) (a1 : Bool) : Option (Int) :=
 ((F_919 a0)).bind fun r0 =>
 bif a1 then
 bif (decide ((0:Int) ≤ (IntKind.wrap .i64 (r0.1 + r0.2.1)))) then
 (some (IntKind.wrap .u32 ((1:Int) * ((2:Int) ^ (Min.min (Int.toNat (IntKind.wrap .i64 (r0.1 + r0.2.1))) (32:Nat))))))
 else
 none
 else
 (some (0:Int))
noncomputable def G_926 : T fa_926 → TH hN0 → Option (Int) := fun x y => F_926 x.1 x.2.1
noncomputable def c_926 : Orc := ent i_926 [] 0 (sp fa_926 hN0 fr_926 hN0 G_926 (outN fr_926))
theorem ok_926 : OrcOk PR c_926 := fnT okO_926 mixed p_926 (by kernel_rfl) (by kernel_rfl) (L := L0) (kp := false) (by kernel_rfl) (inn := (innN fr_926)) (out := (outN fr_926)) (fun _ _ => rfl) (loopsL (l := []) (by kernel_rfl) trivial) (fun x y => by kernel_rfl)
noncomputable def O_94a : Orc := (orm c_919 c_91b)
theorem okO_94a : OrcOk PR O_94a := (orm_ok ok_919 ok_91b)
abbrev fa_94a : Fm := (.pair (.i .i64) (.pair (.i .u32) .unit))
abbrev fr_94a : Fm := (.tup (.pair .b (.pair (.i .i64) (.pair (.i .u64) .unit))))
noncomputable def F_94a (a0 : Int) (a1 : Int) : Option (Bool × Int × Int × Unit) :=
 ((F_919 a0)).bind fun r0 =>
 let x1 : Int := ((2:Int) ^ (Min.min (Int.toNat r0.2.1) (32:Nat)))
 ((F_91b a0)).bind fun r2 =>
 let x3 : Int := (bits .and .u32 a1 r2)
 bif (decide ((0:Int) ≤ (IntKind.wrap .i64 (r0.1 + r0.2.1)))) then
 bif (decide ((0:Int) ≤ r0.2.1)) then
 bif (decide ((0:Int) ≤ r0.1)) then
 bif (decide ((0:Int) ≤ r0.2.1)) then
 (some (((x3 / ((2:Int) ^ (Min.min (Int.toNat (IntKind.wrap .i64 (r0.1 + r0.2.1))) (32:Nat)))) == (1:Int)), ((IntKind.wrap .i64 (bits .and .u32 (x3 / x1) (IntKind.wrap .u32 ((IntKind.wrap .u32 ((1:Int) * ((2:Int) ^ (Min.min (Int.toNat r0.1) (32:Nat))))) - (1:Int))))), ((IntKind.wrap .u64 (bits .and .u32 x3 (IntKind.wrap .u32 ((IntKind.wrap .u32 ((1:Int) * x1)) - (1:Int))))), ()))))
 else
 none
 else
 none
 else
 none
 else
 none
noncomputable def G_94a : T fa_94a → TH hN0 → Option (Bool × Int × Int × Unit) := fun x y => F_94a x.1 x.2.1
noncomputable def c_94a : Orc := ent i_94a [] 0 (sp fa_94a hN0 fr_94a hN0 G_94a (outN fr_94a))
theorem ok_94a : OrcOk PR c_94a := fnT okO_94a mixed p_94a (by kernel_rfl) (by kernel_rfl) (L := L0) (kp := false) (by kernel_rfl) (inn := (innN fr_94a)) (out := (outN fr_94a)) (fun _ _ => rfl) (loopsL (l := []) (by kernel_rfl) trivial) (fun x y => by kernel_rfl)
noncomputable def O_927 : Orc := c_94a
theorem okO_927 : OrcOk PR O_927 := ok_94a
abbrev fa_927 : Fm := (.pair (.i .i64) (.pair (.i .u32) .unit))
abbrev fr_927 : Fm := .b
noncomputable def F_927 (a0 : Int) (a1 : Int) : Option (Bool) :=
 ((F_94a a0 a1)).bind fun r0 =>
 (some r0.1)
noncomputable def G_927 : T fa_927 → TH hN0 → Option (Bool) := fun x y => F_927 x.1 x.2.1
noncomputable def c_927 : Orc := ent i_927 [] 0 (sp fa_927 hN0 fr_927 hN0 G_927 (outN fr_927))
theorem ok_927 : OrcOk PR c_927 := fnT okO_927 mixed p_927 (by kernel_rfl) (by kernel_rfl) (L := L0) (kp := false) (by kernel_rfl) (inn := (innN fr_927)) (out := (outN fr_927)) (fun _ _ => rfl) (loopsL (l := []) (by kernel_rfl) trivial) (fun x y => by kernel_rfl)
noncomputable def O_914 : Orc := (orm c_91b (orm c_926 c_927))
theorem okO_914 : OrcOk PR O_914 := (orm_ok ok_91b (orm_ok ok_926 ok_927))
abbrev fa_914 : Fm := (.pair (.i .i64) (.pair (.i .u32) .unit))
abbrev fr_914 : Fm := (.i .i64)
noncomputable def F_914 (a0 : Int) (a1 : Int) : Option (Int) :=
 ((F_91b a0)).bind fun r0 =>
 ((F_926 a0 true)).bind fun r1 =>
 let x2 : Int := (IntKind.wrap .i64 (bits .andNot .u32 (bits .and .u32 a1 r0) r1))
 ((F_927 a0 a1)).bind fun r3 =>
 bif r3 then
 (some (IntKind.wrap .i64 ((-(1:Int)) - x2)))
 else
 (some x2)
noncomputable def G_914 : T fa_914 → TH hN0 → Option (Int) := fun x y => F_914 x.1 x.2.1
noncomputable def c_914 : Orc := ent i_914 [] 0 (sp fa_914 hN0 fr_914 hN0 G_914 (outN fr_914))
theorem ok_914 : OrcOk PR c_914 := fnT okO_914 mixed p_914 (by kernel_rfl) (by kernel_rfl) (L := L0) (kp := false) (by kernel_rfl) (inn := (innN fr_914)) (out := (outN fr_914)) (fun _ _ => rfl) (loopsL (l := []) (by kernel_rfl) trivial) (fun x y => by kernel_rfl)
noncomputable def O_925 : Orc := (orm c_919 c_94a)
theorem okO_925 : OrcOk PR O_925 := (orm_ok ok_919 ok_94a)
abbrev fa_925 : Fm := (.pair (.i .i64) (.pair (.i .u32) .unit))
abbrev fr_925 : Fm := (.i .i64)
noncomputable def F_925 (a0 : Int) (a1 : Int) : Option (Int) :=
 ((F_919 a0)).bind fun r0 =>
 ((F_94a a0 a1)).bind fun r1 =>
 let x2 : Bool := (r1.2.1 == (0:Int))
 let x3 : Int := r1.2.2.1
 let x4 : Bool := (x3 == (0:Int))
 let x5 : Bool := ((x3 / ((2:Int) ^ (Min.min (Int.toNat (IntKind.wrap .i64 (r0.2.1 - (1:Int)))) (64:Nat)))) == (1:Int))
 bif x2 then
 bif x4 then
 (some (0:Int))
 else
 bif x2 then
 (some (1:Int))
 else
 bif (decide ((0:Int) ≤ r0.1)) then
 bif (decide (r1.2.1 < (IntKind.wrap .i64 ((IntKind.wrap .i64 ((1:Int) * ((2:Int) ^ (Min.min (Int.toNat r0.1) (64:Nat))))) - (1:Int))))) then
 (some (2:Int))
 else
 bif x4 then
 (some (3:Int))
 else
 bif (decide ((0:Int) ≤ (IntKind.wrap .i64 (r0.2.1 - (1:Int))))) then
 bif x5 then
 (some (4:Int))
 else
 (some (5:Int))
 else
 none
 else
 none
 else
 bif x2 then
 (some (1:Int))
 else
 bif (decide ((0:Int) ≤ r0.1)) then
 bif (decide (r1.2.1 < (IntKind.wrap .i64 ((IntKind.wrap .i64 ((1:Int) * ((2:Int) ^ (Min.min (Int.toNat r0.1) (64:Nat))))) - (1:Int))))) then
 (some (2:Int))
 else
 bif x4 then
 (some (3:Int))
 else
 bif (decide ((0:Int) ≤ (IntKind.wrap .i64 (r0.2.1 - (1:Int))))) then
 bif x5 then
 (some (4:Int))
 else
 (some (5:Int))
 else
 none
 else
 none
noncomputable def G_925 : T fa_925 → TH hN0 → Option (Int) := fun x y => F_925 x.1 x.2.1
noncomputable def c_925 : Orc := ent i_925 [] 0 (sp fa_925 hN0 fr_925 hN0 G_925 (outN fr_925))
theorem ok_925 : OrcOk PR c_925 := fnT okO_925 mixed p_925 (by kernel_rfl) (by kernel_rfl) (L := L0) (kp := false) (by kernel_rfl) (inn := (innN fr_925)) (out := (outN fr_925)) (fun _ _ => rfl) (loopsL (l := []) (by kernel_rfl) trivial) (fun x y => by kernel_rfl)
noncomputable def O_912 : Orc := c_925
theorem okO_912 : OrcOk PR O_912 := ok_925
abbrev fa_912 : Fm := (.pair (.i .i64) (.pair (.si .u32) .unit))
abbrev fr_912 : Fm := (.tup (.pair .b (.pair .b .unit)))
abbrev ff_912_0 : Fm := (.pair (.i .i64) (.pair (.si .u32) (.us 4 (.pair .b (.pair .b (.pair (.i .i64) (.us 29 .unit)))))))
abbrev hf_912_0 : List BF := []
abbrev X_912_0 : Xs := (.one (.exit 0) [6, 7] (.us 6 (.pair .b (.pair .b (.us 30 .unit)))) [])
abbrev S_912_0 : Type := T ff_912_0 × TH hf_912_0
abbrev E_912_0 : Type := TX X_912_0
noncomputable def LB_912_0 : Lps := L0
noncomputable def st_912_0 : StepT S_912_0 E_912_0 := fun R v kn ko =>
 let x0 : Int := v.1.1
 let x1 : List Int := v.1.2.1
 let x2 : Int := v.1.2.2.2.2.1
 let x3 : Bool := v.1.2.2.1
 let x4 : Bool := v.1.2.2.2.1
 let x5 : List Int := (List.take (List.length x1) x1)
 bif (decide (x2 < (((List.length x1) : Nat) : Int))) then
 bif (decide (((0:Int) ≤ x2) ∧ (x2 < (((List.length x1) : Nat) : Int)))) then
 ((F_925 x0 (List.getD x1 (Int.toNat x2) (0:Int)))).bind fun r6 =>
 bif x3 then
 bif x4 then
 (kn ((x0, (x5, (true, (true, ((IntKind.wrap .i64 (x2 + (1:Int))), ()))))), ()))
 else
 (kn ((x0, (x5, (true, ((r6 == (5:Int)), ((IntKind.wrap .i64 (x2 + (1:Int))), ()))))), ()))
 else
 bif (r6 == (4:Int)) then
 bif x4 then
 (kn ((x0, (x5, (true, (true, ((IntKind.wrap .i64 (x2 + (1:Int))), ()))))), ()))
 else
 (kn ((x0, (x5, (true, ((r6 == (5:Int)), ((IntKind.wrap .i64 (x2 + (1:Int))), ()))))), ()))
 else
 bif x4 then
 (kn ((x0, (x5, ((r6 == (5:Int)), (true, ((IntKind.wrap .i64 (x2 + (1:Int))), ()))))), ()))
 else
 (kn ((x0, (x5, ((r6 == (5:Int)), ((r6 == (5:Int)), ((IntKind.wrap .i64 (x2 + (1:Int))), ()))))), ()))
 else
 none
 else
 (ko ((x3, (x4, ())), ()))
noncomputable def ls_912_0 : St → LTr := (lsum ff_912_0 hf_912_0 X_912_0 Prod.mk id st_912_0 (hd [] [] [0, 1, 6, 7, 8] 0))
theorem lp_912_0 : LoopOk PR 0 (lpN f_912 0) ls_912_0 := loopT okO_912 mixed (L := LB_912_0) (d := 1) (bs := []) (ks := [0, 1, 6, 7, 8]) (loopsL (l := []) (by kernel_rfl) trivial) (by kernel_rfl) (inS := Prod.mk) (outS := id) (fun _ _ => rfl) (inX := id) (outX := id) (fun _ => rfl) (fun v R kn ko => by kernel_rfl) (hd_wk [] [] [0, 1, 6, 7, 8] 0)
noncomputable def L_912 : Lps := (lpB 4 (.by_ ls_912_0) L0)
noncomputable def F_912 (a0 : Int) (a1 : List Int) : Option (Bool × Bool × Unit) :=
 ((lim st_912_0 ((a0, ((List.take (List.length a1) a1), (false, (false, ((0:Int), ()))))), ()))).bind fun r0 =>
 (some r0.1)
noncomputable def G_912 : T fa_912 → TH hN0 → Option (Bool × Bool × Unit) := fun x y => F_912 x.1 x.2.1
noncomputable def c_912 : Orc := ent i_912 [] 0 (sp fa_912 hN0 fr_912 hN0 G_912 (outN fr_912))
theorem ok_912 : OrcOk PR c_912 := fnT okO_912 mixed p_912 (by kernel_rfl) (by kernel_rfl) (L := L_912) (kp := false) (by kernel_rfl) (inn := (innN fr_912)) (out := (outN fr_912)) (fun _ _ => rfl) (loopsL (l := [((lpN f_912 0), ls_912_0)]) (by kernel_rfl) ⟨lp_912_0, trivial⟩) (fun x y => by kernel_rfl)
noncomputable def O_913 : Orc := c_925
theorem okO_913 : OrcOk PR O_913 := ok_925
abbrev fa_913 : Fm := (.pair (.i .i64) (.pair (.i .u32) .unit))
abbrev fr_913 : Fm := .b
noncomputable def F_913 (a0 : Int) (a1 : Int) : Option (Bool) :=
 ((F_925 a0 a1)).bind fun r0 =>
 (some (r0 == (0:Int)))
noncomputable def G_913 : T fa_913 → TH hN0 → Option (Bool) := fun x y => F_913 x.1 x.2.1
noncomputable def c_913 : Orc := ent i_913 [] 0 (sp fa_913 hN0 fr_913 hN0 G_913 (outN fr_913))
theorem ok_913 : OrcOk PR c_913 := fnT okO_913 mixed p_913 (by kernel_rfl) (by kernel_rfl) (L := L0) (kp := false) (by kernel_rfl) (inn := (innN fr_913)) (out := (outN fr_913)) (fun _ _ => rfl) (loopsL (l := []) (by kernel_rfl) trivial) (fun x y => by kernel_rfl)
noncomputable def O_97 : Orc := (orm c_912 (orm c_913 c_914))
theorem okO_97 : OrcOk PR O_97 := (orm_ok ok_912 (orm_ok ok_913 ok_914))
abbrev fa_97 : Fm := (.pair (.i .i64) (.pair (.i .u32) (.pair (.i .u32) .unit)))
abbrev fr_97 : Fm := (.tup (.pair (.i .i64) (.pair .b .unit)))
noncomputable def F_97 (a0 : Int) (a1 : Int) (a2 : Int) : Option (Int × Bool × Unit) :=
 ((F_912 a0 [a1, a2])).bind fun r0 =>
 bif r0.1 then
 (some ((0:Int), (false, ())))
 else
 ((F_913 a0 a1)).bind fun r1 =>
 bif r1 then
 ((F_913 a0 a2)).bind fun r2 =>
 bif r2 then
 (some ((0:Int), (true, ())))
 else
 ((F_914 a0 a1)).bind fun r3 =>
 ((F_914 a0 a2)).bind fun r4 =>
 bif (decide (r3 < r4)) then
 (some ((-(1:Int)), (true, ())))
 else
 bif (decide (r3 > r4)) then
 (some ((1:Int), (true, ())))
 else
 (some ((0:Int), (true, ())))
 else
 ((F_914 a0 a1)).bind fun r5 =>
 ((F_914 a0 a2)).bind fun r6 =>
 bif (decide (r5 < r6)) then
 (some ((-(1:Int)), (true, ())))
 else
 bif (decide (r5 > r6)) then
 (some ((1:Int), (true, ())))
 else
 (some ((0:Int), (true, ())))
noncomputable def G_97 : T fa_97 → TH hN0 → Option (Int × Bool × Unit) := fun x y => F_97 x.1 x.2.1 x.2.2.1
noncomputable def c_97 : Orc := ent i_97 [] 0 (sp fa_97 hN0 fr_97 hN0 G_97 (outN fr_97))
theorem ok_97 : OrcOk PR c_97 := fnT okO_97 mixed p_97 (by kernel_rfl) (by kernel_rfl) (L := L0) (kp := false) (by kernel_rfl) (inn := (innN fr_97)) (out := (outN fr_97)) (fun _ _ => rfl) (loopsL (l := []) (by kernel_rfl) trivial) (fun x y => by kernel_rfl)
noncomputable def O_91a : Orc := c_926
theorem okO_91a : OrcOk PR O_91a := ok_926
abbrev fa_91a : Fm := (.pair (.i .i64) (.pair .b .unit))
abbrev fr_91a : Fm := (.i .u32)
noncomputable def F_91a (a0 : Int) (a1 : Bool) : Option (Int) :=
 ((F_926 a0 a1)).bind fun r0 =>
 (some r0)
noncomputable def G_91a : T fa_91a → TH hN0 → Option (Int) := fun x y => F_91a x.1 x.2.1
noncomputable def c_91a : Orc := ent i_91a [] 0 (sp fa_91a hN0 fr_91a hN0 G_91a (outN fr_91a))
theorem ok_91a : OrcOk PR c_91a := fnT okO_91a mixed p_91a (by kernel_rfl) (by kernel_rfl) (L := L0) (kp := false) (by kernel_rfl) (inn := (innN fr_91a)) (out := (outN fr_91a)) (fun _ _ => rfl) (loopsL (l := []) (by kernel_rfl) trivial) (fun x y => by kernel_rfl)
noncomputable def O_9a : Orc := (orm c_919 (orm c_91b c_91a))
theorem okO_9a : OrcOk PR O_9a := (orm_ok ok_919 (orm_ok ok_91b ok_91a))
abbrev fa_9a : Fm := (.pair (.i .i64) (.pair (.i .u32) .unit))
abbrev fr_9a : Fm := (.i .u32)
noncomputable def F_9a (a0 : Int) (a1 : Int) : Option (Int) :=
 ((F_919 a0)).bind fun r0 =>
 let x1 : Int := ((2:Int) ^ (Min.min (Int.toNat r0.2.1) (32:Nat)))
 let x2 : Int := (IntKind.wrap .u32 ((3:Int) * x1))
 let x3 : Int := (IntKind.wrap .u32 ((9:Int) * x1))
 let x4 : Int := (IntKind.wrap .u32 ((1:Int) * x1))
 let x5 : Int := (IntKind.wrap .u32 ((IntKind.wrap .u32 ((1:Int) * ((2:Int) ^ (Min.min (Int.toNat r0.1) (32:Nat))))) - (1:Int)))
 let x6 : Int := (IntKind.wrap .u32 ((x5 / (2:Int)) * x1))
 let x7 : Int := (IntKind.wrap .u32 (x5 * x1))
 bif (decide ((0:Int) ≤ r0.1)) then
 bif (decide ((0:Int) ≤ r0.2.1)) then
 bif (decide ((0:Int) ≤ r0.2.1)) then
 bif (decide ((0:Int) ≤ r0.2.1)) then
 bif (decide ((0:Int) ≤ r0.2.1)) then
 bif (decide ((0:Int) ≤ r0.2.1)) then
 bif (x2 == (0:Int)) then
 none
 else
 bif (decide ((0:Int) ≤ r0.2.1)) then
 bif (decide ((0:Int) ≤ r0.2.1)) then
 bif (decide ((0:Int) ≤ r0.2.1)) then
 bif (decide ((0:Int) ≤ r0.2.1)) then
 bif (decide ((0:Int) ≤ (IntKind.wrap .i64 (r0.2.1 - (1:Int))))) then
 bif (decide ((0:Int) ≤ r0.2.1)) then
 bif (x3 == (0:Int)) then
 none
 else
 bif (decide (((0:Int) ≤ (Int.tmod a1 (15:Int))) ∧ ((Int.tmod a1 (15:Int)) < (15:Int)))) then
 bif (decide (((0:Nat) + ((Int.toNat (Int.tmod a1 (15:Int))) * (1:Nat))) < (15:Nat))) then
 ((F_91b a0)).bind fun r8 =>
 let x9 : Int := (bits .and .u32 (List.getD [(0:Int), (1:Int), (IntKind.wrap .u32 (x4 - (1:Int))), x4, x6, (IntKind.wrap .u32 (x6 + (1:Int))), (IntKind.wrap .u32 (x6 - (1:Int))), (IntKind.wrap .u32 (x6 + x4)), (IntKind.wrap .u32 (x6 + (Int.tmod (a1 / (16:Int)) x2))), (IntKind.wrap .u32 (x7 - (1:Int))), x7, (bits .or .u32 x7 (1:Int)), (bits .or .u32 x7 (IntKind.wrap .u32 ((1:Int) * ((2:Int) ^ (Min.min (Int.toNat (IntKind.wrap .i64 (r0.2.1 - (1:Int)))) (32:Nat)))))), (IntKind.wrap .u32 (x6 - (Int.tmod (a1 / (16:Int)) x3))), (a1 / (16:Int))] ((0:Nat) + ((Int.toNat (Int.tmod a1 (15:Int))) * (1:Nat))) (0:Int)) r8)
 bif ((a1 / (2147483648:Int)) == (1:Int)) then
 ((F_91a a0 true)).bind fun r10 =>
 (some (bits .or .u32 x9 r10))
 else
 (some x9)
 else
 none
 else
 none
 else
 none
 else
 none
 else
 none
 else
 none
 else
 none
 else
 none
 else
 none
 else
 none
 else
 none
 else
 none
 else
 none
 else
 none
noncomputable def G_9a : T fa_9a → TH hN0 → Option (Int) := fun x y => F_9a x.1 x.2.1
noncomputable def c_9a : Orc := ent i_9a [] 0 (sp fa_9a hN0 fr_9a hN0 G_9a (outN fr_9a))
theorem ok_9a : OrcOk PR c_9a := fnT okO_9a mixed p_9a (by kernel_rfl) (by kernel_rfl) (L := L0) (kp := false) (by kernel_rfl) (inn := (innN fr_9a)) (out := (outN fr_9a)) (fun _ _ => rfl) (loopsL (l := []) (by kernel_rfl) trivial) (fun x y => by kernel_rfl)
noncomputable def O_99 : Orc := (orm c_919 c_91a)
theorem okO_99 : OrcOk PR O_99 := (orm_ok ok_919 ok_91a)
abbrev fa_99 : Fm := (.pair (.i .i64) (.pair (.i .u32) .unit))
abbrev fr_99 : Fm := (.i .u32)
noncomputable def F_99 (a0 : Int) (a1 : Int) : Option (Int) :=
 bif ((Int.tmod a1 (7:Int)) == (0:Int)) then
 (some (0:Int))
 else
 ((F_919 a0)).bind fun r0 =>
 let x1 : Int := ((2:Int) ^ (Min.min (Int.toNat r0.2.1) (32:Nat)))
 let x2 : Int := (IntKind.wrap .u32 ((4:Int) * x1))
 let x3 : Int := (IntKind.wrap .u32 ((IntKind.wrap .u32 ((IntKind.wrap .u32 (((IntKind.wrap .u32 ((IntKind.wrap .u32 ((1:Int) * ((2:Int) ^ (Min.min (Int.toNat r0.1) (32:Nat))))) - (1:Int))) / (2:Int)) * x1)) - (IntKind.wrap .u32 ((2:Int) * x1)))) + (Int.tmod (a1 / (8:Int)) x2)))
 bif (decide ((0:Int) ≤ r0.1)) then
 bif (decide ((0:Int) ≤ r0.2.1)) then
 bif (decide ((0:Int) ≤ r0.2.1)) then
 bif (decide ((0:Int) ≤ r0.2.1)) then
 bif (x2 == (0:Int)) then
 none
 else
 bif ((bits .and .u32 a1 (1:Int)) == (1:Int)) then
 ((F_91a a0 true)).bind fun r4 =>
 (some (bits .or .u32 x3 r4))
 else
 (some x3)
 else
 none
 else
 none
 else
 none
 else
 none
noncomputable def G_99 : T fa_99 → TH hN0 → Option (Int) := fun x y => F_99 x.1 x.2.1
noncomputable def c_99 : Orc := ent i_99 [] 0 (sp fa_99 hN0 fr_99 hN0 G_99 (outN fr_99))
theorem ok_99 : OrcOk PR c_99 := fnT okO_99 mixed p_99 (by kernel_rfl) (by kernel_rfl) (L := L0) (kp := false) (by kernel_rfl) (inn := (innN fr_99)) (out := (outN fr_99)) (fun _ _ => rfl) (loopsL (l := []) (by kernel_rfl) trivial) (fun x y => by kernel_rfl)
noncomputable def O_964 : Orc := (orm c_954 (orm c_952 c_951))
theorem okO_964 : OrcOk PR O_964 := (orm_ok ok_954 (orm_ok ok_952 ok_951))
abbrev fa_964 : Fm := (.pair (.i .i64) (.pair .b .unit))
abbrev fr_964 : Fm := (.i .u32)
noncomputable def F_964 (a0 : Int) (a1 : Bool) : Option (Int) :=
 ((F_954 a0)).bind fun r0 =>
 ((F_952 a0)).bind fun r1 =>
 bif (decide ((0:Int) ≤ (IntKind.wrap .u64 r0.2.1))) then
 ((F_951 a0 a1 (IntKind.wrap .i64 (r1 - (1:Int))) (IntKind.wrap .u32 ((IntKind.wrap .u32 ((1:Int) * ((2:Int) ^ (Min.min (Int.toNat (IntKind.wrap .u64 r0.2.1)) (32:Nat))))) - (1:Int))))).bind fun r2 =>
 (some r2)
 else
 none
noncomputable def G_964 : T fa_964 → TH hN0 → Option (Int) := fun x y => F_964 x.1 x.2.1
noncomputable def c_964 : Orc := ent i_964 [] 0 (sp fa_964 hN0 fr_964 hN0 G_964 (outN fr_964))
theorem ok_964 : OrcOk PR c_964 := fnT okO_964 mixed p_964 (by kernel_rfl) (by kernel_rfl) (L := L0) (kp := false) (by kernel_rfl) (inn := (innN fr_964)) (out := (outN fr_964)) (fun _ _ => rfl) (loopsL (l := []) (by kernel_rfl) trivial) (fun x y => by kernel_rfl)
noncomputable def O_955 : Orc := c_954
theorem okO_955 : OrcOk PR O_955 := ok_954
abbrev fa_955 : Fm := (.pair (.i .i64) .unit)
abbrev fr_955 : Fm := (.i .i64)
noncomputable def F_955 (a0 : Int) : Option (Int) :=
 ((F_954 a0)).bind fun r0 =>
 bif (decide ((0:Int) ≤ (IntKind.wrap .u64 (IntKind.wrap .i64 (r0.1 - (1:Int)))))) then
 (some (IntKind.wrap .i64 ((2:Int) - (IntKind.wrap .i64 ((1:Int) * ((2:Int) ^ (Min.min (Int.toNat (IntKind.wrap .u64 (IntKind.wrap .i64 (r0.1 - (1:Int))))) (64:Nat))))))))
 else
 none
noncomputable def G_955 : T fa_955 → TH hN0 → Option (Int) := fun x y => F_955 x.1
noncomputable def c_955 : Orc := ent i_955 [] 0 (sp fa_955 hN0 fr_955 hN0 G_955 (outN fr_955))
theorem ok_955 : OrcOk PR c_955 := fnT okO_955 mixed p_955 (by kernel_rfl) (by kernel_rfl) (L := L0) (kp := false) (by kernel_rfl) (inn := (innN fr_955)) (out := (outN fr_955)) (fun _ _ => rfl) (loopsL (l := []) (by kernel_rfl) trivial) (fun x y => by kernel_rfl)
noncomputable def O_930 : Orc := (orm c_954 (orm c_953 (orm c_955 c_952)))
theorem okO_930 : OrcOk PR O_930 := (orm_ok ok_954 (orm_ok ok_953 (orm_ok ok_955 ok_952)))
abbrev fa_930 : Fm := (.pair (.i .i64) (.pair (.i .u32) .unit))
abbrev fr_930 : Fm := (.tup (.pair .b (.pair (.i .i64) (.pair (.i .u64) .unit))))
noncomputable def F_930 (a0 : Int) (a1 : Int) : Option (Bool × Int × Int × Unit) :=
 ((F_954 a0)).bind fun r0 =>
 ((F_953 a0 a1)).bind fun r1 =>
 let x2 : Int := r1.2.2.1
 let x3 : Int := (IntKind.wrap .u64 x2)
 bif (r1.2.1 == (0:Int)) then
 ((F_955 a0)).bind fun r4 =>
 (some (r1.1, ((IntKind.wrap .i64 (r4 - r0.2.1)), (x3, ()))))
 else
 ((F_952 a0)).bind fun r5 =>
 bif (r1.2.1 == r5) then
 (some (r1.1, ((0:Int), ((0:Int), ()))))
 else
 ((F_955 a0)).bind fun r6 =>
 bif (decide ((0:Int) ≤ (IntKind.wrap .u64 r0.2.1))) then
 (some (r1.1, ((IntKind.wrap .i64 ((IntKind.wrap .i64 ((IntKind.wrap .i64 (r6 - r0.2.1)) + r1.2.1)) - (1:Int))), ((bits .or .u64 x3 (IntKind.wrap .u64 ((1:Int) * ((2:Int) ^ (Min.min (Int.toNat (IntKind.wrap .u64 r0.2.1)) (64:Nat)))))), ()))))
 else
 none
noncomputable def G_930 : T fa_930 → TH hN0 → Option (Bool × Int × Int × Unit) := fun x y => F_930 x.1 x.2.1
noncomputable def c_930 : Orc := ent i_930 [] 0 (sp fa_930 hN0 fr_930 hN0 G_930 (outN fr_930))
theorem ok_930 : OrcOk PR c_930 := fnT okO_930 mixed p_930 (by kernel_rfl) (by kernel_rfl) (L := L0) (kp := false) (by kernel_rfl) (inn := (innN fr_930)) (out := (outN fr_930)) (fun _ _ => rfl) (loopsL (l := []) (by kernel_rfl) trivial) (fun x y => by kernel_rfl)
noncomputable def O_92d : Orc := (orm c_952 c_951)
theorem okO_92d : OrcOk PR O_92d := (orm_ok ok_952 ok_951)
abbrev fa_92d : Fm := (.pair (.i .i64) (.pair .b .unit))
abbrev fr_92d : Fm := (.i .u32)
noncomputable def F_92d (a0 : Int) (a1 : Bool) : Option (Int) :=
 ((F_952 a0)).bind fun r0 =>
 ((F_951 a0 a1 r0 (0:Int))).bind fun r1 =>
 (some r1)
noncomputable def G_92d : T fa_92d → TH hN0 → Option (Int) := fun x y => F_92d x.1 x.2.1
noncomputable def c_92d : Orc := ent i_92d [] 0 (sp fa_92d hN0 fr_92d hN0 G_92d (outN fr_92d))
theorem ok_92d : OrcOk PR c_92d := fnT okO_92d mixed p_92d (by kernel_rfl) (by kernel_rfl) (L := L0) (kp := false) (by kernel_rfl) (inn := (innN fr_92d)) (out := (outN fr_92d)) (fun _ _ => rfl) (loopsL (l := []) (by kernel_rfl) trivial) (fun x y => by kernel_rfl)
noncomputable def O_92f : Orc := c_947
theorem okO_92f : OrcOk PR O_92f := ok_947
abbrev fa_92f : Fm := (.pair (.i .i64) (.pair (.i .u32) .unit))
abbrev fr_92f : Fm := .b
noncomputable def F_92f (a0 : Int) (a1 : Int) : Option (Bool) :=
 ((F_947 a0 a1)).bind fun r0 =>
 (some (r0 == (3:Int)))
noncomputable def G_92f : T fa_92f → TH hN0 → Option (Bool) := fun x y => F_92f x.1 x.2.1
noncomputable def c_92f : Orc := ent i_92f [] 0 (sp fa_92f hN0 fr_92f hN0 G_92f (outN fr_92f))
theorem ok_92f : OrcOk PR c_92f := fnT okO_92f mixed p_92f (by kernel_rfl) (by kernel_rfl) (L := L0) (kp := false) (by kernel_rfl) (inn := (innN fr_92f)) (out := (outN fr_92f)) (fun _ _ => rfl) (loopsL (l := []) (by kernel_rfl) trivial) (fun x y => by kernel_rfl)
noncomputable def O_948 : Orc := c_951
theorem okO_948 : OrcOk PR O_948 := ok_951
abbrev fa_948 : Fm := (.pair (.i .i64) (.pair .b .unit))
abbrev fr_948 : Fm := (.i .u32)
noncomputable def F_948 (a0 : Int) (a1 : Bool) : Option (Int) :=
 ((F_951 a0 a1 (0:Int) (0:Int))).bind fun r0 =>
 (some r0)
noncomputable def G_948 : T fa_948 → TH hN0 → Option (Int) := fun x y => F_948 x.1 x.2.1
noncomputable def c_948 : Orc := ent i_948 [] 0 (sp fa_948 hN0 fr_948 hN0 G_948 (outN fr_948))
theorem ok_948 : OrcOk PR c_948 := fnT okO_948 mixed p_948 (by kernel_rfl) (by kernel_rfl) (L := L0) (kp := false) (by kernel_rfl) (inn := (innN fr_948)) (out := (outN fr_948)) (fun _ _ => rfl) (loopsL (l := []) (by kernel_rfl) trivial) (fun x y => by kernel_rfl)
noncomputable def O_961 : Orc := (orm c_953 c_952)
theorem okO_961 : OrcOk PR O_961 := (orm_ok ok_953 ok_952)
abbrev fa_961 : Fm := (.pair (.i .i64) (.pair (.i .u32) .unit))
abbrev fr_961 : Fm := .b
noncomputable def F_961 (a0 : Int) (a1 : Int) : Option (Bool) :=
 ((F_953 a0 a1)).bind fun r0 =>
 ((F_952 a0)).bind fun r1 =>
 (some (decide (r0.2.1 < r1)))
noncomputable def G_961 : T fa_961 → TH hN0 → Option (Bool) := fun x y => F_961 x.1 x.2.1
noncomputable def c_961 : Orc := ent i_961 [] 0 (sp fa_961 hN0 fr_961 hN0 G_961 (outN fr_961))
theorem ok_961 : OrcOk PR c_961 := fnT okO_961 mixed p_961 (by kernel_rfl) (by kernel_rfl) (L := L0) (kp := false) (by kernel_rfl) (inn := (innN fr_961)) (out := (outN fr_961)) (fun _ _ => rfl) (loopsL (l := []) (by kernel_rfl) trivial) (fun x y => by kernel_rfl)
noncomputable def O_95e : Orc := (orm c_964 c_92d)
theorem okO_95e : OrcOk PR O_95e := (orm_ok ok_964 ok_92d)
abbrev fa_95e : Fm := (.pair (.i .i64) (.pair (.i .i64) (.pair .b .unit)))
abbrev fr_95e : Fm := (.tup (.pair (.i .u32) (.pair (.agg (.pair .b (.pair .b (.pair .b (.pair .b (.pair .b .unit)))))) .unit)))
noncomputable def F_95e (a0 : Int) (a1 : Int) (a2 : Bool) : Option (Int × (Bool × Bool × Bool × Bool × Bool × Unit) × Unit) :=
 bif (a1 == (1:Int)) then
 ((F_964 a0 a2)).bind fun r0 =>
 (some (r0, ((false, (false, (true, (false, (true, ()))))), ())))
 else
 bif (a1 == (2:Int)) then
 bif a2 then
 ((F_964 a0 a2)).bind fun r1 =>
 (some (r1, ((false, (false, (true, (false, (true, ()))))), ())))
 else
 ((F_92d a0 a2)).bind fun r2 =>
 (some (r2, ((false, (false, (true, (false, (true, ()))))), ())))
 else
 bif (a1 == (3:Int)) then
 bif (!a2) then
 ((F_964 a0 a2)).bind fun r3 =>
 (some (r3, ((false, (false, (true, (false, (true, ()))))), ())))
 else
 ((F_92d a0 a2)).bind fun r4 =>
 (some (r4, ((false, (false, (true, (false, (true, ()))))), ())))
 else
 ((F_92d a0 a2)).bind fun r5 =>
 (some (r5, ((false, (false, (true, (false, (true, ()))))), ())))
noncomputable def G_95e : T fa_95e → TH hN0 → Option (Int × (Bool × Bool × Bool × Bool × Bool × Unit) × Unit) := fun x y => F_95e x.1 x.2.1 x.2.2.1
noncomputable def c_95e : Orc := ent i_95e [] 0 (sp fa_95e hN0 fr_95e hN0 G_95e (outN fr_95e))
theorem ok_95e : OrcOk PR c_95e := fnT okO_95e mixed p_95e (by kernel_rfl) (by kernel_rfl) (L := L0) (kp := false) (by kernel_rfl) (inn := (innN fr_95e)) (out := (outN fr_95e)) (fun _ _ => rfl) (loopsL (l := []) (by kernel_rfl) trivial) (fun x y => by kernel_rfl)
noncomputable def O_956 : Orc := orn
theorem okO_956 : OrcOk PR O_956 := (orn_ok _)
abbrev fa_956 : Fm := (.pair (.i .u64) .unit)
abbrev fr_956 : Fm := (.i .i64)
noncomputable def F_956 (a0 : Int) : Option (Int) :=
 let x0 : Int := (bif (decide (a0 ≥ (4294967296:Int))) then (32:Int) else (0:Int))
 let x1 : Int := (bif (decide ((bif (decide (a0 ≥ (4294967296:Int))) then (a0 / (4294967296:Int)) else a0) ≥ (65536:Int))) then (IntKind.wrap .i64 (x0 + (16:Int))) else x0)
 let x2 : Int := (bif (decide (a0 ≥ (4294967296:Int))) then (a0 / (4294967296:Int)) else a0)
 let x3 : Int := (bif (decide (x2 ≥ (65536:Int))) then (x2 / (65536:Int)) else x2)
 bif (decide (((0:Int) ≤ (IntKind.wrap .u8 (bif (decide (x3 ≥ (256:Int))) then (x3 / (256:Int)) else x3))) ∧ ((IntKind.wrap .u8 (bif (decide (x3 ≥ (256:Int))) then (x3 / (256:Int)) else x3)) < (256:Int)))) then
 (some (IntKind.wrap .i64 ((bif (decide (x3 ≥ (256:Int))) then (IntKind.wrap .i64 (x1 + (8:Int))) else x1) + (IntKind.wrap .i64 (((UInt8.toNat (List.getD [(0:UInt8), (1:UInt8), (2:UInt8), (2:UInt8), (3:UInt8), (3:UInt8), (3:UInt8), (3:UInt8), (4:UInt8), (4:UInt8), (4:UInt8), (4:UInt8), (4:UInt8), (4:UInt8), (4:UInt8), (4:UInt8), (5:UInt8), (5:UInt8), (5:UInt8), (5:UInt8), (5:UInt8), (5:UInt8), (5:UInt8), (5:UInt8), (5:UInt8), (5:UInt8), (5:UInt8), (5:UInt8), (5:UInt8), (5:UInt8), (5:UInt8), (5:UInt8), (6:UInt8), (6:UInt8), (6:UInt8), (6:UInt8), (6:UInt8), (6:UInt8), (6:UInt8), (6:UInt8), (6:UInt8), (6:UInt8), (6:UInt8), (6:UInt8), (6:UInt8), (6:UInt8), (6:UInt8), (6:UInt8), (6:UInt8), (6:UInt8), (6:UInt8), (6:UInt8), (6:UInt8), (6:UInt8), (6:UInt8), (6:UInt8), (6:UInt8), (6:UInt8), (6:UInt8), (6:UInt8), (6:UInt8), (6:UInt8), (6:UInt8), (6:UInt8), (7:UInt8), (7:UInt8), (7:UInt8), (7:UInt8), (7:UInt8), (7:UInt8), (7:UInt8), (7:UInt8), (7:UInt8), (7:UInt8), (7:UInt8), (7:UInt8), (7:UInt8), (7:UInt8), (7:UInt8), (7:UInt8), (7:UInt8), (7:UInt8), (7:UInt8), (7:UInt8), (7:UInt8), (7:UInt8), (7:UInt8), (7:UInt8), (7:UInt8), (7:UInt8), (7:UInt8), (7:UInt8), (7:UInt8), (7:UInt8), (7:UInt8), (7:UInt8), (7:UInt8), (7:UInt8), (7:UInt8), (7:UInt8), (7:UInt8), (7:UInt8), (7:UInt8), (7:UInt8), (7:UInt8), (7:UInt8), (7:UInt8), (7:UInt8), (7:UInt8), (7:UInt8), (7:UInt8), (7:UInt8), (7:UInt8), (7:UInt8), (7:UInt8), (7:UInt8), (7:UInt8), (7:UInt8), (7:UInt8), (7:UInt8), (7:UInt8), (7:UInt8), (7:UInt8), (7:UInt8), (7:UInt8), (7:UInt8), (7:UInt8), (7:UInt8), (8:UInt8), (8:UInt8), (8:UInt8), (8:UInt8), (8:UInt8), (8:UInt8), (8:UInt8), (8:UInt8), (8:UInt8), (8:UInt8), (8:UInt8), (8:UInt8), (8:UInt8), (8:UInt8), (8:UInt8), (8:UInt8), (8:UInt8), (8:UInt8), (8:UInt8), (8:UInt8), (8:UInt8), (8:UInt8), (8:UInt8), (8:UInt8), (8:UInt8), (8:UInt8), (8:UInt8), (8:UInt8), (8:UInt8), (8:UInt8), (8:UInt8), (8:UInt8), (8:UInt8), (8:UInt8), (8:UInt8), (8:UInt8), (8:UInt8), (8:UInt8), (8:UInt8), (8:UInt8), (8:UInt8), (8:UInt8), (8:UInt8), (8:UInt8), (8:UInt8), (8:UInt8), (8:UInt8), (8:UInt8), (8:UInt8), (8:UInt8), (8:UInt8), (8:UInt8), (8:UInt8), (8:UInt8), (8:UInt8), (8:UInt8), (8:UInt8), (8:UInt8), (8:UInt8), (8:UInt8), (8:UInt8), (8:UInt8), (8:UInt8), (8:UInt8), (8:UInt8), (8:UInt8), (8:UInt8), (8:UInt8), (8:UInt8), (8:UInt8), (8:UInt8), (8:UInt8), (8:UInt8), (8:UInt8), (8:UInt8), (8:UInt8), (8:UInt8), (8:UInt8), (8:UInt8), (8:UInt8), (8:UInt8), (8:UInt8), (8:UInt8), (8:UInt8), (8:UInt8), (8:UInt8), (8:UInt8), (8:UInt8), (8:UInt8), (8:UInt8), (8:UInt8), (8:UInt8), (8:UInt8), (8:UInt8), (8:UInt8), (8:UInt8), (8:UInt8), (8:UInt8), (8:UInt8), (8:UInt8), (8:UInt8), (8:UInt8), (8:UInt8), (8:UInt8), (8:UInt8), (8:UInt8), (8:UInt8), (8:UInt8), (8:UInt8), (8:UInt8), (8:UInt8), (8:UInt8), (8:UInt8), (8:UInt8), (8:UInt8), (8:UInt8), (8:UInt8), (8:UInt8), (8:UInt8), (8:UInt8), (8:UInt8), (8:UInt8), (8:UInt8), (8:UInt8), (8:UInt8), (8:UInt8), (8:UInt8), (8:UInt8)] (Int.toNat (IntKind.wrap .u8 (bif (decide (x3 ≥ (256:Int))) then (x3 / (256:Int)) else x3))) (0:UInt8))) : Nat) : Int)))))
 else
 none
noncomputable def G_956 : T fa_956 → TH hN0 → Option (Int) := fun x y => F_956 x.1
noncomputable def c_956 : Orc := ent i_956 [] 0 (sp fa_956 hN0 fr_956 hN0 G_956 (outN fr_956))
theorem ok_956 : OrcOk PR c_956 := fnT okO_956 mixed p_956 (by kernel_rfl) (by kernel_rfl) (L := L0) (kp := false) (by kernel_rfl) (inn := (innN fr_956)) (out := (outN fr_956)) (fun _ _ => rfl) (loopsL (l := []) (by kernel_rfl) trivial) (fun x y => by kernel_rfl)
noncomputable def O_931 : Orc := c_956
theorem okO_931 : OrcOk PR O_931 := ok_956
abbrev fa_931 : Fm := (.pair (.i .u64) .unit)
abbrev fr_931 : Fm := (.i .i64)
noncomputable def F_931 (a0 : Int) : Option (Int) :=
 ((F_956 a0)).bind fun r0 =>
 (some r0)
noncomputable def G_931 : T fa_931 → TH hN0 → Option (Int) := fun x y => F_931 x.1
noncomputable def c_931 : Orc := ent i_931 [] 0 (sp fa_931 hN0 fr_931 hN0 G_931 (outN fr_931))
theorem ok_931 : OrcOk PR c_931 := fnT okO_931 mixed p_931 (by kernel_rfl) (by kernel_rfl) (L := L0) (kp := false) (by kernel_rfl) (inn := (innN fr_931)) (out := (outN fr_931)) (fun _ _ => rfl) (loopsL (l := []) (by kernel_rfl) trivial) (fun x y => by kernel_rfl)
noncomputable def O_949 : Orc := orn
theorem okO_949 : OrcOk PR O_949 := (orn_ok _)
abbrev fa_949 : Fm := (.pair (.i .u64) (.pair (.i .i64) .unit))
abbrev fr_949 : Fm := (.tup (.pair (.i .u64) (.pair .b .unit)))
noncomputable def F_949 (a0 : Int) (a1 : Int) : Option (Int × Bool × Unit) :=
 let x0 : Int := ((2:Int) ^ (Min.min (Int.toNat (IntKind.wrap .u64 a1)) (64:Nat)))
 let x1 : Int := (a0 / x0)
 let x2 : Int := ((2:Int) ^ (Min.min (Int.toNat (IntKind.wrap .u64 (IntKind.wrap .i64 ((0:Int) - a1)))) (64:Nat)))
 let x3 : Int := (IntKind.wrap .u64 (a0 * x2))
 bif (decide (a1 ≥ (64:Int))) then
 (some ((0:Int), ((a0 != (0:Int)), ())))
 else
 bif (decide (a1 ≤ (-(64:Int)))) then
 (some ((0:Int), ((a0 != (0:Int)), ())))
 else
 bif (decide (a1 ≥ (0:Int))) then
 bif (decide ((0:Int) ≤ (IntKind.wrap .u64 a1))) then
 bif (decide ((0:Int) ≤ (IntKind.wrap .u64 a1))) then
 (some (x1, (((IntKind.wrap .u64 (x1 * x0)) != a0), ())))
 else
 none
 else
 none
 else
 bif (decide ((0:Int) ≤ (IntKind.wrap .u64 (IntKind.wrap .i64 ((0:Int) - a1))))) then
 bif (decide ((0:Int) ≤ (IntKind.wrap .u64 (IntKind.wrap .i64 ((0:Int) - a1))))) then
 (some (x3, (((x3 / x2) != a0), ())))
 else
 none
 else
 none
noncomputable def G_949 : T fa_949 → TH hN0 → Option (Int × Bool × Unit) := fun x y => F_949 x.1 x.2.1
noncomputable def c_949 : Orc := ent i_949 [] 0 (sp fa_949 hN0 fr_949 hN0 G_949 (outN fr_949))
theorem ok_949 : OrcOk PR c_949 := fnT okO_949 mixed p_949 (by kernel_rfl) (by kernel_rfl) (L := L0) (kp := false) (by kernel_rfl) (inn := (innN fr_949)) (out := (outN fr_949)) (fun _ _ => rfl) (loopsL (l := []) (by kernel_rfl) trivial) (fun x y => by kernel_rfl)
noncomputable def O_95f : Orc := orn
theorem okO_95f : OrcOk PR O_95f := (orn_ok _)
abbrev fa_95f : Fm := (.pair (.i .u64) (.pair (.i .i64) .unit))
abbrev fr_95f : Fm := (.i .u64)
noncomputable def F_95f (a0 : Int) (a1 : Int) : Option (Int) :=
 bif (decide (a1 < (1:Int))) then
 (some (0:Int))
 else
 bif (decide (a1 ≥ (64:Int))) then
 (some a0)
 else
 bif (decide ((0:Int) ≤ (IntKind.wrap .u64 a1))) then
 (some (bits .and .u64 a0 (IntKind.wrap .u64 ((IntKind.wrap .u64 ((1:Int) * ((2:Int) ^ (Min.min (Int.toNat (IntKind.wrap .u64 a1)) (64:Nat))))) - (1:Int)))))
 else
 none
noncomputable def G_95f : T fa_95f → TH hN0 → Option (Int) := fun x y => F_95f x.1 x.2.1
noncomputable def c_95f : Orc := ent i_95f [] 0 (sp fa_95f hN0 fr_95f hN0 G_95f (outN fr_95f))
theorem ok_95f : OrcOk PR c_95f := fnT okO_95f mixed p_95f (by kernel_rfl) (by kernel_rfl) (L := L0) (kp := false) (by kernel_rfl) (inn := (innN fr_95f)) (out := (outN fr_95f)) (fun _ _ => rfl) (loopsL (l := []) (by kernel_rfl) trivial) (fun x y => by kernel_rfl)
noncomputable def O_95b : Orc := (orm c_954 (orm c_955 c_931))
theorem okO_95b : OrcOk PR O_95b := (orm_ok ok_954 (orm_ok ok_955 ok_931))
abbrev fa_95b : Fm := (.pair (.i .i64) (.pair (.i .i64) (.pair (.i .u64) .unit)))
abbrev fr_95b : Fm := (.i .i64)
noncomputable def F_95b (a0 : Int) (a1 : Int) (a2 : Int) : Option (Int) :=
 ((F_954 a0)).bind fun r0 =>
 ((F_955 a0)).bind fun r1 =>
 bif (decide (a2 > (0:Int))) then
 ((F_931 a2)).bind fun r2 =>
 (some (IntKind.wrap .i64 ((mx r1 (IntKind.wrap .i64 ((IntKind.wrap .i64 (a1 + r2)) - (1:Int)))) - r0.2.1)))
 else
 (some (IntKind.wrap .i64 (r1 - r0.2.1)))
noncomputable def G_95b : T fa_95b → TH hN0 → Option (Int) := fun x y => F_95b x.1 x.2.1 x.2.2.1
noncomputable def c_95b : Orc := ent i_95b [] 0 (sp fa_95b hN0 fr_95b hN0 G_95b (outN fr_95b))
theorem ok_95b : OrcOk PR c_95b := fnT okO_95b mixed p_95b (by kernel_rfl) (by kernel_rfl) (L := L0) (kp := false) (by kernel_rfl) (inn := (innN fr_95b)) (out := (outN fr_95b)) (fun _ _ => rfl) (loopsL (l := []) (by kernel_rfl) trivial) (fun x y => by kernel_rfl)
noncomputable def O_95c : Orc := c_949
theorem okO_95c : OrcOk PR O_95c := ok_949
abbrev fa_95c : Fm := (.pair (.i .u64) (.pair (.i .i64) (.pair .b .unit)))
abbrev fr_95c : Fm := (.tup (.pair (.i .u64) (.pair (.i .i64) .unit)))
noncomputable def F_95c (a0 : Int) (a1 : Int) (a2 : Bool) : Option (Int × Int × Unit) :=
 bif (decide (a1 ≤ (0:Int))) then
 ((F_949 a0 a1)).bind fun r0 =>
 bif a2 then
 (some (r0.1, ((1:Int), ())))
 else
 (some (r0.1, ((0:Int), ())))
 else
 ((F_949 a0 a1)).bind fun r1 =>
 bif (!r1.2.1) then
 bif a2 then
 (some (r1.1, ((1:Int), ())))
 else
 (some (r1.1, ((0:Int), ())))
 else
 ((F_949 a0 (IntKind.wrap .i64 (a1 - (1:Int))))).bind fun r2 =>
 bif ((bits .and .u64 r2.1 (1:Int)) == (0:Int)) then
 (some (r1.1, ((1:Int), ())))
 else
 bif r2.2.1 then
 (some (r1.1, ((3:Int), ())))
 else
 bif a2 then
 (some (r1.1, ((3:Int), ())))
 else
 (some (r1.1, ((2:Int), ())))
noncomputable def G_95c : T fa_95c → TH hN0 → Option (Int × Int × Unit) := fun x y => F_95c x.1 x.2.1 x.2.2.1
noncomputable def c_95c : Orc := ent i_95c [] 0 (sp fa_95c hN0 fr_95c hN0 G_95c (outN fr_95c))
theorem ok_95c : OrcOk PR c_95c := fnT okO_95c mixed p_95c (by kernel_rfl) (by kernel_rfl) (L := L0) (kp := false) (by kernel_rfl) (inn := (innN fr_95c)) (out := (outN fr_95c)) (fun _ _ => rfl) (loopsL (l := []) (by kernel_rfl) trivial) (fun x y => by kernel_rfl)
noncomputable def O_95d : Orc := orn
theorem okO_95d : OrcOk PR O_95d := (orn_ok _)
abbrev fa_95d : Fm := (.pair (.i .i64) (.pair .b (.pair (.i .u64) (.pair (.i .i64) .unit))))
abbrev fr_95d : Fm := .b
noncomputable def F_95d (a0 : Int) (a1 : Bool) (a2 : Int) (a3 : Int) : Option (Bool) :=
 bif (a0 == (1:Int)) then
 (some false)
 else
 bif (a0 == (2:Int)) then
 bif (!a1) then
 (some (a3 != (0:Int)))
 else
 (some false)
 else
 bif (a0 == (3:Int)) then
 bif a1 then
 (some (a3 != (0:Int)))
 else
 (some false)
 else
 bif (a0 == (4:Int)) then
 (some (decide (a3 ≥ (2:Int))))
 else
 bif (a3 == (3:Int)) then
 (some true)
 else
 bif (a3 == (2:Int)) then
 (some ((bits .and .u64 a2 (1:Int)) == (1:Int)))
 else
 (some false)
noncomputable def G_95d : T fa_95d → TH hN0 → Option (Bool) := fun x y => F_95d x.1 x.2.1 x.2.2.1 x.2.2.2.1
noncomputable def c_95d : Orc := ent i_95d [] 0 (sp fa_95d hN0 fr_95d hN0 G_95d (outN fr_95d))
theorem ok_95d : OrcOk PR c_95d := fnT okO_95d mixed p_95d (by kernel_rfl) (by kernel_rfl) (L := L0) (kp := false) (by kernel_rfl) (inn := (innN fr_95d)) (out := (outN fr_95d)) (fun _ _ => rfl) (loopsL (l := []) (by kernel_rfl) trivial) (fun x y => by kernel_rfl)
noncomputable def O_93c : Orc := (orm c_948 (orm c_954 (orm c_95b (orm c_95c (orm c_95d (orm c_955 (orm c_952 (orm c_95e (orm c_931 (orm c_95f c_951))))))))))
theorem okO_93c : OrcOk PR O_93c := (orm_ok ok_948 (orm_ok ok_954 (orm_ok ok_95b (orm_ok ok_95c (orm_ok ok_95d (orm_ok ok_955 (orm_ok ok_952 (orm_ok ok_95e (orm_ok ok_931 (orm_ok ok_95f ok_951))))))))))
abbrev fa_93c : Fm := (.pair (.i .i64) (.pair (.i .i64) (.pair .b (.pair (.i .i64) (.pair (.i .u64) (.pair .b .unit))))))
abbrev fr_93c : Fm := (.tup (.pair (.i .u32) (.pair (.agg (.pair .b (.pair .b (.pair .b (.pair .b (.pair .b .unit)))))) .unit)))
noncomputable def F_93c (a0 : Int) (a1 : Int) (a2 : Bool) (a3 : Int) (a4 : Int) (a5 : Bool) : Option (Int × (Bool × Bool × Bool × Bool × Bool × Unit) × Unit) :=
 let x0 : Int := (mn (mx a3 (-(10000:Int))) (10000:Int))
 bif (a4 == (0:Int)) then
 bif (!a5) then
 ((F_948 a0 a2)).bind fun r1 =>
 (some (r1, ((false, (false, (false, (false, (false, ()))))), ())))
 else
 ((F_954 a0)).bind fun r2 =>
 ((F_95b a0 x0 a4)).bind fun r3 =>
 ((F_95c a4 (IntKind.wrap .i64 (r3 - x0)) a5)).bind fun r4 =>
 let x5 : Bool := (r4.2.1 != (0:Int))
 ((F_95d a1 a2 r4.1 r4.2.1)).bind fun r6 =>
 let x7 : Int := (bif r6 then (IntKind.wrap .u64 (r4.1 + (1:Int))) else r4.1)
 let x8 : Bool := ((x7 / ((2:Int) ^ (Min.min (Int.toNat (IntKind.wrap .u64 (IntKind.wrap .i64 (r2.2.1 + (1:Int))))) (64:Nat)))) != (0:Int))
 let x9 : Int := (bif x8 then (x7 / (2:Int)) else x7)
 bif (decide ((0:Int) ≤ (IntKind.wrap .u64 (IntKind.wrap .i64 (r2.2.1 + (1:Int)))))) then
 ((F_955 a0)).bind fun r10 =>
 let x11 : Int := (bif ((x9 / ((2:Int) ^ (Min.min (Int.toNat (IntKind.wrap .u64 r2.2.1)) (64:Nat)))) == (0:Int)) then (0:Int) else (IntKind.wrap .i64 ((IntKind.wrap .i64 ((IntKind.wrap .i64 ((bif x8 then (IntKind.wrap .i64 (r3 + (1:Int))) else r3) + r2.2.1)) - r10)) + (1:Int))))
 bif (decide ((0:Int) ≤ (IntKind.wrap .u64 r2.2.1))) then
 ((F_952 a0)).bind fun r12 =>
 bif (decide (x11 ≥ r12)) then
 ((F_95e a0 a1 a2)).bind fun r13 =>
 (some r13)
 else
 bif x5 then
 bif (a4 == (0:Int)) then
 ((F_95f x9 r2.2.1)).bind fun r14 =>
 ((F_951 a0 a2 x11 (IntKind.wrap .u32 r14))).bind fun r15 =>
 (some (r15, ((false, (false, (false, (true, (x5, ()))))), ())))
 else
 ((F_931 a4)).bind fun r16 =>
 ((F_955 a0)).bind fun r17 =>
 ((F_95f x9 r2.2.1)).bind fun r18 =>
 ((F_951 a0 a2 x11 (IntKind.wrap .u32 r18))).bind fun r19 =>
 (some (r19, ((false, (false, (false, ((decide ((IntKind.wrap .i64 ((IntKind.wrap .i64 (x0 + r16)) - (1:Int))) < r17)), (x5, ()))))), ())))
 else
 ((F_95f x9 r2.2.1)).bind fun r20 =>
 ((F_951 a0 a2 x11 (IntKind.wrap .u32 r20))).bind fun r21 =>
 (some (r21, ((false, (false, (false, (false, (x5, ()))))), ())))
 else
 none
 else
 none
 else
 ((F_954 a0)).bind fun r22 =>
 ((F_95b a0 x0 a4)).bind fun r23 =>
 ((F_95c a4 (IntKind.wrap .i64 (r23 - x0)) a5)).bind fun r24 =>
 let x25 : Bool := (r24.2.1 != (0:Int))
 ((F_95d a1 a2 r24.1 r24.2.1)).bind fun r26 =>
 let x27 : Int := (bif r26 then (IntKind.wrap .u64 (r24.1 + (1:Int))) else r24.1)
 let x28 : Bool := ((x27 / ((2:Int) ^ (Min.min (Int.toNat (IntKind.wrap .u64 (IntKind.wrap .i64 (r22.2.1 + (1:Int))))) (64:Nat)))) != (0:Int))
 let x29 : Int := (bif x28 then (x27 / (2:Int)) else x27)
 bif (decide ((0:Int) ≤ (IntKind.wrap .u64 (IntKind.wrap .i64 (r22.2.1 + (1:Int)))))) then
 ((F_955 a0)).bind fun r30 =>
 let x31 : Int := (bif ((x29 / ((2:Int) ^ (Min.min (Int.toNat (IntKind.wrap .u64 r22.2.1)) (64:Nat)))) == (0:Int)) then (0:Int) else (IntKind.wrap .i64 ((IntKind.wrap .i64 ((IntKind.wrap .i64 ((bif x28 then (IntKind.wrap .i64 (r23 + (1:Int))) else r23) + r22.2.1)) - r30)) + (1:Int))))
 bif (decide ((0:Int) ≤ (IntKind.wrap .u64 r22.2.1))) then
 ((F_952 a0)).bind fun r32 =>
 bif (decide (x31 ≥ r32)) then
 ((F_95e a0 a1 a2)).bind fun r33 =>
 (some r33)
 else
 bif x25 then
 bif (a4 == (0:Int)) then
 ((F_95f x29 r22.2.1)).bind fun r34 =>
 ((F_951 a0 a2 x31 (IntKind.wrap .u32 r34))).bind fun r35 =>
 (some (r35, ((false, (false, (false, (true, (x25, ()))))), ())))
 else
 ((F_931 a4)).bind fun r36 =>
 ((F_955 a0)).bind fun r37 =>
 ((F_95f x29 r22.2.1)).bind fun r38 =>
 ((F_951 a0 a2 x31 (IntKind.wrap .u32 r38))).bind fun r39 =>
 (some (r39, ((false, (false, (false, ((decide ((IntKind.wrap .i64 ((IntKind.wrap .i64 (x0 + r36)) - (1:Int))) < r37)), (x25, ()))))), ())))
 else
 ((F_95f x29 r22.2.1)).bind fun r40 =>
 ((F_951 a0 a2 x31 (IntKind.wrap .u32 r40))).bind fun r41 =>
 (some (r41, ((false, (false, (false, (false, (x25, ()))))), ())))
 else
 none
 else
 none
noncomputable def G_93c : T fa_93c → TH hN0 → Option (Int × (Bool × Bool × Bool × Bool × Bool × Unit) × Unit) := fun x y => F_93c x.1 x.2.1 x.2.2.1 x.2.2.2.1 x.2.2.2.2.1 x.2.2.2.2.2.1
noncomputable def c_93c : Orc := ent i_93c [] 0 (sp fa_93c hN0 fr_93c hN0 G_93c (outN fr_93c))
theorem ok_93c : OrcOk PR c_93c := fnT okO_93c mixed p_93c (by kernel_rfl) (by kernel_rfl) (L := L0) (kp := false) (by kernel_rfl) (inn := (innN fr_93c)) (out := (outN fr_93c)) (fun _ _ => rfl) (loopsL (l := []) (by kernel_rfl) trivial) (fun x y => by kernel_rfl)
end Go.Proofs.Ytfpjkmgfkaoapaa.VI

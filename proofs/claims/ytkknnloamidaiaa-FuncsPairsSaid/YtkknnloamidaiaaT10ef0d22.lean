import Derived.Test.YtkknnloamidaiaaT5148a25f
import Derived.Test.YtkknnloamidaiaaProg
namespace Go.Proofs.Ytkknnloamidaiaa.VI
set_option linter.unusedVariables false
set_option linter.unusedSimpArgs false
noncomputable abbrev PR : Program := Try.prog
theorem mixed : PR.follows .mixedOrders = true := by kernel_rfl
def L0 : Lps := fun _ _ => .no
abbrev y_90 : TypeId := 61
abbrev i_91 : FuncId := 4
noncomputable abbrev f_91 : Func := Try.f4
theorem p_91 : PR.funcs[i_91]? = some f_91 := Try.func4
abbrev i_92 : FuncId := 12
noncomputable abbrev f_92 : Func := Try.f12
theorem p_92 : PR.funcs[i_92]? = some f_92 := Try.func12
abbrev i_93 : FuncId := 13
noncomputable abbrev f_93 : Func := Try.f13
theorem p_93 : PR.funcs[i_93]? = some f_93 := Try.func13
abbrev i_94 : FuncId := 14
noncomputable abbrev f_94 : Func := Try.f14
theorem p_94 : PR.funcs[i_94]? = some f_94 := Try.func14
abbrev i_95 : FuncId := 15
noncomputable abbrev f_95 : Func := Try.f15
theorem p_95 : PR.funcs[i_95]? = some f_95 := Try.func15
abbrev i_96 : FuncId := 16
noncomputable abbrev f_96 : Func := Try.f16
theorem p_96 : PR.funcs[i_96]? = some f_96 := Try.func16
abbrev i_97 : FuncId := 17
noncomputable abbrev f_97 : Func := Try.f17
theorem p_97 : PR.funcs[i_97]? = some f_97 := Try.func17
abbrev i_98 : FuncId := 18
noncomputable abbrev f_98 : Func := Try.f18
theorem p_98 : PR.funcs[i_98]? = some f_98 := Try.func18
abbrev i_99 : FuncId := 19
noncomputable abbrev f_99 : Func := Try.f19
theorem p_99 : PR.funcs[i_99]? = some f_99 := Try.func19
abbrev i_9a : FuncId := 20
noncomputable abbrev f_9a : Func := Try.f20
theorem p_9a : PR.funcs[i_9a]? = some f_9a := Try.func20
abbrev i_9b : FuncId := 21
noncomputable abbrev f_9b : Func := Try.f21
theorem p_9b : PR.funcs[i_9b]? = some f_9b := Try.func21
abbrev i_9c : FuncId := 26
noncomputable abbrev f_9c : Func := Try.f26
theorem p_9c : PR.funcs[i_9c]? = some f_9c := Try.func26
abbrev i_9d : FuncId := 45
noncomputable abbrev f_9d : Func := Try.f45
theorem p_9d : PR.funcs[i_9d]? = some f_9d := Try.func45
abbrev i_9e : FuncId := 46
noncomputable abbrev f_9e : Func := Try.f46
theorem p_9e : PR.funcs[i_9e]? = some f_9e := Try.func46
abbrev i_9f : FuncId := 47
noncomputable abbrev f_9f : Func := Try.f47
theorem p_9f : PR.funcs[i_9f]? = some f_9f := Try.func47
abbrev i_910 : FuncId := 48
noncomputable abbrev f_910 : Func := Try.f48
theorem p_910 : PR.funcs[i_910]? = some f_910 := Try.func48
abbrev i_911 : FuncId := 49
noncomputable abbrev f_911 : Func := Try.f49
theorem p_911 : PR.funcs[i_911]? = some f_911 := Try.func49
abbrev i_912 : FuncId := 50
noncomputable abbrev f_912 : Func := Try.f50
theorem p_912 : PR.funcs[i_912]? = some f_912 := Try.func50
abbrev i_913 : FuncId := 51
noncomputable abbrev f_913 : Func := Try.f51
theorem p_913 : PR.funcs[i_913]? = some f_913 := Try.func51
abbrev i_914 : FuncId := 52
noncomputable abbrev f_914 : Func := Try.f52
theorem p_914 : PR.funcs[i_914]? = some f_914 := Try.func52
abbrev i_915 : FuncId := 53
noncomputable abbrev f_915 : Func := Try.f53
theorem p_915 : PR.funcs[i_915]? = some f_915 := Try.func53
abbrev i_916 : FuncId := 54
noncomputable abbrev f_916 : Func := Try.f54
theorem p_916 : PR.funcs[i_916]? = some f_916 := Try.func54
abbrev i_917 : FuncId := 55
noncomputable abbrev f_917 : Func := Try.f55
theorem p_917 : PR.funcs[i_917]? = some f_917 := Try.func55
abbrev i_918 : FuncId := 56
noncomputable abbrev f_918 : Func := Try.f56
theorem p_918 : PR.funcs[i_918]? = some f_918 := Try.func56
abbrev i_919 : FuncId := 57
noncomputable abbrev f_919 : Func := Try.f57
theorem p_919 : PR.funcs[i_919]? = some f_919 := Try.func57
abbrev i_91a : FuncId := 58
noncomputable abbrev f_91a : Func := Try.f58
theorem p_91a : PR.funcs[i_91a]? = some f_91a := Try.func58
abbrev i_91b : FuncId := 59
noncomputable abbrev f_91b : Func := Try.f59
theorem p_91b : PR.funcs[i_91b]? = some f_91b := Try.func59
abbrev i_91c : FuncId := 60
noncomputable abbrev f_91c : Func := Try.f60
theorem p_91c : PR.funcs[i_91c]? = some f_91c := Try.func60
abbrev i_91d : FuncId := 61
noncomputable abbrev f_91d : Func := Try.f61
theorem p_91d : PR.funcs[i_91d]? = some f_91d := Try.func61
abbrev i_91e : FuncId := 62
noncomputable abbrev f_91e : Func := Try.f62
theorem p_91e : PR.funcs[i_91e]? = some f_91e := Try.func62
abbrev i_91f : FuncId := 63
noncomputable abbrev f_91f : Func := Try.f63
theorem p_91f : PR.funcs[i_91f]? = some f_91f := Try.func63
abbrev i_920 : FuncId := 64
noncomputable abbrev f_920 : Func := Try.f64
theorem p_920 : PR.funcs[i_920]? = some f_920 := Try.func64
abbrev i_921 : FuncId := 65
noncomputable abbrev f_921 : Func := Try.f65
theorem p_921 : PR.funcs[i_921]? = some f_921 := Try.func65
abbrev i_922 : FuncId := 66
noncomputable abbrev f_922 : Func := Try.f66
theorem p_922 : PR.funcs[i_922]? = some f_922 := Try.func66
abbrev i_923 : FuncId := 67
noncomputable abbrev f_923 : Func := Try.f67
theorem p_923 : PR.funcs[i_923]? = some f_923 := Try.func67
abbrev i_924 : FuncId := 68
noncomputable abbrev f_924 : Func := Try.f68
theorem p_924 : PR.funcs[i_924]? = some f_924 := Try.func68
abbrev i_925 : FuncId := 69
noncomputable abbrev f_925 : Func := Try.f69
theorem p_925 : PR.funcs[i_925]? = some f_925 := Try.func69
abbrev i_926 : FuncId := 70
noncomputable abbrev f_926 : Func := Try.f70
theorem p_926 : PR.funcs[i_926]? = some f_926 := Try.func70
abbrev i_927 : FuncId := 73
noncomputable abbrev f_927 : Func := Try.f73
theorem p_927 : PR.funcs[i_927]? = some f_927 := Try.func73
abbrev i_928 : FuncId := 74
noncomputable abbrev f_928 : Func := Try.f74
theorem p_928 : PR.funcs[i_928]? = some f_928 := Try.func74
abbrev i_929 : FuncId := 87
noncomputable abbrev f_929 : Func := Try.f87
theorem p_929 : PR.funcs[i_929]? = some f_929 := Try.func87
abbrev i_92a : FuncId := 88
noncomputable abbrev f_92a : Func := Try.f88
theorem p_92a : PR.funcs[i_92a]? = some f_92a := Try.func88
abbrev i_92b : FuncId := 89
noncomputable abbrev f_92b : Func := Try.f89
theorem p_92b : PR.funcs[i_92b]? = some f_92b := Try.func89
abbrev i_92c : FuncId := 90
noncomputable abbrev f_92c : Func := Try.f90
theorem p_92c : PR.funcs[i_92c]? = some f_92c := Try.func90
abbrev i_92d : FuncId := 91
noncomputable abbrev f_92d : Func := Try.f91
theorem p_92d : PR.funcs[i_92d]? = some f_92d := Try.func91
abbrev i_92e : FuncId := 92
noncomputable abbrev f_92e : Func := Try.f92
theorem p_92e : PR.funcs[i_92e]? = some f_92e := Try.func92
abbrev i_92f : FuncId := 93
noncomputable abbrev f_92f : Func := Try.f93
theorem p_92f : PR.funcs[i_92f]? = some f_92f := Try.func93
abbrev i_930 : FuncId := 94
noncomputable abbrev f_930 : Func := Try.f94
theorem p_930 : PR.funcs[i_930]? = some f_930 := Try.func94
abbrev i_931 : FuncId := 95
noncomputable abbrev f_931 : Func := Try.f95
theorem p_931 : PR.funcs[i_931]? = some f_931 := Try.func95
abbrev i_932 : FuncId := 96
noncomputable abbrev f_932 : Func := Try.f96
theorem p_932 : PR.funcs[i_932]? = some f_932 := Try.func96
abbrev i_933 : FuncId := 97
noncomputable abbrev f_933 : Func := Try.f97
theorem p_933 : PR.funcs[i_933]? = some f_933 := Try.func97
abbrev i_934 : FuncId := 98
noncomputable abbrev f_934 : Func := Try.f98
theorem p_934 : PR.funcs[i_934]? = some f_934 := Try.func98
abbrev i_935 : FuncId := 99
noncomputable abbrev f_935 : Func := Try.f99
theorem p_935 : PR.funcs[i_935]? = some f_935 := Try.func99
abbrev i_936 : FuncId := 100
noncomputable abbrev f_936 : Func := Try.f100
theorem p_936 : PR.funcs[i_936]? = some f_936 := Try.func100
abbrev i_937 : FuncId := 101
noncomputable abbrev f_937 : Func := Try.f101
theorem p_937 : PR.funcs[i_937]? = some f_937 := Try.func101
abbrev i_938 : FuncId := 102
noncomputable abbrev f_938 : Func := Try.f102
theorem p_938 : PR.funcs[i_938]? = some f_938 := Try.func102
abbrev i_939 : FuncId := 103
noncomputable abbrev f_939 : Func := Try.f103
theorem p_939 : PR.funcs[i_939]? = some f_939 := Try.func103
abbrev i_93a : FuncId := 104
noncomputable abbrev f_93a : Func := Try.f104
theorem p_93a : PR.funcs[i_93a]? = some f_93a := Try.func104
abbrev i_93b : FuncId := 105
noncomputable abbrev f_93b : Func := Try.f105
theorem p_93b : PR.funcs[i_93b]? = some f_93b := Try.func105
abbrev i_93c : FuncId := 106
noncomputable abbrev f_93c : Func := Try.f106
theorem p_93c : PR.funcs[i_93c]? = some f_93c := Try.func106
abbrev i_93d : FuncId := 107
noncomputable abbrev f_93d : Func := Try.f107
theorem p_93d : PR.funcs[i_93d]? = some f_93d := Try.func107
abbrev i_93e : FuncId := 108
noncomputable abbrev f_93e : Func := Try.f108
theorem p_93e : PR.funcs[i_93e]? = some f_93e := Try.func108
abbrev i_93f : FuncId := 125
noncomputable abbrev f_93f : Func := Try.f125
theorem p_93f : PR.funcs[i_93f]? = some f_93f := Try.func125
abbrev i_940 : FuncId := 126
noncomputable abbrev f_940 : Func := Try.f126
theorem p_940 : PR.funcs[i_940]? = some f_940 := Try.func126
abbrev i_941 : FuncId := 127
noncomputable abbrev f_941 : Func := Try.f127
theorem p_941 : PR.funcs[i_941]? = some f_941 := Try.func127
abbrev i_942 : FuncId := 128
noncomputable abbrev f_942 : Func := Try.f128
theorem p_942 : PR.funcs[i_942]? = some f_942 := Try.func128
abbrev i_943 : FuncId := 129
noncomputable abbrev f_943 : Func := Try.f129
theorem p_943 : PR.funcs[i_943]? = some f_943 := Try.func129
abbrev i_944 : FuncId := 130
noncomputable abbrev f_944 : Func := Try.f130
theorem p_944 : PR.funcs[i_944]? = some f_944 := Try.func130
abbrev i_945 : FuncId := 131
noncomputable abbrev f_945 : Func := Try.f131
theorem p_945 : PR.funcs[i_945]? = some f_945 := Try.func131
abbrev i_946 : FuncId := 132
noncomputable abbrev f_946 : Func := Try.f132
theorem p_946 : PR.funcs[i_946]? = some f_946 := Try.func132
abbrev i_947 : FuncId := 133
noncomputable abbrev f_947 : Func := Try.f133
theorem p_947 : PR.funcs[i_947]? = some f_947 := Try.func133
abbrev i_948 : FuncId := 134
noncomputable abbrev f_948 : Func := Try.f134
theorem p_948 : PR.funcs[i_948]? = some f_948 := Try.func134
abbrev i_949 : FuncId := 135
noncomputable abbrev f_949 : Func := Try.f135
theorem p_949 : PR.funcs[i_949]? = some f_949 := Try.func135
abbrev i_94a : FuncId := 136
noncomputable abbrev f_94a : Func := Try.f136
theorem p_94a : PR.funcs[i_94a]? = some f_94a := Try.func136
abbrev i_94b : FuncId := 137
noncomputable abbrev f_94b : Func := Try.f137
theorem p_94b : PR.funcs[i_94b]? = some f_94b := Try.func137
abbrev i_94c : FuncId := 138
noncomputable abbrev f_94c : Func := Try.f138
theorem p_94c : PR.funcs[i_94c]? = some f_94c := Try.func138
abbrev i_94d : FuncId := 139
noncomputable abbrev f_94d : Func := Try.f139
theorem p_94d : PR.funcs[i_94d]? = some f_94d := Try.func139
abbrev i_94e : FuncId := 140
noncomputable abbrev f_94e : Func := Try.f140
theorem p_94e : PR.funcs[i_94e]? = some f_94e := Try.func140
abbrev i_94f : FuncId := 155
noncomputable abbrev f_94f : Func := Try.f155
theorem p_94f : PR.funcs[i_94f]? = some f_94f := Try.func155
abbrev i_950 : FuncId := 156
noncomputable abbrev f_950 : Func := Try.f156
theorem p_950 : PR.funcs[i_950]? = some f_950 := Try.func156
abbrev i_951 : FuncId := 157
noncomputable abbrev f_951 : Func := Try.f157
theorem p_951 : PR.funcs[i_951]? = some f_951 := Try.func157
abbrev i_952 : FuncId := 158
noncomputable abbrev f_952 : Func := Try.f158
theorem p_952 : PR.funcs[i_952]? = some f_952 := Try.func158
abbrev i_953 : FuncId := 159
noncomputable abbrev f_953 : Func := Try.f159
theorem p_953 : PR.funcs[i_953]? = some f_953 := Try.func159
abbrev i_954 : FuncId := 166
noncomputable abbrev f_954 : Func := Try.f166
theorem p_954 : PR.funcs[i_954]? = some f_954 := Try.func166
set_option maxRecDepth 100000
noncomputable def O_93b : Orc := orn
theorem okO_93b : OrcOk PR O_93b := (orn_ok _)
abbrev fa_93b : Fm := (.pair (.i .i64) .unit)
abbrev ha_93b : List BF := []
abbrev fr_93b : Fm := (.tup (.pair (.i .i64) (.pair (.i .i64) .unit)))
abbrev hr_93b : List BF := []
noncomputable def L_93b : Lps := L0
def inn_93b : T fr_93b → TH hr_93b → Int × Int × Unit := (fun z w => z)
def out_93b : Int × Int × Unit → T fr_93b × TH hr_93b := fun r => (r, ())
noncomputable def F_93b (a0 : Int) : Option (Int × Int × Unit) :=
 bif (a0 == (0:Int)) then
 (some ((5:Int), ((10:Int), ())))
 else
 bif (a0 == (1:Int)) then
 (some ((8:Int), ((7:Int), ())))
 else
 (some ((8:Int), ((23:Int), ())))
noncomputable def G_93b : T fa_93b → TH ha_93b → Option (Int × Int × Unit) := fun x y => F_93b x.1
noncomputable def c_93b : Orc := ent i_93b [] 0 (sp fa_93b ha_93b fr_93b hr_93b G_93b out_93b)
theorem ok_93b : OrcOk PR c_93b := fnT okO_93b mixed p_93b (by kernel_rfl) (by kernel_rfl) (L := L_93b) (kp := false) (by kernel_rfl) (inn := inn_93b) (out := out_93b) (fun _ _ => rfl) (loopsL (l := []) (by kernel_rfl) trivial) (fun x y => by kernel_rfl)
noncomputable def O_92c : Orc := c_93b
theorem okO_92c : OrcOk PR O_92c := ok_93b
abbrev fa_92c : Fm := (.pair (.i .i64) (.pair (.i .u32) .unit))
abbrev ha_92c : List BF := []
abbrev fr_92c : Fm := (.tup (.pair .b (.pair (.i .i64) (.pair (.i .u32) .unit))))
abbrev hr_92c : List BF := []
noncomputable def L_92c : Lps := L0
def inn_92c : T fr_92c → TH hr_92c → Bool × Int × Int × Unit := (fun z w => z)
def out_92c : Bool × Int × Int × Unit → T fr_92c × TH hr_92c := fun r => (r, ())
noncomputable def F_92c (a0 : Int) (a1 : Int) : Option (Bool × Int × Int × Unit) :=
 ((F_93b a0)).bind fun r0 =>
 let x1 : Int := ((2:Int) ^ (Min.min (Int.toNat (IntKind.wrap .u64 r0.2.1)) (32:Nat)))
 bif (decide ((0:Int) ≤ (IntKind.wrap .u64 (IntKind.wrap .i64 (r0.1 + r0.2.1))))) then
 bif (decide ((0:Int) ≤ (IntKind.wrap .u64 r0.2.1))) then
 bif (decide ((0:Int) ≤ (IntKind.wrap .u64 r0.1))) then
 bif (decide ((0:Int) ≤ (IntKind.wrap .u64 r0.2.1))) then
 (some (((bits .and .u32 (a1 / ((2:Int) ^ (Min.min (Int.toNat (IntKind.wrap .u64 (IntKind.wrap .i64 (r0.1 + r0.2.1)))) (32:Nat)))) (1:Int)) == (1:Int)), ((IntKind.wrap .i64 (bits .and .u32 (a1 / x1) (IntKind.wrap .u32 ((IntKind.wrap .u32 ((1:Int) * ((2:Int) ^ (Min.min (Int.toNat (IntKind.wrap .u64 r0.1)) (32:Nat))))) - (1:Int))))), ((bits .and .u32 a1 (IntKind.wrap .u32 ((IntKind.wrap .u32 ((1:Int) * x1)) - (1:Int)))), ()))))
 else
 none
 else
 none
 else
 none
 else
 none
noncomputable def G_92c : T fa_92c → TH ha_92c → Option (Bool × Int × Int × Unit) := fun x y => F_92c x.1 x.2.1
noncomputable def c_92c : Orc := ent i_92c [] 0 (sp fa_92c ha_92c fr_92c hr_92c G_92c out_92c)
theorem ok_92c : OrcOk PR c_92c := fnT okO_92c mixed p_92c (by kernel_rfl) (by kernel_rfl) (L := L_92c) (kp := false) (by kernel_rfl) (inn := inn_92c) (out := out_92c) (fun _ _ => rfl) (loopsL (l := []) (by kernel_rfl) trivial) (fun x y => by kernel_rfl)
noncomputable def O_933 : Orc := c_93b
theorem okO_933 : OrcOk PR O_933 := ok_93b
abbrev fa_933 : Fm := (.pair (.i .i64) .unit)
abbrev ha_933 : List BF := []
abbrev fr_933 : Fm := (.i .i64)
abbrev hr_933 : List BF := []
noncomputable def L_933 : Lps := L0
def inn_933 : T fr_933 → TH hr_933 → Int := (fun z w => z)
def out_933 : Int → T fr_933 × TH hr_933 := fun r => (r, ())
noncomputable def F_933 (a0 : Int) : Option (Int) :=
 ((F_93b a0)).bind fun r0 =>
 bif (decide ((0:Int) ≤ (IntKind.wrap .u64 r0.1))) then
 (some (IntKind.wrap .i64 ((IntKind.wrap .i64 ((1:Int) * ((2:Int) ^ (Min.min (Int.toNat (IntKind.wrap .u64 r0.1)) (64:Nat))))) - (1:Int))))
 else
 none
noncomputable def G_933 : T fa_933 → TH ha_933 → Option (Int) := fun x y => F_933 x.1
noncomputable def c_933 : Orc := ent i_933 [] 0 (sp fa_933 ha_933 fr_933 hr_933 G_933 out_933)
theorem ok_933 : OrcOk PR c_933 := fnT okO_933 mixed p_933 (by kernel_rfl) (by kernel_rfl) (L := L_933) (kp := false) (by kernel_rfl) (inn := inn_933) (out := out_933) (fun _ _ => rfl) (loopsL (l := []) (by kernel_rfl) trivial) (fun x y => by kernel_rfl)
noncomputable def O_92b : Orc := (orm c_93b (orm c_92c c_933))
theorem okO_92b : OrcOk PR O_92b := (orm_ok ok_93b (orm_ok ok_92c ok_933))
abbrev fa_92b : Fm := (.pair (.i .i64) (.pair (.i .u32) .unit))
abbrev ha_92b : List BF := []
abbrev fr_92b : Fm := (.i .i64)
abbrev hr_92b : List BF := []
noncomputable def L_92b : Lps := L0
def inn_92b : T fr_92b → TH hr_92b → Int := (fun z w => z)
def out_92b : Int → T fr_92b × TH hr_92b := fun r => (r, ())
noncomputable def F_92b (a0 : Int) (a1 : Int) : Option (Int) :=
 ((F_93b a0)).bind fun r0 =>
 ((F_92c a0 a1)).bind fun r1 =>
 let x2 : Bool := (r1.2.1 == (0:Int))
 let x3 : Int := r1.2.2.1
 let x4 : Bool := (x3 == (0:Int))
 let x5 : Bool := ((x3 / ((2:Int) ^ (Min.min (Int.toNat (IntKind.wrap .u64 (IntKind.wrap .i64 (r0.2.1 - (1:Int))))) (32:Nat)))) == (1:Int))
 bif x2 then
 bif x4 then
 (some (0:Int))
 else
 bif x2 then
 (some (1:Int))
 else
 ((F_933 a0)).bind fun r6 =>
 bif (decide (r1.2.1 < r6)) then
 (some (2:Int))
 else
 bif x4 then
 (some (3:Int))
 else
 bif (decide ((0:Int) ≤ (IntKind.wrap .u64 (IntKind.wrap .i64 (r0.2.1 - (1:Int)))))) then
 bif x5 then
 (some (4:Int))
 else
 (some (5:Int))
 else
 none
 else
 bif x2 then
 (some (1:Int))
 else
 ((F_933 a0)).bind fun r7 =>
 bif (decide (r1.2.1 < r7)) then
 (some (2:Int))
 else
 bif x4 then
 (some (3:Int))
 else
 bif (decide ((0:Int) ≤ (IntKind.wrap .u64 (IntKind.wrap .i64 (r0.2.1 - (1:Int)))))) then
 bif x5 then
 (some (4:Int))
 else
 (some (5:Int))
 else
 none
noncomputable def G_92b : T fa_92b → TH ha_92b → Option (Int) := fun x y => F_92b x.1 x.2.1
noncomputable def c_92b : Orc := ent i_92b [] 0 (sp fa_92b ha_92b fr_92b hr_92b G_92b out_92b)
theorem ok_92b : OrcOk PR c_92b := fnT okO_92b mixed p_92b (by kernel_rfl) (by kernel_rfl) (L := L_92b) (kp := false) (by kernel_rfl) (inn := inn_92b) (out := out_92b) (fun _ _ => rfl) (loopsL (l := []) (by kernel_rfl) trivial) (fun x y => by kernel_rfl)
noncomputable def O_929 : Orc := c_92b
theorem okO_929 : OrcOk PR O_929 := ok_92b
abbrev fa_929 : Fm := (.pair (.i .i64) (.pair (.i .u32) .unit))
abbrev ha_929 : List BF := []
abbrev fr_929 : Fm := .b
abbrev hr_929 : List BF := []
noncomputable def L_929 : Lps := L0
def inn_929 : T fr_929 → TH hr_929 → Bool := (fun z w => z)
def out_929 : Bool → T fr_929 × TH hr_929 := fun r => (r, ())
noncomputable def F_929 (a0 : Int) (a1 : Int) : Option (Bool) :=
 ((F_92b a0 a1)).bind fun r0 =>
 (some (decide (r0 ≥ (4:Int))))
noncomputable def G_929 : T fa_929 → TH ha_929 → Option (Bool) := fun x y => F_929 x.1 x.2.1
noncomputable def c_929 : Orc := ent i_929 [] 0 (sp fa_929 ha_929 fr_929 hr_929 G_929 out_929)
theorem ok_929 : OrcOk PR c_929 := fnT okO_929 mixed p_929 (by kernel_rfl) (by kernel_rfl) (L := L_929) (kp := false) (by kernel_rfl) (inn := inn_929) (out := out_929) (fun _ _ => rfl) (loopsL (l := []) (by kernel_rfl) trivial) (fun x y => by kernel_rfl)
noncomputable def O_93f : Orc := c_93b
theorem okO_93f : OrcOk PR O_93f := ok_93b
abbrev fa_93f : Fm := (.pair (.i .i64) .unit)
abbrev ha_93f : List BF := []
abbrev fr_93f : Fm := (.i .u32)
abbrev hr_93f : List BF := []
noncomputable def L_93f : Lps := L0
def inn_93f : T fr_93f → TH hr_93f → Int := (fun z w => z)
def out_93f : Int → T fr_93f × TH hr_93f := fun r => (r, ())
noncomputable def F_93f (a0 : Int) : Option (Int) :=
 ((F_93b a0)).bind fun r0 =>
 bif (decide ((0:Int) ≤ (IntKind.wrap .u64 (IntKind.wrap .i64 ((IntKind.wrap .i64 (r0.1 + r0.2.1)) + (1:Int)))))) then
 (some (IntKind.wrap .u32 ((IntKind.wrap .u32 ((1:Int) * ((2:Int) ^ (Min.min (Int.toNat (IntKind.wrap .u64 (IntKind.wrap .i64 ((IntKind.wrap .i64 (r0.1 + r0.2.1)) + (1:Int))))) (32:Nat))))) - (1:Int))))
 else
 none
noncomputable def G_93f : T fa_93f → TH ha_93f → Option (Int) := fun x y => F_93f x.1
noncomputable def c_93f : Orc := ent i_93f [] 0 (sp fa_93f ha_93f fr_93f hr_93f G_93f out_93f)
theorem ok_93f : OrcOk PR c_93f := fnT okO_93f mixed p_93f (by kernel_rfl) (by kernel_rfl) (L := L_93f) (kp := false) (by kernel_rfl) (inn := inn_93f) (out := out_93f) (fun _ _ => rfl) (loopsL (l := []) (by kernel_rfl) trivial) (fun x y => by kernel_rfl)
noncomputable def O_910 : Orc := c_92c
theorem okO_910 : OrcOk PR O_910 := ok_92c
abbrev fa_910 : Fm := (.pair (.i .i64) (.pair (.i .u32) .unit))
abbrev ha_910 : List BF := []
abbrev fr_910 : Fm := .b
abbrev hr_910 : List BF := []
noncomputable def L_910 : Lps := L0
def inn_910 : T fr_910 → TH hr_910 → Bool := (fun z w => z)
def out_910 : Bool → T fr_910 × TH hr_910 := fun r => (r, ())
noncomputable def F_910 (a0 : Int) (a1 : Int) : Option (Bool) :=
 ((F_92c a0 a1)).bind fun r0 =>
 (some r0.1)
noncomputable def G_910 : T fa_910 → TH ha_910 → Option (Bool) := fun x y => F_910 x.1 x.2.1
noncomputable def c_910 : Orc := ent i_910 [] 0 (sp fa_910 ha_910 fr_910 hr_910 G_910 out_910)
theorem ok_910 : OrcOk PR c_910 := fnT okO_910 mixed p_910 (by kernel_rfl) (by kernel_rfl) (L := L_910) (kp := false) (by kernel_rfl) (inn := inn_910) (out := out_910) (fun _ _ => rfl) (loopsL (l := []) (by kernel_rfl) trivial) (fun x y => by kernel_rfl)
noncomputable def O_92d : Orc := (orm c_93b c_93f)
theorem okO_92d : OrcOk PR O_92d := (orm_ok ok_93b ok_93f)
abbrev fa_92d : Fm := (.pair (.i .i64) (.pair (.i .u32) .unit))
abbrev ha_92d : List BF := []
abbrev fr_92d : Fm := (.i .u32)
abbrev hr_92d : List BF := []
noncomputable def L_92d : Lps := L0
def inn_92d : T fr_92d → TH hr_92d → Int := (fun z w => z)
def out_92d : Int → T fr_92d × TH hr_92d := fun r => (r, ())
noncomputable def F_92d (a0 : Int) (a1 : Int) : Option (Int) :=
 ((F_93b a0)).bind fun r0 =>
 ((F_93f a0)).bind fun r1 =>
 bif (decide ((0:Int) ≤ (IntKind.wrap .u64 (IntKind.wrap .i64 (r0.1 + r0.2.1))))) then
 (some (bits .xor .u32 (bits .and .u32 a1 r1) (IntKind.wrap .u32 ((1:Int) * ((2:Int) ^ (Min.min (Int.toNat (IntKind.wrap .u64 (IntKind.wrap .i64 (r0.1 + r0.2.1)))) (32:Nat)))))))
 else
 none
noncomputable def G_92d : T fa_92d → TH ha_92d → Option (Int) := fun x y => F_92d x.1 x.2.1
noncomputable def c_92d : Orc := ent i_92d [] 0 (sp fa_92d ha_92d fr_92d hr_92d G_92d out_92d)
theorem ok_92d : OrcOk PR c_92d := fnT okO_92d mixed p_92d (by kernel_rfl) (by kernel_rfl) (L := L_92d) (kp := false) (by kernel_rfl) (inn := inn_92d) (out := out_92d) (fun _ _ => rfl) (loopsL (l := []) (by kernel_rfl) trivial) (fun x y => by kernel_rfl)
noncomputable def O_94f : Orc := (orm c_93f (orm c_910 c_92d))
theorem okO_94f : OrcOk PR O_94f := (orm_ok ok_93f (orm_ok ok_910 ok_92d))
abbrev fa_94f : Fm := (.pair (.i .i64) (.pair (.i .u32) .unit))
abbrev ha_94f : List BF := []
abbrev fr_94f : Fm := (.i .i64)
abbrev hr_94f : List BF := []
noncomputable def L_94f : Lps := L0
def inn_94f : T fr_94f → TH hr_94f → Int := (fun z w => z)
def out_94f : Int → T fr_94f × TH hr_94f := fun r => (r, ())
noncomputable def F_94f (a0 : Int) (a1 : Int) : Option (Int) :=
 ((F_93f a0)).bind fun r0 =>
 ((F_910 a0 a1)).bind fun r1 =>
 bif (!r1) then
 (some (IntKind.wrap .i64 (bits .and .u32 a1 r0)))
 else
 ((F_92d a0 a1)).bind fun r2 =>
 (some (IntKind.wrap .i64 ((-(1:Int)) - (IntKind.wrap .i64 r2))))
noncomputable def G_94f : T fa_94f → TH ha_94f → Option (Int) := fun x y => F_94f x.1 x.2.1
noncomputable def c_94f : Orc := ent i_94f [] 0 (sp fa_94f ha_94f fr_94f hr_94f G_94f out_94f)
theorem ok_94f : OrcOk PR c_94f := fnT okO_94f mixed p_94f (by kernel_rfl) (by kernel_rfl) (L := L_94f) (kp := false) (by kernel_rfl) (inn := inn_94f) (out := out_94f) (fun _ _ => rfl) (loopsL (l := []) (by kernel_rfl) trivial) (fun x y => by kernel_rfl)
noncomputable def O_9f : Orc := c_92b
theorem okO_9f : OrcOk PR O_9f := ok_92b
abbrev fa_9f : Fm := (.pair (.i .i64) (.pair (.i .u32) .unit))
abbrev ha_9f : List BF := []
abbrev fr_9f : Fm := .b
abbrev hr_9f : List BF := []
noncomputable def L_9f : Lps := L0
def inn_9f : T fr_9f → TH hr_9f → Bool := (fun z w => z)
def out_9f : Bool → T fr_9f × TH hr_9f := fun r => (r, ())
noncomputable def F_9f (a0 : Int) (a1 : Int) : Option (Bool) :=
 ((F_92b a0 a1)).bind fun r0 =>
 (some (r0 == (0:Int)))
noncomputable def G_9f : T fa_9f → TH ha_9f → Option (Bool) := fun x y => F_9f x.1 x.2.1
noncomputable def c_9f : Orc := ent i_9f [] 0 (sp fa_9f ha_9f fr_9f hr_9f G_9f out_9f)
theorem ok_9f : OrcOk PR c_9f := fnT okO_9f mixed p_9f (by kernel_rfl) (by kernel_rfl) (L := L_9f) (kp := false) (by kernel_rfl) (inn := inn_9f) (out := out_9f) (fun _ _ => rfl) (loopsL (l := []) (by kernel_rfl) trivial) (fun x y => by kernel_rfl)
noncomputable def O_940 : Orc := (orm c_929 (orm c_94f c_9f))
theorem okO_940 : OrcOk PR O_940 := (orm_ok ok_929 (orm_ok ok_94f ok_9f))
abbrev fa_940 : Fm := (.pair (.i .i64) (.pair (.i .u32) (.pair (.i .u32) .unit)))
abbrev ha_940 : List BF := []
abbrev fr_940 : Fm := (.tup (.pair (.i .i64) (.pair .b .unit)))
abbrev hr_940 : List BF := []
noncomputable def L_940 : Lps := L0
def inn_940 : T fr_940 → TH hr_940 → Int × Bool × Unit := (fun z w => z)
def out_940 : Int × Bool × Unit → T fr_940 × TH hr_940 := fun r => (r, ())
noncomputable def F_940 (a0 : Int) (a1 : Int) (a2 : Int) : Option (Int × Bool × Unit) :=
 ((F_929 a0 a1)).bind fun r0 =>
 bif r0 then
 (some ((0:Int), (false, ())))
 else
 ((F_929 a0 a2)).bind fun r1 =>
 bif r1 then
 (some ((0:Int), (false, ())))
 else
 ((F_94f a0 a1)).bind fun r2 =>
 ((F_94f a0 a2)).bind fun r3 =>
 ((F_9f a0 a1)).bind fun r4 =>
 bif r4 then
 ((F_9f a0 a2)).bind fun r5 =>
 bif r5 then
 (some ((0:Int), (true, ())))
 else
 bif (decide (r2 < r3)) then
 (some ((-(1:Int)), (true, ())))
 else
 bif (decide (r2 > r3)) then
 (some ((1:Int), (true, ())))
 else
 (some ((0:Int), (true, ())))
 else
 bif (decide (r2 < r3)) then
 (some ((-(1:Int)), (true, ())))
 else
 bif (decide (r2 > r3)) then
 (some ((1:Int), (true, ())))
 else
 (some ((0:Int), (true, ())))
noncomputable def G_940 : T fa_940 → TH ha_940 → Option (Int × Bool × Unit) := fun x y => F_940 x.1 x.2.1 x.2.2.1
noncomputable def c_940 : Orc := ent i_940 [] 0 (sp fa_940 ha_940 fr_940 hr_940 G_940 out_940)
theorem ok_940 : OrcOk PR c_940 := fnT okO_940 mixed p_940 (by kernel_rfl) (by kernel_rfl) (L := L_940) (kp := false) (by kernel_rfl) (inn := inn_940) (out := out_940) (fun _ _ => rfl) (loopsL (l := []) (by kernel_rfl) trivial) (fun x y => by kernel_rfl)
noncomputable def O_92e : Orc := c_940
theorem okO_92e : OrcOk PR O_92e := ok_940
abbrev fa_92e : Fm := (.pair (.i .i64) (.pair (.i .u32) (.pair (.i .u32) .unit)))
abbrev ha_92e : List BF := []
abbrev fr_92e : Fm := .b
abbrev hr_92e : List BF := []
noncomputable def L_92e : Lps := L0
def inn_92e : T fr_92e → TH hr_92e → Bool := (fun z w => z)
def out_92e : Bool → T fr_92e × TH hr_92e := fun r => (r, ())
noncomputable def F_92e (a0 : Int) (a1 : Int) (a2 : Int) : Option (Bool) :=
 ((F_940 a0 a1 a2)).bind fun r0 =>
 (some (decide (r0.1 < (0:Int))))
noncomputable def G_92e : T fa_92e → TH ha_92e → Option (Bool) := fun x y => F_92e x.1 x.2.1 x.2.2.1
noncomputable def c_92e : Orc := ent i_92e [] 0 (sp fa_92e ha_92e fr_92e hr_92e G_92e out_92e)
theorem ok_92e : OrcOk PR c_92e := fnT okO_92e mixed p_92e (by kernel_rfl) (by kernel_rfl) (L := L_92e) (kp := false) (by kernel_rfl) (inn := inn_92e) (out := out_92e) (fun _ _ => rfl) (loopsL (l := []) (by kernel_rfl) trivial) (fun x y => by kernel_rfl)
noncomputable def O_932 : Orc := c_93b
theorem okO_932 : OrcOk PR O_932 := ok_93b
abbrev fa_932 : Fm := (.pair (.i .i64) (.pair .b (.pair (.i .i64) (.pair (.i .u32) .unit))))
abbrev ha_932 : List BF := []
abbrev fr_932 : Fm := (.i .u32)
abbrev hr_932 : List BF := []
noncomputable def L_932 : Lps := L0
def inn_932 : T fr_932 → TH hr_932 → Int := (fun z w => z)
def out_932 : Int → T fr_932 × TH hr_932 := fun r => (r, ())
noncomputable def F_932 (a0 : Int) (a1 : Bool) (a2 : Int) (a3 : Int) : Option (Int) :=
 ((F_93b a0)).bind fun r0 =>
 let x1 : Int := (bits .or .u32 (IntKind.wrap .u32 ((IntKind.wrap .u32 a2) * ((2:Int) ^ (Min.min (Int.toNat (IntKind.wrap .u64 r0.2.1)) (32:Nat))))) a3)
 bif (decide ((0:Int) ≤ (IntKind.wrap .u64 r0.2.1))) then
 bif a1 then
 bif (decide ((0:Int) ≤ (IntKind.wrap .u64 (IntKind.wrap .i64 (r0.1 + r0.2.1))))) then
 (some (bits .or .u32 x1 (IntKind.wrap .u32 ((1:Int) * ((2:Int) ^ (Min.min (Int.toNat (IntKind.wrap .u64 (IntKind.wrap .i64 (r0.1 + r0.2.1)))) (32:Nat)))))))
 else
 none
 else
 (some x1)
 else
 none
noncomputable def G_932 : T fa_932 → TH ha_932 → Option (Int) := fun x y => F_932 x.1 x.2.1 x.2.2.1 x.2.2.2.1
noncomputable def c_932 : Orc := ent i_932 [] 0 (sp fa_932 ha_932 fr_932 hr_932 G_932 out_932)
theorem ok_932 : OrcOk PR c_932 := fnT okO_932 mixed p_932 (by kernel_rfl) (by kernel_rfl) (L := L_932) (kp := false) (by kernel_rfl) (inn := inn_932) (out := out_932) (fun _ _ => rfl) (loopsL (l := []) (by kernel_rfl) trivial) (fun x y => by kernel_rfl)
noncomputable def O_92a : Orc := (orm c_93b (orm c_933 c_932))
theorem okO_92a : OrcOk PR O_92a := (orm_ok ok_93b (orm_ok ok_933 ok_932))
abbrev fa_92a : Fm := (.pair (.i .i64) .unit)
abbrev ha_92a : List BF := []
abbrev fr_92a : Fm := (.i .u32)
abbrev hr_92a : List BF := []
noncomputable def L_92a : Lps := L0
def inn_92a : T fr_92a → TH hr_92a → Int := (fun z w => z)
def out_92a : Int → T fr_92a × TH hr_92a := fun r => (r, ())
noncomputable def F_92a (a0 : Int) : Option (Int) :=
 ((F_93b a0)).bind fun r0 =>
 ((F_933 a0)).bind fun r1 =>
 bif (decide ((0:Int) ≤ (IntKind.wrap .u64 (IntKind.wrap .i64 (r0.2.1 - (1:Int)))))) then
 ((F_932 a0 false r1 (IntKind.wrap .u32 ((1:Int) * ((2:Int) ^ (Min.min (Int.toNat (IntKind.wrap .u64 (IntKind.wrap .i64 (r0.2.1 - (1:Int))))) (32:Nat))))))).bind fun r2 =>
 (some r2)
 else
 none
noncomputable def G_92a : T fa_92a → TH ha_92a → Option (Int) := fun x y => F_92a x.1
noncomputable def c_92a : Orc := ent i_92a [] 0 (sp fa_92a ha_92a fr_92a hr_92a G_92a out_92a)
theorem ok_92a : OrcOk PR c_92a := fnT okO_92a mixed p_92a (by kernel_rfl) (by kernel_rfl) (L := L_92a) (kp := false) (by kernel_rfl) (inn := inn_92a) (out := out_92a) (fun _ _ => rfl) (loopsL (l := []) (by kernel_rfl) trivial) (fun x y => by kernel_rfl)
noncomputable def O_91d : Orc := orn
theorem okO_91d : OrcOk PR O_91d := (orn_ok _)
abbrev fa_91d : Fm := (.pair (.i .i64) .unit)
abbrev ha_91d : List BF := []
abbrev fr_91d : Fm := (.tup (.pair (.i .i64) (.pair (.i .i64) .unit)))
abbrev hr_91d : List BF := []
noncomputable def L_91d : Lps := L0
def inn_91d : T fr_91d → TH hr_91d → Int × Int × Unit := (fun z w => z)
def out_91d : Int × Int × Unit → T fr_91d × TH hr_91d := fun r => (r, ())
noncomputable def F_91d (a0 : Int) : Option (Int × Int × Unit) :=
 bif (a0 == (0:Int)) then
 (some ((5:Int), ((10:Int), ())))
 else
 bif (a0 == (1:Int)) then
 (some ((8:Int), ((7:Int), ())))
 else
 (some ((8:Int), ((23:Int), ())))
noncomputable def G_91d : T fa_91d → TH ha_91d → Option (Int × Int × Unit) := fun x y => F_91d x.1
noncomputable def c_91d : Orc := ent i_91d [] 0 (sp fa_91d ha_91d fr_91d hr_91d G_91d out_91d)
theorem ok_91d : OrcOk PR c_91d := fnT okO_91d mixed p_91d (by kernel_rfl) (by kernel_rfl) (L := L_91d) (kp := false) (by kernel_rfl) (inn := inn_91d) (out := out_91d) (fun _ _ => rfl) (loopsL (l := []) (by kernel_rfl) trivial) (fun x y => by kernel_rfl)
noncomputable def O_923 : Orc := c_91d
theorem okO_923 : OrcOk PR O_923 := ok_91d
abbrev fa_923 : Fm := (.pair (.i .i64) .unit)
abbrev ha_923 : List BF := []
abbrev fr_923 : Fm := (.i .u32)
abbrev hr_923 : List BF := []
noncomputable def L_923 : Lps := L0
def inn_923 : T fr_923 → TH hr_923 → Int := (fun z w => z)
def out_923 : Int → T fr_923 × TH hr_923 := fun r => (r, ())
noncomputable def F_923 (a0 : Int) : Option (Int) :=
 ((F_91d a0)).bind fun r0 =>
 bif (decide ((0:Int) ≤ (IntKind.wrap .i64 ((IntKind.wrap .i64 ((1:Int) + r0.1)) + r0.2.1)))) then
 (some (IntKind.wrap .u32 (IntKind.wrap .u64 ((IntKind.wrap .u64 ((1:Int) * ((2:Int) ^ (Min.min (Int.toNat (IntKind.wrap .i64 ((IntKind.wrap .i64 ((1:Int) + r0.1)) + r0.2.1))) (64:Nat))))) - (1:Int)))))
 else
 none
noncomputable def G_923 : T fa_923 → TH ha_923 → Option (Int) := fun x y => F_923 x.1
noncomputable def c_923 : Orc := ent i_923 [] 0 (sp fa_923 ha_923 fr_923 hr_923 G_923 out_923)
theorem ok_923 : OrcOk PR c_923 := fnT okO_923 mixed p_923 (by kernel_rfl) (by kernel_rfl) (L := L_923) (kp := false) (by kernel_rfl) (inn := inn_923) (out := out_923) (fun _ _ => rfl) (loopsL (l := []) (by kernel_rfl) trivial) (fun x y => by kernel_rfl)
noncomputable def O_924 : Orc := c_91d
theorem okO_924 : OrcOk PR O_924 := ok_91d
abbrev fa_924 : Fm := (.pair (.i .i64) (.pair .b .unit))
abbrev ha_924 : List BF := []
abbrev fr_924 : Fm := (.i .u32)
abbrev hr_924 : List BF := []
noncomputable def L_924 : Lps := L0
def inn_924 : T fr_924 → TH hr_924 → Int := (fun z w => z)
def out_924 : Int → T fr_924 × TH hr_924 := fun r => (r, ())
noncomputable def F_924 (a0 : Int) (a1 : Bool) : Option (Int) :=
 ((F_91d a0)).bind fun r0 =>
 bif a1 then
 bif (decide ((0:Int) ≤ (IntKind.wrap .i64 (r0.1 + r0.2.1)))) then
 (some (IntKind.wrap .u32 ((1:Int) * ((2:Int) ^ (Min.min (Int.toNat (IntKind.wrap .i64 (r0.1 + r0.2.1))) (32:Nat))))))
 else
 none
 else
 (some (0:Int))
noncomputable def G_924 : T fa_924 → TH ha_924 → Option (Int) := fun x y => F_924 x.1 x.2.1
noncomputable def c_924 : Orc := ent i_924 [] 0 (sp fa_924 ha_924 fr_924 hr_924 G_924 out_924)
theorem ok_924 : OrcOk PR c_924 := fnT okO_924 mixed p_924 (by kernel_rfl) (by kernel_rfl) (L := L_924) (kp := false) (by kernel_rfl) (inn := inn_924) (out := out_924) (fun _ _ => rfl) (loopsL (l := []) (by kernel_rfl) trivial) (fun x y => by kernel_rfl)
noncomputable def O_91e : Orc := (orm c_91d c_923)
theorem okO_91e : OrcOk PR O_91e := (orm_ok ok_91d ok_923)
abbrev fa_91e : Fm := (.pair (.i .i64) (.pair (.i .u32) .unit))
abbrev ha_91e : List BF := []
abbrev fr_91e : Fm := (.tup (.pair .b (.pair (.i .i64) (.pair (.i .u64) .unit))))
abbrev hr_91e : List BF := []
noncomputable def L_91e : Lps := L0
def inn_91e : T fr_91e → TH hr_91e → Bool × Int × Int × Unit := (fun z w => z)
def out_91e : Bool × Int × Int × Unit → T fr_91e × TH hr_91e := fun r => (r, ())
noncomputable def F_91e (a0 : Int) (a1 : Int) : Option (Bool × Int × Int × Unit) :=
 ((F_91d a0)).bind fun r0 =>
 let x1 : Int := ((2:Int) ^ (Min.min (Int.toNat r0.2.1) (32:Nat)))
 ((F_923 a0)).bind fun r2 =>
 let x3 : Int := (bits .and .u32 a1 r2)
 bif (decide ((0:Int) ≤ (IntKind.wrap .i64 (r0.1 + r0.2.1)))) then
 bif (decide ((0:Int) ≤ r0.2.1)) then
 bif (decide ((0:Int) ≤ r0.1)) then
 bif (decide ((0:Int) ≤ r0.2.1)) then
 (some (((x3 / ((2:Int) ^ (Min.min (Int.toNat (IntKind.wrap .i64 (r0.1 + r0.2.1))) (32:Nat)))) == (1:Int)), ((IntKind.wrap .i64 (bits .and .u32 (x3 / x1) (IntKind.wrap .u32 ((IntKind.wrap .u32 ((1:Int) * ((2:Int) ^ (Min.min (Int.toNat r0.1) (32:Nat))))) - (1:Int))))), ((IntKind.wrap .u64 (bits .and .u32 x3 (IntKind.wrap .u32 ((IntKind.wrap .u32 ((1:Int) * x1)) - (1:Int))))), ()))))
 else
 none
 else
 none
 else
 none
 else
 none
noncomputable def G_91e : T fa_91e → TH ha_91e → Option (Bool × Int × Int × Unit) := fun x y => F_91e x.1 x.2.1
noncomputable def c_91e : Orc := ent i_91e [] 0 (sp fa_91e ha_91e fr_91e hr_91e G_91e out_91e)
theorem ok_91e : OrcOk PR c_91e := fnT okO_91e mixed p_91e (by kernel_rfl) (by kernel_rfl) (L := L_91e) (kp := false) (by kernel_rfl) (inn := inn_91e) (out := out_91e) (fun _ _ => rfl) (loopsL (l := []) (by kernel_rfl) trivial) (fun x y => by kernel_rfl)
noncomputable def O_925 : Orc := c_91e
theorem okO_925 : OrcOk PR O_925 := ok_91e
abbrev fa_925 : Fm := (.pair (.i .i64) (.pair (.i .u32) .unit))
abbrev ha_925 : List BF := []
abbrev fr_925 : Fm := .b
abbrev hr_925 : List BF := []
noncomputable def L_925 : Lps := L0
def inn_925 : T fr_925 → TH hr_925 → Bool := (fun z w => z)
def out_925 : Bool → T fr_925 × TH hr_925 := fun r => (r, ())
noncomputable def F_925 (a0 : Int) (a1 : Int) : Option (Bool) :=
 ((F_91e a0 a1)).bind fun r0 =>
 (some r0.1)
noncomputable def G_925 : T fa_925 → TH ha_925 → Option (Bool) := fun x y => F_925 x.1 x.2.1
noncomputable def c_925 : Orc := ent i_925 [] 0 (sp fa_925 ha_925 fr_925 hr_925 G_925 out_925)
theorem ok_925 : OrcOk PR c_925 := fnT okO_925 mixed p_925 (by kernel_rfl) (by kernel_rfl) (L := L_925) (kp := false) (by kernel_rfl) (inn := inn_925) (out := out_925) (fun _ _ => rfl) (loopsL (l := []) (by kernel_rfl) trivial) (fun x y => by kernel_rfl)
noncomputable def O_99 : Orc := (orm c_923 (orm c_924 c_925))
theorem okO_99 : OrcOk PR O_99 := (orm_ok ok_923 (orm_ok ok_924 ok_925))
abbrev fa_99 : Fm := (.pair (.i .i64) (.pair (.i .u32) .unit))
abbrev ha_99 : List BF := []
abbrev fr_99 : Fm := (.i .i64)
abbrev hr_99 : List BF := []
noncomputable def L_99 : Lps := L0
def inn_99 : T fr_99 → TH hr_99 → Int := (fun z w => z)
def out_99 : Int → T fr_99 × TH hr_99 := fun r => (r, ())
noncomputable def F_99 (a0 : Int) (a1 : Int) : Option (Int) :=
 ((F_923 a0)).bind fun r0 =>
 ((F_924 a0 true)).bind fun r1 =>
 let x2 : Int := (IntKind.wrap .i64 (bits .andNot .u32 (bits .and .u32 a1 r0) r1))
 ((F_925 a0 a1)).bind fun r3 =>
 bif r3 then
 (some (IntKind.wrap .i64 ((-(1:Int)) - x2)))
 else
 (some x2)
noncomputable def G_99 : T fa_99 → TH ha_99 → Option (Int) := fun x y => F_99 x.1 x.2.1
noncomputable def c_99 : Orc := ent i_99 [] 0 (sp fa_99 ha_99 fr_99 hr_99 G_99 out_99)
theorem ok_99 : OrcOk PR c_99 := fnT okO_99 mixed p_99 (by kernel_rfl) (by kernel_rfl) (L := L_99) (kp := false) (by kernel_rfl) (inn := inn_99) (out := out_99) (fun _ _ => rfl) (loopsL (l := []) (by kernel_rfl) trivial) (fun x y => by kernel_rfl)
noncomputable def O_96 : Orc := (orm c_91d c_91e)
theorem okO_96 : OrcOk PR O_96 := (orm_ok ok_91d ok_91e)
abbrev fa_96 : Fm := (.pair (.i .i64) (.pair (.i .u32) .unit))
abbrev ha_96 : List BF := []
abbrev fr_96 : Fm := (.i .i64)
abbrev hr_96 : List BF := []
noncomputable def L_96 : Lps := L0
def inn_96 : T fr_96 → TH hr_96 → Int := (fun z w => z)
def out_96 : Int → T fr_96 × TH hr_96 := fun r => (r, ())
noncomputable def F_96 (a0 : Int) (a1 : Int) : Option (Int) :=
 ((F_91d a0)).bind fun r0 =>
 ((F_91e a0 a1)).bind fun r1 =>
 let x2 : Bool := (r1.2.1 == (0:Int))
 let x3 : Int := r1.2.2.1
 let x4 : Bool := (x3 == (0:Int))
 let x5 : Bool := ((x3 / ((2:Int) ^ (Min.min (Int.toNat (IntKind.wrap .i64 (r0.2.1 - (1:Int)))) (64:Nat)))) == (1:Int))
 bif x2 then
 bif x4 then
 (some (0:Int))
 else
 bif x2 then
 (some (1:Int))
 else
 bif (decide ((0:Int) ≤ r0.1)) then
 bif (decide (r1.2.1 < (IntKind.wrap .i64 ((IntKind.wrap .i64 ((1:Int) * ((2:Int) ^ (Min.min (Int.toNat r0.1) (64:Nat))))) - (1:Int))))) then
 (some (2:Int))
 else
 bif x4 then
 (some (3:Int))
 else
 bif (decide ((0:Int) ≤ (IntKind.wrap .i64 (r0.2.1 - (1:Int))))) then
 bif x5 then
 (some (4:Int))
 else
 (some (5:Int))
 else
 none
 else
 none
 else
 bif x2 then
 (some (1:Int))
 else
 bif (decide ((0:Int) ≤ r0.1)) then
 bif (decide (r1.2.1 < (IntKind.wrap .i64 ((IntKind.wrap .i64 ((1:Int) * ((2:Int) ^ (Min.min (Int.toNat r0.1) (64:Nat))))) - (1:Int))))) then
 (some (2:Int))
 else
 bif x4 then
 (some (3:Int))
 else
 bif (decide ((0:Int) ≤ (IntKind.wrap .i64 (r0.2.1 - (1:Int))))) then
 bif x5 then
 (some (4:Int))
 else
 (some (5:Int))
 else
 none
 else
 none
noncomputable def G_96 : T fa_96 → TH ha_96 → Option (Int) := fun x y => F_96 x.1 x.2.1
noncomputable def c_96 : Orc := ent i_96 [] 0 (sp fa_96 ha_96 fr_96 hr_96 G_96 out_96)
theorem ok_96 : OrcOk PR c_96 := fnT okO_96 mixed p_96 (by kernel_rfl) (by kernel_rfl) (L := L_96) (kp := false) (by kernel_rfl) (inn := inn_96) (out := out_96) (fun _ _ => rfl) (loopsL (l := []) (by kernel_rfl) trivial) (fun x y => by kernel_rfl)
noncomputable def O_927 : Orc := c_96
theorem okO_927 : OrcOk PR O_927 := ok_96
abbrev fa_927 : Fm := (.pair (.i .i64) (.pair (.si .u32) .unit))
abbrev ha_927 : List BF := []
abbrev fr_927 : Fm := (.tup (.pair .b (.pair .b .unit)))
abbrev hr_927 : List BF := []
abbrev ff_927_0 : Fm := (.pair (.i .i64) (.pair (.si .u32) (.us 4 (.pair .b (.pair .b (.pair (.i .i64) (.us 29 .unit)))))))
abbrev hf_927_0 : List BF := []
abbrev X_927_0 : Xs := (.one (.exit 0) [6, 7] (.us 6 (.pair .b (.pair .b (.us 30 .unit)))) [])
abbrev S_927_0 : Type := T ff_927_0 × TH hf_927_0
abbrev E_927_0 : Type := TX X_927_0
noncomputable def LB_927_0 : Lps := L0
noncomputable def st_927_0 : StepT S_927_0 E_927_0 := fun R v kn ko =>
 let x0 : Int := v.1.1
 let x1 : List Int := v.1.2.1
 let x2 : Int := v.1.2.2.2.2.1
 let x3 : Bool := v.1.2.2.1
 let x4 : Bool := v.1.2.2.2.1
 let x5 : List Int := (List.take (List.length x1) x1)
 bif (decide (x2 < (((List.length x1) : Nat) : Int))) then
 bif (decide (((0:Int) ≤ x2) ∧ (x2 < (((List.length x1) : Nat) : Int)))) then
 ((F_96 x0 (List.getD x1 (Int.toNat x2) (0:Int)))).bind fun r6 =>
 bif x3 then
 bif x4 then
 (kn ((x0, (x5, (true, (true, ((IntKind.wrap .i64 (x2 + (1:Int))), ()))))), ()))
 else
 (kn ((x0, (x5, (true, ((r6 == (5:Int)), ((IntKind.wrap .i64 (x2 + (1:Int))), ()))))), ()))
 else
 bif (r6 == (4:Int)) then
 bif x4 then
 (kn ((x0, (x5, (true, (true, ((IntKind.wrap .i64 (x2 + (1:Int))), ()))))), ()))
 else
 (kn ((x0, (x5, (true, ((r6 == (5:Int)), ((IntKind.wrap .i64 (x2 + (1:Int))), ()))))), ()))
 else
 bif x4 then
 (kn ((x0, (x5, ((r6 == (5:Int)), (true, ((IntKind.wrap .i64 (x2 + (1:Int))), ()))))), ()))
 else
 (kn ((x0, (x5, ((r6 == (5:Int)), ((r6 == (5:Int)), ((IntKind.wrap .i64 (x2 + (1:Int))), ()))))), ()))
 else
 none
 else
 (ko ((x3, (x4, ())), ()))
noncomputable def ls_927_0 : St → LTr := (lsum ff_927_0 hf_927_0 X_927_0 Prod.mk id st_927_0 (hd [] [] [0, 1, 6, 7, 8] 0))
theorem lp_927_0 : LoopOk PR 0 (lpN f_927 0) ls_927_0 := loopT okO_927 mixed (L := LB_927_0) (d := 1) (bs := []) (ks := [0, 1, 6, 7, 8]) (loopsL (l := []) (by kernel_rfl) trivial) (by kernel_rfl) (inS := Prod.mk) (outS := id) (fun _ _ => rfl) (inX := id) (outX := id) (fun _ => rfl) (fun v R kn ko => by kernel_rfl) (hd_wk [] [] [0, 1, 6, 7, 8] 0)
noncomputable def L_927 : Lps := (lpB 4 (.by_ ls_927_0) L0)
def inn_927 : T fr_927 → TH hr_927 → Bool × Bool × Unit := (fun z w => z)
def out_927 : Bool × Bool × Unit → T fr_927 × TH hr_927 := fun r => (r, ())
noncomputable def F_927 (a0 : Int) (a1 : List Int) : Option (Bool × Bool × Unit) :=
 ((lim st_927_0 ((a0, ((List.take (List.length a1) a1), (false, (false, ((0:Int), ()))))), ()))).bind fun r0 =>
 (some r0.1)
noncomputable def G_927 : T fa_927 → TH ha_927 → Option (Bool × Bool × Unit) := fun x y => F_927 x.1 x.2.1
noncomputable def c_927 : Orc := ent i_927 [] 0 (sp fa_927 ha_927 fr_927 hr_927 G_927 out_927)
theorem ok_927 : OrcOk PR c_927 := fnT okO_927 mixed p_927 (by kernel_rfl) (by kernel_rfl) (L := L_927) (kp := false) (by kernel_rfl) (inn := inn_927) (out := out_927) (fun _ _ => rfl) (loopsL (l := [((lpN f_927 0), ls_927_0)]) (by kernel_rfl) ⟨lp_927_0, trivial⟩) (fun x y => by kernel_rfl)
noncomputable def O_93e : Orc := c_96
theorem okO_93e : OrcOk PR O_93e := ok_96
abbrev fa_93e : Fm := (.pair (.i .i64) (.pair (.i .u32) .unit))
abbrev ha_93e : List BF := []
abbrev fr_93e : Fm := .b
abbrev hr_93e : List BF := []
noncomputable def L_93e : Lps := L0
def inn_93e : T fr_93e → TH hr_93e → Bool := (fun z w => z)
def out_93e : Bool → T fr_93e × TH hr_93e := fun r => (r, ())
noncomputable def F_93e (a0 : Int) (a1 : Int) : Option (Bool) :=
 ((F_96 a0 a1)).bind fun r0 =>
 (some (r0 == (0:Int)))
noncomputable def G_93e : T fa_93e → TH ha_93e → Option (Bool) := fun x y => F_93e x.1 x.2.1
noncomputable def c_93e : Orc := ent i_93e [] 0 (sp fa_93e ha_93e fr_93e hr_93e G_93e out_93e)
theorem ok_93e : OrcOk PR c_93e := fnT okO_93e mixed p_93e (by kernel_rfl) (by kernel_rfl) (L := L_93e) (kp := false) (by kernel_rfl) (inn := inn_93e) (out := out_93e) (fun _ _ => rfl) (loopsL (l := []) (by kernel_rfl) trivial) (fun x y => by kernel_rfl)
noncomputable def O_926 : Orc := (orm c_927 (orm c_93e c_99))
theorem okO_926 : OrcOk PR O_926 := (orm_ok ok_927 (orm_ok ok_93e ok_99))
abbrev fa_926 : Fm := (.pair (.i .i64) (.pair (.i .u32) (.pair (.i .u32) .unit)))
abbrev ha_926 : List BF := []
abbrev fr_926 : Fm := (.tup (.pair (.i .i64) (.pair .b .unit)))
abbrev hr_926 : List BF := []
noncomputable def L_926 : Lps := L0
def inn_926 : T fr_926 → TH hr_926 → Int × Bool × Unit := (fun z w => z)
def out_926 : Int × Bool × Unit → T fr_926 × TH hr_926 := fun r => (r, ())
noncomputable def F_926 (a0 : Int) (a1 : Int) (a2 : Int) : Option (Int × Bool × Unit) :=
 ((F_927 a0 [a1, a2])).bind fun r0 =>
 bif r0.1 then
 (some ((0:Int), (false, ())))
 else
 ((F_93e a0 a1)).bind fun r1 =>
 bif r1 then
 ((F_93e a0 a2)).bind fun r2 =>
 bif r2 then
 (some ((0:Int), (true, ())))
 else
 ((F_99 a0 a1)).bind fun r3 =>
 ((F_99 a0 a2)).bind fun r4 =>
 bif (decide (r3 < r4)) then
 (some ((-(1:Int)), (true, ())))
 else
 bif (decide (r3 > r4)) then
 (some ((1:Int), (true, ())))
 else
 (some ((0:Int), (true, ())))
 else
 ((F_99 a0 a1)).bind fun r5 =>
 ((F_99 a0 a2)).bind fun r6 =>
 bif (decide (r5 < r6)) then
 (some ((-(1:Int)), (true, ())))
 else
 bif (decide (r5 > r6)) then
 (some ((1:Int), (true, ())))
 else
 (some ((0:Int), (true, ())))
noncomputable def G_926 : T fa_926 → TH ha_926 → Option (Int × Bool × Unit) := fun x y => F_926 x.1 x.2.1 x.2.2.1
noncomputable def c_926 : Orc := ent i_926 [] 0 (sp fa_926 ha_926 fr_926 hr_926 G_926 out_926)
theorem ok_926 : OrcOk PR c_926 := fnT okO_926 mixed p_926 (by kernel_rfl) (by kernel_rfl) (L := L_926) (kp := false) (by kernel_rfl) (inn := inn_926) (out := out_926) (fun _ _ => rfl) (loopsL (l := []) (by kernel_rfl) trivial) (fun x y => by kernel_rfl)
noncomputable def O_9b : Orc := c_926
theorem okO_9b : OrcOk PR O_9b := ok_926
abbrev fa_9b : Fm := (.pair (.i .i64) (.pair (.i .u32) (.pair (.i .u32) .unit)))
abbrev ha_9b : List BF := []
abbrev fr_9b : Fm := .b
abbrev hr_9b : List BF := []
noncomputable def L_9b : Lps := L0
def inn_9b : T fr_9b → TH hr_9b → Bool := (fun z w => z)
def out_9b : Bool → T fr_9b × TH hr_9b := fun r => (r, ())
noncomputable def F_9b (a0 : Int) (a1 : Int) (a2 : Int) : Option (Bool) :=
 ((F_926 a0 a1 a2)).bind fun r0 =>
 bif r0.2.1 then
 (some (decide (r0.1 < (0:Int))))
 else
 (some false)
noncomputable def G_9b : T fa_9b → TH ha_9b → Option (Bool) := fun x y => F_9b x.1 x.2.1 x.2.2.1
noncomputable def c_9b : Orc := ent i_9b [] 0 (sp fa_9b ha_9b fr_9b hr_9b G_9b out_9b)
theorem ok_9b : OrcOk PR c_9b := fnT okO_9b mixed p_9b (by kernel_rfl) (by kernel_rfl) (L := L_9b) (kp := false) (by kernel_rfl) (inn := inn_9b) (out := out_9b) (fun _ _ => rfl) (loopsL (l := []) (by kernel_rfl) trivial) (fun x y => by kernel_rfl)
noncomputable def O_91f : Orc := c_924
theorem okO_91f : OrcOk PR O_91f := ok_924
abbrev fa_91f : Fm := (.pair (.i .i64) (.pair .b .unit))
abbrev ha_91f : List BF := []
abbrev fr_91f : Fm := (.i .u32)
abbrev hr_91f : List BF := []
noncomputable def L_91f : Lps := L0
def inn_91f : T fr_91f → TH hr_91f → Int := (fun z w => z)
def out_91f : Int → T fr_91f × TH hr_91f := fun r => (r, ())
noncomputable def F_91f (a0 : Int) (a1 : Bool) : Option (Int) :=
 ((F_924 a0 a1)).bind fun r0 =>
 (some r0)
noncomputable def G_91f : T fa_91f → TH ha_91f → Option (Int) := fun x y => F_91f x.1 x.2.1
noncomputable def c_91f : Orc := ent i_91f [] 0 (sp fa_91f ha_91f fr_91f hr_91f G_91f out_91f)
theorem ok_91f : OrcOk PR c_91f := fnT okO_91f mixed p_91f (by kernel_rfl) (by kernel_rfl) (L := L_91f) (kp := false) (by kernel_rfl) (inn := inn_91f) (out := out_91f) (fun _ _ => rfl) (loopsL (l := []) (by kernel_rfl) trivial) (fun x y => by kernel_rfl)
noncomputable def O_9a : Orc := c_96
theorem okO_9a : OrcOk PR O_9a := ok_96
abbrev fa_9a : Fm := (.pair (.i .i64) (.pair (.i .u32) .unit))
abbrev ha_9a : List BF := []
abbrev fr_9a : Fm := .b
abbrev hr_9a : List BF := []
noncomputable def L_9a : Lps := L0
def inn_9a : T fr_9a → TH hr_9a → Bool := (fun z w => z)
def out_9a : Bool → T fr_9a × TH hr_9a := fun r => (r, ())
noncomputable def F_9a (a0 : Int) (a1 : Int) : Option (Bool) :=
 ((F_96 a0 a1)).bind fun r0 =>
 (some (decide (r0 < (3:Int))))
noncomputable def G_9a : T fa_9a → TH ha_9a → Option (Bool) := fun x y => F_9a x.1 x.2.1
noncomputable def c_9a : Orc := ent i_9a [] 0 (sp fa_9a ha_9a fr_9a hr_9a G_9a out_9a)
theorem ok_9a : OrcOk PR c_9a := fnT okO_9a mixed p_9a (by kernel_rfl) (by kernel_rfl) (L := L_9a) (kp := false) (by kernel_rfl) (inn := inn_9a) (out := out_9a) (fun _ _ => rfl) (loopsL (l := []) (by kernel_rfl) trivial) (fun x y => by kernel_rfl)
noncomputable def O_97 : Orc := (orm c_91d c_91f)
theorem okO_97 : OrcOk PR O_97 := (orm_ok ok_91d ok_91f)
abbrev fa_97 : Fm := (.pair (.i .i64) (.pair (.i .u32) .unit))
abbrev ha_97 : List BF := []
abbrev fr_97 : Fm := (.i .u32)
abbrev hr_97 : List BF := []
noncomputable def L_97 : Lps := L0
def inn_97 : T fr_97 → TH hr_97 → Int := (fun z w => z)
def out_97 : Int → T fr_97 × TH hr_97 := fun r => (r, ())
noncomputable def F_97 (a0 : Int) (a1 : Int) : Option (Int) :=
 bif ((Int.tmod a1 (7:Int)) == (0:Int)) then
 (some (0:Int))
 else
 ((F_91d a0)).bind fun r0 =>
 let x1 : Int := ((2:Int) ^ (Min.min (Int.toNat r0.2.1) (32:Nat)))
 let x2 : Int := (IntKind.wrap .u32 ((4:Int) * x1))
 let x3 : Int := (IntKind.wrap .u32 ((IntKind.wrap .u32 ((IntKind.wrap .u32 (((IntKind.wrap .u32 ((IntKind.wrap .u32 ((1:Int) * ((2:Int) ^ (Min.min (Int.toNat r0.1) (32:Nat))))) - (1:Int))) / (2:Int)) * x1)) - (IntKind.wrap .u32 ((2:Int) * x1)))) + (Int.tmod (a1 / (8:Int)) x2)))
 bif (decide ((0:Int) ≤ r0.1)) then
 bif (decide ((0:Int) ≤ r0.2.1)) then
 bif (decide ((0:Int) ≤ r0.2.1)) then
 bif (decide ((0:Int) ≤ r0.2.1)) then
 bif (x2 == (0:Int)) then
 none
 else
 bif ((bits .and .u32 a1 (1:Int)) == (1:Int)) then
 ((F_91f a0 true)).bind fun r4 =>
 (some (bits .or .u32 x3 r4))
 else
 (some x3)
 else
 none
 else
 none
 else
 none
 else
 none
noncomputable def G_97 : T fa_97 → TH ha_97 → Option (Int) := fun x y => F_97 x.1 x.2.1
noncomputable def c_97 : Orc := ent i_97 [] 0 (sp fa_97 ha_97 fr_97 hr_97 G_97 out_97)
theorem ok_97 : OrcOk PR c_97 := fnT okO_97 mixed p_97 (by kernel_rfl) (by kernel_rfl) (L := L_97) (kp := false) (by kernel_rfl) (inn := inn_97) (out := out_97) (fun _ _ => rfl) (loopsL (l := []) (by kernel_rfl) trivial) (fun x y => by kernel_rfl)
noncomputable def O_954 : Orc := (orm c_93b (orm c_933 c_932))
theorem okO_954 : OrcOk PR O_954 := (orm_ok ok_93b (orm_ok ok_933 ok_932))
abbrev fa_954 : Fm := (.pair (.i .i64) (.pair .b .unit))
abbrev ha_954 : List BF := []
abbrev fr_954 : Fm := (.i .u32)
abbrev hr_954 : List BF := []
noncomputable def L_954 : Lps := L0
def inn_954 : T fr_954 → TH hr_954 → Int := (fun z w => z)
def out_954 : Int → T fr_954 × TH hr_954 := fun r => (r, ())
noncomputable def F_954 (a0 : Int) (a1 : Bool) : Option (Int) :=
 ((F_93b a0)).bind fun r0 =>
 ((F_933 a0)).bind fun r1 =>
 bif (decide ((0:Int) ≤ (IntKind.wrap .u64 r0.2.1))) then
 ((F_932 a0 a1 (IntKind.wrap .i64 (r1 - (1:Int))) (IntKind.wrap .u32 ((IntKind.wrap .u32 ((1:Int) * ((2:Int) ^ (Min.min (Int.toNat (IntKind.wrap .u64 r0.2.1)) (32:Nat))))) - (1:Int))))).bind fun r2 =>
 (some r2)
 else
 none
noncomputable def G_954 : T fa_954 → TH ha_954 → Option (Int) := fun x y => F_954 x.1 x.2.1
noncomputable def c_954 : Orc := ent i_954 [] 0 (sp fa_954 ha_954 fr_954 hr_954 G_954 out_954)
theorem ok_954 : OrcOk PR c_954 := fnT okO_954 mixed p_954 (by kernel_rfl) (by kernel_rfl) (L := L_954) (kp := false) (by kernel_rfl) (inn := inn_954) (out := out_954) (fun _ _ => rfl) (loopsL (l := []) (by kernel_rfl) trivial) (fun x y => by kernel_rfl)
noncomputable def O_93c : Orc := c_93b
theorem okO_93c : OrcOk PR O_93c := ok_93b
abbrev fa_93c : Fm := (.pair (.i .i64) .unit)
abbrev ha_93c : List BF := []
abbrev fr_93c : Fm := (.i .i64)
abbrev hr_93c : List BF := []
noncomputable def L_93c : Lps := L0
def inn_93c : T fr_93c → TH hr_93c → Int := (fun z w => z)
def out_93c : Int → T fr_93c × TH hr_93c := fun r => (r, ())
noncomputable def F_93c (a0 : Int) : Option (Int) :=
 ((F_93b a0)).bind fun r0 =>
 bif (decide ((0:Int) ≤ (IntKind.wrap .u64 (IntKind.wrap .i64 (r0.1 - (1:Int)))))) then
 (some (IntKind.wrap .i64 ((2:Int) - (IntKind.wrap .i64 ((1:Int) * ((2:Int) ^ (Min.min (Int.toNat (IntKind.wrap .u64 (IntKind.wrap .i64 (r0.1 - (1:Int))))) (64:Nat))))))))
 else
 none
noncomputable def G_93c : T fa_93c → TH ha_93c → Option (Int) := fun x y => F_93c x.1
noncomputable def c_93c : Orc := ent i_93c [] 0 (sp fa_93c ha_93c fr_93c hr_93c G_93c out_93c)
theorem ok_93c : OrcOk PR c_93c := fnT okO_93c mixed p_93c (by kernel_rfl) (by kernel_rfl) (L := L_93c) (kp := false) (by kernel_rfl) (inn := inn_93c) (out := out_93c) (fun _ _ => rfl) (loopsL (l := []) (by kernel_rfl) trivial) (fun x y => by kernel_rfl)
noncomputable def O_921 : Orc := (orm c_93b (orm c_92c (orm c_93c c_933)))
theorem okO_921 : OrcOk PR O_921 := (orm_ok ok_93b (orm_ok ok_92c (orm_ok ok_93c ok_933)))
abbrev fa_921 : Fm := (.pair (.i .i64) (.pair (.i .u32) .unit))
abbrev ha_921 : List BF := []
abbrev fr_921 : Fm := (.tup (.pair .b (.pair (.i .i64) (.pair (.i .u64) .unit))))
abbrev hr_921 : List BF := []
noncomputable def L_921 : Lps := L0
def inn_921 : T fr_921 → TH hr_921 → Bool × Int × Int × Unit := (fun z w => z)
def out_921 : Bool × Int × Int × Unit → T fr_921 × TH hr_921 := fun r => (r, ())
noncomputable def F_921 (a0 : Int) (a1 : Int) : Option (Bool × Int × Int × Unit) :=
 ((F_93b a0)).bind fun r0 =>
 ((F_92c a0 a1)).bind fun r1 =>
 let x2 : Int := r1.2.2.1
 let x3 : Int := (IntKind.wrap .u64 x2)
 bif (r1.2.1 == (0:Int)) then
 ((F_93c a0)).bind fun r4 =>
 (some (r1.1, ((IntKind.wrap .i64 (r4 - r0.2.1)), (x3, ()))))
 else
 ((F_933 a0)).bind fun r5 =>
 bif (r1.2.1 == r5) then
 (some (r1.1, ((0:Int), ((0:Int), ()))))
 else
 ((F_93c a0)).bind fun r6 =>
 bif (decide ((0:Int) ≤ (IntKind.wrap .u64 r0.2.1))) then
 (some (r1.1, ((IntKind.wrap .i64 ((IntKind.wrap .i64 ((IntKind.wrap .i64 (r6 - r0.2.1)) + r1.2.1)) - (1:Int))), ((bits .or .u64 x3 (IntKind.wrap .u64 ((1:Int) * ((2:Int) ^ (Min.min (Int.toNat (IntKind.wrap .u64 r0.2.1)) (64:Nat)))))), ()))))
 else
 none
noncomputable def G_921 : T fa_921 → TH ha_921 → Option (Bool × Int × Int × Unit) := fun x y => F_921 x.1 x.2.1
noncomputable def c_921 : Orc := ent i_921 [] 0 (sp fa_921 ha_921 fr_921 hr_921 G_921 out_921)
theorem ok_921 : OrcOk PR c_921 := fnT okO_921 mixed p_921 (by kernel_rfl) (by kernel_rfl) (L := L_921) (kp := false) (by kernel_rfl) (inn := inn_921) (out := out_921) (fun _ _ => rfl) (loopsL (l := []) (by kernel_rfl) trivial) (fun x y => by kernel_rfl)
noncomputable def O_916 : Orc := (orm c_933 c_932)
theorem okO_916 : OrcOk PR O_916 := (orm_ok ok_933 ok_932)
abbrev fa_916 : Fm := (.pair (.i .i64) (.pair .b .unit))
abbrev ha_916 : List BF := []
abbrev fr_916 : Fm := (.i .u32)
abbrev hr_916 : List BF := []
noncomputable def L_916 : Lps := L0
def inn_916 : T fr_916 → TH hr_916 → Int := (fun z w => z)
def out_916 : Int → T fr_916 × TH hr_916 := fun r => (r, ())
noncomputable def F_916 (a0 : Int) (a1 : Bool) : Option (Int) :=
 ((F_933 a0)).bind fun r0 =>
 ((F_932 a0 a1 r0 (0:Int))).bind fun r1 =>
 (some r1)
noncomputable def G_916 : T fa_916 → TH ha_916 → Option (Int) := fun x y => F_916 x.1 x.2.1
noncomputable def c_916 : Orc := ent i_916 [] 0 (sp fa_916 ha_916 fr_916 hr_916 G_916 out_916)
theorem ok_916 : OrcOk PR c_916 := fnT okO_916 mixed p_916 (by kernel_rfl) (by kernel_rfl) (L := L_916) (kp := false) (by kernel_rfl) (inn := inn_916) (out := out_916) (fun _ _ => rfl) (loopsL (l := []) (by kernel_rfl) trivial) (fun x y => by kernel_rfl)
noncomputable def O_920 : Orc := c_92b
theorem okO_920 : OrcOk PR O_920 := ok_92b
abbrev fa_920 : Fm := (.pair (.i .i64) (.pair (.i .u32) .unit))
abbrev ha_920 : List BF := []
abbrev fr_920 : Fm := .b
abbrev hr_920 : List BF := []
noncomputable def L_920 : Lps := L0
def inn_920 : T fr_920 → TH hr_920 → Bool := (fun z w => z)
def out_920 : Bool → T fr_920 × TH hr_920 := fun r => (r, ())
noncomputable def F_920 (a0 : Int) (a1 : Int) : Option (Bool) :=
 ((F_92b a0 a1)).bind fun r0 =>
 (some (r0 == (3:Int)))
noncomputable def G_920 : T fa_920 → TH ha_920 → Option (Bool) := fun x y => F_920 x.1 x.2.1
noncomputable def c_920 : Orc := ent i_920 [] 0 (sp fa_920 ha_920 fr_920 hr_920 G_920 out_920)
theorem ok_920 : OrcOk PR c_920 := fnT okO_920 mixed p_920 (by kernel_rfl) (by kernel_rfl) (L := L_920) (kp := false) (by kernel_rfl) (inn := inn_920) (out := out_920) (fun _ _ => rfl) (loopsL (l := []) (by kernel_rfl) trivial) (fun x y => by kernel_rfl)
noncomputable def O_943 : Orc := c_932
theorem okO_943 : OrcOk PR O_943 := ok_932
abbrev fa_943 : Fm := (.pair (.i .i64) (.pair .b .unit))
abbrev ha_943 : List BF := []
abbrev fr_943 : Fm := (.i .u32)
abbrev hr_943 : List BF := []
noncomputable def L_943 : Lps := L0
def inn_943 : T fr_943 → TH hr_943 → Int := (fun z w => z)
def out_943 : Int → T fr_943 × TH hr_943 := fun r => (r, ())
noncomputable def F_943 (a0 : Int) (a1 : Bool) : Option (Int) :=
 ((F_932 a0 a1 (0:Int) (0:Int))).bind fun r0 =>
 (some r0)
noncomputable def G_943 : T fa_943 → TH ha_943 → Option (Int) := fun x y => F_943 x.1 x.2.1
noncomputable def c_943 : Orc := ent i_943 [] 0 (sp fa_943 ha_943 fr_943 hr_943 G_943 out_943)
theorem ok_943 : OrcOk PR c_943 := fnT okO_943 mixed p_943 (by kernel_rfl) (by kernel_rfl) (L := L_943) (kp := false) (by kernel_rfl) (inn := inn_943) (out := out_943) (fun _ _ => rfl) (loopsL (l := []) (by kernel_rfl) trivial) (fun x y => by kernel_rfl)
noncomputable def O_934 : Orc := (orm c_92c c_933)
theorem okO_934 : OrcOk PR O_934 := (orm_ok ok_92c ok_933)
abbrev fa_934 : Fm := (.pair (.i .i64) (.pair (.i .u32) .unit))
abbrev ha_934 : List BF := []
abbrev fr_934 : Fm := .b
abbrev hr_934 : List BF := []
noncomputable def L_934 : Lps := L0
def inn_934 : T fr_934 → TH hr_934 → Bool := (fun z w => z)
def out_934 : Bool → T fr_934 × TH hr_934 := fun r => (r, ())
noncomputable def F_934 (a0 : Int) (a1 : Int) : Option (Bool) :=
 ((F_92c a0 a1)).bind fun r0 =>
 ((F_933 a0)).bind fun r1 =>
 (some (decide (r0.2.1 < r1)))
noncomputable def G_934 : T fa_934 → TH ha_934 → Option (Bool) := fun x y => F_934 x.1 x.2.1
noncomputable def c_934 : Orc := ent i_934 [] 0 (sp fa_934 ha_934 fr_934 hr_934 G_934 out_934)
theorem ok_934 : OrcOk PR c_934 := fnT okO_934 mixed p_934 (by kernel_rfl) (by kernel_rfl) (L := L_934) (kp := false) (by kernel_rfl) (inn := inn_934) (out := out_934) (fun _ _ => rfl) (loopsL (l := []) (by kernel_rfl) trivial) (fun x y => by kernel_rfl)
noncomputable def O_951 : Orc := (orm c_954 c_916)
theorem okO_951 : OrcOk PR O_951 := (orm_ok ok_954 ok_916)
abbrev fa_951 : Fm := (.pair (.i .i64) (.pair (.i .i64) (.pair .b .unit)))
abbrev ha_951 : List BF := []
abbrev fr_951 : Fm := (.tup (.pair (.i .u32) (.pair (.agg (.pair .b (.pair .b (.pair .b (.pair .b (.pair .b .unit)))))) .unit)))
abbrev hr_951 : List BF := []
noncomputable def L_951 : Lps := L0
def inn_951 : T fr_951 → TH hr_951 → Int × (Bool × Bool × Bool × Bool × Bool × Unit) × Unit := (fun z w => z)
def out_951 : Int × (Bool × Bool × Bool × Bool × Bool × Unit) × Unit → T fr_951 × TH hr_951 := fun r => (r, ())
noncomputable def F_951 (a0 : Int) (a1 : Int) (a2 : Bool) : Option (Int × (Bool × Bool × Bool × Bool × Bool × Unit) × Unit) :=
 bif (a1 == (1:Int)) then
 ((F_954 a0 a2)).bind fun r0 =>
 (some (r0, ((false, (false, (true, (false, (true, ()))))), ())))
 else
 bif (a1 == (2:Int)) then
 bif a2 then
 ((F_954 a0 a2)).bind fun r1 =>
 (some (r1, ((false, (false, (true, (false, (true, ()))))), ())))
 else
 ((F_916 a0 a2)).bind fun r2 =>
 (some (r2, ((false, (false, (true, (false, (true, ()))))), ())))
 else
 bif (a1 == (3:Int)) then
 bif (!a2) then
 ((F_954 a0 a2)).bind fun r3 =>
 (some (r3, ((false, (false, (true, (false, (true, ()))))), ())))
 else
 ((F_916 a0 a2)).bind fun r4 =>
 (some (r4, ((false, (false, (true, (false, (true, ()))))), ())))
 else
 ((F_916 a0 a2)).bind fun r5 =>
 (some (r5, ((false, (false, (true, (false, (true, ()))))), ())))
noncomputable def G_951 : T fa_951 → TH ha_951 → Option (Int × (Bool × Bool × Bool × Bool × Bool × Unit) × Unit) := fun x y => F_951 x.1 x.2.1 x.2.2.1
noncomputable def c_951 : Orc := ent i_951 [] 0 (sp fa_951 ha_951 fr_951 hr_951 G_951 out_951)
theorem ok_951 : OrcOk PR c_951 := fnT okO_951 mixed p_951 (by kernel_rfl) (by kernel_rfl) (L := L_951) (kp := false) (by kernel_rfl) (inn := inn_951) (out := out_951) (fun _ _ => rfl) (loopsL (l := []) (by kernel_rfl) trivial) (fun x y => by kernel_rfl)
noncomputable def O_93d : Orc := orn
theorem okO_93d : OrcOk PR O_93d := (orn_ok _)
abbrev fa_93d : Fm := (.pair (.i .u64) .unit)
abbrev ha_93d : List BF := []
abbrev fr_93d : Fm := (.i .i64)
abbrev hr_93d : List BF := []
noncomputable def L_93d : Lps := L0
def inn_93d : T fr_93d → TH hr_93d → Int := (fun z w => z)
def out_93d : Int → T fr_93d × TH hr_93d := fun r => (r, ())
noncomputable def F_93d (a0 : Int) : Option (Int) :=
 let x0 : Int := (bif (decide (a0 ≥ (4294967296:Int))) then (32:Int) else (0:Int))
 let x1 : Int := (bif (decide ((bif (decide (a0 ≥ (4294967296:Int))) then (a0 / (4294967296:Int)) else a0) ≥ (65536:Int))) then (IntKind.wrap .i64 (x0 + (16:Int))) else x0)
 let x2 : Int := (bif (decide (a0 ≥ (4294967296:Int))) then (a0 / (4294967296:Int)) else a0)
 let x3 : Int := (bif (decide (x2 ≥ (65536:Int))) then (x2 / (65536:Int)) else x2)
 bif (decide (((0:Int) ≤ (IntKind.wrap .u8 (bif (decide (x3 ≥ (256:Int))) then (x3 / (256:Int)) else x3))) ∧ ((IntKind.wrap .u8 (bif (decide (x3 ≥ (256:Int))) then (x3 / (256:Int)) else x3)) < (256:Int)))) then
 (some (IntKind.wrap .i64 ((bif (decide (x3 ≥ (256:Int))) then (IntKind.wrap .i64 (x1 + (8:Int))) else x1) + (IntKind.wrap .i64 (((UInt8.toNat (List.getD [(0:UInt8), (1:UInt8), (2:UInt8), (2:UInt8), (3:UInt8), (3:UInt8), (3:UInt8), (3:UInt8), (4:UInt8), (4:UInt8), (4:UInt8), (4:UInt8), (4:UInt8), (4:UInt8), (4:UInt8), (4:UInt8), (5:UInt8), (5:UInt8), (5:UInt8), (5:UInt8), (5:UInt8), (5:UInt8), (5:UInt8), (5:UInt8), (5:UInt8), (5:UInt8), (5:UInt8), (5:UInt8), (5:UInt8), (5:UInt8), (5:UInt8), (5:UInt8), (6:UInt8), (6:UInt8), (6:UInt8), (6:UInt8), (6:UInt8), (6:UInt8), (6:UInt8), (6:UInt8), (6:UInt8), (6:UInt8), (6:UInt8), (6:UInt8), (6:UInt8), (6:UInt8), (6:UInt8), (6:UInt8), (6:UInt8), (6:UInt8), (6:UInt8), (6:UInt8), (6:UInt8), (6:UInt8), (6:UInt8), (6:UInt8), (6:UInt8), (6:UInt8), (6:UInt8), (6:UInt8), (6:UInt8), (6:UInt8), (6:UInt8), (6:UInt8), (7:UInt8), (7:UInt8), (7:UInt8), (7:UInt8), (7:UInt8), (7:UInt8), (7:UInt8), (7:UInt8), (7:UInt8), (7:UInt8), (7:UInt8), (7:UInt8), (7:UInt8), (7:UInt8), (7:UInt8), (7:UInt8), (7:UInt8), (7:UInt8), (7:UInt8), (7:UInt8), (7:UInt8), (7:UInt8), (7:UInt8), (7:UInt8), (7:UInt8), (7:UInt8), (7:UInt8), (7:UInt8), (7:UInt8), (7:UInt8), (7:UInt8), (7:UInt8), (7:UInt8), (7:UInt8), (7:UInt8), (7:UInt8), (7:UInt8), (7:UInt8), (7:UInt8), (7:UInt8), (7:UInt8), (7:UInt8), (7:UInt8), (7:UInt8), (7:UInt8), (7:UInt8), (7:UInt8), (7:UInt8), (7:UInt8), (7:UInt8), (7:UInt8), (7:UInt8), (7:UInt8), (7:UInt8), (7:UInt8), (7:UInt8), (7:UInt8), (7:UInt8), (7:UInt8), (7:UInt8), (7:UInt8), (7:UInt8), (7:UInt8), (7:UInt8), (8:UInt8), (8:UInt8), (8:UInt8), (8:UInt8), (8:UInt8), (8:UInt8), (8:UInt8), (8:UInt8), (8:UInt8), (8:UInt8), (8:UInt8), (8:UInt8), (8:UInt8), (8:UInt8), (8:UInt8), (8:UInt8), (8:UInt8), (8:UInt8), (8:UInt8), (8:UInt8), (8:UInt8), (8:UInt8), (8:UInt8), (8:UInt8), (8:UInt8), (8:UInt8), (8:UInt8), (8:UInt8), (8:UInt8), (8:UInt8), (8:UInt8), (8:UInt8), (8:UInt8), (8:UInt8), (8:UInt8), (8:UInt8), (8:UInt8), (8:UInt8), (8:UInt8), (8:UInt8), (8:UInt8), (8:UInt8), (8:UInt8), (8:UInt8), (8:UInt8), (8:UInt8), (8:UInt8), (8:UInt8), (8:UInt8), (8:UInt8), (8:UInt8), (8:UInt8), (8:UInt8), (8:UInt8), (8:UInt8), (8:UInt8), (8:UInt8), (8:UInt8), (8:UInt8), (8:UInt8), (8:UInt8), (8:UInt8), (8:UInt8), (8:UInt8), (8:UInt8), (8:UInt8), (8:UInt8), (8:UInt8), (8:UInt8), (8:UInt8), (8:UInt8), (8:UInt8), (8:UInt8), (8:UInt8), (8:UInt8), (8:UInt8), (8:UInt8), (8:UInt8), (8:UInt8), (8:UInt8), (8:UInt8), (8:UInt8), (8:UInt8), (8:UInt8), (8:UInt8), (8:UInt8), (8:UInt8), (8:UInt8), (8:UInt8), (8:UInt8), (8:UInt8), (8:UInt8), (8:UInt8), (8:UInt8), (8:UInt8), (8:UInt8), (8:UInt8), (8:UInt8), (8:UInt8), (8:UInt8), (8:UInt8), (8:UInt8), (8:UInt8), (8:UInt8), (8:UInt8), (8:UInt8), (8:UInt8), (8:UInt8), (8:UInt8), (8:UInt8), (8:UInt8), (8:UInt8), (8:UInt8), (8:UInt8), (8:UInt8), (8:UInt8), (8:UInt8), (8:UInt8), (8:UInt8), (8:UInt8), (8:UInt8), (8:UInt8), (8:UInt8), (8:UInt8), (8:UInt8), (8:UInt8), (8:UInt8), (8:UInt8)] (Int.toNat (IntKind.wrap .u8 (bif (decide (x3 ≥ (256:Int))) then (x3 / (256:Int)) else x3))) (0:UInt8))) : Nat) : Int)))))
 else
 none
noncomputable def G_93d : T fa_93d → TH ha_93d → Option (Int) := fun x y => F_93d x.1
noncomputable def c_93d : Orc := ent i_93d [] 0 (sp fa_93d ha_93d fr_93d hr_93d G_93d out_93d)
theorem ok_93d : OrcOk PR c_93d := fnT okO_93d mixed p_93d (by kernel_rfl) (by kernel_rfl) (L := L_93d) (kp := false) (by kernel_rfl) (inn := inn_93d) (out := out_93d) (fun _ _ => rfl) (loopsL (l := []) (by kernel_rfl) trivial) (fun x y => by kernel_rfl)
noncomputable def O_922 : Orc := c_93d
theorem okO_922 : OrcOk PR O_922 := ok_93d
abbrev fa_922 : Fm := (.pair (.i .u64) .unit)
abbrev ha_922 : List BF := []
abbrev fr_922 : Fm := (.i .i64)
abbrev hr_922 : List BF := []
noncomputable def L_922 : Lps := L0
def inn_922 : T fr_922 → TH hr_922 → Int := (fun z w => z)
def out_922 : Int → T fr_922 × TH hr_922 := fun r => (r, ())
noncomputable def F_922 (a0 : Int) : Option (Int) :=
 ((F_93d a0)).bind fun r0 =>
 (some r0)
noncomputable def G_922 : T fa_922 → TH ha_922 → Option (Int) := fun x y => F_922 x.1
noncomputable def c_922 : Orc := ent i_922 [] 0 (sp fa_922 ha_922 fr_922 hr_922 G_922 out_922)
theorem ok_922 : OrcOk PR c_922 := fnT okO_922 mixed p_922 (by kernel_rfl) (by kernel_rfl) (L := L_922) (kp := false) (by kernel_rfl) (inn := inn_922) (out := out_922) (fun _ _ => rfl) (loopsL (l := []) (by kernel_rfl) trivial) (fun x y => by kernel_rfl)
noncomputable def O_944 : Orc := orn
theorem okO_944 : OrcOk PR O_944 := (orn_ok _)
abbrev fa_944 : Fm := (.pair (.i .u64) (.pair (.i .i64) .unit))
abbrev ha_944 : List BF := []
abbrev fr_944 : Fm := (.tup (.pair (.i .u64) (.pair .b .unit)))
abbrev hr_944 : List BF := []
noncomputable def L_944 : Lps := L0
def inn_944 : T fr_944 → TH hr_944 → Int × Bool × Unit := (fun z w => z)
def out_944 : Int × Bool × Unit → T fr_944 × TH hr_944 := fun r => (r, ())
noncomputable def F_944 (a0 : Int) (a1 : Int) : Option (Int × Bool × Unit) :=
 let x0 : Int := ((2:Int) ^ (Min.min (Int.toNat (IntKind.wrap .u64 a1)) (64:Nat)))
 let x1 : Int := (a0 / x0)
 let x2 : Int := ((2:Int) ^ (Min.min (Int.toNat (IntKind.wrap .u64 (IntKind.wrap .i64 ((0:Int) - a1)))) (64:Nat)))
 let x3 : Int := (IntKind.wrap .u64 (a0 * x2))
 bif (decide (a1 ≥ (64:Int))) then
 (some ((0:Int), ((a0 != (0:Int)), ())))
 else
 bif (decide (a1 ≤ (-(64:Int)))) then
 (some ((0:Int), ((a0 != (0:Int)), ())))
 else
 bif (decide (a1 ≥ (0:Int))) then
 bif (decide ((0:Int) ≤ (IntKind.wrap .u64 a1))) then
 bif (decide ((0:Int) ≤ (IntKind.wrap .u64 a1))) then
 (some (x1, (((IntKind.wrap .u64 (x1 * x0)) != a0), ())))
 else
 none
 else
 none
 else
 bif (decide ((0:Int) ≤ (IntKind.wrap .u64 (IntKind.wrap .i64 ((0:Int) - a1))))) then
 bif (decide ((0:Int) ≤ (IntKind.wrap .u64 (IntKind.wrap .i64 ((0:Int) - a1))))) then
 (some (x3, (((x3 / x2) != a0), ())))
 else
 none
 else
 none
noncomputable def G_944 : T fa_944 → TH ha_944 → Option (Int × Bool × Unit) := fun x y => F_944 x.1 x.2.1
noncomputable def c_944 : Orc := ent i_944 [] 0 (sp fa_944 ha_944 fr_944 hr_944 G_944 out_944)
theorem ok_944 : OrcOk PR c_944 := fnT okO_944 mixed p_944 (by kernel_rfl) (by kernel_rfl) (L := L_944) (kp := false) (by kernel_rfl) (inn := inn_944) (out := out_944) (fun _ _ => rfl) (loopsL (l := []) (by kernel_rfl) trivial) (fun x y => by kernel_rfl)
noncomputable def O_952 : Orc := orn
theorem okO_952 : OrcOk PR O_952 := (orn_ok _)
abbrev fa_952 : Fm := (.pair (.i .u64) (.pair (.i .i64) .unit))
abbrev ha_952 : List BF := []
abbrev fr_952 : Fm := (.i .u64)
abbrev hr_952 : List BF := []
noncomputable def L_952 : Lps := L0
def inn_952 : T fr_952 → TH hr_952 → Int := (fun z w => z)
def out_952 : Int → T fr_952 × TH hr_952 := fun r => (r, ())
noncomputable def F_952 (a0 : Int) (a1 : Int) : Option (Int) :=
 bif (decide (a1 < (1:Int))) then
 (some (0:Int))
 else
 bif (decide (a1 ≥ (64:Int))) then
 (some a0)
 else
 bif (decide ((0:Int) ≤ (IntKind.wrap .u64 a1))) then
 (some (bits .and .u64 a0 (IntKind.wrap .u64 ((IntKind.wrap .u64 ((1:Int) * ((2:Int) ^ (Min.min (Int.toNat (IntKind.wrap .u64 a1)) (64:Nat))))) - (1:Int)))))
 else
 none
noncomputable def G_952 : T fa_952 → TH ha_952 → Option (Int) := fun x y => F_952 x.1 x.2.1
noncomputable def c_952 : Orc := ent i_952 [] 0 (sp fa_952 ha_952 fr_952 hr_952 G_952 out_952)
theorem ok_952 : OrcOk PR c_952 := fnT okO_952 mixed p_952 (by kernel_rfl) (by kernel_rfl) (L := L_952) (kp := false) (by kernel_rfl) (inn := inn_952) (out := out_952) (fun _ _ => rfl) (loopsL (l := []) (by kernel_rfl) trivial) (fun x y => by kernel_rfl)
noncomputable def O_950 : Orc := (orm c_93b (orm c_93c c_922))
theorem okO_950 : OrcOk PR O_950 := (orm_ok ok_93b (orm_ok ok_93c ok_922))
abbrev fa_950 : Fm := (.pair (.i .i64) (.pair (.i .i64) (.pair (.i .u64) .unit)))
abbrev ha_950 : List BF := []
abbrev fr_950 : Fm := (.i .i64)
abbrev hr_950 : List BF := []
noncomputable def L_950 : Lps := L0
def inn_950 : T fr_950 → TH hr_950 → Int := (fun z w => z)
def out_950 : Int → T fr_950 × TH hr_950 := fun r => (r, ())
noncomputable def F_950 (a0 : Int) (a1 : Int) (a2 : Int) : Option (Int) :=
 ((F_93b a0)).bind fun r0 =>
 ((F_93c a0)).bind fun r1 =>
 bif (decide (a2 > (0:Int))) then
 ((F_922 a2)).bind fun r2 =>
 (some (IntKind.wrap .i64 ((mx r1 (IntKind.wrap .i64 ((IntKind.wrap .i64 (a1 + r2)) - (1:Int)))) - r0.2.1)))
 else
 (some (IntKind.wrap .i64 (r1 - r0.2.1)))
noncomputable def G_950 : T fa_950 → TH ha_950 → Option (Int) := fun x y => F_950 x.1 x.2.1 x.2.2.1
noncomputable def c_950 : Orc := ent i_950 [] 0 (sp fa_950 ha_950 fr_950 hr_950 G_950 out_950)
theorem ok_950 : OrcOk PR c_950 := fnT okO_950 mixed p_950 (by kernel_rfl) (by kernel_rfl) (L := L_950) (kp := false) (by kernel_rfl) (inn := inn_950) (out := out_950) (fun _ _ => rfl) (loopsL (l := []) (by kernel_rfl) trivial) (fun x y => by kernel_rfl)
noncomputable def O_949 : Orc := c_944
theorem okO_949 : OrcOk PR O_949 := ok_944
abbrev fa_949 : Fm := (.pair (.i .u64) (.pair (.i .i64) (.pair .b .unit)))
abbrev ha_949 : List BF := []
abbrev fr_949 : Fm := (.tup (.pair (.i .u64) (.pair (.i .i64) .unit)))
abbrev hr_949 : List BF := []
noncomputable def L_949 : Lps := L0
def inn_949 : T fr_949 → TH hr_949 → Int × Int × Unit := (fun z w => z)
def out_949 : Int × Int × Unit → T fr_949 × TH hr_949 := fun r => (r, ())
noncomputable def F_949 (a0 : Int) (a1 : Int) (a2 : Bool) : Option (Int × Int × Unit) :=
 bif (decide (a1 ≤ (0:Int))) then
 ((F_944 a0 a1)).bind fun r0 =>
 bif a2 then
 (some (r0.1, ((1:Int), ())))
 else
 (some (r0.1, ((0:Int), ())))
 else
 ((F_944 a0 a1)).bind fun r1 =>
 bif (!r1.2.1) then
 bif a2 then
 (some (r1.1, ((1:Int), ())))
 else
 (some (r1.1, ((0:Int), ())))
 else
 ((F_944 a0 (IntKind.wrap .i64 (a1 - (1:Int))))).bind fun r2 =>
 bif ((bits .and .u64 r2.1 (1:Int)) == (0:Int)) then
 (some (r1.1, ((1:Int), ())))
 else
 bif r2.2.1 then
 (some (r1.1, ((3:Int), ())))
 else
 bif a2 then
 (some (r1.1, ((3:Int), ())))
 else
 (some (r1.1, ((2:Int), ())))
noncomputable def G_949 : T fa_949 → TH ha_949 → Option (Int × Int × Unit) := fun x y => F_949 x.1 x.2.1 x.2.2.1
noncomputable def c_949 : Orc := ent i_949 [] 0 (sp fa_949 ha_949 fr_949 hr_949 G_949 out_949)
theorem ok_949 : OrcOk PR c_949 := fnT okO_949 mixed p_949 (by kernel_rfl) (by kernel_rfl) (L := L_949) (kp := false) (by kernel_rfl) (inn := inn_949) (out := out_949) (fun _ _ => rfl) (loopsL (l := []) (by kernel_rfl) trivial) (fun x y => by kernel_rfl)
noncomputable def O_94a : Orc := orn
theorem okO_94a : OrcOk PR O_94a := (orn_ok _)
abbrev fa_94a : Fm := (.pair (.i .i64) (.pair .b (.pair (.i .u64) (.pair (.i .i64) .unit))))
abbrev ha_94a : List BF := []
abbrev fr_94a : Fm := .b
abbrev hr_94a : List BF := []
noncomputable def L_94a : Lps := L0
def inn_94a : T fr_94a → TH hr_94a → Bool := (fun z w => z)
def out_94a : Bool → T fr_94a × TH hr_94a := fun r => (r, ())
noncomputable def F_94a (a0 : Int) (a1 : Bool) (a2 : Int) (a3 : Int) : Option (Bool) :=
 bif (a0 == (1:Int)) then
 (some false)
 else
 bif (a0 == (2:Int)) then
 bif (!a1) then
 (some (a3 != (0:Int)))
 else
 (some false)
 else
 bif (a0 == (3:Int)) then
 bif a1 then
 (some (a3 != (0:Int)))
 else
 (some false)
 else
 bif (a0 == (4:Int)) then
 (some (decide (a3 ≥ (2:Int))))
 else
 bif (a3 == (3:Int)) then
 (some true)
 else
 bif (a3 == (2:Int)) then
 (some ((bits .and .u64 a2 (1:Int)) == (1:Int)))
 else
 (some false)
noncomputable def G_94a : T fa_94a → TH ha_94a → Option (Bool) := fun x y => F_94a x.1 x.2.1 x.2.2.1 x.2.2.2.1
noncomputable def c_94a : Orc := ent i_94a [] 0 (sp fa_94a ha_94a fr_94a hr_94a G_94a out_94a)
theorem ok_94a : OrcOk PR c_94a := fnT okO_94a mixed p_94a (by kernel_rfl) (by kernel_rfl) (L := L_94a) (kp := false) (by kernel_rfl) (inn := inn_94a) (out := out_94a) (fun _ _ => rfl) (loopsL (l := []) (by kernel_rfl) trivial) (fun x y => by kernel_rfl)
noncomputable def O_945 : Orc := (orm c_943 (orm c_93b (orm c_950 (orm c_949 (orm c_94a (orm c_93c (orm c_933 (orm c_951 (orm c_922 (orm c_952 c_932))))))))))
theorem okO_945 : OrcOk PR O_945 := (orm_ok ok_943 (orm_ok ok_93b (orm_ok ok_950 (orm_ok ok_949 (orm_ok ok_94a (orm_ok ok_93c (orm_ok ok_933 (orm_ok ok_951 (orm_ok ok_922 (orm_ok ok_952 ok_932))))))))))
abbrev fa_945 : Fm := (.pair (.i .i64) (.pair (.i .i64) (.pair .b (.pair (.i .i64) (.pair (.i .u64) (.pair .b .unit))))))
abbrev ha_945 : List BF := []
abbrev fr_945 : Fm := (.tup (.pair (.i .u32) (.pair (.agg (.pair .b (.pair .b (.pair .b (.pair .b (.pair .b .unit)))))) .unit)))
abbrev hr_945 : List BF := []
noncomputable def L_945 : Lps := L0
def inn_945 : T fr_945 → TH hr_945 → Int × (Bool × Bool × Bool × Bool × Bool × Unit) × Unit := (fun z w => z)
def out_945 : Int × (Bool × Bool × Bool × Bool × Bool × Unit) × Unit → T fr_945 × TH hr_945 := fun r => (r, ())
noncomputable def F_945 (a0 : Int) (a1 : Int) (a2 : Bool) (a3 : Int) (a4 : Int) (a5 : Bool) : Option (Int × (Bool × Bool × Bool × Bool × Bool × Unit) × Unit) :=
 let x0 : Int := (mn (mx a3 (-(10000:Int))) (10000:Int))
 bif (a4 == (0:Int)) then
 bif (!a5) then
 ((F_943 a0 a2)).bind fun r1 =>
 (some (r1, ((false, (false, (false, (false, (false, ()))))), ())))
 else
 ((F_93b a0)).bind fun r2 =>
 ((F_950 a0 x0 a4)).bind fun r3 =>
 ((F_949 a4 (IntKind.wrap .i64 (r3 - x0)) a5)).bind fun r4 =>
 let x5 : Bool := (r4.2.1 != (0:Int))
 ((F_94a a1 a2 r4.1 r4.2.1)).bind fun r6 =>
 let x7 : Int := (bif r6 then (IntKind.wrap .u64 (r4.1 + (1:Int))) else r4.1)
 let x8 : Bool := ((x7 / ((2:Int) ^ (Min.min (Int.toNat (IntKind.wrap .u64 (IntKind.wrap .i64 (r2.2.1 + (1:Int))))) (64:Nat)))) != (0:Int))
 let x9 : Int := (bif x8 then (x7 / (2:Int)) else x7)
 bif (decide ((0:Int) ≤ (IntKind.wrap .u64 (IntKind.wrap .i64 (r2.2.1 + (1:Int)))))) then
 ((F_93c a0)).bind fun r10 =>
 let x11 : Int := (bif ((x9 / ((2:Int) ^ (Min.min (Int.toNat (IntKind.wrap .u64 r2.2.1)) (64:Nat)))) == (0:Int)) then (0:Int) else (IntKind.wrap .i64 ((IntKind.wrap .i64 ((IntKind.wrap .i64 ((bif x8 then (IntKind.wrap .i64 (r3 + (1:Int))) else r3) + r2.2.1)) - r10)) + (1:Int))))
 bif (decide ((0:Int) ≤ (IntKind.wrap .u64 r2.2.1))) then
 ((F_933 a0)).bind fun r12 =>
 bif (decide (x11 ≥ r12)) then
 ((F_951 a0 a1 a2)).bind fun r13 =>
 (some r13)
 else
 bif x5 then
 bif (a4 == (0:Int)) then
 ((F_952 x9 r2.2.1)).bind fun r14 =>
 ((F_932 a0 a2 x11 (IntKind.wrap .u32 r14))).bind fun r15 =>
 (some (r15, ((false, (false, (false, (true, (x5, ()))))), ())))
 else
 ((F_922 a4)).bind fun r16 =>
 ((F_93c a0)).bind fun r17 =>
 ((F_952 x9 r2.2.1)).bind fun r18 =>
 ((F_932 a0 a2 x11 (IntKind.wrap .u32 r18))).bind fun r19 =>
 (some (r19, ((false, (false, (false, ((decide ((IntKind.wrap .i64 ((IntKind.wrap .i64 (x0 + r16)) - (1:Int))) < r17)), (x5, ()))))), ())))
 else
 ((F_952 x9 r2.2.1)).bind fun r20 =>
 ((F_932 a0 a2 x11 (IntKind.wrap .u32 r20))).bind fun r21 =>
 (some (r21, ((false, (false, (false, (false, (x5, ()))))), ())))
 else
 none
 else
 none
 else
 ((F_93b a0)).bind fun r22 =>
 ((F_950 a0 x0 a4)).bind fun r23 =>
 ((F_949 a4 (IntKind.wrap .i64 (r23 - x0)) a5)).bind fun r24 =>
 let x25 : Bool := (r24.2.1 != (0:Int))
 ((F_94a a1 a2 r24.1 r24.2.1)).bind fun r26 =>
 let x27 : Int := (bif r26 then (IntKind.wrap .u64 (r24.1 + (1:Int))) else r24.1)
 let x28 : Bool := ((x27 / ((2:Int) ^ (Min.min (Int.toNat (IntKind.wrap .u64 (IntKind.wrap .i64 (r22.2.1 + (1:Int))))) (64:Nat)))) != (0:Int))
 let x29 : Int := (bif x28 then (x27 / (2:Int)) else x27)
 bif (decide ((0:Int) ≤ (IntKind.wrap .u64 (IntKind.wrap .i64 (r22.2.1 + (1:Int)))))) then
 ((F_93c a0)).bind fun r30 =>
 let x31 : Int := (bif ((x29 / ((2:Int) ^ (Min.min (Int.toNat (IntKind.wrap .u64 r22.2.1)) (64:Nat)))) == (0:Int)) then (0:Int) else (IntKind.wrap .i64 ((IntKind.wrap .i64 ((IntKind.wrap .i64 ((bif x28 then (IntKind.wrap .i64 (r23 + (1:Int))) else r23) + r22.2.1)) - r30)) + (1:Int))))
 bif (decide ((0:Int) ≤ (IntKind.wrap .u64 r22.2.1))) then
 ((F_933 a0)).bind fun r32 =>
 bif (decide (x31 ≥ r32)) then
 ((F_951 a0 a1 a2)).bind fun r33 =>
 (some r33)
 else
 bif x25 then
 bif (a4 == (0:Int)) then
 ((F_952 x29 r22.2.1)).bind fun r34 =>
 ((F_932 a0 a2 x31 (IntKind.wrap .u32 r34))).bind fun r35 =>
 (some (r35, ((false, (false, (false, (true, (x25, ()))))), ())))
 else
 ((F_922 a4)).bind fun r36 =>
 ((F_93c a0)).bind fun r37 =>
 ((F_952 x29 r22.2.1)).bind fun r38 =>
 ((F_932 a0 a2 x31 (IntKind.wrap .u32 r38))).bind fun r39 =>
 (some (r39, ((false, (false, (false, ((decide ((IntKind.wrap .i64 ((IntKind.wrap .i64 (x0 + r36)) - (1:Int))) < r37)), (x25, ()))))), ())))
 else
 ((F_952 x29 r22.2.1)).bind fun r40 =>
 ((F_932 a0 a2 x31 (IntKind.wrap .u32 r40))).bind fun r41 =>
 (some (r41, ((false, (false, (false, (false, (x25, ()))))), ())))
 else
 none
 else
 none
noncomputable def G_945 : T fa_945 → TH ha_945 → Option (Int × (Bool × Bool × Bool × Bool × Bool × Unit) × Unit) := fun x y => F_945 x.1 x.2.1 x.2.2.1 x.2.2.2.1 x.2.2.2.2.1 x.2.2.2.2.2.1
noncomputable def c_945 : Orc := ent i_945 [] 0 (sp fa_945 ha_945 fr_945 hr_945 G_945 out_945)
theorem ok_945 : OrcOk PR c_945 := fnT okO_945 mixed p_945 (by kernel_rfl) (by kernel_rfl) (L := L_945) (kp := false) (by kernel_rfl) (inn := inn_945) (out := out_945) (fun _ _ => rfl) (loopsL (l := []) (by kernel_rfl) trivial) (fun x y => by kernel_rfl)
end Go.Proofs.Ytkknnloamidaiaa.VI

import Derived.Test.YtkmkhcmfpbffjaaGreatTb122e1a7
import Derived.Test.YtkmkhcmfpbffjaaGreatProg
namespace Go.Proofs.YtkmkhcmfpbffjaaGreat.VI
set_option linter.unusedVariables false
set_option linter.unusedSimpArgs false
abbrev hN0 : List BF := []
abbrev innN (f : Fm) (z : T f) (w : TH []) : T f := z
abbrev outN (f : Fm) (r : T f) : T f × TH [] := (r, ())
noncomputable abbrev PR : Program := Tryz.prog
theorem mixed : PR.follows .mixedOrders = true := by kernel_rfl
def L0 : Lps := fun _ _ => .no
abbrev y_90 : TypeId := 3
abbrev y_91 : TypeId := 22
abbrev y_92 : TypeId := 26
abbrev y_93 : TypeId := 33
abbrev y_94 : TypeId := 41
abbrev y_95 : TypeId := 43
abbrev y_96 : TypeId := 52
abbrev y_97 : TypeId := 60
abbrev y_98 : TypeId := 62
abbrev y_99 : TypeId := 182
abbrev y_9a : TypeId := 184
abbrev i_9b : FuncId := 4
noncomputable abbrev f_9b : Func := Tryz.f4
theorem p_9b : PR.funcs[i_9b]? = some f_9b := Tryz.func4
abbrev i_9c : FuncId := 9
noncomputable abbrev f_9c : Func := Tryz.f9
theorem p_9c : PR.funcs[i_9c]? = some f_9c := Tryz.func9
abbrev i_9d : FuncId := 17
noncomputable abbrev f_9d : Func := Tryz.f17
theorem p_9d : PR.funcs[i_9d]? = some f_9d := Tryz.func17
abbrev i_9e : FuncId := 18
noncomputable abbrev f_9e : Func := Tryz.f18
theorem p_9e : PR.funcs[i_9e]? = some f_9e := Tryz.func18
abbrev i_9f : FuncId := 19
noncomputable abbrev f_9f : Func := Tryz.f19
theorem p_9f : PR.funcs[i_9f]? = some f_9f := Tryz.func19
abbrev i_910 : FuncId := 20
noncomputable abbrev f_910 : Func := Tryz.f20
theorem p_910 : PR.funcs[i_910]? = some f_910 := Tryz.func20
abbrev i_911 : FuncId := 21
noncomputable abbrev f_911 : Func := Tryz.f21
theorem p_911 : PR.funcs[i_911]? = some f_911 := Tryz.func21
abbrev i_912 : FuncId := 22
noncomputable abbrev f_912 : Func := Tryz.f22
theorem p_912 : PR.funcs[i_912]? = some f_912 := Tryz.func22
abbrev i_913 : FuncId := 23
noncomputable abbrev f_913 : Func := Tryz.f23
theorem p_913 : PR.funcs[i_913]? = some f_913 := Tryz.func23
abbrev i_914 : FuncId := 24
noncomputable abbrev f_914 : Func := Tryz.f24
theorem p_914 : PR.funcs[i_914]? = some f_914 := Tryz.func24
abbrev i_915 : FuncId := 25
noncomputable abbrev f_915 : Func := Tryz.f25
theorem p_915 : PR.funcs[i_915]? = some f_915 := Tryz.func25
abbrev i_916 : FuncId := 33
noncomputable abbrev f_916 : Func := Tryz.f33
theorem p_916 : PR.funcs[i_916]? = some f_916 := Tryz.func33
abbrev i_917 : FuncId := 36
noncomputable abbrev f_917 : Func := Tryz.f36
theorem p_917 : PR.funcs[i_917]? = some f_917 := Tryz.func36
abbrev i_918 : FuncId := 37
noncomputable abbrev f_918 : Func := Tryz.f37
theorem p_918 : PR.funcs[i_918]? = some f_918 := Tryz.func37
abbrev i_919 : FuncId := 39
noncomputable abbrev f_919 : Func := Tryz.f39
theorem p_919 : PR.funcs[i_919]? = some f_919 := Tryz.func39
abbrev i_91a : FuncId := 40
noncomputable abbrev f_91a : Func := Tryz.f40
theorem p_91a : PR.funcs[i_91a]? = some f_91a := Tryz.func40
abbrev i_91b : FuncId := 42
noncomputable abbrev f_91b : Func := Tryz.f42
theorem p_91b : PR.funcs[i_91b]? = some f_91b := Tryz.func42
abbrev i_91c : FuncId := 45
noncomputable abbrev f_91c : Func := Tryz.f45
theorem p_91c : PR.funcs[i_91c]? = some f_91c := Tryz.func45
abbrev i_91d : FuncId := 46
noncomputable abbrev f_91d : Func := Tryz.f46
theorem p_91d : PR.funcs[i_91d]? = some f_91d := Tryz.func46
abbrev i_91e : FuncId := 48
noncomputable abbrev f_91e : Func := Tryz.f48
theorem p_91e : PR.funcs[i_91e]? = some f_91e := Tryz.func48
abbrev i_91f : FuncId := 54
noncomputable abbrev f_91f : Func := Tryz.f54
theorem p_91f : PR.funcs[i_91f]? = some f_91f := Tryz.func54
abbrev i_920 : FuncId := 55
noncomputable abbrev f_920 : Func := Tryz.f55
theorem p_920 : PR.funcs[i_920]? = some f_920 := Tryz.func55
abbrev i_921 : FuncId := 62
noncomputable abbrev f_921 : Func := Tryz.f62
theorem p_921 : PR.funcs[i_921]? = some f_921 := Tryz.func62
abbrev i_922 : FuncId := 64
noncomputable abbrev f_922 : Func := Tryz.f64
theorem p_922 : PR.funcs[i_922]? = some f_922 := Tryz.func64
abbrev i_923 : FuncId := 65
noncomputable abbrev f_923 : Func := Tryz.f65
theorem p_923 : PR.funcs[i_923]? = some f_923 := Tryz.func65
abbrev i_924 : FuncId := 66
noncomputable abbrev f_924 : Func := Tryz.f66
theorem p_924 : PR.funcs[i_924]? = some f_924 := Tryz.func66
abbrev i_925 : FuncId := 67
noncomputable abbrev f_925 : Func := Tryz.f67
theorem p_925 : PR.funcs[i_925]? = some f_925 := Tryz.func67
abbrev i_926 : FuncId := 68
noncomputable abbrev f_926 : Func := Tryz.f68
theorem p_926 : PR.funcs[i_926]? = some f_926 := Tryz.func68
abbrev i_927 : FuncId := 69
noncomputable abbrev f_927 : Func := Tryz.f69
theorem p_927 : PR.funcs[i_927]? = some f_927 := Tryz.func69
abbrev i_928 : FuncId := 70
noncomputable abbrev f_928 : Func := Tryz.f70
theorem p_928 : PR.funcs[i_928]? = some f_928 := Tryz.func70
abbrev i_929 : FuncId := 71
noncomputable abbrev f_929 : Func := Tryz.f71
theorem p_929 : PR.funcs[i_929]? = some f_929 := Tryz.func71
abbrev i_92a : FuncId := 73
noncomputable abbrev f_92a : Func := Tryz.f73
theorem p_92a : PR.funcs[i_92a]? = some f_92a := Tryz.func73
abbrev i_92b : FuncId := 74
noncomputable abbrev f_92b : Func := Tryz.f74
theorem p_92b : PR.funcs[i_92b]? = some f_92b := Tryz.func74
abbrev i_92c : FuncId := 75
noncomputable abbrev f_92c : Func := Tryz.f75
theorem p_92c : PR.funcs[i_92c]? = some f_92c := Tryz.func75
abbrev i_92d : FuncId := 76
noncomputable abbrev f_92d : Func := Tryz.f76
theorem p_92d : PR.funcs[i_92d]? = some f_92d := Tryz.func76
abbrev i_92e : FuncId := 77
noncomputable abbrev f_92e : Func := Tryz.f77
theorem p_92e : PR.funcs[i_92e]? = some f_92e := Tryz.func77
abbrev i_92f : FuncId := 78
noncomputable abbrev f_92f : Func := Tryz.f78
theorem p_92f : PR.funcs[i_92f]? = some f_92f := Tryz.func78
abbrev i_930 : FuncId := 79
noncomputable abbrev f_930 : Func := Tryz.f79
theorem p_930 : PR.funcs[i_930]? = some f_930 := Tryz.func79
abbrev i_931 : FuncId := 81
noncomputable abbrev f_931 : Func := Tryz.f81
theorem p_931 : PR.funcs[i_931]? = some f_931 := Tryz.func81
abbrev i_932 : FuncId := 88
noncomputable abbrev f_932 : Func := Tryz.f88
theorem p_932 : PR.funcs[i_932]? = some f_932 := Tryz.func88
abbrev i_933 : FuncId := 92
noncomputable abbrev f_933 : Func := Tryz.f92
theorem p_933 : PR.funcs[i_933]? = some f_933 := Tryz.func92
abbrev i_934 : FuncId := 97
noncomputable abbrev f_934 : Func := Tryz.f97
theorem p_934 : PR.funcs[i_934]? = some f_934 := Tryz.func97
abbrev i_935 : FuncId := 98
noncomputable abbrev f_935 : Func := Tryz.f98
theorem p_935 : PR.funcs[i_935]? = some f_935 := Tryz.func98
abbrev i_936 : FuncId := 99
noncomputable abbrev f_936 : Func := Tryz.f99
theorem p_936 : PR.funcs[i_936]? = some f_936 := Tryz.func99
abbrev i_937 : FuncId := 100
noncomputable abbrev f_937 : Func := Tryz.f100
theorem p_937 : PR.funcs[i_937]? = some f_937 := Tryz.func100
abbrev i_938 : FuncId := 101
noncomputable abbrev f_938 : Func := Tryz.f101
theorem p_938 : PR.funcs[i_938]? = some f_938 := Tryz.func101
abbrev i_939 : FuncId := 102
noncomputable abbrev f_939 : Func := Tryz.f102
theorem p_939 : PR.funcs[i_939]? = some f_939 := Tryz.func102
abbrev i_93a : FuncId := 104
noncomputable abbrev f_93a : Func := Tryz.f104
theorem p_93a : PR.funcs[i_93a]? = some f_93a := Tryz.func104
abbrev i_93b : FuncId := 105
noncomputable abbrev f_93b : Func := Tryz.f105
theorem p_93b : PR.funcs[i_93b]? = some f_93b := Tryz.func105
abbrev i_93c : FuncId := 106
noncomputable abbrev f_93c : Func := Tryz.f106
theorem p_93c : PR.funcs[i_93c]? = some f_93c := Tryz.func106
abbrev i_93d : FuncId := 107
noncomputable abbrev f_93d : Func := Tryz.f107
theorem p_93d : PR.funcs[i_93d]? = some f_93d := Tryz.func107
abbrev i_93e : FuncId := 108
noncomputable abbrev f_93e : Func := Tryz.f108
theorem p_93e : PR.funcs[i_93e]? = some f_93e := Tryz.func108
abbrev i_93f : FuncId := 109
noncomputable abbrev f_93f : Func := Tryz.f109
theorem p_93f : PR.funcs[i_93f]? = some f_93f := Tryz.func109
abbrev i_940 : FuncId := 110
noncomputable abbrev f_940 : Func := Tryz.f110
theorem p_940 : PR.funcs[i_940]? = some f_940 := Tryz.func110
abbrev i_941 : FuncId := 111
noncomputable abbrev f_941 : Func := Tryz.f111
theorem p_941 : PR.funcs[i_941]? = some f_941 := Tryz.func111
abbrev i_942 : FuncId := 112
noncomputable abbrev f_942 : Func := Tryz.f112
theorem p_942 : PR.funcs[i_942]? = some f_942 := Tryz.func112
abbrev i_943 : FuncId := 113
noncomputable abbrev f_943 : Func := Tryz.f113
theorem p_943 : PR.funcs[i_943]? = some f_943 := Tryz.func113
abbrev i_944 : FuncId := 114
noncomputable abbrev f_944 : Func := Tryz.f114
theorem p_944 : PR.funcs[i_944]? = some f_944 := Tryz.func114
abbrev i_945 : FuncId := 115
noncomputable abbrev f_945 : Func := Tryz.f115
theorem p_945 : PR.funcs[i_945]? = some f_945 := Tryz.func115
abbrev i_946 : FuncId := 116
noncomputable abbrev f_946 : Func := Tryz.f116
theorem p_946 : PR.funcs[i_946]? = some f_946 := Tryz.func116
abbrev i_947 : FuncId := 117
noncomputable abbrev f_947 : Func := Tryz.f117
theorem p_947 : PR.funcs[i_947]? = some f_947 := Tryz.func117
abbrev i_948 : FuncId := 118
noncomputable abbrev f_948 : Func := Tryz.f118
theorem p_948 : PR.funcs[i_948]? = some f_948 := Tryz.func118
abbrev i_949 : FuncId := 119
noncomputable abbrev f_949 : Func := Tryz.f119
theorem p_949 : PR.funcs[i_949]? = some f_949 := Tryz.func119
abbrev i_94a : FuncId := 121
noncomputable abbrev f_94a : Func := Tryz.f121
theorem p_94a : PR.funcs[i_94a]? = some f_94a := Tryz.func121
abbrev i_94b : FuncId := 124
noncomputable abbrev f_94b : Func := Tryz.f124
theorem p_94b : PR.funcs[i_94b]? = some f_94b := Tryz.func124
abbrev i_94c : FuncId := 125
noncomputable abbrev f_94c : Func := Tryz.f125
theorem p_94c : PR.funcs[i_94c]? = some f_94c := Tryz.func125
abbrev i_94d : FuncId := 132
noncomputable abbrev f_94d : Func := Tryz.f132
theorem p_94d : PR.funcs[i_94d]? = some f_94d := Tryz.func132
abbrev i_94e : FuncId := 133
noncomputable abbrev f_94e : Func := Tryz.f133
theorem p_94e : PR.funcs[i_94e]? = some f_94e := Tryz.func133
abbrev i_94f : FuncId := 134
noncomputable abbrev f_94f : Func := Tryz.f134
theorem p_94f : PR.funcs[i_94f]? = some f_94f := Tryz.func134
abbrev i_950 : FuncId := 135
noncomputable abbrev f_950 : Func := Tryz.f135
theorem p_950 : PR.funcs[i_950]? = some f_950 := Tryz.func135
abbrev i_951 : FuncId := 136
noncomputable abbrev f_951 : Func := Tryz.f136
theorem p_951 : PR.funcs[i_951]? = some f_951 := Tryz.func136
abbrev i_952 : FuncId := 137
noncomputable abbrev f_952 : Func := Tryz.f137
theorem p_952 : PR.funcs[i_952]? = some f_952 := Tryz.func137
abbrev i_953 : FuncId := 138
noncomputable abbrev f_953 : Func := Tryz.f138
theorem p_953 : PR.funcs[i_953]? = some f_953 := Tryz.func138
abbrev i_954 : FuncId := 139
noncomputable abbrev f_954 : Func := Tryz.f139
theorem p_954 : PR.funcs[i_954]? = some f_954 := Tryz.func139
abbrev i_955 : FuncId := 140
noncomputable abbrev f_955 : Func := Tryz.f140
theorem p_955 : PR.funcs[i_955]? = some f_955 := Tryz.func140
abbrev i_956 : FuncId := 141
noncomputable abbrev f_956 : Func := Tryz.f141
theorem p_956 : PR.funcs[i_956]? = some f_956 := Tryz.func141
abbrev i_957 : FuncId := 144
noncomputable abbrev f_957 : Func := Tryz.f144
theorem p_957 : PR.funcs[i_957]? = some f_957 := Tryz.func144
abbrev i_958 : FuncId := 145
noncomputable abbrev f_958 : Func := Tryz.f145
theorem p_958 : PR.funcs[i_958]? = some f_958 := Tryz.func145
abbrev i_959 : FuncId := 146
noncomputable abbrev f_959 : Func := Tryz.f146
theorem p_959 : PR.funcs[i_959]? = some f_959 := Tryz.func146
abbrev i_95a : FuncId := 147
noncomputable abbrev f_95a : Func := Tryz.f147
theorem p_95a : PR.funcs[i_95a]? = some f_95a := Tryz.func147
abbrev i_95b : FuncId := 148
noncomputable abbrev f_95b : Func := Tryz.f148
theorem p_95b : PR.funcs[i_95b]? = some f_95b := Tryz.func148
abbrev i_95c : FuncId := 149
noncomputable abbrev f_95c : Func := Tryz.f149
theorem p_95c : PR.funcs[i_95c]? = some f_95c := Tryz.func149
abbrev i_95d : FuncId := 155
noncomputable abbrev f_95d : Func := Tryz.f155
theorem p_95d : PR.funcs[i_95d]? = some f_95d := Tryz.func155
abbrev i_95e : FuncId := 159
noncomputable abbrev f_95e : Func := Tryz.f159
theorem p_95e : PR.funcs[i_95e]? = some f_95e := Tryz.func159
abbrev i_95f : FuncId := 160
noncomputable abbrev f_95f : Func := Tryz.f160
theorem p_95f : PR.funcs[i_95f]? = some f_95f := Tryz.func160
abbrev i_960 : FuncId := 161
noncomputable abbrev f_960 : Func := Tryz.f161
theorem p_960 : PR.funcs[i_960]? = some f_960 := Tryz.func161
abbrev i_961 : FuncId := 162
noncomputable abbrev f_961 : Func := Tryz.f162
theorem p_961 : PR.funcs[i_961]? = some f_961 := Tryz.func162
abbrev i_962 : FuncId := 163
noncomputable abbrev f_962 : Func := Tryz.f163
theorem p_962 : PR.funcs[i_962]? = some f_962 := Tryz.func163
abbrev i_963 : FuncId := 165
noncomputable abbrev f_963 : Func := Tryz.f165
theorem p_963 : PR.funcs[i_963]? = some f_963 := Tryz.func165
abbrev i_964 : FuncId := 166
noncomputable abbrev f_964 : Func := Tryz.f166
theorem p_964 : PR.funcs[i_964]? = some f_964 := Tryz.func166
abbrev i_965 : FuncId := 167
noncomputable abbrev f_965 : Func := Tryz.f167
theorem p_965 : PR.funcs[i_965]? = some f_965 := Tryz.func167
abbrev i_966 : FuncId := 168
noncomputable abbrev f_966 : Func := Tryz.f168
theorem p_966 : PR.funcs[i_966]? = some f_966 := Tryz.func168
abbrev i_967 : FuncId := 169
noncomputable abbrev f_967 : Func := Tryz.f169
theorem p_967 : PR.funcs[i_967]? = some f_967 := Tryz.func169
abbrev i_968 : FuncId := 170
noncomputable abbrev f_968 : Func := Tryz.f170
theorem p_968 : PR.funcs[i_968]? = some f_968 := Tryz.func170
abbrev i_969 : FuncId := 171
noncomputable abbrev f_969 : Func := Tryz.f171
theorem p_969 : PR.funcs[i_969]? = some f_969 := Tryz.func171
abbrev i_96a : FuncId := 172
noncomputable abbrev f_96a : Func := Tryz.f172
theorem p_96a : PR.funcs[i_96a]? = some f_96a := Tryz.func172
abbrev i_96b : FuncId := 173
noncomputable abbrev f_96b : Func := Tryz.f173
theorem p_96b : PR.funcs[i_96b]? = some f_96b := Tryz.func173
abbrev i_96c : FuncId := 174
noncomputable abbrev f_96c : Func := Tryz.f174
theorem p_96c : PR.funcs[i_96c]? = some f_96c := Tryz.func174
abbrev i_96d : FuncId := 175
noncomputable abbrev f_96d : Func := Tryz.f175
theorem p_96d : PR.funcs[i_96d]? = some f_96d := Tryz.func175
abbrev i_96e : FuncId := 176
noncomputable abbrev f_96e : Func := Tryz.f176
theorem p_96e : PR.funcs[i_96e]? = some f_96e := Tryz.func176
abbrev i_96f : FuncId := 177
noncomputable abbrev f_96f : Func := Tryz.f177
theorem p_96f : PR.funcs[i_96f]? = some f_96f := Tryz.func177
abbrev i_970 : FuncId := 178
noncomputable abbrev f_970 : Func := Tryz.f178
theorem p_970 : PR.funcs[i_970]? = some f_970 := Tryz.func178
abbrev i_971 : FuncId := 179
noncomputable abbrev f_971 : Func := Tryz.f179
theorem p_971 : PR.funcs[i_971]? = some f_971 := Tryz.func179
abbrev i_972 : FuncId := 180
noncomputable abbrev f_972 : Func := Tryz.f180
theorem p_972 : PR.funcs[i_972]? = some f_972 := Tryz.func180
abbrev i_973 : FuncId := 181
noncomputable abbrev f_973 : Func := Tryz.f181
theorem p_973 : PR.funcs[i_973]? = some f_973 := Tryz.func181
abbrev i_974 : FuncId := 182
noncomputable abbrev f_974 : Func := Tryz.f182
theorem p_974 : PR.funcs[i_974]? = some f_974 := Tryz.func182
abbrev i_975 : FuncId := 183
noncomputable abbrev f_975 : Func := Tryz.f183
theorem p_975 : PR.funcs[i_975]? = some f_975 := Tryz.func183
abbrev i_976 : FuncId := 184
noncomputable abbrev f_976 : Func := Tryz.f184
theorem p_976 : PR.funcs[i_976]? = some f_976 := Tryz.func184
abbrev i_977 : FuncId := 185
noncomputable abbrev f_977 : Func := Tryz.f185
theorem p_977 : PR.funcs[i_977]? = some f_977 := Tryz.func185
abbrev i_978 : FuncId := 186
noncomputable abbrev f_978 : Func := Tryz.f186
theorem p_978 : PR.funcs[i_978]? = some f_978 := Tryz.func186
abbrev i_979 : FuncId := 187
noncomputable abbrev f_979 : Func := Tryz.f187
theorem p_979 : PR.funcs[i_979]? = some f_979 := Tryz.func187
abbrev i_97a : FuncId := 188
noncomputable abbrev f_97a : Func := Tryz.f188
theorem p_97a : PR.funcs[i_97a]? = some f_97a := Tryz.func188
abbrev i_97b : FuncId := 192
noncomputable abbrev f_97b : Func := Tryz.f192
theorem p_97b : PR.funcs[i_97b]? = some f_97b := Tryz.func192
abbrev i_97c : FuncId := 196
noncomputable abbrev f_97c : Func := Tryz.f196
theorem p_97c : PR.funcs[i_97c]? = some f_97c := Tryz.func196
abbrev i_97d : FuncId := 197
noncomputable abbrev f_97d : Func := Tryz.f197
theorem p_97d : PR.funcs[i_97d]? = some f_97d := Tryz.func197
abbrev i_97e : FuncId := 198
noncomputable abbrev f_97e : Func := Tryz.f198
theorem p_97e : PR.funcs[i_97e]? = some f_97e := Tryz.func198
abbrev i_97f : FuncId := 199
noncomputable abbrev f_97f : Func := Tryz.f199
theorem p_97f : PR.funcs[i_97f]? = some f_97f := Tryz.func199
abbrev i_980 : FuncId := 200
noncomputable abbrev f_980 : Func := Tryz.f200
theorem p_980 : PR.funcs[i_980]? = some f_980 := Tryz.func200
abbrev i_981 : FuncId := 201
noncomputable abbrev f_981 : Func := Tryz.f201
theorem p_981 : PR.funcs[i_981]? = some f_981 := Tryz.func201
abbrev i_982 : FuncId := 202
noncomputable abbrev f_982 : Func := Tryz.f202
theorem p_982 : PR.funcs[i_982]? = some f_982 := Tryz.func202
abbrev i_983 : FuncId := 203
noncomputable abbrev f_983 : Func := Tryz.f203
theorem p_983 : PR.funcs[i_983]? = some f_983 := Tryz.func203
abbrev i_984 : FuncId := 204
noncomputable abbrev f_984 : Func := Tryz.f204
theorem p_984 : PR.funcs[i_984]? = some f_984 := Tryz.func204
abbrev i_985 : FuncId := 205
noncomputable abbrev f_985 : Func := Tryz.f205
theorem p_985 : PR.funcs[i_985]? = some f_985 := Tryz.func205
abbrev i_986 : FuncId := 206
noncomputable abbrev f_986 : Func := Tryz.f206
theorem p_986 : PR.funcs[i_986]? = some f_986 := Tryz.func206
abbrev i_987 : FuncId := 207
noncomputable abbrev f_987 : Func := Tryz.f207
theorem p_987 : PR.funcs[i_987]? = some f_987 := Tryz.func207
abbrev i_988 : FuncId := 208
noncomputable abbrev f_988 : Func := Tryz.f208
theorem p_988 : PR.funcs[i_988]? = some f_988 := Tryz.func208
abbrev i_989 : FuncId := 209
noncomputable abbrev f_989 : Func := Tryz.f209
theorem p_989 : PR.funcs[i_989]? = some f_989 := Tryz.func209
abbrev i_98a : FuncId := 210
noncomputable abbrev f_98a : Func := Tryz.f210
theorem p_98a : PR.funcs[i_98a]? = some f_98a := Tryz.func210
abbrev i_98b : FuncId := 212
noncomputable abbrev f_98b : Func := Tryz.f212
theorem p_98b : PR.funcs[i_98b]? = some f_98b := Tryz.func212
abbrev i_98c : FuncId := 213
noncomputable abbrev f_98c : Func := Tryz.f213
theorem p_98c : PR.funcs[i_98c]? = some f_98c := Tryz.func213
abbrev i_98d : FuncId := 214
noncomputable abbrev f_98d : Func := Tryz.f214
theorem p_98d : PR.funcs[i_98d]? = some f_98d := Tryz.func214
abbrev i_98e : FuncId := 217
noncomputable abbrev f_98e : Func := Tryz.f217
theorem p_98e : PR.funcs[i_98e]? = some f_98e := Tryz.func217
abbrev i_98f : FuncId := 218
noncomputable abbrev f_98f : Func := Tryz.f218
theorem p_98f : PR.funcs[i_98f]? = some f_98f := Tryz.func218
abbrev i_990 : FuncId := 222
noncomputable abbrev f_990 : Func := Tryz.f222
theorem p_990 : PR.funcs[i_990]? = some f_990 := Tryz.func222
abbrev i_991 : FuncId := 223
noncomputable abbrev f_991 : Func := Tryz.f223
theorem p_991 : PR.funcs[i_991]? = some f_991 := Tryz.func223
abbrev i_992 : FuncId := 224
noncomputable abbrev f_992 : Func := Tryz.f224
theorem p_992 : PR.funcs[i_992]? = some f_992 := Tryz.func224
abbrev i_993 : FuncId := 225
noncomputable abbrev f_993 : Func := Tryz.f225
theorem p_993 : PR.funcs[i_993]? = some f_993 := Tryz.func225
abbrev i_994 : FuncId := 226
noncomputable abbrev f_994 : Func := Tryz.f226
theorem p_994 : PR.funcs[i_994]? = some f_994 := Tryz.func226
abbrev i_995 : FuncId := 227
noncomputable abbrev f_995 : Func := Tryz.f227
theorem p_995 : PR.funcs[i_995]? = some f_995 := Tryz.func227
abbrev i_996 : FuncId := 228
noncomputable abbrev f_996 : Func := Tryz.f228
theorem p_996 : PR.funcs[i_996]? = some f_996 := Tryz.func228
abbrev i_997 : FuncId := 229
noncomputable abbrev f_997 : Func := Tryz.f229
theorem p_997 : PR.funcs[i_997]? = some f_997 := Tryz.func229
abbrev i_998 : FuncId := 234
noncomputable abbrev f_998 : Func := Tryz.f234
theorem p_998 : PR.funcs[i_998]? = some f_998 := Tryz.func234
abbrev i_999 : FuncId := 235
noncomputable abbrev f_999 : Func := Tryz.f235
theorem p_999 : PR.funcs[i_999]? = some f_999 := Tryz.func235
abbrev i_99a : FuncId := 236
noncomputable abbrev f_99a : Func := Tryz.f236
theorem p_99a : PR.funcs[i_99a]? = some f_99a := Tryz.func236
abbrev i_99b : FuncId := 237
noncomputable abbrev f_99b : Func := Tryz.f237
theorem p_99b : PR.funcs[i_99b]? = some f_99b := Tryz.func237
abbrev i_99c : FuncId := 238
noncomputable abbrev f_99c : Func := Tryz.f238
theorem p_99c : PR.funcs[i_99c]? = some f_99c := Tryz.func238
abbrev i_99d : FuncId := 239
noncomputable abbrev f_99d : Func := Tryz.f239
theorem p_99d : PR.funcs[i_99d]? = some f_99d := Tryz.func239
abbrev i_99e : FuncId := 243
noncomputable abbrev f_99e : Func := Tryz.f243
theorem p_99e : PR.funcs[i_99e]? = some f_99e := Tryz.func243
abbrev i_99f : FuncId := 244
noncomputable abbrev f_99f : Func := Tryz.f244
theorem p_99f : PR.funcs[i_99f]? = some f_99f := Tryz.func244
abbrev i_9a0 : FuncId := 245
noncomputable abbrev f_9a0 : Func := Tryz.f245
theorem p_9a0 : PR.funcs[i_9a0]? = some f_9a0 := Tryz.func245
abbrev i_9a1 : FuncId := 247
noncomputable abbrev f_9a1 : Func := Tryz.f247
theorem p_9a1 : PR.funcs[i_9a1]? = some f_9a1 := Tryz.func247
abbrev i_9a2 : FuncId := 249
noncomputable abbrev f_9a2 : Func := Tryz.f249
theorem p_9a2 : PR.funcs[i_9a2]? = some f_9a2 := Tryz.func249
end Go.Proofs.YtkmkhcmfpbffjaaGreat.VI

import Derived.Test.YtkknnloamidaiaaT788b9690
import Derived.Test.YtkknnloamidaiaaProg
namespace Go.Proofs.Ytkknnloamidaiaa.VI
set_option linter.unusedVariables false
set_option linter.unusedSimpArgs false
noncomputable abbrev PR : Program := Try.prog
theorem mixed : PR.follows .mixedOrders = true := by kernel_rfl
def L0 : Lps := fun _ _ => .no
abbrev y_api_Exc : TypeId := 61
abbrev i_anneallaw12_FuncsSigns : FuncId := 3
noncomputable abbrev f_anneallaw12_FuncsSigns : Func := Try.f3
theorem p_anneallaw12_FuncsSigns : PR.funcs[i_anneallaw12_FuncsSigns]? = some f_anneallaw12_FuncsSigns := Try.func3
abbrev i_anneallaw12_FuncsEdges : FuncId := 6
noncomputable abbrev f_anneallaw12_FuncsEdges : Func := Try.f6
theorem p_anneallaw12_FuncsEdges : PR.funcs[i_anneallaw12_FuncsEdges]? = some f_anneallaw12_FuncsEdges := Try.func6
abbrev i_anneallaw12_known : FuncId := 12
noncomputable abbrev f_anneallaw12_known : Func := Try.f12
theorem p_anneallaw12_known : PR.funcs[i_anneallaw12_known]? = some f_anneallaw12_known := Try.func12
abbrev i_funcs_Tanh : FuncId := 13
noncomputable abbrev f_funcs_Tanh : Func := Try.f13
theorem p_funcs_Tanh : PR.funcs[i_funcs_Tanh]? = some f_funcs_Tanh := Try.func13
abbrev i_funcs_Exp : FuncId := 14
noncomputable abbrev f_funcs_Exp : Func := Try.f14
theorem p_funcs_Exp : PR.funcs[i_funcs_Exp]? = some f_funcs_Exp := Try.func14
abbrev i_funcs_Sigmoid : FuncId := 15
noncomputable abbrev f_funcs_Sigmoid : Func := Try.f15
theorem p_funcs_Sigmoid : PR.funcs[i_funcs_Sigmoid]? = some f_funcs_Sigmoid := Try.func15
abbrev i_annealref1_Class : FuncId := 16
noncomputable abbrev f_annealref1_Class : Func := Try.f16
theorem p_annealref1_Class : PR.funcs[i_annealref1_Class]? = some f_annealref1_Class := Try.func16
abbrev i_funcs_Log : FuncId := 18
noncomputable abbrev f_funcs_Log : Func := Try.f18
theorem p_funcs_Log : PR.funcs[i_funcs_Log]? = some f_funcs_Log := Try.func18
abbrev i_annealref1_Key : FuncId := 19
noncomputable abbrev f_annealref1_Key : Func := Try.f19
theorem p_annealref1_Key : PR.funcs[i_annealref1_Key]? = some f_annealref1_Key := Try.func19
abbrev i_annealref1_Less : FuncId := 21
noncomputable abbrev f_annealref1_Less : Func := Try.f21
theorem p_annealref1_Less : PR.funcs[i_annealref1_Less]? = some f_annealref1_Less := Try.func21
abbrev i_funcs_Cospi : FuncId := 24
noncomputable abbrev f_funcs_Cospi : Func := Try.f24
theorem p_funcs_Cospi : PR.funcs[i_funcs_Cospi]? = some f_funcs_Cospi := Try.func24
abbrev i_annealref1_Minus : FuncId := 25
noncomputable abbrev f_annealref1_Minus : Func := Try.f25
theorem p_annealref1_Minus : PR.funcs[i_annealref1_Minus]? = some f_annealref1_Minus := Try.func25
abbrev i_funcs_Gelu : FuncId := 26
noncomputable abbrev f_funcs_Gelu : Func := Try.f26
theorem p_funcs_Gelu : PR.funcs[i_funcs_Gelu]? = some f_funcs_Gelu := Try.func26
abbrev i_funcs_Slope : FuncId := 27
noncomputable abbrev f_funcs_Slope : Func := Try.f27
theorem p_funcs_Slope : PR.funcs[i_funcs_Slope]? = some f_funcs_Slope := Try.func27
abbrev i_funcs_IsNan : FuncId := 45
noncomputable abbrev f_funcs_IsNan : Func := Try.f45
theorem p_funcs_IsNan : PR.funcs[i_funcs_IsNan]? = some f_funcs_IsNan := Try.func45
abbrev i_funcs_plain : FuncId := 46
noncomputable abbrev f_funcs_plain : Func := Try.f46
theorem p_funcs_plain : PR.funcs[i_funcs_plain]? = some f_funcs_plain := Try.func46
abbrev i_format_IsZero : FuncId := 47
noncomputable abbrev f_format_IsZero : Func := Try.f47
theorem p_format_IsZero : PR.funcs[i_format_IsZero]? = some f_format_IsZero := Try.func47
abbrev i_format_Neg : FuncId := 48
noncomputable abbrev f_format_Neg : Func := Try.f48
theorem p_format_Neg : PR.funcs[i_format_Neg]? = some f_format_Neg := Try.func48
abbrev i_funcs_Minus : FuncId := 49
noncomputable abbrev f_funcs_Minus : Func := Try.f49
theorem p_funcs_Minus : PR.funcs[i_funcs_Minus]? = some f_funcs_Minus := Try.func49
abbrev i_funcs_Above : FuncId := 50
noncomputable abbrev f_funcs_Above : Func := Try.f50
theorem p_funcs_Above : PR.funcs[i_funcs_Above]? = some f_funcs_Above := Try.func50
abbrev i_funcs_Sub : FuncId := 51
noncomputable abbrev f_funcs_Sub : Func := Try.f51
theorem p_funcs_Sub : PR.funcs[i_funcs_Sub]? = some f_funcs_Sub := Try.func51
abbrev i_funcs_Div : FuncId := 52
noncomputable abbrev f_funcs_Div : Func := Try.f52
theorem p_funcs_Div : PR.funcs[i_funcs_Div]? = some f_funcs_Div := Try.func52
abbrev i_funcs_Add : FuncId := 53
noncomputable abbrev f_funcs_Add : Func := Try.f53
theorem p_funcs_Add : PR.funcs[i_funcs_Add]? = some f_funcs_Add := Try.func53
abbrev i_format_Inf : FuncId := 54
noncomputable abbrev f_format_Inf : Func := Try.f54
theorem p_format_Inf : PR.funcs[i_format_Inf]? = some f_format_Inf := Try.func54
abbrev i_whole_ToInt : FuncId := 55
noncomputable abbrev f_whole_ToInt : Func := Try.f55
theorem p_whole_ToInt : PR.funcs[i_whole_ToInt]? = some f_whole_ToInt := Try.func55
abbrev i_funcs_Mul : FuncId := 56
noncomputable abbrev f_funcs_Mul : Func := Try.f56
theorem p_funcs_Mul : PR.funcs[i_funcs_Mul]? = some f_funcs_Mul := Try.func56
abbrev i_funcs_Int : FuncId := 57
noncomputable abbrev f_funcs_Int : Func := Try.f57
theorem p_funcs_Int : PR.funcs[i_funcs_Int]? = some f_funcs_Int := Try.func57
abbrev i_funcs_Fma : FuncId := 58
noncomputable abbrev f_funcs_Fma : Func := Try.f58
theorem p_funcs_Fma : PR.funcs[i_funcs_Fma]? = some f_funcs_Fma := Try.func58
abbrev i_funcs_poly : FuncId := 59
noncomputable abbrev f_funcs_poly : Func := Try.f59
theorem p_funcs_poly : PR.funcs[i_funcs_poly]? = some f_funcs_poly := Try.func59
abbrev i_funcs_Scale : FuncId := 60
noncomputable abbrev f_funcs_Scale : Func := Try.f60
theorem p_funcs_Scale : PR.funcs[i_funcs_Scale]? = some f_funcs_Scale := Try.func60
abbrev i_annealref1_Widths : FuncId := 61
noncomputable abbrev f_annealref1_Widths : Func := Try.f61
theorem p_annealref1_Widths : PR.funcs[i_annealref1_Widths]? = some f_annealref1_Widths := Try.func61
abbrev i_annealref1_parts : FuncId := 62
noncomputable abbrev f_annealref1_parts : Func := Try.f62
theorem p_annealref1_parts : PR.funcs[i_annealref1_parts]? = some f_annealref1_parts := Try.func62
abbrev i_annealref1_Zero : FuncId := 63
noncomputable abbrev f_annealref1_Zero : Func := Try.f63
theorem p_annealref1_Zero : PR.funcs[i_annealref1_Zero]? = some f_annealref1_Zero := Try.func63
abbrev i_format_IsInf : FuncId := 64
noncomputable abbrev f_format_IsInf : Func := Try.f64
theorem p_format_IsInf : PR.funcs[i_format_IsInf]? = some f_format_IsInf := Try.func64
abbrev i_format_Unpack : FuncId := 65
noncomputable abbrev f_format_Unpack : Func := Try.f65
theorem p_format_Unpack : PR.funcs[i_format_Unpack]? = some f_format_Unpack := Try.func65
abbrev i_bits_Len : FuncId := 66
noncomputable abbrev f_bits_Len : Func := Try.f66
theorem p_bits_Len : PR.funcs[i_bits_Len]? = some f_bits_Len := Try.func66
abbrev i_annealref1_Mask : FuncId := 67
noncomputable abbrev f_annealref1_Mask : Func := Try.f67
theorem p_annealref1_Mask : PR.funcs[i_annealref1_Mask]? = some f_annealref1_Mask := Try.func67
abbrev i_annealref1_sign : FuncId := 68
noncomputable abbrev f_annealref1_sign : Func := Try.f68
theorem p_annealref1_sign : PR.funcs[i_annealref1_sign]? = some f_annealref1_sign := Try.func68
abbrev i_annealref1_neg : FuncId := 69
noncomputable abbrev f_annealref1_neg : Func := Try.f69
theorem p_annealref1_neg : PR.funcs[i_annealref1_neg]? = some f_annealref1_neg := Try.func69
abbrev i_annealref1_Compare : FuncId := 70
noncomputable abbrev f_annealref1_Compare : Func := Try.f70
theorem p_annealref1_Compare : PR.funcs[i_annealref1_Compare]? = some f_annealref1_Compare := Try.func70
abbrev i_annealref1_nans : FuncId := 73
noncomputable abbrev f_annealref1_nans : Func := Try.f73
theorem p_annealref1_nans : PR.funcs[i_annealref1_nans]? = some f_annealref1_nans := Try.func73
abbrev i_funcs_inner : FuncId := 74
noncomputable abbrev f_funcs_inner : Func := Try.f74
theorem p_funcs_inner : PR.funcs[i_funcs_inner]? = some f_funcs_inner := Try.func74
abbrev i_annealseat_Num : FuncId := 76
noncomputable abbrev f_annealseat_Num : Func := Try.f76
theorem p_annealseat_Num : PR.funcs[i_annealseat_Num]? = some f_annealseat_Num := Try.func76
abbrev i_format_IsNan : FuncId := 87
noncomputable abbrev f_format_IsNan : Func := Try.f87
theorem p_format_IsNan : PR.funcs[i_format_IsNan]? = some f_format_IsNan := Try.func87
abbrev i_format_Nan : FuncId := 88
noncomputable abbrev f_format_Nan : Func := Try.f88
theorem p_format_Nan : PR.funcs[i_format_Nan]? = some f_format_Nan := Try.func88
abbrev i_format_Class : FuncId := 89
noncomputable abbrev f_format_Class : Func := Try.f89
theorem p_format_Class : PR.funcs[i_format_Class]? = some f_format_Class := Try.func89
abbrev i_format_Parts : FuncId := 90
noncomputable abbrev f_format_Parts : Func := Try.f90
theorem p_format_Parts : PR.funcs[i_format_Parts]? = some f_format_Parts := Try.func90
abbrev i_format_Turn : FuncId := 91
noncomputable abbrev f_format_Turn : Func := Try.f91
theorem p_format_Turn : PR.funcs[i_format_Turn]? = some f_format_Turn := Try.func91
abbrev i_order_Less : FuncId := 92
noncomputable abbrev f_order_Less : Func := Try.f92
theorem p_order_Less : PR.funcs[i_order_Less]? = some f_order_Less := Try.func92
abbrev i_sum_Sub : FuncId := 93
noncomputable abbrev f_sum_Sub : Func := Try.f93
theorem p_sum_Sub : PR.funcs[i_sum_Sub]? = some f_sum_Sub := Try.func93
abbrev i_quot_Div : FuncId := 94
noncomputable abbrev f_quot_Div : Func := Try.f94
theorem p_quot_Div : PR.funcs[i_quot_Div]? = some f_quot_Div := Try.func94
abbrev i_sum_Add : FuncId := 95
noncomputable abbrev f_sum_Add : Func := Try.f95
theorem p_sum_Add : PR.funcs[i_sum_Add]? = some f_sum_Add := Try.func95
abbrev i_format_Join : FuncId := 96
noncomputable abbrev f_format_Join : Func := Try.f96
theorem p_format_Join : PR.funcs[i_format_Join]? = some f_format_Join := Try.func96
abbrev i_format_Top : FuncId := 97
noncomputable abbrev f_format_Top : Func := Try.f97
theorem p_format_Top : PR.funcs[i_format_Top]? = some f_format_Top := Try.func97
abbrev i_format_Finite : FuncId := 98
noncomputable abbrev f_format_Finite : Func := Try.f98
theorem p_format_Finite : PR.funcs[i_format_Finite]? = some f_format_Finite := Try.func98
abbrev i_sum_Of : FuncId := 99
noncomputable abbrev f_sum_Of : Func := Try.f99
theorem p_sum_Of : PR.funcs[i_sum_Of]? = some f_sum_Of := Try.func99
abbrev i_whole_units : FuncId := 100
noncomputable abbrev f_whole_units : Func := Try.f100
theorem p_whole_units : PR.funcs[i_whole_units]? = some f_whole_units := Try.func100
abbrev i_prod_Mul : FuncId := 101
noncomputable abbrev f_prod_Mul : Func := Try.f101
theorem p_prod_Mul : PR.funcs[i_prod_Mul]? = some f_prod_Mul := Try.func101
abbrev i_whole_FromInt : FuncId := 102
noncomputable abbrev f_whole_FromInt : Func := Try.f102
theorem p_whole_FromInt : PR.funcs[i_whole_FromInt]? = some f_whole_FromInt := Try.func102
abbrev i_prod_Fma : FuncId := 103
noncomputable abbrev f_prod_Fma : Func := Try.f103
theorem p_prod_Fma : PR.funcs[i_prod_Fma]? = some f_prod_Fma := Try.func103
abbrev i_whole_Scale : FuncId := 104
noncomputable abbrev f_whole_Scale : Func := Try.f104
theorem p_whole_Scale : PR.funcs[i_whole_Scale]? = some f_whole_Scale := Try.func104
abbrev i_format_Widths : FuncId := 105
noncomputable abbrev f_format_Widths : Func := Try.f105
theorem p_format_Widths : PR.funcs[i_format_Widths]? = some f_format_Widths := Try.func105
abbrev i_format_Least : FuncId := 106
noncomputable abbrev f_format_Least : Func := Try.f106
theorem p_format_Least : PR.funcs[i_format_Least]? = some f_format_Least := Try.func106
abbrev i_math_bits_Len64 : FuncId := 107
noncomputable abbrev f_math_bits_Len64 : Func := Try.f107
theorem p_math_bits_Len64 : PR.funcs[i_math_bits_Len64]? = some f_math_bits_Len64 := Try.func107
abbrev i_annealref1_zero : FuncId := 108
noncomputable abbrev f_annealref1_zero : Func := Try.f108
theorem p_annealref1_zero : PR.funcs[i_annealref1_zero]? = some f_annealref1_zero := Try.func108
abbrev i_annealref1_Nan : FuncId := 109
noncomputable abbrev f_annealref1_Nan : Func := Try.f109
theorem p_annealref1_Nan : PR.funcs[i_annealref1_Nan]? = some f_annealref1_Nan := Try.func109
abbrev i_annealref1_inf : FuncId := 110
noncomputable abbrev f_annealref1_inf : Func := Try.f110
theorem p_annealref1_inf : PR.funcs[i_annealref1_inf]? = some f_annealref1_inf := Try.func110
abbrev i_annealref1_Inf : FuncId := 111
noncomputable abbrev f_annealref1_Inf : Func := Try.f111
theorem p_annealref1_Inf : PR.funcs[i_annealref1_Inf]? = some f_annealref1_Inf := Try.func111
abbrev i_annealref1_Unpack : FuncId := 112
noncomputable abbrev f_annealref1_Unpack : Func := Try.f112
theorem p_annealref1_Unpack : PR.funcs[i_annealref1_Unpack]? = some f_annealref1_Unpack := Try.func112
abbrev i_annealref1_Pack : FuncId := 113
noncomputable abbrev f_annealref1_Pack : Func := Try.f113
theorem p_annealref1_Pack : PR.funcs[i_annealref1_Pack]? = some f_annealref1_Pack := Try.func113
abbrev i_conv_Widen : FuncId := 124
noncomputable abbrev f_conv_Widen : Func := Try.f124
theorem p_conv_Widen : PR.funcs[i_conv_Widen]? = some f_conv_Widen := Try.func124
abbrev i_format_Mask : FuncId := 125
noncomputable abbrev f_format_Mask : Func := Try.f125
theorem p_format_Mask : PR.funcs[i_format_Mask]? = some f_format_Mask := Try.func125
abbrev i_order_Compare : FuncId := 126
noncomputable abbrev f_order_Compare : Func := Try.f126
theorem p_order_Compare : PR.funcs[i_order_Compare]? = some f_order_Compare := Try.func126
abbrev i_sum_Nans : FuncId := 127
noncomputable abbrev f_sum_Nans : Func := Try.f127
theorem p_sum_Nans : PR.funcs[i_sum_Nans]? = some f_sum_Nans := Try.func127
abbrev i_sum_Bad : FuncId := 128
noncomputable abbrev f_sum_Bad : Func := Try.f128
theorem p_sum_Bad : PR.funcs[i_sum_Bad]? = some f_sum_Bad := Try.func128
abbrev i_format_Zero : FuncId := 129
noncomputable abbrev f_format_Zero : Func := Try.f129
theorem p_format_Zero : PR.funcs[i_format_Zero]? = some f_format_Zero := Try.func129
abbrev i_bits_Shift : FuncId := 130
noncomputable abbrev f_bits_Shift : Func := Try.f130
theorem p_bits_Shift : PR.funcs[i_bits_Shift]? = some f_bits_Shift := Try.func130
abbrev i_round_Pack : FuncId := 131
noncomputable abbrev f_round_Pack : Func := Try.f131
theorem p_round_Pack : PR.funcs[i_round_Pack]? = some f_round_Pack := Try.func131
abbrev i_sum_Infinite : FuncId := 132
noncomputable abbrev f_sum_Infinite : Func := Try.f132
theorem p_sum_Infinite : PR.funcs[i_sum_Infinite]? = some f_sum_Infinite := Try.func132
abbrev i_sum_Exact : FuncId := 133
noncomputable abbrev f_sum_Exact : Func := Try.f133
theorem p_sum_Exact : PR.funcs[i_sum_Exact]? = some f_sum_Exact := Try.func133
abbrev i_sum_Nought : FuncId := 134
noncomputable abbrev f_sum_Nought : Func := Try.f134
theorem p_sum_Nought : PR.funcs[i_sum_Nought]? = some f_sum_Nought := Try.func134
abbrev i_round_Units : FuncId := 135
noncomputable abbrev f_round_Units : Func := Try.f135
theorem p_round_Units : PR.funcs[i_round_Units]? = some f_round_Units := Try.func135
abbrev i_round_Up : FuncId := 136
noncomputable abbrev f_round_Up : Func := Try.f136
theorem p_round_Up : PR.funcs[i_round_Up]? = some f_round_Up := Try.func136
abbrev i_prod_torn : FuncId := 137
noncomputable abbrev f_prod_torn : Func := Try.f137
theorem p_prod_torn : PR.funcs[i_prod_torn]? = some f_prod_torn := Try.func137
abbrev i_prod_product : FuncId := 138
noncomputable abbrev f_prod_product : Func := Try.f138
theorem p_prod_product : PR.funcs[i_prod_product]? = some f_prod_product := Try.func138
abbrev i_whole_amount : FuncId := 139
noncomputable abbrev f_whole_amount : Func := Try.f139
theorem p_whole_amount : PR.funcs[i_whole_amount]? = some f_whole_amount := Try.func139
abbrev i_whole_apart : FuncId := 140
noncomputable abbrev f_whole_apart : Func := Try.f140
theorem p_whole_apart : PR.funcs[i_whole_apart]? = some f_whole_apart := Try.func140
abbrev i_annealref1_bias : FuncId := 141
noncomputable abbrev f_annealref1_bias : Func := Try.f141
theorem p_annealref1_bias : PR.funcs[i_annealref1_bias]? = some f_annealref1_bias := Try.func141
abbrev i_annealref1_Len : FuncId := 142
noncomputable abbrev f_annealref1_Len : Func := Try.f142
theorem p_annealref1_Len : PR.funcs[i_annealref1_Len]? = some f_annealref1_Len := Try.func142
abbrev i_annealref1_divide : FuncId := 143
noncomputable abbrev f_annealref1_divide : Func := Try.f143
theorem p_annealref1_divide : PR.funcs[i_annealref1_divide]? = some f_annealref1_divide := Try.func143
abbrev i_annealref1_up : FuncId := 144
noncomputable abbrev f_annealref1_up : Func := Try.f144
theorem p_annealref1_up : PR.funcs[i_annealref1_up]? = some f_annealref1_up := Try.func144
abbrev i_annealref1_over : FuncId := 145
noncomputable abbrev f_annealref1_over : Func := Try.f145
theorem p_annealref1_over : PR.funcs[i_annealref1_over]? = some f_annealref1_over := Try.func145
abbrev i_conv_To : FuncId := 154
noncomputable abbrev f_conv_To : Func := Try.f154
theorem p_conv_To : PR.funcs[i_conv_To]? = some f_conv_To := Try.func154
abbrev i_order_Key : FuncId := 155
noncomputable abbrev f_order_Key : Func := Try.f155
theorem p_order_Key : PR.funcs[i_order_Key]? = some f_order_Key := Try.func155
abbrev i_round_Unit : FuncId := 156
noncomputable abbrev f_round_Unit : Func := Try.f156
theorem p_round_Unit : PR.funcs[i_round_Unit]? = some f_round_Unit := Try.func156
abbrev i_round_beyond : FuncId := 157
noncomputable abbrev f_round_beyond : Func := Try.f157
theorem p_round_beyond : PR.funcs[i_round_beyond]? = some f_round_beyond := Try.func157
abbrev i_bits_Cut : FuncId := 158
noncomputable abbrev f_bits_Cut : Func := Try.f158
theorem p_bits_Cut : PR.funcs[i_bits_Cut]? = some f_bits_Cut := Try.func158
abbrev i_sum_full : FuncId := 159
noncomputable abbrev f_sum_full : Func := Try.f159
theorem p_sum_full : PR.funcs[i_sum_full]? = some f_sum_full := Try.func159
abbrev i_annealref1_Shift : FuncId := 160
noncomputable abbrev f_annealref1_Shift : Func := Try.f160
theorem p_annealref1_Shift : PR.funcs[i_annealref1_Shift]? = some f_annealref1_Shift := Try.func160
abbrev i_annealref1_Greatest : FuncId := 161
noncomputable abbrev f_annealref1_Greatest : Func := Try.f161
theorem p_annealref1_Greatest : PR.funcs[i_annealref1_Greatest]? = some f_annealref1_Greatest := Try.func161
abbrev i_format_Greatest : FuncId := 166
noncomputable abbrev f_format_Greatest : Func := Try.f166
theorem p_format_Greatest : PR.funcs[i_format_Greatest]? = some f_format_Greatest := Try.func166
end Go.Proofs.Ytkknnloamidaiaa.VI

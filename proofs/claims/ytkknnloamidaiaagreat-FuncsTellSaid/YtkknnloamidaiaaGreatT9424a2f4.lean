import Derived.Test.YtkknnloamidaiaaGreatT6dcedb7a
import Derived.Test.YtkknnloamidaiaaGreatProg
namespace Go.Proofs.YtkknnloamidaiaaGreat.VI
set_option linter.unusedVariables false
set_option linter.unusedSimpArgs false
noncomputable abbrev PR : Program := Tryz.prog
theorem mixed : PR.follows .mixedOrders = true := by kernel_rfl
def L0 : Lps := fun _ _ => .no
abbrev y_api_Exc : TypeId := 55
abbrev y_annealref1_wide : TypeId := 122
abbrev i_anneallaw12_FuncsTell : FuncId := 3
noncomputable abbrev f_anneallaw12_FuncsTell : Func := Tryz.f3
theorem p_anneallaw12_FuncsTell : PR.funcs[i_anneallaw12_FuncsTell]? = some f_anneallaw12_FuncsTell := Tryz.func3
abbrev i_anneallaw12_known : FuncId := 6
noncomputable abbrev f_anneallaw12_known : Func := Tryz.f6
theorem p_anneallaw12_known : PR.funcs[i_anneallaw12_known]? = some f_anneallaw12_known := Tryz.func6
abbrev i_annealseat_Num : FuncId := 7
noncomputable abbrev f_annealseat_Num : Func := Tryz.f7
theorem p_annealseat_Num : PR.funcs[i_annealseat_Num]? = some f_annealseat_Num := Tryz.func7
abbrev i_annealseat_Mild : FuncId := 8
noncomputable abbrev f_annealseat_Mild : Func := Tryz.f8
theorem p_annealseat_Mild : PR.funcs[i_annealseat_Mild]? = some f_annealseat_Mild := Tryz.func8
abbrev i_funcs_Exp : FuncId := 9
noncomputable abbrev f_funcs_Exp : Func := Tryz.f9
theorem p_funcs_Exp : PR.funcs[i_funcs_Exp]? = some f_funcs_Exp := Tryz.func9
abbrev i_annealref10_Exp : FuncId := 10
noncomputable abbrev f_annealref10_Exp : Func := Tryz.f10
theorem p_annealref10_Exp : PR.funcs[i_annealref10_Exp]? = some f_annealref10_Exp := Tryz.func10
abbrev i_funcs_Log : FuncId := 11
noncomputable abbrev f_funcs_Log : Func := Tryz.f11
theorem p_funcs_Log : PR.funcs[i_funcs_Log]? = some f_funcs_Log := Tryz.func11
abbrev i_annealref10_Log : FuncId := 12
noncomputable abbrev f_annealref10_Log : Func := Tryz.f12
theorem p_annealref10_Log : PR.funcs[i_annealref10_Log]? = some f_annealref10_Log := Tryz.func12
abbrev i_funcs_Tanh : FuncId := 13
noncomputable abbrev f_funcs_Tanh : Func := Tryz.f13
theorem p_funcs_Tanh : PR.funcs[i_funcs_Tanh]? = some f_funcs_Tanh := Tryz.func13
abbrev i_annealref10_Tanh : FuncId := 14
noncomputable abbrev f_annealref10_Tanh : Func := Tryz.f14
theorem p_annealref10_Tanh : PR.funcs[i_annealref10_Tanh]? = some f_annealref10_Tanh := Tryz.func14
abbrev i_funcs_Sigmoid : FuncId := 15
noncomputable abbrev f_funcs_Sigmoid : Func := Tryz.f15
theorem p_funcs_Sigmoid : PR.funcs[i_funcs_Sigmoid]? = some f_funcs_Sigmoid := Tryz.func15
abbrev i_annealref10_Sigmoid : FuncId := 16
noncomputable abbrev f_annealref10_Sigmoid : Func := Tryz.f16
theorem p_annealref10_Sigmoid : PR.funcs[i_annealref10_Sigmoid]? = some f_annealref10_Sigmoid := Tryz.func16
abbrev i_funcs_Gelu : FuncId := 17
noncomputable abbrev f_funcs_Gelu : Func := Tryz.f17
theorem p_funcs_Gelu : PR.funcs[i_funcs_Gelu]? = some f_funcs_Gelu := Tryz.func17
abbrev i_annealref10_Gelu : FuncId := 18
noncomputable abbrev f_annealref10_Gelu : Func := Tryz.f18
theorem p_annealref10_Gelu : PR.funcs[i_annealref10_Gelu]? = some f_annealref10_Gelu := Tryz.func18
abbrev i_funcs_Slope : FuncId := 19
noncomputable abbrev f_funcs_Slope : Func := Tryz.f19
theorem p_funcs_Slope : PR.funcs[i_funcs_Slope]? = some f_funcs_Slope := Tryz.func19
abbrev i_annealref10_Slope : FuncId := 20
noncomputable abbrev f_annealref10_Slope : Func := Tryz.f20
theorem p_annealref10_Slope : PR.funcs[i_annealref10_Slope]? = some f_annealref10_Slope := Tryz.func20
abbrev i_funcs_Cospi : FuncId := 21
noncomputable abbrev f_funcs_Cospi : Func := Tryz.f21
theorem p_funcs_Cospi : PR.funcs[i_funcs_Cospi]? = some f_funcs_Cospi := Tryz.func21
abbrev i_annealref10_Cospi : FuncId := 22
noncomputable abbrev f_annealref10_Cospi : Func := Tryz.f22
theorem p_annealref10_Cospi : PR.funcs[i_annealref10_Cospi]? = some f_annealref10_Cospi := Tryz.func22
abbrev i_annealref1_Widths : FuncId := 42
noncomputable abbrev f_annealref1_Widths : Func := Tryz.f42
theorem p_annealref1_Widths : PR.funcs[i_annealref1_Widths]? = some f_annealref1_Widths := Tryz.func42
abbrev i_annealref1_Mask : FuncId := 43
noncomputable abbrev f_annealref1_Mask : Func := Tryz.f43
theorem p_annealref1_Mask : PR.funcs[i_annealref1_Mask]? = some f_annealref1_Mask := Tryz.func43
abbrev i_annealref1_Zero : FuncId := 44
noncomputable abbrev f_annealref1_Zero : Func := Tryz.f44
theorem p_annealref1_Zero : PR.funcs[i_annealref1_Zero]? = some f_annealref1_Zero := Tryz.func44
abbrev i_funcs_IsNan : FuncId := 45
noncomputable abbrev f_funcs_IsNan : Func := Tryz.f45
theorem p_funcs_IsNan : PR.funcs[i_funcs_IsNan]? = some f_funcs_IsNan := Tryz.func45
abbrev i_funcs_plain : FuncId := 46
noncomputable abbrev f_funcs_plain : Func := Tryz.f46
theorem p_funcs_plain : PR.funcs[i_funcs_plain]? = some f_funcs_plain := Tryz.func46
abbrev i_funcs_Above : FuncId := 47
noncomputable abbrev f_funcs_Above : Func := Tryz.f47
theorem p_funcs_Above : PR.funcs[i_funcs_Above]? = some f_funcs_Above := Tryz.func47
abbrev i_format_Inf : FuncId := 48
noncomputable abbrev f_format_Inf : Func := Tryz.f48
theorem p_format_Inf : PR.funcs[i_format_Inf]? = some f_format_Inf := Tryz.func48
abbrev i_whole_ToInt : FuncId := 49
noncomputable abbrev f_whole_ToInt : Func := Tryz.f49
theorem p_whole_ToInt : PR.funcs[i_whole_ToInt]? = some f_whole_ToInt := Tryz.func49
abbrev i_funcs_Mul : FuncId := 50
noncomputable abbrev f_funcs_Mul : Func := Tryz.f50
theorem p_funcs_Mul : PR.funcs[i_funcs_Mul]? = some f_funcs_Mul := Tryz.func50
abbrev i_funcs_Minus : FuncId := 51
noncomputable abbrev f_funcs_Minus : Func := Tryz.f51
theorem p_funcs_Minus : PR.funcs[i_funcs_Minus]? = some f_funcs_Minus := Tryz.func51
abbrev i_funcs_Int : FuncId := 52
noncomputable abbrev f_funcs_Int : Func := Tryz.f52
theorem p_funcs_Int : PR.funcs[i_funcs_Int]? = some f_funcs_Int := Tryz.func52
abbrev i_funcs_Fma : FuncId := 53
noncomputable abbrev f_funcs_Fma : Func := Tryz.f53
theorem p_funcs_Fma : PR.funcs[i_funcs_Fma]? = some f_funcs_Fma := Tryz.func53
abbrev i_funcs_poly : FuncId := 54
noncomputable abbrev f_funcs_poly : Func := Tryz.f54
theorem p_funcs_poly : PR.funcs[i_funcs_poly]? = some f_funcs_poly := Tryz.func54
abbrev i_funcs_Scale : FuncId := 55
noncomputable abbrev f_funcs_Scale : Func := Tryz.f55
theorem p_funcs_Scale : PR.funcs[i_funcs_Scale]? = some f_funcs_Scale := Tryz.func55
abbrev i_annealref10_Nan : FuncId := 56
noncomputable abbrev f_annealref10_Nan : Func := Tryz.f56
theorem p_annealref10_Nan : PR.funcs[i_annealref10_Nan]? = some f_annealref10_Nan := Tryz.func56
abbrev i_annealref10_Above : FuncId := 57
noncomputable abbrev f_annealref10_Above : Func := Tryz.f57
theorem p_annealref10_Above : PR.funcs[i_annealref10_Above]? = some f_annealref10_Above := Tryz.func57
abbrev i_annealref1_ToInt : FuncId := 58
noncomputable abbrev f_annealref1_ToInt : Func := Tryz.f58
theorem p_annealref1_ToInt : PR.funcs[i_annealref1_ToInt]? = some f_annealref1_ToInt := Tryz.func58
abbrev i_annealref10_Mul : FuncId := 59
noncomputable abbrev f_annealref10_Mul : Func := Tryz.f59
theorem p_annealref10_Mul : PR.funcs[i_annealref10_Mul]? = some f_annealref10_Mul := Tryz.func59
abbrev i_annealref10_Minus : FuncId := 60
noncomputable abbrev f_annealref10_Minus : Func := Tryz.f60
theorem p_annealref10_Minus : PR.funcs[i_annealref10_Minus]? = some f_annealref10_Minus := Tryz.func60
abbrev i_annealref10_Int : FuncId := 61
noncomputable abbrev f_annealref10_Int : Func := Tryz.f61
theorem p_annealref10_Int : PR.funcs[i_annealref10_Int]? = some f_annealref10_Int := Tryz.func61
abbrev i_annealref10_Fma : FuncId := 62
noncomputable abbrev f_annealref10_Fma : Func := Tryz.f62
theorem p_annealref10_Fma : PR.funcs[i_annealref10_Fma]? = some f_annealref10_Fma := Tryz.func62
abbrev i_annealref10_Scale : FuncId := 63
noncomputable abbrev f_annealref10_Scale : Func := Tryz.f63
theorem p_annealref10_Scale : PR.funcs[i_annealref10_Scale]? = some f_annealref10_Scale := Tryz.func63
abbrev i_annealref10_along : FuncId := 64
noncomputable abbrev f_annealref10_along : Func := Tryz.f64
theorem p_annealref10_along : PR.funcs[i_annealref10_along]? = some f_annealref10_along := Tryz.func64
abbrev i_format_IsZero : FuncId := 65
noncomputable abbrev f_format_IsZero : Func := Tryz.f65
theorem p_format_IsZero : PR.funcs[i_format_IsZero]? = some f_format_IsZero := Tryz.func65
abbrev i_format_Neg : FuncId := 66
noncomputable abbrev f_format_Neg : Func := Tryz.f66
theorem p_format_Neg : PR.funcs[i_format_Neg]? = some f_format_Neg := Tryz.func66
abbrev i_format_IsInf : FuncId := 67
noncomputable abbrev f_format_IsInf : Func := Tryz.f67
theorem p_format_IsInf : PR.funcs[i_format_IsInf]? = some f_format_IsInf := Tryz.func67
abbrev i_format_Unpack : FuncId := 68
noncomputable abbrev f_format_Unpack : Func := Tryz.f68
theorem p_format_Unpack : PR.funcs[i_format_Unpack]? = some f_format_Unpack := Tryz.func68
abbrev i_bits_Len : FuncId := 69
noncomputable abbrev f_bits_Len : Func := Tryz.f69
theorem p_bits_Len : PR.funcs[i_bits_Len]? = some f_bits_Len := Tryz.func69
abbrev i_funcs_Sub : FuncId := 70
noncomputable abbrev f_funcs_Sub : Func := Tryz.f70
theorem p_funcs_Sub : PR.funcs[i_funcs_Sub]? = some f_funcs_Sub := Tryz.func70
abbrev i_funcs_Div : FuncId := 71
noncomputable abbrev f_funcs_Div : Func := Tryz.f71
theorem p_funcs_Div : PR.funcs[i_funcs_Div]? = some f_funcs_Div := Tryz.func71
abbrev i_funcs_Add : FuncId := 72
noncomputable abbrev f_funcs_Add : Func := Tryz.f72
theorem p_funcs_Add : PR.funcs[i_funcs_Add]? = some f_funcs_Add := Tryz.func72
abbrev i_annealref1_Unpack : FuncId := 73
noncomputable abbrev f_annealref1_Unpack : Func := Tryz.f73
theorem p_annealref1_Unpack : PR.funcs[i_annealref1_Unpack]? = some f_annealref1_Unpack := Tryz.func73
abbrev i_annealref1_Class : FuncId := 74
noncomputable abbrev f_annealref1_Class : Func := Tryz.f74
theorem p_annealref1_Class : PR.funcs[i_annealref1_Class]? = some f_annealref1_Class := Tryz.func74
abbrev i_annealref10_Sub : FuncId := 75
noncomputable abbrev f_annealref10_Sub : Func := Tryz.f75
theorem p_annealref10_Sub : PR.funcs[i_annealref10_Sub]? = some f_annealref10_Sub := Tryz.func75
abbrev i_annealref10_Div : FuncId := 76
noncomputable abbrev f_annealref10_Div : Func := Tryz.f76
theorem p_annealref10_Div : PR.funcs[i_annealref10_Div]? = some f_annealref10_Div := Tryz.func76
abbrev i_annealref10_Add : FuncId := 77
noncomputable abbrev f_annealref10_Add : Func := Tryz.f77
theorem p_annealref10_Add : PR.funcs[i_annealref10_Add]? = some f_annealref10_Add := Tryz.func77
abbrev i_funcs_inner : FuncId := 78
noncomputable abbrev f_funcs_inner : Func := Tryz.f78
theorem p_funcs_inner : PR.funcs[i_funcs_inner]? = some f_funcs_inner := Tryz.func78
abbrev i_annealref10_inner : FuncId := 79
noncomputable abbrev f_annealref10_inner : Func := Tryz.f79
theorem p_annealref10_inner : PR.funcs[i_annealref10_inner]? = some f_annealref10_inner := Tryz.func79
abbrev i_annealref1_sign : FuncId := 92
noncomputable abbrev f_annealref1_sign : Func := Tryz.f92
theorem p_annealref1_sign : PR.funcs[i_annealref1_sign]? = some f_annealref1_sign := Tryz.func92
abbrev i_format_IsNan : FuncId := 93
noncomputable abbrev f_format_IsNan : Func := Tryz.f93
theorem p_format_IsNan : PR.funcs[i_format_IsNan]? = some f_format_IsNan := Tryz.func93
abbrev i_format_Nan : FuncId := 94
noncomputable abbrev f_format_Nan : Func := Tryz.f94
theorem p_format_Nan : PR.funcs[i_format_Nan]? = some f_format_Nan := Tryz.func94
abbrev i_order_Less : FuncId := 95
noncomputable abbrev f_order_Less : Func := Tryz.f95
theorem p_order_Less : PR.funcs[i_order_Less]? = some f_order_Less := Tryz.func95
abbrev i_format_Join : FuncId := 96
noncomputable abbrev f_format_Join : Func := Tryz.f96
theorem p_format_Join : PR.funcs[i_format_Join]? = some f_format_Join := Tryz.func96
abbrev i_format_Top : FuncId := 97
noncomputable abbrev f_format_Top : Func := Tryz.f97
theorem p_format_Top : PR.funcs[i_format_Top]? = some f_format_Top := Tryz.func97
abbrev i_format_Finite : FuncId := 98
noncomputable abbrev f_format_Finite : Func := Tryz.f98
theorem p_format_Finite : PR.funcs[i_format_Finite]? = some f_format_Finite := Tryz.func98
abbrev i_sum_Of : FuncId := 99
noncomputable abbrev f_sum_Of : Func := Tryz.f99
theorem p_sum_Of : PR.funcs[i_sum_Of]? = some f_sum_Of := Tryz.func99
abbrev i_whole_units : FuncId := 100
noncomputable abbrev f_whole_units : Func := Tryz.f100
theorem p_whole_units : PR.funcs[i_whole_units]? = some f_whole_units := Tryz.func100
abbrev i_prod_Mul : FuncId := 101
noncomputable abbrev f_prod_Mul : Func := Tryz.f101
theorem p_prod_Mul : PR.funcs[i_prod_Mul]? = some f_prod_Mul := Tryz.func101
abbrev i_format_Turn : FuncId := 102
noncomputable abbrev f_format_Turn : Func := Tryz.f102
theorem p_format_Turn : PR.funcs[i_format_Turn]? = some f_format_Turn := Tryz.func102
abbrev i_whole_FromInt : FuncId := 103
noncomputable abbrev f_whole_FromInt : Func := Tryz.f103
theorem p_whole_FromInt : PR.funcs[i_whole_FromInt]? = some f_whole_FromInt := Tryz.func103
abbrev i_prod_Fma : FuncId := 104
noncomputable abbrev f_prod_Fma : Func := Tryz.f104
theorem p_prod_Fma : PR.funcs[i_prod_Fma]? = some f_prod_Fma := Tryz.func104
abbrev i_whole_Scale : FuncId := 105
noncomputable abbrev f_whole_Scale : Func := Tryz.f105
theorem p_whole_Scale : PR.funcs[i_whole_Scale]? = some f_whole_Scale := Tryz.func105
abbrev i_annealref1_Less : FuncId := 106
noncomputable abbrev f_annealref1_Less : Func := Tryz.f106
theorem p_annealref1_Less : PR.funcs[i_annealref1_Less]? = some f_annealref1_Less := Tryz.func106
abbrev i_annealref1_Finite : FuncId := 107
noncomputable abbrev f_annealref1_Finite : Func := Tryz.f107
theorem p_annealref1_Finite : PR.funcs[i_annealref1_Finite]? = some f_annealref1_Finite := Tryz.func107
abbrev i_annealref1_units : FuncId := 108
noncomputable abbrev f_annealref1_units : Func := Tryz.f108
theorem p_annealref1_units : PR.funcs[i_annealref1_units]? = some f_annealref1_units := Tryz.func108
abbrev i_annealref1_Mul : FuncId := 109
noncomputable abbrev f_annealref1_Mul : Func := Tryz.f109
theorem p_annealref1_Mul : PR.funcs[i_annealref1_Mul]? = some f_annealref1_Mul := Tryz.func109
abbrev i_annealref1_Minus : FuncId := 110
noncomputable abbrev f_annealref1_Minus : Func := Tryz.f110
theorem p_annealref1_Minus : PR.funcs[i_annealref1_Minus]? = some f_annealref1_Minus := Tryz.func110
abbrev i_annealref1_FromInt : FuncId := 111
noncomputable abbrev f_annealref1_FromInt : Func := Tryz.f111
theorem p_annealref1_FromInt : PR.funcs[i_annealref1_FromInt]? = some f_annealref1_FromInt := Tryz.func111
abbrev i_annealref1_Fma : FuncId := 112
noncomputable abbrev f_annealref1_Fma : Func := Tryz.f112
theorem p_annealref1_Fma : PR.funcs[i_annealref1_Fma]? = some f_annealref1_Fma := Tryz.func112
abbrev i_annealref1_Scale : FuncId := 113
noncomputable abbrev f_annealref1_Scale : Func := Tryz.f113
theorem p_annealref1_Scale : PR.funcs[i_annealref1_Scale]? = some f_annealref1_Scale := Tryz.func113
abbrev i_format_Class : FuncId := 114
noncomputable abbrev f_format_Class : Func := Tryz.f114
theorem p_format_Class : PR.funcs[i_format_Class]? = some f_format_Class := Tryz.func114
abbrev i_format_Parts : FuncId := 115
noncomputable abbrev f_format_Parts : Func := Tryz.f115
theorem p_format_Parts : PR.funcs[i_format_Parts]? = some f_format_Parts := Tryz.func115
abbrev i_format_Widths : FuncId := 116
noncomputable abbrev f_format_Widths : Func := Tryz.f116
theorem p_format_Widths : PR.funcs[i_format_Widths]? = some f_format_Widths := Tryz.func116
abbrev i_format_Least : FuncId := 117
noncomputable abbrev f_format_Least : Func := Tryz.f117
theorem p_format_Least : PR.funcs[i_format_Least]? = some f_format_Least := Tryz.func117
abbrev i_math_bits_Len64 : FuncId := 118
noncomputable abbrev f_math_bits_Len64 : Func := Tryz.f118
theorem p_math_bits_Len64 : PR.funcs[i_math_bits_Len64]? = some f_math_bits_Len64 := Tryz.func118
abbrev i_sum_Sub : FuncId := 119
noncomputable abbrev f_sum_Sub : Func := Tryz.f119
theorem p_sum_Sub : PR.funcs[i_sum_Sub]? = some f_sum_Sub := Tryz.func119
abbrev i_quot_Div : FuncId := 120
noncomputable abbrev f_quot_Div : Func := Tryz.f120
theorem p_quot_Div : PR.funcs[i_quot_Div]? = some f_quot_Div := Tryz.func120
abbrev i_sum_Add : FuncId := 121
noncomputable abbrev f_sum_Add : Func := Tryz.f121
theorem p_sum_Add : PR.funcs[i_sum_Add]? = some f_sum_Add := Tryz.func121
abbrev i_annealref1_parts : FuncId := 122
noncomputable abbrev f_annealref1_parts : Func := Tryz.f122
theorem p_annealref1_parts : PR.funcs[i_annealref1_parts]? = some f_annealref1_parts := Tryz.func122
abbrev i_annealref1_bias : FuncId := 123
noncomputable abbrev f_annealref1_bias : Func := Tryz.f123
theorem p_annealref1_bias : PR.funcs[i_annealref1_bias]? = some f_annealref1_bias := Tryz.func123
abbrev i_annealref1_Sub : FuncId := 124
noncomputable abbrev f_annealref1_Sub : Func := Tryz.f124
theorem p_annealref1_Sub : PR.funcs[i_annealref1_Sub]? = some f_annealref1_Sub := Tryz.func124
abbrev i_annealref1_Div : FuncId := 125
noncomputable abbrev f_annealref1_Div : Func := Tryz.f125
theorem p_annealref1_Div : PR.funcs[i_annealref1_Div]? = some f_annealref1_Div := Tryz.func125
abbrev i_annealref1_Add : FuncId := 126
noncomputable abbrev f_annealref1_Add : Func := Tryz.f126
theorem p_annealref1_Add : PR.funcs[i_annealref1_Add]? = some f_annealref1_Add := Tryz.func126
abbrev i_conv_Widen : FuncId := 133
noncomputable abbrev f_conv_Widen : Func := Tryz.f133
theorem p_conv_Widen : PR.funcs[i_conv_Widen]? = some f_conv_Widen := Tryz.func133
abbrev i_order_Compare : FuncId := 135
noncomputable abbrev f_order_Compare : Func := Tryz.f135
theorem p_order_Compare : PR.funcs[i_order_Compare]? = some f_order_Compare := Tryz.func135
abbrev i_round_Units : FuncId := 136
noncomputable abbrev f_round_Units : Func := Tryz.f136
theorem p_round_Units : PR.funcs[i_round_Units]? = some f_round_Units := Tryz.func136
abbrev i_round_Up : FuncId := 137
noncomputable abbrev f_round_Up : Func := Tryz.f137
theorem p_round_Up : PR.funcs[i_round_Up]? = some f_round_Up := Tryz.func137
abbrev i_sum_Nans : FuncId := 138
noncomputable abbrev f_sum_Nans : Func := Tryz.f138
theorem p_sum_Nans : PR.funcs[i_sum_Nans]? = some f_sum_Nans := Tryz.func138
abbrev i_prod_torn : FuncId := 139
noncomputable abbrev f_prod_torn : Func := Tryz.f139
theorem p_prod_torn : PR.funcs[i_prod_torn]? = some f_prod_torn := Tryz.func139
abbrev i_sum_Bad : FuncId := 140
noncomputable abbrev f_sum_Bad : Func := Tryz.f140
theorem p_sum_Bad : PR.funcs[i_sum_Bad]? = some f_sum_Bad := Tryz.func140
abbrev i_prod_product : FuncId := 141
noncomputable abbrev f_prod_product : Func := Tryz.f141
theorem p_prod_product : PR.funcs[i_prod_product]? = some f_prod_product := Tryz.func141
abbrev i_round_Pack : FuncId := 142
noncomputable abbrev f_round_Pack : Func := Tryz.f142
theorem p_round_Pack : PR.funcs[i_round_Pack]? = some f_round_Pack := Tryz.func142
abbrev i_format_Mask : FuncId := 143
noncomputable abbrev f_format_Mask : Func := Tryz.f143
theorem p_format_Mask : PR.funcs[i_format_Mask]? = some f_format_Mask := Tryz.func143
abbrev i_whole_amount : FuncId := 144
noncomputable abbrev f_whole_amount : Func := Tryz.f144
theorem p_whole_amount : PR.funcs[i_whole_amount]? = some f_whole_amount := Tryz.func144
abbrev i_sum_Infinite : FuncId := 145
noncomputable abbrev f_sum_Infinite : Func := Tryz.f145
theorem p_sum_Infinite : PR.funcs[i_sum_Infinite]? = some f_sum_Infinite := Tryz.func145
abbrev i_sum_Exact : FuncId := 146
noncomputable abbrev f_sum_Exact : Func := Tryz.f146
theorem p_sum_Exact : PR.funcs[i_sum_Exact]? = some f_sum_Exact := Tryz.func146
abbrev i_sum_Nought : FuncId := 147
noncomputable abbrev f_sum_Nought : Func := Tryz.f147
theorem p_sum_Nought : PR.funcs[i_sum_Nought]? = some f_sum_Nought := Tryz.func147
abbrev i_whole_apart : FuncId := 148
noncomputable abbrev f_whole_apart : Func := Tryz.f148
theorem p_whole_apart : PR.funcs[i_whole_apart]? = some f_whole_apart := Tryz.func148
abbrev i_annealref1_Compare : FuncId := 149
noncomputable abbrev f_annealref1_Compare : Func := Tryz.f149
theorem p_annealref1_Compare : PR.funcs[i_annealref1_Compare]? = some f_annealref1_Compare := Tryz.func149
abbrev i_annealref1_divide : FuncId := 150
noncomputable abbrev f_annealref1_divide : Func := Tryz.f150
theorem p_annealref1_divide : PR.funcs[i_annealref1_divide]? = some f_annealref1_divide := Tryz.func150
abbrev i_annealref1_up : FuncId := 151
noncomputable abbrev f_annealref1_up : Func := Tryz.f151
theorem p_annealref1_up : PR.funcs[i_annealref1_up]? = some f_annealref1_up := Tryz.func151
abbrev i_annealref1_nans : FuncId := 152
noncomputable abbrev f_annealref1_nans : Func := Tryz.f152
theorem p_annealref1_nans : PR.funcs[i_annealref1_nans]? = some f_annealref1_nans := Tryz.func152
abbrev i_annealref1_Nan : FuncId := 153
noncomputable abbrev f_annealref1_Nan : Func := Tryz.f153
theorem p_annealref1_Nan : PR.funcs[i_annealref1_Nan]? = some f_annealref1_Nan := Tryz.func153
abbrev i_annealref1_neg : FuncId := 154
noncomputable abbrev f_annealref1_neg : Func := Tryz.f154
theorem p_annealref1_neg : PR.funcs[i_annealref1_neg]? = some f_annealref1_neg := Tryz.func154
abbrev i_annealref1_zero : FuncId := 155
noncomputable abbrev f_annealref1_zero : Func := Tryz.f155
theorem p_annealref1_zero : PR.funcs[i_annealref1_zero]? = some f_annealref1_zero := Tryz.func155
abbrev i_annealref1_inf : FuncId := 156
noncomputable abbrev f_annealref1_inf : Func := Tryz.f156
theorem p_annealref1_inf : PR.funcs[i_annealref1_inf]? = some f_annealref1_inf := Tryz.func156
abbrev i_annealref1_Inf : FuncId := 157
noncomputable abbrev f_annealref1_Inf : Func := Tryz.f157
theorem p_annealref1_Inf : PR.funcs[i_annealref1_Inf]? = some f_annealref1_Inf := Tryz.func157
abbrev i_annealref1_Pack : FuncId := 158
noncomputable abbrev f_annealref1_Pack : Func := Tryz.f158
theorem p_annealref1_Pack : PR.funcs[i_annealref1_Pack]? = some f_annealref1_Pack := Tryz.func158
abbrev i_annealref1_total : FuncId := 159
noncomputable abbrev f_annealref1_total : Func := Tryz.f159
theorem p_annealref1_total : PR.funcs[i_annealref1_total]? = some f_annealref1_total := Tryz.func159
abbrev i_annealref1_spread : FuncId := 160
noncomputable abbrev f_annealref1_spread : Func := Tryz.f160
theorem p_annealref1_spread : PR.funcs[i_annealref1_spread]? = some f_annealref1_spread := Tryz.func160
abbrev i_format_Zero : FuncId := 161
noncomputable abbrev f_format_Zero : Func := Tryz.f161
theorem p_format_Zero : PR.funcs[i_format_Zero]? = some f_format_Zero := Tryz.func161
abbrev i_bits_Shift : FuncId := 162
noncomputable abbrev f_bits_Shift : Func := Tryz.f162
theorem p_bits_Shift : PR.funcs[i_bits_Shift]? = some f_bits_Shift := Tryz.func162
abbrev i_annealref1_To : FuncId := 165
noncomputable abbrev f_annealref1_To : Func := Tryz.f165
theorem p_annealref1_To : PR.funcs[i_annealref1_To]? = some f_annealref1_To := Tryz.func165
abbrev i_conv_To : FuncId := 169
noncomputable abbrev f_conv_To : Func := Tryz.f169
theorem p_conv_To : PR.funcs[i_conv_To]? = some f_conv_To := Tryz.func169
abbrev i_order_Key : FuncId := 170
noncomputable abbrev f_order_Key : Func := Tryz.f170
theorem p_order_Key : PR.funcs[i_order_Key]? = some f_order_Key := Tryz.func170
abbrev i_round_Unit : FuncId := 171
noncomputable abbrev f_round_Unit : Func := Tryz.f171
theorem p_round_Unit : PR.funcs[i_round_Unit]? = some f_round_Unit := Tryz.func171
abbrev i_round_beyond : FuncId := 172
noncomputable abbrev f_round_beyond : Func := Tryz.f172
theorem p_round_beyond : PR.funcs[i_round_beyond]? = some f_round_beyond := Tryz.func172
abbrev i_bits_Cut : FuncId := 173
noncomputable abbrev f_bits_Cut : Func := Tryz.f173
theorem p_bits_Cut : PR.funcs[i_bits_Cut]? = some f_bits_Cut := Tryz.func173
abbrev i_sum_full : FuncId := 174
noncomputable abbrev f_sum_full : Func := Tryz.f174
theorem p_sum_full : PR.funcs[i_sum_full]? = some f_sum_full := Tryz.func174
abbrev i_annealref1_Key : FuncId := 175
noncomputable abbrev f_annealref1_Key : Func := Tryz.f175
theorem p_annealref1_Key : PR.funcs[i_annealref1_Key]? = some f_annealref1_Key := Tryz.func175
abbrev i_annealref1_Shift : FuncId := 176
noncomputable abbrev f_annealref1_Shift : Func := Tryz.f176
theorem p_annealref1_Shift : PR.funcs[i_annealref1_Shift]? = some f_annealref1_Shift := Tryz.func176
abbrev i_annealref1_Len : FuncId := 177
noncomputable abbrev f_annealref1_Len : Func := Tryz.f177
theorem p_annealref1_Len : PR.funcs[i_annealref1_Len]? = some f_annealref1_Len := Tryz.func177
abbrev i_annealref1_over : FuncId := 178
noncomputable abbrev f_annealref1_over : Func := Tryz.f178
theorem p_annealref1_over : PR.funcs[i_annealref1_over]? = some f_annealref1_over := Tryz.func178
abbrev i_annealref1_plus : FuncId := 179
noncomputable abbrev f_annealref1_plus : Func := Tryz.f179
theorem p_annealref1_plus : PR.funcs[i_annealref1_plus]? = some f_annealref1_plus := Tryz.func179
abbrev i_annealref1_nought : FuncId := 180
noncomputable abbrev f_annealref1_nought : Func := Tryz.f180
theorem p_annealref1_nought : PR.funcs[i_annealref1_nought]? = some f_annealref1_nought := Tryz.func180
abbrev i_annealref1_rounded : FuncId := 181
noncomputable abbrev f_annealref1_rounded : Func := Tryz.f181
theorem p_annealref1_rounded : PR.funcs[i_annealref1_rounded]? = some f_annealref1_rounded := Tryz.func181
abbrev i_format_Greatest : FuncId := 183
noncomputable abbrev f_format_Greatest : Func := Tryz.f183
theorem p_format_Greatest : PR.funcs[i_format_Greatest]? = some f_format_Greatest := Tryz.func183
abbrev i_annealref1_Greatest : FuncId := 184
noncomputable abbrev f_annealref1_Greatest : Func := Tryz.f184
theorem p_annealref1_Greatest : PR.funcs[i_annealref1_Greatest]? = some f_annealref1_Greatest := Tryz.func184
abbrev i_annealref1_minus : FuncId := 185
noncomputable abbrev f_annealref1_minus : Func := Tryz.f185
theorem p_annealref1_minus : PR.funcs[i_annealref1_minus]? = some f_annealref1_minus := Tryz.func185
abbrev i_annealref1_below : FuncId := 186
noncomputable abbrev f_annealref1_below : Func := Tryz.f186
theorem p_annealref1_below : PR.funcs[i_annealref1_below]? = some f_annealref1_below := Tryz.func186
end Go.Proofs.YtkknnloamidaiaaGreat.VI

import Derived.Test.YtkknnloamidaiaaGreatT6dcedb7a
import Derived.Test.YtkknnloamidaiaaGreatProg
namespace Go.Proofs.YtkknnloamidaiaaGreat.VI
set_option linter.unusedVariables false
set_option linter.unusedSimpArgs false
noncomputable abbrev PR : Program := Tryz.prog
theorem mixed : PR.follows .mixedOrders = true := by kernel_rfl
def L0 : Lps := fun _ _ => .no
abbrev y_uint32 : TypeId := 22
abbrev y_api_Tensor : TypeId := 29
abbrev y_api_Exc : TypeId := 55
abbrev y_func_uint32__uint32__uint32 : TypeId := 58
abbrev y_annealref1_wide : TypeId := 122
abbrev i_anneallaw14_KernParts : FuncId := 5
noncomputable abbrev f_anneallaw14_KernParts : Func := Tryz.f5
theorem p_anneallaw14_KernParts : PR.funcs[i_anneallaw14_KernParts]? = some f_anneallaw14_KernParts := Tryz.func5
abbrev i_annealseat_Num : FuncId := 7
noncomputable abbrev f_annealseat_Num : Func := Tryz.f7
theorem p_annealseat_Num : PR.funcs[i_annealseat_Num]? = some f_annealseat_Num := Tryz.func7
abbrev i_annealseat_Mild : FuncId := 8
noncomputable abbrev f_annealseat_Mild : Func := Tryz.f8
theorem p_annealseat_Mild : PR.funcs[i_annealseat_Mild]? = some f_annealseat_Mild := Tryz.func8
abbrev i_anneallaw14_known : FuncId := 23
noncomputable abbrev f_anneallaw14_known : Func := Tryz.f23
theorem p_anneallaw14_known : PR.funcs[i_anneallaw14_known]? = some f_anneallaw14_known := Tryz.func23
abbrev i_annealhelp_Light : FuncId := 24
noncomputable abbrev f_annealhelp_Light : Func := Tryz.f24
theorem p_annealhelp_Light : PR.funcs[i_annealhelp_Light]? = some f_annealhelp_Light := Tryz.func24
abbrev i_annealseat_Tensor : FuncId := 25
noncomputable abbrev f_annealseat_Tensor : Func := Tryz.f25
theorem p_annealseat_Tensor : PR.funcs[i_annealseat_Tensor]? = some f_annealseat_Tensor := Tryz.func25
abbrev i_kern_Plain : FuncId := 26
noncomputable abbrev f_kern_Plain : Func := Tryz.f26
theorem p_kern_Plain : PR.funcs[i_kern_Plain]? = some f_kern_Plain := Tryz.func26
abbrev i_kern_Rows : FuncId := 28
noncomputable abbrev f_kern_Rows : Func := Tryz.f28
theorem p_kern_Rows : PR.funcs[i_kern_Rows]? = some f_kern_Rows := Tryz.func28
abbrev i_kern_Cols : FuncId := 30
noncomputable abbrev f_kern_Cols : Func := Tryz.f30
theorem p_kern_Cols : PR.funcs[i_kern_Cols]? = some f_kern_Cols := Tryz.func30
abbrev i_annealhelp_Tensor : FuncId := 32
noncomputable abbrev f_annealhelp_Tensor : Func := Tryz.f32
theorem p_annealhelp_Tensor : PR.funcs[i_annealhelp_Tensor]? = some f_annealhelp_Tensor := Tryz.func32
abbrev i_kern_Bias : FuncId := 33
noncomputable abbrev f_kern_Bias : Func := Tryz.f33
theorem p_kern_Bias : PR.funcs[i_kern_Bias]? = some f_kern_Bias := Tryz.func33
abbrev i_annealref13_Bias : FuncId := 34
noncomputable abbrev f_annealref13_Bias : Func := Tryz.f34
theorem p_annealref13_Bias : PR.funcs[i_annealref13_Bias]? = some f_annealref13_Bias := Tryz.func34
abbrev i_kern_Sums : FuncId := 35
noncomputable abbrev f_kern_Sums : Func := Tryz.f35
theorem p_kern_Sums : PR.funcs[i_kern_Sums]? = some f_kern_Sums := Tryz.func35
abbrev i_annealref13_Sums : FuncId := 36
noncomputable abbrev f_annealref13_Sums : Func := Tryz.f36
theorem p_annealref13_Sums : PR.funcs[i_annealref13_Sums]? = some f_annealref13_Sums := Tryz.func36
abbrev i_kern_Add : FuncId := 37
noncomputable abbrev f_kern_Add : Func := Tryz.f37
theorem p_kern_Add : PR.funcs[i_kern_Add]? = some f_kern_Add := Tryz.func37
abbrev i_annealref13_Each : FuncId := 38
noncomputable abbrev f_annealref13_Each : Func := Tryz.f38
theorem p_annealref13_Each : PR.funcs[i_annealref13_Each]? = some f_annealref13_Each := Tryz.func38
abbrev i_kern_Mul : FuncId := 39
noncomputable abbrev f_kern_Mul : Func := Tryz.f39
theorem p_kern_Mul : PR.funcs[i_kern_Mul]? = some f_kern_Mul := Tryz.func39
abbrev i_kern_By : FuncId := 40
noncomputable abbrev f_kern_By : Func := Tryz.f40
theorem p_kern_By : PR.funcs[i_kern_By]? = some f_kern_By := Tryz.func40
abbrev i_annealref13_By : FuncId := 41
noncomputable abbrev f_annealref13_By : Func := Tryz.f41
theorem p_annealref13_By : PR.funcs[i_annealref13_By]? = some f_annealref13_By := Tryz.func41
abbrev i_annealref1_Widths : FuncId := 42
noncomputable abbrev f_annealref1_Widths : Func := Tryz.f42
theorem p_annealref1_Widths : PR.funcs[i_annealref1_Widths]? = some f_annealref1_Widths := Tryz.func42
abbrev i_annealref1_Mask : FuncId := 43
noncomputable abbrev f_annealref1_Mask : Func := Tryz.f43
theorem p_annealref1_Mask : PR.funcs[i_annealref1_Mask]? = some f_annealref1_Mask := Tryz.func43
abbrev i_annealref1_Zero : FuncId := 44
noncomputable abbrev f_annealref1_Zero : Func := Tryz.f44
theorem p_annealref1_Zero : PR.funcs[i_annealref1_Zero]? = some f_annealref1_Zero := Tryz.func44
abbrev i_format_Inf : FuncId := 48
noncomputable abbrev f_format_Inf : Func := Tryz.f48
theorem p_format_Inf : PR.funcs[i_format_Inf]? = some f_format_Inf := Tryz.func48
abbrev i_funcs_Mul : FuncId := 50
noncomputable abbrev f_funcs_Mul : Func := Tryz.f50
theorem p_funcs_Mul : PR.funcs[i_funcs_Mul]? = some f_funcs_Mul := Tryz.func50
abbrev i_funcs_Fma : FuncId := 53
noncomputable abbrev f_funcs_Fma : Func := Tryz.f53
theorem p_funcs_Fma : PR.funcs[i_funcs_Fma]? = some f_funcs_Fma := Tryz.func53
abbrev i_annealref10_Mul : FuncId := 59
noncomputable abbrev f_annealref10_Mul : Func := Tryz.f59
theorem p_annealref10_Mul : PR.funcs[i_annealref10_Mul]? = some f_annealref10_Mul := Tryz.func59
abbrev i_annealref10_Fma : FuncId := 62
noncomputable abbrev f_annealref10_Fma : Func := Tryz.f62
theorem p_annealref10_Fma : PR.funcs[i_annealref10_Fma]? = some f_annealref10_Fma := Tryz.func62
abbrev i_format_IsZero : FuncId := 65
noncomputable abbrev f_format_IsZero : Func := Tryz.f65
theorem p_format_IsZero : PR.funcs[i_format_IsZero]? = some f_format_IsZero := Tryz.func65
abbrev i_format_Neg : FuncId := 66
noncomputable abbrev f_format_Neg : Func := Tryz.f66
theorem p_format_Neg : PR.funcs[i_format_Neg]? = some f_format_Neg := Tryz.func66
abbrev i_format_IsInf : FuncId := 67
noncomputable abbrev f_format_IsInf : Func := Tryz.f67
theorem p_format_IsInf : PR.funcs[i_format_IsInf]? = some f_format_IsInf := Tryz.func67
abbrev i_format_Unpack : FuncId := 68
noncomputable abbrev f_format_Unpack : Func := Tryz.f68
theorem p_format_Unpack : PR.funcs[i_format_Unpack]? = some f_format_Unpack := Tryz.func68
abbrev i_bits_Len : FuncId := 69
noncomputable abbrev f_bits_Len : Func := Tryz.f69
theorem p_bits_Len : PR.funcs[i_bits_Len]? = some f_bits_Len := Tryz.func69
abbrev i_funcs_Add : FuncId := 72
noncomputable abbrev f_funcs_Add : Func := Tryz.f72
theorem p_funcs_Add : PR.funcs[i_funcs_Add]? = some f_funcs_Add := Tryz.func72
abbrev i_annealref1_Unpack : FuncId := 73
noncomputable abbrev f_annealref1_Unpack : Func := Tryz.f73
theorem p_annealref1_Unpack : PR.funcs[i_annealref1_Unpack]? = some f_annealref1_Unpack := Tryz.func73
abbrev i_annealref1_Class : FuncId := 74
noncomputable abbrev f_annealref1_Class : Func := Tryz.f74
theorem p_annealref1_Class : PR.funcs[i_annealref1_Class]? = some f_annealref1_Class := Tryz.func74
abbrev i_annealref10_Add : FuncId := 77
noncomputable abbrev f_annealref10_Add : Func := Tryz.f77
theorem p_annealref10_Add : PR.funcs[i_annealref10_Add]? = some f_annealref10_Add := Tryz.func77
abbrev i_kern_Dot : FuncId := 80
noncomputable abbrev f_kern_Dot : Func := Tryz.f80
theorem p_kern_Dot : PR.funcs[i_kern_Dot]? = some f_kern_Dot := Tryz.func80
abbrev i_kern_times : FuncId := 81
noncomputable abbrev f_kern_times : Func := Tryz.f81
theorem p_kern_times : PR.funcs[i_kern_times]? = some f_kern_times := Tryz.func81
abbrev i_annealhelp_Nums : FuncId := 83
noncomputable abbrev f_annealhelp_Nums : Func := Tryz.f83
theorem p_annealhelp_Nums : PR.funcs[i_annealhelp_Nums]? = some f_annealhelp_Nums := Tryz.func83
abbrev i_kern_both : FuncId := 84
noncomputable abbrev f_kern_both : Func := Tryz.f84
theorem p_kern_both : PR.funcs[i_kern_both]? = some f_kern_both := Tryz.func84
abbrev i_tensor_Each : FuncId := 85
noncomputable abbrev f_tensor_Each : Func := Tryz.f85
theorem p_tensor_Each : PR.funcs[i_tensor_Each]? = some f_tensor_Each := Tryz.func85
abbrev i_kern_Biasc1 : FuncId := 86
noncomputable abbrev f_kern_Biasc1 : Func := Tryz.f86
theorem p_kern_Biasc1 : PR.funcs[i_kern_Biasc1]? = some f_kern_Biasc1 := Tryz.func86
abbrev i_annealref13_Right : FuncId := 87
noncomputable abbrev f_annealref13_Right : Func := Tryz.f87
theorem p_annealref13_Right : PR.funcs[i_annealref13_Right]? = some f_annealref13_Right := Tryz.func87
abbrev i_annealref13_wide : FuncId := 88
noncomputable abbrev f_annealref13_wide : Func := Tryz.f88
theorem p_annealref13_wide : PR.funcs[i_annealref13_wide]? = some f_annealref13_wide := Tryz.func88
abbrev i_kern_Wide : FuncId := 89
noncomputable abbrev f_kern_Wide : Func := Tryz.f89
theorem p_kern_Wide : PR.funcs[i_kern_Wide]? = some f_kern_Wide := Tryz.func89
abbrev i_kern_pairs : FuncId := 90
noncomputable abbrev f_kern_pairs : Func := Tryz.f90
theorem p_kern_pairs : PR.funcs[i_kern_pairs]? = some f_kern_pairs := Tryz.func90
abbrev i_kern_Byc1 : FuncId := 91
noncomputable abbrev f_kern_Byc1 : Func := Tryz.f91
theorem p_kern_Byc1 : PR.funcs[i_kern_Byc1]? = some f_kern_Byc1 := Tryz.func91
abbrev i_annealref1_sign : FuncId := 92
noncomputable abbrev f_annealref1_sign : Func := Tryz.f92
theorem p_annealref1_sign : PR.funcs[i_annealref1_sign]? = some f_annealref1_sign := Tryz.func92
abbrev i_format_IsNan : FuncId := 93
noncomputable abbrev f_format_IsNan : Func := Tryz.f93
theorem p_format_IsNan : PR.funcs[i_format_IsNan]? = some f_format_IsNan := Tryz.func93
abbrev i_format_Nan : FuncId := 94
noncomputable abbrev f_format_Nan : Func := Tryz.f94
theorem p_format_Nan : PR.funcs[i_format_Nan]? = some f_format_Nan := Tryz.func94
abbrev i_order_Less : FuncId := 95
noncomputable abbrev f_order_Less : Func := Tryz.f95
theorem p_order_Less : PR.funcs[i_order_Less]? = some f_order_Less := Tryz.func95
abbrev i_format_Join : FuncId := 96
noncomputable abbrev f_format_Join : Func := Tryz.f96
theorem p_format_Join : PR.funcs[i_format_Join]? = some f_format_Join := Tryz.func96
abbrev i_format_Top : FuncId := 97
noncomputable abbrev f_format_Top : Func := Tryz.f97
theorem p_format_Top : PR.funcs[i_format_Top]? = some f_format_Top := Tryz.func97
abbrev i_sum_Of : FuncId := 99
noncomputable abbrev f_sum_Of : Func := Tryz.f99
theorem p_sum_Of : PR.funcs[i_sum_Of]? = some f_sum_Of := Tryz.func99
abbrev i_prod_Mul : FuncId := 101
noncomputable abbrev f_prod_Mul : Func := Tryz.f101
theorem p_prod_Mul : PR.funcs[i_prod_Mul]? = some f_prod_Mul := Tryz.func101
abbrev i_format_Turn : FuncId := 102
noncomputable abbrev f_format_Turn : Func := Tryz.f102
theorem p_format_Turn : PR.funcs[i_format_Turn]? = some f_format_Turn := Tryz.func102
abbrev i_prod_Fma : FuncId := 104
noncomputable abbrev f_prod_Fma : Func := Tryz.f104
theorem p_prod_Fma : PR.funcs[i_prod_Fma]? = some f_prod_Fma := Tryz.func104
abbrev i_annealref1_Less : FuncId := 106
noncomputable abbrev f_annealref1_Less : Func := Tryz.f106
theorem p_annealref1_Less : PR.funcs[i_annealref1_Less]? = some f_annealref1_Less := Tryz.func106
abbrev i_annealref1_Mul : FuncId := 109
noncomputable abbrev f_annealref1_Mul : Func := Tryz.f109
theorem p_annealref1_Mul : PR.funcs[i_annealref1_Mul]? = some f_annealref1_Mul := Tryz.func109
abbrev i_annealref1_Fma : FuncId := 112
noncomputable abbrev f_annealref1_Fma : Func := Tryz.f112
theorem p_annealref1_Fma : PR.funcs[i_annealref1_Fma]? = some f_annealref1_Fma := Tryz.func112
abbrev i_format_Class : FuncId := 114
noncomputable abbrev f_format_Class : Func := Tryz.f114
theorem p_format_Class : PR.funcs[i_format_Class]? = some f_format_Class := Tryz.func114
abbrev i_format_Parts : FuncId := 115
noncomputable abbrev f_format_Parts : Func := Tryz.f115
theorem p_format_Parts : PR.funcs[i_format_Parts]? = some f_format_Parts := Tryz.func115
abbrev i_format_Widths : FuncId := 116
noncomputable abbrev f_format_Widths : Func := Tryz.f116
theorem p_format_Widths : PR.funcs[i_format_Widths]? = some f_format_Widths := Tryz.func116
abbrev i_format_Least : FuncId := 117
noncomputable abbrev f_format_Least : Func := Tryz.f117
theorem p_format_Least : PR.funcs[i_format_Least]? = some f_format_Least := Tryz.func117
abbrev i_math_bits_Len64 : FuncId := 118
noncomputable abbrev f_math_bits_Len64 : Func := Tryz.f118
theorem p_math_bits_Len64 : PR.funcs[i_math_bits_Len64]? = some f_math_bits_Len64 := Tryz.func118
abbrev i_sum_Add : FuncId := 121
noncomputable abbrev f_sum_Add : Func := Tryz.f121
theorem p_sum_Add : PR.funcs[i_sum_Add]? = some f_sum_Add := Tryz.func121
abbrev i_annealref1_parts : FuncId := 122
noncomputable abbrev f_annealref1_parts : Func := Tryz.f122
theorem p_annealref1_parts : PR.funcs[i_annealref1_parts]? = some f_annealref1_parts := Tryz.func122
abbrev i_annealref1_bias : FuncId := 123
noncomputable abbrev f_annealref1_bias : Func := Tryz.f123
theorem p_annealref1_bias : PR.funcs[i_annealref1_bias]? = some f_annealref1_bias := Tryz.func123
abbrev i_annealref1_Add : FuncId := 126
noncomputable abbrev f_annealref1_Add : Func := Tryz.f126
theorem p_annealref1_Add : PR.funcs[i_annealref1_Add]? = some f_annealref1_Add := Tryz.func126
abbrev i_kern_product : FuncId := 127
noncomputable abbrev f_kern_product : Func := Tryz.f127
theorem p_kern_product : PR.funcs[i_kern_product]? = some f_kern_product := Tryz.func127
abbrev i_kern_turned : FuncId := 128
noncomputable abbrev f_kern_turned : Func := Tryz.f128
theorem p_kern_turned : PR.funcs[i_kern_turned]? = some f_kern_turned := Tryz.func128
abbrev i_annealref13_known : FuncId := 129
noncomputable abbrev f_annealref13_known : Func := Tryz.f129
theorem p_annealref13_known : PR.funcs[i_annealref13_known]? = some f_annealref13_known := Tryz.func129
abbrev i_annealref1_Widen : FuncId := 130
noncomputable abbrev f_annealref1_Widen : Func := Tryz.f130
theorem p_annealref1_Widen : PR.funcs[i_annealref1_Widen]? = some f_annealref1_Widen := Tryz.func130
abbrev i_tensor_Right : FuncId := 131
noncomputable abbrev f_tensor_Right : Func := Tryz.f131
theorem p_tensor_Right : PR.funcs[i_tensor_Right]? = some f_tensor_Right := Tryz.func131
abbrev i_kern_Widec1 : FuncId := 132
noncomputable abbrev f_kern_Widec1 : Func := Tryz.f132
theorem p_kern_Widec1 : PR.funcs[i_kern_Widec1]? = some f_kern_Widec1 := Tryz.func132
abbrev i_conv_Widen : FuncId := 133
noncomputable abbrev f_conv_Widen : Func := Tryz.f133
theorem p_conv_Widen : PR.funcs[i_conv_Widen]? = some f_conv_Widen := Tryz.func133
abbrev i_kern_pairsc1 : FuncId := 134
noncomputable abbrev f_kern_pairsc1 : Func := Tryz.f134
theorem p_kern_pairsc1 : PR.funcs[i_kern_pairsc1]? = some f_kern_pairsc1 := Tryz.func134
abbrev i_order_Compare : FuncId := 135
noncomputable abbrev f_order_Compare : Func := Tryz.f135
theorem p_order_Compare : PR.funcs[i_order_Compare]? = some f_order_Compare := Tryz.func135
abbrev i_round_Units : FuncId := 136
noncomputable abbrev f_round_Units : Func := Tryz.f136
theorem p_round_Units : PR.funcs[i_round_Units]? = some f_round_Units := Tryz.func136
abbrev i_round_Up : FuncId := 137
noncomputable abbrev f_round_Up : Func := Tryz.f137
theorem p_round_Up : PR.funcs[i_round_Up]? = some f_round_Up := Tryz.func137
abbrev i_sum_Nans : FuncId := 138
noncomputable abbrev f_sum_Nans : Func := Tryz.f138
theorem p_sum_Nans : PR.funcs[i_sum_Nans]? = some f_sum_Nans := Tryz.func138
abbrev i_prod_torn : FuncId := 139
noncomputable abbrev f_prod_torn : Func := Tryz.f139
theorem p_prod_torn : PR.funcs[i_prod_torn]? = some f_prod_torn := Tryz.func139
abbrev i_sum_Bad : FuncId := 140
noncomputable abbrev f_sum_Bad : Func := Tryz.f140
theorem p_sum_Bad : PR.funcs[i_sum_Bad]? = some f_sum_Bad := Tryz.func140
abbrev i_prod_product : FuncId := 141
noncomputable abbrev f_prod_product : Func := Tryz.f141
theorem p_prod_product : PR.funcs[i_prod_product]? = some f_prod_product := Tryz.func141
abbrev i_round_Pack : FuncId := 142
noncomputable abbrev f_round_Pack : Func := Tryz.f142
theorem p_round_Pack : PR.funcs[i_round_Pack]? = some f_round_Pack := Tryz.func142
abbrev i_format_Mask : FuncId := 143
noncomputable abbrev f_format_Mask : Func := Tryz.f143
theorem p_format_Mask : PR.funcs[i_format_Mask]? = some f_format_Mask := Tryz.func143
abbrev i_sum_Infinite : FuncId := 145
noncomputable abbrev f_sum_Infinite : Func := Tryz.f145
theorem p_sum_Infinite : PR.funcs[i_sum_Infinite]? = some f_sum_Infinite := Tryz.func145
abbrev i_sum_Exact : FuncId := 146
noncomputable abbrev f_sum_Exact : Func := Tryz.f146
theorem p_sum_Exact : PR.funcs[i_sum_Exact]? = some f_sum_Exact := Tryz.func146
abbrev i_sum_Nought : FuncId := 147
noncomputable abbrev f_sum_Nought : Func := Tryz.f147
theorem p_sum_Nought : PR.funcs[i_sum_Nought]? = some f_sum_Nought := Tryz.func147
abbrev i_annealref1_Compare : FuncId := 149
noncomputable abbrev f_annealref1_Compare : Func := Tryz.f149
theorem p_annealref1_Compare : PR.funcs[i_annealref1_Compare]? = some f_annealref1_Compare := Tryz.func149
abbrev i_annealref1_divide : FuncId := 150
noncomputable abbrev f_annealref1_divide : Func := Tryz.f150
theorem p_annealref1_divide : PR.funcs[i_annealref1_divide]? = some f_annealref1_divide := Tryz.func150
abbrev i_annealref1_up : FuncId := 151
noncomputable abbrev f_annealref1_up : Func := Tryz.f151
theorem p_annealref1_up : PR.funcs[i_annealref1_up]? = some f_annealref1_up := Tryz.func151
abbrev i_annealref1_nans : FuncId := 152
noncomputable abbrev f_annealref1_nans : Func := Tryz.f152
theorem p_annealref1_nans : PR.funcs[i_annealref1_nans]? = some f_annealref1_nans := Tryz.func152
abbrev i_annealref1_Nan : FuncId := 153
noncomputable abbrev f_annealref1_Nan : Func := Tryz.f153
theorem p_annealref1_Nan : PR.funcs[i_annealref1_Nan]? = some f_annealref1_Nan := Tryz.func153
abbrev i_annealref1_neg : FuncId := 154
noncomputable abbrev f_annealref1_neg : Func := Tryz.f154
theorem p_annealref1_neg : PR.funcs[i_annealref1_neg]? = some f_annealref1_neg := Tryz.func154
abbrev i_annealref1_zero : FuncId := 155
noncomputable abbrev f_annealref1_zero : Func := Tryz.f155
theorem p_annealref1_zero : PR.funcs[i_annealref1_zero]? = some f_annealref1_zero := Tryz.func155
abbrev i_annealref1_inf : FuncId := 156
noncomputable abbrev f_annealref1_inf : Func := Tryz.f156
theorem p_annealref1_inf : PR.funcs[i_annealref1_inf]? = some f_annealref1_inf := Tryz.func156
abbrev i_annealref1_Inf : FuncId := 157
noncomputable abbrev f_annealref1_Inf : Func := Tryz.f157
theorem p_annealref1_Inf : PR.funcs[i_annealref1_Inf]? = some f_annealref1_Inf := Tryz.func157
abbrev i_annealref1_Pack : FuncId := 158
noncomputable abbrev f_annealref1_Pack : Func := Tryz.f158
theorem p_annealref1_Pack : PR.funcs[i_annealref1_Pack]? = some f_annealref1_Pack := Tryz.func158
abbrev i_annealref1_total : FuncId := 159
noncomputable abbrev f_annealref1_total : Func := Tryz.f159
theorem p_annealref1_total : PR.funcs[i_annealref1_total]? = some f_annealref1_total := Tryz.func159
abbrev i_annealref1_spread : FuncId := 160
noncomputable abbrev f_annealref1_spread : Func := Tryz.f160
theorem p_annealref1_spread : PR.funcs[i_annealref1_spread]? = some f_annealref1_spread := Tryz.func160
abbrev i_format_Zero : FuncId := 161
noncomputable abbrev f_format_Zero : Func := Tryz.f161
theorem p_format_Zero : PR.funcs[i_format_Zero]? = some f_format_Zero := Tryz.func161
abbrev i_bits_Shift : FuncId := 162
noncomputable abbrev f_bits_Shift : Func := Tryz.f162
theorem p_bits_Shift : PR.funcs[i_bits_Shift]? = some f_bits_Shift := Tryz.func162
abbrev i_kern_line : FuncId := 163
noncomputable abbrev f_kern_line : Func := Tryz.f163
theorem p_kern_line : PR.funcs[i_kern_line]? = some f_kern_line := Tryz.func163
abbrev i_tensor_Turn : FuncId := 164
noncomputable abbrev f_tensor_Turn : Func := Tryz.f164
theorem p_tensor_Turn : PR.funcs[i_tensor_Turn]? = some f_tensor_Turn := Tryz.func164
abbrev i_annealref1_To : FuncId := 165
noncomputable abbrev f_annealref1_To : Func := Tryz.f165
theorem p_annealref1_To : PR.funcs[i_annealref1_To]? = some f_annealref1_To := Tryz.func165
abbrev i_tensor_known : FuncId := 166
noncomputable abbrev f_tensor_known : Func := Tryz.f166
theorem p_tensor_known : PR.funcs[i_tensor_known]? = some f_tensor_known := Tryz.func166
abbrev i_slices_ContainsFuncLLJuint32_uint32J : FuncId := 167
noncomputable abbrev f_slices_ContainsFuncLLJuint32_uint32J : Func := Tryz.f167
theorem p_slices_ContainsFuncLLJuint32_uint32J : PR.funcs[i_slices_ContainsFuncLLJuint32_uint32J]? = some f_slices_ContainsFuncLLJuint32_uint32J := Tryz.func167
abbrev i_tensor_Rightc1 : FuncId := 168
noncomputable abbrev f_tensor_Rightc1 : Func := Tryz.f168
theorem p_tensor_Rightc1 : PR.funcs[i_tensor_Rightc1]? = some f_tensor_Rightc1 := Tryz.func168
abbrev i_conv_To : FuncId := 169
noncomputable abbrev f_conv_To : Func := Tryz.f169
theorem p_conv_To : PR.funcs[i_conv_To]? = some f_conv_To := Tryz.func169
abbrev i_order_Key : FuncId := 170
noncomputable abbrev f_order_Key : Func := Tryz.f170
theorem p_order_Key : PR.funcs[i_order_Key]? = some f_order_Key := Tryz.func170
abbrev i_round_Unit : FuncId := 171
noncomputable abbrev f_round_Unit : Func := Tryz.f171
theorem p_round_Unit : PR.funcs[i_round_Unit]? = some f_round_Unit := Tryz.func171
abbrev i_round_beyond : FuncId := 172
noncomputable abbrev f_round_beyond : Func := Tryz.f172
theorem p_round_beyond : PR.funcs[i_round_beyond]? = some f_round_beyond := Tryz.func172
abbrev i_bits_Cut : FuncId := 173
noncomputable abbrev f_bits_Cut : Func := Tryz.f173
theorem p_bits_Cut : PR.funcs[i_bits_Cut]? = some f_bits_Cut := Tryz.func173
abbrev i_sum_full : FuncId := 174
noncomputable abbrev f_sum_full : Func := Tryz.f174
theorem p_sum_full : PR.funcs[i_sum_full]? = some f_sum_full := Tryz.func174
abbrev i_annealref1_Key : FuncId := 175
noncomputable abbrev f_annealref1_Key : Func := Tryz.f175
theorem p_annealref1_Key : PR.funcs[i_annealref1_Key]? = some f_annealref1_Key := Tryz.func175
abbrev i_annealref1_Shift : FuncId := 176
noncomputable abbrev f_annealref1_Shift : Func := Tryz.f176
theorem p_annealref1_Shift : PR.funcs[i_annealref1_Shift]? = some f_annealref1_Shift := Tryz.func176
abbrev i_annealref1_Len : FuncId := 177
noncomputable abbrev f_annealref1_Len : Func := Tryz.f177
theorem p_annealref1_Len : PR.funcs[i_annealref1_Len]? = some f_annealref1_Len := Tryz.func177
abbrev i_annealref1_over : FuncId := 178
noncomputable abbrev f_annealref1_over : Func := Tryz.f178
theorem p_annealref1_over : PR.funcs[i_annealref1_over]? = some f_annealref1_over := Tryz.func178
abbrev i_annealref1_plus : FuncId := 179
noncomputable abbrev f_annealref1_plus : Func := Tryz.f179
theorem p_annealref1_plus : PR.funcs[i_annealref1_plus]? = some f_annealref1_plus := Tryz.func179
abbrev i_annealref1_nought : FuncId := 180
noncomputable abbrev f_annealref1_nought : Func := Tryz.f180
theorem p_annealref1_nought : PR.funcs[i_annealref1_nought]? = some f_annealref1_nought := Tryz.func180
abbrev i_annealref1_rounded : FuncId := 181
noncomputable abbrev f_annealref1_rounded : Func := Tryz.f181
theorem p_annealref1_rounded : PR.funcs[i_annealref1_rounded]? = some f_annealref1_rounded := Tryz.func181
abbrev i_slices_IndexFuncLLJuint32_uint32J : FuncId := 182
noncomputable abbrev f_slices_IndexFuncLLJuint32_uint32J : Func := Tryz.f182
theorem p_slices_IndexFuncLLJuint32_uint32J : PR.funcs[i_slices_IndexFuncLLJuint32_uint32J]? = some f_slices_IndexFuncLLJuint32_uint32J := Tryz.func182
abbrev i_format_Greatest : FuncId := 183
noncomputable abbrev f_format_Greatest : Func := Tryz.f183
theorem p_format_Greatest : PR.funcs[i_format_Greatest]? = some f_format_Greatest := Tryz.func183
abbrev i_annealref1_Greatest : FuncId := 184
noncomputable abbrev f_annealref1_Greatest : Func := Tryz.f184
theorem p_annealref1_Greatest : PR.funcs[i_annealref1_Greatest]? = some f_annealref1_Greatest := Tryz.func184
abbrev i_annealref1_minus : FuncId := 185
noncomputable abbrev f_annealref1_minus : Func := Tryz.f185
theorem p_annealref1_minus : PR.funcs[i_annealref1_minus]? = some f_annealref1_minus := Tryz.func185
abbrev i_annealref1_below : FuncId := 186
noncomputable abbrev f_annealref1_below : Func := Tryz.f186
theorem p_annealref1_below : PR.funcs[i_annealref1_below]? = some f_annealref1_below := Tryz.func186
end Go.Proofs.YtkknnloamidaiaaGreat.VI

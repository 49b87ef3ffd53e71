import Derived.Test.YtkknnloamidaiaaT788b9690
import Derived.Test.YtkknnloamidaiaaProg
namespace Go.Proofs.Ytkknnloamidaiaa.VI
set_option linter.unusedVariables false
set_option linter.unusedSimpArgs false
noncomputable abbrev PR : Program := Try.prog
theorem mixed : PR.follows .mixedOrders = true := by kernel_rfl
def L0 : Lps := fun _ _ => .no
abbrev y___ : TypeId := 0
abbrev y_func__ : TypeId := 1
abbrev y_int64 : TypeId := 2
abbrev y_int : TypeId := 3
abbrev y_bool : TypeId := 4
abbrev y_uint8 : TypeId := 5
abbrev y_abi_BoundsErrorCode : TypeId := 6
abbrev y_struct_x_x_int64x_y_intx_signed_boolx_code_abi_BoundsErrorCode_x : TypeId := 7
abbrev y_runtime_boundsError : TypeId := 8
abbrev y_string : TypeId := 9
abbrev y_runtime_errorString : TypeId := 10
abbrev y_runtime_plainError : TypeId := 11
abbrev y_uintptr : TypeId := 12
abbrev y_struct_x_msg_stringx_addr_uintptr_x : TypeId := 13
abbrev y_runtime_errorAddressString : TypeId := 14
abbrev y_Pruntime_TypeAssertionError : TypeId := 15
abbrev y_Pruntime_PanicNilError : TypeId := 16
abbrev y_Pabi_Type : TypeId := 17
abbrev y_struct_x_typ_Pabi_Type_x : TypeId := 18
abbrev y_maps_unhashableTypeError : TypeId := 19
abbrev y_interface_ : TypeId := 20
abbrev y_int32 : TypeId := 21
abbrev y_uint32 : TypeId := 22
abbrev y_func___bool : TypeId := 23
abbrev y_func_uint32__uint32 : TypeId := 24
abbrev y_func_int__uint32__int : TypeId := 25
abbrev y_func_uint32__bool : TypeId := 26
abbrev y_func_int__uint32__uint32 : TypeId := 27
abbrev y_func_int__uint32__int64 : TypeId := 28
abbrev y_func_int__uint32__bool : TypeId := 29
abbrev y_func_int__uint32__uint32__bool : TypeId := 30
abbrev y_func_uint32__uint32__uint32 : TypeId := 31
abbrev y_func_int64__uint32 : TypeId := 32
abbrev y_func_uint8__bool : TypeId := 33
abbrev y_LJfunc_uint32__uint32 : TypeId := 34
abbrev y_func_uint32__bool__bool : TypeId := 35
abbrev y_LJuint32 : TypeId := 36
abbrev y_api_Errno : TypeId := 37
abbrev y__uint32__api_Errno_ : TypeId := 38
abbrev y_func_LJuint32__LJuint32___uint32__api_Errno_ : TypeId := 39
abbrev y__uint32__int_ : TypeId := 40
abbrev y_func_LJuint32__LJuint32___uint32__int_ : TypeId := 41
abbrev y_func_LJuint32__LJuint32__bool__bool : TypeId := 42
abbrev y_struct_x_Rows_intx_Cols_intx_F_intx_V_LJuint32_x : TypeId := 43
abbrev y_api_Tensor : TypeId := 44
abbrev y_func_int__int__int__LJuint32__bool__api_Tensor : TypeId := 45
abbrev y__api_Tensor__api_Errno_ : TypeId := 46
abbrev y_func_api_Tensor__api_Tensor___api_Tensor__api_Errno_ : TypeId := 47
abbrev y_func_api_Tensor__api_Tensor__bool : TypeId := 48
abbrev y_func_uint8__uint8__LJuint32__bool : TypeId := 49
abbrev y__api_Tensor__int_ : TypeId := 50
abbrev y_func_api_Tensor___api_Tensor__int_ : TypeId := 51
abbrev y_func_uint8__uint8__uint8__uint8__uint8__LJuint32__LJuint32__bool : TypeId := 52
abbrev y_func_int__int__api_Tensor__int__int__bool : TypeId := 53
abbrev y_func_bool__int : TypeId := 54
abbrev y_func_uint8__uint8__uint8__uint8__bool : TypeId := 55
abbrev y_uint : TypeId := 56
abbrev y_func_uint32__uint32__bool : TypeId := 57
abbrev y_func___uint32 : TypeId := 58
abbrev y_func_int__bool__uint32 : TypeId := 59
abbrev y_struct_x_Invalid_boolx_DivZero_boolx_Over_boolx_Under_boolx_Inexact_bool_x : TypeId := 60
abbrev y_api_Exc : TypeId := 61
abbrev y__int32__api_Exc_ : TypeId := 62
abbrev y_func_int__int__uint32___int32__api_Exc_ : TypeId := 63
abbrev y_func_int__uint32 : TypeId := 64
abbrev y_func_uint32__uint32__uint32__uint32 : TypeId := 65
abbrev y_func_uint32__uint32_____uint32__uint32 : TypeId := 66
abbrev y_func_uint32__int__uint32 : TypeId := 67
abbrev y__int__int_ : TypeId := 68
abbrev y_func_int___int__int_ : TypeId := 69
abbrev y_uint64 : TypeId := 70
abbrev y__bool__int__uint64_ : TypeId := 71
abbrev y_func_int__uint32___bool__int__uint64_ : TypeId := 72
abbrev y_func_uint64__int : TypeId := 73
abbrev y__int__bool_ : TypeId := 74
abbrev y_func_int__uint32__uint32___int__bool_ : TypeId := 75
abbrev y__uint32__api_Exc_ : TypeId := 76
abbrev y_func_int__int__uint32__uint32___uint32__api_Exc_ : TypeId := 77
abbrev y_func_int__int__int64___uint32__api_Exc_ : TypeId := 78
abbrev y__bool__bool_ : TypeId := 79
abbrev y_func_int_____uint32___bool__bool_ : TypeId := 80
abbrev y_func_api_Tensor__api_Tensor__bool__bool___api_Tensor__api_Errno_ : TypeId := 81
abbrev y_func_LJuint32__LJuint32__bool : TypeId := 82
abbrev y_func_api_Tensor__bool : TypeId := 83
abbrev y_func_api_Tensor__int__int__uint32 : TypeId := 84
abbrev y__api_Tensor__api_Tensor__bool_ : TypeId := 85
abbrev y_func_api_Tensor__api_Tensor___api_Tensor__api_Tensor__bool_ : TypeId := 86
abbrev y_func_api_Tensor__int__func_int__uint32__uint32__api_Tensor : TypeId := 87
abbrev y_func_api_Tensor__api_Tensor__func_uint32__uint32__uint32___api_Tensor__api_Errno_ : TypeId := 88
abbrev y_func_int__api_Tensor___api_Tensor__api_Errno_ : TypeId := 89
abbrev y__bool__int__uint32_ : TypeId := 90
abbrev y_func_int__uint32___bool__int__uint32_ : TypeId := 91
abbrev y_func_int__bool__int__uint32__uint32 : TypeId := 92
abbrev y_func_int__int : TypeId := 93
abbrev y_struct_x_Neg_boolx_Exp_intx_Sig_uint64x_More_bool_x : TypeId := 94
abbrev y_sum_Number : TypeId := 95
abbrev y_func_int__uint32__sum_Number : TypeId := 96
abbrev y__uint64__bool_ : TypeId := 97
abbrev y_func_sum_Number__int___uint64__bool_ : TypeId := 98
abbrev y_func_int__int__uint32__uint32__uint32___uint32__api_Exc_ : TypeId := 99
abbrev y_func_int__int__uint32__int___uint32__api_Exc_ : TypeId := 100
abbrev y_func_int__int__bool__int__uint64__bool___uint32__api_Exc_ : TypeId := 101
abbrev y_func_api_Tensor__bool__api_Tensor : TypeId := 102
abbrev y_func_int__bool : TypeId := 103
abbrev y_func_api_Tensor___api_Tensor__api_Errno_ : TypeId := 104
abbrev y__uint32__api_Exc__bool_ : TypeId := 105
abbrev y_func_int_____uint32___uint32__api_Exc__bool_ : TypeId := 106
abbrev y_func_int___uint32__api_Exc_ : TypeId := 107
abbrev y_func_uint64__int___uint64__bool_ : TypeId := 108
abbrev y_func_int__bool__bool__bool__bool___uint32__api_Exc_ : TypeId := 109
abbrev y_func_sum_Number__sum_Number__sum_Number : TypeId := 110
abbrev y_func_int__int__bool__bool__uint32 : TypeId := 111
abbrev y__uint64__int_ : TypeId := 112
abbrev y_func_uint64__int__bool___uint64__int_ : TypeId := 113
abbrev y_func_int__bool__uint64__int__bool : TypeId := 114
abbrev y_func_int__uint32__uint32__sum_Number : TypeId := 115
abbrev y_func_int64__uint64 : TypeId := 116
abbrev y_func_int__uint32___uint32__api_Exc__bool_ : TypeId := 117
abbrev y__uint64__bool__bool_ : TypeId := 118
abbrev y_func_uint64__int___uint64__bool__bool_ : TypeId := 119
abbrev y_func_int__bool__bool__bool__bool__bool : TypeId := 120
abbrev y_func_int__int__bool__uint32 : TypeId := 121
abbrev y_func_int__int__annealref1_wide__annealref1_wide___uint32__api_Exc_ : TypeId := 122
abbrev y_L10Juint64 : TypeId := 123
abbrev y_struct_x_neg_boolx_w_L10Juint64_x : TypeId := 124
abbrev y_annealref1_wide : TypeId := 125
abbrev y_func_bool__int__uint64__annealref1_wide : TypeId := 126
abbrev y_func_api_Tensor__int__LJuint32 : TypeId := 127
abbrev y_func_LJuint32__func_uint32__bool__bool : TypeId := 128
abbrev y_func_int__int__int__uint32___uint32__api_Exc_ : TypeId := 129
abbrev y_func_int__int__uint64__int : TypeId := 130
abbrev y_func_int__int__bool___uint32__api_Exc_ : TypeId := 131
abbrev y_func_uint64__int__uint64 : TypeId := 132
abbrev y_func_sum_Number__sum_Number : TypeId := 133
abbrev y_func_annealref1_wide__annealref1_wide__annealref1_wide : TypeId := 134
abbrev y_func_annealref1_wide__bool : TypeId := 135
abbrev y_func_int__int__annealref1_wide___uint32__api_Exc_ : TypeId := 136
abbrev y_func_LJuint32__func_uint32__bool__int : TypeId := 137
abbrev y_func_annealref1_wide__annealref1_wide__bool : TypeId := 138
abbrev y_func___string : TypeId := 139
abbrev y_struct_x__interface_Pabi_Typex_concrete_Pabi_Typex_asserted_Pabi_Typex_missingMethod_string_x : TypeId := 140
abbrev y_runtime_TypeAssertionError : TypeId := 141
abbrev y_L0JPruntime_PanicNilError : TypeId := 142
abbrev y_struct_x___L0JPruntime_PanicNilError_x : TypeId := 143
abbrev y_runtime_PanicNilError : TypeId := 144
abbrev y_func___int : TypeId := 145
abbrev y_abi_TFlag : TypeId := 146
abbrev y_abi_Kind : TypeId := 147
abbrev y_func_unsafe_Pointer__unsafe_Pointer__bool : TypeId := 148
abbrev y_Puint8 : TypeId := 149
abbrev y_abi_NameOff : TypeId := 150
abbrev y_abi_TypeOff : TypeId := 151
abbrev y_struct_x_Size__uintptrx_PtrBytes_uintptrx_Hash_uint32x_TFlag_abi_TFlagx_Align__uint8x_FieldAlign__uint8x_Kind__abi_Kindx_Equal_func_unsafe_Pointer__unsafe_Pointer__boolx_GCData_Puint8x_Str_abi_NameOffx_PtrToThis_abi_TypeOff_x : TypeId := 152
abbrev y_abi_Type : TypeId := 153
abbrev y_unsafe_Pointer : TypeId := 154
abbrev i_anneallaw12_FuncsSigns : FuncId := 3
noncomputable abbrev f_anneallaw12_FuncsSigns : Func := Try.f3
theorem p_anneallaw12_FuncsSigns : PR.funcs[i_anneallaw12_FuncsSigns]? = some f_anneallaw12_FuncsSigns := Try.func3
abbrev i_anneallaw12_FuncsPairs : FuncId := 4
noncomputable abbrev f_anneallaw12_FuncsPairs : Func := Try.f4
theorem p_anneallaw12_FuncsPairs : PR.funcs[i_anneallaw12_FuncsPairs]? = some f_anneallaw12_FuncsPairs := Try.func4
abbrev i_anneallaw12_FuncsCos : FuncId := 5
noncomputable abbrev f_anneallaw12_FuncsCos : Func := Try.f5
theorem p_anneallaw12_FuncsCos : PR.funcs[i_anneallaw12_FuncsCos]? = some f_anneallaw12_FuncsCos := Try.func5
abbrev i_anneallaw12_FuncsEdges : FuncId := 6
noncomputable abbrev f_anneallaw12_FuncsEdges : Func := Try.f6
theorem p_anneallaw12_FuncsEdges : PR.funcs[i_anneallaw12_FuncsEdges]? = some f_anneallaw12_FuncsEdges := Try.func6
abbrev i_anneallaw14_KernDots : FuncId := 7
noncomputable abbrev f_anneallaw14_KernDots : Func := Try.f7
theorem p_anneallaw14_KernDots : PR.funcs[i_anneallaw14_KernDots]? = some f_anneallaw14_KernDots := Try.func7
abbrev i_anneallaw14_KernUnits : FuncId := 8
noncomputable abbrev f_anneallaw14_KernUnits : Func := Try.f8
theorem p_anneallaw14_KernUnits : PR.funcs[i_anneallaw14_KernUnits]? = some f_anneallaw14_KernUnits := Try.func8
abbrev i_anneallaw14_KernTurned : FuncId := 9
noncomputable abbrev f_anneallaw14_KernTurned : Func := Try.f9
theorem p_anneallaw14_KernTurned : PR.funcs[i_anneallaw14_KernTurned]? = some f_anneallaw14_KernTurned := Try.func9
abbrev i_anneallaw14_KernShapes : FuncId := 10
noncomputable abbrev f_anneallaw14_KernShapes : Func := Try.f10
theorem p_anneallaw14_KernShapes : PR.funcs[i_anneallaw14_KernShapes]? = some f_anneallaw14_KernShapes := Try.func10
abbrev i_anneallaw15_ActRelus : FuncId := 11
noncomputable abbrev f_anneallaw15_ActRelus : Func := Try.f11
theorem p_anneallaw15_ActRelus : PR.funcs[i_anneallaw15_ActRelus]? = some f_anneallaw15_ActRelus := Try.func11
abbrev i_anneallaw12_known : FuncId := 12
noncomputable abbrev f_anneallaw12_known : Func := Try.f12
theorem p_anneallaw12_known : PR.funcs[i_anneallaw12_known]? = some f_anneallaw12_known := Try.func12
abbrev i_funcs_Tanh : FuncId := 13
noncomputable abbrev f_funcs_Tanh : Func := Try.f13
theorem p_funcs_Tanh : PR.funcs[i_funcs_Tanh]? = some f_funcs_Tanh := Try.func13
abbrev i_funcs_Exp : FuncId := 14
noncomputable abbrev f_funcs_Exp : Func := Try.f14
theorem p_funcs_Exp : PR.funcs[i_funcs_Exp]? = some f_funcs_Exp := Try.func14
abbrev i_funcs_Sigmoid : FuncId := 15
noncomputable abbrev f_funcs_Sigmoid : Func := Try.f15
theorem p_funcs_Sigmoid : PR.funcs[i_funcs_Sigmoid]? = some f_funcs_Sigmoid := Try.func15
abbrev i_annealref1_Class : FuncId := 16
noncomputable abbrev f_annealref1_Class : Func := Try.f16
theorem p_annealref1_Class : PR.funcs[i_annealref1_Class]? = some f_annealref1_Class := Try.func16
abbrev i_annealseat_Mild : FuncId := 17
noncomputable abbrev f_annealseat_Mild : Func := Try.f17
theorem p_annealseat_Mild : PR.funcs[i_annealseat_Mild]? = some f_annealseat_Mild := Try.func17
abbrev i_funcs_Log : FuncId := 18
noncomputable abbrev f_funcs_Log : Func := Try.f18
theorem p_funcs_Log : PR.funcs[i_funcs_Log]? = some f_funcs_Log := Try.func18
abbrev i_annealref1_Key : FuncId := 19
noncomputable abbrev f_annealref1_Key : Func := Try.f19
theorem p_annealref1_Key : PR.funcs[i_annealref1_Key]? = some f_annealref1_Key := Try.func19
abbrev i_annealref1_Finite : FuncId := 20
noncomputable abbrev f_annealref1_Finite : Func := Try.f20
theorem p_annealref1_Finite : PR.funcs[i_annealref1_Finite]? = some f_annealref1_Finite := Try.func20
abbrev i_annealref1_Less : FuncId := 21
noncomputable abbrev f_annealref1_Less : Func := Try.f21
theorem p_annealref1_Less : PR.funcs[i_annealref1_Less]? = some f_annealref1_Less := Try.func21
abbrev i_annealref10_Div : FuncId := 22
noncomputable abbrev f_annealref10_Div : Func := Try.f22
theorem p_annealref10_Div : PR.funcs[i_annealref10_Div]? = some f_annealref10_Div := Try.func22
abbrev i_annealref10_Int : FuncId := 23
noncomputable abbrev f_annealref10_Int : Func := Try.f23
theorem p_annealref10_Int : PR.funcs[i_annealref10_Int]? = some f_annealref10_Int := Try.func23
abbrev i_funcs_Cospi : FuncId := 24
noncomputable abbrev f_funcs_Cospi : Func := Try.f24
theorem p_funcs_Cospi : PR.funcs[i_funcs_Cospi]? = some f_funcs_Cospi := Try.func24
abbrev i_annealref1_Minus : FuncId := 25
noncomputable abbrev f_annealref1_Minus : Func := Try.f25
theorem p_annealref1_Minus : PR.funcs[i_annealref1_Minus]? = some f_annealref1_Minus := Try.func25
abbrev i_funcs_Gelu : FuncId := 26
noncomputable abbrev f_funcs_Gelu : Func := Try.f26
theorem p_funcs_Gelu : PR.funcs[i_funcs_Gelu]? = some f_funcs_Gelu := Try.func26
abbrev i_funcs_Slope : FuncId := 27
noncomputable abbrev f_funcs_Slope : Func := Try.f27
theorem p_funcs_Slope : PR.funcs[i_funcs_Slope]? = some f_funcs_Slope := Try.func27
abbrev i_anneallaw14_known : FuncId := 28
noncomputable abbrev f_anneallaw14_known : Func := Try.f28
theorem p_anneallaw14_known : PR.funcs[i_anneallaw14_known]? = some f_anneallaw14_known := Try.func28
abbrev i_kern_Dot : FuncId := 29
noncomputable abbrev f_kern_Dot : Func := Try.f29
theorem p_kern_Dot : PR.funcs[i_kern_Dot]? = some f_kern_Dot := Try.func29
abbrev i_annealref13_Dot : FuncId := 30
noncomputable abbrev f_annealref13_Dot : Func := Try.f30
theorem p_annealref13_Dot : PR.funcs[i_annealref13_Dot]? = some f_annealref13_Dot := Try.func30
abbrev i_annealseat_Tensor : FuncId := 31
noncomputable abbrev f_annealseat_Tensor : Func := Try.f31
theorem p_annealseat_Tensor : PR.funcs[i_annealseat_Tensor]? = some f_annealseat_Tensor := Try.func31
abbrev i_kern_Plain : FuncId := 32
noncomputable abbrev f_kern_Plain : Func := Try.f32
theorem p_kern_Plain : PR.funcs[i_kern_Plain]? = some f_kern_Plain := Try.func32
abbrev i_kern_Rows : FuncId := 33
noncomputable abbrev f_kern_Rows : Func := Try.f33
theorem p_kern_Rows : PR.funcs[i_kern_Rows]? = some f_kern_Rows := Try.func33
abbrev i_annealhelp_Tensor : FuncId := 34
noncomputable abbrev f_annealhelp_Tensor : Func := Try.f34
theorem p_annealhelp_Tensor : PR.funcs[i_annealhelp_Tensor]? = some f_annealhelp_Tensor := Try.func34
abbrev i_annealref13_Turn : FuncId := 35
noncomputable abbrev f_annealref13_Turn : Func := Try.f35
theorem p_annealref13_Turn : PR.funcs[i_annealref13_Turn]? = some f_annealref13_Turn := Try.func35
abbrev i_kern_Cols : FuncId := 36
noncomputable abbrev f_kern_Cols : Func := Try.f36
theorem p_kern_Cols : PR.funcs[i_kern_Cols]? = some f_kern_Cols := Try.func36
abbrev i_kern_Bias : FuncId := 37
noncomputable abbrev f_kern_Bias : Func := Try.f37
theorem p_kern_Bias : PR.funcs[i_kern_Bias]? = some f_kern_Bias := Try.func37
abbrev i_kern_Add : FuncId := 38
noncomputable abbrev f_kern_Add : Func := Try.f38
theorem p_kern_Add : PR.funcs[i_kern_Add]? = some f_kern_Add := Try.func38
abbrev i_anneallaw14_KernShapesc1 : FuncId := 39
noncomputable abbrev f_anneallaw14_KernShapesc1 : Func := Try.f39
theorem p_anneallaw14_KernShapesc1 : PR.funcs[i_anneallaw14_KernShapesc1]? = some f_anneallaw14_KernShapesc1 := Try.func39
abbrev i_anneallaw14_KernShapesc2 : FuncId := 40
noncomputable abbrev f_anneallaw14_KernShapesc2 : Func := Try.f40
theorem p_anneallaw14_KernShapesc2 : PR.funcs[i_anneallaw14_KernShapesc2]? = some f_anneallaw14_KernShapesc2 := Try.func40
abbrev i_anneallaw15_known : FuncId := 41
noncomputable abbrev f_anneallaw15_known : Func := Try.f41
theorem p_anneallaw15_known : PR.funcs[i_anneallaw15_known]? = some f_anneallaw15_known := Try.func41
abbrev i_act_Value : FuncId := 42
noncomputable abbrev f_act_Value : Func := Try.f42
theorem p_act_Value : PR.funcs[i_act_Value]? = some f_act_Value := Try.func42
abbrev i_act_Slope : FuncId := 43
noncomputable abbrev f_act_Slope : Func := Try.f43
theorem p_act_Slope : PR.funcs[i_act_Slope]? = some f_act_Slope := Try.func43
abbrev i_annealref10_Above : FuncId := 44
noncomputable abbrev f_annealref10_Above : Func := Try.f44
theorem p_annealref10_Above : PR.funcs[i_annealref10_Above]? = some f_annealref10_Above := Try.func44
abbrev i_funcs_IsNan : FuncId := 45
noncomputable abbrev f_funcs_IsNan : Func := Try.f45
theorem p_funcs_IsNan : PR.funcs[i_funcs_IsNan]? = some f_funcs_IsNan := Try.func45
abbrev i_funcs_plain : FuncId := 46
noncomputable abbrev f_funcs_plain : Func := Try.f46
theorem p_funcs_plain : PR.funcs[i_funcs_plain]? = some f_funcs_plain := Try.func46
abbrev i_format_IsZero : FuncId := 47
noncomputable abbrev f_format_IsZero : Func := Try.f47
theorem p_format_IsZero : PR.funcs[i_format_IsZero]? = some f_format_IsZero := Try.func47
abbrev i_format_Neg : FuncId := 48
noncomputable abbrev f_format_Neg : Func := Try.f48
theorem p_format_Neg : PR.funcs[i_format_Neg]? = some f_format_Neg := Try.func48
abbrev i_funcs_Minus : FuncId := 49
noncomputable abbrev f_funcs_Minus : Func := Try.f49
theorem p_funcs_Minus : PR.funcs[i_funcs_Minus]? = some f_funcs_Minus := Try.func49
abbrev i_funcs_Above : FuncId := 50
noncomputable abbrev f_funcs_Above : Func := Try.f50
theorem p_funcs_Above : PR.funcs[i_funcs_Above]? = some f_funcs_Above := Try.func50
abbrev i_funcs_Sub : FuncId := 51
noncomputable abbrev f_funcs_Sub : Func := Try.f51
theorem p_funcs_Sub : PR.funcs[i_funcs_Sub]? = some f_funcs_Sub := Try.func51
abbrev i_funcs_Div : FuncId := 52
noncomputable abbrev f_funcs_Div : Func := Try.f52
theorem p_funcs_Div : PR.funcs[i_funcs_Div]? = some f_funcs_Div := Try.func52
abbrev i_funcs_Add : FuncId := 53
noncomputable abbrev f_funcs_Add : Func := Try.f53
theorem p_funcs_Add : PR.funcs[i_funcs_Add]? = some f_funcs_Add := Try.func53
abbrev i_format_Inf : FuncId := 54
noncomputable abbrev f_format_Inf : Func := Try.f54
theorem p_format_Inf : PR.funcs[i_format_Inf]? = some f_format_Inf := Try.func54
abbrev i_whole_ToInt : FuncId := 55
noncomputable abbrev f_whole_ToInt : Func := Try.f55
theorem p_whole_ToInt : PR.funcs[i_whole_ToInt]? = some f_whole_ToInt := Try.func55
abbrev i_funcs_Mul : FuncId := 56
noncomputable abbrev f_funcs_Mul : Func := Try.f56
theorem p_funcs_Mul : PR.funcs[i_funcs_Mul]? = some f_funcs_Mul := Try.func56
abbrev i_funcs_Int : FuncId := 57
noncomputable abbrev f_funcs_Int : Func := Try.f57
theorem p_funcs_Int : PR.funcs[i_funcs_Int]? = some f_funcs_Int := Try.func57
abbrev i_funcs_Fma : FuncId := 58
noncomputable abbrev f_funcs_Fma : Func := Try.f58
theorem p_funcs_Fma : PR.funcs[i_funcs_Fma]? = some f_funcs_Fma := Try.func58
abbrev i_funcs_poly : FuncId := 59
noncomputable abbrev f_funcs_poly : Func := Try.f59
theorem p_funcs_poly : PR.funcs[i_funcs_poly]? = some f_funcs_poly := Try.func59
abbrev i_funcs_Scale : FuncId := 60
noncomputable abbrev f_funcs_Scale : Func := Try.f60
theorem p_funcs_Scale : PR.funcs[i_funcs_Scale]? = some f_funcs_Scale := Try.func60
abbrev i_annealref1_Widths : FuncId := 61
noncomputable abbrev f_annealref1_Widths : Func := Try.f61
theorem p_annealref1_Widths : PR.funcs[i_annealref1_Widths]? = some f_annealref1_Widths := Try.func61
abbrev i_annealref1_parts : FuncId := 62
noncomputable abbrev f_annealref1_parts : Func := Try.f62
theorem p_annealref1_parts : PR.funcs[i_annealref1_parts]? = some f_annealref1_parts := Try.func62
abbrev i_annealref1_Zero : FuncId := 63
noncomputable abbrev f_annealref1_Zero : Func := Try.f63
theorem p_annealref1_Zero : PR.funcs[i_annealref1_Zero]? = some f_annealref1_Zero := Try.func63
abbrev i_format_IsInf : FuncId := 64
noncomputable abbrev f_format_IsInf : Func := Try.f64
theorem p_format_IsInf : PR.funcs[i_format_IsInf]? = some f_format_IsInf := Try.func64
abbrev i_format_Unpack : FuncId := 65
noncomputable abbrev f_format_Unpack : Func := Try.f65
theorem p_format_Unpack : PR.funcs[i_format_Unpack]? = some f_format_Unpack := Try.func65
abbrev i_bits_Len : FuncId := 66
noncomputable abbrev f_bits_Len : Func := Try.f66
theorem p_bits_Len : PR.funcs[i_bits_Len]? = some f_bits_Len := Try.func66
abbrev i_annealref1_Mask : FuncId := 67
noncomputable abbrev f_annealref1_Mask : Func := Try.f67
theorem p_annealref1_Mask : PR.funcs[i_annealref1_Mask]? = some f_annealref1_Mask := Try.func67
abbrev i_annealref1_sign : FuncId := 68
noncomputable abbrev f_annealref1_sign : Func := Try.f68
theorem p_annealref1_sign : PR.funcs[i_annealref1_sign]? = some f_annealref1_sign := Try.func68
abbrev i_annealref1_neg : FuncId := 69
noncomputable abbrev f_annealref1_neg : Func := Try.f69
theorem p_annealref1_neg : PR.funcs[i_annealref1_neg]? = some f_annealref1_neg := Try.func69
abbrev i_annealref1_Compare : FuncId := 70
noncomputable abbrev f_annealref1_Compare : Func := Try.f70
theorem p_annealref1_Compare : PR.funcs[i_annealref1_Compare]? = some f_annealref1_Compare := Try.func70
abbrev i_annealref1_Div : FuncId := 71
noncomputable abbrev f_annealref1_Div : Func := Try.f71
theorem p_annealref1_Div : PR.funcs[i_annealref1_Div]? = some f_annealref1_Div := Try.func71
abbrev i_annealref1_FromInt : FuncId := 72
noncomputable abbrev f_annealref1_FromInt : Func := Try.f72
theorem p_annealref1_FromInt : PR.funcs[i_annealref1_FromInt]? = some f_annealref1_FromInt := Try.func72
abbrev i_annealref1_nans : FuncId := 73
noncomputable abbrev f_annealref1_nans : Func := Try.f73
theorem p_annealref1_nans : PR.funcs[i_annealref1_nans]? = some f_annealref1_nans := Try.func73
abbrev i_funcs_inner : FuncId := 74
noncomputable abbrev f_funcs_inner : Func := Try.f74
theorem p_funcs_inner : PR.funcs[i_funcs_inner]? = some f_funcs_inner := Try.func74
abbrev i_annealref10_Fma : FuncId := 75
noncomputable abbrev f_annealref10_Fma : Func := Try.f75
theorem p_annealref10_Fma : PR.funcs[i_annealref10_Fma]? = some f_annealref10_Fma := Try.func75
abbrev i_annealseat_Num : FuncId := 76
noncomputable abbrev f_annealseat_Num : Func := Try.f76
theorem p_annealseat_Num : PR.funcs[i_annealseat_Num]? = some f_annealseat_Num := Try.func76
abbrev i_kern_times : FuncId := 77
noncomputable abbrev f_kern_times : Func := Try.f77
theorem p_kern_times : PR.funcs[i_kern_times]? = some f_kern_times := Try.func77
abbrev i_annealhelp_Nums : FuncId := 78
noncomputable abbrev f_annealhelp_Nums : Func := Try.f78
theorem p_annealhelp_Nums : PR.funcs[i_annealhelp_Nums]? = some f_annealhelp_Nums := Try.func78
abbrev i_annealref13_Right : FuncId := 79
noncomputable abbrev f_annealref13_Right : Func := Try.f79
theorem p_annealref13_Right : PR.funcs[i_annealref13_Right]? = some f_annealref13_Right := Try.func79
abbrev i_annealref13_at : FuncId := 80
noncomputable abbrev f_annealref13_at : Func := Try.f80
theorem p_annealref13_at : PR.funcs[i_annealref13_at]? = some f_annealref13_at := Try.func80
abbrev i_kern_both : FuncId := 81
noncomputable abbrev f_kern_both : Func := Try.f81
theorem p_kern_both : PR.funcs[i_kern_both]? = some f_kern_both := Try.func81
abbrev i_tensor_Each : FuncId := 82
noncomputable abbrev f_tensor_Each : Func := Try.f82
theorem p_tensor_Each : PR.funcs[i_tensor_Each]? = some f_tensor_Each := Try.func82
abbrev i_kern_Biasc1 : FuncId := 83
noncomputable abbrev f_kern_Biasc1 : Func := Try.f83
theorem p_kern_Biasc1 : PR.funcs[i_kern_Biasc1]? = some f_kern_Biasc1 := Try.func83
abbrev i_kern_pairs : FuncId := 84
noncomputable abbrev f_kern_pairs : Func := Try.f84
theorem p_kern_pairs : PR.funcs[i_kern_pairs]? = some f_kern_pairs := Try.func84
abbrev i_act_Forward : FuncId := 85
noncomputable abbrev f_act_Forward : Func := Try.f85
theorem p_act_Forward : PR.funcs[i_act_Forward]? = some f_act_Forward := Try.func85
abbrev i_act_plain : FuncId := 86
noncomputable abbrev f_act_plain : Func := Try.f86
theorem p_act_plain : PR.funcs[i_act_plain]? = some f_act_plain := Try.func86
abbrev i_format_IsNan : FuncId := 87
noncomputable abbrev f_format_IsNan : Func := Try.f87
theorem p_format_IsNan : PR.funcs[i_format_IsNan]? = some f_format_IsNan := Try.func87
abbrev i_format_Nan : FuncId := 88
noncomputable abbrev f_format_Nan : Func := Try.f88
theorem p_format_Nan : PR.funcs[i_format_Nan]? = some f_format_Nan := Try.func88
abbrev i_format_Class : FuncId := 89
noncomputable abbrev f_format_Class : Func := Try.f89
theorem p_format_Class : PR.funcs[i_format_Class]? = some f_format_Class := Try.func89
abbrev i_format_Parts : FuncId := 90
noncomputable abbrev f_format_Parts : Func := Try.f90
theorem p_format_Parts : PR.funcs[i_format_Parts]? = some f_format_Parts := Try.func90
abbrev i_format_Turn : FuncId := 91
noncomputable abbrev f_format_Turn : Func := Try.f91
theorem p_format_Turn : PR.funcs[i_format_Turn]? = some f_format_Turn := Try.func91
abbrev i_order_Less : FuncId := 92
noncomputable abbrev f_order_Less : Func := Try.f92
theorem p_order_Less : PR.funcs[i_order_Less]? = some f_order_Less := Try.func92
abbrev i_sum_Sub : FuncId := 93
noncomputable abbrev f_sum_Sub : Func := Try.f93
theorem p_sum_Sub : PR.funcs[i_sum_Sub]? = some f_sum_Sub := Try.func93
abbrev i_quot_Div : FuncId := 94
noncomputable abbrev f_quot_Div : Func := Try.f94
theorem p_quot_Div : PR.funcs[i_quot_Div]? = some f_quot_Div := Try.func94
abbrev i_sum_Add : FuncId := 95
noncomputable abbrev f_sum_Add : Func := Try.f95
theorem p_sum_Add : PR.funcs[i_sum_Add]? = some f_sum_Add := Try.func95
abbrev i_format_Join : FuncId := 96
noncomputable abbrev f_format_Join : Func := Try.f96
theorem p_format_Join : PR.funcs[i_format_Join]? = some f_format_Join := Try.func96
abbrev i_format_Top : FuncId := 97
noncomputable abbrev f_format_Top : Func := Try.f97
theorem p_format_Top : PR.funcs[i_format_Top]? = some f_format_Top := Try.func97
abbrev i_format_Finite : FuncId := 98
noncomputable abbrev f_format_Finite : Func := Try.f98
theorem p_format_Finite : PR.funcs[i_format_Finite]? = some f_format_Finite := Try.func98
abbrev i_sum_Of : FuncId := 99
noncomputable abbrev f_sum_Of : Func := Try.f99
theorem p_sum_Of : PR.funcs[i_sum_Of]? = some f_sum_Of := Try.func99
abbrev i_whole_units : FuncId := 100
noncomputable abbrev f_whole_units : Func := Try.f100
theorem p_whole_units : PR.funcs[i_whole_units]? = some f_whole_units := Try.func100
abbrev i_prod_Mul : FuncId := 101
noncomputable abbrev f_prod_Mul : Func := Try.f101
theorem p_prod_Mul : PR.funcs[i_prod_Mul]? = some f_prod_Mul := Try.func101
abbrev i_whole_FromInt : FuncId := 102
noncomputable abbrev f_whole_FromInt : Func := Try.f102
theorem p_whole_FromInt : PR.funcs[i_whole_FromInt]? = some f_whole_FromInt := Try.func102
abbrev i_prod_Fma : FuncId := 103
noncomputable abbrev f_prod_Fma : Func := Try.f103
theorem p_prod_Fma : PR.funcs[i_prod_Fma]? = some f_prod_Fma := Try.func103
abbrev i_whole_Scale : FuncId := 104
noncomputable abbrev f_whole_Scale : Func := Try.f104
theorem p_whole_Scale : PR.funcs[i_whole_Scale]? = some f_whole_Scale := Try.func104
abbrev i_format_Widths : FuncId := 105
noncomputable abbrev f_format_Widths : Func := Try.f105
theorem p_format_Widths : PR.funcs[i_format_Widths]? = some f_format_Widths := Try.func105
abbrev i_format_Least : FuncId := 106
noncomputable abbrev f_format_Least : Func := Try.f106
theorem p_format_Least : PR.funcs[i_format_Least]? = some f_format_Least := Try.func106
abbrev i_math_bits_Len64 : FuncId := 107
noncomputable abbrev f_math_bits_Len64 : Func := Try.f107
theorem p_math_bits_Len64 : PR.funcs[i_math_bits_Len64]? = some f_math_bits_Len64 := Try.func107
abbrev i_annealref1_zero : FuncId := 108
noncomputable abbrev f_annealref1_zero : Func := Try.f108
theorem p_annealref1_zero : PR.funcs[i_annealref1_zero]? = some f_annealref1_zero := Try.func108
abbrev i_annealref1_Nan : FuncId := 109
noncomputable abbrev f_annealref1_Nan : Func := Try.f109
theorem p_annealref1_Nan : PR.funcs[i_annealref1_Nan]? = some f_annealref1_Nan := Try.func109
abbrev i_annealref1_inf : FuncId := 110
noncomputable abbrev f_annealref1_inf : Func := Try.f110
theorem p_annealref1_inf : PR.funcs[i_annealref1_inf]? = some f_annealref1_inf := Try.func110
abbrev i_annealref1_Inf : FuncId := 111
noncomputable abbrev f_annealref1_Inf : Func := Try.f111
theorem p_annealref1_Inf : PR.funcs[i_annealref1_Inf]? = some f_annealref1_Inf := Try.func111
abbrev i_annealref1_Unpack : FuncId := 112
noncomputable abbrev f_annealref1_Unpack : Func := Try.f112
theorem p_annealref1_Unpack : PR.funcs[i_annealref1_Unpack]? = some f_annealref1_Unpack := Try.func112
abbrev i_annealref1_Pack : FuncId := 113
noncomputable abbrev f_annealref1_Pack : Func := Try.f113
theorem p_annealref1_Pack : PR.funcs[i_annealref1_Pack]? = some f_annealref1_Pack := Try.func113
abbrev i_annealref1_Fma : FuncId := 114
noncomputable abbrev f_annealref1_Fma : Func := Try.f114
theorem p_annealref1_Fma : PR.funcs[i_annealref1_Fma]? = some f_annealref1_Fma := Try.func114
abbrev i_kern_product : FuncId := 115
noncomputable abbrev f_kern_product : Func := Try.f115
theorem p_kern_product : PR.funcs[i_kern_product]? = some f_kern_product := Try.func115
abbrev i_kern_turned : FuncId := 116
noncomputable abbrev f_kern_turned : Func := Try.f116
theorem p_kern_turned : PR.funcs[i_kern_turned]? = some f_kern_turned := Try.func116
abbrev i_annealref13_known : FuncId := 117
noncomputable abbrev f_annealref13_known : Func := Try.f117
theorem p_annealref13_known : PR.funcs[i_annealref13_known]? = some f_annealref13_known := Try.func117
abbrev i_kern_Wide : FuncId := 118
noncomputable abbrev f_kern_Wide : Func := Try.f118
theorem p_kern_Wide : PR.funcs[i_kern_Wide]? = some f_kern_Wide := Try.func118
abbrev i_kern_pairsc1 : FuncId := 119
noncomputable abbrev f_kern_pairsc1 : Func := Try.f119
theorem p_kern_pairsc1 : PR.funcs[i_kern_pairsc1]? = some f_kern_pairsc1 := Try.func119
abbrev i_tensor_Right : FuncId := 120
noncomputable abbrev f_tensor_Right : Func := Try.f120
theorem p_tensor_Right : PR.funcs[i_tensor_Right]? = some f_tensor_Right := Try.func120
abbrev i_act_known : FuncId := 121
noncomputable abbrev f_act_known : Func := Try.f121
theorem p_act_known : PR.funcs[i_act_known]? = some f_act_known := Try.func121
abbrev i_act_Forwardc1 : FuncId := 122
noncomputable abbrev f_act_Forwardc1 : Func := Try.f122
theorem p_act_Forwardc1 : PR.funcs[i_act_Forwardc1]? = some f_act_Forwardc1 := Try.func122
abbrev i_conv_Narrow : FuncId := 123
noncomputable abbrev f_conv_Narrow : Func := Try.f123
theorem p_conv_Narrow : PR.funcs[i_conv_Narrow]? = some f_conv_Narrow := Try.func123
abbrev i_conv_Widen : FuncId := 124
noncomputable abbrev f_conv_Widen : Func := Try.f124
theorem p_conv_Widen : PR.funcs[i_conv_Widen]? = some f_conv_Widen := Try.func124
abbrev i_format_Mask : FuncId := 125
noncomputable abbrev f_format_Mask : Func := Try.f125
theorem p_format_Mask : PR.funcs[i_format_Mask]? = some f_format_Mask := Try.func125
abbrev i_order_Compare : FuncId := 126
noncomputable abbrev f_order_Compare : Func := Try.f126
theorem p_order_Compare : PR.funcs[i_order_Compare]? = some f_order_Compare := Try.func126
abbrev i_sum_Nans : FuncId := 127
noncomputable abbrev f_sum_Nans : Func := Try.f127
theorem p_sum_Nans : PR.funcs[i_sum_Nans]? = some f_sum_Nans := Try.func127
abbrev i_sum_Bad : FuncId := 128
noncomputable abbrev f_sum_Bad : Func := Try.f128
theorem p_sum_Bad : PR.funcs[i_sum_Bad]? = some f_sum_Bad := Try.func128
abbrev i_format_Zero : FuncId := 129
noncomputable abbrev f_format_Zero : Func := Try.f129
theorem p_format_Zero : PR.funcs[i_format_Zero]? = some f_format_Zero := Try.func129
abbrev i_bits_Shift : FuncId := 130
noncomputable abbrev f_bits_Shift : Func := Try.f130
theorem p_bits_Shift : PR.funcs[i_bits_Shift]? = some f_bits_Shift := Try.func130
abbrev i_round_Pack : FuncId := 131
noncomputable abbrev f_round_Pack : Func := Try.f131
theorem p_round_Pack : PR.funcs[i_round_Pack]? = some f_round_Pack := Try.func131
abbrev i_sum_Infinite : FuncId := 132
noncomputable abbrev f_sum_Infinite : Func := Try.f132
theorem p_sum_Infinite : PR.funcs[i_sum_Infinite]? = some f_sum_Infinite := Try.func132
abbrev i_sum_Exact : FuncId := 133
noncomputable abbrev f_sum_Exact : Func := Try.f133
theorem p_sum_Exact : PR.funcs[i_sum_Exact]? = some f_sum_Exact := Try.func133
abbrev i_sum_Nought : FuncId := 134
noncomputable abbrev f_sum_Nought : Func := Try.f134
theorem p_sum_Nought : PR.funcs[i_sum_Nought]? = some f_sum_Nought := Try.func134
abbrev i_round_Units : FuncId := 135
noncomputable abbrev f_round_Units : Func := Try.f135
theorem p_round_Units : PR.funcs[i_round_Units]? = some f_round_Units := Try.func135
abbrev i_round_Up : FuncId := 136
noncomputable abbrev f_round_Up : Func := Try.f136
theorem p_round_Up : PR.funcs[i_round_Up]? = some f_round_Up := Try.func136
abbrev i_prod_torn : FuncId := 137
noncomputable abbrev f_prod_torn : Func := Try.f137
theorem p_prod_torn : PR.funcs[i_prod_torn]? = some f_prod_torn := Try.func137
abbrev i_prod_product : FuncId := 138
noncomputable abbrev f_prod_product : Func := Try.f138
theorem p_prod_product : PR.funcs[i_prod_product]? = some f_prod_product := Try.func138
abbrev i_whole_amount : FuncId := 139
noncomputable abbrev f_whole_amount : Func := Try.f139
theorem p_whole_amount : PR.funcs[i_whole_amount]? = some f_whole_amount := Try.func139
abbrev i_whole_apart : FuncId := 140
noncomputable abbrev f_whole_apart : Func := Try.f140
theorem p_whole_apart : PR.funcs[i_whole_apart]? = some f_whole_apart := Try.func140
abbrev i_annealref1_bias : FuncId := 141
noncomputable abbrev f_annealref1_bias : Func := Try.f141
theorem p_annealref1_bias : PR.funcs[i_annealref1_bias]? = some f_annealref1_bias := Try.func141
abbrev i_annealref1_Len : FuncId := 142
noncomputable abbrev f_annealref1_Len : Func := Try.f142
theorem p_annealref1_Len : PR.funcs[i_annealref1_Len]? = some f_annealref1_Len := Try.func142
abbrev i_annealref1_divide : FuncId := 143
noncomputable abbrev f_annealref1_divide : Func := Try.f143
theorem p_annealref1_divide : PR.funcs[i_annealref1_divide]? = some f_annealref1_divide := Try.func143
abbrev i_annealref1_up : FuncId := 144
noncomputable abbrev f_annealref1_up : Func := Try.f144
theorem p_annealref1_up : PR.funcs[i_annealref1_up]? = some f_annealref1_up := Try.func144
abbrev i_annealref1_over : FuncId := 145
noncomputable abbrev f_annealref1_over : Func := Try.f145
theorem p_annealref1_over : PR.funcs[i_annealref1_over]? = some f_annealref1_over := Try.func145
abbrev i_annealref1_total : FuncId := 146
noncomputable abbrev f_annealref1_total : Func := Try.f146
theorem p_annealref1_total : PR.funcs[i_annealref1_total]? = some f_annealref1_total := Try.func146
abbrev i_annealref1_spread : FuncId := 147
noncomputable abbrev f_annealref1_spread : Func := Try.f147
theorem p_annealref1_spread : PR.funcs[i_annealref1_spread]? = some f_annealref1_spread := Try.func147
abbrev i_kern_line : FuncId := 148
noncomputable abbrev f_kern_line : Func := Try.f148
theorem p_kern_line : PR.funcs[i_kern_line]? = some f_kern_line := Try.func148
abbrev i_tensor_Turn : FuncId := 149
noncomputable abbrev f_tensor_Turn : Func := Try.f149
theorem p_tensor_Turn : PR.funcs[i_tensor_Turn]? = some f_tensor_Turn := Try.func149
abbrev i_kern_Widec1 : FuncId := 150
noncomputable abbrev f_kern_Widec1 : Func := Try.f150
theorem p_kern_Widec1 : PR.funcs[i_kern_Widec1]? = some f_kern_Widec1 := Try.func150
abbrev i_tensor_known : FuncId := 151
noncomputable abbrev f_tensor_known : Func := Try.f151
theorem p_tensor_known : PR.funcs[i_tensor_known]? = some f_tensor_known := Try.func151
abbrev i_slices_ContainsFuncLLJuint32_uint32J : FuncId := 152
noncomputable abbrev f_slices_ContainsFuncLLJuint32_uint32J : Func := Try.f152
theorem p_slices_ContainsFuncLLJuint32_uint32J : PR.funcs[i_slices_ContainsFuncLLJuint32_uint32J]? = some f_slices_ContainsFuncLLJuint32_uint32J := Try.func152
abbrev i_tensor_Rightc1 : FuncId := 153
noncomputable abbrev f_tensor_Rightc1 : Func := Try.f153
theorem p_tensor_Rightc1 : PR.funcs[i_tensor_Rightc1]? = some f_tensor_Rightc1 := Try.func153
abbrev i_conv_To : FuncId := 154
noncomputable abbrev f_conv_To : Func := Try.f154
theorem p_conv_To : PR.funcs[i_conv_To]? = some f_conv_To := Try.func154
abbrev i_order_Key : FuncId := 155
noncomputable abbrev f_order_Key : Func := Try.f155
theorem p_order_Key : PR.funcs[i_order_Key]? = some f_order_Key := Try.func155
abbrev i_round_Unit : FuncId := 156
noncomputable abbrev f_round_Unit : Func := Try.f156
theorem p_round_Unit : PR.funcs[i_round_Unit]? = some f_round_Unit := Try.func156
abbrev i_round_beyond : FuncId := 157
noncomputable abbrev f_round_beyond : Func := Try.f157
theorem p_round_beyond : PR.funcs[i_round_beyond]? = some f_round_beyond := Try.func157
abbrev i_bits_Cut : FuncId := 158
noncomputable abbrev f_bits_Cut : Func := Try.f158
theorem p_bits_Cut : PR.funcs[i_bits_Cut]? = some f_bits_Cut := Try.func158
abbrev i_sum_full : FuncId := 159
noncomputable abbrev f_sum_full : Func := Try.f159
theorem p_sum_full : PR.funcs[i_sum_full]? = some f_sum_full := Try.func159
abbrev i_annealref1_Shift : FuncId := 160
noncomputable abbrev f_annealref1_Shift : Func := Try.f160
theorem p_annealref1_Shift : PR.funcs[i_annealref1_Shift]? = some f_annealref1_Shift := Try.func160
abbrev i_annealref1_Greatest : FuncId := 161
noncomputable abbrev f_annealref1_Greatest : Func := Try.f161
theorem p_annealref1_Greatest : PR.funcs[i_annealref1_Greatest]? = some f_annealref1_Greatest := Try.func161
abbrev i_annealref1_plus : FuncId := 162
noncomputable abbrev f_annealref1_plus : Func := Try.f162
theorem p_annealref1_plus : PR.funcs[i_annealref1_plus]? = some f_annealref1_plus := Try.func162
abbrev i_annealref1_nought : FuncId := 163
noncomputable abbrev f_annealref1_nought : Func := Try.f163
theorem p_annealref1_nought : PR.funcs[i_annealref1_nought]? = some f_annealref1_nought := Try.func163
abbrev i_annealref1_rounded : FuncId := 164
noncomputable abbrev f_annealref1_rounded : Func := Try.f164
theorem p_annealref1_rounded : PR.funcs[i_annealref1_rounded]? = some f_annealref1_rounded := Try.func164
abbrev i_slices_IndexFuncLLJuint32_uint32J : FuncId := 165
noncomputable abbrev f_slices_IndexFuncLLJuint32_uint32J : Func := Try.f165
theorem p_slices_IndexFuncLLJuint32_uint32J : PR.funcs[i_slices_IndexFuncLLJuint32_uint32J]? = some f_slices_IndexFuncLLJuint32_uint32J := Try.func165
abbrev i_format_Greatest : FuncId := 166
noncomputable abbrev f_format_Greatest : Func := Try.f166
theorem p_format_Greatest : PR.funcs[i_format_Greatest]? = some f_format_Greatest := Try.func166
abbrev i_annealref1_minus : FuncId := 167
noncomputable abbrev f_annealref1_minus : Func := Try.f167
theorem p_annealref1_minus : PR.funcs[i_annealref1_minus]? = some f_annealref1_minus := Try.func167
abbrev i_annealref1_below : FuncId := 168
noncomputable abbrev f_annealref1_below : Func := Try.f168
theorem p_annealref1_below : PR.funcs[i_annealref1_below]? = some f_annealref1_below := Try.func168
end Go.Proofs.Ytkknnloamidaiaa.VI

import Derived.Test.YtcpicekmnkjceaaTacc2e6d8
import Derived.Test.YtcpicekmnkjceaaProg
namespace Go.Proofs.Ytcpicekmnkjceaa.VI
set_option linter.unusedVariables false
set_option linter.unusedSimpArgs false
noncomputable abbrev PR : Program := Try.prog
theorem mixed : PR.follows .mixedOrders = true := by kernel_rfl
def L0 : Lps := fun _ _ => .no
abbrev y___ : TypeId := 0
abbrev y_func__ : TypeId := 1
abbrev y_int64 : TypeId := 2
abbrev y_int : TypeId := 3
abbrev y_bool : TypeId := 4
abbrev y_uint8 : TypeId := 5
abbrev y_abi_BoundsErrorCode : TypeId := 6
abbrev y_struct_x_x_int64x_y_intx_signed_boolx_code_abi_BoundsErrorCode_x : TypeId := 7
abbrev y_runtime_boundsError : TypeId := 8
abbrev y_string : TypeId := 9
abbrev y_runtime_errorString : TypeId := 10
abbrev y_runtime_plainError : TypeId := 11
abbrev y_uintptr : TypeId := 12
abbrev y_struct_x_msg_stringx_addr_uintptr_x : TypeId := 13
abbrev y_runtime_errorAddressString : TypeId := 14
abbrev y_Pruntime_TypeAssertionError : TypeId := 15
abbrev y_Pruntime_PanicNilError : TypeId := 16
abbrev y_Pabi_Type : TypeId := 17
abbrev y_struct_x_typ_Pabi_Type_x : TypeId := 18
abbrev y_maps_unhashableTypeError : TypeId := 19
abbrev y_interface_ : TypeId := 20
abbrev y_int32 : TypeId := 21
abbrev y_LJuint8 : TypeId := 22
abbrev y_uint16 : TypeId := 23
abbrev y_uint32 : TypeId := 24
abbrev y_func___bool : TypeId := 25
abbrev y_func_LJuint8__uint32 : TypeId := 26
abbrev y_func_LJuint8__uint16__uint32__bool : TypeId := 27
abbrev y_struct_x_Log_intx_Good_intx_Skips_intx_Row_int_x : TypeId := 28
abbrev y_api_Scale : TypeId := 29
abbrev y_LJint : TypeId := 30
abbrev y_uint64 : TypeId := 31
abbrev y_struct_x_Widths_LJintx_F_intx_Act_intx_Loss_intx_Opt_intx_Sched_intx_Rate_uint32x_Mu_uint32x_Beta_uint32x_Eps_uint32x_Decay_uint32x_Clip_uint32x_Warm_intx_Total_intx_Batch_intx_Accum_intx_Seed_uint64x_Drop_uint32x_Chance_boolx_Log_intx_Min_intx_Max_intx_Back_intx_Grow_intx_Interval_intx_Save_int_x : TypeId := 32
abbrev y_api_Config : TypeId := 33
abbrev y_func_uint8__uint8__uint8__uint8__uint64__api_Config : TypeId := 34
abbrev y_uint : TypeId := 35
abbrev y_func_api_Config__api_Scale : TypeId := 36
abbrev y_LJapi_Scale : TypeId := 37
abbrev y_func_api_Config__api_Scale__bool : TypeId := 38
abbrev y_func_api_Config__api_Scale__api_Scale : TypeId := 39
abbrev y_func_uint8__uint8__uint8__uint8__api_Scale__int__int__int__int__bool : TypeId := 40
abbrev y_LJbool : TypeId := 41
abbrev y_func_uint8__uint8__uint8__uint8__LJbool__bool : TypeId := 42
abbrev y_func_uint8__uint8__uint8__uint8__bool : TypeId := 43
abbrev y_func_uint8__uint8__uint8__uint8__api_Scale__bool : TypeId := 44
abbrev y_func_uint32__int__uint32 : TypeId := 45
abbrev y_func_uint32__uint32__uint16__bool : TypeId := 46
abbrev y_func_uint32__LJuint8__uint32 : TypeId := 47
abbrev y_func_uint32__uint32__int__uint32 : TypeId := 48
abbrev y_func_LJuint8__uint8__uint16__int__bool : TypeId := 49
abbrev y__bool__int__uint64_ : TypeId := 50
abbrev y_func_int__uint32___bool__int__uint64_ : TypeId := 51
abbrev y_func_int__uint32__int : TypeId := 52
abbrev y_func_int__uint32 : TypeId := 53
abbrev y_func_uint32__uint32__bool__bool : TypeId := 54
abbrev y_func_uint8__int : TypeId := 55
abbrev y_func_int__uint32__bool : TypeId := 56
abbrev y__int__int_ : TypeId := 57
abbrev y_func_int___int__int_ : TypeId := 58
abbrev y_func_int__bool__uint32 : TypeId := 59
abbrev y_func_uint8__uint32__bool : TypeId := 60
abbrev y_func_uint8__bool__uint32__bool : TypeId := 61
abbrev y_func_int__uint32__uint32 : TypeId := 62
abbrev y_LJuint32 : TypeId := 63
abbrev y_func_int__uint32__uint32__bool__bool : TypeId := 64
abbrev y_L2Juint32 : TypeId := 65
abbrev y_LJL2Juint32 : TypeId := 66
abbrev y__int__bool_ : TypeId := 67
abbrev y_func_int__uint32__uint32___int__bool_ : TypeId := 68
abbrev y_func_int__uint32__uint32__bool : TypeId := 69
abbrev y_func_int__uint32__uint32__uint32 : TypeId := 70
abbrev y_func_int__uint32__int64 : TypeId := 71
abbrev y_func_int__uint8__uint32__uint32__bool : TypeId := 72
abbrev y_func_uint8__uint32__uint32__uint32__bool : TypeId := 73
abbrev y_LJapi_Config : TypeId := 74
abbrev y_api_Errno : TypeId := 75
abbrev y__LJuint8__api_Errno_ : TypeId := 76
abbrev y_func_api_Config___LJuint8__api_Errno_ : TypeId := 77
abbrev y__LJuint8__int_ : TypeId := 78
abbrev y_func_api_Config___LJuint8__int_ : TypeId := 79
abbrev y_func_api_Config__api_Errno : TypeId := 80
abbrev y_func_api_Config__int : TypeId := 81
abbrev y__api_Config__api_Errno_ : TypeId := 82
abbrev y_func_LJuint8___api_Config__api_Errno_ : TypeId := 83
abbrev y_func_api_Config__api_Config__bool : TypeId := 84
abbrev y_func_api_Config__uint8__uint8__uint8__uint8__uint8__uint64__int__uint32__bool : TypeId := 85
abbrev y_LJLJuint8 : TypeId := 86
abbrev y__api_Config__int_ : TypeId := 87
abbrev y_func_LJuint8___api_Config__int_ : TypeId := 88
abbrev y_func_LJuint8__uint8__uint8__uint8__uint8__uint16__uint8__uint8__bool : TypeId := 89
abbrev y_func_uint8__uint8__bool : TypeId := 90
abbrev y_func_uint8__uint8__uint8__uint8__uint64__bool : TypeId := 91
abbrev y_LJLJint : TypeId := 92
abbrev y_func_int__bool : TypeId := 93
abbrev y__bool__int__uint32_ : TypeId := 94
abbrev y_func_int__uint32___bool__int__uint32_ : TypeId := 95
abbrev y_func_int__int : TypeId := 96
abbrev y_func_int__bool__int__uint32__uint32 : TypeId := 97
abbrev y__bool__bool_ : TypeId := 98
abbrev y_func_int_____uint32___bool__bool_ : TypeId := 99
abbrev y_func_int__uint32__uint32__bool__uint32 : TypeId := 100
abbrev y_func_LJuint8__uint64__int__LJuint8 : TypeId := 101
abbrev y_func_bool__int : TypeId := 102
abbrev y_func_LJint___int__bool_ : TypeId := 103
abbrev y_func_api_Config__bool : TypeId := 104
abbrev y_func_LJint__int : TypeId := 105
abbrev y_func_int__int__int__bool : TypeId := 106
abbrev y_func_uint32__bool : TypeId := 107
abbrev y_func_PLJuint8__int__uint64 : TypeId := 108
abbrev y_PLJuint8 : TypeId := 109
abbrev y_func_Papi_Config__LJuint8_ : TypeId := 110
abbrev y_Papi_Config : TypeId := 111
abbrev y_func_LJint__LJint__bool : TypeId := 112
abbrev y_L5Jint : TypeId := 113
abbrev y_L7Juint32 : TypeId := 114
abbrev y_L4Jint : TypeId := 115
abbrev y_L7Jint : TypeId := 116
abbrev y_struct_x_kinds_L5Jintx_bits_L7Juint32x_counts_L4Jintx_scale_L7Jintx_seed_uint64x_chance_bool_x : TypeId := 117
abbrev y_config_plain : TypeId := 118
abbrev y_func_api_Config__config_plain : TypeId := 119
abbrev y_func_LJuint8__int__uint64 : TypeId := 120
abbrev y_L11Juint32 : TypeId := 121
abbrev y_Psum32_matrix : TypeId := 122
abbrev y_func___Psum32_matrix : TypeId := 123
abbrev y_func_uint32__uint32 : TypeId := 124
abbrev y_func_uint32__uint32__bool : TypeId := 125
abbrev y_Pint : TypeId := 126
abbrev y_LJPint : TypeId := 127
abbrev y_Puint32 : TypeId := 128
abbrev y_LJPuint32 : TypeId := 129
abbrev y_L32Juint32 : TypeId := 130
abbrev y_sum32_matrix : TypeId := 131
abbrev y_func___string : TypeId := 132
abbrev y_struct_x__interface_Pabi_Typex_concrete_Pabi_Typex_asserted_Pabi_Typex_missingMethod_string_x : TypeId := 133
abbrev y_runtime_TypeAssertionError : TypeId := 134
abbrev y_L0JPruntime_PanicNilError : TypeId := 135
abbrev y_struct_x___L0JPruntime_PanicNilError_x : TypeId := 136
abbrev y_runtime_PanicNilError : TypeId := 137
abbrev y_func___int : TypeId := 138
abbrev y_abi_TFlag : TypeId := 139
abbrev y_abi_Kind : TypeId := 140
abbrev y_func_unsafe_Pointer__unsafe_Pointer__bool : TypeId := 141
abbrev y_Puint8 : TypeId := 142
abbrev y_abi_NameOff : TypeId := 143
abbrev y_abi_TypeOff : TypeId := 144
abbrev y_struct_x_Size__uintptrx_PtrBytes_uintptrx_Hash_uint32x_TFlag_abi_TFlagx_Align__uint8x_FieldAlign__uint8x_Kind__abi_Kindx_Equal_func_unsafe_Pointer__unsafe_Pointer__boolx_GCData_Puint8x_Str_abi_NameOffx_PtrToThis_abi_TypeOff_x : TypeId := 145
abbrev y_abi_Type : TypeId := 146
abbrev y_unsafe_Pointer : TypeId := 147
abbrev i_anneallaw27_SumSees : FuncId := 3
noncomputable abbrev f_anneallaw27_SumSees : Func := Try.f3
theorem p_anneallaw27_SumSees : PR.funcs[i_anneallaw27_SumSees]? = some f_anneallaw27_SumSees := Try.func3
abbrev i_anneallaw22_ScalerTells : FuncId := 4
noncomputable abbrev f_anneallaw22_ScalerTells : Func := Try.f4
theorem p_anneallaw22_ScalerTells : PR.funcs[i_anneallaw22_ScalerTells]? = some f_anneallaw22_ScalerTells := Try.func4
abbrev i_anneallaw22_ScalerPlays : FuncId := 5
noncomputable abbrev f_anneallaw22_ScalerPlays : Func := Try.f5
theorem p_anneallaw22_ScalerPlays : PR.funcs[i_anneallaw22_ScalerPlays]? = some f_anneallaw22_ScalerPlays := Try.func5
abbrev i_anneallaw22_ScalerFalls : FuncId := 6
noncomputable abbrev f_anneallaw22_ScalerFalls : Func := Try.f6
theorem p_anneallaw22_ScalerFalls : PR.funcs[i_anneallaw22_ScalerFalls]? = some f_anneallaw22_ScalerFalls := Try.func6
abbrev i_anneallaw22_ScalerEdges : FuncId := 7
noncomputable abbrev f_anneallaw22_ScalerEdges : Func := Try.f7
theorem p_anneallaw22_ScalerEdges : PR.funcs[i_anneallaw22_ScalerEdges]? = some f_anneallaw22_ScalerEdges := Try.func7
abbrev i_anneallaw27_SumLong : FuncId := 8
noncomputable abbrev f_anneallaw27_SumLong : Func := Try.f8
theorem p_anneallaw27_SumLong : PR.funcs[i_anneallaw27_SumLong]? = some f_anneallaw27_SumLong := Try.func8
abbrev i_anneallaw27_SumTells32 : FuncId := 9
noncomputable abbrev f_anneallaw27_SumTells32 : Func := Try.f9
theorem p_anneallaw27_SumTells32 : PR.funcs[i_anneallaw27_SumTells32]? = some f_anneallaw27_SumTells32 := Try.func9
abbrev i_anneallaw2_FormatHigh : FuncId := 10
noncomputable abbrev f_anneallaw2_FormatHigh : Func := Try.f10
theorem p_anneallaw2_FormatHigh : PR.funcs[i_anneallaw2_FormatHigh]? = some f_anneallaw2_FormatHigh := Try.func10
abbrev i_anneallaw2_FormatBack : FuncId := 11
noncomputable abbrev f_anneallaw2_FormatBack : Func := Try.f11
theorem p_anneallaw2_FormatBack : PR.funcs[i_anneallaw2_FormatBack]? = some f_anneallaw2_FormatBack := Try.func11
abbrev i_anneallaw2_FormatEdges : FuncId := 12
noncomputable abbrev f_anneallaw2_FormatEdges : Func := Try.f12
theorem p_anneallaw2_FormatEdges : PR.funcs[i_anneallaw2_FormatEdges]? = some f_anneallaw2_FormatEdges := Try.func12
abbrev i_anneallaw2_FormatTells : FuncId := 13
noncomputable abbrev f_anneallaw2_FormatTells : Func := Try.f13
theorem p_anneallaw2_FormatTells : PR.funcs[i_anneallaw2_FormatTells]? = some f_anneallaw2_FormatTells := Try.func13
abbrev i_anneallaw7_OrderTells : FuncId := 14
noncomputable abbrev f_anneallaw7_OrderTells : Func := Try.f14
theorem p_anneallaw7_OrderTells : PR.funcs[i_anneallaw7_OrderTells]? = some f_anneallaw7_OrderTells := Try.func14
abbrev i_anneallaw7_OrderLine : FuncId := 15
noncomputable abbrev f_anneallaw7_OrderLine : Func := Try.f15
theorem p_anneallaw7_OrderLine : PR.funcs[i_anneallaw7_OrderLine]? = some f_anneallaw7_OrderLine := Try.func15
abbrev i_anneallaw7_OrderClasses : FuncId := 16
noncomputable abbrev f_anneallaw7_OrderClasses : Func := Try.f16
theorem p_anneallaw7_OrderClasses : PR.funcs[i_anneallaw7_OrderClasses]? = some f_anneallaw7_OrderClasses := Try.func16
abbrev i_anneallaw24_ConfigTells : FuncId := 17
noncomputable abbrev f_anneallaw24_ConfigTells : Func := Try.f17
theorem p_anneallaw24_ConfigTells : PR.funcs[i_anneallaw24_ConfigTells]? = some f_anneallaw24_ConfigTells := Try.func17
abbrev i_anneallaw24_ConfigReads : FuncId := 18
noncomputable abbrev f_anneallaw24_ConfigReads : Func := Try.f18
theorem p_anneallaw24_ConfigReads : PR.funcs[i_anneallaw24_ConfigReads]? = some f_anneallaw24_ConfigReads := Try.func18
abbrev i_anneallaw24_ConfigEdges : FuncId := 19
noncomputable abbrev f_anneallaw24_ConfigEdges : Func := Try.f19
theorem p_anneallaw24_ConfigEdges : PR.funcs[i_anneallaw24_ConfigEdges]? = some f_anneallaw24_ConfigEdges := Try.func19
abbrev i_anneallaw24_ConfigBytes : FuncId := 20
noncomputable abbrev f_anneallaw24_ConfigBytes : Func := Try.f20
theorem p_anneallaw24_ConfigBytes : PR.funcs[i_anneallaw24_ConfigBytes]? = some f_anneallaw24_ConfigBytes := Try.func20
abbrev i_anneallaw27_known : FuncId := 21
noncomputable abbrev f_anneallaw27_known : Func := Try.f21
theorem p_anneallaw27_known : PR.funcs[i_anneallaw27_known]? = some f_anneallaw27_known := Try.func21
abbrev i_sum32_Of : FuncId := 22
noncomputable abbrev f_sum32_Of : Func := Try.f22
theorem p_sum32_Of : PR.funcs[i_sum32_Of]? = some f_sum32_Of := Try.func22
abbrev i_anneallaw22_known : FuncId := 23
noncomputable abbrev f_anneallaw22_known : Func := Try.f23
theorem p_anneallaw22_known : PR.funcs[i_anneallaw22_known]? = some f_anneallaw22_known := Try.func23
abbrev i_annealseat_Config : FuncId := 24
noncomputable abbrev f_annealseat_Config : Func := Try.f24
theorem p_annealseat_Config : PR.funcs[i_annealseat_Config]? = some f_annealseat_Config := Try.func24
abbrev i_scaler_Begin : FuncId := 25
noncomputable abbrev f_scaler_Begin : Func := Try.f25
theorem p_scaler_Begin : PR.funcs[i_scaler_Begin]? = some f_scaler_Begin := Try.func25
abbrev i_scaler_Right : FuncId := 26
noncomputable abbrev f_scaler_Right : Func := Try.f26
theorem p_scaler_Right : PR.funcs[i_scaler_Right]? = some f_scaler_Right := Try.func26
abbrev i_annealref17_ScaleRight : FuncId := 27
noncomputable abbrev f_annealref17_ScaleRight : Func := Try.f27
theorem p_annealref17_ScaleRight : PR.funcs[i_annealref17_ScaleRight]? = some f_annealref17_ScaleRight := Try.func27
abbrev i_scaler_Good : FuncId := 28
noncomputable abbrev f_scaler_Good : Func := Try.f28
theorem p_scaler_Good : PR.funcs[i_scaler_Good]? = some f_scaler_Good := Try.func28
abbrev i_annealref17_Good : FuncId := 29
noncomputable abbrev f_annealref17_Good : Func := Try.f29
theorem p_annealref17_Good : PR.funcs[i_annealref17_Good]? = some f_annealref17_Good := Try.func29
abbrev i_scaler_Skip : FuncId := 30
noncomputable abbrev f_scaler_Skip : Func := Try.f30
theorem p_scaler_Skip : PR.funcs[i_scaler_Skip]? = some f_scaler_Skip := Try.func30
abbrev i_annealref17_Skip : FuncId := 31
noncomputable abbrev f_annealref17_Skip : Func := Try.f31
theorem p_annealref17_Skip : PR.funcs[i_annealref17_Skip]? = some f_annealref17_Skip := Try.func31
abbrev i_sum32_Zeros : FuncId := 32
noncomputable abbrev f_sum32_Zeros : Func := Try.f32
theorem p_sum32_Zeros : PR.funcs[i_sum32_Zeros]? = some f_sum32_Zeros := Try.func32
abbrev i_annealref24_Sum : FuncId := 33
noncomputable abbrev f_annealref24_Sum : Func := Try.f33
theorem p_annealref24_Sum : PR.funcs[i_annealref24_Sum]? = some f_annealref24_Sum := Try.func33
abbrev i_sum32_More : FuncId := 34
noncomputable abbrev f_sum32_More : Func := Try.f34
theorem p_sum32_More : PR.funcs[i_sum32_More]? = some f_sum32_More := Try.func34
abbrev i_sum32_Join : FuncId := 35
noncomputable abbrev f_sum32_Join : Func := Try.f35
theorem p_sum32_Join : PR.funcs[i_sum32_Join]? = some f_sum32_Join := Try.func35
abbrev i_anneallaw2_known : FuncId := 36
noncomputable abbrev f_anneallaw2_known : Func := Try.f36
theorem p_anneallaw2_known : PR.funcs[i_anneallaw2_known]? = some f_anneallaw2_known := Try.func36
abbrev i_format_Unpack : FuncId := 37
noncomputable abbrev f_format_Unpack : Func := Try.f37
theorem p_format_Unpack : PR.funcs[i_format_Unpack]? = some f_format_Unpack := Try.func37
abbrev i_format_Class : FuncId := 38
noncomputable abbrev f_format_Class : Func := Try.f38
theorem p_format_Class : PR.funcs[i_format_Class]? = some f_format_Class := Try.func38
abbrev i_format_Mask : FuncId := 39
noncomputable abbrev f_format_Mask : Func := Try.f39
theorem p_format_Mask : PR.funcs[i_format_Mask]? = some f_format_Mask := Try.func39
abbrev i_anneallaw2_form : FuncId := 40
noncomputable abbrev f_anneallaw2_form : Func := Try.f40
theorem p_anneallaw2_form : PR.funcs[i_anneallaw2_form]? = some f_anneallaw2_form := Try.func40
abbrev i_format_Finite : FuncId := 41
noncomputable abbrev f_format_Finite : Func := Try.f41
theorem p_format_Finite : PR.funcs[i_format_Finite]? = some f_format_Finite := Try.func41
abbrev i_format_Widths : FuncId := 42
noncomputable abbrev f_format_Widths : Func := Try.f42
theorem p_format_Widths : PR.funcs[i_format_Widths]? = some f_format_Widths := Try.func42
abbrev i_format_Zero : FuncId := 43
noncomputable abbrev f_format_Zero : Func := Try.f43
theorem p_format_Zero : PR.funcs[i_format_Zero]? = some f_format_Zero := Try.func43
abbrev i_format_Greatest : FuncId := 44
noncomputable abbrev f_format_Greatest : Func := Try.f44
theorem p_format_Greatest : PR.funcs[i_format_Greatest]? = some f_format_Greatest := Try.func44
abbrev i_format_Inf : FuncId := 45
noncomputable abbrev f_format_Inf : Func := Try.f45
theorem p_format_Inf : PR.funcs[i_format_Inf]? = some f_format_Inf := Try.func45
abbrev i_annealseat_Num : FuncId := 46
noncomputable abbrev f_annealseat_Num : Func := Try.f46
theorem p_annealseat_Num : PR.funcs[i_annealseat_Num]? = some f_annealseat_Num := Try.func46
abbrev i_annealref1_Unpack : FuncId := 47
noncomputable abbrev f_annealref1_Unpack : Func := Try.f47
theorem p_annealref1_Unpack : PR.funcs[i_annealref1_Unpack]? = some f_annealref1_Unpack := Try.func47
abbrev i_annealref1_Class : FuncId := 48
noncomputable abbrev f_annealref1_Class : Func := Try.f48
theorem p_annealref1_Class : PR.funcs[i_annealref1_Class]? = some f_annealref1_Class := Try.func48
abbrev i_annealref1_Finite : FuncId := 49
noncomputable abbrev f_annealref1_Finite : Func := Try.f49
theorem p_annealref1_Finite : PR.funcs[i_annealref1_Finite]? = some f_annealref1_Finite := Try.func49
abbrev i_annealref1_Widths : FuncId := 50
noncomputable abbrev f_annealref1_Widths : Func := Try.f50
theorem p_annealref1_Widths : PR.funcs[i_annealref1_Widths]? = some f_annealref1_Widths := Try.func50
abbrev i_annealref1_Mask : FuncId := 51
noncomputable abbrev f_annealref1_Mask : Func := Try.f51
theorem p_annealref1_Mask : PR.funcs[i_annealref1_Mask]? = some f_annealref1_Mask := Try.func51
abbrev i_annealref1_Zero : FuncId := 52
noncomputable abbrev f_annealref1_Zero : Func := Try.f52
theorem p_annealref1_Zero : PR.funcs[i_annealref1_Zero]? = some f_annealref1_Zero := Try.func52
abbrev i_annealref1_Inf : FuncId := 53
noncomputable abbrev f_annealref1_Inf : Func := Try.f53
theorem p_annealref1_Inf : PR.funcs[i_annealref1_Inf]? = some f_annealref1_Inf := Try.func53
abbrev i_annealref1_Greatest : FuncId := 54
noncomputable abbrev f_annealref1_Greatest : Func := Try.f54
theorem p_annealref1_Greatest : PR.funcs[i_annealref1_Greatest]? = some f_annealref1_Greatest := Try.func54
abbrev i_format_Nan : FuncId := 55
noncomputable abbrev f_format_Nan : Func := Try.f55
theorem p_format_Nan : PR.funcs[i_format_Nan]? = some f_format_Nan := Try.func55
abbrev i_annealref1_Nan : FuncId := 56
noncomputable abbrev f_annealref1_Nan : Func := Try.f56
theorem p_annealref1_Nan : PR.funcs[i_annealref1_Nan]? = some f_annealref1_Nan := Try.func56
abbrev i_anneallaw7_known : FuncId := 57
noncomputable abbrev f_anneallaw7_known : Func := Try.f57
theorem p_anneallaw7_known : PR.funcs[i_anneallaw7_known]? = some f_anneallaw7_known := Try.func57
abbrev i_anneallaw7_form : FuncId := 58
noncomputable abbrev f_anneallaw7_form : Func := Try.f58
theorem p_anneallaw7_form : PR.funcs[i_anneallaw7_form]? = some f_anneallaw7_form := Try.func58
abbrev i_order_Compare : FuncId := 59
noncomputable abbrev f_order_Compare : Func := Try.f59
theorem p_order_Compare : PR.funcs[i_order_Compare]? = some f_order_Compare := Try.func59
abbrev i_annealref1_Compare : FuncId := 60
noncomputable abbrev f_annealref1_Compare : Func := Try.f60
theorem p_annealref1_Compare : PR.funcs[i_annealref1_Compare]? = some f_annealref1_Compare := Try.func60
abbrev i_order_Less : FuncId := 61
noncomputable abbrev f_order_Less : Func := Try.f61
theorem p_order_Less : PR.funcs[i_order_Less]? = some f_order_Less := Try.func61
abbrev i_annealref1_Less : FuncId := 62
noncomputable abbrev f_annealref1_Less : Func := Try.f62
theorem p_annealref1_Less : PR.funcs[i_annealref1_Less]? = some f_annealref1_Less := Try.func62
abbrev i_order_Min : FuncId := 63
noncomputable abbrev f_order_Min : Func := Try.f63
theorem p_order_Min : PR.funcs[i_order_Min]? = some f_order_Min := Try.func63
abbrev i_annealref1_Min : FuncId := 64
noncomputable abbrev f_annealref1_Min : Func := Try.f64
theorem p_annealref1_Min : PR.funcs[i_annealref1_Min]? = some f_annealref1_Min := Try.func64
abbrev i_order_Max : FuncId := 65
noncomputable abbrev f_order_Max : Func := Try.f65
theorem p_order_Max : PR.funcs[i_order_Max]? = some f_order_Max := Try.func65
abbrev i_annealref1_Max : FuncId := 66
noncomputable abbrev f_annealref1_Max : Func := Try.f66
theorem p_annealref1_Max : PR.funcs[i_annealref1_Max]? = some f_annealref1_Max := Try.func66
abbrev i_order_Key : FuncId := 67
noncomputable abbrev f_order_Key : Func := Try.f67
theorem p_order_Key : PR.funcs[i_order_Key]? = some f_order_Key := Try.func67
abbrev i_annealref1_Key : FuncId := 68
noncomputable abbrev f_annealref1_Key : Func := Try.f68
theorem p_annealref1_Key : PR.funcs[i_annealref1_Key]? = some f_annealref1_Key := Try.func68
abbrev i_anneallaw24_known : FuncId := 69
noncomputable abbrev f_anneallaw24_known : Func := Try.f69
theorem p_anneallaw24_known : PR.funcs[i_anneallaw24_known]? = some f_anneallaw24_known := Try.func69
abbrev i_config_Put : FuncId := 70
noncomputable abbrev f_config_Put : Func := Try.f70
theorem p_config_Put : PR.funcs[i_config_Put]? = some f_config_Put := Try.func70
abbrev i_annealref24_Put : FuncId := 71
noncomputable abbrev f_annealref24_Put : Func := Try.f71
theorem p_annealref24_Put : PR.funcs[i_annealref24_Put]? = some f_annealref24_Put := Try.func71
abbrev i_config_Check : FuncId := 72
noncomputable abbrev f_config_Check : Func := Try.f72
theorem p_config_Check : PR.funcs[i_config_Check]? = some f_config_Check := Try.func72
abbrev i_annealref24_Check : FuncId := 73
noncomputable abbrev f_annealref24_Check : Func := Try.f73
theorem p_annealref24_Check : PR.funcs[i_annealref24_Check]? = some f_annealref24_Check := Try.func73
abbrev i_config_Params : FuncId := 74
noncomputable abbrev f_config_Params : Func := Try.f74
theorem p_config_Params : PR.funcs[i_config_Params]? = some f_config_Params := Try.func74
abbrev i_annealref24_Params : FuncId := 75
noncomputable abbrev f_annealref24_Params : Func := Try.f75
theorem p_annealref24_Params : PR.funcs[i_annealref24_Params]? = some f_annealref24_Params := Try.func75
abbrev i_config_Read : FuncId := 76
noncomputable abbrev f_config_Read : Func := Try.f76
theorem p_config_Read : PR.funcs[i_config_Read]? = some f_config_Read := Try.func76
abbrev i_annealhelp_Config : FuncId := 77
noncomputable abbrev f_annealhelp_Config : Func := Try.f77
theorem p_annealhelp_Config : PR.funcs[i_annealhelp_Config]? = some f_annealhelp_Config := Try.func77
abbrev i_config_Same : FuncId := 78
noncomputable abbrev f_config_Same : Func := Try.f78
theorem p_config_Same : PR.funcs[i_config_Same]? = some f_config_Same := Try.func78
abbrev i_annealref24_Read : FuncId := 79
noncomputable abbrev f_annealref24_Read : Func := Try.f79
theorem p_annealref24_Read : PR.funcs[i_annealref24_Read]? = some f_annealref24_Read := Try.func79
abbrev i_scaler_count : FuncId := 80
noncomputable abbrev f_scaler_count : Func := Try.f80
theorem p_scaler_count : PR.funcs[i_scaler_count]? = some f_scaler_count := Try.func80
abbrev i_sum32_noughts : FuncId := 81
noncomputable abbrev f_sum32_noughts : Func := Try.f81
theorem p_sum32_noughts : PR.funcs[i_sum32_noughts]? = some f_sum32_noughts := Try.func81
abbrev i_format_Parts : FuncId := 82
noncomputable abbrev f_format_Parts : Func := Try.f82
theorem p_format_Parts : PR.funcs[i_format_Parts]? = some f_format_Parts := Try.func82
abbrev i_format_Least : FuncId := 83
noncomputable abbrev f_format_Least : Func := Try.f83
theorem p_format_Least : PR.funcs[i_format_Least]? = some f_format_Least := Try.func83
abbrev i_format_Top : FuncId := 84
noncomputable abbrev f_format_Top : Func := Try.f84
theorem p_format_Top : PR.funcs[i_format_Top]? = some f_format_Top := Try.func84
abbrev i_format_Join : FuncId := 85
noncomputable abbrev f_format_Join : Func := Try.f85
theorem p_format_Join : PR.funcs[i_format_Join]? = some f_format_Join := Try.func85
abbrev i_annealref1_parts : FuncId := 86
noncomputable abbrev f_annealref1_parts : Func := Try.f86
theorem p_annealref1_parts : PR.funcs[i_annealref1_parts]? = some f_annealref1_parts := Try.func86
abbrev i_annealref1_bias : FuncId := 87
noncomputable abbrev f_annealref1_bias : Func := Try.f87
theorem p_annealref1_bias : PR.funcs[i_annealref1_bias]? = some f_annealref1_bias := Try.func87
abbrev i_annealref1_sign : FuncId := 88
noncomputable abbrev f_annealref1_sign : Func := Try.f88
theorem p_annealref1_sign : PR.funcs[i_annealref1_sign]? = some f_annealref1_sign := Try.func88
abbrev i_format_IsNan : FuncId := 89
noncomputable abbrev f_format_IsNan : Func := Try.f89
theorem p_format_IsNan : PR.funcs[i_format_IsNan]? = some f_format_IsNan := Try.func89
abbrev i_format_IsZero : FuncId := 90
noncomputable abbrev f_format_IsZero : Func := Try.f90
theorem p_format_IsZero : PR.funcs[i_format_IsZero]? = some f_format_IsZero := Try.func90
abbrev i_annealref1_nans : FuncId := 91
noncomputable abbrev f_annealref1_nans : Func := Try.f91
theorem p_annealref1_nans : PR.funcs[i_annealref1_nans]? = some f_annealref1_nans := Try.func91
abbrev i_annealref1_zero : FuncId := 92
noncomputable abbrev f_annealref1_zero : Func := Try.f92
theorem p_annealref1_zero : PR.funcs[i_annealref1_zero]? = some f_annealref1_zero := Try.func92
abbrev i_order_pick : FuncId := 93
noncomputable abbrev f_order_pick : Func := Try.f93
theorem p_order_pick : PR.funcs[i_order_pick]? = some f_order_pick := Try.func93
abbrev i_annealref1_pick : FuncId := 94
noncomputable abbrev f_annealref1_pick : Func := Try.f94
theorem p_annealref1_pick : PR.funcs[i_annealref1_pick]? = some f_annealref1_pick := Try.func94
abbrev i_format_Neg : FuncId := 95
noncomputable abbrev f_format_Neg : Func := Try.f95
theorem p_format_Neg : PR.funcs[i_format_Neg]? = some f_format_Neg := Try.func95
abbrev i_format_Turn : FuncId := 96
noncomputable abbrev f_format_Turn : Func := Try.f96
theorem p_format_Turn : PR.funcs[i_format_Turn]? = some f_format_Turn := Try.func96
abbrev i_annealref1_neg : FuncId := 97
noncomputable abbrev f_annealref1_neg : Func := Try.f97
theorem p_annealref1_neg : PR.funcs[i_annealref1_neg]? = some f_annealref1_neg := Try.func97
abbrev i_config_lay : FuncId := 98
noncomputable abbrev f_config_lay : Func := Try.f98
theorem p_config_lay : PR.funcs[i_config_lay]? = some f_config_lay := Try.func98
abbrev i_config_flag : FuncId := 99
noncomputable abbrev f_config_flag : Func := Try.f99
theorem p_config_flag : PR.funcs[i_config_flag]? = some f_config_flag := Try.func99
abbrev i_annealref24_put : FuncId := 100
noncomputable abbrev f_annealref24_put : Func := Try.f100
theorem p_annealref24_put : PR.funcs[i_annealref24_put]? = some f_annealref24_put := Try.func100
abbrev i_config_params : FuncId := 101
noncomputable abbrev f_config_params : Func := Try.f101
theorem p_config_params : PR.funcs[i_config_params]? = some f_config_params := Try.func101
abbrev i_config_kinds : FuncId := 102
noncomputable abbrev f_config_kinds : Func := Try.f102
theorem p_config_kinds : PR.funcs[i_config_kinds]? = some f_config_kinds := Try.func102
abbrev i_config_numbers : FuncId := 103
noncomputable abbrev f_config_numbers : Func := Try.f103
theorem p_config_numbers : PR.funcs[i_config_numbers]? = some f_config_numbers := Try.func103
abbrev i_config_counts : FuncId := 104
noncomputable abbrev f_config_counts : Func := Try.f104
theorem p_config_counts : PR.funcs[i_config_counts]? = some f_config_counts := Try.func104
abbrev i_slices_MaxLLJint_intJ : FuncId := 105
noncomputable abbrev f_slices_MaxLLJint_intJ : Func := Try.f105
theorem p_slices_MaxLLJint_intJ : PR.funcs[i_slices_MaxLLJint_intJ]? = some f_slices_MaxLLJint_intJ := Try.func105
abbrev i_annealref24_in : FuncId := 106
noncomputable abbrev f_annealref24_in : Func := Try.f106
theorem p_annealref24_in : PR.funcs[i_annealref24_in]? = some f_annealref24_in := Try.func106
abbrev i_annealref24_plus : FuncId := 107
noncomputable abbrev f_annealref24_plus : Func := Try.f107
theorem p_annealref24_plus : PR.funcs[i_annealref24_plus]? = some f_annealref24_plus := Try.func107
abbrev i_annealref24_params : FuncId := 108
noncomputable abbrev f_annealref24_params : Func := Try.f108
theorem p_annealref24_params : PR.funcs[i_annealref24_params]? = some f_annealref24_params := Try.func108
abbrev i_config_take : FuncId := 109
noncomputable abbrev f_config_take : Func := Try.f109
theorem p_config_take : PR.funcs[i_config_take]? = some f_config_take := Try.func109
abbrev i_config_fill : FuncId := 110
noncomputable abbrev f_config_fill : Func := Try.f110
theorem p_config_fill : PR.funcs[i_config_fill]? = some f_config_fill := Try.func110
abbrev i_annealhelp_Ints : FuncId := 111
noncomputable abbrev f_annealhelp_Ints : Func := Try.f111
theorem p_annealhelp_Ints : PR.funcs[i_annealhelp_Ints]? = some f_annealhelp_Ints := Try.func111
abbrev i_slices_EqualLLJint_intJ : FuncId := 112
noncomputable abbrev f_slices_EqualLLJint_intJ : Func := Try.f112
theorem p_slices_EqualLLJint_intJ : PR.funcs[i_slices_EqualLLJint_intJ]? = some f_slices_EqualLLJint_intJ := Try.func112
abbrev i_config_bare : FuncId := 113
noncomputable abbrev f_config_bare : Func := Try.f113
theorem p_config_bare : PR.funcs[i_config_bare]? = some f_config_bare := Try.func113
abbrev i_annealref24_take : FuncId := 114
noncomputable abbrev f_annealref24_take : Func := Try.f114
theorem p_annealref24_take : PR.funcs[i_annealref24_take]? = some f_annealref24_take := Try.func114
abbrev i_sum32_one : FuncId := 115
noncomputable abbrev f_sum32_one : Func := Try.f115
theorem p_sum32_one : PR.funcs[i_sum32_one]? = some f_sum32_one := Try.func115
abbrev i_sum32_matrix_twice : FuncId := 116
noncomputable abbrev f_sum32_matrix_twice : Func := Try.f116
theorem p_sum32_matrix_twice : PR.funcs[i_sum32_matrix_twice]? = some f_sum32_matrix_twice := Try.func116
abbrev i_sum32_matrix_times : FuncId := 117
noncomputable abbrev f_sum32_matrix_times : Func := Try.f117
theorem p_sum32_matrix_times : PR.funcs[i_sum32_matrix_times]? = some f_sum32_matrix_times := Try.func117
abbrev i_config_in : FuncId := 118
noncomputable abbrev f_config_in : Func := Try.f118
theorem p_config_in : PR.funcs[i_config_in]? = some f_config_in := Try.func118
abbrev i_config_positive : FuncId := 119
noncomputable abbrev f_config_positive : Func := Try.f119
theorem p_config_positive : PR.funcs[i_config_positive]? = some f_config_positive := Try.func119
abbrev i_funcs_Above : FuncId := 120
noncomputable abbrev f_funcs_Above : Func := Try.f120
theorem p_funcs_Above : PR.funcs[i_funcs_Above]? = some f_funcs_Above := Try.func120
end Go.Proofs.Ytcpicekmnkjceaa.VI

namespace Go.Proofs.Ytcpicekmnkjceaa.VI
set_option linter.unusedVariables false
set_option linter.unusedSimpArgs false
set_option maxRecDepth 100000
set_option linter.unusedSimpArgs false
set_option linter.unusedVariables false
noncomputable def O_config_in : Orc := orn
theorem okO_config_in : OrcOk PR O_config_in := (orn_ok _)
abbrev fa_config_in : Fm := (.pair (.i .i64) (.pair (.i .i64) (.pair (.i .i64) .unit)))
abbrev ha_config_in : List BF := []
abbrev fr_config_in : Fm := .b
abbrev hr_config_in : List BF := []
noncomputable def L_config_in : Lps := L0
def inn_config_in : T fr_config_in → TH hr_config_in → Bool := (fun z w => z)
def out_config_in : Bool → T fr_config_in × TH hr_config_in := fun r => (r, ())
noncomputable def F_config_in (a0 : Int) (a1 : Int) (a2 : Int) : Option (Bool) :=
  bif (decide (a0 ≥ a1)) then
    (some (decide (a0 ≤ a2)))
  else
    (some false)
noncomputable def G_config_in : T fa_config_in → TH ha_config_in → Option (Bool) := fun x y => F_config_in x.1 x.2.1 x.2.2.1
noncomputable def c_config_in : Orc := ent i_config_in [] 0 (sp fa_config_in ha_config_in fr_config_in hr_config_in G_config_in out_config_in)
theorem ok_config_in : OrcOk PR c_config_in := fnT okO_config_in mixed p_config_in (by kernel_rfl) (by kernel_rfl) (L := L_config_in) (kp := false) (by kernel_rfl) (inn := inn_config_in) (out := out_config_in) (fun _ _ => rfl) (loopsL (l := []) (by kernel_rfl) trivial) (fun x y => by kernel_rfl)
noncomputable def O_config_params : Orc := c_config_in
theorem okO_config_params : OrcOk PR O_config_params := ok_config_in
abbrev fa_config_params : Fm := (.pair (.si .i64) .unit)
abbrev ha_config_params : List BF := []
abbrev fr_config_params : Fm := (.tup (.pair (.i .i64) (.pair .b .unit)))
abbrev hr_config_params : List BF := []
abbrev ff_config_params_0 : Fm := (.pair (.si .i64) (.us 3 (.pair (.i .i64) (.us 6 (.pair (.si .i64) (.pair (.i .i64) (.pair (.i .i64) (.us 23 .unit))))))))
abbrev hf_config_params_0 : List BF := []
abbrev X_config_params_0 : Xs := (.alt (.exit 0) [4] (.us 4 (.pair (.i .i64) (.us 32 .unit))) [] (.one .ret [2, 3] (.us 2 (.pair (.i .i64) (.pair .b (.us 33 .unit)))) []))
abbrev S_config_params_0 : Type := T ff_config_params_0 × TH hf_config_params_0
abbrev E_config_params_0 : Type := TX X_config_params_0
noncomputable def LB_config_params_0 : Lps := L0
noncomputable def st_config_params_0 : StepT S_config_params_0 E_config_params_0 := fun R v kn ko =>
  let x0 : List Int := v.1.2.2.1
  let x1 : Int := v.1.2.2.2.2.1
  let x2 : Int := (List.getD x0 (Int.toNat x1) (0:Int))
  let x3 : List Int := v.1.1
  let x4 : List Int := (List.take (List.length x3) x3)
  let x5 : Int := v.1.2.1
  bif (decide (x1 < v.1.2.2.2.1)) then
    bif (decide (((0:Int) ≤ x1) ∧ (x1 < (((List.length x0) : Nat) : Int)))) then
      ((F_config_in x2 (1:Int) (4096:Int))).bind fun r6 =>
      bif (!r6) then
        (ko (Sum.inr (((0:Int), (false, ())), ())))
      else
        bif (decide (x1 > (0:Int))) then
          bif (decide (((0:Int) ≤ (IntKind.wrap .i64 (x1 - (1:Int)))) ∧ ((IntKind.wrap .i64 (x1 - (1:Int))) < (((List.length x3) : Nat) : Int)))) then
            (kn ((x4, ((IntKind.wrap .i64 (x5 + (IntKind.wrap .i64 ((IntKind.wrap .i64 ((List.getD x3 (Int.toNat (IntKind.wrap .i64 (x1 - (1:Int)))) (0:Int)) + (1:Int))) * x2)))), ((List.take (List.length x0) x0), (v.1.2.2.2.1, ((IntKind.wrap .i64 (x1 + (1:Int))), ()))))), ()))
          else
            none
        else
          (kn ((x4, (x5, ((List.take (List.length x0) x0), (v.1.2.2.2.1, ((IntKind.wrap .i64 (x1 + (1:Int))), ()))))), ()))
    else
      none
  else
    (ko (Sum.inl ((x5, ()), ())))
noncomputable def ls_config_params_0 : St → LTr := (lsum ff_config_params_0 hf_config_params_0 X_config_params_0 Prod.mk id st_config_params_0 (hd [] [] [0, 4, 11, 12, 13] 0))
theorem lp_config_params_0 : LoopOk PR 0 (lpN f_config_params 0) ls_config_params_0 := loopT okO_config_params mixed (L := LB_config_params_0) (d := 1) (bs := []) (ks := [0, 4, 11, 12, 13]) (loopsL (l := []) (by kernel_rfl) trivial) (by kernel_rfl) (inS := Prod.mk) (outS := id) (fun _ _ => rfl) (inX := id) (outX := id) (fun _ => rfl) (fun v R kn ko => by kernel_rfl) (hd_wk [] [] [0, 4, 11, 12, 13] 0)
noncomputable def L_config_params : Lps := (lpB 6 (.by_ ls_config_params_0) L0)
def inn_config_params : T fr_config_params → TH hr_config_params → Int × Bool × Unit := (fun z w => z)
def out_config_params : Int × Bool × Unit → T fr_config_params × TH hr_config_params := fun r => (r, ())
noncomputable def F_config_params (a0 : List Int) : Option (Int × Bool × Unit) :=
  let x0 : List Int := (List.take (List.length a0) a0)
  ((F_config_in (((List.length a0) : Nat) : Int) (2:Int) (65:Int))).bind fun r1 =>
  bif (!r1) then
    (some ((0:Int), (false, ())))
  else
    ((lim st_config_params_0 ((x0, ((0:Int), (x0, ((((List.length a0) : Nat) : Int), ((0:Int), ()))))), ()))).bind fun r2 =>
    els (fun l3 =>
      (some (l3.1.1, ((decide (l3.1.1 ≤ (65536:Int))), ())))) (fun r4 =>
      (some r4.1)) r2
noncomputable def G_config_params : T fa_config_params → TH ha_config_params → Option (Int × Bool × Unit) := fun x y => F_config_params x.1
noncomputable def c_config_params : Orc := ent i_config_params [] 0 (sp fa_config_params ha_config_params fr_config_params hr_config_params G_config_params out_config_params)
theorem ok_config_params : OrcOk PR c_config_params := fnT okO_config_params mixed p_config_params (by kernel_rfl) (by kernel_rfl) (L := L_config_params) (kp := false) (by kernel_rfl) (inn := inn_config_params) (out := out_config_params) (fun _ _ => rfl) (loopsL (l := [((lpN f_config_params 0), ls_config_params_0)]) (by kernel_rfl) ⟨lp_config_params_0, trivial⟩) (fun x y => by kernel_rfl)
noncomputable def O_config_kinds : Orc := c_config_in
theorem okO_config_kinds : OrcOk PR O_config_kinds := ok_config_in
abbrev fa_config_kinds : Fm := (.pair (.agg (.pair (.si .i64) (.pair (.i .i64) (.pair (.i .i64) (.pair (.i .i64) (.pair (.i .i64) (.pair (.i .i64) (.pair (.i .u32) (.pair (.i .u32) (.pair (.i .u32) (.pair (.i .u32) (.pair (.i .u32) (.pair (.i .u32) (.pair (.i .i64) (.pair (.i .i64) (.pair (.i .i64) (.pair (.i .i64) (.pair (.i .u64) (.pair (.i .u32) (.pair .b (.pair (.i .i64) (.pair (.i .i64) (.pair (.i .i64) (.pair (.i .i64) (.pair (.i .i64) (.pair (.i .i64) (.pair (.i .i64) .unit))))))))))))))))))))))))))) .unit)
abbrev ha_config_kinds : List BF := []
abbrev fr_config_kinds : Fm := .b
abbrev hr_config_kinds : List BF := []
noncomputable def L_config_kinds : Lps := L0
def inn_config_kinds : T fr_config_kinds → TH hr_config_kinds → Bool := (fun z w => z)
def out_config_kinds : Bool → T fr_config_kinds × TH hr_config_kinds := fun r => (r, ())
noncomputable def F_config_kinds (a0 : List Int × Int × Int × Int × Int × Int × Int × Int × Int × Int × Int × Int × Int × Int × Int × Int × Int × Int × Bool × Int × Int × Int × Int × Int × Int × Int × Unit) : Option (Bool) :=
  let x0 : Int := a0.2.2.1
  let x1 : Int := a0.2.2.2.1
  let x2 : Int := a0.2.2.2.2.1
  let x3 : Int := a0.2.2.2.2.2.1
  ((F_config_in a0.2.1 (0:Int) (2:Int))).bind fun r4 =>
  bif r4 then
    ((F_config_in x0 (0:Int) (3:Int))).bind fun r5 =>
    bif r5 then
      ((F_config_in x1 (0:Int) (1:Int))).bind fun r6 =>
      bif r6 then
        ((F_config_in x2 (0:Int) (3:Int))).bind fun r7 =>
        bif r7 then
          ((F_config_in x3 (0:Int) (2:Int))).bind fun r8 =>
          (some r8)
        else
          (some false)
      else
        (some false)
    else
      (some false)
  else
    (some false)
noncomputable def G_config_kinds : T fa_config_kinds → TH ha_config_kinds → Option (Bool) := fun x y => F_config_kinds x.1
noncomputable def c_config_kinds : Orc := ent i_config_kinds [] 0 (sp fa_config_kinds ha_config_kinds fr_config_kinds hr_config_kinds G_config_kinds out_config_kinds)
theorem ok_config_kinds : OrcOk PR c_config_kinds := fnT okO_config_kinds mixed p_config_kinds (by kernel_rfl) (by kernel_rfl) (L := L_config_kinds) (kp := false) (by kernel_rfl) (inn := inn_config_kinds) (out := out_config_kinds) (fun _ _ => rfl) (loopsL (l := []) (by kernel_rfl) trivial) (fun x y => by kernel_rfl)
noncomputable def O_format_Widths : Orc := orn
theorem okO_format_Widths : OrcOk PR O_format_Widths := (orn_ok _)
abbrev fa_format_Widths : Fm := (.pair (.i .i64) .unit)
abbrev ha_format_Widths : List BF := []
abbrev fr_format_Widths : Fm := (.tup (.pair (.i .i64) (.pair (.i .i64) .unit)))
abbrev hr_format_Widths : List BF := []
noncomputable def L_format_Widths : Lps := L0
def inn_format_Widths : T fr_format_Widths → TH hr_format_Widths → Int × Int × Unit := (fun z w => z)
def out_format_Widths : Int × Int × Unit → T fr_format_Widths × TH hr_format_Widths := fun r => (r, ())
noncomputable def F_format_Widths (a0 : Int) : Option (Int × Int × Unit) :=
  bif (a0 == (0:Int)) then
    (some ((5:Int), ((10:Int), ())))
  else
    bif (a0 == (1:Int)) then
      (some ((8:Int), ((7:Int), ())))
    else
      (some ((8:Int), ((23:Int), ())))
noncomputable def G_format_Widths : T fa_format_Widths → TH ha_format_Widths → Option (Int × Int × Unit) := fun x y => F_format_Widths x.1
noncomputable def c_format_Widths : Orc := ent i_format_Widths [] 0 (sp fa_format_Widths ha_format_Widths fr_format_Widths hr_format_Widths G_format_Widths out_format_Widths)
theorem ok_format_Widths : OrcOk PR c_format_Widths := fnT okO_format_Widths mixed p_format_Widths (by kernel_rfl) (by kernel_rfl) (L := L_format_Widths) (kp := false) (by kernel_rfl) (inn := inn_format_Widths) (out := out_format_Widths) (fun _ _ => rfl) (loopsL (l := []) (by kernel_rfl) trivial) (fun x y => by kernel_rfl)
noncomputable def O_format_Parts : Orc := c_format_Widths
theorem okO_format_Parts : OrcOk PR O_format_Parts := ok_format_Widths
abbrev fa_format_Parts : Fm := (.pair (.i .i64) (.pair (.i .u32) .unit))
abbrev ha_format_Parts : List BF := []
abbrev fr_format_Parts : Fm := (.tup (.pair .b (.pair (.i .i64) (.pair (.i .u32) .unit))))
abbrev hr_format_Parts : List BF := []
noncomputable def L_format_Parts : Lps := L0
def inn_format_Parts : T fr_format_Parts → TH hr_format_Parts → Bool × Int × Int × Unit := (fun z w => z)
def out_format_Parts : Bool × Int × Int × Unit → T fr_format_Parts × TH hr_format_Parts := fun r => (r, ())
noncomputable def F_format_Parts (a0 : Int) (a1 : Int) : Option (Bool × Int × Int × Unit) :=
  ((F_format_Widths a0)).bind fun r0 =>
  let x1 : Int := ((2:Int) ^ (Min.min (Int.toNat (IntKind.wrap .u64 r0.2.1)) (32:Nat)))
  bif (decide ((0:Int) ≤ (IntKind.wrap .u64 (IntKind.wrap .i64 (r0.1 + r0.2.1))))) then
    bif (decide ((0:Int) ≤ (IntKind.wrap .u64 r0.2.1))) then
      bif (decide ((0:Int) ≤ (IntKind.wrap .u64 r0.1))) then
        bif (decide ((0:Int) ≤ (IntKind.wrap .u64 r0.2.1))) then
          (some (((bits .and .u32 (a1 / ((2:Int) ^ (Min.min (Int.toNat (IntKind.wrap .u64 (IntKind.wrap .i64 (r0.1 + r0.2.1)))) (32:Nat)))) (1:Int)) == (1:Int)), ((IntKind.wrap .i64 (bits .and .u32 (a1 / x1) (IntKind.wrap .u32 ((IntKind.wrap .u32 ((1:Int) * ((2:Int) ^ (Min.min (Int.toNat (IntKind.wrap .u64 r0.1)) (32:Nat))))) - (1:Int))))), ((bits .and .u32 a1 (IntKind.wrap .u32 ((IntKind.wrap .u32 ((1:Int) * x1)) - (1:Int)))), ()))))
        else
          none
      else
        none
    else
      none
  else
    none
noncomputable def G_format_Parts : T fa_format_Parts → TH ha_format_Parts → Option (Bool × Int × Int × Unit) := fun x y => F_format_Parts x.1 x.2.1
noncomputable def c_format_Parts : Orc := ent i_format_Parts [] 0 (sp fa_format_Parts ha_format_Parts fr_format_Parts hr_format_Parts G_format_Parts out_format_Parts)
theorem ok_format_Parts : OrcOk PR c_format_Parts := fnT okO_format_Parts mixed p_format_Parts (by kernel_rfl) (by kernel_rfl) (L := L_format_Parts) (kp := false) (by kernel_rfl) (inn := inn_format_Parts) (out := out_format_Parts) (fun _ _ => rfl) (loopsL (l := []) (by kernel_rfl) trivial) (fun x y => by kernel_rfl)
noncomputable def O_format_Top : Orc := c_format_Widths
theorem okO_format_Top : OrcOk PR O_format_Top := ok_format_Widths
abbrev fa_format_Top : Fm := (.pair (.i .i64) .unit)
abbrev ha_format_Top : List BF := []
abbrev fr_format_Top : Fm := (.i .i64)
abbrev hr_format_Top : List BF := []
noncomputable def L_format_Top : Lps := L0
def inn_format_Top : T fr_format_Top → TH hr_format_Top → Int := (fun z w => z)
def out_format_Top : Int → T fr_format_Top × TH hr_format_Top := fun r => (r, ())
noncomputable def F_format_Top (a0 : Int) : Option (Int) :=
  ((F_format_Widths a0)).bind fun r0 =>
  bif (decide ((0:Int) ≤ (IntKind.wrap .u64 r0.1))) then
    (some (IntKind.wrap .i64 ((IntKind.wrap .i64 ((1:Int) * ((2:Int) ^ (Min.min (Int.toNat (IntKind.wrap .u64 r0.1)) (64:Nat))))) - (1:Int))))
  else
    none
noncomputable def G_format_Top : T fa_format_Top → TH ha_format_Top → Option (Int) := fun x y => F_format_Top x.1
noncomputable def c_format_Top : Orc := ent i_format_Top [] 0 (sp fa_format_Top ha_format_Top fr_format_Top hr_format_Top G_format_Top out_format_Top)
theorem ok_format_Top : OrcOk PR c_format_Top := fnT okO_format_Top mixed p_format_Top (by kernel_rfl) (by kernel_rfl) (L := L_format_Top) (kp := false) (by kernel_rfl) (inn := inn_format_Top) (out := out_format_Top) (fun _ _ => rfl) (loopsL (l := []) (by kernel_rfl) trivial) (fun x y => by kernel_rfl)
noncomputable def O_format_Finite : Orc := (orm c_format_Parts c_format_Top)
theorem okO_format_Finite : OrcOk PR O_format_Finite := (orm_ok ok_format_Parts ok_format_Top)
abbrev fa_format_Finite : Fm := (.pair (.i .i64) (.pair (.i .u32) .unit))
abbrev ha_format_Finite : List BF := []
abbrev fr_format_Finite : Fm := .b
abbrev hr_format_Finite : List BF := []
noncomputable def L_format_Finite : Lps := L0
def inn_format_Finite : T fr_format_Finite → TH hr_format_Finite → Bool := (fun z w => z)
def out_format_Finite : Bool → T fr_format_Finite × TH hr_format_Finite := fun r => (r, ())
noncomputable def F_format_Finite (a0 : Int) (a1 : Int) : Option (Bool) :=
  ((F_format_Parts a0 a1)).bind fun r0 =>
  ((F_format_Top a0)).bind fun r1 =>
  (some (decide (r0.2.1 < r1)))
noncomputable def G_format_Finite : T fa_format_Finite → TH ha_format_Finite → Option (Bool) := fun x y => F_format_Finite x.1 x.2.1
noncomputable def c_format_Finite : Orc := ent i_format_Finite [] 0 (sp fa_format_Finite ha_format_Finite fr_format_Finite hr_format_Finite G_format_Finite out_format_Finite)
theorem ok_format_Finite : OrcOk PR c_format_Finite := fnT okO_format_Finite mixed p_format_Finite (by kernel_rfl) (by kernel_rfl) (L := L_format_Finite) (kp := false) (by kernel_rfl) (inn := inn_format_Finite) (out := out_format_Finite) (fun _ _ => rfl) (loopsL (l := []) (by kernel_rfl) trivial) (fun x y => by kernel_rfl)
noncomputable def O_format_Neg : Orc := c_format_Parts
theorem okO_format_Neg : OrcOk PR O_format_Neg := ok_format_Parts
abbrev fa_format_Neg : Fm := (.pair (.i .i64) (.pair (.i .u32) .unit))
abbrev ha_format_Neg : List BF := []
abbrev fr_format_Neg : Fm := .b
abbrev hr_format_Neg : List BF := []
noncomputable def L_format_Neg : Lps := L0
def inn_format_Neg : T fr_format_Neg → TH hr_format_Neg → Bool := (fun z w => z)
def out_format_Neg : Bool → T fr_format_Neg × TH hr_format_Neg := fun r => (r, ())
noncomputable def F_format_Neg (a0 : Int) (a1 : Int) : Option (Bool) :=
  ((F_format_Parts a0 a1)).bind fun r0 =>
  (some r0.1)
noncomputable def G_format_Neg : T fa_format_Neg → TH ha_format_Neg → Option (Bool) := fun x y => F_format_Neg x.1 x.2.1
noncomputable def c_format_Neg : Orc := ent i_format_Neg [] 0 (sp fa_format_Neg ha_format_Neg fr_format_Neg hr_format_Neg G_format_Neg out_format_Neg)
theorem ok_format_Neg : OrcOk PR c_format_Neg := fnT okO_format_Neg mixed p_format_Neg (by kernel_rfl) (by kernel_rfl) (L := L_format_Neg) (kp := false) (by kernel_rfl) (inn := inn_format_Neg) (out := out_format_Neg) (fun _ _ => rfl) (loopsL (l := []) (by kernel_rfl) trivial) (fun x y => by kernel_rfl)
noncomputable def O_config_positive : Orc := (orm c_format_Finite c_format_Neg)
theorem okO_config_positive : OrcOk PR O_config_positive := (orm_ok ok_format_Finite ok_format_Neg)
abbrev fa_config_positive : Fm := (.pair (.i .u32) .unit)
abbrev ha_config_positive : List BF := []
abbrev fr_config_positive : Fm := .b
abbrev hr_config_positive : List BF := []
noncomputable def L_config_positive : Lps := L0
def inn_config_positive : T fr_config_positive → TH hr_config_positive → Bool := (fun z w => z)
def out_config_positive : Bool → T fr_config_positive × TH hr_config_positive := fun r => (r, ())
noncomputable def F_config_positive (a0 : Int) : Option (Bool) :=
  bif (decide ((IntKind.wrap .i64 (bits .and .u32 (a0 / (8388608:Int)) (255:Int))) < (255:Int))) then
    (some (!((bits .and .u32 (a0 / (2147483648:Int)) (1:Int)) == (1:Int))))
  else
    (some false)
noncomputable def G_config_positive : T fa_config_positive → TH ha_config_positive → Option (Bool) := fun x y => F_config_positive x.1
noncomputable def c_config_positive : Orc := ent i_config_positive [] 0 (sp fa_config_positive ha_config_positive fr_config_positive hr_config_positive G_config_positive out_config_positive)
theorem ok_config_positive : OrcOk PR c_config_positive := fnT okO_config_positive mixed p_config_positive (by kernel_rfl) (by kernel_rfl) (L := L_config_positive) (kp := false) (by kernel_rfl) (inn := inn_config_positive) (out := out_config_positive) (fun _ _ => rfl) (loopsL (l := []) (by kernel_rfl) trivial) (fun x y => by kernel_rfl)
noncomputable def O_format_Class : Orc := (orm c_format_Widths (orm c_format_Parts c_format_Top))
theorem okO_format_Class : OrcOk PR O_format_Class := (orm_ok ok_format_Widths (orm_ok ok_format_Parts ok_format_Top))
abbrev fa_format_Class : Fm := (.pair (.i .i64) (.pair (.i .u32) .unit))
abbrev ha_format_Class : List BF := []
abbrev fr_format_Class : Fm := (.i .i64)
abbrev hr_format_Class : List BF := []
noncomputable def L_format_Class : Lps := L0
def inn_format_Class : T fr_format_Class → TH hr_format_Class → Int := (fun z w => z)
def out_format_Class : Int → T fr_format_Class × TH hr_format_Class := fun r => (r, ())
noncomputable def F_format_Class (a0 : Int) (a1 : Int) : Option (Int) :=
  ((F_format_Widths a0)).bind fun r0 =>
  ((F_format_Parts a0 a1)).bind fun r1 =>
  let x2 : Bool := (r1.2.1 == (0:Int))
  let x3 : Int := r1.2.2.1
  let x4 : Bool := (x3 == (0:Int))
  let x5 : Bool := ((x3 / ((2:Int) ^ (Min.min (Int.toNat (IntKind.wrap .u64 (IntKind.wrap .i64 (r0.2.1 - (1:Int))))) (32:Nat)))) == (1:Int))
  bif x2 then
    bif x4 then
      (some (0:Int))
    else
      bif x2 then
        (some (1:Int))
      else
        ((F_format_Top a0)).bind fun r6 =>
        bif (decide (r1.2.1 < r6)) then
          (some (2:Int))
        else
          bif x4 then
            (some (3:Int))
          else
            bif (decide ((0:Int) ≤ (IntKind.wrap .u64 (IntKind.wrap .i64 (r0.2.1 - (1:Int)))))) then
              bif x5 then
                (some (4:Int))
              else
                (some (5:Int))
            else
              none
  else
    bif x2 then
      (some (1:Int))
    else
      ((F_format_Top a0)).bind fun r7 =>
      bif (decide (r1.2.1 < r7)) then
        (some (2:Int))
      else
        bif x4 then
          (some (3:Int))
        else
          bif (decide ((0:Int) ≤ (IntKind.wrap .u64 (IntKind.wrap .i64 (r0.2.1 - (1:Int)))))) then
            bif x5 then
              (some (4:Int))
            else
              (some (5:Int))
          else
            none
noncomputable def G_format_Class : T fa_format_Class → TH ha_format_Class → Option (Int) := fun x y => F_format_Class x.1 x.2.1
noncomputable def c_format_Class : Orc := ent i_format_Class [] 0 (sp fa_format_Class ha_format_Class fr_format_Class hr_format_Class G_format_Class out_format_Class)
theorem ok_format_Class : OrcOk PR c_format_Class := fnT okO_format_Class mixed p_format_Class (by kernel_rfl) (by kernel_rfl) (L := L_format_Class) (kp := false) (by kernel_rfl) (inn := inn_format_Class) (out := out_format_Class) (fun _ _ => rfl) (loopsL (l := []) (by kernel_rfl) trivial) (fun x y => by kernel_rfl)
noncomputable def O_format_IsNan : Orc := c_format_Class
theorem okO_format_IsNan : OrcOk PR O_format_IsNan := ok_format_Class
abbrev fa_format_IsNan : Fm := (.pair (.i .i64) (.pair (.i .u32) .unit))
abbrev ha_format_IsNan : List BF := []
abbrev fr_format_IsNan : Fm := .b
abbrev hr_format_IsNan : List BF := []
noncomputable def L_format_IsNan : Lps := L0
def inn_format_IsNan : T fr_format_IsNan → TH hr_format_IsNan → Bool := (fun z w => z)
def out_format_IsNan : Bool → T fr_format_IsNan × TH hr_format_IsNan := fun r => (r, ())
noncomputable def F_format_IsNan (a0 : Int) (a1 : Int) : Option (Bool) :=
  ((F_format_Class a0 a1)).bind fun r0 =>
  (some (decide (r0 ≥ (4:Int))))
noncomputable def G_format_IsNan : T fa_format_IsNan → TH ha_format_IsNan → Option (Bool) := fun x y => F_format_IsNan x.1 x.2.1
noncomputable def c_format_IsNan : Orc := ent i_format_IsNan [] 0 (sp fa_format_IsNan ha_format_IsNan fr_format_IsNan hr_format_IsNan G_format_IsNan out_format_IsNan)
theorem ok_format_IsNan : OrcOk PR c_format_IsNan := fnT okO_format_IsNan mixed p_format_IsNan (by kernel_rfl) (by kernel_rfl) (L := L_format_IsNan) (kp := false) (by kernel_rfl) (inn := inn_format_IsNan) (out := out_format_IsNan) (fun _ _ => rfl) (loopsL (l := []) (by kernel_rfl) trivial) (fun x y => by kernel_rfl)
noncomputable def O_format_Mask : Orc := c_format_Widths
theorem okO_format_Mask : OrcOk PR O_format_Mask := ok_format_Widths
abbrev fa_format_Mask : Fm := (.pair (.i .i64) .unit)
abbrev ha_format_Mask : List BF := []
abbrev fr_format_Mask : Fm := (.i .u32)
abbrev hr_format_Mask : List BF := []
noncomputable def L_format_Mask : Lps := L0
def inn_format_Mask : T fr_format_Mask → TH hr_format_Mask → Int := (fun z w => z)
def out_format_Mask : Int → T fr_format_Mask × TH hr_format_Mask := fun r => (r, ())
noncomputable def F_format_Mask (a0 : Int) : Option (Int) :=
  ((F_format_Widths a0)).bind fun r0 =>
  bif (decide ((0:Int) ≤ (IntKind.wrap .u64 (IntKind.wrap .i64 ((IntKind.wrap .i64 (r0.1 + r0.2.1)) + (1:Int)))))) then
    (some (IntKind.wrap .u32 ((IntKind.wrap .u32 ((1:Int) * ((2:Int) ^ (Min.min (Int.toNat (IntKind.wrap .u64 (IntKind.wrap .i64 ((IntKind.wrap .i64 (r0.1 + r0.2.1)) + (1:Int))))) (32:Nat))))) - (1:Int))))
  else
    none
noncomputable def G_format_Mask : T fa_format_Mask → TH ha_format_Mask → Option (Int) := fun x y => F_format_Mask x.1
noncomputable def c_format_Mask : Orc := ent i_format_Mask [] 0 (sp fa_format_Mask ha_format_Mask fr_format_Mask hr_format_Mask G_format_Mask out_format_Mask)
theorem ok_format_Mask : OrcOk PR c_format_Mask := fnT okO_format_Mask mixed p_format_Mask (by kernel_rfl) (by kernel_rfl) (L := L_format_Mask) (kp := false) (by kernel_rfl) (inn := inn_format_Mask) (out := out_format_Mask) (fun _ _ => rfl) (loopsL (l := []) (by kernel_rfl) trivial) (fun x y => by kernel_rfl)
noncomputable def O_format_Turn : Orc := (orm c_format_Widths c_format_Mask)
theorem okO_format_Turn : OrcOk PR O_format_Turn := (orm_ok ok_format_Widths ok_format_Mask)
abbrev fa_format_Turn : Fm := (.pair (.i .i64) (.pair (.i .u32) .unit))
abbrev ha_format_Turn : List BF := []
abbrev fr_format_Turn : Fm := (.i .u32)
abbrev hr_format_Turn : List BF := []
noncomputable def L_format_Turn : Lps := L0
def inn_format_Turn : T fr_format_Turn → TH hr_format_Turn → Int := (fun z w => z)
def out_format_Turn : Int → T fr_format_Turn × TH hr_format_Turn := fun r => (r, ())
noncomputable def F_format_Turn (a0 : Int) (a1 : Int) : Option (Int) :=
  ((F_format_Widths a0)).bind fun r0 =>
  ((F_format_Mask a0)).bind fun r1 =>
  bif (decide ((0:Int) ≤ (IntKind.wrap .u64 (IntKind.wrap .i64 (r0.1 + r0.2.1))))) then
    (some (bits .xor .u32 (bits .and .u32 a1 r1) (IntKind.wrap .u32 ((1:Int) * ((2:Int) ^ (Min.min (Int.toNat (IntKind.wrap .u64 (IntKind.wrap .i64 (r0.1 + r0.2.1)))) (32:Nat)))))))
  else
    none
noncomputable def G_format_Turn : T fa_format_Turn → TH ha_format_Turn → Option (Int) := fun x y => F_format_Turn x.1 x.2.1
noncomputable def c_format_Turn : Orc := ent i_format_Turn [] 0 (sp fa_format_Turn ha_format_Turn fr_format_Turn hr_format_Turn G_format_Turn out_format_Turn)
theorem ok_format_Turn : OrcOk PR c_format_Turn := fnT okO_format_Turn mixed p_format_Turn (by kernel_rfl) (by kernel_rfl) (L := L_format_Turn) (kp := false) (by kernel_rfl) (inn := inn_format_Turn) (out := out_format_Turn) (fun _ _ => rfl) (loopsL (l := []) (by kernel_rfl) trivial) (fun x y => by kernel_rfl)
noncomputable def O_order_Key : Orc := (orm c_format_Mask (orm c_format_Neg c_format_Turn))
theorem okO_order_Key : OrcOk PR O_order_Key := (orm_ok ok_format_Mask (orm_ok ok_format_Neg ok_format_Turn))
abbrev fa_order_Key : Fm := (.pair (.i .i64) (.pair (.i .u32) .unit))
abbrev ha_order_Key : List BF := []
abbrev fr_order_Key : Fm := (.i .i64)
abbrev hr_order_Key : List BF := []
noncomputable def L_order_Key : Lps := L0
def inn_order_Key : T fr_order_Key → TH hr_order_Key → Int := (fun z w => z)
def out_order_Key : Int → T fr_order_Key × TH hr_order_Key := fun r => (r, ())
noncomputable def F_order_Key (a0 : Int) (a1 : Int) : Option (Int) :=
  ((F_format_Mask a0)).bind fun r0 =>
  ((F_format_Neg a0 a1)).bind fun r1 =>
  bif (!r1) then
    (some (IntKind.wrap .i64 (bits .and .u32 a1 r0)))
  else
    ((F_format_Turn a0 a1)).bind fun r2 =>
    (some (IntKind.wrap .i64 ((-(1:Int)) - (IntKind.wrap .i64 r2))))
noncomputable def G_order_Key : T fa_order_Key → TH ha_order_Key → Option (Int) := fun x y => F_order_Key x.1 x.2.1
noncomputable def c_order_Key : Orc := ent i_order_Key [] 0 (sp fa_order_Key ha_order_Key fr_order_Key hr_order_Key G_order_Key out_order_Key)
theorem ok_order_Key : OrcOk PR c_order_Key := fnT okO_order_Key mixed p_order_Key (by kernel_rfl) (by kernel_rfl) (L := L_order_Key) (kp := false) (by kernel_rfl) (inn := inn_order_Key) (out := out_order_Key) (fun _ _ => rfl) (loopsL (l := []) (by kernel_rfl) trivial) (fun x y => by kernel_rfl)
noncomputable def O_format_IsZero : Orc := c_format_Class
theorem okO_format_IsZero : OrcOk PR O_format_IsZero := ok_format_Class
abbrev fa_format_IsZero : Fm := (.pair (.i .i64) (.pair (.i .u32) .unit))
abbrev ha_format_IsZero : List BF := []
abbrev fr_format_IsZero : Fm := .b
abbrev hr_format_IsZero : List BF := []
noncomputable def L_format_IsZero : Lps := L0
def inn_format_IsZero : T fr_format_IsZero → TH hr_format_IsZero → Bool := (fun z w => z)
def out_format_IsZero : Bool → T fr_format_IsZero × TH hr_format_IsZero := fun r => (r, ())
noncomputable def F_format_IsZero (a0 : Int) (a1 : Int) : Option (Bool) :=
  ((F_format_Class a0 a1)).bind fun r0 =>
  (some (r0 == (0:Int)))
noncomputable def G_format_IsZero : T fa_format_IsZero → TH ha_format_IsZero → Option (Bool) := fun x y => F_format_IsZero x.1 x.2.1
noncomputable def c_format_IsZero : Orc := ent i_format_IsZero [] 0 (sp fa_format_IsZero ha_format_IsZero fr_format_IsZero hr_format_IsZero G_format_IsZero out_format_IsZero)
theorem ok_format_IsZero : OrcOk PR c_format_IsZero := fnT okO_format_IsZero mixed p_format_IsZero (by kernel_rfl) (by kernel_rfl) (L := L_format_IsZero) (kp := false) (by kernel_rfl) (inn := inn_format_IsZero) (out := out_format_IsZero) (fun _ _ => rfl) (loopsL (l := []) (by kernel_rfl) trivial) (fun x y => by kernel_rfl)
noncomputable def O_order_Compare : Orc := (orm c_format_IsNan (orm c_order_Key c_format_IsZero))
theorem okO_order_Compare : OrcOk PR O_order_Compare := (orm_ok ok_format_IsNan (orm_ok ok_order_Key ok_format_IsZero))
abbrev fa_order_Compare : Fm := (.pair (.i .i64) (.pair (.i .u32) (.pair (.i .u32) .unit)))
abbrev ha_order_Compare : List BF := []
abbrev fr_order_Compare : Fm := (.tup (.pair (.i .i64) (.pair .b .unit)))
abbrev hr_order_Compare : List BF := []
noncomputable def L_order_Compare : Lps := L0
def inn_order_Compare : T fr_order_Compare → TH hr_order_Compare → Int × Bool × Unit := (fun z w => z)
def out_order_Compare : Int × Bool × Unit → T fr_order_Compare × TH hr_order_Compare := fun r => (r, ())
noncomputable def F_order_Compare (a0 : Int) (a1 : Int) (a2 : Int) : Option (Int × Bool × Unit) :=
  ((F_format_IsNan a0 a1)).bind fun r0 =>
  bif r0 then
    (some ((0:Int), (false, ())))
  else
    ((F_format_IsNan a0 a2)).bind fun r1 =>
    bif r1 then
      (some ((0:Int), (false, ())))
    else
      ((F_order_Key a0 a1)).bind fun r2 =>
      ((F_order_Key a0 a2)).bind fun r3 =>
      ((F_format_IsZero a0 a1)).bind fun r4 =>
      bif r4 then
        ((F_format_IsZero a0 a2)).bind fun r5 =>
        bif r5 then
          (some ((0:Int), (true, ())))
        else
          bif (decide (r2 < r3)) then
            (some ((-(1:Int)), (true, ())))
          else
            bif (decide (r2 > r3)) then
              (some ((1:Int), (true, ())))
            else
              (some ((0:Int), (true, ())))
      else
        bif (decide (r2 < r3)) then
          (some ((-(1:Int)), (true, ())))
        else
          bif (decide (r2 > r3)) then
            (some ((1:Int), (true, ())))
          else
            (some ((0:Int), (true, ())))
noncomputable def G_order_Compare : T fa_order_Compare → TH ha_order_Compare → Option (Int × Bool × Unit) := fun x y => F_order_Compare x.1 x.2.1 x.2.2.1
noncomputable def c_order_Compare : Orc := ent i_order_Compare [] 0 (sp fa_order_Compare ha_order_Compare fr_order_Compare hr_order_Compare G_order_Compare out_order_Compare)
theorem ok_order_Compare : OrcOk PR c_order_Compare := fnT okO_order_Compare mixed p_order_Compare (by kernel_rfl) (by kernel_rfl) (L := L_order_Compare) (kp := false) (by kernel_rfl) (inn := inn_order_Compare) (out := out_order_Compare) (fun _ _ => rfl) (loopsL (l := []) (by kernel_rfl) trivial) (fun x y => by kernel_rfl)
noncomputable def O_order_Less : Orc := c_order_Compare
theorem okO_order_Less : OrcOk PR O_order_Less := ok_order_Compare
abbrev fa_order_Less : Fm := (.pair (.i .i64) (.pair (.i .u32) (.pair (.i .u32) .unit)))
abbrev ha_order_Less : List BF := []
abbrev fr_order_Less : Fm := .b
abbrev hr_order_Less : List BF := []
noncomputable def L_order_Less : Lps := L0
def inn_order_Less : T fr_order_Less → TH hr_order_Less → Bool := (fun z w => z)
def out_order_Less : Bool → T fr_order_Less × TH hr_order_Less := fun r => (r, ())
noncomputable def F_order_Less (a0 : Int) (a1 : Int) (a2 : Int) : Option (Bool) :=
  ((F_order_Compare a0 a1 a2)).bind fun r0 =>
  (some (decide (r0.1 < (0:Int))))
noncomputable def G_order_Less : T fa_order_Less → TH ha_order_Less → Option (Bool) := fun x y => F_order_Less x.1 x.2.1 x.2.2.1
noncomputable def c_order_Less : Orc := ent i_order_Less [] 0 (sp fa_order_Less ha_order_Less fr_order_Less hr_order_Less G_order_Less out_order_Less)
theorem ok_order_Less : OrcOk PR c_order_Less := fnT okO_order_Less mixed p_order_Less (by kernel_rfl) (by kernel_rfl) (L := L_order_Less) (kp := false) (by kernel_rfl) (inn := inn_order_Less) (out := out_order_Less) (fun _ _ => rfl) (loopsL (l := []) (by kernel_rfl) trivial) (fun x y => by kernel_rfl)
noncomputable def O_funcs_Above : Orc := c_order_Less
theorem okO_funcs_Above : OrcOk PR O_funcs_Above := ok_order_Less
abbrev fa_funcs_Above : Fm := (.pair (.i .u32) (.pair (.i .u32) .unit))
abbrev ha_funcs_Above : List BF := []
abbrev fr_funcs_Above : Fm := .b
abbrev hr_funcs_Above : List BF := []
noncomputable def L_funcs_Above : Lps := L0
def inn_funcs_Above : T fr_funcs_Above → TH hr_funcs_Above → Bool := (fun z w => z)
def out_funcs_Above : Bool → T fr_funcs_Above × TH hr_funcs_Above := fun r => (r, ())
noncomputable def F_funcs_Above (a0 : Int) (a1 : Int) : Option (Bool) :=
  ((F_order_Less (2:Int) a1 a0)).bind fun r0 =>
  (some r0)
noncomputable def G_funcs_Above : T fa_funcs_Above → TH ha_funcs_Above → Option (Bool) := fun x y => F_funcs_Above x.1 x.2.1
noncomputable def c_funcs_Above : Orc := ent i_funcs_Above [] 0 (sp fa_funcs_Above ha_funcs_Above fr_funcs_Above hr_funcs_Above G_funcs_Above out_funcs_Above)
theorem ok_funcs_Above : OrcOk PR c_funcs_Above := fnT okO_funcs_Above mixed p_funcs_Above (by kernel_rfl) (by kernel_rfl) (L := L_funcs_Above) (kp := false) (by kernel_rfl) (inn := inn_funcs_Above) (out := out_funcs_Above) (fun _ _ => rfl) (loopsL (l := []) (by kernel_rfl) trivial) (fun x y => by kernel_rfl)
noncomputable def O_config_numbers : Orc := (orm c_config_positive c_funcs_Above)
theorem okO_config_numbers : OrcOk PR O_config_numbers := (orm_ok ok_config_positive ok_funcs_Above)
abbrev fa_config_numbers : Fm := (.pair (.agg (.pair (.si .i64) (.pair (.i .i64) (.pair (.i .i64) (.pair (.i .i64) (.pair (.i .i64) (.pair (.i .i64) (.pair (.i .u32) (.pair (.i .u32) (.pair (.i .u32) (.pair (.i .u32) (.pair (.i .u32) (.pair (.i .u32) (.pair (.i .i64) (.pair (.i .i64) (.pair (.i .i64) (.pair (.i .i64) (.pair (.i .u64) (.pair (.i .u32) (.pair .b (.pair (.i .i64) (.pair (.i .i64) (.pair (.i .i64) (.pair (.i .i64) (.pair (.i .i64) (.pair (.i .i64) (.pair (.i .i64) .unit))))))))))))))))))))))))))) .unit)
abbrev ha_config_numbers : List BF := []
abbrev fr_config_numbers : Fm := .b
abbrev hr_config_numbers : List BF := []
noncomputable def L_config_numbers : Lps := (lpB 3 (.un 7 [1, 17, 18, 19]) L0)
def inn_config_numbers : T fr_config_numbers → TH hr_config_numbers → Bool := (fun z w => z)
def out_config_numbers : Bool → T fr_config_numbers × TH hr_config_numbers := fun r => (r, ())
noncomputable def F_config_numbers (a0 : List Int × Int × Int × Int × Int × Int × Int × Int × Int × Int × Int × Int × Int × Int × Int × Int × Int × Int × Bool × Int × Int × Int × Int × Int × Int × Int × Unit) : Option (Bool) :=
  let x0 : Int := a0.2.2.2.2.2.2.1
  let x1 : Int := a0.2.2.2.2.2.2.2.1
  let x2 : Int := a0.2.2.2.2.2.2.2.2.1
  let x3 : Int := a0.2.2.2.2.2.2.2.2.2.1
  let x4 : Int := a0.2.2.2.2.2.2.2.2.2.2.1
  let x5 : Int := a0.2.2.2.2.2.2.2.2.2.2.2.1
  let x6 : List Int := [x0, x1, x2, x3, x4, x5]
  ((F_config_positive (List.getD x6 (0:Nat) (0:Int)))).bind fun r7 =>
  bif (!r7) then
    (some false)
  else
    ((F_config_positive (List.getD x6 (1:Nat) (0:Int)))).bind fun r8 =>
    bif (!r8) then
      (some false)
    else
      ((F_config_positive (List.getD x6 (2:Nat) (0:Int)))).bind fun r9 =>
      bif (!r9) then
        (some false)
      else
        ((F_config_positive (List.getD x6 (3:Nat) (0:Int)))).bind fun r10 =>
        bif (!r10) then
          (some false)
        else
          ((F_config_positive (List.getD x6 (4:Nat) (0:Int)))).bind fun r11 =>
          bif (!r11) then
            (some false)
          else
            ((F_config_positive (List.getD x6 (5:Nat) (0:Int)))).bind fun r12 =>
            bif (!r12) then
              (some false)
            else
              ((F_funcs_Above (1065353216:Int) x1)).bind fun r13 =>
              bif r13 then
                ((F_funcs_Above (1065353216:Int) x2)).bind fun r14 =>
                bif r14 then
                  ((F_funcs_Above x3 (0:Int))).bind fun r15 =>
                  (some r15)
                else
                  (some false)
              else
                (some false)
noncomputable def G_config_numbers : T fa_config_numbers → TH ha_config_numbers → Option (Bool) := fun x y => F_config_numbers x.1
noncomputable def c_config_numbers : Orc := ent i_config_numbers [] 0 (sp fa_config_numbers ha_config_numbers fr_config_numbers hr_config_numbers G_config_numbers out_config_numbers)
theorem ok_config_numbers : OrcOk PR c_config_numbers := fnT okO_config_numbers mixed p_config_numbers (by kernel_rfl) (by kernel_rfl) (L := L_config_numbers) (kp := false) (by kernel_rfl) (inn := inn_config_numbers) (out := out_config_numbers) (fun _ _ => rfl) (loopsL (l := []) (by kernel_rfl) trivial) (fun x y => by kernel_rfl)
noncomputable def O_config_counts : Orc := c_config_in
theorem okO_config_counts : OrcOk PR O_config_counts := ok_config_in
abbrev fa_config_counts : Fm := (.pair (.agg (.pair (.si .i64) (.pair (.i .i64) (.pair (.i .i64) (.pair (.i .i64) (.pair (.i .i64) (.pair (.i .i64) (.pair (.i .u32) (.pair (.i .u32) (.pair (.i .u32) (.pair (.i .u32) (.pair (.i .u32) (.pair (.i .u32) (.pair (.i .i64) (.pair (.i .i64) (.pair (.i .i64) (.pair (.i .i64) (.pair (.i .u64) (.pair (.i .u32) (.pair .b (.pair (.i .i64) (.pair (.i .i64) (.pair (.i .i64) (.pair (.i .i64) (.pair (.i .i64) (.pair (.i .i64) (.pair (.i .i64) .unit))))))))))))))))))))))))))) .unit)
abbrev ha_config_counts : List BF := []
abbrev fr_config_counts : Fm := .b
abbrev hr_config_counts : List BF := []
noncomputable def L_config_counts : Lps := L0
def inn_config_counts : T fr_config_counts → TH hr_config_counts → Bool := (fun z w => z)
def out_config_counts : Bool → T fr_config_counts × TH hr_config_counts := fun r => (r, ())
noncomputable def F_config_counts (a0 : List Int × Int × Int × Int × Int × Int × Int × Int × Int × Int × Int × Int × Int × Int × Int × Int × Int × Int × Bool × Int × Int × Int × Int × Int × Int × Int × Unit) : Option (Bool) :=
  let x0 : Int := a0.2.2.2.2.2.2.2.2.2.2.2.2.2.1
  let x1 : Int := a0.2.2.2.2.2.2.2.2.2.2.2.2.1
  let x2 : Int := a0.2.2.2.2.2.2.2.2.2.2.2.2.2.2.1
  let x3 : Int := a0.2.2.2.2.2.2.2.2.2.2.2.2.2.2.2.1
  let x4 : Int := a0.2.2.2.2.2.2.2.2.2.2.2.2.2.2.2.2.2.2.2.2.2.1
  let x5 : Int := a0.2.2.2.2.2.2.2.2.2.2.2.2.2.2.2.2.2.2.2.2.1
  let x6 : Int := a0.2.2.2.2.2.2.2.2.2.2.2.2.2.2.2.2.2.2.2.1
  let x7 : Int := a0.2.2.2.2.2.2.2.2.2.2.2.2.2.2.2.2.2.2.2.2.2.2.1
  let x8 : Int := a0.2.2.2.2.2.2.2.2.2.2.2.2.2.2.2.2.2.2.2.2.2.2.2.1
  let x9 : Int := a0.2.2.2.2.2.2.2.2.2.2.2.2.2.2.2.2.2.2.2.2.2.2.2.2.1
  let x10 : Int := a0.2.2.2.2.2.2.2.2.2.2.2.2.2.2.2.2.2.2.2.2.2.2.2.2.2.1
  ((F_config_in x0 (1:Int) (1073741824:Int))).bind fun r11 =>
  bif (!r11) then
    (some false)
  else
    ((F_config_in x1 (0:Int) x0)).bind fun r12 =>
    bif (!r12) then
      (some false)
    else
      ((F_config_in x2 (1:Int) (256:Int))).bind fun r13 =>
      bif (!r13) then
        (some false)
      else
        ((F_config_in x3 (1:Int) (16:Int))).bind fun r14 =>
        bif (!r14) then
          (some false)
        else
          ((F_config_in x4 (0:Int) (30:Int))).bind fun r15 =>
          bif (!r15) then
            (some false)
          else
            ((F_config_in x5 (0:Int) x4)).bind fun r16 =>
            bif (!r16) then
              (some false)
            else
              ((F_config_in x6 x5 x4)).bind fun r17 =>
              bif (!r17) then
                (some false)
              else
                ((F_config_in x7 (1:Int) (8:Int))).bind fun r18 =>
                bif r18 then
                  ((F_config_in x8 (1:Int) (8:Int))).bind fun r19 =>
                  bif r19 then
                    ((F_config_in x9 (1:Int) (1073741824:Int))).bind fun r20 =>
                    bif r20 then
                      ((F_config_in x10 (0:Int) (1073741824:Int))).bind fun r21 =>
                      bif r21 then
                        (some (decide (a0.2.2.2.2.2.2.2.2.2.2.2.2.2.2.2.2.2.1 < (2147483648:Int))))
                      else
                        (some false)
                    else
                      (some false)
                  else
                    (some false)
                else
                  (some false)
noncomputable def G_config_counts : T fa_config_counts → TH ha_config_counts → Option (Bool) := fun x y => F_config_counts x.1
noncomputable def c_config_counts : Orc := ent i_config_counts [] 0 (sp fa_config_counts ha_config_counts fr_config_counts hr_config_counts G_config_counts out_config_counts)
theorem ok_config_counts : OrcOk PR c_config_counts := fnT okO_config_counts mixed p_config_counts (by kernel_rfl) (by kernel_rfl) (L := L_config_counts) (kp := false) (by kernel_rfl) (inn := inn_config_counts) (out := out_config_counts) (fun _ _ => rfl) (loopsL (l := []) (by kernel_rfl) trivial) (fun x y => by kernel_rfl)
noncomputable def O_slices_MaxLLJint_intJ : Orc := orn
theorem okO_slices_MaxLLJint_intJ : OrcOk PR O_slices_MaxLLJint_intJ := (orn_ok _)
abbrev fa_slices_MaxLLJint_intJ : Fm := (.pair (.si .i64) .unit)
abbrev ha_slices_MaxLLJint_intJ : List BF := []
abbrev fr_slices_MaxLLJint_intJ : Fm := (.i .i64)
abbrev hr_slices_MaxLLJint_intJ : List BF := []
abbrev ff_slices_MaxLLJint_intJ_0 : Fm := (.pair (.si .i64) (.us 2 (.pair (.i .i64) (.pair (.i .i64) (.us 20 .unit)))))
abbrev hf_slices_MaxLLJint_intJ_0 : List BF := []
abbrev X_slices_MaxLLJint_intJ_0 : Xs := (.one (.exit 0) [3] (.us 3 (.pair (.i .i64) (.us 21 .unit))) [])
abbrev S_slices_MaxLLJint_intJ_0 : Type := T ff_slices_MaxLLJint_intJ_0 × TH hf_slices_MaxLLJint_intJ_0
abbrev E_slices_MaxLLJint_intJ_0 : Type := TX X_slices_MaxLLJint_intJ_0
noncomputable def LB_slices_MaxLLJint_intJ_0 : Lps := L0
noncomputable def st_slices_MaxLLJint_intJ_0 : StepT S_slices_MaxLLJint_intJ_0 E_slices_MaxLLJint_intJ_0 := fun R v kn ko =>
  let x0 : List Int := v.1.1
  let x1 : Int := v.1.2.1
  let x2 : Int := v.1.2.2.1
  bif (decide (x2 < (((List.length x0) : Nat) : Int))) then
    bif (decide (((0:Int) ≤ x2) ∧ (x2 < (((List.length x0) : Nat) : Int)))) then
      (kn (((List.take (List.length x0) x0), ((mx x1 (List.getD x0 (Int.toNat x2) (0:Int))), ((IntKind.wrap .i64 (x2 + (1:Int))), ()))), ()))
    else
      none
  else
    (ko ((x1, ()), ()))
noncomputable def ls_slices_MaxLLJint_intJ_0 : St → LTr := (lsum ff_slices_MaxLLJint_intJ_0 hf_slices_MaxLLJint_intJ_0 X_slices_MaxLLJint_intJ_0 Prod.mk id st_slices_MaxLLJint_intJ_0 (hd [] [] [0, 3, 4] 0))
theorem lp_slices_MaxLLJint_intJ_0 : LoopOk PR 0 (lpN f_slices_MaxLLJint_intJ 0) ls_slices_MaxLLJint_intJ_0 := loopT okO_slices_MaxLLJint_intJ mixed (L := LB_slices_MaxLLJint_intJ_0) (d := 1) (bs := []) (ks := [0, 3, 4]) (loopsL (l := []) (by kernel_rfl) trivial) (by kernel_rfl) (inS := Prod.mk) (outS := id) (fun _ _ => rfl) (inX := id) (outX := id) (fun _ => rfl) (fun v R kn ko => by kernel_rfl) (hd_wk [] [] [0, 3, 4] 0)
noncomputable def L_slices_MaxLLJint_intJ : Lps := (lpB 6 (.by_ ls_slices_MaxLLJint_intJ_0) L0)
def inn_slices_MaxLLJint_intJ : T fr_slices_MaxLLJint_intJ → TH hr_slices_MaxLLJint_intJ → Int := (fun z w => z)
def out_slices_MaxLLJint_intJ : Int → T fr_slices_MaxLLJint_intJ × TH hr_slices_MaxLLJint_intJ := fun r => (r, ())
noncomputable def F_slices_MaxLLJint_intJ (a0 : List Int) : Option (Int) :=
  bif (decide ((((List.length a0) : Nat) : Int) < (1:Int))) then
    none
  else
    bif (decide (((0:Int) ≤ (0:Int)) ∧ ((0:Int) < (((List.length a0) : Nat) : Int)))) then
      ((lim st_slices_MaxLLJint_intJ_0 (((List.take (List.length a0) a0), ((List.getD a0 (0:Nat) (0:Int)), ((1:Int), ()))), ()))).bind fun r0 =>
      (some r0.1.1)
    else
      none
noncomputable def G_slices_MaxLLJint_intJ : T fa_slices_MaxLLJint_intJ → TH ha_slices_MaxLLJint_intJ → Option (Int) := fun x y => F_slices_MaxLLJint_intJ x.1
noncomputable def c_slices_MaxLLJint_intJ : Orc := ent i_slices_MaxLLJint_intJ [] 0 (sp fa_slices_MaxLLJint_intJ ha_slices_MaxLLJint_intJ fr_slices_MaxLLJint_intJ hr_slices_MaxLLJint_intJ G_slices_MaxLLJint_intJ out_slices_MaxLLJint_intJ)
theorem ok_slices_MaxLLJint_intJ : OrcOk PR c_slices_MaxLLJint_intJ := fnT okO_slices_MaxLLJint_intJ mixed p_slices_MaxLLJint_intJ (by kernel_rfl) (by kernel_rfl) (L := L_slices_MaxLLJint_intJ) (kp := false) (by kernel_rfl) (inn := inn_slices_MaxLLJint_intJ) (out := out_slices_MaxLLJint_intJ) (fun _ _ => rfl) (loopsL (l := [((lpN f_slices_MaxLLJint_intJ 0), ls_slices_MaxLLJint_intJ_0)]) (by kernel_rfl) ⟨lp_slices_MaxLLJint_intJ_0, trivial⟩) (fun x y => by kernel_rfl)
noncomputable def O_config_Check : Orc := (orm c_config_params (orm c_config_kinds (orm c_config_numbers (orm c_config_counts c_slices_MaxLLJint_intJ))))
theorem okO_config_Check : OrcOk PR O_config_Check := (orm_ok ok_config_params (orm_ok ok_config_kinds (orm_ok ok_config_numbers (orm_ok ok_config_counts ok_slices_MaxLLJint_intJ))))
abbrev fa_config_Check : Fm := (.pair (.agg (.pair (.si .i64) (.pair (.i .i64) (.pair (.i .i64) (.pair (.i .i64) (.pair (.i .i64) (.pair (.i .i64) (.pair (.i .u32) (.pair (.i .u32) (.pair (.i .u32) (.pair (.i .u32) (.pair (.i .u32) (.pair (.i .u32) (.pair (.i .i64) (.pair (.i .i64) (.pair (.i .i64) (.pair (.i .i64) (.pair (.i .u64) (.pair (.i .u32) (.pair .b (.pair (.i .i64) (.pair (.i .i64) (.pair (.i .i64) (.pair (.i .i64) (.pair (.i .i64) (.pair (.i .i64) (.pair (.i .i64) .unit))))))))))))))))))))))))))) .unit)
abbrev ha_config_Check : List BF := []
abbrev fr_config_Check : Fm := (.i .i64)
abbrev hr_config_Check : List BF := []
noncomputable def L_config_Check : Lps := L0
def inn_config_Check : T fr_config_Check → TH hr_config_Check → Int := (fun z w => z)
def out_config_Check : Int → T fr_config_Check × TH hr_config_Check := fun r => (r, ())
noncomputable def F_config_Check (a0 : List Int × Int × Int × Int × Int × Int × Int × Int × Int × Int × Int × Int × Int × Int × Int × Int × Int × Int × Bool × Int × Int × Int × Int × Int × Int × Int × Unit) : Option (Int) :=
  let x0 : List Int := (List.take (List.length a0.1) a0.1)
  ((F_config_params x0)).bind fun r1 =>
  bif (!r1.2.1) then
    (some (24:Int))
  else
    ((F_config_kinds (x0, a0.2))).bind fun r2 =>
    bif (!r2) then
      (some (24:Int))
    else
      ((F_config_numbers (x0, a0.2))).bind fun r3 =>
      bif (!r3) then
        (some (24:Int))
      else
        ((F_config_counts (x0, a0.2))).bind fun r4 =>
        bif (!r4) then
          (some (24:Int))
        else
          ((F_slices_MaxLLJint_intJ x0)).bind fun r5 =>
          bif (decide ((IntKind.wrap .i64 (a0.2.2.2.2.2.2.2.2.2.2.2.2.2.2.1 * r5)) > (262144:Int))) then
            (some (24:Int))
          else
            (some (0:Int))
noncomputable def G_config_Check : T fa_config_Check → TH ha_config_Check → Option (Int) := fun x y => F_config_Check x.1
noncomputable def c_config_Check : Orc := ent i_config_Check [] 0 (sp fa_config_Check ha_config_Check fr_config_Check hr_config_Check G_config_Check out_config_Check)
theorem ok_config_Check : OrcOk PR c_config_Check := fnT okO_config_Check mixed p_config_Check (by kernel_rfl) (by kernel_rfl) (L := L_config_Check) (kp := false) (by kernel_rfl) (inn := inn_config_Check) (out := out_config_Check) (fun _ _ => rfl) (loopsL (l := []) (by kernel_rfl) trivial) (fun x y => by kernel_rfl)
end Go.Proofs.Ytcpicekmnkjceaa.VI

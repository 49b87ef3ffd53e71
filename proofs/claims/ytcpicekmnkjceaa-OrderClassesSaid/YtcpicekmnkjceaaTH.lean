import Derived.Test.YtcpicekmnkjceaaTFm0
import Derived.Test.YtcpicekmnkjceaaProg
namespace Go.Proofs.Ytcpicekmnkjceaa.VI
set_option linter.unusedVariables false
set_option linter.unusedSimpArgs false
noncomputable abbrev PR : Program := Try.prog
theorem mixed : PR.follows .mixedOrders = true := by kernel_rfl
def L0 : Lps := fun _ _ => .no
abbrev i_anneallaw27_SumSees : FuncId := 3
noncomputable abbrev f_anneallaw27_SumSees : Func := Try.f3
theorem p_anneallaw27_SumSees : PR.funcs[i_anneallaw27_SumSees]? = some f_anneallaw27_SumSees := Try.func3
abbrev i_anneallaw22_ScalerTells : FuncId := 4
noncomputable abbrev f_anneallaw22_ScalerTells : Func := Try.f4
theorem p_anneallaw22_ScalerTells : PR.funcs[i_anneallaw22_ScalerTells]? = some f_anneallaw22_ScalerTells := Try.func4
abbrev i_anneallaw22_ScalerPlays : FuncId := 5
noncomputable abbrev f_anneallaw22_ScalerPlays : Func := Try.f5
theorem p_anneallaw22_ScalerPlays : PR.funcs[i_anneallaw22_ScalerPlays]? = some f_anneallaw22_ScalerPlays := Try.func5
abbrev i_anneallaw22_ScalerFalls : FuncId := 6
noncomputable abbrev f_anneallaw22_ScalerFalls : Func := Try.f6
theorem p_anneallaw22_ScalerFalls : PR.funcs[i_anneallaw22_ScalerFalls]? = some f_anneallaw22_ScalerFalls := Try.func6
abbrev i_anneallaw22_ScalerEdges : FuncId := 7
noncomputable abbrev f_anneallaw22_ScalerEdges : Func := Try.f7
theorem p_anneallaw22_ScalerEdges : PR.funcs[i_anneallaw22_ScalerEdges]? = some f_anneallaw22_ScalerEdges := Try.func7
abbrev i_anneallaw27_SumLong : FuncId := 8
noncomputable abbrev f_anneallaw27_SumLong : Func := Try.f8
theorem p_anneallaw27_SumLong : PR.funcs[i_anneallaw27_SumLong]? = some f_anneallaw27_SumLong := Try.func8
abbrev i_anneallaw27_SumTells32 : FuncId := 9
noncomputable abbrev f_anneallaw27_SumTells32 : Func := Try.f9
theorem p_anneallaw27_SumTells32 : PR.funcs[i_anneallaw27_SumTells32]? = some f_anneallaw27_SumTells32 := Try.func9
abbrev i_anneallaw2_FormatHigh : FuncId := 10
noncomputable abbrev f_anneallaw2_FormatHigh : Func := Try.f10
theorem p_anneallaw2_FormatHigh : PR.funcs[i_anneallaw2_FormatHigh]? = some f_anneallaw2_FormatHigh := Try.func10
abbrev i_anneallaw2_FormatBack : FuncId := 11
noncomputable abbrev f_anneallaw2_FormatBack : Func := Try.f11
theorem p_anneallaw2_FormatBack : PR.funcs[i_anneallaw2_FormatBack]? = some f_anneallaw2_FormatBack := Try.func11
abbrev i_anneallaw2_FormatEdges : FuncId := 12
noncomputable abbrev f_anneallaw2_FormatEdges : Func := Try.f12
theorem p_anneallaw2_FormatEdges : PR.funcs[i_anneallaw2_FormatEdges]? = some f_anneallaw2_FormatEdges := Try.func12
abbrev i_anneallaw2_FormatTells : FuncId := 13
noncomputable abbrev f_anneallaw2_FormatTells : Func := Try.f13
theorem p_anneallaw2_FormatTells : PR.funcs[i_anneallaw2_FormatTells]? = some f_anneallaw2_FormatTells := Try.func13
abbrev i_anneallaw7_OrderTells : FuncId := 14
noncomputable abbrev f_anneallaw7_OrderTells : Func := Try.f14
theorem p_anneallaw7_OrderTells : PR.funcs[i_anneallaw7_OrderTells]? = some f_anneallaw7_OrderTells := Try.func14
abbrev i_anneallaw7_OrderLine : FuncId := 15
noncomputable abbrev f_anneallaw7_OrderLine : Func := Try.f15
theorem p_anneallaw7_OrderLine : PR.funcs[i_anneallaw7_OrderLine]? = some f_anneallaw7_OrderLine := Try.func15
abbrev i_anneallaw7_OrderClasses : FuncId := 16
noncomputable abbrev f_anneallaw7_OrderClasses : Func := Try.f16
theorem p_anneallaw7_OrderClasses : PR.funcs[i_anneallaw7_OrderClasses]? = some f_anneallaw7_OrderClasses := Try.func16
abbrev i_anneallaw24_ConfigTells : FuncId := 17
noncomputable abbrev f_anneallaw24_ConfigTells : Func := Try.f17
theorem p_anneallaw24_ConfigTells : PR.funcs[i_anneallaw24_ConfigTells]? = some f_anneallaw24_ConfigTells := Try.func17
abbrev i_anneallaw24_ConfigReads : FuncId := 18
noncomputable abbrev f_anneallaw24_ConfigReads : Func := Try.f18
theorem p_anneallaw24_ConfigReads : PR.funcs[i_anneallaw24_ConfigReads]? = some f_anneallaw24_ConfigReads := Try.func18
abbrev i_anneallaw24_ConfigEdges : FuncId := 19
noncomputable abbrev f_anneallaw24_ConfigEdges : Func := Try.f19
theorem p_anneallaw24_ConfigEdges : PR.funcs[i_anneallaw24_ConfigEdges]? = some f_anneallaw24_ConfigEdges := Try.func19
abbrev i_anneallaw24_ConfigBytes : FuncId := 20
noncomputable abbrev f_anneallaw24_ConfigBytes : Func := Try.f20
theorem p_anneallaw24_ConfigBytes : PR.funcs[i_anneallaw24_ConfigBytes]? = some f_anneallaw24_ConfigBytes := Try.func20
abbrev i_anneallaw27_known : FuncId := 21
noncomputable abbrev f_anneallaw27_known : Func := Try.f21
theorem p_anneallaw27_known : PR.funcs[i_anneallaw27_known]? = some f_anneallaw27_known := Try.func21
abbrev i_sum32_Of : FuncId := 22
noncomputable abbrev f_sum32_Of : Func := Try.f22
theorem p_sum32_Of : PR.funcs[i_sum32_Of]? = some f_sum32_Of := Try.func22
abbrev i_anneallaw22_known : FuncId := 23
noncomputable abbrev f_anneallaw22_known : Func := Try.f23
theorem p_anneallaw22_known : PR.funcs[i_anneallaw22_known]? = some f_anneallaw22_known := Try.func23
abbrev i_annealseat_Config : FuncId := 24
noncomputable abbrev f_annealseat_Config : Func := Try.f24
theorem p_annealseat_Config : PR.funcs[i_annealseat_Config]? = some f_annealseat_Config := Try.func24
abbrev i_scaler_Begin : FuncId := 25
noncomputable abbrev f_scaler_Begin : Func := Try.f25
theorem p_scaler_Begin : PR.funcs[i_scaler_Begin]? = some f_scaler_Begin := Try.func25
abbrev i_scaler_Right : FuncId := 26
noncomputable abbrev f_scaler_Right : Func := Try.f26
theorem p_scaler_Right : PR.funcs[i_scaler_Right]? = some f_scaler_Right := Try.func26
abbrev i_annealref17_ScaleRight : FuncId := 27
noncomputable abbrev f_annealref17_ScaleRight : Func := Try.f27
theorem p_annealref17_ScaleRight : PR.funcs[i_annealref17_ScaleRight]? = some f_annealref17_ScaleRight := Try.func27
abbrev i_scaler_Good : FuncId := 28
noncomputable abbrev f_scaler_Good : Func := Try.f28
theorem p_scaler_Good : PR.funcs[i_scaler_Good]? = some f_scaler_Good := Try.func28
abbrev i_annealref17_Good : FuncId := 29
noncomputable abbrev f_annealref17_Good : Func := Try.f29
theorem p_annealref17_Good : PR.funcs[i_annealref17_Good]? = some f_annealref17_Good := Try.func29
abbrev i_scaler_Skip : FuncId := 30
noncomputable abbrev f_scaler_Skip : Func := Try.f30
theorem p_scaler_Skip : PR.funcs[i_scaler_Skip]? = some f_scaler_Skip := Try.func30
abbrev i_annealref17_Skip : FuncId := 31
noncomputable abbrev f_annealref17_Skip : Func := Try.f31
theorem p_annealref17_Skip : PR.funcs[i_annealref17_Skip]? = some f_annealref17_Skip := Try.func31
abbrev i_sum32_Zeros : FuncId := 32
noncomputable abbrev f_sum32_Zeros : Func := Try.f32
theorem p_sum32_Zeros : PR.funcs[i_sum32_Zeros]? = some f_sum32_Zeros := Try.func32
abbrev i_annealref24_Sum : FuncId := 33
noncomputable abbrev f_annealref24_Sum : Func := Try.f33
theorem p_annealref24_Sum : PR.funcs[i_annealref24_Sum]? = some f_annealref24_Sum := Try.func33
abbrev i_sum32_More : FuncId := 34
noncomputable abbrev f_sum32_More : Func := Try.f34
theorem p_sum32_More : PR.funcs[i_sum32_More]? = some f_sum32_More := Try.func34
abbrev i_sum32_Join : FuncId := 35
noncomputable abbrev f_sum32_Join : Func := Try.f35
theorem p_sum32_Join : PR.funcs[i_sum32_Join]? = some f_sum32_Join := Try.func35
abbrev i_anneallaw2_known : FuncId := 36
noncomputable abbrev f_anneallaw2_known : Func := Try.f36
theorem p_anneallaw2_known : PR.funcs[i_anneallaw2_known]? = some f_anneallaw2_known := Try.func36
abbrev i_format_Unpack : FuncId := 37
noncomputable abbrev f_format_Unpack : Func := Try.f37
theorem p_format_Unpack : PR.funcs[i_format_Unpack]? = some f_format_Unpack := Try.func37
abbrev i_format_Class : FuncId := 38
noncomputable abbrev f_format_Class : Func := Try.f38
theorem p_format_Class : PR.funcs[i_format_Class]? = some f_format_Class := Try.func38
abbrev i_format_Mask : FuncId := 39
noncomputable abbrev f_format_Mask : Func := Try.f39
theorem p_format_Mask : PR.funcs[i_format_Mask]? = some f_format_Mask := Try.func39
abbrev i_anneallaw2_form : FuncId := 40
noncomputable abbrev f_anneallaw2_form : Func := Try.f40
theorem p_anneallaw2_form : PR.funcs[i_anneallaw2_form]? = some f_anneallaw2_form := Try.func40
abbrev i_format_Finite : FuncId := 41
noncomputable abbrev f_format_Finite : Func := Try.f41
theorem p_format_Finite : PR.funcs[i_format_Finite]? = some f_format_Finite := Try.func41
abbrev i_format_Widths : FuncId := 42
noncomputable abbrev f_format_Widths : Func := Try.f42
theorem p_format_Widths : PR.funcs[i_format_Widths]? = some f_format_Widths := Try.func42
abbrev i_format_Zero : FuncId := 43
noncomputable abbrev f_format_Zero : Func := Try.f43
theorem p_format_Zero : PR.funcs[i_format_Zero]? = some f_format_Zero := Try.func43
abbrev i_format_Greatest : FuncId := 44
noncomputable abbrev f_format_Greatest : Func := Try.f44
theorem p_format_Greatest : PR.funcs[i_format_Greatest]? = some f_format_Greatest := Try.func44
abbrev i_format_Inf : FuncId := 45
noncomputable abbrev f_format_Inf : Func := Try.f45
theorem p_format_Inf : PR.funcs[i_format_Inf]? = some f_format_Inf := Try.func45
abbrev i_annealseat_Num : FuncId := 46
noncomputable abbrev f_annealseat_Num : Func := Try.f46
theorem p_annealseat_Num : PR.funcs[i_annealseat_Num]? = some f_annealseat_Num := Try.func46
abbrev i_annealref1_Unpack : FuncId := 47
noncomputable abbrev f_annealref1_Unpack : Func := Try.f47
theorem p_annealref1_Unpack : PR.funcs[i_annealref1_Unpack]? = some f_annealref1_Unpack := Try.func47
abbrev i_annealref1_Class : FuncId := 48
noncomputable abbrev f_annealref1_Class : Func := Try.f48
theorem p_annealref1_Class : PR.funcs[i_annealref1_Class]? = some f_annealref1_Class := Try.func48
abbrev i_annealref1_Finite : FuncId := 49
noncomputable abbrev f_annealref1_Finite : Func := Try.f49
theorem p_annealref1_Finite : PR.funcs[i_annealref1_Finite]? = some f_annealref1_Finite := Try.func49
abbrev i_annealref1_Widths : FuncId := 50
noncomputable abbrev f_annealref1_Widths : Func := Try.f50
theorem p_annealref1_Widths : PR.funcs[i_annealref1_Widths]? = some f_annealref1_Widths := Try.func50
abbrev i_annealref1_Mask : FuncId := 51
noncomputable abbrev f_annealref1_Mask : Func := Try.f51
theorem p_annealref1_Mask : PR.funcs[i_annealref1_Mask]? = some f_annealref1_Mask := Try.func51
abbrev i_annealref1_Zero : FuncId := 52
noncomputable abbrev f_annealref1_Zero : Func := Try.f52
theorem p_annealref1_Zero : PR.funcs[i_annealref1_Zero]? = some f_annealref1_Zero := Try.func52
abbrev i_annealref1_Inf : FuncId := 53
noncomputable abbrev f_annealref1_Inf : Func := Try.f53
theorem p_annealref1_Inf : PR.funcs[i_annealref1_Inf]? = some f_annealref1_Inf := Try.func53
abbrev i_annealref1_Greatest : FuncId := 54
noncomputable abbrev f_annealref1_Greatest : Func := Try.f54
theorem p_annealref1_Greatest : PR.funcs[i_annealref1_Greatest]? = some f_annealref1_Greatest := Try.func54
abbrev i_format_Nan : FuncId := 55
noncomputable abbrev f_format_Nan : Func := Try.f55
theorem p_format_Nan : PR.funcs[i_format_Nan]? = some f_format_Nan := Try.func55
abbrev i_annealref1_Nan : FuncId := 56
noncomputable abbrev f_annealref1_Nan : Func := Try.f56
theorem p_annealref1_Nan : PR.funcs[i_annealref1_Nan]? = some f_annealref1_Nan := Try.func56
abbrev i_anneallaw7_known : FuncId := 57
noncomputable abbrev f_anneallaw7_known : Func := Try.f57
theorem p_anneallaw7_known : PR.funcs[i_anneallaw7_known]? = some f_anneallaw7_known := Try.func57
abbrev i_anneallaw7_form : FuncId := 58
noncomputable abbrev f_anneallaw7_form : Func := Try.f58
theorem p_anneallaw7_form : PR.funcs[i_anneallaw7_form]? = some f_anneallaw7_form := Try.func58
abbrev i_order_Compare : FuncId := 59
noncomputable abbrev f_order_Compare : Func := Try.f59
theorem p_order_Compare : PR.funcs[i_order_Compare]? = some f_order_Compare := Try.func59
abbrev i_annealref1_Compare : FuncId := 60
noncomputable abbrev f_annealref1_Compare : Func := Try.f60
theorem p_annealref1_Compare : PR.funcs[i_annealref1_Compare]? = some f_annealref1_Compare := Try.func60
abbrev i_order_Less : FuncId := 61
noncomputable abbrev f_order_Less : Func := Try.f61
theorem p_order_Less : PR.funcs[i_order_Less]? = some f_order_Less := Try.func61
abbrev i_annealref1_Less : FuncId := 62
noncomputable abbrev f_annealref1_Less : Func := Try.f62
theorem p_annealref1_Less : PR.funcs[i_annealref1_Less]? = some f_annealref1_Less := Try.func62
abbrev i_order_Min : FuncId := 63
noncomputable abbrev f_order_Min : Func := Try.f63
theorem p_order_Min : PR.funcs[i_order_Min]? = some f_order_Min := Try.func63
abbrev i_annealref1_Min : FuncId := 64
noncomputable abbrev f_annealref1_Min : Func := Try.f64
theorem p_annealref1_Min : PR.funcs[i_annealref1_Min]? = some f_annealref1_Min := Try.func64
abbrev i_order_Max : FuncId := 65
noncomputable abbrev f_order_Max : Func := Try.f65
theorem p_order_Max : PR.funcs[i_order_Max]? = some f_order_Max := Try.func65
abbrev i_annealref1_Max : FuncId := 66
noncomputable abbrev f_annealref1_Max : Func := Try.f66
theorem p_annealref1_Max : PR.funcs[i_annealref1_Max]? = some f_annealref1_Max := Try.func66
abbrev i_order_Key : FuncId := 67
noncomputable abbrev f_order_Key : Func := Try.f67
theorem p_order_Key : PR.funcs[i_order_Key]? = some f_order_Key := Try.func67
abbrev i_annealref1_Key : FuncId := 68
noncomputable abbrev f_annealref1_Key : Func := Try.f68
theorem p_annealref1_Key : PR.funcs[i_annealref1_Key]? = some f_annealref1_Key := Try.func68
abbrev i_anneallaw24_known : FuncId := 69
noncomputable abbrev f_anneallaw24_known : Func := Try.f69
theorem p_anneallaw24_known : PR.funcs[i_anneallaw24_known]? = some f_anneallaw24_known := Try.func69
abbrev i_config_Put : FuncId := 70
noncomputable abbrev f_config_Put : Func := Try.f70
theorem p_config_Put : PR.funcs[i_config_Put]? = some f_config_Put := Try.func70
abbrev i_annealref24_Put : FuncId := 71
noncomputable abbrev f_annealref24_Put : Func := Try.f71
theorem p_annealref24_Put : PR.funcs[i_annealref24_Put]? = some f_annealref24_Put := Try.func71
abbrev i_config_Check : FuncId := 72
noncomputable abbrev f_config_Check : Func := Try.f72
theorem p_config_Check : PR.funcs[i_config_Check]? = some f_config_Check := Try.func72
abbrev i_annealref24_Check : FuncId := 73
noncomputable abbrev f_annealref24_Check : Func := Try.f73
theorem p_annealref24_Check : PR.funcs[i_annealref24_Check]? = some f_annealref24_Check := Try.func73
abbrev i_config_Params : FuncId := 74
noncomputable abbrev f_config_Params : Func := Try.f74
theorem p_config_Params : PR.funcs[i_config_Params]? = some f_config_Params := Try.func74
abbrev i_annealref24_Params : FuncId := 75
noncomputable abbrev f_annealref24_Params : Func := Try.f75
theorem p_annealref24_Params : PR.funcs[i_annealref24_Params]? = some f_annealref24_Params := Try.func75
abbrev i_config_Read : FuncId := 76
noncomputable abbrev f_config_Read : Func := Try.f76
theorem p_config_Read : PR.funcs[i_config_Read]? = some f_config_Read := Try.func76
abbrev i_annealhelp_Config : FuncId := 77
noncomputable abbrev f_annealhelp_Config : Func := Try.f77
theorem p_annealhelp_Config : PR.funcs[i_annealhelp_Config]? = some f_annealhelp_Config := Try.func77
abbrev i_config_Same : FuncId := 78
noncomputable abbrev f_config_Same : Func := Try.f78
theorem p_config_Same : PR.funcs[i_config_Same]? = some f_config_Same := Try.func78
abbrev i_annealref24_Read : FuncId := 79
noncomputable abbrev f_annealref24_Read : Func := Try.f79
theorem p_annealref24_Read : PR.funcs[i_annealref24_Read]? = some f_annealref24_Read := Try.func79
abbrev i_scaler_count : FuncId := 80
noncomputable abbrev f_scaler_count : Func := Try.f80
theorem p_scaler_count : PR.funcs[i_scaler_count]? = some f_scaler_count := Try.func80
abbrev i_sum32_noughts : FuncId := 81
noncomputable abbrev f_sum32_noughts : Func := Try.f81
theorem p_sum32_noughts : PR.funcs[i_sum32_noughts]? = some f_sum32_noughts := Try.func81
abbrev i_format_Parts : FuncId := 82
noncomputable abbrev f_format_Parts : Func := Try.f82
theorem p_format_Parts : PR.funcs[i_format_Parts]? = some f_format_Parts := Try.func82
abbrev i_format_Least : FuncId := 83
noncomputable abbrev f_format_Least : Func := Try.f83
theorem p_format_Least : PR.funcs[i_format_Least]? = some f_format_Least := Try.func83
abbrev i_format_Top : FuncId := 84
noncomputable abbrev f_format_Top : Func := Try.f84
theorem p_format_Top : PR.funcs[i_format_Top]? = some f_format_Top := Try.func84
abbrev i_format_Join : FuncId := 85
noncomputable abbrev f_format_Join : Func := Try.f85
theorem p_format_Join : PR.funcs[i_format_Join]? = some f_format_Join := Try.func85
abbrev i_annealref1_parts : FuncId := 86
noncomputable abbrev f_annealref1_parts : Func := Try.f86
theorem p_annealref1_parts : PR.funcs[i_annealref1_parts]? = some f_annealref1_parts := Try.func86
abbrev i_annealref1_bias : FuncId := 87
noncomputable abbrev f_annealref1_bias : Func := Try.f87
theorem p_annealref1_bias : PR.funcs[i_annealref1_bias]? = some f_annealref1_bias := Try.func87
abbrev i_annealref1_sign : FuncId := 88
noncomputable abbrev f_annealref1_sign : Func := Try.f88
theorem p_annealref1_sign : PR.funcs[i_annealref1_sign]? = some f_annealref1_sign := Try.func88
abbrev i_format_IsNan : FuncId := 89
noncomputable abbrev f_format_IsNan : Func := Try.f89
theorem p_format_IsNan : PR.funcs[i_format_IsNan]? = some f_format_IsNan := Try.func89
abbrev i_format_IsZero : FuncId := 90
noncomputable abbrev f_format_IsZero : Func := Try.f90
theorem p_format_IsZero : PR.funcs[i_format_IsZero]? = some f_format_IsZero := Try.func90
abbrev i_annealref1_nans : FuncId := 91
noncomputable abbrev f_annealref1_nans : Func := Try.f91
theorem p_annealref1_nans : PR.funcs[i_annealref1_nans]? = some f_annealref1_nans := Try.func91
abbrev i_annealref1_zero : FuncId := 92
noncomputable abbrev f_annealref1_zero : Func := Try.f92
theorem p_annealref1_zero : PR.funcs[i_annealref1_zero]? = some f_annealref1_zero := Try.func92
abbrev i_order_pick : FuncId := 93
noncomputable abbrev f_order_pick : Func := Try.f93
theorem p_order_pick : PR.funcs[i_order_pick]? = some f_order_pick := Try.func93
abbrev i_annealref1_pick : FuncId := 94
noncomputable abbrev f_annealref1_pick : Func := Try.f94
theorem p_annealref1_pick : PR.funcs[i_annealref1_pick]? = some f_annealref1_pick := Try.func94
abbrev i_format_Neg : FuncId := 95
noncomputable abbrev f_format_Neg : Func := Try.f95
theorem p_format_Neg : PR.funcs[i_format_Neg]? = some f_format_Neg := Try.func95
abbrev i_format_Turn : FuncId := 96
noncomputable abbrev f_format_Turn : Func := Try.f96
theorem p_format_Turn : PR.funcs[i_format_Turn]? = some f_format_Turn := Try.func96
abbrev i_annealref1_neg : FuncId := 97
noncomputable abbrev f_annealref1_neg : Func := Try.f97
theorem p_annealref1_neg : PR.funcs[i_annealref1_neg]? = some f_annealref1_neg := Try.func97
abbrev i_config_lay : FuncId := 98
noncomputable abbrev f_config_lay : Func := Try.f98
theorem p_config_lay : PR.funcs[i_config_lay]? = some f_config_lay := Try.func98
abbrev i_config_flag : FuncId := 99
noncomputable abbrev f_config_flag : Func := Try.f99
theorem p_config_flag : PR.funcs[i_config_flag]? = some f_config_flag := Try.func99
abbrev i_annealref24_put : FuncId := 100
noncomputable abbrev f_annealref24_put : Func := Try.f100
theorem p_annealref24_put : PR.funcs[i_annealref24_put]? = some f_annealref24_put := Try.func100
abbrev i_config_params : FuncId := 101
noncomputable abbrev f_config_params : Func := Try.f101
theorem p_config_params : PR.funcs[i_config_params]? = some f_config_params := Try.func101
abbrev i_config_kinds : FuncId := 102
noncomputable abbrev f_config_kinds : Func := Try.f102
theorem p_config_kinds : PR.funcs[i_config_kinds]? = some f_config_kinds := Try.func102
abbrev i_config_numbers : FuncId := 103
noncomputable abbrev f_config_numbers : Func := Try.f103
theorem p_config_numbers : PR.funcs[i_config_numbers]? = some f_config_numbers := Try.func103
abbrev i_config_counts : FuncId := 104
noncomputable abbrev f_config_counts : Func := Try.f104
theorem p_config_counts : PR.funcs[i_config_counts]? = some f_config_counts := Try.func104
abbrev i_slices_Max : FuncId := 105
noncomputable abbrev f_slices_Max : Func := Try.f105
theorem p_slices_Max : PR.funcs[i_slices_Max]? = some f_slices_Max := Try.func105
abbrev i_annealref24_in : FuncId := 106
noncomputable abbrev f_annealref24_in : Func := Try.f106
theorem p_annealref24_in : PR.funcs[i_annealref24_in]? = some f_annealref24_in := Try.func106
abbrev i_annealref24_plus : FuncId := 107
noncomputable abbrev f_annealref24_plus : Func := Try.f107
theorem p_annealref24_plus : PR.funcs[i_annealref24_plus]? = some f_annealref24_plus := Try.func107
abbrev i_annealref24_params : FuncId := 108
noncomputable abbrev f_annealref24_params : Func := Try.f108
theorem p_annealref24_params : PR.funcs[i_annealref24_params]? = some f_annealref24_params := Try.func108
abbrev i_config_take : FuncId := 109
noncomputable abbrev f_config_take : Func := Try.f109
theorem p_config_take : PR.funcs[i_config_take]? = some f_config_take := Try.func109
abbrev i_config_fill : FuncId := 110
noncomputable abbrev f_config_fill : Func := Try.f110
theorem p_config_fill : PR.funcs[i_config_fill]? = some f_config_fill := Try.func110
abbrev i_annealhelp_Ints : FuncId := 111
noncomputable abbrev f_annealhelp_Ints : Func := Try.f111
theorem p_annealhelp_Ints : PR.funcs[i_annealhelp_Ints]? = some f_annealhelp_Ints := Try.func111
abbrev i_slices_Equal : FuncId := 112
noncomputable abbrev f_slices_Equal : Func := Try.f112
theorem p_slices_Equal : PR.funcs[i_slices_Equal]? = some f_slices_Equal := Try.func112
abbrev i_config_bare : FuncId := 113
noncomputable abbrev f_config_bare : Func := Try.f113
theorem p_config_bare : PR.funcs[i_config_bare]? = some f_config_bare := Try.func113
abbrev i_annealref24_take : FuncId := 114
noncomputable abbrev f_annealref24_take : Func := Try.f114
theorem p_annealref24_take : PR.funcs[i_annealref24_take]? = some f_annealref24_take := Try.func114
abbrev i_sum32_one : FuncId := 115
noncomputable abbrev f_sum32_one : Func := Try.f115
theorem p_sum32_one : PR.funcs[i_sum32_one]? = some f_sum32_one := Try.func115
abbrev i_sum32_matrix_twice : FuncId := 116
noncomputable abbrev f_sum32_matrix_twice : Func := Try.f116
theorem p_sum32_matrix_twice : PR.funcs[i_sum32_matrix_twice]? = some f_sum32_matrix_twice := Try.func116
abbrev i_sum32_matrix_times : FuncId := 117
noncomputable abbrev f_sum32_matrix_times : Func := Try.f117
theorem p_sum32_matrix_times : PR.funcs[i_sum32_matrix_times]? = some f_sum32_matrix_times := Try.func117
abbrev i_config_in : FuncId := 118
noncomputable abbrev f_config_in : Func := Try.f118
theorem p_config_in : PR.funcs[i_config_in]? = some f_config_in := Try.func118
abbrev i_config_positive : FuncId := 119
noncomputable abbrev f_config_positive : Func := Try.f119
theorem p_config_positive : PR.funcs[i_config_positive]? = some f_config_positive := Try.func119
abbrev i_funcs_Above : FuncId := 120
noncomputable abbrev f_funcs_Above : Func := Try.f120
theorem p_funcs_Above : PR.funcs[i_funcs_Above]? = some f_funcs_Above := Try.func120
end Go.Proofs.Ytcpicekmnkjceaa.VI

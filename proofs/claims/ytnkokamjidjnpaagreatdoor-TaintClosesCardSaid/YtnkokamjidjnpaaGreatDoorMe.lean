/- TaintCloses returns true whatever it is given: a plan, whole numbers, a whole number; and the card ties the two tables that its code names to the program's text. No condition. -/
import Derived.Test.YtnkokamjidjnpaaGreatDoorMd
import Derived.Test.YtnkokamjidjnpaaGreatDoorProg
import Derived.KernelRfl
set_option linter.unusedVariables false
set_option linter.unusedSimpArgs false
set_option linter.unusedSectionVars false
namespace Go.EQ
open Go Go.NN Go.Proofs
noncomputable abbrev PR : Program := Tryz.prog
abbrev F_law24_TaintCloses : FuncId := 4
abbrev F_law24_awake : FuncId := 5
abbrev F_taint_Same : FuncId := 6
abbrev F_ref15_PlanOk : FuncId := 7
abbrev F_law24_Closure : FuncId := 8
abbrev F_law24_same : FuncId := 9
abbrev F_taint_Closure : FuncId := 10
abbrev F_law22_Plan : FuncId := 11
abbrev F_taint_Differ : FuncId := 12
abbrev F_world_Check : FuncId := 15
abbrev F_slices_Clone_s_bool_bool : FuncId := 16
abbrev F_world_Run : FuncId := 17
abbrev F_taint_Clean : FuncId := 18
abbrev F_taint_Only : FuncId := 19
abbrev F_world_New : FuncId := 20
abbrev F_world_World_Do : FuncId := 21
abbrev F_slices_Clone_s_api_Step_api_Step : FuncId := 22
abbrev F_kern_New : FuncId := 23
abbrev F_world_Boot : FuncId := 24
abbrev F_world_World_begin : FuncId := 25
abbrev F_host_New : FuncId := 26
abbrev F_kern_Kern_Do : FuncId := 33
abbrev F_kern_check : FuncId := 34
abbrev F_kern_frames : FuncId := 35
abbrev F_slices_Clone_s_int_int : FuncId := 36
abbrev F_mem_New : FuncId := 37
abbrev F_caps_New : FuncId := 38
abbrev F_quota_New : FuncId := 39
abbrev F_region_New : FuncId := 40
abbrev F_sect_New : FuncId := 41
abbrev F_region_Regions_Add : FuncId := 42
abbrev F_quota_Quota_First : FuncId := 43
abbrev F_slices_Contains_s_int_int : FuncId := 44
abbrev F_caps_Space_Put : FuncId := 45
abbrev F_commons_New : FuncId := 46
abbrev F_commons_Commons_SetTerm : FuncId := 47
abbrev F_commons_Commons_SetFront : FuncId := 48
abbrev F_commons_Commons_SetFile : FuncId := 49
abbrev F_commons_Commons_SetPipe : FuncId := 50
abbrev F_commons_Commons_SetProc : FuncId := 51
abbrev F_kern_Kern_Sect : FuncId := 52
abbrev F_kern_Kern_bytes : FuncId := 60
abbrev F_kern_Kern_number : FuncId := 61
abbrev F_kern_check_1 : FuncId := 62
abbrev F_slices_ContainsFunc_s_int_int : FuncId := 63
abbrev F_kern_share : FuncId := 64
abbrev F_table_New_api_Cap : FuncId := 65
abbrev F_mem_Mem_Size : FuncId := 66
abbrev F_slices_Index_s_int_int : FuncId := 67
abbrev F_caps_Space_Put_1 : FuncId := 68
abbrev F_caps_Space_is : FuncId := 69
abbrev F_caps_Space_add : FuncId := 70
abbrev F_kern_Kern_Space : FuncId := 71
abbrev F_caps_Space_Names : FuncId := 72
abbrev F_ring_Encode : FuncId := 73
abbrev F_commons_Commons_write : FuncId := 74
abbrev F_commons_FrontBytes : FuncId := 75
abbrev F_ofile_Encode : FuncId := 76
abbrev F_commons_file : FuncId := 77
abbrev F_pslot_Encode : FuncId := 79
abbrev F_commons_proc : FuncId := 80
abbrev F_commons_Commons_most : FuncId := 89
abbrev F_ring_Ok : FuncId := 96
abbrev F_region_Regions_Read : FuncId := 97
abbrev F_region_Regions_Write : FuncId := 98
abbrev F_region_Regions_Copy : FuncId := 99
abbrev F_slices_IndexFunc_s_int_int : FuncId := 106
abbrev F_table_Table_api_Cap_Add : FuncId := 107
abbrev F_table_Table_api_Cap_Names : FuncId := 108
abbrev F_ring_Codec : FuncId := 109
abbrev F_codec_Codec_api_Pipe_Encode : FuncId := 110
abbrev F_commons_Commons_place : FuncId := 111
abbrev F_codec_Sum : FuncId := 112
abbrev F_ofile_Codec : FuncId := 113
abbrev F_codec_Codec_api_File_Encode : FuncId := 114
abbrev F_pslot_Codec : FuncId := 115
abbrev F_codec_Codec_api_Proc_Encode : FuncId := 116
abbrev F_ring_Ok_1 : FuncId := 136
abbrev F_region_Regions_place : FuncId := 137
abbrev F_mem_Mem_Store : FuncId := 139
abbrev F_caps_Space_Get : FuncId := 140
abbrev F_table_Table_api_Cap_name : FuncId := 148
abbrev F_codec_New_api_Pipe : FuncId := 149
abbrev F_ring_put : FuncId := 150
abbrev F_ring_get : FuncId := 151
abbrev F_codec_New_api_File : FuncId := 152
abbrev F_ofile_put : FuncId := 153
abbrev F_ofile_get : FuncId := 154
abbrev F_codec_New_api_Proc : FuncId := 155
abbrev F_pslot_put : FuncId := 156
abbrev F_pslot_get : FuncId := 157
abbrev F_mem_Mem_in : FuncId := 181
abbrev F_table_Table_api_Cap_Get : FuncId := 182
abbrev F_table_Table_api_Cap_at : FuncId := 185
abbrev F_ofile_Ok : FuncId := 186
abbrev F_pslot_Ok : FuncId := 187
abbrev F_codec_Put2 : FuncId := 188
abbrev F_pslot_bits : FuncId := 223
abbrev F_pslot_Ok_1 : FuncId := 224
abbrev Y_int : TypeId := 3
abbrev Y_bool : TypeId := 4
abbrev Y_uint8 : TypeId := 5
abbrev Y_s_int : TypeId := 26
abbrev Y_api_Out : TypeId := 28
abbrev Y_s_bool : TypeId := 32
abbrev Y_s_api_Bridge : TypeId := 33
abbrev Y_api_Plan : TypeId := 35
abbrev Y_api_Bridge : TypeId := 42
abbrev Y_api_Call : TypeId := 60
abbrev Y_api_Step : TypeId := 62
abbrev Y_api_Boot : TypeId := 72
abbrev Y_world_World : TypeId := 76
abbrev Y_s_p_host_Host : TypeId := 78
abbrev Y_p_host_Host : TypeId := 79
abbrev Y_api_Answer : TypeId := 89
abbrev Y_kern_Kern : TypeId := 102
abbrev Y_p_sect_Sect : TypeId := 104
abbrev Y_api_Share : TypeId := 107
abbrev Y_api_Cap : TypeId := 114
abbrev Y_api_Pipe : TypeId := 120
abbrev Y_api_File : TypeId := 124
abbrev Y_8_int : TypeId := 125
abbrev Y_api_Proc : TypeId := 127
abbrev Y_host_Host : TypeId := 131
abbrev Y_mem_Mem : TypeId := 145
abbrev Y_caps_Space : TypeId := 148
abbrev Y_p_table_Table_api_Cap : TypeId := 149
abbrev Y_quota_Quota : TypeId := 152
abbrev Y_region_Regions : TypeId := 155
abbrev Y_sect_Sect : TypeId := 157
abbrev Y_region_span : TypeId := 160
abbrev Y_commons_Commons : TypeId := 166
abbrev Y_api_Rec : TypeId := 171
abbrev Y_table_Table_api_Cap : TypeId := 198
abbrev Y_table_place_api_Cap : TypeId := 200
abbrev Y_commons_place : TypeId := 206
abbrev Y_codec_Codec_api_Pipe : TypeId := 253
abbrev Y_codec_Codec_api_File : TypeId := 258
abbrev Y_codec_Codec_api_Proc : TypeId := 262
end Go.EQ

set_option maxRecDepth 100000
set_option linter.unusedVariables false
namespace Go.EQ
open Go Go.NN Go.Proofs
def C_law24_awake : Cuts := { globs := 0, loops := [], regs := [], plans := [] }
noncomputable def T_law24_awake : List Item := bodyOf Tryz.f5
def C_slices_Equal_s_byte_byte : Cuts := { globs := 0, loops := [(4, [0, 1, 12, 13])], regs := [], plans := [(6, ⟨[0, 1, 2, 3, 4, 5, 6, 7, 8], [0, 0, 3, 7, 0, 0, 48, 112, 255], [], []⟩)] }
def C_slices_Clone_s_bool_bool : Cuts := { globs := 0, loops := [], regs := [], plans := [] }
noncomputable def T_slices_Clone_s_bool_bool : List Item := bodyOf Tryz.f16
theorem e_slices_Clone_s_bool_bool (call : CallFn) (run : RunFn) (s : Option Addr) (sn sc : Nat) (h : H) :
  exec PR C_slices_Clone_s_bool_bool call run F_slices_Clone_s_bool_bool Tryz.f16 100000 true T_slices_Clone_s_bool_bool [(0, .slice s sn sc)] h =
  cond s.isNone
  (some (.slice none 0 0, h))
  (nw (.cells Y_bool false []) h fun b hv => gCells s (sn * 1) hv fun cs => ckB (fitsOpen (some ⟨b, 0, none⟩) Y_bool hv) (apd Y_bool 1 (some ⟨b, 0, none⟩) 0 0 sn cs hv fun a an ac hv_1 => some (.slice a an ac, hv_1))) := by kernel_rfl
def C_slices_Clone_s_api_Step_api_Step : Cuts := { globs := 0, loops := [], regs := [], plans := [] }
noncomputable def T_slices_Clone_s_api_Step_api_Step : List Item := bodyOf Tryz.f22
def C_world_World_begin : Cuts := { globs := 0, loops := [(8, [1, 4, 6, 7, 36, 37, 38])], regs := [(15, [1, 4, 6, 7, 10, 36, 37, 38])], plans := [] }
noncomputable def T_world_World_begin : List Item := bodyOf Tryz.f25
noncomputable def T_world_World_begin_L1 : List Item := stk [0, 1, 0, 1, 0, 1, 0, 1, 0, 1, 0, 1, 0, 1, 0, 0, 1, 4, 5] T_world_World_begin
noncomputable def T_world_World_begin_R1 : List Item := stk [0, 1, 0, 1, 0, 1, 0, 1, 0, 1, 0, 1, 0, 1, 0, 0, 1, 4, 5, 6, 0, 1, 0, 1, 0, 4, 0, 1, 0, 1, 0, 1, 0] T_world_World_begin
def C_host_New : Cuts := { globs := 0, loops := [], regs := [], plans := [] }
noncomputable def T_host_New : List Item := bodyOf Tryz.f26
def C_kern_frames : Cuts := { globs := 0, loops := [], regs := [], plans := [] }
noncomputable def T_kern_frames : List Item := bodyOf Tryz.f35
def C_quota_New : Cuts := { globs := 0, loops := [(3, [3, 12, 13, 14])], regs := [], plans := [(5, ⟨[0, 1, 2, 3, 4, 5, 6, 7, 8, 9, 10, 11, 12, 13], [0, 0, 2, 6, 14, 0, 32, 96, 224, 480, 1022, 2047, 4095, 8191], [], []⟩)] }
noncomputable def T_quota_New : List Item := bodyOf Tryz.f39
noncomputable def T_quota_New_L1 : List Item := stk [0, 1, 0, 1, 0, 0, 1, 4, 5] T_quota_New
def C_slices_Contains_s_int_int : Cuts := { globs := 0, loops := [], regs := [], plans := [] }
noncomputable def T_slices_Contains_s_int_int : List Item := bodyOf Tryz.f44
def C_commons_Commons_SetFront : Cuts := { globs := 0, loops := [], regs := [], plans := [] }
noncomputable def T_commons_Commons_SetFront : List Item := bodyOf Tryz.f48
def C_ring_Put : Cuts := { globs := 0, loops := [(5, [2, 4, 6, 13, 14, 15])], regs := [], plans := [] }
def C_kern_share : Cuts := { globs := 0, loops := [], regs := [], plans := [] }
noncomputable def T_kern_share : List Item := bodyOf Tryz.f64
def C_slices_Index_s_int_int : Cuts := { globs := 0, loops := [(2, [0, 1, 7, 8])], regs := [], plans := [] }
noncomputable def T_slices_Index_s_int_int : List Item := bodyOf Tryz.f67
noncomputable def T_slices_Index_s_int_int_L1 : List Item := stk [0, 1, 0, 0, 1, 4, 5] T_slices_Index_s_int_int
def C_caps_Space_add : Cuts := { globs := 0, loops := [], regs := [], plans := [(1, ⟨[0, 1, 2, 3, 4, 5, 6, 7, 8, 9, 10, 11, 12, 13], [0, 1, 3, 7, 0, 31, 63, 0, 255, 511, 1023, 1023, 2047, 8191], [], []⟩)] }
noncomputable def T_caps_Space_add : List Item := bodyOf Tryz.f70
def C_kern_Kern_Space : Cuts := { globs := 0, loops := [], regs := [], plans := [] }
noncomputable def T_kern_Kern_Space : List Item := bodyOf Tryz.f71
def C_ofile_Encode : Cuts := { globs := 0, loops := [], regs := [], plans := [(1, ⟨[1, 0, 2, 3, 4, 5, 6], [0, 0, 3, 7, 7, 31, 63], [(0, [1])], []⟩)] }
noncomputable def T_ofile_Encode : List Item := bodyOf Tryz.f76
def C_commons_file : Cuts := { globs := 0, loops := [], regs := [], plans := [] }
noncomputable def T_commons_file : List Item := bodyOf Tryz.f77
def C_host_Host_blocked : Cuts := { globs := 0, loops := [], regs := [], plans := [(4, ⟨[0, 1, 2, 3, 5, 6, 7, 8, 10, 11, 12, 13, 14, 15, 16, 17, 18, 19, 20, 21, 4, 9, 22, 23, 24, 25, 26, 27, 28], [0, 1, 3, 7, 15, 0, 32, 96, 224, 511, 0, 1024, 3072, 7168, 0, 16384, 49152, 114688, 0, 262144, 786432, 1835008, 4194303, 8388607, 16777215, 33554431, 33554431, 67108863, 268435455], [(4, [8, 13, 17, 21]), (9, [13, 17, 21])], []⟩)] }
def C_host_Host_end : Cuts := { globs := 0, loops := [], regs := [], plans := [(1, ⟨[0, 1, 2, 3, 4, 5, 6, 7, 12, 8, 9, 10, 11, 13, 14], [0, 1, 3, 7, 0, 16, 48, 112, 255, 511, 1023, 1023, 0, 6143, 16383], [], []⟩), (5, ⟨[0, 1, 2, 3, 4, 5, 6, 7, 8, 9], [0, 1, 3, 7, 0, 16, 48, 112, 0, 511], [], []⟩), (7, ⟨[0, 1, 2, 3, 4, 5, 6, 7, 8, 9, 10, 11], [0, 1, 3, 7, 0, 16, 48, 112, 0, 256, 768, 2047], [], []⟩)] }
def C_commons_Commons_Pipe : Cuts := { globs := 0, loops := [], regs := [], plans := [] }
def C_commons_Commons_Front : Cuts := { globs := 0, loops := [], regs := [], plans := [] }
def C_commons_record_api_Proc : Cuts := { globs := 0, loops := [], regs := [(8, [6, 8, 11, 12])], plans := [(7, ⟨[0, 1, 2, 3, 4, 5, 6, 7, 8, 9], [0, 1, 3, 7, 0, 31, 63, 31, 159, 511], [(7, [5])], []⟩)] }
def C_pslot_Decode : Cuts := { globs := 0, loops := [], regs := [], plans := [] }
def C_region_Regions_Write : Cuts := { globs := 0, loops := [], regs := [], plans := [] }
noncomputable def T_region_Regions_Write : List Item := bodyOf Tryz.f98
def C_quota_Quota_Alloc : Cuts := { globs := 0, loops := [], regs := [], plans := [] }
def C_slices_IndexFunc_s_int_int : Cuts := { globs := 0, loops := [(2, [0, 1, 7, 8])], regs := [], plans := [] }
noncomputable def T_slices_IndexFunc_s_int_int : List Item := bodyOf Tryz.f106
noncomputable def T_slices_IndexFunc_s_int_int_L1 : List Item := stk [0, 1, 0, 0, 1, 4, 5] T_slices_IndexFunc_s_int_int
def C_table_Table_api_Cap_Add : Cuts := { globs := 0, loops := [(2, [0, 3, 11, 12, 13])], regs := [], plans := [(5, ⟨[0, 1, 2, 3, 4, 5, 6, 7, 8, 9, 10, 11, 12, 13, 14, 15, 16], [0, 1, 3, 7, 0, 0, 32, 96, 224, 0, 0, 1535, 3583, 7679, 16383, 32767, 65535], [], []⟩)] }
noncomputable def T_table_Table_api_Cap_Add : List Item := bodyOf Tryz.f107
noncomputable def T_table_Table_api_Cap_Add_L1 : List Item := stk [0, 1, 0, 0, 1, 4, 5] T_table_Table_api_Cap_Add
def C_ring_Codec : Cuts := { globs := 0, loops := [], regs := [], plans := [] }
noncomputable def T_ring_Codec : List Item := bodyOf Tryz.f109
def C_ofile_Codec : Cuts := { globs := 0, loops := [], regs := [], plans := [] }
noncomputable def T_ofile_Codec : List Item := bodyOf Tryz.f113
def C_host_Host_back : Cuts := { globs := 0, loops := [], regs := [], plans := [(1, ⟨[0, 1, 2, 3, 4, 5, 6, 7, 8, 9, 10, 11, 12, 13, 14, 15], [0, 1, 3, 7, 0, 16, 48, 112, 0, 256, 0, 1024, 0, 4096, 16383, 32767], [], []⟩)] }
def C_calls_Do : Cuts := { globs := 0, loops := [], regs := [], plans := [] }
def C_sig_Wakes : Cuts := { globs := 0, loops := [], regs := [], plans := [] }
def C_commons_Commons_View : Cuts := { globs := 0, loops := [], regs := [], plans := [(1, ⟨[0, 1, 2, 3, 4, 5, 6, 7, 8, 9, 10, 11, 12, 13, 14, 15, 16, 17], [0, 1, 3, 7, 0, 16, 48, 112, 0, 256, 768, 1792, 3840, 7936, 16128, 32767, 65535, 131071], [], []⟩)] }
def C_proc_Exit : Cuts := { globs := 0, loops := [], regs := [], plans := [] }
def C_codec_Codec_api_Proc_Decode : Cuts := { globs := 0, loops := [], regs := [], plans := [(4, ⟨[0, 1, 2, 3, 4, 10, 5, 6, 7, 8, 9, 11, 12], [0, 1, 3, 7, 0, 16, 63, 127, 255, 255, 0, 1535, 4095], [(5, [3])], []⟩)] }
def C_codec_Codec_api_Pipe_Decode : Cuts := { globs := 0, loops := [], regs := [], plans := [(4, ⟨[0, 1, 2, 3, 4, 10, 5, 6, 7, 8, 9, 11, 12], [0, 1, 3, 7, 0, 16, 63, 127, 255, 255, 0, 1535, 4095], [(5, [3])], []⟩)] }
def C_mem_Mem_Store : Cuts := { globs := 0, loops := [], regs := [], plans := [] }
noncomputable def T_mem_Mem_Store : List Item := bodyOf Tryz.f139
def C_caps_Space_Get : Cuts := { globs := 0, loops := [], regs := [], plans := [] }
noncomputable def T_caps_Space_Get : List Item := bodyOf Tryz.f140
def C_table_Table_api_Cap_Drop : Cuts := { globs := 0, loops := [], regs := [], plans := [] }
def C_quota_Quota_is : Cuts := { globs := 0, loops := [], regs := [], plans := [] }
def C_ofile_get : Cuts := { globs := 0, loops := [], regs := [], plans := [(1, ⟨[0, 1, 2, 3, 4, 5, 6, 7, 8, 9, 10, 11, 12, 13, 14, 15, 16, 17, 18], [0, 1, 3, 7, 0, 16, 48, 112, 0, 256, 768, 1792, 0, 4096, 12288, 28672, 65535, 0, 262143], [], []⟩), (3, ⟨[0, 1, 2, 3, 4, 5, 6, 7, 8], [0, 0, 2, 6, 6, 30, 62, 63, 255], [(5, [0])], []⟩)] }
def C_pslot_put : Cuts := { globs := 0, loops := [(4, [1, 2, 22, 23, 24]), (9, [1, 2, 43, 44, 45]), (14, [1, 58, 59])], regs := [], plans := [] }
noncomputable def T_pslot_put : List Item := bodyOf Tryz.f156
noncomputable def T_pslot_put_L1 : List Item := stk [0, 1, 0, 1, 0, 0, 1, 4, 5] T_pslot_put
noncomputable def T_pslot_put_L2 : List Item := stk [0, 1, 0, 1, 0, 1, 0, 0, 1, 4, 5] T_pslot_put
noncomputable def T_pslot_put_L3 : List Item := stk [0, 1, 0, 1, 0, 1, 0, 1, 0, 0, 1, 4, 5] T_pslot_put
def C_proc_Group : Cuts := { globs := 0, loops := [], regs := [], plans := [] }
def C_pred_Check : Cuts := { globs := 0, loops := [(4, [0, 8, 9, 10])], regs := [], plans := [] }
def C_proc_orphan : Cuts := { globs := 0, loops := [(2, [0, 8, 9, 10])], regs := [], plans := [] }
def C_table_Table_api_Cap_Get : Cuts := { globs := 0, loops := [], regs := [], plans := [] }
noncomputable def T_table_Table_api_Cap_Get : List Item := bodyOf Tryz.f182
def C_caps_Space_Under_1 : Cuts := { globs := 0, loops := [], regs := [], plans := [] }
def C_pipes_Read : Cuts := { globs := 0, loops := [], regs := [], plans := [] }
def C_pipes_Write : Cuts := { globs := 0, loops := [], regs := [], plans := [] }
def C_pipes_Front : Cuts := { globs := 0, loops := [], regs := [], plans := [] }
def C_proc_free : Cuts := { globs := 0, loops := [(2, [0, 6])], regs := [], plans := [] }
def C_proc_slots : Cuts := { globs := 0, loops := [(3, [0, 1, 5, 10])], regs := [], plans := [] }
def C_sig_Raise : Cuts := { globs := 0, loops := [], regs := [(6, [2, 4, 6]), (8, [2, 4, 6])], plans := [] }
def C_math_bits_TrailingZeros : Cuts := { globs := 0, loops := [], regs := [], plans := [] }
def C_fds_named : Cuts := { globs := 0, loops := [], regs := [], plans := [] }
def C_fds_fdsOf : Cuts := { globs := 0, loops := [], regs := [], plans := [] }
def C_pipes_waits : Cuts := { globs := 0, loops := [], regs := [], plans := [] }
def C_sig_is : Cuts := { globs := 0, loops := [], regs := [], plans := [] }
def C_commons_Commons_FreePipe : Cuts := { globs := 0, loops := [], regs := [], plans := [] }
def C_slices_reverseRangeCmpFunc_api_Ref : Cuts := { globs := 0, loops := [(2, [0, 8, 9])], regs := [], plans := [(3, ⟨[0, 1, 2, 3, 4, 5, 6, 7, 8, 9, 10, 11, 12, 13, 14, 15], [0, 0, 0, 0, 0, 0, 48, 112, 0, 0, 768, 1792, 4083, 8179, 16383, 32767], [], []⟩)] }
def C_slices_partialInsertionSortCmpFunc_api_Ref : Cuts := { globs := 0, loops := [(3, [0, 1, 2, 3, 9, 10]), (5, [0, 1, 2, 3, 9, 10]), (14, [0, 1, 2, 3, 9, 10, 11]), (20, [0, 1, 2, 3, 9, 10, 12])], regs := [(18, [0, 1, 2, 3, 9, 10])], plans := [(5, ⟨[0, 1, 2, 3, 4, 5, 6, 7, 8, 9, 10, 11, 12, 13, 14, 15, 16, 17], [0, 0, 3, 7, 15, 15, 15, 111, 239, 15, 15, 1039, 3599, 7695, 16383, 32767, 65535, 131071], [], []⟩), (11, ⟨[0, 1, 2, 3, 4, 5, 6, 7, 8, 9, 10, 11, 12, 13, 14, 15, 16, 17], [0, 0, 0, 0, 8, 0, 0, 64, 224, 480, 0, 0, 3072, 7168, 16355, 32739, 65535, 131071], [], []⟩), (16, ⟨[0, 1, 2, 3, 4, 5, 6, 7, 8, 9, 10, 11, 12], [0, 0, 0, 6, 14, 0, 0, 64, 224, 480, 1023, 2047, 4095], [], []⟩), (17, ⟨[0, 1, 2, 3, 4, 5, 6, 7, 8, 9, 10, 11, 12, 13, 14, 15, 16, 17], [0, 0, 0, 0, 8, 0, 0, 64, 224, 480, 0, 0, 3072, 7168, 16355, 32739, 65535, 131071], [], []⟩), (22, ⟨[0, 1, 2, 3, 4, 5, 6, 7, 8, 9, 10, 11, 12], [0, 0, 0, 6, 14, 0, 0, 64, 224, 480, 1023, 2047, 4095], [], []⟩), (23, ⟨[0, 1, 2, 3, 4, 5, 6, 7, 8, 9, 10, 11, 12, 13, 14, 15, 16, 17], [0, 0, 0, 0, 8, 0, 0, 64, 224, 480, 0, 0, 3072, 7168, 16355, 32739, 65535, 131071], [], []⟩)] }
def C_slices_partitionEqualCmpFunc_api_Ref : Cuts := { globs := 0, loops := [(3, [0, 1, 4, 11, 12]), (5, [0, 1, 4, 11, 12])], regs := [], plans := [(1, ⟨[0, 1, 2, 3, 4, 5, 6, 7, 8, 9, 10, 11, 12, 13, 14, 15], [0, 0, 0, 0, 0, 0, 48, 112, 0, 0, 768, 1792, 4083, 8179, 16383, 32767], [], []⟩), (3, ⟨[0, 1, 2, 3, 4, 5, 6, 7, 8, 9, 10, 11, 12, 13, 14, 15, 16], [0, 0, 3, 7, 15, 15, 15, 111, 239, 15, 15, 1551, 3599, 8191, 16383, 32767, 65535], [], []⟩), (5, ⟨[0, 1, 2, 3, 4, 5, 6, 7, 8, 9, 10, 11, 12, 13, 14, 15], [0, 0, 3, 7, 15, 15, 15, 111, 239, 15, 15, 1551, 3599, 8191, 16383, 32767], [], []⟩), (8, ⟨[0, 1, 2, 3, 4, 5, 6, 7, 8, 9, 10, 11, 12, 13, 14, 15], [0, 0, 0, 0, 0, 0, 48, 112, 0, 0, 768, 1792, 4083, 8179, 16383, 32767], [], []⟩)] }
def C_pipes_front : Cuts := { globs := 0, loops := [], regs := [], plans := [] }
def C_ring_Bytes : Cuts := { globs := 0, loops := [(5, [1, 3, 9, 10])], regs := [], plans := [] }
def C_slices_Clip_s_byte_byte : Cuts := { globs := 0, loops := [], regs := [], plans := [] }
end Go.EQ

set_option maxRecDepth 100000
set_option linter.unusedVariables false
namespace Go.EQ
open Go Go.NN Go.Proofs
def C_law24_same : Cuts := { globs := 0, loops := [(4, [0, 1, 5])], regs := [], plans := [(6, ⟨[0, 1, 2, 3, 4, 5, 6, 7, 8], [0, 0, 3, 7, 0, 0, 48, 112, 255], [], []⟩)] }
noncomputable def T_law24_same : List Item := bodyOf Tryz.f9
noncomputable def T_law24_same_L1 : List Item := stk [0, 1, 0, 1, 0, 0, 1, 4, 5] T_law24_same
theorem e_law24_same (call : CallFn) (run : RunFn) (a : Option Addr) (an ac : Nat) (b : Option Addr) (bn bc : Nat) (h : H) :
  exec PR C_law24_same call run F_law24_same Tryz.f9 100000 true T_law24_same [(0, .slice a an ac), (1, .slice b bn bc)] h =
  cond (((an : Nat) : Int) != ((bn : Nat) : Int))
  (some (.bool false, h))
  (run F_law24_same T_law24_same_L1 [(0, .slice a an ac), (1, .slice b bn bc), (5, .int .i64 0)] h) := by kernel_rfl
theorem e_law24_same_L1 (call : CallFn) (run : RunFn) (a : Option Addr) (an ac : Nat) (b : Option Addr) (bn bc : Nat) (i : Int) (h : H) :
  exec PR C_law24_same call run F_law24_same Tryz.f9 100000 true T_law24_same_L1 [(0, .slice a an ac), (1, .slice b bn bc), (5, .int .i64 i)] h =
  cond (decide (i < ((an : Nat) : Int)))
  (aSome a fun p => ck ((0 : Int) ≤ i ∧ i < ((an : Nat) : Int)) (gBool (Addr.add (bare p) (Int.toNat i * 1)) h fun x => aSome b fun p_1 => ck ((0 : Int) ≤ i ∧ i < ((bn : Nat) : Int)) (gBool (Addr.add (bare p_1) (Int.toNat i * 1)) h fun x_1 => cond (!(x == x_1))
  (some (.bool false, h))
  (run F_law24_same T_law24_same_L1 [(0, .slice a an ac), (1, .slice b bn bc), (5, .int .i64 (IntKind.wrap .i64 (i + 1)))] h))))
  (some (.bool true, h)) := by kernel_rfl
def C_law22_Plan : Cuts := { globs := 0, loops := [(7, [0, 4, 5, 6, 7, 8]), (11, [0, 4, 5, 7, 9])], regs := [(5, [0, 4, 5, 6])], plans := [(9, ⟨[0, 1, 2, 3, 4, 5, 6, 7, 8, 9, 10, 11], [0, 1, 0, 0, 8, 28, 60, 124, 252, 511, 1023, 2047], [], []⟩), (15, ⟨[0, 1, 2, 3, 4, 5, 6, 7, 8, 9, 10, 11, 12, 13, 14, 15, 16, 17], [0, 1, 0, 0, 8, 0, 32, 0, 128, 480, 1016, 0, 4088, 8188, 16380, 32767, 65535, 131071], [], []⟩)] }
noncomputable def T_law22_Plan : List Item := bodyOf Tryz.f11
noncomputable def T_law22_Plan_R1 : List Item := stk [0, 1, 0, 1, 0, 1, 0, 1, 0] T_law22_Plan
noncomputable def T_law22_Plan_L1 : List Item := stk [0, 1, 0, 1, 0, 1, 0, 1, 0, 1, 0, 0, 1, 4, 5] T_law22_Plan
noncomputable def T_law22_Plan_L2 : List Item := stk [0, 1, 0, 1, 0, 1, 0, 1, 0, 1, 0, 1, 0, 0, 1, 4, 5] T_law22_Plan
theorem e_law22_Plan (call : CallFn) (run : RunFn) (l : Option Addr) (ln lc : Nat) (lease : Int) (h : H) :
  exec PR C_law22_Plan call run F_law22_Plan Tryz.f11 100000 true T_law22_Plan [(0, .slice l ln lc), (1, .int .i64 lease)] h =
  nw (.cells Y_api_Plan false [.slice none 0 0, .slice none 0 0, .int .i64 0]) h fun b hv => nw (.cells Y_api_Plan false [.slice none 0 0, .slice none 0 0, .int .i64 0]) hv fun b_1 hv_1 => pAgg ⟨b_1, 0, none⟩ [.slice none 0 0, .slice none 0 0, .int .i64 (IntKind.wrap .i64 ((bitA .i64 lease 7) + 1))] hv_1 fun hv_2 => cond (decide (((ln : Nat) : Int) > 0))
  (aSome l fun p => ck ((0 : Int) ≤ 0 ∧ 0 < ((ln : Nat) : Int)) (gInt .i64 (Addr.add (bare p) (Int.toNat 0 * 1)) hv_2 fun x => run F_law22_Plan T_law22_Plan_R1 [(0, .slice l ln lc), (4, .pointer (some ⟨b, 0, none⟩)), (5, .pointer (some ⟨b_1, 0, none⟩)), (6, .int .i64 (bitA .i64 x 16777215))] hv_2))
  (run F_law22_Plan T_law22_Plan_R1 [(0, .slice l ln lc), (4, .pointer (some ⟨b, 0, none⟩)), (5, .pointer (some ⟨b_1, 0, none⟩)), (6, .int .i64 0)] hv_2) := by kernel_rfl
theorem e_law22_Plan_R1 (call : CallFn) (run : RunFn) (l : Option Addr) (ln lc : Nat) (x4 : Addr) (p : Addr) (x : Int) (h : H) :
  exec PR C_law22_Plan call run F_law22_Plan Tryz.f11 100000 true T_law22_Plan_R1 [(0, .slice l ln lc), (4, .pointer (some x4)), (5, .pointer (some p)), (6, .int .i64 x)] h =
  run F_law22_Plan T_law22_Plan_L1 [(0, .slice l ln lc), (4, .pointer (some x4)), (5, .pointer (some p)), (6, .int .i64 x), (7, .int .i64 (IntKind.wrap .i64 ((Int.tmod x 4) + 1))), (8, .int .i64 0)] h := by kernel_rfl
theorem e_law22_Plan_L1 (call : CallFn) (run : RunFn) (l : Option Addr) (ln lc : Nat) (x4 : Addr) (p : Addr) (x : Int) (n : Int) (i : Int) (h : H) :
  exec PR C_law22_Plan call run F_law22_Plan Tryz.f11 100000 true T_law22_Plan_L1 [(0, .slice l ln lc), (4, .pointer (some x4)), (5, .pointer (some p)), (6, .int .i64 x), (7, .int .i64 n), (8, .int .i64 i)] h =
  cond (decide (i < n))
  (gSl (Addr.add p 0) h fun x_1 xn xc => ck ((0 : Int) ≤ (IntKind.wrap .i64 (3 + i))) (nw (.cells Y_bool false [.bool ((bitA .i64 (Int.fdiv x (2 ^ (min (Int.toNat (IntKind.wrap .i64 (3 + i))) 64))) 1) == 1)]) h fun b hv => gCells (some ⟨b, 0, none⟩) (1 * 1) hv fun cs => ckB (fitsOpen x_1 Y_bool hv) (apd Y_bool 1 x_1 xn xc 1 cs hv fun a an ac hv_1 => pV (Addr.add p 0) (.slice a an ac) hv_1 fun hv_2 => run F_law22_Plan T_law22_Plan_L1 [(0, .slice l ln lc), (4, .pointer (some x4)), (5, .pointer (some p)), (6, .int .i64 x), (7, .int .i64 n), (8, .int .i64 (IntKind.wrap .i64 (i + 1)))] hv_2)))
  (run F_law22_Plan T_law22_Plan_L2 [(0, .slice l ln lc), (4, .pointer (some x4)), (5, .pointer (some p)), (7, .int .i64 n), (9, .int .i64 1)] h) := by kernel_rfl
theorem e_law22_Plan_L2 (call : CallFn) (run : RunFn) (l : Option Addr) (ln lc : Nat) (x4 : Addr) (p : Addr) (n : Int) (i : Int) (h : H) :
  exec PR C_law22_Plan call run F_law22_Plan Tryz.f11 100000 true T_law22_Plan_L2 [(0, .slice l ln lc), (4, .pointer (some x4)), (5, .pointer (some p)), (7, .int .i64 n), (9, .int .i64 i)] h =
  bnd (cond (decide (i < ((ln : Nat) : Int))) (some (decide (i < 5), h)) (some (false, h))) fun c hv => bnd (cond c (some (decide (n > 1), hv)) (some (false, hv))) fun c_1 hv_1 => cond c_1
  (aSome l fun p_1 => ck ((0 : Int) ≤ i ∧ i < ((ln : Nat) : Int)) (gInt .i64 (Addr.add (bare p_1) (Int.toNat i * 1)) hv_1 fun x => ck (n ≠ (0 : Int)) (gSl (Addr.add p 1) hv_1 fun x_1 xn xc => ck ((IntKind.wrap .i64 (n - 1)) ≠ (0 : Int)) (ck (n ≠ (0 : Int)) (nw (.cells Y_api_Bridge false [.int .i64 (Int.tmod (bitA .i64 x 65535) n), .int .i64 (Int.tmod (IntKind.wrap .i64 ((IntKind.wrap .i64 ((Int.tmod (bitA .i64 x 65535) n) + 1)) + (Int.tmod (Int.fdiv (bitA .i64 x 65535) (2 ^ 4)) (IntKind.wrap .i64 (n - 1))))) n)]) hv_1 fun b hv_2 => gCells (some ⟨b, 0, none⟩) (1 * 2) hv_2 fun cs => ckB (fitsOpen x_1 Y_api_Bridge hv_2) (apd Y_api_Bridge 2 x_1 xn xc 1 cs hv_2 fun a an ac hv_3 => pV (Addr.add p 1) (.slice a an ac) hv_3 fun hv_4 => run F_law22_Plan T_law22_Plan_L2 [(0, .slice l ln lc), (4, .pointer (some x4)), (5, .pointer (some p)), (7, .int .i64 n), (9, .int .i64 (IntKind.wrap .i64 (i + 1)))] hv_4))))))
  (gAgg p 3 hv_1 fun x_2 => ck (List.length x_2 = 3) (pAgg x4 x_2 hv_1 fun hv_5 => gAgg x4 3 hv_5 fun x_3 => some (.agg ⟨x_3⟩, hv_5))) := by kernel_rfl
def C_world_Check : Cuts := { globs := 0, loops := [(5, [3, 32, 33, 34])], regs := [], plans := [] }
noncomputable def T_world_Check : List Item := bodyOf Tryz.f15
noncomputable def T_world_Check_L1 : List Item := stk [0, 1, 0, 1, 0, 1, 0, 0, 1, 4, 5] T_world_Check
theorem e_world_Check (call : CallFn) (run : RunFn) (p : List Value) (h : H) :
  exec PR C_world_Check call run F_world_Check Tryz.f15 100000 true T_world_Check [(0, .agg ⟨p⟩)] h =
  nw (.cells Y_api_Plan false p) h fun b hv => gSl (Addr.add ⟨b, 0, none⟩ 0) hv fun _ xn _ => bnd (cond (decide (((xn : Nat) : Int) < 1)) (some (true, hv)) (some (decide (((xn : Nat) : Int) > 4), hv))) fun c hv_1 => bnd (cond c (some (true, hv_1)) (gSl (Addr.add ⟨b, 0, none⟩ 1) hv_1 fun _ xn_1 _ => some (decide (((xn_1 : Nat) : Int) > 4), hv_1))) fun c_1 hv_2 => bnd (cond c_1 (some (true, hv_2)) (gInt .i64 (Addr.add ⟨b, 0, none⟩ 2) hv_2 fun x_2 => some (decide (x_2 < 1), hv_2))) fun c_2 hv_3 => bnd (cond c_2 (some (true, hv_3)) (gInt .i64 (Addr.add ⟨b, 0, none⟩ 2) hv_3 fun x_3 => some (decide (x_3 > 1000), hv_3))) fun c_3 hv_4 => cond c_3
  (some (.int .i64 1, hv_4))
  (gSl (Addr.add ⟨b, 0, none⟩ 1) hv_4 fun x_4 xn_2 xc_2 => run F_world_Check T_world_Check_L1 [(3, .int .i64 ((xn : Nat) : Int)), (32, .slice x_4 xn_2 xc_2), (33, .int .i64 ((xn_2 : Nat) : Int)), (34, .int .i64 0)] hv_4) := by kernel_rfl
theorem e_world_Check_L1 (call : CallFn) (run : RunFn) (n : Int) (x32 : Option Addr) (x32n x32c : Nat) (x33 : Int) (x34 : Int) (h : H) :
  exec PR C_world_Check call run F_world_Check Tryz.f15 100000 true T_world_Check_L1 [(3, .int .i64 n), (32, .slice x32 x32n x32c), (33, .int .i64 x33), (34, .int .i64 x34)] h =
  cond (decide (x34 < x33))
  (aSome x32 fun p => ck ((0 : Int) ≤ x34 ∧ x34 < ((x32n : Nat) : Int)) (gAgg (Addr.add (bare p) (Int.toNat x34 * 2)) 2 h fun x => nw (.cells Y_api_Bridge false [.int .i64 0, .int .i64 0]) h fun b hv => ck (List.length x = 2) (pAgg ⟨b, 0, none⟩ x hv fun hv_1 => gInt .i64 (Addr.add ⟨b, 0, none⟩ 0) hv_1 fun x_1 => bnd (cond (decide (x_1 < 0)) (some (true, hv_1)) (gInt .i64 (Addr.add ⟨b, 0, none⟩ 0) hv_1 fun x_2 => some (decide (x_2 ≥ n), hv_1))) fun c hv_2 => bnd (cond c (some (true, hv_2)) (gInt .i64 (Addr.add ⟨b, 0, none⟩ 1) hv_2 fun x_3 => some (decide (x_3 < 0), hv_2))) fun c_1 hv_3 => bnd (cond c_1 (some (true, hv_3)) (gInt .i64 (Addr.add ⟨b, 0, none⟩ 1) hv_3 fun x_4 => some (decide (x_4 ≥ n), hv_3))) fun c_2 hv_4 => bnd (cond c_2 (some (true, hv_4)) (gInt .i64 (Addr.add ⟨b, 0, none⟩ 0) hv_4 fun x_5 => gInt .i64 (Addr.add ⟨b, 0, none⟩ 1) hv_4 fun x_6 => some (x_5 == x_6, hv_4))) fun c_3 hv_5 => cond c_3
  (some (.int .i64 1, hv_5))
  (run F_world_Check T_world_Check_L1 [(3, .int .i64 n), (32, .slice x32 x32n x32c), (33, .int .i64 x33), (34, .int .i64 (IntKind.wrap .i64 (x34 + 1)))] hv_5))))
  (some (.int .i64 0, h)) := by kernel_rfl
def C_world_World_pick : Cuts := { globs := 0, loops := [], regs := [], plans := [] }
def C_kern_Kern_Tick : Cuts := { globs := 0, loops := [], regs := [], plans := [] }
def C_pipes_Type : Cuts := { globs := 0, loops := [], regs := [], plans := [] }
def C_kern_Kern_Do : Cuts := { globs := 0, loops := [], regs := [], plans := [] }
noncomputable def T_kern_Kern_Do : List Item := bodyOf Tryz.f33
def C_caps_New : Cuts := { globs := 0, loops := [(3, [3, 8, 9])], regs := [], plans := [(4, ⟨[0, 1, 2, 3, 4, 5, 6, 7, 8, 9, 10], [0, 0, 2, 6, 14, 0, 32, 126, 255, 511, 1023], [(5, [4])], []⟩)] }
noncomputable def T_caps_New : List Item := bodyOf Tryz.f38
noncomputable def T_caps_New_L1 : List Item := stk [0, 1, 0, 1, 0, 0, 1, 4, 5] T_caps_New
def C_commons_Commons_SetProc : Cuts := { globs := 0, loops := [], regs := [], plans := [] }
noncomputable def T_commons_Commons_SetProc : List Item := bodyOf Tryz.f51
def C_host_Host_Pick : Cuts := { globs := 0, loops := [], regs := [(11, [2])], plans := [(2, ⟨[0, 1, 2, 3, 4, 5, 6, 7, 12, 8, 9, 10, 11, 13, 14], [0, 1, 3, 7, 0, 16, 48, 112, 255, 511, 1023, 1023, 0, 6143, 16383], [], []⟩)] }
def C_slices_Clone_s_byte_byte : Cuts := { globs := 0, loops := [], regs := [], plans := [] }
def C_commons_Commons_Term : Cuts := { globs := 0, loops := [], regs := [], plans := [] }
def C_kern_Kern_bytes : Cuts := { globs := 0, loops := [], regs := [], plans := [(4, ⟨[0, 1, 2, 3, 4, 5, 6, 7, 8, 9, 10, 11, 12, 13, 14, 15, 16], [0, 1, 3, 7, 0, 0, 32, 0, 128, 0, 512, 2047, 4095, 8191, 8191, 16383, 65535], [], []⟩), (6, ⟨[0, 1, 2, 3, 4, 5, 6, 7, 8, 9, 10, 11, 12], [0, 1, 3, 7, 0, 0, 32, 0, 128, 0, 512, 2047, 4095], [], []⟩), (8, ⟨[0, 1, 2, 3, 4, 5, 6, 7, 8, 9, 10, 11, 12, 13, 14, 15, 16], [0, 1, 3, 7, 0, 0, 32, 0, 128, 0, 512, 0, 2048, 0, 8192, 32767, 65535], [], []⟩)] }
noncomputable def T_kern_Kern_bytes : List Item := bodyOf Tryz.f60
def C_mem_Mem_Size : Cuts := { globs := 0, loops := [], regs := [], plans := [] }
noncomputable def T_mem_Mem_Size : List Item := bodyOf Tryz.f66
def C_caps_Space_Put_1 : Cuts := { globs := 0, loops := [], regs := [], plans := [] }
noncomputable def T_caps_Space_Put_1 : List Item := bodyOf Tryz.f68
def C_caps_Space_is : Cuts := { globs := 0, loops := [], regs := [], plans := [] }
noncomputable def T_caps_Space_is : List Item := bodyOf Tryz.f69
def C_commons_FrontBytes : Cuts := { globs := 0, loops := [], regs := [], plans := [] }
noncomputable def T_commons_FrontBytes : List Item := bodyOf Tryz.f75
def C_commons_pipe : Cuts := { globs := 0, loops := [], regs := [], plans := [] }
def C_host_Host_bad : Cuts := { globs := 0, loops := [], regs := [], plans := [] }
def C_host_Host_leave : Cuts := { globs := 0, loops := [], regs := [], plans := [(0, ⟨[0, 1, 2, 3, 4, 5, 6, 7, 8, 9, 10, 11, 12, 13, 14, 15, 16, 17], [0, 1, 3, 7, 0, 16, 48, 112, 0, 256, 768, 1792, 0, 4096, 12288, 28672, 65280, 131071], [], []⟩)] }
def C_host_Host_in : Cuts := { globs := 0, loops := [], regs := [], plans := [(1, ⟨[0, 1, 2, 3, 4, 5, 6, 7, 9, 10, 11, 12, 13, 14, 15, 16, 8, 17, 18], [0, 1, 3, 7, 0, 16, 48, 112, 255, 0, 512, 1536, 3584, 0, 8192, 24576, 57344, 131071, 262143], [(8, [12, 16])], []⟩), (4, ⟨[0, 1, 2, 3, 4, 5, 6, 7, 8, 9, 10, 11, 13, 12, 14], [0, 1, 3, 7, 0, 16, 48, 112, 0, 256, 768, 1792, 4095, 0, 16383], [], []⟩)] }
def C_commons_record_api_Pipe : Cuts := { globs := 0, loops := [], regs := [(8, [6, 8, 11, 12])], plans := [(7, ⟨[0, 1, 2, 3, 4, 5, 6, 7, 8, 9], [0, 1, 3, 7, 0, 31, 63, 31, 159, 511], [(7, [5])], []⟩)] }
def C_caps_Space_Grant : Cuts := { globs := 0, loops := [], regs := [], plans := [] }
def C_kern_Kern_leave : Cuts := { globs := 0, loops := [], regs := [], plans := [] }
def C_table_Table_api_Cap_Names : Cuts := { globs := 0, loops := [(3, [0, 3, 9, 10, 11])], regs := [], plans := [] }
noncomputable def T_table_Table_api_Cap_Names : List Item := bodyOf Tryz.f108
noncomputable def T_table_Table_api_Cap_Names_L1 : List Item := stk [0, 1, 0, 1, 0, 0, 1, 4, 5] T_table_Table_api_Cap_Names
def C_commons_Commons_place : Cuts := { globs := 0, loops := [], regs := [], plans := [] }
noncomputable def T_commons_Commons_place : List Item := bodyOf Tryz.f111
def C_codec_Codec_api_File_Encode : Cuts := { globs := 0, loops := [], regs := [], plans := [(2, ⟨[0, 1, 2, 3, 4, 5, 6, 7, 8, 9, 10, 11, 12, 13, 14], [0, 1, 3, 7, 15, 31, 63, 127, 255, 511, 63, 63, 4095, 8191, 16383], [], []⟩)] }
noncomputable def T_codec_Codec_api_File_Encode : List Item := bodyOf Tryz.f114
def C_pslot_Codec : Cuts := { globs := 0, loops := [], regs := [], plans := [] }
noncomputable def T_pslot_Codec : List Item := bodyOf Tryz.f115
def C_pred_Eval : Cuts := { globs := 0, loops := [(6, [2, 8, 9, 10])], regs := [], plans := [] }
def C_sig_Deliver : Cuts := { globs := 0, loops := [(1, [1, 2, 3])], regs := [], plans := [] }
def C_commons_record_int : Cuts := { globs := 0, loops := [], regs := [(8, [8, 11, 12])], plans := [(7, ⟨[0, 1, 2, 3, 4, 5, 6, 7, 8, 9], [0, 1, 3, 7, 0, 31, 63, 31, 159, 511], [(7, [5])], []⟩)] }
def C_commons_FrontOf : Cuts := { globs := 0, loops := [], regs := [], plans := [] }
def C_codec_Blank : Cuts := { globs := 0, loops := [], regs := [], plans := [] }
def C_mem_Mem_Load : Cuts := { globs := 0, loops := [], regs := [], plans := [] }
def C_quota_Quota_Owns : Cuts := { globs := 0, loops := [], regs := [], plans := [] }
def C_sect_Sect_Leave : Cuts := { globs := 0, loops := [], regs := [], plans := [] }
def C_ring_get : Cuts := { globs := 0, loops := [], regs := [], plans := [(1, ⟨[0, 1, 2, 3, 4, 5, 6, 7, 8, 9, 10, 11, 12, 13, 14, 15, 16, 17, 18], [0, 1, 3, 7, 0, 16, 48, 112, 0, 256, 768, 1792, 0, 4096, 12288, 28672, 65535, 0, 262143], [], []⟩), (2, ⟨[0, 1, 2, 3, 4], [0, 1, 0, 4, 15], [], []⟩), (4, ⟨[0, 1, 2, 3, 4, 5, 6, 7, 8], [0, 0, 2, 6, 6, 30, 62, 63, 255], [(5, [0])], []⟩)] }
def C_codec_New_api_File : Cuts := { globs := 0, loops := [], regs := [], plans := [] }
noncomputable def T_codec_New_api_File : List Item := bodyOf Tryz.f152
def C_slices_Delete_s_int_int : Cuts := { globs := 0, loops := [], regs := [], plans := [(5, ⟨[0, 1, 2, 3, 4, 5, 6, 7], [0, 0, 3, 0, 0, 24, 63, 127], [], []⟩)] }
def C_pred_Any : Cuts := { globs := 0, loops := [], regs := [], plans := [] }
def C_proc_Self : Cuts := { globs := 0, loops := [], regs := [], plans := [] }
def C_codec_Codec_api_File_Decode : Cuts := { globs := 0, loops := [], regs := [], plans := [(4, ⟨[0, 1, 2, 3, 4, 10, 5, 6, 7, 8, 9, 11, 12], [0, 1, 3, 7, 0, 16, 63, 127, 255, 255, 0, 1535, 4095], [(5, [3])], []⟩)] }
def C_slices_ContainsFunc_s_byte_byte : Cuts := { globs := 0, loops := [], regs := [], plans := [] }
def C_mem_Mem_in : Cuts := { globs := 0, loops := [], regs := [], plans := [] }
noncomputable def T_mem_Mem_in : List Item := bodyOf Tryz.f181
def C_slices_SortFunc_s_api_Ref_api_Ref : Cuts := { globs := 0, loops := [], regs := [], plans := [] }
def C_fds_Pipe : Cuts := { globs := 0, loops := [], regs := [], plans := [(11, ⟨[0, 1, 2, 3, 4, 5, 6, 7, 8, 9, 10, 11, 12, 13, 14, 15, 16, 17, 18, 19, 20, 21, 22, 23, 24, 25, 26, 27, 28], [0, 0, 2, 6, 0, 31, 63, 127, 127, 383, 895, 127, 2175, 6271, 14463, 32767, 65535, 131071, 262143, 262143, 786431, 1835007, 262143, 4456447, 12845055, 29622271, 67108863, 134217727, 268435455], [], []⟩), (12, ⟨[0, 1, 2, 3, 4, 5, 6, 7, 8, 9, 10, 11, 12, 13, 14, 15, 17, 16, 18, 19], [0, 1, 3, 0, 8, 24, 0, 64, 192, 448, 0, 1024, 3072, 7168, 0, 17351, 50119, 0, 262143, 524287], [(16, [5, 12])], []⟩), (13, ⟨[0, 1, 7, 8, 9, 10, 11, 12, 13, 14, 2, 3, 4, 5, 6, 15, 16], [0, 1, 3, 3, 3, 31, 63, 0, 128, 384, 0, 1024, 3072, 7168, 16256, 32767, 65535], [(5, [9, 12])], []⟩)] }
def C_fds_Dup : Cuts := { globs := 0, loops := [], regs := [], plans := [] }
def C_fds_Now : Cuts := { globs := 0, loops := [], regs := [], plans := [] }
def C_proc_Has : Cuts := { globs := 0, loops := [], regs := [], plans := [] }
def C_sig_Mask : Cuts := { globs := 0, loops := [], regs := [], plans := [] }
def C_sig_Handle : Cuts := { globs := 0, loops := [], regs := [], plans := [] }
def C_pred_one : Cuts := { globs := 0, loops := [], regs := [], plans := [] }
def C_pred_in : Cuts := { globs := 0, loops := [], regs := [], plans := [] }
def C_proc_orphan_1 : Cuts := { globs := 0, loops := [], regs := [], plans := [] }
def C_commons_Commons_blank : Cuts := { globs := 0, loops := [], regs := [], plans := [(2, ⟨[0, 1, 2, 3, 4, 5, 6, 7], [0, 0, 0, 4, 12, 0, 63, 127], [], []⟩)] }
def C_fds_told : Cuts := { globs := 0, loops := [], regs := [], plans := [] }
def C_fds_Pipe_2 : Cuts := { globs := 0, loops := [], regs := [], plans := [] }
def C_fds_done : Cuts := { globs := 0, loops := [], regs := [], plans := [] }
def C_pipes_of : Cuts := { globs := 0, loops := [], regs := [], plans := [] }
def C_fds_more : Cuts := { globs := 0, loops := [], regs := [], plans := [] }
def C_slices_heapSortCmpFunc_api_Ref : Cuts := { globs := 0, loops := [(4, [0, 3, 8, 9, 10, 11]), (8, [0, 3, 8, 9, 12])], regs := [], plans := [(10, ⟨[0, 1, 2, 3, 4, 5, 6, 7, 8, 9, 10, 11, 12, 13, 14, 15, 16, 17, 18, 19], [0, 0, 0, 0, 0, 24, 0, 0, 0, 384, 960, 1984, 0, 0, 12288, 28672, 65475, 131011, 262143, 524287], [], []⟩)] }
def C_slices_choosePivotCmpFunc_api_Ref : Cuts := { globs := 0, loops := [], regs := [(11, [0, 3, 11, 12, 13, 14]), (12, [11, 13])], plans := [] }
def C_slices_partitionCmpFunc_api_Ref : Cuts := { globs := 0, loops := [(3, [0, 1, 4, 12, 13]), (5, [0, 1, 4, 12, 13]), (13, [0, 1, 4, 12, 13]), (15, [0, 1, 4, 12, 13])], regs := [], plans := [(1, ⟨[0, 1, 2, 3, 4, 5, 6, 7, 8, 9, 10, 11, 12, 13, 14, 15], [0, 0, 0, 0, 0, 0, 48, 112, 0, 0, 768, 1792, 4083, 8179, 16383, 32767], [], []⟩), (3, ⟨[0, 1, 2, 3, 4, 5, 6, 7, 8, 9, 10, 11, 12, 13, 14, 15], [0, 0, 3, 7, 15, 15, 15, 111, 239, 15, 15, 1551, 3599, 8191, 16383, 32767], [], []⟩), (5, ⟨[0, 1, 2, 3, 4, 5, 6, 7, 8, 9, 10, 11, 12, 13, 14, 15, 16], [0, 0, 3, 7, 15, 15, 15, 111, 239, 15, 15, 1551, 3599, 8191, 16383, 32767, 65535], [], []⟩), (8, ⟨[0, 1, 2, 3, 4, 5, 6, 7, 8, 9, 10, 11, 12, 13, 14, 15], [0, 0, 0, 0, 0, 0, 48, 112, 0, 0, 768, 1792, 4083, 8179, 16383, 32767], [], []⟩), (10, ⟨[0, 1, 2, 3, 4, 5, 6, 7, 8, 9, 10, 11, 12, 13, 14, 15], [0, 0, 0, 0, 0, 0, 48, 112, 0, 0, 768, 1792, 4083, 8179, 16383, 32767], [], []⟩), (13, ⟨[0, 1, 2, 3, 4, 5, 6, 7, 8, 9, 10, 11, 12, 13, 14, 15], [0, 0, 3, 7, 15, 15, 15, 111, 239, 15, 15, 1551, 3599, 8191, 16383, 32767], [], []⟩), (15, ⟨[0, 1, 2, 3, 4, 5, 6, 7, 8, 9, 10, 11, 12, 13, 14, 15, 16], [0, 0, 3, 7, 15, 15, 15, 111, 239, 15, 15, 1551, 3599, 8191, 16383, 32767, 65535], [], []⟩), (21, ⟨[0, 1, 2, 3, 4, 5, 6, 7, 8, 9, 10, 11, 12, 13, 14, 15], [0, 0, 0, 0, 0, 0, 48, 112, 0, 0, 768, 1792, 4083, 8179, 16383, 32767], [], []⟩), (18, ⟨[0, 1, 2, 3, 4, 5, 6, 7, 8, 9, 10, 11, 12, 13, 14, 15], [0, 0, 0, 0, 0, 0, 48, 112, 0, 0, 768, 1792, 4083, 8179, 16383, 32767], [], []⟩)] }
def C_math_bits_Len32 : Cuts := { globs := 0, loops := [], regs := [(4, [0, 2])], plans := [] }
def C_slices_siftDownCmpFunc_api_Ref : Cuts := { globs := 0, loops := [(1, [0, 2, 3, 4, 10])], regs := [(5, [0, 2, 3, 4, 10, 11])], plans := [(3, ⟨[0, 1, 2, 3, 4, 5, 6, 7, 8, 9, 10, 11, 12, 13, 14, 15, 16, 17, 18, 19, 20, 21], [0, 1, 0, 7, 15, 31, 31, 31, 31, 415, 991, 2015, 31, 31, 31, 24607, 57375, 127007, 258079, 524287, 1048575, 2097151], [], []⟩), (5, ⟨[0, 1, 2, 3, 4, 5, 6, 7, 8, 9, 10, 11, 12, 13, 14, 15], [0, 0, 0, 0, 12, 30, 62, 0, 0, 0, 768, 1920, 3968, 8191, 16383, 32767], [], []⟩), (6, ⟨[0, 1, 2, 3, 4, 5, 6, 7, 8, 9, 10, 11, 12, 13, 14, 15, 16, 17, 18, 19, 20, 21, 22, 23], [0, 0, 0, 6, 0, 0, 0, 96, 0, 0, 0, 1536, 3840, 7936, 0, 0, 0, 98304, 245760, 507904, 1048335, 2096911, 4194303, 8388607], [], []⟩)] }
end Go.EQ

set_option maxRecDepth 100000
set_option linter.unusedVariables false
namespace Go.EQ
open Go Go.NN Go.Proofs
def C_taint_Same : Cuts := { globs := 0, loops := [], regs := [], plans := [] }
def C_ref15_PlanOk : Cuts := { globs := 0, loops := [(4, [1, 3])], regs := [], plans := [] }
noncomputable def T_ref15_PlanOk : List Item := bodyOf Tryz.f7
noncomputable def T_ref15_PlanOk_L1 : List Item := stk [0, 1, 0, 1, 0, 0, 1, 4, 5] T_ref15_PlanOk
theorem e_ref15_PlanOk (call : CallFn) (run : RunFn) (p : List Value) (h : H) :
  exec PR C_ref15_PlanOk call run F_ref15_PlanOk Tryz.f7 100000 true T_ref15_PlanOk [(0, .agg ⟨p⟩)] h =
  nw (.cells Y_api_Plan false p) h fun b hv => gSl (Addr.add ⟨b, 0, none⟩ 0) hv fun _ xn _ => bnd (cond (decide (((xn : Nat) : Int) < 1)) (some (true, hv)) (gSl (Addr.add ⟨b, 0, none⟩ 0) hv fun _ xn_1 _ => some (decide (((xn_1 : Nat) : Int) > 4), hv))) fun c hv_1 => bnd (cond c (some (true, hv_1)) (gSl (Addr.add ⟨b, 0, none⟩ 1) hv_1 fun _ xn_2 _ => some (decide (((xn_2 : Nat) : Int) > 4), hv_1))) fun c_1 hv_2 => bnd (cond c_1 (some (true, hv_2)) (gInt .i64 (Addr.add ⟨b, 0, none⟩ 2) hv_2 fun x_3 => some (decide (x_3 < 1), hv_2))) fun c_2 hv_3 => bnd (cond c_2 (some (true, hv_3)) (gInt .i64 (Addr.add ⟨b, 0, none⟩ 2) hv_3 fun x_4 => some (decide (x_4 > 1000), hv_3))) fun c_3 hv_4 => cond c_3
  (some (.bool false, hv_4))
  (run F_ref15_PlanOk T_ref15_PlanOk_L1 [(1, .pointer (some ⟨b, 0, none⟩)), (3, .int .i64 0)] hv_4) := by kernel_rfl
theorem e_ref15_PlanOk_L1 (call : CallFn) (run : RunFn) (p : Addr) (i : Int) (h : H) :
  exec PR C_ref15_PlanOk call run F_ref15_PlanOk Tryz.f7 100000 true T_ref15_PlanOk_L1 [(1, .pointer (some p)), (3, .int .i64 i)] h =
  gSl (Addr.add p 1) h fun _ xn _ => cond (decide (i < ((xn : Nat) : Int)))
  (gSl (Addr.add p 1) h fun x_1 xn_1 _ => aSome x_1 fun p_1 => ck ((0 : Int) ≤ i ∧ i < ((xn_1 : Nat) : Int)) (gAgg (Addr.add (bare p_1) (Int.toNat i * 2)) 2 h fun x_2 => nw (.cells Y_api_Bridge false [.int .i64 0, .int .i64 0]) h fun b hv => ck (List.length x_2 = 2) (pAgg ⟨b, 0, none⟩ x_2 hv fun hv_1 => gInt .i64 (Addr.add ⟨b, 0, none⟩ 0) hv_1 fun x_3 => bnd (cond (decide (x_3 < 0)) (some (true, hv_1)) (gInt .i64 (Addr.add ⟨b, 0, none⟩ 0) hv_1 fun x_4 => gSl (Addr.add p 0) hv_1 fun _ xn_2 _ => some (decide (x_4 ≥ ((xn_2 : Nat) : Int)), hv_1))) fun c hv_2 => bnd (cond c (some (true, hv_2)) (gInt .i64 (Addr.add ⟨b, 0, none⟩ 1) hv_2 fun x_6 => some (decide (x_6 < 0), hv_2))) fun c_1 hv_3 => bnd (cond c_1 (some (true, hv_3)) (gInt .i64 (Addr.add ⟨b, 0, none⟩ 1) hv_3 fun x_7 => gSl (Addr.add p 0) hv_3 fun _ xn_3 _ => some (decide (x_7 ≥ ((xn_3 : Nat) : Int)), hv_3))) fun c_2 hv_4 => bnd (cond c_2 (some (true, hv_4)) (gInt .i64 (Addr.add ⟨b, 0, none⟩ 0) hv_4 fun x_9 => gInt .i64 (Addr.add ⟨b, 0, none⟩ 1) hv_4 fun x_10 => some (x_9 == x_10, hv_4))) fun c_3 hv_5 => cond c_3
  (some (.bool false, hv_5))
  (run F_ref15_PlanOk T_ref15_PlanOk_L1 [(1, .pointer (some p)), (3, .int .i64 (IntKind.wrap .i64 (i + 1)))] hv_5))))
  (some (.bool true, h)) := by kernel_rfl
def C_law24_Closure : Cuts := { globs := 0, loops := [(3, [1, 3, 4]), (6, [1, 3, 4, 5])], regs := [], plans := [(9, ⟨[0, 1, 2, 3, 4, 5, 6, 7, 8, 9, 10], [0, 0, 2, 7, 15, 0, 0, 64, 224, 480, 1023], [], []⟩), (10, ⟨[0, 1, 2, 3, 4, 5, 6, 7, 8, 9], [0, 0, 2, 0, 0, 16, 7, 71, 255, 511], [(7, [5])], []⟩)] }
noncomputable def T_law24_Closure : List Item := bodyOf Tryz.f8
noncomputable def T_law24_Closure_L1 : List Item := stk [0, 1, 0, 1, 0, 0, 1, 4, 5] T_law24_Closure
noncomputable def T_law24_Closure_L2 : List Item := stk [0, 1, 0, 1, 0, 0, 1, 4, 5, 6, 0, 1, 4, 0, 1, 0, 1, 4, 5] T_law24_Closure
theorem e_law24_Closure (call : CallFn) (run : RunFn) (p : List Value) (h : H) :
  exec PR C_law24_Closure call run F_law24_Closure Tryz.f8 100000 true T_law24_Closure [(0, .agg ⟨p⟩)] h =
  nw (.cells Y_api_Plan false p) h fun b hv => nw (.cells Y_bool false []) hv fun b_1 hv_1 => gSl (Addr.add ⟨b, 0, none⟩ 0) hv_1 fun x xn _ => gCells x (xn * 1) hv_1 fun cs => ckB (fitsOpen (some ⟨b_1, 0, none⟩) Y_bool hv_1) (apd Y_bool 1 (some ⟨b_1, 0, none⟩) 0 0 xn cs hv_1 fun a an ac hv_2 => run F_law24_Closure T_law24_Closure_L1 [(1, .pointer (some ⟨b, 0, none⟩)), (3, .slice a an ac), (4, .bool true)] hv_2) := by kernel_rfl
theorem e_law24_Closure_L1 (call : CallFn) (run : RunFn) (p : Addr) (out : Option Addr) (outn outc : Nat) (more : Bool) (h : H) :
  exec PR C_law24_Closure call run F_law24_Closure Tryz.f8 100000 true T_law24_Closure_L1 [(1, .pointer (some p)), (3, .slice out outn outc), (4, .bool more)] h =
  cond more
  (run F_law24_Closure T_law24_Closure_L2 [(1, .pointer (some p)), (3, .slice out outn outc), (4, .bool false), (5, .int .i64 0)] h)
  (some (.slice out outn outc, h)) := by kernel_rfl
theorem e_law24_Closure_L2 (call : CallFn) (run : RunFn) (p : Addr) (out : Option Addr) (outn outc : Nat) (more : Bool) (i : Int) (h : H) :
  exec PR C_law24_Closure call run F_law24_Closure Tryz.f8 100000 true T_law24_Closure_L2 [(1, .pointer (some p)), (3, .slice out outn outc), (4, .bool more), (5, .int .i64 i)] h =
  gSl (Addr.add p 1) h fun _ xn _ => cond (decide (i < ((xn : Nat) : Int)))
  (gSl (Addr.add p 1) h fun x_1 xn_1 _ => aSome x_1 fun p_1 => ck ((0 : Int) ≤ i ∧ i < ((xn_1 : Nat) : Int)) (gAgg (Addr.add (bare p_1) (Int.toNat i * 2)) 2 h fun x_2 => nw (.cells Y_api_Bridge false [.int .i64 0, .int .i64 0]) h fun b hv => ck (List.length x_2 = 2) (pAgg ⟨b, 0, none⟩ x_2 hv fun hv_1 => gInt .i64 (Addr.add ⟨b, 0, none⟩ 0) hv_1 fun x_3 => aSome out fun p_2 => ck ((0 : Int) ≤ x_3 ∧ x_3 < ((outn : Nat) : Int)) (gBool (Addr.add (bare p_2) (Int.toNat x_3 * 1)) hv_1 fun x_4 => gInt .i64 (Addr.add ⟨b, 0, none⟩ 1) hv_1 fun x_5 => aSome out fun p_3 => ck ((0 : Int) ≤ x_5 ∧ x_5 < ((outn : Nat) : Int)) (gBool (Addr.add (bare p_3) (Int.toNat x_5 * 1)) hv_1 fun x_6 => cond (!(x_4 == x_6))
  (gInt .i64 (Addr.add ⟨b, 0, none⟩ 0) hv_1 fun x_7 => gInt .i64 (Addr.add ⟨b, 0, none⟩ 1) hv_1 fun x_8 => aSome out fun p_4 => ck ((0 : Int) ≤ x_7 ∧ x_7 < ((outn : Nat) : Int)) (pV (Addr.add (bare p_4) (Int.toNat x_7 * 1)) (.bool true) hv_1 fun hv_2 => gInt .i64 (Addr.add ⟨b, 0, none⟩ 1) hv_2 fun x_9 => same (.int .i64 x_8) (.int .i64 x_9) (aSome out fun p_5 => ck ((0 : Int) ≤ x_8 ∧ x_8 < ((outn : Nat) : Int)) (pV (Addr.add (bare p_5) (Int.toNat x_8 * 1)) (.bool true) hv_2 fun hv_3 => run F_law24_Closure T_law24_Closure_L2 [(1, .pointer (some p)), (3, .slice out outn outc), (4, .bool true), (5, .int .i64 (IntKind.wrap .i64 (i + 1)))] hv_3))))
  (run F_law24_Closure T_law24_Closure_L2 [(1, .pointer (some p)), (3, .slice out outn outc), (4, .bool more), (5, .int .i64 (IntKind.wrap .i64 (i + 1)))] hv_1))))))
  (run F_law24_Closure T_law24_Closure_L1 [(1, .pointer (some p)), (3, .slice out outn outc), (4, .bool more)] h) := by kernel_rfl
def C_slices_Equal_s_int_int : Cuts := { globs := 0, loops := [(4, [0, 1, 12, 13])], regs := [], plans := [(6, ⟨[0, 1, 2, 3, 4, 5, 6, 7, 8], [0, 0, 3, 7, 0, 0, 48, 112, 255], [], []⟩)] }
def C_world_Run : Cuts := { globs := 0, loops := [(6, [6, 8, 21, 22, 23])], regs := [], plans := [] }
noncomputable def T_world_Run : List Item := bodyOf Tryz.f17
noncomputable def T_world_Run_L1 : List Item := stk [0, 1, 0, 1, 0, 1, 0, 1, 0, 0, 1, 4, 5] T_world_Run
def C_taint_Clean : Cuts := { globs := 0, loops := [(3, [3, 8, 9, 10])], regs := [], plans := [] }
noncomputable def T_taint_Clean : List Item := bodyOf Tryz.f18
noncomputable def T_taint_Clean_L1 : List Item := stk [0, 1, 0, 1, 0, 0, 1, 4, 5] T_taint_Clean
def C_world_Boot : Cuts := { globs := 0, loops := [(5, [1, 2, 3, 16, 17]), (9, [1, 2, 3, 4, 16, 17, 25]), (16, [2, 3, 52, 53, 54])], regs := [], plans := [] }
noncomputable def T_world_Boot : List Item := bodyOf Tryz.f24
noncomputable def T_world_Boot_L1 : List Item := stk [0, 1, 0, 1, 0, 1, 0, 0, 1, 4, 5] T_world_Boot
noncomputable def T_world_Boot_L2 : List Item := stk [0, 1, 0, 1, 0, 1, 0, 0, 1, 4, 5, 6, 0, 1, 0, 1, 0, 4, 0, 1, 0, 1, 0, 0, 1, 4, 5] T_world_Boot
noncomputable def T_world_Boot_L3 : List Item := stk [0, 1, 0, 1, 0, 1, 0, 1, 0, 0, 1, 4, 5] T_world_Boot
def C_host_Host_Start : Cuts := { globs := 0, loops := [], regs := [], plans := [(4, ⟨[0, 1, 2, 3, 4, 5, 6, 7, 12, 8, 9, 10, 11, 13, 14], [0, 1, 3, 7, 0, 16, 48, 112, 255, 511, 1023, 1023, 0, 6143, 16383], [], []⟩), (8, ⟨[0, 1, 2, 3, 4, 5, 6, 7, 8], [0, 0, 0, 1, 9, 25, 63, 127, 255], [(5, [2])], []⟩)] }
def C_kern_check : Cuts := { globs := 0, loops := [(7, [1, 3, 52, 53, 54]), (13, [1, 3, 63, 64, 65])], regs := [], plans := [] }
noncomputable def T_kern_check : List Item := bodyOf Tryz.f34
noncomputable def T_kern_check_L1 : List Item := stk [0, 1, 0, 1, 0, 1, 0, 1, 0, 0, 1, 4, 5] T_kern_check
noncomputable def T_kern_check_L2 : List Item := stk [0, 1, 0, 1, 0, 1, 0, 1, 0, 1, 0, 0, 1, 4, 5] T_kern_check
def C_slices_Clone_s_int_int : Cuts := { globs := 0, loops := [], regs := [], plans := [] }
noncomputable def T_slices_Clone_s_int_int : List Item := bodyOf Tryz.f36
def C_mem_New : Cuts := { globs := 0, loops := [], regs := [], plans := [] }
noncomputable def T_mem_New : List Item := bodyOf Tryz.f37
def C_sect_New : Cuts := { globs := 0, loops := [], regs := [], plans := [] }
noncomputable def T_sect_New : List Item := bodyOf Tryz.f41
def C_caps_Space_Put : Cuts := { globs := 0, loops := [], regs := [], plans := [] }
noncomputable def T_caps_Space_Put : List Item := bodyOf Tryz.f45
def C_commons_Commons_SetTerm : Cuts := { globs := 0, loops := [], regs := [], plans := [] }
noncomputable def T_commons_Commons_SetTerm : List Item := bodyOf Tryz.f47
def C_commons_Commons_SetFile : Cuts := { globs := 0, loops := [], regs := [], plans := [] }
noncomputable def T_commons_Commons_SetFile : List Item := bodyOf Tryz.f49
def C_commons_Commons_Look : Cuts := { globs := 0, loops := [(1, [0, 5]), (6, [0, 12]), (11, [0, 20, 21])], regs := [], plans := [] }
def C_commons_Commons_Proc : Cuts := { globs := 0, loops := [], regs := [], plans := [] }
def C_kern_check_1 : Cuts := { globs := 0, loops := [], regs := [], plans := [] }
noncomputable def T_kern_check_1 : List Item := bodyOf Tryz.f62
def C_slices_ContainsFunc_s_int_int : Cuts := { globs := 0, loops := [], regs := [], plans := [] }
noncomputable def T_slices_ContainsFunc_s_int_int : List Item := bodyOf Tryz.f63
def C_caps_Space_Names : Cuts := { globs := 0, loops := [], regs := [], plans := [] }
noncomputable def T_caps_Space_Names : List Item := bodyOf Tryz.f72
def C_ring_Encode : Cuts := { globs := 0, loops := [], regs := [], plans := [(1, ⟨[1, 0, 2, 3, 4, 5, 6], [0, 0, 3, 7, 7, 31, 63], [(0, [1])], []⟩)] }
noncomputable def T_ring_Encode : List Item := bodyOf Tryz.f73
def C_region_Regions_Read : Cuts := { globs := 0, loops := [], regs := [], plans := [] }
def C_region_Regions_Copy : Cuts := { globs := 0, loops := [], regs := [], plans := [] }
def C_codec_Codec_api_Pipe_Encode : Cuts := { globs := 0, loops := [], regs := [], plans := [(2, ⟨[0, 1, 2, 3, 4, 5, 6, 7, 8, 9, 10, 11, 12, 13, 14], [0, 1, 3, 7, 15, 31, 63, 127, 255, 511, 63, 63, 4095, 8191, 16383], [], []⟩)] }
noncomputable def T_codec_Codec_api_Pipe_Encode : List Item := bodyOf Tryz.f110
def C_codec_Sum : Cuts := { globs := 0, loops := [(3, [3, 9, 10, 11])], regs := [], plans := [] }
noncomputable def T_codec_Sum : List Item := bodyOf Tryz.f112
noncomputable def T_codec_Sum_L1 : List Item := stk [0, 1, 0, 1, 0, 0, 1, 4, 5] T_codec_Sum
def C_sect_Sect_Quit : Cuts := { globs := 0, loops := [], regs := [(3, [0, 1])], plans := [] }
def C_sect_Sect_Holds : Cuts := { globs := 0, loops := [], regs := [], plans := [] }
def C_calls_Wake : Cuts := { globs := 0, loops := [], regs := [], plans := [] }
def C_commons_record_api_File : Cuts := { globs := 0, loops := [], regs := [(8, [6, 8, 11, 12])], plans := [(7, ⟨[0, 1, 2, 3, 4, 5, 6, 7, 8, 9], [0, 1, 3, 7, 0, 31, 63, 31, 159, 511], [(7, [5])], []⟩)] }
def C_ofile_Decode : Cuts := { globs := 0, loops := [], regs := [], plans := [] }
def C_ring_Ok_1 : Cuts := { globs := 0, loops := [], regs := [], plans := [] }
noncomputable def T_ring_Ok_1 : List Item := bodyOf Tryz.f136
def C_region_Regions_place : Cuts := { globs := 0, loops := [], regs := [], plans := [(6, ⟨[0, 1, 2, 3, 4, 5, 6, 7, 8, 9, 10, 11, 12, 13, 14, 15, 16, 17, 18, 19, 20, 21, 22, 23, 24, 25, 26, 27, 28, 29, 30, 31, 32, 33, 34, 35], [0, 1, 3, 7, 15, 31, 63, 127, 127, 383, 1023, 2047, 4095, 8191, 8191, 24575, 8191, 122879, 262143, 524287, 1048575, 2097151, 4194303, 8388607, 16777215, 33554431, 67108863, 134217727, 67108863, 335544319, 872415231, 1946157055, 4093640703, 8589934591, 17179869183, 34359738367], [], []⟩), (8, ⟨[0, 1, 2, 3, 4, 5, 6, 7, 8, 9], [0, 1, 3, 7, 0, 16, 63, 127, 0, 511], [], []⟩)] }
noncomputable def T_region_Regions_place : List Item := bodyOf Tryz.f137
def C_caps_Space_Under : Cuts := { globs := 0, loops := [(6, [0, 1, 2, 10, 11]), (9, [0, 1, 2, 10, 11, 44, 45, 46]), (12, [0, 1, 2, 10, 11, 12, 13, 44, 45, 46, 52, 53, 54]), (22, [1, 2, 10, 19, 85, 86, 87]), (25, [1, 2, 10, 19, 20, 85, 86, 87, 93, 94, 95])], regs := [], plans := [] }
def C_sect_Sect_Enter : Cuts := { globs := 0, loops := [(18, [0, 1, 2])], regs := [(10, [0, 1, 2]), (11, [0, 1, 2]), (14, [0, 1, 2]), (17, [])], plans := [(11, ⟨[0, 1, 2, 3, 4, 5, 6, 7, 8, 9, 10, 11, 12, 13, 14, 15, 16], [0, 1, 3, 7, 15, 31, 31, 95, 223, 479, 1023, 31, 2079, 6175, 14367, 32767, 65535], [], []⟩), (18, ⟨[0, 1, 2, 3, 4, 5, 6, 7, 8, 9, 10, 11, 12, 13, 14, 15, 16, 17, 18, 19, 20], [0, 1, 3, 7, 15, 31, 0, 127, 255, 511, 511, 1535, 3583, 7679, 16383, 511, 33279, 98815, 229887, 524287, 1048575], [], []⟩)] }
def C_codec_New_api_Pipe : Cuts := { globs := 0, loops := [], regs := [], plans := [] }
noncomputable def T_codec_New_api_Pipe : List Item := bodyOf Tryz.f149
def C_ring_put : Cuts := { globs := 0, loops := [], regs := [], plans := [(5, ⟨[0, 1, 2, 3, 4], [0, 1, 0, 4, 15], [], []⟩)] }
noncomputable def T_ring_put : List Item := bodyOf Tryz.f150
def C_pslot_get : Cuts := { globs := 0, loops := [(3, [0, 2, 4, 31, 32, 33]), (8, [0, 2, 4, 49])], regs := [], plans := [(1, ⟨[0, 1, 2, 3, 4, 5, 6, 7, 8, 9, 10, 11, 12, 13, 14, 15, 16, 17, 18], [0, 1, 3, 7, 0, 16, 48, 112, 0, 256, 768, 1792, 0, 4096, 12288, 28672, 65535, 0, 262143], [], []⟩), (13, ⟨[0, 1, 2, 3, 4, 5, 6, 7, 8], [0, 0, 2, 6, 6, 30, 62, 63, 255], [(5, [0])], []⟩)] }
def C_proc_Wait : Cuts := { globs := 0, loops := [(6, [0, 4, 7, 23, 24, 25])], regs := [], plans := [(9, ⟨[0, 1, 2, 4, 5, 6, 7, 8, 9, 10, 3, 11, 12], [0, 0, 2, 7, 0, 16, 48, 0, 128, 384, 1008, 2047, 4095], [(3, [5, 9])], []⟩)] }
def C_proc_Kill : Cuts := { globs := 0, loops := [(10, [0, 3, 8, 53, 54, 55])], regs := [], plans := [] }
def C_calls_own : Cuts := { globs := 0, loops := [], regs := [(13, [0, 1, 6, 7, 8, 9])], plans := [] }
def C_sig_Next : Cuts := { globs := 0, loops := [], regs := [(7, [1, 2])], plans := [] }
def C_pred_machine_do : Cuts := { globs := 0, loops := [], regs := [], plans := [(4, ⟨[0, 1, 2, 3, 4, 5, 6, 7], [0, 1, 0, 4, 12, 28, 60, 127], [], []⟩), (5, ⟨[0, 1, 2, 3, 4, 5, 6, 7, 8, 9, 10, 11, 12], [0, 0, 2, 6, 14, 0, 32, 126, 254, 510, 1023, 2047, 4095], [], []⟩), (9, ⟨[0, 1, 2, 3, 4, 5, 6, 7, 8, 9], [0, 1, 3, 7, 0, 16, 63, 127, 255, 511], [], []⟩), (11, ⟨[0, 1, 2, 3, 4, 5, 6, 7, 8, 9, 10, 11], [0, 0, 2, 6, 14, 0, 32, 126, 254, 511, 1023, 2047], [], []⟩)] }
def C_codec_Blank_1 : Cuts := { globs := 0, loops := [], regs := [], plans := [] }
def C_table_Table_api_Cap_at : Cuts := { globs := 0, loops := [], regs := [], plans := [] }
noncomputable def T_table_Table_api_Cap_at : List Item := bodyOf Tryz.f185
def C_pslot_Ok : Cuts := { globs := 0, loops := [], regs := [], plans := [] }
noncomputable def T_pslot_Ok : List Item := bodyOf Tryz.f187
def C_codec_Put2 : Cuts := { globs := 0, loops := [], regs := [], plans := [] }
noncomputable def T_codec_Put2 : List Item := bodyOf Tryz.f188
def C_codec_Get2 : Cuts := { globs := 0, loops := [], regs := [], plans := [(3, ⟨[0, 1, 2, 3, 4, 5, 6, 7, 8, 9, 10, 11, 12, 13, 14], [0, 0, 3, 7, 15, 31, 0, 0, 128, 448, 960, 1984, 4095, 8191, 16383], [], []⟩)] }
def C_fds_Close : Cuts := { globs := 0, loops := [], regs := [], plans := [] }
def C_fds_Dup2 : Cuts := { globs := 0, loops := [], regs := [], plans := [] }
def C_proc_share : Cuts := { globs := 0, loops := [(3, [0, 3, 5, 17, 18]), (9, [0, 5, 31, 32]), (19, [0, 57, 58])], regs := [], plans := [(15, ⟨[0, 1, 2, 3, 4, 5, 6, 7, 8], [0, 1, 0, 4, 12, 28, 63, 127, 255], [], []⟩)] }
def C_proc_Wait_1 : Cuts := { globs := 0, loops := [], regs := [], plans := [] }
def C_proc_slot_lives : Cuts := { globs := 0, loops := [], regs := [], plans := [] }
def C_proc_Group_1 : Cuts := { globs := 0, loops := [], regs := [], plans := [] }
def C_pslot_bits : Cuts := { globs := 0, loops := [], regs := [], plans := [] }
noncomputable def T_pslot_bits : List Item := bodyOf Tryz.f223
def C_pslot_Ok_1 : Cuts := { globs := 0, loops := [], regs := [], plans := [] }
noncomputable def T_pslot_Ok_1 : List Item := bodyOf Tryz.f224
def C_fds_free : Cuts := { globs := 0, loops := [(3, [0, 1, 2, 7, 8])], regs := [], plans := [] }
def C_fds_Pipe_1 : Cuts := { globs := 0, loops := [], regs := [], plans := [] }
def C_pipes_broken : Cuts := { globs := 0, loops := [], regs := [], plans := [] }
def C_fds_name : Cuts := { globs := 0, loops := [], regs := [], plans := [] }
def C_proc_targets_1 : Cuts := { globs := 0, loops := [], regs := [], plans := [] }
def C_pipes_of_1 : Cuts := { globs := 0, loops := [], regs := [], plans := [] }
def C_slices_nextPowerOfTwo : Cuts := { globs := 0, loops := [], regs := [], plans := [] }
def C_slices_medianAdjacentCmpFunc_api_Ref : Cuts := { globs := 0, loops := [], regs := [], plans := [] }
def C_slices_medianCmpFunc_api_Ref : Cuts := { globs := 0, loops := [], regs := [], plans := [] }
def C_slices_order2CmpFunc_api_Ref : Cuts := { globs := 0, loops := [], regs := [], plans := [(1, ⟨[0, 1, 2, 3, 4, 5, 6, 7, 8, 9, 10], [0, 0, 0, 6, 14, 0, 0, 96, 224, 511, 1023], [], []⟩)] }
end Go.EQ

set_option maxRecDepth 100000
set_option linter.unusedVariables false
namespace Go.EQ
open Go Go.NN Go.Proofs
def C_law24_TaintCloses : Cuts := { globs := 0, loops := [(5, [1, 2, 7, 8])], regs := [(10, [1, 2, 7, 8, 9])], plans := [] }
noncomputable def T_law24_TaintCloses : List Item := bodyOf Tryz.f4
noncomputable def T_law24_TaintCloses_L1 : List Item := stk [0, 1, 0, 1, 0, 1, 0, 0, 1, 4, 5] T_law24_TaintCloses
noncomputable def T_law24_TaintCloses_R1 : List Item := stk [0, 1, 0, 1, 0, 1, 0, 0, 1, 4, 5, 6, 0, 1, 0, 4, 0, 1, 0, 1, 0, 0] T_law24_TaintCloses
theorem e_law24_TaintCloses (call : CallFn) (run : RunFn) (raw : List Value) (l : Option Addr) (ln lc : Nat) (lease : Int) (h : H) :
  exec PR C_law24_TaintCloses call run F_law24_TaintCloses Tryz.f4 100000 true T_law24_TaintCloses [(0, .agg ⟨raw⟩), (1, .slice l ln lc), (2, .int .i64 lease)] h =
  nw (.cells Y_api_Plan false raw) h fun b hv => gSl (Addr.add ⟨b, 0, none⟩ 0) hv fun _ xn _ => bnd (cond (decide (((xn : Nat) : Int) > 20)) (some (true, hv)) (gSl (Addr.add ⟨b, 0, none⟩ 1) hv fun _ xn_1 _ => some (decide (((xn_1 : Nat) : Int) > 20), hv))) fun c hv_1 => cond c
  (bnd (call F_law24_awake [] hv_1) fun r hv_2 => aBool r fun x_2 => some (.bool x_2, hv_2))
  (gAgg ⟨b, 0, none⟩ 3 hv_1 fun x_3 => nw (.cells Y_api_Plan false [.slice none 0 0, .slice none 0 0, .int .i64 0]) hv_1 fun b_1 hv_3 => ck (List.length x_3 = 3) (pAgg ⟨b_1, 0, none⟩ x_3 hv_3 fun hv_4 => run F_law24_TaintCloses T_law24_TaintCloses_L1 [(1, .slice l ln lc), (2, .int .i64 lease), (7, .pointer (some ⟨b_1, 0, none⟩)), (8, .int .i64 0)] hv_4)) := by kernel_rfl
theorem e_law24_TaintCloses_L1 (call : CallFn) (run : RunFn) (l : Option Addr) (ln lc : Nat) (lease : Int) (p : Addr) (i : Int) (h : H) :
  exec PR C_law24_TaintCloses call run F_law24_TaintCloses Tryz.f4 100000 true T_law24_TaintCloses_L1 [(1, .slice l ln lc), (2, .int .i64 lease), (7, .pointer (some p)), (8, .int .i64 i)] h =
  cond (decide (i < 2))
  (gAgg p 3 h fun x => bnd (call F_ref15_PlanOk [.agg ⟨x⟩] h) fun r hv => aBool r fun x_1 => cond x_1
  (gAgg p 3 hv fun x_2 => bnd (call F_law24_Closure [.agg ⟨x_2⟩] hv) fun r_1 hv_1 => aSl r_1 fun x_3 xn xc => run F_law24_TaintCloses T_law24_TaintCloses_R1 [(1, .slice l ln lc), (2, .int .i64 lease), (7, .pointer (some p)), (8, .int .i64 i), (9, .slice x_3 xn xc)] hv_1)
  (run F_law24_TaintCloses T_law24_TaintCloses_R1 [(1, .slice l ln lc), (2, .int .i64 lease), (7, .pointer (some p)), (8, .int .i64 i), (9, .slice none 0 0)] hv))
  (bnd (call F_law24_awake [] h) fun r_2 hv_2 => aBool r_2 fun x_4 => some (.bool x_4, hv_2)) := by kernel_rfl
theorem e_law24_TaintCloses_R1 (call : CallFn) (run : RunFn) (l : Option Addr) (ln lc : Nat) (lease : Int) (p : Addr) (i : Int) (want : Option Addr) (wantn wantc : Nat) (h : H) :
  exec PR C_law24_TaintCloses call run F_law24_TaintCloses Tryz.f4 100000 true T_law24_TaintCloses_R1 [(1, .slice l ln lc), (2, .int .i64 lease), (7, .pointer (some p)), (8, .int .i64 i), (9, .slice want wantn wantc)] h =
  gAgg p 3 h fun x => bnd (call F_taint_Closure [.agg ⟨x⟩] h) fun r hv => aSl r fun x_1 xn xc => bnd (call F_law24_same [.slice x_1 xn xc, .slice want wantn wantc] hv) fun r_1 hv_1 => aBool r_1 fun x_2 => cond (!x_2)
  (some (.bool false, hv_1))
  (bnd (call F_law22_Plan [.slice l ln lc, .int .i64 lease] hv_1) fun r_2 hv_2 => aAgg r_2 fun x_3 => ck (List.length x_3 = 3) (pAgg p x_3 hv_2 fun hv_3 => run F_law24_TaintCloses T_law24_TaintCloses_L1 [(1, .slice l ln lc), (2, .int .i64 lease), (7, .pointer (some p)), (8, .int .i64 (IntKind.wrap .i64 (i + 1)))] hv_3)) := by kernel_rfl
def C_taint_Closure : Cuts := { globs := 0, loops := [(5, [1, 3, 14, 15]), (7, [1, 3, 14, 15, 18, 19, 20])], regs := [], plans := [(10, ⟨[0, 1, 2, 3, 4, 5, 6, 7, 8, 9], [0, 0, 2, 0, 0, 16, 7, 71, 255, 511], [(7, [5])], []⟩)] }
noncomputable def T_taint_Closure : List Item := bodyOf Tryz.f10
noncomputable def T_taint_Closure_L1 : List Item := stk [0, 1, 0, 1, 0, 1, 0, 0, 1, 4, 5] T_taint_Closure
noncomputable def T_taint_Closure_L2 : List Item := stk [0, 1, 0, 1, 0, 1, 0, 0, 1, 4, 5, 6, 0, 1, 0, 1, 0, 4, 0, 1, 4, 5] T_taint_Closure
theorem e_taint_Closure (call : CallFn) (run : RunFn) (p : List Value) (h : H) :
  exec PR C_taint_Closure call run F_taint_Closure Tryz.f10 100000 true T_taint_Closure [(0, .agg ⟨p⟩)] h =
  nw (.cells Y_api_Plan false p) h fun b hv => gAgg ⟨b, 0, none⟩ 3 hv fun x => bnd (call F_world_Check [.agg ⟨x⟩] hv) fun r hv_1 => aInt .i64 r fun x_1 => cond (x_1 != 0)
  (some (.slice none 0 0, hv_1))
  (gSl (Addr.add ⟨b, 0, none⟩ 0) hv_1 fun x_2 xn xc => bnd (call F_slices_Clone_s_bool_bool [.slice x_2 xn xc] hv_1) fun r_1 hv_2 => aSl r_1 fun x_3 xn_1 xc_1 => gSl (Addr.add ⟨b, 0, none⟩ 0) hv_2 fun _ xn_2 _ => run F_taint_Closure T_taint_Closure_L1 [(1, .pointer (some ⟨b, 0, none⟩)), (3, .slice x_3 xn_1 xc_1), (14, .int .i64 ((xn_2 : Nat) : Int)), (15, .int .i64 0)] hv_2) := by kernel_rfl
theorem e_taint_Closure_L1 (call : CallFn) (run : RunFn) (p : Addr) (out : Option Addr) (outn outc : Nat) (x14 : Int) (x15 : Int) (h : H) :
  exec PR C_taint_Closure call run F_taint_Closure Tryz.f10 100000 true T_taint_Closure_L1 [(1, .pointer (some p)), (3, .slice out outn outc), (14, .int .i64 x14), (15, .int .i64 x15)] h =
  cond (decide (x15 < x14))
  (gSl (Addr.add p 1) h fun x xn xc => run F_taint_Closure T_taint_Closure_L2 [(1, .pointer (some p)), (3, .slice out outn outc), (14, .int .i64 x14), (15, .int .i64 x15), (18, .slice x xn xc), (19, .int .i64 ((xn : Nat) : Int)), (20, .int .i64 0)] h)
  (some (.slice out outn outc, h)) := by kernel_rfl
theorem e_taint_Closure_L2 (call : CallFn) (run : RunFn) (p : Addr) (out : Option Addr) (outn outc : Nat) (x14 : Int) (x15 : Int) (x18 : Option Addr) (x18n x18c : Nat) (x19 : Int) (x20 : Int) (h : H) :
  exec PR C_taint_Closure call run F_taint_Closure Tryz.f10 100000 true T_taint_Closure_L2 [(1, .pointer (some p)), (3, .slice out outn outc), (14, .int .i64 x14), (15, .int .i64 x15), (18, .slice x18 x18n x18c), (19, .int .i64 x19), (20, .int .i64 x20)] h =
  cond (decide (x20 < x19))
  (aSome x18 fun p_1 => ck ((0 : Int) ≤ x20 ∧ x20 < ((x18n : Nat) : Int)) (gAgg (Addr.add (bare p_1) (Int.toNat x20 * 2)) 2 h fun x => nw (.cells Y_api_Bridge false [.int .i64 0, .int .i64 0]) h fun b hv => ck (List.length x = 2) (pAgg ⟨b, 0, none⟩ x hv fun hv_1 => gInt .i64 (Addr.add ⟨b, 0, none⟩ 0) hv_1 fun x_1 => aSome out fun p_2 => ck ((0 : Int) ≤ x_1 ∧ x_1 < ((outn : Nat) : Int)) (gBool (Addr.add (bare p_2) (Int.toNat x_1 * 1)) hv_1 fun x_2 => bnd (cond x_2 (some (true, hv_1)) (gInt .i64 (Addr.add ⟨b, 0, none⟩ 1) hv_1 fun x_3 => aSome out fun p_3 => ck ((0 : Int) ≤ x_3 ∧ x_3 < ((outn : Nat) : Int)) (gBool (Addr.add (bare p_3) (Int.toNat x_3 * 1)) hv_1 fun x_4 => some (x_4, hv_1)))) fun c hv_2 => cond c
  (gInt .i64 (Addr.add ⟨b, 0, none⟩ 0) hv_2 fun x_5 => gInt .i64 (Addr.add ⟨b, 0, none⟩ 1) hv_2 fun x_6 => aSome out fun p_4 => ck ((0 : Int) ≤ x_5 ∧ x_5 < ((outn : Nat) : Int)) (pV (Addr.add (bare p_4) (Int.toNat x_5 * 1)) (.bool true) hv_2 fun hv_3 => gInt .i64 (Addr.add ⟨b, 0, none⟩ 1) hv_3 fun x_7 => same (.int .i64 x_6) (.int .i64 x_7) (aSome out fun p_5 => ck ((0 : Int) ≤ x_6 ∧ x_6 < ((outn : Nat) : Int)) (pV (Addr.add (bare p_5) (Int.toNat x_6 * 1)) (.bool true) hv_3 fun hv_4 => run F_taint_Closure T_taint_Closure_L2 [(1, .pointer (some p)), (3, .slice out outn outc), (14, .int .i64 x14), (15, .int .i64 x15), (18, .slice x18 x18n x18c), (19, .int .i64 x19), (20, .int .i64 (IntKind.wrap .i64 (x20 + 1)))] hv_4))))
  (run F_taint_Closure T_taint_Closure_L2 [(1, .pointer (some p)), (3, .slice out outn outc), (14, .int .i64 x14), (15, .int .i64 x15), (18, .slice x18 x18n x18c), (19, .int .i64 x19), (20, .int .i64 (IntKind.wrap .i64 (x20 + 1)))] hv_2)))))
  (run F_taint_Closure T_taint_Closure_L1 [(1, .pointer (some p)), (3, .slice out outn outc), (14, .int .i64 x14), (15, .int .i64 (IntKind.wrap .i64 (x15 + 1)))] h) := by kernel_rfl
def C_taint_Differ : Cuts := { globs := 0, loops := [(7, [6, 8, 37, 38])], regs := [], plans := [(4, ⟨[0, 1, 2, 3, 4, 5, 6, 7, 8], [0, 0, 2, 7, 15, 31, 31, 63, 255], [(2, [0])], []⟩), (5, ⟨[0, 1, 3, 4, 2, 5, 6, 7], [0, 0, 3, 0, 0, 31, 63, 127], [(2, [3])], []⟩), (9, ⟨[0, 1, 2, 3, 4, 5, 6, 7, 8, 9, 10, 11, 12, 13, 14, 15, 16, 17, 18, 19, 20, 21], [0, 0, 2, 7, 15, 31, 31, 95, 255, 511, 1023, 2047, 2047, 8191, 16383, 2047, 2047, 100351, 231423, 524287, 1048575, 2097151], [], []⟩)] }
noncomputable def T_taint_Differ : List Item := bodyOf Tryz.f12
noncomputable def T_taint_Differ_L1 : List Item := stk [0, 1, 0, 1, 0, 1, 0, 1, 0, 1, 0, 0, 1, 4, 5] T_taint_Differ
def C_taint_Only : Cuts := { globs := 0, loops := [(4, [5, 6, 11, 12, 13])], regs := [], plans := [] }
noncomputable def T_taint_Only : List Item := bodyOf Tryz.f19
noncomputable def T_taint_Only_L1 : List Item := stk [0, 1, 0, 1, 0, 1, 0, 0, 1, 4, 5] T_taint_Only
def C_world_New : Cuts := { globs := 0, loops := [(9, [5, 7, 43, 44]), (14, [5, 7, 8, 9, 43, 44, 50])], regs := [], plans := [(7, ⟨[0, 1, 2, 3, 5, 6, 7, 9, 10, 4, 8, 11, 12, 13, 14], [0, 0, 0, 4, 14, 0, 0, 64, 254, 0, 512, 2046, 4095, 8191, 16383], [(4, [7, 10]), (8, [10])], []⟩)] }
noncomputable def T_world_New : List Item := bodyOf Tryz.f20
noncomputable def T_world_New_L1 : List Item := stk [0, 1, 0, 1, 0, 1, 0, 1, 0, 1, 0, 0, 1, 4, 5] T_world_New
noncomputable def T_world_New_L2 : List Item := stk [0, 1, 0, 1, 0, 1, 0, 1, 0, 1, 0, 0, 1, 4, 5, 6, 0, 1, 0, 1, 0, 4, 0, 1, 0, 1, 0, 1, 0, 0, 1, 4, 5] T_world_New
def C_world_World_Do : Cuts := { globs := 0, loops := [], regs := [], plans := [(6, ⟨[0, 1, 2, 3, 4, 5, 6], [0, 1, 3, 7, 0, 16, 63], [], []⟩), (12, ⟨[0, 2, 3, 1, 4], [0, 1, 0, 4, 15], [(1, [3])], []⟩), (14, ⟨[0, 1, 2, 3, 4, 5, 6, 7, 8, 9, 10, 11, 12, 13, 14, 15, 16, 17, 18, 19, 20, 21, 22, 23, 24], [0, 1, 3, 7, 15, 31, 15, 79, 207, 463, 975, 1999, 4095, 8191, 16383, 32767, 65535, 131071, 262143, 524287, 32767, 1081343, 4194303, 8388607, 16777215], [], []⟩), (15, ⟨[0, 1, 2, 3, 4, 5, 6, 7, 8, 9, 10], [0, 1, 3, 7, 0, 16, 48, 112, 0, 256, 1023], [], []⟩)] }
def C_kern_New : Cuts := { globs := 0, loops := [(5, [1, 4, 20, 21, 22]), (12, [1, 7, 58, 59, 60]), (18, [7, 89, 90, 91]), (22, [7, 11, 12, 89, 90, 91, 122, 123, 124])], regs := [], plans := [(9, ⟨[0, 1, 3, 5, 6, 7, 9, 10, 2, 4, 8, 11, 12, 13, 14], [0, 1, 3, 0, 15, 0, 32, 96, 255, 0, 512, 2047, 4095, 8191, 16383], [(2, [6, 10]), (4, [6, 10]), (8, [10])], []⟩), (10, ⟨[0, 1, 2, 3, 4, 5, 6, 7, 8, 9, 10, 11, 12], [0, 0, 2, 6, 14, 0, 32, 96, 224, 510, 1023, 2047, 4095], [], []⟩), (14, ⟨[0, 1, 2, 3, 4, 5, 6, 7, 8, 9, 10, 11], [0, 0, 2, 6, 14, 0, 32, 96, 254, 511, 1023, 2047], [(6, [4])], []⟩), (15, ⟨[0, 1, 2, 3, 4, 5, 6, 7, 8, 9, 10, 11, 12], [0, 0, 2, 6, 14, 0, 32, 96, 224, 510, 1023, 2047, 4095], [(7, [4])], []⟩), (20, ⟨[0, 1, 2, 3, 4, 5, 6, 7, 8, 9, 11, 12, 15, 16, 18, 19, 10, 13, 14, 17, 20, 21, 22, 23, 24, 25], [0, 1, 3, 7, 0, 16, 48, 112, 0, 256, 1008, 0, 2048, 8176, 16368, 0, 32768, 131056, 0, 262144, 1048575, 2097151, 4194303, 4194303, 8388607, 33554431], [(10, [3, 12, 16, 19])], []⟩), (25, ⟨[0, 1, 2, 3, 4, 5, 6, 7, 8, 9], [0, 1, 3, 7, 0, 0, 0, 64, 224, 511], [], []⟩)] }
noncomputable def T_kern_New : List Item := bodyOf Tryz.f23
noncomputable def T_kern_New_L1 : List Item := stk [0, 1, 0, 1, 0, 1, 0, 0, 1, 4, 5] T_kern_New
noncomputable def T_kern_New_L2 : List Item := stk [0, 1, 0, 1, 0, 1, 0, 1, 0, 1, 0, 1, 0, 0, 1, 4, 5] T_kern_New
noncomputable def T_kern_New_L3 : List Item := stk [0, 1, 0, 1, 0, 1, 0, 1, 0, 1, 0, 1, 0, 1, 0, 0, 1, 4, 5] T_kern_New
noncomputable def T_kern_New_L4 : List Item := stk [0, 1, 0, 1, 0, 1, 0, 1, 0, 1, 0, 1, 0, 1, 0, 0, 1, 4, 5, 6, 0, 1, 0, 1, 0, 4, 0, 1, 0, 1, 0, 1, 4, 5] T_kern_New
def C_world_World_Host : Cuts := { globs := 0, loops := [], regs := [], plans := [] }
def C_host_Host_Commons : Cuts := { globs := 0, loops := [], regs := [], plans := [] }
def C_region_New : Cuts := { globs := 0, loops := [], regs := [], plans := [] }
noncomputable def T_region_New : List Item := bodyOf Tryz.f40
def C_region_Regions_Add : Cuts := { globs := 0, loops := [], regs := [], plans := [] }
noncomputable def T_region_Regions_Add : List Item := bodyOf Tryz.f42
def C_quota_Quota_First : Cuts := { globs := 0, loops := [(3, [5, 20, 21, 22])], regs := [], plans := [(2, ⟨[0, 1, 2, 3, 4, 5, 6, 7, 8, 9, 10, 11, 12, 13, 14], [0, 1, 3, 7, 0, 16, 0, 64, 192, 448, 960, 2032, 4095, 8191, 0], [], []⟩)] }
noncomputable def T_quota_Quota_First : List Item := bodyOf Tryz.f43
noncomputable def T_quota_Quota_First_L1 : List Item := stk [0, 1, 0, 1, 0, 0, 1, 4, 5] T_quota_Quota_First
def C_commons_New : Cuts := { globs := 0, loops := [], regs := [], plans := [] }
noncomputable def T_commons_New : List Item := bodyOf Tryz.f46
def C_commons_Commons_SetPipe : Cuts := { globs := 0, loops := [], regs := [], plans := [] }
def C_kern_Kern_Sect : Cuts := { globs := 0, loops := [], regs := [], plans := [] }
noncomputable def T_kern_Kern_Sect : List Item := bodyOf Tryz.f52
def C_host_Host_Fresh : Cuts := { globs := 0, loops := [], regs := [], plans := [(1, ⟨[0, 1, 2, 3, 4, 5, 6, 7, 8, 9, 10, 11, 12, 13, 14, 15], [0, 0, 2, 6, 14, 0, 32, 96, 224, 510, 1022, 2046, 2046, 4095, 12287, 28671], [], []⟩)] }
def C_kern_Kern_number : Cuts := { globs := 0, loops := [], regs := [], plans := [(3, ⟨[0, 1, 2, 3, 4, 5, 6, 7, 8, 9, 10, 11, 12, 13, 14, 15, 16, 17, 18, 19], [0, 1, 3, 7, 0, 0, 32, 0, 128, 0, 512, 0, 2048, 0, 8192, 32767, 65535, 65535, 262143, 524287], [], []⟩), (5, ⟨[0, 1, 2, 3, 4, 5, 6, 7, 8, 9, 10, 11], [0, 1, 3, 7, 0, 0, 32, 127, 255, 255, 1023, 2047], [], []⟩), (7, ⟨[0, 1, 2, 3, 4, 5, 6, 7, 8, 9, 10, 11, 12, 13, 14, 15], [0, 1, 3, 7, 0, 16, 48, 112, 0, 496, 1008, 2047, 4095, 4095, 16383, 32767], [], []⟩), (9, ⟨[0, 1, 2, 3, 4, 5, 6, 7, 8, 9, 10, 11, 12, 13, 14, 15], [0, 1, 3, 7, 0, 16, 48, 112, 0, 496, 1008, 0, 2048, 8191, 16383, 32767], [], []⟩)] }
def C_table_New_api_Cap : Cuts := { globs := 0, loops := [(3, [3, 15, 16])], regs := [], plans := [] }
noncomputable def T_table_New_api_Cap : List Item := bodyOf Tryz.f65
noncomputable def T_table_New_api_Cap_L1 : List Item := stk [0, 1, 0, 1, 0, 0, 1, 4, 5] T_table_New_api_Cap
def C_commons_Commons_write : Cuts := { globs := 0, loops := [], regs := [], plans := [(2, ⟨[0, 1, 2, 3, 4, 5, 6, 7, 8, 9, 10, 11, 12, 13, 14], [0, 1, 3, 7, 15, 31, 63, 127, 255, 511, 1023, 127, 4095, 8191, 16383], [], []⟩), (4, ⟨[0, 1, 2, 3, 4, 5, 6, 7, 8, 9, 10, 11, 12, 13, 14, 15, 16, 17], [0, 1, 3, 7, 0, 16, 48, 112, 0, 256, 0, 1024, 0, 7936, 16383, 32767, 65535, 131071], [], []⟩)] }
noncomputable def T_commons_Commons_write : List Item := bodyOf Tryz.f74
def C_pslot_Encode : Cuts := { globs := 0, loops := [], regs := [], plans := [(1, ⟨[1, 0, 2, 3, 4, 5, 6], [0, 0, 3, 7, 7, 31, 63], [(0, [1])], []⟩)] }
noncomputable def T_pslot_Encode : List Item := bodyOf Tryz.f79
def C_commons_proc : Cuts := { globs := 0, loops := [], regs := [], plans := [] }
noncomputable def T_commons_proc : List Item := bodyOf Tryz.f80
def C_host_Host_idle : Cuts := { globs := 0, loops := [], regs := [], plans := [(1, ⟨[0, 1, 2, 3, 4, 5, 6, 7, 9, 10, 11, 12, 8, 13], [0, 1, 3, 7, 0, 16, 48, 112, 255, 0, 512, 1536, 3584, 8191], [(8, [12])], []⟩)] }
def C_host_Host_want : Cuts := { globs := 0, loops := [], regs := [], plans := [(0, ⟨[0, 1, 2, 3, 4, 5, 6, 7, 8, 9, 10, 11, 12, 14, 13, 15], [0, 1, 3, 7, 0, 16, 48, 112, 0, 256, 768, 1792, 3840, 8191, 0, 32767], [], []⟩), (2, ⟨[0, 1, 2, 3, 4, 5, 6, 7, 8, 9], [0, 0, 0, 4, 1, 17, 49, 127, 255, 511], [(6, [3])], []⟩)] }
def C_commons_Commons_File : Cuts := { globs := 0, loops := [], regs := [], plans := [] }
def C_commons_Commons_most : Cuts := { globs := 0, loops := [], regs := [], plans := [] }
noncomputable def T_commons_Commons_most : List Item := bodyOf Tryz.f89
def C_ring_Decode : Cuts := { globs := 0, loops := [], regs := [], plans := [] }
def C_ring_Ok : Cuts := { globs := 0, loops := [], regs := [], plans := [] }
noncomputable def T_ring_Ok : List Item := bodyOf Tryz.f96
def C_caps_Space_Revoke : Cuts := { globs := 0, loops := [(5, [0, 1, 2, 8, 22, 23, 24])], regs := [], plans := [(7, ⟨[0, 1, 2, 3, 4, 5, 6, 7, 8, 9, 10], [0, 1, 3, 7, 0, 16, 63, 127, 0, 256, 1023], [], []⟩)] }
def C_quota_Quota_Free : Cuts := { globs := 0, loops := [], regs := [], plans := [] }
def C_kern_Kern_enter : Cuts := { globs := 0, loops := [], regs := [], plans := [] }
def C_codec_Codec_api_Proc_Encode : Cuts := { globs := 0, loops := [], regs := [], plans := [(2, ⟨[0, 1, 2, 3, 4, 5, 6, 7, 8, 9, 10, 11, 12, 13, 14], [0, 1, 3, 7, 15, 31, 63, 127, 255, 511, 63, 63, 4095, 8191, 16383], [], []⟩)] }
noncomputable def T_codec_Codec_api_Proc_Encode : List Item := bodyOf Tryz.f116
def C_kern_Kern_Now : Cuts := { globs := 0, loops := [], regs := [], plans := [] }
def C_commons_Commons_read : Cuts := { globs := 0, loops := [], regs := [], plans := [(2, ⟨[0, 1, 2, 3, 4, 5, 6, 7, 8, 9, 10], [0, 1, 3, 7, 15, 31, 63, 7, 255, 511, 1023], [], []⟩), (4, ⟨[0, 1, 2, 3, 4, 5, 6, 7, 8, 9, 10, 11, 12, 13, 14, 16, 15, 17], [0, 1, 3, 7, 0, 16, 48, 112, 0, 256, 0, 1024, 0, 4096, 16128, 32767, 0, 131071], [], []⟩), (6, ⟨[0, 1, 2, 3, 4, 5, 6, 7, 8, 9], [0, 1, 3, 7, 0, 31, 63, 31, 159, 511], [(7, [5])], []⟩)] }
def C_kern_Kern_sect : Cuts := { globs := 0, loops := [], regs := [], plans := [(1, ⟨[0, 1, 2, 3, 4, 5, 6, 7, 8, 9, 10, 11, 12, 13, 14, 15, 16, 17, 18, 19, 20, 21, 22, 23, 24, 25, 26, 27, 28], [0, 1, 3, 7, 7, 23, 55, 119, 247, 511, 1023, 2047, 4095, 8191, 16383, 32767, 4095, 131071, 262143, 4095, 528383, 1576959, 3674111, 4095, 16257023, 33034239, 67108863, 134217727, 268435455], [], []⟩)] }
def C_table_Table_api_Cap_name : Cuts := { globs := 0, loops := [], regs := [], plans := [] }
noncomputable def T_table_Table_api_Cap_name : List Item := bodyOf Tryz.f148
def C_ofile_put : Cuts := { globs := 0, loops := [], regs := [], plans := [] }
noncomputable def T_ofile_put : List Item := bodyOf Tryz.f153
def C_codec_New_api_Proc : Cuts := { globs := 0, loops := [], regs := [], plans := [] }
noncomputable def T_codec_New_api_Proc : List Item := bodyOf Tryz.f155
def C_calls_files : Cuts := { globs := 0, loops := [], regs := [], plans := [] }
def C_proc_Fork : Cuts := { globs := 0, loops := [], regs := [], plans := [] }
def C_calls_told : Cuts := { globs := 0, loops := [], regs := [], plans := [] }
def C_fds_Of : Cuts := { globs := 0, loops := [], regs := [], plans := [(3, ⟨[0, 1, 2, 3, 4], [0, 0, 0, 5, 15], [], []⟩), (5, ⟨[0, 1, 2, 3], [0, 0, 3, 7], [], []⟩), (9, ⟨[0, 1, 2, 3, 4, 5, 6, 7, 8], [0, 0, 3, 7, 15, 0, 31, 127, 255], [], []⟩)] }
def C_pred_Either : Cuts := { globs := 0, loops := [], regs := [], plans := [] }
def C_proc_told : Cuts := { globs := 0, loops := [], regs := [], plans := [] }
def C_proc_CloseAll : Cuts := { globs := 0, loops := [(4, [0, 1, 4, 19, 20])], regs := [], plans := [] }
def C_proc_done : Cuts := { globs := 0, loops := [], regs := [], plans := [] }
def C_commons_Commons_FreeProc : Cuts := { globs := 0, loops := [], regs := [], plans := [] }
def C_ofile_Ok : Cuts := { globs := 0, loops := [], regs := [], plans := [] }
noncomputable def T_ofile_Ok : List Item := bodyOf Tryz.f186
def C_proc_child : Cuts := { globs := 0, loops := [], regs := [], plans := [] }
def C_pred_ok : Cuts := { globs := 0, loops := [], regs := [], plans := [] }
def C_slices_Clip_s_api_Ins_api_Ins : Cuts := { globs := 0, loops := [], regs := [], plans := [] }
def C_proc_CloseFile : Cuts := { globs := 0, loops := [], regs := [(18, [0, 5, 7])], plans := [] }
def C_slices_IndexFunc_s_byte_byte : Cuts := { globs := 0, loops := [(2, [0, 1, 7, 8])], regs := [], plans := [] }
def C_slices_pdqsortCmpFunc_api_Ref : Cuts := { globs := 0, loops := [(2, [0, 1, 2, 3, 4, 10, 11])], regs := [(10, [0, 1, 2, 3, 4, 10, 11, 12]), (15, [0, 1, 2, 3, 4, 10, 11, 12, 13, 14]), (17, [0, 1, 2, 3, 4, 10, 11, 12, 13])], plans := [(17, ⟨[0, 1, 2, 3, 4, 5, 6, 7, 8, 9, 10, 11, 12, 13, 14, 15, 16], [0, 1, 3, 7, 7, 7, 39, 119, 247, 7, 7, 1543, 3591, 8191, 16383, 32767, 65535], [], []⟩)] }
def C_math_bits_Len : Cuts := { globs := 0, loops := [], regs := [], plans := [] }
def C_pipes_may : Cuts := { globs := 0, loops := [], regs := [], plans := [(9, ⟨[0, 1, 2, 3, 4, 5], [0, 0, 0, 6, 15, 31], [(3, [0])], []⟩)] }
def C_pipes_told : Cuts := { globs := 0, loops := [], regs := [], plans := [] }
def C_ring_Take : Cuts := { globs := 0, loops := [], regs := [], plans := [(6, ⟨[0, 1, 2, 3, 4], [0, 0, 2, 7, 15], [(2, [0])], []⟩)] }
def C_proc_Has_1 : Cuts := { globs := 0, loops := [], regs := [], plans := [] }
def C_commons_Commons_FreeFile : Cuts := { globs := 0, loops := [], regs := [], plans := [] }
def C_slices_insertionSortCmpFunc_api_Ref : Cuts := { globs := 0, loops := [(1, [0, 1, 2, 3, 8]), (4, [0, 1, 2, 3, 8, 9])], regs := [], plans := [(4, ⟨[0, 1, 2, 3, 4, 5, 6, 7, 8, 9, 10, 11, 12, 13, 14, 15, 16], [0, 0, 3, 7, 15, 15, 15, 111, 239, 15, 15, 1039, 3599, 7695, 16383, 32767, 65535], [], []⟩), (6, ⟨[0, 1, 2, 3, 4, 5, 6, 7, 8, 9, 10, 11, 12, 13, 14, 15, 16, 17], [0, 0, 0, 0, 8, 0, 0, 64, 224, 480, 0, 0, 3072, 7168, 16355, 32739, 65535, 131071], [], []⟩)] }
def C_slices_breakPatternsCmpFunc_api_Ref : Cuts := { globs := 0, loops := [(5, [0, 1, 8, 9, 10, 11])], regs := [(10, [0, 1, 8, 9, 10, 11, 12])], plans := [(10, ⟨[0, 1, 2, 3, 4, 5, 6, 7, 8, 9, 10, 11, 12, 13, 14, 15, 16, 17, 18, 19], [0, 0, 0, 0, 0, 24, 0, 0, 0, 384, 960, 1984, 0, 0, 12288, 28672, 65475, 131011, 262143, 524287], [], []⟩)] }
def C_math_bits_Len64 : Cuts := { globs := 0, loops := [], regs := [(4, [0, 2]), (7, [0, 2])], plans := [] }
def C_fds_fdsOf_1 : Cuts := { globs := 0, loops := [], regs := [], plans := [] }
def C_slices_xorshift_Next : Cuts := { globs := 0, loops := [], regs := [], plans := [(1, ⟨[0, 1, 2, 3, 4, 5, 6, 7, 8, 9], [0, 1, 3, 0, 8, 24, 56, 127, 255, 511], [], []⟩), (2, ⟨[0, 1, 2, 3, 4, 5, 6, 7, 8, 9], [0, 1, 3, 0, 8, 24, 56, 127, 255, 511], [], []⟩), (3, ⟨[0, 1, 2, 3, 4, 5, 6, 7, 8, 9], [0, 1, 3, 0, 8, 24, 56, 127, 255, 511], [], []⟩)] }
end Go.EQ

set_option maxRecDepth 100000
namespace Go.EQ
open Go Go.NN Go.Proofs
def cutsL : List (Nat × Cuts) := [(4, C_law24_TaintCloses), (5, C_law24_awake), (6, C_taint_Same), (7, C_ref15_PlanOk), (8, C_law24_Closure), (9, C_law24_same), (10, C_taint_Closure), (11, C_law22_Plan), (12, C_taint_Differ), (13, C_slices_Equal_s_byte_byte), (14, C_slices_Equal_s_int_int), (15, C_world_Check), (16, C_slices_Clone_s_bool_bool), (17, C_world_Run), (18, C_taint_Clean), (19, C_taint_Only), (20, C_world_New), (21, C_world_World_Do), (22, C_slices_Clone_s_api_Step_api_Step), (23, C_kern_New), (24, C_world_Boot), (25, C_world_World_begin), (26, C_host_New), (27, C_world_World_Host), (28, C_world_World_pick), (29, C_kern_Kern_Tick), (30, C_host_Host_Start), (31, C_pipes_Type), (32, C_host_Host_Commons), (33, C_kern_Kern_Do), (34, C_kern_check), (35, C_kern_frames), (36, C_slices_Clone_s_int_int), (37, C_mem_New), (38, C_caps_New), (39, C_quota_New), (40, C_region_New), (41, C_sect_New), (42, C_region_Regions_Add), (43, C_quota_Quota_First), (44, C_slices_Contains_s_int_int), (45, C_caps_Space_Put), (46, C_commons_New), (47, C_commons_Commons_SetTerm), (48, C_commons_Commons_SetFront), (49, C_commons_Commons_SetFile), (50, C_commons_Commons_SetPipe), (51, C_commons_Commons_SetProc), (52, C_kern_Kern_Sect), (53, C_host_Host_Pick), (54, C_host_Host_Fresh), (55, C_commons_Commons_Look), (56, C_commons_Commons_Proc), (57, C_slices_Clone_s_byte_byte), (58, C_commons_Commons_Term), (59, C_ring_Put), (60, C_kern_Kern_bytes), (61, C_kern_Kern_number), (62, C_kern_check_1), (63, C_slices_ContainsFunc_s_int_int), (64, C_kern_share), (65, C_table_New_api_Cap), (66, C_mem_Mem_Size), (67, C_slices_Index_s_int_int), (68, C_caps_Space_Put_1), (69, C_caps_Space_is), (70, C_caps_Space_add), (71, C_kern_Kern_Space), (72, C_caps_Space_Names), (73, C_ring_Encode), (74, C_commons_Commons_write), (75, C_commons_FrontBytes), (76, C_ofile_Encode), (77, C_commons_file), (78, C_commons_pipe), (79, C_pslot_Encode), (80, C_commons_proc), (81, C_host_Host_bad), (82, C_host_Host_idle), (83, C_host_Host_leave), (84, C_host_Host_want), (85, C_host_Host_in), (86, C_host_Host_blocked), (87, C_host_Host_end), (88, C_commons_Commons_File), (89, C_commons_Commons_most), (90, C_commons_Commons_Pipe), (91, C_commons_Commons_Front), (92, C_commons_record_api_Proc), (93, C_pslot_Decode), (94, C_commons_record_api_Pipe), (95, C_ring_Decode), (96, C_ring_Ok), (97, C_region_Regions_Read), (98, C_region_Regions_Write), (99, C_region_Regions_Copy), (100, C_caps_Space_Grant), (101, C_caps_Space_Revoke), (102, C_quota_Quota_Alloc), (103, C_quota_Quota_Free), (104, C_kern_Kern_enter), (105, C_kern_Kern_leave), (106, C_slices_IndexFunc_s_int_int), (107, C_table_Table_api_Cap_Add), (108, C_table_Table_api_Cap_Names), (109, C_ring_Codec), (110, C_codec_Codec_api_Pipe_Encode), (111, C_commons_Commons_place), (112, C_codec_Sum), (113, C_ofile_Codec), (114, C_codec_Codec_api_File_Encode), (115, C_pslot_Codec), (116, C_codec_Codec_api_Proc_Encode), (117, C_host_Host_back), (118, C_sect_Sect_Quit), (119, C_sect_Sect_Holds), (120, C_calls_Do), (121, C_sig_Wakes), (122, C_pred_Eval), (123, C_commons_Commons_View), (124, C_kern_Kern_Now), (125, C_calls_Wake), (126, C_sig_Deliver), (127, C_proc_Exit), (128, C_commons_record_api_File), (129, C_ofile_Decode), (130, C_commons_record_int), (131, C_commons_FrontOf), (132, C_commons_Commons_read), (133, C_codec_Blank), (134, C_codec_Codec_api_Proc_Decode), (135, C_codec_Codec_api_Pipe_Decode), (136, C_ring_Ok_1), (137, C_region_Regions_place), (138, C_mem_Mem_Load), (139, C_mem_Mem_Store), (140, C_caps_Space_Get), (141, C_caps_Space_Under), (142, C_table_Table_api_Cap_Drop), (143, C_quota_Quota_is), (144, C_quota_Quota_Owns), (145, C_kern_Kern_sect), (146, C_sect_Sect_Enter), (147, C_sect_Sect_Leave), (148, C_table_Table_api_Cap_name), (149, C_codec_New_api_Pipe), (150, C_ring_put), (151, C_ring_get), (152, C_codec_New_api_File), (153, C_ofile_put), (154, C_ofile_get), (155, C_codec_New_api_Proc), (156, C_pslot_put), (157, C_pslot_get), (158, C_slices_Delete_s_int_int), (159, C_calls_files), (160, C_proc_Fork), (161, C_proc_Wait), (162, C_proc_Kill), (163, C_proc_Group), (164, C_calls_own), (165, C_calls_told), (166, C_sig_Next), (167, C_pred_Check), (168, C_pred_machine_do), (169, C_fds_Of), (170, C_pred_Any), (171, C_pred_Either), (172, C_proc_Self), (173, C_proc_told), (174, C_proc_CloseAll), (175, C_proc_orphan), (176, C_proc_done), (177, C_commons_Commons_FreeProc), (178, C_codec_Codec_api_File_Decode), (179, C_slices_ContainsFunc_s_byte_byte), (180, C_codec_Blank_1), (181, C_mem_Mem_in), (182, C_table_Table_api_Cap_Get), (183, C_slices_SortFunc_s_api_Ref_api_Ref), (184, C_caps_Space_Under_1), (185, C_table_Table_api_Cap_at), (186, C_ofile_Ok), (187, C_pslot_Ok), (188, C_codec_Put2), (189, C_codec_Get2), (190, C_fds_Pipe), (191, C_pipes_Read), (192, C_pipes_Write), (193, C_fds_Close), (194, C_fds_Dup), (195, C_fds_Dup2), (196, C_fds_Now), (197, C_pipes_Front), (198, C_proc_free), (199, C_proc_share), (200, C_proc_slots), (201, C_proc_Wait_1), (202, C_proc_slot_lives), (204, C_sig_Raise), (205, C_proc_Group_1), (206, C_proc_child), (207, C_proc_Has), (208, C_sig_Mask), (209, C_sig_Handle), (210, C_math_bits_TrailingZeros), (211, C_pred_ok), (212, C_pred_one), (213, C_fds_named), (214, C_pred_in), (216, C_slices_Clip_s_api_Ins_api_Ins), (217, C_proc_CloseFile), (218, C_proc_orphan_1), (219, C_commons_Commons_blank), (220, C_slices_IndexFunc_s_byte_byte), (221, C_slices_pdqsortCmpFunc_api_Ref), (222, C_math_bits_Len), (223, C_pslot_bits), (224, C_pslot_Ok_1), (225, C_fds_told), (226, C_fds_fdsOf), (227, C_fds_free), (228, C_fds_Pipe_1), (229, C_fds_Pipe_2), (230, C_fds_done), (231, C_pipes_may), (232, C_pipes_told), (233, C_pipes_of), (234, C_pipes_waits), (235, C_ring_Take), (236, C_pipes_broken), (237, C_fds_more), (238, C_fds_name), (239, C_proc_targets_1), (240, C_sig_is), (241, C_proc_Has_1), (245, C_commons_Commons_FreeFile), (246, C_commons_Commons_FreePipe), (247, C_slices_insertionSortCmpFunc_api_Ref), (248, C_slices_heapSortCmpFunc_api_Ref), (249, C_slices_breakPatternsCmpFunc_api_Ref), (250, C_slices_choosePivotCmpFunc_api_Ref), (251, C_slices_reverseRangeCmpFunc_api_Ref), (252, C_slices_partialInsertionSortCmpFunc_api_Ref), (253, C_slices_partitionEqualCmpFunc_api_Ref), (254, C_slices_partitionCmpFunc_api_Ref), (255, C_math_bits_Len32), (256, C_math_bits_Len64), (257, C_fds_fdsOf_1), (258, C_pipes_front), (259, C_pipes_of_1), (260, C_ring_Bytes), (261, C_slices_Clip_s_byte_byte), (262, C_slices_siftDownCmpFunc_api_Ref), (263, C_slices_nextPowerOfTwo), (264, C_slices_xorshift_Next), (265, C_slices_medianAdjacentCmpFunc_api_Ref), (266, C_slices_medianCmpFunc_api_Ref), (267, C_slices_order2CmpFunc_api_Ref)]
def cutsOf : FuncId → Cuts := cutsAt cutsL
noncomputable abbrev CALL : CallFn := NN.Call PR cutsOf
noncomputable abbrev JUMP : RunFn := NN.Jump PR cutsOf
theorem k_law24_TaintCloses : FnOk PR cutsOf F_law24_TaintCloses Tryz.f4 C_law24_TaintCloses T_law24_TaintCloses 3 := ⟨Tryz.func4, ⟨_, rfl⟩, by kernel_rfl, rfl, rfl, by kernel_rfl⟩
theorem k_law24_awake : FnOk PR cutsOf F_law24_awake Tryz.f5 C_law24_awake T_law24_awake 0 := ⟨Tryz.func5, ⟨_, rfl⟩, by kernel_rfl, rfl, rfl, by kernel_rfl⟩
theorem k_ref15_PlanOk : FnOk PR cutsOf F_ref15_PlanOk Tryz.f7 C_ref15_PlanOk T_ref15_PlanOk 1 := ⟨Tryz.func7, ⟨_, rfl⟩, by kernel_rfl, rfl, rfl, by kernel_rfl⟩
theorem k_law24_Closure : FnOk PR cutsOf F_law24_Closure Tryz.f8 C_law24_Closure T_law24_Closure 1 := ⟨Tryz.func8, ⟨_, rfl⟩, by kernel_rfl, rfl, rfl, by kernel_rfl⟩
theorem k_law24_same : FnOk PR cutsOf F_law24_same Tryz.f9 C_law24_same T_law24_same 2 := ⟨Tryz.func9, ⟨_, rfl⟩, by kernel_rfl, rfl, rfl, by kernel_rfl⟩
theorem k_taint_Closure : FnOk PR cutsOf F_taint_Closure Tryz.f10 C_taint_Closure T_taint_Closure 1 := ⟨Tryz.func10, ⟨_, rfl⟩, by kernel_rfl, rfl, rfl, by kernel_rfl⟩
theorem k_law22_Plan : FnOk PR cutsOf F_law22_Plan Tryz.f11 C_law22_Plan T_law22_Plan 2 := ⟨Tryz.func11, ⟨_, rfl⟩, by kernel_rfl, rfl, rfl, by kernel_rfl⟩
theorem k_taint_Differ : FnOk PR cutsOf F_taint_Differ Tryz.f12 C_taint_Differ T_taint_Differ 2 := ⟨Tryz.func12, ⟨_, rfl⟩, by kernel_rfl, rfl, rfl, by kernel_rfl⟩
theorem k_world_Check : FnOk PR cutsOf F_world_Check Tryz.f15 C_world_Check T_world_Check 1 := ⟨Tryz.func15, ⟨_, rfl⟩, by kernel_rfl, rfl, rfl, by kernel_rfl⟩
theorem k_slices_Clone_s_bool_bool : FnOk PR cutsOf F_slices_Clone_s_bool_bool Tryz.f16 C_slices_Clone_s_bool_bool T_slices_Clone_s_bool_bool 1 := ⟨Tryz.func16, ⟨_, rfl⟩, by kernel_rfl, rfl, rfl, by kernel_rfl⟩
theorem k_world_Run : FnOk PR cutsOf F_world_Run Tryz.f17 C_world_Run T_world_Run 2 := ⟨Tryz.func17, ⟨_, rfl⟩, by kernel_rfl, rfl, rfl, by kernel_rfl⟩
theorem k_taint_Clean : FnOk PR cutsOf F_taint_Clean Tryz.f18 C_taint_Clean T_taint_Clean 1 := ⟨Tryz.func18, ⟨_, rfl⟩, by kernel_rfl, rfl, rfl, by kernel_rfl⟩
theorem k_taint_Only : FnOk PR cutsOf F_taint_Only Tryz.f19 C_taint_Only T_taint_Only 2 := ⟨Tryz.func19, ⟨_, rfl⟩, by kernel_rfl, rfl, rfl, by kernel_rfl⟩
theorem k_world_New : FnOk PR cutsOf F_world_New Tryz.f20 C_world_New T_world_New 1 := ⟨Tryz.func20, ⟨_, rfl⟩, by kernel_rfl, rfl, rfl, by kernel_rfl⟩
theorem k_slices_Clone_s_api_Step_api_Step : FnOk PR cutsOf F_slices_Clone_s_api_Step_api_Step Tryz.f22 C_slices_Clone_s_api_Step_api_Step T_slices_Clone_s_api_Step_api_Step 1 := ⟨Tryz.func22, ⟨_, rfl⟩, by kernel_rfl, rfl, rfl, by kernel_rfl⟩
theorem k_kern_New : FnOk PR cutsOf F_kern_New Tryz.f23 C_kern_New T_kern_New 1 := ⟨Tryz.func23, ⟨_, rfl⟩, by kernel_rfl, rfl, rfl, by kernel_rfl⟩
theorem k_world_Boot : FnOk PR cutsOf F_world_Boot Tryz.f24 C_world_Boot T_world_Boot 1 := ⟨Tryz.func24, ⟨_, rfl⟩, by kernel_rfl, rfl, rfl, by kernel_rfl⟩
theorem k_world_World_begin : FnOk PR cutsOf F_world_World_begin Tryz.f25 C_world_World_begin T_world_World_begin 2 := ⟨Tryz.func25, ⟨_, rfl⟩, by kernel_rfl, rfl, rfl, by kernel_rfl⟩
theorem k_host_New : FnOk PR cutsOf F_host_New Tryz.f26 C_host_New T_host_New 4 := ⟨Tryz.func26, ⟨_, rfl⟩, by kernel_rfl, rfl, rfl, by kernel_rfl⟩
theorem k_kern_Kern_Do : FnOk PR cutsOf F_kern_Kern_Do Tryz.f33 C_kern_Kern_Do T_kern_Kern_Do 3 := ⟨Tryz.func33, ⟨_, rfl⟩, by kernel_rfl, rfl, rfl, by kernel_rfl⟩
theorem k_kern_check : FnOk PR cutsOf F_kern_check Tryz.f34 C_kern_check T_kern_check 1 := ⟨Tryz.func34, ⟨_, rfl⟩, by kernel_rfl, rfl, rfl, by kernel_rfl⟩
theorem k_kern_frames : FnOk PR cutsOf F_kern_frames Tryz.f35 C_kern_frames T_kern_frames 1 := ⟨Tryz.func35, ⟨_, rfl⟩, by kernel_rfl, rfl, rfl, by kernel_rfl⟩
theorem k_slices_Clone_s_int_int : FnOk PR cutsOf F_slices_Clone_s_int_int Tryz.f36 C_slices_Clone_s_int_int T_slices_Clone_s_int_int 1 := ⟨Tryz.func36, ⟨_, rfl⟩, by kernel_rfl, rfl, rfl, by kernel_rfl⟩
theorem k_mem_New : FnOk PR cutsOf F_mem_New Tryz.f37 C_mem_New T_mem_New 1 := ⟨Tryz.func37, ⟨_, rfl⟩, by kernel_rfl, rfl, rfl, by kernel_rfl⟩
theorem k_caps_New : FnOk PR cutsOf F_caps_New Tryz.f38 C_caps_New T_caps_New 1 := ⟨Tryz.func38, ⟨_, rfl⟩, by kernel_rfl, rfl, rfl, by kernel_rfl⟩
theorem k_quota_New : FnOk PR cutsOf F_quota_New Tryz.f39 C_quota_New T_quota_New 1 := ⟨Tryz.func39, ⟨_, rfl⟩, by kernel_rfl, rfl, rfl, by kernel_rfl⟩
theorem k_region_New : FnOk PR cutsOf F_region_New Tryz.f40 C_region_New T_region_New 2 := ⟨Tryz.func40, ⟨_, rfl⟩, by kernel_rfl, rfl, rfl, by kernel_rfl⟩
theorem k_sect_New : FnOk PR cutsOf F_sect_New Tryz.f41 C_sect_New T_sect_New 1 := ⟨Tryz.func41, ⟨_, rfl⟩, by kernel_rfl, rfl, rfl, by kernel_rfl⟩
theorem k_region_Regions_Add : FnOk PR cutsOf F_region_Regions_Add Tryz.f42 C_region_Regions_Add T_region_Regions_Add 3 := ⟨Tryz.func42, ⟨_, rfl⟩, by kernel_rfl, rfl, rfl, by kernel_rfl⟩
theorem k_quota_Quota_First : FnOk PR cutsOf F_quota_Quota_First Tryz.f43 C_quota_Quota_First T_quota_Quota_First 2 := ⟨Tryz.func43, ⟨_, rfl⟩, by kernel_rfl, rfl, rfl, by kernel_rfl⟩
theorem k_slices_Contains_s_int_int : FnOk PR cutsOf F_slices_Contains_s_int_int Tryz.f44 C_slices_Contains_s_int_int T_slices_Contains_s_int_int 2 := ⟨Tryz.func44, ⟨_, rfl⟩, by kernel_rfl, rfl, rfl, by kernel_rfl⟩
theorem k_caps_Space_Put : FnOk PR cutsOf F_caps_Space_Put Tryz.f45 C_caps_Space_Put T_caps_Space_Put 3 := ⟨Tryz.func45, ⟨_, rfl⟩, by kernel_rfl, rfl, rfl, by kernel_rfl⟩
theorem k_commons_New : FnOk PR cutsOf F_commons_New Tryz.f46 C_commons_New T_commons_New 2 := ⟨Tryz.func46, ⟨_, rfl⟩, by kernel_rfl, rfl, rfl, by kernel_rfl⟩
theorem k_commons_Commons_SetTerm : FnOk PR cutsOf F_commons_Commons_SetTerm Tryz.f47 C_commons_Commons_SetTerm T_commons_Commons_SetTerm 2 := ⟨Tryz.func47, ⟨_, rfl⟩, by kernel_rfl, rfl, rfl, by kernel_rfl⟩
theorem k_commons_Commons_SetFront : FnOk PR cutsOf F_commons_Commons_SetFront Tryz.f48 C_commons_Commons_SetFront T_commons_Commons_SetFront 2 := ⟨Tryz.func48, ⟨_, rfl⟩, by kernel_rfl, rfl, rfl, by kernel_rfl⟩
theorem k_commons_Commons_SetFile : FnOk PR cutsOf F_commons_Commons_SetFile Tryz.f49 C_commons_Commons_SetFile T_commons_Commons_SetFile 3 := ⟨Tryz.func49, ⟨_, rfl⟩, by kernel_rfl, rfl, rfl, by kernel_rfl⟩
theorem k_commons_Commons_SetProc : FnOk PR cutsOf F_commons_Commons_SetProc Tryz.f51 C_commons_Commons_SetProc T_commons_Commons_SetProc 3 := ⟨Tryz.func51, ⟨_, rfl⟩, by kernel_rfl, rfl, rfl, by kernel_rfl⟩
theorem k_kern_Kern_Sect : FnOk PR cutsOf F_kern_Kern_Sect Tryz.f52 C_kern_Kern_Sect T_kern_Kern_Sect 2 := ⟨Tryz.func52, ⟨_, rfl⟩, by kernel_rfl, rfl, rfl, by kernel_rfl⟩
theorem k_kern_Kern_bytes : FnOk PR cutsOf F_kern_Kern_bytes Tryz.f60 C_kern_Kern_bytes T_kern_Kern_bytes 3 := ⟨Tryz.func60, ⟨_, rfl⟩, by kernel_rfl, rfl, rfl, by kernel_rfl⟩
theorem k_kern_check_1 : FnOk PR cutsOf F_kern_check_1 Tryz.f62 C_kern_check_1 T_kern_check_1 2 := ⟨Tryz.func62, ⟨_, rfl⟩, by kernel_rfl, rfl, rfl, by kernel_rfl⟩
theorem k_slices_ContainsFunc_s_int_int : FnOk PR cutsOf F_slices_ContainsFunc_s_int_int Tryz.f63 C_slices_ContainsFunc_s_int_int T_slices_ContainsFunc_s_int_int 2 := ⟨Tryz.func63, ⟨_, rfl⟩, by kernel_rfl, rfl, rfl, by kernel_rfl⟩
theorem k_kern_share : FnOk PR cutsOf F_kern_share Tryz.f64 C_kern_share T_kern_share 2 := ⟨Tryz.func64, ⟨_, rfl⟩, by kernel_rfl, rfl, rfl, by kernel_rfl⟩
theorem k_table_New_api_Cap : FnOk PR cutsOf F_table_New_api_Cap Tryz.f65 C_table_New_api_Cap T_table_New_api_Cap 1 := ⟨Tryz.func65, ⟨_, rfl⟩, by kernel_rfl, rfl, rfl, by kernel_rfl⟩
theorem k_mem_Mem_Size : FnOk PR cutsOf F_mem_Mem_Size Tryz.f66 C_mem_Mem_Size T_mem_Mem_Size 1 := ⟨Tryz.func66, ⟨_, rfl⟩, by kernel_rfl, rfl, rfl, by kernel_rfl⟩
theorem k_slices_Index_s_int_int : FnOk PR cutsOf F_slices_Index_s_int_int Tryz.f67 C_slices_Index_s_int_int T_slices_Index_s_int_int 2 := ⟨Tryz.func67, ⟨_, rfl⟩, by kernel_rfl, rfl, rfl, by kernel_rfl⟩
theorem k_caps_Space_Put_1 : FnOk PR cutsOf F_caps_Space_Put_1 Tryz.f68 C_caps_Space_Put_1 T_caps_Space_Put_1 1 := ⟨Tryz.func68, ⟨_, rfl⟩, by kernel_rfl, rfl, rfl, by kernel_rfl⟩
theorem k_caps_Space_is : FnOk PR cutsOf F_caps_Space_is Tryz.f69 C_caps_Space_is T_caps_Space_is 2 := ⟨Tryz.func69, ⟨_, rfl⟩, by kernel_rfl, rfl, rfl, by kernel_rfl⟩
theorem k_caps_Space_add : FnOk PR cutsOf F_caps_Space_add Tryz.f70 C_caps_Space_add T_caps_Space_add 3 := ⟨Tryz.func70, ⟨_, rfl⟩, by kernel_rfl, rfl, rfl, by kernel_rfl⟩
theorem k_kern_Kern_Space : FnOk PR cutsOf F_kern_Kern_Space Tryz.f71 C_kern_Kern_Space T_kern_Kern_Space 1 := ⟨Tryz.func71, ⟨_, rfl⟩, by kernel_rfl, rfl, rfl, by kernel_rfl⟩
theorem k_caps_Space_Names : FnOk PR cutsOf F_caps_Space_Names Tryz.f72 C_caps_Space_Names T_caps_Space_Names 2 := ⟨Tryz.func72, ⟨_, rfl⟩, by kernel_rfl, rfl, rfl, by kernel_rfl⟩
theorem k_ring_Encode : FnOk PR cutsOf F_ring_Encode Tryz.f73 C_ring_Encode T_ring_Encode 1 := ⟨Tryz.func73, ⟨_, rfl⟩, by kernel_rfl, rfl, rfl, by kernel_rfl⟩
theorem k_commons_Commons_write : FnOk PR cutsOf F_commons_Commons_write Tryz.f74 C_commons_Commons_write T_commons_Commons_write 4 := ⟨Tryz.func74, ⟨_, rfl⟩, by kernel_rfl, rfl, rfl, by kernel_rfl⟩
theorem k_commons_FrontBytes : FnOk PR cutsOf F_commons_FrontBytes Tryz.f75 C_commons_FrontBytes T_commons_FrontBytes 1 := ⟨Tryz.func75, ⟨_, rfl⟩, by kernel_rfl, rfl, rfl, by kernel_rfl⟩
theorem k_ofile_Encode : FnOk PR cutsOf F_ofile_Encode Tryz.f76 C_ofile_Encode T_ofile_Encode 1 := ⟨Tryz.func76, ⟨_, rfl⟩, by kernel_rfl, rfl, rfl, by kernel_rfl⟩
theorem k_commons_file : FnOk PR cutsOf F_commons_file Tryz.f77 C_commons_file T_commons_file 1 := ⟨Tryz.func77, ⟨_, rfl⟩, by kernel_rfl, rfl, rfl, by kernel_rfl⟩
theorem k_pslot_Encode : FnOk PR cutsOf F_pslot_Encode Tryz.f79 C_pslot_Encode T_pslot_Encode 1 := ⟨Tryz.func79, ⟨_, rfl⟩, by kernel_rfl, rfl, rfl, by kernel_rfl⟩
theorem k_commons_proc : FnOk PR cutsOf F_commons_proc Tryz.f80 C_commons_proc T_commons_proc 1 := ⟨Tryz.func80, ⟨_, rfl⟩, by kernel_rfl, rfl, rfl, by kernel_rfl⟩
theorem k_commons_Commons_most : FnOk PR cutsOf F_commons_Commons_most Tryz.f89 C_commons_Commons_most T_commons_Commons_most 2 := ⟨Tryz.func89, ⟨_, rfl⟩, by kernel_rfl, rfl, rfl, by kernel_rfl⟩
theorem k_ring_Ok : FnOk PR cutsOf F_ring_Ok Tryz.f96 C_ring_Ok T_ring_Ok 1 := ⟨Tryz.func96, ⟨_, rfl⟩, by kernel_rfl, rfl, rfl, by kernel_rfl⟩
theorem k_region_Regions_Write : FnOk PR cutsOf F_region_Regions_Write Tryz.f98 C_region_Regions_Write T_region_Regions_Write 5 := ⟨Tryz.func98, ⟨_, rfl⟩, by kernel_rfl, rfl, rfl, by kernel_rfl⟩
theorem k_slices_IndexFunc_s_int_int : FnOk PR cutsOf F_slices_IndexFunc_s_int_int Tryz.f106 C_slices_IndexFunc_s_int_int T_slices_IndexFunc_s_int_int 2 := ⟨Tryz.func106, ⟨_, rfl⟩, by kernel_rfl, rfl, rfl, by kernel_rfl⟩
theorem k_table_Table_api_Cap_Add : FnOk PR cutsOf F_table_Table_api_Cap_Add Tryz.f107 C_table_Table_api_Cap_Add T_table_Table_api_Cap_Add 2 := ⟨Tryz.func107, ⟨_, rfl⟩, by kernel_rfl, rfl, rfl, by kernel_rfl⟩
theorem k_table_Table_api_Cap_Names : FnOk PR cutsOf F_table_Table_api_Cap_Names Tryz.f108 C_table_Table_api_Cap_Names T_table_Table_api_Cap_Names 1 := ⟨Tryz.func108, ⟨_, rfl⟩, by kernel_rfl, rfl, rfl, by kernel_rfl⟩
theorem k_ring_Codec : FnOk PR cutsOf F_ring_Codec Tryz.f109 C_ring_Codec T_ring_Codec 0 := ⟨Tryz.func109, ⟨_, rfl⟩, by kernel_rfl, rfl, rfl, by kernel_rfl⟩
theorem k_codec_Codec_api_Pipe_Encode : FnOk PR cutsOf F_codec_Codec_api_Pipe_Encode Tryz.f110 C_codec_Codec_api_Pipe_Encode T_codec_Codec_api_Pipe_Encode 2 := ⟨Tryz.func110, ⟨_, rfl⟩, by kernel_rfl, rfl, rfl, by kernel_rfl⟩
theorem k_commons_Commons_place : FnOk PR cutsOf F_commons_Commons_place Tryz.f111 C_commons_Commons_place T_commons_Commons_place 2 := ⟨Tryz.func111, ⟨_, rfl⟩, by kernel_rfl, rfl, rfl, by kernel_rfl⟩
theorem k_codec_Sum : FnOk PR cutsOf F_codec_Sum Tryz.f112 C_codec_Sum T_codec_Sum 1 := ⟨Tryz.func112, ⟨_, rfl⟩, by kernel_rfl, rfl, rfl, by kernel_rfl⟩
theorem k_ofile_Codec : FnOk PR cutsOf F_ofile_Codec Tryz.f113 C_ofile_Codec T_ofile_Codec 0 := ⟨Tryz.func113, ⟨_, rfl⟩, by kernel_rfl, rfl, rfl, by kernel_rfl⟩
theorem k_codec_Codec_api_File_Encode : FnOk PR cutsOf F_codec_Codec_api_File_Encode Tryz.f114 C_codec_Codec_api_File_Encode T_codec_Codec_api_File_Encode 2 := ⟨Tryz.func114, ⟨_, rfl⟩, by kernel_rfl, rfl, rfl, by kernel_rfl⟩
theorem k_pslot_Codec : FnOk PR cutsOf F_pslot_Codec Tryz.f115 C_pslot_Codec T_pslot_Codec 0 := ⟨Tryz.func115, ⟨_, rfl⟩, by kernel_rfl, rfl, rfl, by kernel_rfl⟩
theorem k_codec_Codec_api_Proc_Encode : FnOk PR cutsOf F_codec_Codec_api_Proc_Encode Tryz.f116 C_codec_Codec_api_Proc_Encode T_codec_Codec_api_Proc_Encode 2 := ⟨Tryz.func116, ⟨_, rfl⟩, by kernel_rfl, rfl, rfl, by kernel_rfl⟩
theorem k_ring_Ok_1 : FnOk PR cutsOf F_ring_Ok_1 Tryz.f136 C_ring_Ok_1 T_ring_Ok_1 2 := ⟨Tryz.func136, ⟨_, rfl⟩, by kernel_rfl, rfl, rfl, by kernel_rfl⟩
theorem k_region_Regions_place : FnOk PR cutsOf F_region_Regions_place Tryz.f137 C_region_Regions_place T_region_Regions_place 6 := ⟨Tryz.func137, ⟨_, rfl⟩, by kernel_rfl, rfl, rfl, by kernel_rfl⟩
theorem k_mem_Mem_Store : FnOk PR cutsOf F_mem_Mem_Store Tryz.f139 C_mem_Mem_Store T_mem_Mem_Store 3 := ⟨Tryz.func139, ⟨_, rfl⟩, by kernel_rfl, rfl, rfl, by kernel_rfl⟩
theorem k_caps_Space_Get : FnOk PR cutsOf F_caps_Space_Get Tryz.f140 C_caps_Space_Get T_caps_Space_Get 3 := ⟨Tryz.func140, ⟨_, rfl⟩, by kernel_rfl, rfl, rfl, by kernel_rfl⟩
theorem k_table_Table_api_Cap_name : FnOk PR cutsOf F_table_Table_api_Cap_name Tryz.f148 C_table_Table_api_Cap_name T_table_Table_api_Cap_name 2 := ⟨Tryz.func148, ⟨_, rfl⟩, by kernel_rfl, rfl, rfl, by kernel_rfl⟩
theorem k_codec_New_api_Pipe : FnOk PR cutsOf F_codec_New_api_Pipe Tryz.f149 C_codec_New_api_Pipe T_codec_New_api_Pipe 3 := ⟨Tryz.func149, ⟨_, rfl⟩, by kernel_rfl, rfl, rfl, by kernel_rfl⟩
theorem k_ring_put : FnOk PR cutsOf F_ring_put Tryz.f150 C_ring_put T_ring_put 2 := ⟨Tryz.func150, ⟨_, rfl⟩, by kernel_rfl, rfl, rfl, by kernel_rfl⟩
theorem k_codec_New_api_File : FnOk PR cutsOf F_codec_New_api_File Tryz.f152 C_codec_New_api_File T_codec_New_api_File 3 := ⟨Tryz.func152, ⟨_, rfl⟩, by kernel_rfl, rfl, rfl, by kernel_rfl⟩
theorem k_ofile_put : FnOk PR cutsOf F_ofile_put Tryz.f153 C_ofile_put T_ofile_put 2 := ⟨Tryz.func153, ⟨_, rfl⟩, by kernel_rfl, rfl, rfl, by kernel_rfl⟩
theorem k_codec_New_api_Proc : FnOk PR cutsOf F_codec_New_api_Proc Tryz.f155 C_codec_New_api_Proc T_codec_New_api_Proc 3 := ⟨Tryz.func155, ⟨_, rfl⟩, by kernel_rfl, rfl, rfl, by kernel_rfl⟩
theorem k_pslot_put : FnOk PR cutsOf F_pslot_put Tryz.f156 C_pslot_put T_pslot_put 2 := ⟨Tryz.func156, ⟨_, rfl⟩, by kernel_rfl, rfl, rfl, by kernel_rfl⟩
theorem k_mem_Mem_in : FnOk PR cutsOf F_mem_Mem_in Tryz.f181 C_mem_Mem_in T_mem_Mem_in 3 := ⟨Tryz.func181, ⟨_, rfl⟩, by kernel_rfl, rfl, rfl, by kernel_rfl⟩
theorem k_table_Table_api_Cap_Get : FnOk PR cutsOf F_table_Table_api_Cap_Get Tryz.f182 C_table_Table_api_Cap_Get T_table_Table_api_Cap_Get 2 := ⟨Tryz.func182, ⟨_, rfl⟩, by kernel_rfl, rfl, rfl, by kernel_rfl⟩
theorem k_table_Table_api_Cap_at : FnOk PR cutsOf F_table_Table_api_Cap_at Tryz.f185 C_table_Table_api_Cap_at T_table_Table_api_Cap_at 2 := ⟨Tryz.func185, ⟨_, rfl⟩, by kernel_rfl, rfl, rfl, by kernel_rfl⟩
theorem k_ofile_Ok : FnOk PR cutsOf F_ofile_Ok Tryz.f186 C_ofile_Ok T_ofile_Ok 1 := ⟨Tryz.func186, ⟨_, rfl⟩, by kernel_rfl, rfl, rfl, by kernel_rfl⟩
theorem k_pslot_Ok : FnOk PR cutsOf F_pslot_Ok Tryz.f187 C_pslot_Ok T_pslot_Ok 1 := ⟨Tryz.func187, ⟨_, rfl⟩, by kernel_rfl, rfl, rfl, by kernel_rfl⟩
theorem k_codec_Put2 : FnOk PR cutsOf F_codec_Put2 Tryz.f188 C_codec_Put2 T_codec_Put2 3 := ⟨Tryz.func188, ⟨_, rfl⟩, by kernel_rfl, rfl, rfl, by kernel_rfl⟩
theorem k_pslot_bits : FnOk PR cutsOf F_pslot_bits Tryz.f223 C_pslot_bits T_pslot_bits 2 := ⟨Tryz.func223, ⟨_, rfl⟩, by kernel_rfl, rfl, rfl, by kernel_rfl⟩
theorem k_pslot_Ok_1 : FnOk PR cutsOf F_pslot_Ok_1 Tryz.f224 C_pslot_Ok_1 T_pslot_Ok_1 1 := ⟨Tryz.func224, ⟨_, rfl⟩, by kernel_rfl, rfl, rfl, by kernel_rfl⟩
end Go.EQ

namespace Go.EQ
open Go Go.NN Go.Proofs
theorem u_int : type_of% Tryz.underlying3 := Tryz.underlying3
theorem u_bool : type_of% Tryz.underlying4 := Tryz.underlying4
theorem u_s_int : type_of% Tryz.underlying26 := Tryz.underlying26
theorem u_s_bool : type_of% Tryz.underlying32 := Tryz.underlying32
theorem u_s_api_Bridge : type_of% Tryz.underlying33 := Tryz.underlying33
theorem u_api_Plan : type_of% Tryz.underlying35 := Tryz.underlying35
theorem u_api_Bridge : type_of% Tryz.underlying42 := Tryz.underlying42
end Go.EQ

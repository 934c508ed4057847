/- What one slot was told is picked out in its order; returns are counted by their calls; one row of bytes is the beginning of another one, or not. -/
import Derived.Test.YtffngggpkaibkaaGreatDoorMd
import Derived.Test.YtffngggpkaibkaaGreatDoorProg
import Derived.KernelRfl
set_option linter.unusedVariables false
set_option linter.unusedSimpArgs false
set_option linter.unusedSectionVars false
namespace Go.EQ
open Go Go.NN Go.Proofs
noncomputable abbrev PR : Program := Tryz.prog
abbrev F_law25_TraceCounts : FuncId := 3
abbrev F_law25_awake : FuncId := 4
abbrev F_trace_Calls : FuncId := 5
abbrev F_ref15_SameOut : FuncId := 6
abbrev F_trace_Counts : FuncId := 7
abbrev F_trace_Fifo : FuncId := 8
abbrev F_trace_Flow : FuncId := 9
abbrev F_ref15_SameSys : FuncId := 10
abbrev F_ref1_SameInts : FuncId := 11
abbrev F_bytes_HasPrefix : FuncId := 12
abbrev F_world_New : FuncId := 13
abbrev F_trace_look : FuncId := 14
abbrev F_world_World_Do : FuncId := 15
abbrev F_bytes_Equal : FuncId := 16
abbrev F_world_Check : FuncId := 17
abbrev F_kern_New : FuncId := 18
abbrev F_world_Boot : FuncId := 19
abbrev F_world_World_begin : FuncId := 20
abbrev F_host_New : FuncId := 21
abbrev F_world_World_Bridge : FuncId := 22
abbrev F_ring_Decode : FuncId := 23
abbrev F_ring_Bytes : FuncId := 24
abbrev F_world_World_Host : FuncId := 25
abbrev F_world_World_pick : FuncId := 26
abbrev F_kern_Kern_Tick : FuncId := 27
abbrev F_host_Host_Start : FuncId := 28
abbrev F_pipes_Type : FuncId := 29
abbrev F_host_Host_Commons : FuncId := 30
abbrev F_kern_Kern_Do : FuncId := 31
abbrev F_kern_check : FuncId := 32
abbrev F_kern_frames : FuncId := 33
abbrev F_slices_Clone_s_int_int : FuncId := 34
abbrev F_mem_New : FuncId := 35
abbrev F_caps_New : FuncId := 36
abbrev F_quota_New : FuncId := 37
abbrev F_region_New : FuncId := 38
abbrev F_sect_New : FuncId := 39
abbrev F_region_Regions_Add : FuncId := 40
abbrev F_quota_Quota_First : FuncId := 41
abbrev F_slices_Contains_s_int_int : FuncId := 42
abbrev F_caps_Space_Put : FuncId := 43
abbrev F_commons_New : FuncId := 44
abbrev F_commons_Commons_SetTerm : FuncId := 45
abbrev F_commons_Commons_SetFront : FuncId := 46
abbrev F_commons_Commons_SetFile : FuncId := 47
abbrev F_commons_Commons_SetPipe : FuncId := 48
abbrev F_commons_Commons_SetProc : FuncId := 49
abbrev F_kern_Kern_Sect : FuncId := 50
abbrev F_kern_Kern_Regions : FuncId := 51
abbrev F_region_Regions_Raw : FuncId := 52
abbrev F_codec_Blank : FuncId := 53
abbrev F_ring_Codec : FuncId := 54
abbrev F_codec_Codec_api_Pipe_Decode : FuncId := 55
abbrev F_ring_Ok : FuncId := 56
abbrev F_host_Host_Pick : FuncId := 57
abbrev F_host_Host_Fresh : FuncId := 58
abbrev F_commons_Commons_Look : FuncId := 59
abbrev F_commons_Commons_Proc : FuncId := 60
abbrev F_slices_Clone_s_byte_byte : FuncId := 61
abbrev F_commons_Commons_Term : FuncId := 62
abbrev F_ring_Put : FuncId := 63
abbrev F_kern_Kern_bytes : FuncId := 64
abbrev F_kern_Kern_number : FuncId := 65
abbrev F_kern_check_1 : FuncId := 66
abbrev F_slices_ContainsFunc_s_int_int : FuncId := 67
abbrev F_kern_share : FuncId := 68
abbrev F_table_New_api_Cap : FuncId := 69
abbrev F_mem_Mem_Size : FuncId := 70
abbrev F_slices_Index_s_int_int : FuncId := 71
abbrev F_caps_Space_Put_1 : FuncId := 72
abbrev F_caps_Space_is : FuncId := 73
abbrev F_caps_Space_add : FuncId := 74
abbrev F_kern_Kern_Space : FuncId := 75
abbrev F_caps_Space_Names : FuncId := 76
abbrev F_ring_Encode : FuncId := 77
abbrev F_commons_Commons_write : FuncId := 78
abbrev F_commons_FrontBytes : FuncId := 79
abbrev F_ofile_Encode : FuncId := 80
abbrev F_commons_file : FuncId := 81
abbrev F_commons_pipe : FuncId := 82
abbrev F_pslot_Encode : FuncId := 83
abbrev F_commons_proc : FuncId := 84
abbrev F_mem_Mem_Load : FuncId := 85
abbrev F_slices_ContainsFunc_s_byte_byte : FuncId := 86
abbrev F_codec_Blank_1 : FuncId := 87
abbrev F_codec_New_api_Pipe : FuncId := 88
abbrev F_ring_put : FuncId := 89
abbrev F_ring_get : FuncId := 90
abbrev F_ring_Ok_1 : FuncId := 91
abbrev F_host_Host_bad : FuncId := 92
abbrev F_host_Host_idle : FuncId := 93
abbrev F_host_Host_leave : FuncId := 94
abbrev F_host_Host_want : FuncId := 95
abbrev F_host_Host_in : FuncId := 96
abbrev F_host_Host_blocked : FuncId := 97
abbrev F_host_Host_end : FuncId := 98
abbrev F_commons_Commons_File : FuncId := 99
abbrev F_commons_Commons_most : FuncId := 100
abbrev F_commons_Commons_Pipe : FuncId := 101
abbrev F_commons_Commons_Front : FuncId := 102
abbrev F_commons_record_api_Proc : FuncId := 103
abbrev F_pslot_Decode : FuncId := 104
abbrev F_commons_record_api_Pipe : FuncId := 105
abbrev F_region_Regions_Read : FuncId := 106
abbrev F_region_Regions_Write : FuncId := 107
abbrev F_region_Regions_Copy : FuncId := 108
abbrev F_caps_Space_Grant : FuncId := 109
abbrev F_caps_Space_Revoke : FuncId := 110
abbrev F_quota_Quota_Alloc : FuncId := 111
abbrev F_quota_Quota_Free : FuncId := 112
abbrev F_kern_Kern_enter : FuncId := 113
abbrev F_kern_Kern_leave : FuncId := 114
abbrev F_slices_IndexFunc_s_int_int : FuncId := 115
abbrev F_table_Table_api_Cap_Add : FuncId := 116
abbrev F_table_Table_api_Cap_Names : FuncId := 117
abbrev F_codec_Codec_api_Pipe_Encode : FuncId := 118
abbrev F_commons_Commons_place : FuncId := 119
abbrev F_codec_Sum : FuncId := 120
abbrev F_ofile_Codec : FuncId := 121
abbrev F_codec_Codec_api_File_Encode : FuncId := 122
abbrev F_pslot_Codec : FuncId := 123
abbrev F_codec_Codec_api_Proc_Encode : FuncId := 124
abbrev F_mem_Mem_in : FuncId := 125
abbrev F_slices_IndexFunc_s_byte_byte : FuncId := 126
abbrev F_slices_Equal_s_byte_byte : FuncId := 127
abbrev F_host_Host_back : FuncId := 128
abbrev F_sect_Sect_Quit : FuncId := 129
abbrev F_sect_Sect_Holds : FuncId := 130
abbrev F_calls_Do : FuncId := 131
abbrev F_sig_Deliver : FuncId := 137
abbrev F_proc_Exit : FuncId := 138
abbrev F_commons_record_api_File : FuncId := 139
abbrev F_ofile_Decode : FuncId := 140
abbrev F_commons_record_int : FuncId := 141
abbrev F_commons_FrontOf : FuncId := 142
abbrev F_commons_Commons_read : FuncId := 143
abbrev F_codec_Codec_api_Proc_Decode : FuncId := 144
abbrev F_region_Regions_place : FuncId := 145
abbrev F_mem_Mem_Store : FuncId := 146
abbrev F_caps_Space_Get : FuncId := 147
abbrev F_caps_Space_Under : FuncId := 148
abbrev F_table_Table_api_Cap_Drop : FuncId := 149
abbrev F_kern_Kern_sect : FuncId := 152
abbrev F_sect_Sect_Enter : FuncId := 153
abbrev F_sect_Sect_Leave : FuncId := 154
abbrev F_table_Table_api_Cap_name : FuncId := 155
abbrev F_codec_New_api_File : FuncId := 156
abbrev F_ofile_put : FuncId := 157
abbrev F_ofile_get : FuncId := 158
abbrev F_codec_New_api_Proc : FuncId := 159
abbrev F_pslot_put : FuncId := 160
abbrev F_pslot_get : FuncId := 161
abbrev F_slices_Delete_s_int_int : FuncId := 162
abbrev F_calls_files : FuncId := 163
abbrev F_proc_Fork : FuncId := 164
abbrev F_proc_Wait : FuncId := 165
abbrev F_proc_Kill : FuncId := 166
abbrev F_proc_Group : FuncId := 167
abbrev F_calls_own : FuncId := 168
abbrev F_calls_told : FuncId := 169
abbrev F_sig_Next : FuncId := 170
abbrev F_fds_Of : FuncId := 173
abbrev F_pred_Any : FuncId := 174
abbrev F_proc_Self : FuncId := 176
abbrev F_proc_told : FuncId := 177
abbrev F_proc_CloseAll : FuncId := 178
abbrev F_proc_orphan : FuncId := 179
abbrev F_proc_done : FuncId := 180
abbrev F_commons_Commons_FreeProc : FuncId := 181
abbrev F_codec_Codec_api_File_Decode : FuncId := 182
abbrev F_table_Table_api_Cap_Get : FuncId := 183
abbrev F_table_Table_api_Cap_at : FuncId := 186
abbrev F_ofile_Ok : FuncId := 187
abbrev F_pslot_Ok : FuncId := 188
abbrev F_codec_Put2 : FuncId := 189
abbrev F_codec_Get2 : FuncId := 190
abbrev F_fds_Pipe : FuncId := 191
abbrev F_pipes_Read : FuncId := 192
abbrev F_pipes_Write : FuncId := 193
abbrev F_fds_Close : FuncId := 194
abbrev F_fds_Dup : FuncId := 195
abbrev F_fds_Dup2 : FuncId := 196
abbrev F_fds_Now : FuncId := 197
abbrev F_pipes_Front : FuncId := 198
abbrev F_proc_slots : FuncId := 201
abbrev F_proc_Wait_1 : FuncId := 202
abbrev F_proc_slot_lives : FuncId := 203
abbrev F_math_bits_TrailingZeros : FuncId := 211
abbrev F_fds_named : FuncId := 214
abbrev F_pred_in : FuncId := 215
abbrev F_pslot_bits : FuncId := 223
abbrev F_pslot_Ok_1 : FuncId := 224
abbrev F_pipes_told : FuncId := 232
abbrev F_pipes_of : FuncId := 233
abbrev F_pipes_waits : FuncId := 234
abbrev F_pipes_broken : FuncId := 236
abbrev F_pipes_of_1 : FuncId := 259
abbrev Y_int : TypeId := 3
abbrev Y_bool : TypeId := 4
abbrev Y_uint8 : TypeId := 5
abbrev Y_s_api_Out : TypeId := 22
abbrev Y_s_uint8 : TypeId := 23
abbrev Y_18_int : TypeId := 26
abbrev Y_api_Sys : TypeId := 28
abbrev Y_s_int : TypeId := 30
abbrev Y_api_Out : TypeId := 32
abbrev Y_api_Bridge : TypeId := 39
abbrev Y_api_Plan : TypeId := 42
abbrev Y_api_Call : TypeId := 46
abbrev Y_api_Step : TypeId := 48
abbrev Y_api_Boot : TypeId := 66
abbrev Y_world_World : TypeId := 70
abbrev Y_s_p_host_Host : TypeId := 72
abbrev Y_p_host_Host : TypeId := 73
abbrev Y_api_Pipe : TypeId := 80
abbrev Y_p_commons_Commons : TypeId := 88
abbrev Y_api_Answer : TypeId := 91
abbrev Y_kern_Kern : TypeId := 104
abbrev Y_p_sect_Sect : TypeId := 106
abbrev Y_api_Share : TypeId := 109
abbrev Y_api_Ref : TypeId := 115
abbrev Y_api_Cap : TypeId := 117
abbrev Y_api_File : TypeId := 124
abbrev Y_8_int : TypeId := 125
abbrev Y_api_Proc : TypeId := 127
abbrev Y_host_Host : TypeId := 131
abbrev Y_mem_Mem : TypeId := 150
abbrev Y_caps_Space : TypeId := 153
abbrev Y_p_table_Table_api_Cap : TypeId := 154
abbrev Y_quota_Quota : TypeId := 157
abbrev Y_region_Regions : TypeId := 160
abbrev Y_sect_Sect : TypeId := 162
abbrev Y_region_span : TypeId := 165
abbrev Y_commons_Commons : TypeId := 171
abbrev Y_api_Rec : TypeId := 175
abbrev Y_codec_Codec_api_Pipe : TypeId := 186
abbrev Y_table_Table_api_Cap : TypeId := 208
abbrev Y_table_place_api_Cap : TypeId := 210
abbrev Y_commons_place : TypeId := 214
abbrev Y_api_Ret : TypeId := 225
abbrev Y_codec_Codec_api_File : TypeId := 258
abbrev Y_codec_Codec_api_Proc : TypeId := 262
abbrev Y_api_Ins : TypeId := 275
abbrev Y_p_int : TypeId := 297
abbrev Y_proc_slot : TypeId := 306
abbrev Y_pipes_flow : TypeId := 330
end Go.EQ

set_option maxRecDepth 100000
set_option linter.unusedVariables false
namespace Go.EQ
open Go Go.NN Go.Proofs
def C_trace_Calls : Cuts := { globs := 0, loops := [(3, [1, 2, 7, 10, 11, 12])], regs := [], plans := [] }
noncomputable def T_trace_Calls : List Item := bodyOf Tryz.f5
noncomputable def T_trace_Calls_L1 : List Item := stk [0, 1, 0, 1, 0, 0, 1, 4, 5] T_trace_Calls
theorem e_trace_Calls (call : CallFn) (run : RunFn) (outs : Option Addr) (outsn outsc : Nat) (session : Int) (slot : Int) (h : H) :
  exec PR C_trace_Calls call run F_trace_Calls Tryz.f5 100000 true T_trace_Calls [(0, .slice outs outsn outsc), (1, .int .i64 session), (2, .int .i64 slot)] h =
  run F_trace_Calls T_trace_Calls_L1 [(1, .int .i64 session), (2, .int .i64 slot), (7, .slice none 0 0), (10, .slice outs outsn outsc), (11, .int .i64 ((outsn : Nat) : Int)), (12, .int .i64 0)] h := by kernel_rfl
theorem e_trace_Calls_L1 (call : CallFn) (run : RunFn) (session : Int) (slot : Int) (l : Option Addr) (ln lc : Nat) (x10 : Option Addr) (x10n x10c : Nat) (x11 : Int) (x12 : Int) (h : H) :
  exec PR C_trace_Calls call run F_trace_Calls Tryz.f5 100000 true T_trace_Calls_L1 [(1, .int .i64 session), (2, .int .i64 slot), (7, .slice l ln lc), (10, .slice x10 x10n x10c), (11, .int .i64 x11), (12, .int .i64 x12)] h =
  cond (decide (x12 < x11))
  (aSome x10 fun p => ck ((0 : Int) ≤ x12 ∧ x12 < ((x10n : Nat) : Int)) (gAgg (Addr.add (bare p) (Int.toNat x12 * 12)) 12 h fun x => nw (.cells Y_api_Out false [.int .i64 0, .int .i64 0, .int .i64 0, .int .i64 0, .int .i64 0, .slice none 0 0, .int .i64 0, .int .i64 0, .slice none 0 0, .bool false, .slice none 0 0, .int .i64 0]) h fun b hv => ck (List.length x = 12) (pAgg ⟨b, 0, none⟩ x hv fun hv_1 => gInt .i64 (Addr.add ⟨b, 0, none⟩ 0) hv_1 fun x_1 => bnd (cond (x_1 == session) (gInt .i64 (Addr.add ⟨b, 0, none⟩ 1) hv_1 fun x_2 => some (x_2 == slot, hv_1)) (some (false, hv_1))) fun c hv_2 => cond c
  (gAgg ⟨b, 0, none⟩ 12 hv_2 fun x_3 => ck (List.length x_3 = 12) (nw (.cells Y_api_Out false (x_3 ++ [])) hv_2 fun b_1 hv_3 => gCells (some ⟨b_1, 0, none⟩) (1 * 12) hv_3 fun cs => ckB (fitsOpen l Y_api_Out hv_3) (apd Y_api_Out 12 l ln lc 1 cs hv_3 fun a an ac hv_4 => run F_trace_Calls T_trace_Calls_L1 [(1, .int .i64 session), (2, .int .i64 slot), (7, .slice a an ac), (10, .slice x10 x10n x10c), (11, .int .i64 x11), (12, .int .i64 (IntKind.wrap .i64 (x12 + 1)))] hv_4)))
  (run F_trace_Calls T_trace_Calls_L1 [(1, .int .i64 session), (2, .int .i64 slot), (7, .slice l ln lc), (10, .slice x10 x10n x10c), (11, .int .i64 x11), (12, .int .i64 (IntKind.wrap .i64 (x12 + 1)))] hv_2))))
  (some (.slice l ln lc, h)) := by kernel_rfl
def C_trace_Counts : Cuts := { globs := 0, loops := [(3, [3, 7, 8, 9])], regs := [], plans := [] }
noncomputable def T_trace_Counts : List Item := bodyOf Tryz.f7
noncomputable def T_trace_Counts_L1 : List Item := stk [0, 1, 0, 1, 0, 0, 1, 4, 5] T_trace_Counts
theorem e_trace_Counts (call : CallFn) (run : RunFn) (outs : Option Addr) (outsn outsc : Nat) (h : H) :
  exec PR C_trace_Counts call run F_trace_Counts Tryz.f7 100000 true T_trace_Counts [(0, .slice outs outsn outsc)] h =
  ck ((0 : Int) ≤ 18 ∧ (18 : Int) ≤ 18 ∧ 18 ≤ (most : Int)) (nw (.cells Y_int false (manyN (Int.toNat 18) [.int .i64 0])) h fun b hv => run F_trace_Counts T_trace_Counts_L1 [(3, .slice (some ⟨b, 0, none⟩) (Int.toNat 18) (Int.toNat 18)), (7, .slice outs outsn outsc), (8, .int .i64 ((outsn : Nat) : Int)), (9, .int .i64 0)] hv) := by kernel_rfl
theorem e_trace_Counts_L1 (call : CallFn) (run : RunFn) (n : Option Addr) (nn nc : Nat) (x7 : Option Addr) (x7n x7c : Nat) (x8 : Int) (x9 : Int) (h : H) :
  exec PR C_trace_Counts call run F_trace_Counts Tryz.f7 100000 true T_trace_Counts_L1 [(3, .slice n nn nc), (7, .slice x7 x7n x7c), (8, .int .i64 x8), (9, .int .i64 x9)] h =
  cond (decide (x9 < x8))
  (aSome x7 fun p => ck ((0 : Int) ≤ x9 ∧ x9 < ((x7n : Nat) : Int)) (gAgg (Addr.add (bare p) (Int.toNat x9 * 12)) 12 h fun x => nw (.cells Y_api_Out false [.int .i64 0, .int .i64 0, .int .i64 0, .int .i64 0, .int .i64 0, .slice none 0 0, .int .i64 0, .int .i64 0, .slice none 0 0, .bool false, .slice none 0 0, .int .i64 0]) h fun b hv => ck (List.length x = 12) (pAgg ⟨b, 0, none⟩ x hv fun hv_1 => gBool (Addr.add ⟨b, 0, none⟩ 9) hv_1 fun x_1 => bnd (cond x_1 (gInt .i64 (Addr.add (Addr.add ⟨b, 0, none⟩ 2) 0) hv_1 fun x_2 => some (decide (x_2 ≥ 1), hv_1)) (some (false, hv_1))) fun c hv_2 => bnd (cond c (gInt .i64 (Addr.add (Addr.add ⟨b, 0, none⟩ 2) 0) hv_2 fun x_3 => some (decide (x_3 ≤ 18), hv_2)) (some (false, hv_2))) fun c_1 hv_3 => cond c_1
  (gInt .i64 (Addr.add (Addr.add ⟨b, 0, none⟩ 2) 0) hv_3 fun x_4 => aSome n fun p_1 => ck ((0 : Int) ≤ IntKind.wrap .i64 (x_4 - 1) ∧ IntKind.wrap .i64 (x_4 - 1) < ((nn : Nat) : Int)) (gInt .i64 (Addr.add (bare p_1) (Int.toNat (IntKind.wrap .i64 (x_4 - 1)) * 1)) hv_3 fun x_5 => aSome n fun p_2 => ck ((0 : Int) ≤ IntKind.wrap .i64 (x_4 - 1) ∧ IntKind.wrap .i64 (x_4 - 1) < ((nn : Nat) : Int)) (pV (Addr.add (bare p_2) (Int.toNat (IntKind.wrap .i64 (x_4 - 1)) * 1)) (.int .i64 (IntKind.wrap .i64 (x_5 + 1))) hv_3 fun hv_4 => run F_trace_Counts T_trace_Counts_L1 [(3, .slice n nn nc), (7, .slice x7 x7n x7c), (8, .int .i64 x8), (9, .int .i64 (IntKind.wrap .i64 (x9 + 1)))] hv_4)))
  (run F_trace_Counts T_trace_Counts_L1 [(3, .slice n nn nc), (7, .slice x7 x7n x7c), (8, .int .i64 x8), (9, .int .i64 (IntKind.wrap .i64 (x9 + 1)))] hv_3))))
  (some (.slice n nn nc, h)) := by kernel_rfl
def C_trace_Fifo : Cuts := { globs := 0, loops := [], regs := [], plans := [] }
noncomputable def T_trace_Fifo : List Item := bodyOf Tryz.f8
theorem e_trace_Fifo (call : CallFn) (run : RunFn) (inv : Option Addr) (inn inc : Nat) (out : Option Addr) (outn outc : Nat) (h : H) :
  exec PR C_trace_Fifo call run F_trace_Fifo Tryz.f8 100000 true T_trace_Fifo [(0, .slice inv inn inc), (1, .slice out outn outc)] h =
  bnd (call F_bytes_HasPrefix [.slice inv inn inc, .slice out outn outc] h) fun r hv => aBool r fun x => some (.bool x, hv) := by kernel_rfl
def C_ref15_SameSys : Cuts := { globs := 0, loops := [], regs := [], plans := [] }
noncomputable def T_ref15_SameSys : List Item := bodyOf Tryz.f10
theorem e_ref15_SameSys (call : CallFn) (run : RunFn) (a : List Value) (b : List Value) (h : H) :
  exec PR C_ref15_SameSys call run F_ref15_SameSys Tryz.f10 100000 true T_ref15_SameSys [(0, .agg ⟨a⟩), (1, .agg ⟨b⟩)] h =
  nw (.cells Y_api_Sys false a) h fun b_1 hv => nw (.cells Y_api_Sys false b) hv fun b_2 hv_1 => gInt .i64 (Addr.add ⟨b_1, 0, none⟩ 0) hv_1 fun x => gInt .i64 (Addr.add ⟨b_2, 0, none⟩ 0) hv_1 fun x_1 => bnd (cond (x == x_1) (gInt .i64 (Addr.add ⟨b_1, 0, none⟩ 1) hv_1 fun x_2 => gInt .i64 (Addr.add ⟨b_2, 0, none⟩ 1) hv_1 fun x_3 => some (x_2 == x_3, hv_1)) (some (false, hv_1))) fun c hv_2 => bnd (cond c (gInt .i64 (Addr.add ⟨b_1, 0, none⟩ 2) hv_2 fun x_4 => gInt .i64 (Addr.add ⟨b_2, 0, none⟩ 2) hv_2 fun x_5 => some (x_4 == x_5, hv_2)) (some (false, hv_2))) fun c_1 hv_3 => bnd (cond c_1 (gSl (Addr.add ⟨b_1, 0, none⟩ 3) hv_3 fun x_6 xn _ => gCells x_6 xn hv_3 fun cs => asBytes cs fun l => gSl (Addr.add ⟨b_2, 0, none⟩ 3) hv_3 fun x_7 xn_1 _ => gCells x_7 xn_1 hv_3 fun cs_1 => asBytes cs_1 fun l_1 => some ((ByteArray.mk ⟨l⟩).toList == (ByteArray.mk ⟨l_1⟩).toList, hv_3)) (some (false, hv_3))) fun c_2 hv_4 => some (.bool c_2, hv_4) := by kernel_rfl
def C_ref1_SameInts : Cuts := { globs := 0, loops := [(4, [0, 1, 5])], regs := [], plans := [(6, ⟨[0, 1, 2, 3, 4, 5, 6, 7, 8], [0, 0, 3, 7, 0, 0, 48, 112, 255], [], []⟩)] }
noncomputable def T_ref1_SameInts : List Item := bodyOf Tryz.f11
noncomputable def T_ref1_SameInts_L1 : List Item := stk [0, 1, 0, 1, 0, 0, 1, 4, 5] T_ref1_SameInts
theorem e_ref1_SameInts (call : CallFn) (run : RunFn) (a : Option Addr) (an ac : Nat) (b : Option Addr) (bn bc : Nat) (h : H) :
  exec PR C_ref1_SameInts call run F_ref1_SameInts Tryz.f11 100000 true T_ref1_SameInts [(0, .slice a an ac), (1, .slice b bn bc)] h =
  cond (((an : Nat) : Int) != ((bn : Nat) : Int))
  (some (.bool false, h))
  (run F_ref1_SameInts T_ref1_SameInts_L1 [(0, .slice a an ac), (1, .slice b bn bc), (5, .int .i64 0)] h) := by kernel_rfl
theorem e_ref1_SameInts_L1 (call : CallFn) (run : RunFn) (a : Option Addr) (an ac : Nat) (b : Option Addr) (bn bc : Nat) (i : Int) (h : H) :
  exec PR C_ref1_SameInts call run F_ref1_SameInts Tryz.f11 100000 true T_ref1_SameInts_L1 [(0, .slice a an ac), (1, .slice b bn bc), (5, .int .i64 i)] h =
  cond (decide (i < ((an : Nat) : Int)))
  (aSome a fun p => ck ((0 : Int) ≤ i ∧ i < ((an : Nat) : Int)) (gInt .i64 (Addr.add (bare p) (Int.toNat i * 1)) h fun x => aSome b fun p_1 => ck ((0 : Int) ≤ i ∧ i < ((bn : Nat) : Int)) (gInt .i64 (Addr.add (bare p_1) (Int.toNat i * 1)) h fun x_1 => cond (x != x_1)
  (some (.bool false, h))
  (run F_ref1_SameInts T_ref1_SameInts_L1 [(0, .slice a an ac), (1, .slice b bn bc), (5, .int .i64 (IntKind.wrap .i64 (i + 1)))] h))))
  (some (.bool true, h)) := by kernel_rfl
def C_trace_look : Cuts := { globs := 0, loops := [], regs := [], plans := [] }
noncomputable def T_trace_look : List Item := bodyOf Tryz.f14
def C_world_World_Do : Cuts := { globs := 0, loops := [], regs := [], plans := [(6, ⟨[0, 1, 2, 3, 4, 5, 6], [0, 1, 3, 7, 0, 16, 63], [], []⟩), (12, ⟨[0, 2, 3, 1, 4], [0, 1, 0, 4, 15], [(1, [3])], []⟩), (14, ⟨[0, 1, 2, 3, 4, 5, 6, 7, 8, 9, 10, 11, 12, 13, 14, 15, 16, 17, 18, 19, 20, 21, 22, 23, 24], [0, 1, 3, 7, 15, 31, 15, 79, 207, 463, 975, 1999, 4095, 8191, 16383, 32767, 65535, 131071, 262143, 524287, 32767, 1081343, 4194303, 8388607, 16777215], [], []⟩), (15, ⟨[0, 1, 2, 3, 4, 5, 6, 7, 8, 9, 10], [0, 1, 3, 7, 0, 16, 48, 112, 0, 256, 1023], [], []⟩)] }
noncomputable def T_world_World_Do : List Item := bodyOf Tryz.f15
def C_bytes_Equal : Cuts := { globs := 0, loops := [], regs := [], plans := [] }
noncomputable def T_bytes_Equal : List Item := bodyOf Tryz.f16
theorem e_bytes_Equal (call : CallFn) (run : RunFn) (a : Option Addr) (an ac : Nat) (b : Option Addr) (bn bc : Nat) (h : H) :
  exec PR C_bytes_Equal call run F_bytes_Equal Tryz.f16 100000 true T_bytes_Equal [(0, .slice a an ac), (1, .slice b bn bc)] h =
  gCells a an h fun cs => asBytes cs fun l => gCells b bn h fun cs_1 => asBytes cs_1 fun l_1 => some (.bool ((ByteArray.mk ⟨l⟩).toList == (ByteArray.mk ⟨l_1⟩).toList), h) := by kernel_rfl
def C_kern_Kern_Tick : Cuts := { globs := 0, loops := [], regs := [], plans := [] }
def C_kern_check : Cuts := { globs := 0, loops := [(7, [1, 3, 52, 53, 54]), (13, [1, 3, 63, 64, 65])], regs := [], plans := [] }
noncomputable def T_kern_check : List Item := bodyOf Tryz.f32
noncomputable def T_kern_check_L1 : List Item := stk [0, 1, 0, 1, 0, 1, 0, 1, 0, 0, 1, 4, 5] T_kern_check
noncomputable def T_kern_check_L2 : List Item := stk [0, 1, 0, 1, 0, 1, 0, 1, 0, 1, 0, 0, 1, 4, 5] T_kern_check
def C_kern_frames : Cuts := { globs := 0, loops := [], regs := [], plans := [] }
noncomputable def T_kern_frames : List Item := bodyOf Tryz.f33
def C_caps_New : Cuts := { globs := 0, loops := [(3, [3, 8, 9])], regs := [], plans := [(4, ⟨[0, 1, 2, 3, 4, 5, 6, 7, 8, 9, 10], [0, 0, 2, 6, 14, 0, 32, 126, 255, 511, 1023], [(5, [4])], []⟩)] }
noncomputable def T_caps_New : List Item := bodyOf Tryz.f36
noncomputable def T_caps_New_L1 : List Item := stk [0, 1, 0, 1, 0, 0, 1, 4, 5] T_caps_New
def C_region_Regions_Add : Cuts := { globs := 0, loops := [], regs := [], plans := [] }
noncomputable def T_region_Regions_Add : List Item := bodyOf Tryz.f40
def C_commons_Commons_SetPipe : Cuts := { globs := 0, loops := [], regs := [], plans := [] }
noncomputable def T_commons_Commons_SetPipe : List Item := bodyOf Tryz.f48
def C_ring_Codec : Cuts := { globs := 0, loops := [], regs := [], plans := [] }
noncomputable def T_ring_Codec : List Item := bodyOf Tryz.f54
def C_host_Host_Fresh : Cuts := { globs := 0, loops := [], regs := [], plans := [(1, ⟨[0, 1, 2, 3, 4, 5, 6, 7, 8, 9, 10, 11, 12, 13, 14, 15], [0, 0, 2, 6, 14, 0, 32, 96, 224, 510, 1022, 2046, 2046, 4095, 12287, 28671], [], []⟩)] }
noncomputable def T_host_Host_Fresh : List Item := bodyOf Tryz.f58
def C_ring_Put : Cuts := { globs := 0, loops := [(5, [2, 4, 6, 13, 14, 15])], regs := [], plans := [] }
noncomputable def T_ring_Put : List Item := bodyOf Tryz.f63
noncomputable def T_ring_Put_L1 : List Item := stk [0, 1, 0, 1, 0, 1, 0, 0, 1, 4, 5] T_ring_Put
def C_caps_Space_add : Cuts := { globs := 0, loops := [], regs := [], plans := [(1, ⟨[0, 1, 2, 3, 4, 5, 6, 7, 8, 9, 10, 11, 12, 13], [0, 1, 3, 7, 0, 31, 63, 0, 255, 511, 1023, 1023, 2047, 8191], [], []⟩)] }
noncomputable def T_caps_Space_add : List Item := bodyOf Tryz.f74
def C_kern_Kern_Space : Cuts := { globs := 0, loops := [], regs := [], plans := [] }
noncomputable def T_kern_Kern_Space : List Item := bodyOf Tryz.f75
def C_ring_Encode : Cuts := { globs := 0, loops := [], regs := [], plans := [(1, ⟨[1, 0, 2, 3, 4, 5, 6], [0, 0, 3, 7, 7, 31, 63], [(0, [1])], []⟩)] }
noncomputable def T_ring_Encode : List Item := bodyOf Tryz.f77
def C_commons_pipe : Cuts := { globs := 0, loops := [], regs := [], plans := [] }
noncomputable def T_commons_pipe : List Item := bodyOf Tryz.f82
def C_host_Host_bad : Cuts := { globs := 0, loops := [], regs := [], plans := [] }
def C_host_Host_want : Cuts := { globs := 0, loops := [], regs := [], plans := [(0, ⟨[0, 1, 2, 3, 4, 5, 6, 7, 8, 9, 10, 11, 12, 14, 13, 15], [0, 1, 3, 7, 0, 16, 48, 112, 0, 256, 768, 1792, 3840, 8191, 0, 32767], [], []⟩), (2, ⟨[0, 1, 2, 3, 4, 5, 6, 7, 8, 9], [0, 0, 0, 4, 1, 17, 49, 127, 255, 511], [(6, [3])], []⟩)] }
noncomputable def T_host_Host_want : List Item := bodyOf Tryz.f95
def C_host_Host_in : Cuts := { globs := 0, loops := [], regs := [], plans := [(1, ⟨[0, 1, 2, 3, 4, 5, 6, 7, 9, 10, 11, 12, 13, 14, 15, 16, 8, 17, 18], [0, 1, 3, 7, 0, 16, 48, 112, 255, 0, 512, 1536, 3584, 0, 8192, 24576, 57344, 131071, 262143], [(8, [12, 16])], []⟩), (4, ⟨[0, 1, 2, 3, 4, 5, 6, 7, 8, 9, 10, 11, 13, 12, 14], [0, 1, 3, 7, 0, 16, 48, 112, 0, 256, 768, 1792, 4095, 0, 16383], [], []⟩)] }
noncomputable def T_host_Host_in : List Item := bodyOf Tryz.f96
def C_host_Host_blocked : Cuts := { globs := 0, loops := [], regs := [], plans := [(4, ⟨[0, 1, 2, 3, 5, 6, 7, 8, 10, 11, 12, 13, 14, 15, 16, 17, 18, 19, 20, 21, 4, 9, 22, 23, 24, 25, 26, 27, 28], [0, 1, 3, 7, 15, 0, 32, 96, 224, 511, 0, 1024, 3072, 7168, 0, 16384, 49152, 114688, 0, 262144, 786432, 1835008, 4194303, 8388607, 16777215, 33554431, 33554431, 67108863, 268435455], [(4, [8, 13, 17, 21]), (9, [13, 17, 21])], []⟩)] }
def C_commons_record_api_Proc : Cuts := { globs := 0, loops := [], regs := [(8, [6, 8, 11, 12])], plans := [(7, ⟨[0, 1, 2, 3, 4, 5, 6, 7, 8, 9], [0, 1, 3, 7, 0, 31, 63, 31, 159, 511], [(7, [5])], []⟩)] }
noncomputable def T_commons_record_api_Proc : List Item := bodyOf Tryz.f103
noncomputable def T_commons_record_api_Proc_R1 : List Item := stk [0, 1, 0, 1, 0, 1, 0, 1, 0, 1, 0, 1, 0, 0] T_commons_record_api_Proc
def C_region_Regions_Read : Cuts := { globs := 0, loops := [], regs := [], plans := [] }
noncomputable def T_region_Regions_Read : List Item := bodyOf Tryz.f106
def C_region_Regions_Copy : Cuts := { globs := 0, loops := [], regs := [], plans := [] }
def C_caps_Space_Revoke : Cuts := { globs := 0, loops := [(5, [0, 1, 2, 8, 22, 23, 24])], regs := [], plans := [(7, ⟨[0, 1, 2, 3, 4, 5, 6, 7, 8, 9, 10], [0, 1, 3, 7, 0, 16, 63, 127, 0, 256, 1023], [], []⟩)] }
noncomputable def T_caps_Space_Revoke : List Item := bodyOf Tryz.f110
noncomputable def T_caps_Space_Revoke_L1 : List Item := stk [0, 1, 0, 1, 0, 1, 0, 0, 1, 4, 5] T_caps_Space_Revoke
def C_table_Table_api_Cap_Names : Cuts := { globs := 0, loops := [(3, [0, 3, 9, 10, 11])], regs := [], plans := [] }
noncomputable def T_table_Table_api_Cap_Names : List Item := bodyOf Tryz.f117
noncomputable def T_table_Table_api_Cap_Names_L1 : List Item := stk [0, 1, 0, 1, 0, 0, 1, 4, 5] T_table_Table_api_Cap_Names
def C_codec_Codec_api_Pipe_Encode : Cuts := { globs := 0, loops := [], regs := [], plans := [(2, ⟨[0, 1, 2, 3, 4, 5, 6, 7, 8, 9, 10, 11, 12, 13, 14], [0, 1, 3, 7, 15, 31, 63, 127, 255, 511, 63, 63, 4095, 8191, 16383], [], []⟩)] }
noncomputable def T_codec_Codec_api_Pipe_Encode : List Item := bodyOf Tryz.f118
def C_commons_Commons_place : Cuts := { globs := 0, loops := [], regs := [], plans := [] }
noncomputable def T_commons_Commons_place : List Item := bodyOf Tryz.f119
def C_pslot_Codec : Cuts := { globs := 0, loops := [], regs := [], plans := [] }
noncomputable def T_pslot_Codec : List Item := bodyOf Tryz.f123
def C_sect_Sect_Quit : Cuts := { globs := 0, loops := [], regs := [(3, [0, 1])], plans := [] }
noncomputable def T_sect_Sect_Quit : List Item := bodyOf Tryz.f129
noncomputable def T_sect_Sect_Quit_R1 : List Item := stk [0, 1, 0] T_sect_Sect_Quit
def C_sect_Sect_Holds : Cuts := { globs := 0, loops := [], regs := [], plans := [] }
noncomputable def T_sect_Sect_Holds : List Item := bodyOf Tryz.f130
def C_commons_Commons_View : Cuts := { globs := 0, loops := [], regs := [], plans := [(1, ⟨[0, 1, 2, 3, 4, 5, 6, 7, 8, 9, 10, 11, 12, 13, 14, 15, 16, 17], [0, 1, 3, 7, 0, 16, 48, 112, 0, 256, 768, 1792, 3840, 7936, 16128, 32767, 65535, 131071], [], []⟩)] }
def C_commons_Commons_read : Cuts := { globs := 0, loops := [], regs := [], plans := [(2, ⟨[0, 1, 2, 3, 4, 5, 6, 7, 8, 9, 10], [0, 1, 3, 7, 15, 31, 63, 7, 255, 511, 1023], [], []⟩), (4, ⟨[0, 1, 2, 3, 4, 5, 6, 7, 8, 9, 10, 11, 12, 13, 14, 16, 15, 17], [0, 1, 3, 7, 0, 16, 48, 112, 0, 256, 0, 1024, 0, 4096, 16128, 32767, 0, 131071], [], []⟩), (6, ⟨[0, 1, 2, 3, 4, 5, 6, 7, 8, 9], [0, 1, 3, 7, 0, 31, 63, 31, 159, 511], [(7, [5])], []⟩)] }
noncomputable def T_commons_Commons_read : List Item := bodyOf Tryz.f143
def C_codec_Codec_api_Proc_Decode : Cuts := { globs := 0, loops := [], regs := [], plans := [(4, ⟨[0, 1, 2, 3, 4, 10, 5, 6, 7, 8, 9, 11, 12], [0, 1, 3, 7, 0, 16, 63, 127, 255, 255, 0, 1535, 4095], [(5, [3])], []⟩)] }
noncomputable def T_codec_Codec_api_Proc_Decode : List Item := bodyOf Tryz.f144
def C_table_Table_api_Cap_Drop : Cuts := { globs := 0, loops := [], regs := [], plans := [] }
def C_codec_New_api_File : Cuts := { globs := 0, loops := [], regs := [], plans := [] }
noncomputable def T_codec_New_api_File : List Item := bodyOf Tryz.f156
def C_proc_Kill : Cuts := { globs := 0, loops := [(10, [0, 3, 8, 53, 54, 55])], regs := [], plans := [] }
def C_proc_told : Cuts := { globs := 0, loops := [], regs := [], plans := [] }
def C_proc_CloseAll : Cuts := { globs := 0, loops := [(4, [0, 1, 4, 19, 20])], regs := [], plans := [] }
def C_commons_Commons_FreeProc : Cuts := { globs := 0, loops := [], regs := [], plans := [] }
def C_codec_Codec_api_File_Decode : Cuts := { globs := 0, loops := [], regs := [], plans := [(4, ⟨[0, 1, 2, 3, 4, 10, 5, 6, 7, 8, 9, 11, 12], [0, 1, 3, 7, 0, 16, 63, 127, 255, 255, 0, 1535, 4095], [(5, [3])], []⟩)] }
noncomputable def T_codec_Codec_api_File_Decode : List Item := bodyOf Tryz.f182
def C_table_Table_api_Cap_Get : Cuts := { globs := 0, loops := [], regs := [], plans := [] }
noncomputable def T_table_Table_api_Cap_Get : List Item := bodyOf Tryz.f183
def C_codec_Get2 : Cuts := { globs := 0, loops := [], regs := [], plans := [(3, ⟨[0, 1, 2, 3, 4, 5, 6, 7, 8, 9, 10, 11, 12, 13, 14], [0, 0, 3, 7, 15, 31, 0, 0, 128, 448, 960, 1984, 4095, 8191, 16383], [], []⟩)] }
noncomputable def T_codec_Get2 : List Item := bodyOf Tryz.f190
def C_fds_Pipe : Cuts := { globs := 0, loops := [], regs := [], plans := [(11, ⟨[0, 1, 2, 3, 4, 5, 6, 7, 8, 9, 10, 11, 12, 13, 14, 15, 16, 17, 18, 19, 20, 21, 22, 23, 24, 25, 26, 27, 28], [0, 0, 2, 6, 0, 31, 63, 127, 127, 383, 895, 127, 2175, 6271, 14463, 32767, 65535, 131071, 262143, 262143, 786431, 1835007, 262143, 4456447, 12845055, 29622271, 67108863, 134217727, 268435455], [], []⟩), (12, ⟨[0, 1, 2, 3, 4, 5, 6, 7, 8, 9, 10, 11, 12, 13, 14, 15, 17, 16, 18, 19], [0, 1, 3, 0, 8, 24, 0, 64, 192, 448, 0, 1024, 3072, 7168, 0, 17351, 50119, 0, 262143, 524287], [(16, [5, 12])], []⟩), (13, ⟨[0, 1, 7, 8, 9, 10, 11, 12, 13, 14, 2, 3, 4, 5, 6, 15, 16], [0, 1, 3, 3, 3, 31, 63, 0, 128, 384, 0, 1024, 3072, 7168, 16256, 32767, 65535], [(5, [9, 12])], []⟩)] }
def C_proc_free : Cuts := { globs := 0, loops := [(2, [0, 6])], regs := [], plans := [] }
def C_pred_ok : Cuts := { globs := 0, loops := [], regs := [], plans := [] }
def C_slices_Clip_s_api_Ins_api_Ins : Cuts := { globs := 0, loops := [], regs := [], plans := [] }
def C_fds_Pipe_1 : Cuts := { globs := 0, loops := [], regs := [], plans := [] }
def C_fds_done : Cuts := { globs := 0, loops := [], regs := [], plans := [] }
def C_pipes_may : Cuts := { globs := 0, loops := [], regs := [], plans := [(9, ⟨[0, 1, 2, 3, 4, 5], [0, 0, 0, 6, 15, 31], [(3, [0])], []⟩)] }
def C_pipes_broken : Cuts := { globs := 0, loops := [], regs := [], plans := [] }
def C_fds_more : Cuts := { globs := 0, loops := [], regs := [], plans := [] }
def C_fds_name : Cuts := { globs := 0, loops := [], regs := [], plans := [] }
def C_sig_is : Cuts := { globs := 0, loops := [], regs := [], plans := [] }
def C_slices_insertionSortCmpFunc_api_Ref : Cuts := { globs := 0, loops := [(1, [0, 1, 2, 3, 8]), (4, [0, 1, 2, 3, 8, 9])], regs := [], plans := [(4, ⟨[0, 1, 2, 3, 4, 5, 6, 7, 8, 9, 10, 11, 12, 13, 14, 15, 16], [0, 0, 3, 7, 15, 15, 15, 111, 239, 15, 15, 1039, 3599, 7695, 16383, 32767, 65535], [], []⟩), (6, ⟨[0, 1, 2, 3, 4, 5, 6, 7, 8, 9, 10, 11, 12, 13, 14, 15, 16, 17], [0, 0, 0, 0, 8, 0, 0, 64, 224, 480, 0, 0, 3072, 7168, 16355, 32739, 65535, 131071], [], []⟩)] }
def C_slices_breakPatternsCmpFunc_api_Ref : Cuts := { globs := 0, loops := [(5, [0, 1, 8, 9, 10, 11])], regs := [(10, [0, 1, 8, 9, 10, 11, 12])], plans := [(10, ⟨[0, 1, 2, 3, 4, 5, 6, 7, 8, 9, 10, 11, 12, 13, 14, 15, 16, 17, 18, 19], [0, 0, 0, 0, 0, 24, 0, 0, 0, 384, 960, 1984, 0, 0, 12288, 28672, 65475, 131011, 262143, 524287], [], []⟩)] }
def C_slices_partialInsertionSortCmpFunc_api_Ref : Cuts := { globs := 0, loops := [(3, [0, 1, 2, 3, 9, 10]), (5, [0, 1, 2, 3, 9, 10]), (14, [0, 1, 2, 3, 9, 10, 11]), (20, [0, 1, 2, 3, 9, 10, 12])], regs := [(18, [0, 1, 2, 3, 9, 10])], plans := [(5, ⟨[0, 1, 2, 3, 4, 5, 6, 7, 8, 9, 10, 11, 12, 13, 14, 15, 16, 17], [0, 0, 3, 7, 15, 15, 15, 111, 239, 15, 15, 1039, 3599, 7695, 16383, 32767, 65535, 131071], [], []⟩), (11, ⟨[0, 1, 2, 3, 4, 5, 6, 7, 8, 9, 10, 11, 12, 13, 14, 15, 16, 17], [0, 0, 0, 0, 8, 0, 0, 64, 224, 480, 0, 0, 3072, 7168, 16355, 32739, 65535, 131071], [], []⟩), (16, ⟨[0, 1, 2, 3, 4, 5, 6, 7, 8, 9, 10, 11, 12], [0, 0, 0, 6, 14, 0, 0, 64, 224, 480, 1023, 2047, 4095], [], []⟩), (17, ⟨[0, 1, 2, 3, 4, 5, 6, 7, 8, 9, 10, 11, 12, 13, 14, 15, 16, 17], [0, 0, 0, 0, 8, 0, 0, 64, 224, 480, 0, 0, 3072, 7168, 16355, 32739, 65535, 131071], [], []⟩), (22, ⟨[0, 1, 2, 3, 4, 5, 6, 7, 8, 9, 10, 11, 12], [0, 0, 0, 6, 14, 0, 0, 64, 224, 480, 1023, 2047, 4095], [], []⟩), (23, ⟨[0, 1, 2, 3, 4, 5, 6, 7, 8, 9, 10, 11, 12, 13, 14, 15, 16, 17], [0, 0, 0, 0, 8, 0, 0, 64, 224, 480, 0, 0, 3072, 7168, 16355, 32739, 65535, 131071], [], []⟩)] }
def C_slices_partitionEqualCmpFunc_api_Ref : Cuts := { globs := 0, loops := [(3, [0, 1, 4, 11, 12]), (5, [0, 1, 4, 11, 12])], regs := [], plans := [(1, ⟨[0, 1, 2, 3, 4, 5, 6, 7, 8, 9, 10, 11, 12, 13, 14, 15], [0, 0, 0, 0, 0, 0, 48, 112, 0, 0, 768, 1792, 4083, 8179, 16383, 32767], [], []⟩), (3, ⟨[0, 1, 2, 3, 4, 5, 6, 7, 8, 9, 10, 11, 12, 13, 14, 15, 16], [0, 0, 3, 7, 15, 15, 15, 111, 239, 15, 15, 1551, 3599, 8191, 16383, 32767, 65535], [], []⟩), (5, ⟨[0, 1, 2, 3, 4, 5, 6, 7, 8, 9, 10, 11, 12, 13, 14, 15], [0, 0, 3, 7, 15, 15, 15, 111, 239, 15, 15, 1551, 3599, 8191, 16383, 32767], [], []⟩), (8, ⟨[0, 1, 2, 3, 4, 5, 6, 7, 8, 9, 10, 11, 12, 13, 14, 15], [0, 0, 0, 0, 0, 0, 48, 112, 0, 0, 768, 1792, 4083, 8179, 16383, 32767], [], []⟩)] }
def C_fds_fdsOf_1 : Cuts := { globs := 0, loops := [], regs := [], plans := [] }
def C_slices_nextPowerOfTwo : Cuts := { globs := 0, loops := [], regs := [], plans := [] }
def C_slices_medianCmpFunc_api_Ref : Cuts := { globs := 0, loops := [], regs := [], plans := [] }
end Go.EQ

set_option maxRecDepth 100000
set_option linter.unusedVariables false
namespace Go.EQ
open Go Go.NN Go.Proofs
def C_trace_Flow : Cuts := { globs := 0, loops := [(8, [1, 6, 7, 9, 10, 11, 39, 40, 41])], regs := [], plans := [] }
noncomputable def T_trace_Flow : List Item := bodyOf Tryz.f9
noncomputable def T_trace_Flow_L1 : List Item := stk [0, 1, 0, 1, 0, 1, 0, 1, 0, 1, 0, 0, 1, 4, 5] T_trace_Flow
def C_world_New : Cuts := { globs := 0, loops := [(9, [5, 7, 43, 44]), (14, [5, 7, 8, 9, 43, 44, 50])], regs := [], plans := [(7, ⟨[0, 1, 2, 3, 5, 6, 7, 9, 10, 4, 8, 11, 12, 13, 14], [0, 0, 0, 4, 14, 0, 0, 64, 254, 0, 512, 2046, 4095, 8191, 16383], [(4, [7, 10]), (8, [10])], []⟩)] }
noncomputable def T_world_New : List Item := bodyOf Tryz.f13
noncomputable def T_world_New_L1 : List Item := stk [0, 1, 0, 1, 0, 1, 0, 1, 0, 1, 0, 0, 1, 4, 5] T_world_New
noncomputable def T_world_New_L2 : List Item := stk [0, 1, 0, 1, 0, 1, 0, 1, 0, 1, 0, 0, 1, 4, 5, 6, 0, 1, 0, 1, 0, 4, 0, 1, 0, 1, 0, 1, 0, 0, 1, 4, 5] T_world_New
def C_world_Check : Cuts := { globs := 0, loops := [(5, [3, 32, 33, 34])], regs := [], plans := [] }
noncomputable def T_world_Check : List Item := bodyOf Tryz.f17
noncomputable def T_world_Check_L1 : List Item := stk [0, 1, 0, 1, 0, 1, 0, 0, 1, 4, 5] T_world_Check
def C_world_Boot : Cuts := { globs := 0, loops := [(5, [1, 2, 3, 16, 17]), (9, [1, 2, 3, 4, 16, 17, 25]), (16, [2, 3, 52, 53, 54])], regs := [], plans := [] }
noncomputable def T_world_Boot : List Item := bodyOf Tryz.f19
noncomputable def T_world_Boot_L1 : List Item := stk [0, 1, 0, 1, 0, 1, 0, 0, 1, 4, 5] T_world_Boot
noncomputable def T_world_Boot_L2 : List Item := stk [0, 1, 0, 1, 0, 1, 0, 0, 1, 4, 5, 6, 0, 1, 0, 1, 0, 4, 0, 1, 0, 1, 0, 0, 1, 4, 5] T_world_Boot
noncomputable def T_world_Boot_L3 : List Item := stk [0, 1, 0, 1, 0, 1, 0, 1, 0, 0, 1, 4, 5] T_world_Boot
def C_host_New : Cuts := { globs := 0, loops := [], regs := [], plans := [] }
noncomputable def T_host_New : List Item := bodyOf Tryz.f21
def C_ring_Decode : Cuts := { globs := 0, loops := [], regs := [], plans := [] }
noncomputable def T_ring_Decode : List Item := bodyOf Tryz.f23
def C_ring_Bytes : Cuts := { globs := 0, loops := [(5, [1, 3, 9, 10])], regs := [], plans := [] }
noncomputable def T_ring_Bytes : List Item := bodyOf Tryz.f24
noncomputable def T_ring_Bytes_L1 : List Item := stk [0, 1, 0, 1, 0, 1, 0, 0, 1, 4, 5] T_ring_Bytes
def C_world_World_Host : Cuts := { globs := 0, loops := [], regs := [], plans := [] }
noncomputable def T_world_World_Host : List Item := bodyOf Tryz.f25
def C_host_Host_Start : Cuts := { globs := 0, loops := [], regs := [], plans := [(4, ⟨[0, 1, 2, 3, 4, 5, 6, 7, 12, 8, 9, 10, 11, 13, 14], [0, 1, 3, 7, 0, 16, 48, 112, 255, 511, 1023, 1023, 0, 6143, 16383], [], []⟩), (8, ⟨[0, 1, 2, 3, 4, 5, 6, 7, 8], [0, 0, 0, 1, 9, 25, 63, 127, 255], [(5, [2])], []⟩)] }
noncomputable def T_host_Host_Start : List Item := bodyOf Tryz.f28
def C_pipes_Type : Cuts := { globs := 0, loops := [], regs := [], plans := [] }
noncomputable def T_pipes_Type : List Item := bodyOf Tryz.f29
def C_slices_Clone_s_int_int : Cuts := { globs := 0, loops := [], regs := [], plans := [] }
noncomputable def T_slices_Clone_s_int_int : List Item := bodyOf Tryz.f34
def C_region_New : Cuts := { globs := 0, loops := [], regs := [], plans := [] }
noncomputable def T_region_New : List Item := bodyOf Tryz.f38
def C_caps_Space_Put : Cuts := { globs := 0, loops := [], regs := [], plans := [] }
noncomputable def T_caps_Space_Put : List Item := bodyOf Tryz.f43
def C_commons_New : Cuts := { globs := 0, loops := [], regs := [], plans := [] }
noncomputable def T_commons_New : List Item := bodyOf Tryz.f44
def C_commons_Commons_SetTerm : Cuts := { globs := 0, loops := [], regs := [], plans := [] }
noncomputable def T_commons_Commons_SetTerm : List Item := bodyOf Tryz.f45
def C_region_Regions_Raw : Cuts := { globs := 0, loops := [], regs := [], plans := [(3, ⟨[0, 1, 2, 3, 4, 5, 6, 7, 8, 9, 10, 11, 12, 13, 14, 15, 16, 17, 18, 19, 20, 21, 22, 23, 24], [0, 1, 3, 7, 0, 16, 48, 112, 0, 496, 1008, 2032, 0, 4096, 12288, 28672, 0, 126976, 258048, 520192, 1048575, 2097151, 2097151, 8388607, 16777215], [], []⟩)] }
noncomputable def T_region_Regions_Raw : List Item := bodyOf Tryz.f52
def C_commons_FrontBytes : Cuts := { globs := 0, loops := [], regs := [], plans := [] }
noncomputable def T_commons_FrontBytes : List Item := bodyOf Tryz.f79
def C_commons_proc : Cuts := { globs := 0, loops := [], regs := [], plans := [] }
noncomputable def T_commons_proc : List Item := bodyOf Tryz.f84
def C_codec_New_api_Pipe : Cuts := { globs := 0, loops := [], regs := [], plans := [] }
noncomputable def T_codec_New_api_Pipe : List Item := bodyOf Tryz.f88
def C_ring_Ok_1 : Cuts := { globs := 0, loops := [], regs := [], plans := [] }
noncomputable def T_ring_Ok_1 : List Item := bodyOf Tryz.f91
def C_host_Host_idle : Cuts := { globs := 0, loops := [], regs := [], plans := [(1, ⟨[0, 1, 2, 3, 4, 5, 6, 7, 9, 10, 11, 12, 8, 13], [0, 1, 3, 7, 0, 16, 48, 112, 255, 0, 512, 1536, 3584, 8191], [(8, [12])], []⟩)] }
def C_host_Host_end : Cuts := { globs := 0, loops := [], regs := [], plans := [(1, ⟨[0, 1, 2, 3, 4, 5, 6, 7, 12, 8, 9, 10, 11, 13, 14], [0, 1, 3, 7, 0, 16, 48, 112, 255, 511, 1023, 1023, 0, 6143, 16383], [], []⟩), (5, ⟨[0, 1, 2, 3, 4, 5, 6, 7, 8, 9], [0, 1, 3, 7, 0, 16, 48, 112, 0, 511], [], []⟩), (7, ⟨[0, 1, 2, 3, 4, 5, 6, 7, 8, 9, 10, 11], [0, 1, 3, 7, 0, 16, 48, 112, 0, 256, 768, 2047], [], []⟩)] }
noncomputable def T_host_Host_end : List Item := bodyOf Tryz.f98
def C_kern_Kern_enter : Cuts := { globs := 0, loops := [], regs := [], plans := [] }
noncomputable def T_kern_Kern_enter : List Item := bodyOf Tryz.f113
def C_ofile_Codec : Cuts := { globs := 0, loops := [], regs := [], plans := [] }
noncomputable def T_ofile_Codec : List Item := bodyOf Tryz.f121
def C_codec_Codec_api_File_Encode : Cuts := { globs := 0, loops := [], regs := [], plans := [(2, ⟨[0, 1, 2, 3, 4, 5, 6, 7, 8, 9, 10, 11, 12, 13, 14], [0, 1, 3, 7, 15, 31, 63, 127, 255, 511, 63, 63, 4095, 8191, 16383], [], []⟩)] }
noncomputable def T_codec_Codec_api_File_Encode : List Item := bodyOf Tryz.f122
def C_mem_Mem_in : Cuts := { globs := 0, loops := [], regs := [], plans := [] }
noncomputable def T_mem_Mem_in : List Item := bodyOf Tryz.f125
def C_calls_Do : Cuts := { globs := 0, loops := [], regs := [], plans := [] }
noncomputable def T_calls_Do : List Item := bodyOf Tryz.f131
def C_sig_Wakes : Cuts := { globs := 0, loops := [], regs := [], plans := [] }
def C_pred_Eval : Cuts := { globs := 0, loops := [(6, [2, 8, 9, 10])], regs := [], plans := [] }
def C_calls_Wake : Cuts := { globs := 0, loops := [], regs := [], plans := [] }
def C_region_Regions_place : Cuts := { globs := 0, loops := [], regs := [], plans := [(6, ⟨[0, 1, 2, 3, 4, 5, 6, 7, 8, 9, 10, 11, 12, 13, 14, 15, 16, 17, 18, 19, 20, 21, 22, 23, 24, 25, 26, 27, 28, 29, 30, 31, 32, 33, 34, 35], [0, 1, 3, 7, 15, 31, 63, 127, 127, 383, 1023, 2047, 4095, 8191, 8191, 24575, 8191, 122879, 262143, 524287, 1048575, 2097151, 4194303, 8388607, 16777215, 33554431, 67108863, 134217727, 67108863, 335544319, 872415231, 1946157055, 4093640703, 8589934591, 17179869183, 34359738367], [], []⟩), (8, ⟨[0, 1, 2, 3, 4, 5, 6, 7, 8, 9], [0, 1, 3, 7, 0, 16, 63, 127, 0, 511], [], []⟩)] }
noncomputable def T_region_Regions_place : List Item := bodyOf Tryz.f145
def C_mem_Mem_Store : Cuts := { globs := 0, loops := [], regs := [], plans := [] }
noncomputable def T_mem_Mem_Store : List Item := bodyOf Tryz.f146
def C_quota_Quota_is : Cuts := { globs := 0, loops := [], regs := [], plans := [] }
def C_quota_Quota_Owns : Cuts := { globs := 0, loops := [], regs := [], plans := [] }
def C_sect_Sect_Enter : Cuts := { globs := 0, loops := [(18, [0, 1, 2])], regs := [(10, [0, 1, 2]), (11, [0, 1, 2]), (14, [0, 1, 2]), (17, [])], plans := [(11, ⟨[0, 1, 2, 3, 4, 5, 6, 7, 8, 9, 10, 11, 12, 13, 14, 15, 16], [0, 1, 3, 7, 15, 31, 31, 95, 223, 479, 1023, 31, 2079, 6175, 14367, 32767, 65535], [], []⟩), (18, ⟨[0, 1, 2, 3, 4, 5, 6, 7, 8, 9, 10, 11, 12, 13, 14, 15, 16, 17, 18, 19, 20], [0, 1, 3, 7, 15, 31, 0, 127, 255, 511, 511, 1535, 3583, 7679, 16383, 511, 33279, 98815, 229887, 524287, 1048575], [], []⟩)] }
noncomputable def T_sect_Sect_Enter : List Item := bodyOf Tryz.f153
noncomputable def T_sect_Sect_Enter_R1 : List Item := stk [0, 1, 0, 1, 0, 1, 0, 1, 0, 1, 0, 0, 1, 2, 0, 1] T_sect_Sect_Enter
noncomputable def T_sect_Sect_Enter_R2 : List Item := stk [0, 1, 0, 1, 0, 1, 0, 1, 0, 1, 0, 1, 0, 0] T_sect_Sect_Enter
noncomputable def T_sect_Sect_Enter_R3 : List Item := stk [0, 1, 0, 1, 0, 1, 0, 1, 0, 1, 0, 1, 0, 1, 0, 0] T_sect_Sect_Enter
noncomputable def T_sect_Sect_Enter_R4 : List Item := stk [0, 1, 0, 1, 0, 1, 0, 1, 0, 1, 0, 1, 0, 1, 0, 0, 1, 2, 0, 1, 0] T_sect_Sect_Enter
noncomputable def T_sect_Sect_Enter_L1 : List Item := stk [0, 1, 0, 1, 0, 1, 0, 1, 0, 1, 0, 1, 0, 1, 0, 1, 0, 4, 5] T_sect_Sect_Enter
def C_ofile_put : Cuts := { globs := 0, loops := [], regs := [], plans := [] }
noncomputable def T_ofile_put : List Item := bodyOf Tryz.f157
def C_slices_Delete_s_int_int : Cuts := { globs := 0, loops := [], regs := [], plans := [(5, ⟨[0, 1, 2, 3, 4, 5, 6, 7], [0, 0, 3, 0, 0, 24, 63, 127], [], []⟩)] }
def C_proc_Fork : Cuts := { globs := 0, loops := [], regs := [], plans := [] }
def C_proc_Group : Cuts := { globs := 0, loops := [], regs := [], plans := [] }
def C_calls_own : Cuts := { globs := 0, loops := [], regs := [(13, [0, 1, 6, 7, 8, 9])], plans := [] }
def C_calls_told : Cuts := { globs := 0, loops := [], regs := [], plans := [] }
noncomputable def T_calls_told : List Item := bodyOf Tryz.f169
def C_sig_Next : Cuts := { globs := 0, loops := [], regs := [(7, [1, 2])], plans := [] }
noncomputable def T_sig_Next : List Item := bodyOf Tryz.f170
noncomputable def T_sig_Next_R1 : List Item := stk [0, 1, 0, 1, 0, 1, 0] T_sig_Next
def C_pred_Either : Cuts := { globs := 0, loops := [], regs := [], plans := [] }
def C_proc_orphan : Cuts := { globs := 0, loops := [(2, [0, 8, 9, 10])], regs := [], plans := [] }
def C_proc_done : Cuts := { globs := 0, loops := [], regs := [], plans := [] }
def C_caps_Space_Under_1 : Cuts := { globs := 0, loops := [], regs := [], plans := [] }
def C_ofile_Ok : Cuts := { globs := 0, loops := [], regs := [], plans := [] }
noncomputable def T_ofile_Ok : List Item := bodyOf Tryz.f187
def C_fds_Dup2 : Cuts := { globs := 0, loops := [], regs := [], plans := [] }
def C_fds_Now : Cuts := { globs := 0, loops := [], regs := [], plans := [] }
def C_pipes_Front : Cuts := { globs := 0, loops := [], regs := [], plans := [] }
def C_proc_slots : Cuts := { globs := 0, loops := [(3, [0, 1, 5, 10])], regs := [], plans := [] }
def C_sig_Raise : Cuts := { globs := 0, loops := [], regs := [(6, [2, 4, 6]), (8, [2, 4, 6])], plans := [] }
def C_proc_Group_1 : Cuts := { globs := 0, loops := [], regs := [], plans := [] }
def C_pred_one : Cuts := { globs := 0, loops := [], regs := [], plans := [] }
def C_fds_named : Cuts := { globs := 0, loops := [], regs := [], plans := [] }
noncomputable def T_fds_named : List Item := bodyOf Tryz.f214
def C_pred_in : Cuts := { globs := 0, loops := [], regs := [], plans := [] }
def C_proc_orphan_1 : Cuts := { globs := 0, loops := [], regs := [], plans := [] }
def C_fds_fdsOf : Cuts := { globs := 0, loops := [], regs := [], plans := [] }
def C_fds_Pipe_2 : Cuts := { globs := 0, loops := [], regs := [], plans := [] }
def C_proc_targets_1 : Cuts := { globs := 0, loops := [], regs := [], plans := [] }
def C_commons_Commons_FreePipe : Cuts := { globs := 0, loops := [], regs := [], plans := [] }
def C_slices_heapSortCmpFunc_api_Ref : Cuts := { globs := 0, loops := [(4, [0, 3, 8, 9, 10, 11]), (8, [0, 3, 8, 9, 12])], regs := [], plans := [(10, ⟨[0, 1, 2, 3, 4, 5, 6, 7, 8, 9, 10, 11, 12, 13, 14, 15, 16, 17, 18, 19], [0, 0, 0, 0, 0, 24, 0, 0, 0, 384, 960, 1984, 0, 0, 12288, 28672, 65475, 131011, 262143, 524287], [], []⟩)] }
def C_slices_partitionCmpFunc_api_Ref : Cuts := { globs := 0, loops := [(3, [0, 1, 4, 12, 13]), (5, [0, 1, 4, 12, 13]), (13, [0, 1, 4, 12, 13]), (15, [0, 1, 4, 12, 13])], regs := [], plans := [(1, ⟨[0, 1, 2, 3, 4, 5, 6, 7, 8, 9, 10, 11, 12, 13, 14, 15], [0, 0, 0, 0, 0, 0, 48, 112, 0, 0, 768, 1792, 4083, 8179, 16383, 32767], [], []⟩), (3, ⟨[0, 1, 2, 3, 4, 5, 6, 7, 8, 9, 10, 11, 12, 13, 14, 15], [0, 0, 3, 7, 15, 15, 15, 111, 239, 15, 15, 1551, 3599, 8191, 16383, 32767], [], []⟩), (5, ⟨[0, 1, 2, 3, 4, 5, 6, 7, 8, 9, 10, 11, 12, 13, 14, 15, 16], [0, 0, 3, 7, 15, 15, 15, 111, 239, 15, 15, 1551, 3599, 8191, 16383, 32767, 65535], [], []⟩), (8, ⟨[0, 1, 2, 3, 4, 5, 6, 7, 8, 9, 10, 11, 12, 13, 14, 15], [0, 0, 0, 0, 0, 0, 48, 112, 0, 0, 768, 1792, 4083, 8179, 16383, 32767], [], []⟩), (10, ⟨[0, 1, 2, 3, 4, 5, 6, 7, 8, 9, 10, 11, 12, 13, 14, 15], [0, 0, 0, 0, 0, 0, 48, 112, 0, 0, 768, 1792, 4083, 8179, 16383, 32767], [], []⟩), (13, ⟨[0, 1, 2, 3, 4, 5, 6, 7, 8, 9, 10, 11, 12, 13, 14, 15], [0, 0, 3, 7, 15, 15, 15, 111, 239, 15, 15, 1551, 3599, 8191, 16383, 32767], [], []⟩), (15, ⟨[0, 1, 2, 3, 4, 5, 6, 7, 8, 9, 10, 11, 12, 13, 14, 15, 16], [0, 0, 3, 7, 15, 15, 15, 111, 239, 15, 15, 1551, 3599, 8191, 16383, 32767, 65535], [], []⟩), (21, ⟨[0, 1, 2, 3, 4, 5, 6, 7, 8, 9, 10, 11, 12, 13, 14, 15], [0, 0, 0, 0, 0, 0, 48, 112, 0, 0, 768, 1792, 4083, 8179, 16383, 32767], [], []⟩), (18, ⟨[0, 1, 2, 3, 4, 5, 6, 7, 8, 9, 10, 11, 12, 13, 14, 15], [0, 0, 0, 0, 0, 0, 48, 112, 0, 0, 768, 1792, 4083, 8179, 16383, 32767], [], []⟩)] }
def C_math_bits_Len64 : Cuts := { globs := 0, loops := [], regs := [(4, [0, 2]), (7, [0, 2])], plans := [] }
def C_slices_medianAdjacentCmpFunc_api_Ref : Cuts := { globs := 0, loops := [], regs := [], plans := [] }
end Go.EQ

set_option maxRecDepth 100000
set_option linter.unusedVariables false
namespace Go.EQ
open Go Go.NN Go.Proofs
def C_law25_awake : Cuts := { globs := 0, loops := [], regs := [], plans := [] }
noncomputable def T_law25_awake : List Item := bodyOf Tryz.f4
def C_ref15_SameOut : Cuts := { globs := 0, loops := [], regs := [], plans := [] }
noncomputable def T_ref15_SameOut : List Item := bodyOf Tryz.f6
theorem e_ref15_SameOut (call : CallFn) (run : RunFn) (a : List Value) (b : List Value) (h : H) :
  exec PR C_ref15_SameOut call run F_ref15_SameOut Tryz.f6 100000 true T_ref15_SameOut [(0, .agg ⟨a⟩), (1, .agg ⟨b⟩)] h =
  nw (.cells Y_api_Out false a) h fun b_1 hv => nw (.cells Y_api_Out false b) hv fun b_2 hv_1 => gInt .i64 (Addr.add ⟨b_1, 0, none⟩ 0) hv_1 fun x => gInt .i64 (Addr.add ⟨b_2, 0, none⟩ 0) hv_1 fun x_1 => bnd (cond (x == x_1) (gInt .i64 (Addr.add ⟨b_1, 0, none⟩ 1) hv_1 fun x_2 => gInt .i64 (Addr.add ⟨b_2, 0, none⟩ 1) hv_1 fun x_3 => some (x_2 == x_3, hv_1)) (some (false, hv_1))) fun c hv_2 => bnd (cond c (gAgg (Addr.add ⟨b_1, 0, none⟩ 2) 4 hv_2 fun x_4 => gAgg (Addr.add ⟨b_2, 0, none⟩ 2) 4 hv_2 fun x_5 => bnd (call F_ref15_SameSys [.agg ⟨x_4⟩, .agg ⟨x_5⟩] hv_2) fun r hv_3 => aBool r fun x_6 => some (x_6, hv_3)) (some (false, hv_2))) fun c_1 hv_4 => bnd (cond c_1 (gInt .i64 (Addr.add ⟨b_1, 0, none⟩ 6) hv_4 fun x_7 => gInt .i64 (Addr.add ⟨b_2, 0, none⟩ 6) hv_4 fun x_8 => some (x_7 == x_8, hv_4)) (some (false, hv_4))) fun c_2 hv_5 => bnd (cond c_2 (gInt .i64 (Addr.add ⟨b_1, 0, none⟩ 7) hv_5 fun x_9 => gInt .i64 (Addr.add ⟨b_2, 0, none⟩ 7) hv_5 fun x_10 => some (x_9 == x_10, hv_5)) (some (false, hv_5))) fun c_3 hv_6 => bnd (cond c_3 (gSl (Addr.add ⟨b_1, 0, none⟩ 8) hv_6 fun x_11 xn _ => gCells x_11 xn hv_6 fun cs => asBytes cs fun l => gSl (Addr.add ⟨b_2, 0, none⟩ 8) hv_6 fun x_12 xn_1 _ => gCells x_12 xn_1 hv_6 fun cs_1 => asBytes cs_1 fun l_1 => some ((ByteArray.mk ⟨l⟩).toList == (ByteArray.mk ⟨l_1⟩).toList, hv_6)) (some (false, hv_6))) fun c_4 hv_7 => bnd (cond c_4 (gBool (Addr.add ⟨b_1, 0, none⟩ 9) hv_7 fun x_13 => gBool (Addr.add ⟨b_2, 0, none⟩ 9) hv_7 fun x_14 => some (x_13 == x_14, hv_7)) (some (false, hv_7))) fun c_5 hv_8 => bnd (cond c_5 (gSl (Addr.add ⟨b_1, 0, none⟩ 10) hv_8 fun x_15 xn_2 xc_2 => gSl (Addr.add ⟨b_2, 0, none⟩ 10) hv_8 fun x_16 xn_3 xc_3 => bnd (call F_ref1_SameInts [.slice x_15 xn_2 xc_2, .slice x_16 xn_3 xc_3] hv_8) fun r_1 hv_9 => aBool r_1 fun x_17 => some (x_17, hv_9)) (some (false, hv_8))) fun c_6 hv_10 => bnd (cond c_6 (gInt .i64 (Addr.add ⟨b_1, 0, none⟩ 11) hv_10 fun x_18 => gInt .i64 (Addr.add ⟨b_2, 0, none⟩ 11) hv_10 fun x_19 => some (x_18 == x_19, hv_10)) (some (false, hv_10))) fun c_7 hv_11 => some (.bool c_7, hv_11) := by kernel_rfl
def C_bytes_HasPrefix : Cuts := { globs := 0, loops := [], regs := [], plans := [] }
noncomputable def T_bytes_HasPrefix : List Item := bodyOf Tryz.f12
theorem e_bytes_HasPrefix (call : CallFn) (run : RunFn) (s : Option Addr) (sn sc : Nat) (prefixv : Option Addr) (prefixn prefixc : Nat) (h : H) :
  exec PR C_bytes_HasPrefix call run F_bytes_HasPrefix Tryz.f12 100000 true T_bytes_HasPrefix [(0, .slice s sn sc), (1, .slice prefixv prefixn prefixc)] h =
  bnd (cond (decide (((sn : Nat) : Int) ≥ ((prefixn : Nat) : Int))) (ckB (fitsOpen s Y_uint8 h) (ck ((0 : Int) ≤ ((prefixn : Nat) : Int) ∧ ((prefixn : Nat) : Int) ≤ ((sc : Nat) : Int)) (bnd (call F_bytes_Equal [.slice (moved s (decide (0 < sc)) (0 * 1)) ((Int.toNat ((prefixn : Nat) : Int)) - 0) (sc - 0), .slice prefixv prefixn prefixc] h) fun r hv => aBool r fun x => some (x, hv)))) (some (false, h))) fun c hv_1 => some (.bool c, hv_1) := by kernel_rfl
def C_world_World_begin : Cuts := { globs := 0, loops := [(8, [1, 4, 6, 7, 36, 37, 38])], regs := [(15, [1, 4, 6, 7, 10, 36, 37, 38])], plans := [] }
noncomputable def T_world_World_begin : List Item := bodyOf Tryz.f20
noncomputable def T_world_World_begin_L1 : List Item := stk [0, 1, 0, 1, 0, 1, 0, 1, 0, 1, 0, 1, 0, 1, 0, 0, 1, 4, 5] T_world_World_begin
noncomputable def T_world_World_begin_R1 : List Item := stk [0, 1, 0, 1, 0, 1, 0, 1, 0, 1, 0, 1, 0, 1, 0, 0, 1, 4, 5, 6, 0, 1, 0, 1, 0, 4, 0, 1, 0, 1, 0, 1, 0] T_world_World_begin
def C_world_World_Bridge : Cuts := { globs := 0, loops := [], regs := [], plans := [(3, ⟨[0, 1, 2, 3, 5, 6, 7, 8, 9, 10, 11, 4, 12, 13, 14, 15, 16], [0, 1, 3, 7, 15, 0, 32, 96, 224, 480, 0, 2016, 4095, 8191, 8191, 32767, 65535], [(4, [8])], []⟩)] }
noncomputable def T_world_World_Bridge : List Item := bodyOf Tryz.f22
def C_kern_Kern_Do : Cuts := { globs := 0, loops := [], regs := [], plans := [] }
noncomputable def T_kern_Kern_Do : List Item := bodyOf Tryz.f31
def C_sect_New : Cuts := { globs := 0, loops := [], regs := [], plans := [] }
noncomputable def T_sect_New : List Item := bodyOf Tryz.f39
def C_slices_Contains_s_int_int : Cuts := { globs := 0, loops := [], regs := [], plans := [] }
noncomputable def T_slices_Contains_s_int_int : List Item := bodyOf Tryz.f42
def C_commons_Commons_SetFile : Cuts := { globs := 0, loops := [], regs := [], plans := [] }
noncomputable def T_commons_Commons_SetFile : List Item := bodyOf Tryz.f47
def C_kern_Kern_Sect : Cuts := { globs := 0, loops := [], regs := [], plans := [] }
noncomputable def T_kern_Kern_Sect : List Item := bodyOf Tryz.f50
def C_kern_Kern_Regions : Cuts := { globs := 0, loops := [], regs := [], plans := [] }
noncomputable def T_kern_Kern_Regions : List Item := bodyOf Tryz.f51
def C_codec_Blank : Cuts := { globs := 0, loops := [], regs := [], plans := [] }
noncomputable def T_codec_Blank : List Item := bodyOf Tryz.f53
def C_commons_Commons_Look : Cuts := { globs := 0, loops := [(1, [0, 5]), (6, [0, 12]), (11, [0, 20, 21])], regs := [], plans := [] }
noncomputable def T_commons_Commons_Look : List Item := bodyOf Tryz.f59
noncomputable def T_commons_Commons_Look_L1 : List Item := stk [0, 0, 1, 4, 5] T_commons_Commons_Look
noncomputable def T_commons_Commons_Look_L2 : List Item := stk [0, 1, 0, 0, 1, 4, 5] T_commons_Commons_Look
noncomputable def T_commons_Commons_Look_L3 : List Item := stk [0, 1, 0, 1, 0, 0, 1, 4, 5] T_commons_Commons_Look
def C_slices_Clone_s_byte_byte : Cuts := { globs := 0, loops := [], regs := [], plans := [] }
noncomputable def T_slices_Clone_s_byte_byte : List Item := bodyOf Tryz.f61
def C_kern_Kern_bytes : Cuts := { globs := 0, loops := [], regs := [], plans := [(4, ⟨[0, 1, 2, 3, 4, 5, 6, 7, 8, 9, 10, 11, 12, 13, 14, 15, 16], [0, 1, 3, 7, 0, 0, 32, 0, 128, 0, 512, 2047, 4095, 8191, 8191, 16383, 65535], [], []⟩), (6, ⟨[0, 1, 2, 3, 4, 5, 6, 7, 8, 9, 10, 11, 12], [0, 1, 3, 7, 0, 0, 32, 0, 128, 0, 512, 2047, 4095], [], []⟩), (8, ⟨[0, 1, 2, 3, 4, 5, 6, 7, 8, 9, 10, 11, 12, 13, 14, 15, 16], [0, 1, 3, 7, 0, 0, 32, 0, 128, 0, 512, 0, 2048, 0, 8192, 32767, 65535], [], []⟩)] }
noncomputable def T_kern_Kern_bytes : List Item := bodyOf Tryz.f64
def C_kern_check_1 : Cuts := { globs := 0, loops := [], regs := [], plans := [] }
noncomputable def T_kern_check_1 : List Item := bodyOf Tryz.f66
def C_slices_ContainsFunc_s_int_int : Cuts := { globs := 0, loops := [], regs := [], plans := [] }
noncomputable def T_slices_ContainsFunc_s_int_int : List Item := bodyOf Tryz.f67
def C_kern_share : Cuts := { globs := 0, loops := [], regs := [], plans := [] }
noncomputable def T_kern_share : List Item := bodyOf Tryz.f68
def C_mem_Mem_Size : Cuts := { globs := 0, loops := [], regs := [], plans := [] }
noncomputable def T_mem_Mem_Size : List Item := bodyOf Tryz.f70
def C_commons_file : Cuts := { globs := 0, loops := [], regs := [], plans := [] }
noncomputable def T_commons_file : List Item := bodyOf Tryz.f81
def C_pslot_Encode : Cuts := { globs := 0, loops := [], regs := [], plans := [(1, ⟨[1, 0, 2, 3, 4, 5, 6], [0, 0, 3, 7, 7, 31, 63], [(0, [1])], []⟩)] }
noncomputable def T_pslot_Encode : List Item := bodyOf Tryz.f83
def C_slices_ContainsFunc_s_byte_byte : Cuts := { globs := 0, loops := [], regs := [], plans := [] }
noncomputable def T_slices_ContainsFunc_s_byte_byte : List Item := bodyOf Tryz.f86
def C_ring_get : Cuts := { globs := 0, loops := [], regs := [], plans := [(1, ⟨[0, 1, 2, 3, 4, 5, 6, 7, 8, 9, 10, 11, 12, 13, 14, 15, 16, 17, 18], [0, 1, 3, 7, 0, 16, 48, 112, 0, 256, 768, 1792, 0, 4096, 12288, 28672, 65535, 0, 262143], [], []⟩), (2, ⟨[0, 1, 2, 3, 4], [0, 1, 0, 4, 15], [], []⟩), (4, ⟨[0, 1, 2, 3, 4, 5, 6, 7, 8], [0, 0, 2, 6, 6, 30, 62, 63, 255], [(5, [0])], []⟩)] }
noncomputable def T_ring_get : List Item := bodyOf Tryz.f90
def C_host_Host_leave : Cuts := { globs := 0, loops := [], regs := [], plans := [(0, ⟨[0, 1, 2, 3, 4, 5, 6, 7, 8, 9, 10, 11, 12, 13, 14, 15, 16, 17], [0, 1, 3, 7, 0, 16, 48, 112, 0, 256, 768, 1792, 0, 4096, 12288, 28672, 65280, 131071], [], []⟩)] }
noncomputable def T_host_Host_leave : List Item := bodyOf Tryz.f94
def C_commons_Commons_most : Cuts := { globs := 0, loops := [], regs := [], plans := [] }
noncomputable def T_commons_Commons_most : List Item := bodyOf Tryz.f100
def C_quota_Quota_Alloc : Cuts := { globs := 0, loops := [], regs := [], plans := [] }
def C_quota_Quota_Free : Cuts := { globs := 0, loops := [], regs := [], plans := [] }
def C_kern_Kern_leave : Cuts := { globs := 0, loops := [], regs := [], plans := [] }
noncomputable def T_kern_Kern_leave : List Item := bodyOf Tryz.f114
def C_slices_IndexFunc_s_int_int : Cuts := { globs := 0, loops := [(2, [0, 1, 7, 8])], regs := [], plans := [] }
noncomputable def T_slices_IndexFunc_s_int_int : List Item := bodyOf Tryz.f115
noncomputable def T_slices_IndexFunc_s_int_int_L1 : List Item := stk [0, 1, 0, 0, 1, 4, 5] T_slices_IndexFunc_s_int_int
def C_table_Table_api_Cap_Add : Cuts := { globs := 0, loops := [(2, [0, 3, 11, 12, 13])], regs := [], plans := [(5, ⟨[0, 1, 2, 3, 4, 5, 6, 7, 8, 9, 10, 11, 12, 13, 14, 15, 16], [0, 1, 3, 7, 0, 0, 32, 96, 224, 0, 0, 1535, 3583, 7679, 16383, 32767, 65535], [], []⟩)] }
noncomputable def T_table_Table_api_Cap_Add : List Item := bodyOf Tryz.f116
noncomputable def T_table_Table_api_Cap_Add_L1 : List Item := stk [0, 1, 0, 0, 1, 4, 5] T_table_Table_api_Cap_Add
def C_slices_Equal_s_byte_byte : Cuts := { globs := 0, loops := [(4, [0, 1, 12, 13])], regs := [], plans := [(6, ⟨[0, 1, 2, 3, 4, 5, 6, 7, 8], [0, 0, 3, 7, 0, 0, 48, 112, 255], [], []⟩)] }
noncomputable def T_slices_Equal_s_byte_byte : List Item := bodyOf Tryz.f127
noncomputable def T_slices_Equal_s_byte_byte_L1 : List Item := stk [0, 1, 0, 1, 0, 0, 1, 4, 5] T_slices_Equal_s_byte_byte
def C_host_Host_back : Cuts := { globs := 0, loops := [], regs := [], plans := [(1, ⟨[0, 1, 2, 3, 4, 5, 6, 7, 8, 9, 10, 11, 12, 13, 14, 15], [0, 1, 3, 7, 0, 16, 48, 112, 0, 256, 0, 1024, 0, 4096, 16383, 32767], [], []⟩)] }
noncomputable def T_host_Host_back : List Item := bodyOf Tryz.f128
def C_kern_Kern_Now : Cuts := { globs := 0, loops := [], regs := [], plans := [] }
def C_sig_Deliver : Cuts := { globs := 0, loops := [(1, [1, 2, 3])], regs := [], plans := [] }
noncomputable def T_sig_Deliver : List Item := bodyOf Tryz.f137
noncomputable def T_sig_Deliver_L1 : List Item := stk [0, 1, 4, 5] T_sig_Deliver
def C_commons_record_api_File : Cuts := { globs := 0, loops := [], regs := [(8, [6, 8, 11, 12])], plans := [(7, ⟨[0, 1, 2, 3, 4, 5, 6, 7, 8, 9], [0, 1, 3, 7, 0, 31, 63, 31, 159, 511], [(7, [5])], []⟩)] }
noncomputable def T_commons_record_api_File : List Item := bodyOf Tryz.f139
noncomputable def T_commons_record_api_File_R1 : List Item := stk [0, 1, 0, 1, 0, 1, 0, 1, 0, 1, 0, 1, 0, 0] T_commons_record_api_File
def C_commons_FrontOf : Cuts := { globs := 0, loops := [], regs := [], plans := [] }
noncomputable def T_commons_FrontOf : List Item := bodyOf Tryz.f142
def C_caps_Space_Get : Cuts := { globs := 0, loops := [], regs := [], plans := [] }
noncomputable def T_caps_Space_Get : List Item := bodyOf Tryz.f147
def C_caps_Space_Under : Cuts := { globs := 0, loops := [(6, [0, 1, 2, 10, 11]), (9, [0, 1, 2, 10, 11, 44, 45, 46]), (12, [0, 1, 2, 10, 11, 12, 13, 44, 45, 46, 52, 53, 54]), (22, [1, 2, 10, 19, 85, 86, 87]), (25, [1, 2, 10, 19, 20, 85, 86, 87, 93, 94, 95])], regs := [], plans := [] }
def C_ofile_get : Cuts := { globs := 0, loops := [], regs := [], plans := [(1, ⟨[0, 1, 2, 3, 4, 5, 6, 7, 8, 9, 10, 11, 12, 13, 14, 15, 16, 17, 18], [0, 1, 3, 7, 0, 16, 48, 112, 0, 256, 768, 1792, 0, 4096, 12288, 28672, 65535, 0, 262143], [], []⟩), (3, ⟨[0, 1, 2, 3, 4, 5, 6, 7, 8], [0, 0, 2, 6, 6, 30, 62, 63, 255], [(5, [0])], []⟩)] }
noncomputable def T_ofile_get : List Item := bodyOf Tryz.f158
def C_pslot_put : Cuts := { globs := 0, loops := [(4, [1, 2, 22, 23, 24]), (9, [1, 2, 43, 44, 45]), (14, [1, 58, 59])], regs := [], plans := [] }
noncomputable def T_pslot_put : List Item := bodyOf Tryz.f160
noncomputable def T_pslot_put_L1 : List Item := stk [0, 1, 0, 1, 0, 0, 1, 4, 5] T_pslot_put
noncomputable def T_pslot_put_L2 : List Item := stk [0, 1, 0, 1, 0, 1, 0, 0, 1, 4, 5] T_pslot_put
noncomputable def T_pslot_put_L3 : List Item := stk [0, 1, 0, 1, 0, 1, 0, 1, 0, 0, 1, 4, 5] T_pslot_put
def C_proc_Self : Cuts := { globs := 0, loops := [], regs := [], plans := [] }
noncomputable def T_proc_Self : List Item := bodyOf Tryz.f176
def C_slices_SortFunc_s_api_Ref_api_Ref : Cuts := { globs := 0, loops := [], regs := [], plans := [] }
def C_pslot_Ok : Cuts := { globs := 0, loops := [], regs := [], plans := [] }
noncomputable def T_pslot_Ok : List Item := bodyOf Tryz.f188
def C_codec_Put2 : Cuts := { globs := 0, loops := [], regs := [], plans := [] }
noncomputable def T_codec_Put2 : List Item := bodyOf Tryz.f189
def C_pipes_Read : Cuts := { globs := 0, loops := [], regs := [], plans := [] }
def C_pipes_Write : Cuts := { globs := 0, loops := [], regs := [], plans := [] }
noncomputable def T_pipes_Write : List Item := bodyOf Tryz.f193
def C_proc_share : Cuts := { globs := 0, loops := [(3, [0, 3, 5, 17, 18]), (9, [0, 5, 31, 32]), (19, [0, 57, 58])], regs := [], plans := [(15, ⟨[0, 1, 2, 3, 4, 5, 6, 7, 8], [0, 1, 0, 4, 12, 28, 63, 127, 255], [], []⟩)] }
def C_proc_Wait_1 : Cuts := { globs := 0, loops := [], regs := [], plans := [] }
def C_proc_child : Cuts := { globs := 0, loops := [], regs := [], plans := [] }
def C_sig_Mask : Cuts := { globs := 0, loops := [], regs := [], plans := [] }
def C_proc_CloseFile : Cuts := { globs := 0, loops := [], regs := [(18, [0, 5, 7])], plans := [] }
def C_commons_Commons_blank : Cuts := { globs := 0, loops := [], regs := [], plans := [(2, ⟨[0, 1, 2, 3, 4, 5, 6, 7], [0, 0, 0, 4, 12, 0, 63, 127], [], []⟩)] }
def C_slices_pdqsortCmpFunc_api_Ref : Cuts := { globs := 0, loops := [(2, [0, 1, 2, 3, 4, 10, 11])], regs := [(10, [0, 1, 2, 3, 4, 10, 11, 12]), (15, [0, 1, 2, 3, 4, 10, 11, 12, 13, 14]), (17, [0, 1, 2, 3, 4, 10, 11, 12, 13])], plans := [(17, ⟨[0, 1, 2, 3, 4, 5, 6, 7, 8, 9, 10, 11, 12, 13, 14, 15, 16], [0, 1, 3, 7, 7, 7, 39, 119, 247, 7, 7, 1543, 3591, 8191, 16383, 32767, 65535], [], []⟩)] }
def C_pslot_bits : Cuts := { globs := 0, loops := [], regs := [], plans := [] }
noncomputable def T_pslot_bits : List Item := bodyOf Tryz.f223
def C_fds_free : Cuts := { globs := 0, loops := [(3, [0, 1, 2, 7, 8])], regs := [], plans := [] }
def C_pipes_of : Cuts := { globs := 0, loops := [], regs := [], plans := [] }
noncomputable def T_pipes_of : List Item := bodyOf Tryz.f233
def C_pipes_waits : Cuts := { globs := 0, loops := [], regs := [], plans := [] }
def C_ring_Take : Cuts := { globs := 0, loops := [], regs := [], plans := [(6, ⟨[0, 1, 2, 3, 4], [0, 0, 2, 7, 15], [(2, [0])], []⟩)] }
def C_slices_choosePivotCmpFunc_api_Ref : Cuts := { globs := 0, loops := [], regs := [(11, [0, 3, 11, 12, 13, 14]), (12, [11, 13])], plans := [] }
def C_slices_reverseRangeCmpFunc_api_Ref : Cuts := { globs := 0, loops := [(2, [0, 8, 9])], regs := [], plans := [(3, ⟨[0, 1, 2, 3, 4, 5, 6, 7, 8, 9, 10, 11, 12, 13, 14, 15], [0, 0, 0, 0, 0, 0, 48, 112, 0, 0, 768, 1792, 4083, 8179, 16383, 32767], [], []⟩)] }
def C_pipes_front : Cuts := { globs := 0, loops := [], regs := [], plans := [] }
def C_pipes_of_1 : Cuts := { globs := 0, loops := [], regs := [], plans := [] }
noncomputable def T_pipes_of_1 : List Item := bodyOf Tryz.f259
def C_slices_Clip_s_byte_byte : Cuts := { globs := 0, loops := [], regs := [], plans := [] }
def C_slices_xorshift_Next : Cuts := { globs := 0, loops := [], regs := [], plans := [(1, ⟨[0, 1, 2, 3, 4, 5, 6, 7, 8, 9], [0, 1, 3, 0, 8, 24, 56, 127, 255, 511], [], []⟩), (2, ⟨[0, 1, 2, 3, 4, 5, 6, 7, 8, 9], [0, 1, 3, 0, 8, 24, 56, 127, 255, 511], [], []⟩), (3, ⟨[0, 1, 2, 3, 4, 5, 6, 7, 8, 9], [0, 1, 3, 0, 8, 24, 56, 127, 255, 511], [], []⟩)] }
end Go.EQ

set_option maxRecDepth 100000
set_option linter.unusedVariables false
namespace Go.EQ
open Go Go.NN Go.Proofs
def C_law25_TraceCounts : Cuts := { globs := 0, loops := [(7, [0, 1, 2, 3, 4, 5, 13, 14, 15, 16]), (20, [3, 4, 5, 15, 18, 19])], regs := [(12, [0, 1, 2, 3, 4, 5, 13, 14, 15, 16, 17])], plans := [(13, ⟨[0, 1, 2, 3, 4, 5, 6, 7, 8, 9, 10, 11, 12], [0, 0, 2, 7, 15, 31, 31, 127, 255, 31, 1023, 2047, 4095], [], []⟩), (22, ⟨[0, 1, 2, 3, 4, 5, 6, 7], [0, 0, 3, 7, 0, 16, 48, 127], [], []⟩), (25, ⟨[0, 1, 2, 3, 4, 5, 6, 7, 8, 9, 10, 11, 12, 13, 14, 15, 16, 17, 18], [0, 1, 0, 4, 15, 31, 63, 63, 191, 63, 575, 1983, 4095, 8191, 63, 16447, 65535, 131071, 262143], [], []⟩)] }
noncomputable def T_law25_TraceCounts : List Item := bodyOf Tryz.f3
noncomputable def T_law25_TraceCounts_L1 : List Item := stk [0, 1, 0, 1, 0, 1, 0, 1, 0, 1, 0, 0, 1, 4, 5] T_law25_TraceCounts
noncomputable def T_law25_TraceCounts_R1 : List Item := stk [0, 1, 0, 1, 0, 1, 0, 1, 0, 1, 0, 0, 1, 4, 5, 6, 0, 1, 0, 4, 0, 1, 0, 1, 0, 0] T_law25_TraceCounts
noncomputable def T_law25_TraceCounts_L2 : List Item := stk [0, 1, 0, 1, 0, 1, 0, 1, 0, 1, 0, 1, 0, 1, 0, 1, 0, 0, 1, 4, 5] T_law25_TraceCounts
theorem e_law25_TraceCounts (call : CallFn) (run : RunFn) (outs : Option Addr) (outsn outsc : Nat) (s : Int) (slot : Int) (b : Option Addr) (bn bc : Nat) (c : Option Addr) (cn cc : Nat) (atv : Int) (h : H) :
  exec PR C_law25_TraceCounts call run F_law25_TraceCounts Tryz.f3 100000 true T_law25_TraceCounts [(0, .slice outs outsn outsc), (1, .int .i64 s), (2, .int .i64 slot), (3, .slice b bn bc), (4, .slice c cn cc), (5, .int .i64 atv)] h =
  bnd (cond (decide (((outsn : Nat) : Int) > 40)) (some (true, h)) (some (decide (((bn : Nat) : Int) > 200), h))) fun c_1 hv => bnd (cond c_1 (some (true, hv)) (some (decide (((cn : Nat) : Int) > 200), hv))) fun c_2 hv_1 => cond c_2
  (bnd (call F_law25_awake [] hv_1) fun r hv_2 => aBool r fun x => some (.bool x, hv_2))
  (bnd (call F_trace_Calls [.slice outs outsn outsc, .int .i64 s, .int .i64 slot] hv_1) fun r_1 hv_3 => aSl r_1 fun x_1 xn xc => nw (.cells Y_18_int false [.int .i64 0, .int .i64 0, .int .i64 0, .int .i64 0, .int .i64 0, .int .i64 0, .int .i64 0, .int .i64 0, .int .i64 0, .int .i64 0, .int .i64 0, .int .i64 0, .int .i64 0, .int .i64 0, .int .i64 0, .int .i64 0, .int .i64 0, .int .i64 0]) hv_3 fun b_1 hv_4 => run F_law25_TraceCounts T_law25_TraceCounts_L1 [(0, .slice outs outsn outsc), (1, .int .i64 s), (2, .int .i64 slot), (3, .slice b bn bc), (4, .slice c cn cc), (5, .int .i64 atv), (13, .slice x_1 xn xc), (14, .int .i64 0), (15, .pointer (some ⟨b_1, 0, none⟩)), (16, .int .i64 0)] hv_4) := by kernel_rfl
theorem e_law25_TraceCounts_L1 (call : CallFn) (run : RunFn) (outs : Option Addr) (outsn outsc : Nat) (s : Int) (slot : Int) (b : Option Addr) (bn bc : Nat) (c : Option Addr) (cn cc : Nat) (atv : Int) (got : Option Addr) (gotn gotc : Nat) (k : Int) (want : Addr) (i : Int) (h : H) :
  exec PR C_law25_TraceCounts call run F_law25_TraceCounts Tryz.f3 100000 true T_law25_TraceCounts_L1 [(0, .slice outs outsn outsc), (1, .int .i64 s), (2, .int .i64 slot), (3, .slice b bn bc), (4, .slice c cn cc), (5, .int .i64 atv), (13, .slice got gotn gotc), (14, .int .i64 k), (15, .pointer (some want)), (16, .int .i64 i)] h =
  cond (decide (i < ((outsn : Nat) : Int)))
  (aSome outs fun p => ck ((0 : Int) ≤ i ∧ i < ((outsn : Nat) : Int)) (gAgg (Addr.add (bare p) (Int.toNat i * 12)) 12 h fun x => nw (.cells Y_api_Out false [.int .i64 0, .int .i64 0, .int .i64 0, .int .i64 0, .int .i64 0, .slice none 0 0, .int .i64 0, .int .i64 0, .slice none 0 0, .bool false, .slice none 0 0, .int .i64 0]) h fun b_1 hv => ck (List.length x = 12) (pAgg ⟨b_1, 0, none⟩ x hv fun hv_1 => gBool (Addr.add ⟨b_1, 0, none⟩ 9) hv_1 fun x_1 => bnd (cond x_1 (gInt .i64 (Addr.add (Addr.add ⟨b_1, 0, none⟩ 2) 0) hv_1 fun x_2 => some (decide (x_2 ≥ 1), hv_1)) (some (false, hv_1))) fun c_1 hv_2 => bnd (cond c_1 (gInt .i64 (Addr.add (Addr.add ⟨b_1, 0, none⟩ 2) 0) hv_2 fun x_3 => some (decide (x_3 ≤ 18), hv_2)) (some (false, hv_2))) fun c_2 hv_3 => cond c_2
  (gInt .i64 (Addr.add (Addr.add ⟨b_1, 0, none⟩ 2) 0) hv_3 fun x_4 => ck ((0 : Int) ≤ IntKind.wrap .i64 (x_4 - 1) ∧ IntKind.wrap .i64 (x_4 - 1) < ((18 : Nat) : Int)) (gInt .i64 (Addr.add want (Int.toNat (IntKind.wrap .i64 (x_4 - 1)) * 1)) hv_3 fun x_5 => ck ((0 : Int) ≤ IntKind.wrap .i64 (x_4 - 1) ∧ IntKind.wrap .i64 (x_4 - 1) < ((18 : Nat) : Int)) (pV (Addr.add want (Int.toNat (IntKind.wrap .i64 (x_4 - 1)) * 1)) (.int .i64 (IntKind.wrap .i64 (x_5 + 1))) hv_3 fun hv_4 => run F_law25_TraceCounts T_law25_TraceCounts_R1 [(0, .slice outs outsn outsc), (1, .int .i64 s), (2, .int .i64 slot), (3, .slice b bn bc), (4, .slice c cn cc), (5, .int .i64 atv), (13, .slice got gotn gotc), (14, .int .i64 k), (15, .pointer (some want)), (16, .int .i64 i), (17, .pointer (some ⟨b_1, 0, none⟩))] hv_4)))
  (run F_law25_TraceCounts T_law25_TraceCounts_R1 [(0, .slice outs outsn outsc), (1, .int .i64 s), (2, .int .i64 slot), (3, .slice b bn bc), (4, .slice c cn cc), (5, .int .i64 atv), (13, .slice got gotn gotc), (14, .int .i64 k), (15, .pointer (some want)), (16, .int .i64 i), (17, .pointer (some ⟨b_1, 0, none⟩))] hv_3))))
  (bnd (call F_trace_Counts [.slice outs outsn outsc] h) fun r hv_5 => aSl r fun x_6 xn xc => bnd (cond (k != ((gotn : Nat) : Int)) (some (true, hv_5)) (some (((xn : Nat) : Int) != 18, hv_5))) fun c_3 hv_6 => cond c_3
  (some (.bool false, hv_6))
  (run F_law25_TraceCounts T_law25_TraceCounts_L2 [(3, .slice b bn bc), (4, .slice c cn cc), (5, .int .i64 atv), (15, .pointer (some want)), (18, .slice x_6 xn xc), (19, .int .i64 0)] hv_6)) := by kernel_rfl
theorem e_law25_TraceCounts_R1 (call : CallFn) (run : RunFn) (outs : Option Addr) (outsn outsc : Nat) (s : Int) (slot : Int) (b : Option Addr) (bn bc : Nat) (c : Option Addr) (cn cc : Nat) (atv : Int) (got : Option Addr) (gotn gotc : Nat) (k : Int) (want : Addr) (i : Int) (o : Addr) (h : H) :
  exec PR C_law25_TraceCounts call run F_law25_TraceCounts Tryz.f3 100000 true T_law25_TraceCounts_R1 [(0, .slice outs outsn outsc), (1, .int .i64 s), (2, .int .i64 slot), (3, .slice b bn bc), (4, .slice c cn cc), (5, .int .i64 atv), (13, .slice got gotn gotc), (14, .int .i64 k), (15, .pointer (some want)), (16, .int .i64 i), (17, .pointer (some o))] h =
  gInt .i64 (Addr.add o 0) h fun x => bnd (cond (x != s) (some (true, h)) (gInt .i64 (Addr.add o 1) h fun x_1 => some (x_1 != slot, h))) fun c_1 hv => cond c_1
  (run F_law25_TraceCounts T_law25_TraceCounts_L1 [(0, .slice outs outsn outsc), (1, .int .i64 s), (2, .int .i64 slot), (3, .slice b bn bc), (4, .slice c cn cc), (5, .int .i64 atv), (13, .slice got gotn gotc), (14, .int .i64 k), (15, .pointer (some want)), (16, .int .i64 (IntKind.wrap .i64 (i + 1)))] hv)
  (bnd (cond (decide (k ≥ ((gotn : Nat) : Int))) (some (true, hv)) (aSome got fun p => ck ((0 : Int) ≤ k ∧ k < ((gotn : Nat) : Int)) (gAgg (Addr.add (bare p) (Int.toNat k * 12)) 12 hv fun x_2 => gAgg o 12 hv fun x_3 => bnd (call F_ref15_SameOut [.agg ⟨x_2⟩, .agg ⟨x_3⟩] hv) fun r hv_1 => aBool r fun x_4 => some (!x_4, hv_1)))) fun c_2 hv_2 => cond c_2
  (some (.bool false, hv_2))
  (run F_law25_TraceCounts T_law25_TraceCounts_L1 [(0, .slice outs outsn outsc), (1, .int .i64 s), (2, .int .i64 slot), (3, .slice b bn bc), (4, .slice c cn cc), (5, .int .i64 atv), (13, .slice got gotn gotc), (14, .int .i64 (IntKind.wrap .i64 (k + 1))), (15, .pointer (some want)), (16, .int .i64 (IntKind.wrap .i64 (i + 1)))] hv_2)) := by kernel_rfl
theorem e_law25_TraceCounts_L2 (call : CallFn) (run : RunFn) (b : Option Addr) (bn bc : Nat) (c : Option Addr) (cn cc : Nat) (atv : Int) (want : Addr) (n : Option Addr) (nn nc : Nat) (i : Int) (h : H) :
  exec PR C_law25_TraceCounts call run F_law25_TraceCounts Tryz.f3 100000 true T_law25_TraceCounts_L2 [(3, .slice b bn bc), (4, .slice c cn cc), (5, .int .i64 atv), (15, .pointer (some want)), (18, .slice n nn nc), (19, .int .i64 i)] h =
  cond (decide (i < 18))
  (aSome n fun p => ck ((0 : Int) ≤ i ∧ i < ((nn : Nat) : Int)) (gInt .i64 (Addr.add (bare p) (Int.toNat i * 1)) h fun x => ck ((0 : Int) ≤ i ∧ i < ((18 : Nat) : Int)) (gInt .i64 (Addr.add want (Int.toNat i * 1)) h fun x_1 => cond (x != x_1)
  (some (.bool false, h))
  (run F_law25_TraceCounts T_law25_TraceCounts_L2 [(3, .slice b bn bc), (4, .slice c cn cc), (5, .int .i64 atv), (15, .pointer (some want)), (18, .slice n nn nc), (19, .int .i64 (IntKind.wrap .i64 (i + 1)))] h))))
  (ck ((IntKind.wrap .i64 (((bn : Nat) : Int) + 1)) ≠ (0 : Int)) (bnd (cond (decide (((cn : Nat) : Int) ≤ ((bn : Nat) : Int))) (ckB (fitsOpen b Y_uint8 h) (ck ((0 : Int) ≤ mm2 false ((cn : Nat) : Int) ((bn : Nat) : Int) ∧ mm2 false ((cn : Nat) : Int) ((bn : Nat) : Int) ≤ ((bc : Nat) : Int)) (gCells (moved b (decide (0 < bc)) (0 * 1)) ((Int.toNat (mm2 false ((cn : Nat) : Int) ((bn : Nat) : Int))) - 0) h fun cs => asBytes cs fun l => gCells c cn h fun cs_1 => asBytes cs_1 fun l_1 => some ((ByteArray.mk ⟨l⟩).toList == (ByteArray.mk ⟨l_1⟩).toList, h)))) (some (false, h))) fun c_1 hv => ckB (fitsOpen b Y_uint8 hv) (ck ((0 : Int) ≤ Int.tmod (bitA .i64 atv 255) (IntKind.wrap .i64 (((bn : Nat) : Int) + 1)) ∧ Int.tmod (bitA .i64 atv 255) (IntKind.wrap .i64 (((bn : Nat) : Int) + 1)) ≤ ((bc : Nat) : Int)) (bnd (call F_trace_Fifo [.slice b bn bc, .slice (moved b (decide (0 < bc)) (0 * 1)) ((Int.toNat (Int.tmod (bitA .i64 atv 255) (IntKind.wrap .i64 (((bn : Nat) : Int) + 1)))) - 0) (bc - 0)] hv) fun r hv_1 => aBool r fun x_2 => bnd (cond x_2 (bnd (call F_trace_Fifo [.slice b bn bc, .slice c cn cc] hv_1) fun r_1 hv_2 => aBool r_1 fun x_3 => some (x_3 == c_1, hv_2)) (some (false, hv_1))) fun c_2 hv_3 => bnd (cond c_2 (bnd (call F_law25_awake [] hv_3) fun r_2 hv_4 => aBool r_2 fun x_4 => some (x_4, hv_4)) (some (false, hv_3))) fun c_3 hv_5 => some (.bool c_3, hv_5))))) := by kernel_rfl
def C_kern_New : Cuts := { globs := 0, loops := [(5, [1, 4, 20, 21, 22]), (12, [1, 7, 58, 59, 60]), (18, [7, 89, 90, 91]), (22, [7, 11, 12, 89, 90, 91, 122, 123, 124])], regs := [], plans := [(9, ⟨[0, 1, 3, 5, 6, 7, 9, 10, 2, 4, 8, 11, 12, 13, 14], [0, 1, 3, 0, 15, 0, 32, 96, 255, 0, 512, 2047, 4095, 8191, 16383], [(2, [6, 10]), (4, [6, 10]), (8, [10])], []⟩), (10, ⟨[0, 1, 2, 3, 4, 5, 6, 7, 8, 9, 10, 11, 12], [0, 0, 2, 6, 14, 0, 32, 96, 224, 510, 1023, 2047, 4095], [], []⟩), (14, ⟨[0, 1, 2, 3, 4, 5, 6, 7, 8, 9, 10, 11], [0, 0, 2, 6, 14, 0, 32, 96, 254, 511, 1023, 2047], [(6, [4])], []⟩), (15, ⟨[0, 1, 2, 3, 4, 5, 6, 7, 8, 9, 10, 11, 12], [0, 0, 2, 6, 14, 0, 32, 96, 224, 510, 1023, 2047, 4095], [(7, [4])], []⟩), (20, ⟨[0, 1, 2, 3, 4, 5, 6, 7, 8, 9, 11, 12, 15, 16, 18, 19, 10, 13, 14, 17, 20, 21, 22, 23, 24, 25], [0, 1, 3, 7, 0, 16, 48, 112, 0, 256, 1008, 0, 2048, 8176, 16368, 0, 32768, 131056, 0, 262144, 1048575, 2097151, 4194303, 4194303, 8388607, 33554431], [(10, [3, 12, 16, 19])], []⟩), (25, ⟨[0, 1, 2, 3, 4, 5, 6, 7, 8, 9], [0, 1, 3, 7, 0, 0, 0, 64, 224, 511], [], []⟩)] }
noncomputable def T_kern_New : List Item := bodyOf Tryz.f18
noncomputable def T_kern_New_L1 : List Item := stk [0, 1, 0, 1, 0, 1, 0, 0, 1, 4, 5] T_kern_New
noncomputable def T_kern_New_L2 : List Item := stk [0, 1, 0, 1, 0, 1, 0, 1, 0, 1, 0, 1, 0, 0, 1, 4, 5] T_kern_New
noncomputable def T_kern_New_L3 : List Item := stk [0, 1, 0, 1, 0, 1, 0, 1, 0, 1, 0, 1, 0, 1, 0, 0, 1, 4, 5] T_kern_New
noncomputable def T_kern_New_L4 : List Item := stk [0, 1, 0, 1, 0, 1, 0, 1, 0, 1, 0, 1, 0, 1, 0, 0, 1, 4, 5, 6, 0, 1, 0, 1, 0, 4, 0, 1, 0, 1, 0, 1, 4, 5] T_kern_New
def C_world_World_pick : Cuts := { globs := 0, loops := [], regs := [], plans := [] }
noncomputable def T_world_World_pick : List Item := bodyOf Tryz.f26
def C_host_Host_Commons : Cuts := { globs := 0, loops := [], regs := [], plans := [] }
noncomputable def T_host_Host_Commons : List Item := bodyOf Tryz.f30
def C_mem_New : Cuts := { globs := 0, loops := [], regs := [], plans := [] }
noncomputable def T_mem_New : List Item := bodyOf Tryz.f35
def C_quota_New : Cuts := { globs := 0, loops := [(3, [3, 12, 13, 14])], regs := [], plans := [(5, ⟨[0, 1, 2, 3, 4, 5, 6, 7, 8, 9, 10, 11, 12, 13], [0, 0, 2, 6, 14, 0, 32, 96, 224, 480, 1022, 2047, 4095, 8191], [], []⟩)] }
noncomputable def T_quota_New : List Item := bodyOf Tryz.f37
noncomputable def T_quota_New_L1 : List Item := stk [0, 1, 0, 1, 0, 0, 1, 4, 5] T_quota_New
def C_quota_Quota_First : Cuts := { globs := 0, loops := [(3, [5, 20, 21, 22])], regs := [], plans := [(2, ⟨[0, 1, 2, 3, 4, 5, 6, 7, 8, 9, 10, 11, 12, 13, 14], [0, 1, 3, 7, 0, 16, 0, 64, 192, 448, 960, 2032, 4095, 8191, 0], [], []⟩)] }
noncomputable def T_quota_Quota_First : List Item := bodyOf Tryz.f41
noncomputable def T_quota_Quota_First_L1 : List Item := stk [0, 1, 0, 1, 0, 0, 1, 4, 5] T_quota_Quota_First
def C_commons_Commons_SetFront : Cuts := { globs := 0, loops := [], regs := [], plans := [] }
noncomputable def T_commons_Commons_SetFront : List Item := bodyOf Tryz.f46
def C_commons_Commons_SetProc : Cuts := { globs := 0, loops := [], regs := [], plans := [] }
noncomputable def T_commons_Commons_SetProc : List Item := bodyOf Tryz.f49
def C_codec_Codec_api_Pipe_Decode : Cuts := { globs := 0, loops := [], regs := [], plans := [(4, ⟨[0, 1, 2, 3, 4, 10, 5, 6, 7, 8, 9, 11, 12], [0, 1, 3, 7, 0, 16, 63, 127, 255, 255, 0, 1535, 4095], [(5, [3])], []⟩)] }
noncomputable def T_codec_Codec_api_Pipe_Decode : List Item := bodyOf Tryz.f55
def C_ring_Ok : Cuts := { globs := 0, loops := [], regs := [], plans := [] }
noncomputable def T_ring_Ok : List Item := bodyOf Tryz.f56
def C_host_Host_Pick : Cuts := { globs := 0, loops := [], regs := [(11, [2])], plans := [(2, ⟨[0, 1, 2, 3, 4, 5, 6, 7, 12, 8, 9, 10, 11, 13, 14], [0, 1, 3, 7, 0, 16, 48, 112, 255, 511, 1023, 1023, 0, 6143, 16383], [], []⟩)] }
noncomputable def T_host_Host_Pick : List Item := bodyOf Tryz.f57
noncomputable def T_host_Host_Pick_R1 : List Item := stk [0, 1, 0, 1, 0, 1, 0, 4, 0, 1, 3, 0, 1, 3, 0, 1, 2, 0, 1, 0] T_host_Host_Pick
def C_commons_Commons_Proc : Cuts := { globs := 0, loops := [], regs := [], plans := [] }
noncomputable def T_commons_Commons_Proc : List Item := bodyOf Tryz.f60
def C_commons_Commons_Term : Cuts := { globs := 0, loops := [], regs := [], plans := [] }
noncomputable def T_commons_Commons_Term : List Item := bodyOf Tryz.f62
def C_kern_Kern_number : Cuts := { globs := 0, loops := [], regs := [], plans := [(3, ⟨[0, 1, 2, 3, 4, 5, 6, 7, 8, 9, 10, 11, 12, 13, 14, 15, 16, 17, 18, 19], [0, 1, 3, 7, 0, 0, 32, 0, 128, 0, 512, 0, 2048, 0, 8192, 32767, 65535, 65535, 262143, 524287], [], []⟩), (5, ⟨[0, 1, 2, 3, 4, 5, 6, 7, 8, 9, 10, 11], [0, 1, 3, 7, 0, 0, 32, 127, 255, 255, 1023, 2047], [], []⟩), (7, ⟨[0, 1, 2, 3, 4, 5, 6, 7, 8, 9, 10, 11, 12, 13, 14, 15], [0, 1, 3, 7, 0, 16, 48, 112, 0, 496, 1008, 2047, 4095, 4095, 16383, 32767], [], []⟩), (9, ⟨[0, 1, 2, 3, 4, 5, 6, 7, 8, 9, 10, 11, 12, 13, 14, 15], [0, 1, 3, 7, 0, 16, 48, 112, 0, 496, 1008, 0, 2048, 8191, 16383, 32767], [], []⟩)] }
noncomputable def T_kern_Kern_number : List Item := bodyOf Tryz.f65
def C_table_New_api_Cap : Cuts := { globs := 0, loops := [(3, [3, 15, 16])], regs := [], plans := [] }
noncomputable def T_table_New_api_Cap : List Item := bodyOf Tryz.f69
noncomputable def T_table_New_api_Cap_L1 : List Item := stk [0, 1, 0, 1, 0, 0, 1, 4, 5] T_table_New_api_Cap
def C_slices_Index_s_int_int : Cuts := { globs := 0, loops := [(2, [0, 1, 7, 8])], regs := [], plans := [] }
noncomputable def T_slices_Index_s_int_int : List Item := bodyOf Tryz.f71
noncomputable def T_slices_Index_s_int_int_L1 : List Item := stk [0, 1, 0, 0, 1, 4, 5] T_slices_Index_s_int_int
def C_caps_Space_Put_1 : Cuts := { globs := 0, loops := [], regs := [], plans := [] }
noncomputable def T_caps_Space_Put_1 : List Item := bodyOf Tryz.f72
def C_caps_Space_is : Cuts := { globs := 0, loops := [], regs := [], plans := [] }
noncomputable def T_caps_Space_is : List Item := bodyOf Tryz.f73
def C_caps_Space_Names : Cuts := { globs := 0, loops := [], regs := [], plans := [] }
noncomputable def T_caps_Space_Names : List Item := bodyOf Tryz.f76
def C_commons_Commons_write : Cuts := { globs := 0, loops := [], regs := [], plans := [(2, ⟨[0, 1, 2, 3, 4, 5, 6, 7, 8, 9, 10, 11, 12, 13, 14], [0, 1, 3, 7, 15, 31, 63, 127, 255, 511, 1023, 127, 4095, 8191, 16383], [], []⟩), (4, ⟨[0, 1, 2, 3, 4, 5, 6, 7, 8, 9, 10, 11, 12, 13, 14, 15, 16, 17], [0, 1, 3, 7, 0, 16, 48, 112, 0, 256, 0, 1024, 0, 7936, 16383, 32767, 65535, 131071], [], []⟩)] }
noncomputable def T_commons_Commons_write : List Item := bodyOf Tryz.f78
def C_ofile_Encode : Cuts := { globs := 0, loops := [], regs := [], plans := [(1, ⟨[1, 0, 2, 3, 4, 5, 6], [0, 0, 3, 7, 7, 31, 63], [(0, [1])], []⟩)] }
noncomputable def T_ofile_Encode : List Item := bodyOf Tryz.f80
def C_mem_Mem_Load : Cuts := { globs := 0, loops := [], regs := [], plans := [] }
noncomputable def T_mem_Mem_Load : List Item := bodyOf Tryz.f85
def C_codec_Blank_1 : Cuts := { globs := 0, loops := [], regs := [], plans := [] }
noncomputable def T_codec_Blank_1 : List Item := bodyOf Tryz.f87
def C_ring_put : Cuts := { globs := 0, loops := [], regs := [], plans := [(5, ⟨[0, 1, 2, 3, 4], [0, 1, 0, 4, 15], [], []⟩)] }
noncomputable def T_ring_put : List Item := bodyOf Tryz.f89
def C_commons_Commons_File : Cuts := { globs := 0, loops := [], regs := [], plans := [] }
noncomputable def T_commons_Commons_File : List Item := bodyOf Tryz.f99
def C_commons_Commons_Pipe : Cuts := { globs := 0, loops := [], regs := [], plans := [] }
noncomputable def T_commons_Commons_Pipe : List Item := bodyOf Tryz.f101
def C_commons_Commons_Front : Cuts := { globs := 0, loops := [], regs := [], plans := [] }
noncomputable def T_commons_Commons_Front : List Item := bodyOf Tryz.f102
def C_pslot_Decode : Cuts := { globs := 0, loops := [], regs := [], plans := [] }
noncomputable def T_pslot_Decode : List Item := bodyOf Tryz.f104
def C_commons_record_api_Pipe : Cuts := { globs := 0, loops := [], regs := [(8, [6, 8, 11, 12])], plans := [(7, ⟨[0, 1, 2, 3, 4, 5, 6, 7, 8, 9], [0, 1, 3, 7, 0, 31, 63, 31, 159, 511], [(7, [5])], []⟩)] }
noncomputable def T_commons_record_api_Pipe : List Item := bodyOf Tryz.f105
noncomputable def T_commons_record_api_Pipe_R1 : List Item := stk [0, 1, 0, 1, 0, 1, 0, 1, 0, 1, 0, 1, 0, 0] T_commons_record_api_Pipe
def C_region_Regions_Write : Cuts := { globs := 0, loops := [], regs := [], plans := [] }
noncomputable def T_region_Regions_Write : List Item := bodyOf Tryz.f107
def C_caps_Space_Grant : Cuts := { globs := 0, loops := [], regs := [], plans := [] }
def C_codec_Sum : Cuts := { globs := 0, loops := [(3, [3, 9, 10, 11])], regs := [], plans := [] }
noncomputable def T_codec_Sum : List Item := bodyOf Tryz.f120
noncomputable def T_codec_Sum_L1 : List Item := stk [0, 1, 0, 1, 0, 0, 1, 4, 5] T_codec_Sum
def C_codec_Codec_api_Proc_Encode : Cuts := { globs := 0, loops := [], regs := [], plans := [(2, ⟨[0, 1, 2, 3, 4, 5, 6, 7, 8, 9, 10, 11, 12, 13, 14], [0, 1, 3, 7, 15, 31, 63, 127, 255, 511, 63, 63, 4095, 8191, 16383], [], []⟩)] }
noncomputable def T_codec_Codec_api_Proc_Encode : List Item := bodyOf Tryz.f124
def C_slices_IndexFunc_s_byte_byte : Cuts := { globs := 0, loops := [(2, [0, 1, 7, 8])], regs := [], plans := [] }
noncomputable def T_slices_IndexFunc_s_byte_byte : List Item := bodyOf Tryz.f126
noncomputable def T_slices_IndexFunc_s_byte_byte_L1 : List Item := stk [0, 1, 0, 0, 1, 4, 5] T_slices_IndexFunc_s_byte_byte
def C_proc_Exit : Cuts := { globs := 0, loops := [], regs := [], plans := [] }
noncomputable def T_proc_Exit : List Item := bodyOf Tryz.f138
def C_ofile_Decode : Cuts := { globs := 0, loops := [], regs := [], plans := [] }
noncomputable def T_ofile_Decode : List Item := bodyOf Tryz.f140
def C_commons_record_int : Cuts := { globs := 0, loops := [], regs := [(8, [8, 11, 12])], plans := [(7, ⟨[0, 1, 2, 3, 4, 5, 6, 7, 8, 9], [0, 1, 3, 7, 0, 31, 63, 31, 159, 511], [(7, [5])], []⟩)] }
noncomputable def T_commons_record_int : List Item := bodyOf Tryz.f141
noncomputable def T_commons_record_int_R1 : List Item := stk [0, 1, 0, 1, 0, 1, 0, 1, 0, 1, 0, 1, 0, 0] T_commons_record_int
def C_kern_Kern_sect : Cuts := { globs := 0, loops := [], regs := [], plans := [(1, ⟨[0, 1, 2, 3, 4, 5, 6, 7, 8, 9, 10, 11, 12, 13, 14, 15, 16, 17, 18, 19, 20, 21, 22, 23, 24, 25, 26, 27, 28], [0, 1, 3, 7, 7, 23, 55, 119, 247, 511, 1023, 2047, 4095, 8191, 16383, 32767, 4095, 131071, 262143, 4095, 528383, 1576959, 3674111, 4095, 16257023, 33034239, 67108863, 134217727, 268435455], [], []⟩)] }
noncomputable def T_kern_Kern_sect : List Item := bodyOf Tryz.f152
def C_sect_Sect_Leave : Cuts := { globs := 0, loops := [], regs := [], plans := [] }
noncomputable def T_sect_Sect_Leave : List Item := bodyOf Tryz.f154
def C_table_Table_api_Cap_name : Cuts := { globs := 0, loops := [], regs := [], plans := [] }
noncomputable def T_table_Table_api_Cap_name : List Item := bodyOf Tryz.f155
def C_codec_New_api_Proc : Cuts := { globs := 0, loops := [], regs := [], plans := [] }
noncomputable def T_codec_New_api_Proc : List Item := bodyOf Tryz.f159
def C_pslot_get : Cuts := { globs := 0, loops := [(3, [0, 2, 4, 31, 32, 33]), (8, [0, 2, 4, 49])], regs := [], plans := [(1, ⟨[0, 1, 2, 3, 4, 5, 6, 7, 8, 9, 10, 11, 12, 13, 14, 15, 16, 17, 18], [0, 1, 3, 7, 0, 16, 48, 112, 0, 256, 768, 1792, 0, 4096, 12288, 28672, 65535, 0, 262143], [], []⟩), (13, ⟨[0, 1, 2, 3, 4, 5, 6, 7, 8], [0, 0, 2, 6, 6, 30, 62, 63, 255], [(5, [0])], []⟩)] }
noncomputable def T_pslot_get : List Item := bodyOf Tryz.f161
noncomputable def T_pslot_get_L1 : List Item := stk [0, 1, 0, 1, 0, 0, 1, 4, 5] T_pslot_get
noncomputable def T_pslot_get_L2 : List Item := stk [0, 1, 0, 1, 0, 1, 0, 0, 1, 4, 5] T_pslot_get
def C_calls_files : Cuts := { globs := 0, loops := [], regs := [], plans := [] }
noncomputable def T_calls_files : List Item := bodyOf Tryz.f163
def C_proc_Wait : Cuts := { globs := 0, loops := [(6, [0, 4, 7, 23, 24, 25])], regs := [], plans := [(9, ⟨[0, 1, 2, 4, 5, 6, 7, 8, 9, 10, 3, 11, 12], [0, 0, 2, 7, 0, 16, 48, 0, 128, 384, 1008, 2047, 4095], [(3, [5, 9])], []⟩)] }
noncomputable def T_proc_Wait : List Item := bodyOf Tryz.f165
noncomputable def T_proc_Wait_L1 : List Item := stk [0, 1, 0, 1, 0, 1, 0, 0, 1, 4, 5] T_proc_Wait
def C_pred_Check : Cuts := { globs := 0, loops := [(4, [0, 8, 9, 10])], regs := [], plans := [] }
def C_pred_machine_do : Cuts := { globs := 0, loops := [], regs := [], plans := [(4, ⟨[0, 1, 2, 3, 4, 5, 6, 7], [0, 1, 0, 4, 12, 28, 60, 127], [], []⟩), (5, ⟨[0, 1, 2, 3, 4, 5, 6, 7, 8, 9, 10, 11, 12], [0, 0, 2, 6, 14, 0, 32, 126, 254, 510, 1023, 2047, 4095], [], []⟩), (9, ⟨[0, 1, 2, 3, 4, 5, 6, 7, 8, 9], [0, 1, 3, 7, 0, 16, 63, 127, 255, 511], [], []⟩), (11, ⟨[0, 1, 2, 3, 4, 5, 6, 7, 8, 9, 10, 11], [0, 0, 2, 6, 14, 0, 32, 126, 254, 511, 1023, 2047], [], []⟩)] }
def C_fds_Of : Cuts := { globs := 0, loops := [], regs := [], plans := [(3, ⟨[0, 1, 2, 3, 4], [0, 0, 0, 5, 15], [], []⟩), (5, ⟨[0, 1, 2, 3], [0, 0, 3, 7], [], []⟩), (9, ⟨[0, 1, 2, 3, 4, 5, 6, 7, 8], [0, 0, 3, 7, 15, 0, 31, 127, 255], [], []⟩)] }
noncomputable def T_fds_Of : List Item := bodyOf Tryz.f173
def C_pred_Any : Cuts := { globs := 0, loops := [], regs := [], plans := [] }
noncomputable def T_pred_Any : List Item := bodyOf Tryz.f174
def C_table_Table_api_Cap_at : Cuts := { globs := 0, loops := [], regs := [], plans := [] }
noncomputable def T_table_Table_api_Cap_at : List Item := bodyOf Tryz.f186
def C_fds_Close : Cuts := { globs := 0, loops := [], regs := [], plans := [] }
def C_fds_Dup : Cuts := { globs := 0, loops := [], regs := [], plans := [] }
def C_proc_slot_lives : Cuts := { globs := 0, loops := [], regs := [], plans := [] }
def C_proc_Has : Cuts := { globs := 0, loops := [], regs := [], plans := [] }
def C_sig_Handle : Cuts := { globs := 0, loops := [], regs := [], plans := [] }
def C_math_bits_TrailingZeros : Cuts := { globs := 0, loops := [], regs := [], plans := [] }
def C_math_bits_Len : Cuts := { globs := 0, loops := [], regs := [], plans := [] }
def C_pslot_Ok_1 : Cuts := { globs := 0, loops := [], regs := [], plans := [] }
noncomputable def T_pslot_Ok_1 : List Item := bodyOf Tryz.f224
def C_fds_told : Cuts := { globs := 0, loops := [], regs := [], plans := [] }
def C_pipes_told : Cuts := { globs := 0, loops := [], regs := [], plans := [] }
def C_proc_Has_1 : Cuts := { globs := 0, loops := [], regs := [], plans := [] }
def C_commons_Commons_FreeFile : Cuts := { globs := 0, loops := [], regs := [], plans := [] }
def C_math_bits_Len32 : Cuts := { globs := 0, loops := [], regs := [(4, [0, 2])], plans := [] }
def C_slices_siftDownCmpFunc_api_Ref : Cuts := { globs := 0, loops := [(1, [0, 2, 3, 4, 10])], regs := [(5, [0, 2, 3, 4, 10, 11])], plans := [(3, ⟨[0, 1, 2, 3, 4, 5, 6, 7, 8, 9, 10, 11, 12, 13, 14, 15, 16, 17, 18, 19, 20, 21], [0, 1, 0, 7, 15, 31, 31, 31, 31, 415, 991, 2015, 31, 31, 31, 24607, 57375, 127007, 258079, 524287, 1048575, 2097151], [], []⟩), (5, ⟨[0, 1, 2, 3, 4, 5, 6, 7, 8, 9, 10, 11, 12, 13, 14, 15], [0, 0, 0, 0, 12, 30, 62, 0, 0, 0, 768, 1920, 3968, 8191, 16383, 32767], [], []⟩), (6, ⟨[0, 1, 2, 3, 4, 5, 6, 7, 8, 9, 10, 11, 12, 13, 14, 15, 16, 17, 18, 19, 20, 21, 22, 23], [0, 0, 0, 6, 0, 0, 0, 96, 0, 0, 0, 1536, 3840, 7936, 0, 0, 0, 98304, 245760, 507904, 1048335, 2096911, 4194303, 8388607], [], []⟩)] }
def C_slices_order2CmpFunc_api_Ref : Cuts := { globs := 0, loops := [], regs := [], plans := [(1, ⟨[0, 1, 2, 3, 4, 5, 6, 7, 8, 9, 10], [0, 0, 0, 6, 14, 0, 0, 96, 224, 511, 1023], [], []⟩)] }
end Go.EQ

set_option maxRecDepth 100000
namespace Go.EQ
open Go Go.NN Go.Proofs
def cutsL : List (Nat × Cuts) := [(3, C_law25_TraceCounts), (4, C_law25_awake), (5, C_trace_Calls), (6, C_ref15_SameOut), (7, C_trace_Counts), (8, C_trace_Fifo), (9, C_trace_Flow), (10, C_ref15_SameSys), (11, C_ref1_SameInts), (12, C_bytes_HasPrefix), (13, C_world_New), (14, C_trace_look), (15, C_world_World_Do), (16, C_bytes_Equal), (17, C_world_Check), (18, C_kern_New), (19, C_world_Boot), (20, C_world_World_begin), (21, C_host_New), (22, C_world_World_Bridge), (23, C_ring_Decode), (24, C_ring_Bytes), (25, C_world_World_Host), (26, C_world_World_pick), (27, C_kern_Kern_Tick), (28, C_host_Host_Start), (29, C_pipes_Type), (30, C_host_Host_Commons), (31, C_kern_Kern_Do), (32, C_kern_check), (33, C_kern_frames), (34, C_slices_Clone_s_int_int), (35, C_mem_New), (36, C_caps_New), (37, C_quota_New), (38, C_region_New), (39, C_sect_New), (40, C_region_Regions_Add), (41, C_quota_Quota_First), (42, C_slices_Contains_s_int_int), (43, C_caps_Space_Put), (44, C_commons_New), (45, C_commons_Commons_SetTerm), (46, C_commons_Commons_SetFront), (47, C_commons_Commons_SetFile), (48, C_commons_Commons_SetPipe), (49, C_commons_Commons_SetProc), (50, C_kern_Kern_Sect), (51, C_kern_Kern_Regions), (52, C_region_Regions_Raw), (53, C_codec_Blank), (54, C_ring_Codec), (55, C_codec_Codec_api_Pipe_Decode), (56, C_ring_Ok), (57, C_host_Host_Pick), (58, C_host_Host_Fresh), (59, C_commons_Commons_Look), (60, C_commons_Commons_Proc), (61, C_slices_Clone_s_byte_byte), (62, C_commons_Commons_Term), (63, C_ring_Put), (64, C_kern_Kern_bytes), (65, C_kern_Kern_number), (66, C_kern_check_1), (67, C_slices_ContainsFunc_s_int_int), (68, C_kern_share), (69, C_table_New_api_Cap), (70, C_mem_Mem_Size), (71, C_slices_Index_s_int_int), (72, C_caps_Space_Put_1), (73, C_caps_Space_is), (74, C_caps_Space_add), (75, C_kern_Kern_Space), (76, C_caps_Space_Names), (77, C_ring_Encode), (78, C_commons_Commons_write), (79, C_commons_FrontBytes), (80, C_ofile_Encode), (81, C_commons_file), (82, C_commons_pipe), (83, C_pslot_Encode), (84, C_commons_proc), (85, C_mem_Mem_Load), (86, C_slices_ContainsFunc_s_byte_byte), (87, C_codec_Blank_1), (88, C_codec_New_api_Pipe), (89, C_ring_put), (90, C_ring_get), (91, C_ring_Ok_1), (92, C_host_Host_bad), (93, C_host_Host_idle), (94, C_host_Host_leave), (95, C_host_Host_want), (96, C_host_Host_in), (97, C_host_Host_blocked), (98, C_host_Host_end), (99, C_commons_Commons_File), (100, C_commons_Commons_most), (101, C_commons_Commons_Pipe), (102, C_commons_Commons_Front), (103, C_commons_record_api_Proc), (104, C_pslot_Decode), (105, C_commons_record_api_Pipe), (106, C_region_Regions_Read), (107, C_region_Regions_Write), (108, C_region_Regions_Copy), (109, C_caps_Space_Grant), (110, C_caps_Space_Revoke), (111, C_quota_Quota_Alloc), (112, C_quota_Quota_Free), (113, C_kern_Kern_enter), (114, C_kern_Kern_leave), (115, C_slices_IndexFunc_s_int_int), (116, C_table_Table_api_Cap_Add), (117, C_table_Table_api_Cap_Names), (118, C_codec_Codec_api_Pipe_Encode), (119, C_commons_Commons_place), (120, C_codec_Sum), (121, C_ofile_Codec), (122, C_codec_Codec_api_File_Encode), (123, C_pslot_Codec), (124, C_codec_Codec_api_Proc_Encode), (125, C_mem_Mem_in), (126, C_slices_IndexFunc_s_byte_byte), (127, C_slices_Equal_s_byte_byte), (128, C_host_Host_back), (129, C_sect_Sect_Quit), (130, C_sect_Sect_Holds), (131, C_calls_Do), (132, C_sig_Wakes), (133, C_pred_Eval), (134, C_commons_Commons_View), (135, C_kern_Kern_Now), (136, C_calls_Wake), (137, C_sig_Deliver), (138, C_proc_Exit), (139, C_commons_record_api_File), (140, C_ofile_Decode), (141, C_commons_record_int), (142, C_commons_FrontOf), (143, C_commons_Commons_read), (144, C_codec_Codec_api_Proc_Decode), (145, C_region_Regions_place), (146, C_mem_Mem_Store), (147, C_caps_Space_Get), (148, C_caps_Space_Under), (149, C_table_Table_api_Cap_Drop), (150, C_quota_Quota_is), (151, C_quota_Quota_Owns), (152, C_kern_Kern_sect), (153, C_sect_Sect_Enter), (154, C_sect_Sect_Leave), (155, C_table_Table_api_Cap_name), (156, C_codec_New_api_File), (157, C_ofile_put), (158, C_ofile_get), (159, C_codec_New_api_Proc), (160, C_pslot_put), (161, C_pslot_get), (162, C_slices_Delete_s_int_int), (163, C_calls_files), (164, C_proc_Fork), (165, C_proc_Wait), (166, C_proc_Kill), (167, C_proc_Group), (168, C_calls_own), (169, C_calls_told), (170, C_sig_Next), (171, C_pred_Check), (172, C_pred_machine_do), (173, C_fds_Of), (174, C_pred_Any), (175, C_pred_Either), (176, C_proc_Self), (177, C_proc_told), (178, C_proc_CloseAll), (179, C_proc_orphan), (180, C_proc_done), (181, C_commons_Commons_FreeProc), (182, C_codec_Codec_api_File_Decode), (183, C_table_Table_api_Cap_Get), (184, C_slices_SortFunc_s_api_Ref_api_Ref), (185, C_caps_Space_Under_1), (186, C_table_Table_api_Cap_at), (187, C_ofile_Ok), (188, C_pslot_Ok), (189, C_codec_Put2), (190, C_codec_Get2), (191, C_fds_Pipe), (192, C_pipes_Read), (193, C_pipes_Write), (194, C_fds_Close), (195, C_fds_Dup), (196, C_fds_Dup2), (197, C_fds_Now), (198, C_pipes_Front), (199, C_proc_free), (200, C_proc_share), (201, C_proc_slots), (202, C_proc_Wait_1), (203, C_proc_slot_lives), (205, C_sig_Raise), (206, C_proc_Group_1), (207, C_proc_child), (208, C_proc_Has), (209, C_sig_Mask), (210, C_sig_Handle), (211, C_math_bits_TrailingZeros), (212, C_pred_ok), (213, C_pred_one), (214, C_fds_named), (215, C_pred_in), (217, C_slices_Clip_s_api_Ins_api_Ins), (218, C_proc_CloseFile), (219, C_proc_orphan_1), (220, C_commons_Commons_blank), (221, C_slices_pdqsortCmpFunc_api_Ref), (222, C_math_bits_Len), (223, C_pslot_bits), (224, C_pslot_Ok_1), (225, C_fds_told), (226, C_fds_fdsOf), (227, C_fds_free), (228, C_fds_Pipe_1), (229, C_fds_Pipe_2), (230, C_fds_done), (231, C_pipes_may), (232, C_pipes_told), (233, C_pipes_of), (234, C_pipes_waits), (235, C_ring_Take), (236, C_pipes_broken), (237, C_fds_more), (238, C_fds_name), (239, C_proc_targets_1), (240, C_sig_is), (241, C_proc_Has_1), (245, C_commons_Commons_FreeFile), (246, C_commons_Commons_FreePipe), (247, C_slices_insertionSortCmpFunc_api_Ref), (248, C_slices_heapSortCmpFunc_api_Ref), (249, C_slices_breakPatternsCmpFunc_api_Ref), (250, C_slices_choosePivotCmpFunc_api_Ref), (251, C_slices_reverseRangeCmpFunc_api_Ref), (252, C_slices_partialInsertionSortCmpFunc_api_Ref), (253, C_slices_partitionEqualCmpFunc_api_Ref), (254, C_slices_partitionCmpFunc_api_Ref), (255, C_math_bits_Len32), (256, C_math_bits_Len64), (257, C_fds_fdsOf_1), (258, C_pipes_front), (259, C_pipes_of_1), (260, C_slices_Clip_s_byte_byte), (261, C_slices_siftDownCmpFunc_api_Ref), (262, C_slices_nextPowerOfTwo), (263, C_slices_xorshift_Next), (264, C_slices_medianAdjacentCmpFunc_api_Ref), (265, C_slices_medianCmpFunc_api_Ref), (266, C_slices_order2CmpFunc_api_Ref)]
def cutsOf : FuncId → Cuts := cutsAt cutsL
noncomputable abbrev CALL : CallFn := NN.Call PR cutsOf
noncomputable abbrev JUMP : RunFn := NN.Jump PR cutsOf
theorem k_law25_TraceCounts : FnOk PR cutsOf F_law25_TraceCounts Tryz.f3 C_law25_TraceCounts T_law25_TraceCounts 6 := ⟨Tryz.func3, ⟨_, rfl⟩, by kernel_rfl, rfl, rfl, by kernel_rfl⟩
theorem k_law25_awake : FnOk PR cutsOf F_law25_awake Tryz.f4 C_law25_awake T_law25_awake 0 := ⟨Tryz.func4, ⟨_, rfl⟩, by kernel_rfl, rfl, rfl, by kernel_rfl⟩
theorem k_trace_Calls : FnOk PR cutsOf F_trace_Calls Tryz.f5 C_trace_Calls T_trace_Calls 3 := ⟨Tryz.func5, ⟨_, rfl⟩, by kernel_rfl, rfl, rfl, by kernel_rfl⟩
theorem k_ref15_SameOut : FnOk PR cutsOf F_ref15_SameOut Tryz.f6 C_ref15_SameOut T_ref15_SameOut 2 := ⟨Tryz.func6, ⟨_, rfl⟩, by kernel_rfl, rfl, rfl, by kernel_rfl⟩
theorem k_trace_Counts : FnOk PR cutsOf F_trace_Counts Tryz.f7 C_trace_Counts T_trace_Counts 1 := ⟨Tryz.func7, ⟨_, rfl⟩, by kernel_rfl, rfl, rfl, by kernel_rfl⟩
theorem k_trace_Fifo : FnOk PR cutsOf F_trace_Fifo Tryz.f8 C_trace_Fifo T_trace_Fifo 2 := ⟨Tryz.func8, ⟨_, rfl⟩, by kernel_rfl, rfl, rfl, by kernel_rfl⟩
theorem k_trace_Flow : FnOk PR cutsOf F_trace_Flow Tryz.f9 C_trace_Flow T_trace_Flow 3 := ⟨Tryz.func9, ⟨_, rfl⟩, by kernel_rfl, rfl, rfl, by kernel_rfl⟩
theorem k_ref15_SameSys : FnOk PR cutsOf F_ref15_SameSys Tryz.f10 C_ref15_SameSys T_ref15_SameSys 2 := ⟨Tryz.func10, ⟨_, rfl⟩, by kernel_rfl, rfl, rfl, by kernel_rfl⟩
theorem k_ref1_SameInts : FnOk PR cutsOf F_ref1_SameInts Tryz.f11 C_ref1_SameInts T_ref1_SameInts 2 := ⟨Tryz.func11, ⟨_, rfl⟩, by kernel_rfl, rfl, rfl, by kernel_rfl⟩
theorem k_bytes_HasPrefix : FnOk PR cutsOf F_bytes_HasPrefix Tryz.f12 C_bytes_HasPrefix T_bytes_HasPrefix 2 := ⟨Tryz.func12, ⟨_, rfl⟩, by kernel_rfl, rfl, rfl, by kernel_rfl⟩
theorem k_world_New : FnOk PR cutsOf F_world_New Tryz.f13 C_world_New T_world_New 1 := ⟨Tryz.func13, ⟨_, rfl⟩, by kernel_rfl, rfl, rfl, by kernel_rfl⟩
theorem k_trace_look : FnOk PR cutsOf F_trace_look Tryz.f14 C_trace_look T_trace_look 2 := ⟨Tryz.func14, ⟨_, rfl⟩, by kernel_rfl, rfl, rfl, by kernel_rfl⟩
theorem k_world_World_Do : FnOk PR cutsOf F_world_World_Do Tryz.f15 C_world_World_Do T_world_World_Do 2 := ⟨Tryz.func15, ⟨_, rfl⟩, by kernel_rfl, rfl, rfl, by kernel_rfl⟩
theorem k_bytes_Equal : FnOk PR cutsOf F_bytes_Equal Tryz.f16 C_bytes_Equal T_bytes_Equal 2 := ⟨Tryz.func16, ⟨_, rfl⟩, by kernel_rfl, rfl, rfl, by kernel_rfl⟩
theorem k_world_Check : FnOk PR cutsOf F_world_Check Tryz.f17 C_world_Check T_world_Check 1 := ⟨Tryz.func17, ⟨_, rfl⟩, by kernel_rfl, rfl, rfl, by kernel_rfl⟩
theorem k_kern_New : FnOk PR cutsOf F_kern_New Tryz.f18 C_kern_New T_kern_New 1 := ⟨Tryz.func18, ⟨_, rfl⟩, by kernel_rfl, rfl, rfl, by kernel_rfl⟩
theorem k_world_Boot : FnOk PR cutsOf F_world_Boot Tryz.f19 C_world_Boot T_world_Boot 1 := ⟨Tryz.func19, ⟨_, rfl⟩, by kernel_rfl, rfl, rfl, by kernel_rfl⟩
theorem k_world_World_begin : FnOk PR cutsOf F_world_World_begin Tryz.f20 C_world_World_begin T_world_World_begin 2 := ⟨Tryz.func20, ⟨_, rfl⟩, by kernel_rfl, rfl, rfl, by kernel_rfl⟩
theorem k_host_New : FnOk PR cutsOf F_host_New Tryz.f21 C_host_New T_host_New 4 := ⟨Tryz.func21, ⟨_, rfl⟩, by kernel_rfl, rfl, rfl, by kernel_rfl⟩
theorem k_world_World_Bridge : FnOk PR cutsOf F_world_World_Bridge Tryz.f22 C_world_World_Bridge T_world_World_Bridge 2 := ⟨Tryz.func22, ⟨_, rfl⟩, by kernel_rfl, rfl, rfl, by kernel_rfl⟩
theorem k_ring_Decode : FnOk PR cutsOf F_ring_Decode Tryz.f23 C_ring_Decode T_ring_Decode 1 := ⟨Tryz.func23, ⟨_, rfl⟩, by kernel_rfl, rfl, rfl, by kernel_rfl⟩
theorem k_ring_Bytes : FnOk PR cutsOf F_ring_Bytes Tryz.f24 C_ring_Bytes T_ring_Bytes 1 := ⟨Tryz.func24, ⟨_, rfl⟩, by kernel_rfl, rfl, rfl, by kernel_rfl⟩
theorem k_world_World_Host : FnOk PR cutsOf F_world_World_Host Tryz.f25 C_world_World_Host T_world_World_Host 3 := ⟨Tryz.func25, ⟨_, rfl⟩, by kernel_rfl, rfl, rfl, by kernel_rfl⟩
theorem k_world_World_pick : FnOk PR cutsOf F_world_World_pick Tryz.f26 C_world_World_pick T_world_World_pick 2 := ⟨Tryz.func26, ⟨_, rfl⟩, by kernel_rfl, rfl, rfl, by kernel_rfl⟩
theorem k_host_Host_Start : FnOk PR cutsOf F_host_Host_Start Tryz.f28 C_host_Host_Start T_host_Host_Start 2 := ⟨Tryz.func28, ⟨_, rfl⟩, by kernel_rfl, rfl, rfl, by kernel_rfl⟩
theorem k_pipes_Type : FnOk PR cutsOf F_pipes_Type Tryz.f29 C_pipes_Type T_pipes_Type 2 := ⟨Tryz.func29, ⟨_, rfl⟩, by kernel_rfl, rfl, rfl, by kernel_rfl⟩
theorem k_host_Host_Commons : FnOk PR cutsOf F_host_Host_Commons Tryz.f30 C_host_Host_Commons T_host_Host_Commons 1 := ⟨Tryz.func30, ⟨_, rfl⟩, by kernel_rfl, rfl, rfl, by kernel_rfl⟩
theorem k_kern_Kern_Do : FnOk PR cutsOf F_kern_Kern_Do Tryz.f31 C_kern_Kern_Do T_kern_Kern_Do 3 := ⟨Tryz.func31, ⟨_, rfl⟩, by kernel_rfl, rfl, rfl, by kernel_rfl⟩
theorem k_kern_check : FnOk PR cutsOf F_kern_check Tryz.f32 C_kern_check T_kern_check 1 := ⟨Tryz.func32, ⟨_, rfl⟩, by kernel_rfl, rfl, rfl, by kernel_rfl⟩
theorem k_kern_frames : FnOk PR cutsOf F_kern_frames Tryz.f33 C_kern_frames T_kern_frames 1 := ⟨Tryz.func33, ⟨_, rfl⟩, by kernel_rfl, rfl, rfl, by kernel_rfl⟩
theorem k_slices_Clone_s_int_int : FnOk PR cutsOf F_slices_Clone_s_int_int Tryz.f34 C_slices_Clone_s_int_int T_slices_Clone_s_int_int 1 := ⟨Tryz.func34, ⟨_, rfl⟩, by kernel_rfl, rfl, rfl, by kernel_rfl⟩
theorem k_mem_New : FnOk PR cutsOf F_mem_New Tryz.f35 C_mem_New T_mem_New 1 := ⟨Tryz.func35, ⟨_, rfl⟩, by kernel_rfl, rfl, rfl, by kernel_rfl⟩
theorem k_caps_New : FnOk PR cutsOf F_caps_New Tryz.f36 C_caps_New T_caps_New 1 := ⟨Tryz.func36, ⟨_, rfl⟩, by kernel_rfl, rfl, rfl, by kernel_rfl⟩
theorem k_quota_New : FnOk PR cutsOf F_quota_New Tryz.f37 C_quota_New T_quota_New 1 := ⟨Tryz.func37, ⟨_, rfl⟩, by kernel_rfl, rfl, rfl, by kernel_rfl⟩
theorem k_region_New : FnOk PR cutsOf F_region_New Tryz.f38 C_region_New T_region_New 2 := ⟨Tryz.func38, ⟨_, rfl⟩, by kernel_rfl, rfl, rfl, by kernel_rfl⟩
theorem k_sect_New : FnOk PR cutsOf F_sect_New Tryz.f39 C_sect_New T_sect_New 1 := ⟨Tryz.func39, ⟨_, rfl⟩, by kernel_rfl, rfl, rfl, by kernel_rfl⟩
theorem k_region_Regions_Add : FnOk PR cutsOf F_region_Regions_Add Tryz.f40 C_region_Regions_Add T_region_Regions_Add 3 := ⟨Tryz.func40, ⟨_, rfl⟩, by kernel_rfl, rfl, rfl, by kernel_rfl⟩
theorem k_quota_Quota_First : FnOk PR cutsOf F_quota_Quota_First Tryz.f41 C_quota_Quota_First T_quota_Quota_First 2 := ⟨Tryz.func41, ⟨_, rfl⟩, by kernel_rfl, rfl, rfl, by kernel_rfl⟩
theorem k_slices_Contains_s_int_int : FnOk PR cutsOf F_slices_Contains_s_int_int Tryz.f42 C_slices_Contains_s_int_int T_slices_Contains_s_int_int 2 := ⟨Tryz.func42, ⟨_, rfl⟩, by kernel_rfl, rfl, rfl, by kernel_rfl⟩
theorem k_caps_Space_Put : FnOk PR cutsOf F_caps_Space_Put Tryz.f43 C_caps_Space_Put T_caps_Space_Put 3 := ⟨Tryz.func43, ⟨_, rfl⟩, by kernel_rfl, rfl, rfl, by kernel_rfl⟩
theorem k_commons_New : FnOk PR cutsOf F_commons_New Tryz.f44 C_commons_New T_commons_New 2 := ⟨Tryz.func44, ⟨_, rfl⟩, by kernel_rfl, rfl, rfl, by kernel_rfl⟩
theorem k_commons_Commons_SetTerm : FnOk PR cutsOf F_commons_Commons_SetTerm Tryz.f45 C_commons_Commons_SetTerm T_commons_Commons_SetTerm 2 := ⟨Tryz.func45, ⟨_, rfl⟩, by kernel_rfl, rfl, rfl, by kernel_rfl⟩
theorem k_commons_Commons_SetFront : FnOk PR cutsOf F_commons_Commons_SetFront Tryz.f46 C_commons_Commons_SetFront T_commons_Commons_SetFront 2 := ⟨Tryz.func46, ⟨_, rfl⟩, by kernel_rfl, rfl, rfl, by kernel_rfl⟩
theorem k_commons_Commons_SetFile : FnOk PR cutsOf F_commons_Commons_SetFile Tryz.f47 C_commons_Commons_SetFile T_commons_Commons_SetFile 3 := ⟨Tryz.func47, ⟨_, rfl⟩, by kernel_rfl, rfl, rfl, by kernel_rfl⟩
theorem k_commons_Commons_SetPipe : FnOk PR cutsOf F_commons_Commons_SetPipe Tryz.f48 C_commons_Commons_SetPipe T_commons_Commons_SetPipe 3 := ⟨Tryz.func48, ⟨_, rfl⟩, by kernel_rfl, rfl, rfl, by kernel_rfl⟩
theorem k_commons_Commons_SetProc : FnOk PR cutsOf F_commons_Commons_SetProc Tryz.f49 C_commons_Commons_SetProc T_commons_Commons_SetProc 3 := ⟨Tryz.func49, ⟨_, rfl⟩, by kernel_rfl, rfl, rfl, by kernel_rfl⟩
theorem k_kern_Kern_Sect : FnOk PR cutsOf F_kern_Kern_Sect Tryz.f50 C_kern_Kern_Sect T_kern_Kern_Sect 2 := ⟨Tryz.func50, ⟨_, rfl⟩, by kernel_rfl, rfl, rfl, by kernel_rfl⟩
theorem k_kern_Kern_Regions : FnOk PR cutsOf F_kern_Kern_Regions Tryz.f51 C_kern_Kern_Regions T_kern_Kern_Regions 1 := ⟨Tryz.func51, ⟨_, rfl⟩, by kernel_rfl, rfl, rfl, by kernel_rfl⟩
theorem k_region_Regions_Raw : FnOk PR cutsOf F_region_Regions_Raw Tryz.f52 C_region_Regions_Raw T_region_Regions_Raw 2 := ⟨Tryz.func52, ⟨_, rfl⟩, by kernel_rfl, rfl, rfl, by kernel_rfl⟩
theorem k_codec_Blank : FnOk PR cutsOf F_codec_Blank Tryz.f53 C_codec_Blank T_codec_Blank 1 := ⟨Tryz.func53, ⟨_, rfl⟩, by kernel_rfl, rfl, rfl, by kernel_rfl⟩
theorem k_ring_Codec : FnOk PR cutsOf F_ring_Codec Tryz.f54 C_ring_Codec T_ring_Codec 0 := ⟨Tryz.func54, ⟨_, rfl⟩, by kernel_rfl, rfl, rfl, by kernel_rfl⟩
theorem k_codec_Codec_api_Pipe_Decode : FnOk PR cutsOf F_codec_Codec_api_Pipe_Decode Tryz.f55 C_codec_Codec_api_Pipe_Decode T_codec_Codec_api_Pipe_Decode 2 := ⟨Tryz.func55, ⟨_, rfl⟩, by kernel_rfl, rfl, rfl, by kernel_rfl⟩
theorem k_ring_Ok : FnOk PR cutsOf F_ring_Ok Tryz.f56 C_ring_Ok T_ring_Ok 1 := ⟨Tryz.func56, ⟨_, rfl⟩, by kernel_rfl, rfl, rfl, by kernel_rfl⟩
theorem k_host_Host_Pick : FnOk PR cutsOf F_host_Host_Pick Tryz.f57 C_host_Host_Pick T_host_Host_Pick 1 := ⟨Tryz.func57, ⟨_, rfl⟩, by kernel_rfl, rfl, rfl, by kernel_rfl⟩
theorem k_host_Host_Fresh : FnOk PR cutsOf F_host_Host_Fresh Tryz.f58 C_host_Host_Fresh T_host_Host_Fresh 1 := ⟨Tryz.func58, ⟨_, rfl⟩, by kernel_rfl, rfl, rfl, by kernel_rfl⟩
theorem k_commons_Commons_Look : FnOk PR cutsOf F_commons_Commons_Look Tryz.f59 C_commons_Commons_Look T_commons_Commons_Look 1 := ⟨Tryz.func59, ⟨_, rfl⟩, by kernel_rfl, rfl, rfl, by kernel_rfl⟩
theorem k_commons_Commons_Proc : FnOk PR cutsOf F_commons_Commons_Proc Tryz.f60 C_commons_Commons_Proc T_commons_Commons_Proc 2 := ⟨Tryz.func60, ⟨_, rfl⟩, by kernel_rfl, rfl, rfl, by kernel_rfl⟩
theorem k_slices_Clone_s_byte_byte : FnOk PR cutsOf F_slices_Clone_s_byte_byte Tryz.f61 C_slices_Clone_s_byte_byte T_slices_Clone_s_byte_byte 1 := ⟨Tryz.func61, ⟨_, rfl⟩, by kernel_rfl, rfl, rfl, by kernel_rfl⟩
theorem k_commons_Commons_Term : FnOk PR cutsOf F_commons_Commons_Term Tryz.f62 C_commons_Commons_Term T_commons_Commons_Term 1 := ⟨Tryz.func62, ⟨_, rfl⟩, by kernel_rfl, rfl, rfl, by kernel_rfl⟩
theorem k_ring_Put : FnOk PR cutsOf F_ring_Put Tryz.f63 C_ring_Put T_ring_Put 2 := ⟨Tryz.func63, ⟨_, rfl⟩, by kernel_rfl, rfl, rfl, by kernel_rfl⟩
theorem k_kern_Kern_bytes : FnOk PR cutsOf F_kern_Kern_bytes Tryz.f64 C_kern_Kern_bytes T_kern_Kern_bytes 3 := ⟨Tryz.func64, ⟨_, rfl⟩, by kernel_rfl, rfl, rfl, by kernel_rfl⟩
theorem k_kern_Kern_number : FnOk PR cutsOf F_kern_Kern_number Tryz.f65 C_kern_Kern_number T_kern_Kern_number 3 := ⟨Tryz.func65, ⟨_, rfl⟩, by kernel_rfl, rfl, rfl, by kernel_rfl⟩
theorem k_kern_check_1 : FnOk PR cutsOf F_kern_check_1 Tryz.f66 C_kern_check_1 T_kern_check_1 2 := ⟨Tryz.func66, ⟨_, rfl⟩, by kernel_rfl, rfl, rfl, by kernel_rfl⟩
theorem k_slices_ContainsFunc_s_int_int : FnOk PR cutsOf F_slices_ContainsFunc_s_int_int Tryz.f67 C_slices_ContainsFunc_s_int_int T_slices_ContainsFunc_s_int_int 2 := ⟨Tryz.func67, ⟨_, rfl⟩, by kernel_rfl, rfl, rfl, by kernel_rfl⟩
theorem k_kern_share : FnOk PR cutsOf F_kern_share Tryz.f68 C_kern_share T_kern_share 2 := ⟨Tryz.func68, ⟨_, rfl⟩, by kernel_rfl, rfl, rfl, by kernel_rfl⟩
theorem k_table_New_api_Cap : FnOk PR cutsOf F_table_New_api_Cap Tryz.f69 C_table_New_api_Cap T_table_New_api_Cap 1 := ⟨Tryz.func69, ⟨_, rfl⟩, by kernel_rfl, rfl, rfl, by kernel_rfl⟩
theorem k_mem_Mem_Size : FnOk PR cutsOf F_mem_Mem_Size Tryz.f70 C_mem_Mem_Size T_mem_Mem_Size 1 := ⟨Tryz.func70, ⟨_, rfl⟩, by kernel_rfl, rfl, rfl, by kernel_rfl⟩
theorem k_slices_Index_s_int_int : FnOk PR cutsOf F_slices_Index_s_int_int Tryz.f71 C_slices_Index_s_int_int T_slices_Index_s_int_int 2 := ⟨Tryz.func71, ⟨_, rfl⟩, by kernel_rfl, rfl, rfl, by kernel_rfl⟩
theorem k_caps_Space_Put_1 : FnOk PR cutsOf F_caps_Space_Put_1 Tryz.f72 C_caps_Space_Put_1 T_caps_Space_Put_1 1 := ⟨Tryz.func72, ⟨_, rfl⟩, by kernel_rfl, rfl, rfl, by kernel_rfl⟩
theorem k_caps_Space_is : FnOk PR cutsOf F_caps_Space_is Tryz.f73 C_caps_Space_is T_caps_Space_is 2 := ⟨Tryz.func73, ⟨_, rfl⟩, by kernel_rfl, rfl, rfl, by kernel_rfl⟩
theorem k_caps_Space_add : FnOk PR cutsOf F_caps_Space_add Tryz.f74 C_caps_Space_add T_caps_Space_add 3 := ⟨Tryz.func74, ⟨_, rfl⟩, by kernel_rfl, rfl, rfl, by kernel_rfl⟩
theorem k_kern_Kern_Space : FnOk PR cutsOf F_kern_Kern_Space Tryz.f75 C_kern_Kern_Space T_kern_Kern_Space 1 := ⟨Tryz.func75, ⟨_, rfl⟩, by kernel_rfl, rfl, rfl, by kernel_rfl⟩
theorem k_caps_Space_Names : FnOk PR cutsOf F_caps_Space_Names Tryz.f76 C_caps_Space_Names T_caps_Space_Names 2 := ⟨Tryz.func76, ⟨_, rfl⟩, by kernel_rfl, rfl, rfl, by kernel_rfl⟩
theorem k_ring_Encode : FnOk PR cutsOf F_ring_Encode Tryz.f77 C_ring_Encode T_ring_Encode 1 := ⟨Tryz.func77, ⟨_, rfl⟩, by kernel_rfl, rfl, rfl, by kernel_rfl⟩
theorem k_commons_Commons_write : FnOk PR cutsOf F_commons_Commons_write Tryz.f78 C_commons_Commons_write T_commons_Commons_write 4 := ⟨Tryz.func78, ⟨_, rfl⟩, by kernel_rfl, rfl, rfl, by kernel_rfl⟩
theorem k_commons_FrontBytes : FnOk PR cutsOf F_commons_FrontBytes Tryz.f79 C_commons_FrontBytes T_commons_FrontBytes 1 := ⟨Tryz.func79, ⟨_, rfl⟩, by kernel_rfl, rfl, rfl, by kernel_rfl⟩
theorem k_ofile_Encode : FnOk PR cutsOf F_ofile_Encode Tryz.f80 C_ofile_Encode T_ofile_Encode 1 := ⟨Tryz.func80, ⟨_, rfl⟩, by kernel_rfl, rfl, rfl, by kernel_rfl⟩
theorem k_commons_file : FnOk PR cutsOf F_commons_file Tryz.f81 C_commons_file T_commons_file 1 := ⟨Tryz.func81, ⟨_, rfl⟩, by kernel_rfl, rfl, rfl, by kernel_rfl⟩
theorem k_commons_pipe : FnOk PR cutsOf F_commons_pipe Tryz.f82 C_commons_pipe T_commons_pipe 1 := ⟨Tryz.func82, ⟨_, rfl⟩, by kernel_rfl, rfl, rfl, by kernel_rfl⟩
theorem k_pslot_Encode : FnOk PR cutsOf F_pslot_Encode Tryz.f83 C_pslot_Encode T_pslot_Encode 1 := ⟨Tryz.func83, ⟨_, rfl⟩, by kernel_rfl, rfl, rfl, by kernel_rfl⟩
theorem k_commons_proc : FnOk PR cutsOf F_commons_proc Tryz.f84 C_commons_proc T_commons_proc 1 := ⟨Tryz.func84, ⟨_, rfl⟩, by kernel_rfl, rfl, rfl, by kernel_rfl⟩
theorem k_mem_Mem_Load : FnOk PR cutsOf F_mem_Mem_Load Tryz.f85 C_mem_Mem_Load T_mem_Mem_Load 3 := ⟨Tryz.func85, ⟨_, rfl⟩, by kernel_rfl, rfl, rfl, by kernel_rfl⟩
theorem k_slices_ContainsFunc_s_byte_byte : FnOk PR cutsOf F_slices_ContainsFunc_s_byte_byte Tryz.f86 C_slices_ContainsFunc_s_byte_byte T_slices_ContainsFunc_s_byte_byte 2 := ⟨Tryz.func86, ⟨_, rfl⟩, by kernel_rfl, rfl, rfl, by kernel_rfl⟩
theorem k_codec_Blank_1 : FnOk PR cutsOf F_codec_Blank_1 Tryz.f87 C_codec_Blank_1 T_codec_Blank_1 1 := ⟨Tryz.func87, ⟨_, rfl⟩, by kernel_rfl, rfl, rfl, by kernel_rfl⟩
theorem k_codec_New_api_Pipe : FnOk PR cutsOf F_codec_New_api_Pipe Tryz.f88 C_codec_New_api_Pipe T_codec_New_api_Pipe 3 := ⟨Tryz.func88, ⟨_, rfl⟩, by kernel_rfl, rfl, rfl, by kernel_rfl⟩
theorem k_ring_put : FnOk PR cutsOf F_ring_put Tryz.f89 C_ring_put T_ring_put 2 := ⟨Tryz.func89, ⟨_, rfl⟩, by kernel_rfl, rfl, rfl, by kernel_rfl⟩
theorem k_ring_get : FnOk PR cutsOf F_ring_get Tryz.f90 C_ring_get T_ring_get 1 := ⟨Tryz.func90, ⟨_, rfl⟩, by kernel_rfl, rfl, rfl, by kernel_rfl⟩
theorem k_ring_Ok_1 : FnOk PR cutsOf F_ring_Ok_1 Tryz.f91 C_ring_Ok_1 T_ring_Ok_1 2 := ⟨Tryz.func91, ⟨_, rfl⟩, by kernel_rfl, rfl, rfl, by kernel_rfl⟩
theorem k_host_Host_leave : FnOk PR cutsOf F_host_Host_leave Tryz.f94 C_host_Host_leave T_host_Host_leave 2 := ⟨Tryz.func94, ⟨_, rfl⟩, by kernel_rfl, rfl, rfl, by kernel_rfl⟩
theorem k_host_Host_want : FnOk PR cutsOf F_host_Host_want Tryz.f95 C_host_Host_want T_host_Host_want 1 := ⟨Tryz.func95, ⟨_, rfl⟩, by kernel_rfl, rfl, rfl, by kernel_rfl⟩
theorem k_host_Host_in : FnOk PR cutsOf F_host_Host_in Tryz.f96 C_host_Host_in T_host_Host_in 1 := ⟨Tryz.func96, ⟨_, rfl⟩, by kernel_rfl, rfl, rfl, by kernel_rfl⟩
theorem k_host_Host_end : FnOk PR cutsOf F_host_Host_end Tryz.f98 C_host_Host_end T_host_Host_end 2 := ⟨Tryz.func98, ⟨_, rfl⟩, by kernel_rfl, rfl, rfl, by kernel_rfl⟩
theorem k_commons_Commons_File : FnOk PR cutsOf F_commons_Commons_File Tryz.f99 C_commons_Commons_File T_commons_Commons_File 2 := ⟨Tryz.func99, ⟨_, rfl⟩, by kernel_rfl, rfl, rfl, by kernel_rfl⟩
theorem k_commons_Commons_most : FnOk PR cutsOf F_commons_Commons_most Tryz.f100 C_commons_Commons_most T_commons_Commons_most 2 := ⟨Tryz.func100, ⟨_, rfl⟩, by kernel_rfl, rfl, rfl, by kernel_rfl⟩
theorem k_commons_Commons_Pipe : FnOk PR cutsOf F_commons_Commons_Pipe Tryz.f101 C_commons_Commons_Pipe T_commons_Commons_Pipe 2 := ⟨Tryz.func101, ⟨_, rfl⟩, by kernel_rfl, rfl, rfl, by kernel_rfl⟩
theorem k_commons_Commons_Front : FnOk PR cutsOf F_commons_Commons_Front Tryz.f102 C_commons_Commons_Front T_commons_Commons_Front 1 := ⟨Tryz.func102, ⟨_, rfl⟩, by kernel_rfl, rfl, rfl, by kernel_rfl⟩
theorem k_commons_record_api_Proc : FnOk PR cutsOf F_commons_record_api_Proc Tryz.f103 C_commons_record_api_Proc T_commons_record_api_Proc 3 := ⟨Tryz.func103, ⟨_, rfl⟩, by kernel_rfl, rfl, rfl, by kernel_rfl⟩
theorem k_pslot_Decode : FnOk PR cutsOf F_pslot_Decode Tryz.f104 C_pslot_Decode T_pslot_Decode 1 := ⟨Tryz.func104, ⟨_, rfl⟩, by kernel_rfl, rfl, rfl, by kernel_rfl⟩
theorem k_commons_record_api_Pipe : FnOk PR cutsOf F_commons_record_api_Pipe Tryz.f105 C_commons_record_api_Pipe T_commons_record_api_Pipe 3 := ⟨Tryz.func105, ⟨_, rfl⟩, by kernel_rfl, rfl, rfl, by kernel_rfl⟩
theorem k_region_Regions_Read : FnOk PR cutsOf F_region_Regions_Read Tryz.f106 C_region_Regions_Read T_region_Regions_Read 5 := ⟨Tryz.func106, ⟨_, rfl⟩, by kernel_rfl, rfl, rfl, by kernel_rfl⟩
theorem k_region_Regions_Write : FnOk PR cutsOf F_region_Regions_Write Tryz.f107 C_region_Regions_Write T_region_Regions_Write 5 := ⟨Tryz.func107, ⟨_, rfl⟩, by kernel_rfl, rfl, rfl, by kernel_rfl⟩
theorem k_caps_Space_Revoke : FnOk PR cutsOf F_caps_Space_Revoke Tryz.f110 C_caps_Space_Revoke T_caps_Space_Revoke 3 := ⟨Tryz.func110, ⟨_, rfl⟩, by kernel_rfl, rfl, rfl, by kernel_rfl⟩
theorem k_kern_Kern_enter : FnOk PR cutsOf F_kern_Kern_enter Tryz.f113 C_kern_Kern_enter T_kern_Kern_enter 3 := ⟨Tryz.func113, ⟨_, rfl⟩, by kernel_rfl, rfl, rfl, by kernel_rfl⟩
theorem k_kern_Kern_leave : FnOk PR cutsOf F_kern_Kern_leave Tryz.f114 C_kern_Kern_leave T_kern_Kern_leave 3 := ⟨Tryz.func114, ⟨_, rfl⟩, by kernel_rfl, rfl, rfl, by kernel_rfl⟩
theorem k_slices_IndexFunc_s_int_int : FnOk PR cutsOf F_slices_IndexFunc_s_int_int Tryz.f115 C_slices_IndexFunc_s_int_int T_slices_IndexFunc_s_int_int 2 := ⟨Tryz.func115, ⟨_, rfl⟩, by kernel_rfl, rfl, rfl, by kernel_rfl⟩
theorem k_table_Table_api_Cap_Add : FnOk PR cutsOf F_table_Table_api_Cap_Add Tryz.f116 C_table_Table_api_Cap_Add T_table_Table_api_Cap_Add 2 := ⟨Tryz.func116, ⟨_, rfl⟩, by kernel_rfl, rfl, rfl, by kernel_rfl⟩
theorem k_table_Table_api_Cap_Names : FnOk PR cutsOf F_table_Table_api_Cap_Names Tryz.f117 C_table_Table_api_Cap_Names T_table_Table_api_Cap_Names 1 := ⟨Tryz.func117, ⟨_, rfl⟩, by kernel_rfl, rfl, rfl, by kernel_rfl⟩
theorem k_codec_Codec_api_Pipe_Encode : FnOk PR cutsOf F_codec_Codec_api_Pipe_Encode Tryz.f118 C_codec_Codec_api_Pipe_Encode T_codec_Codec_api_Pipe_Encode 2 := ⟨Tryz.func118, ⟨_, rfl⟩, by kernel_rfl, rfl, rfl, by kernel_rfl⟩
theorem k_commons_Commons_place : FnOk PR cutsOf F_commons_Commons_place Tryz.f119 C_commons_Commons_place T_commons_Commons_place 2 := ⟨Tryz.func119, ⟨_, rfl⟩, by kernel_rfl, rfl, rfl, by kernel_rfl⟩
theorem k_codec_Sum : FnOk PR cutsOf F_codec_Sum Tryz.f120 C_codec_Sum T_codec_Sum 1 := ⟨Tryz.func120, ⟨_, rfl⟩, by kernel_rfl, rfl, rfl, by kernel_rfl⟩
theorem k_ofile_Codec : FnOk PR cutsOf F_ofile_Codec Tryz.f121 C_ofile_Codec T_ofile_Codec 0 := ⟨Tryz.func121, ⟨_, rfl⟩, by kernel_rfl, rfl, rfl, by kernel_rfl⟩
theorem k_codec_Codec_api_File_Encode : FnOk PR cutsOf F_codec_Codec_api_File_Encode Tryz.f122 C_codec_Codec_api_File_Encode T_codec_Codec_api_File_Encode 2 := ⟨Tryz.func122, ⟨_, rfl⟩, by kernel_rfl, rfl, rfl, by kernel_rfl⟩
theorem k_pslot_Codec : FnOk PR cutsOf F_pslot_Codec Tryz.f123 C_pslot_Codec T_pslot_Codec 0 := ⟨Tryz.func123, ⟨_, rfl⟩, by kernel_rfl, rfl, rfl, by kernel_rfl⟩
theorem k_codec_Codec_api_Proc_Encode : FnOk PR cutsOf F_codec_Codec_api_Proc_Encode Tryz.f124 C_codec_Codec_api_Proc_Encode T_codec_Codec_api_Proc_Encode 2 := ⟨Tryz.func124, ⟨_, rfl⟩, by kernel_rfl, rfl, rfl, by kernel_rfl⟩
theorem k_mem_Mem_in : FnOk PR cutsOf F_mem_Mem_in Tryz.f125 C_mem_Mem_in T_mem_Mem_in 3 := ⟨Tryz.func125, ⟨_, rfl⟩, by kernel_rfl, rfl, rfl, by kernel_rfl⟩
theorem k_slices_IndexFunc_s_byte_byte : FnOk PR cutsOf F_slices_IndexFunc_s_byte_byte Tryz.f126 C_slices_IndexFunc_s_byte_byte T_slices_IndexFunc_s_byte_byte 2 := ⟨Tryz.func126, ⟨_, rfl⟩, by kernel_rfl, rfl, rfl, by kernel_rfl⟩
theorem k_slices_Equal_s_byte_byte : FnOk PR cutsOf F_slices_Equal_s_byte_byte Tryz.f127 C_slices_Equal_s_byte_byte T_slices_Equal_s_byte_byte 2 := ⟨Tryz.func127, ⟨_, rfl⟩, by kernel_rfl, rfl, rfl, by kernel_rfl⟩
theorem k_host_Host_back : FnOk PR cutsOf F_host_Host_back Tryz.f128 C_host_Host_back T_host_Host_back 2 := ⟨Tryz.func128, ⟨_, rfl⟩, by kernel_rfl, rfl, rfl, by kernel_rfl⟩
theorem k_sect_Sect_Quit : FnOk PR cutsOf F_sect_Sect_Quit Tryz.f129 C_sect_Sect_Quit T_sect_Sect_Quit 2 := ⟨Tryz.func129, ⟨_, rfl⟩, by kernel_rfl, rfl, rfl, by kernel_rfl⟩
theorem k_sect_Sect_Holds : FnOk PR cutsOf F_sect_Sect_Holds Tryz.f130 C_sect_Sect_Holds T_sect_Sect_Holds 3 := ⟨Tryz.func130, ⟨_, rfl⟩, by kernel_rfl, rfl, rfl, by kernel_rfl⟩
theorem k_calls_Do : FnOk PR cutsOf F_calls_Do Tryz.f131 C_calls_Do T_calls_Do 3 := ⟨Tryz.func131, ⟨_, rfl⟩, by kernel_rfl, rfl, rfl, by kernel_rfl⟩
theorem k_sig_Deliver : FnOk PR cutsOf F_sig_Deliver Tryz.f137 C_sig_Deliver T_sig_Deliver 1 := ⟨Tryz.func137, ⟨_, rfl⟩, by kernel_rfl, rfl, rfl, by kernel_rfl⟩
theorem k_proc_Exit : FnOk PR cutsOf F_proc_Exit Tryz.f138 C_proc_Exit T_proc_Exit 3 := ⟨Tryz.func138, ⟨_, rfl⟩, by kernel_rfl, rfl, rfl, by kernel_rfl⟩
theorem k_commons_record_api_File : FnOk PR cutsOf F_commons_record_api_File Tryz.f139 C_commons_record_api_File T_commons_record_api_File 3 := ⟨Tryz.func139, ⟨_, rfl⟩, by kernel_rfl, rfl, rfl, by kernel_rfl⟩
theorem k_ofile_Decode : FnOk PR cutsOf F_ofile_Decode Tryz.f140 C_ofile_Decode T_ofile_Decode 1 := ⟨Tryz.func140, ⟨_, rfl⟩, by kernel_rfl, rfl, rfl, by kernel_rfl⟩
theorem k_commons_record_int : FnOk PR cutsOf F_commons_record_int Tryz.f141 C_commons_record_int T_commons_record_int 3 := ⟨Tryz.func141, ⟨_, rfl⟩, by kernel_rfl, rfl, rfl, by kernel_rfl⟩
theorem k_commons_FrontOf : FnOk PR cutsOf F_commons_FrontOf Tryz.f142 C_commons_FrontOf T_commons_FrontOf 1 := ⟨Tryz.func142, ⟨_, rfl⟩, by kernel_rfl, rfl, rfl, by kernel_rfl⟩
theorem k_commons_Commons_read : FnOk PR cutsOf F_commons_Commons_read Tryz.f143 C_commons_Commons_read T_commons_Commons_read 2 := ⟨Tryz.func143, ⟨_, rfl⟩, by kernel_rfl, rfl, rfl, by kernel_rfl⟩
theorem k_codec_Codec_api_Proc_Decode : FnOk PR cutsOf F_codec_Codec_api_Proc_Decode Tryz.f144 C_codec_Codec_api_Proc_Decode T_codec_Codec_api_Proc_Decode 2 := ⟨Tryz.func144, ⟨_, rfl⟩, by kernel_rfl, rfl, rfl, by kernel_rfl⟩
theorem k_region_Regions_place : FnOk PR cutsOf F_region_Regions_place Tryz.f145 C_region_Regions_place T_region_Regions_place 6 := ⟨Tryz.func145, ⟨_, rfl⟩, by kernel_rfl, rfl, rfl, by kernel_rfl⟩
theorem k_mem_Mem_Store : FnOk PR cutsOf F_mem_Mem_Store Tryz.f146 C_mem_Mem_Store T_mem_Mem_Store 3 := ⟨Tryz.func146, ⟨_, rfl⟩, by kernel_rfl, rfl, rfl, by kernel_rfl⟩
theorem k_caps_Space_Get : FnOk PR cutsOf F_caps_Space_Get Tryz.f147 C_caps_Space_Get T_caps_Space_Get 3 := ⟨Tryz.func147, ⟨_, rfl⟩, by kernel_rfl, rfl, rfl, by kernel_rfl⟩
theorem k_kern_Kern_sect : FnOk PR cutsOf F_kern_Kern_sect Tryz.f152 C_kern_Kern_sect T_kern_Kern_sect 3 := ⟨Tryz.func152, ⟨_, rfl⟩, by kernel_rfl, rfl, rfl, by kernel_rfl⟩
theorem k_sect_Sect_Enter : FnOk PR cutsOf F_sect_Sect_Enter Tryz.f153 C_sect_Sect_Enter T_sect_Sect_Enter 3 := ⟨Tryz.func153, ⟨_, rfl⟩, by kernel_rfl, rfl, rfl, by kernel_rfl⟩
theorem k_sect_Sect_Leave : FnOk PR cutsOf F_sect_Sect_Leave Tryz.f154 C_sect_Sect_Leave T_sect_Sect_Leave 3 := ⟨Tryz.func154, ⟨_, rfl⟩, by kernel_rfl, rfl, rfl, by kernel_rfl⟩
theorem k_table_Table_api_Cap_name : FnOk PR cutsOf F_table_Table_api_Cap_name Tryz.f155 C_table_Table_api_Cap_name T_table_Table_api_Cap_name 2 := ⟨Tryz.func155, ⟨_, rfl⟩, by kernel_rfl, rfl, rfl, by kernel_rfl⟩
theorem k_codec_New_api_File : FnOk PR cutsOf F_codec_New_api_File Tryz.f156 C_codec_New_api_File T_codec_New_api_File 3 := ⟨Tryz.func156, ⟨_, rfl⟩, by kernel_rfl, rfl, rfl, by kernel_rfl⟩
theorem k_ofile_put : FnOk PR cutsOf F_ofile_put Tryz.f157 C_ofile_put T_ofile_put 2 := ⟨Tryz.func157, ⟨_, rfl⟩, by kernel_rfl, rfl, rfl, by kernel_rfl⟩
theorem k_ofile_get : FnOk PR cutsOf F_ofile_get Tryz.f158 C_ofile_get T_ofile_get 1 := ⟨Tryz.func158, ⟨_, rfl⟩, by kernel_rfl, rfl, rfl, by kernel_rfl⟩
theorem k_codec_New_api_Proc : FnOk PR cutsOf F_codec_New_api_Proc Tryz.f159 C_codec_New_api_Proc T_codec_New_api_Proc 3 := ⟨Tryz.func159, ⟨_, rfl⟩, by kernel_rfl, rfl, rfl, by kernel_rfl⟩
theorem k_pslot_put : FnOk PR cutsOf F_pslot_put Tryz.f160 C_pslot_put T_pslot_put 2 := ⟨Tryz.func160, ⟨_, rfl⟩, by kernel_rfl, rfl, rfl, by kernel_rfl⟩
theorem k_pslot_get : FnOk PR cutsOf F_pslot_get Tryz.f161 C_pslot_get T_pslot_get 1 := ⟨Tryz.func161, ⟨_, rfl⟩, by kernel_rfl, rfl, rfl, by kernel_rfl⟩
theorem k_calls_files : FnOk PR cutsOf F_calls_files Tryz.f163 C_calls_files T_calls_files 3 := ⟨Tryz.func163, ⟨_, rfl⟩, by kernel_rfl, rfl, rfl, by kernel_rfl⟩
theorem k_proc_Wait : FnOk PR cutsOf F_proc_Wait Tryz.f165 C_proc_Wait T_proc_Wait 2 := ⟨Tryz.func165, ⟨_, rfl⟩, by kernel_rfl, rfl, rfl, by kernel_rfl⟩
theorem k_calls_told : FnOk PR cutsOf F_calls_told Tryz.f169 C_calls_told T_calls_told 1 := ⟨Tryz.func169, ⟨_, rfl⟩, by kernel_rfl, rfl, rfl, by kernel_rfl⟩
theorem k_sig_Next : FnOk PR cutsOf F_sig_Next Tryz.f170 C_sig_Next T_sig_Next 1 := ⟨Tryz.func170, ⟨_, rfl⟩, by kernel_rfl, rfl, rfl, by kernel_rfl⟩
theorem k_fds_Of : FnOk PR cutsOf F_fds_Of Tryz.f173 C_fds_Of T_fds_Of 3 := ⟨Tryz.func173, ⟨_, rfl⟩, by kernel_rfl, rfl, rfl, by kernel_rfl⟩
theorem k_pred_Any : FnOk PR cutsOf F_pred_Any Tryz.f174 C_pred_Any T_pred_Any 2 := ⟨Tryz.func174, ⟨_, rfl⟩, by kernel_rfl, rfl, rfl, by kernel_rfl⟩
theorem k_proc_Self : FnOk PR cutsOf F_proc_Self Tryz.f176 C_proc_Self T_proc_Self 2 := ⟨Tryz.func176, ⟨_, rfl⟩, by kernel_rfl, rfl, rfl, by kernel_rfl⟩
theorem k_codec_Codec_api_File_Decode : FnOk PR cutsOf F_codec_Codec_api_File_Decode Tryz.f182 C_codec_Codec_api_File_Decode T_codec_Codec_api_File_Decode 2 := ⟨Tryz.func182, ⟨_, rfl⟩, by kernel_rfl, rfl, rfl, by kernel_rfl⟩
theorem k_table_Table_api_Cap_Get : FnOk PR cutsOf F_table_Table_api_Cap_Get Tryz.f183 C_table_Table_api_Cap_Get T_table_Table_api_Cap_Get 2 := ⟨Tryz.func183, ⟨_, rfl⟩, by kernel_rfl, rfl, rfl, by kernel_rfl⟩
theorem k_table_Table_api_Cap_at : FnOk PR cutsOf F_table_Table_api_Cap_at Tryz.f186 C_table_Table_api_Cap_at T_table_Table_api_Cap_at 2 := ⟨Tryz.func186, ⟨_, rfl⟩, by kernel_rfl, rfl, rfl, by kernel_rfl⟩
theorem k_ofile_Ok : FnOk PR cutsOf F_ofile_Ok Tryz.f187 C_ofile_Ok T_ofile_Ok 1 := ⟨Tryz.func187, ⟨_, rfl⟩, by kernel_rfl, rfl, rfl, by kernel_rfl⟩
theorem k_pslot_Ok : FnOk PR cutsOf F_pslot_Ok Tryz.f188 C_pslot_Ok T_pslot_Ok 1 := ⟨Tryz.func188, ⟨_, rfl⟩, by kernel_rfl, rfl, rfl, by kernel_rfl⟩
theorem k_codec_Put2 : FnOk PR cutsOf F_codec_Put2 Tryz.f189 C_codec_Put2 T_codec_Put2 3 := ⟨Tryz.func189, ⟨_, rfl⟩, by kernel_rfl, rfl, rfl, by kernel_rfl⟩
theorem k_codec_Get2 : FnOk PR cutsOf F_codec_Get2 Tryz.f190 C_codec_Get2 T_codec_Get2 2 := ⟨Tryz.func190, ⟨_, rfl⟩, by kernel_rfl, rfl, rfl, by kernel_rfl⟩
theorem k_pipes_Write : FnOk PR cutsOf F_pipes_Write Tryz.f193 C_pipes_Write T_pipes_Write 4 := ⟨Tryz.func193, ⟨_, rfl⟩, by kernel_rfl, rfl, rfl, by kernel_rfl⟩
theorem k_fds_named : FnOk PR cutsOf F_fds_named Tryz.f214 C_fds_named T_fds_named 2 := ⟨Tryz.func214, ⟨_, rfl⟩, by kernel_rfl, rfl, rfl, by kernel_rfl⟩
theorem k_pslot_bits : FnOk PR cutsOf F_pslot_bits Tryz.f223 C_pslot_bits T_pslot_bits 2 := ⟨Tryz.func223, ⟨_, rfl⟩, by kernel_rfl, rfl, rfl, by kernel_rfl⟩
theorem k_pslot_Ok_1 : FnOk PR cutsOf F_pslot_Ok_1 Tryz.f224 C_pslot_Ok_1 T_pslot_Ok_1 1 := ⟨Tryz.func224, ⟨_, rfl⟩, by kernel_rfl, rfl, rfl, by kernel_rfl⟩
theorem k_pipes_of : FnOk PR cutsOf F_pipes_of Tryz.f233 C_pipes_of T_pipes_of 2 := ⟨Tryz.func233, ⟨_, rfl⟩, by kernel_rfl, rfl, rfl, by kernel_rfl⟩
theorem k_pipes_of_1 : FnOk PR cutsOf F_pipes_of_1 Tryz.f259 C_pipes_of_1 T_pipes_of_1 3 := ⟨Tryz.func259, ⟨_, rfl⟩, by kernel_rfl, rfl, rfl, by kernel_rfl⟩
end Go.EQ

namespace Go.EQ
open Go Go.NN Go.Proofs
theorem u_int : type_of% Tryz.underlying3 := Tryz.underlying3
theorem u_bool : type_of% Tryz.underlying4 := Tryz.underlying4
theorem u_uint8 : type_of% Tryz.underlying5 := Tryz.underlying5
theorem u_s_api_Out : type_of% Tryz.underlying22 := Tryz.underlying22
theorem u_s_uint8 : type_of% Tryz.underlying23 := Tryz.underlying23
theorem u_api_Sys : type_of% Tryz.underlying28 := Tryz.underlying28
theorem u_api_Errno : type_of% Tryz.underlying29 := Tryz.underlying29
theorem u_s_int : type_of% Tryz.underlying30 := Tryz.underlying30
theorem u_api_Out : type_of% Tryz.underlying32 := Tryz.underlying32
end Go.EQ

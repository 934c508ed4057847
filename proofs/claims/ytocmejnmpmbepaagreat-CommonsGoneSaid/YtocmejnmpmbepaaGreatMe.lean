/- CommonsGone returns true whatever it is given: two whole numbers; its own run, by cases of the few bits that it reads of them. No condition. -/
import Derived.Test.YtocmejnmpmbepaaGreatMd
import Derived.Test.YtocmejnmpmbepaaGreatProg
import Derived.KernelRfl
set_option linter.unusedVariables false
set_option linter.unusedSimpArgs false
set_option linter.unusedSectionVars false
namespace Go.EQ
open Go Go.NN Go.Proofs
noncomputable abbrev PR : Program := Tryz.prog
abbrev F_law15_CommonsGone : FuncId := 3
abbrev F_law18_FdsLimits : FuncId := 4
abbrev F_law15_Open : FuncId := 5
abbrev F_law15_Plan : FuncId := 6
abbrev F_kern_Kern_Space : FuncId := 7
abbrev F_caps_Space_Names : FuncId := 8
abbrev F_kern_Kern_Do : FuncId := 9
abbrev F_commons_Commons_Proc : FuncId := 10
abbrev F_commons_Commons_File : FuncId := 11
abbrev F_commons_Commons_Pipe : FuncId := 12
abbrev F_commons_Commons_Term : FuncId := 13
abbrev F_commons_Commons_Front : FuncId := 14
abbrev F_commons_Commons_SetProc : FuncId := 15
abbrev F_law11_Proc : FuncId := 16
abbrev F_commons_Commons_SetFront : FuncId := 17
abbrev F_commons_Commons_FreeFile : FuncId := 18
abbrev F_commons_New : FuncId := 19
abbrev F_commons_Commons_Bad : FuncId := 20
abbrev F_commons_Commons_View : FuncId := 21
abbrev F_law15_awake : FuncId := 22
abbrev F_law17_Fill : FuncId := 23
abbrev F_law17_First : FuncId := 24
abbrev F_kern_Kern_Regions : FuncId := 25
abbrev F_proc_Fork : FuncId := 26
abbrev F_region_Regions_Raw : FuncId := 27
abbrev F_fds_Pipe : FuncId := 28
abbrev F_law18_awake : FuncId := 29
abbrev F_fds_Close : FuncId := 30
abbrev F_ref15_Boot : FuncId := 31
abbrev F_kern_New : FuncId := 32
abbrev F_ref1_NewKern : FuncId := 33
abbrev F_ref15_Blank : FuncId := 34
abbrev F_ref1_Kern_Do : FuncId := 35
abbrev F_ref15_NewCommons : FuncId := 36
abbrev F_caps_Space_is : FuncId := 37
abbrev F_table_Table_api_Cap_Names : FuncId := 38
abbrev F_kern_Kern_bytes : FuncId := 39
abbrev F_kern_Kern_number : FuncId := 40
abbrev F_commons_record_api_Proc : FuncId := 41
abbrev F_commons_proc : FuncId := 42
abbrev F_pslot_Decode : FuncId := 43
abbrev F_commons_record_api_File : FuncId := 44
abbrev F_commons_file : FuncId := 45
abbrev F_ofile_Decode : FuncId := 46
abbrev F_commons_record_api_Pipe : FuncId := 47
abbrev F_commons_pipe : FuncId := 48
abbrev F_ring_Decode : FuncId := 49
abbrev F_commons_record_int : FuncId := 50
abbrev F_commons_FrontOf : FuncId := 51
abbrev F_pslot_Encode : FuncId := 52
abbrev F_commons_Commons_write : FuncId := 53
abbrev F_law11_Proc_1 : FuncId := 54
abbrev F_commons_FrontBytes : FuncId := 55
abbrev F_commons_Commons_blank : FuncId := 56
abbrev F_commons_Commons_most : FuncId := 57
abbrev F_ref11_PipeBytes : FuncId := 58
abbrev F_ref11_ProcBytes : FuncId := 59
abbrev F_ref11_FileBytes : FuncId := 60
abbrev F_proc_Self : FuncId := 61
abbrev F_proc_told : FuncId := 62
abbrev F_proc_free : FuncId := 63
abbrev F_proc_share : FuncId := 64
abbrev F_proc_done : FuncId := 65
abbrev F_mem_Mem_Load : FuncId := 66
abbrev F_fds_told : FuncId := 67
abbrev F_fds_fdsOf : FuncId := 68
abbrev F_fds_free : FuncId := 69
abbrev F_fds_Pipe_1 : FuncId := 70
abbrev F_fds_Pipe_2 : FuncId := 71
abbrev F_commons_Commons_SetPipe : FuncId := 72
abbrev F_commons_Commons_SetFile : FuncId := 73
abbrev F_fds_done : FuncId := 74
abbrev F_fds_Of : FuncId := 75
abbrev F_fds_named : FuncId := 76
abbrev F_proc_CloseFile : FuncId := 77
abbrev F_kern_check : FuncId := 78
abbrev F_kern_frames : FuncId := 79
abbrev F_slices_Clone_s_int_int : FuncId := 80
abbrev F_mem_New : FuncId := 81
abbrev F_caps_New : FuncId := 82
abbrev F_quota_New : FuncId := 83
abbrev F_region_New : FuncId := 84
abbrev F_sect_New : FuncId := 85
abbrev F_region_Regions_Add : FuncId := 86
abbrev F_quota_Quota_First : FuncId := 87
abbrev F_slices_Contains_s_int_int : FuncId := 88
abbrev F_caps_Space_Put : FuncId := 89
abbrev F_ref1_NewQuota : FuncId := 90
abbrev F_ref1_Quota_First : FuncId := 91
abbrev F_ref1_NewSpace : FuncId := 92
abbrev F_ref1_NewSect : FuncId := 93
abbrev F_ref1_Regions_Add : FuncId := 94
abbrev F_ref1_in : FuncId := 95
abbrev F_ref1_Space_Put : FuncId := 96
abbrev F_ref15_FrontBytes : FuncId := 97
abbrev F_ref1_Regions_Read : FuncId := 98
abbrev F_ref1_Regions_Write : FuncId := 99
abbrev F_ref1_Regions_Copy : FuncId := 100
abbrev F_ref1_Space_Grant : FuncId := 101
abbrev F_ref1_Space_Revoke : FuncId := 102
abbrev F_ref1_Quota_Alloc : FuncId := 103
abbrev F_ref1_Quota_Free : FuncId := 104
abbrev F_ref1_Kern_may : FuncId := 105
abbrev F_ref1_Sect_Enter : FuncId := 106
abbrev F_ref1_Sect_Leave : FuncId := 107
abbrev F_ref1_Space_All : FuncId := 108
abbrev F_table_Table_api_Cap_name : FuncId := 109
abbrev F_region_Regions_Read : FuncId := 110
abbrev F_region_Regions_Write : FuncId := 111
abbrev F_region_Regions_Copy : FuncId := 112
abbrev F_caps_Space_Grant : FuncId := 113
abbrev F_caps_Space_Revoke : FuncId := 114
abbrev F_quota_Quota_Alloc : FuncId := 115
abbrev F_quota_Quota_Free : FuncId := 116
abbrev F_kern_Kern_enter : FuncId := 117
abbrev F_kern_Kern_leave : FuncId := 118
abbrev F_commons_Commons_read : FuncId := 119
abbrev F_codec_Blank : FuncId := 120
abbrev F_pslot_Codec : FuncId := 121
abbrev F_codec_Codec_api_Proc_Decode : FuncId := 122
abbrev F_ofile_Codec : FuncId := 123
abbrev F_codec_Codec_api_File_Decode : FuncId := 124
abbrev F_ring_Codec : FuncId := 125
abbrev F_codec_Codec_api_Pipe_Decode : FuncId := 126
abbrev F_codec_Codec_api_Proc_Encode : FuncId := 127
abbrev F_commons_Commons_place : FuncId := 128
abbrev F_codec_Sum : FuncId := 129
abbrev F_ref1_Sum : FuncId := 130
abbrev F_ref1_Two : FuncId := 131
abbrev F_commons_Commons_Look : FuncId := 132
abbrev F_mem_Mem_in : FuncId := 133
abbrev F_slices_Clone_s_byte_byte : FuncId := 134
abbrev F_fds_fdsOf_1 : FuncId := 135
abbrev F_ring_Encode : FuncId := 136
abbrev F_ofile_Encode : FuncId := 137
abbrev F_commons_Commons_FreePipe : FuncId := 138
abbrev F_kern_check_1 : FuncId := 139
abbrev F_slices_ContainsFunc_s_int_int : FuncId := 140
abbrev F_kern_share : FuncId := 141
abbrev F_table_New_api_Cap : FuncId := 142
abbrev F_mem_Mem_Size : FuncId := 143
abbrev F_slices_Index_s_int_int : FuncId := 144
abbrev F_caps_Space_Put_1 : FuncId := 145
abbrev F_caps_Space_add : FuncId := 146
abbrev F_ref1_NewNames : FuncId := 147
abbrev F_ref1_Within : FuncId := 148
abbrev F_ref1_Space_env : FuncId := 149
abbrev F_ref1_Space_add : FuncId := 150
abbrev F_ref1_Regions_place : FuncId := 151
abbrev F_ref1_Space_Get : FuncId := 152
abbrev F_ref1_Space_Under : FuncId := 153
abbrev F_ref1_Names_Drop : FuncId := 154
abbrev F_ref1_Quota_Owns : FuncId := 155
abbrev F_ref1_Sect_at : FuncId := 156
abbrev F_ref1_Sect_drop : FuncId := 157
abbrev F_ref1_Sect_Holds : FuncId := 158
abbrev F_ref1_Names_All : FuncId := 159
abbrev F_region_Regions_place : FuncId := 160
abbrev F_mem_Mem_Store : FuncId := 161
abbrev F_caps_Space_Get : FuncId := 162
abbrev F_caps_Space_Under : FuncId := 163
abbrev F_table_Table_api_Cap_Drop : FuncId := 164
abbrev F_quota_Quota_is : FuncId := 165
abbrev F_quota_Quota_Owns : FuncId := 166
abbrev F_kern_Kern_sect : FuncId := 167
abbrev F_sect_Sect_Enter : FuncId := 168
abbrev F_sect_Sect_Leave : FuncId := 169
abbrev F_slices_ContainsFunc_s_byte_byte : FuncId := 170
abbrev F_codec_Blank_1 : FuncId := 171
abbrev F_codec_New_api_Proc : FuncId := 172
abbrev F_pslot_put : FuncId := 173
abbrev F_pslot_get : FuncId := 174
abbrev F_codec_New_api_File : FuncId := 175
abbrev F_ofile_put : FuncId := 176
abbrev F_ofile_get : FuncId := 177
abbrev F_codec_New_api_Pipe : FuncId := 178
abbrev F_ring_put : FuncId := 179
abbrev F_ring_get : FuncId := 180
abbrev F_codec_Codec_api_Pipe_Encode : FuncId := 181
abbrev F_codec_Codec_api_File_Encode : FuncId := 182
abbrev F_slices_IndexFunc_s_int_int : FuncId := 183
abbrev F_table_Table_api_Cap_Add : FuncId := 184
abbrev F_ref1_Names_Add : FuncId := 185
abbrev F_ref1_Names_Has : FuncId := 186
abbrev F_ref1_has : FuncId := 187
abbrev F_ref1_rising : FuncId := 188
abbrev F_table_Table_api_Cap_Get : FuncId := 189
abbrev F_slices_SortFunc_s_api_Ref_api_Ref : FuncId := 190
abbrev F_caps_Space_Under_1 : FuncId := 191
abbrev F_table_Table_api_Cap_at : FuncId := 192
abbrev F_sect_Sect_Holds : FuncId := 193
abbrev F_slices_IndexFunc_s_byte_byte : FuncId := 194
abbrev F_pslot_Ok : FuncId := 195
abbrev F_codec_Put2 : FuncId := 196
abbrev F_codec_Get2 : FuncId := 197
abbrev F_slices_Equal_s_byte_byte : FuncId := 198
abbrev F_ofile_Ok : FuncId := 199
abbrev F_ring_Ok : FuncId := 200
abbrev F_slices_pdqsortCmpFunc_api_Ref : FuncId := 201
abbrev F_math_bits_Len : FuncId := 202
abbrev F_pslot_bits : FuncId := 203
abbrev F_pslot_Ok_1 : FuncId := 204
abbrev F_ring_Ok_1 : FuncId := 205
abbrev F_slices_insertionSortCmpFunc_api_Ref : FuncId := 206
abbrev F_slices_heapSortCmpFunc_api_Ref : FuncId := 207
abbrev F_slices_breakPatternsCmpFunc_api_Ref : FuncId := 208
abbrev F_slices_choosePivotCmpFunc_api_Ref : FuncId := 209
abbrev F_slices_reverseRangeCmpFunc_api_Ref : FuncId := 210
abbrev F_slices_partialInsertionSortCmpFunc_api_Ref : FuncId := 211
abbrev F_slices_partitionEqualCmpFunc_api_Ref : FuncId := 212
abbrev F_slices_partitionCmpFunc_api_Ref : FuncId := 213
abbrev F_math_bits_Len32 : FuncId := 214
abbrev F_math_bits_Len64 : FuncId := 215
abbrev F_slices_siftDownCmpFunc_api_Ref : FuncId := 216
abbrev F_slices_nextPowerOfTwo : FuncId := 217
abbrev F_slices_xorshift_Next : FuncId := 218
abbrev F_slices_medianAdjacentCmpFunc_api_Ref : FuncId := 219
abbrev F_slices_medianCmpFunc_api_Ref : FuncId := 220
abbrev F_slices_order2CmpFunc_api_Ref : FuncId := 221
abbrev Y_int : TypeId := 3
abbrev Y_bool : TypeId := 4
abbrev Y_uint8 : TypeId := 5
abbrev Y_p_commons_Commons : TypeId := 23
abbrev Y_s_bool : TypeId := 28
abbrev Y_api_Plan : TypeId := 31
abbrev Y_s_int : TypeId := 35
abbrev Y_api_Answer : TypeId := 40
abbrev Y_api_Call : TypeId := 43
abbrev Y_8_int : TypeId := 44
abbrev Y_api_Proc : TypeId := 46
abbrev Y_api_File : TypeId := 50
abbrev Y_api_Pipe : TypeId := 55
abbrev Y_api_Ret : TypeId := 75
abbrev Y_4_int : TypeId := 77
abbrev Y_api_Boot : TypeId := 84
abbrev Y_api_Bridge : TypeId := 94
abbrev Y_kern_Kern : TypeId := 99
abbrev Y_p_table_Table_api_Cap : TypeId := 100
abbrev Y_caps_Space : TypeId := 103
abbrev Y_api_Ref : TypeId := 106
abbrev Y_api_Cap : TypeId := 108
abbrev Y_api_Rec : TypeId := 115
abbrev Y_commons_Commons : TypeId := 134
abbrev Y_region_Regions : TypeId := 147
abbrev Y_region_span : TypeId := 150
abbrev Y_api_Share : TypeId := 160
abbrev Y_p_sect_Sect : TypeId := 167
abbrev Y_ref1_Kern : TypeId := 177
abbrev Y_ref1_Regions : TypeId := 181
abbrev Y_p_ref1_Sect : TypeId := 182
abbrev Y_ref15_Commons : TypeId := 196
abbrev Y_table_Table_api_Cap : TypeId := 199
abbrev Y_table_place_api_Cap : TypeId := 201
abbrev Y_commons_place : TypeId := 224
abbrev Y_12_int : TypeId := 229
abbrev Y_mem_Mem : TypeId := 232
abbrev Y_quota_Quota : TypeId := 239
abbrev Y_sect_Sect : TypeId := 241
abbrev Y_ref1_Quota : TypeId := 245
abbrev Y_ref1_Space : TypeId := 249
abbrev Y_p_ref1_Names : TypeId := 250
abbrev Y_s_api_Cap : TypeId := 252
abbrev Y_ref1_Sect : TypeId := 254
abbrev Y_codec_Codec_api_Proc : TypeId := 276
abbrev Y_codec_Codec_api_File : TypeId := 280
abbrev Y_codec_Codec_api_Pipe : TypeId := 284
abbrev Y_ref1_Names : TypeId := 289
abbrev Y_ref1_place : TypeId := 291
abbrev Y_p_int : TypeId := 303
abbrev Y_slices_xorshift : TypeId := 322
end Go.EQ

set_option maxRecDepth 100000
set_option linter.unusedVariables false
namespace Go.EQ
open Go Go.NN Go.Proofs
def C_law15_CommonsGone : Cuts := { globs := 0, loops := [], regs := [], plans := [] }
noncomputable def T_law15_CommonsGone : List Item := bodyOf Tryz.f3
def C_commons_Commons_Proc : Cuts := { globs := 0, loops := [], regs := [], plans := [] }
noncomputable def T_commons_Commons_Proc : List Item := bodyOf Tryz.f10
def C_commons_Commons_FreeFile : Cuts := { globs := 0, loops := [], regs := [], plans := [] }
noncomputable def T_commons_Commons_FreeFile : List Item := bodyOf Tryz.f18
def C_commons_New : Cuts := { globs := 0, loops := [], regs := [], plans := [] }
noncomputable def T_commons_New : List Item := bodyOf Tryz.f19
def C_proc_Fork : Cuts := { globs := 0, loops := [], regs := [], plans := [] }
noncomputable def T_proc_Fork : List Item := bodyOf Tryz.f26
def C_fds_Pipe : Cuts := { globs := 0, loops := [], regs := [], plans := [(11, ⟨[0, 1, 2, 3, 4, 5, 6, 7, 8, 9, 10, 11, 12, 13, 14, 15, 16, 17, 18, 19, 20, 21, 22, 23, 24, 25, 26, 27, 28], [0, 0, 2, 6, 0, 31, 63, 127, 127, 383, 895, 127, 2175, 6271, 14463, 32767, 65535, 131071, 262143, 262143, 786431, 1835007, 262143, 4456447, 12845055, 29622271, 67108863, 134217727, 268435455], [], []⟩), (12, ⟨[0, 1, 2, 3, 4, 5, 6, 7, 8, 9, 10, 11, 12, 13, 14, 15, 17, 16, 18, 19], [0, 1, 3, 0, 8, 24, 0, 64, 192, 448, 0, 1024, 3072, 7168, 0, 17351, 50119, 0, 262143, 524287], [(16, [5, 12])], []⟩), (13, ⟨[0, 1, 7, 8, 9, 10, 11, 12, 13, 14, 2, 3, 4, 5, 6, 15, 16], [0, 1, 3, 3, 3, 31, 63, 0, 128, 384, 0, 1024, 3072, 7168, 16256, 32767, 65535], [(5, [9, 12])], []⟩)] }
noncomputable def T_fds_Pipe : List Item := bodyOf Tryz.f28
def C_fds_Close : Cuts := { globs := 0, loops := [], regs := [], plans := [] }
noncomputable def T_fds_Close : List Item := bodyOf Tryz.f30
def C_ref1_Kern_Do : Cuts := { globs := 0, loops := [], regs := [], plans := [(7, ⟨[0, 1, 2, 3, 4, 5, 6, 7, 8, 9, 10, 11, 12, 13, 14, 15, 16], [0, 1, 3, 7, 0, 0, 32, 0, 128, 0, 512, 2047, 4095, 8191, 8191, 16383, 65535], [], []⟩), (9, ⟨[0, 1, 2, 3, 4, 5, 6, 7, 8, 9, 10, 11, 12, 13], [0, 1, 3, 7, 0, 0, 32, 0, 128, 0, 512, 1536, 4095, 8191], [], []⟩), (11, ⟨[0, 1, 2, 3, 4, 5, 6, 7, 8, 9, 10, 11, 12, 13, 14, 15, 16], [0, 1, 3, 7, 0, 0, 32, 0, 128, 0, 512, 0, 2048, 0, 8192, 32767, 65535], [], []⟩), (13, ⟨[0, 1, 2, 3, 4, 5, 6, 7, 8, 9, 10, 11, 12, 13, 14, 15, 16, 17, 18, 19, 20, 21, 22, 23], [0, 1, 3, 7, 15, 31, 63, 0, 0, 256, 0, 1024, 0, 4096, 0, 16384, 0, 65536, 262143, 524287, 1048575, 1048575, 2097151, 8388607], [], []⟩), (15, ⟨[0, 1, 2, 3, 4, 5, 6, 7, 8, 9, 10, 11, 12, 13, 14, 15], [0, 1, 3, 7, 15, 31, 63, 0, 0, 256, 1023, 2047, 4095, 4095, 8191, 32767], [], []⟩), (17, ⟨[0, 1, 2, 3, 4, 5, 6, 7, 8, 9, 10, 11, 12, 13, 14, 15, 16, 17], [0, 1, 3, 7, 0, 16, 48, 112, 240, 0, 1008, 2032, 4095, 8191, 16383, 16383, 32767, 131071], [], []⟩), (19, ⟨[0, 1, 2, 3, 4, 5, 6, 7, 8, 9, 10, 11, 12, 13, 14, 15], [0, 1, 3, 7, 0, 16, 48, 112, 240, 0, 1008, 2032, 0, 4096, 16383, 32767], [], []⟩), (23, ⟨[0, 1, 2, 3, 4, 5, 6, 7, 8, 9, 10, 11, 12, 13, 14, 15, 16, 17], [0, 1, 3, 7, 0, 16, 63, 127, 0, 0, 512, 1536, 3584, 8191, 16383, 32767, 32767, 65535], [], []⟩), (27, ⟨[0, 1, 2, 3, 4, 5, 6, 7, 8, 9, 10, 11, 12, 13, 14, 15, 16, 17, 18], [0, 0, 0, 4, 15, 31, 63, 127, 255, 511, 63, 1087, 4095, 8191, 63, 63, 32831, 131071, 262143], [], []⟩)] }
noncomputable def T_ref1_Kern_Do : List Item := bodyOf Tryz.f35
def C_commons_pipe : Cuts := { globs := 0, loops := [], regs := [], plans := [] }
noncomputable def T_commons_pipe : List Item := bodyOf Tryz.f48
def C_commons_record_int : Cuts := { globs := 0, loops := [], regs := [(8, [8, 11, 12])], plans := [(7, ⟨[0, 1, 2, 3, 4, 5, 6, 7, 8, 9], [0, 1, 3, 7, 0, 31, 63, 31, 159, 511], [(7, [5])], []⟩)] }
noncomputable def T_commons_record_int : List Item := bodyOf Tryz.f50
noncomputable def T_commons_record_int_R1 : List Item := stk [0, 1, 0, 1, 0, 1, 0, 1, 0, 1, 0, 1, 0, 0] T_commons_record_int
def C_law11_Proc_1 : Cuts := { globs := 0, loops := [], regs := [], plans := [] }
noncomputable def T_law11_Proc_1 : List Item := bodyOf Tryz.f54
def C_commons_FrontBytes : Cuts := { globs := 0, loops := [], regs := [], plans := [] }
noncomputable def T_commons_FrontBytes : List Item := bodyOf Tryz.f55
def C_commons_Commons_most : Cuts := { globs := 0, loops := [], regs := [], plans := [] }
noncomputable def T_commons_Commons_most : List Item := bodyOf Tryz.f57
def C_mem_Mem_Load : Cuts := { globs := 0, loops := [], regs := [], plans := [] }
noncomputable def T_mem_Mem_Load : List Item := bodyOf Tryz.f66
def C_fds_told : Cuts := { globs := 0, loops := [], regs := [], plans := [] }
noncomputable def T_fds_told : List Item := bodyOf Tryz.f67
def C_fds_named : Cuts := { globs := 0, loops := [], regs := [], plans := [] }
noncomputable def T_fds_named : List Item := bodyOf Tryz.f76
def C_kern_frames : Cuts := { globs := 0, loops := [], regs := [], plans := [] }
noncomputable def T_kern_frames : List Item := bodyOf Tryz.f79
def C_caps_Space_Put : Cuts := { globs := 0, loops := [], regs := [], plans := [] }
noncomputable def T_caps_Space_Put : List Item := bodyOf Tryz.f89
def C_ref1_NewSect : Cuts := { globs := 0, loops := [], regs := [], plans := [] }
noncomputable def T_ref1_NewSect : List Item := bodyOf Tryz.f93
def C_ref1_Space_Put : Cuts := { globs := 0, loops := [], regs := [], plans := [] }
noncomputable def T_ref1_Space_Put : List Item := bodyOf Tryz.f96
def C_ref1_Regions_Read : Cuts := { globs := 0, loops := [], regs := [], plans := [] }
noncomputable def T_ref1_Regions_Read : List Item := bodyOf Tryz.f98
def C_ref1_Space_Revoke : Cuts := { globs := 0, loops := [(6, [0, 8, 10])], regs := [], plans := [(8, ⟨[0, 1, 2, 3, 4, 5, 6, 7, 8, 9, 10, 11, 12, 13, 14, 15, 16], [0, 1, 3, 7, 0, 0, 48, 112, 240, 511, 1023, 0, 0, 6144, 14336, 30720, 65535], [], []⟩)] }
noncomputable def T_ref1_Space_Revoke : List Item := bodyOf Tryz.f102
noncomputable def T_ref1_Space_Revoke_L1 : List Item := stk [0, 1, 0, 1, 0, 1, 0, 1, 0, 0, 1, 4, 5] T_ref1_Space_Revoke
def C_ref1_Kern_may : Cuts := { globs := 0, loops := [], regs := [], plans := [(1, ⟨[0, 1, 2, 3, 4, 5, 6, 7, 8, 9, 10, 11, 12, 13, 14, 15, 16, 17, 18, 19, 20, 21, 22, 23, 24, 25, 26, 27, 28, 29, 30], [0, 1, 3, 7, 7, 23, 55, 119, 247, 511, 1023, 2047, 4095, 8191, 16383, 32767, 65535, 4095, 262143, 524287, 4095, 1052671, 3149823, 7344127, 15732735, 4095, 66064383, 133173247, 268435455, 536870911, 1073741823], [], []⟩)] }
noncomputable def T_ref1_Kern_may : List Item := bodyOf Tryz.f105
def C_ref1_Sect_Leave : Cuts := { globs := 0, loops := [], regs := [], plans := [] }
noncomputable def T_ref1_Sect_Leave : List Item := bodyOf Tryz.f107
def C_ref1_Space_All : Cuts := { globs := 0, loops := [], regs := [], plans := [] }
noncomputable def T_ref1_Space_All : List Item := bodyOf Tryz.f108
def C_quota_Quota_Alloc : Cuts := { globs := 0, loops := [], regs := [], plans := [] }
noncomputable def T_quota_Quota_Alloc : List Item := bodyOf Tryz.f115
def C_pslot_Codec : Cuts := { globs := 0, loops := [], regs := [], plans := [] }
noncomputable def T_pslot_Codec : List Item := bodyOf Tryz.f121
def C_ofile_Codec : Cuts := { globs := 0, loops := [], regs := [], plans := [] }
noncomputable def T_ofile_Codec : List Item := bodyOf Tryz.f123
def C_codec_Codec_api_File_Decode : Cuts := { globs := 0, loops := [], regs := [], plans := [(4, ⟨[0, 1, 2, 3, 4, 10, 5, 6, 7, 8, 9, 11, 12], [0, 1, 3, 7, 0, 16, 63, 127, 255, 255, 0, 1535, 4095], [(5, [3])], []⟩)] }
noncomputable def T_codec_Codec_api_File_Decode : List Item := bodyOf Tryz.f124
def C_codec_Codec_api_Pipe_Decode : Cuts := { globs := 0, loops := [], regs := [], plans := [(4, ⟨[0, 1, 2, 3, 4, 10, 5, 6, 7, 8, 9, 11, 12], [0, 1, 3, 7, 0, 16, 63, 127, 255, 255, 0, 1535, 4095], [(5, [3])], []⟩)] }
noncomputable def T_codec_Codec_api_Pipe_Decode : List Item := bodyOf Tryz.f126
def C_kern_share : Cuts := { globs := 0, loops := [], regs := [], plans := [] }
noncomputable def T_kern_share : List Item := bodyOf Tryz.f141
def C_ref1_Space_Get : Cuts := { globs := 0, loops := [], regs := [], plans := [] }
noncomputable def T_ref1_Space_Get : List Item := bodyOf Tryz.f152
def C_ref1_Names_Drop : Cuts := { globs := 0, loops := [], regs := [], plans := [(3, ⟨[0, 1, 2, 3, 4, 5, 6, 7, 8, 9, 10, 11, 12, 13, 14, 15, 16, 17, 18], [0, 1, 3, 7, 0, 16, 0, 64, 192, 448, 0, 1024, 4032, 8128, 16320, 32704, 65472, 131071, 262143], [], []⟩)] }
noncomputable def T_ref1_Names_Drop : List Item := bodyOf Tryz.f154
def C_ref1_Sect_Holds : Cuts := { globs := 0, loops := [], regs := [], plans := [] }
noncomputable def T_ref1_Sect_Holds : List Item := bodyOf Tryz.f158
def C_quota_Quota_is : Cuts := { globs := 0, loops := [], regs := [], plans := [] }
noncomputable def T_quota_Quota_is : List Item := bodyOf Tryz.f165
def C_ofile_put : Cuts := { globs := 0, loops := [], regs := [], plans := [] }
noncomputable def T_ofile_put : List Item := bodyOf Tryz.f176
def C_ofile_get : Cuts := { globs := 0, loops := [], regs := [], plans := [(1, ⟨[0, 1, 2, 3, 4, 5, 6, 7, 8, 9, 10, 11, 12, 13, 14, 15, 16, 17, 18], [0, 1, 3, 7, 0, 16, 48, 112, 0, 256, 768, 1792, 0, 4096, 12288, 28672, 65535, 0, 262143], [], []⟩), (3, ⟨[0, 1, 2, 3, 4, 5, 6, 7, 8], [0, 0, 2, 6, 6, 30, 62, 63, 255], [(5, [0])], []⟩)] }
noncomputable def T_ofile_get : List Item := bodyOf Tryz.f177
def C_codec_New_api_Pipe : Cuts := { globs := 0, loops := [], regs := [], plans := [] }
noncomputable def T_codec_New_api_Pipe : List Item := bodyOf Tryz.f178
def C_ring_get : Cuts := { globs := 0, loops := [], regs := [], plans := [(1, ⟨[0, 1, 2, 3, 4, 5, 6, 7, 8, 9, 10, 11, 12, 13, 14, 15, 16, 17, 18], [0, 1, 3, 7, 0, 16, 48, 112, 0, 256, 768, 1792, 0, 4096, 12288, 28672, 65535, 0, 262143], [], []⟩), (2, ⟨[0, 1, 2, 3, 4], [0, 1, 0, 4, 15], [], []⟩), (4, ⟨[0, 1, 2, 3, 4, 5, 6, 7, 8], [0, 0, 2, 6, 6, 30, 62, 63, 255], [(5, [0])], []⟩)] }
noncomputable def T_ring_get : List Item := bodyOf Tryz.f180
def C_codec_Codec_api_File_Encode : Cuts := { globs := 0, loops := [], regs := [], plans := [(2, ⟨[0, 1, 2, 3, 4, 5, 6, 7, 8, 9, 10, 11, 12, 13, 14], [0, 1, 3, 7, 15, 31, 63, 127, 255, 511, 63, 63, 4095, 8191, 16383], [], []⟩)] }
noncomputable def T_codec_Codec_api_File_Encode : List Item := bodyOf Tryz.f182
def C_table_Table_api_Cap_Add : Cuts := { globs := 0, loops := [(2, [0, 3, 11, 12, 13])], regs := [], plans := [(5, ⟨[0, 1, 2, 3, 4, 5, 6, 7, 8, 9, 10, 11, 12, 13, 14, 15, 16], [0, 1, 3, 7, 0, 0, 32, 96, 224, 0, 0, 1535, 3583, 7679, 16383, 32767, 65535], [], []⟩)] }
noncomputable def T_table_Table_api_Cap_Add : List Item := bodyOf Tryz.f184
noncomputable def T_table_Table_api_Cap_Add_L1 : List Item := stk [0, 1, 0, 0, 1, 4, 5] T_table_Table_api_Cap_Add
def C_ref1_rising : Cuts := { globs := 0, loops := [(3, [0, 3, 4]), (6, [0, 3, 4, 5])], regs := [], plans := [(6, ⟨[0, 1, 2, 3, 4, 5, 6, 7, 8, 9, 10, 11, 12, 13], [0, 1, 3, 7, 7, 23, 63, 127, 7, 7, 775, 1799, 4095, 8191], [], []⟩), (8, ⟨[0, 1, 2, 3, 5, 6, 7, 8, 9, 11, 12, 13, 4, 10, 14, 15], [0, 0, 0, 6, 15, 0, 0, 96, 224, 480, 1023, 0, 0, 6144, 16383, 32767], [(4, [8, 13]), (10, [13])], []⟩)] }
noncomputable def T_ref1_rising : List Item := bodyOf Tryz.f188
noncomputable def T_ref1_rising_L1 : List Item := stk [0, 1, 0, 1, 0, 0, 1, 4, 5] T_ref1_rising
noncomputable def T_ref1_rising_L2 : List Item := stk [0, 1, 0, 1, 0, 0, 1, 4, 5, 6, 0, 1, 0, 4, 0, 1, 0, 4, 5] T_ref1_rising
def C_slices_SortFunc_s_api_Ref_api_Ref : Cuts := { globs := 0, loops := [], regs := [], plans := [] }
noncomputable def T_slices_SortFunc_s_api_Ref_api_Ref : List Item := bodyOf Tryz.f190
def C_caps_Space_Under_1 : Cuts := { globs := 0, loops := [], regs := [], plans := [] }
noncomputable def T_caps_Space_Under_1 : List Item := bodyOf Tryz.f191
def C_pslot_Ok : Cuts := { globs := 0, loops := [], regs := [], plans := [] }
noncomputable def T_pslot_Ok : List Item := bodyOf Tryz.f195
def C_codec_Get2 : Cuts := { globs := 0, loops := [], regs := [], plans := [(3, ⟨[0, 1, 2, 3, 4, 5, 6, 7, 8, 9, 10, 11, 12, 13, 14], [0, 0, 3, 7, 15, 31, 0, 0, 128, 448, 960, 1984, 4095, 8191, 16383], [], []⟩)] }
noncomputable def T_codec_Get2 : List Item := bodyOf Tryz.f197
def C_slices_Equal_s_byte_byte : Cuts := { globs := 0, loops := [(4, [0, 1, 12, 13])], regs := [], plans := [(6, ⟨[0, 1, 2, 3, 4, 5, 6, 7, 8], [0, 0, 3, 7, 0, 0, 48, 112, 255], [], []⟩)] }
noncomputable def T_slices_Equal_s_byte_byte : List Item := bodyOf Tryz.f198
noncomputable def T_slices_Equal_s_byte_byte_L1 : List Item := stk [0, 1, 0, 1, 0, 0, 1, 4, 5] T_slices_Equal_s_byte_byte
def C_ofile_Ok : Cuts := { globs := 0, loops := [], regs := [], plans := [] }
noncomputable def T_ofile_Ok : List Item := bodyOf Tryz.f199
def C_math_bits_Len : Cuts := { globs := 0, loops := [], regs := [], plans := [] }
noncomputable def T_math_bits_Len : List Item := bodyOf Tryz.f202
def C_slices_breakPatternsCmpFunc_api_Ref : Cuts := { globs := 0, loops := [(5, [0, 1, 8, 9, 10, 11])], regs := [(10, [0, 1, 8, 9, 10, 11, 12])], plans := [(10, ⟨[0, 1, 2, 3, 4, 5, 6, 7, 8, 9, 10, 11, 12, 13, 14, 15, 16, 17, 18, 19], [0, 0, 0, 0, 0, 24, 0, 0, 0, 384, 960, 1984, 0, 0, 12288, 28672, 65475, 131011, 262143, 524287], [], []⟩)] }
noncomputable def T_slices_breakPatternsCmpFunc_api_Ref : List Item := bodyOf Tryz.f208
noncomputable def T_slices_breakPatternsCmpFunc_api_Ref_L1 : List Item := stk [0, 1, 0, 1, 2, 0, 1, 0, 1, 0, 1, 4, 5] T_slices_breakPatternsCmpFunc_api_Ref
noncomputable def T_slices_breakPatternsCmpFunc_api_Ref_R1 : List Item := stk [0, 1, 0, 1, 2, 0, 1, 0, 1, 0, 1, 4, 5, 6, 0, 1, 0, 4, 0, 1, 0, 1] T_slices_breakPatternsCmpFunc_api_Ref
def C_slices_choosePivotCmpFunc_api_Ref : Cuts := { globs := 0, loops := [], regs := [(11, [0, 3, 11, 12, 13, 14]), (12, [11, 13])], plans := [] }
noncomputable def T_slices_choosePivotCmpFunc_api_Ref : List Item := bodyOf Tryz.f209
noncomputable def T_slices_choosePivotCmpFunc_api_Ref_R1 : List Item := stk [0, 1, 0, 1, 0, 1, 0, 1, 0, 1, 0, 1, 0, 0, 1, 2, 0, 1] T_slices_choosePivotCmpFunc_api_Ref
noncomputable def T_slices_choosePivotCmpFunc_api_Ref_R2 : List Item := stk [0, 1, 0, 1, 0, 1, 0, 1, 0, 1, 0, 1, 0, 1, 0] T_slices_choosePivotCmpFunc_api_Ref
def C_slices_partialInsertionSortCmpFunc_api_Ref : Cuts := { globs := 0, loops := [(3, [0, 1, 2, 3, 9, 10]), (5, [0, 1, 2, 3, 9, 10]), (14, [0, 1, 2, 3, 9, 10, 11]), (20, [0, 1, 2, 3, 9, 10, 12])], regs := [(18, [0, 1, 2, 3, 9, 10])], plans := [(5, ⟨[0, 1, 2, 3, 4, 5, 6, 7, 8, 9, 10, 11, 12, 13, 14, 15, 16, 17], [0, 0, 3, 7, 15, 15, 15, 111, 239, 15, 15, 1039, 3599, 7695, 16383, 32767, 65535, 131071], [], []⟩), (11, ⟨[0, 1, 2, 3, 4, 5, 6, 7, 8, 9, 10, 11, 12, 13, 14, 15, 16, 17], [0, 0, 0, 0, 8, 0, 0, 64, 224, 480, 0, 0, 3072, 7168, 16355, 32739, 65535, 131071], [], []⟩), (16, ⟨[0, 1, 2, 3, 4, 5, 6, 7, 8, 9, 10, 11, 12], [0, 0, 0, 6, 14, 0, 0, 64, 224, 480, 1023, 2047, 4095], [], []⟩), (17, ⟨[0, 1, 2, 3, 4, 5, 6, 7, 8, 9, 10, 11, 12, 13, 14, 15, 16, 17], [0, 0, 0, 0, 8, 0, 0, 64, 224, 480, 0, 0, 3072, 7168, 16355, 32739, 65535, 131071], [], []⟩), (22, ⟨[0, 1, 2, 3, 4, 5, 6, 7, 8, 9, 10, 11, 12], [0, 0, 0, 6, 14, 0, 0, 64, 224, 480, 1023, 2047, 4095], [], []⟩), (23, ⟨[0, 1, 2, 3, 4, 5, 6, 7, 8, 9, 10, 11, 12, 13, 14, 15, 16, 17], [0, 0, 0, 0, 8, 0, 0, 64, 224, 480, 0, 0, 3072, 7168, 16355, 32739, 65535, 131071], [], []⟩)] }
noncomputable def T_slices_partialInsertionSortCmpFunc_api_Ref : List Item := bodyOf Tryz.f211
noncomputable def T_slices_partialInsertionSortCmpFunc_api_Ref_L1 : List Item := stk [0, 1, 0, 1, 0, 0, 1, 4, 5] T_slices_partialInsertionSortCmpFunc_api_Ref
noncomputable def T_slices_partialInsertionSortCmpFunc_api_Ref_L2 : List Item := stk [0, 1, 0, 1, 0, 0, 1, 4, 5, 6, 0, 1, 0, 4, 0, 4, 5] T_slices_partialInsertionSortCmpFunc_api_Ref
noncomputable def T_slices_partialInsertionSortCmpFunc_api_Ref_L3 : List Item := stk [0, 1, 0, 1, 0, 0, 1, 4, 5, 6, 0, 1, 0, 4, 0, 1, 0, 1, 0, 1, 0, 1, 0, 0, 1, 2, 0, 1, 4, 5] T_slices_partialInsertionSortCmpFunc_api_Ref
noncomputable def T_slices_partialInsertionSortCmpFunc_api_Ref_R1 : List Item := stk [0, 1, 0, 1, 0, 0, 1, 4, 5, 6, 0, 1, 0, 4, 0, 1, 0, 1, 0, 1, 0, 1, 0, 1, 0] T_slices_partialInsertionSortCmpFunc_api_Ref
noncomputable def T_slices_partialInsertionSortCmpFunc_api_Ref_L4 : List Item := stk [0, 1, 0, 1, 0, 0, 1, 4, 5, 6, 0, 1, 0, 4, 0, 1, 0, 1, 0, 1, 0, 1, 0, 1, 0, 1, 2, 0, 1, 4, 5] T_slices_partialInsertionSortCmpFunc_api_Ref
def C_math_bits_Len64 : Cuts := { globs := 0, loops := [], regs := [(4, [0, 2]), (7, [0, 2])], plans := [] }
noncomputable def T_math_bits_Len64 : List Item := bodyOf Tryz.f215
noncomputable def T_math_bits_Len64_R1 : List Item := stk [0, 1, 0, 1, 0, 0] T_math_bits_Len64
noncomputable def T_math_bits_Len64_R2 : List Item := stk [0, 1, 0, 1, 0, 1, 0, 0] T_math_bits_Len64
def C_slices_xorshift_Next : Cuts := { globs := 0, loops := [], regs := [], plans := [(1, ⟨[0, 1, 2, 3, 4, 5, 6, 7, 8, 9], [0, 1, 3, 0, 8, 24, 56, 127, 255, 511], [], []⟩), (2, ⟨[0, 1, 2, 3, 4, 5, 6, 7, 8, 9], [0, 1, 3, 0, 8, 24, 56, 127, 255, 511], [], []⟩), (3, ⟨[0, 1, 2, 3, 4, 5, 6, 7, 8, 9], [0, 1, 3, 0, 8, 24, 56, 127, 255, 511], [], []⟩)] }
noncomputable def T_slices_xorshift_Next : List Item := bodyOf Tryz.f218
def C_slices_medianAdjacentCmpFunc_api_Ref : Cuts := { globs := 0, loops := [], regs := [], plans := [] }
noncomputable def T_slices_medianAdjacentCmpFunc_api_Ref : List Item := bodyOf Tryz.f219
end Go.EQ

set_option maxRecDepth 100000
set_option linter.unusedVariables false
namespace Go.EQ
open Go Go.NN Go.Proofs
def C_law18_FdsLimits : Cuts := { globs := 0, loops := [(6, [0, 3, 4, 7]), (13, [0, 3, 4, 8, 9, 10])], regs := [(24, [0, 3, 4, 8, 9, 10, 11, 13, 14, 15, 17])], plans := [] }
noncomputable def T_law18_FdsLimits : List Item := bodyOf Tryz.f4
noncomputable def T_law18_FdsLimits_L1 : List Item := stk [0, 1, 0, 1, 0, 1, 0, 1, 0, 0, 1, 4, 5] T_law18_FdsLimits
noncomputable def T_law18_FdsLimits_L2 : List Item := stk [0, 1, 0, 1, 0, 1, 0, 1, 0, 1, 0, 1, 0, 1, 0, 0, 1, 4, 5] T_law18_FdsLimits
noncomputable def T_law18_FdsLimits_R1 : List Item := stk [0, 1, 0, 1, 0, 1, 0, 1, 0, 1, 0, 1, 0, 1, 0, 0, 1, 4, 5, 6, 0, 1, 0, 4, 0, 1, 0, 1, 0, 1, 0, 1, 0, 1, 0, 1, 0, 0] T_law18_FdsLimits
def C_law15_Open : Cuts := { globs := 0, loops := [], regs := [], plans := [] }
noncomputable def T_law15_Open : List Item := bodyOf Tryz.f5
def C_caps_Space_Names : Cuts := { globs := 0, loops := [], regs := [], plans := [] }
noncomputable def T_caps_Space_Names : List Item := bodyOf Tryz.f8
def C_kern_Kern_Do : Cuts := { globs := 0, loops := [], regs := [], plans := [] }
noncomputable def T_kern_Kern_Do : List Item := bodyOf Tryz.f9
def C_commons_Commons_File : Cuts := { globs := 0, loops := [], regs := [], plans := [] }
noncomputable def T_commons_Commons_File : List Item := bodyOf Tryz.f11
def C_law15_awake : Cuts := { globs := 0, loops := [], regs := [], plans := [] }
noncomputable def T_law15_awake : List Item := bodyOf Tryz.f22
def C_ref15_Boot : Cuts := { globs := 0, loops := [(3, [1, 2, 3, 4]), (7, [1, 2, 3, 4, 5]), (13, [1, 2, 3, 6])], regs := [], plans := [] }
noncomputable def T_ref15_Boot : List Item := bodyOf Tryz.f31
noncomputable def T_ref15_Boot_L1 : List Item := stk [0, 1, 0, 1, 0, 0, 1, 4, 5] T_ref15_Boot
noncomputable def T_ref15_Boot_L2 : List Item := stk [0, 1, 0, 1, 0, 0, 1, 4, 5, 6, 0, 1, 0, 4, 0, 1, 0, 0, 1, 4, 5] T_ref15_Boot
noncomputable def T_ref15_Boot_L3 : List Item := stk [0, 1, 0, 1, 0, 1, 0, 0, 1, 4, 5] T_ref15_Boot
def C_table_Table_api_Cap_Names : Cuts := { globs := 0, loops := [(3, [0, 3, 9, 10, 11])], regs := [], plans := [] }
noncomputable def T_table_Table_api_Cap_Names : List Item := bodyOf Tryz.f38
noncomputable def T_table_Table_api_Cap_Names_L1 : List Item := stk [0, 1, 0, 1, 0, 0, 1, 4, 5] T_table_Table_api_Cap_Names
def C_kern_Kern_bytes : Cuts := { globs := 0, loops := [], regs := [], plans := [(4, ⟨[0, 1, 2, 3, 4, 5, 6, 7, 8, 9, 10, 11, 12, 13, 14, 15, 16], [0, 1, 3, 7, 0, 0, 32, 0, 128, 0, 512, 2047, 4095, 8191, 8191, 16383, 65535], [], []⟩), (6, ⟨[0, 1, 2, 3, 4, 5, 6, 7, 8, 9, 10, 11, 12], [0, 1, 3, 7, 0, 0, 32, 0, 128, 0, 512, 2047, 4095], [], []⟩), (8, ⟨[0, 1, 2, 3, 4, 5, 6, 7, 8, 9, 10, 11, 12, 13, 14, 15, 16], [0, 1, 3, 7, 0, 0, 32, 0, 128, 0, 512, 0, 2048, 0, 8192, 32767, 65535], [], []⟩)] }
noncomputable def T_kern_Kern_bytes : List Item := bodyOf Tryz.f39
def C_commons_record_api_File : Cuts := { globs := 0, loops := [], regs := [(8, [6, 8, 11, 12])], plans := [(7, ⟨[0, 1, 2, 3, 4, 5, 6, 7, 8, 9], [0, 1, 3, 7, 0, 31, 63, 31, 159, 511], [(7, [5])], []⟩)] }
noncomputable def T_commons_record_api_File : List Item := bodyOf Tryz.f44
noncomputable def T_commons_record_api_File_R1 : List Item := stk [0, 1, 0, 1, 0, 1, 0, 1, 0, 1, 0, 1, 0, 0] T_commons_record_api_File
def C_pslot_Encode : Cuts := { globs := 0, loops := [], regs := [], plans := [(1, ⟨[1, 0, 2, 3, 4, 5, 6], [0, 0, 3, 7, 7, 31, 63], [(0, [1])], []⟩)] }
noncomputable def T_pslot_Encode : List Item := bodyOf Tryz.f52
def C_commons_Commons_write : Cuts := { globs := 0, loops := [], regs := [], plans := [(2, ⟨[0, 1, 2, 3, 4, 5, 6, 7, 8, 9, 10, 11, 12, 13, 14], [0, 1, 3, 7, 15, 31, 63, 127, 255, 511, 1023, 127, 4095, 8191, 16383], [], []⟩), (4, ⟨[0, 1, 2, 3, 4, 5, 6, 7, 8, 9, 10, 11, 12, 13, 14, 15, 16, 17], [0, 1, 3, 7, 0, 16, 48, 112, 0, 256, 0, 1024, 0, 7936, 16383, 32767, 65535, 131071], [], []⟩)] }
noncomputable def T_commons_Commons_write : List Item := bodyOf Tryz.f53
def C_commons_Commons_blank : Cuts := { globs := 0, loops := [], regs := [], plans := [(2, ⟨[0, 1, 2, 3, 4, 5, 6, 7], [0, 0, 0, 4, 12, 0, 63, 127], [], []⟩)] }
noncomputable def T_commons_Commons_blank : List Item := bodyOf Tryz.f56
def C_ref11_ProcBytes : Cuts := { globs := 0, loops := [(4, [1, 3, 4])], regs := [], plans := [(2, ⟨[0, 1, 2, 5, 6, 9, 10, 13, 14, 3, 4, 7, 8, 11, 12, 15, 16, 17], [0, 0, 2, 6, 15, 0, 32, 110, 255, 0, 512, 1774, 4095, 0, 8192, 28398, 65535, 131071], [(3, [6, 10, 14]), (7, [10, 14]), (11, [14])], []⟩)] }
noncomputable def T_ref11_ProcBytes : List Item := bodyOf Tryz.f59
noncomputable def T_ref11_ProcBytes_L1 : List Item := stk [0, 1, 0, 1, 0, 1, 0, 0, 1, 4, 5] T_ref11_ProcBytes
def C_ref11_FileBytes : Cuts := { globs := 0, loops := [], regs := [], plans := [] }
noncomputable def T_ref11_FileBytes : List Item := bodyOf Tryz.f60
def C_proc_Self : Cuts := { globs := 0, loops := [], regs := [], plans := [] }
noncomputable def T_proc_Self : List Item := bodyOf Tryz.f61
def C_proc_share : Cuts := { globs := 0, loops := [(3, [0, 3, 5, 17, 18]), (9, [0, 5, 31, 32]), (19, [0, 57, 58])], regs := [], plans := [(15, ⟨[0, 1, 2, 3, 4, 5, 6, 7, 8], [0, 1, 0, 4, 12, 28, 63, 127, 255], [], []⟩)] }
noncomputable def T_proc_share : List Item := bodyOf Tryz.f64
noncomputable def T_proc_share_L1 : List Item := stk [0, 1, 0, 1, 0, 0, 1, 4, 5] T_proc_share
noncomputable def T_proc_share_L2 : List Item := stk [0, 1, 0, 1, 0, 1, 0, 0, 1, 4, 5] T_proc_share
noncomputable def T_proc_share_L3 : List Item := stk [0, 1, 0, 1, 0, 1, 0, 1, 0, 0, 1, 4, 5] T_proc_share
def C_fds_fdsOf : Cuts := { globs := 0, loops := [], regs := [], plans := [] }
noncomputable def T_fds_fdsOf : List Item := bodyOf Tryz.f68
def C_fds_Pipe_1 : Cuts := { globs := 0, loops := [], regs := [], plans := [] }
noncomputable def T_fds_Pipe_1 : List Item := bodyOf Tryz.f70
def C_fds_Pipe_2 : Cuts := { globs := 0, loops := [], regs := [], plans := [] }
noncomputable def T_fds_Pipe_2 : List Item := bodyOf Tryz.f71
def C_fds_done : Cuts := { globs := 0, loops := [], regs := [], plans := [] }
noncomputable def T_fds_done : List Item := bodyOf Tryz.f74
def C_kern_check : Cuts := { globs := 0, loops := [(7, [1, 3, 52, 53, 54]), (13, [1, 3, 63, 64, 65])], regs := [], plans := [] }
noncomputable def T_kern_check : List Item := bodyOf Tryz.f78
noncomputable def T_kern_check_L1 : List Item := stk [0, 1, 0, 1, 0, 1, 0, 1, 0, 0, 1, 4, 5] T_kern_check
noncomputable def T_kern_check_L2 : List Item := stk [0, 1, 0, 1, 0, 1, 0, 1, 0, 1, 0, 0, 1, 4, 5] T_kern_check
def C_region_New : Cuts := { globs := 0, loops := [], regs := [], plans := [] }
noncomputable def T_region_New : List Item := bodyOf Tryz.f84
def C_sect_New : Cuts := { globs := 0, loops := [], regs := [], plans := [] }
noncomputable def T_sect_New : List Item := bodyOf Tryz.f85
def C_region_Regions_Add : Cuts := { globs := 0, loops := [], regs := [], plans := [] }
noncomputable def T_region_Regions_Add : List Item := bodyOf Tryz.f86
def C_ref1_Regions_Copy : Cuts := { globs := 0, loops := [], regs := [], plans := [] }
noncomputable def T_ref1_Regions_Copy : List Item := bodyOf Tryz.f100
def C_ref1_Quota_Alloc : Cuts := { globs := 0, loops := [(4, [0, 1, 6])], regs := [], plans := [] }
noncomputable def T_ref1_Quota_Alloc : List Item := bodyOf Tryz.f103
noncomputable def T_ref1_Quota_Alloc_L1 : List Item := stk [0, 1, 0, 1, 0, 0, 1, 4, 5] T_ref1_Quota_Alloc
def C_ref1_Sect_Enter : Cuts := { globs := 0, loops := [(17, [0, 1])], regs := [(9, [0, 1]), (10, [0, 1]), (13, [0, 1]), (16, [])], plans := [(10, ⟨[0, 1, 2, 3, 4, 5, 6, 7, 8, 9, 10, 11, 12, 13, 14, 15, 16, 17, 18, 19], [0, 1, 3, 7, 15, 31, 63, 127, 255, 31, 543, 1567, 3615, 8191, 31, 16415, 49183, 114719, 262143, 524287], [], []⟩), (17, ⟨[0, 1, 2, 3, 4, 5, 6, 7, 8, 9, 10, 11, 12, 13, 14, 15, 16, 17, 18, 19, 20, 21, 22, 23], [0, 1, 3, 7, 15, 31, 0, 127, 255, 511, 1023, 2047, 4095, 511, 8703, 25087, 57855, 131071, 511, 262655, 786943, 1835519, 4194303, 8388607], [], []⟩), (23, ⟨[0, 1, 2, 3, 4, 5, 6, 7, 8, 9, 10, 11, 12, 13, 14, 15, 16, 17, 18, 19, 20, 21, 22, 23, 24], [0, 0, 0, 0, 0, 0, 32, 96, 224, 0, 512, 1536, 3584, 8161, 16353, 32737, 65523, 131059, 262131, 524279, 1048567, 2097143, 4194303, 8388607, 16777215], [], []⟩)] }
noncomputable def T_ref1_Sect_Enter : List Item := bodyOf Tryz.f106
noncomputable def T_ref1_Sect_Enter_R1 : List Item := stk [0, 1, 0, 1, 0, 1, 0, 1, 0, 0, 1, 2, 0, 1] T_ref1_Sect_Enter
noncomputable def T_ref1_Sect_Enter_R2 : List Item := stk [0, 1, 0, 1, 0, 1, 0, 1, 0, 1, 0, 0] T_ref1_Sect_Enter
noncomputable def T_ref1_Sect_Enter_R3 : List Item := stk [0, 1, 0, 1, 0, 1, 0, 1, 0, 1, 0, 1, 0, 0] T_ref1_Sect_Enter
noncomputable def T_ref1_Sect_Enter_R4 : List Item := stk [0, 1, 0, 1, 0, 1, 0, 1, 0, 1, 0, 1, 0, 0, 1, 2, 0, 1, 0] T_ref1_Sect_Enter
noncomputable def T_ref1_Sect_Enter_L1 : List Item := stk [0, 1, 0, 1, 0, 1, 0, 1, 0, 1, 0, 1, 0, 1, 0, 4, 5] T_ref1_Sect_Enter
def C_caps_Space_Grant : Cuts := { globs := 0, loops := [], regs := [], plans := [] }
noncomputable def T_caps_Space_Grant : List Item := bodyOf Tryz.f113
def C_kern_Kern_enter : Cuts := { globs := 0, loops := [], regs := [], plans := [] }
noncomputable def T_kern_Kern_enter : List Item := bodyOf Tryz.f117
def C_codec_Blank : Cuts := { globs := 0, loops := [], regs := [], plans := [] }
noncomputable def T_codec_Blank : List Item := bodyOf Tryz.f120
def C_ring_Codec : Cuts := { globs := 0, loops := [], regs := [], plans := [] }
noncomputable def T_ring_Codec : List Item := bodyOf Tryz.f125
def C_codec_Codec_api_Proc_Encode : Cuts := { globs := 0, loops := [], regs := [], plans := [(2, ⟨[0, 1, 2, 3, 4, 5, 6, 7, 8, 9, 10, 11, 12, 13, 14], [0, 1, 3, 7, 15, 31, 63, 127, 255, 511, 63, 63, 4095, 8191, 16383], [], []⟩)] }
noncomputable def T_codec_Codec_api_Proc_Encode : List Item := bodyOf Tryz.f127
def C_commons_Commons_place : Cuts := { globs := 0, loops := [], regs := [], plans := [] }
noncomputable def T_commons_Commons_place : List Item := bodyOf Tryz.f128
def C_codec_Sum : Cuts := { globs := 0, loops := [(3, [3, 9, 10, 11])], regs := [], plans := [] }
noncomputable def T_codec_Sum : List Item := bodyOf Tryz.f129
noncomputable def T_codec_Sum_L1 : List Item := stk [0, 1, 0, 1, 0, 0, 1, 4, 5] T_codec_Sum
def C_ref1_Sum : Cuts := { globs := 0, loops := [(3, [0, 3, 4])], regs := [], plans := [] }
noncomputable def T_ref1_Sum : List Item := bodyOf Tryz.f130
noncomputable def T_ref1_Sum_L1 : List Item := stk [0, 1, 0, 1, 0, 0, 1, 4, 5] T_ref1_Sum
def C_slices_ContainsFunc_s_int_int : Cuts := { globs := 0, loops := [], regs := [], plans := [] }
noncomputable def T_slices_ContainsFunc_s_int_int : List Item := bodyOf Tryz.f140
def C_mem_Mem_Size : Cuts := { globs := 0, loops := [], regs := [], plans := [] }
noncomputable def T_mem_Mem_Size : List Item := bodyOf Tryz.f143
def C_slices_Index_s_int_int : Cuts := { globs := 0, loops := [(2, [0, 1, 7, 8])], regs := [], plans := [] }
noncomputable def T_slices_Index_s_int_int : List Item := bodyOf Tryz.f144
noncomputable def T_slices_Index_s_int_int_L1 : List Item := stk [0, 1, 0, 0, 1, 4, 5] T_slices_Index_s_int_int
def C_caps_Space_add : Cuts := { globs := 0, loops := [], regs := [], plans := [(1, ⟨[0, 1, 2, 3, 4, 5, 6, 7, 8, 9, 10, 11, 12, 13], [0, 1, 3, 7, 0, 31, 63, 0, 255, 511, 1023, 1023, 2047, 8191], [], []⟩)] }
noncomputable def T_caps_Space_add : List Item := bodyOf Tryz.f146
def C_ref1_Within : Cuts := { globs := 0, loops := [], regs := [], plans := [] }
noncomputable def T_ref1_Within : List Item := bodyOf Tryz.f148
def C_ref1_Space_env : Cuts := { globs := 0, loops := [], regs := [], plans := [] }
noncomputable def T_ref1_Space_env : List Item := bodyOf Tryz.f149
def C_ref1_Quota_Owns : Cuts := { globs := 0, loops := [], regs := [], plans := [] }
noncomputable def T_ref1_Quota_Owns : List Item := bodyOf Tryz.f155
def C_ref1_Sect_at : Cuts := { globs := 0, loops := [(2, [0, 1, 5])], regs := [], plans := [] }
noncomputable def T_ref1_Sect_at : List Item := bodyOf Tryz.f156
noncomputable def T_ref1_Sect_at_L1 : List Item := stk [0, 1, 0, 0, 1, 4, 5] T_ref1_Sect_at
def C_region_Regions_place : Cuts := { globs := 0, loops := [], regs := [], plans := [(6, ⟨[0, 1, 2, 3, 4, 5, 6, 7, 8, 9, 10, 11, 12, 13, 14, 15, 16, 17, 18, 19, 20, 21, 22, 23, 24, 25, 26, 27, 28, 29, 30, 31, 32, 33, 34, 35], [0, 1, 3, 7, 15, 31, 63, 127, 127, 383, 1023, 2047, 4095, 8191, 8191, 24575, 8191, 122879, 262143, 524287, 1048575, 2097151, 4194303, 8388607, 16777215, 33554431, 67108863, 134217727, 67108863, 335544319, 872415231, 1946157055, 4093640703, 8589934591, 17179869183, 34359738367], [], []⟩), (8, ⟨[0, 1, 2, 3, 4, 5, 6, 7, 8, 9], [0, 1, 3, 7, 0, 16, 63, 127, 0, 511], [], []⟩)] }
noncomputable def T_region_Regions_place : List Item := bodyOf Tryz.f160
def C_mem_Mem_Store : Cuts := { globs := 0, loops := [], regs := [], plans := [] }
noncomputable def T_mem_Mem_Store : List Item := bodyOf Tryz.f161
def C_sect_Sect_Leave : Cuts := { globs := 0, loops := [], regs := [], plans := [] }
noncomputable def T_sect_Sect_Leave : List Item := bodyOf Tryz.f169
def C_slices_ContainsFunc_s_byte_byte : Cuts := { globs := 0, loops := [], regs := [], plans := [] }
noncomputable def T_slices_ContainsFunc_s_byte_byte : List Item := bodyOf Tryz.f170
def C_codec_Blank_1 : Cuts := { globs := 0, loops := [], regs := [], plans := [] }
noncomputable def T_codec_Blank_1 : List Item := bodyOf Tryz.f171
def C_ring_put : Cuts := { globs := 0, loops := [], regs := [], plans := [(5, ⟨[0, 1, 2, 3, 4], [0, 1, 0, 4, 15], [], []⟩)] }
noncomputable def T_ring_put : List Item := bodyOf Tryz.f179
def C_slices_IndexFunc_s_int_int : Cuts := { globs := 0, loops := [(2, [0, 1, 7, 8])], regs := [], plans := [] }
noncomputable def T_slices_IndexFunc_s_int_int : List Item := bodyOf Tryz.f183
noncomputable def T_slices_IndexFunc_s_int_int_L1 : List Item := stk [0, 1, 0, 0, 1, 4, 5] T_slices_IndexFunc_s_int_int
def C_ref1_Names_Add : Cuts := { globs := 0, loops := [(2, [0, 4])], regs := [], plans := [] }
noncomputable def T_ref1_Names_Add : List Item := bodyOf Tryz.f185
noncomputable def T_ref1_Names_Add_L1 : List Item := stk [0, 1, 0, 0, 1, 4, 5] T_ref1_Names_Add
def C_ring_Ok : Cuts := { globs := 0, loops := [], regs := [], plans := [] }
noncomputable def T_ring_Ok : List Item := bodyOf Tryz.f200
def C_slices_partitionCmpFunc_api_Ref : Cuts := { globs := 0, loops := [(3, [0, 1, 4, 12, 13]), (5, [0, 1, 4, 12, 13]), (13, [0, 1, 4, 12, 13]), (15, [0, 1, 4, 12, 13])], regs := [], plans := [(1, ⟨[0, 1, 2, 3, 4, 5, 6, 7, 8, 9, 10, 11, 12, 13, 14, 15], [0, 0, 0, 0, 0, 0, 48, 112, 0, 0, 768, 1792, 4083, 8179, 16383, 32767], [], []⟩), (3, ⟨[0, 1, 2, 3, 4, 5, 6, 7, 8, 9, 10, 11, 12, 13, 14, 15], [0, 0, 3, 7, 15, 15, 15, 111, 239, 15, 15, 1551, 3599, 8191, 16383, 32767], [], []⟩), (5, ⟨[0, 1, 2, 3, 4, 5, 6, 7, 8, 9, 10, 11, 12, 13, 14, 15, 16], [0, 0, 3, 7, 15, 15, 15, 111, 239, 15, 15, 1551, 3599, 8191, 16383, 32767, 65535], [], []⟩), (8, ⟨[0, 1, 2, 3, 4, 5, 6, 7, 8, 9, 10, 11, 12, 13, 14, 15], [0, 0, 0, 0, 0, 0, 48, 112, 0, 0, 768, 1792, 4083, 8179, 16383, 32767], [], []⟩), (10, ⟨[0, 1, 2, 3, 4, 5, 6, 7, 8, 9, 10, 11, 12, 13, 14, 15], [0, 0, 0, 0, 0, 0, 48, 112, 0, 0, 768, 1792, 4083, 8179, 16383, 32767], [], []⟩), (13, ⟨[0, 1, 2, 3, 4, 5, 6, 7, 8, 9, 10, 11, 12, 13, 14, 15], [0, 0, 3, 7, 15, 15, 15, 111, 239, 15, 15, 1551, 3599, 8191, 16383, 32767], [], []⟩), (15, ⟨[0, 1, 2, 3, 4, 5, 6, 7, 8, 9, 10, 11, 12, 13, 14, 15, 16], [0, 0, 3, 7, 15, 15, 15, 111, 239, 15, 15, 1551, 3599, 8191, 16383, 32767, 65535], [], []⟩), (21, ⟨[0, 1, 2, 3, 4, 5, 6, 7, 8, 9, 10, 11, 12, 13, 14, 15], [0, 0, 0, 0, 0, 0, 48, 112, 0, 0, 768, 1792, 4083, 8179, 16383, 32767], [], []⟩), (18, ⟨[0, 1, 2, 3, 4, 5, 6, 7, 8, 9, 10, 11, 12, 13, 14, 15], [0, 0, 0, 0, 0, 0, 48, 112, 0, 0, 768, 1792, 4083, 8179, 16383, 32767], [], []⟩)] }
noncomputable def T_slices_partitionCmpFunc_api_Ref : List Item := bodyOf Tryz.f213
noncomputable def T_slices_partitionCmpFunc_api_Ref_L1 : List Item := stk [0, 1, 0, 1, 0, 1, 0, 4, 5] T_slices_partitionCmpFunc_api_Ref
noncomputable def T_slices_partitionCmpFunc_api_Ref_L2 : List Item := stk [0, 1, 0, 1, 0, 1, 0, 1, 0, 4, 5] T_slices_partitionCmpFunc_api_Ref
noncomputable def T_slices_partitionCmpFunc_api_Ref_L3 : List Item := stk [0, 1, 0, 1, 0, 1, 0, 1, 0, 1, 0, 1, 0, 1, 0, 1, 0, 1, 0, 4, 5] T_slices_partitionCmpFunc_api_Ref
noncomputable def T_slices_partitionCmpFunc_api_Ref_L4 : List Item := stk [0, 1, 0, 1, 0, 1, 0, 1, 0, 1, 0, 1, 0, 1, 0, 1, 0, 1, 0, 4, 5, 6, 4, 0, 4, 5] T_slices_partitionCmpFunc_api_Ref
noncomputable def T_slices_partitionCmpFunc_api_Ref_L5 : List Item := stk [0, 1, 0, 1, 0, 1, 0, 1, 0, 1, 0, 1, 0, 1, 0, 1, 0, 1, 0, 4, 5, 6, 4, 0, 1, 0, 4, 5] T_slices_partitionCmpFunc_api_Ref
def C_math_bits_Len32 : Cuts := { globs := 0, loops := [], regs := [(4, [0, 2])], plans := [] }
noncomputable def T_math_bits_Len32 : List Item := bodyOf Tryz.f214
noncomputable def T_math_bits_Len32_R1 : List Item := stk [0, 1, 0, 1, 0, 0] T_math_bits_Len32
end Go.EQ

set_option maxRecDepth 100000
set_option linter.unusedVariables false
namespace Go.EQ
open Go Go.NN Go.Proofs
def C_commons_Commons_Pipe : Cuts := { globs := 0, loops := [], regs := [], plans := [] }
noncomputable def T_commons_Commons_Pipe : List Item := bodyOf Tryz.f12
def C_commons_Commons_Term : Cuts := { globs := 0, loops := [], regs := [], plans := [] }
noncomputable def T_commons_Commons_Term : List Item := bodyOf Tryz.f13
def C_commons_Commons_Front : Cuts := { globs := 0, loops := [], regs := [], plans := [] }
noncomputable def T_commons_Commons_Front : List Item := bodyOf Tryz.f14
def C_commons_Commons_SetProc : Cuts := { globs := 0, loops := [], regs := [], plans := [] }
noncomputable def T_commons_Commons_SetProc : List Item := bodyOf Tryz.f15
def C_law11_Proc : Cuts := { globs := 0, loops := [(13, [2, 4, 6, 7])], regs := [], plans := [(7, ⟨[0, 4, 5, 1, 2, 3, 6, 7, 8], [0, 1, 3, 7, 0, 16, 63, 127, 255], [(1, [5])], []⟩)] }
noncomputable def T_law11_Proc : List Item := bodyOf Tryz.f16
noncomputable def T_law11_Proc_L1 : List Item := stk [0, 1, 0, 1, 0, 1, 0, 1, 0, 1, 0, 1, 0, 1, 0, 1, 0, 1, 0, 1, 0, 0, 1, 4, 5] T_law11_Proc
def C_kern_Kern_Regions : Cuts := { globs := 0, loops := [], regs := [], plans := [] }
noncomputable def T_kern_Kern_Regions : List Item := bodyOf Tryz.f25
def C_region_Regions_Raw : Cuts := { globs := 0, loops := [], regs := [], plans := [(3, ⟨[0, 1, 2, 3, 4, 5, 6, 7, 8, 9, 10, 11, 12, 13, 14, 15, 16, 17, 18, 19, 20, 21, 22, 23, 24], [0, 1, 3, 7, 0, 16, 48, 112, 0, 496, 1008, 2032, 0, 4096, 12288, 28672, 0, 126976, 258048, 520192, 1048575, 2097151, 2097151, 8388607, 16777215], [], []⟩)] }
noncomputable def T_region_Regions_Raw : List Item := bodyOf Tryz.f27
def C_ref1_NewKern : Cuts := { globs := 0, loops := [(4, [1, 3, 4]), (8, [1, 3, 5]), (13, [1, 3, 5, 6, 7, 9])], regs := [], plans := [(1, ⟨[0, 1, 2, 3, 4, 5, 6], [0, 0, 2, 6, 15, 31, 63], [(3, [0])], []⟩), (2, ⟨[0, 1, 2, 3, 4, 5, 6, 7, 11, 12, 13, 8, 9, 10, 14, 15, 16, 17, 18, 19], [0, 0, 2, 6, 14, 0, 32, 96, 254, 510, 1022, 0, 2048, 6144, 14846, 32766, 65534, 131071, 262143, 524287], [(8, [12])], []⟩), (6, ⟨[0, 1, 2, 3, 4, 5, 6, 7, 8, 9, 10, 11, 12], [0, 0, 2, 6, 14, 0, 32, 96, 224, 510, 1023, 2047, 4095], [(7, [4])], []⟩), (11, ⟨[0, 1, 2, 3, 4, 5, 6, 7, 8, 9, 11, 12, 15, 16, 18, 19, 10, 13, 14, 17, 20, 21, 22, 23, 24, 25], [0, 1, 3, 7, 0, 16, 48, 112, 0, 256, 1008, 0, 2048, 8176, 16368, 0, 32768, 131056, 0, 262144, 1048575, 2097151, 4194303, 4194303, 8388607, 33554431], [(10, [3, 12, 16, 19])], []⟩), (15, ⟨[0, 1, 2, 3, 4, 5, 6, 7], [0, 1, 0, 4, 0, 28, 60, 127], [], []⟩), (16, ⟨[0, 1, 2, 3, 4, 5, 6, 7, 8, 9, 10, 11, 12], [0, 1, 3, 7, 15, 31, 63, 0, 0, 0, 512, 1792, 4095], [], []⟩)] }
noncomputable def T_ref1_NewKern : List Item := bodyOf Tryz.f33
noncomputable def T_ref1_NewKern_L1 : List Item := stk [0, 1, 0, 1, 0, 1, 0, 0, 1, 4, 5] T_ref1_NewKern
noncomputable def T_ref1_NewKern_L2 : List Item := stk [0, 1, 0, 1, 0, 1, 0, 1, 0, 0, 1, 4, 5] T_ref1_NewKern
noncomputable def T_ref1_NewKern_L3 : List Item := stk [0, 1, 0, 1, 0, 1, 0, 1, 0, 0, 1, 4, 5, 6, 0, 1, 0, 4, 0, 1, 0, 1, 0, 1, 4, 5] T_ref1_NewKern
def C_ref15_Blank : Cuts := { globs := 0, loops := [], regs := [], plans := [(1, ⟨[0, 1, 2, 3, 4, 5, 6, 7], [0, 1, 0, 4, 15, 12, 63, 127], [(3, [1]), (5, [1])], []⟩)] }
noncomputable def T_ref15_Blank : List Item := bodyOf Tryz.f34
def C_ref15_NewCommons : Cuts := { globs := 0, loops := [], regs := [], plans := [] }
noncomputable def T_ref15_NewCommons : List Item := bodyOf Tryz.f36
def C_commons_proc : Cuts := { globs := 0, loops := [], regs := [], plans := [] }
noncomputable def T_commons_proc : List Item := bodyOf Tryz.f42
def C_ring_Decode : Cuts := { globs := 0, loops := [], regs := [], plans := [] }
noncomputable def T_ring_Decode : List Item := bodyOf Tryz.f49
def C_ref11_PipeBytes : Cuts := { globs := 0, loops := [(4, [1, 3, 4])], regs := [], plans := [] }
noncomputable def T_ref11_PipeBytes : List Item := bodyOf Tryz.f58
noncomputable def T_ref11_PipeBytes_L1 : List Item := stk [0, 1, 0, 1, 0, 1, 0, 0, 1, 4, 5] T_ref11_PipeBytes
def C_proc_told : Cuts := { globs := 0, loops := [], regs := [], plans := [] }
noncomputable def T_proc_told : List Item := bodyOf Tryz.f62
def C_commons_Commons_SetFile : Cuts := { globs := 0, loops := [], regs := [], plans := [] }
noncomputable def T_commons_Commons_SetFile : List Item := bodyOf Tryz.f73
def C_fds_Of : Cuts := { globs := 0, loops := [], regs := [], plans := [(3, ⟨[0, 1, 2, 3, 4], [0, 0, 0, 5, 15], [], []⟩), (5, ⟨[0, 1, 2, 3], [0, 0, 3, 7], [], []⟩), (9, ⟨[0, 1, 2, 3, 4, 5, 6, 7, 8], [0, 0, 3, 7, 15, 0, 31, 127, 255], [], []⟩)] }
noncomputable def T_fds_Of : List Item := bodyOf Tryz.f75
def C_slices_Clone_s_int_int : Cuts := { globs := 0, loops := [], regs := [], plans := [] }
noncomputable def T_slices_Clone_s_int_int : List Item := bodyOf Tryz.f80
def C_caps_New : Cuts := { globs := 0, loops := [(3, [3, 8, 9])], regs := [], plans := [(4, ⟨[0, 1, 2, 3, 4, 5, 6, 7, 8, 9, 10], [0, 0, 2, 6, 14, 0, 32, 126, 255, 511, 1023], [(5, [4])], []⟩)] }
noncomputable def T_caps_New : List Item := bodyOf Tryz.f82
noncomputable def T_caps_New_L1 : List Item := stk [0, 1, 0, 1, 0, 0, 1, 4, 5] T_caps_New
def C_quota_New : Cuts := { globs := 0, loops := [(3, [3, 12, 13, 14])], regs := [], plans := [(5, ⟨[0, 1, 2, 3, 4, 5, 6, 7, 8, 9, 10, 11, 12, 13], [0, 0, 2, 6, 14, 0, 32, 96, 224, 480, 1022, 2047, 4095, 8191], [], []⟩)] }
noncomputable def T_quota_New : List Item := bodyOf Tryz.f83
noncomputable def T_quota_New_L1 : List Item := stk [0, 1, 0, 1, 0, 0, 1, 4, 5] T_quota_New
def C_slices_Contains_s_int_int : Cuts := { globs := 0, loops := [], regs := [], plans := [] }
noncomputable def T_slices_Contains_s_int_int : List Item := bodyOf Tryz.f88
def C_ref1_NewQuota : Cuts := { globs := 0, loops := [(3, [0, 3, 4])], regs := [], plans := [(5, ⟨[0, 1, 2, 3, 4, 5, 6, 7, 8, 9, 10, 11, 12, 13, 14, 15, 16], [0, 0, 2, 6, 14, 0, 0, 96, 224, 480, 992, 2016, 4064, 8190, 16383, 32767, 65535], [], []⟩)] }
noncomputable def T_ref1_NewQuota : List Item := bodyOf Tryz.f90
noncomputable def T_ref1_NewQuota_L1 : List Item := stk [0, 1, 0, 1, 0, 0, 1, 4, 5] T_ref1_NewQuota
def C_ref1_Quota_First : Cuts := { globs := 0, loops := [(3, [0, 1, 5, 6])], regs := [], plans := [] }
noncomputable def T_ref1_Quota_First : List Item := bodyOf Tryz.f91
noncomputable def T_ref1_Quota_First_L1 : List Item := stk [0, 1, 0, 1, 0, 0, 1, 4, 5] T_ref1_Quota_First
def C_ref1_NewSpace : Cuts := { globs := 0, loops := [(3, [0, 3, 4])], regs := [], plans := [(5, ⟨[0, 1, 2, 3, 4, 5, 6, 7, 8, 9, 10], [0, 0, 2, 6, 14, 0, 32, 126, 255, 511, 1023], [(5, [4])], []⟩), (6, ⟨[0, 1, 2, 3, 4, 5, 6, 7, 8, 9, 10], [0, 0, 2, 6, 14, 0, 32, 126, 255, 511, 1023], [], []⟩)] }
noncomputable def T_ref1_NewSpace : List Item := bodyOf Tryz.f92
noncomputable def T_ref1_NewSpace_L1 : List Item := stk [0, 1, 0, 1, 0, 0, 1, 4, 5] T_ref1_NewSpace
def C_ref1_Regions_Add : Cuts := { globs := 0, loops := [], regs := [], plans := [(5, ⟨[0, 1, 2, 3, 4, 5, 6, 7, 9, 10, 11, 12, 13, 14, 8, 15, 16, 17, 18, 19, 20, 21], [0, 0, 0, 4, 12, 28, 0, 64, 252, 0, 512, 1536, 3584, 0, 8192, 32764, 65533, 131069, 262141, 524287, 1048575, 2097151], [(8, [12])], []⟩)] }
noncomputable def T_ref1_Regions_Add : List Item := bodyOf Tryz.f94
def C_ref1_in : Cuts := { globs := 0, loops := [(2, [0, 1, 5])], regs := [], plans := [] }
noncomputable def T_ref1_in : List Item := bodyOf Tryz.f95
noncomputable def T_ref1_in_L1 : List Item := stk [0, 1, 0, 0, 1, 4, 5] T_ref1_in
def C_ref1_Space_Grant : Cuts := { globs := 0, loops := [], regs := [], plans := [] }
noncomputable def T_ref1_Space_Grant : List Item := bodyOf Tryz.f101
def C_ref1_Quota_Free : Cuts := { globs := 0, loops := [], regs := [], plans := [] }
noncomputable def T_ref1_Quota_Free : List Item := bodyOf Tryz.f104
def C_table_Table_api_Cap_name : Cuts := { globs := 0, loops := [], regs := [], plans := [] }
noncomputable def T_table_Table_api_Cap_name : List Item := bodyOf Tryz.f109
def C_region_Regions_Read : Cuts := { globs := 0, loops := [], regs := [], plans := [] }
noncomputable def T_region_Regions_Read : List Item := bodyOf Tryz.f110
def C_region_Regions_Write : Cuts := { globs := 0, loops := [], regs := [], plans := [] }
noncomputable def T_region_Regions_Write : List Item := bodyOf Tryz.f111
def C_kern_Kern_leave : Cuts := { globs := 0, loops := [], regs := [], plans := [] }
noncomputable def T_kern_Kern_leave : List Item := bodyOf Tryz.f118
def C_commons_Commons_read : Cuts := { globs := 0, loops := [], regs := [], plans := [(2, ⟨[0, 1, 2, 3, 4, 5, 6, 7, 8, 9, 10], [0, 1, 3, 7, 15, 31, 63, 7, 255, 511, 1023], [], []⟩), (4, ⟨[0, 1, 2, 3, 4, 5, 6, 7, 8, 9, 10, 11, 12, 13, 14, 16, 15, 17], [0, 1, 3, 7, 0, 16, 48, 112, 0, 256, 0, 1024, 0, 4096, 16128, 32767, 0, 131071], [], []⟩), (6, ⟨[0, 1, 2, 3, 4, 5, 6, 7, 8, 9], [0, 1, 3, 7, 0, 31, 63, 31, 159, 511], [(7, [5])], []⟩)] }
noncomputable def T_commons_Commons_read : List Item := bodyOf Tryz.f119
def C_commons_Commons_Look : Cuts := { globs := 0, loops := [(1, [0, 5]), (6, [0, 12]), (11, [0, 20, 21])], regs := [], plans := [] }
noncomputable def T_commons_Commons_Look : List Item := bodyOf Tryz.f132
noncomputable def T_commons_Commons_Look_L1 : List Item := stk [0, 0, 1, 4, 5] T_commons_Commons_Look
noncomputable def T_commons_Commons_Look_L2 : List Item := stk [0, 1, 0, 0, 1, 4, 5] T_commons_Commons_Look
noncomputable def T_commons_Commons_Look_L3 : List Item := stk [0, 1, 0, 1, 0, 0, 1, 4, 5] T_commons_Commons_Look
def C_mem_Mem_in : Cuts := { globs := 0, loops := [], regs := [], plans := [] }
noncomputable def T_mem_Mem_in : List Item := bodyOf Tryz.f133
def C_fds_fdsOf_1 : Cuts := { globs := 0, loops := [], regs := [], plans := [] }
noncomputable def T_fds_fdsOf_1 : List Item := bodyOf Tryz.f135
def C_ring_Encode : Cuts := { globs := 0, loops := [], regs := [], plans := [(1, ⟨[1, 0, 2, 3, 4, 5, 6], [0, 0, 3, 7, 7, 31, 63], [(0, [1])], []⟩)] }
noncomputable def T_ring_Encode : List Item := bodyOf Tryz.f136
def C_kern_check_1 : Cuts := { globs := 0, loops := [], regs := [], plans := [] }
noncomputable def T_kern_check_1 : List Item := bodyOf Tryz.f139
def C_ref1_Space_add : Cuts := { globs := 0, loops := [], regs := [], plans := [(4, ⟨[0, 1, 2, 3, 4, 5, 6, 7, 8, 9, 10, 11], [0, 1, 3, 7, 0, 31, 63, 0, 128, 0, 1023, 2047], [], []⟩)] }
noncomputable def T_ref1_Space_add : List Item := bodyOf Tryz.f150
def C_ref1_Regions_place : Cuts := { globs := 0, loops := [], regs := [], plans := [(6, ⟨[0, 1, 2, 3, 4, 5, 6, 7, 8, 9, 10, 11, 12, 13, 14, 15, 16, 17, 18, 19, 20, 21], [0, 0, 0, 4, 15, 31, 63, 127, 255, 511, 1023, 2047, 4095, 8191, 4095, 20479, 53247, 118783, 249855, 524287, 1048575, 2097151], [], []⟩), (8, ⟨[0, 1, 2, 3, 4, 5, 6, 7, 8, 9, 10, 11, 12, 13, 14, 15, 16, 17, 18, 19, 20, 21, 22, 23, 24, 25, 26, 27, 28, 29, 30], [0, 1, 0, 0, 8, 24, 56, 0, 128, 504, 1016, 2047, 4095, 8191, 16383, 32767, 16383, 131071, 16383, 16383, 540671, 1589247, 3686399, 16383, 8404991, 33046527, 66600959, 134217727, 268435455, 536870911, 1073741823], [], []⟩), (10, ⟨[0, 1, 2, 3, 4, 5, 6, 7, 8, 9, 10, 11, 12, 13, 14], [0, 1, 3, 7, 0, 16, 63, 127, 0, 256, 1023, 0, 4095, 8191, 16383], [], []⟩)] }
noncomputable def T_ref1_Regions_place : List Item := bodyOf Tryz.f151
def C_ref1_Names_All : Cuts := { globs := 0, loops := [(3, [0, 3, 4])], regs := [], plans := [] }
noncomputable def T_ref1_Names_All : List Item := bodyOf Tryz.f159
noncomputable def T_ref1_Names_All_L1 : List Item := stk [0, 1, 0, 1, 0, 0, 1, 4, 5] T_ref1_Names_All
def C_caps_Space_Under : Cuts := { globs := 0, loops := [(6, [0, 1, 2, 10, 11]), (9, [0, 1, 2, 10, 11, 44, 45, 46]), (12, [0, 1, 2, 10, 11, 12, 13, 44, 45, 46, 52, 53, 54]), (22, [1, 2, 10, 19, 85, 86, 87]), (25, [1, 2, 10, 19, 20, 85, 86, 87, 93, 94, 95])], regs := [], plans := [] }
noncomputable def T_caps_Space_Under : List Item := bodyOf Tryz.f163
noncomputable def T_caps_Space_Under_L1 : List Item := stk [0, 1, 0, 1, 0, 1, 0, 0, 1, 4, 5] T_caps_Space_Under
noncomputable def T_caps_Space_Under_L2 : List Item := stk [0, 1, 0, 1, 0, 1, 0, 0, 1, 4, 5, 6, 0, 1, 4, 0, 1, 0, 1, 4, 5] T_caps_Space_Under
noncomputable def T_caps_Space_Under_L3 : List Item := stk [0, 1, 0, 1, 0, 1, 0, 1, 0, 1, 0, 0, 1, 4, 5] T_caps_Space_Under
noncomputable def T_caps_Space_Under_L4 : List Item := stk [0, 1, 0, 1, 0, 1, 0, 0, 1, 4, 5, 6, 0, 1, 4, 0, 1, 0, 1, 4, 5, 6, 0, 1, 0, 1, 0, 4, 0, 1, 0, 1, 4, 5] T_caps_Space_Under
noncomputable def T_caps_Space_Under_L5 : List Item := stk [0, 1, 0, 1, 0, 1, 0, 1, 0, 1, 0, 0, 1, 4, 5, 6, 0, 1, 0, 1, 0, 4, 0, 1, 0, 1, 4, 5] T_caps_Space_Under
def C_kern_Kern_sect : Cuts := { globs := 0, loops := [], regs := [], plans := [(1, ⟨[0, 1, 2, 3, 4, 5, 6, 7, 8, 9, 10, 11, 12, 13, 14, 15, 16, 17, 18, 19, 20, 21, 22, 23, 24, 25, 26, 27, 28], [0, 1, 3, 7, 7, 23, 55, 119, 247, 511, 1023, 2047, 4095, 8191, 16383, 32767, 4095, 131071, 262143, 4095, 528383, 1576959, 3674111, 4095, 16257023, 33034239, 67108863, 134217727, 268435455], [], []⟩)] }
noncomputable def T_kern_Kern_sect : List Item := bodyOf Tryz.f167
def C_codec_New_api_Proc : Cuts := { globs := 0, loops := [], regs := [], plans := [] }
noncomputable def T_codec_New_api_Proc : List Item := bodyOf Tryz.f172
def C_pslot_put : Cuts := { globs := 0, loops := [(4, [1, 2, 22, 23, 24]), (9, [1, 2, 43, 44, 45]), (14, [1, 58, 59])], regs := [], plans := [] }
noncomputable def T_pslot_put : List Item := bodyOf Tryz.f173
noncomputable def T_pslot_put_L1 : List Item := stk [0, 1, 0, 1, 0, 0, 1, 4, 5] T_pslot_put
noncomputable def T_pslot_put_L2 : List Item := stk [0, 1, 0, 1, 0, 1, 0, 0, 1, 4, 5] T_pslot_put
noncomputable def T_pslot_put_L3 : List Item := stk [0, 1, 0, 1, 0, 1, 0, 1, 0, 0, 1, 4, 5] T_pslot_put
def C_ref1_Names_Has : Cuts := { globs := 0, loops := [], regs := [], plans := [] }
noncomputable def T_ref1_Names_Has : List Item := bodyOf Tryz.f186
def C_ref1_has : Cuts := { globs := 0, loops := [(2, [0, 3, 5])], regs := [], plans := [(4, ⟨[0, 1, 2, 3, 4, 5], [0, 0, 3, 7, 0, 31], [], []⟩)] }
noncomputable def T_ref1_has : List Item := bodyOf Tryz.f187
noncomputable def T_ref1_has_L1 : List Item := stk [0, 1, 0, 0, 1, 4, 5] T_ref1_has
def C_table_Table_api_Cap_at : Cuts := { globs := 0, loops := [], regs := [], plans := [] }
noncomputable def T_table_Table_api_Cap_at : List Item := bodyOf Tryz.f192
def C_sect_Sect_Holds : Cuts := { globs := 0, loops := [], regs := [], plans := [] }
noncomputable def T_sect_Sect_Holds : List Item := bodyOf Tryz.f193
def C_codec_Put2 : Cuts := { globs := 0, loops := [], regs := [], plans := [] }
noncomputable def T_codec_Put2 : List Item := bodyOf Tryz.f196
def C_slices_pdqsortCmpFunc_api_Ref : Cuts := { globs := 0, loops := [(2, [0, 1, 2, 3, 4, 10, 11])], regs := [(10, [0, 1, 2, 3, 4, 10, 11, 12]), (15, [0, 1, 2, 3, 4, 10, 11, 12, 13, 14]), (17, [0, 1, 2, 3, 4, 10, 11, 12, 13])], plans := [(17, ⟨[0, 1, 2, 3, 4, 5, 6, 7, 8, 9, 10, 11, 12, 13, 14, 15, 16], [0, 1, 3, 7, 7, 7, 39, 119, 247, 7, 7, 1543, 3591, 8191, 16383, 32767, 65535], [], []⟩)] }
noncomputable def T_slices_pdqsortCmpFunc_api_Ref : List Item := bodyOf Tryz.f201
noncomputable def T_slices_pdqsortCmpFunc_api_Ref_L1 : List Item := stk [0, 1, 0, 1, 4, 5] T_slices_pdqsortCmpFunc_api_Ref
noncomputable def T_slices_pdqsortCmpFunc_api_Ref_R1 : List Item := stk [0, 1, 0, 1, 4, 5, 6, 4, 0, 1, 0, 1, 0, 1, 0, 1, 0] T_slices_pdqsortCmpFunc_api_Ref
noncomputable def T_slices_pdqsortCmpFunc_api_Ref_R2 : List Item := stk [0, 1, 0, 1, 4, 5, 6, 4, 0, 1, 0, 1, 0, 1, 0, 1, 0, 1, 0, 1, 0, 0] T_slices_pdqsortCmpFunc_api_Ref
noncomputable def T_slices_pdqsortCmpFunc_api_Ref_R3 : List Item := stk [0, 1, 0, 1, 4, 5, 6, 4, 0, 1, 0, 1, 0, 1, 0, 1, 0, 1, 0, 1, 0, 1, 0, 0] T_slices_pdqsortCmpFunc_api_Ref
def C_ring_Ok_1 : Cuts := { globs := 0, loops := [], regs := [], plans := [] }
noncomputable def T_ring_Ok_1 : List Item := bodyOf Tryz.f205
def C_slices_insertionSortCmpFunc_api_Ref : Cuts := { globs := 0, loops := [(1, [0, 1, 2, 3, 8]), (4, [0, 1, 2, 3, 8, 9])], regs := [], plans := [(4, ⟨[0, 1, 2, 3, 4, 5, 6, 7, 8, 9, 10, 11, 12, 13, 14, 15, 16], [0, 0, 3, 7, 15, 15, 15, 111, 239, 15, 15, 1039, 3599, 7695, 16383, 32767, 65535], [], []⟩), (6, ⟨[0, 1, 2, 3, 4, 5, 6, 7, 8, 9, 10, 11, 12, 13, 14, 15, 16, 17], [0, 0, 0, 0, 8, 0, 0, 64, 224, 480, 0, 0, 3072, 7168, 16355, 32739, 65535, 131071], [], []⟩)] }
noncomputable def T_slices_insertionSortCmpFunc_api_Ref : List Item := bodyOf Tryz.f206
noncomputable def T_slices_insertionSortCmpFunc_api_Ref_L1 : List Item := stk [0, 1, 4, 5] T_slices_insertionSortCmpFunc_api_Ref
noncomputable def T_slices_insertionSortCmpFunc_api_Ref_L2 : List Item := stk [0, 1, 4, 5, 6, 0, 1, 0, 4, 0, 1, 4, 5] T_slices_insertionSortCmpFunc_api_Ref
def C_slices_heapSortCmpFunc_api_Ref : Cuts := { globs := 0, loops := [(4, [0, 3, 8, 9, 10, 11]), (8, [0, 3, 8, 9, 12])], regs := [], plans := [(10, ⟨[0, 1, 2, 3, 4, 5, 6, 7, 8, 9, 10, 11, 12, 13, 14, 15, 16, 17, 18, 19], [0, 0, 0, 0, 0, 24, 0, 0, 0, 384, 960, 1984, 0, 0, 12288, 28672, 65475, 131011, 262143, 524287], [], []⟩)] }
noncomputable def T_slices_heapSortCmpFunc_api_Ref : List Item := bodyOf Tryz.f207
noncomputable def T_slices_heapSortCmpFunc_api_Ref_L1 : List Item := stk [0, 1, 0, 1, 0, 1, 0, 0, 1, 4, 5] T_slices_heapSortCmpFunc_api_Ref
noncomputable def T_slices_heapSortCmpFunc_api_Ref_L2 : List Item := stk [0, 1, 0, 1, 0, 1, 0, 1, 0, 1, 4, 5] T_slices_heapSortCmpFunc_api_Ref
def C_slices_siftDownCmpFunc_api_Ref : Cuts := { globs := 0, loops := [(1, [0, 2, 3, 4, 10])], regs := [(5, [0, 2, 3, 4, 10, 11])], plans := [(3, ⟨[0, 1, 2, 3, 4, 5, 6, 7, 8, 9, 10, 11, 12, 13, 14, 15, 16, 17, 18, 19, 20, 21], [0, 1, 0, 7, 15, 31, 31, 31, 31, 415, 991, 2015, 31, 31, 31, 24607, 57375, 127007, 258079, 524287, 1048575, 2097151], [], []⟩), (5, ⟨[0, 1, 2, 3, 4, 5, 6, 7, 8, 9, 10, 11, 12, 13, 14, 15], [0, 0, 0, 0, 12, 30, 62, 0, 0, 0, 768, 1920, 3968, 8191, 16383, 32767], [], []⟩), (6, ⟨[0, 1, 2, 3, 4, 5, 6, 7, 8, 9, 10, 11, 12, 13, 14, 15, 16, 17, 18, 19, 20, 21, 22, 23], [0, 0, 0, 6, 0, 0, 0, 96, 0, 0, 0, 1536, 3840, 7936, 0, 0, 0, 98304, 245760, 507904, 1048335, 2096911, 4194303, 8388607], [], []⟩)] }
noncomputable def T_slices_siftDownCmpFunc_api_Ref : List Item := bodyOf Tryz.f216
noncomputable def T_slices_siftDownCmpFunc_api_Ref_L1 : List Item := stk [0, 1, 4, 5] T_slices_siftDownCmpFunc_api_Ref
noncomputable def T_slices_siftDownCmpFunc_api_Ref_R1 : List Item := stk [0, 1, 4, 5, 6, 4, 0, 1, 0, 1, 0, 1, 0, 0] T_slices_siftDownCmpFunc_api_Ref
end Go.EQ

set_option maxRecDepth 100000
set_option linter.unusedVariables false
namespace Go.EQ
open Go Go.NN Go.Proofs
def C_law15_Plan : Cuts := { globs := 0, loops := [], regs := [], plans := [] }
noncomputable def T_law15_Plan : List Item := bodyOf Tryz.f6
def C_kern_Kern_Space : Cuts := { globs := 0, loops := [], regs := [], plans := [] }
noncomputable def T_kern_Kern_Space : List Item := bodyOf Tryz.f7
def C_commons_Commons_SetFront : Cuts := { globs := 0, loops := [], regs := [], plans := [] }
noncomputable def T_commons_Commons_SetFront : List Item := bodyOf Tryz.f17
def C_commons_Commons_Bad : Cuts := { globs := 0, loops := [(3, [0, 3, 4]), (6, [0, 3, 4, 13, 14])], regs := [], plans := [(9, ⟨[0, 1, 2, 3, 4, 5, 6], [0, 1, 3, 7, 0, 31, 63], [], []⟩)] }
noncomputable def T_commons_Commons_Bad : List Item := bodyOf Tryz.f20
noncomputable def T_commons_Commons_Bad_L1 : List Item := stk [0, 1, 0, 1, 0, 0, 1, 4, 5] T_commons_Commons_Bad
noncomputable def T_commons_Commons_Bad_L2 : List Item := stk [0, 1, 0, 1, 0, 0, 1, 4, 5, 6, 0, 1, 0, 4, 0, 1, 4, 5] T_commons_Commons_Bad
def C_commons_Commons_View : Cuts := { globs := 0, loops := [], regs := [], plans := [(1, ⟨[0, 1, 2, 3, 4, 5, 6, 7, 8, 9, 10, 11, 12, 13, 14, 15, 16, 17], [0, 1, 3, 7, 0, 16, 48, 112, 0, 256, 768, 1792, 3840, 7936, 16128, 32767, 65535, 131071], [], []⟩)] }
noncomputable def T_commons_Commons_View : List Item := bodyOf Tryz.f21
def C_law17_Fill : Cuts := { globs := 0, loops := [(9, [6, 7, 8, 9, 10, 11, 12])], regs := [], plans := [] }
noncomputable def T_law17_Fill : List Item := bodyOf Tryz.f23
noncomputable def T_law17_Fill_L1 : List Item := stk [0, 1, 0, 1, 0, 1, 0, 1, 0, 1, 0, 1, 0, 1, 0, 0, 1, 4, 5] T_law17_Fill
def C_law17_First : Cuts := { globs := 0, loops := [], regs := [], plans := [(5, ⟨[0, 1, 2, 3, 4], [0, 1, 0, 4, 15], [(3, [1])], []⟩)] }
noncomputable def T_law17_First : List Item := bodyOf Tryz.f24
def C_law18_awake : Cuts := { globs := 0, loops := [], regs := [], plans := [] }
noncomputable def T_law18_awake : List Item := bodyOf Tryz.f29
def C_kern_New : Cuts := { globs := 0, loops := [(5, [1, 4, 20, 21, 22]), (12, [1, 7, 58, 59, 60]), (18, [7, 89, 90, 91]), (22, [7, 11, 12, 89, 90, 91, 122, 123, 124])], regs := [], plans := [(9, ⟨[0, 1, 3, 5, 6, 7, 9, 10, 2, 4, 8, 11, 12, 13, 14], [0, 1, 3, 0, 15, 0, 32, 96, 255, 0, 512, 2047, 4095, 8191, 16383], [(2, [6, 10]), (4, [6, 10]), (8, [10])], []⟩), (10, ⟨[0, 1, 2, 3, 4, 5, 6, 7, 8, 9, 10, 11, 12], [0, 0, 2, 6, 14, 0, 32, 96, 224, 510, 1023, 2047, 4095], [], []⟩), (14, ⟨[0, 1, 2, 3, 4, 5, 6, 7, 8, 9, 10, 11], [0, 0, 2, 6, 14, 0, 32, 96, 254, 511, 1023, 2047], [(6, [4])], []⟩), (15, ⟨[0, 1, 2, 3, 4, 5, 6, 7, 8, 9, 10, 11, 12], [0, 0, 2, 6, 14, 0, 32, 96, 224, 510, 1023, 2047, 4095], [(7, [4])], []⟩), (20, ⟨[0, 1, 2, 3, 4, 5, 6, 7, 8, 9, 11, 12, 15, 16, 18, 19, 10, 13, 14, 17, 20, 21, 22, 23, 24, 25], [0, 1, 3, 7, 0, 16, 48, 112, 0, 256, 1008, 0, 2048, 8176, 16368, 0, 32768, 131056, 0, 262144, 1048575, 2097151, 4194303, 4194303, 8388607, 33554431], [(10, [3, 12, 16, 19])], []⟩), (25, ⟨[0, 1, 2, 3, 4, 5, 6, 7, 8, 9], [0, 1, 3, 7, 0, 0, 0, 64, 224, 511], [], []⟩)] }
noncomputable def T_kern_New : List Item := bodyOf Tryz.f32
noncomputable def T_kern_New_L1 : List Item := stk [0, 1, 0, 1, 0, 1, 0, 0, 1, 4, 5] T_kern_New
noncomputable def T_kern_New_L2 : List Item := stk [0, 1, 0, 1, 0, 1, 0, 1, 0, 1, 0, 1, 0, 0, 1, 4, 5] T_kern_New
noncomputable def T_kern_New_L3 : List Item := stk [0, 1, 0, 1, 0, 1, 0, 1, 0, 1, 0, 1, 0, 1, 0, 0, 1, 4, 5] T_kern_New
noncomputable def T_kern_New_L4 : List Item := stk [0, 1, 0, 1, 0, 1, 0, 1, 0, 1, 0, 1, 0, 1, 0, 0, 1, 4, 5, 6, 0, 1, 0, 1, 0, 4, 0, 1, 0, 1, 0, 1, 4, 5] T_kern_New
def C_caps_Space_is : Cuts := { globs := 0, loops := [], regs := [], plans := [] }
noncomputable def T_caps_Space_is : List Item := bodyOf Tryz.f37
def C_kern_Kern_number : Cuts := { globs := 0, loops := [], regs := [], plans := [(3, ⟨[0, 1, 2, 3, 4, 5, 6, 7, 8, 9, 10, 11, 12, 13, 14, 15, 16, 17, 18, 19], [0, 1, 3, 7, 0, 0, 32, 0, 128, 0, 512, 0, 2048, 0, 8192, 32767, 65535, 65535, 262143, 524287], [], []⟩), (5, ⟨[0, 1, 2, 3, 4, 5, 6, 7, 8, 9, 10, 11], [0, 1, 3, 7, 0, 0, 32, 127, 255, 255, 1023, 2047], [], []⟩), (7, ⟨[0, 1, 2, 3, 4, 5, 6, 7, 8, 9, 10, 11, 12, 13, 14, 15], [0, 1, 3, 7, 0, 16, 48, 112, 0, 496, 1008, 2047, 4095, 4095, 16383, 32767], [], []⟩), (9, ⟨[0, 1, 2, 3, 4, 5, 6, 7, 8, 9, 10, 11, 12, 13, 14, 15], [0, 1, 3, 7, 0, 16, 48, 112, 0, 496, 1008, 0, 2048, 8191, 16383, 32767], [], []⟩)] }
noncomputable def T_kern_Kern_number : List Item := bodyOf Tryz.f40
def C_commons_record_api_Proc : Cuts := { globs := 0, loops := [], regs := [(8, [6, 8, 11, 12])], plans := [(7, ⟨[0, 1, 2, 3, 4, 5, 6, 7, 8, 9], [0, 1, 3, 7, 0, 31, 63, 31, 159, 511], [(7, [5])], []⟩)] }
noncomputable def T_commons_record_api_Proc : List Item := bodyOf Tryz.f41
noncomputable def T_commons_record_api_Proc_R1 : List Item := stk [0, 1, 0, 1, 0, 1, 0, 1, 0, 1, 0, 1, 0, 0] T_commons_record_api_Proc
def C_pslot_Decode : Cuts := { globs := 0, loops := [], regs := [], plans := [] }
noncomputable def T_pslot_Decode : List Item := bodyOf Tryz.f43
def C_commons_file : Cuts := { globs := 0, loops := [], regs := [], plans := [] }
noncomputable def T_commons_file : List Item := bodyOf Tryz.f45
def C_ofile_Decode : Cuts := { globs := 0, loops := [], regs := [], plans := [] }
noncomputable def T_ofile_Decode : List Item := bodyOf Tryz.f46
def C_commons_record_api_Pipe : Cuts := { globs := 0, loops := [], regs := [(8, [6, 8, 11, 12])], plans := [(7, ⟨[0, 1, 2, 3, 4, 5, 6, 7, 8, 9], [0, 1, 3, 7, 0, 31, 63, 31, 159, 511], [(7, [5])], []⟩)] }
noncomputable def T_commons_record_api_Pipe : List Item := bodyOf Tryz.f47
noncomputable def T_commons_record_api_Pipe_R1 : List Item := stk [0, 1, 0, 1, 0, 1, 0, 1, 0, 1, 0, 1, 0, 0] T_commons_record_api_Pipe
def C_commons_FrontOf : Cuts := { globs := 0, loops := [], regs := [], plans := [] }
noncomputable def T_commons_FrontOf : List Item := bodyOf Tryz.f51
def C_proc_free : Cuts := { globs := 0, loops := [(2, [0, 6])], regs := [], plans := [] }
noncomputable def T_proc_free : List Item := bodyOf Tryz.f63
noncomputable def T_proc_free_L1 : List Item := stk [0, 1, 0, 0, 1, 4, 5] T_proc_free
def C_proc_done : Cuts := { globs := 0, loops := [], regs := [], plans := [] }
noncomputable def T_proc_done : List Item := bodyOf Tryz.f65
def C_fds_free : Cuts := { globs := 0, loops := [(3, [0, 1, 2, 7, 8])], regs := [], plans := [] }
noncomputable def T_fds_free : List Item := bodyOf Tryz.f69
noncomputable def T_fds_free_L1 : List Item := stk [0, 1, 0, 1, 0, 0, 1, 4, 5] T_fds_free
def C_commons_Commons_SetPipe : Cuts := { globs := 0, loops := [], regs := [], plans := [] }
noncomputable def T_commons_Commons_SetPipe : List Item := bodyOf Tryz.f72
def C_proc_CloseFile : Cuts := { globs := 0, loops := [], regs := [(18, [0, 5, 7])], plans := [] }
noncomputable def T_proc_CloseFile : List Item := bodyOf Tryz.f77
noncomputable def T_proc_CloseFile_R1 : List Item := stk [0, 1, 0, 1, 0, 1, 0, 1, 0, 1, 0, 1, 0, 1, 0, 1, 0, 1, 0, 1, 0, 0] T_proc_CloseFile
def C_mem_New : Cuts := { globs := 0, loops := [], regs := [], plans := [] }
noncomputable def T_mem_New : List Item := bodyOf Tryz.f81
def C_quota_Quota_First : Cuts := { globs := 0, loops := [(3, [5, 20, 21, 22])], regs := [], plans := [(2, ⟨[0, 1, 2, 3, 4, 5, 6, 7, 8, 9, 10, 11, 12, 13, 14], [0, 1, 3, 7, 0, 16, 0, 64, 192, 448, 960, 2032, 4095, 8191, 0], [], []⟩)] }
noncomputable def T_quota_Quota_First : List Item := bodyOf Tryz.f87
noncomputable def T_quota_Quota_First_L1 : List Item := stk [0, 1, 0, 1, 0, 0, 1, 4, 5] T_quota_Quota_First
def C_ref15_FrontBytes : Cuts := { globs := 0, loops := [], regs := [], plans := [] }
noncomputable def T_ref15_FrontBytes : List Item := bodyOf Tryz.f97
def C_ref1_Regions_Write : Cuts := { globs := 0, loops := [], regs := [], plans := [] }
noncomputable def T_ref1_Regions_Write : List Item := bodyOf Tryz.f99
def C_region_Regions_Copy : Cuts := { globs := 0, loops := [], regs := [], plans := [] }
noncomputable def T_region_Regions_Copy : List Item := bodyOf Tryz.f112
def C_caps_Space_Revoke : Cuts := { globs := 0, loops := [(5, [0, 1, 2, 8, 22, 23, 24])], regs := [], plans := [(7, ⟨[0, 1, 2, 3, 4, 5, 6, 7, 8, 9, 10], [0, 1, 3, 7, 0, 16, 63, 127, 0, 256, 1023], [], []⟩)] }
noncomputable def T_caps_Space_Revoke : List Item := bodyOf Tryz.f114
noncomputable def T_caps_Space_Revoke_L1 : List Item := stk [0, 1, 0, 1, 0, 1, 0, 0, 1, 4, 5] T_caps_Space_Revoke
def C_quota_Quota_Free : Cuts := { globs := 0, loops := [], regs := [], plans := [] }
noncomputable def T_quota_Quota_Free : List Item := bodyOf Tryz.f116
def C_codec_Codec_api_Proc_Decode : Cuts := { globs := 0, loops := [], regs := [], plans := [(4, ⟨[0, 1, 2, 3, 4, 10, 5, 6, 7, 8, 9, 11, 12], [0, 1, 3, 7, 0, 16, 63, 127, 255, 255, 0, 1535, 4095], [(5, [3])], []⟩)] }
noncomputable def T_codec_Codec_api_Proc_Decode : List Item := bodyOf Tryz.f122
def C_ref1_Two : Cuts := { globs := 0, loops := [], regs := [], plans := [] }
noncomputable def T_ref1_Two : List Item := bodyOf Tryz.f131
def C_slices_Clone_s_byte_byte : Cuts := { globs := 0, loops := [], regs := [], plans := [] }
noncomputable def T_slices_Clone_s_byte_byte : List Item := bodyOf Tryz.f134
def C_ofile_Encode : Cuts := { globs := 0, loops := [], regs := [], plans := [(1, ⟨[1, 0, 2, 3, 4, 5, 6], [0, 0, 3, 7, 7, 31, 63], [(0, [1])], []⟩)] }
noncomputable def T_ofile_Encode : List Item := bodyOf Tryz.f137
def C_commons_Commons_FreePipe : Cuts := { globs := 0, loops := [], regs := [], plans := [] }
noncomputable def T_commons_Commons_FreePipe : List Item := bodyOf Tryz.f138
def C_table_New_api_Cap : Cuts := { globs := 0, loops := [(3, [3, 15, 16])], regs := [], plans := [] }
noncomputable def T_table_New_api_Cap : List Item := bodyOf Tryz.f142
noncomputable def T_table_New_api_Cap_L1 : List Item := stk [0, 1, 0, 1, 0, 0, 1, 4, 5] T_table_New_api_Cap
def C_caps_Space_Put_1 : Cuts := { globs := 0, loops := [], regs := [], plans := [] }
noncomputable def T_caps_Space_Put_1 : List Item := bodyOf Tryz.f145
def C_ref1_NewNames : Cuts := { globs := 0, loops := [(3, [0, 3, 4])], regs := [], plans := [] }
noncomputable def T_ref1_NewNames : List Item := bodyOf Tryz.f147
noncomputable def T_ref1_NewNames_L1 : List Item := stk [0, 1, 0, 1, 0, 0, 1, 4, 5] T_ref1_NewNames
def C_ref1_Space_Under : Cuts := { globs := 0, loops := [(6, [0, 10, 11]), (9, [0, 10, 11, 12]), (13, [0, 10, 11, 12, 13, 14]), (21, [0, 10, 16, 17]), (25, [0, 10, 16, 17, 18, 19])], regs := [], plans := [(16, ⟨[0, 1, 2, 3, 4, 5, 6, 7, 8, 9, 10, 11, 12, 13, 14, 15, 16, 17, 18, 19, 20, 21, 22], [0, 0, 2, 6, 14, 0, 62, 126, 0, 0, 768, 1792, 3840, 8190, 16382, 32766, 65535, 131071, 262143, 262143, 1048575, 2097151, 4194303], [], []⟩), (28, ⟨[0, 1, 2, 3], [0, 1, 0, 7], [], []⟩)] }
noncomputable def T_ref1_Space_Under : List Item := bodyOf Tryz.f153
noncomputable def T_ref1_Space_Under_L1 : List Item := stk [0, 1, 0, 1, 0, 1, 0, 0, 1, 4, 5] T_ref1_Space_Under
noncomputable def T_ref1_Space_Under_L2 : List Item := stk [0, 1, 0, 1, 0, 1, 0, 0, 1, 4, 5, 6, 0, 1, 4, 0, 1, 0, 1, 4, 5] T_ref1_Space_Under
noncomputable def T_ref1_Space_Under_L3 : List Item := stk [0, 1, 0, 1, 0, 1, 0, 1, 0, 1, 0, 0, 1, 4, 5] T_ref1_Space_Under
noncomputable def T_ref1_Space_Under_L4 : List Item := stk [0, 1, 0, 1, 0, 1, 0, 0, 1, 4, 5, 6, 0, 1, 4, 0, 1, 0, 1, 4, 5, 6, 0, 1, 0, 4, 0, 1, 0, 1, 4, 5] T_ref1_Space_Under
noncomputable def T_ref1_Space_Under_L5 : List Item := stk [0, 1, 0, 1, 0, 1, 0, 1, 0, 1, 0, 0, 1, 4, 5, 6, 0, 1, 0, 4, 0, 1, 0, 1, 4, 5] T_ref1_Space_Under
def C_ref1_Sect_drop : Cuts := { globs := 0, loops := [], regs := [], plans := [(0, ⟨[0, 1, 2, 3, 4, 5, 6, 7, 9, 10, 11, 12, 13, 14, 15, 8, 16, 17, 18, 19], [0, 0, 0, 4, 12, 28, 0, 124, 254, 0, 512, 1536, 3584, 0, 8192, 32256, 65534, 131071, 262143, 524287], [(8, [12, 15])], []⟩)] }
noncomputable def T_ref1_Sect_drop : List Item := bodyOf Tryz.f157
def C_caps_Space_Get : Cuts := { globs := 0, loops := [], regs := [], plans := [] }
noncomputable def T_caps_Space_Get : List Item := bodyOf Tryz.f162
def C_table_Table_api_Cap_Drop : Cuts := { globs := 0, loops := [], regs := [], plans := [] }
noncomputable def T_table_Table_api_Cap_Drop : List Item := bodyOf Tryz.f164
def C_quota_Quota_Owns : Cuts := { globs := 0, loops := [], regs := [], plans := [] }
noncomputable def T_quota_Quota_Owns : List Item := bodyOf Tryz.f166
def C_sect_Sect_Enter : Cuts := { globs := 0, loops := [(18, [0, 1, 2])], regs := [(10, [0, 1, 2]), (11, [0, 1, 2]), (14, [0, 1, 2]), (17, [])], plans := [(11, ⟨[0, 1, 2, 3, 4, 5, 6, 7, 8, 9, 10, 11, 12, 13, 14, 15, 16], [0, 1, 3, 7, 15, 31, 31, 95, 223, 479, 1023, 31, 2079, 6175, 14367, 32767, 65535], [], []⟩), (18, ⟨[0, 1, 2, 3, 4, 5, 6, 7, 8, 9, 10, 11, 12, 13, 14, 15, 16, 17, 18, 19, 20], [0, 1, 3, 7, 15, 31, 0, 127, 255, 511, 511, 1535, 3583, 7679, 16383, 511, 33279, 98815, 229887, 524287, 1048575], [], []⟩)] }
noncomputable def T_sect_Sect_Enter : List Item := bodyOf Tryz.f168
noncomputable def T_sect_Sect_Enter_R1 : List Item := stk [0, 1, 0, 1, 0, 1, 0, 1, 0, 1, 0, 0, 1, 2, 0, 1] T_sect_Sect_Enter
noncomputable def T_sect_Sect_Enter_R2 : List Item := stk [0, 1, 0, 1, 0, 1, 0, 1, 0, 1, 0, 1, 0, 0] T_sect_Sect_Enter
noncomputable def T_sect_Sect_Enter_R3 : List Item := stk [0, 1, 0, 1, 0, 1, 0, 1, 0, 1, 0, 1, 0, 1, 0, 0] T_sect_Sect_Enter
noncomputable def T_sect_Sect_Enter_R4 : List Item := stk [0, 1, 0, 1, 0, 1, 0, 1, 0, 1, 0, 1, 0, 1, 0, 0, 1, 2, 0, 1, 0] T_sect_Sect_Enter
noncomputable def T_sect_Sect_Enter_L1 : List Item := stk [0, 1, 0, 1, 0, 1, 0, 1, 0, 1, 0, 1, 0, 1, 0, 1, 0, 4, 5] T_sect_Sect_Enter
def C_pslot_get : Cuts := { globs := 0, loops := [(3, [0, 2, 4, 31, 32, 33]), (8, [0, 2, 4, 49])], regs := [], plans := [(1, ⟨[0, 1, 2, 3, 4, 5, 6, 7, 8, 9, 10, 11, 12, 13, 14, 15, 16, 17, 18], [0, 1, 3, 7, 0, 16, 48, 112, 0, 256, 768, 1792, 0, 4096, 12288, 28672, 65535, 0, 262143], [], []⟩), (13, ⟨[0, 1, 2, 3, 4, 5, 6, 7, 8], [0, 0, 2, 6, 6, 30, 62, 63, 255], [(5, [0])], []⟩)] }
noncomputable def T_pslot_get : List Item := bodyOf Tryz.f174
noncomputable def T_pslot_get_L1 : List Item := stk [0, 1, 0, 1, 0, 0, 1, 4, 5] T_pslot_get
noncomputable def T_pslot_get_L2 : List Item := stk [0, 1, 0, 1, 0, 1, 0, 0, 1, 4, 5] T_pslot_get
def C_codec_New_api_File : Cuts := { globs := 0, loops := [], regs := [], plans := [] }
noncomputable def T_codec_New_api_File : List Item := bodyOf Tryz.f175
def C_codec_Codec_api_Pipe_Encode : Cuts := { globs := 0, loops := [], regs := [], plans := [(2, ⟨[0, 1, 2, 3, 4, 5, 6, 7, 8, 9, 10, 11, 12, 13, 14], [0, 1, 3, 7, 15, 31, 63, 127, 255, 511, 63, 63, 4095, 8191, 16383], [], []⟩)] }
noncomputable def T_codec_Codec_api_Pipe_Encode : List Item := bodyOf Tryz.f181
def C_table_Table_api_Cap_Get : Cuts := { globs := 0, loops := [], regs := [], plans := [] }
noncomputable def T_table_Table_api_Cap_Get : List Item := bodyOf Tryz.f189
def C_slices_IndexFunc_s_byte_byte : Cuts := { globs := 0, loops := [(2, [0, 1, 7, 8])], regs := [], plans := [] }
noncomputable def T_slices_IndexFunc_s_byte_byte : List Item := bodyOf Tryz.f194
noncomputable def T_slices_IndexFunc_s_byte_byte_L1 : List Item := stk [0, 1, 0, 0, 1, 4, 5] T_slices_IndexFunc_s_byte_byte
def C_pslot_bits : Cuts := { globs := 0, loops := [], regs := [], plans := [] }
noncomputable def T_pslot_bits : List Item := bodyOf Tryz.f203
def C_pslot_Ok_1 : Cuts := { globs := 0, loops := [], regs := [], plans := [] }
noncomputable def T_pslot_Ok_1 : List Item := bodyOf Tryz.f204
def C_slices_reverseRangeCmpFunc_api_Ref : Cuts := { globs := 0, loops := [(2, [0, 8, 9])], regs := [], plans := [(3, ⟨[0, 1, 2, 3, 4, 5, 6, 7, 8, 9, 10, 11, 12, 13, 14, 15], [0, 0, 0, 0, 0, 0, 48, 112, 0, 0, 768, 1792, 4083, 8179, 16383, 32767], [], []⟩)] }
noncomputable def T_slices_reverseRangeCmpFunc_api_Ref : List Item := bodyOf Tryz.f210
noncomputable def T_slices_reverseRangeCmpFunc_api_Ref_L1 : List Item := stk [0, 1, 0, 1, 4, 5] T_slices_reverseRangeCmpFunc_api_Ref
def C_slices_partitionEqualCmpFunc_api_Ref : Cuts := { globs := 0, loops := [(3, [0, 1, 4, 11, 12]), (5, [0, 1, 4, 11, 12])], regs := [], plans := [(1, ⟨[0, 1, 2, 3, 4, 5, 6, 7, 8, 9, 10, 11, 12, 13, 14, 15], [0, 0, 0, 0, 0, 0, 48, 112, 0, 0, 768, 1792, 4083, 8179, 16383, 32767], [], []⟩), (3, ⟨[0, 1, 2, 3, 4, 5, 6, 7, 8, 9, 10, 11, 12, 13, 14, 15, 16], [0, 0, 3, 7, 15, 15, 15, 111, 239, 15, 15, 1551, 3599, 8191, 16383, 32767, 65535], [], []⟩), (5, ⟨[0, 1, 2, 3, 4, 5, 6, 7, 8, 9, 10, 11, 12, 13, 14, 15], [0, 0, 3, 7, 15, 15, 15, 111, 239, 15, 15, 1551, 3599, 8191, 16383, 32767], [], []⟩), (8, ⟨[0, 1, 2, 3, 4, 5, 6, 7, 8, 9, 10, 11, 12, 13, 14, 15], [0, 0, 0, 0, 0, 0, 48, 112, 0, 0, 768, 1792, 4083, 8179, 16383, 32767], [], []⟩)] }
noncomputable def T_slices_partitionEqualCmpFunc_api_Ref : List Item := bodyOf Tryz.f212
noncomputable def T_slices_partitionEqualCmpFunc_api_Ref_L1 : List Item := stk [0, 1, 0, 1, 0, 1, 0, 4, 5] T_slices_partitionEqualCmpFunc_api_Ref
noncomputable def T_slices_partitionEqualCmpFunc_api_Ref_L2 : List Item := stk [0, 1, 0, 1, 0, 1, 0, 4, 5, 6, 4, 0, 4, 5] T_slices_partitionEqualCmpFunc_api_Ref
noncomputable def T_slices_partitionEqualCmpFunc_api_Ref_L3 : List Item := stk [0, 1, 0, 1, 0, 1, 0, 4, 5, 6, 4, 0, 1, 0, 4, 5] T_slices_partitionEqualCmpFunc_api_Ref
def C_slices_nextPowerOfTwo : Cuts := { globs := 0, loops := [], regs := [], plans := [] }
noncomputable def T_slices_nextPowerOfTwo : List Item := bodyOf Tryz.f217
def C_slices_medianCmpFunc_api_Ref : Cuts := { globs := 0, loops := [], regs := [], plans := [] }
noncomputable def T_slices_medianCmpFunc_api_Ref : List Item := bodyOf Tryz.f220
def C_slices_order2CmpFunc_api_Ref : Cuts := { globs := 0, loops := [], regs := [], plans := [(1, ⟨[0, 1, 2, 3, 4, 5, 6, 7, 8, 9, 10], [0, 0, 0, 6, 14, 0, 0, 96, 224, 511, 1023], [], []⟩)] }
noncomputable def T_slices_order2CmpFunc_api_Ref : List Item := bodyOf Tryz.f221
end Go.EQ

set_option maxRecDepth 100000
namespace Go.EQ
open Go Go.NN Go.Proofs
def cutsL : List (Nat × Cuts) := [(3, C_law15_CommonsGone), (4, C_law18_FdsLimits), (5, C_law15_Open), (6, C_law15_Plan), (7, C_kern_Kern_Space), (8, C_caps_Space_Names), (9, C_kern_Kern_Do), (10, C_commons_Commons_Proc), (11, C_commons_Commons_File), (12, C_commons_Commons_Pipe), (13, C_commons_Commons_Term), (14, C_commons_Commons_Front), (15, C_commons_Commons_SetProc), (16, C_law11_Proc), (17, C_commons_Commons_SetFront), (18, C_commons_Commons_FreeFile), (19, C_commons_New), (20, C_commons_Commons_Bad), (21, C_commons_Commons_View), (22, C_law15_awake), (23, C_law17_Fill), (24, C_law17_First), (25, C_kern_Kern_Regions), (26, C_proc_Fork), (27, C_region_Regions_Raw), (28, C_fds_Pipe), (29, C_law18_awake), (30, C_fds_Close), (31, C_ref15_Boot), (32, C_kern_New), (33, C_ref1_NewKern), (34, C_ref15_Blank), (35, C_ref1_Kern_Do), (36, C_ref15_NewCommons), (37, C_caps_Space_is), (38, C_table_Table_api_Cap_Names), (39, C_kern_Kern_bytes), (40, C_kern_Kern_number), (41, C_commons_record_api_Proc), (42, C_commons_proc), (43, C_pslot_Decode), (44, C_commons_record_api_File), (45, C_commons_file), (46, C_ofile_Decode), (47, C_commons_record_api_Pipe), (48, C_commons_pipe), (49, C_ring_Decode), (50, C_commons_record_int), (51, C_commons_FrontOf), (52, C_pslot_Encode), (53, C_commons_Commons_write), (54, C_law11_Proc_1), (55, C_commons_FrontBytes), (56, C_commons_Commons_blank), (57, C_commons_Commons_most), (58, C_ref11_PipeBytes), (59, C_ref11_ProcBytes), (60, C_ref11_FileBytes), (61, C_proc_Self), (62, C_proc_told), (63, C_proc_free), (64, C_proc_share), (65, C_proc_done), (66, C_mem_Mem_Load), (67, C_fds_told), (68, C_fds_fdsOf), (69, C_fds_free), (70, C_fds_Pipe_1), (71, C_fds_Pipe_2), (72, C_commons_Commons_SetPipe), (73, C_commons_Commons_SetFile), (74, C_fds_done), (75, C_fds_Of), (76, C_fds_named), (77, C_proc_CloseFile), (78, C_kern_check), (79, C_kern_frames), (80, C_slices_Clone_s_int_int), (81, C_mem_New), (82, C_caps_New), (83, C_quota_New), (84, C_region_New), (85, C_sect_New), (86, C_region_Regions_Add), (87, C_quota_Quota_First), (88, C_slices_Contains_s_int_int), (89, C_caps_Space_Put), (90, C_ref1_NewQuota), (91, C_ref1_Quota_First), (92, C_ref1_NewSpace), (93, C_ref1_NewSect), (94, C_ref1_Regions_Add), (95, C_ref1_in), (96, C_ref1_Space_Put), (97, C_ref15_FrontBytes), (98, C_ref1_Regions_Read), (99, C_ref1_Regions_Write), (100, C_ref1_Regions_Copy), (101, C_ref1_Space_Grant), (102, C_ref1_Space_Revoke), (103, C_ref1_Quota_Alloc), (104, C_ref1_Quota_Free), (105, C_ref1_Kern_may), (106, C_ref1_Sect_Enter), (107, C_ref1_Sect_Leave), (108, C_ref1_Space_All), (109, C_table_Table_api_Cap_name), (110, C_region_Regions_Read), (111, C_region_Regions_Write), (112, C_region_Regions_Copy), (113, C_caps_Space_Grant), (114, C_caps_Space_Revoke), (115, C_quota_Quota_Alloc), (116, C_quota_Quota_Free), (117, C_kern_Kern_enter), (118, C_kern_Kern_leave), (119, C_commons_Commons_read), (120, C_codec_Blank), (121, C_pslot_Codec), (122, C_codec_Codec_api_Proc_Decode), (123, C_ofile_Codec), (124, C_codec_Codec_api_File_Decode), (125, C_ring_Codec), (126, C_codec_Codec_api_Pipe_Decode), (127, C_codec_Codec_api_Proc_Encode), (128, C_commons_Commons_place), (129, C_codec_Sum), (130, C_ref1_Sum), (131, C_ref1_Two), (132, C_commons_Commons_Look), (133, C_mem_Mem_in), (134, C_slices_Clone_s_byte_byte), (135, C_fds_fdsOf_1), (136, C_ring_Encode), (137, C_ofile_Encode), (138, C_commons_Commons_FreePipe), (139, C_kern_check_1), (140, C_slices_ContainsFunc_s_int_int), (141, C_kern_share), (142, C_table_New_api_Cap), (143, C_mem_Mem_Size), (144, C_slices_Index_s_int_int), (145, C_caps_Space_Put_1), (146, C_caps_Space_add), (147, C_ref1_NewNames), (148, C_ref1_Within), (149, C_ref1_Space_env), (150, C_ref1_Space_add), (151, C_ref1_Regions_place), (152, C_ref1_Space_Get), (153, C_ref1_Space_Under), (154, C_ref1_Names_Drop), (155, C_ref1_Quota_Owns), (156, C_ref1_Sect_at), (157, C_ref1_Sect_drop), (158, C_ref1_Sect_Holds), (159, C_ref1_Names_All), (160, C_region_Regions_place), (161, C_mem_Mem_Store), (162, C_caps_Space_Get), (163, C_caps_Space_Under), (164, C_table_Table_api_Cap_Drop), (165, C_quota_Quota_is), (166, C_quota_Quota_Owns), (167, C_kern_Kern_sect), (168, C_sect_Sect_Enter), (169, C_sect_Sect_Leave), (170, C_slices_ContainsFunc_s_byte_byte), (171, C_codec_Blank_1), (172, C_codec_New_api_Proc), (173, C_pslot_put), (174, C_pslot_get), (175, C_codec_New_api_File), (176, C_ofile_put), (177, C_ofile_get), (178, C_codec_New_api_Pipe), (179, C_ring_put), (180, C_ring_get), (181, C_codec_Codec_api_Pipe_Encode), (182, C_codec_Codec_api_File_Encode), (183, C_slices_IndexFunc_s_int_int), (184, C_table_Table_api_Cap_Add), (185, C_ref1_Names_Add), (186, C_ref1_Names_Has), (187, C_ref1_has), (188, C_ref1_rising), (189, C_table_Table_api_Cap_Get), (190, C_slices_SortFunc_s_api_Ref_api_Ref), (191, C_caps_Space_Under_1), (192, C_table_Table_api_Cap_at), (193, C_sect_Sect_Holds), (194, C_slices_IndexFunc_s_byte_byte), (195, C_pslot_Ok), (196, C_codec_Put2), (197, C_codec_Get2), (198, C_slices_Equal_s_byte_byte), (199, C_ofile_Ok), (200, C_ring_Ok), (201, C_slices_pdqsortCmpFunc_api_Ref), (202, C_math_bits_Len), (203, C_pslot_bits), (204, C_pslot_Ok_1), (205, C_ring_Ok_1), (206, C_slices_insertionSortCmpFunc_api_Ref), (207, C_slices_heapSortCmpFunc_api_Ref), (208, C_slices_breakPatternsCmpFunc_api_Ref), (209, C_slices_choosePivotCmpFunc_api_Ref), (210, C_slices_reverseRangeCmpFunc_api_Ref), (211, C_slices_partialInsertionSortCmpFunc_api_Ref), (212, C_slices_partitionEqualCmpFunc_api_Ref), (213, C_slices_partitionCmpFunc_api_Ref), (214, C_math_bits_Len32), (215, C_math_bits_Len64), (216, C_slices_siftDownCmpFunc_api_Ref), (217, C_slices_nextPowerOfTwo), (218, C_slices_xorshift_Next), (219, C_slices_medianAdjacentCmpFunc_api_Ref), (220, C_slices_medianCmpFunc_api_Ref), (221, C_slices_order2CmpFunc_api_Ref)]
def cutsOf : FuncId → Cuts := cutsAt cutsL
theorem k_law15_CommonsGone : FnOk PR cutsOf F_law15_CommonsGone Tryz.f3 C_law15_CommonsGone T_law15_CommonsGone 2 := ⟨Tryz.func3, ⟨_, rfl⟩, by kernel_rfl, rfl, rfl, by kernel_rfl⟩
theorem k_law18_FdsLimits : FnOk PR cutsOf F_law18_FdsLimits Tryz.f4 C_law18_FdsLimits T_law18_FdsLimits 1 := ⟨Tryz.func4, ⟨_, rfl⟩, by kernel_rfl, rfl, rfl, by kernel_rfl⟩
theorem k_law15_Open : FnOk PR cutsOf F_law15_Open Tryz.f5 C_law15_Open T_law15_Open 1 := ⟨Tryz.func5, ⟨_, rfl⟩, by kernel_rfl, rfl, rfl, by kernel_rfl⟩
theorem k_law15_Plan : FnOk PR cutsOf F_law15_Plan Tryz.f6 C_law15_Plan T_law15_Plan 0 := ⟨Tryz.func6, ⟨_, rfl⟩, by kernel_rfl, rfl, rfl, by kernel_rfl⟩
theorem k_kern_Kern_Space : FnOk PR cutsOf F_kern_Kern_Space Tryz.f7 C_kern_Kern_Space T_kern_Kern_Space 1 := ⟨Tryz.func7, ⟨_, rfl⟩, by kernel_rfl, rfl, rfl, by kernel_rfl⟩
theorem k_caps_Space_Names : FnOk PR cutsOf F_caps_Space_Names Tryz.f8 C_caps_Space_Names T_caps_Space_Names 2 := ⟨Tryz.func8, ⟨_, rfl⟩, by kernel_rfl, rfl, rfl, by kernel_rfl⟩
theorem k_kern_Kern_Do : FnOk PR cutsOf F_kern_Kern_Do Tryz.f9 C_kern_Kern_Do T_kern_Kern_Do 3 := ⟨Tryz.func9, ⟨_, rfl⟩, by kernel_rfl, rfl, rfl, by kernel_rfl⟩
theorem k_commons_Commons_Proc : FnOk PR cutsOf F_commons_Commons_Proc Tryz.f10 C_commons_Commons_Proc T_commons_Commons_Proc 2 := ⟨Tryz.func10, ⟨_, rfl⟩, by kernel_rfl, rfl, rfl, by kernel_rfl⟩
theorem k_commons_Commons_File : FnOk PR cutsOf F_commons_Commons_File Tryz.f11 C_commons_Commons_File T_commons_Commons_File 2 := ⟨Tryz.func11, ⟨_, rfl⟩, by kernel_rfl, rfl, rfl, by kernel_rfl⟩
theorem k_commons_Commons_Pipe : FnOk PR cutsOf F_commons_Commons_Pipe Tryz.f12 C_commons_Commons_Pipe T_commons_Commons_Pipe 2 := ⟨Tryz.func12, ⟨_, rfl⟩, by kernel_rfl, rfl, rfl, by kernel_rfl⟩
theorem k_commons_Commons_Term : FnOk PR cutsOf F_commons_Commons_Term Tryz.f13 C_commons_Commons_Term T_commons_Commons_Term 1 := ⟨Tryz.func13, ⟨_, rfl⟩, by kernel_rfl, rfl, rfl, by kernel_rfl⟩
theorem k_commons_Commons_Front : FnOk PR cutsOf F_commons_Commons_Front Tryz.f14 C_commons_Commons_Front T_commons_Commons_Front 1 := ⟨Tryz.func14, ⟨_, rfl⟩, by kernel_rfl, rfl, rfl, by kernel_rfl⟩
theorem k_commons_Commons_SetProc : FnOk PR cutsOf F_commons_Commons_SetProc Tryz.f15 C_commons_Commons_SetProc T_commons_Commons_SetProc 3 := ⟨Tryz.func15, ⟨_, rfl⟩, by kernel_rfl, rfl, rfl, by kernel_rfl⟩
theorem k_law11_Proc : FnOk PR cutsOf F_law11_Proc Tryz.f16 C_law11_Proc T_law11_Proc 1 := ⟨Tryz.func16, ⟨_, rfl⟩, by kernel_rfl, rfl, rfl, by kernel_rfl⟩
theorem k_commons_Commons_SetFront : FnOk PR cutsOf F_commons_Commons_SetFront Tryz.f17 C_commons_Commons_SetFront T_commons_Commons_SetFront 2 := ⟨Tryz.func17, ⟨_, rfl⟩, by kernel_rfl, rfl, rfl, by kernel_rfl⟩
theorem k_commons_Commons_FreeFile : FnOk PR cutsOf F_commons_Commons_FreeFile Tryz.f18 C_commons_Commons_FreeFile T_commons_Commons_FreeFile 2 := ⟨Tryz.func18, ⟨_, rfl⟩, by kernel_rfl, rfl, rfl, by kernel_rfl⟩
theorem k_commons_New : FnOk PR cutsOf F_commons_New Tryz.f19 C_commons_New T_commons_New 2 := ⟨Tryz.func19, ⟨_, rfl⟩, by kernel_rfl, rfl, rfl, by kernel_rfl⟩
theorem k_commons_Commons_Bad : FnOk PR cutsOf F_commons_Commons_Bad Tryz.f20 C_commons_Commons_Bad T_commons_Commons_Bad 1 := ⟨Tryz.func20, ⟨_, rfl⟩, by kernel_rfl, rfl, rfl, by kernel_rfl⟩
theorem k_commons_Commons_View : FnOk PR cutsOf F_commons_Commons_View Tryz.f21 C_commons_Commons_View T_commons_Commons_View 1 := ⟨Tryz.func21, ⟨_, rfl⟩, by kernel_rfl, rfl, rfl, by kernel_rfl⟩
theorem k_law15_awake : FnOk PR cutsOf F_law15_awake Tryz.f22 C_law15_awake T_law15_awake 0 := ⟨Tryz.func22, ⟨_, rfl⟩, by kernel_rfl, rfl, rfl, by kernel_rfl⟩
theorem k_law17_Fill : FnOk PR cutsOf F_law17_Fill Tryz.f23 C_law17_Fill T_law17_Fill 1 := ⟨Tryz.func23, ⟨_, rfl⟩, by kernel_rfl, rfl, rfl, by kernel_rfl⟩
theorem k_law17_First : FnOk PR cutsOf F_law17_First Tryz.f24 C_law17_First T_law17_First 0 := ⟨Tryz.func24, ⟨_, rfl⟩, by kernel_rfl, rfl, rfl, by kernel_rfl⟩
theorem k_kern_Kern_Regions : FnOk PR cutsOf F_kern_Kern_Regions Tryz.f25 C_kern_Kern_Regions T_kern_Kern_Regions 1 := ⟨Tryz.func25, ⟨_, rfl⟩, by kernel_rfl, rfl, rfl, by kernel_rfl⟩
theorem k_proc_Fork : FnOk PR cutsOf F_proc_Fork Tryz.f26 C_proc_Fork T_proc_Fork 2 := ⟨Tryz.func26, ⟨_, rfl⟩, by kernel_rfl, rfl, rfl, by kernel_rfl⟩
theorem k_region_Regions_Raw : FnOk PR cutsOf F_region_Regions_Raw Tryz.f27 C_region_Regions_Raw T_region_Regions_Raw 2 := ⟨Tryz.func27, ⟨_, rfl⟩, by kernel_rfl, rfl, rfl, by kernel_rfl⟩
theorem k_fds_Pipe : FnOk PR cutsOf F_fds_Pipe Tryz.f28 C_fds_Pipe T_fds_Pipe 2 := ⟨Tryz.func28, ⟨_, rfl⟩, by kernel_rfl, rfl, rfl, by kernel_rfl⟩
theorem k_law18_awake : FnOk PR cutsOf F_law18_awake Tryz.f29 C_law18_awake T_law18_awake 0 := ⟨Tryz.func29, ⟨_, rfl⟩, by kernel_rfl, rfl, rfl, by kernel_rfl⟩
theorem k_fds_Close : FnOk PR cutsOf F_fds_Close Tryz.f30 C_fds_Close T_fds_Close 3 := ⟨Tryz.func30, ⟨_, rfl⟩, by kernel_rfl, rfl, rfl, by kernel_rfl⟩
theorem k_ref15_Boot : FnOk PR cutsOf F_ref15_Boot Tryz.f31 C_ref15_Boot T_ref15_Boot 1 := ⟨Tryz.func31, ⟨_, rfl⟩, by kernel_rfl, rfl, rfl, by kernel_rfl⟩
theorem k_kern_New : FnOk PR cutsOf F_kern_New Tryz.f32 C_kern_New T_kern_New 1 := ⟨Tryz.func32, ⟨_, rfl⟩, by kernel_rfl, rfl, rfl, by kernel_rfl⟩
theorem k_ref1_NewKern : FnOk PR cutsOf F_ref1_NewKern Tryz.f33 C_ref1_NewKern T_ref1_NewKern 1 := ⟨Tryz.func33, ⟨_, rfl⟩, by kernel_rfl, rfl, rfl, by kernel_rfl⟩
theorem k_ref15_Blank : FnOk PR cutsOf F_ref15_Blank Tryz.f34 C_ref15_Blank T_ref15_Blank 0 := ⟨Tryz.func34, ⟨_, rfl⟩, by kernel_rfl, rfl, rfl, by kernel_rfl⟩
theorem k_ref1_Kern_Do : FnOk PR cutsOf F_ref1_Kern_Do Tryz.f35 C_ref1_Kern_Do T_ref1_Kern_Do 3 := ⟨Tryz.func35, ⟨_, rfl⟩, by kernel_rfl, rfl, rfl, by kernel_rfl⟩
theorem k_ref15_NewCommons : FnOk PR cutsOf F_ref15_NewCommons Tryz.f36 C_ref15_NewCommons T_ref15_NewCommons 2 := ⟨Tryz.func36, ⟨_, rfl⟩, by kernel_rfl, rfl, rfl, by kernel_rfl⟩
theorem k_caps_Space_is : FnOk PR cutsOf F_caps_Space_is Tryz.f37 C_caps_Space_is T_caps_Space_is 2 := ⟨Tryz.func37, ⟨_, rfl⟩, by kernel_rfl, rfl, rfl, by kernel_rfl⟩
theorem k_table_Table_api_Cap_Names : FnOk PR cutsOf F_table_Table_api_Cap_Names Tryz.f38 C_table_Table_api_Cap_Names T_table_Table_api_Cap_Names 1 := ⟨Tryz.func38, ⟨_, rfl⟩, by kernel_rfl, rfl, rfl, by kernel_rfl⟩
theorem k_kern_Kern_bytes : FnOk PR cutsOf F_kern_Kern_bytes Tryz.f39 C_kern_Kern_bytes T_kern_Kern_bytes 3 := ⟨Tryz.func39, ⟨_, rfl⟩, by kernel_rfl, rfl, rfl, by kernel_rfl⟩
theorem k_kern_Kern_number : FnOk PR cutsOf F_kern_Kern_number Tryz.f40 C_kern_Kern_number T_kern_Kern_number 3 := ⟨Tryz.func40, ⟨_, rfl⟩, by kernel_rfl, rfl, rfl, by kernel_rfl⟩
theorem k_commons_record_api_Proc : FnOk PR cutsOf F_commons_record_api_Proc Tryz.f41 C_commons_record_api_Proc T_commons_record_api_Proc 3 := ⟨Tryz.func41, ⟨_, rfl⟩, by kernel_rfl, rfl, rfl, by kernel_rfl⟩
theorem k_commons_proc : FnOk PR cutsOf F_commons_proc Tryz.f42 C_commons_proc T_commons_proc 1 := ⟨Tryz.func42, ⟨_, rfl⟩, by kernel_rfl, rfl, rfl, by kernel_rfl⟩
theorem k_pslot_Decode : FnOk PR cutsOf F_pslot_Decode Tryz.f43 C_pslot_Decode T_pslot_Decode 1 := ⟨Tryz.func43, ⟨_, rfl⟩, by kernel_rfl, rfl, rfl, by kernel_rfl⟩
theorem k_commons_record_api_File : FnOk PR cutsOf F_commons_record_api_File Tryz.f44 C_commons_record_api_File T_commons_record_api_File 3 := ⟨Tryz.func44, ⟨_, rfl⟩, by kernel_rfl, rfl, rfl, by kernel_rfl⟩
theorem k_commons_file : FnOk PR cutsOf F_commons_file Tryz.f45 C_commons_file T_commons_file 1 := ⟨Tryz.func45, ⟨_, rfl⟩, by kernel_rfl, rfl, rfl, by kernel_rfl⟩
theorem k_ofile_Decode : FnOk PR cutsOf F_ofile_Decode Tryz.f46 C_ofile_Decode T_ofile_Decode 1 := ⟨Tryz.func46, ⟨_, rfl⟩, by kernel_rfl, rfl, rfl, by kernel_rfl⟩
theorem k_commons_record_api_Pipe : FnOk PR cutsOf F_commons_record_api_Pipe Tryz.f47 C_commons_record_api_Pipe T_commons_record_api_Pipe 3 := ⟨Tryz.func47, ⟨_, rfl⟩, by kernel_rfl, rfl, rfl, by kernel_rfl⟩
theorem k_commons_pipe : FnOk PR cutsOf F_commons_pipe Tryz.f48 C_commons_pipe T_commons_pipe 1 := ⟨Tryz.func48, ⟨_, rfl⟩, by kernel_rfl, rfl, rfl, by kernel_rfl⟩
theorem k_ring_Decode : FnOk PR cutsOf F_ring_Decode Tryz.f49 C_ring_Decode T_ring_Decode 1 := ⟨Tryz.func49, ⟨_, rfl⟩, by kernel_rfl, rfl, rfl, by kernel_rfl⟩
theorem k_commons_record_int : FnOk PR cutsOf F_commons_record_int Tryz.f50 C_commons_record_int T_commons_record_int 3 := ⟨Tryz.func50, ⟨_, rfl⟩, by kernel_rfl, rfl, rfl, by kernel_rfl⟩
theorem k_commons_FrontOf : FnOk PR cutsOf F_commons_FrontOf Tryz.f51 C_commons_FrontOf T_commons_FrontOf 1 := ⟨Tryz.func51, ⟨_, rfl⟩, by kernel_rfl, rfl, rfl, by kernel_rfl⟩
theorem k_pslot_Encode : FnOk PR cutsOf F_pslot_Encode Tryz.f52 C_pslot_Encode T_pslot_Encode 1 := ⟨Tryz.func52, ⟨_, rfl⟩, by kernel_rfl, rfl, rfl, by kernel_rfl⟩
theorem k_commons_Commons_write : FnOk PR cutsOf F_commons_Commons_write Tryz.f53 C_commons_Commons_write T_commons_Commons_write 4 := ⟨Tryz.func53, ⟨_, rfl⟩, by kernel_rfl, rfl, rfl, by kernel_rfl⟩
theorem k_law11_Proc_1 : FnOk PR cutsOf F_law11_Proc_1 Tryz.f54 C_law11_Proc_1 T_law11_Proc_1 2 := ⟨Tryz.func54, ⟨_, rfl⟩, by kernel_rfl, rfl, rfl, by kernel_rfl⟩
theorem k_commons_FrontBytes : FnOk PR cutsOf F_commons_FrontBytes Tryz.f55 C_commons_FrontBytes T_commons_FrontBytes 1 := ⟨Tryz.func55, ⟨_, rfl⟩, by kernel_rfl, rfl, rfl, by kernel_rfl⟩
theorem k_commons_Commons_blank : FnOk PR cutsOf F_commons_Commons_blank Tryz.f56 C_commons_Commons_blank T_commons_Commons_blank 2 := ⟨Tryz.func56, ⟨_, rfl⟩, by kernel_rfl, rfl, rfl, by kernel_rfl⟩
theorem k_commons_Commons_most : FnOk PR cutsOf F_commons_Commons_most Tryz.f57 C_commons_Commons_most T_commons_Commons_most 2 := ⟨Tryz.func57, ⟨_, rfl⟩, by kernel_rfl, rfl, rfl, by kernel_rfl⟩
theorem k_ref11_PipeBytes : FnOk PR cutsOf F_ref11_PipeBytes Tryz.f58 C_ref11_PipeBytes T_ref11_PipeBytes 1 := ⟨Tryz.func58, ⟨_, rfl⟩, by kernel_rfl, rfl, rfl, by kernel_rfl⟩
theorem k_ref11_ProcBytes : FnOk PR cutsOf F_ref11_ProcBytes Tryz.f59 C_ref11_ProcBytes T_ref11_ProcBytes 1 := ⟨Tryz.func59, ⟨_, rfl⟩, by kernel_rfl, rfl, rfl, by kernel_rfl⟩
theorem k_ref11_FileBytes : FnOk PR cutsOf F_ref11_FileBytes Tryz.f60 C_ref11_FileBytes T_ref11_FileBytes 1 := ⟨Tryz.func60, ⟨_, rfl⟩, by kernel_rfl, rfl, rfl, by kernel_rfl⟩
theorem k_proc_Self : FnOk PR cutsOf F_proc_Self Tryz.f61 C_proc_Self T_proc_Self 2 := ⟨Tryz.func61, ⟨_, rfl⟩, by kernel_rfl, rfl, rfl, by kernel_rfl⟩
theorem k_proc_told : FnOk PR cutsOf F_proc_told Tryz.f62 C_proc_told T_proc_told 1 := ⟨Tryz.func62, ⟨_, rfl⟩, by kernel_rfl, rfl, rfl, by kernel_rfl⟩
theorem k_proc_free : FnOk PR cutsOf F_proc_free Tryz.f63 C_proc_free T_proc_free 1 := ⟨Tryz.func63, ⟨_, rfl⟩, by kernel_rfl, rfl, rfl, by kernel_rfl⟩
theorem k_proc_share : FnOk PR cutsOf F_proc_share Tryz.f64 C_proc_share T_proc_share 2 := ⟨Tryz.func64, ⟨_, rfl⟩, by kernel_rfl, rfl, rfl, by kernel_rfl⟩
theorem k_proc_done : FnOk PR cutsOf F_proc_done Tryz.f65 C_proc_done T_proc_done 2 := ⟨Tryz.func65, ⟨_, rfl⟩, by kernel_rfl, rfl, rfl, by kernel_rfl⟩
theorem k_mem_Mem_Load : FnOk PR cutsOf F_mem_Mem_Load Tryz.f66 C_mem_Mem_Load T_mem_Mem_Load 3 := ⟨Tryz.func66, ⟨_, rfl⟩, by kernel_rfl, rfl, rfl, by kernel_rfl⟩
theorem k_fds_told : FnOk PR cutsOf F_fds_told Tryz.f67 C_fds_told T_fds_told 1 := ⟨Tryz.func67, ⟨_, rfl⟩, by kernel_rfl, rfl, rfl, by kernel_rfl⟩
theorem k_fds_fdsOf : FnOk PR cutsOf F_fds_fdsOf Tryz.f68 C_fds_fdsOf T_fds_fdsOf 2 := ⟨Tryz.func68, ⟨_, rfl⟩, by kernel_rfl, rfl, rfl, by kernel_rfl⟩
theorem k_fds_free : FnOk PR cutsOf F_fds_free Tryz.f69 C_fds_free T_fds_free 3 := ⟨Tryz.func69, ⟨_, rfl⟩, by kernel_rfl, rfl, rfl, by kernel_rfl⟩
theorem k_fds_Pipe_1 : FnOk PR cutsOf F_fds_Pipe_1 Tryz.f70 C_fds_Pipe_1 T_fds_Pipe_1 2 := ⟨Tryz.func70, ⟨_, rfl⟩, by kernel_rfl, rfl, rfl, by kernel_rfl⟩
theorem k_fds_Pipe_2 : FnOk PR cutsOf F_fds_Pipe_2 Tryz.f71 C_fds_Pipe_2 T_fds_Pipe_2 2 := ⟨Tryz.func71, ⟨_, rfl⟩, by kernel_rfl, rfl, rfl, by kernel_rfl⟩
theorem k_commons_Commons_SetPipe : FnOk PR cutsOf F_commons_Commons_SetPipe Tryz.f72 C_commons_Commons_SetPipe T_commons_Commons_SetPipe 3 := ⟨Tryz.func72, ⟨_, rfl⟩, by kernel_rfl, rfl, rfl, by kernel_rfl⟩
theorem k_commons_Commons_SetFile : FnOk PR cutsOf F_commons_Commons_SetFile Tryz.f73 C_commons_Commons_SetFile T_commons_Commons_SetFile 3 := ⟨Tryz.func73, ⟨_, rfl⟩, by kernel_rfl, rfl, rfl, by kernel_rfl⟩
theorem k_fds_done : FnOk PR cutsOf F_fds_done Tryz.f74 C_fds_done T_fds_done 2 := ⟨Tryz.func74, ⟨_, rfl⟩, by kernel_rfl, rfl, rfl, by kernel_rfl⟩
theorem k_fds_Of : FnOk PR cutsOf F_fds_Of Tryz.f75 C_fds_Of T_fds_Of 3 := ⟨Tryz.func75, ⟨_, rfl⟩, by kernel_rfl, rfl, rfl, by kernel_rfl⟩
theorem k_fds_named : FnOk PR cutsOf F_fds_named Tryz.f76 C_fds_named T_fds_named 2 := ⟨Tryz.func76, ⟨_, rfl⟩, by kernel_rfl, rfl, rfl, by kernel_rfl⟩
theorem k_proc_CloseFile : FnOk PR cutsOf F_proc_CloseFile Tryz.f77 C_proc_CloseFile T_proc_CloseFile 2 := ⟨Tryz.func77, ⟨_, rfl⟩, by kernel_rfl, rfl, rfl, by kernel_rfl⟩
theorem k_kern_check : FnOk PR cutsOf F_kern_check Tryz.f78 C_kern_check T_kern_check 1 := ⟨Tryz.func78, ⟨_, rfl⟩, by kernel_rfl, rfl, rfl, by kernel_rfl⟩
theorem k_kern_frames : FnOk PR cutsOf F_kern_frames Tryz.f79 C_kern_frames T_kern_frames 1 := ⟨Tryz.func79, ⟨_, rfl⟩, by kernel_rfl, rfl, rfl, by kernel_rfl⟩
theorem k_slices_Clone_s_int_int : FnOk PR cutsOf F_slices_Clone_s_int_int Tryz.f80 C_slices_Clone_s_int_int T_slices_Clone_s_int_int 1 := ⟨Tryz.func80, ⟨_, rfl⟩, by kernel_rfl, rfl, rfl, by kernel_rfl⟩
theorem k_mem_New : FnOk PR cutsOf F_mem_New Tryz.f81 C_mem_New T_mem_New 1 := ⟨Tryz.func81, ⟨_, rfl⟩, by kernel_rfl, rfl, rfl, by kernel_rfl⟩
theorem k_caps_New : FnOk PR cutsOf F_caps_New Tryz.f82 C_caps_New T_caps_New 1 := ⟨Tryz.func82, ⟨_, rfl⟩, by kernel_rfl, rfl, rfl, by kernel_rfl⟩
theorem k_quota_New : FnOk PR cutsOf F_quota_New Tryz.f83 C_quota_New T_quota_New 1 := ⟨Tryz.func83, ⟨_, rfl⟩, by kernel_rfl, rfl, rfl, by kernel_rfl⟩
theorem k_region_New : FnOk PR cutsOf F_region_New Tryz.f84 C_region_New T_region_New 2 := ⟨Tryz.func84, ⟨_, rfl⟩, by kernel_rfl, rfl, rfl, by kernel_rfl⟩
theorem k_sect_New : FnOk PR cutsOf F_sect_New Tryz.f85 C_sect_New T_sect_New 1 := ⟨Tryz.func85, ⟨_, rfl⟩, by kernel_rfl, rfl, rfl, by kernel_rfl⟩
theorem k_region_Regions_Add : FnOk PR cutsOf F_region_Regions_Add Tryz.f86 C_region_Regions_Add T_region_Regions_Add 3 := ⟨Tryz.func86, ⟨_, rfl⟩, by kernel_rfl, rfl, rfl, by kernel_rfl⟩
theorem k_quota_Quota_First : FnOk PR cutsOf F_quota_Quota_First Tryz.f87 C_quota_Quota_First T_quota_Quota_First 2 := ⟨Tryz.func87, ⟨_, rfl⟩, by kernel_rfl, rfl, rfl, by kernel_rfl⟩
theorem k_slices_Contains_s_int_int : FnOk PR cutsOf F_slices_Contains_s_int_int Tryz.f88 C_slices_Contains_s_int_int T_slices_Contains_s_int_int 2 := ⟨Tryz.func88, ⟨_, rfl⟩, by kernel_rfl, rfl, rfl, by kernel_rfl⟩
theorem k_caps_Space_Put : FnOk PR cutsOf F_caps_Space_Put Tryz.f89 C_caps_Space_Put T_caps_Space_Put 3 := ⟨Tryz.func89, ⟨_, rfl⟩, by kernel_rfl, rfl, rfl, by kernel_rfl⟩
theorem k_ref1_NewQuota : FnOk PR cutsOf F_ref1_NewQuota Tryz.f90 C_ref1_NewQuota T_ref1_NewQuota 1 := ⟨Tryz.func90, ⟨_, rfl⟩, by kernel_rfl, rfl, rfl, by kernel_rfl⟩
theorem k_ref1_Quota_First : FnOk PR cutsOf F_ref1_Quota_First Tryz.f91 C_ref1_Quota_First T_ref1_Quota_First 2 := ⟨Tryz.func91, ⟨_, rfl⟩, by kernel_rfl, rfl, rfl, by kernel_rfl⟩
theorem k_ref1_NewSpace : FnOk PR cutsOf F_ref1_NewSpace Tryz.f92 C_ref1_NewSpace T_ref1_NewSpace 1 := ⟨Tryz.func92, ⟨_, rfl⟩, by kernel_rfl, rfl, rfl, by kernel_rfl⟩
theorem k_ref1_NewSect : FnOk PR cutsOf F_ref1_NewSect Tryz.f93 C_ref1_NewSect T_ref1_NewSect 1 := ⟨Tryz.func93, ⟨_, rfl⟩, by kernel_rfl, rfl, rfl, by kernel_rfl⟩
theorem k_ref1_Regions_Add : FnOk PR cutsOf F_ref1_Regions_Add Tryz.f94 C_ref1_Regions_Add T_ref1_Regions_Add 3 := ⟨Tryz.func94, ⟨_, rfl⟩, by kernel_rfl, rfl, rfl, by kernel_rfl⟩
theorem k_ref1_in : FnOk PR cutsOf F_ref1_in Tryz.f95 C_ref1_in T_ref1_in 2 := ⟨Tryz.func95, ⟨_, rfl⟩, by kernel_rfl, rfl, rfl, by kernel_rfl⟩
theorem k_ref1_Space_Put : FnOk PR cutsOf F_ref1_Space_Put Tryz.f96 C_ref1_Space_Put T_ref1_Space_Put 3 := ⟨Tryz.func96, ⟨_, rfl⟩, by kernel_rfl, rfl, rfl, by kernel_rfl⟩
theorem k_ref15_FrontBytes : FnOk PR cutsOf F_ref15_FrontBytes Tryz.f97 C_ref15_FrontBytes T_ref15_FrontBytes 1 := ⟨Tryz.func97, ⟨_, rfl⟩, by kernel_rfl, rfl, rfl, by kernel_rfl⟩
theorem k_ref1_Regions_Read : FnOk PR cutsOf F_ref1_Regions_Read Tryz.f98 C_ref1_Regions_Read T_ref1_Regions_Read 5 := ⟨Tryz.func98, ⟨_, rfl⟩, by kernel_rfl, rfl, rfl, by kernel_rfl⟩
theorem k_ref1_Regions_Write : FnOk PR cutsOf F_ref1_Regions_Write Tryz.f99 C_ref1_Regions_Write T_ref1_Regions_Write 5 := ⟨Tryz.func99, ⟨_, rfl⟩, by kernel_rfl, rfl, rfl, by kernel_rfl⟩
theorem k_ref1_Regions_Copy : FnOk PR cutsOf F_ref1_Regions_Copy Tryz.f100 C_ref1_Regions_Copy T_ref1_Regions_Copy 7 := ⟨Tryz.func100, ⟨_, rfl⟩, by kernel_rfl, rfl, rfl, by kernel_rfl⟩
theorem k_ref1_Space_Grant : FnOk PR cutsOf F_ref1_Space_Grant Tryz.f101 C_ref1_Space_Grant T_ref1_Space_Grant 7 := ⟨Tryz.func101, ⟨_, rfl⟩, by kernel_rfl, rfl, rfl, by kernel_rfl⟩
theorem k_ref1_Space_Revoke : FnOk PR cutsOf F_ref1_Space_Revoke Tryz.f102 C_ref1_Space_Revoke T_ref1_Space_Revoke 3 := ⟨Tryz.func102, ⟨_, rfl⟩, by kernel_rfl, rfl, rfl, by kernel_rfl⟩
theorem k_ref1_Quota_Alloc : FnOk PR cutsOf F_ref1_Quota_Alloc Tryz.f103 C_ref1_Quota_Alloc T_ref1_Quota_Alloc 2 := ⟨Tryz.func103, ⟨_, rfl⟩, by kernel_rfl, rfl, rfl, by kernel_rfl⟩
theorem k_ref1_Quota_Free : FnOk PR cutsOf F_ref1_Quota_Free Tryz.f104 C_ref1_Quota_Free T_ref1_Quota_Free 3 := ⟨Tryz.func104, ⟨_, rfl⟩, by kernel_rfl, rfl, rfl, by kernel_rfl⟩
theorem k_ref1_Kern_may : FnOk PR cutsOf F_ref1_Kern_may Tryz.f105 C_ref1_Kern_may T_ref1_Kern_may 3 := ⟨Tryz.func105, ⟨_, rfl⟩, by kernel_rfl, rfl, rfl, by kernel_rfl⟩
theorem k_ref1_Sect_Enter : FnOk PR cutsOf F_ref1_Sect_Enter Tryz.f106 C_ref1_Sect_Enter T_ref1_Sect_Enter 3 := ⟨Tryz.func106, ⟨_, rfl⟩, by kernel_rfl, rfl, rfl, by kernel_rfl⟩
theorem k_ref1_Sect_Leave : FnOk PR cutsOf F_ref1_Sect_Leave Tryz.f107 C_ref1_Sect_Leave T_ref1_Sect_Leave 3 := ⟨Tryz.func107, ⟨_, rfl⟩, by kernel_rfl, rfl, rfl, by kernel_rfl⟩
theorem k_ref1_Space_All : FnOk PR cutsOf F_ref1_Space_All Tryz.f108 C_ref1_Space_All T_ref1_Space_All 2 := ⟨Tryz.func108, ⟨_, rfl⟩, by kernel_rfl, rfl, rfl, by kernel_rfl⟩
theorem k_table_Table_api_Cap_name : FnOk PR cutsOf F_table_Table_api_Cap_name Tryz.f109 C_table_Table_api_Cap_name T_table_Table_api_Cap_name 2 := ⟨Tryz.func109, ⟨_, rfl⟩, by kernel_rfl, rfl, rfl, by kernel_rfl⟩
theorem k_region_Regions_Read : FnOk PR cutsOf F_region_Regions_Read Tryz.f110 C_region_Regions_Read T_region_Regions_Read 5 := ⟨Tryz.func110, ⟨_, rfl⟩, by kernel_rfl, rfl, rfl, by kernel_rfl⟩
theorem k_region_Regions_Write : FnOk PR cutsOf F_region_Regions_Write Tryz.f111 C_region_Regions_Write T_region_Regions_Write 5 := ⟨Tryz.func111, ⟨_, rfl⟩, by kernel_rfl, rfl, rfl, by kernel_rfl⟩
theorem k_region_Regions_Copy : FnOk PR cutsOf F_region_Regions_Copy Tryz.f112 C_region_Regions_Copy T_region_Regions_Copy 7 := ⟨Tryz.func112, ⟨_, rfl⟩, by kernel_rfl, rfl, rfl, by kernel_rfl⟩
theorem k_caps_Space_Grant : FnOk PR cutsOf F_caps_Space_Grant Tryz.f113 C_caps_Space_Grant T_caps_Space_Grant 7 := ⟨Tryz.func113, ⟨_, rfl⟩, by kernel_rfl, rfl, rfl, by kernel_rfl⟩
theorem k_caps_Space_Revoke : FnOk PR cutsOf F_caps_Space_Revoke Tryz.f114 C_caps_Space_Revoke T_caps_Space_Revoke 3 := ⟨Tryz.func114, ⟨_, rfl⟩, by kernel_rfl, rfl, rfl, by kernel_rfl⟩
theorem k_quota_Quota_Alloc : FnOk PR cutsOf F_quota_Quota_Alloc Tryz.f115 C_quota_Quota_Alloc T_quota_Quota_Alloc 2 := ⟨Tryz.func115, ⟨_, rfl⟩, by kernel_rfl, rfl, rfl, by kernel_rfl⟩
theorem k_quota_Quota_Free : FnOk PR cutsOf F_quota_Quota_Free Tryz.f116 C_quota_Quota_Free T_quota_Quota_Free 3 := ⟨Tryz.func116, ⟨_, rfl⟩, by kernel_rfl, rfl, rfl, by kernel_rfl⟩
theorem k_kern_Kern_enter : FnOk PR cutsOf F_kern_Kern_enter Tryz.f117 C_kern_Kern_enter T_kern_Kern_enter 3 := ⟨Tryz.func117, ⟨_, rfl⟩, by kernel_rfl, rfl, rfl, by kernel_rfl⟩
theorem k_kern_Kern_leave : FnOk PR cutsOf F_kern_Kern_leave Tryz.f118 C_kern_Kern_leave T_kern_Kern_leave 3 := ⟨Tryz.func118, ⟨_, rfl⟩, by kernel_rfl, rfl, rfl, by kernel_rfl⟩
theorem k_commons_Commons_read : FnOk PR cutsOf F_commons_Commons_read Tryz.f119 C_commons_Commons_read T_commons_Commons_read 2 := ⟨Tryz.func119, ⟨_, rfl⟩, by kernel_rfl, rfl, rfl, by kernel_rfl⟩
theorem k_codec_Blank : FnOk PR cutsOf F_codec_Blank Tryz.f120 C_codec_Blank T_codec_Blank 1 := ⟨Tryz.func120, ⟨_, rfl⟩, by kernel_rfl, rfl, rfl, by kernel_rfl⟩
theorem k_pslot_Codec : FnOk PR cutsOf F_pslot_Codec Tryz.f121 C_pslot_Codec T_pslot_Codec 0 := ⟨Tryz.func121, ⟨_, rfl⟩, by kernel_rfl, rfl, rfl, by kernel_rfl⟩
theorem k_codec_Codec_api_Proc_Decode : FnOk PR cutsOf F_codec_Codec_api_Proc_Decode Tryz.f122 C_codec_Codec_api_Proc_Decode T_codec_Codec_api_Proc_Decode 2 := ⟨Tryz.func122, ⟨_, rfl⟩, by kernel_rfl, rfl, rfl, by kernel_rfl⟩
theorem k_ofile_Codec : FnOk PR cutsOf F_ofile_Codec Tryz.f123 C_ofile_Codec T_ofile_Codec 0 := ⟨Tryz.func123, ⟨_, rfl⟩, by kernel_rfl, rfl, rfl, by kernel_rfl⟩
theorem k_codec_Codec_api_File_Decode : FnOk PR cutsOf F_codec_Codec_api_File_Decode Tryz.f124 C_codec_Codec_api_File_Decode T_codec_Codec_api_File_Decode 2 := ⟨Tryz.func124, ⟨_, rfl⟩, by kernel_rfl, rfl, rfl, by kernel_rfl⟩
theorem k_ring_Codec : FnOk PR cutsOf F_ring_Codec Tryz.f125 C_ring_Codec T_ring_Codec 0 := ⟨Tryz.func125, ⟨_, rfl⟩, by kernel_rfl, rfl, rfl, by kernel_rfl⟩
theorem k_codec_Codec_api_Pipe_Decode : FnOk PR cutsOf F_codec_Codec_api_Pipe_Decode Tryz.f126 C_codec_Codec_api_Pipe_Decode T_codec_Codec_api_Pipe_Decode 2 := ⟨Tryz.func126, ⟨_, rfl⟩, by kernel_rfl, rfl, rfl, by kernel_rfl⟩
theorem k_codec_Codec_api_Proc_Encode : FnOk PR cutsOf F_codec_Codec_api_Proc_Encode Tryz.f127 C_codec_Codec_api_Proc_Encode T_codec_Codec_api_Proc_Encode 2 := ⟨Tryz.func127, ⟨_, rfl⟩, by kernel_rfl, rfl, rfl, by kernel_rfl⟩
theorem k_commons_Commons_place : FnOk PR cutsOf F_commons_Commons_place Tryz.f128 C_commons_Commons_place T_commons_Commons_place 2 := ⟨Tryz.func128, ⟨_, rfl⟩, by kernel_rfl, rfl, rfl, by kernel_rfl⟩
theorem k_codec_Sum : FnOk PR cutsOf F_codec_Sum Tryz.f129 C_codec_Sum T_codec_Sum 1 := ⟨Tryz.func129, ⟨_, rfl⟩, by kernel_rfl, rfl, rfl, by kernel_rfl⟩
theorem k_ref1_Sum : FnOk PR cutsOf F_ref1_Sum Tryz.f130 C_ref1_Sum T_ref1_Sum 1 := ⟨Tryz.func130, ⟨_, rfl⟩, by kernel_rfl, rfl, rfl, by kernel_rfl⟩
theorem k_ref1_Two : FnOk PR cutsOf F_ref1_Two Tryz.f131 C_ref1_Two T_ref1_Two 1 := ⟨Tryz.func131, ⟨_, rfl⟩, by kernel_rfl, rfl, rfl, by kernel_rfl⟩
theorem k_commons_Commons_Look : FnOk PR cutsOf F_commons_Commons_Look Tryz.f132 C_commons_Commons_Look T_commons_Commons_Look 1 := ⟨Tryz.func132, ⟨_, rfl⟩, by kernel_rfl, rfl, rfl, by kernel_rfl⟩
theorem k_mem_Mem_in : FnOk PR cutsOf F_mem_Mem_in Tryz.f133 C_mem_Mem_in T_mem_Mem_in 3 := ⟨Tryz.func133, ⟨_, rfl⟩, by kernel_rfl, rfl, rfl, by kernel_rfl⟩
theorem k_slices_Clone_s_byte_byte : FnOk PR cutsOf F_slices_Clone_s_byte_byte Tryz.f134 C_slices_Clone_s_byte_byte T_slices_Clone_s_byte_byte 1 := ⟨Tryz.func134, ⟨_, rfl⟩, by kernel_rfl, rfl, rfl, by kernel_rfl⟩
theorem k_fds_fdsOf_1 : FnOk PR cutsOf F_fds_fdsOf_1 Tryz.f135 C_fds_fdsOf_1 T_fds_fdsOf_1 2 := ⟨Tryz.func135, ⟨_, rfl⟩, by kernel_rfl, rfl, rfl, by kernel_rfl⟩
theorem k_ring_Encode : FnOk PR cutsOf F_ring_Encode Tryz.f136 C_ring_Encode T_ring_Encode 1 := ⟨Tryz.func136, ⟨_, rfl⟩, by kernel_rfl, rfl, rfl, by kernel_rfl⟩
theorem k_ofile_Encode : FnOk PR cutsOf F_ofile_Encode Tryz.f137 C_ofile_Encode T_ofile_Encode 1 := ⟨Tryz.func137, ⟨_, rfl⟩, by kernel_rfl, rfl, rfl, by kernel_rfl⟩
theorem k_commons_Commons_FreePipe : FnOk PR cutsOf F_commons_Commons_FreePipe Tryz.f138 C_commons_Commons_FreePipe T_commons_Commons_FreePipe 2 := ⟨Tryz.func138, ⟨_, rfl⟩, by kernel_rfl, rfl, rfl, by kernel_rfl⟩
theorem k_kern_check_1 : FnOk PR cutsOf F_kern_check_1 Tryz.f139 C_kern_check_1 T_kern_check_1 2 := ⟨Tryz.func139, ⟨_, rfl⟩, by kernel_rfl, rfl, rfl, by kernel_rfl⟩
theorem k_slices_ContainsFunc_s_int_int : FnOk PR cutsOf F_slices_ContainsFunc_s_int_int Tryz.f140 C_slices_ContainsFunc_s_int_int T_slices_ContainsFunc_s_int_int 2 := ⟨Tryz.func140, ⟨_, rfl⟩, by kernel_rfl, rfl, rfl, by kernel_rfl⟩
theorem k_kern_share : FnOk PR cutsOf F_kern_share Tryz.f141 C_kern_share T_kern_share 2 := ⟨Tryz.func141, ⟨_, rfl⟩, by kernel_rfl, rfl, rfl, by kernel_rfl⟩
theorem k_table_New_api_Cap : FnOk PR cutsOf F_table_New_api_Cap Tryz.f142 C_table_New_api_Cap T_table_New_api_Cap 1 := ⟨Tryz.func142, ⟨_, rfl⟩, by kernel_rfl, rfl, rfl, by kernel_rfl⟩
theorem k_mem_Mem_Size : FnOk PR cutsOf F_mem_Mem_Size Tryz.f143 C_mem_Mem_Size T_mem_Mem_Size 1 := ⟨Tryz.func143, ⟨_, rfl⟩, by kernel_rfl, rfl, rfl, by kernel_rfl⟩
theorem k_slices_Index_s_int_int : FnOk PR cutsOf F_slices_Index_s_int_int Tryz.f144 C_slices_Index_s_int_int T_slices_Index_s_int_int 2 := ⟨Tryz.func144, ⟨_, rfl⟩, by kernel_rfl, rfl, rfl, by kernel_rfl⟩
theorem k_caps_Space_Put_1 : FnOk PR cutsOf F_caps_Space_Put_1 Tryz.f145 C_caps_Space_Put_1 T_caps_Space_Put_1 1 := ⟨Tryz.func145, ⟨_, rfl⟩, by kernel_rfl, rfl, rfl, by kernel_rfl⟩
theorem k_caps_Space_add : FnOk PR cutsOf F_caps_Space_add Tryz.f146 C_caps_Space_add T_caps_Space_add 3 := ⟨Tryz.func146, ⟨_, rfl⟩, by kernel_rfl, rfl, rfl, by kernel_rfl⟩
theorem k_ref1_NewNames : FnOk PR cutsOf F_ref1_NewNames Tryz.f147 C_ref1_NewNames T_ref1_NewNames 1 := ⟨Tryz.func147, ⟨_, rfl⟩, by kernel_rfl, rfl, rfl, by kernel_rfl⟩
theorem k_ref1_Within : FnOk PR cutsOf F_ref1_Within Tryz.f148 C_ref1_Within T_ref1_Within 3 := ⟨Tryz.func148, ⟨_, rfl⟩, by kernel_rfl, rfl, rfl, by kernel_rfl⟩
theorem k_ref1_Space_env : FnOk PR cutsOf F_ref1_Space_env Tryz.f149 C_ref1_Space_env T_ref1_Space_env 2 := ⟨Tryz.func149, ⟨_, rfl⟩, by kernel_rfl, rfl, rfl, by kernel_rfl⟩
theorem k_ref1_Space_add : FnOk PR cutsOf F_ref1_Space_add Tryz.f150 C_ref1_Space_add T_ref1_Space_add 3 := ⟨Tryz.func150, ⟨_, rfl⟩, by kernel_rfl, rfl, rfl, by kernel_rfl⟩
theorem k_ref1_Regions_place : FnOk PR cutsOf F_ref1_Regions_place Tryz.f151 C_ref1_Regions_place T_ref1_Regions_place 6 := ⟨Tryz.func151, ⟨_, rfl⟩, by kernel_rfl, rfl, rfl, by kernel_rfl⟩
theorem k_ref1_Space_Get : FnOk PR cutsOf F_ref1_Space_Get Tryz.f152 C_ref1_Space_Get T_ref1_Space_Get 3 := ⟨Tryz.func152, ⟨_, rfl⟩, by kernel_rfl, rfl, rfl, by kernel_rfl⟩
theorem k_ref1_Space_Under : FnOk PR cutsOf F_ref1_Space_Under Tryz.f153 C_ref1_Space_Under T_ref1_Space_Under 3 := ⟨Tryz.func153, ⟨_, rfl⟩, by kernel_rfl, rfl, rfl, by kernel_rfl⟩
theorem k_ref1_Names_Drop : FnOk PR cutsOf F_ref1_Names_Drop Tryz.f154 C_ref1_Names_Drop T_ref1_Names_Drop 2 := ⟨Tryz.func154, ⟨_, rfl⟩, by kernel_rfl, rfl, rfl, by kernel_rfl⟩
theorem k_ref1_Quota_Owns : FnOk PR cutsOf F_ref1_Quota_Owns Tryz.f155 C_ref1_Quota_Owns T_ref1_Quota_Owns 3 := ⟨Tryz.func155, ⟨_, rfl⟩, by kernel_rfl, rfl, rfl, by kernel_rfl⟩
theorem k_ref1_Sect_at : FnOk PR cutsOf F_ref1_Sect_at Tryz.f156 C_ref1_Sect_at T_ref1_Sect_at 2 := ⟨Tryz.func156, ⟨_, rfl⟩, by kernel_rfl, rfl, rfl, by kernel_rfl⟩
theorem k_ref1_Sect_drop : FnOk PR cutsOf F_ref1_Sect_drop Tryz.f157 C_ref1_Sect_drop T_ref1_Sect_drop 2 := ⟨Tryz.func157, ⟨_, rfl⟩, by kernel_rfl, rfl, rfl, by kernel_rfl⟩
theorem k_ref1_Sect_Holds : FnOk PR cutsOf F_ref1_Sect_Holds Tryz.f158 C_ref1_Sect_Holds T_ref1_Sect_Holds 3 := ⟨Tryz.func158, ⟨_, rfl⟩, by kernel_rfl, rfl, rfl, by kernel_rfl⟩
theorem k_ref1_Names_All : FnOk PR cutsOf F_ref1_Names_All Tryz.f159 C_ref1_Names_All T_ref1_Names_All 1 := ⟨Tryz.func159, ⟨_, rfl⟩, by kernel_rfl, rfl, rfl, by kernel_rfl⟩
theorem k_region_Regions_place : FnOk PR cutsOf F_region_Regions_place Tryz.f160 C_region_Regions_place T_region_Regions_place 6 := ⟨Tryz.func160, ⟨_, rfl⟩, by kernel_rfl, rfl, rfl, by kernel_rfl⟩
theorem k_mem_Mem_Store : FnOk PR cutsOf F_mem_Mem_Store Tryz.f161 C_mem_Mem_Store T_mem_Mem_Store 3 := ⟨Tryz.func161, ⟨_, rfl⟩, by kernel_rfl, rfl, rfl, by kernel_rfl⟩
theorem k_caps_Space_Get : FnOk PR cutsOf F_caps_Space_Get Tryz.f162 C_caps_Space_Get T_caps_Space_Get 3 := ⟨Tryz.func162, ⟨_, rfl⟩, by kernel_rfl, rfl, rfl, by kernel_rfl⟩
theorem k_caps_Space_Under : FnOk PR cutsOf F_caps_Space_Under Tryz.f163 C_caps_Space_Under T_caps_Space_Under 3 := ⟨Tryz.func163, ⟨_, rfl⟩, by kernel_rfl, rfl, rfl, by kernel_rfl⟩
theorem k_table_Table_api_Cap_Drop : FnOk PR cutsOf F_table_Table_api_Cap_Drop Tryz.f164 C_table_Table_api_Cap_Drop T_table_Table_api_Cap_Drop 2 := ⟨Tryz.func164, ⟨_, rfl⟩, by kernel_rfl, rfl, rfl, by kernel_rfl⟩
theorem k_quota_Quota_is : FnOk PR cutsOf F_quota_Quota_is Tryz.f165 C_quota_Quota_is T_quota_Quota_is 2 := ⟨Tryz.func165, ⟨_, rfl⟩, by kernel_rfl, rfl, rfl, by kernel_rfl⟩
theorem k_quota_Quota_Owns : FnOk PR cutsOf F_quota_Quota_Owns Tryz.f166 C_quota_Quota_Owns T_quota_Quota_Owns 3 := ⟨Tryz.func166, ⟨_, rfl⟩, by kernel_rfl, rfl, rfl, by kernel_rfl⟩
theorem k_kern_Kern_sect : FnOk PR cutsOf F_kern_Kern_sect Tryz.f167 C_kern_Kern_sect T_kern_Kern_sect 3 := ⟨Tryz.func167, ⟨_, rfl⟩, by kernel_rfl, rfl, rfl, by kernel_rfl⟩
theorem k_sect_Sect_Enter : FnOk PR cutsOf F_sect_Sect_Enter Tryz.f168 C_sect_Sect_Enter T_sect_Sect_Enter 3 := ⟨Tryz.func168, ⟨_, rfl⟩, by kernel_rfl, rfl, rfl, by kernel_rfl⟩
theorem k_sect_Sect_Leave : FnOk PR cutsOf F_sect_Sect_Leave Tryz.f169 C_sect_Sect_Leave T_sect_Sect_Leave 3 := ⟨Tryz.func169, ⟨_, rfl⟩, by kernel_rfl, rfl, rfl, by kernel_rfl⟩
theorem k_slices_ContainsFunc_s_byte_byte : FnOk PR cutsOf F_slices_ContainsFunc_s_byte_byte Tryz.f170 C_slices_ContainsFunc_s_byte_byte T_slices_ContainsFunc_s_byte_byte 2 := ⟨Tryz.func170, ⟨_, rfl⟩, by kernel_rfl, rfl, rfl, by kernel_rfl⟩
theorem k_codec_Blank_1 : FnOk PR cutsOf F_codec_Blank_1 Tryz.f171 C_codec_Blank_1 T_codec_Blank_1 1 := ⟨Tryz.func171, ⟨_, rfl⟩, by kernel_rfl, rfl, rfl, by kernel_rfl⟩
theorem k_codec_New_api_Proc : FnOk PR cutsOf F_codec_New_api_Proc Tryz.f172 C_codec_New_api_Proc T_codec_New_api_Proc 3 := ⟨Tryz.func172, ⟨_, rfl⟩, by kernel_rfl, rfl, rfl, by kernel_rfl⟩
theorem k_pslot_put : FnOk PR cutsOf F_pslot_put Tryz.f173 C_pslot_put T_pslot_put 2 := ⟨Tryz.func173, ⟨_, rfl⟩, by kernel_rfl, rfl, rfl, by kernel_rfl⟩
theorem k_pslot_get : FnOk PR cutsOf F_pslot_get Tryz.f174 C_pslot_get T_pslot_get 1 := ⟨Tryz.func174, ⟨_, rfl⟩, by kernel_rfl, rfl, rfl, by kernel_rfl⟩
theorem k_codec_New_api_File : FnOk PR cutsOf F_codec_New_api_File Tryz.f175 C_codec_New_api_File T_codec_New_api_File 3 := ⟨Tryz.func175, ⟨_, rfl⟩, by kernel_rfl, rfl, rfl, by kernel_rfl⟩
theorem k_ofile_put : FnOk PR cutsOf F_ofile_put Tryz.f176 C_ofile_put T_ofile_put 2 := ⟨Tryz.func176, ⟨_, rfl⟩, by kernel_rfl, rfl, rfl, by kernel_rfl⟩
theorem k_ofile_get : FnOk PR cutsOf F_ofile_get Tryz.f177 C_ofile_get T_ofile_get 1 := ⟨Tryz.func177, ⟨_, rfl⟩, by kernel_rfl, rfl, rfl, by kernel_rfl⟩
theorem k_codec_New_api_Pipe : FnOk PR cutsOf F_codec_New_api_Pipe Tryz.f178 C_codec_New_api_Pipe T_codec_New_api_Pipe 3 := ⟨Tryz.func178, ⟨_, rfl⟩, by kernel_rfl, rfl, rfl, by kernel_rfl⟩
theorem k_ring_put : FnOk PR cutsOf F_ring_put Tryz.f179 C_ring_put T_ring_put 2 := ⟨Tryz.func179, ⟨_, rfl⟩, by kernel_rfl, rfl, rfl, by kernel_rfl⟩
theorem k_ring_get : FnOk PR cutsOf F_ring_get Tryz.f180 C_ring_get T_ring_get 1 := ⟨Tryz.func180, ⟨_, rfl⟩, by kernel_rfl, rfl, rfl, by kernel_rfl⟩
theorem k_codec_Codec_api_Pipe_Encode : FnOk PR cutsOf F_codec_Codec_api_Pipe_Encode Tryz.f181 C_codec_Codec_api_Pipe_Encode T_codec_Codec_api_Pipe_Encode 2 := ⟨Tryz.func181, ⟨_, rfl⟩, by kernel_rfl, rfl, rfl, by kernel_rfl⟩
theorem k_codec_Codec_api_File_Encode : FnOk PR cutsOf F_codec_Codec_api_File_Encode Tryz.f182 C_codec_Codec_api_File_Encode T_codec_Codec_api_File_Encode 2 := ⟨Tryz.func182, ⟨_, rfl⟩, by kernel_rfl, rfl, rfl, by kernel_rfl⟩
theorem k_slices_IndexFunc_s_int_int : FnOk PR cutsOf F_slices_IndexFunc_s_int_int Tryz.f183 C_slices_IndexFunc_s_int_int T_slices_IndexFunc_s_int_int 2 := ⟨Tryz.func183, ⟨_, rfl⟩, by kernel_rfl, rfl, rfl, by kernel_rfl⟩
theorem k_table_Table_api_Cap_Add : FnOk PR cutsOf F_table_Table_api_Cap_Add Tryz.f184 C_table_Table_api_Cap_Add T_table_Table_api_Cap_Add 2 := ⟨Tryz.func184, ⟨_, rfl⟩, by kernel_rfl, rfl, rfl, by kernel_rfl⟩
theorem k_ref1_Names_Add : FnOk PR cutsOf F_ref1_Names_Add Tryz.f185 C_ref1_Names_Add T_ref1_Names_Add 1 := ⟨Tryz.func185, ⟨_, rfl⟩, by kernel_rfl, rfl, rfl, by kernel_rfl⟩
theorem k_ref1_Names_Has : FnOk PR cutsOf F_ref1_Names_Has Tryz.f186 C_ref1_Names_Has T_ref1_Names_Has 2 := ⟨Tryz.func186, ⟨_, rfl⟩, by kernel_rfl, rfl, rfl, by kernel_rfl⟩
theorem k_ref1_has : FnOk PR cutsOf F_ref1_has Tryz.f187 C_ref1_has T_ref1_has 2 := ⟨Tryz.func187, ⟨_, rfl⟩, by kernel_rfl, rfl, rfl, by kernel_rfl⟩
theorem k_ref1_rising : FnOk PR cutsOf F_ref1_rising Tryz.f188 C_ref1_rising T_ref1_rising 1 := ⟨Tryz.func188, ⟨_, rfl⟩, by kernel_rfl, rfl, rfl, by kernel_rfl⟩
theorem k_table_Table_api_Cap_Get : FnOk PR cutsOf F_table_Table_api_Cap_Get Tryz.f189 C_table_Table_api_Cap_Get T_table_Table_api_Cap_Get 2 := ⟨Tryz.func189, ⟨_, rfl⟩, by kernel_rfl, rfl, rfl, by kernel_rfl⟩
theorem k_slices_SortFunc_s_api_Ref_api_Ref : FnOk PR cutsOf F_slices_SortFunc_s_api_Ref_api_Ref Tryz.f190 C_slices_SortFunc_s_api_Ref_api_Ref T_slices_SortFunc_s_api_Ref_api_Ref 2 := ⟨Tryz.func190, ⟨_, rfl⟩, by kernel_rfl, rfl, rfl, by kernel_rfl⟩
theorem k_caps_Space_Under_1 : FnOk PR cutsOf F_caps_Space_Under_1 Tryz.f191 C_caps_Space_Under_1 T_caps_Space_Under_1 2 := ⟨Tryz.func191, ⟨_, rfl⟩, by kernel_rfl, rfl, rfl, by kernel_rfl⟩
theorem k_table_Table_api_Cap_at : FnOk PR cutsOf F_table_Table_api_Cap_at Tryz.f192 C_table_Table_api_Cap_at T_table_Table_api_Cap_at 2 := ⟨Tryz.func192, ⟨_, rfl⟩, by kernel_rfl, rfl, rfl, by kernel_rfl⟩
theorem k_sect_Sect_Holds : FnOk PR cutsOf F_sect_Sect_Holds Tryz.f193 C_sect_Sect_Holds T_sect_Sect_Holds 3 := ⟨Tryz.func193, ⟨_, rfl⟩, by kernel_rfl, rfl, rfl, by kernel_rfl⟩
theorem k_slices_IndexFunc_s_byte_byte : FnOk PR cutsOf F_slices_IndexFunc_s_byte_byte Tryz.f194 C_slices_IndexFunc_s_byte_byte T_slices_IndexFunc_s_byte_byte 2 := ⟨Tryz.func194, ⟨_, rfl⟩, by kernel_rfl, rfl, rfl, by kernel_rfl⟩
theorem k_pslot_Ok : FnOk PR cutsOf F_pslot_Ok Tryz.f195 C_pslot_Ok T_pslot_Ok 1 := ⟨Tryz.func195, ⟨_, rfl⟩, by kernel_rfl, rfl, rfl, by kernel_rfl⟩
theorem k_codec_Put2 : FnOk PR cutsOf F_codec_Put2 Tryz.f196 C_codec_Put2 T_codec_Put2 3 := ⟨Tryz.func196, ⟨_, rfl⟩, by kernel_rfl, rfl, rfl, by kernel_rfl⟩
theorem k_codec_Get2 : FnOk PR cutsOf F_codec_Get2 Tryz.f197 C_codec_Get2 T_codec_Get2 2 := ⟨Tryz.func197, ⟨_, rfl⟩, by kernel_rfl, rfl, rfl, by kernel_rfl⟩
theorem k_slices_Equal_s_byte_byte : FnOk PR cutsOf F_slices_Equal_s_byte_byte Tryz.f198 C_slices_Equal_s_byte_byte T_slices_Equal_s_byte_byte 2 := ⟨Tryz.func198, ⟨_, rfl⟩, by kernel_rfl, rfl, rfl, by kernel_rfl⟩
theorem k_ofile_Ok : FnOk PR cutsOf F_ofile_Ok Tryz.f199 C_ofile_Ok T_ofile_Ok 1 := ⟨Tryz.func199, ⟨_, rfl⟩, by kernel_rfl, rfl, rfl, by kernel_rfl⟩
theorem k_ring_Ok : FnOk PR cutsOf F_ring_Ok Tryz.f200 C_ring_Ok T_ring_Ok 1 := ⟨Tryz.func200, ⟨_, rfl⟩, by kernel_rfl, rfl, rfl, by kernel_rfl⟩
theorem k_slices_pdqsortCmpFunc_api_Ref : FnOk PR cutsOf F_slices_pdqsortCmpFunc_api_Ref Tryz.f201 C_slices_pdqsortCmpFunc_api_Ref T_slices_pdqsortCmpFunc_api_Ref 5 := ⟨Tryz.func201, ⟨_, rfl⟩, by kernel_rfl, rfl, rfl, by kernel_rfl⟩
theorem k_math_bits_Len : FnOk PR cutsOf F_math_bits_Len Tryz.f202 C_math_bits_Len T_math_bits_Len 1 := ⟨Tryz.func202, ⟨_, rfl⟩, by kernel_rfl, rfl, rfl, by kernel_rfl⟩
theorem k_pslot_bits : FnOk PR cutsOf F_pslot_bits Tryz.f203 C_pslot_bits T_pslot_bits 2 := ⟨Tryz.func203, ⟨_, rfl⟩, by kernel_rfl, rfl, rfl, by kernel_rfl⟩
theorem k_pslot_Ok_1 : FnOk PR cutsOf F_pslot_Ok_1 Tryz.f204 C_pslot_Ok_1 T_pslot_Ok_1 1 := ⟨Tryz.func204, ⟨_, rfl⟩, by kernel_rfl, rfl, rfl, by kernel_rfl⟩
theorem k_ring_Ok_1 : FnOk PR cutsOf F_ring_Ok_1 Tryz.f205 C_ring_Ok_1 T_ring_Ok_1 2 := ⟨Tryz.func205, ⟨_, rfl⟩, by kernel_rfl, rfl, rfl, by kernel_rfl⟩
theorem k_slices_insertionSortCmpFunc_api_Ref : FnOk PR cutsOf F_slices_insertionSortCmpFunc_api_Ref Tryz.f206 C_slices_insertionSortCmpFunc_api_Ref T_slices_insertionSortCmpFunc_api_Ref 4 := ⟨Tryz.func206, ⟨_, rfl⟩, by kernel_rfl, rfl, rfl, by kernel_rfl⟩
theorem k_slices_heapSortCmpFunc_api_Ref : FnOk PR cutsOf F_slices_heapSortCmpFunc_api_Ref Tryz.f207 C_slices_heapSortCmpFunc_api_Ref T_slices_heapSortCmpFunc_api_Ref 4 := ⟨Tryz.func207, ⟨_, rfl⟩, by kernel_rfl, rfl, rfl, by kernel_rfl⟩
theorem k_slices_breakPatternsCmpFunc_api_Ref : FnOk PR cutsOf F_slices_breakPatternsCmpFunc_api_Ref Tryz.f208 C_slices_breakPatternsCmpFunc_api_Ref T_slices_breakPatternsCmpFunc_api_Ref 4 := ⟨Tryz.func208, ⟨_, rfl⟩, by kernel_rfl, rfl, rfl, by kernel_rfl⟩
theorem k_slices_choosePivotCmpFunc_api_Ref : FnOk PR cutsOf F_slices_choosePivotCmpFunc_api_Ref Tryz.f209 C_slices_choosePivotCmpFunc_api_Ref T_slices_choosePivotCmpFunc_api_Ref 4 := ⟨Tryz.func209, ⟨_, rfl⟩, by kernel_rfl, rfl, rfl, by kernel_rfl⟩
theorem k_slices_reverseRangeCmpFunc_api_Ref : FnOk PR cutsOf F_slices_reverseRangeCmpFunc_api_Ref Tryz.f210 C_slices_reverseRangeCmpFunc_api_Ref T_slices_reverseRangeCmpFunc_api_Ref 4 := ⟨Tryz.func210, ⟨_, rfl⟩, by kernel_rfl, rfl, rfl, by kernel_rfl⟩
theorem k_slices_partialInsertionSortCmpFunc_api_Ref : FnOk PR cutsOf F_slices_partialInsertionSortCmpFunc_api_Ref Tryz.f211 C_slices_partialInsertionSortCmpFunc_api_Ref T_slices_partialInsertionSortCmpFunc_api_Ref 4 := ⟨Tryz.func211, ⟨_, rfl⟩, by kernel_rfl, rfl, rfl, by kernel_rfl⟩
theorem k_slices_partitionEqualCmpFunc_api_Ref : FnOk PR cutsOf F_slices_partitionEqualCmpFunc_api_Ref Tryz.f212 C_slices_partitionEqualCmpFunc_api_Ref T_slices_partitionEqualCmpFunc_api_Ref 5 := ⟨Tryz.func212, ⟨_, rfl⟩, by kernel_rfl, rfl, rfl, by kernel_rfl⟩
theorem k_slices_partitionCmpFunc_api_Ref : FnOk PR cutsOf F_slices_partitionCmpFunc_api_Ref Tryz.f213 C_slices_partitionCmpFunc_api_Ref T_slices_partitionCmpFunc_api_Ref 5 := ⟨Tryz.func213, ⟨_, rfl⟩, by kernel_rfl, rfl, rfl, by kernel_rfl⟩
theorem k_math_bits_Len32 : FnOk PR cutsOf F_math_bits_Len32 Tryz.f214 C_math_bits_Len32 T_math_bits_Len32 1 := ⟨Tryz.func214, ⟨_, rfl⟩, by kernel_rfl, rfl, rfl, by kernel_rfl⟩
theorem k_math_bits_Len64 : FnOk PR cutsOf F_math_bits_Len64 Tryz.f215 C_math_bits_Len64 T_math_bits_Len64 1 := ⟨Tryz.func215, ⟨_, rfl⟩, by kernel_rfl, rfl, rfl, by kernel_rfl⟩
theorem k_slices_siftDownCmpFunc_api_Ref : FnOk PR cutsOf F_slices_siftDownCmpFunc_api_Ref Tryz.f216 C_slices_siftDownCmpFunc_api_Ref T_slices_siftDownCmpFunc_api_Ref 5 := ⟨Tryz.func216, ⟨_, rfl⟩, by kernel_rfl, rfl, rfl, by kernel_rfl⟩
theorem k_slices_nextPowerOfTwo : FnOk PR cutsOf F_slices_nextPowerOfTwo Tryz.f217 C_slices_nextPowerOfTwo T_slices_nextPowerOfTwo 1 := ⟨Tryz.func217, ⟨_, rfl⟩, by kernel_rfl, rfl, rfl, by kernel_rfl⟩
theorem k_slices_xorshift_Next : FnOk PR cutsOf F_slices_xorshift_Next Tryz.f218 C_slices_xorshift_Next T_slices_xorshift_Next 1 := ⟨Tryz.func218, ⟨_, rfl⟩, by kernel_rfl, rfl, rfl, by kernel_rfl⟩
theorem k_slices_medianAdjacentCmpFunc_api_Ref : FnOk PR cutsOf F_slices_medianAdjacentCmpFunc_api_Ref Tryz.f219 C_slices_medianAdjacentCmpFunc_api_Ref T_slices_medianAdjacentCmpFunc_api_Ref 4 := ⟨Tryz.func219, ⟨_, rfl⟩, by kernel_rfl, rfl, rfl, by kernel_rfl⟩
theorem k_slices_medianCmpFunc_api_Ref : FnOk PR cutsOf F_slices_medianCmpFunc_api_Ref Tryz.f220 C_slices_medianCmpFunc_api_Ref T_slices_medianCmpFunc_api_Ref 6 := ⟨Tryz.func220, ⟨_, rfl⟩, by kernel_rfl, rfl, rfl, by kernel_rfl⟩
theorem k_slices_order2CmpFunc_api_Ref : FnOk PR cutsOf F_slices_order2CmpFunc_api_Ref Tryz.f221 C_slices_order2CmpFunc_api_Ref T_slices_order2CmpFunc_api_Ref 5 := ⟨Tryz.func221, ⟨_, rfl⟩, by kernel_rfl, rfl, rfl, by kernel_rfl⟩
end Go.EQ

namespace Go.EQ
open Go Go.NN Go.Proofs
theorem u_int : type_of% Tryz.underlying3 := Tryz.underlying3
theorem u_bool : type_of% Tryz.underlying4 := Tryz.underlying4
end Go.EQ

/- The commons: what one holds for bad another one does not; one record set changes no other -/
import Derived.Test.YthhmplobccgeiaaGreatMc
import Derived.Test.YthhmplobccgeiaaGreatProg
import Derived.KernelRfl
set_option linter.unusedVariables false
set_option linter.unusedSimpArgs false
set_option linter.unusedSectionVars false
namespace Go.EQ
open Go Go.NN Go.Proofs
noncomputable abbrev PR : Program := Tryz.prog
abbrev F_law15_CommonsApart : FuncId := 4
abbrev F_law15_awake : FuncId := 12
abbrev F_law15_Open : FuncId := 13
abbrev F_law15_Plan : FuncId := 14
abbrev F_commons_New : FuncId := 15
abbrev F_commons_Commons_Bad : FuncId := 19
abbrev F_ref11_ProcBytes : FuncId := 20
abbrev F_law11_Proc : FuncId := 21
abbrev F_kern_Kern_Do : FuncId := 22
abbrev F_commons_Commons_Proc : FuncId := 23
abbrev F_commons_Commons_SetProc : FuncId := 24
abbrev F_commons_Commons_FreeProc : FuncId := 25
abbrev F_commons_Commons_View : FuncId := 26
abbrev F_commons_Commons_Term : FuncId := 48
abbrev F_commons_Commons_Front : FuncId := 49
abbrev F_ref15_Boot : FuncId := 50
abbrev F_kern_New : FuncId := 51
abbrev F_ref1_NewKern : FuncId := 52
abbrev F_ref15_Blank : FuncId := 53
abbrev F_ref1_Kern_Do : FuncId := 54
abbrev F_ref15_NewCommons : FuncId := 55
abbrev F_kern_Kern_Space : FuncId := 56
abbrev F_caps_Space_Names : FuncId := 57
abbrev F_ring_Encode : FuncId := 58
abbrev F_commons_Commons_write : FuncId := 59
abbrev F_commons_record_api_Pipe : FuncId := 61
abbrev F_ring_Decode : FuncId := 62
abbrev F_commons_Commons_most : FuncId := 63
abbrev F_ref1_Two : FuncId := 64
abbrev F_ref1_Sum : FuncId := 65
abbrev F_law11_Proc_1 : FuncId := 66
abbrev F_kern_Kern_bytes : FuncId := 67
abbrev F_kern_Kern_number : FuncId := 68
abbrev F_commons_record_api_Proc : FuncId := 69
abbrev F_commons_proc : FuncId := 70
abbrev F_pslot_Decode : FuncId := 71
abbrev F_pslot_Encode : FuncId := 72
abbrev F_commons_Commons_blank : FuncId := 73
abbrev F_commons_FrontBytes : FuncId := 76
abbrev F_ref11_PipeBytes : FuncId := 77
abbrev F_mem_Mem_Load : FuncId := 79
abbrev F_commons_record_int : FuncId := 108
abbrev F_commons_FrontOf : FuncId := 109
abbrev F_kern_check : FuncId := 110
abbrev F_kern_frames : FuncId := 111
abbrev F_slices_Clone_s_int_int : FuncId := 112
abbrev F_mem_New : FuncId := 113
abbrev F_caps_New : FuncId := 114
abbrev F_quota_New : FuncId := 115
abbrev F_region_New : FuncId := 116
abbrev F_sect_New : FuncId := 117
abbrev F_region_Regions_Add : FuncId := 118
abbrev F_quota_Quota_First : FuncId := 119
abbrev F_slices_Contains_s_int_int : FuncId := 120
abbrev F_caps_Space_Put : FuncId := 121
abbrev F_ref1_NewQuota : FuncId := 122
abbrev F_ref1_Quota_First : FuncId := 123
abbrev F_ref1_NewSpace : FuncId := 124
abbrev F_ref1_NewSect : FuncId := 125
abbrev F_ref1_Regions_Add : FuncId := 126
abbrev F_ref1_in : FuncId := 127
abbrev F_ref1_Space_Put : FuncId := 128
abbrev F_ref15_FrontBytes : FuncId := 129
abbrev F_ref1_Regions_Read : FuncId := 130
abbrev F_ref1_Regions_Write : FuncId := 131
abbrev F_ref1_Regions_Copy : FuncId := 132
abbrev F_ref1_Space_Grant : FuncId := 133
abbrev F_ref1_Space_Revoke : FuncId := 134
abbrev F_ref1_Quota_Alloc : FuncId := 135
abbrev F_ref1_Quota_Free : FuncId := 136
abbrev F_ref1_Kern_may : FuncId := 137
abbrev F_ref1_Sect_Enter : FuncId := 138
abbrev F_ref1_Sect_Leave : FuncId := 139
abbrev F_ref1_Space_All : FuncId := 140
abbrev F_caps_Space_is : FuncId := 141
abbrev F_table_Table_api_Cap_Names : FuncId := 142
abbrev F_ring_Codec : FuncId := 143
abbrev F_codec_Codec_api_Pipe_Encode : FuncId := 144
abbrev F_commons_Commons_place : FuncId := 145
abbrev F_commons_Commons_read : FuncId := 146
abbrev F_codec_Blank : FuncId := 147
abbrev F_codec_Codec_api_Pipe_Decode : FuncId := 148
abbrev F_region_Regions_Read : FuncId := 149
abbrev F_region_Regions_Write : FuncId := 150
abbrev F_region_Regions_Copy : FuncId := 151
abbrev F_caps_Space_Grant : FuncId := 152
abbrev F_caps_Space_Revoke : FuncId := 153
abbrev F_quota_Quota_Alloc : FuncId := 154
abbrev F_quota_Quota_Free : FuncId := 155
abbrev F_kern_Kern_enter : FuncId := 156
abbrev F_kern_Kern_leave : FuncId := 157
abbrev F_pslot_Codec : FuncId := 158
abbrev F_codec_Codec_api_Proc_Decode : FuncId := 159
abbrev F_codec_Codec_api_Proc_Encode : FuncId := 160
abbrev F_codec_Sum : FuncId := 163
abbrev F_mem_Mem_in : FuncId := 164
abbrev F_slices_Clone_s_byte_byte : FuncId := 165
abbrev F_kern_check_1 : FuncId := 174
abbrev F_slices_ContainsFunc_s_int_int : FuncId := 175
abbrev F_kern_share : FuncId := 176
abbrev F_table_New_api_Cap : FuncId := 177
abbrev F_mem_Mem_Size : FuncId := 178
abbrev F_slices_Index_s_int_int : FuncId := 179
abbrev F_caps_Space_Put_1 : FuncId := 180
abbrev F_caps_Space_add : FuncId := 181
abbrev F_ref1_NewNames : FuncId := 182
abbrev F_ref1_Within : FuncId := 183
abbrev F_ref1_Space_env : FuncId := 184
abbrev F_ref1_Space_add : FuncId := 185
abbrev F_ref1_Regions_place : FuncId := 186
abbrev F_ref1_Space_Get : FuncId := 187
abbrev F_ref1_Names_All : FuncId := 194
abbrev F_table_Table_api_Cap_name : FuncId := 195
abbrev F_codec_New_api_Pipe : FuncId := 196
abbrev F_ring_put : FuncId := 197
abbrev F_ring_get : FuncId := 198
abbrev F_slices_ContainsFunc_s_byte_byte : FuncId := 199
abbrev F_codec_Blank_1 : FuncId := 200
abbrev F_region_Regions_place : FuncId := 201
abbrev F_mem_Mem_Store : FuncId := 202
abbrev F_caps_Space_Get : FuncId := 203
abbrev F_quota_Quota_is : FuncId := 206
abbrev F_quota_Quota_Owns : FuncId := 207
abbrev F_kern_Kern_sect : FuncId := 208
abbrev F_sect_Sect_Enter : FuncId := 209
abbrev F_sect_Sect_Leave : FuncId := 210
abbrev F_codec_New_api_Proc : FuncId := 211
abbrev F_pslot_put : FuncId := 212
abbrev F_pslot_get : FuncId := 213
abbrev F_slices_IndexFunc_s_int_int : FuncId := 217
abbrev F_table_Table_api_Cap_Add : FuncId := 218
abbrev F_ref1_Names_Add : FuncId := 219
abbrev F_ref1_Names_Has : FuncId := 220
abbrev F_ring_Ok : FuncId := 223
abbrev F_slices_Equal_s_byte_byte : FuncId := 224
abbrev F_slices_IndexFunc_s_byte_byte : FuncId := 225
abbrev F_table_Table_api_Cap_Get : FuncId := 226
abbrev F_table_Table_api_Cap_at : FuncId := 229
abbrev F_sect_Sect_Holds : FuncId := 230
abbrev F_pslot_Ok : FuncId := 231
abbrev F_codec_Put2 : FuncId := 232
abbrev F_codec_Get2 : FuncId := 233
abbrev F_ring_Ok_1 : FuncId := 235
abbrev F_pslot_bits : FuncId := 238
abbrev F_pslot_Ok_1 : FuncId := 239
abbrev Y_int : TypeId := 3
abbrev Y_bool : TypeId := 4
abbrev Y_uint8 : TypeId := 5
abbrev Y_s_bool : TypeId := 30
abbrev Y_api_Plan : TypeId := 33
abbrev Y_api_Pipe : TypeId := 40
abbrev Y_s_int : TypeId := 48
abbrev Y_8_int : TypeId := 50
abbrev Y_api_Proc : TypeId := 52
abbrev Y_api_Answer : TypeId := 55
abbrev Y_api_Call : TypeId := 58
abbrev Y_api_Boot : TypeId := 99
abbrev Y_api_Bridge : TypeId := 109
abbrev Y_commons_Commons : TypeId := 115
abbrev Y_api_Rec : TypeId := 120
abbrev Y_kern_Kern : TypeId := 132
abbrev Y_region_Regions : TypeId := 147
abbrev Y_region_span : TypeId := 150
abbrev Y_api_Share : TypeId := 180
abbrev Y_p_sect_Sect : TypeId := 187
abbrev Y_api_Cap : TypeId := 194
abbrev Y_ref1_Kern : TypeId := 200
abbrev Y_ref1_Regions : TypeId := 204
abbrev Y_p_ref1_Sect : TypeId := 205
abbrev Y_ref15_Commons : TypeId := 218
abbrev Y_p_table_Table_api_Cap : TypeId := 219
abbrev Y_caps_Space : TypeId := 222
abbrev Y_commons_place : TypeId := 227
abbrev Y_mem_Mem : TypeId := 249
abbrev Y_quota_Quota : TypeId := 257
abbrev Y_sect_Sect : TypeId := 259
abbrev Y_ref1_Quota : TypeId := 263
abbrev Y_ref1_Space : TypeId := 267
abbrev Y_p_ref1_Names : TypeId := 268
abbrev Y_s_api_Cap : TypeId := 270
abbrev Y_ref1_Sect : TypeId := 272
abbrev Y_table_Table_api_Cap : TypeId := 283
abbrev Y_table_place_api_Cap : TypeId := 285
abbrev Y_codec_Codec_api_Pipe : TypeId := 289
abbrev Y_codec_Codec_api_Proc : TypeId := 303
abbrev Y_ref1_Names : TypeId := 312
abbrev Y_ref1_place : TypeId := 314
abbrev Y_p_int : TypeId := 328
end Go.EQ

set_option maxRecDepth 100000
namespace Go.EQ
open Go Go.NN Go.Proofs
variable (C : CallFn) (R : RunFn)
noncomputable section
def C_law15_Plan : Cuts := { globs := 0,loops := [],regs := [],plans := [] }
def T_law15_Plan : List Item := bodyOf Tryz.f14
theorem e_law15_Plan  (h : H) :
 exec PR C_law15_Plan C R F_law15_Plan Tryz.f14 100000 true T_law15_Plan [] h =
 nw (.cells Y_api_Plan false [.slice none 0 0,.slice none 0 0,.int .i64 0]) h fun b w=>nw (.cells Y_bool false [.bool false,.bool false]) w fun b_1 w1=>nw (.cells Y_api_Bridge false [.int .i64 0,.int .i64 1,.int .i64 1,.int .i64 0]) w1 fun b_2 w2=>pAgg ⟨b,0,none⟩ [.slice (some ⟨b_1,0,none⟩) 2 2,.slice (some ⟨b_2,0,none⟩) 2 2,.int .i64 5] w2 fun w3=>gAgg ⟨b,0,none⟩ 3 w3 fun x=>some (.agg ⟨x⟩,w3) := by kernel_rfl
def C_commons_Commons_Bad : Cuts := { globs := 0,loops := [(3,[0,3,4]),(6,[0,3,4,13,14])],regs := [],plans := [(9,⟨[0,1,2,3,4,5,6],[0,1,3,7,0,31,63],[],[]⟩)] }
def T_commons_Commons_Bad : List Item := bodyOf Tryz.f19
def T_commons_Commons_Bad_L1 : List Item := stk [0,1,0,1,0,0,1,4,5] T_commons_Commons_Bad
def T_commons_Commons_Bad_L2 : List Item := stk [0,1,0,1,0,0,1,4,5,6,0,1,0,4,0,1,4,5] T_commons_Commons_Bad
theorem e_commons_Commons_Bad (c : Option Addr) (h : H) :
 exec PR C_commons_Commons_Bad C R F_commons_Commons_Bad Tryz.f19 100000 true T_commons_Commons_Bad [(0,.pointer c)] h =
 R F_commons_Commons_Bad T_commons_Commons_Bad_L1 [(0,.pointer c),(3,.slice none 0 0),(4,.int .i64 1)] h := by kernel_rfl
theorem e_commons_Commons_Bad_L1 (c : Option Addr) (out : Option Addr) (outn outc : Nat) (kind : Int) (h : H) :
 exec PR C_commons_Commons_Bad C R F_commons_Commons_Bad Tryz.f19 100000 true T_commons_Commons_Bad_L1 [(0,.pointer c),(3,.slice out outn outc),(4,.int .i64 kind)] h =
 cond (decide (kind ≤ 5))
 (bnd (C F_commons_Commons_most [.pointer c,.int .i64 kind] h) fun r w=>aInt .i64 r fun x=>R F_commons_Commons_Bad T_commons_Commons_Bad_L2 [(0,.pointer c),(3,.slice out outn outc),(4,.int .i64 kind),(13,.int .i64 x),(14,.int .i64 0)] w)
 (some (.slice out outn outc,h)) := by kernel_rfl
theorem e_commons_Commons_Bad_L2 (c : Option Addr) (out : Option Addr) (outn outc : Nat) (kind : Int) (x13 : Int) (x14 : Int) (h : H) :
 exec PR C_commons_Commons_Bad C R F_commons_Commons_Bad Tryz.f19 100000 true T_commons_Commons_Bad_L2 [(0,.pointer c),(3,.slice out outn outc),(4,.int .i64 kind),(13,.int .i64 x13),(14,.int .i64 x14)] h =
 cond (decide (x14 < x13))
 (nw (.cells Y_api_Rec false [.int .i64 0,.int .i64 0]) h fun b w=>pAgg ⟨b,0,none⟩ [.int .i64 kind,.int .i64 x14] w fun w1=>aSome c fun p=>gMap (Addr.add p 3) w1 fun x=>gAgg ⟨b,0,none⟩ 2 w1 fun x_1=>keyN PR Y_api_Rec (.agg ⟨x_1⟩) (opt x fun r=>mapAt w1 r fun es _=>opt (lookM (.int .i64 0) (.agg ⟨x_1⟩) es) fun f=>aInt .i64 f.1 fun x_2=>cond (decide (x_2 > 0))
 (gAgg ⟨b,0,none⟩ 2 w1 fun x_3=>ck (List.length x_3 = 2) (nw (.cells Y_api_Rec false (x_3 ++ [])) w1 fun b_1 w2=>gCells (some ⟨b_1,0,none⟩) (1 * 2) w2 fun cs=>ckB (fitsOpen out Y_api_Rec w2) (apd Y_api_Rec 2 out outn outc 1 cs w2 fun a an ac w3=>R F_commons_Commons_Bad T_commons_Commons_Bad_L2 [(0,.pointer c),(3,.slice a an ac),(4,.int .i64 kind),(13,.int .i64 x13),(14,.int .i64 (IntKind.wrap .i64 (x14 + 1)))] w3)))
 (R F_commons_Commons_Bad T_commons_Commons_Bad_L2 [(0,.pointer c),(3,.slice out outn outc),(4,.int .i64 kind),(13,.int .i64 x13),(14,.int .i64 (IntKind.wrap .i64 (x14 + 1)))] w1)))
 (R F_commons_Commons_Bad T_commons_Commons_Bad_L1 [(0,.pointer c),(3,.slice out outn outc),(4,.int .i64 (IntKind.wrap .i64 (kind + 1)))] h) := by kernel_rfl
def C_law11_Proc : Cuts := { globs := 0,loops := [(13,[2,4,6,7])],regs := [],plans := [(7,⟨[0,4,5,1,2,3,6,7,8],[0,1,3,7,0,16,63,127,255],[(1,[5])],[]⟩)] }
def T_law11_Proc : List Item := bodyOf Tryz.f21
def T_law11_Proc_L1 : List Item := stk [0,1,0,1,0,1,0,1,0,1,0,1,0,1,0,1,0,1,0,1,0,0,1,4,5] T_law11_Proc
theorem e_law11_Proc (l : Option Addr) (ln lc : Nat) (h : H) :
 exec PR C_law11_Proc C R F_law11_Proc Tryz.f21 100000 true T_law11_Proc [(0,.slice l ln lc)] h =
 nw (.cells Y_s_int false [.slice l ln lc]) h fun b w=>nw (.cells Y_api_Proc false [.int .i64 0,.int .i64 0,.int .i64 0,.int .i64 0,.int .i64 0,.int .i64 0,.int .i64 0,.int .i64 0,.int .i64 0,.int .i64 0,.int .i64 0,.int .i64 0,.int .i64 0,.int .i64 0,.int .i64 0,.int .i64 0]) w fun b_1 w1=>nw (.cells Y_int false [.int .i64 0]) w1 fun b_2 w2=>pV ⟨b_2,0,none⟩ (.int .i64 0) w2 fun w3=>bnd (C F_law11_Proc_1 [.pointer (some ⟨b_2,0,none⟩),.pointer (some ⟨b,0,none⟩)] w3) fun r w4=>aInt .i64 r fun x=>nw (.cells Y_int false [.int .i64 1,.int .i64 1,.int .i64 3,.int .i64 2]) w4 fun b_3 w5=>ck ((0 : Int) ≤ bitA .i64 x 3 ∧ bitA .i64 x 3 < ((4 : Nat) : Int)) (gInt .i64 (Addr.add (bare ⟨b_3,0,none⟩) (Int.toNat (bitA .i64 x 3) * 1)) w5 fun x_1=>nw (.cells Y_api_Proc false [.int .i64 0,.int .i64 0,.int .i64 0,.int .i64 0,.int .i64 0,.int .i64 0,.int .i64 0,.int .i64 0,.int .i64 0,.int .i64 0,.int .i64 0,.int .i64 0,.int .i64 0,.int .i64 0,.int .i64 0,.int .i64 0]) w5 fun b_4 w6=>pAgg ⟨b_4,0,none⟩ [.int .i64 x_1,.int .i64 (Int.tmod (bitA .i64 (Int.fdiv x (2 ^ 2)) 15) 9),.int .i64 (bitA .i64 (Int.fdiv x (2 ^ 6)) 7),.int .i64 0,.int .i64 0,.int .i64 0,.int .i64 0,.int .i64 0,.int .i64 0,.int .i64 0,.int .i64 0,.int .i64 0,.int .i64 0,.int .i64 0,.int .i64 0,.int .i64 0] w6 fun w7=>bnd (C F_law11_Proc_1 [.pointer (some ⟨b_2,0,none⟩),.pointer (some ⟨b,0,none⟩)] w7) fun r_1 w8=>aInt .i64 r_1 fun x_2=>pV (Addr.add ⟨b_4,0,none⟩ 5) (.int .i64 (bitN .i64 (bitA .i64 x_2 65534) 16896)) w8 fun w9=>bnd (C F_law11_Proc_1 [.pointer (some ⟨b_2,0,none⟩),.pointer (some ⟨b,0,none⟩)] w9) fun r_2 w10=>aInt .i64 r_2 fun x_3=>bnd (C F_law11_Proc_1 [.pointer (some ⟨b_2,0,none⟩),.pointer (some ⟨b,0,none⟩)] w10) fun r_3 w11=>aInt .i64 r_3 fun x_4=>pV (Addr.add ⟨b_4,0,none⟩ 6) (.int .i64 (bitN .i64 (bitA .i64 (bitA .i64 x_3 x_4) 65534) 16896)) w11 fun w12=>gInt .i64 (Addr.add ⟨b_4,0,none⟩ 6) w12 fun x_5=>bnd (C F_law11_Proc_1 [.pointer (some ⟨b_2,0,none⟩),.pointer (some ⟨b,0,none⟩)] w12) fun r_4 w13=>aInt .i64 r_4 fun x_6=>gInt .i64 (Addr.add ⟨b_4,0,none⟩ 6) w13 fun x_7=>same (.int .i64 x_5) (.int .i64 x_7) (pV (Addr.add ⟨b_4,0,none⟩ 7) (.int .i64 (bitN .i64 (bitN .i64 (bitA .i64 x_6 65534) 16896) x_5)) w13 fun w14=>gInt .i64 (Addr.add ⟨b_4,0,none⟩ 0) w14 fun x_8=>cond (x_8 == 2)
 (pV (Addr.add ⟨b_4,0,none⟩ 3) (.int .i64 (bitA .i64 (Int.fdiv x (2 ^ 9)) 255)) w14 fun w15=>gAgg ⟨b_4,0,none⟩ 16 w15 fun x_9=>ck (List.length x_9 = 16) (pAgg ⟨b_1,0,none⟩ x_9 w15 fun w16=>gAgg ⟨b_1,0,none⟩ 16 w16 fun x_10=>some (.agg ⟨x_10⟩,w16)))
 (bnd (C F_law11_Proc_1 [.pointer (some ⟨b_2,0,none⟩),.pointer (some ⟨b,0,none⟩)] w14) fun r_5 w17=>aInt .i64 r_5 fun x_11=>bnd (C F_law11_Proc_1 [.pointer (some ⟨b_2,0,none⟩),.pointer (some ⟨b,0,none⟩)] w17) fun r_6 w18=>aInt .i64 r_6 fun x_12=>pV (Addr.add ⟨b_4,0,none⟩ 4) (.int .i64 (bitA .i64 (bitA .i64 x_11 x_12) 65534)) w18 fun w19=>R F_law11_Proc T_law11_Proc_L1 [(2,.pointer (some ⟨b_1,0,none⟩)),(4,.func (.func F_law11_Proc_1) ⟨[]⟩ ⟨[.pointer (some ⟨b_2,0,none⟩),.pointer (some ⟨b,0,none⟩)]⟩),(6,.pointer (some ⟨b_4,0,none⟩)),(7,.int .i64 0)] w19))) := by kernel_rfl
theorem e_law11_Proc_L1 (x2 : Addr) (next : Addr) (next_1 : Addr) (p : Addr) (i : Int) (h : H) :
 exec PR C_law11_Proc C R F_law11_Proc Tryz.f21 100000 true T_law11_Proc_L1 [(2,.pointer (some x2)),(4,.func (.func F_law11_Proc_1) ⟨[]⟩ ⟨[.pointer (some next),.pointer (some next_1)]⟩),(6,.pointer (some p)),(7,.int .i64 i)] h =
 cond (decide (i < 8))
 (bnd (C F_law11_Proc_1 [.pointer (some next),.pointer (some next_1)] h) fun r w=>aInt .i64 r fun x=>cond ((bitA .i64 x 3) != 0)
 (ck ((0 : Int) ≤ i ∧ i < ((8 : Nat) : Int)) (pV (Addr.add (Addr.add p 8) (Int.toNat i * 1)) (.int .i64 (Int.tmod (Int.fdiv x (2 ^ 2)) 13)) w fun w1=>R F_law11_Proc T_law11_Proc_L1 [(2,.pointer (some x2)),(4,.func (.func F_law11_Proc_1) ⟨[]⟩ ⟨[.pointer (some next),.pointer (some next_1)]⟩),(6,.pointer (some p)),(7,.int .i64 (IntKind.wrap .i64 (i + 1)))] w1))
 (R F_law11_Proc T_law11_Proc_L1 [(2,.pointer (some x2)),(4,.func (.func F_law11_Proc_1) ⟨[]⟩ ⟨[.pointer (some next),.pointer (some next_1)]⟩),(6,.pointer (some p)),(7,.int .i64 (IntKind.wrap .i64 (i + 1)))] w))
 (gAgg p 16 h fun x_1=>ck (List.length x_1 = 16) (pAgg x2 x_1 h fun w2=>gAgg x2 16 w2 fun x_2=>some (.agg ⟨x_2⟩,w2))) := by kernel_rfl
def C_commons_Commons_View : Cuts := { globs := 0,loops := [],regs := [],plans := [(1,⟨[0,1,2,3,4,5,6,7,8,9,10,11,12,13,14,15,16,17],[0,1,3,7,0,16,48,112,0,256,768,1792,3840,7936,16128,32767,65535,131071],[],[]⟩)] }
def T_commons_Commons_View : List Item := bodyOf Tryz.f26
theorem e_commons_Commons_View (c : Option Addr) (h : H) :
 exec PR C_commons_Commons_View C R F_commons_Commons_View Tryz.f26 100000 true T_commons_Commons_View [(0,.pointer c)] h =
 aSome c fun p=>gPtr (Addr.add p 0) h fun x=>aSome c fun p_1=>gInt .i64 (Addr.add p_1 1) h fun x_1=>aSome c fun p_2=>gSl (Addr.add p_2 2) h fun x_2 xn _=>aSome x_2 fun p_3=>ck ((0 : Int) ≤ 0 ∧ 0 < (xn : Int)) (gInt .i64 (Addr.add (bare p_3) (Int.toNat 0 * 1)) h fun x_3=>bnd (C F_kern_Kern_Do [.pointer x,.int .i64 x_1,.agg ⟨[.int .i64 1,.int .i64 x_3,.int .i64 0,.int .i64 492,.int .i64 0,.int .i64 0,.slice none 0 0]⟩] h) fun r w=>aAgg r fun x_4=>nth x_4 2 fun B=>aSl B fun B_1 Bn Bc=>some (.slice B_1 Bn Bc,w)) := by kernel_rfl
def C_commons_Commons_Term : Cuts := { globs := 0,loops := [],regs := [],plans := [] }
def T_commons_Commons_Term : List Item := bodyOf Tryz.f48
theorem e_commons_Commons_Term (c : Option Addr) (h : H) :
 exec PR C_commons_Commons_Term C R F_commons_Commons_Term Tryz.f48 100000 true T_commons_Commons_Term [(0,.pointer c)] h =
 nw (.cells Y_api_Pipe false [.int .i64 0,.int .i64 0,.int .i64 0,.int .i64 0,.int .u8 0,.int .u8 0,.int .u8 0,.int .u8 0,.int .u8 0,.int .u8 0,.int .u8 0,.int .u8 0,.int .u8 0,.int .u8 0,.int .u8 0,.int .u8 0,.int .u8 0,.int .u8 0,.int .u8 0,.int .u8 0,.int .u8 0,.int .u8 0,.int .u8 0,.int .u8 0,.int .u8 0,.int .u8 0,.int .u8 0,.int .u8 0,.int .u8 0,.int .u8 0,.int .u8 0,.int .u8 0,.int .u8 0,.int .u8 0,.int .u8 0,.int .u8 0]) h fun b w=>bnd (C F_commons_record_api_Pipe [.pointer c,.agg ⟨[.int .i64 4,.int .i64 0]⟩,.func (.func F_ring_Decode) ⟨[]⟩ ⟨[]⟩] w) fun r w1=>as2 r fun r_1 r_2=>aAgg r_1 fun x=>aInt .i64 r_2 fun x_1=>ck (List.length x = 36) (pAgg ⟨b,0,none⟩ x w1 fun w2=>gAgg ⟨b,0,none⟩ 36 w2 fun x_2=>some (.tuple ⟨[.agg ⟨x_2⟩,.int .i64 x_1]⟩,w2)) := by kernel_rfl
def C_commons_Commons_Front : Cuts := { globs := 0,loops := [],regs := [],plans := [] }
def T_commons_Commons_Front : List Item := bodyOf Tryz.f49
theorem e_commons_Commons_Front (c : Option Addr) (h : H) :
 exec PR C_commons_Commons_Front C R F_commons_Commons_Front Tryz.f49 100000 true T_commons_Commons_Front [(0,.pointer c)] h =
 bnd (C F_commons_record_int [.pointer c,.agg ⟨[.int .i64 5,.int .i64 0]⟩,.func (.func F_commons_FrontOf) ⟨[]⟩ ⟨[]⟩] h) fun r w=>as2 r fun r_1 r_2=>aInt .i64 r_1 fun x=>aInt .i64 r_2 fun x_1=>some (.tuple ⟨[.int .i64 x,.bool (x_1 == 1)]⟩,w) := by kernel_rfl
def C_ref15_Boot : Cuts := { globs := 0,loops := [(3,[1,2,3,4]),(7,[1,2,3,4,5]),(13,[1,2,3,6])],regs := [],plans := [] }
def T_ref15_Boot : List Item := bodyOf Tryz.f50
def T_ref15_Boot_L1 : List Item := stk [0,1,0,1,0,0,1,4,5] T_ref15_Boot
def T_ref15_Boot_L2 : List Item := stk [0,1,0,1,0,0,1,4,5,6,0,1,0,4,0,1,0,0,1,4,5] T_ref15_Boot
def T_ref15_Boot_L3 : List Item := stk [0,1,0,1,0,1,0,0,1,4,5] T_ref15_Boot
theorem e_ref15_Boot (p : List Value) (h : H) :
 exec PR C_ref15_Boot C R F_ref15_Boot Tryz.f50 100000 true T_ref15_Boot [(0,.agg ⟨p⟩)] h =
 nw (.cells Y_api_Plan false p) h fun b w=>nw (.cells Y_api_Boot false [.slice none 0 0,.slice none 0 0,.slice none 0 0,.int .i64 0,.slice none 0 0]) w fun b_1 w1=>gInt .i64 (Addr.add ⟨b,0,none⟩ 2) w1 fun x=>nw (.cells Y_api_Boot false [.slice none 0 0,.slice none 0 0,.slice none 0 0,.int .i64 0,.slice none 0 0]) w1 fun b_2 w2=>pAgg ⟨b_2,0,none⟩ [.slice none 0 0,.slice none 0 0,.slice none 0 0,.int .i64 x,.slice none 0 0] w2 fun w3=>R F_ref15_Boot T_ref15_Boot_L1 [(1,.pointer (some ⟨b,0,none⟩)),(2,.pointer (some ⟨b_1,0,none⟩)),(3,.pointer (some ⟨b_2,0,none⟩)),(4,.int .i64 0)] w3 := by kernel_rfl
theorem e_ref15_Boot_L1 (p : Addr) (x2 : Addr) (b : Addr) (s : Int) (h : H) :
 exec PR C_ref15_Boot C R F_ref15_Boot Tryz.f50 100000 true T_ref15_Boot_L1 [(1,.pointer (some p)),(2,.pointer (some x2)),(3,.pointer (some b)),(4,.int .i64 s)] h =
 gSl (Addr.add p 0) h fun _ xn _=>cond (decide (s < (xn : Int)))
 (gSl (Addr.add b 0) h fun x_1 xn_1 xc_1=>nw (.cells Y_int false [.int .i64 20]) h fun b_1 w=>gCells (some ⟨b_1,0,none⟩) (1 * 1) w fun cs=>ckB (fitsOpen x_1 Y_int w) (apd Y_int 1 x_1 xn_1 xc_1 1 cs w fun a an ac w1=>pV (Addr.add b 0) (.slice a an ac) w1 fun w2=>R F_ref15_Boot T_ref15_Boot_L2 [(1,.pointer (some p)),(2,.pointer (some x2)),(3,.pointer (some b)),(4,.int .i64 s),(5,.int .i64 0)] w2))
 (R F_ref15_Boot T_ref15_Boot_L3 [(1,.pointer (some p)),(2,.pointer (some x2)),(3,.pointer (some b)),(6,.int .i64 0)] h) := by kernel_rfl
theorem e_ref15_Boot_L2 (p : Addr) (x2 : Addr) (b : Addr) (s : Int) (i : Int) (h : H) :
 exec PR C_ref15_Boot C R F_ref15_Boot Tryz.f50 100000 true T_ref15_Boot_L2 [(1,.pointer (some p)),(2,.pointer (some x2)),(3,.pointer (some b)),(4,.int .i64 s),(5,.int .i64 i)] h =
 cond (decide (i < 9))
 (gSl (Addr.add b 1) h fun x xn xc=>nw (.cells Y_int false [.int .i64 s]) h fun b_1 w=>gCells (some ⟨b_1,0,none⟩) (1 * 1) w fun cs=>ckB (fitsOpen x Y_int w) (apd Y_int 1 x xn xc 1 cs w fun a an ac w1=>pV (Addr.add b 1) (.slice a an ac) w1 fun w2=>R F_ref15_Boot T_ref15_Boot_L2 [(1,.pointer (some p)),(2,.pointer (some x2)),(3,.pointer (some b)),(4,.int .i64 s),(5,.int .i64 (IntKind.wrap .i64 (i + 1)))] w2))
 (gSl (Addr.add b 2) h fun x_1 xn_1 xc_1=>nw (.cells Y_int false [.int .i64 s]) h fun b_2 w3=>nw (.cells Y_s_int false [.slice (some ⟨b_2,0,none⟩) 1 1]) w3 fun b_3 w4=>gCells (some ⟨b_3,0,none⟩) (1 * 1) w4 fun cs_1=>ckB (fitsOpen x_1 Y_s_int w4) (apd Y_s_int 1 x_1 xn_1 xc_1 1 cs_1 w4 fun a_1 an_1 ac_1 w5=>pV (Addr.add b 2) (.slice a_1 an_1 ac_1) w5 fun w6=>gSl (Addr.add b 4) w6 fun x_2 xn_2 xc_2=>nw (.cells Y_int false [.int .i64 s]) w6 fun b_4 w7=>nw (.cells Y_api_Share false [.int .i64 s,.int .i64 0,.int .i64 0,.int .i64 492,.slice (some ⟨b_4,0,none⟩) 1 1]) w7 fun b_5 w8=>gCells (some ⟨b_5,0,none⟩) (1 * 5) w8 fun cs_2=>ckB (fitsOpen x_2 Y_api_Share w8) (apd Y_api_Share 5 x_2 xn_2 xc_2 1 cs_2 w8 fun a_2 an_2 ac_2 w9=>pV (Addr.add b 4) (.slice a_2 an_2 ac_2) w9 fun w10=>R F_ref15_Boot T_ref15_Boot_L1 [(1,.pointer (some p)),(2,.pointer (some x2)),(3,.pointer (some b)),(4,.int .i64 (IntKind.wrap .i64 (s + 1)))] w10))) := by kernel_rfl
theorem e_ref15_Boot_L3 (p : Addr) (x2 : Addr) (b : Addr) (i : Int) (h : H) :
 exec PR C_ref15_Boot C R F_ref15_Boot Tryz.f50 100000 true T_ref15_Boot_L3 [(1,.pointer (some p)),(2,.pointer (some x2)),(3,.pointer (some b)),(6,.int .i64 i)] h =
 gSl (Addr.add p 1) h fun _ xn _=>cond (decide (i < (xn : Int)))
 (gSl (Addr.add p 1) h fun x_1 xn_1 _=>aSome x_1 fun p_1=>ck ((0 : Int) ≤ i ∧ i < (xn_1 : Int)) (gAgg (Addr.add (bare p_1) (Int.toNat i * 2)) 2 h fun x_2=>nw (.cells Y_api_Bridge false [.int .i64 0,.int .i64 0]) h fun b_1 w=>ck (List.length x_2 = 2) (pAgg ⟨b_1,0,none⟩ x_2 w fun w1=>gSl (Addr.add b 4) w1 fun x_3 xn_2 xc_2=>gInt .i64 (Addr.add ⟨b_1,0,none⟩ 0) w1 fun x_4=>gInt .i64 (Addr.add ⟨b_1,0,none⟩ 0) w1 fun x_5=>gInt .i64 (Addr.add ⟨b_1,0,none⟩ 1) w1 fun x_6=>nw (.cells Y_int false [.int .i64 x_5,.int .i64 x_6]) w1 fun b_2 w2=>nw (.cells Y_api_Share false [.int .i64 x_4,.int .i64 (IntKind.wrap .i64 (8 + i)),.int .i64 0,.int .i64 40,.slice (some ⟨b_2,0,none⟩) 2 2]) w2 fun b_3 w3=>gCells (some ⟨b_3,0,none⟩) (1 * 5) w3 fun cs=>ckB (fitsOpen x_3 Y_api_Share w3) (apd Y_api_Share 5 x_3 xn_2 xc_2 1 cs w3 fun a an ac w4=>pV (Addr.add b 4) (.slice a an ac) w4 fun w5=>R F_ref15_Boot T_ref15_Boot_L3 [(1,.pointer (some p)),(2,.pointer (some x2)),(3,.pointer (some b)),(6,.int .i64 (IntKind.wrap .i64 (i + 1)))] w5))))
 (gAgg b 5 h fun x_7=>ck (List.length x_7 = 5) (pAgg x2 x_7 h fun w6=>gAgg x2 5 w6 fun x_8=>some (.agg ⟨x_8⟩,w6))) := by kernel_rfl
def C_ring_Encode : Cuts := { globs := 0,loops := [],regs := [],plans := [(1,⟨[1,0,2,3,4,5,6],[0,0,3,7,7,31,63],[(0,[1])],[]⟩)] }
def T_ring_Encode : List Item := bodyOf Tryz.f58
theorem e_ring_Encode (p : List Value) (h : H) :
 exec PR C_ring_Encode C R F_ring_Encode Tryz.f58 100000 true T_ring_Encode [(0,.agg ⟨p⟩)] h =
 nw (.cells Y_api_Pipe false p) h fun b w=>gAgg ⟨b,0,none⟩ 36 w fun x=>bnd (C F_ring_Codec [] w) fun r w1=>aPtr r fun x_1=>gAgg ⟨b,0,none⟩ 36 w1 fun x_2=>same (.agg ⟨x⟩) (.agg ⟨x_2⟩) (bnd (C F_codec_Codec_api_Pipe_Encode [.pointer x_1,.agg ⟨x⟩] w1) fun r_1 w2=>as2 r_1 fun r_2 r_3=>aSl r_2 fun x_3 xn xc=>aBool r_3 fun x_4=>some (.tuple ⟨[.slice x_3 xn xc,.bool x_4]⟩,w2)) := by kernel_rfl
def C_commons_Commons_write : Cuts := { globs := 0,loops := [],regs := [],plans := [(2,⟨[0,1,2,3,4,5,6,7,8,9,10,11,12,13,14],[0,1,3,7,15,31,63,127,255,511,1023,127,4095,8191,16383],[],[]⟩),(4,⟨[0,1,2,3,4,5,6,7,8,9,10,11,12,13,14,15,16,17],[0,1,3,7,0,16,48,112,0,256,0,1024,0,7936,16383,32767,65535,131071],[],[]⟩)] }
def T_commons_Commons_write : List Item := bodyOf Tryz.f59
theorem e_commons_Commons_write (c : Option Addr) (r : List Value) (b : Option Addr) (bn bc : Nat) (ok : Bool) (h : H) :
 exec PR C_commons_Commons_write C R F_commons_Commons_write Tryz.f59 100000 true T_commons_Commons_write [(0,.pointer c),(1,.agg ⟨r⟩),(2,.slice b bn bc),(3,.bool ok)] h =
 nw (.cells Y_api_Rec false r) h fun b_1 w=>gAgg ⟨b_1,0,none⟩ 2 w fun x=>bnd (C F_commons_Commons_place [.pointer c,.agg ⟨x⟩] w) fun r_1 w1=>as2 r_1 fun r_2 r_3=>aAgg r_2 fun x_1=>aBool r_3 fun x_2=>nw (.cells Y_commons_place false [.int .i64 0,.int .i64 0,.int .i64 0]) w1 fun b_2 w2=>ck (List.length x_1 = 3) (pAgg ⟨b_2,0,none⟩ x_1 w2 fun w3=>bnd (cond (!x_2) (some (true,w3)) (some (!ok,w3))) fun c_1 w4=>bnd (cond c_1 (some (true,w4)) (aSome c fun p=>gMap (Addr.add p 3) w4 fun x_3=>gAgg ⟨b_1,0,none⟩ 2 w4 fun x_4=>keyN PR Y_api_Rec (.agg ⟨x_4⟩) (opt x_3 fun r_4=>mapAt w4 r_4 fun es _=>opt (lookM (.int .i64 0) (.agg ⟨x_4⟩) es) fun f=>aInt .i64 f.1 fun x_5=>some (decide (x_5 > 0),w4)))) fun c_2 w5=>cond c_2
 (some (.bool false,w5))
 (aSome c fun p_1=>gPtr (Addr.add p_1 0) w5 fun x_6=>aSome c fun p_2=>gInt .i64 (Addr.add p_2 1) w5 fun x_7=>gInt .i64 (Addr.add ⟨b_2,0,none⟩ 0) w5 fun x_8=>gInt .i64 (Addr.add ⟨b_2,0,none⟩ 1) w5 fun x_9=>bnd (C F_kern_Kern_Do [.pointer x_6,.int .i64 x_7,.agg ⟨[.int .i64 2,.int .i64 x_8,.int .i64 x_9,.int .i64 0,.int .i64 0,.int .i64 0,.slice b bn bc]⟩] w5) fun r_5 w6=>aAgg r_5 fun x_10=>nth x_10 0 fun E=>aInt .i64 E fun E_1=>some (.bool (E_1 == 0),w6))) := by kernel_rfl
def C_ref1_Two : Cuts := { globs := 0,loops := [],regs := [],plans := [] }
def T_ref1_Two : List Item := bodyOf Tryz.f64
theorem e_ref1_Two (n : Int) (h : H) :
 exec PR C_ref1_Two C R F_ref1_Two Tryz.f64 100000 true T_ref1_Two [(0,.int .i64 n)] h =
 nw (.cells Y_uint8 false [.int .u8 (IntKind.wrap .u8 (Int.fdiv n (2 ^ 8))),.int .u8 (IntKind.wrap .u8 (n))]) h fun b w=>gCells (some ⟨b,0,none⟩) 2 w fun cs=>asBytes cs fun l=>some (.string (ByteArray.mk ⟨l⟩),w) := by kernel_rfl
def C_pslot_Decode : Cuts := { globs := 0,loops := [],regs := [],plans := [] }
def T_pslot_Decode : List Item := bodyOf Tryz.f71
theorem e_pslot_Decode (b : Option Addr) (bn bc : Nat) (h : H) :
 exec PR C_pslot_Decode C R F_pslot_Decode Tryz.f71 100000 true T_pslot_Decode [(0,.slice b bn bc)] h =
 nw (.cells Y_api_Proc false [.int .i64 0,.int .i64 0,.int .i64 0,.int .i64 0,.int .i64 0,.int .i64 0,.int .i64 0,.int .i64 0,.int .i64 0,.int .i64 0,.int .i64 0,.int .i64 0,.int .i64 0,.int .i64 0,.int .i64 0,.int .i64 0]) h fun b_1 w=>bnd (cond ((bn : Int) == 24) (bnd (C F_codec_Blank [.slice b bn bc] w) fun r w1=>aBool r fun x=>some (x,w1)) (some (false,w))) fun c w2=>cond c
 (pAgg ⟨b_1,0,none⟩ [.int .i64 0,.int .i64 0,.int .i64 0,.int .i64 0,.int .i64 0,.int .i64 0,.int .i64 0,.int .i64 0,.int .i64 0,.int .i64 0,.int .i64 0,.int .i64 0,.int .i64 0,.int .i64 0,.int .i64 0,.int .i64 0] w2 fun w3=>gAgg ⟨b_1,0,none⟩ 16 w3 fun x_1=>some (.tuple ⟨[.agg ⟨x_1⟩,.int .i64 0]⟩,w3))
 (bnd (C F_pslot_Codec [] w2) fun r_1 w4=>aPtr r_1 fun x_2=>bnd (C F_codec_Codec_api_Proc_Decode [.pointer x_2,.slice b bn bc] w4) fun r_2 w5=>as2 r_2 fun r_3 r_4=>aAgg r_3 fun x_3=>aBool r_4 fun x_4=>nw (.cells Y_api_Proc false [.int .i64 0,.int .i64 0,.int .i64 0,.int .i64 0,.int .i64 0,.int .i64 0,.int .i64 0,.int .i64 0,.int .i64 0,.int .i64 0,.int .i64 0,.int .i64 0,.int .i64 0,.int .i64 0,.int .i64 0,.int .i64 0]) w5 fun b_2 w6=>ck (List.length x_3 = 16) (pAgg ⟨b_2,0,none⟩ x_3 w6 fun w7=>cond (!x_4)
 (pAgg ⟨b_1,0,none⟩ [.int .i64 0,.int .i64 0,.int .i64 0,.int .i64 0,.int .i64 0,.int .i64 0,.int .i64 0,.int .i64 0,.int .i64 0,.int .i64 0,.int .i64 0,.int .i64 0,.int .i64 0,.int .i64 0,.int .i64 0,.int .i64 0] w7 fun w8=>gAgg ⟨b_1,0,none⟩ 16 w8 fun x_5=>some (.tuple ⟨[.agg ⟨x_5⟩,.int .i64 2]⟩,w8))
 (gAgg ⟨b_2,0,none⟩ 16 w7 fun x_6=>ck (List.length x_6 = 16) (pAgg ⟨b_1,0,none⟩ x_6 w7 fun w9=>gAgg ⟨b_1,0,none⟩ 16 w9 fun x_7=>some (.tuple ⟨[.agg ⟨x_7⟩,.int .i64 1]⟩,w9))))) := by kernel_rfl
def C_commons_Commons_blank : Cuts := { globs := 0,loops := [],regs := [],plans := [(2,⟨[0,1,2,3,4,5,6,7],[0,0,0,4,12,0,63,127],[],[]⟩)] }
def T_commons_Commons_blank : List Item := bodyOf Tryz.f73
theorem e_commons_Commons_blank (c : Option Addr) (r : List Value) (h : H) :
 exec PR C_commons_Commons_blank C R F_commons_Commons_blank Tryz.f73 100000 true T_commons_Commons_blank [(0,.pointer c),(1,.agg ⟨r⟩)] h =
 nw (.cells Y_api_Rec false r) h fun b w=>gAgg ⟨b,0,none⟩ 2 w fun x=>bnd (C F_commons_Commons_place [.pointer c,.agg ⟨x⟩] w) fun r_1 w1=>as2 r_1 fun r_2 r_3=>aAgg r_2 fun x_1=>aBool r_3 fun x_2=>nw (.cells Y_commons_place false [.int .i64 0,.int .i64 0,.int .i64 0]) w1 fun b_1 w2=>ck (List.length x_1 = 3) (pAgg ⟨b_1,0,none⟩ x_1 w2 fun w3=>gAgg ⟨b,0,none⟩ 2 w3 fun x_3=>gInt .i64 (Addr.add ⟨b_1,0,none⟩ 2) w3 fun x_4=>ck ((0 : Int) ≤ x_4 ∧ (x_4 : Int) ≤ x_4 ∧ x_4 ≤ (most : Int)) (nw (.cells Y_uint8 false (manyN (Int.toNat x_4) [.int .u8 0])) w3 fun b_2 w4=>bnd (C F_commons_Commons_write [.pointer c,.agg ⟨x_3⟩,.slice (some ⟨b_2,0,none⟩) (Int.toNat x_4) (Int.toNat x_4),.bool x_2] w4) fun r_4 w5=>aBool r_4 fun x_5=>some (.bool x_5,w5))) := by kernel_rfl
def C_ref11_PipeBytes : Cuts := { globs := 0,loops := [(4,[1,3,4])],regs := [],plans := [] }
def T_ref11_PipeBytes : List Item := bodyOf Tryz.f77
def T_ref11_PipeBytes_L1 : List Item := stk [0,1,0,1,0,1,0,0,1,4,5] T_ref11_PipeBytes
theorem e_ref11_PipeBytes (p : List Value) (h : H) :
 exec PR C_ref11_PipeBytes C R F_ref11_PipeBytes Tryz.f77 100000 true T_ref11_PipeBytes [(0,.agg ⟨p⟩)] h =
 nw (.cells Y_api_Pipe false p) h fun b w=>gInt .i64 (Addr.add ⟨b,0,none⟩ 0) w fun x=>gInt .i64 (Addr.add ⟨b,0,none⟩ 1) w fun x_1=>gInt .i64 (Addr.add ⟨b,0,none⟩ 2) w fun x_2=>gInt .i64 (Addr.add ⟨b,0,none⟩ 3) w fun x_3=>nw (.cells Y_uint8 false [.int .u8 1,.int .u8 (IntKind.wrap .u8 (x)),.int .u8 (IntKind.wrap .u8 (x_1)),.int .u8 (IntKind.wrap .u8 (x_2)),.int .u8 (IntKind.wrap .u8 (x_3)),.int .u8 197]) w fun b_1 w1=>gCells (some ⟨b_1,0,none⟩) 6 w1 fun cs=>asBytes cs fun l=>bnd (C F_ref1_Sum [.string (ByteArray.mk ⟨l⟩)] w1) fun r w2=>aInt .u8 r fun x_4=>nw (.cells Y_uint8 false [.int .u8 x_4,.int .u8 0]) w2 fun b_2 w3=>gCells (some ⟨b_2,0,none⟩) 2 w3 fun cs_1=>asBytes cs_1 fun l_1=>ck (ByteArray.size (ByteArray.mk ⟨l⟩) + ByteArray.size (ByteArray.mk ⟨l_1⟩) ≤ most) (R F_ref11_PipeBytes T_ref11_PipeBytes_L1 [(1,.pointer (some ⟨b,0,none⟩)),(3,.string ((ByteArray.mk ⟨l⟩) ++ (ByteArray.mk ⟨l_1⟩))),(4,.int .i64 0)] w3) := by kernel_rfl
theorem e_ref11_PipeBytes_L1 (p : Addr) (s : ByteArray) (i : Int) (h : H) :
 exec PR C_ref11_PipeBytes C R F_ref11_PipeBytes Tryz.f77 100000 true T_ref11_PipeBytes_L1 [(1,.pointer (some p)),(3,.string s),(4,.int .i64 i)] h =
 cond (decide (i < 32))
 (ck ((0 : Int) ≤ i ∧ i < ((32 : Nat) : Int)) (gInt .u8 (Addr.add (Addr.add p 4) (Int.toNat i * 1)) h fun x=>nw (.cells Y_uint8 false [.int .u8 x]) h fun b w=>gCells (some ⟨b,0,none⟩) 1 w fun cs=>asBytes cs fun l=>ck (ByteArray.size s + ByteArray.size (ByteArray.mk ⟨l⟩) ≤ most) (R F_ref11_PipeBytes T_ref11_PipeBytes_L1 [(1,.pointer (some p)),(3,.string (s ++ (ByteArray.mk ⟨l⟩))),(4,.int .i64 (IntKind.wrap .i64 (i + 1)))] w)))
 (some (.string s,h)) := by kernel_rfl
def C_commons_record_int : Cuts := { globs := 0,loops := [],regs := [(8,[8,11,12])],plans := [(7,⟨[0,1,2,3,4,5,6,7,8,9],[0,1,3,7,0,31,63,31,159,511],[(7,[5])],[]⟩)] }
def T_commons_record_int : List Item := bodyOf Tryz.f108
def T_commons_record_int_R1 : List Item := stk [0,1,0,1,0,1,0,1,0,1,0,1,0,0] T_commons_record_int
theorem e_commons_record_int (c : Option Addr) (r : List Value) (decode : Value) (h : H) :
 exec PR C_commons_record_int C R F_commons_record_int Tryz.f108 100000 true T_commons_record_int [(0,.pointer c),(1,.agg ⟨r⟩),(2,decode)] h =
 nw (.cells Y_api_Rec false r) h fun b w=>gAgg ⟨b,0,none⟩ 2 w fun x=>bnd (C F_commons_Commons_read [.pointer c,.agg ⟨x⟩] w) fun r_1 w1=>as2 r_1 fun r_2 r_3=>aSl r_2 fun x_1 xn xc=>aBool r_3 fun x_2=>cond (!x_2)
 (some (.tuple ⟨[.int .i64 0,.int .i64 2]⟩,w1))
 (aFn decode fun g fi cp=>bnd (C g (fi ++ ([.slice x_1 xn xc] ++ cp)) w1) fun r_4 w2=>as2 r_4 fun r_5 r_6=>aInt .i64 r_5 fun x_3=>aInt .i64 r_6 fun x_4=>cond (x_4 == 2)
 (aSome c fun p=>gMap (Addr.add p 3) w2 fun x_5=>gAgg ⟨b,0,none⟩ 2 w2 fun x_6=>keyN PR Y_api_Rec (.agg ⟨x_6⟩) (opt x_5 fun r_7=>mapAt w2 r_7 fun es _=>opt (lookM (.int .i64 0) (.agg ⟨x_6⟩) es) fun f=>aInt .i64 f.1 fun x_7=>keyN PR Y_api_Rec (.agg ⟨x_6⟩) (opt x_5 fun r_8=>mapAt w2 r_8 fun es_1 cl_1=>opt (entM (.int .i64 0) (.agg ⟨x_6⟩) es_1 cl_1) fun f_1=>aInt .i64 f_1.1 fun _=>lt (H.set w2 r_8 f_1.2.2) fun w3=>keyN PR Y_api_Rec (.agg ⟨x_6⟩) (opt x_5 fun r_9=>mapAt w3 r_9 fun es_2 _=>opt (lookM (.int .i64 0) (.agg ⟨x_6⟩) es_2) fun f_2=>aInt .i64 f_2.1 fun x_9=>same (.int .i64 x_7) (.int .i64 x_9) (opt x_5 fun r_10=>mapAt w3 r_10 fun es_3 cl_3=>opt (bornN (f_1.2.1 : Int) es_3 0) fun i=>lt (H.set w3 r_10 (.map (modN (fun e=>{ e with val := .int .i64 (IntKind.wrap .i64 (x_7 + 1)) }) i es_3) cl_3)) fun w4=>R F_commons_record_int T_commons_record_int_R1 [(8,.int .i64 0),(11,.int .i64 x_3),(12,.int .i64 x_4)] w4)))))
 (R F_commons_record_int T_commons_record_int_R1 [(8,.int .i64 0),(11,.int .i64 x_3),(12,.int .i64 x_4)] w2)) := by kernel_rfl
theorem e_commons_record_int_R1 (nonev : Int) (v : Int) (isv : Int) (h : H) :
 exec PR C_commons_record_int C R F_commons_record_int Tryz.f108 100000 true T_commons_record_int_R1 [(8,.int .i64 nonev),(11,.int .i64 v),(12,.int .i64 isv)] h =
 cond (isv != 1)
 (some (.tuple ⟨[.int .i64 nonev,.int .i64 isv]⟩,h))
 (some (.tuple ⟨[.int .i64 v,.int .i64 isv]⟩,h)) := by kernel_rfl
def C_commons_FrontOf : Cuts := { globs := 0,loops := [],regs := [],plans := [] }
def T_commons_FrontOf : List Item := bodyOf Tryz.f109
theorem e_commons_FrontOf (b : Option Addr) (bn bc : Nat) (h : H) :
 exec PR C_commons_FrontOf C R F_commons_FrontOf Tryz.f109 100000 true T_commons_FrontOf [(0,.slice b bn bc)] h =
 cond ((bn : Int) != 4)
 (some (.tuple ⟨[.int .i64 0,.int .i64 2]⟩,h))
 (aSome b fun p=>ck ((0 : Int) ≤ 0 ∧ 0 < (bn : Int)) (gInt .u8 (Addr.add (bare p) (Int.toNat 0 * 1)) h fun x=>bnd (C F_commons_FrontBytes [.int .i64 (IntKind.wrap .i64 (x))] h) fun r w=>as2 r fun r_1 r_2=>aSl r_1 fun x_1 xn _=>aBool r_2 fun x_2=>bnd (cond (!x_2) (some (true,w)) (gCells x_1 xn w fun cs=>asBytes cs fun l=>gCells b bn w fun cs_1=>asBytes cs_1 fun l_1=>some (!((ByteArray.mk ⟨l⟩).toList == (ByteArray.mk ⟨l_1⟩).toList),w))) fun c w1=>cond c
 (some (.tuple ⟨[.int .i64 0,.int .i64 2]⟩,w1))
 (aSome b fun p_1=>ck ((0 : Int) ≤ 0 ∧ 0 < (bn : Int)) (gInt .u8 (Addr.add (bare p_1) (Int.toNat 0 * 1)) w1 fun x_3=>some (.tuple ⟨[.int .i64 (IntKind.wrap .i64 (x_3)),.int .i64 1]⟩,w1))))) := by kernel_rfl
def C_quota_New : Cuts := { globs := 0,loops := [(3,[3,12,13,14])],regs := [],plans := [(5,⟨[0,1,2,3,4,5,6,7,8,9,10,11,12,13],[0,0,2,6,14,0,32,96,224,480,1022,2047,4095,8191],[],[]⟩)] }
def T_quota_New : List Item := bodyOf Tryz.f115
def T_quota_New_L1 : List Item := stk [0,1,0,1,0,0,1,4,5] T_quota_New
theorem e_quota_New (frames : Option Addr) (framesn framesc : Nat) (h : H) :
 exec PR C_quota_New C R F_quota_New Tryz.f115 100000 true T_quota_New [(0,.slice frames framesn framesc)] h =
 nw (.cells Y_quota_Quota false [.slice none 0 0]) h fun b w=>ckB (fitsOpen frames Y_int w) (ck ((0 : Int) ≤ mm2 false (framesn : Int) 4 ∧ mm2 false (framesn : Int) 4 ≤ (framesc : Int)) (R F_quota_New T_quota_New_L1 [(3,.pointer (some ⟨b,0,none⟩)),(12,.slice (moved frames (decide (0 < framesc)) (0 * 1)) ((Int.toNat (mm2 false (framesn : Int) 4)) - 0) (framesc - 0)),(13,.int .i64 (((Int.toNat (mm2 false (framesn : Int) 4)) - 0 : Nat) : Int)),(14,.int .i64 0)] w)) := by kernel_rfl
theorem e_quota_New_L1 (q : Addr) (x12 : Option Addr) (x12n x12c : Nat) (x13 : Int) (x14 : Int) (h : H) :
 exec PR C_quota_New C R F_quota_New Tryz.f115 100000 true T_quota_New_L1 [(3,.pointer (some q)),(12,.slice x12 x12n x12c),(13,.int .i64 x13),(14,.int .i64 x14)] h =
 cond (decide (x14 < x13))
 (aSome x12 fun p=>ck ((0 : Int) ≤ x14 ∧ x14 < (x12n : Int)) (gInt .i64 (Addr.add (bare p) (Int.toNat x14 * 1)) h fun x=>gSl (Addr.add q 0) h fun x_1 xn xc=>ck ((0 : Int) ≤ mm2 false (mm2 true x 0) 64 ∧ (mm2 false (mm2 true x 0) 64 : Int) ≤ mm2 false (mm2 true x 0) 64 ∧ mm2 false (mm2 true x 0) 64 ≤ (most : Int)) (nw (.cells Y_int false (manyN (Int.toNat (mm2 false (mm2 true x 0) 64)) [.int .i64 0])) h fun b w=>nw (.cells Y_s_int false [.slice (some ⟨b,0,none⟩) (Int.toNat (mm2 false (mm2 true x 0) 64)) (Int.toNat (mm2 false (mm2 true x 0) 64))]) w fun b_1 w1=>gCells (some ⟨b_1,0,none⟩) (1 * 1) w1 fun cs=>ckB (fitsOpen x_1 Y_s_int w1) (apd Y_s_int 1 x_1 xn xc 1 cs w1 fun a an ac w2=>pV (Addr.add q 0) (.slice a an ac) w2 fun w3=>R F_quota_New T_quota_New_L1 [(3,.pointer (some q)),(12,.slice x12 x12n x12c),(13,.int .i64 x13),(14,.int .i64 (IntKind.wrap .i64 (x14 + 1)))] w3))))
 (some (.pointer (some q),h)) := by kernel_rfl
def C_region_New : Cuts := { globs := 0,loops := [],regs := [],plans := [] }
def T_region_New : List Item := bodyOf Tryz.f116
theorem e_region_New (m : Option Addr) (s : Option Addr) (h : H) :
 exec PR C_region_New C R F_region_New Tryz.f116 100000 true T_region_New [(0,.pointer m),(1,.pointer s)] h =
 nw (.cells Y_region_Regions false [.pointer m,.pointer s,.slice none 0 0]) h fun b w=>some (.pointer (some ⟨b,0,none⟩),w) := by kernel_rfl
def C_quota_Quota_First : Cuts := { globs := 0,loops := [(3,[5,20,21,22])],regs := [],plans := [(2,⟨[0,1,2,3,4,5,6,7,8,9,10,11,12,13,14],[0,1,3,7,0,16,0,64,192,448,960,2032,4095,8191,0],[],[]⟩)] }
def T_quota_Quota_First : List Item := bodyOf Tryz.f119
def T_quota_Quota_First_L1 : List Item := stk [0,1,0,1,0,0,1,4,5] T_quota_Quota_First
theorem e_quota_Quota_First (q : Option Addr) (s : Int) (h : H) :
 exec PR C_quota_Quota_First C R F_quota_Quota_First Tryz.f119 100000 true T_quota_Quota_First [(0,.pointer q),(1,.int .i64 s)] h =
 aSome q fun p=>gSl (Addr.add p 0) h fun x _ xc=>aSome q fun p_1=>gSl (Addr.add p_1 0) h fun _ xn_1 _=>ckB (fitsOpen x Y_s_int h) (ck ((0 : Int) ≤ mm2 false (mm2 true s 0) (xn_1 : Int) ∧ mm2 false (mm2 true s 0) (xn_1 : Int) ≤ (xc : Int)) (R F_quota_Quota_First T_quota_Quota_First_L1 [(5,.int .i64 0),(20,.slice (moved x (decide (0 < xc)) (0 * 1)) ((Int.toNat (mm2 false (mm2 true s 0) (xn_1 : Int))) - 0) (xc - 0)),(21,.int .i64 (((Int.toNat (mm2 false (mm2 true s 0) (xn_1 : Int))) - 0 : Nat) : Int)),(22,.int .i64 0)] h)) := by kernel_rfl
theorem e_quota_Quota_First_L1 (n : Int) (x20 : Option Addr) (x20n x20c : Nat) (x21 : Int) (x22 : Int) (h : H) :
 exec PR C_quota_Quota_First C R F_quota_Quota_First Tryz.f119 100000 true T_quota_Quota_First_L1 [(5,.int .i64 n),(20,.slice x20 x20n x20c),(21,.int .i64 x21),(22,.int .i64 x22)] h =
 cond (decide (x22 < x21))
 (aSome x20 fun p=>ck ((0 : Int) ≤ x22 ∧ x22 < (x20n : Int)) (gSl (Addr.add (bare p) (Int.toNat x22 * 1)) h fun _ xn _=>R F_quota_Quota_First T_quota_Quota_First_L1 [(5,.int .i64 (IntKind.wrap .i64 (n + (xn : Int)))),(20,.slice x20 x20n x20c),(21,.int .i64 x21),(22,.int .i64 (IntKind.wrap .i64 (x22 + 1)))] h))
 (some (.int .i64 n,h)) := by kernel_rfl
def C_slices_Contains_s_int_int : Cuts := { globs := 0,loops := [],regs := [],plans := [] }
def T_slices_Contains_s_int_int : List Item := bodyOf Tryz.f120
theorem e_slices_Contains_s_int_int (s : Option Addr) (sn sc : Nat) (v : Int) (h : H) :
 exec PR C_slices_Contains_s_int_int C R F_slices_Contains_s_int_int Tryz.f120 100000 true T_slices_Contains_s_int_int [(0,.slice s sn sc),(1,.int .i64 v)] h =
 bnd (C F_slices_Index_s_int_int [.slice s sn sc,.int .i64 v] h) fun r w=>aInt .i64 r fun x=>some (.bool (decide (x ≥ 0)),w) := by kernel_rfl
def C_ref1_Quota_First : Cuts := { globs := 0,loops := [(3,[0,1,5,6])],regs := [],plans := [] }
def T_ref1_Quota_First : List Item := bodyOf Tryz.f123
def T_ref1_Quota_First_L1 : List Item := stk [0,1,0,1,0,0,1,4,5] T_ref1_Quota_First
theorem e_ref1_Quota_First (q : Option Addr) (s : Int) (h : H) :
 exec PR C_ref1_Quota_First C R F_ref1_Quota_First Tryz.f123 100000 true T_ref1_Quota_First [(0,.pointer q),(1,.int .i64 s)] h =
 R F_ref1_Quota_First T_ref1_Quota_First_L1 [(0,.pointer q),(1,.int .i64 s),(5,.int .i64 0),(6,.int .i64 0)] h := by kernel_rfl
theorem e_ref1_Quota_First_L1 (q : Option Addr) (s : Int) (n : Int) (i : Int) (h : H) :
 exec PR C_ref1_Quota_First C R F_ref1_Quota_First Tryz.f123 100000 true T_ref1_Quota_First_L1 [(0,.pointer q),(1,.int .i64 s),(5,.int .i64 n),(6,.int .i64 i)] h =
 cond (decide (i < s))
 (aSome q fun p=>gSl (Addr.add p 0) h fun x xn _=>aSome x fun p_1=>ck ((0 : Int) ≤ i ∧ i < (xn : Int)) (gSl (Addr.add (bare p_1) (Int.toNat i * 1)) h fun _ xn_1 _=>R F_ref1_Quota_First T_ref1_Quota_First_L1 [(0,.pointer q),(1,.int .i64 s),(5,.int .i64 (IntKind.wrap .i64 (n + (xn_1 : Int)))),(6,.int .i64 (IntKind.wrap .i64 (i + 1)))] h))
 (some (.int .i64 n,h)) := by kernel_rfl
def C_ref1_Space_All : Cuts := { globs := 0,loops := [],regs := [],plans := [] }
def T_ref1_Space_All : List Item := bodyOf Tryz.f140
theorem e_ref1_Space_All (s : Option Addr) (e : Int) (h : H) :
 exec PR C_ref1_Space_All C R F_ref1_Space_All Tryz.f140 100000 true T_ref1_Space_All [(0,.pointer s),(1,.int .i64 e)] h =
 bnd (C F_ref1_Space_env [.pointer s,.int .i64 e] h) fun r w=>aBool r fun x=>cond (!x)
 (some (.slice none 0 0,w))
 (aSome s fun p=>gSl (Addr.add p 0) w fun x_1 xn _=>aSome x_1 fun p_1=>ck ((0 : Int) ≤ e ∧ e < (xn : Int)) (gPtr (Addr.add (bare p_1) (Int.toNat e * 1)) w fun x_2=>bnd (C F_ref1_Names_All [.pointer x_2] w) fun r_1 w1=>aSl r_1 fun x_3 xn_1 xc_1=>some (.slice x_3 xn_1 xc_1,w1))) := by kernel_rfl
def C_codec_Codec_api_Pipe_Encode : Cuts := { globs := 0,loops := [],regs := [],plans := [(2,⟨[0,1,2,3,4,5,6,7,8,9,10,11,12,13,14],[0,1,3,7,15,31,63,127,255,511,63,63,4095,8191,16383],[],[]⟩)] }
def T_codec_Codec_api_Pipe_Encode : List Item := bodyOf Tryz.f144
theorem e_codec_Codec_api_Pipe_Encode (c : Option Addr) (v : List Value) (h : H) :
 exec PR C_codec_Codec_api_Pipe_Encode C R F_codec_Codec_api_Pipe_Encode Tryz.f144 100000 true T_codec_Codec_api_Pipe_Encode [(0,.pointer c),(1,.agg ⟨v⟩)] h =
 nw (.cells Y_api_Pipe false v) h fun b w=>aSome c fun p=>gInt .i64 (Addr.add p 0) w fun x=>ck ((0 : Int) ≤ x ∧ (x : Int) ≤ x ∧ x ≤ (most : Int)) (nw (.cells Y_uint8 false (manyN (Int.toNat x) [.int .u8 0])) w fun b_1 w1=>aSome c fun p_1=>gFv (Addr.add p_1 1) w1 fun x_1=>isNilF x_1 fun b_2=>bnd (cond b_2 (some (true,w1)) (aSome c fun p_2=>gFv (Addr.add p_2 1) w1 fun x_2=>gAgg ⟨b,0,none⟩ 36 w1 fun x_3=>aFn x_2 fun g fi cp=>bnd (C g (fi ++ ([.agg ⟨x_3⟩,.slice (some ⟨b_1,0,none⟩) (Int.toNat x) (Int.toNat x)] ++ cp)) w1) fun r w2=>aBool r fun x_4=>some (!x_4,w2))) fun c_1 w3=>cond c_1
 (some (.tuple ⟨[.slice none 0 0,.bool false]⟩,w3))
 (some (.tuple ⟨[.slice (some ⟨b_1,0,none⟩) (Int.toNat x) (Int.toNat x),.bool true]⟩,w3))) := by kernel_rfl
def C_codec_Blank : Cuts := { globs := 0,loops := [],regs := [],plans := [] }
def T_codec_Blank : List Item := bodyOf Tryz.f147
theorem e_codec_Blank (b : Option Addr) (bn bc : Nat) (h : H) :
 exec PR C_codec_Blank C R F_codec_Blank Tryz.f147 100000 true T_codec_Blank [(0,.slice b bn bc)] h =
 bnd (C F_slices_ContainsFunc_s_byte_byte [.slice b bn bc,.func (.func F_codec_Blank_1) ⟨[]⟩ ⟨[]⟩] h) fun r w=>aBool r fun x=>some (.bool (!x),w) := by kernel_rfl
def C_region_Regions_Write : Cuts := { globs := 0,loops := [],regs := [],plans := [] }
def T_region_Regions_Write : List Item := bodyOf Tryz.f150
theorem e_region_Regions_Write (r : Option Addr) (env : Int) (name : Int) (atv : Int) (b : Option Addr) (bn bc : Nat) (h : H) :
 exec PR C_region_Regions_Write C R F_region_Regions_Write Tryz.f150 100000 true T_region_Regions_Write [(0,.pointer r),(1,.int .i64 env),(2,.int .i64 name),(3,.int .i64 atv),(4,.slice b bn bc)] h =
 bnd (C F_region_Regions_place [.pointer r,.int .i64 env,.int .i64 name,.int .i64 2,.int .i64 atv,.int .i64 (bn : Int)] h) fun r_1 w=>as2 r_1 fun r_2 r_3=>aInt .i64 r_2 fun x=>aInt .i64 r_3 fun x_1=>cond (x_1 != 0)
 (some (.int .i64 x_1,w))
 (aSome r fun p=>gPtr (Addr.add p 0) w fun x_2=>bnd (C F_mem_Mem_Store [.pointer x_2,.int .i64 x,.slice b bn bc] w) fun r_4 w1=>aInt .i64 r_4 fun x_3=>some (.int .i64 x_3,w1)) := by kernel_rfl
def C_mem_Mem_in : Cuts := { globs := 0,loops := [],regs := [],plans := [] }
def T_mem_Mem_in : List Item := bodyOf Tryz.f164
theorem e_mem_Mem_in (m : Option Addr) (atv : Int) (n : Int) (h : H) :
 exec PR C_mem_Mem_in C R F_mem_Mem_in Tryz.f164 100000 true T_mem_Mem_in [(0,.pointer m),(1,.int .i64 atv),(2,.int .i64 n)] h =
 bnd (cond (decide (atv ≥ 0)) (some (decide (n ≥ 0),h)) (some (false,h))) fun c w=>bnd (cond c (aSome m fun p=>gSl (Addr.add p 0) w fun _ xn _=>some (decide (atv ≤ (xn : Int)),w)) (some (false,w))) fun c_1 w1=>bnd (cond c_1 (aSome m fun p_1=>gSl (Addr.add p_1 0) w1 fun _ xn_1 _=>some (decide (n ≤ (IntKind.wrap .i64 ((xn_1 : Int) - atv))),w1)) (some (false,w1))) fun c_2 w2=>some (.bool c_2,w2) := by kernel_rfl
def C_slices_Clone_s_byte_byte : Cuts := { globs := 0,loops := [],regs := [],plans := [] }
def T_slices_Clone_s_byte_byte : List Item := bodyOf Tryz.f165
theorem e_slices_Clone_s_byte_byte (s : Option Addr) (sn sc : Nat) (h : H) :
 exec PR C_slices_Clone_s_byte_byte C R F_slices_Clone_s_byte_byte Tryz.f165 100000 true T_slices_Clone_s_byte_byte [(0,.slice s sn sc)] h =
 cond s.isNone
 (some (.slice none 0 0,h))
 (nw (.cells Y_uint8 false []) h fun b w=>gCells s (sn * 1) w fun cs=>ckB (fitsOpen (some ⟨b,0,none⟩) Y_uint8 w) (apd Y_uint8 1 (some ⟨b,0,none⟩) 0 0 sn cs w fun a an ac w1=>some (.slice a an ac,w1))) := by kernel_rfl
def C_slices_Index_s_int_int : Cuts := { globs := 0,loops := [(2,[0,1,7,8])],regs := [],plans := [] }
def T_slices_Index_s_int_int : List Item := bodyOf Tryz.f179
def T_slices_Index_s_int_int_L1 : List Item := stk [0,1,0,0,1,4,5] T_slices_Index_s_int_int
theorem e_slices_Index_s_int_int (s : Option Addr) (sn sc : Nat) (v : Int) (h : H) :
 exec PR C_slices_Index_s_int_int C R F_slices_Index_s_int_int Tryz.f179 100000 true T_slices_Index_s_int_int [(0,.slice s sn sc),(1,.int .i64 v)] h =
 R F_slices_Index_s_int_int T_slices_Index_s_int_int_L1 [(0,.slice s sn sc),(1,.int .i64 v),(7,.int .i64 (sn : Int)),(8,.int .i64 0)] h := by kernel_rfl
theorem e_slices_Index_s_int_int_L1 (s : Option Addr) (sn sc : Nat) (v : Int) (x7 : Int) (x8 : Int) (h : H) :
 exec PR C_slices_Index_s_int_int C R F_slices_Index_s_int_int Tryz.f179 100000 true T_slices_Index_s_int_int_L1 [(0,.slice s sn sc),(1,.int .i64 v),(7,.int .i64 x7),(8,.int .i64 x8)] h =
 cond (decide (x8 < x7))
 (aSome s fun p=>ck ((0 : Int) ≤ x8 ∧ x8 < (sn : Int)) (gInt .i64 (Addr.add (bare p) (Int.toNat x8 * 1)) h fun x=>cond (v == x)
 (some (.int .i64 x8,h))
 (R F_slices_Index_s_int_int T_slices_Index_s_int_int_L1 [(0,.slice s sn sc),(1,.int .i64 v),(7,.int .i64 x7),(8,.int .i64 (IntKind.wrap .i64 (x8 + 1)))] h)))
 (some (.int .i64 (-1),h)) := by kernel_rfl
def C_caps_Space_add : Cuts := { globs := 0,loops := [],regs := [],plans := [(1,⟨[0,1,2,3,4,5,6,7,8,9,10,11,12,13],[0,1,3,7,0,31,63,0,255,511,1023,1023,2047,8191],[],[]⟩)] }
def T_caps_Space_add : List Item := bodyOf Tryz.f181
theorem e_caps_Space_add (s : Option Addr) (env : Int) (c : List Value) (h : H) :
 exec PR C_caps_Space_add C R F_caps_Space_add Tryz.f181 100000 true T_caps_Space_add [(0,.pointer s),(1,.int .i64 env),(2,.agg ⟨c⟩)] h =
 nw (.cells Y_api_Cap false c) h fun b w=>aSome s fun p=>gSl (Addr.add p 0) w fun x xn _=>aSome x fun p_1=>ck ((0 : Int) ≤ env ∧ env < (xn : Int)) (gPtr (Addr.add (bare p_1) (Int.toNat env * 1)) w fun x_1=>gAgg ⟨b,0,none⟩ 6 w fun x_2=>bnd (C F_table_Table_api_Cap_Add [.pointer x_1,.agg ⟨x_2⟩] w) fun r w1=>as2 r fun r_1 r_2=>aInt .i64 r_1 fun x_3=>aBool r_2 fun x_4=>cond (!x_4)
 (some (.tuple ⟨[.int .i64 0,.int .i64 4]⟩,w1))
 (some (.tuple ⟨[.int .i64 x_3,.int .i64 0]⟩,w1))) := by kernel_rfl
def C_ref1_Space_env : Cuts := { globs := 0,loops := [],regs := [],plans := [] }
def T_ref1_Space_env : List Item := bodyOf Tryz.f184
theorem e_ref1_Space_env (s : Option Addr) (e : Int) (h : H) :
 exec PR C_ref1_Space_env C R F_ref1_Space_env Tryz.f184 100000 true T_ref1_Space_env [(0,.pointer s),(1,.int .i64 e)] h =
 bnd (cond (decide (e ≥ 0)) (aSome s fun p=>gSl (Addr.add p 0) h fun _ xn _=>some (decide (e < (xn : Int)),h)) (some (false,h))) fun c w=>some (.bool c,w) := by kernel_rfl
def C_ref1_Regions_place : Cuts := { globs := 0,loops := [],regs := [],plans := [(6,⟨[0,1,2,3,4,5,6,7,8,9,10,11,12,13,14,15,16,17,18,19,20,21],[0,0,0,4,15,31,63,127,255,511,1023,2047,4095,8191,4095,20479,53247,118783,249855,524287,1048575,2097151],[],[]⟩),(8,⟨[0,1,2,3,4,5,6,7,8,9,10,11,12,13,14,15,16,17,18,19,20,21,22,23,24,25,26,27,28,29,30],[0,1,0,0,8,24,56,0,128,504,1016,2047,4095,8191,16383,32767,16383,131071,16383,16383,540671,1589247,3686399,16383,8404991,33046527,66600959,134217727,268435455,536870911,1073741823],[],[]⟩),(10,⟨[0,1,2,3,4,5,6,7,8,9,10,11,12,13,14],[0,1,3,7,0,16,63,127,0,256,1023,0,4095,8191,16383],[],[]⟩)] }
def T_ref1_Regions_place : List Item := bodyOf Tryz.f186
theorem e_ref1_Regions_place (r : Option Addr) (e : Int) (name : Int) (right : Int) (atv : Int) (n : Int) (h : H) :
 exec PR C_ref1_Regions_place C R F_ref1_Regions_place Tryz.f186 100000 true T_ref1_Regions_place [(0,.pointer r),(1,.int .i64 e),(2,.int .i64 name),(3,.int .i64 right),(4,.int .i64 atv),(5,.int .i64 n)] h =
 aSome r fun p=>gPtr (Addr.add p 3) h fun x=>bnd (C F_ref1_Space_Get [.pointer x,.int .i64 e,.int .i64 name] h) fun r_1 w=>as2 r_1 fun r_2 r_3=>aAgg r_2 fun x_1=>aInt .i64 r_3 fun x_2=>nw (.cells Y_api_Cap false [.int .i64 0,.int .i64 0,.int .i64 0,.int .i64 0,.int .i64 0,.int .i64 0]) w fun b w1=>ck (List.length x_1 = 6) (pAgg ⟨b,0,none⟩ x_1 w1 fun w2=>cond (x_2 != 0)
 (some (.tuple ⟨[.int .i64 0,.int .i64 x_2]⟩,w2))
 (gInt .i64 (Addr.add ⟨b,0,none⟩ 1) w2 fun x_3=>cond ((bitA .i64 x_3 right) == 0)
 (some (.tuple ⟨[.int .i64 0,.int .i64 3]⟩,w2))
 (gInt .i64 (Addr.add ⟨b,0,none⟩ 3) w2 fun x_4=>bnd (C F_ref1_Within [.int .i64 atv,.int .i64 n,.int .i64 x_4] w2) fun r_4 w3=>aBool r_4 fun x_5=>bnd (cond (!x_5) (some (true,w3)) (gInt .i64 (Addr.add ⟨b,0,none⟩ 0) w3 fun x_6=>some (decide (x_6 < 0),w3))) fun c w4=>bnd (cond c (some (true,w4)) (gInt .i64 (Addr.add ⟨b,0,none⟩ 0) w4 fun x_7=>aSome r fun p_1=>gSl (Addr.add p_1 1) w4 fun _ xn _=>some (decide (x_7 ≥ (xn : Int)),w4))) fun c_1 w5=>cond c_1
 (some (.tuple ⟨[.int .i64 0,.int .i64 1]⟩,w5))
 (gInt .i64 (Addr.add ⟨b,0,none⟩ 2) w5 fun x_9=>aSome r fun p_2=>gSl (Addr.add p_2 2) w5 fun x_10 xn_1 _=>gInt .i64 (Addr.add ⟨b,0,none⟩ 0) w5 fun x_11=>aSome x_10 fun p_3=>ck ((0 : Int) ≤ x_11 ∧ x_11 < (xn_1 : Int)) (gInt .i64 (Addr.add (bare p_3) (Int.toNat x_11 * 1)) w5 fun x_12=>bnd (C F_ref1_Within [.int .i64 x_9,.int .i64 atv,.int .i64 x_12] w5) fun r_5 w6=>aBool r_5 fun x_13=>bnd (cond (!x_13) (some (true,w6)) (gInt .i64 (Addr.add ⟨b,0,none⟩ 2) w6 fun x_14=>aSome r fun p_4=>gSl (Addr.add p_4 2) w6 fun x_15 xn_2 _=>gInt .i64 (Addr.add ⟨b,0,none⟩ 0) w6 fun x_16=>aSome x_15 fun p_5=>ck ((0 : Int) ≤ x_16 ∧ x_16 < (xn_2 : Int)) (gInt .i64 (Addr.add (bare p_5) (Int.toNat x_16 * 1)) w6 fun x_17=>bnd (C F_ref1_Within [.int .i64 (IntKind.wrap .i64 (x_14 + atv)),.int .i64 n,.int .i64 x_17] w6) fun r_6 w7=>aBool r_6 fun x_18=>some (!x_18,w7)))) fun c_2 w8=>cond c_2
 (some (.tuple ⟨[.int .i64 0,.int .i64 1]⟩,w8))
 (aSome r fun p_6=>gSl (Addr.add p_6 1) w8 fun x_19 xn_3 _=>gInt .i64 (Addr.add ⟨b,0,none⟩ 0) w8 fun x_20=>aSome x_19 fun p_7=>ck ((0 : Int) ≤ x_20 ∧ x_20 < (xn_3 : Int)) (gInt .i64 (Addr.add (bare p_7) (Int.toNat x_20 * 1)) w8 fun x_21=>gInt .i64 (Addr.add ⟨b,0,none⟩ 2) w8 fun x_22=>some (.tuple ⟨[.int .i64 (IntKind.wrap .i64 ((IntKind.wrap .i64 (x_21 + x_22)) + atv)),.int .i64 0]⟩,w8)))))))) := by kernel_rfl
def C_mem_Mem_Store : Cuts := { globs := 0,loops := [],regs := [],plans := [] }
def T_mem_Mem_Store : List Item := bodyOf Tryz.f202
theorem e_mem_Mem_Store (m : Option Addr) (atv : Int) (b : Option Addr) (bn bc : Nat) (h : H) :
 exec PR C_mem_Mem_Store C R F_mem_Mem_Store Tryz.f202 100000 true T_mem_Mem_Store [(0,.pointer m),(1,.int .i64 atv),(2,.slice b bn bc)] h =
 bnd (C F_mem_Mem_in [.pointer m,.int .i64 atv,.int .i64 (bn : Int)] h) fun r w=>aBool r fun x=>cond (!x)
 (some (.int .i64 1,w))
 (aSome m fun p=>gSl (Addr.add p 0) w fun x_1 xn xc=>ckB (fitsOpen x_1 Y_uint8 w) (ck ((0 : Int) ≤ atv ∧ atv ≤ (xn : Int)) (gCells b (min bn (xn - (Int.toNat atv)) * 1) w fun cs=>pCells (moved x_1 (decide (Int.toNat atv < xc)) ((Int.toNat atv) * 1)) cs w fun w1=>some (.int .i64 0,w1)))) := by kernel_rfl
def C_quota_Quota_is : Cuts := { globs := 0,loops := [],regs := [],plans := [] }
def T_quota_Quota_is : List Item := bodyOf Tryz.f206
theorem e_quota_Quota_is (q : Option Addr) (s : Int) (h : H) :
 exec PR C_quota_Quota_is C R F_quota_Quota_is Tryz.f206 100000 true T_quota_Quota_is [(0,.pointer q),(1,.int .i64 s)] h =
 bnd (cond (decide (s ≥ 0)) (aSome q fun p=>gSl (Addr.add p 0) h fun _ xn _=>some (decide (s < (xn : Int)),h)) (some (false,h))) fun c w=>some (.bool c,w) := by kernel_rfl
def C_kern_Kern_sect : Cuts := { globs := 0,loops := [],regs := [],plans := [(1,⟨[0,1,2,3,4,5,6,7,8,9,10,11,12,13,14,15,16,17,18,19,20,21,22,23,24,25,26,27,28],[0,1,3,7,7,23,55,119,247,511,1023,2047,4095,8191,16383,32767,4095,131071,262143,4095,528383,1576959,3674111,4095,16257023,33034239,67108863,134217727,268435455],[],[]⟩)] }
def T_kern_Kern_sect : List Item := bodyOf Tryz.f208
theorem e_kern_Kern_sect (k : Option Addr) (env : Int) (n : Int) (h : H) :
 exec PR C_kern_Kern_sect C R F_kern_Kern_sect Tryz.f208 100000 true T_kern_Kern_sect [(0,.pointer k),(1,.int .i64 env),(2,.int .i64 n)] h =
 bnd (cond (decide (n < 0)) (some (true,h)) (aSome k fun p=>gSl (Addr.add p 6) h fun _ xn _=>some (decide (n ≥ (xn : Int)),h))) fun c w=>bnd (cond c (some (true,w)) (aSome k fun p_1=>gSl (Addr.add p_1 1) w fun x_1 xn_1 _=>aSome x_1 fun p_2=>ck ((0 : Int) ≤ n ∧ n < (xn_1 : Int)) (gSl (Addr.add (bare p_2) (Int.toNat n * 1)) w fun x_2 xn_2 xc_2=>aSome k fun p_3=>gSl (Addr.add p_3 0) w fun x_3 xn_3 _=>aSome x_3 fun p_4=>ck ((0 : Int) ≤ env ∧ env < (xn_3 : Int)) (gInt .i64 (Addr.add (bare p_4) (Int.toNat env * 1)) w fun x_4=>bnd (C F_slices_Contains_s_int_int [.slice x_2 xn_2 xc_2,.int .i64 x_4] w) fun r w1=>aBool r fun x_5=>some (!x_5,w1))))) fun c_1 w2=>cond c_1
 (some (.tuple ⟨[.pointer none,.int .i64 8]⟩,w2))
 (aSome k fun p_5=>gSl (Addr.add p_5 6) w2 fun x_6 xn_4 _=>aSome x_6 fun p_6=>ck ((0 : Int) ≤ n ∧ n < (xn_4 : Int)) (gPtr (Addr.add (bare p_6) (Int.toNat n * 1)) w2 fun x_7=>some (.tuple ⟨[.pointer x_7,.int .i64 0]⟩,w2))) := by kernel_rfl
def C_sect_Sect_Enter : Cuts := { globs := 0,loops := [(18,[0,1,2])],regs := [(10,[0,1,2]),(11,[0,1,2]),(14,[0,1,2]),(17,[])],plans := [(11,⟨[0,1,2,3,4,5,6,7,8,9,10,11,12,13,14,15,16],[0,1,3,7,15,31,31,95,223,479,1023,31,2079,6175,14367,32767,65535],[],[]⟩),(18,⟨[0,1,2,3,4,5,6,7,8,9,10,11,12,13,14,15,16,17,18,19,20],[0,1,3,7,15,31,0,127,255,511,511,1535,3583,7679,16383,511,33279,98815,229887,524287,1048575],[],[]⟩)] }
def T_sect_Sect_Enter : List Item := bodyOf Tryz.f209
def T_sect_Sect_Enter_R1 : List Item := stk [0,1,0,1,0,1,0,1,0,1,0,0,1,2,0,1] T_sect_Sect_Enter
def T_sect_Sect_Enter_R2 : List Item := stk [0,1,0,1,0,1,0,1,0,1,0,1,0,0] T_sect_Sect_Enter
def T_sect_Sect_Enter_R3 : List Item := stk [0,1,0,1,0,1,0,1,0,1,0,1,0,1,0,0] T_sect_Sect_Enter
def T_sect_Sect_Enter_R4 : List Item := stk [0,1,0,1,0,1,0,1,0,1,0,1,0,1,0,0,1,2,0,1,0] T_sect_Sect_Enter
def T_sect_Sect_Enter_L1 : List Item := stk [0,1,0,1,0,1,0,1,0,1,0,1,0,1,0,1,0,4,5] T_sect_Sect_Enter
theorem e_sect_Sect_Enter (s : Option Addr) (who : Int) (now : Int) (h : H) :
 exec PR C_sect_Sect_Enter C R F_sect_Sect_Enter Tryz.f209 100000 true T_sect_Sect_Enter [(0,.pointer s),(1,.int .i64 who),(2,.int .i64 now)] h =
 aSome s fun p=>gInt .i64 (Addr.add p 7) h fun x=>bnd (cond (decide (who < 0)) (some (true,h)) (some (decide (who > 99),h))) fun c w=>cond c
 (some (.tuple ⟨[.int .i64 0,.bool false]⟩,w))
 (aSome s fun p_1=>pV (Addr.add p_1 7) (.int .i64 (mm2 true now x)) w fun w1=>aSome s fun p_2=>gBool (Addr.add p_2 1) w1 fun x_1=>bnd (cond x_1 (aSome s fun p_3=>gInt .i64 (Addr.add p_3 2) w1 fun x_2=>some (x_2 == who,w1)) (some (false,w1))) fun c_1 w2=>cond c_1
 (aSome s fun p_4=>gInt .i64 (Addr.add p_4 3) w2 fun x_3=>some (.tuple ⟨[.int .i64 x_3,.bool true]⟩,w2))
 (aSome s fun p_5=>gSl (Addr.add p_5 5) w2 fun x_4 xn xc=>bnd (C F_slices_Contains_s_int_int [.slice x_4 xn xc,.int .i64 who] w2) fun r w3=>aBool r fun x_5=>cond (!x_5)
 (aSome s fun p_6=>gSl (Addr.add p_6 5) w3 fun _ xn_1 _=>cond ((xn_1 : Int) == 0)
 (aSome s fun p_7=>pV (Addr.add p_7 6) (.int .i64 (mm2 true now x)) w3 fun w4=>R F_sect_Sect_Enter T_sect_Sect_Enter_R1 [(0,.pointer s),(1,.int .i64 who),(2,.int .i64 (mm2 true now x))] w4)
 (R F_sect_Sect_Enter T_sect_Sect_Enter_R1 [(0,.pointer s),(1,.int .i64 who),(2,.int .i64 (mm2 true now x))] w3))
 (R F_sect_Sect_Enter T_sect_Sect_Enter_R2 [(0,.pointer s),(1,.int .i64 who),(2,.int .i64 (mm2 true now x))] w3))) := by kernel_rfl
theorem e_sect_Sect_Enter_R1 (s : Option Addr) (who : Int) (now : Int) (h : H) :
 exec PR C_sect_Sect_Enter C R F_sect_Sect_Enter Tryz.f209 100000 true T_sect_Sect_Enter_R1 [(0,.pointer s),(1,.int .i64 who),(2,.int .i64 now)] h =
 aSome s fun p=>gSl (Addr.add p 5) h fun x xn xc=>nw (.cells Y_int false [.int .i64 who]) h fun b w=>gCells (some ⟨b,0,none⟩) (1 * 1) w fun cs=>ckB (fitsOpen x Y_int w) (apd Y_int 1 x xn xc 1 cs w fun a an ac w1=>aSome s fun p_1=>pV (Addr.add p_1 5) (.slice a an ac) w1 fun w2=>R F_sect_Sect_Enter T_sect_Sect_Enter_R2 [(0,.pointer s),(1,.int .i64 who),(2,.int .i64 now)] w2) := by kernel_rfl
theorem e_sect_Sect_Enter_R2 (s : Option Addr) (who : Int) (now : Int) (h : H) :
 exec PR C_sect_Sect_Enter C R F_sect_Sect_Enter Tryz.f209 100000 true T_sect_Sect_Enter_R2 [(0,.pointer s),(1,.int .i64 who),(2,.int .i64 now)] h =
 aSome s fun p=>gBool (Addr.add p 1) h fun x=>bnd (cond x (aSome s fun p_1=>gInt .i64 (Addr.add p_1 4) h fun x_1=>aSome s fun p_2=>gInt .i64 (Addr.add p_2 0) h fun x_2=>some (decide ((IntKind.wrap .i64 (now - x_1)) ≥ x_2),h)) (some (false,h))) fun c w=>cond c
 (aSome s fun p_3=>pV (Addr.add p_3 1) (.bool false) w fun w1=>aSome s fun p_4=>pV (Addr.add p_4 6) (.int .i64 now) w1 fun w2=>R F_sect_Sect_Enter T_sect_Sect_Enter_R3 [(0,.pointer s),(1,.int .i64 who),(2,.int .i64 now)] w2)
 (R F_sect_Sect_Enter T_sect_Sect_Enter_R3 [(0,.pointer s),(1,.int .i64 who),(2,.int .i64 now)] w) := by kernel_rfl
theorem e_sect_Sect_Enter_R3 (s : Option Addr) (who : Int) (now : Int) (h : H) :
 exec PR C_sect_Sect_Enter C R F_sect_Sect_Enter Tryz.f209 100000 true T_sect_Sect_Enter_R3 [(0,.pointer s),(1,.int .i64 who),(2,.int .i64 now)] h =
 aSome s fun p=>gBool (Addr.add p 1) h fun x=>cond x
 (aSome s fun p_1=>gSl (Addr.add p_1 5) h fun x_1 xn _=>aSome x_1 fun p_2=>ck ((0 : Int) ≤ 0 ∧ 0 < (xn : Int)) (gInt .i64 (Addr.add (bare p_2) (Int.toNat 0 * 1)) h fun x_2=>cond (x_2 == who)
 (aSome s fun p_3=>pV (Addr.add p_3 6) (.int .i64 now) h fun w=>R F_sect_Sect_Enter T_sect_Sect_Enter_R4 [] w)
 (R F_sect_Sect_Enter T_sect_Sect_Enter_R4 [] h)))
 (R F_sect_Sect_Enter T_sect_Sect_Enter_L1 [(0,.pointer s),(1,.int .i64 who),(2,.int .i64 now)] h) := by kernel_rfl
theorem e_sect_Sect_Enter_R4  (h : H) :
 exec PR C_sect_Sect_Enter C R F_sect_Sect_Enter Tryz.f209 100000 true T_sect_Sect_Enter_R4 [] h =
 some (.tuple ⟨[.int .i64 0,.bool false]⟩,h) := by kernel_rfl
theorem e_sect_Sect_Enter_L1 (s : Option Addr) (who : Int) (now : Int) (h : H) :
 exec PR C_sect_Sect_Enter C R F_sect_Sect_Enter Tryz.f209 100000 true T_sect_Sect_Enter_L1 [(0,.pointer s),(1,.int .i64 who),(2,.int .i64 now)] h =
 aSome s fun p=>gSl (Addr.add p 5) h fun x xn _=>aSome x fun p_1=>ck ((0 : Int) ≤ 0 ∧ 0 < (xn : Int)) (gInt .i64 (Addr.add (bare p_1) (Int.toNat 0 * 1)) h fun x_1=>bnd (cond (x_1 != who) (aSome s fun p_2=>gInt .i64 (Addr.add p_2 6) h fun x_2=>aSome s fun p_3=>gInt .i64 (Addr.add p_3 0) h fun x_3=>some (decide ((IntKind.wrap .i64 (now - x_2)) ≥ x_3),h)) (some (false,h))) fun c w=>cond c
 (aSome s fun p_4=>gSl (Addr.add p_4 5) w fun x_4 xn_1 xc_1=>ckB (fitsOpen x_4 Y_int w) (ck ((0 : Int) ≤ 1 ∧ 1 ≤ (xn_1 : Int)) (aSome s fun p_5=>pV (Addr.add p_5 5) (.slice (moved x_4 (decide (Int.toNat 1 < xc_1)) ((Int.toNat 1) * 1)) (xn_1 - (Int.toNat 1)) (xc_1 - (Int.toNat 1))) w fun w1=>aSome s fun p_6=>pV (Addr.add p_6 6) (.int .i64 now) w1 fun w2=>R F_sect_Sect_Enter T_sect_Sect_Enter_L1 [(0,.pointer s),(1,.int .i64 who),(2,.int .i64 now)] w2)))
 (aSome s fun p_7=>gSl (Addr.add p_7 5) w fun x_5 xn_2 _=>aSome x_5 fun p_8=>ck ((0 : Int) ≤ 0 ∧ 0 < (xn_2 : Int)) (gInt .i64 (Addr.add (bare p_8) (Int.toNat 0 * 1)) w fun x_6=>cond (x_6 != who)
 (some (.tuple ⟨[.int .i64 0,.bool false]⟩,w))
 (aSome s fun p_9=>gSl (Addr.add p_9 5) w fun x_7 xn_3 xc_3=>ckB (fitsOpen x_7 Y_int w) (ck ((0 : Int) ≤ 1 ∧ 1 ≤ (xn_3 : Int)) (aSome s fun p_10=>pV (Addr.add p_10 5) (.slice (moved x_7 (decide (Int.toNat 1 < xc_3)) ((Int.toNat 1) * 1)) (xn_3 - (Int.toNat 1)) (xc_3 - (Int.toNat 1))) w fun w3=>aSome s fun p_11=>pV (Addr.add p_11 6) (.int .i64 now) w3 fun w4=>aSome s fun p_12=>gInt .i64 (Addr.add p_12 8) w4 fun x_8=>aSome s fun p_13=>pV (Addr.add p_13 8) (.int .i64 (IntKind.wrap .i64 (x_8 + 1))) w4 fun w5=>aSome s fun p_14=>gInt .i64 (Addr.add p_14 8) w5 fun x_9=>aSome s fun p_15=>pV (Addr.add p_15 1) (.bool true) w5 fun w6=>aSome s fun p_16=>pV (Addr.add p_16 2) (.int .i64 who) w6 fun w7=>aSome s fun p_17=>pV (Addr.add p_17 3) (.int .i64 x_9) w7 fun w8=>aSome s fun p_18=>pV (Addr.add p_18 4) (.int .i64 now) w8 fun w9=>aSome s fun p_19=>gInt .i64 (Addr.add p_19 3) w9 fun x_10=>some (.tuple ⟨[.int .i64 x_10,.bool true]⟩,w9))))))) := by kernel_rfl
def C_codec_New_api_Proc : Cuts := { globs := 0,loops := [],regs := [],plans := [] }
def T_codec_New_api_Proc : List Item := bodyOf Tryz.f211
theorem e_codec_New_api_Proc (size : Int) (put : Value) (get : Value) (h : H) :
 exec PR C_codec_New_api_Proc C R F_codec_New_api_Proc Tryz.f211 100000 true T_codec_New_api_Proc [(0,.int .i64 size),(1,put),(2,get)] h =
 one put (one get (nw (.cells Y_codec_Codec_api_Proc false [.int .i64 (mm2 false (mm2 true size 0) 64),put,get]) h fun b w=>some (.pointer (some ⟨b,0,none⟩),w))) := by kernel_rfl
def C_pslot_put : Cuts := { globs := 0,loops := [(4,[1,2,22,23,24]),(9,[1,2,43,44,45]),(14,[1,58,59])],regs := [],plans := [] }
def T_pslot_put : List Item := bodyOf Tryz.f212
def T_pslot_put_L1 : List Item := stk [0,1,0,1,0,0,1,4,5] T_pslot_put
def T_pslot_put_L2 : List Item := stk [0,1,0,1,0,1,0,0,1,4,5] T_pslot_put
def T_pslot_put_L3 : List Item := stk [0,1,0,1,0,1,0,1,0,0,1,4,5] T_pslot_put
theorem e_pslot_put (p : List Value) (b : Option Addr) (bn bc : Nat) (h : H) :
 exec PR C_pslot_put C R F_pslot_put Tryz.f212 100000 true T_pslot_put [(0,.agg ⟨p⟩),(1,.slice b bn bc)] h =
 nw (.cells Y_api_Proc false p) h fun b_1 w=>gAgg ⟨b_1,0,none⟩ 16 w fun x=>bnd (C F_pslot_Ok [.agg ⟨x⟩] w) fun r w1=>aBool r fun x_1=>cond (!x_1)
 (some (.bool false,w1))
 (gInt .i64 (Addr.add ⟨b_1,0,none⟩ 0) w1 fun x_2=>gInt .i64 (Addr.add ⟨b_1,0,none⟩ 1) w1 fun x_3=>gInt .i64 (Addr.add ⟨b_1,0,none⟩ 2) w1 fun x_4=>gInt .i64 (Addr.add ⟨b_1,0,none⟩ 3) w1 fun x_5=>nw (.cells Y_int false [.int .i64 x_2,.int .i64 x_3,.int .i64 x_4,.int .i64 x_5]) w1 fun b_2 w2=>R F_pslot_put T_pslot_put_L1 [(1,.slice b bn bc),(2,.pointer (some ⟨b_1,0,none⟩)),(22,.slice (some ⟨b_2,0,none⟩) 4 4),(23,.int .i64 4),(24,.int .i64 0)] w2) := by kernel_rfl
theorem e_pslot_put_L1 (b : Option Addr) (bn bc : Nat) (p : Addr) (x22 : Option Addr) (x22n x22c : Nat) (x23 : Int) (x24 : Int) (h : H) :
 exec PR C_pslot_put C R F_pslot_put Tryz.f212 100000 true T_pslot_put_L1 [(1,.slice b bn bc),(2,.pointer (some p)),(22,.slice x22 x22n x22c),(23,.int .i64 x23),(24,.int .i64 x24)] h =
 cond (decide (x24 < x23))
 (aSome x22 fun p_1=>ck ((0 : Int) ≤ x24 ∧ x24 < (x22n : Int)) (gInt .i64 (Addr.add (bare p_1) (Int.toNat x24 * 1)) h fun x=>aSome b fun p_2=>ck ((0 : Int) ≤ x24 ∧ x24 < (bn : Int)) (pV (Addr.add (bare p_2) (Int.toNat x24 * 1)) (.int .u8 (IntKind.wrap .u8 (x))) h fun w=>R F_pslot_put T_pslot_put_L1 [(1,.slice b bn bc),(2,.pointer (some p)),(22,.slice x22 x22n x22c),(23,.int .i64 x23),(24,.int .i64 (IntKind.wrap .i64 (x24 + 1)))] w)))
 (gInt .i64 (Addr.add p 4) h fun x_1=>gInt .i64 (Addr.add p 5) h fun x_2=>gInt .i64 (Addr.add p 6) h fun x_3=>gInt .i64 (Addr.add p 7) h fun x_4=>nw (.cells Y_int false [.int .i64 x_1,.int .i64 x_2,.int .i64 x_3,.int .i64 x_4]) h fun b_1 w1=>R F_pslot_put T_pslot_put_L2 [(1,.slice b bn bc),(2,.pointer (some p)),(43,.slice (some ⟨b_1,0,none⟩) 4 4),(44,.int .i64 4),(45,.int .i64 0)] w1) := by kernel_rfl
theorem e_pslot_put_L2 (b : Option Addr) (bn bc : Nat) (p : Addr) (x43 : Option Addr) (x43n x43c : Nat) (x44 : Int) (x45 : Int) (h : H) :
 exec PR C_pslot_put C R F_pslot_put Tryz.f212 100000 true T_pslot_put_L2 [(1,.slice b bn bc),(2,.pointer (some p)),(43,.slice x43 x43n x43c),(44,.int .i64 x44),(45,.int .i64 x45)] h =
 cond (decide (x45 < x44))
 (aSome x43 fun p_1=>ck ((0 : Int) ≤ x45 ∧ x45 < (x43n : Int)) (gInt .i64 (Addr.add (bare p_1) (Int.toNat x45 * 1)) h fun x=>bnd (C F_codec_Put2 [.slice b bn bc,.int .i64 (IntKind.wrap .i64 (4 + (IntKind.wrap .i64 (2 * x45)))),.int .i64 x] h) fun r w=>aBool r fun _=>R F_pslot_put T_pslot_put_L2 [(1,.slice b bn bc),(2,.pointer (some p)),(43,.slice x43 x43n x43c),(44,.int .i64 x44),(45,.int .i64 (IntKind.wrap .i64 (x45 + 1)))] w))
 (gAgg (Addr.add p 8) 8 h fun x_2=>R F_pslot_put T_pslot_put_L3 [(1,.slice b bn bc),(58,.agg ⟨x_2⟩),(59,.int .i64 0)] h) := by kernel_rfl
theorem e_pslot_put_L3 (b : Option Addr) (bn bc : Nat) (x58 : List Value) (x59 : Int) (h : H) :
 exec PR C_pslot_put C R F_pslot_put Tryz.f212 100000 true T_pslot_put_L3 [(1,.slice b bn bc),(58,.agg ⟨x58⟩),(59,.int .i64 x59)] h =
 cond (decide (x59 < 8))
 (ck ((0 : Int) ≤ x59 ∧ x59 < ((8 : Nat) : Int)) (nth x58 (Int.toNat x59 * 1) fun x=>aInt .i64 x fun x_1=>aSome b fun p=>ck ((0 : Int) ≤ IntKind.wrap .i64 (12 + x59) ∧ IntKind.wrap .i64 (12 + x59) < (bn : Int)) (pV (Addr.add (bare p) (Int.toNat (IntKind.wrap .i64 (12 + x59)) * 1)) (.int .u8 (IntKind.wrap .u8 (x_1))) h fun w=>R F_pslot_put T_pslot_put_L3 [(1,.slice b bn bc),(58,.agg ⟨x58⟩),(59,.int .i64 (IntKind.wrap .i64 (x59 + 1)))] w)))
 (aSome b fun p_1=>ck ((0 : Int) ≤ 20 ∧ 20 < (bn : Int)) (pV (Addr.add (bare p_1) (Int.toNat 20 * 1)) (.int .u8 167) h fun w1=>ckB (fitsOpen b Y_uint8 w1) (ck ((0 : Int) ≤ 21 ∧ 21 ≤ (bc : Int)) (bnd (C F_codec_Sum [.slice (moved b (decide (0 < bc)) (0 * 1)) ((Int.toNat 21) - 0) (bc - 0)] w1) fun r w2=>aInt .u8 r fun x_2=>aSome b fun p_2=>ck ((0 : Int) ≤ 21 ∧ 21 < (bn : Int)) (pV (Addr.add (bare p_2) (Int.toNat 21 * 1)) (.int .u8 x_2) w2 fun w3=>some (.bool true,w3)))))) := by kernel_rfl
def C_ring_Ok : Cuts := { globs := 0,loops := [],regs := [],plans := [] }
def T_ring_Ok : List Item := bodyOf Tryz.f223
theorem e_ring_Ok (p : List Value) (h : H) :
 exec PR C_ring_Ok C R F_ring_Ok Tryz.f223 100000 true T_ring_Ok [(0,.agg ⟨p⟩)] h =
 nw (.cells Y_api_Pipe false p) h fun b w=>gInt .i64 (Addr.add ⟨b,0,none⟩ 0) w fun x=>bnd (C F_ring_Ok_1 [.int .i64 x,.int .i64 31] w) fun r w1=>aBool r fun x_1=>bnd (cond x_1 (gInt .i64 (Addr.add ⟨b,0,none⟩ 1) w1 fun x_2=>bnd (C F_ring_Ok_1 [.int .i64 x_2,.int .i64 32] w1) fun r_1 w2=>aBool r_1 fun x_3=>some (x_3,w2)) (some (false,w1))) fun c w3=>bnd (cond c (gInt .i64 (Addr.add ⟨b,0,none⟩ 2) w3 fun x_4=>bnd (C F_ring_Ok_1 [.int .i64 x_4,.int .i64 8] w3) fun r_2 w4=>aBool r_2 fun x_5=>some (x_5,w4)) (some (false,w3))) fun c_1 w5=>bnd (cond c_1 (gInt .i64 (Addr.add ⟨b,0,none⟩ 3) w5 fun x_6=>bnd (C F_ring_Ok_1 [.int .i64 x_6,.int .i64 8] w5) fun r_3 w6=>aBool r_3 fun x_7=>some (x_7,w6)) (some (false,w5))) fun c_2 w7=>some (.bool c_2,w7) := by kernel_rfl
def C_slices_Equal_s_byte_byte : Cuts := { globs := 0,loops := [(4,[0,1,12,13])],regs := [],plans := [(6,⟨[0,1,2,3,4,5,6,7,8],[0,0,3,7,0,0,48,112,255],[],[]⟩)] }
def T_slices_Equal_s_byte_byte : List Item := bodyOf Tryz.f224
def T_slices_Equal_s_byte_byte_L1 : List Item := stk [0,1,0,1,0,0,1,4,5] T_slices_Equal_s_byte_byte
theorem e_slices_Equal_s_byte_byte (s1 : Option Addr) (s1n s1c : Nat) (s2 : Option Addr) (s2n s2c : Nat) (h : H) :
 exec PR C_slices_Equal_s_byte_byte C R F_slices_Equal_s_byte_byte Tryz.f224 100000 true T_slices_Equal_s_byte_byte [(0,.slice s1 s1n s1c),(1,.slice s2 s2n s2c)] h =
 cond ((s1n : Int) != (s2n : Int))
 (some (.bool false,h))
 (R F_slices_Equal_s_byte_byte T_slices_Equal_s_byte_byte_L1 [(0,.slice s1 s1n s1c),(1,.slice s2 s2n s2c),(12,.int .i64 (s1n : Int)),(13,.int .i64 0)] h) := by kernel_rfl
theorem e_slices_Equal_s_byte_byte_L1 (s1 : Option Addr) (s1n s1c : Nat) (s2 : Option Addr) (s2n s2c : Nat) (x12 : Int) (x13 : Int) (h : H) :
 exec PR C_slices_Equal_s_byte_byte C R F_slices_Equal_s_byte_byte Tryz.f224 100000 true T_slices_Equal_s_byte_byte_L1 [(0,.slice s1 s1n s1c),(1,.slice s2 s2n s2c),(12,.int .i64 x12),(13,.int .i64 x13)] h =
 cond (decide (x13 < x12))
 (aSome s1 fun p=>ck ((0 : Int) ≤ x13 ∧ x13 < (s1n : Int)) (gInt .u8 (Addr.add (bare p) (Int.toNat x13 * 1)) h fun x=>aSome s2 fun p_1=>ck ((0 : Int) ≤ x13 ∧ x13 < (s2n : Int)) (gInt .u8 (Addr.add (bare p_1) (Int.toNat x13 * 1)) h fun x_1=>cond (x != x_1)
 (some (.bool false,h))
 (R F_slices_Equal_s_byte_byte T_slices_Equal_s_byte_byte_L1 [(0,.slice s1 s1n s1c),(1,.slice s2 s2n s2c),(12,.int .i64 x12),(13,.int .i64 (IntKind.wrap .i64 (x13 + 1)))] h))))
 (some (.bool true,h)) := by kernel_rfl
def C_slices_IndexFunc_s_byte_byte : Cuts := { globs := 0,loops := [(2,[0,1,7,8])],regs := [],plans := [] }
def T_slices_IndexFunc_s_byte_byte : List Item := bodyOf Tryz.f225
def T_slices_IndexFunc_s_byte_byte_L1 : List Item := stk [0,1,0,0,1,4,5] T_slices_IndexFunc_s_byte_byte
theorem e_slices_IndexFunc_s_byte_byte (s : Option Addr) (sn sc : Nat) (f : Value) (h : H) :
 exec PR C_slices_IndexFunc_s_byte_byte C R F_slices_IndexFunc_s_byte_byte Tryz.f225 100000 true T_slices_IndexFunc_s_byte_byte [(0,.slice s sn sc),(1,f)] h =
 R F_slices_IndexFunc_s_byte_byte T_slices_IndexFunc_s_byte_byte_L1 [(0,.slice s sn sc),(1,f),(7,.int .i64 (sn : Int)),(8,.int .i64 0)] h := by kernel_rfl
theorem e_slices_IndexFunc_s_byte_byte_L1 (s : Option Addr) (sn sc : Nat) (f : Value) (x7 : Int) (x8 : Int) (h : H) :
 exec PR C_slices_IndexFunc_s_byte_byte C R F_slices_IndexFunc_s_byte_byte Tryz.f225 100000 true T_slices_IndexFunc_s_byte_byte_L1 [(0,.slice s sn sc),(1,f),(7,.int .i64 x7),(8,.int .i64 x8)] h =
 cond (decide (x8 < x7))
 (aSome s fun p=>ck ((0 : Int) ≤ x8 ∧ x8 < (sn : Int)) (gInt .u8 (Addr.add (bare p) (Int.toNat x8 * 1)) h fun x=>aFn f fun g fi cp=>bnd (C g (fi ++ ([.int .u8 x] ++ cp)) h) fun r w=>aBool r fun x_1=>cond x_1
 (some (.int .i64 x8,w))
 (R F_slices_IndexFunc_s_byte_byte T_slices_IndexFunc_s_byte_byte_L1 [(0,.slice s sn sc),(1,f),(7,.int .i64 x7),(8,.int .i64 (IntKind.wrap .i64 (x8 + 1)))] w)))
 (some (.int .i64 (-1),h)) := by kernel_rfl
def C_pslot_Ok : Cuts := { globs := 0,loops := [],regs := [],plans := [] }
def T_pslot_Ok : List Item := bodyOf Tryz.f231
theorem e_pslot_Ok (p : List Value) (h : H) :
 exec PR C_pslot_Ok C R F_pslot_Ok Tryz.f231 100000 true T_pslot_Ok [(0,.agg ⟨p⟩)] h =
 nw (.cells Y_api_Proc false p) h fun b w=>gInt .i64 (Addr.add ⟨b,0,none⟩ 0) w fun x=>bnd (cond (decide (x < 1)) (some (true,w)) (gInt .i64 (Addr.add ⟨b,0,none⟩ 0) w fun x_1=>some (decide (x_1 > 3),w))) fun c w1=>bnd (cond c (some (true,w1)) (gInt .i64 (Addr.add ⟨b,0,none⟩ 1) w1 fun x_2=>some (decide (x_2 < 0),w1))) fun c_1 w2=>bnd (cond c_1 (some (true,w2)) (gInt .i64 (Addr.add ⟨b,0,none⟩ 1) w2 fun x_3=>some (decide (x_3 > 8),w2))) fun c_2 w3=>bnd (cond c_2 (some (true,w3)) (gInt .i64 (Addr.add ⟨b,0,none⟩ 2) w3 fun x_4=>some (decide (x_4 < 0),w3))) fun c_3 w4=>bnd (cond c_3 (some (true,w4)) (gInt .i64 (Addr.add ⟨b,0,none⟩ 2) w4 fun x_5=>some (decide (x_5 ≥ 8),w4))) fun c_4 w5=>bnd (cond c_4 (some (true,w5)) (gInt .i64 (Addr.add ⟨b,0,none⟩ 3) w5 fun x_6=>some (decide (x_6 < 0),w5))) fun c_5 w6=>bnd (cond c_5 (some (true,w6)) (gInt .i64 (Addr.add ⟨b,0,none⟩ 3) w6 fun x_7=>some (decide (x_7 > 255),w6))) fun c_6 w7=>cond c_6
 (some (.bool false,w7))
 (gInt .i64 (Addr.add ⟨b,0,none⟩ 4) w7 fun x_8=>bnd (C F_pslot_bits [.int .i64 x_8,.int .i64 0] w7) fun r w8=>aBool r fun x_9=>bnd (cond (!x_9) (some (true,w8)) (gInt .i64 (Addr.add ⟨b,0,none⟩ 5) w8 fun x_10=>bnd (C F_pslot_bits [.int .i64 x_10,.int .i64 16896] w8) fun r_1 w9=>aBool r_1 fun x_11=>some (!x_11,w9))) fun c_7 w10=>bnd (cond c_7 (some (true,w10)) (gInt .i64 (Addr.add ⟨b,0,none⟩ 6) w10 fun x_12=>bnd (C F_pslot_bits [.int .i64 x_12,.int .i64 16896] w10) fun r_2 w11=>aBool r_2 fun x_13=>some (!x_13,w11))) fun c_8 w12=>bnd (cond c_8 (some (true,w12)) (gInt .i64 (Addr.add ⟨b,0,none⟩ 7) w12 fun x_14=>bnd (C F_pslot_bits [.int .i64 x_14,.int .i64 16896] w12) fun r_3 w13=>aBool r_3 fun x_15=>some (!x_15,w13))) fun c_9 w14=>bnd (cond c_9 (some (true,w14)) (gInt .i64 (Addr.add ⟨b,0,none⟩ 6) w14 fun x_16=>gInt .i64 (Addr.add ⟨b,0,none⟩ 7) w14 fun x_17=>some ((bitA .i64 x_16 x_17) != 0,w14))) fun c_10 w15=>cond c_10
 (some (.bool false,w15))
 (ckB (liveA (Addr.add ⟨b,0,none⟩ 8) w15) (bnd (C F_slices_ContainsFunc_s_int_int [.slice (moved (some (Addr.add ⟨b,0,none⟩ 8)) (decide (0 < 8)) (0 * 1)) (8 - 0) (8 - 0),.func (.func F_pslot_Ok_1) ⟨[]⟩ ⟨[]⟩] w15) fun r_4 w16=>aBool r_4 fun x_18=>cond x_18
 (some (.bool false,w16))
 (gInt .i64 (Addr.add ⟨b,0,none⟩ 0) w16 fun x_19=>cond (x_19 == 2)
 (gInt .i64 (Addr.add ⟨b,0,none⟩ 4) w16 fun x_20=>bnd (cond (x_20 == 0) (gAgg (Addr.add ⟨b,0,none⟩ 8) 8 w16 fun x_21=>eqAgg PR Y_8_int x_21 [.int .i64 0,.int .i64 0,.int .i64 0,.int .i64 0,.int .i64 0,.int .i64 0,.int .i64 0,.int .i64 0] fun eq=>some (eq,w16)) (some (false,w16))) fun c_11 w17=>some (.bool c_11,w17))
 (gInt .i64 (Addr.add ⟨b,0,none⟩ 3) w16 fun x_22=>some (.bool (x_22 == 0),w16)))))) := by kernel_rfl
def C_ring_Ok_1 : Cuts := { globs := 0,loops := [],regs := [],plans := [] }
def T_ring_Ok_1 : List Item := bodyOf Tryz.f235
theorem e_ring_Ok_1 (n : Int) (most : Int) (h : H) :
 exec PR C_ring_Ok_1 C R F_ring_Ok_1 Tryz.f235 100000 true T_ring_Ok_1 [(0,.int .i64 n),(1,.int .i64 most)] h =
 bnd (cond (decide (n ≥ 0)) (some (decide (n ≤ most),h)) (some (false,h))) fun c w=>some (.bool c,w) := by kernel_rfl
end
end Go.EQ

set_option maxRecDepth 100000
namespace Go.EQ
open Go Go.NN Go.Proofs
variable (C : CallFn) (R : RunFn)
noncomputable section
def C_law15_CommonsApart : Cuts := { globs := 0,loops := [],regs := [(17,[0,1,8,11,15,17,18,19,20])],plans := [(22,⟨[0,1,2,3,4,5,6,7,8,9,10,11,12,13,14,15,16,17,18,19,20,21,22,23,24,25,26,27,28,29,30,31,32,33,34,35,36,37,38,39,40,41,42,43,44,45,46,47,48,49],[0,1,3,7,15,31,63,127,255,511,1023,2047,2047,6143,16383,32767,65535,131071,262143,524287,1048575,2097151,2097151,8388607,16777215,33554431,67108863,134217727,268435455,536870911,1073741823,1073741823,4294967295,8589934591,17179869183,34359738367,68719476735,137438953471,274877906943,549755813887,1099511627775,2199023255551,4398046511103,8796093022207,17592186044415,35184372088831,70368744177663,140737488355327,281474976710655,562949953421311],[(13,[11])],[]⟩)] }
def T_law15_CommonsApart : List Item := bodyOf Tryz.f4
def T_law15_CommonsApart_R1 : List Item := stk [0,1,0,1,0,1,0,1,0,1,0,1,0,1,0,1,0,1,0,1,0,1,0,1,0,1,0,1,0] T_law15_CommonsApart
theorem e_law15_CommonsApart (i : Int) (l : Option Addr) (ln lc : Nat) (k2 : Int) (h : H) :
 exec PR C_law15_CommonsApart C R F_law15_CommonsApart Tryz.f4 100000 true T_law15_CommonsApart [(0,.int .i64 i),(1,.slice l ln lc),(2,.int .i64 k2)] h =
 bnd (C F_law15_Plan [] h) fun r w=>aAgg r fun x=>bnd (C F_law15_Open [.agg ⟨x⟩] w) fun r_1 w1=>as4 r_1 fun r_2 r_3 r_4 r_5=>aPtr r_2 fun x_1=>aPtr r_3 fun x_2=>aPtr r_4 fun _=>aPtr r_5 fun _=>cond x_2.isNone
 (some (.bool false,w1))
 (bnd (C F_commons_New [.pointer x_1,.int .i64 3] w1) fun r_6 w2=>as2 r_6 fun r_7 r_8=>aPtr r_7 fun x_5=>aInt .i64 r_8 fun x_6=>bnd (cond x_5.isNone (some (true,w2)) (some (x_6 != 0,w2))) fun c w3=>cond c
 (some (.bool false,w3))
 (bnd (C F_law11_Proc [.slice l ln lc] w3) fun r_9 w4=>aAgg r_9 fun x_7=>bnd (C F_ref11_ProcBytes [.agg ⟨x_7⟩] w4) fun r_10 w5=>aStr r_10 fun x_8=>nw (.cells Y_uint8 false [.int .u8 9]) w5 fun b w6=>bnd (C F_kern_Kern_Do [.pointer x_1,.int .i64 1,.agg ⟨[.int .i64 2,.int .i64 256,.int .i64 (IntKind.wrap .i64 ((IntKind.wrap .i64 (24 * (bitA .i64 i 7))) + 5)),.int .i64 0,.int .i64 0,.int .i64 0,.slice (some ⟨b,0,none⟩) 1 1]⟩] w6) fun r_11 w7=>aAgg r_11 fun _=>bnd (C F_commons_Commons_Proc [.pointer x_2,.int .i64 (bitA .i64 i 7)] w7) fun r_12 w8=>as2 r_12 fun r_13 r_14=>aAgg r_13 fun x_10=>aInt .i64 r_14 fun x_11=>nw (.cells Y_api_Proc false [.int .i64 0,.int .i64 0,.int .i64 0,.int .i64 0,.int .i64 0,.int .i64 0,.int .i64 0,.int .i64 0,.int .i64 0,.int .i64 0,.int .i64 0,.int .i64 0,.int .i64 0,.int .i64 0,.int .i64 0,.int .i64 0]) w8 fun b_1 w9=>ck (List.length x_10 = 16) (pAgg ⟨b_1,0,none⟩ x_10 w9 fun w10=>ck (ByteArray.size x_8 ≤ most) (nw (.cells Y_uint8 false (byteCells (ByteArray.data x_8).toList)) w10 fun b_2 w11=>bnd (C F_kern_Kern_Do [.pointer x_1,.int .i64 1,.agg ⟨[.int .i64 2,.int .i64 256,.int .i64 (IntKind.wrap .i64 (24 * (bitA .i64 i 7))),.int .i64 0,.int .i64 0,.int .i64 0,.slice (some (openAt b_2)) (ByteArray.size x_8) (ByteArray.size x_8)]⟩] w11) fun r_15 w12=>aAgg r_15 fun _=>bnd (C F_commons_Commons_Proc [.pointer x_2,.int .i64 (bitA .i64 i 7)] w12) fun r_16 w13=>as2 r_16 fun r_17 r_18=>aAgg r_17 fun x_13=>aInt .i64 r_18 fun x_14=>nw (.cells Y_api_Proc false [.int .i64 0,.int .i64 0,.int .i64 0,.int .i64 0,.int .i64 0,.int .i64 0,.int .i64 0,.int .i64 0,.int .i64 0,.int .i64 0,.int .i64 0,.int .i64 0,.int .i64 0,.int .i64 0,.int .i64 0,.int .i64 0]) w13 fun b_3 w14=>ck (List.length x_13 = 16) (pAgg ⟨b_3,0,none⟩ x_13 w14 fun w15=>bnd (C F_commons_Commons_Proc [.pointer x_5,.int .i64 (bitA .i64 i 7)] w15) fun r_19 w16=>as2 r_19 fun r_20 r_21=>aAgg r_20 fun x_15=>aInt .i64 r_21 fun x_16=>nw (.cells Y_api_Proc false [.int .i64 0,.int .i64 0,.int .i64 0,.int .i64 0,.int .i64 0,.int .i64 0,.int .i64 0,.int .i64 0,.int .i64 0,.int .i64 0,.int .i64 0,.int .i64 0,.int .i64 0,.int .i64 0,.int .i64 0,.int .i64 0]) w16 fun b_4 w17=>ck (List.length x_15 = 16) (pAgg ⟨b_4,0,none⟩ x_15 w17 fun w18=>cond ((bitA .i64 (IntKind.wrap .i64 ((IntKind.wrap .i64 ((bitA .i64 i 7) + 1)) + (Int.tmod (bitA .i64 k2 255) 7))) 7) == (bitA .i64 i 7))
 (R F_law15_CommonsApart T_law15_CommonsApart_R1 [(0,.int .i64 (bitA .i64 i 7)),(1,.slice l ln lc),(8,.pointer x_2),(11,.pointer x_5),(15,.int .i64 x_11),(17,.int .i64 x_14),(18,.pointer (some ⟨b_4,0,none⟩)),(19,.int .i64 x_16),(20,.int .i64 (bitA .i64 (IntKind.wrap .i64 ((bitA .i64 i 7) + 1)) 7))] w18)
 (R F_law15_CommonsApart T_law15_CommonsApart_R1 [(0,.int .i64 (bitA .i64 i 7)),(1,.slice l ln lc),(8,.pointer x_2),(11,.pointer x_5),(15,.int .i64 x_11),(17,.int .i64 x_14),(18,.pointer (some ⟨b_4,0,none⟩)),(19,.int .i64 x_16),(20,.int .i64 (bitA .i64 (IntKind.wrap .i64 ((IntKind.wrap .i64 ((bitA .i64 i 7) + 1)) + (Int.tmod (bitA .i64 k2 255) 7))) 7))] w18))))))) := by kernel_rfl
theorem e_law15_CommonsApart_R1 (i : Int) (l : Option Addr) (ln lc : Nat) (c : Option Addr) (o : Option Addr) (a : Int) (b : Int) (p : Addr) (d : Int) (j : Int) (h : H) :
 exec PR C_law15_CommonsApart C R F_law15_CommonsApart Tryz.f4 100000 true T_law15_CommonsApart_R1 [(0,.int .i64 i),(1,.slice l ln lc),(8,.pointer c),(11,.pointer o),(15,.int .i64 a),(17,.int .i64 b),(18,.pointer (some p)),(19,.int .i64 d),(20,.int .i64 j)] h =
 nw (.cells Y_int false [.int .i64 5]) h fun b_1 w=>gCells l (ln * 1) w fun cs=>ckB (fitsOpen (some ⟨b_1,0,none⟩) Y_int w) (apd Y_int 1 (some ⟨b_1,0,none⟩) 1 1 ln cs w fun a_1 an ac w1=>bnd (C F_law11_Proc [.slice a_1 an ac] w1) fun r w2=>aAgg r fun x=>nw (.cells Y_api_Proc false [.int .i64 0,.int .i64 0,.int .i64 0,.int .i64 0,.int .i64 0,.int .i64 0,.int .i64 0,.int .i64 0,.int .i64 0,.int .i64 0,.int .i64 0,.int .i64 0,.int .i64 0,.int .i64 0,.int .i64 0,.int .i64 0]) w2 fun b_2 w3=>ck (List.length x = 16) (pAgg ⟨b_2,0,none⟩ x w3 fun w4=>gAgg ⟨b_2,0,none⟩ 16 w4 fun x_1=>bnd (C F_commons_Commons_SetProc [.pointer o,.int .i64 j,.agg ⟨x_1⟩] w4) fun r_1 w5=>aBool r_1 fun x_2=>bnd (cond (!x_2) (some (true,w5)) (gAgg ⟨b_2,0,none⟩ 16 w5 fun x_3=>bnd (C F_commons_Commons_SetProc [.pointer c,.int .i64 i,.agg ⟨x_3⟩] w5) fun r_2 w6=>aBool r_2 fun x_4=>some (x_4,w6))) fun c_1 w7=>bnd (cond c_1 (some (true,w7)) (bnd (C F_commons_Commons_FreeProc [.pointer c,.int .i64 i] w7) fun r_3 w8=>aBool r_3 fun x_5=>some (x_5,w8))) fun c_2 w9=>cond c_2
 (some (.bool false,w9))
 (bnd (C F_commons_Commons_Proc [.pointer c,.int .i64 j] w9) fun r_4 w10=>as2 r_4 fun r_5 r_6=>aAgg r_5 fun x_6=>aInt .i64 r_6 fun x_7=>nw (.cells Y_api_Proc false [.int .i64 0,.int .i64 0,.int .i64 0,.int .i64 0,.int .i64 0,.int .i64 0,.int .i64 0,.int .i64 0,.int .i64 0,.int .i64 0,.int .i64 0,.int .i64 0,.int .i64 0,.int .i64 0,.int .i64 0,.int .i64 0]) w10 fun b_3 w11=>ck (List.length x_6 = 16) (pAgg ⟨b_3,0,none⟩ x_6 w11 fun w12=>bnd (C F_commons_Commons_Proc [.pointer o,.int .i64 i] w12) fun r_7 w13=>as2 r_7 fun r_8 r_9=>aAgg r_8 fun x_8=>aInt .i64 r_9 fun x_9=>nw (.cells Y_api_Proc false [.int .i64 0,.int .i64 0,.int .i64 0,.int .i64 0,.int .i64 0,.int .i64 0,.int .i64 0,.int .i64 0,.int .i64 0,.int .i64 0,.int .i64 0,.int .i64 0,.int .i64 0,.int .i64 0,.int .i64 0,.int .i64 0]) w13 fun b_4 w14=>ck (List.length x_8 = 16) (pAgg ⟨b_4,0,none⟩ x_8 w14 fun w15=>bnd (cond (a == 2) (some (b == 2,w15)) (some (false,w15))) fun c_3 w16=>bnd (cond c_3 (some (d == 1,w16)) (some (false,w16))) fun c_4 w17=>bnd (cond c_4 (gAgg p 16 w17 fun x_10=>bnd (C F_law11_Proc [.slice l ln lc] w17) fun r_10 w18=>aAgg r_10 fun x_11=>gAgg p 16 w18 fun x_12=>same (.agg ⟨x_10⟩) (.agg ⟨x_12⟩) (eqAgg PR Y_api_Proc x_10 x_11 fun eq=>some (eq,w18))) (some (false,w17))) fun c_5 w19=>bnd (cond c_5 (some (x_7 == 1,w19)) (some (false,w19))) fun c_6 w20=>bnd (cond c_6 (gAgg ⟨b_3,0,none⟩ 16 w20 fun x_13=>gAgg ⟨b_2,0,none⟩ 16 w20 fun x_14=>eqAgg PR Y_api_Proc x_13 x_14 fun eq_1=>some (eq_1,w20)) (some (false,w20))) fun c_7 w21=>bnd (cond c_7 (some (x_9 == 1,w21)) (some (false,w21))) fun c_8 w22=>bnd (cond c_8 (gAgg ⟨b_4,0,none⟩ 16 w22 fun x_15=>gAgg p 16 w22 fun x_16=>eqAgg PR Y_api_Proc x_15 x_16 fun eq_2=>some (eq_2,w22)) (some (false,w22))) fun c_9 w23=>bnd (cond c_9 (bnd (C F_commons_Commons_Bad [.pointer c] w23) fun r_11 w24=>aSl r_11 fun _ xn _=>some ((xn : Int) == 1,w24)) (some (false,w23))) fun c_10 w25=>bnd (cond c_10 (bnd (C F_commons_Commons_Bad [.pointer o] w25) fun r_12 w26=>aSl r_12 fun _ xn_1 _=>some ((xn_1 : Int) == 0,w26)) (some (false,w25))) fun c_11 w27=>bnd (cond c_11 (bnd (C F_law15_awake [] w27) fun r_13 w28=>aBool r_13 fun x_19=>some (x_19,w28)) (some (false,w27))) fun c_12 w29=>some (.bool c_12,w29)))))) := by kernel_rfl
def C_law15_Open : Cuts := { globs := 0,loops := [],regs := [],plans := [] }
def T_law15_Open : List Item := bodyOf Tryz.f13
theorem e_law15_Open (p : List Value) (h : H) :
 exec PR C_law15_Open C R F_law15_Open Tryz.f13 100000 true T_law15_Open [(0,.agg ⟨p⟩)] h =
 nw (.cells Y_api_Plan false p) h fun b w=>gAgg ⟨b,0,none⟩ 3 w fun x=>bnd (C F_ref15_Boot [.agg ⟨x⟩] w) fun r w1=>aAgg r fun x_1=>nw (.cells Y_api_Boot false [.slice none 0 0,.slice none 0 0,.slice none 0 0,.int .i64 0,.slice none 0 0]) w1 fun b_1 w2=>ck (List.length x_1 = 5) (pAgg ⟨b_1,0,none⟩ x_1 w2 fun w3=>gAgg ⟨b_1,0,none⟩ 5 w3 fun x_2=>bnd (C F_kern_New [.agg ⟨x_2⟩] w3) fun r_1 w4=>as2 r_1 fun r_2 r_3=>aPtr r_2 fun x_3=>aInt .i64 r_3 fun x_4=>bnd (cond x_3.isNone (some (true,w4)) (some (x_4 != 0,w4))) fun c w5=>cond c
 (some (.tuple ⟨[.pointer none,.pointer none,.pointer none,.pointer none]⟩,w5))
 (gAgg ⟨b_1,0,none⟩ 5 w5 fun x_5=>bnd (C F_ref1_NewKern [.agg ⟨x_5⟩] w5) fun r_4 w6=>aPtr r_4 fun x_6=>bnd (C F_commons_New [.pointer x_3,.int .i64 0] w6) fun r_5 w7=>as2 r_5 fun r_6 r_7=>aPtr r_6 fun x_7=>aInt .i64 r_7 fun x_8=>bnd (cond x_7.isNone (some (true,w7)) (some (x_8 != 0,w7))) fun c_1 w8=>cond c_1
 (some (.tuple ⟨[.pointer none,.pointer none,.pointer none,.pointer none]⟩,w8))
 (bnd (C F_ref15_Blank [] w8) fun r_8 w9=>aStr r_8 fun x_9=>ck (ByteArray.size x_9 ≤ most) (nw (.cells Y_uint8 false (byteCells (ByteArray.data x_9).toList)) w9 fun b_2 w10=>bnd (C F_kern_Kern_Do [.pointer x_3,.int .i64 0,.agg ⟨[.int .i64 2,.int .i64 256,.int .i64 0,.int .i64 0,.int .i64 0,.int .i64 0,.slice (some (openAt b_2)) (ByteArray.size x_9) (ByteArray.size x_9)]⟩] w10) fun r_9 w11=>aAgg r_9 fun x_10=>nth x_10 0 fun E=>aInt .i64 E fun E_1=>cond (E_1 != 0)
 (some (.tuple ⟨[.pointer none,.pointer none,.pointer none,.pointer none]⟩,w11))
 (ck (ByteArray.size x_9 ≤ most) (nw (.cells Y_uint8 false (byteCells (ByteArray.data x_9).toList)) w11 fun b_3 w12=>bnd (C F_ref1_Kern_Do [.pointer x_6,.int .i64 0,.agg ⟨[.int .i64 2,.int .i64 256,.int .i64 0,.int .i64 0,.int .i64 0,.int .i64 0,.slice (some (openAt b_3)) (ByteArray.size x_9) (ByteArray.size x_9)]⟩] w12) fun r_10 w13=>as3 r_10 fun r_11 r_12 r_13=>aInt .i64 r_11 fun _=>aInt .i64 r_12 fun _=>aStr r_13 fun _=>bnd (C F_ref15_NewCommons [.pointer x_6,.int .i64 0] w13) fun r_14 w14=>aPtr r_14 fun x_14=>some (.tuple ⟨[.pointer x_3,.pointer x_7,.pointer x_6,.pointer x_14]⟩,w14))))))) := by kernel_rfl
def C_ref11_ProcBytes : Cuts := { globs := 0,loops := [(4,[1,3,4])],regs := [],plans := [(2,⟨[0,1,2,5,6,9,10,13,14,3,4,7,8,11,12,15,16,17],[0,0,2,6,15,0,32,110,255,0,512,1774,4095,0,8192,28398,65535,131071],[(3,[6,10,14]),(7,[10,14]),(11,[14])],[]⟩)] }
def T_ref11_ProcBytes : List Item := bodyOf Tryz.f20
def T_ref11_ProcBytes_L1 : List Item := stk [0,1,0,1,0,1,0,0,1,4,5] T_ref11_ProcBytes
theorem e_ref11_ProcBytes (p : List Value) (h : H) :
 exec PR C_ref11_ProcBytes C R F_ref11_ProcBytes Tryz.f20 100000 true T_ref11_ProcBytes [(0,.agg ⟨p⟩)] h =
 nw (.cells Y_api_Proc false p) h fun b w=>gInt .i64 (Addr.add ⟨b,0,none⟩ 0) w fun x=>gInt .i64 (Addr.add ⟨b,0,none⟩ 1) w fun x_1=>gInt .i64 (Addr.add ⟨b,0,none⟩ 2) w fun x_2=>gInt .i64 (Addr.add ⟨b,0,none⟩ 3) w fun x_3=>nw (.cells Y_uint8 false [.int .u8 (IntKind.wrap .u8 (x)),.int .u8 (IntKind.wrap .u8 (x_1)),.int .u8 (IntKind.wrap .u8 (x_2)),.int .u8 (IntKind.wrap .u8 (x_3))]) w fun b_1 w1=>gCells (some ⟨b_1,0,none⟩) 4 w1 fun cs=>asBytes cs fun l=>gInt .i64 (Addr.add ⟨b,0,none⟩ 4) w1 fun x_4=>gInt .i64 (Addr.add ⟨b,0,none⟩ 5) w1 fun x_5=>gInt .i64 (Addr.add ⟨b,0,none⟩ 6) w1 fun x_6=>gInt .i64 (Addr.add ⟨b,0,none⟩ 7) w1 fun x_7=>bnd (C F_ref1_Two [.int .i64 x_4] w1) fun r w2=>aStr r fun x_8=>gInt .i64 (Addr.add ⟨b,0,none⟩ 5) w2 fun x_9=>same (.int .i64 x_5) (.int .i64 x_9) (gInt .i64 (Addr.add ⟨b,0,none⟩ 6) w2 fun x_10=>same (.int .i64 x_6) (.int .i64 x_10) (gInt .i64 (Addr.add ⟨b,0,none⟩ 7) w2 fun x_11=>same (.int .i64 x_7) (.int .i64 x_11) (ck (ByteArray.size (ByteArray.mk ⟨l⟩) + ByteArray.size x_8 ≤ most) (bnd (C F_ref1_Two [.int .i64 x_5] w2) fun r_1 w3=>aStr r_1 fun x_12=>gInt .i64 (Addr.add ⟨b,0,none⟩ 6) w3 fun x_13=>same (.int .i64 x_6) (.int .i64 x_13) (gInt .i64 (Addr.add ⟨b,0,none⟩ 7) w3 fun x_14=>same (.int .i64 x_7) (.int .i64 x_14) (ck (ByteArray.size ((ByteArray.mk ⟨l⟩) ++ x_8) + ByteArray.size x_12 ≤ most) (bnd (C F_ref1_Two [.int .i64 x_6] w3) fun r_2 w4=>aStr r_2 fun x_15=>gInt .i64 (Addr.add ⟨b,0,none⟩ 7) w4 fun x_16=>same (.int .i64 x_7) (.int .i64 x_16) (ck (ByteArray.size (((ByteArray.mk ⟨l⟩) ++ x_8) ++ x_12) + ByteArray.size x_15 ≤ most) (bnd (C F_ref1_Two [.int .i64 x_7] w4) fun r_3 w5=>aStr r_3 fun x_17=>ck (ByteArray.size ((((ByteArray.mk ⟨l⟩) ++ x_8) ++ x_12) ++ x_15) + ByteArray.size x_17 ≤ most) (R F_ref11_ProcBytes T_ref11_ProcBytes_L1 [(1,.pointer (some ⟨b,0,none⟩)),(3,.string (((((ByteArray.mk ⟨l⟩) ++ x_8) ++ x_12) ++ x_15) ++ x_17)),(4,.int .i64 0)] w5)))))))))) := by kernel_rfl
theorem e_ref11_ProcBytes_L1 (p : Addr) (s : ByteArray) (i : Int) (h : H) :
 exec PR C_ref11_ProcBytes C R F_ref11_ProcBytes Tryz.f20 100000 true T_ref11_ProcBytes_L1 [(1,.pointer (some p)),(3,.string s),(4,.int .i64 i)] h =
 cond (decide (i < 8))
 (ck ((0 : Int) ≤ i ∧ i < ((8 : Nat) : Int)) (gInt .i64 (Addr.add (Addr.add p 8) (Int.toNat i * 1)) h fun x=>nw (.cells Y_uint8 false [.int .u8 (IntKind.wrap .u8 (x))]) h fun b w=>gCells (some ⟨b,0,none⟩) 1 w fun cs=>asBytes cs fun l=>ck (ByteArray.size s + ByteArray.size (ByteArray.mk ⟨l⟩) ≤ most) (R F_ref11_ProcBytes T_ref11_ProcBytes_L1 [(1,.pointer (some p)),(3,.string (s ++ (ByteArray.mk ⟨l⟩))),(4,.int .i64 (IntKind.wrap .i64 (i + 1)))] w)))
 (ck (ByteArray.size s + ByteArray.size (ByteArray.mk ⟨[167]⟩) ≤ most) (bnd (C F_ref1_Sum [.string (s ++ (ByteArray.mk ⟨[167]⟩))] h) fun r w1=>aInt .u8 r fun x_1=>nw (.cells Y_uint8 false [.int .u8 x_1,.int .u8 0,.int .u8 0]) w1 fun b_1 w2=>gCells (some ⟨b_1,0,none⟩) 3 w2 fun cs_1=>asBytes cs_1 fun l_1=>ck (ByteArray.size (s ++ (ByteArray.mk ⟨[167]⟩)) + ByteArray.size (ByteArray.mk ⟨l_1⟩) ≤ most) (some (.string ((s ++ (ByteArray.mk ⟨[167]⟩)) ++ (ByteArray.mk ⟨l_1⟩)),w2)))) := by kernel_rfl
def C_commons_Commons_FreeProc : Cuts := { globs := 0,loops := [],regs := [],plans := [] }
def T_commons_Commons_FreeProc : List Item := bodyOf Tryz.f25
theorem e_commons_Commons_FreeProc (c : Option Addr) (i : Int) (h : H) :
 exec PR C_commons_Commons_FreeProc C R F_commons_Commons_FreeProc Tryz.f25 100000 true T_commons_Commons_FreeProc [(0,.pointer c),(1,.int .i64 i)] h =
 bnd (C F_commons_proc [.int .i64 i] h) fun r w=>aAgg r fun x=>bnd (C F_commons_Commons_blank [.pointer c,.agg ⟨x⟩] w) fun r_1 w1=>aBool r_1 fun x_1=>some (.bool x_1,w1) := by kernel_rfl
def C_ref1_Kern_Do : Cuts := { globs := 0,loops := [],regs := [],plans := [(7,⟨[0,1,2,3,4,5,6,7,8,9,10,11,12,13,14,15,16],[0,1,3,7,0,0,32,0,128,0,512,2047,4095,8191,8191,16383,65535],[],[]⟩),(9,⟨[0,1,2,3,4,5,6,7,8,9,10,11,12,13],[0,1,3,7,0,0,32,0,128,0,512,1536,4095,8191],[],[]⟩),(11,⟨[0,1,2,3,4,5,6,7,8,9,10,11,12,13,14,15,16],[0,1,3,7,0,0,32,0,128,0,512,0,2048,0,8192,32767,65535],[],[]⟩),(13,⟨[0,1,2,3,4,5,6,7,8,9,10,11,12,13,14,15,16,17,18,19,20,21,22,23],[0,1,3,7,15,31,63,0,0,256,0,1024,0,4096,0,16384,0,65536,262143,524287,1048575,1048575,2097151,8388607],[],[]⟩),(15,⟨[0,1,2,3,4,5,6,7,8,9,10,11,12,13,14,15],[0,1,3,7,15,31,63,0,0,256,1023,2047,4095,4095,8191,32767],[],[]⟩),(17,⟨[0,1,2,3,4,5,6,7,8,9,10,11,12,13,14,15,16,17],[0,1,3,7,0,16,48,112,240,0,1008,2032,4095,8191,16383,16383,32767,131071],[],[]⟩),(19,⟨[0,1,2,3,4,5,6,7,8,9,10,11,12,13,14,15],[0,1,3,7,0,16,48,112,240,0,1008,2032,0,4096,16383,32767],[],[]⟩),(23,⟨[0,1,2,3,4,5,6,7,8,9,10,11,12,13,14,15,16,17],[0,1,3,7,0,16,63,127,0,0,512,1536,3584,8191,16383,32767,32767,65535],[],[]⟩),(27,⟨[0,1,2,3,4,5,6,7,8,9,10,11,12,13,14,15,16,17,18],[0,0,0,4,15,31,63,127,255,511,63,1087,4095,8191,63,63,32831,131071,262143],[],[]⟩)] }
def T_ref1_Kern_Do : List Item := bodyOf Tryz.f54
theorem e_ref1_Kern_Do (k : Option Addr) (e : Int) (c : List Value) (h : H) :
 exec PR C_ref1_Kern_Do C R F_ref1_Kern_Do Tryz.f54 100000 true T_ref1_Kern_Do [(0,.pointer k),(1,.int .i64 e),(2,.agg ⟨c⟩)] h =
 nw (.cells Y_api_Call false c) h fun b w=>bnd (cond (decide (e < 0)) (some (true,w)) (aSome k fun p=>gSl (Addr.add (Addr.add p 0) 1) w fun _ xn _=>some (decide (e ≥ (xn : Int)),w))) fun c_1 w1=>cond c_1
 (some (.tuple ⟨[.int .i64 1,.int .i64 0,.string (ByteArray.mk ⟨[]⟩)]⟩,w1))
 (gInt .i64 (Addr.add ⟨b,0,none⟩ 0) w1 fun x_1=>cond (x_1 == 1)
 (aSome k fun p_1=>gPtr (Addr.add p_1 6) w1 fun x_2=>gInt .i64 (Addr.add ⟨b,0,none⟩ 1) w1 fun x_3=>gInt .i64 (Addr.add ⟨b,0,none⟩ 2) w1 fun x_4=>gInt .i64 (Addr.add ⟨b,0,none⟩ 3) w1 fun x_5=>bnd (C F_ref1_Regions_Read [.pointer x_2,.int .i64 e,.int .i64 x_3,.int .i64 x_4,.int .i64 x_5] w1) fun r w2=>as2 r fun r_1 r_2=>aStr r_1 fun x_6=>aInt .i64 r_2 fun x_7=>some (.tuple ⟨[.int .i64 x_7,.int .i64 0,.string x_6]⟩,w2))
 (cond (x_1 == 2)
 (aSome k fun p_2=>gPtr (Addr.add p_2 6) w1 fun x_8=>gInt .i64 (Addr.add ⟨b,0,none⟩ 1) w1 fun x_9=>gInt .i64 (Addr.add ⟨b,0,none⟩ 2) w1 fun x_10=>gSl (Addr.add ⟨b,0,none⟩ 6) w1 fun x_11 xn_1 _=>gCells x_11 xn_1 w1 fun cs=>asBytes cs fun l=>bnd (C F_ref1_Regions_Write [.pointer x_8,.int .i64 e,.int .i64 x_9,.int .i64 x_10,.string (ByteArray.mk ⟨l⟩)] w1) fun r_3 w3=>aInt .i64 r_3 fun x_12=>some (.tuple ⟨[.int .i64 x_12,.int .i64 0,.string (ByteArray.mk ⟨[]⟩)]⟩,w3))
 (cond (x_1 == 3)
 (aSome k fun p_3=>gPtr (Addr.add p_3 6) w1 fun x_13=>gInt .i64 (Addr.add ⟨b,0,none⟩ 1) w1 fun x_14=>gInt .i64 (Addr.add ⟨b,0,none⟩ 2) w1 fun x_15=>gInt .i64 (Addr.add ⟨b,0,none⟩ 4) w1 fun x_16=>gInt .i64 (Addr.add ⟨b,0,none⟩ 5) w1 fun x_17=>gInt .i64 (Addr.add ⟨b,0,none⟩ 3) w1 fun x_18=>bnd (C F_ref1_Regions_Copy [.pointer x_13,.int .i64 e,.int .i64 x_14,.int .i64 x_15,.int .i64 x_16,.int .i64 x_17,.int .i64 x_18] w1) fun r_4 w4=>aInt .i64 r_4 fun x_19=>some (.tuple ⟨[.int .i64 x_19,.int .i64 0,.string (ByteArray.mk ⟨[]⟩)]⟩,w4))
 (cond (x_1 == 4)
 (aSome k fun p_4=>gPtr (Addr.add p_4 6) w1 fun x_20=>aSome x_20 fun p_5=>gPtr (Addr.add p_5 3) w1 fun x_21=>gInt .i64 (Addr.add ⟨b,0,none⟩ 1) w1 fun x_22=>gInt .i64 (Addr.add ⟨b,0,none⟩ 4) w1 fun x_23=>gInt .i64 (Addr.add ⟨b,0,none⟩ 5) w1 fun x_24=>gInt .i64 (Addr.add ⟨b,0,none⟩ 2) w1 fun x_25=>gInt .i64 (Addr.add ⟨b,0,none⟩ 3) w1 fun x_26=>bnd (C F_ref1_Space_Grant [.pointer x_21,.int .i64 e,.int .i64 x_22,.int .i64 x_23,.int .i64 x_24,.int .i64 x_25,.int .i64 x_26] w1) fun r_5 w5=>as2 r_5 fun r_6 r_7=>aInt .i64 r_6 fun x_27=>aInt .i64 r_7 fun x_28=>some (.tuple ⟨[.int .i64 x_28,.int .i64 x_27,.string (ByteArray.mk ⟨[]⟩)]⟩,w5))
 (cond (x_1 == 5)
 (aSome k fun p_6=>gPtr (Addr.add p_6 6) w1 fun x_29=>aSome x_29 fun p_7=>gPtr (Addr.add p_7 3) w1 fun x_30=>gInt .i64 (Addr.add ⟨b,0,none⟩ 1) w1 fun x_31=>bnd (C F_ref1_Space_Revoke [.pointer x_30,.int .i64 e,.int .i64 x_31] w1) fun r_8 w6=>as2 r_8 fun r_9 r_10=>aInt .i64 r_9 fun x_32=>aInt .i64 r_10 fun x_33=>some (.tuple ⟨[.int .i64 x_33,.int .i64 x_32,.string (ByteArray.mk ⟨[]⟩)]⟩,w6))
 (cond (x_1 == 6)
 (aSome k fun p_8=>gPtr (Addr.add p_8 5) w1 fun x_34=>aSome k fun p_9=>gSl (Addr.add (Addr.add p_9 0) 1) w1 fun x_35 xn_2 _=>aSome x_35 fun p_10=>ck ((0 : Int) ≤ e ∧ e < (xn_2 : Int)) (gInt .i64 (Addr.add (bare p_10) (Int.toNat e * 1)) w1 fun x_36=>bnd (C F_ref1_Quota_Alloc [.pointer x_34,.int .i64 x_36] w1) fun r_11 w7=>as2 r_11 fun r_12 r_13=>aInt .i64 r_12 fun x_37=>aInt .i64 r_13 fun x_38=>some (.tuple ⟨[.int .i64 x_38,.int .i64 x_37,.string (ByteArray.mk ⟨[]⟩)]⟩,w7)))
 (cond (x_1 == 7)
 (aSome k fun p_11=>gPtr (Addr.add p_11 5) w1 fun x_39=>aSome k fun p_12=>gSl (Addr.add (Addr.add p_12 0) 1) w1 fun x_40 xn_3 _=>aSome x_40 fun p_13=>ck ((0 : Int) ≤ e ∧ e < (xn_3 : Int)) (gInt .i64 (Addr.add (bare p_13) (Int.toNat e * 1)) w1 fun x_41=>gInt .i64 (Addr.add ⟨b,0,none⟩ 3) w1 fun x_42=>bnd (C F_ref1_Quota_Free [.pointer x_39,.int .i64 x_41,.int .i64 x_42] w1) fun r_14 w8=>aInt .i64 r_14 fun x_43=>some (.tuple ⟨[.int .i64 x_43,.int .i64 0,.string (ByteArray.mk ⟨[]⟩)]⟩,w8)))
 (cond (x_1 == 8)
 (gInt .i64 (Addr.add ⟨b,0,none⟩ 3) w1 fun x_44=>bnd (C F_ref1_Kern_may [.pointer k,.int .i64 e,.int .i64 x_44] w1) fun r_15 w9=>aBool r_15 fun x_45=>cond x_45
 (aSome k fun p_14=>gSl (Addr.add p_14 7) w9 fun x_46 xn_4 _=>gInt .i64 (Addr.add ⟨b,0,none⟩ 3) w9 fun x_47=>aSome x_46 fun p_15=>ck ((0 : Int) ≤ x_47 ∧ x_47 < (xn_4 : Int)) (gPtr (Addr.add (bare p_15) (Int.toNat x_47 * 1)) w9 fun x_48=>aSome k fun p_16=>gInt .i64 (Addr.add p_16 8) w9 fun x_49=>bnd (C F_ref1_Sect_Enter [.pointer x_48,.int .i64 e,.int .i64 x_49] w9) fun r_16 w10=>as2 r_16 fun r_17 r_18=>aInt .i64 r_17 fun x_50=>aBool r_18 fun _=>some (.tuple ⟨[.int .i64 0,.int .i64 x_50,.string (ByteArray.mk ⟨[]⟩)]⟩,w10)))
 (some (.tuple ⟨[.int .i64 8,.int .i64 0,.string (ByteArray.mk ⟨[]⟩)]⟩,w9)))
 (cond (x_1 == 9)
 (gInt .i64 (Addr.add ⟨b,0,none⟩ 3) w1 fun x_52=>bnd (C F_ref1_Kern_may [.pointer k,.int .i64 e,.int .i64 x_52] w1) fun r_19 w11=>aBool r_19 fun x_53=>bnd (cond x_53 (aSome k fun p_17=>gSl (Addr.add p_17 7) w11 fun x_54 xn_5 _=>gInt .i64 (Addr.add ⟨b,0,none⟩ 3) w11 fun x_55=>aSome x_54 fun p_18=>ck ((0 : Int) ≤ x_55 ∧ x_55 < (xn_5 : Int)) (gPtr (Addr.add (bare p_18) (Int.toNat x_55 * 1)) w11 fun x_56=>gInt .i64 (Addr.add ⟨b,0,none⟩ 2) w11 fun x_57=>bnd (C F_ref1_Sect_Leave [.pointer x_56,.int .i64 e,.int .i64 x_57] w11) fun r_20 w12=>aBool r_20 fun x_58=>some (x_58,w12))) (some (false,w11))) fun c_2 w13=>cond c_2
 (some (.tuple ⟨[.int .i64 0,.int .i64 0,.string (ByteArray.mk ⟨[]⟩)]⟩,w13))
 (some (.tuple ⟨[.int .i64 8,.int .i64 0,.string (ByteArray.mk ⟨[]⟩)]⟩,w13)))
 (cond (x_1 == 10)
 (aSome k fun p_19=>gInt .i64 (Addr.add p_19 8) w1 fun x_59=>some (.tuple ⟨[.int .i64 0,.int .i64 x_59,.string (ByteArray.mk ⟨[]⟩)]⟩,w1))
 (some (.tuple ⟨[.int .i64 7,.int .i64 0,.string (ByteArray.mk ⟨[]⟩)]⟩,w1)))))))))))) := by kernel_rfl
def C_ref1_Sum : Cuts := { globs := 0,loops := [(3,[0,3,4])],regs := [],plans := [] }
def T_ref1_Sum : List Item := bodyOf Tryz.f65
def T_ref1_Sum_L1 : List Item := stk [0,1,0,1,0,0,1,4,5] T_ref1_Sum
theorem e_ref1_Sum (b : ByteArray) (h : H) :
 exec PR C_ref1_Sum C R F_ref1_Sum Tryz.f65 100000 true T_ref1_Sum [(0,.string b)] h =
 R F_ref1_Sum T_ref1_Sum_L1 [(0,.string b),(3,.int .i64 ((ByteArray.size b : Nat) : Int)),(4,.int .i64 0)] h := by kernel_rfl
theorem e_ref1_Sum_L1 (b : ByteArray) (n : Int) (i : Int) (h : H) :
 exec PR C_ref1_Sum C R F_ref1_Sum Tryz.f65 100000 true T_ref1_Sum_L1 [(0,.string b),(3,.int .i64 n),(4,.int .i64 i)] h =
 cond (decide (i < ((ByteArray.size b : Nat) : Int)))
 (ck ((0 : Int) ≤ i ∧ i < ((ByteArray.size b : Nat) : Int)) (R F_ref1_Sum T_ref1_Sum_L1 [(0,.string b),(3,.int .i64 (IntKind.wrap .i64 (n + (IntKind.wrap .i64 (((List.getD (ByteArray.data b).toList (Int.toNat i) 0).toNat : Int)))))),(4,.int .i64 (IntKind.wrap .i64 (i + 1)))] h))
 (some (.int .u8 (IntKind.wrap .u8 (n)),h)) := by kernel_rfl
def C_law11_Proc_1 : Cuts := { globs := 0,loops := [],regs := [],plans := [] }
def T_law11_Proc_1 : List Item := bodyOf Tryz.f66
theorem e_law11_Proc_1 (fv0 : Addr) (fv1 : Addr) (h : H) :
 exec PR C_law11_Proc_1 C R F_law11_Proc_1 Tryz.f66 100000 true T_law11_Proc_1 [(0,.pointer (some fv0)),(1,.pointer (some fv1))] h =
 gInt .i64 fv0 h fun x=>pV fv0 (.int .i64 (IntKind.wrap .i64 (x + 1))) h fun w=>gInt .i64 fv0 w fun x_1=>gSl fv1 w fun _ xn _=>cond (decide (x_1 > (xn : Int)))
 (gInt .i64 fv0 w fun x_3=>some (.int .i64 (IntKind.wrap .i64 (x_3 * 7)),w))
 (gSl fv1 w fun x_4 xn_1 _=>gInt .i64 fv0 w fun x_5=>aSome x_4 fun p=>ck ((0 : Int) ≤ IntKind.wrap .i64 (x_5 - 1) ∧ IntKind.wrap .i64 (x_5 - 1) < (xn_1 : Int)) (gInt .i64 (Addr.add (bare p) (Int.toNat (IntKind.wrap .i64 (x_5 - 1)) * 1)) w fun x_6=>some (.int .i64 (bitA .i64 x_6 16777215),w))) := by kernel_rfl
def C_commons_FrontBytes : Cuts := { globs := 0,loops := [],regs := [],plans := [] }
def T_commons_FrontBytes : List Item := bodyOf Tryz.f76
theorem e_commons_FrontBytes (g : Int) (h : H) :
 exec PR C_commons_FrontBytes C R F_commons_FrontBytes Tryz.f76 100000 true T_commons_FrontBytes [(0,.int .i64 g)] h =
 bnd (cond (decide (g < 0)) (some (true,h)) (some (decide (g ≥ 8),h))) fun c w=>cond c
 (some (.tuple ⟨[.slice none 0 0,.bool false]⟩,w))
 (nw (.cells Y_uint8 false [.int .u8 (IntKind.wrap .u8 (g)),.int .u8 211]) w fun b w1=>bnd (C F_codec_Sum [.slice (some ⟨b,0,none⟩) 2 2] w1) fun r w2=>aInt .u8 r fun x=>nw (.cells Y_uint8 false [.int .u8 x,.int .u8 0]) w2 fun b_1 w3=>gCells (some ⟨b_1,0,none⟩) (2 * 1) w3 fun cs=>ckB (fitsOpen (some ⟨b,0,none⟩) Y_uint8 w3) (apd Y_uint8 1 (some ⟨b,0,none⟩) 2 2 2 cs w3 fun a an ac w4=>some (.tuple ⟨[.slice a an ac,.bool true]⟩,w4))) := by kernel_rfl
def C_kern_frames : Cuts := { globs := 0,loops := [],regs := [],plans := [] }
def T_kern_frames : List Item := bodyOf Tryz.f111
theorem e_kern_frames (n : Int) (h : H) :
 exec PR C_kern_frames C R F_kern_frames Tryz.f111 100000 true T_kern_frames [(0,.int .i64 n)] h =
 some (.int .i64 (mm2 false (mm2 true n 0) 64),h) := by kernel_rfl
def C_slices_Clone_s_int_int : Cuts := { globs := 0,loops := [],regs := [],plans := [] }
def T_slices_Clone_s_int_int : List Item := bodyOf Tryz.f112
theorem e_slices_Clone_s_int_int (s : Option Addr) (sn sc : Nat) (h : H) :
 exec PR C_slices_Clone_s_int_int C R F_slices_Clone_s_int_int Tryz.f112 100000 true T_slices_Clone_s_int_int [(0,.slice s sn sc)] h =
 cond s.isNone
 (some (.slice none 0 0,h))
 (nw (.cells Y_int false []) h fun b w=>gCells s (sn * 1) w fun cs=>ckB (fitsOpen (some ⟨b,0,none⟩) Y_int w) (apd Y_int 1 (some ⟨b,0,none⟩) 0 0 sn cs w fun a an ac w1=>some (.slice a an ac,w1))) := by kernel_rfl
def C_caps_New : Cuts := { globs := 0,loops := [(3,[3,8,9])],regs := [],plans := [(4,⟨[0,1,2,3,4,5,6,7,8,9,10],[0,0,2,6,14,0,32,126,255,511,1023],[(5,[4])],[]⟩)] }
def T_caps_New : List Item := bodyOf Tryz.f114
def T_caps_New_L1 : List Item := stk [0,1,0,1,0,0,1,4,5] T_caps_New
theorem e_caps_New (envs : Int) (h : H) :
 exec PR C_caps_New C R F_caps_New Tryz.f114 100000 true T_caps_New [(0,.int .i64 envs)] h =
 nw (.cells Y_caps_Space false [.slice none 0 0]) h fun b w=>R F_caps_New T_caps_New_L1 [(3,.pointer (some ⟨b,0,none⟩)),(8,.int .i64 (mm2 false (mm2 true envs 0) 40)),(9,.int .i64 0)] w := by kernel_rfl
theorem e_caps_New_L1 (s : Addr) (x8 : Int) (x9 : Int) (h : H) :
 exec PR C_caps_New C R F_caps_New Tryz.f114 100000 true T_caps_New_L1 [(3,.pointer (some s)),(8,.int .i64 x8),(9,.int .i64 x9)] h =
 cond (decide (x9 < x8))
 (gSl (Addr.add s 0) h fun x xn xc=>bnd (C F_table_New_api_Cap [.int .i64 32] h) fun r w=>aPtr r fun x_1=>gSl (Addr.add s 0) w fun x_2 xn_1 xc_1=>same (.slice x xn xc) (.slice x_2 xn_1 xc_1) (nw (.cells Y_p_table_Table_api_Cap false [.pointer x_1]) w fun b w1=>gCells (some ⟨b,0,none⟩) (1 * 1) w1 fun cs=>ckB (fitsOpen x Y_p_table_Table_api_Cap w1) (apd Y_p_table_Table_api_Cap 1 x xn xc 1 cs w1 fun a an ac w2=>pV (Addr.add s 0) (.slice a an ac) w2 fun w3=>R F_caps_New T_caps_New_L1 [(3,.pointer (some s)),(8,.int .i64 x8),(9,.int .i64 (IntKind.wrap .i64 (x9 + 1)))] w3)))
 (some (.pointer (some s),h)) := by kernel_rfl
def C_caps_Space_Put : Cuts := { globs := 0,loops := [],regs := [],plans := [] }
def T_caps_Space_Put : List Item := bodyOf Tryz.f121
theorem e_caps_Space_Put (s : Option Addr) (env : Int) (c : List Value) (h : H) :
 exec PR C_caps_Space_Put C R F_caps_Space_Put Tryz.f121 100000 true T_caps_Space_Put [(0,.pointer s),(1,.int .i64 env),(2,.agg ⟨c⟩)] h =
 nw (.cells Y_api_Cap false c) h fun b w=>bnd (C F_caps_Space_is [.pointer s,.int .i64 env] w) fun r w1=>aBool r fun x=>bnd (cond (!x) (some (true,w1)) (gInt .i64 (Addr.add ⟨b,0,none⟩ 1) w1 fun x_1=>some ((bitN .i64 x_1 7) != 0,w1))) fun c_1 w2=>bnd (cond c_1 (some (true,w2)) (gInt .i64 (Addr.add ⟨b,0,none⟩ 2) w2 fun x_2=>bnd (C F_caps_Space_Put_1 [.int .i64 x_2] w2) fun r_1 w3=>aBool r_1 fun x_3=>some (!x_3,w3))) fun c_2 w4=>bnd (cond c_2 (some (true,w4)) (gInt .i64 (Addr.add ⟨b,0,none⟩ 3) w4 fun x_4=>bnd (C F_caps_Space_Put_1 [.int .i64 x_4] w4) fun r_2 w5=>aBool r_2 fun x_5=>some (!x_5,w5))) fun c_3 w6=>cond c_3
 (some (.tuple ⟨[.int .i64 0,.int .i64 1]⟩,w6))
 (pAgg (Addr.add ⟨b,0,none⟩ 4) [.int .i64 0,.int .i64 0] w6 fun w7=>gAgg ⟨b,0,none⟩ 6 w7 fun x_6=>bnd (C F_caps_Space_add [.pointer s,.int .i64 env,.agg ⟨x_6⟩] w7) fun r_3 w8=>as2 r_3 fun r_4 r_5=>aInt .i64 r_4 fun x_7=>aInt .i64 r_5 fun x_8=>some (.tuple ⟨[.int .i64 x_7,.int .i64 x_8]⟩,w8)) := by kernel_rfl
def C_ref1_Regions_Write : Cuts := { globs := 0,loops := [],regs := [],plans := [] }
def T_ref1_Regions_Write : List Item := bodyOf Tryz.f131
theorem e_ref1_Regions_Write (r : Option Addr) (e : Int) (name : Int) (atv : Int) (b : ByteArray) (h : H) :
 exec PR C_ref1_Regions_Write C R F_ref1_Regions_Write Tryz.f131 100000 true T_ref1_Regions_Write [(0,.pointer r),(1,.int .i64 e),(2,.int .i64 name),(3,.int .i64 atv),(4,.string b)] h =
 bnd (C F_ref1_Regions_place [.pointer r,.int .i64 e,.int .i64 name,.int .i64 2,.int .i64 atv,.int .i64 ((ByteArray.size b : Nat) : Int)] h) fun r_1 w=>as2 r_1 fun r_2 r_3=>aInt .i64 r_2 fun x=>aInt .i64 r_3 fun x_1=>cond (x_1 != 0)
 (some (.int .i64 x_1,w))
 (aSome r fun p=>gSl (Addr.add p 0) w fun x_2 xn xc=>ckB (fitsOpen x_2 Y_uint8 w) (ck ((0 : Int) ≤ x ∧ x ≤ (xn : Int)) (pCells (moved x_2 (decide (Int.toNat x < xc)) ((Int.toNat x) * 1)) (byteCells (List.take (min (ByteArray.size b) (xn - (Int.toNat x))) (ByteArray.data b).toList)) w fun w1=>some (.int .i64 0,w1)))) := by kernel_rfl
def C_caps_Space_is : Cuts := { globs := 0,loops := [],regs := [],plans := [] }
def T_caps_Space_is : List Item := bodyOf Tryz.f141
theorem e_caps_Space_is (s : Option Addr) (env : Int) (h : H) :
 exec PR C_caps_Space_is C R F_caps_Space_is Tryz.f141 100000 true T_caps_Space_is [(0,.pointer s),(1,.int .i64 env)] h =
 bnd (cond (decide (env ≥ 0)) (aSome s fun p=>gSl (Addr.add p 0) h fun _ xn _=>some (decide (env < (xn : Int)),h)) (some (false,h))) fun c w=>some (.bool c,w) := by kernel_rfl
def C_commons_Commons_read : Cuts := { globs := 0,loops := [],regs := [],plans := [(2,⟨[0,1,2,3,4,5,6,7,8,9,10],[0,1,3,7,15,31,63,7,255,511,1023],[],[]⟩),(4,⟨[0,1,2,3,4,5,6,7,8,9,10,11,12,13,14,16,15,17],[0,1,3,7,0,16,48,112,0,256,0,1024,0,4096,16128,32767,0,131071],[],[]⟩),(6,⟨[0,1,2,3,4,5,6,7,8,9],[0,1,3,7,0,31,63,31,159,511],[(7,[5])],[]⟩)] }
def T_commons_Commons_read : List Item := bodyOf Tryz.f146
theorem e_commons_Commons_read (c : Option Addr) (r : List Value) (h : H) :
 exec PR C_commons_Commons_read C R F_commons_Commons_read Tryz.f146 100000 true T_commons_Commons_read [(0,.pointer c),(1,.agg ⟨r⟩)] h =
 nw (.cells Y_api_Rec false r) h fun b w=>gAgg ⟨b,0,none⟩ 2 w fun x=>bnd (C F_commons_Commons_place [.pointer c,.agg ⟨x⟩] w) fun r_1 w1=>as2 r_1 fun r_2 r_3=>aAgg r_2 fun x_1=>aBool r_3 fun x_2=>nw (.cells Y_commons_place false [.int .i64 0,.int .i64 0,.int .i64 0]) w1 fun b_1 w2=>ck (List.length x_1 = 3) (pAgg ⟨b_1,0,none⟩ x_1 w2 fun w3=>bnd (cond (!x_2) (some (true,w3)) (aSome c fun p=>gMap (Addr.add p 3) w3 fun x_3=>gAgg ⟨b,0,none⟩ 2 w3 fun x_4=>keyN PR Y_api_Rec (.agg ⟨x_4⟩) (opt x_3 fun r_4=>mapAt w3 r_4 fun es _=>opt (lookM (.int .i64 0) (.agg ⟨x_4⟩) es) fun f=>aInt .i64 f.1 fun x_5=>some (decide (x_5 > 0),w3)))) fun c_1 w4=>cond c_1
 (some (.tuple ⟨[.slice none 0 0,.bool false]⟩,w4))
 (aSome c fun p_1=>gPtr (Addr.add p_1 0) w4 fun x_6=>aSome c fun p_2=>gInt .i64 (Addr.add p_2 1) w4 fun x_7=>gInt .i64 (Addr.add ⟨b_1,0,none⟩ 0) w4 fun x_8=>gInt .i64 (Addr.add ⟨b_1,0,none⟩ 1) w4 fun x_9=>gInt .i64 (Addr.add ⟨b_1,0,none⟩ 2) w4 fun x_10=>nw (.cells Y_api_Answer false [.int .i64 0,.int .i64 0,.slice none 0 0]) w4 fun b_2 w5=>bnd (C F_kern_Kern_Do [.pointer x_6,.int .i64 x_7,.agg ⟨[.int .i64 1,.int .i64 x_8,.int .i64 x_9,.int .i64 x_10,.int .i64 0,.int .i64 0,.slice none 0 0]⟩] w5) fun r_5 w6=>aAgg r_5 fun x_11=>ck (List.length x_11 = 3) (pAgg ⟨b_2,0,none⟩ x_11 w6 fun w7=>gInt .i64 (Addr.add ⟨b_2,0,none⟩ 0) w7 fun x_12=>cond (x_12 != 0)
 (aSome c fun p_3=>gMap (Addr.add p_3 3) w7 fun x_13=>gAgg ⟨b,0,none⟩ 2 w7 fun x_14=>keyN PR Y_api_Rec (.agg ⟨x_14⟩) (opt x_13 fun r_6=>mapAt w7 r_6 fun es_1 _=>opt (lookM (.int .i64 0) (.agg ⟨x_14⟩) es_1) fun f_1=>aInt .i64 f_1.1 fun x_15=>keyN PR Y_api_Rec (.agg ⟨x_14⟩) (opt x_13 fun r_7=>mapAt w7 r_7 fun es_2 cl_2=>opt (entM (.int .i64 0) (.agg ⟨x_14⟩) es_2 cl_2) fun f_2=>aInt .i64 f_2.1 fun _=>lt (H.set w7 r_7 f_2.2.2) fun w8=>keyN PR Y_api_Rec (.agg ⟨x_14⟩) (opt x_13 fun r_8=>mapAt w8 r_8 fun es_3 _=>opt (lookM (.int .i64 0) (.agg ⟨x_14⟩) es_3) fun f_3=>aInt .i64 f_3.1 fun x_17=>same (.int .i64 x_15) (.int .i64 x_17) (opt x_13 fun r_9=>mapAt w8 r_9 fun es_4 cl_4=>opt (bornN (f_2.2.1 : Int) es_4 0) fun i=>lt (H.set w8 r_9 (.map (modN (fun e=>{ e with val := .int .i64 (IntKind.wrap .i64 (x_15 + 1)) }) i es_4) cl_4)) fun w9=>some (.tuple ⟨[.slice none 0 0,.bool false]⟩,w9))))))
 (gSl (Addr.add ⟨b_2,0,none⟩ 2) w7 fun x_18 xn xc=>some (.tuple ⟨[.slice x_18 xn xc,.bool true]⟩,w7))))) := by kernel_rfl
def C_quota_Quota_Free : Cuts := { globs := 0,loops := [],regs := [],plans := [] }
def T_quota_Quota_Free : List Item := bodyOf Tryz.f155
theorem e_quota_Quota_Free (q : Option Addr) (s : Int) (k : Int) (h : H) :
 exec PR C_quota_Quota_Free C R F_quota_Quota_Free Tryz.f155 100000 true T_quota_Quota_Free [(0,.pointer q),(1,.int .i64 s),(2,.int .i64 k)] h =
 bnd (C F_quota_Quota_is [.pointer q,.int .i64 s] h) fun r w=>aBool r fun x=>cond (!x)
 (some (.int .i64 1,w))
 (bnd (C F_quota_Quota_Owns [.pointer q,.int .i64 s,.int .i64 k] w) fun r_1 w1=>aBool r_1 fun x_1=>cond (!x_1)
 (some (.int .i64 5,w1))
 (aSome q fun p=>gSl (Addr.add p 0) w1 fun x_2 xn _=>aSome x_2 fun p_1=>ck ((0 : Int) ≤ s ∧ s < (xn : Int)) (gSl (Addr.add (bare p_1) (Int.toNat s * 1)) w1 fun x_3 xn_1 _=>aSome x_3 fun p_2=>ck ((0 : Int) ≤ k ∧ k < (xn_1 : Int)) (pV (Addr.add (bare p_2) (Int.toNat k * 1)) (.int .i64 0) w1 fun w2=>some (.int .i64 0,w2))))) := by kernel_rfl
def C_mem_Mem_Size : Cuts := { globs := 0,loops := [],regs := [],plans := [] }
def T_mem_Mem_Size : List Item := bodyOf Tryz.f178
theorem e_mem_Mem_Size (m : Option Addr) (h : H) :
 exec PR C_mem_Mem_Size C R F_mem_Mem_Size Tryz.f178 100000 true T_mem_Mem_Size [(0,.pointer m)] h =
 aSome m fun p=>gSl (Addr.add p 0) h fun _ xn _=>some (.int .i64 (xn : Int),h) := by kernel_rfl
def C_caps_Space_Put_1 : Cuts := { globs := 0,loops := [],regs := [],plans := [] }
def T_caps_Space_Put_1 : List Item := bodyOf Tryz.f180
theorem e_caps_Space_Put_1 (n : Int) (h : H) :
 exec PR C_caps_Space_Put_1 C R F_caps_Space_Put_1 Tryz.f180 100000 true T_caps_Space_Put_1 [(0,.int .i64 n)] h =
 bnd (cond (decide (n ≥ 0)) (some (decide (n ≤ 65536),h)) (some (false,h))) fun c w=>some (.bool c,w) := by kernel_rfl
def C_ref1_Space_Get : Cuts := { globs := 0,loops := [],regs := [],plans := [] }
def T_ref1_Space_Get : List Item := bodyOf Tryz.f187
theorem e_ref1_Space_Get (s : Option Addr) (e : Int) (name : Int) (h : H) :
 exec PR C_ref1_Space_Get C R F_ref1_Space_Get Tryz.f187 100000 true T_ref1_Space_Get [(0,.pointer s),(1,.int .i64 e),(2,.int .i64 name)] h =
 nw (.cells Y_api_Cap false [.int .i64 0,.int .i64 0,.int .i64 0,.int .i64 0,.int .i64 0,.int .i64 0]) h fun b w=>bnd (C F_ref1_Space_env [.pointer s,.int .i64 e] w) fun r w1=>aBool r fun x=>bnd (cond (!x) (some (true,w1)) (aSome s fun p=>gSl (Addr.add p 0) w1 fun x_1 xn _=>aSome x_1 fun p_1=>ck ((0 : Int) ≤ e ∧ e < (xn : Int)) (gPtr (Addr.add (bare p_1) (Int.toNat e * 1)) w1 fun x_2=>bnd (C F_ref1_Names_Has [.pointer x_2,.int .i64 name] w1) fun r_1 w2=>aBool r_1 fun x_3=>some (!x_3,w2)))) fun c w3=>cond c
 (pAgg ⟨b,0,none⟩ [.int .i64 0,.int .i64 0,.int .i64 0,.int .i64 0,.int .i64 0,.int .i64 0] w3 fun w4=>gAgg ⟨b,0,none⟩ 6 w4 fun x_4=>some (.tuple ⟨[.agg ⟨x_4⟩,.int .i64 2]⟩,w4))
 (aSome s fun p_2=>gSl (Addr.add p_2 1) w3 fun x_5 xn_1 _=>aSome x_5 fun p_3=>ck ((0 : Int) ≤ e ∧ e < (xn_1 : Int)) (gSl (Addr.add (bare p_3) (Int.toNat e * 1)) w3 fun x_6 xn_2 _=>aSome x_6 fun p_4=>ck ((0 : Int) ≤ bitA .i64 name 255 ∧ bitA .i64 name 255 < (xn_2 : Int)) (gAgg (Addr.add (bare p_4) (Int.toNat (bitA .i64 name 255) * 6)) 6 w3 fun x_7=>ck (List.length x_7 = 6) (pAgg ⟨b,0,none⟩ x_7 w3 fun w5=>gAgg ⟨b,0,none⟩ 6 w5 fun x_8=>some (.tuple ⟨[.agg ⟨x_8⟩,.int .i64 0]⟩,w5))))) := by kernel_rfl
def C_ref1_Names_All : Cuts := { globs := 0,loops := [(3,[0,3,4])],regs := [],plans := [] }
def T_ref1_Names_All : List Item := bodyOf Tryz.f194
def T_ref1_Names_All_L1 : List Item := stk [0,1,0,1,0,0,1,4,5] T_ref1_Names_All
theorem e_ref1_Names_All (n : Option Addr) (h : H) :
 exec PR C_ref1_Names_All C R F_ref1_Names_All Tryz.f194 100000 true T_ref1_Names_All [(0,.pointer n)] h =
 R F_ref1_Names_All T_ref1_Names_All_L1 [(0,.pointer n),(3,.slice none 0 0),(4,.int .i64 0)] h := by kernel_rfl
theorem e_ref1_Names_All_L1 (n : Option Addr) (out : Option Addr) (outn outc : Nat) (i : Int) (h : H) :
 exec PR C_ref1_Names_All C R F_ref1_Names_All Tryz.f194 100000 true T_ref1_Names_All_L1 [(0,.pointer n),(3,.slice out outn outc),(4,.int .i64 i)] h =
 aSome n fun p=>gSl (Addr.add p 0) h fun _ xn _=>cond (decide (i < (xn : Int)))
 (aSome n fun p_1=>gSl (Addr.add p_1 0) h fun x_1 xn_1 _=>aSome x_1 fun p_2=>ck ((0 : Int) ≤ i ∧ i < (xn_1 : Int)) (gBool (Addr.add (Addr.add (bare p_2) (Int.toNat i * 2)) 1) h fun x_2=>cond x_2
 (aSome n fun p_3=>gSl (Addr.add p_3 0) h fun x_3 xn_2 _=>aSome x_3 fun p_4=>ck ((0 : Int) ≤ i ∧ i < (xn_2 : Int)) (gInt .i64 (Addr.add (Addr.add (bare p_4) (Int.toNat i * 2)) 0) h fun x_4=>nw (.cells Y_int false [.int .i64 (IntKind.wrap .i64 (i + (IntKind.wrap .i64 (256 * x_4))))]) h fun b w=>gCells (some ⟨b,0,none⟩) (1 * 1) w fun cs=>ckB (fitsOpen out Y_int w) (apd Y_int 1 out outn outc 1 cs w fun a an ac w1=>R F_ref1_Names_All T_ref1_Names_All_L1 [(0,.pointer n),(3,.slice a an ac),(4,.int .i64 (IntKind.wrap .i64 (i + 1)))] w1)))
 (R F_ref1_Names_All T_ref1_Names_All_L1 [(0,.pointer n),(3,.slice out outn outc),(4,.int .i64 (IntKind.wrap .i64 (i + 1)))] h)))
 (some (.slice out outn outc,h)) := by kernel_rfl
def C_codec_New_api_Pipe : Cuts := { globs := 0,loops := [],regs := [],plans := [] }
def T_codec_New_api_Pipe : List Item := bodyOf Tryz.f196
theorem e_codec_New_api_Pipe (size : Int) (put : Value) (get : Value) (h : H) :
 exec PR C_codec_New_api_Pipe C R F_codec_New_api_Pipe Tryz.f196 100000 true T_codec_New_api_Pipe [(0,.int .i64 size),(1,put),(2,get)] h =
 one put (one get (nw (.cells Y_codec_Codec_api_Pipe false [.int .i64 (mm2 false (mm2 true size 0) 64),put,get]) h fun b w=>some (.pointer (some ⟨b,0,none⟩),w))) := by kernel_rfl
def C_ring_get : Cuts := { globs := 0,loops := [],regs := [],plans := [(1,⟨[0,1,2,3,4,5,6,7,8,9,10,11,12,13,14,15,16,17,18],[0,1,3,7,0,16,48,112,0,256,768,1792,0,4096,12288,28672,65535,0,262143],[],[]⟩),(2,⟨[0,1,2,3,4],[0,1,0,4,15],[],[]⟩),(4,⟨[0,1,2,3,4,5,6,7,8],[0,0,2,6,6,30,62,63,255],[(5,[0])],[]⟩)] }
def T_ring_get : List Item := bodyOf Tryz.f198
theorem e_ring_get (b : Option Addr) (bn bc : Nat) (h : H) :
 exec PR C_ring_get C R F_ring_get Tryz.f198 100000 true T_ring_get [(0,.slice b bn bc)] h =
 nw (.cells Y_api_Pipe false [.int .i64 0,.int .i64 0,.int .i64 0,.int .i64 0,.int .u8 0,.int .u8 0,.int .u8 0,.int .u8 0,.int .u8 0,.int .u8 0,.int .u8 0,.int .u8 0,.int .u8 0,.int .u8 0,.int .u8 0,.int .u8 0,.int .u8 0,.int .u8 0,.int .u8 0,.int .u8 0,.int .u8 0,.int .u8 0,.int .u8 0,.int .u8 0,.int .u8 0,.int .u8 0,.int .u8 0,.int .u8 0,.int .u8 0,.int .u8 0,.int .u8 0,.int .u8 0,.int .u8 0,.int .u8 0,.int .u8 0,.int .u8 0]) h fun b_1 w=>aSome b fun p=>ck ((0 : Int) ≤ 1 ∧ 1 < (bn : Int)) (gInt .u8 (Addr.add (bare p) (Int.toNat 1 * 1)) w fun x=>aSome b fun p_1=>ck ((0 : Int) ≤ 2 ∧ 2 < (bn : Int)) (gInt .u8 (Addr.add (bare p_1) (Int.toNat 2 * 1)) w fun x_1=>aSome b fun p_2=>ck ((0 : Int) ≤ 3 ∧ 3 < (bn : Int)) (gInt .u8 (Addr.add (bare p_2) (Int.toNat 3 * 1)) w fun x_2=>aSome b fun p_3=>ck ((0 : Int) ≤ 4 ∧ 4 < (bn : Int)) (gInt .u8 (Addr.add (bare p_3) (Int.toNat 4 * 1)) w fun x_3=>nw (.cells Y_api_Pipe false [.int .i64 0,.int .i64 0,.int .i64 0,.int .i64 0,.int .u8 0,.int .u8 0,.int .u8 0,.int .u8 0,.int .u8 0,.int .u8 0,.int .u8 0,.int .u8 0,.int .u8 0,.int .u8 0,.int .u8 0,.int .u8 0,.int .u8 0,.int .u8 0,.int .u8 0,.int .u8 0,.int .u8 0,.int .u8 0,.int .u8 0,.int .u8 0,.int .u8 0,.int .u8 0,.int .u8 0,.int .u8 0,.int .u8 0,.int .u8 0,.int .u8 0,.int .u8 0,.int .u8 0,.int .u8 0,.int .u8 0,.int .u8 0]) w fun b_2 w1=>pAgg ⟨b_2,0,none⟩ [.int .i64 (IntKind.wrap .i64 (x)),.int .i64 (IntKind.wrap .i64 (x_1)),.int .i64 (IntKind.wrap .i64 (x_2)),.int .i64 (IntKind.wrap .i64 (x_3)),.int .u8 0,.int .u8 0,.int .u8 0,.int .u8 0,.int .u8 0,.int .u8 0,.int .u8 0,.int .u8 0,.int .u8 0,.int .u8 0,.int .u8 0,.int .u8 0,.int .u8 0,.int .u8 0,.int .u8 0,.int .u8 0,.int .u8 0,.int .u8 0,.int .u8 0,.int .u8 0,.int .u8 0,.int .u8 0,.int .u8 0,.int .u8 0,.int .u8 0,.int .u8 0,.int .u8 0,.int .u8 0,.int .u8 0,.int .u8 0,.int .u8 0,.int .u8 0] w1 fun w2=>ckB (liveA (Addr.add ⟨b_2,0,none⟩ 4) w2) (ckB (fitsOpen b Y_uint8 w2) (ck ((0 : Int) ≤ 8 ∧ 8 ≤ (bn : Int)) (gCells (moved b (decide (Int.toNat 8 < bc)) ((Int.toNat 8) * 1)) (min (bn - (Int.toNat 8)) (32 - 0) * 1) w2 fun cs=>pCells (moved (some (Addr.add ⟨b_2,0,none⟩ 4)) (decide (0 < 32)) (0 * 1)) cs w2 fun w3=>gAgg ⟨b_2,0,none⟩ 36 w3 fun x_4=>bnd (C F_ring_Encode [.agg ⟨x_4⟩] w3) fun r w4=>as2 r fun r_1 r_2=>aSl r_1 fun x_5 xn xc=>aBool r_2 fun x_6=>gAgg ⟨b_2,0,none⟩ 36 w4 fun x_7=>bnd (cond x_6 (bnd (C F_slices_Equal_s_byte_byte [.slice x_5 xn xc,.slice b bn bc] w4) fun r_3 w5=>aBool r_3 fun x_8=>gAgg ⟨b_2,0,none⟩ 36 w5 fun x_9=>same (.agg ⟨x_7⟩) (.agg ⟨x_9⟩) (some (x_8,w5))) (some (false,w4))) fun c w6=>ck (List.length x_7 = 36) (pAgg ⟨b_1,0,none⟩ x_7 w6 fun w7=>gAgg ⟨b_1,0,none⟩ 36 w7 fun x_10=>some (.tuple ⟨[.agg ⟨x_10⟩,.bool c]⟩,w7))))))))) := by kernel_rfl
def C_codec_Blank_1 : Cuts := { globs := 0,loops := [],regs := [],plans := [] }
def T_codec_Blank_1 : List Item := bodyOf Tryz.f200
theorem e_codec_Blank_1 (c : Int) (h : H) :
 exec PR C_codec_Blank_1 C R F_codec_Blank_1 Tryz.f200 100000 true T_codec_Blank_1 [(0,.int .u8 c)] h =
 some (.bool (c != 0),h) := by kernel_rfl
def C_caps_Space_Get : Cuts := { globs := 0,loops := [],regs := [],plans := [] }
def T_caps_Space_Get : List Item := bodyOf Tryz.f203
theorem e_caps_Space_Get (s : Option Addr) (env : Int) (name : Int) (h : H) :
 exec PR C_caps_Space_Get C R F_caps_Space_Get Tryz.f203 100000 true T_caps_Space_Get [(0,.pointer s),(1,.int .i64 env),(2,.int .i64 name)] h =
 nw (.cells Y_api_Cap false [.int .i64 0,.int .i64 0,.int .i64 0,.int .i64 0,.int .i64 0,.int .i64 0]) h fun b w=>bnd (C F_caps_Space_is [.pointer s,.int .i64 env] w) fun r w1=>aBool r fun x=>cond (!x)
 (pAgg ⟨b,0,none⟩ [.int .i64 0,.int .i64 0,.int .i64 0,.int .i64 0,.int .i64 0,.int .i64 0] w1 fun w2=>gAgg ⟨b,0,none⟩ 6 w2 fun x_1=>some (.tuple ⟨[.agg ⟨x_1⟩,.int .i64 2]⟩,w2))
 (aSome s fun p=>gSl (Addr.add p 0) w1 fun x_2 xn _=>aSome x_2 fun p_1=>ck ((0 : Int) ≤ env ∧ env < (xn : Int)) (gPtr (Addr.add (bare p_1) (Int.toNat env * 1)) w1 fun x_3=>bnd (C F_table_Table_api_Cap_Get [.pointer x_3,.int .i64 name] w1) fun r_1 w3=>as2 r_1 fun r_2 r_3=>aAgg r_2 fun x_4=>aBool r_3 fun x_5=>nw (.cells Y_api_Cap false [.int .i64 0,.int .i64 0,.int .i64 0,.int .i64 0,.int .i64 0,.int .i64 0]) w3 fun b_1 w4=>ck (List.length x_4 = 6) (pAgg ⟨b_1,0,none⟩ x_4 w4 fun w5=>cond (!x_5)
 (pAgg ⟨b,0,none⟩ [.int .i64 0,.int .i64 0,.int .i64 0,.int .i64 0,.int .i64 0,.int .i64 0] w5 fun w6=>gAgg ⟨b,0,none⟩ 6 w6 fun x_6=>some (.tuple ⟨[.agg ⟨x_6⟩,.int .i64 2]⟩,w6))
 (gAgg ⟨b_1,0,none⟩ 6 w5 fun x_7=>ck (List.length x_7 = 6) (pAgg ⟨b,0,none⟩ x_7 w5 fun w7=>gAgg ⟨b,0,none⟩ 6 w7 fun x_8=>some (.tuple ⟨[.agg ⟨x_8⟩,.int .i64 0]⟩,w7)))))) := by kernel_rfl
def C_slices_IndexFunc_s_int_int : Cuts := { globs := 0,loops := [(2,[0,1,7,8])],regs := [],plans := [] }
def T_slices_IndexFunc_s_int_int : List Item := bodyOf Tryz.f217
def T_slices_IndexFunc_s_int_int_L1 : List Item := stk [0,1,0,0,1,4,5] T_slices_IndexFunc_s_int_int
theorem e_slices_IndexFunc_s_int_int (s : Option Addr) (sn sc : Nat) (f : Value) (h : H) :
 exec PR C_slices_IndexFunc_s_int_int C R F_slices_IndexFunc_s_int_int Tryz.f217 100000 true T_slices_IndexFunc_s_int_int [(0,.slice s sn sc),(1,f)] h =
 R F_slices_IndexFunc_s_int_int T_slices_IndexFunc_s_int_int_L1 [(0,.slice s sn sc),(1,f),(7,.int .i64 (sn : Int)),(8,.int .i64 0)] h := by kernel_rfl
theorem e_slices_IndexFunc_s_int_int_L1 (s : Option Addr) (sn sc : Nat) (f : Value) (x7 : Int) (x8 : Int) (h : H) :
 exec PR C_slices_IndexFunc_s_int_int C R F_slices_IndexFunc_s_int_int Tryz.f217 100000 true T_slices_IndexFunc_s_int_int_L1 [(0,.slice s sn sc),(1,f),(7,.int .i64 x7),(8,.int .i64 x8)] h =
 cond (decide (x8 < x7))
 (aSome s fun p=>ck ((0 : Int) ≤ x8 ∧ x8 < (sn : Int)) (gInt .i64 (Addr.add (bare p) (Int.toNat x8 * 1)) h fun x=>aFn f fun g fi cp=>bnd (C g (fi ++ ([.int .i64 x] ++ cp)) h) fun r w=>aBool r fun x_1=>cond x_1
 (some (.int .i64 x8,w))
 (R F_slices_IndexFunc_s_int_int T_slices_IndexFunc_s_int_int_L1 [(0,.slice s sn sc),(1,f),(7,.int .i64 x7),(8,.int .i64 (IntKind.wrap .i64 (x8 + 1)))] w)))
 (some (.int .i64 (-1),h)) := by kernel_rfl
def C_table_Table_api_Cap_Add : Cuts := { globs := 0,loops := [(2,[0,3,11,12,13])],regs := [],plans := [(5,⟨[0,1,2,3,4,5,6,7,8,9,10,11,12,13,14,15,16],[0,1,3,7,0,0,32,96,224,0,0,1535,3583,7679,16383,32767,65535],[],[]⟩)] }
def T_table_Table_api_Cap_Add : List Item := bodyOf Tryz.f218
def T_table_Table_api_Cap_Add_L1 : List Item := stk [0,1,0,0,1,4,5] T_table_Table_api_Cap_Add
theorem e_table_Table_api_Cap_Add (t : Option Addr) (v : List Value) (h : H) :
 exec PR C_table_Table_api_Cap_Add C R F_table_Table_api_Cap_Add Tryz.f218 100000 true T_table_Table_api_Cap_Add [(0,.pointer t),(1,.agg ⟨v⟩)] h =
 nw (.cells Y_api_Cap false v) h fun b w=>aSome t fun p=>gSl (Addr.add p 0) w fun x xn xc=>R F_table_Table_api_Cap_Add T_table_Table_api_Cap_Add_L1 [(0,.pointer t),(3,.pointer (some ⟨b,0,none⟩)),(11,.slice x xn xc),(12,.int .i64 (xn : Int)),(13,.int .i64 0)] w := by kernel_rfl
theorem e_table_Table_api_Cap_Add_L1 (t : Option Addr) (v : Addr) (x11 : Option Addr) (x11n x11c : Nat) (x12 : Int) (x13 : Int) (h : H) :
 exec PR C_table_Table_api_Cap_Add C R F_table_Table_api_Cap_Add Tryz.f218 100000 true T_table_Table_api_Cap_Add_L1 [(0,.pointer t),(3,.pointer (some v)),(11,.slice x11 x11n x11c),(12,.int .i64 x12),(13,.int .i64 x13)] h =
 cond (decide (x13 < x12))
 (aSome x11 fun p=>ck ((0 : Int) ≤ x13 ∧ x13 < (x11n : Int)) (gAgg (Addr.add (bare p) (Int.toNat x13 * 8)) 8 h fun x=>nw (.cells Y_table_place_api_Cap false [.int .i64 0,.int .i64 0,.int .i64 0,.int .i64 0,.int .i64 0,.int .i64 0,.int .i64 0,.bool false]) h fun b w=>ck (List.length x = 8) (pAgg ⟨b,0,none⟩ x w fun w1=>gBool (Addr.add ⟨b,0,none⟩ 7) w1 fun x_1=>bnd (cond (!x_1) (gInt .i64 (Addr.add ⟨b,0,none⟩ 6) w1 fun x_2=>some (decide (x_2 ≤ 1000000),w1)) (some (false,w1))) fun c w2=>cond c
 (aSome t fun p_1=>gSl (Addr.add p_1 0) w2 fun x_3 xn _=>aSome t fun p_2=>gSl (Addr.add p_2 0) w2 fun x_4 xn_1 _=>gAgg v 6 w2 fun x_5=>aSome x_3 fun p_3=>ck ((0 : Int) ≤ x13 ∧ x13 < (xn : Int)) (ck (List.length x_5 = 6) (pAgg (Addr.add (Addr.add (bare p_3) (Int.toNat x13 * 8)) 0) x_5 w2 fun w3=>aSome x_4 fun p_4=>ck ((0 : Int) ≤ x13 ∧ x13 < (xn_1 : Int)) (pV (Addr.add (Addr.add (bare p_4) (Int.toNat x13 * 8)) 7) (.bool true) w3 fun w4=>bnd (C F_table_Table_api_Cap_name [.pointer t,.int .i64 x13] w4) fun r w5=>aInt .i64 r fun x_6=>some (.tuple ⟨[.int .i64 x_6,.bool true]⟩,w5)))))
 (R F_table_Table_api_Cap_Add T_table_Table_api_Cap_Add_L1 [(0,.pointer t),(3,.pointer (some v)),(11,.slice x11 x11n x11c),(12,.int .i64 x12),(13,.int .i64 (IntKind.wrap .i64 (x13 + 1)))] w2))))
 (some (.tuple ⟨[.int .i64 0,.bool false]⟩,h)) := by kernel_rfl
def C_ref1_Names_Add : Cuts := { globs := 0,loops := [(2,[0,4])],regs := [],plans := [] }
def T_ref1_Names_Add : List Item := bodyOf Tryz.f219
def T_ref1_Names_Add_L1 : List Item := stk [0,1,0,0,1,4,5] T_ref1_Names_Add
theorem e_ref1_Names_Add (n : Option Addr) (h : H) :
 exec PR C_ref1_Names_Add C R F_ref1_Names_Add Tryz.f219 100000 true T_ref1_Names_Add [(0,.pointer n)] h =
 R F_ref1_Names_Add T_ref1_Names_Add_L1 [(0,.pointer n),(4,.int .i64 0)] h := by kernel_rfl
theorem e_ref1_Names_Add_L1 (n : Option Addr) (i : Int) (h : H) :
 exec PR C_ref1_Names_Add C R F_ref1_Names_Add Tryz.f219 100000 true T_ref1_Names_Add_L1 [(0,.pointer n),(4,.int .i64 i)] h =
 aSome n fun p=>gSl (Addr.add p 0) h fun _ xn _=>cond (decide (i < (xn : Int)))
 (aSome n fun p_1=>gSl (Addr.add p_1 0) h fun x_1 xn_1 _=>aSome x_1 fun p_2=>ck ((0 : Int) ≤ i ∧ i < (xn_1 : Int)) (gBool (Addr.add (Addr.add (bare p_2) (Int.toNat i * 2)) 1) h fun x_2=>bnd (cond (!x_2) (aSome n fun p_3=>gSl (Addr.add p_3 0) h fun x_3 xn_2 _=>aSome x_3 fun p_4=>ck ((0 : Int) ≤ i ∧ i < (xn_2 : Int)) (gInt .i64 (Addr.add (Addr.add (bare p_4) (Int.toNat i * 2)) 0) h fun x_4=>some (decide (x_4 ≤ 1000000),h))) (some (false,h))) fun c w=>cond c
 (aSome n fun p_5=>gSl (Addr.add p_5 0) w fun x_5 xn_3 _=>aSome x_5 fun p_6=>ck ((0 : Int) ≤ i ∧ i < (xn_3 : Int)) (pV (Addr.add (Addr.add (bare p_6) (Int.toNat i * 2)) 1) (.bool true) w fun w1=>aSome n fun p_7=>gSl (Addr.add p_7 0) w1 fun x_6 xn_4 _=>aSome x_6 fun p_8=>ck ((0 : Int) ≤ i ∧ i < (xn_4 : Int)) (gInt .i64 (Addr.add (Addr.add (bare p_8) (Int.toNat i * 2)) 0) w1 fun x_7=>some (.tuple ⟨[.int .i64 (IntKind.wrap .i64 (i + (IntKind.wrap .i64 (256 * x_7)))),.bool true]⟩,w1))))
 (R F_ref1_Names_Add T_ref1_Names_Add_L1 [(0,.pointer n),(4,.int .i64 (IntKind.wrap .i64 (i + 1)))] w)))
 (some (.tuple ⟨[.int .i64 0,.bool false]⟩,h)) := by kernel_rfl
def C_ref1_Names_Has : Cuts := { globs := 0,loops := [],regs := [],plans := [] }
def T_ref1_Names_Has : List Item := bodyOf Tryz.f220
theorem e_ref1_Names_Has (n : Option Addr) (name : Int) (h : H) :
 exec PR C_ref1_Names_Has C R F_ref1_Names_Has Tryz.f220 100000 true T_ref1_Names_Has [(0,.pointer n),(1,.int .i64 name)] h =
 bnd (cond (decide (name ≥ 0)) (aSome n fun p=>gSl (Addr.add p 0) h fun _ xn _=>some (decide ((bitA .i64 name 255) < (xn : Int)),h)) (some (false,h))) fun c w=>bnd (cond c (aSome n fun p_1=>gSl (Addr.add p_1 0) w fun x_1 xn_1 _=>aSome x_1 fun p_2=>ck ((0 : Int) ≤ bitA .i64 name 255 ∧ bitA .i64 name 255 < (xn_1 : Int)) (gBool (Addr.add (Addr.add (bare p_2) (Int.toNat (bitA .i64 name 255) * 2)) 1) w fun x_2=>some (x_2,w))) (some (false,w))) fun c_1 w1=>bnd (cond c_1 (aSome n fun p_3=>gSl (Addr.add p_3 0) w1 fun x_3 xn_2 _=>aSome x_3 fun p_4=>ck ((0 : Int) ≤ bitA .i64 name 255 ∧ bitA .i64 name 255 < (xn_2 : Int)) (gInt .i64 (Addr.add (Addr.add (bare p_4) (Int.toNat (bitA .i64 name 255) * 2)) 0) w1 fun x_4=>some (x_4 == (Int.fdiv name (2 ^ 8)),w1))) (some (false,w1))) fun c_2 w2=>some (.bool c_2,w2) := by kernel_rfl
def C_table_Table_api_Cap_Get : Cuts := { globs := 0,loops := [],regs := [],plans := [] }
def T_table_Table_api_Cap_Get : List Item := bodyOf Tryz.f226
theorem e_table_Table_api_Cap_Get (t : Option Addr) (name : Int) (h : H) :
 exec PR C_table_Table_api_Cap_Get C R F_table_Table_api_Cap_Get Tryz.f226 100000 true T_table_Table_api_Cap_Get [(0,.pointer t),(1,.int .i64 name)] h =
 nw (.cells Y_api_Cap false [.int .i64 0,.int .i64 0,.int .i64 0,.int .i64 0,.int .i64 0,.int .i64 0]) h fun b w=>bnd (C F_table_Table_api_Cap_at [.pointer t,.int .i64 name] w) fun r w1=>aPtr r fun x=>cond x.isNone
 (nw (.cells Y_api_Cap false [.int .i64 0,.int .i64 0,.int .i64 0,.int .i64 0,.int .i64 0,.int .i64 0]) w1 fun b_1 w2=>gAgg ⟨b_1,0,none⟩ 6 w2 fun x_1=>ck (List.length x_1 = 6) (pAgg ⟨b,0,none⟩ x_1 w2 fun w3=>gAgg ⟨b,0,none⟩ 6 w3 fun x_2=>some (.tuple ⟨[.agg ⟨x_2⟩,.bool false]⟩,w3)))
 (aSome x fun p=>gAgg (Addr.add p 0) 6 w1 fun x_3=>ck (List.length x_3 = 6) (pAgg ⟨b,0,none⟩ x_3 w1 fun w4=>gAgg ⟨b,0,none⟩ 6 w4 fun x_4=>some (.tuple ⟨[.agg ⟨x_4⟩,.bool true]⟩,w4))) := by kernel_rfl
def C_sect_Sect_Holds : Cuts := { globs := 0,loops := [],regs := [],plans := [] }
def T_sect_Sect_Holds : List Item := bodyOf Tryz.f230
theorem e_sect_Sect_Holds (s : Option Addr) (who : Int) (stamp : Int) (h : H) :
 exec PR C_sect_Sect_Holds C R F_sect_Sect_Holds Tryz.f230 100000 true T_sect_Sect_Holds [(0,.pointer s),(1,.int .i64 who),(2,.int .i64 stamp)] h =
 aSome s fun p=>gBool (Addr.add p 1) h fun x=>bnd (cond x (aSome s fun p_1=>gInt .i64 (Addr.add p_1 2) h fun x_1=>some (x_1 == who,h)) (some (false,h))) fun c w=>bnd (cond c (aSome s fun p_2=>gInt .i64 (Addr.add p_2 3) w fun x_2=>some (x_2 == stamp,w)) (some (false,w))) fun c_1 w1=>some (.bool c_1,w1) := by kernel_rfl
def C_pslot_bits : Cuts := { globs := 0,loops := [],regs := [],plans := [] }
def T_pslot_bits : List Item := bodyOf Tryz.f238
theorem e_pslot_bits (n : Int) (without : Int) (h : H) :
 exec PR C_pslot_bits C R F_pslot_bits Tryz.f238 100000 true T_pslot_bits [(0,.int .i64 n),(1,.int .i64 without)] h =
 bnd (cond ((bitN .i64 n 65534) == 0) (some ((bitA .i64 n without) == 0,h)) (some (false,h))) fun c w=>some (.bool c,w) := by kernel_rfl
end
end Go.EQ

set_option maxRecDepth 100000
namespace Go.EQ
open Go Go.NN Go.Proofs
variable (C : CallFn) (R : RunFn)
noncomputable section
def C_kern_New : Cuts := { globs := 0,loops := [(5,[1,4,20,21,22]),(12,[1,7,58,59,60]),(18,[7,89,90,91]),(22,[7,11,12,89,90,91,122,123,124])],regs := [],plans := [(9,⟨[0,1,3,5,6,7,9,10,2,4,8,11,12,13,14],[0,1,3,0,15,0,32,96,255,0,512,2047,4095,8191,16383],[(2,[6,10]),(4,[6,10]),(8,[10])],[]⟩),(10,⟨[0,1,2,3,4,5,6,7,8,9,10,11,12],[0,0,2,6,14,0,32,96,224,510,1023,2047,4095],[],[]⟩),(14,⟨[0,1,2,3,4,5,6,7,8,9,10,11],[0,0,2,6,14,0,32,96,254,511,1023,2047],[(6,[4])],[]⟩),(15,⟨[0,1,2,3,4,5,6,7,8,9,10,11,12],[0,0,2,6,14,0,32,96,224,510,1023,2047,4095],[(7,[4])],[]⟩),(20,⟨[0,1,2,3,4,5,6,7,8,9,11,12,15,16,18,19,10,13,14,17,20,21,22,23,24,25],[0,1,3,7,0,16,48,112,0,256,1008,0,2048,8176,16368,0,32768,131056,0,262144,1048575,2097151,4194303,4194303,8388607,33554431],[(10,[3,12,16,19])],[]⟩),(25,⟨[0,1,2,3,4,5,6,7,8,9],[0,1,3,7,0,0,0,64,224,511],[],[]⟩)] }
def T_kern_New : List Item := bodyOf Tryz.f51
def T_kern_New_L1 : List Item := stk [0,1,0,1,0,1,0,0,1,4,5] T_kern_New
def T_kern_New_L2 : List Item := stk [0,1,0,1,0,1,0,1,0,1,0,1,0,0,1,4,5] T_kern_New
def T_kern_New_L3 : List Item := stk [0,1,0,1,0,1,0,1,0,1,0,1,0,1,0,0,1,4,5] T_kern_New
def T_kern_New_L4 : List Item := stk [0,1,0,1,0,1,0,1,0,1,0,1,0,1,0,0,1,4,5,6,0,1,0,1,0,4,0,1,0,1,0,1,4,5] T_kern_New
theorem e_kern_New (c : List Value) (h : H) :
 exec PR C_kern_New C R F_kern_New Tryz.f51 100000 true T_kern_New [(0,.agg ⟨c⟩)] h =
 nw (.cells Y_api_Boot false c) h fun b w=>gAgg ⟨b,0,none⟩ 5 w fun x=>bnd (C F_kern_check [.agg ⟨x⟩] w) fun r w1=>aBool r fun x_1=>cond (!x_1)
 (some (.tuple ⟨[.pointer none,.int .i64 1]⟩,w1))
 (gSl (Addr.add ⟨b,0,none⟩ 0) w1 fun x_2 xn xc=>R F_kern_New T_kern_New_L1 [(1,.pointer (some ⟨b,0,none⟩)),(4,.int .i64 0),(20,.slice x_2 xn xc),(21,.int .i64 (xn : Int)),(22,.int .i64 0)] w1) := by kernel_rfl
theorem e_kern_New_L1 (c : Addr) (all : Int) (x20 : Option Addr) (x20n x20c : Nat) (x21 : Int) (x22 : Int) (h : H) :
 exec PR C_kern_New C R F_kern_New Tryz.f51 100000 true T_kern_New_L1 [(1,.pointer (some c)),(4,.int .i64 all),(20,.slice x20 x20n x20c),(21,.int .i64 x21),(22,.int .i64 x22)] h =
 cond (decide (x22 < x21))
 (aSome x20 fun p=>ck ((0 : Int) ≤ x22 ∧ x22 < (x20n : Int)) (gInt .i64 (Addr.add (bare p) (Int.toNat x22 * 1)) h fun x=>bnd (C F_kern_frames [.int .i64 x] h) fun r w=>aInt .i64 r fun x_1=>R F_kern_New T_kern_New_L1 [(1,.pointer (some c)),(4,.int .i64 (IntKind.wrap .i64 (all + x_1))),(20,.slice x20 x20n x20c),(21,.int .i64 x21),(22,.int .i64 (IntKind.wrap .i64 (x22 + 1)))] w))
 (gSl (Addr.add c 1) h fun x_2 xn xc=>gSl (Addr.add c 1) h fun x_3 xn_1 xc_1=>gSl (Addr.add c 0) h fun x_4 xn_2 xc_2=>bnd (C F_slices_Clone_s_int_int [.slice x_2 xn xc] h) fun r_1 w1=>aSl r_1 fun x_5 xn_3 xc_3=>gSl (Addr.add c 1) w1 fun x_6 xn_4 xc_4=>same (.slice x_3 xn_1 xc_1) (.slice x_6 xn_4 xc_4) (gSl (Addr.add c 0) w1 fun x_7 xn_5 xc_5=>same (.slice x_4 xn_2 xc_2) (.slice x_7 xn_5 xc_5) (bnd (C F_mem_New [.int .i64 all] w1) fun r_2 w2=>aPtr r_2 fun x_8=>gSl (Addr.add c 1) w2 fun x_9 xn_6 xc_6=>same (.slice x_3 xn_1 xc_1) (.slice x_9 xn_6 xc_6) (gSl (Addr.add c 0) w2 fun x_10 xn_7 xc_7=>same (.slice x_4 xn_2 xc_2) (.slice x_10 xn_7 xc_7) (bnd (C F_caps_New [.int .i64 (xn_1 : Int)] w2) fun r_3 w3=>aPtr r_3 fun x_11=>gSl (Addr.add c 0) w3 fun x_12 xn_8 xc_8=>same (.slice x_4 xn_2 xc_2) (.slice x_12 xn_8 xc_8) (bnd (C F_quota_New [.slice x_4 xn_2 xc_2] w3) fun r_4 w4=>aPtr r_4 fun x_13=>nw (.cells Y_kern_Kern false [.slice x_5 xn_3 xc_3,.slice none 0 0,.pointer x_8,.pointer x_11,.pointer x_13,.pointer none,.slice none 0 0,.int .i64 0]) w4 fun b w5=>gPtr (Addr.add ⟨b,0,none⟩ 2) w5 fun x_14=>gPtr (Addr.add ⟨b,0,none⟩ 3) w5 fun x_15=>bnd (C F_region_New [.pointer x_14,.pointer x_15] w5) fun r_5 w6=>aPtr r_5 fun x_16=>pV (Addr.add ⟨b,0,none⟩ 5) (.pointer x_16) w6 fun w7=>gSl (Addr.add c 2) w7 fun x_17 xn_9 xc_9=>R F_kern_New T_kern_New_L2 [(1,.pointer (some c)),(7,.pointer (some ⟨b,0,none⟩)),(58,.slice x_17 xn_9 xc_9),(59,.int .i64 (xn_9 : Int)),(60,.int .i64 0)] w7)))))) := by kernel_rfl
theorem e_kern_New_L2 (c : Addr) (k : Addr) (x58 : Option Addr) (x58n x58c : Nat) (x59 : Int) (x60 : Int) (h : H) :
 exec PR C_kern_New C R F_kern_New Tryz.f51 100000 true T_kern_New_L2 [(1,.pointer (some c)),(7,.pointer (some k)),(58,.slice x58 x58n x58c),(59,.int .i64 x59),(60,.int .i64 x60)] h =
 cond (decide (x60 < x59))
 (aSome x58 fun p=>ck ((0 : Int) ≤ x60 ∧ x60 < (x58n : Int)) (gSl (Addr.add (bare p) (Int.toNat x60 * 1)) h fun x xn xc=>gSl (Addr.add k 1) h fun x_1 xn_1 xc_1=>bnd (C F_slices_Clone_s_int_int [.slice x xn xc] h) fun r w=>aSl r fun x_2 xn_2 xc_2=>gSl (Addr.add k 1) w fun x_3 xn_3 xc_3=>same (.slice x_1 xn_1 xc_1) (.slice x_3 xn_3 xc_3) (nw (.cells Y_s_int false [.slice x_2 xn_2 xc_2]) w fun b w1=>gCells (some ⟨b,0,none⟩) (1 * 1) w1 fun cs=>ckB (fitsOpen x_1 Y_s_int w1) (apd Y_s_int 1 x_1 xn_1 xc_1 1 cs w1 fun a an ac w2=>pV (Addr.add k 1) (.slice a an ac) w2 fun w3=>gSl (Addr.add k 6) w3 fun x_4 xn_4 xc_4=>gInt .i64 (Addr.add c 3) w3 fun x_5=>bnd (C F_sect_New [.int .i64 x_5] w3) fun r_1 w4=>aPtr r_1 fun x_6=>gSl (Addr.add k 6) w4 fun x_7 xn_5 xc_5=>same (.slice x_4 xn_4 xc_4) (.slice x_7 xn_5 xc_5) (nw (.cells Y_p_sect_Sect false [.pointer x_6]) w4 fun b_1 w5=>gCells (some ⟨b_1,0,none⟩) (1 * 1) w5 fun cs_1=>ckB (fitsOpen x_4 Y_p_sect_Sect w5) (apd Y_p_sect_Sect 1 x_4 xn_4 xc_4 1 cs_1 w5 fun a_1 an_1 ac_1 w6=>pV (Addr.add k 6) (.slice a_1 an_1 ac_1) w6 fun w7=>R F_kern_New T_kern_New_L2 [(1,.pointer (some c)),(7,.pointer (some k)),(58,.slice x58 x58n x58c),(59,.int .i64 x59),(60,.int .i64 (IntKind.wrap .i64 (x60 + 1)))] w7))))))
 (gSl (Addr.add c 4) h fun x_8 xn_6 xc_6=>R F_kern_New T_kern_New_L3 [(7,.pointer (some k)),(89,.slice x_8 xn_6 xc_6),(90,.int .i64 (xn_6 : Int)),(91,.int .i64 0)] h) := by kernel_rfl
theorem e_kern_New_L3 (k : Addr) (x89 : Option Addr) (x89n x89c : Nat) (x90 : Int) (x91 : Int) (h : H) :
 exec PR C_kern_New C R F_kern_New Tryz.f51 100000 true T_kern_New_L3 [(7,.pointer (some k)),(89,.slice x89 x89n x89c),(90,.int .i64 x90),(91,.int .i64 x91)] h =
 cond (decide (x91 < x90))
 (aSome x89 fun p=>ck ((0 : Int) ≤ x91 ∧ x91 < (x89n : Int)) (gAgg (Addr.add (bare p) (Int.toNat x91 * 5)) 5 h fun x=>nw (.cells Y_api_Share false [.int .i64 0,.int .i64 0,.int .i64 0,.int .i64 0,.slice none 0 0]) h fun b w=>ck (List.length x = 5) (pAgg ⟨b,0,none⟩ x w fun w1=>gPtr (Addr.add k 5) w1 fun x_1=>gPtr (Addr.add k 4) w1 fun x_2=>gInt .i64 (Addr.add ⟨b,0,none⟩ 0) w1 fun x_3=>gInt .i64 (Addr.add ⟨b,0,none⟩ 1) w1 fun x_4=>gInt .i64 (Addr.add ⟨b,0,none⟩ 2) w1 fun x_5=>gInt .i64 (Addr.add ⟨b,0,none⟩ 3) w1 fun x_6=>bnd (C F_quota_Quota_First [.pointer x_2,.int .i64 x_3] w1) fun r w2=>aInt .i64 r fun x_7=>gPtr (Addr.add k 5) w2 fun x_8=>same (.pointer x_1) (.pointer x_8) (gInt .i64 (Addr.add ⟨b,0,none⟩ 1) w2 fun x_9=>same (.int .i64 x_4) (.int .i64 x_9) (gInt .i64 (Addr.add ⟨b,0,none⟩ 2) w2 fun x_10=>same (.int .i64 x_5) (.int .i64 x_10) (gInt .i64 (Addr.add ⟨b,0,none⟩ 3) w2 fun x_11=>same (.int .i64 x_6) (.int .i64 x_11) (bnd (C F_region_Regions_Add [.pointer x_1,.int .i64 (IntKind.wrap .i64 ((IntKind.wrap .i64 ((IntKind.wrap .i64 (x_7 + x_4)) * 64)) + x_5)),.int .i64 x_6] w2) fun r_1 w3=>as2 r_1 fun r_2 r_3=>aInt .i64 r_2 fun x_12=>aInt .i64 r_3 fun _=>gSl (Addr.add k 0) w3 fun x_14 xn xc=>R F_kern_New T_kern_New_L4 [(7,.pointer (some k)),(11,.pointer (some ⟨b,0,none⟩)),(12,.int .i64 x_12),(89,.slice x89 x89n x89c),(90,.int .i64 x90),(91,.int .i64 x91),(122,.slice x_14 xn xc),(123,.int .i64 (xn : Int)),(124,.int .i64 0)] w3)))))))
 (some (.tuple ⟨[.pointer (some k),.int .i64 0]⟩,h)) := by kernel_rfl
theorem e_kern_New_L4 (k : Addr) (x : Addr) (obj : Int) (x89 : Option Addr) (x89n x89c : Nat) (x90 : Int) (x91 : Int) (x122 : Option Addr) (x122n x122c : Nat) (x123 : Int) (x124 : Int) (h : H) :
 exec PR C_kern_New C R F_kern_New Tryz.f51 100000 true T_kern_New_L4 [(7,.pointer (some k)),(11,.pointer (some x)),(12,.int .i64 obj),(89,.slice x89 x89n x89c),(90,.int .i64 x90),(91,.int .i64 x91),(122,.slice x122 x122n x122c),(123,.int .i64 x123),(124,.int .i64 x124)] h =
 cond (decide (x124 < x123))
 (aSome x122 fun p=>ck ((0 : Int) ≤ x124 ∧ x124 < (x122n : Int)) (gInt .i64 (Addr.add (bare p) (Int.toNat x124 * 1)) h fun x_1=>gSl (Addr.add x 4) h fun x_2 xn xc=>bnd (C F_slices_Contains_s_int_int [.slice x_2 xn xc,.int .i64 x_1] h) fun r w=>aBool r fun x_3=>cond x_3
 (gPtr (Addr.add k 3) w fun x_4=>gInt .i64 (Addr.add x 3) w fun x_5=>bnd (C F_caps_Space_Put [.pointer x_4,.int .i64 x124,.agg ⟨[.int .i64 obj,.int .i64 3,.int .i64 0,.int .i64 x_5,.int .i64 0,.int .i64 0]⟩] w) fun r_1 w1=>as2 r_1 fun r_2 r_3=>aInt .i64 r_2 fun _=>aInt .i64 r_3 fun _=>R F_kern_New T_kern_New_L4 [(7,.pointer (some k)),(11,.pointer (some x)),(12,.int .i64 obj),(89,.slice x89 x89n x89c),(90,.int .i64 x90),(91,.int .i64 x91),(122,.slice x122 x122n x122c),(123,.int .i64 x123),(124,.int .i64 (IntKind.wrap .i64 (x124 + 1)))] w1)
 (R F_kern_New T_kern_New_L4 [(7,.pointer (some k)),(11,.pointer (some x)),(12,.int .i64 obj),(89,.slice x89 x89n x89c),(90,.int .i64 x90),(91,.int .i64 x91),(122,.slice x122 x122n x122c),(123,.int .i64 x123),(124,.int .i64 (IntKind.wrap .i64 (x124 + 1)))] w)))
 (R F_kern_New T_kern_New_L3 [(7,.pointer (some k)),(89,.slice x89 x89n x89c),(90,.int .i64 x90),(91,.int .i64 (IntKind.wrap .i64 (x91 + 1)))] h) := by kernel_rfl
def C_ref1_NewKern : Cuts := { globs := 0,loops := [(4,[1,3,4]),(8,[1,3,5]),(13,[1,3,5,6,7,9])],regs := [],plans := [(1,⟨[0,1,2,3,4,5,6],[0,0,2,6,15,31,63],[(3,[0])],[]⟩),(2,⟨[0,1,2,3,4,5,6,7,11,12,13,8,9,10,14,15,16,17,18,19],[0,0,2,6,14,0,32,96,254,510,1022,0,2048,6144,14846,32766,65534,131071,262143,524287],[(8,[12])],[]⟩),(6,⟨[0,1,2,3,4,5,6,7,8,9,10,11,12],[0,0,2,6,14,0,32,96,224,510,1023,2047,4095],[(7,[4])],[]⟩),(11,⟨[0,1,2,3,4,5,6,7,8,9,11,12,15,16,18,19,10,13,14,17,20,21,22,23,24,25],[0,1,3,7,0,16,48,112,0,256,1008,0,2048,8176,16368,0,32768,131056,0,262144,1048575,2097151,4194303,4194303,8388607,33554431],[(10,[3,12,16,19])],[]⟩),(15,⟨[0,1,2,3,4,5,6,7],[0,1,0,4,0,28,60,127],[],[]⟩),(16,⟨[0,1,2,3,4,5,6,7,8,9,10,11,12],[0,1,3,7,15,31,63,0,0,0,512,1792,4095],[],[]⟩)] }
def T_ref1_NewKern : List Item := bodyOf Tryz.f52
def T_ref1_NewKern_L1 : List Item := stk [0,1,0,1,0,1,0,0,1,4,5] T_ref1_NewKern
def T_ref1_NewKern_L2 : List Item := stk [0,1,0,1,0,1,0,1,0,0,1,4,5] T_ref1_NewKern
def T_ref1_NewKern_L3 : List Item := stk [0,1,0,1,0,1,0,1,0,0,1,4,5,6,0,1,0,4,0,1,0,1,0,1,4,5] T_ref1_NewKern
theorem e_ref1_NewKern (b : List Value) (h : H) :
 exec PR C_ref1_NewKern C R F_ref1_NewKern Tryz.f52 100000 true T_ref1_NewKern [(0,.agg ⟨b⟩)] h =
 nw (.cells Y_api_Boot false b) h fun b_1 w=>gAgg ⟨b_1,0,none⟩ 5 w fun x=>gSl (Addr.add ⟨b_1,0,none⟩ 0) w fun x_1 xn xc=>bnd (C F_ref1_NewQuota [.slice x_1 xn xc] w) fun r w1=>aPtr r fun x_2=>gAgg ⟨b_1,0,none⟩ 5 w1 fun x_3=>same (.agg ⟨x⟩) (.agg ⟨x_3⟩) (ck (List.length x = 5) (nw (.cells Y_ref1_Kern false (x ++ (.pointer x_2 :: (.pointer none :: (.slice none 0 0 :: [.int .i64 0]))))) w1 fun b_2 w2=>gPtr (Addr.add ⟨b_2,0,none⟩ 5) w2 fun x_4=>gSl (Addr.add ⟨b_1,0,none⟩ 0) w2 fun _ xn_1 _=>gSl (Addr.add ⟨b_1,0,none⟩ 1) w2 fun x_6 xn_2 xc_2=>bnd (C F_ref1_Quota_First [.pointer x_4,.int .i64 (xn_1 : Int)] w2) fun r_1 w3=>aInt .i64 r_1 fun x_7=>gSl (Addr.add ⟨b_1,0,none⟩ 1) w3 fun x_8 xn_3 xc_3=>same (.slice x_6 xn_2 xc_2) (.slice x_8 xn_3 xc_3) (ck ((0 : Int) ≤ IntKind.wrap .i64 (64 * x_7) ∧ (IntKind.wrap .i64 (64 * x_7) : Int) ≤ IntKind.wrap .i64 (64 * x_7) ∧ IntKind.wrap .i64 (64 * x_7) ≤ (most : Int)) (nw (.cells Y_uint8 false (manyN (Int.toNat (IntKind.wrap .i64 (64 * x_7))) [.int .u8 0])) w3 fun b_3 w4=>bnd (C F_ref1_NewSpace [.int .i64 (xn_2 : Int)] w4) fun r_2 w5=>aPtr r_2 fun x_9=>nw (.cells Y_ref1_Regions false [.slice (some ⟨b_3,0,none⟩) (Int.toNat (IntKind.wrap .i64 (64 * x_7))) (Int.toNat (IntKind.wrap .i64 (64 * x_7))),.slice none 0 0,.slice none 0 0,.pointer x_9]) w5 fun b_4 w6=>pV (Addr.add ⟨b_2,0,none⟩ 6) (.pointer (some ⟨b_4,0,none⟩)) w6 fun w7=>R F_ref1_NewKern T_ref1_NewKern_L1 [(1,.pointer (some ⟨b_1,0,none⟩)),(3,.pointer (some ⟨b_2,0,none⟩)),(4,.int .i64 0)] w7)))) := by kernel_rfl
theorem e_ref1_NewKern_L1 (b : Addr) (k : Addr) (i : Int) (h : H) :
 exec PR C_ref1_NewKern C R F_ref1_NewKern Tryz.f52 100000 true T_ref1_NewKern_L1 [(1,.pointer (some b)),(3,.pointer (some k)),(4,.int .i64 i)] h =
 gSl (Addr.add b 2) h fun _ xn _=>cond (decide (i < (xn : Int)))
 (gSl (Addr.add k 7) h fun x_1 xn_1 xc_1=>gInt .i64 (Addr.add b 3) h fun x_2=>bnd (C F_ref1_NewSect [.int .i64 x_2] h) fun r w=>aPtr r fun x_3=>gSl (Addr.add k 7) w fun x_4 xn_2 xc_2=>same (.slice x_1 xn_1 xc_1) (.slice x_4 xn_2 xc_2) (nw (.cells Y_p_ref1_Sect false [.pointer x_3]) w fun b_1 w1=>gCells (some ⟨b_1,0,none⟩) (1 * 1) w1 fun cs=>ckB (fitsOpen x_1 Y_p_ref1_Sect w1) (apd Y_p_ref1_Sect 1 x_1 xn_1 xc_1 1 cs w1 fun a an ac w2=>pV (Addr.add k 7) (.slice a an ac) w2 fun w3=>R F_ref1_NewKern T_ref1_NewKern_L1 [(1,.pointer (some b)),(3,.pointer (some k)),(4,.int .i64 (IntKind.wrap .i64 (i + 1)))] w3)))
 (R F_ref1_NewKern T_ref1_NewKern_L2 [(1,.pointer (some b)),(3,.pointer (some k)),(5,.int .i64 0)] h) := by kernel_rfl
theorem e_ref1_NewKern_L2 (b : Addr) (k : Addr) (i : Int) (h : H) :
 exec PR C_ref1_NewKern C R F_ref1_NewKern Tryz.f52 100000 true T_ref1_NewKern_L2 [(1,.pointer (some b)),(3,.pointer (some k)),(5,.int .i64 i)] h =
 gSl (Addr.add b 4) h fun _ xn _=>cond (decide (i < (xn : Int)))
 (gSl (Addr.add b 4) h fun x_1 xn_1 _=>aSome x_1 fun p=>ck ((0 : Int) ≤ i ∧ i < (xn_1 : Int)) (gAgg (Addr.add (bare p) (Int.toNat i * 5)) 5 h fun x_2=>nw (.cells Y_api_Share false [.int .i64 0,.int .i64 0,.int .i64 0,.int .i64 0,.slice none 0 0]) h fun b_1 w=>ck (List.length x_2 = 5) (pAgg ⟨b_1,0,none⟩ x_2 w fun w1=>gPtr (Addr.add k 6) w1 fun x_3=>gPtr (Addr.add k 5) w1 fun x_4=>gInt .i64 (Addr.add ⟨b_1,0,none⟩ 0) w1 fun x_5=>gInt .i64 (Addr.add ⟨b_1,0,none⟩ 1) w1 fun x_6=>gInt .i64 (Addr.add ⟨b_1,0,none⟩ 2) w1 fun x_7=>gInt .i64 (Addr.add ⟨b_1,0,none⟩ 3) w1 fun x_8=>bnd (C F_ref1_Quota_First [.pointer x_4,.int .i64 x_5] w1) fun r w2=>aInt .i64 r fun x_9=>gPtr (Addr.add k 6) w2 fun x_10=>same (.pointer x_3) (.pointer x_10) (gInt .i64 (Addr.add ⟨b_1,0,none⟩ 1) w2 fun x_11=>same (.int .i64 x_6) (.int .i64 x_11) (gInt .i64 (Addr.add ⟨b_1,0,none⟩ 2) w2 fun x_12=>same (.int .i64 x_7) (.int .i64 x_12) (gInt .i64 (Addr.add ⟨b_1,0,none⟩ 3) w2 fun x_13=>same (.int .i64 x_8) (.int .i64 x_13) (bnd (C F_ref1_Regions_Add [.pointer x_3,.int .i64 (IntKind.wrap .i64 ((IntKind.wrap .i64 (64 * (IntKind.wrap .i64 (x_9 + x_6)))) + x_7)),.int .i64 x_8] w2) fun r_1 w3=>as2 r_1 fun r_2 r_3=>aInt .i64 r_2 fun x_14=>aInt .i64 r_3 fun _=>R F_ref1_NewKern T_ref1_NewKern_L3 [(1,.pointer (some b)),(3,.pointer (some k)),(5,.int .i64 i),(6,.pointer (some ⟨b_1,0,none⟩)),(7,.int .i64 x_14),(9,.int .i64 0)] w3)))))))
 (some (.pointer (some k),h)) := by kernel_rfl
theorem e_ref1_NewKern_L3 (b : Addr) (k : Addr) (i : Int) (s : Addr) (obj : Int) (e : Int) (h : H) :
 exec PR C_ref1_NewKern C R F_ref1_NewKern Tryz.f52 100000 true T_ref1_NewKern_L3 [(1,.pointer (some b)),(3,.pointer (some k)),(5,.int .i64 i),(6,.pointer (some s)),(7,.int .i64 obj),(9,.int .i64 e)] h =
 gSl (Addr.add b 1) h fun _ xn _=>cond (decide (e < (xn : Int)))
 (gSl (Addr.add s 4) h fun x_1 xn_1 xc_1=>gSl (Addr.add b 1) h fun x_2 xn_2 _=>aSome x_2 fun p=>ck ((0 : Int) ≤ e ∧ e < (xn_2 : Int)) (gInt .i64 (Addr.add (bare p) (Int.toNat e * 1)) h fun x_3=>bnd (C F_ref1_in [.slice x_1 xn_1 xc_1,.int .i64 x_3] h) fun r w=>aBool r fun x_4=>cond x_4
 (gPtr (Addr.add k 6) w fun x_5=>aSome x_5 fun p_1=>gPtr (Addr.add p_1 3) w fun x_6=>gInt .i64 (Addr.add s 3) w fun x_7=>bnd (C F_ref1_Space_Put [.pointer x_6,.int .i64 e,.agg ⟨[.int .i64 obj,.int .i64 3,.int .i64 0,.int .i64 x_7,.int .i64 0,.int .i64 0]⟩] w) fun r_1 w1=>as2 r_1 fun r_2 r_3=>aInt .i64 r_2 fun _=>aInt .i64 r_3 fun _=>R F_ref1_NewKern T_ref1_NewKern_L3 [(1,.pointer (some b)),(3,.pointer (some k)),(5,.int .i64 i),(6,.pointer (some s)),(7,.int .i64 obj),(9,.int .i64 (IntKind.wrap .i64 (e + 1)))] w1)
 (R F_ref1_NewKern T_ref1_NewKern_L3 [(1,.pointer (some b)),(3,.pointer (some k)),(5,.int .i64 i),(6,.pointer (some s)),(7,.int .i64 obj),(9,.int .i64 (IntKind.wrap .i64 (e + 1)))] w)))
 (R F_ref1_NewKern T_ref1_NewKern_L2 [(1,.pointer (some b)),(3,.pointer (some k)),(5,.int .i64 (IntKind.wrap .i64 (i + 1)))] h) := by kernel_rfl
def C_ref15_NewCommons : Cuts := { globs := 0,loops := [],regs := [],plans := [] }
def T_ref15_NewCommons : List Item := bodyOf Tryz.f55
theorem e_ref15_NewCommons (k : Option Addr) (env : Int) (h : H) :
 exec PR C_ref15_NewCommons C R F_ref15_NewCommons Tryz.f55 100000 true T_ref15_NewCommons [(0,.pointer k),(1,.int .i64 env)] h =
 aSome k fun p=>gPtr (Addr.add p 6) h fun x=>aSome x fun p_1=>gPtr (Addr.add p_1 3) h fun x_1=>bnd (C F_ref1_Space_All [.pointer x_1,.int .i64 env] h) fun r w=>aSl r fun x_2 xn xc=>cond ((xn : Int) == 0)
 (some (.pointer none,w))
 (nw (.cells Y_ref15_Commons false [.pointer k,.int .i64 env,.slice x_2 xn xc,.slice none 0 0]) w fun b w1=>some (.pointer (some ⟨b,0,none⟩),w1)) := by kernel_rfl
def C_kern_Kern_Space : Cuts := { globs := 0,loops := [],regs := [],plans := [] }
def T_kern_Kern_Space : List Item := bodyOf Tryz.f56
theorem e_kern_Kern_Space (k : Option Addr) (h : H) :
 exec PR C_kern_Kern_Space C R F_kern_Kern_Space Tryz.f56 100000 true T_kern_Kern_Space [(0,.pointer k)] h =
 aSome k fun p=>gPtr (Addr.add p 3) h fun x=>some (.pointer x,h) := by kernel_rfl
def C_caps_Space_Names : Cuts := { globs := 0,loops := [],regs := [],plans := [] }
def T_caps_Space_Names : List Item := bodyOf Tryz.f57
theorem e_caps_Space_Names (s : Option Addr) (env : Int) (h : H) :
 exec PR C_caps_Space_Names C R F_caps_Space_Names Tryz.f57 100000 true T_caps_Space_Names [(0,.pointer s),(1,.int .i64 env)] h =
 bnd (C F_caps_Space_is [.pointer s,.int .i64 env] h) fun r w=>aBool r fun x=>cond (!x)
 (some (.slice none 0 0,w))
 (aSome s fun p=>gSl (Addr.add p 0) w fun x_1 xn _=>aSome x_1 fun p_1=>ck ((0 : Int) ≤ env ∧ env < (xn : Int)) (gPtr (Addr.add (bare p_1) (Int.toNat env * 1)) w fun x_2=>bnd (C F_table_Table_api_Cap_Names [.pointer x_2] w) fun r_1 w1=>aSl r_1 fun x_3 xn_1 xc_1=>some (.slice x_3 xn_1 xc_1,w1))) := by kernel_rfl
def C_commons_Commons_most : Cuts := { globs := 0,loops := [],regs := [],plans := [] }
def T_commons_Commons_most : List Item := bodyOf Tryz.f63
theorem e_commons_Commons_most (c : Option Addr) (kind : Int) (h : H) :
 exec PR C_commons_Commons_most C R F_commons_Commons_most Tryz.f63 100000 true T_commons_Commons_most [(0,.pointer c),(1,.int .i64 kind)] h =
 cond (kind == 1)
 (some (.int .i64 8,h))
 (cond (kind == 2)
 (some (.int .i64 12,h))
 (cond (kind == 3)
 (aSome c fun p=>gSl (Addr.add p 2) h fun _ xn _=>some (.int .i64 (IntKind.wrap .i64 ((IntKind.wrap .i64 (4 + (xn : Int))) - 1)),h))
 (some (.int .i64 1,h)))) := by kernel_rfl
def C_kern_Kern_number : Cuts := { globs := 0,loops := [],regs := [],plans := [(3,⟨[0,1,2,3,4,5,6,7,8,9,10,11,12,13,14,15,16,17,18,19],[0,1,3,7,0,0,32,0,128,0,512,0,2048,0,8192,32767,65535,65535,262143,524287],[],[]⟩),(5,⟨[0,1,2,3,4,5,6,7,8,9,10,11],[0,1,3,7,0,0,32,127,255,255,1023,2047],[],[]⟩),(7,⟨[0,1,2,3,4,5,6,7,8,9,10,11,12,13,14,15],[0,1,3,7,0,16,48,112,0,496,1008,2047,4095,4095,16383,32767],[],[]⟩),(9,⟨[0,1,2,3,4,5,6,7,8,9,10,11,12,13,14,15],[0,1,3,7,0,16,48,112,0,496,1008,0,2048,8191,16383,32767],[],[]⟩)] }
def T_kern_Kern_number : List Item := bodyOf Tryz.f68
theorem e_kern_Kern_number (k : Option Addr) (env : Int) (c : List Value) (h : H) :
 exec PR C_kern_Kern_number C R F_kern_Kern_number Tryz.f68 100000 true T_kern_Kern_number [(0,.pointer k),(1,.int .i64 env),(2,.agg ⟨c⟩)] h =
 nw (.cells Y_api_Call false c) h fun b w=>gInt .i64 (Addr.add ⟨b,0,none⟩ 0) w fun x=>cond (x == 4)
 (aSome k fun p=>gPtr (Addr.add p 3) w fun x_1=>gInt .i64 (Addr.add ⟨b,0,none⟩ 1) w fun x_2=>gInt .i64 (Addr.add ⟨b,0,none⟩ 4) w fun x_3=>gInt .i64 (Addr.add ⟨b,0,none⟩ 5) w fun x_4=>gInt .i64 (Addr.add ⟨b,0,none⟩ 2) w fun x_5=>gInt .i64 (Addr.add ⟨b,0,none⟩ 3) w fun x_6=>bnd (C F_caps_Space_Grant [.pointer x_1,.int .i64 env,.int .i64 x_2,.int .i64 x_3,.int .i64 x_4,.int .i64 x_5,.int .i64 x_6] w) fun r w1=>as2 r fun r_1 r_2=>aInt .i64 r_1 fun x_7=>aInt .i64 r_2 fun x_8=>some (.tuple ⟨[.int .i64 x_7,.int .i64 x_8]⟩,w1))
 (cond (x == 5)
 (aSome k fun p_1=>gPtr (Addr.add p_1 3) w fun x_9=>gInt .i64 (Addr.add ⟨b,0,none⟩ 1) w fun x_10=>bnd (C F_caps_Space_Revoke [.pointer x_9,.int .i64 env,.int .i64 x_10] w) fun r_3 w2=>as2 r_3 fun r_4 r_5=>aInt .i64 r_4 fun x_11=>aInt .i64 r_5 fun x_12=>some (.tuple ⟨[.int .i64 x_11,.int .i64 x_12]⟩,w2))
 (cond (x == 6)
 (aSome k fun p_2=>gPtr (Addr.add p_2 4) w fun x_13=>aSome k fun p_3=>gSl (Addr.add p_3 0) w fun x_14 xn _=>aSome x_14 fun p_4=>ck ((0 : Int) ≤ env ∧ env < (xn : Int)) (gInt .i64 (Addr.add (bare p_4) (Int.toNat env * 1)) w fun x_15=>bnd (C F_quota_Quota_Alloc [.pointer x_13,.int .i64 x_15] w) fun r_6 w3=>as2 r_6 fun r_7 r_8=>aInt .i64 r_7 fun x_16=>aInt .i64 r_8 fun x_17=>some (.tuple ⟨[.int .i64 x_16,.int .i64 x_17]⟩,w3)))
 (cond (x == 7)
 (aSome k fun p_5=>gPtr (Addr.add p_5 4) w fun x_18=>aSome k fun p_6=>gSl (Addr.add p_6 0) w fun x_19 xn_1 _=>aSome x_19 fun p_7=>ck ((0 : Int) ≤ env ∧ env < (xn_1 : Int)) (gInt .i64 (Addr.add (bare p_7) (Int.toNat env * 1)) w fun x_20=>gInt .i64 (Addr.add ⟨b,0,none⟩ 3) w fun x_21=>bnd (C F_quota_Quota_Free [.pointer x_18,.int .i64 x_20,.int .i64 x_21] w) fun r_9 w4=>aInt .i64 r_9 fun x_22=>some (.tuple ⟨[.int .i64 0,.int .i64 x_22]⟩,w4)))
 (cond (x == 8)
 (gAgg ⟨b,0,none⟩ 7 w fun x_23=>bnd (C F_kern_Kern_enter [.pointer k,.int .i64 env,.agg ⟨x_23⟩] w) fun r_10 w5=>as2 r_10 fun r_11 r_12=>aInt .i64 r_11 fun x_24=>aInt .i64 r_12 fun x_25=>some (.tuple ⟨[.int .i64 x_24,.int .i64 x_25]⟩,w5))
 (cond (x == 9)
 (gAgg ⟨b,0,none⟩ 7 w fun x_26=>bnd (C F_kern_Kern_leave [.pointer k,.int .i64 env,.agg ⟨x_26⟩] w) fun r_13 w6=>aInt .i64 r_13 fun x_27=>some (.tuple ⟨[.int .i64 0,.int .i64 x_27]⟩,w6))
 (cond (x == 10)
 (aSome k fun p_8=>gInt .i64 (Addr.add p_8 7) w fun x_28=>some (.tuple ⟨[.int .i64 x_28,.int .i64 0]⟩,w))
 (some (.tuple ⟨[.int .i64 0,.int .i64 7]⟩,w)))))))) := by kernel_rfl
def C_mem_Mem_Load : Cuts := { globs := 0,loops := [],regs := [],plans := [] }
def T_mem_Mem_Load : List Item := bodyOf Tryz.f79
theorem e_mem_Mem_Load (m : Option Addr) (atv : Int) (n : Int) (h : H) :
 exec PR C_mem_Mem_Load C R F_mem_Mem_Load Tryz.f79 100000 true T_mem_Mem_Load [(0,.pointer m),(1,.int .i64 atv),(2,.int .i64 n)] h =
 bnd (C F_mem_Mem_in [.pointer m,.int .i64 atv,.int .i64 n] h) fun r w=>aBool r fun x=>cond (!x)
 (some (.tuple ⟨[.slice none 0 0,.int .i64 1]⟩,w))
 (aSome m fun p=>gSl (Addr.add p 0) w fun x_1 _ xc=>ckB (fitsOpen x_1 Y_uint8 w) (ck ((0 : Int) ≤ IntKind.wrap .i64 (atv + n) ∧ IntKind.wrap .i64 (atv + n) ≤ (xc : Int)) (ck ((0 : Int) ≤ atv ∧ atv ≤ ((Int.toNat (IntKind.wrap .i64 (atv + n)) : Nat) : Int)) (bnd (C F_slices_Clone_s_byte_byte [.slice (moved x_1 (decide (Int.toNat atv < xc)) ((Int.toNat atv) * 1)) ((Int.toNat (IntKind.wrap .i64 (atv + n))) - (Int.toNat atv)) (xc - (Int.toNat atv))] w) fun r_1 w1=>aSl r_1 fun x_2 xn_1 xc_1=>some (.tuple ⟨[.slice x_2 xn_1 xc_1,.int .i64 0]⟩,w1))))) := by kernel_rfl
def C_kern_check : Cuts := { globs := 0,loops := [(7,[1,3,52,53,54]),(13,[1,3,63,64,65])],regs := [],plans := [] }
def T_kern_check : List Item := bodyOf Tryz.f110
def T_kern_check_L1 : List Item := stk [0,1,0,1,0,1,0,1,0,0,1,4,5] T_kern_check
def T_kern_check_L2 : List Item := stk [0,1,0,1,0,1,0,1,0,1,0,0,1,4,5] T_kern_check
theorem e_kern_check (c : List Value) (h : H) :
 exec PR C_kern_check C R F_kern_check Tryz.f110 100000 true T_kern_check [(0,.agg ⟨c⟩)] h =
 nw (.cells Y_api_Boot false c) h fun b w=>gSl (Addr.add ⟨b,0,none⟩ 0) w fun _ xn _=>bnd (cond (decide ((xn : Int) < 1)) (some (true,w)) (gSl (Addr.add ⟨b,0,none⟩ 0) w fun _ xn_1 _=>some (decide ((xn_1 : Int) > 4),w))) fun c_1 w1=>bnd (cond c_1 (some (true,w1)) (gSl (Addr.add ⟨b,0,none⟩ 1) w1 fun _ xn_2 _=>some (decide ((xn_2 : Int) > 40),w1))) fun c_2 w2=>bnd (cond c_2 (some (true,w2)) (gSl (Addr.add ⟨b,0,none⟩ 2) w2 fun _ xn_3 _=>some (decide ((xn_3 : Int) > 8),w2))) fun c_3 w3=>bnd (cond c_3 (some (true,w3)) (gSl (Addr.add ⟨b,0,none⟩ 4) w3 fun _ xn_4 _=>some (decide ((xn_4 : Int) > 16),w3))) fun c_4 w4=>bnd (cond c_4 (some (true,w4)) (gInt .i64 (Addr.add ⟨b,0,none⟩ 3) w4 fun x_5=>some (decide (x_5 < 1),w4))) fun c_5 w5=>bnd (cond c_5 (some (true,w5)) (gInt .i64 (Addr.add ⟨b,0,none⟩ 3) w5 fun x_6=>some (decide (x_6 > 1000),w5))) fun c_6 w6=>cond c_6
 (some (.bool false,w6))
 (gSl (Addr.add ⟨b,0,none⟩ 1) w6 fun x_7 xn_5 xc_5=>bnd (C F_slices_ContainsFunc_s_int_int [.slice x_7 xn_5 xc_5,.func (.func F_kern_check_1) ⟨[]⟩ ⟨[.pointer (some ⟨b,0,none⟩)]⟩] w6) fun r w7=>aBool r fun x_8=>cond x_8
 (some (.bool false,w7))
 (gSl (Addr.add ⟨b,0,none⟩ 2) w7 fun x_9 xn_6 xc_6=>R F_kern_check T_kern_check_L1 [(1,.pointer (some ⟨b,0,none⟩)),(3,.func (.func F_kern_check_1) ⟨[]⟩ ⟨[.pointer (some ⟨b,0,none⟩)]⟩),(52,.slice x_9 xn_6 xc_6),(53,.int .i64 (xn_6 : Int)),(54,.int .i64 0)] w7)) := by kernel_rfl
theorem e_kern_check_L1 (c : Addr) (nonev : Addr) (x52 : Option Addr) (x52n x52c : Nat) (x53 : Int) (x54 : Int) (h : H) :
 exec PR C_kern_check C R F_kern_check Tryz.f110 100000 true T_kern_check_L1 [(1,.pointer (some c)),(3,.func (.func F_kern_check_1) ⟨[]⟩ ⟨[.pointer (some nonev)]⟩),(52,.slice x52 x52n x52c),(53,.int .i64 x53),(54,.int .i64 x54)] h =
 cond (decide (x54 < x53))
 (aSome x52 fun p=>ck ((0 : Int) ≤ x54 ∧ x54 < (x52n : Int)) (gSl (Addr.add (bare p) (Int.toNat x54 * 1)) h fun x xn xc=>bnd (C F_slices_ContainsFunc_s_int_int [.slice x xn xc,.func (.func F_kern_check_1) ⟨[]⟩ ⟨[.pointer (some nonev)]⟩] h) fun r w=>aBool r fun x_1=>cond x_1
 (some (.bool false,w))
 (R F_kern_check T_kern_check_L1 [(1,.pointer (some c)),(3,.func (.func F_kern_check_1) ⟨[]⟩ ⟨[.pointer (some nonev)]⟩),(52,.slice x52 x52n x52c),(53,.int .i64 x53),(54,.int .i64 (IntKind.wrap .i64 (x54 + 1)))] w)))
 (gSl (Addr.add c 4) h fun x_2 xn_1 xc_1=>R F_kern_check T_kern_check_L2 [(1,.pointer (some c)),(3,.func (.func F_kern_check_1) ⟨[]⟩ ⟨[.pointer (some nonev)]⟩),(63,.slice x_2 xn_1 xc_1),(64,.int .i64 (xn_1 : Int)),(65,.int .i64 0)] h) := by kernel_rfl
theorem e_kern_check_L2 (c : Addr) (nonev : Addr) (x63 : Option Addr) (x63n x63c : Nat) (x64 : Int) (x65 : Int) (h : H) :
 exec PR C_kern_check C R F_kern_check Tryz.f110 100000 true T_kern_check_L2 [(1,.pointer (some c)),(3,.func (.func F_kern_check_1) ⟨[]⟩ ⟨[.pointer (some nonev)]⟩),(63,.slice x63 x63n x63c),(64,.int .i64 x64),(65,.int .i64 x65)] h =
 cond (decide (x65 < x64))
 (aSome x63 fun p=>ck ((0 : Int) ≤ x65 ∧ x65 < (x63n : Int)) (gAgg (Addr.add (bare p) (Int.toNat x65 * 5)) 5 h fun x=>nw (.cells Y_api_Share false [.int .i64 0,.int .i64 0,.int .i64 0,.int .i64 0,.slice none 0 0]) h fun b w=>ck (List.length x = 5) (pAgg ⟨b,0,none⟩ x w fun w1=>gAgg c 5 w1 fun x_1=>gAgg ⟨b,0,none⟩ 5 w1 fun x_2=>bnd (C F_kern_share [.agg ⟨x_1⟩,.agg ⟨x_2⟩] w1) fun r w2=>aBool r fun x_3=>bnd (cond (!x_3) (some (true,w2)) (gSl (Addr.add ⟨b,0,none⟩ 4) w2 fun x_4 xn xc=>bnd (C F_slices_ContainsFunc_s_int_int [.slice x_4 xn xc,.func (.func F_kern_check_1) ⟨[]⟩ ⟨[.pointer (some nonev)]⟩] w2) fun r_1 w3=>aBool r_1 fun x_5=>some (x_5,w3))) fun c_1 w4=>cond c_1
 (some (.bool false,w4))
 (R F_kern_check T_kern_check_L2 [(1,.pointer (some c)),(3,.func (.func F_kern_check_1) ⟨[]⟩ ⟨[.pointer (some nonev)]⟩),(63,.slice x63 x63n x63c),(64,.int .i64 x64),(65,.int .i64 (IntKind.wrap .i64 (x65 + 1)))] w4))))
 (some (.bool true,h)) := by kernel_rfl
def C_ref1_NewQuota : Cuts := { globs := 0,loops := [(3,[0,3,4])],regs := [],plans := [(5,⟨[0,1,2,3,4,5,6,7,8,9,10,11,12,13,14,15,16],[0,0,2,6,14,0,0,96,224,480,992,2016,4064,8190,16383,32767,65535],[],[]⟩)] }
def T_ref1_NewQuota : List Item := bodyOf Tryz.f122
def T_ref1_NewQuota_L1 : List Item := stk [0,1,0,1,0,0,1,4,5] T_ref1_NewQuota
theorem e_ref1_NewQuota (l : Option Addr) (ln lc : Nat) (h : H) :
 exec PR C_ref1_NewQuota C R F_ref1_NewQuota Tryz.f122 100000 true T_ref1_NewQuota [(0,.slice l ln lc)] h =
 nw (.cells Y_ref1_Quota false [.slice none 0 0]) h fun b w=>R F_ref1_NewQuota T_ref1_NewQuota_L1 [(0,.slice l ln lc),(3,.pointer (some ⟨b,0,none⟩)),(4,.int .i64 0)] w := by kernel_rfl
theorem e_ref1_NewQuota_L1 (l : Option Addr) (ln lc : Nat) (q : Addr) (i : Int) (h : H) :
 exec PR C_ref1_NewQuota C R F_ref1_NewQuota Tryz.f122 100000 true T_ref1_NewQuota_L1 [(0,.slice l ln lc),(3,.pointer (some q)),(4,.int .i64 i)] h =
 bnd (cond (decide (i < (ln : Int))) (some (decide (i < 4),h)) (some (false,h))) fun c w=>cond c
 (gSl (Addr.add q 0) w fun x xn xc=>aSome l fun p=>ck ((0 : Int) ≤ i ∧ i < (ln : Int)) (gInt .i64 (Addr.add (bare p) (Int.toNat i * 1)) w fun x_1=>ck ((0 : Int) ≤ mm2 false (mm2 true x_1 0) 64 ∧ (mm2 false (mm2 true x_1 0) 64 : Int) ≤ mm2 false (mm2 true x_1 0) 64 ∧ mm2 false (mm2 true x_1 0) 64 ≤ (most : Int)) (nw (.cells Y_bool false (manyN (Int.toNat (mm2 false (mm2 true x_1 0) 64)) [.bool false])) w fun b w1=>nw (.cells Y_s_bool false [.slice (some ⟨b,0,none⟩) (Int.toNat (mm2 false (mm2 true x_1 0) 64)) (Int.toNat (mm2 false (mm2 true x_1 0) 64))]) w1 fun b_1 w2=>gCells (some ⟨b_1,0,none⟩) (1 * 1) w2 fun cs=>ckB (fitsOpen x Y_s_bool w2) (apd Y_s_bool 1 x xn xc 1 cs w2 fun a an ac w3=>pV (Addr.add q 0) (.slice a an ac) w3 fun w4=>R F_ref1_NewQuota T_ref1_NewQuota_L1 [(0,.slice l ln lc),(3,.pointer (some q)),(4,.int .i64 (IntKind.wrap .i64 (i + 1)))] w4))))
 (some (.pointer (some q),w)) := by kernel_rfl
def C_ref1_Regions_Add : Cuts := { globs := 0,loops := [],regs := [],plans := [(5,⟨[0,1,2,3,4,5,6,7,9,10,11,12,13,14,8,15,16,17,18,19,20,21],[0,0,0,4,12,28,0,64,252,0,512,1536,3584,0,8192,32764,65533,131069,262141,524287,1048575,2097151],[(8,[12])],[]⟩)] }
def T_ref1_Regions_Add : List Item := bodyOf Tryz.f126
theorem e_ref1_Regions_Add (r : Option Addr) (lo : Int) (n : Int) (h : H) :
 exec PR C_ref1_Regions_Add C R F_ref1_Regions_Add Tryz.f126 100000 true T_ref1_Regions_Add [(0,.pointer r),(1,.int .i64 lo),(2,.int .i64 n)] h =
 aSome r fun p=>gSl (Addr.add p 0) h fun _ xn _=>bnd (C F_ref1_Within [.int .i64 lo,.int .i64 n,.int .i64 (xn : Int)] h) fun r_1 w=>aBool r_1 fun x_1=>cond (!x_1)
 (some (.tuple ⟨[.int .i64 0,.int .i64 1]⟩,w))
 (aSome r fun p_1=>gSl (Addr.add p_1 1) w fun _ xn_1 _=>cond (decide ((xn_1 : Int) ≥ 32))
 (some (.tuple ⟨[.int .i64 0,.int .i64 4]⟩,w))
 (aSome r fun p_2=>gSl (Addr.add p_2 1) w fun x_3 xn_2 xc_2=>nw (.cells Y_int false [.int .i64 lo]) w fun b w1=>aSome r fun p_3=>gSl (Addr.add p_3 2) w1 fun x_4 xn_3 xc_3=>nw (.cells Y_int false [.int .i64 n]) w1 fun b_1 w2=>gCells (some ⟨b,0,none⟩) (1 * 1) w2 fun cs=>ckB (fitsOpen x_3 Y_int w2) (apd Y_int 1 x_3 xn_2 xc_2 1 cs w2 fun a an ac w3=>gSl (Addr.add p_3 2) w3 fun x_5 xn_4 xc_4=>same (.slice x_4 xn_3 xc_3) (.slice x_5 xn_4 xc_4) (gCells (some ⟨b_1,0,none⟩) (1 * 1) w3 fun cs_1=>ckB (fitsOpen x_4 Y_int w3) (apd Y_int 1 x_4 xn_3 xc_3 1 cs_1 w3 fun a_1 an_1 ac_1 w4=>aSome r fun p_4=>pV (Addr.add p_4 1) (.slice a an ac) w4 fun w5=>aSome r fun p_5=>pV (Addr.add p_5 2) (.slice a_1 an_1 ac_1) w5 fun w6=>aSome r fun p_6=>gSl (Addr.add p_6 1) w6 fun _ xn_5 _=>some (.tuple ⟨[.int .i64 (IntKind.wrap .i64 ((xn_5 : Int) - 1)),.int .i64 0]⟩,w6)))))) := by kernel_rfl
def C_ref1_Space_Put : Cuts := { globs := 0,loops := [],regs := [],plans := [] }
def T_ref1_Space_Put : List Item := bodyOf Tryz.f128
theorem e_ref1_Space_Put (s : Option Addr) (e : Int) (c : List Value) (h : H) :
 exec PR C_ref1_Space_Put C R F_ref1_Space_Put Tryz.f128 100000 true T_ref1_Space_Put [(0,.pointer s),(1,.int .i64 e),(2,.agg ⟨c⟩)] h =
 nw (.cells Y_api_Cap false c) h fun b w=>bnd (C F_ref1_Space_env [.pointer s,.int .i64 e] w) fun r w1=>aBool r fun x=>bnd (cond (!x) (some (true,w1)) (gInt .i64 (Addr.add ⟨b,0,none⟩ 1) w1 fun x_1=>some (decide (x_1 < 0),w1))) fun c_1 w2=>bnd (cond c_1 (some (true,w2)) (gInt .i64 (Addr.add ⟨b,0,none⟩ 1) w2 fun x_2=>some (decide (x_2 > 7),w2))) fun c_2 w3=>bnd (cond c_2 (some (true,w3)) (gInt .i64 (Addr.add ⟨b,0,none⟩ 2) w3 fun x_3=>some (decide (x_3 < 0),w3))) fun c_3 w4=>bnd (cond c_3 (some (true,w4)) (gInt .i64 (Addr.add ⟨b,0,none⟩ 2) w4 fun x_4=>some (decide (x_4 > 65536),w4))) fun c_4 w5=>bnd (cond c_4 (some (true,w5)) (gInt .i64 (Addr.add ⟨b,0,none⟩ 3) w5 fun x_5=>some (decide (x_5 < 0),w5))) fun c_5 w6=>bnd (cond c_5 (some (true,w6)) (gInt .i64 (Addr.add ⟨b,0,none⟩ 3) w6 fun x_6=>some (decide (x_6 > 65536),w6))) fun c_6 w7=>cond c_6
 (some (.tuple ⟨[.int .i64 0,.int .i64 1]⟩,w7))
 (pAgg (Addr.add ⟨b,0,none⟩ 4) [.int .i64 0,.int .i64 0] w7 fun w8=>gAgg ⟨b,0,none⟩ 6 w8 fun x_7=>bnd (C F_ref1_Space_add [.pointer s,.int .i64 e,.agg ⟨x_7⟩] w8) fun r_1 w9=>as2 r_1 fun r_2 r_3=>aInt .i64 r_2 fun x_8=>aInt .i64 r_3 fun x_9=>some (.tuple ⟨[.int .i64 x_8,.int .i64 x_9]⟩,w9)) := by kernel_rfl
def C_ref15_FrontBytes : Cuts := { globs := 0,loops := [],regs := [],plans := [] }
def T_ref15_FrontBytes : List Item := bodyOf Tryz.f129
theorem e_ref15_FrontBytes (g : Int) (h : H) :
 exec PR C_ref15_FrontBytes C R F_ref15_FrontBytes Tryz.f129 100000 true T_ref15_FrontBytes [(0,.int .i64 g)] h =
 nw (.cells Y_uint8 false [.int .u8 (IntKind.wrap .u8 (g)),.int .u8 211]) h fun b w=>gCells (some ⟨b,0,none⟩) 2 w fun cs=>asBytes cs fun l=>bnd (C F_ref1_Sum [.string (ByteArray.mk ⟨l⟩)] w) fun r w1=>aInt .u8 r fun x=>nw (.cells Y_uint8 false [.int .u8 x,.int .u8 0]) w1 fun b_1 w2=>gCells (some ⟨b_1,0,none⟩) 2 w2 fun cs_1=>asBytes cs_1 fun l_1=>ck (ByteArray.size (ByteArray.mk ⟨l⟩) + ByteArray.size (ByteArray.mk ⟨l_1⟩) ≤ most) (some (.string ((ByteArray.mk ⟨l⟩) ++ (ByteArray.mk ⟨l_1⟩)),w2)) := by kernel_rfl
def C_table_Table_api_Cap_Names : Cuts := { globs := 0,loops := [(3,[0,3,9,10,11])],regs := [],plans := [] }
def T_table_Table_api_Cap_Names : List Item := bodyOf Tryz.f142
def T_table_Table_api_Cap_Names_L1 : List Item := stk [0,1,0,1,0,0,1,4,5] T_table_Table_api_Cap_Names
theorem e_table_Table_api_Cap_Names (t : Option Addr) (h : H) :
 exec PR C_table_Table_api_Cap_Names C R F_table_Table_api_Cap_Names Tryz.f142 100000 true T_table_Table_api_Cap_Names [(0,.pointer t)] h =
 aSome t fun p=>gSl (Addr.add p 0) h fun x xn xc=>R F_table_Table_api_Cap_Names T_table_Table_api_Cap_Names_L1 [(0,.pointer t),(3,.slice none 0 0),(9,.slice x xn xc),(10,.int .i64 (xn : Int)),(11,.int .i64 0)] h := by kernel_rfl
theorem e_table_Table_api_Cap_Names_L1 (t : Option Addr) (out : Option Addr) (outn outc : Nat) (x9 : Option Addr) (x9n x9c : Nat) (x10 : Int) (x11 : Int) (h : H) :
 exec PR C_table_Table_api_Cap_Names C R F_table_Table_api_Cap_Names Tryz.f142 100000 true T_table_Table_api_Cap_Names_L1 [(0,.pointer t),(3,.slice out outn outc),(9,.slice x9 x9n x9c),(10,.int .i64 x10),(11,.int .i64 x11)] h =
 cond (decide (x11 < x10))
 (aSome x9 fun p=>ck ((0 : Int) ≤ x11 ∧ x11 < (x9n : Int)) (gAgg (Addr.add (bare p) (Int.toNat x11 * 8)) 8 h fun x=>nw (.cells Y_table_place_api_Cap false [.int .i64 0,.int .i64 0,.int .i64 0,.int .i64 0,.int .i64 0,.int .i64 0,.int .i64 0,.bool false]) h fun b w=>ck (List.length x = 8) (pAgg ⟨b,0,none⟩ x w fun w1=>gBool (Addr.add ⟨b,0,none⟩ 7) w1 fun x_1=>cond x_1
 (bnd (C F_table_Table_api_Cap_name [.pointer t,.int .i64 x11] w1) fun r w2=>aInt .i64 r fun x_2=>nw (.cells Y_int false [.int .i64 x_2]) w2 fun b_1 w3=>gCells (some ⟨b_1,0,none⟩) (1 * 1) w3 fun cs=>ckB (fitsOpen out Y_int w3) (apd Y_int 1 out outn outc 1 cs w3 fun a an ac w4=>R F_table_Table_api_Cap_Names T_table_Table_api_Cap_Names_L1 [(0,.pointer t),(3,.slice a an ac),(9,.slice x9 x9n x9c),(10,.int .i64 x10),(11,.int .i64 (IntKind.wrap .i64 (x11 + 1)))] w4))
 (R F_table_Table_api_Cap_Names T_table_Table_api_Cap_Names_L1 [(0,.pointer t),(3,.slice out outn outc),(9,.slice x9 x9n x9c),(10,.int .i64 x10),(11,.int .i64 (IntKind.wrap .i64 (x11 + 1)))] w1))))
 (some (.slice out outn outc,h)) := by kernel_rfl
def C_commons_Commons_place : Cuts := { globs := 0,loops := [],regs := [],plans := [] }
def T_commons_Commons_place : List Item := bodyOf Tryz.f145
theorem e_commons_Commons_place (c : Option Addr) (r : List Value) (h : H) :
 exec PR C_commons_Commons_place C R F_commons_Commons_place Tryz.f145 100000 true T_commons_Commons_place [(0,.pointer c),(1,.agg ⟨r⟩)] h =
 nw (.cells Y_api_Rec false r) h fun b w=>nw (.cells Y_commons_place false [.int .i64 0,.int .i64 0,.int .i64 0]) w fun b_1 w1=>gInt .i64 (Addr.add ⟨b,0,none⟩ 1) w1 fun x=>bnd (cond (decide (x < 0)) (some (true,w1)) (gInt .i64 (Addr.add ⟨b,0,none⟩ 0) w1 fun x_1=>bnd (C F_commons_Commons_most [.pointer c,.int .i64 x_1] w1) fun r_1 w2=>aInt .i64 r_1 fun x_2=>some (decide (x ≥ x_2),w2))) fun c_1 w3=>cond c_1
 (pAgg ⟨b_1,0,none⟩ [.int .i64 0,.int .i64 0,.int .i64 0] w3 fun w4=>gAgg ⟨b_1,0,none⟩ 3 w4 fun x_3=>some (.tuple ⟨[.agg ⟨x_3⟩,.bool false]⟩,w4))
 (aSome c fun p=>gSl (Addr.add p 2) w3 fun x_4 xn _=>aSome x_4 fun p_1=>ck ((0 : Int) ≤ 0 ∧ 0 < (xn : Int)) (gInt .i64 (Addr.add (bare p_1) (Int.toNat 0 * 1)) w3 fun x_5=>gInt .i64 (Addr.add ⟨b,0,none⟩ 0) w3 fun x_6=>cond (x_6 == 1)
 (pAgg ⟨b_1,0,none⟩ [.int .i64 x_5,.int .i64 (IntKind.wrap .i64 (24 * x)),.int .i64 24] w3 fun w5=>gAgg ⟨b_1,0,none⟩ 3 w5 fun x_7=>some (.tuple ⟨[.agg ⟨x_7⟩,.bool true]⟩,w5))
 (gInt .i64 (Addr.add ⟨b,0,none⟩ 0) w3 fun x_8=>cond (x_8 == 2)
 (pAgg ⟨b_1,0,none⟩ [.int .i64 x_5,.int .i64 (IntKind.wrap .i64 (192 + (IntKind.wrap .i64 (8 * x)))),.int .i64 8] w3 fun w6=>gAgg ⟨b_1,0,none⟩ 3 w6 fun x_9=>some (.tuple ⟨[.agg ⟨x_9⟩,.bool true]⟩,w6))
 (gInt .i64 (Addr.add ⟨b,0,none⟩ 0) w3 fun x_10=>bnd (cond (x_10 == 3) (some (decide (x < 4),w3)) (some (false,w3))) fun c_2 w7=>cond c_2
 (pAgg ⟨b_1,0,none⟩ [.int .i64 x_5,.int .i64 (IntKind.wrap .i64 (288 + (IntKind.wrap .i64 (40 * x)))),.int .i64 40] w7 fun w8=>gAgg ⟨b_1,0,none⟩ 3 w8 fun x_11=>some (.tuple ⟨[.agg ⟨x_11⟩,.bool true]⟩,w8))
 (gInt .i64 (Addr.add ⟨b,0,none⟩ 0) w7 fun x_12=>cond (x_12 == 3)
 (aSome c fun p_2=>gSl (Addr.add p_2 2) w7 fun x_13 xn_1 _=>aSome x_13 fun p_3=>ck ((0 : Int) ≤ IntKind.wrap .i64 ((IntKind.wrap .i64 (x - 4)) + 1) ∧ IntKind.wrap .i64 ((IntKind.wrap .i64 (x - 4)) + 1) < (xn_1 : Int)) (gInt .i64 (Addr.add (bare p_3) (Int.toNat (IntKind.wrap .i64 ((IntKind.wrap .i64 (x - 4)) + 1)) * 1)) w7 fun x_14=>pAgg ⟨b_1,0,none⟩ [.int .i64 x_14,.int .i64 0,.int .i64 40] w7 fun w9=>gAgg ⟨b_1,0,none⟩ 3 w9 fun x_15=>some (.tuple ⟨[.agg ⟨x_15⟩,.bool true]⟩,w9)))
 (gInt .i64 (Addr.add ⟨b,0,none⟩ 0) w7 fun x_16=>cond (x_16 == 4)
 (pAgg ⟨b_1,0,none⟩ [.int .i64 x_5,.int .i64 448,.int .i64 40] w7 fun w10=>gAgg ⟨b_1,0,none⟩ 3 w10 fun x_17=>some (.tuple ⟨[.agg ⟨x_17⟩,.bool true]⟩,w10))
 (pAgg ⟨b_1,0,none⟩ [.int .i64 x_5,.int .i64 488,.int .i64 4] w7 fun w11=>gAgg ⟨b_1,0,none⟩ 3 w11 fun x_18=>some (.tuple ⟨[.agg ⟨x_18⟩,.bool true]⟩,w11)))))))) := by kernel_rfl
def C_region_Regions_Read : Cuts := { globs := 0,loops := [],regs := [],plans := [] }
def T_region_Regions_Read : List Item := bodyOf Tryz.f149
theorem e_region_Regions_Read (r : Option Addr) (env : Int) (name : Int) (atv : Int) (n : Int) (h : H) :
 exec PR C_region_Regions_Read C R F_region_Regions_Read Tryz.f149 100000 true T_region_Regions_Read [(0,.pointer r),(1,.int .i64 env),(2,.int .i64 name),(3,.int .i64 atv),(4,.int .i64 n)] h =
 bnd (C F_region_Regions_place [.pointer r,.int .i64 env,.int .i64 name,.int .i64 1,.int .i64 atv,.int .i64 n] h) fun r_1 w=>as2 r_1 fun r_2 r_3=>aInt .i64 r_2 fun x=>aInt .i64 r_3 fun x_1=>cond (x_1 != 0)
 (some (.tuple ⟨[.slice none 0 0,.int .i64 x_1]⟩,w))
 (aSome r fun p=>gPtr (Addr.add p 0) w fun x_2=>bnd (C F_mem_Mem_Load [.pointer x_2,.int .i64 x,.int .i64 n] w) fun r_4 w1=>as2 r_4 fun r_5 r_6=>aSl r_5 fun x_3 xn xc=>aInt .i64 r_6 fun x_4=>some (.tuple ⟨[.slice x_3 xn xc,.int .i64 x_4]⟩,w1)) := by kernel_rfl
def C_quota_Quota_Alloc : Cuts := { globs := 0,loops := [],regs := [],plans := [] }
def T_quota_Quota_Alloc : List Item := bodyOf Tryz.f154
theorem e_quota_Quota_Alloc (q : Option Addr) (s : Int) (h : H) :
 exec PR C_quota_Quota_Alloc C R F_quota_Quota_Alloc Tryz.f154 100000 true T_quota_Quota_Alloc [(0,.pointer q),(1,.int .i64 s)] h =
 bnd (C F_quota_Quota_is [.pointer q,.int .i64 s] h) fun r w=>aBool r fun x=>cond (!x)
 (some (.tuple ⟨[.int .i64 0,.int .i64 1]⟩,w))
 (aSome q fun p=>gSl (Addr.add p 0) w fun x_1 xn _=>aSome x_1 fun p_1=>ck ((0 : Int) ≤ s ∧ s < (xn : Int)) (gSl (Addr.add (bare p_1) (Int.toNat s * 1)) w fun x_2 xn_1 xc_1=>bnd (C F_slices_Index_s_int_int [.slice x_2 xn_1 xc_1,.int .i64 0] w) fun r_1 w1=>aInt .i64 r_1 fun x_3=>cond (decide (x_3 < 0))
 (some (.tuple ⟨[.int .i64 0,.int .i64 4]⟩,w1))
 (aSome q fun p_2=>gSl (Addr.add p_2 0) w1 fun x_4 xn_2 _=>aSome x_4 fun p_3=>ck ((0 : Int) ≤ s ∧ s < (xn_2 : Int)) (gSl (Addr.add (bare p_3) (Int.toNat s * 1)) w1 fun x_5 xn_3 _=>aSome x_5 fun p_4=>ck ((0 : Int) ≤ x_3 ∧ x_3 < (xn_3 : Int)) (pV (Addr.add (bare p_4) (Int.toNat x_3 * 1)) (.int .i64 1) w1 fun w2=>some (.tuple ⟨[.int .i64 x_3,.int .i64 0]⟩,w2)))))) := by kernel_rfl
def C_kern_Kern_enter : Cuts := { globs := 0,loops := [],regs := [],plans := [] }
def T_kern_Kern_enter : List Item := bodyOf Tryz.f156
theorem e_kern_Kern_enter (k : Option Addr) (env : Int) (c : List Value) (h : H) :
 exec PR C_kern_Kern_enter C R F_kern_Kern_enter Tryz.f156 100000 true T_kern_Kern_enter [(0,.pointer k),(1,.int .i64 env),(2,.agg ⟨c⟩)] h =
 nw (.cells Y_api_Call false c) h fun b w=>gInt .i64 (Addr.add ⟨b,0,none⟩ 3) w fun x=>bnd (C F_kern_Kern_sect [.pointer k,.int .i64 env,.int .i64 x] w) fun r w1=>as2 r fun r_1 r_2=>aPtr r_1 fun x_1=>aInt .i64 r_2 fun x_2=>cond (x_2 != 0)
 (some (.tuple ⟨[.int .i64 0,.int .i64 x_2]⟩,w1))
 (aSome k fun p=>gInt .i64 (Addr.add p 7) w1 fun x_3=>bnd (C F_sect_Sect_Enter [.pointer x_1,.int .i64 env,.int .i64 x_3] w1) fun r_3 w2=>as2 r_3 fun r_4 r_5=>aInt .i64 r_4 fun x_4=>aBool r_5 fun _=>some (.tuple ⟨[.int .i64 x_4,.int .i64 0]⟩,w2)) := by kernel_rfl
def C_kern_Kern_leave : Cuts := { globs := 0,loops := [],regs := [],plans := [] }
def T_kern_Kern_leave : List Item := bodyOf Tryz.f157
theorem e_kern_Kern_leave (k : Option Addr) (env : Int) (c : List Value) (h : H) :
 exec PR C_kern_Kern_leave C R F_kern_Kern_leave Tryz.f157 100000 true T_kern_Kern_leave [(0,.pointer k),(1,.int .i64 env),(2,.agg ⟨c⟩)] h =
 nw (.cells Y_api_Call false c) h fun b w=>gInt .i64 (Addr.add ⟨b,0,none⟩ 3) w fun x=>bnd (C F_kern_Kern_sect [.pointer k,.int .i64 env,.int .i64 x] w) fun r w1=>as2 r fun r_1 r_2=>aPtr r_1 fun x_1=>aInt .i64 r_2 fun x_2=>bnd (cond (x_2 == 0) (gInt .i64 (Addr.add ⟨b,0,none⟩ 2) w1 fun x_3=>bnd (C F_sect_Sect_Leave [.pointer x_1,.int .i64 env,.int .i64 x_3] w1) fun r_3 w2=>aBool r_3 fun x_4=>some (!x_4,w2)) (some (false,w1))) fun c_1 w3=>cond c_1
 (some (.int .i64 8,w3))
 (some (.int .i64 x_2,w3)) := by kernel_rfl
def C_pslot_Codec : Cuts := { globs := 0,loops := [],regs := [],plans := [] }
def T_pslot_Codec : List Item := bodyOf Tryz.f158
theorem e_pslot_Codec  (h : H) :
 exec PR C_pslot_Codec C R F_pslot_Codec Tryz.f158 100000 true T_pslot_Codec [] h =
 bnd (C F_codec_New_api_Proc [.int .i64 24,.func (.func F_pslot_put) ⟨[]⟩ ⟨[]⟩,.func (.func F_pslot_get) ⟨[]⟩ ⟨[]⟩] h) fun r w=>aPtr r fun x=>some (.pointer x,w) := by kernel_rfl
def C_codec_Codec_api_Proc_Decode : Cuts := { globs := 0,loops := [],regs := [],plans := [(4,⟨[0,1,2,3,4,10,5,6,7,8,9,11,12],[0,1,3,7,0,16,63,127,255,255,0,1535,4095],[(5,[3])],[]⟩)] }
def T_codec_Codec_api_Proc_Decode : List Item := bodyOf Tryz.f159
theorem e_codec_Codec_api_Proc_Decode (c : Option Addr) (b : Option Addr) (bn bc : Nat) (h : H) :
 exec PR C_codec_Codec_api_Proc_Decode C R F_codec_Codec_api_Proc_Decode Tryz.f159 100000 true T_codec_Codec_api_Proc_Decode [(0,.pointer c),(1,.slice b bn bc)] h =
 nw (.cells Y_api_Proc false [.int .i64 0,.int .i64 0,.int .i64 0,.int .i64 0,.int .i64 0,.int .i64 0,.int .i64 0,.int .i64 0,.int .i64 0,.int .i64 0,.int .i64 0,.int .i64 0,.int .i64 0,.int .i64 0,.int .i64 0,.int .i64 0]) h fun b_1 w=>nw (.cells Y_api_Proc false [.int .i64 0,.int .i64 0,.int .i64 0,.int .i64 0,.int .i64 0,.int .i64 0,.int .i64 0,.int .i64 0,.int .i64 0,.int .i64 0,.int .i64 0,.int .i64 0,.int .i64 0,.int .i64 0,.int .i64 0,.int .i64 0]) w fun b_2 w1=>aSome c fun p=>gFv (Addr.add p 2) w1 fun x=>isNilF x fun b_3=>bnd (cond b_3 (some (true,w1)) (aSome c fun p_1=>gInt .i64 (Addr.add p_1 0) w1 fun x_1=>some ((bn : Int) != x_1,w1))) fun c_1 w2=>cond c_1
 (gAgg ⟨b_2,0,none⟩ 16 w2 fun x_2=>ck (List.length x_2 = 16) (pAgg ⟨b_1,0,none⟩ x_2 w2 fun w3=>gAgg ⟨b_1,0,none⟩ 16 w3 fun x_3=>some (.tuple ⟨[.agg ⟨x_3⟩,.bool false]⟩,w3)))
 (aSome c fun p_2=>gFv (Addr.add p_2 2) w2 fun x_4=>nw (.cells Y_api_Proc false [.int .i64 0,.int .i64 0,.int .i64 0,.int .i64 0,.int .i64 0,.int .i64 0,.int .i64 0,.int .i64 0,.int .i64 0,.int .i64 0,.int .i64 0,.int .i64 0,.int .i64 0,.int .i64 0,.int .i64 0,.int .i64 0]) w2 fun b_4 w4=>bnd (C F_slices_Clone_s_byte_byte [.slice b bn bc] w4) fun r w5=>aSl r fun x_5 xn xc=>gFv (Addr.add p_2 2) w5 fun x_6=>sameU (x_4) (x_6) (aFn x_4 fun g fi cp=>bnd (C g (fi ++ ([.slice x_5 xn xc] ++ cp)) w5) fun r_1 w6=>as2 r_1 fun r_2 r_3=>aAgg r_2 fun x_7=>aBool r_3 fun x_8=>ck (List.length x_7 = 16) (pAgg ⟨b_4,0,none⟩ x_7 w6 fun w7=>cond (!x_8)
 (gAgg ⟨b_2,0,none⟩ 16 w7 fun x_9=>ck (List.length x_9 = 16) (pAgg ⟨b_1,0,none⟩ x_9 w7 fun w8=>gAgg ⟨b_1,0,none⟩ 16 w8 fun x_10=>some (.tuple ⟨[.agg ⟨x_10⟩,.bool false]⟩,w8)))
 (gAgg ⟨b_4,0,none⟩ 16 w7 fun x_11=>ck (List.length x_11 = 16) (pAgg ⟨b_1,0,none⟩ x_11 w7 fun w9=>gAgg ⟨b_1,0,none⟩ 16 w9 fun x_12=>some (.tuple ⟨[.agg ⟨x_12⟩,.bool true]⟩,w9)))))) := by kernel_rfl
def C_codec_Sum : Cuts := { globs := 0,loops := [(3,[3,9,10,11])],regs := [],plans := [] }
def T_codec_Sum : List Item := bodyOf Tryz.f163
def T_codec_Sum_L1 : List Item := stk [0,1,0,1,0,0,1,4,5] T_codec_Sum
theorem e_codec_Sum (b : Option Addr) (bn bc : Nat) (h : H) :
 exec PR C_codec_Sum C R F_codec_Sum Tryz.f163 100000 true T_codec_Sum [(0,.slice b bn bc)] h =
 R F_codec_Sum T_codec_Sum_L1 [(3,.int .u8 (IntKind.wrap .u8 ((bn : Int)))),(9,.slice b bn bc),(10,.int .i64 (bn : Int)),(11,.int .i64 0)] h := by kernel_rfl
theorem e_codec_Sum_L1 (n : Int) (x9 : Option Addr) (x9n x9c : Nat) (x10 : Int) (x11 : Int) (h : H) :
 exec PR C_codec_Sum C R F_codec_Sum Tryz.f163 100000 true T_codec_Sum_L1 [(3,.int .u8 n),(9,.slice x9 x9n x9c),(10,.int .i64 x10),(11,.int .i64 x11)] h =
 cond (decide (x11 < x10))
 (aSome x9 fun p=>ck ((0 : Int) ≤ x11 ∧ x11 < (x9n : Int)) (gInt .u8 (Addr.add (bare p) (Int.toNat x11 * 1)) h fun x=>R F_codec_Sum T_codec_Sum_L1 [(3,.int .u8 (IntKind.wrap .u8 (n + x))),(9,.slice x9 x9n x9c),(10,.int .i64 x10),(11,.int .i64 (IntKind.wrap .i64 (x11 + 1)))] h))
 (some (.int .u8 n,h)) := by kernel_rfl
def C_kern_check_1 : Cuts := { globs := 0,loops := [],regs := [],plans := [] }
def T_kern_check_1 : List Item := bodyOf Tryz.f174
theorem e_kern_check_1 (s : Int) (fv0 : Addr) (h : H) :
 exec PR C_kern_check_1 C R F_kern_check_1 Tryz.f174 100000 true T_kern_check_1 [(0,.int .i64 s),(1,.pointer (some fv0))] h =
 bnd (cond (decide (s < 0)) (some (true,h)) (gSl (Addr.add fv0 0) h fun _ xn _=>some (decide (s ≥ (xn : Int)),h))) fun c w=>some (.bool c,w) := by kernel_rfl
def C_slices_ContainsFunc_s_int_int : Cuts := { globs := 0,loops := [],regs := [],plans := [] }
def T_slices_ContainsFunc_s_int_int : List Item := bodyOf Tryz.f175
theorem e_slices_ContainsFunc_s_int_int (s : Option Addr) (sn sc : Nat) (f : Value) (h : H) :
 exec PR C_slices_ContainsFunc_s_int_int C R F_slices_ContainsFunc_s_int_int Tryz.f175 100000 true T_slices_ContainsFunc_s_int_int [(0,.slice s sn sc),(1,f)] h =
 bnd (C F_slices_IndexFunc_s_int_int [.slice s sn sc,f] h) fun r w=>aInt .i64 r fun x=>some (.bool (decide (x ≥ 0)),w) := by kernel_rfl
def C_ref1_NewNames : Cuts := { globs := 0,loops := [(3,[0,3,4])],regs := [],plans := [] }
def T_ref1_NewNames : List Item := bodyOf Tryz.f182
def T_ref1_NewNames_L1 : List Item := stk [0,1,0,1,0,0,1,4,5] T_ref1_NewNames
theorem e_ref1_NewNames (size : Int) (h : H) :
 exec PR C_ref1_NewNames C R F_ref1_NewNames Tryz.f182 100000 true T_ref1_NewNames [(0,.int .i64 size)] h =
 nw (.cells Y_ref1_Names false [.slice none 0 0]) h fun b w=>R F_ref1_NewNames T_ref1_NewNames_L1 [(0,.int .i64 size),(3,.pointer (some ⟨b,0,none⟩)),(4,.int .i64 0)] w := by kernel_rfl
theorem e_ref1_NewNames_L1 (size : Int) (n : Addr) (i : Int) (h : H) :
 exec PR C_ref1_NewNames C R F_ref1_NewNames Tryz.f182 100000 true T_ref1_NewNames_L1 [(0,.int .i64 size),(3,.pointer (some n)),(4,.int .i64 i)] h =
 bnd (cond (decide (i < size)) (some (decide (i < 256),h)) (some (false,h))) fun c w=>cond c
 (gSl (Addr.add n 0) w fun x xn xc=>nw (.cells Y_ref1_place false [.int .i64 1,.bool false]) w fun b w1=>gCells (some ⟨b,0,none⟩) (1 * 2) w1 fun cs=>ckB (fitsOpen x Y_ref1_place w1) (apd Y_ref1_place 2 x xn xc 1 cs w1 fun a an ac w2=>pV (Addr.add n 0) (.slice a an ac) w2 fun w3=>R F_ref1_NewNames T_ref1_NewNames_L1 [(0,.int .i64 size),(3,.pointer (some n)),(4,.int .i64 (IntKind.wrap .i64 (i + 1)))] w3))
 (some (.pointer (some n),w)) := by kernel_rfl
def C_ref1_Space_add : Cuts := { globs := 0,loops := [],regs := [],plans := [(4,⟨[0,1,2,3,4,5,6,7,8,9,10,11],[0,1,3,7,0,31,63,0,128,0,1023,2047],[],[]⟩)] }
def T_ref1_Space_add : List Item := bodyOf Tryz.f185
theorem e_ref1_Space_add (s : Option Addr) (e : Int) (c : List Value) (h : H) :
 exec PR C_ref1_Space_add C R F_ref1_Space_add Tryz.f185 100000 true T_ref1_Space_add [(0,.pointer s),(1,.int .i64 e),(2,.agg ⟨c⟩)] h =
 nw (.cells Y_api_Cap false c) h fun b w=>aSome s fun p=>gSl (Addr.add p 0) w fun x xn _=>aSome x fun p_1=>ck ((0 : Int) ≤ e ∧ e < (xn : Int)) (gPtr (Addr.add (bare p_1) (Int.toNat e * 1)) w fun x_1=>bnd (C F_ref1_Names_Add [.pointer x_1] w) fun r w1=>as2 r fun r_1 r_2=>aInt .i64 r_1 fun x_2=>aBool r_2 fun x_3=>cond (!x_3)
 (some (.tuple ⟨[.int .i64 0,.int .i64 4]⟩,w1))
 (aSome s fun p_2=>gSl (Addr.add p_2 1) w1 fun x_4 xn_1 _=>aSome x_4 fun p_3=>ck ((0 : Int) ≤ e ∧ e < (xn_1 : Int)) (gSl (Addr.add (bare p_3) (Int.toNat e * 1)) w1 fun x_5 xn_2 _=>gAgg ⟨b,0,none⟩ 6 w1 fun x_6=>aSome x_5 fun p_4=>ck ((0 : Int) ≤ bitA .i64 x_2 255 ∧ bitA .i64 x_2 255 < (xn_2 : Int)) (ck (List.length x_6 = 6) (pAgg (Addr.add (bare p_4) (Int.toNat (bitA .i64 x_2 255) * 6)) x_6 w1 fun w2=>some (.tuple ⟨[.int .i64 x_2,.int .i64 0]⟩,w2)))))) := by kernel_rfl
def C_region_Regions_place : Cuts := { globs := 0,loops := [],regs := [],plans := [(6,⟨[0,1,2,3,4,5,6,7,8,9,10,11,12,13,14,15,16,17,18,19,20,21,22,23,24,25,26,27,28,29,30,31,32,33,34,35],[0,1,3,7,15,31,63,127,127,383,1023,2047,4095,8191,8191,24575,8191,122879,262143,524287,1048575,2097151,4194303,8388607,16777215,33554431,67108863,134217727,67108863,335544319,872415231,1946157055,4093640703,8589934591,17179869183,34359738367],[],[]⟩),(8,⟨[0,1,2,3,4,5,6,7,8,9],[0,1,3,7,0,16,63,127,0,511],[],[]⟩)] }
def T_region_Regions_place : List Item := bodyOf Tryz.f201
theorem e_region_Regions_place (r : Option Addr) (env : Int) (name : Int) (right : Int) (atv : Int) (n : Int) (h : H) :
 exec PR C_region_Regions_place C R F_region_Regions_place Tryz.f201 100000 true T_region_Regions_place [(0,.pointer r),(1,.int .i64 env),(2,.int .i64 name),(3,.int .i64 right),(4,.int .i64 atv),(5,.int .i64 n)] h =
 aSome r fun p=>gPtr (Addr.add p 1) h fun x=>bnd (C F_caps_Space_Get [.pointer x,.int .i64 env,.int .i64 name] h) fun r_1 w=>as2 r_1 fun r_2 r_3=>aAgg r_2 fun x_1=>aInt .i64 r_3 fun x_2=>nw (.cells Y_api_Cap false [.int .i64 0,.int .i64 0,.int .i64 0,.int .i64 0,.int .i64 0,.int .i64 0]) w fun b w1=>ck (List.length x_1 = 6) (pAgg ⟨b,0,none⟩ x_1 w1 fun w2=>cond (x_2 != 0)
 (some (.tuple ⟨[.int .i64 0,.int .i64 x_2]⟩,w2))
 (gInt .i64 (Addr.add ⟨b,0,none⟩ 1) w2 fun x_3=>cond ((bitA .i64 x_3 right) == 0)
 (some (.tuple ⟨[.int .i64 0,.int .i64 3]⟩,w2))
 (bnd (cond (decide (atv < 0)) (some (true,w2)) (some (decide (n < 0),w2))) fun c w3=>bnd (cond c (some (true,w3)) (gInt .i64 (Addr.add ⟨b,0,none⟩ 3) w3 fun x_4=>some (decide (atv > x_4),w3))) fun c_1 w4=>bnd (cond c_1 (some (true,w4)) (gInt .i64 (Addr.add ⟨b,0,none⟩ 3) w4 fun x_5=>some (decide (n > (IntKind.wrap .i64 (x_5 - atv))),w4))) fun c_2 w5=>bnd (cond c_2 (some (true,w5)) (gInt .i64 (Addr.add ⟨b,0,none⟩ 0) w5 fun x_6=>some (decide (x_6 < 0),w5))) fun c_3 w6=>bnd (cond c_3 (some (true,w6)) (gInt .i64 (Addr.add ⟨b,0,none⟩ 0) w6 fun x_7=>aSome r fun p_1=>gSl (Addr.add p_1 2) w6 fun _ xn _=>some (decide (x_7 ≥ (xn : Int)),w6))) fun c_4 w7=>cond c_4
 (some (.tuple ⟨[.int .i64 0,.int .i64 1]⟩,w7))
 (aSome r fun p_2=>gSl (Addr.add p_2 2) w7 fun x_9 xn_1 _=>gInt .i64 (Addr.add ⟨b,0,none⟩ 0) w7 fun x_10=>aSome x_9 fun p_3=>ck ((0 : Int) ≤ x_10 ∧ x_10 < (xn_1 : Int)) (gAgg (Addr.add (bare p_3) (Int.toNat x_10 * 2)) 2 w7 fun x_11=>nw (.cells Y_region_span false [.int .i64 0,.int .i64 0]) w7 fun b_1 w8=>ck (List.length x_11 = 2) (pAgg ⟨b_1,0,none⟩ x_11 w8 fun w9=>gInt .i64 (Addr.add ⟨b,0,none⟩ 2) w9 fun x_12=>gInt .i64 (Addr.add ⟨b_1,0,none⟩ 1) w9 fun x_13=>bnd (cond (decide ((IntKind.wrap .i64 (x_12 + atv)) > x_13)) (some (true,w9)) (gInt .i64 (Addr.add ⟨b_1,0,none⟩ 1) w9 fun x_14=>gInt .i64 (Addr.add ⟨b,0,none⟩ 2) w9 fun x_15=>some (decide (n > (IntKind.wrap .i64 ((IntKind.wrap .i64 (x_14 - x_15)) - atv))),w9))) fun c_5 w10=>cond c_5
 (some (.tuple ⟨[.int .i64 0,.int .i64 1]⟩,w10))
 (gInt .i64 (Addr.add ⟨b_1,0,none⟩ 0) w10 fun x_16=>gInt .i64 (Addr.add ⟨b,0,none⟩ 2) w10 fun x_17=>some (.tuple ⟨[.int .i64 (IntKind.wrap .i64 ((IntKind.wrap .i64 (x_16 + x_17)) + atv)),.int .i64 0]⟩,w10)))))))) := by kernel_rfl
def C_quota_Quota_Owns : Cuts := { globs := 0,loops := [],regs := [],plans := [] }
def T_quota_Quota_Owns : List Item := bodyOf Tryz.f207
theorem e_quota_Quota_Owns (q : Option Addr) (s : Int) (k : Int) (h : H) :
 exec PR C_quota_Quota_Owns C R F_quota_Quota_Owns Tryz.f207 100000 true T_quota_Quota_Owns [(0,.pointer q),(1,.int .i64 s),(2,.int .i64 k)] h =
 bnd (C F_quota_Quota_is [.pointer q,.int .i64 s] h) fun r w=>aBool r fun x=>bnd (cond x (some (decide (k ≥ 0),w)) (some (false,w))) fun c w1=>bnd (cond c (aSome q fun p=>gSl (Addr.add p 0) w1 fun x_1 xn _=>aSome x_1 fun p_1=>ck ((0 : Int) ≤ s ∧ s < (xn : Int)) (gSl (Addr.add (bare p_1) (Int.toNat s * 1)) w1 fun _ xn_1 _=>some (decide (k < (xn_1 : Int)),w1))) (some (false,w1))) fun c_1 w2=>bnd (cond c_1 (aSome q fun p_2=>gSl (Addr.add p_2 0) w2 fun x_3 xn_2 _=>aSome x_3 fun p_3=>ck ((0 : Int) ≤ s ∧ s < (xn_2 : Int)) (gSl (Addr.add (bare p_3) (Int.toNat s * 1)) w2 fun x_4 xn_3 _=>aSome x_4 fun p_4=>ck ((0 : Int) ≤ k ∧ k < (xn_3 : Int)) (gInt .i64 (Addr.add (bare p_4) (Int.toNat k * 1)) w2 fun x_5=>some (decide (x_5 > 0),w2)))) (some (false,w2))) fun c_2 w3=>some (.bool c_2,w3) := by kernel_rfl
def C_codec_Get2 : Cuts := { globs := 0,loops := [],regs := [],plans := [(3,⟨[0,1,2,3,4,5,6,7,8,9,10,11,12,13,14],[0,0,3,7,15,31,0,0,128,448,960,1984,4095,8191,16383],[],[]⟩)] }
def T_codec_Get2 : List Item := bodyOf Tryz.f233
theorem e_codec_Get2 (b : Option Addr) (bn bc : Nat) (atv : Int) (h : H) :
 exec PR C_codec_Get2 C R F_codec_Get2 Tryz.f233 100000 true T_codec_Get2 [(0,.slice b bn bc),(1,.int .i64 atv)] h =
 bnd (cond (decide (atv < 0)) (some (true,h)) (some (decide (atv > (IntKind.wrap .i64 ((bn : Int) - 2))),h))) fun c w=>cond c
 (some (.tuple ⟨[.int .i64 0,.bool false]⟩,w))
 (aSome b fun p=>ck ((0 : Int) ≤ atv ∧ atv < (bn : Int)) (gInt .u8 (Addr.add (bare p) (Int.toNat atv * 1)) w fun x=>aSome b fun p_1=>ck ((0 : Int) ≤ IntKind.wrap .i64 (atv + 1) ∧ IntKind.wrap .i64 (atv + 1) < (bn : Int)) (gInt .u8 (Addr.add (bare p_1) (Int.toNat (IntKind.wrap .i64 (atv + 1)) * 1)) w fun x_1=>some (.tuple ⟨[.int .i64 (bitO .i64 (IntKind.wrap .i64 ((IntKind.wrap .i64 (x)) * 2 ^ 8)) (IntKind.wrap .i64 (x_1))),.bool true]⟩,w)))) := by kernel_rfl
end
end Go.EQ

set_option maxRecDepth 100000
namespace Go.EQ
open Go Go.NN Go.Proofs
variable (C : CallFn) (R : RunFn)
noncomputable section
def C_law15_awake : Cuts := { globs := 0,loops := [],regs := [],plans := [] }
def T_law15_awake : List Item := bodyOf Tryz.f12
theorem e_law15_awake  (h : H) :
 exec PR C_law15_awake C R F_law15_awake Tryz.f12 100000 true T_law15_awake [] h =
 bnd (C F_law15_Plan [] h) fun r w=>aAgg r fun x=>bnd (C F_law15_Open [.agg ⟨x⟩] w) fun r_1 w1=>as4 r_1 fun r_2 r_3 r_4 r_5=>aPtr r_2 fun _=>aPtr r_3 fun x_2=>aPtr r_4 fun _=>aPtr r_5 fun _=>cond x_2.isNone
 (some (.bool false,w1))
 (bnd (C F_commons_Commons_Proc [.pointer x_2,.int .i64 0] w1) fun r_6 w2=>as2 r_6 fun r_7 r_8=>aAgg r_7 fun x_5=>aInt .i64 r_8 fun x_6=>nw (.cells Y_api_Proc false [.int .i64 0,.int .i64 0,.int .i64 0,.int .i64 0,.int .i64 0,.int .i64 0,.int .i64 0,.int .i64 0,.int .i64 0,.int .i64 0,.int .i64 0,.int .i64 0,.int .i64 0,.int .i64 0,.int .i64 0,.int .i64 0]) w2 fun b w3=>ck (List.length x_5 = 16) (pAgg ⟨b,0,none⟩ x_5 w3 fun w4=>bnd (C F_commons_Commons_Term [.pointer x_2] w4) fun r_9 w5=>as2 r_9 fun r_10 r_11=>aAgg r_10 fun x_7=>aInt .i64 r_11 fun x_8=>nw (.cells Y_api_Pipe false [.int .i64 0,.int .i64 0,.int .i64 0,.int .i64 0,.int .u8 0,.int .u8 0,.int .u8 0,.int .u8 0,.int .u8 0,.int .u8 0,.int .u8 0,.int .u8 0,.int .u8 0,.int .u8 0,.int .u8 0,.int .u8 0,.int .u8 0,.int .u8 0,.int .u8 0,.int .u8 0,.int .u8 0,.int .u8 0,.int .u8 0,.int .u8 0,.int .u8 0,.int .u8 0,.int .u8 0,.int .u8 0,.int .u8 0,.int .u8 0,.int .u8 0,.int .u8 0,.int .u8 0,.int .u8 0,.int .u8 0,.int .u8 0]) w5 fun b_1 w6=>ck (List.length x_7 = 36) (pAgg ⟨b_1,0,none⟩ x_7 w6 fun w7=>bnd (C F_commons_Commons_Front [.pointer x_2] w7) fun r_12 w8=>as2 r_12 fun r_13 r_14=>aInt .i64 r_13 fun x_9=>aBool r_14 fun x_10=>bnd (C F_commons_New [.pointer none,.int .i64 0] w8) fun r_15 w9=>as2 r_15 fun r_16 r_17=>aPtr r_16 fun _=>aInt .i64 r_17 fun x_12=>bnd (cond (x_6 == 0) (some (x_8 == 1,w9)) (some (false,w9))) fun c w10=>bnd (cond c (some (x_9 == 0,w10)) (some (false,w10))) fun c_1 w11=>bnd (cond c_1 (some (x_10,w11)) (some (false,w11))) fun c_2 w12=>bnd (cond c_2 (some (x_12 == 1,w12)) (some (false,w12))) fun c_3 w13=>bnd (cond c_3 (bnd (C F_commons_Commons_Bad [.pointer x_2] w13) fun r_18 w14=>aSl r_18 fun _ xn _=>some ((xn : Int) == 0,w14)) (some (false,w13))) fun c_4 w15=>bnd (cond c_4 (bnd (C F_commons_Commons_View [.pointer x_2] w15) fun r_19 w16=>aSl r_19 fun _ xn_1 _=>some ((xn_1 : Int) == 492,w16)) (some (false,w15))) fun c_5 w17=>some (.bool c_5,w17)))) := by kernel_rfl
def C_commons_New : Cuts := { globs := 0,loops := [],regs := [],plans := [] }
def T_commons_New : List Item := bodyOf Tryz.f15
theorem e_commons_New (k : Option Addr) (env : Int) (h : H) :
 exec PR C_commons_New C R F_commons_New Tryz.f15 100000 true T_commons_New [(0,.pointer k),(1,.int .i64 env)] h =
 bnd (cond k.isNone (some (true,h)) (bnd (C F_kern_Kern_Space [.pointer k] h) fun r w=>aPtr r fun x=>bnd (C F_caps_Space_Names [.pointer x,.int .i64 env] w) fun r_1 w1=>aSl r_1 fun _ xn _=>some ((xn : Int) == 0,w1))) fun c w2=>cond c
 (some (.tuple ⟨[.pointer none,.int .i64 1]⟩,w2))
 (bnd (C F_kern_Kern_Space [.pointer k] w2) fun r_2 w3=>aPtr r_2 fun x_2=>bnd (C F_caps_Space_Names [.pointer x_2,.int .i64 env] w3) fun r_3 w4=>aSl r_3 fun x_3 xn_1 xc_1=>nw (.map [] 0) w4 fun b w5=>nw (.cells Y_commons_Commons false [.pointer k,.int .i64 env,.slice x_3 xn_1 xc_1,.map (some b)]) w5 fun b_1 w6=>some (.tuple ⟨[.pointer (some ⟨b_1,0,none⟩),.int .i64 0]⟩,w6)) := by kernel_rfl
def C_kern_Kern_Do : Cuts := { globs := 0,loops := [],regs := [],plans := [] }
def T_kern_Kern_Do : List Item := bodyOf Tryz.f22
theorem e_kern_Kern_Do (k : Option Addr) (env : Int) (c : List Value) (h : H) :
 exec PR C_kern_Kern_Do C R F_kern_Kern_Do Tryz.f22 100000 true T_kern_Kern_Do [(0,.pointer k),(1,.int .i64 env),(2,.agg ⟨c⟩)] h =
 nw (.cells Y_api_Call false c) h fun b w=>nw (.cells Y_api_Answer false [.int .i64 0,.int .i64 0,.slice none 0 0]) w fun b_1 w1=>bnd (cond (decide (env < 0)) (some (true,w1)) (aSome k fun p=>gSl (Addr.add p 0) w1 fun _ xn _=>some (decide (env ≥ (xn : Int)),w1))) fun c_1 w2=>cond c_1
 (pAgg ⟨b_1,0,none⟩ [.int .i64 1,.int .i64 0,.slice none 0 0] w2 fun w3=>gAgg ⟨b_1,0,none⟩ 3 w3 fun x_1=>some (.agg ⟨x_1⟩,w3))
 (gAgg ⟨b,0,none⟩ 7 w2 fun x_2=>bnd (C F_kern_Kern_bytes [.pointer k,.int .i64 env,.agg ⟨x_2⟩] w2) fun r w4=>as3 r fun r_1 r_2 r_3=>aSl r_1 fun x_3 xn_1 xc_1=>aInt .i64 r_2 fun x_4=>aBool r_3 fun x_5=>cond x_5
 (pAgg ⟨b_1,0,none⟩ [.int .i64 x_4,.int .i64 0,.slice x_3 xn_1 xc_1] w4 fun w5=>gAgg ⟨b_1,0,none⟩ 3 w5 fun x_6=>some (.agg ⟨x_6⟩,w5))
 (gAgg ⟨b,0,none⟩ 7 w4 fun x_7=>bnd (C F_kern_Kern_number [.pointer k,.int .i64 env,.agg ⟨x_7⟩] w4) fun r_4 w6=>as2 r_4 fun r_5 r_6=>aInt .i64 r_5 fun x_8=>aInt .i64 r_6 fun x_9=>pAgg ⟨b_1,0,none⟩ [.int .i64 x_9,.int .i64 x_8,.slice none 0 0] w6 fun w7=>gAgg ⟨b_1,0,none⟩ 3 w7 fun x_10=>some (.agg ⟨x_10⟩,w7))) := by kernel_rfl
def C_commons_Commons_Proc : Cuts := { globs := 0,loops := [],regs := [],plans := [] }
def T_commons_Commons_Proc : List Item := bodyOf Tryz.f23
theorem e_commons_Commons_Proc (c : Option Addr) (i : Int) (h : H) :
 exec PR C_commons_Commons_Proc C R F_commons_Commons_Proc Tryz.f23 100000 true T_commons_Commons_Proc [(0,.pointer c),(1,.int .i64 i)] h =
 nw (.cells Y_api_Proc false [.int .i64 0,.int .i64 0,.int .i64 0,.int .i64 0,.int .i64 0,.int .i64 0,.int .i64 0,.int .i64 0,.int .i64 0,.int .i64 0,.int .i64 0,.int .i64 0,.int .i64 0,.int .i64 0,.int .i64 0,.int .i64 0]) h fun b w=>bnd (C F_commons_proc [.int .i64 i] w) fun r w1=>aAgg r fun x=>bnd (C F_commons_record_api_Proc [.pointer c,.agg ⟨x⟩,.func (.func F_pslot_Decode) ⟨[]⟩ ⟨[]⟩] w1) fun r_1 w2=>as2 r_1 fun r_2 r_3=>aAgg r_2 fun x_1=>aInt .i64 r_3 fun x_2=>ck (List.length x_1 = 16) (pAgg ⟨b,0,none⟩ x_1 w2 fun w3=>gAgg ⟨b,0,none⟩ 16 w3 fun x_3=>some (.tuple ⟨[.agg ⟨x_3⟩,.int .i64 x_2]⟩,w3)) := by kernel_rfl
def C_commons_Commons_SetProc : Cuts := { globs := 0,loops := [],regs := [],plans := [] }
def T_commons_Commons_SetProc : List Item := bodyOf Tryz.f24
theorem e_commons_Commons_SetProc (c : Option Addr) (i : Int) (p : List Value) (h : H) :
 exec PR C_commons_Commons_SetProc C R F_commons_Commons_SetProc Tryz.f24 100000 true T_commons_Commons_SetProc [(0,.pointer c),(1,.int .i64 i),(2,.agg ⟨p⟩)] h =
 nw (.cells Y_api_Proc false p) h fun b w=>gAgg ⟨b,0,none⟩ 16 w fun x=>bnd (C F_pslot_Encode [.agg ⟨x⟩] w) fun r w1=>as2 r fun r_1 r_2=>aSl r_1 fun x_1 xn xc=>aBool r_2 fun x_2=>bnd (C F_commons_proc [.int .i64 i] w1) fun r_3 w2=>aAgg r_3 fun x_3=>bnd (C F_commons_Commons_write [.pointer c,.agg ⟨x_3⟩,.slice x_1 xn xc,.bool x_2] w2) fun r_4 w3=>aBool r_4 fun x_4=>some (.bool x_4,w3) := by kernel_rfl
def C_ref15_Blank : Cuts := { globs := 0,loops := [],regs := [],plans := [(1,⟨[0,1,2,3,4,5,6,7],[0,1,0,4,15,12,63,127],[(3,[1]),(5,[1])],[]⟩)] }
def T_ref15_Blank : List Item := bodyOf Tryz.f53
theorem e_ref15_Blank  (h : H) :
 exec PR C_ref15_Blank C R F_ref15_Blank Tryz.f53 100000 true T_ref15_Blank [] h =
 ck ((0 : Int) ≤ 448 ∧ (448 : Int) ≤ 448 ∧ 448 ≤ (most : Int)) (nw (.cells Y_uint8 false (manyN (Int.toNat 448) [.int .u8 0])) h fun b w=>gCells (some ⟨b,0,none⟩) (Int.toNat 448) w fun cs=>asBytes cs fun l=>bnd (C F_ref11_PipeBytes [.agg ⟨[.int .i64 0,.int .i64 0,.int .i64 1,.int .i64 1,.int .u8 0,.int .u8 0,.int .u8 0,.int .u8 0,.int .u8 0,.int .u8 0,.int .u8 0,.int .u8 0,.int .u8 0,.int .u8 0,.int .u8 0,.int .u8 0,.int .u8 0,.int .u8 0,.int .u8 0,.int .u8 0,.int .u8 0,.int .u8 0,.int .u8 0,.int .u8 0,.int .u8 0,.int .u8 0,.int .u8 0,.int .u8 0,.int .u8 0,.int .u8 0,.int .u8 0,.int .u8 0,.int .u8 0,.int .u8 0,.int .u8 0,.int .u8 0]⟩] w) fun r w1=>aStr r fun x=>gCells (some ⟨b,0,none⟩) (Int.toNat 448) w1 fun cs_1=>asBytes cs_1 fun l_1=>same (.string (ByteArray.mk ⟨l⟩)) (.string (ByteArray.mk ⟨l_1⟩)) (ck (ByteArray.size (ByteArray.mk ⟨l⟩) + ByteArray.size x ≤ most) (bnd (C F_ref15_FrontBytes [.int .i64 0] w1) fun r_1 w2=>aStr r_1 fun x_1=>gCells (some ⟨b,0,none⟩) (Int.toNat 448) w2 fun cs_2=>asBytes cs_2 fun l_2=>same (.string (ByteArray.mk ⟨l⟩)) (.string (ByteArray.mk ⟨l_2⟩)) (ck (ByteArray.size ((ByteArray.mk ⟨l⟩) ++ x) + ByteArray.size x_1 ≤ most) (some (.string (((ByteArray.mk ⟨l⟩) ++ x) ++ x_1),w2)))))) := by kernel_rfl
def C_commons_record_api_Pipe : Cuts := { globs := 0,loops := [],regs := [(8,[6,8,11,12])],plans := [(7,⟨[0,1,2,3,4,5,6,7,8,9],[0,1,3,7,0,31,63,31,159,511],[(7,[5])],[]⟩)] }
def T_commons_record_api_Pipe : List Item := bodyOf Tryz.f61
def T_commons_record_api_Pipe_R1 : List Item := stk [0,1,0,1,0,1,0,1,0,1,0,1,0,0] T_commons_record_api_Pipe
theorem e_commons_record_api_Pipe (c : Option Addr) (r : List Value) (decode : Value) (h : H) :
 exec PR C_commons_record_api_Pipe C R F_commons_record_api_Pipe Tryz.f61 100000 true T_commons_record_api_Pipe [(0,.pointer c),(1,.agg ⟨r⟩),(2,decode)] h =
 nw (.cells Y_api_Rec false r) h fun b w=>nw (.cells Y_api_Pipe false [.int .i64 0,.int .i64 0,.int .i64 0,.int .i64 0,.int .u8 0,.int .u8 0,.int .u8 0,.int .u8 0,.int .u8 0,.int .u8 0,.int .u8 0,.int .u8 0,.int .u8 0,.int .u8 0,.int .u8 0,.int .u8 0,.int .u8 0,.int .u8 0,.int .u8 0,.int .u8 0,.int .u8 0,.int .u8 0,.int .u8 0,.int .u8 0,.int .u8 0,.int .u8 0,.int .u8 0,.int .u8 0,.int .u8 0,.int .u8 0,.int .u8 0,.int .u8 0,.int .u8 0,.int .u8 0,.int .u8 0,.int .u8 0]) w fun b_1 w1=>nw (.cells Y_api_Pipe false [.int .i64 0,.int .i64 0,.int .i64 0,.int .i64 0,.int .u8 0,.int .u8 0,.int .u8 0,.int .u8 0,.int .u8 0,.int .u8 0,.int .u8 0,.int .u8 0,.int .u8 0,.int .u8 0,.int .u8 0,.int .u8 0,.int .u8 0,.int .u8 0,.int .u8 0,.int .u8 0,.int .u8 0,.int .u8 0,.int .u8 0,.int .u8 0,.int .u8 0,.int .u8 0,.int .u8 0,.int .u8 0,.int .u8 0,.int .u8 0,.int .u8 0,.int .u8 0,.int .u8 0,.int .u8 0,.int .u8 0,.int .u8 0]) w1 fun b_2 w2=>gAgg ⟨b,0,none⟩ 2 w2 fun x=>bnd (C F_commons_Commons_read [.pointer c,.agg ⟨x⟩] w2) fun r_1 w3=>as2 r_1 fun r_2 r_3=>aSl r_2 fun x_1 xn xc=>aBool r_3 fun x_2=>cond (!x_2)
 (gAgg ⟨b_2,0,none⟩ 36 w3 fun x_3=>ck (List.length x_3 = 36) (pAgg ⟨b_1,0,none⟩ x_3 w3 fun w4=>gAgg ⟨b_1,0,none⟩ 36 w4 fun x_4=>some (.tuple ⟨[.agg ⟨x_4⟩,.int .i64 2]⟩,w4)))
 (aFn decode fun g fi cp=>bnd (C g (fi ++ ([.slice x_1 xn xc] ++ cp)) w3) fun r_4 w5=>as2 r_4 fun r_5 r_6=>aAgg r_5 fun x_5=>aInt .i64 r_6 fun x_6=>nw (.cells Y_api_Pipe false [.int .i64 0,.int .i64 0,.int .i64 0,.int .i64 0,.int .u8 0,.int .u8 0,.int .u8 0,.int .u8 0,.int .u8 0,.int .u8 0,.int .u8 0,.int .u8 0,.int .u8 0,.int .u8 0,.int .u8 0,.int .u8 0,.int .u8 0,.int .u8 0,.int .u8 0,.int .u8 0,.int .u8 0,.int .u8 0,.int .u8 0,.int .u8 0,.int .u8 0,.int .u8 0,.int .u8 0,.int .u8 0,.int .u8 0,.int .u8 0,.int .u8 0,.int .u8 0,.int .u8 0,.int .u8 0,.int .u8 0,.int .u8 0]) w5 fun b_3 w6=>ck (List.length x_5 = 36) (pAgg ⟨b_3,0,none⟩ x_5 w6 fun w7=>cond (x_6 == 2)
 (aSome c fun p=>gMap (Addr.add p 3) w7 fun x_7=>gAgg ⟨b,0,none⟩ 2 w7 fun x_8=>keyN PR Y_api_Rec (.agg ⟨x_8⟩) (opt x_7 fun r_7=>mapAt w7 r_7 fun es _=>opt (lookM (.int .i64 0) (.agg ⟨x_8⟩) es) fun f=>aInt .i64 f.1 fun x_9=>keyN PR Y_api_Rec (.agg ⟨x_8⟩) (opt x_7 fun r_8=>mapAt w7 r_8 fun es_1 cl_1=>opt (entM (.int .i64 0) (.agg ⟨x_8⟩) es_1 cl_1) fun f_1=>aInt .i64 f_1.1 fun _=>lt (H.set w7 r_8 f_1.2.2) fun w8=>keyN PR Y_api_Rec (.agg ⟨x_8⟩) (opt x_7 fun r_9=>mapAt w8 r_9 fun es_2 _=>opt (lookM (.int .i64 0) (.agg ⟨x_8⟩) es_2) fun f_2=>aInt .i64 f_2.1 fun x_11=>same (.int .i64 x_9) (.int .i64 x_11) (opt x_7 fun r_10=>mapAt w8 r_10 fun es_3 cl_3=>opt (bornN (f_1.2.1 : Int) es_3 0) fun i=>lt (H.set w8 r_10 (.map (modN (fun e=>{ e with val := .int .i64 (IntKind.wrap .i64 (x_9 + 1)) }) i es_3) cl_3)) fun w9=>R F_commons_record_api_Pipe T_commons_record_api_Pipe_R1 [(6,.pointer (some ⟨b_1,0,none⟩)),(8,.pointer (some ⟨b_2,0,none⟩)),(11,.pointer (some ⟨b_3,0,none⟩)),(12,.int .i64 x_6)] w9)))))
 (R F_commons_record_api_Pipe T_commons_record_api_Pipe_R1 [(6,.pointer (some ⟨b_1,0,none⟩)),(8,.pointer (some ⟨b_2,0,none⟩)),(11,.pointer (some ⟨b_3,0,none⟩)),(12,.int .i64 x_6)] w7))) := by kernel_rfl
theorem e_commons_record_api_Pipe_R1 (x6 : Addr) (nonev : Addr) (v : Addr) (isv : Int) (h : H) :
 exec PR C_commons_record_api_Pipe C R F_commons_record_api_Pipe Tryz.f61 100000 true T_commons_record_api_Pipe_R1 [(6,.pointer (some x6)),(8,.pointer (some nonev)),(11,.pointer (some v)),(12,.int .i64 isv)] h =
 cond (isv != 1)
 (gAgg nonev 36 h fun x=>ck (List.length x = 36) (pAgg x6 x h fun w=>gAgg x6 36 w fun x_1=>some (.tuple ⟨[.agg ⟨x_1⟩,.int .i64 isv]⟩,w)))
 (gAgg v 36 h fun x_2=>ck (List.length x_2 = 36) (pAgg x6 x_2 h fun w1=>gAgg x6 36 w1 fun x_3=>some (.tuple ⟨[.agg ⟨x_3⟩,.int .i64 isv]⟩,w1))) := by kernel_rfl
def C_ring_Decode : Cuts := { globs := 0,loops := [],regs := [],plans := [] }
def T_ring_Decode : List Item := bodyOf Tryz.f62
theorem e_ring_Decode (b : Option Addr) (bn bc : Nat) (h : H) :
 exec PR C_ring_Decode C R F_ring_Decode Tryz.f62 100000 true T_ring_Decode [(0,.slice b bn bc)] h =
 nw (.cells Y_api_Pipe false [.int .i64 0,.int .i64 0,.int .i64 0,.int .i64 0,.int .u8 0,.int .u8 0,.int .u8 0,.int .u8 0,.int .u8 0,.int .u8 0,.int .u8 0,.int .u8 0,.int .u8 0,.int .u8 0,.int .u8 0,.int .u8 0,.int .u8 0,.int .u8 0,.int .u8 0,.int .u8 0,.int .u8 0,.int .u8 0,.int .u8 0,.int .u8 0,.int .u8 0,.int .u8 0,.int .u8 0,.int .u8 0,.int .u8 0,.int .u8 0,.int .u8 0,.int .u8 0,.int .u8 0,.int .u8 0,.int .u8 0,.int .u8 0]) h fun b_1 w=>bnd (cond ((bn : Int) == 40) (bnd (C F_codec_Blank [.slice b bn bc] w) fun r w1=>aBool r fun x=>some (x,w1)) (some (false,w))) fun c w2=>cond c
 (pAgg ⟨b_1,0,none⟩ [.int .i64 0,.int .i64 0,.int .i64 0,.int .i64 0,.int .u8 0,.int .u8 0,.int .u8 0,.int .u8 0,.int .u8 0,.int .u8 0,.int .u8 0,.int .u8 0,.int .u8 0,.int .u8 0,.int .u8 0,.int .u8 0,.int .u8 0,.int .u8 0,.int .u8 0,.int .u8 0,.int .u8 0,.int .u8 0,.int .u8 0,.int .u8 0,.int .u8 0,.int .u8 0,.int .u8 0,.int .u8 0,.int .u8 0,.int .u8 0,.int .u8 0,.int .u8 0,.int .u8 0,.int .u8 0,.int .u8 0,.int .u8 0] w2 fun w3=>gAgg ⟨b_1,0,none⟩ 36 w3 fun x_1=>some (.tuple ⟨[.agg ⟨x_1⟩,.int .i64 0]⟩,w3))
 (bnd (C F_ring_Codec [] w2) fun r_1 w4=>aPtr r_1 fun x_2=>bnd (C F_codec_Codec_api_Pipe_Decode [.pointer x_2,.slice b bn bc] w4) fun r_2 w5=>as2 r_2 fun r_3 r_4=>aAgg r_3 fun x_3=>aBool r_4 fun x_4=>nw (.cells Y_api_Pipe false [.int .i64 0,.int .i64 0,.int .i64 0,.int .i64 0,.int .u8 0,.int .u8 0,.int .u8 0,.int .u8 0,.int .u8 0,.int .u8 0,.int .u8 0,.int .u8 0,.int .u8 0,.int .u8 0,.int .u8 0,.int .u8 0,.int .u8 0,.int .u8 0,.int .u8 0,.int .u8 0,.int .u8 0,.int .u8 0,.int .u8 0,.int .u8 0,.int .u8 0,.int .u8 0,.int .u8 0,.int .u8 0,.int .u8 0,.int .u8 0,.int .u8 0,.int .u8 0,.int .u8 0,.int .u8 0,.int .u8 0,.int .u8 0]) w5 fun b_2 w6=>ck (List.length x_3 = 36) (pAgg ⟨b_2,0,none⟩ x_3 w6 fun w7=>cond (!x_4)
 (pAgg ⟨b_1,0,none⟩ [.int .i64 0,.int .i64 0,.int .i64 0,.int .i64 0,.int .u8 0,.int .u8 0,.int .u8 0,.int .u8 0,.int .u8 0,.int .u8 0,.int .u8 0,.int .u8 0,.int .u8 0,.int .u8 0,.int .u8 0,.int .u8 0,.int .u8 0,.int .u8 0,.int .u8 0,.int .u8 0,.int .u8 0,.int .u8 0,.int .u8 0,.int .u8 0,.int .u8 0,.int .u8 0,.int .u8 0,.int .u8 0,.int .u8 0,.int .u8 0,.int .u8 0,.int .u8 0,.int .u8 0,.int .u8 0,.int .u8 0,.int .u8 0] w7 fun w8=>gAgg ⟨b_1,0,none⟩ 36 w8 fun x_5=>some (.tuple ⟨[.agg ⟨x_5⟩,.int .i64 2]⟩,w8))
 (gAgg ⟨b_2,0,none⟩ 36 w7 fun x_6=>ck (List.length x_6 = 36) (pAgg ⟨b_1,0,none⟩ x_6 w7 fun w9=>gAgg ⟨b_1,0,none⟩ 36 w9 fun x_7=>some (.tuple ⟨[.agg ⟨x_7⟩,.int .i64 1]⟩,w9))))) := by kernel_rfl
def C_kern_Kern_bytes : Cuts := { globs := 0,loops := [],regs := [],plans := [(4,⟨[0,1,2,3,4,5,6,7,8,9,10,11,12,13,14,15,16],[0,1,3,7,0,0,32,0,128,0,512,2047,4095,8191,8191,16383,65535],[],[]⟩),(6,⟨[0,1,2,3,4,5,6,7,8,9,10,11,12],[0,1,3,7,0,0,32,0,128,0,512,2047,4095],[],[]⟩),(8,⟨[0,1,2,3,4,5,6,7,8,9,10,11,12,13,14,15,16],[0,1,3,7,0,0,32,0,128,0,512,0,2048,0,8192,32767,65535],[],[]⟩)] }
def T_kern_Kern_bytes : List Item := bodyOf Tryz.f67
theorem e_kern_Kern_bytes (k : Option Addr) (env : Int) (c : List Value) (h : H) :
 exec PR C_kern_Kern_bytes C R F_kern_Kern_bytes Tryz.f67 100000 true T_kern_Kern_bytes [(0,.pointer k),(1,.int .i64 env),(2,.agg ⟨c⟩)] h =
 nw (.cells Y_api_Call false c) h fun b w=>gInt .i64 (Addr.add ⟨b,0,none⟩ 0) w fun x=>cond (x == 1)
 (aSome k fun p=>gPtr (Addr.add p 5) w fun x_1=>gInt .i64 (Addr.add ⟨b,0,none⟩ 1) w fun x_2=>gInt .i64 (Addr.add ⟨b,0,none⟩ 2) w fun x_3=>gInt .i64 (Addr.add ⟨b,0,none⟩ 3) w fun x_4=>bnd (C F_region_Regions_Read [.pointer x_1,.int .i64 env,.int .i64 x_2,.int .i64 x_3,.int .i64 x_4] w) fun r w1=>as2 r fun r_1 r_2=>aSl r_1 fun x_5 xn xc=>aInt .i64 r_2 fun x_6=>some (.tuple ⟨[.slice x_5 xn xc,.int .i64 x_6,.bool true]⟩,w1))
 (cond (x == 2)
 (aSome k fun p_1=>gPtr (Addr.add p_1 5) w fun x_7=>gInt .i64 (Addr.add ⟨b,0,none⟩ 1) w fun x_8=>gInt .i64 (Addr.add ⟨b,0,none⟩ 2) w fun x_9=>gSl (Addr.add ⟨b,0,none⟩ 6) w fun x_10 xn_1 xc_1=>bnd (C F_region_Regions_Write [.pointer x_7,.int .i64 env,.int .i64 x_8,.int .i64 x_9,.slice x_10 xn_1 xc_1] w) fun r_3 w2=>aInt .i64 r_3 fun x_11=>some (.tuple ⟨[.slice none 0 0,.int .i64 x_11,.bool true]⟩,w2))
 (cond (x == 3)
 (aSome k fun p_2=>gPtr (Addr.add p_2 5) w fun x_12=>gInt .i64 (Addr.add ⟨b,0,none⟩ 1) w fun x_13=>gInt .i64 (Addr.add ⟨b,0,none⟩ 2) w fun x_14=>gInt .i64 (Addr.add ⟨b,0,none⟩ 4) w fun x_15=>gInt .i64 (Addr.add ⟨b,0,none⟩ 5) w fun x_16=>gInt .i64 (Addr.add ⟨b,0,none⟩ 3) w fun x_17=>bnd (C F_region_Regions_Copy [.pointer x_12,.int .i64 env,.int .i64 x_13,.int .i64 x_14,.int .i64 x_15,.int .i64 x_16,.int .i64 x_17] w) fun r_4 w3=>aInt .i64 r_4 fun x_18=>some (.tuple ⟨[.slice none 0 0,.int .i64 x_18,.bool true]⟩,w3))
 (some (.tuple ⟨[.slice none 0 0,.int .i64 0,.bool false]⟩,w)))) := by kernel_rfl
def C_commons_record_api_Proc : Cuts := { globs := 0,loops := [],regs := [(8,[6,8,11,12])],plans := [(7,⟨[0,1,2,3,4,5,6,7,8,9],[0,1,3,7,0,31,63,31,159,511],[(7,[5])],[]⟩)] }
def T_commons_record_api_Proc : List Item := bodyOf Tryz.f69
def T_commons_record_api_Proc_R1 : List Item := stk [0,1,0,1,0,1,0,1,0,1,0,1,0,0] T_commons_record_api_Proc
theorem e_commons_record_api_Proc (c : Option Addr) (r : List Value) (decode : Value) (h : H) :
 exec PR C_commons_record_api_Proc C R F_commons_record_api_Proc Tryz.f69 100000 true T_commons_record_api_Proc [(0,.pointer c),(1,.agg ⟨r⟩),(2,decode)] h =
 nw (.cells Y_api_Rec false r) h fun b w=>nw (.cells Y_api_Proc false [.int .i64 0,.int .i64 0,.int .i64 0,.int .i64 0,.int .i64 0,.int .i64 0,.int .i64 0,.int .i64 0,.int .i64 0,.int .i64 0,.int .i64 0,.int .i64 0,.int .i64 0,.int .i64 0,.int .i64 0,.int .i64 0]) w fun b_1 w1=>nw (.cells Y_api_Proc false [.int .i64 0,.int .i64 0,.int .i64 0,.int .i64 0,.int .i64 0,.int .i64 0,.int .i64 0,.int .i64 0,.int .i64 0,.int .i64 0,.int .i64 0,.int .i64 0,.int .i64 0,.int .i64 0,.int .i64 0,.int .i64 0]) w1 fun b_2 w2=>gAgg ⟨b,0,none⟩ 2 w2 fun x=>bnd (C F_commons_Commons_read [.pointer c,.agg ⟨x⟩] w2) fun r_1 w3=>as2 r_1 fun r_2 r_3=>aSl r_2 fun x_1 xn xc=>aBool r_3 fun x_2=>cond (!x_2)
 (gAgg ⟨b_2,0,none⟩ 16 w3 fun x_3=>ck (List.length x_3 = 16) (pAgg ⟨b_1,0,none⟩ x_3 w3 fun w4=>gAgg ⟨b_1,0,none⟩ 16 w4 fun x_4=>some (.tuple ⟨[.agg ⟨x_4⟩,.int .i64 2]⟩,w4)))
 (aFn decode fun g fi cp=>bnd (C g (fi ++ ([.slice x_1 xn xc] ++ cp)) w3) fun r_4 w5=>as2 r_4 fun r_5 r_6=>aAgg r_5 fun x_5=>aInt .i64 r_6 fun x_6=>nw (.cells Y_api_Proc false [.int .i64 0,.int .i64 0,.int .i64 0,.int .i64 0,.int .i64 0,.int .i64 0,.int .i64 0,.int .i64 0,.int .i64 0,.int .i64 0,.int .i64 0,.int .i64 0,.int .i64 0,.int .i64 0,.int .i64 0,.int .i64 0]) w5 fun b_3 w6=>ck (List.length x_5 = 16) (pAgg ⟨b_3,0,none⟩ x_5 w6 fun w7=>cond (x_6 == 2)
 (aSome c fun p=>gMap (Addr.add p 3) w7 fun x_7=>gAgg ⟨b,0,none⟩ 2 w7 fun x_8=>keyN PR Y_api_Rec (.agg ⟨x_8⟩) (opt x_7 fun r_7=>mapAt w7 r_7 fun es _=>opt (lookM (.int .i64 0) (.agg ⟨x_8⟩) es) fun f=>aInt .i64 f.1 fun x_9=>keyN PR Y_api_Rec (.agg ⟨x_8⟩) (opt x_7 fun r_8=>mapAt w7 r_8 fun es_1 cl_1=>opt (entM (.int .i64 0) (.agg ⟨x_8⟩) es_1 cl_1) fun f_1=>aInt .i64 f_1.1 fun _=>lt (H.set w7 r_8 f_1.2.2) fun w8=>keyN PR Y_api_Rec (.agg ⟨x_8⟩) (opt x_7 fun r_9=>mapAt w8 r_9 fun es_2 _=>opt (lookM (.int .i64 0) (.agg ⟨x_8⟩) es_2) fun f_2=>aInt .i64 f_2.1 fun x_11=>same (.int .i64 x_9) (.int .i64 x_11) (opt x_7 fun r_10=>mapAt w8 r_10 fun es_3 cl_3=>opt (bornN (f_1.2.1 : Int) es_3 0) fun i=>lt (H.set w8 r_10 (.map (modN (fun e=>{ e with val := .int .i64 (IntKind.wrap .i64 (x_9 + 1)) }) i es_3) cl_3)) fun w9=>R F_commons_record_api_Proc T_commons_record_api_Proc_R1 [(6,.pointer (some ⟨b_1,0,none⟩)),(8,.pointer (some ⟨b_2,0,none⟩)),(11,.pointer (some ⟨b_3,0,none⟩)),(12,.int .i64 x_6)] w9)))))
 (R F_commons_record_api_Proc T_commons_record_api_Proc_R1 [(6,.pointer (some ⟨b_1,0,none⟩)),(8,.pointer (some ⟨b_2,0,none⟩)),(11,.pointer (some ⟨b_3,0,none⟩)),(12,.int .i64 x_6)] w7))) := by kernel_rfl
theorem e_commons_record_api_Proc_R1 (x6 : Addr) (nonev : Addr) (v : Addr) (isv : Int) (h : H) :
 exec PR C_commons_record_api_Proc C R F_commons_record_api_Proc Tryz.f69 100000 true T_commons_record_api_Proc_R1 [(6,.pointer (some x6)),(8,.pointer (some nonev)),(11,.pointer (some v)),(12,.int .i64 isv)] h =
 cond (isv != 1)
 (gAgg nonev 16 h fun x=>ck (List.length x = 16) (pAgg x6 x h fun w=>gAgg x6 16 w fun x_1=>some (.tuple ⟨[.agg ⟨x_1⟩,.int .i64 isv]⟩,w)))
 (gAgg v 16 h fun x_2=>ck (List.length x_2 = 16) (pAgg x6 x_2 h fun w1=>gAgg x6 16 w1 fun x_3=>some (.tuple ⟨[.agg ⟨x_3⟩,.int .i64 isv]⟩,w1))) := by kernel_rfl
def C_commons_proc : Cuts := { globs := 0,loops := [],regs := [],plans := [] }
def T_commons_proc : List Item := bodyOf Tryz.f70
theorem e_commons_proc (i : Int) (h : H) :
 exec PR C_commons_proc C R F_commons_proc Tryz.f70 100000 true T_commons_proc [(0,.int .i64 i)] h =
 nw (.cells Y_api_Rec false [.int .i64 0,.int .i64 0]) h fun b w=>pAgg ⟨b,0,none⟩ [.int .i64 1,.int .i64 i] w fun w1=>gAgg ⟨b,0,none⟩ 2 w1 fun x=>some (.agg ⟨x⟩,w1) := by kernel_rfl
def C_pslot_Encode : Cuts := { globs := 0,loops := [],regs := [],plans := [(1,⟨[1,0,2,3,4,5,6],[0,0,3,7,7,31,63],[(0,[1])],[]⟩)] }
def T_pslot_Encode : List Item := bodyOf Tryz.f72
theorem e_pslot_Encode (p : List Value) (h : H) :
 exec PR C_pslot_Encode C R F_pslot_Encode Tryz.f72 100000 true T_pslot_Encode [(0,.agg ⟨p⟩)] h =
 nw (.cells Y_api_Proc false p) h fun b w=>gAgg ⟨b,0,none⟩ 16 w fun x=>bnd (C F_pslot_Codec [] w) fun r w1=>aPtr r fun x_1=>gAgg ⟨b,0,none⟩ 16 w1 fun x_2=>same (.agg ⟨x⟩) (.agg ⟨x_2⟩) (bnd (C F_codec_Codec_api_Proc_Encode [.pointer x_1,.agg ⟨x⟩] w1) fun r_1 w2=>as2 r_1 fun r_2 r_3=>aSl r_2 fun x_3 xn xc=>aBool r_3 fun x_4=>some (.tuple ⟨[.slice x_3 xn xc,.bool x_4]⟩,w2)) := by kernel_rfl
def C_mem_New : Cuts := { globs := 0,loops := [],regs := [],plans := [] }
def T_mem_New : List Item := bodyOf Tryz.f113
theorem e_mem_New (frames : Int) (h : H) :
 exec PR C_mem_New C R F_mem_New Tryz.f113 100000 true T_mem_New [(0,.int .i64 frames)] h =
 ck ((0 : Int) ≤ IntKind.wrap .i64 (64 * (mm2 false (mm2 true frames 0) 256)) ∧ (IntKind.wrap .i64 (64 * (mm2 false (mm2 true frames 0) 256)) : Int) ≤ IntKind.wrap .i64 (64 * (mm2 false (mm2 true frames 0) 256)) ∧ IntKind.wrap .i64 (64 * (mm2 false (mm2 true frames 0) 256)) ≤ (most : Int)) (nw (.cells Y_uint8 false (manyN (Int.toNat (IntKind.wrap .i64 (64 * (mm2 false (mm2 true frames 0) 256)))) [.int .u8 0])) h fun b w=>nw (.cells Y_mem_Mem false [.slice (some ⟨b,0,none⟩) (Int.toNat (IntKind.wrap .i64 (64 * (mm2 false (mm2 true frames 0) 256)))) (Int.toNat (IntKind.wrap .i64 (64 * (mm2 false (mm2 true frames 0) 256))))]) w fun b_1 w1=>some (.pointer (some ⟨b_1,0,none⟩),w1)) := by kernel_rfl
def C_sect_New : Cuts := { globs := 0,loops := [],regs := [],plans := [] }
def T_sect_New : List Item := bodyOf Tryz.f117
theorem e_sect_New (lease : Int) (h : H) :
 exec PR C_sect_New C R F_sect_New Tryz.f117 100000 true T_sect_New [(0,.int .i64 lease)] h =
 nw (.cells Y_sect_Sect false [.int .i64 (mm2 false (mm2 true lease 1) 1000),.bool false,.int .i64 0,.int .i64 0,.int .i64 0,.slice none 0 0,.int .i64 0,.int .i64 0,.int .i64 0]) h fun b w=>some (.pointer (some ⟨b,0,none⟩),w) := by kernel_rfl
def C_region_Regions_Add : Cuts := { globs := 0,loops := [],regs := [],plans := [] }
def T_region_Regions_Add : List Item := bodyOf Tryz.f118
theorem e_region_Regions_Add (r : Option Addr) (lo : Int) (n : Int) (h : H) :
 exec PR C_region_Regions_Add C R F_region_Regions_Add Tryz.f118 100000 true T_region_Regions_Add [(0,.pointer r),(1,.int .i64 lo),(2,.int .i64 n)] h =
 bnd (cond (decide (lo < 0)) (some (true,h)) (some (decide (n < 0),h))) fun c w=>bnd (cond c (some (true,w)) (aSome r fun p=>gPtr (Addr.add p 0) w fun x=>bnd (C F_mem_Mem_Size [.pointer x] w) fun r_1 w1=>aInt .i64 r_1 fun x_1=>some (decide (lo > x_1),w1))) fun c_1 w2=>bnd (cond c_1 (some (true,w2)) (aSome r fun p_1=>gPtr (Addr.add p_1 0) w2 fun x_2=>bnd (C F_mem_Mem_Size [.pointer x_2] w2) fun r_2 w3=>aInt .i64 r_2 fun x_3=>some (decide (n > (IntKind.wrap .i64 (x_3 - lo))),w3))) fun c_2 w4=>cond c_2
 (some (.tuple ⟨[.int .i64 0,.int .i64 1]⟩,w4))
 (aSome r fun p_2=>gSl (Addr.add p_2 2) w4 fun _ xn _=>cond (decide ((xn : Int) ≥ 32))
 (some (.tuple ⟨[.int .i64 0,.int .i64 4]⟩,w4))
 (aSome r fun p_3=>gSl (Addr.add p_3 2) w4 fun x_5 xn_1 xc_1=>nw (.cells Y_region_span false [.int .i64 lo,.int .i64 n]) w4 fun b w5=>gCells (some ⟨b,0,none⟩) (1 * 2) w5 fun cs=>ckB (fitsOpen x_5 Y_region_span w5) (apd Y_region_span 2 x_5 xn_1 xc_1 1 cs w5 fun a an ac w6=>aSome r fun p_4=>pV (Addr.add p_4 2) (.slice a an ac) w6 fun w7=>aSome r fun p_5=>gSl (Addr.add p_5 2) w7 fun _ xn_2 _=>some (.tuple ⟨[.int .i64 (IntKind.wrap .i64 ((xn_2 : Int) - 1)),.int .i64 0]⟩,w7)))) := by kernel_rfl
def C_ref1_NewSpace : Cuts := { globs := 0,loops := [(3,[0,3,4])],regs := [],plans := [(5,⟨[0,1,2,3,4,5,6,7,8,9,10],[0,0,2,6,14,0,32,126,255,511,1023],[(5,[4])],[]⟩),(6,⟨[0,1,2,3,4,5,6,7,8,9,10],[0,0,2,6,14,0,32,126,255,511,1023],[],[]⟩)] }
def T_ref1_NewSpace : List Item := bodyOf Tryz.f124
def T_ref1_NewSpace_L1 : List Item := stk [0,1,0,1,0,0,1,4,5] T_ref1_NewSpace
theorem e_ref1_NewSpace (envs : Int) (h : H) :
 exec PR C_ref1_NewSpace C R F_ref1_NewSpace Tryz.f124 100000 true T_ref1_NewSpace [(0,.int .i64 envs)] h =
 nw (.cells Y_ref1_Space false [.slice none 0 0,.slice none 0 0]) h fun b w=>R F_ref1_NewSpace T_ref1_NewSpace_L1 [(0,.int .i64 envs),(3,.pointer (some ⟨b,0,none⟩)),(4,.int .i64 0)] w := by kernel_rfl
theorem e_ref1_NewSpace_L1 (envs : Int) (s : Addr) (i : Int) (h : H) :
 exec PR C_ref1_NewSpace C R F_ref1_NewSpace Tryz.f124 100000 true T_ref1_NewSpace_L1 [(0,.int .i64 envs),(3,.pointer (some s)),(4,.int .i64 i)] h =
 bnd (cond (decide (i < envs)) (some (decide (i < 40),h)) (some (false,h))) fun c w=>cond c
 (gSl (Addr.add s 0) w fun x xn xc=>bnd (C F_ref1_NewNames [.int .i64 32] w) fun r w1=>aPtr r fun x_1=>gSl (Addr.add s 0) w1 fun x_2 xn_1 xc_1=>same (.slice x xn xc) (.slice x_2 xn_1 xc_1) (nw (.cells Y_p_ref1_Names false [.pointer x_1]) w1 fun b w2=>gCells (some ⟨b,0,none⟩) (1 * 1) w2 fun cs=>ckB (fitsOpen x Y_p_ref1_Names w2) (apd Y_p_ref1_Names 1 x xn xc 1 cs w2 fun a an ac w3=>pV (Addr.add s 0) (.slice a an ac) w3 fun w4=>gSl (Addr.add s 1) w4 fun x_3 xn_2 xc_2=>ck ((0 : Int) ≤ 32 ∧ (32 : Int) ≤ 32 ∧ 32 ≤ (most : Int)) (nw (.cells Y_api_Cap false (manyN (Int.toNat 32) [.int .i64 0,.int .i64 0,.int .i64 0,.int .i64 0,.int .i64 0,.int .i64 0])) w4 fun b_1 w5=>nw (.cells Y_s_api_Cap false [.slice (some ⟨b_1,0,none⟩) (Int.toNat 32) (Int.toNat 32)]) w5 fun b_2 w6=>gCells (some ⟨b_2,0,none⟩) (1 * 1) w6 fun cs_1=>ckB (fitsOpen x_3 Y_s_api_Cap w6) (apd Y_s_api_Cap 1 x_3 xn_2 xc_2 1 cs_1 w6 fun a_1 an_1 ac_1 w7=>pV (Addr.add s 1) (.slice a_1 an_1 ac_1) w7 fun w8=>R F_ref1_NewSpace T_ref1_NewSpace_L1 [(0,.int .i64 envs),(3,.pointer (some s)),(4,.int .i64 (IntKind.wrap .i64 (i + 1)))] w8)))))
 (some (.pointer (some s),w)) := by kernel_rfl
def C_ref1_NewSect : Cuts := { globs := 0,loops := [],regs := [],plans := [] }
def T_ref1_NewSect : List Item := bodyOf Tryz.f125
theorem e_ref1_NewSect (lease : Int) (h : H) :
 exec PR C_ref1_NewSect C R F_ref1_NewSect Tryz.f125 100000 true T_ref1_NewSect [(0,.int .i64 lease)] h =
 nw (.cells Y_ref1_Sect false [.int .i64 (mm2 false (mm2 true lease 1) 1000),.int .i64 0,.int .i64 0,.int .i64 0,.int .i64 0,.int .i64 0,.bool false,.int .i64 0,.slice none 0 0]) h fun b w=>some (.pointer (some ⟨b,0,none⟩),w) := by kernel_rfl
def C_ref1_in : Cuts := { globs := 0,loops := [(2,[0,1,5])],regs := [],plans := [] }
def T_ref1_in : List Item := bodyOf Tryz.f127
def T_ref1_in_L1 : List Item := stk [0,1,0,0,1,4,5] T_ref1_in
theorem e_ref1_in (l : Option Addr) (ln lc : Nat) (s : Int) (h : H) :
 exec PR C_ref1_in C R F_ref1_in Tryz.f127 100000 true T_ref1_in [(0,.slice l ln lc),(1,.int .i64 s)] h =
 R F_ref1_in T_ref1_in_L1 [(0,.slice l ln lc),(1,.int .i64 s),(5,.int .i64 0)] h := by kernel_rfl
theorem e_ref1_in_L1 (l : Option Addr) (ln lc : Nat) (s : Int) (i : Int) (h : H) :
 exec PR C_ref1_in C R F_ref1_in Tryz.f127 100000 true T_ref1_in_L1 [(0,.slice l ln lc),(1,.int .i64 s),(5,.int .i64 i)] h =
 cond (decide (i < (ln : Int)))
 (aSome l fun p=>ck ((0 : Int) ≤ i ∧ i < (ln : Int)) (gInt .i64 (Addr.add (bare p) (Int.toNat i * 1)) h fun x=>cond (x == s)
 (some (.bool true,h))
 (R F_ref1_in T_ref1_in_L1 [(0,.slice l ln lc),(1,.int .i64 s),(5,.int .i64 (IntKind.wrap .i64 (i + 1)))] h)))
 (some (.bool false,h)) := by kernel_rfl
def C_ring_Codec : Cuts := { globs := 0,loops := [],regs := [],plans := [] }
def T_ring_Codec : List Item := bodyOf Tryz.f143
theorem e_ring_Codec  (h : H) :
 exec PR C_ring_Codec C R F_ring_Codec Tryz.f143 100000 true T_ring_Codec [] h =
 bnd (C F_codec_New_api_Pipe [.int .i64 40,.func (.func F_ring_put) ⟨[]⟩ ⟨[]⟩,.func (.func F_ring_get) ⟨[]⟩ ⟨[]⟩] h) fun r w=>aPtr r fun x=>some (.pointer x,w) := by kernel_rfl
def C_codec_Codec_api_Pipe_Decode : Cuts := { globs := 0,loops := [],regs := [],plans := [(4,⟨[0,1,2,3,4,10,5,6,7,8,9,11,12],[0,1,3,7,0,16,63,127,255,255,0,1535,4095],[(5,[3])],[]⟩)] }
def T_codec_Codec_api_Pipe_Decode : List Item := bodyOf Tryz.f148
theorem e_codec_Codec_api_Pipe_Decode (c : Option Addr) (b : Option Addr) (bn bc : Nat) (h : H) :
 exec PR C_codec_Codec_api_Pipe_Decode C R F_codec_Codec_api_Pipe_Decode Tryz.f148 100000 true T_codec_Codec_api_Pipe_Decode [(0,.pointer c),(1,.slice b bn bc)] h =
 nw (.cells Y_api_Pipe false [.int .i64 0,.int .i64 0,.int .i64 0,.int .i64 0,.int .u8 0,.int .u8 0,.int .u8 0,.int .u8 0,.int .u8 0,.int .u8 0,.int .u8 0,.int .u8 0,.int .u8 0,.int .u8 0,.int .u8 0,.int .u8 0,.int .u8 0,.int .u8 0,.int .u8 0,.int .u8 0,.int .u8 0,.int .u8 0,.int .u8 0,.int .u8 0,.int .u8 0,.int .u8 0,.int .u8 0,.int .u8 0,.int .u8 0,.int .u8 0,.int .u8 0,.int .u8 0,.int .u8 0,.int .u8 0,.int .u8 0,.int .u8 0]) h fun b_1 w=>nw (.cells Y_api_Pipe false [.int .i64 0,.int .i64 0,.int .i64 0,.int .i64 0,.int .u8 0,.int .u8 0,.int .u8 0,.int .u8 0,.int .u8 0,.int .u8 0,.int .u8 0,.int .u8 0,.int .u8 0,.int .u8 0,.int .u8 0,.int .u8 0,.int .u8 0,.int .u8 0,.int .u8 0,.int .u8 0,.int .u8 0,.int .u8 0,.int .u8 0,.int .u8 0,.int .u8 0,.int .u8 0,.int .u8 0,.int .u8 0,.int .u8 0,.int .u8 0,.int .u8 0,.int .u8 0,.int .u8 0,.int .u8 0,.int .u8 0,.int .u8 0]) w fun b_2 w1=>aSome c fun p=>gFv (Addr.add p 2) w1 fun x=>isNilF x fun b_3=>bnd (cond b_3 (some (true,w1)) (aSome c fun p_1=>gInt .i64 (Addr.add p_1 0) w1 fun x_1=>some ((bn : Int) != x_1,w1))) fun c_1 w2=>cond c_1
 (gAgg ⟨b_2,0,none⟩ 36 w2 fun x_2=>ck (List.length x_2 = 36) (pAgg ⟨b_1,0,none⟩ x_2 w2 fun w3=>gAgg ⟨b_1,0,none⟩ 36 w3 fun x_3=>some (.tuple ⟨[.agg ⟨x_3⟩,.bool false]⟩,w3)))
 (aSome c fun p_2=>gFv (Addr.add p_2 2) w2 fun x_4=>nw (.cells Y_api_Pipe false [.int .i64 0,.int .i64 0,.int .i64 0,.int .i64 0,.int .u8 0,.int .u8 0,.int .u8 0,.int .u8 0,.int .u8 0,.int .u8 0,.int .u8 0,.int .u8 0,.int .u8 0,.int .u8 0,.int .u8 0,.int .u8 0,.int .u8 0,.int .u8 0,.int .u8 0,.int .u8 0,.int .u8 0,.int .u8 0,.int .u8 0,.int .u8 0,.int .u8 0,.int .u8 0,.int .u8 0,.int .u8 0,.int .u8 0,.int .u8 0,.int .u8 0,.int .u8 0,.int .u8 0,.int .u8 0,.int .u8 0,.int .u8 0]) w2 fun b_4 w4=>bnd (C F_slices_Clone_s_byte_byte [.slice b bn bc] w4) fun r w5=>aSl r fun x_5 xn xc=>gFv (Addr.add p_2 2) w5 fun x_6=>sameU (x_4) (x_6) (aFn x_4 fun g fi cp=>bnd (C g (fi ++ ([.slice x_5 xn xc] ++ cp)) w5) fun r_1 w6=>as2 r_1 fun r_2 r_3=>aAgg r_2 fun x_7=>aBool r_3 fun x_8=>ck (List.length x_7 = 36) (pAgg ⟨b_4,0,none⟩ x_7 w6 fun w7=>cond (!x_8)
 (gAgg ⟨b_2,0,none⟩ 36 w7 fun x_9=>ck (List.length x_9 = 36) (pAgg ⟨b_1,0,none⟩ x_9 w7 fun w8=>gAgg ⟨b_1,0,none⟩ 36 w8 fun x_10=>some (.tuple ⟨[.agg ⟨x_10⟩,.bool false]⟩,w8)))
 (gAgg ⟨b_4,0,none⟩ 36 w7 fun x_11=>ck (List.length x_11 = 36) (pAgg ⟨b_1,0,none⟩ x_11 w7 fun w9=>gAgg ⟨b_1,0,none⟩ 36 w9 fun x_12=>some (.tuple ⟨[.agg ⟨x_12⟩,.bool true]⟩,w9)))))) := by kernel_rfl
def C_region_Regions_Copy : Cuts := { globs := 0,loops := [],regs := [],plans := [] }
def T_region_Regions_Copy : List Item := bodyOf Tryz.f151
theorem e_region_Regions_Copy (r : Option Addr) (env : Int) (fromv : Int) (atv : Int) (to : Int) (on : Int) (n : Int) (h : H) :
 exec PR C_region_Regions_Copy C R F_region_Regions_Copy Tryz.f151 100000 true T_region_Regions_Copy [(0,.pointer r),(1,.int .i64 env),(2,.int .i64 fromv),(3,.int .i64 atv),(4,.int .i64 to),(5,.int .i64 on),(6,.int .i64 n)] h =
 bnd (C F_region_Regions_Read [.pointer r,.int .i64 env,.int .i64 fromv,.int .i64 atv,.int .i64 n] h) fun r_1 w=>as2 r_1 fun r_2 r_3=>aSl r_2 fun x xn xc=>aInt .i64 r_3 fun x_1=>cond (x_1 != 0)
 (some (.int .i64 x_1,w))
 (bnd (C F_region_Regions_Write [.pointer r,.int .i64 env,.int .i64 to,.int .i64 on,.slice x xn xc] w) fun r_4 w1=>aInt .i64 r_4 fun x_2=>some (.int .i64 x_2,w1)) := by kernel_rfl
def C_caps_Space_Grant : Cuts := { globs := 0,loops := [],regs := [],plans := [] }
def T_caps_Space_Grant : List Item := bodyOf Tryz.f152
theorem e_caps_Space_Grant (s : Option Addr) (env : Int) (name : Int) (to : Int) (give : Int) (lo : Int) (n : Int) (h : H) :
 exec PR C_caps_Space_Grant C R F_caps_Space_Grant Tryz.f152 100000 true T_caps_Space_Grant [(0,.pointer s),(1,.int .i64 env),(2,.int .i64 name),(3,.int .i64 to),(4,.int .i64 give),(5,.int .i64 lo),(6,.int .i64 n)] h =
 bnd (C F_caps_Space_Get [.pointer s,.int .i64 env,.int .i64 name] h) fun r w=>as2 r fun r_1 r_2=>aAgg r_1 fun x=>aInt .i64 r_2 fun x_1=>nw (.cells Y_api_Cap false [.int .i64 0,.int .i64 0,.int .i64 0,.int .i64 0,.int .i64 0,.int .i64 0]) w fun b w1=>ck (List.length x = 6) (pAgg ⟨b,0,none⟩ x w1 fun w2=>cond (x_1 != 0)
 (some (.tuple ⟨[.int .i64 0,.int .i64 x_1]⟩,w2))
 (gInt .i64 (Addr.add ⟨b,0,none⟩ 1) w2 fun x_2=>bnd (cond ((bitA .i64 x_2 4) == 0) (some (true,w2)) (gInt .i64 (Addr.add ⟨b,0,none⟩ 1) w2 fun x_3=>some ((bitN .i64 give x_3) != 0,w2))) fun c w3=>cond c
 (some (.tuple ⟨[.int .i64 0,.int .i64 3]⟩,w3))
 (bnd (C F_caps_Space_is [.pointer s,.int .i64 to] w3) fun r_3 w4=>aBool r_3 fun x_4=>bnd (cond (!x_4) (some (true,w4)) (some (decide (lo < 0),w4))) fun c_1 w5=>bnd (cond c_1 (some (true,w5)) (some (decide (n < 0),w5))) fun c_2 w6=>bnd (cond c_2 (some (true,w6)) (gInt .i64 (Addr.add ⟨b,0,none⟩ 3) w6 fun x_5=>some (decide (lo > x_5),w6))) fun c_3 w7=>bnd (cond c_3 (some (true,w7)) (gInt .i64 (Addr.add ⟨b,0,none⟩ 3) w7 fun x_6=>some (decide (n > (IntKind.wrap .i64 (x_6 - lo))),w7))) fun c_4 w8=>cond c_4
 (some (.tuple ⟨[.int .i64 0,.int .i64 1]⟩,w8))
 (gInt .i64 (Addr.add ⟨b,0,none⟩ 0) w8 fun x_7=>gInt .i64 (Addr.add ⟨b,0,none⟩ 2) w8 fun x_8=>bnd (C F_caps_Space_add [.pointer s,.int .i64 to,.agg ⟨[.int .i64 x_7,.int .i64 give,.int .i64 (IntKind.wrap .i64 (x_8 + lo)),.int .i64 n,.int .i64 env,.int .i64 name]⟩] w8) fun r_4 w9=>as2 r_4 fun r_5 r_6=>aInt .i64 r_5 fun x_9=>aInt .i64 r_6 fun x_10=>some (.tuple ⟨[.int .i64 x_9,.int .i64 x_10]⟩,w9))))) := by kernel_rfl
def C_codec_Codec_api_Proc_Encode : Cuts := { globs := 0,loops := [],regs := [],plans := [(2,⟨[0,1,2,3,4,5,6,7,8,9,10,11,12,13,14],[0,1,3,7,15,31,63,127,255,511,63,63,4095,8191,16383],[],[]⟩)] }
def T_codec_Codec_api_Proc_Encode : List Item := bodyOf Tryz.f160
theorem e_codec_Codec_api_Proc_Encode (c : Option Addr) (v : List Value) (h : H) :
 exec PR C_codec_Codec_api_Proc_Encode C R F_codec_Codec_api_Proc_Encode Tryz.f160 100000 true T_codec_Codec_api_Proc_Encode [(0,.pointer c),(1,.agg ⟨v⟩)] h =
 nw (.cells Y_api_Proc false v) h fun b w=>aSome c fun p=>gInt .i64 (Addr.add p 0) w fun x=>ck ((0 : Int) ≤ x ∧ (x : Int) ≤ x ∧ x ≤ (most : Int)) (nw (.cells Y_uint8 false (manyN (Int.toNat x) [.int .u8 0])) w fun b_1 w1=>aSome c fun p_1=>gFv (Addr.add p_1 1) w1 fun x_1=>isNilF x_1 fun b_2=>bnd (cond b_2 (some (true,w1)) (aSome c fun p_2=>gFv (Addr.add p_2 1) w1 fun x_2=>gAgg ⟨b,0,none⟩ 16 w1 fun x_3=>aFn x_2 fun g fi cp=>bnd (C g (fi ++ ([.agg ⟨x_3⟩,.slice (some ⟨b_1,0,none⟩) (Int.toNat x) (Int.toNat x)] ++ cp)) w1) fun r w2=>aBool r fun x_4=>some (!x_4,w2))) fun c_1 w3=>cond c_1
 (some (.tuple ⟨[.slice none 0 0,.bool false]⟩,w3))
 (some (.tuple ⟨[.slice (some ⟨b_1,0,none⟩) (Int.toNat x) (Int.toNat x),.bool true]⟩,w3))) := by kernel_rfl
def C_kern_share : Cuts := { globs := 0,loops := [],regs := [],plans := [] }
def T_kern_share : List Item := bodyOf Tryz.f176
theorem e_kern_share (c : List Value) (x : List Value) (h : H) :
 exec PR C_kern_share C R F_kern_share Tryz.f176 100000 true T_kern_share [(0,.agg ⟨c⟩),(1,.agg ⟨x⟩)] h =
 nw (.cells Y_api_Boot false c) h fun b w=>nw (.cells Y_api_Share false x) w fun b_1 w1=>gInt .i64 (Addr.add ⟨b_1,0,none⟩ 0) w1 fun x_1=>bnd (cond (decide (x_1 < 0)) (some (true,w1)) (gInt .i64 (Addr.add ⟨b_1,0,none⟩ 0) w1 fun x_2=>gSl (Addr.add ⟨b,0,none⟩ 0) w1 fun _ xn _=>some (decide (x_2 ≥ (xn : Int)),w1))) fun c_1 w2=>bnd (cond c_1 (some (true,w2)) (gInt .i64 (Addr.add ⟨b_1,0,none⟩ 1) w2 fun x_4=>some (decide (x_4 < 0),w2))) fun c_2 w3=>bnd (cond c_2 (some (true,w3)) (gInt .i64 (Addr.add ⟨b_1,0,none⟩ 2) w3 fun x_5=>some (decide (x_5 < 0),w3))) fun c_3 w4=>bnd (cond c_3 (some (true,w4)) (gInt .i64 (Addr.add ⟨b_1,0,none⟩ 3) w4 fun x_6=>some (decide (x_6 < 0),w4))) fun c_4 w5=>cond c_4
 (some (.bool false,w5))
 (gSl (Addr.add ⟨b,0,none⟩ 0) w5 fun x_7 xn_1 _=>gInt .i64 (Addr.add ⟨b_1,0,none⟩ 0) w5 fun x_8=>aSome x_7 fun p=>ck ((0 : Int) ≤ x_8 ∧ x_8 < (xn_1 : Int)) (gInt .i64 (Addr.add (bare p) (Int.toNat x_8 * 1)) w5 fun x_9=>bnd (C F_kern_frames [.int .i64 x_9] w5) fun r w6=>aInt .i64 r fun x_10=>gInt .i64 (Addr.add ⟨b_1,0,none⟩ 1) w6 fun x_11=>cond (decide (x_11 > x_10))
 (some (.bool false,w6))
 (gInt .i64 (Addr.add ⟨b_1,0,none⟩ 1) w6 fun x_12=>gInt .i64 (Addr.add ⟨b_1,0,none⟩ 2) w6 fun x_13=>bnd (cond (decide (x_13 ≤ (IntKind.wrap .i64 ((IntKind.wrap .i64 (x_10 - x_12)) * 64)))) (gInt .i64 (Addr.add ⟨b_1,0,none⟩ 3) w6 fun x_14=>gInt .i64 (Addr.add ⟨b_1,0,none⟩ 2) w6 fun x_15=>some (decide (x_14 ≤ (IntKind.wrap .i64 ((IntKind.wrap .i64 ((IntKind.wrap .i64 (x_10 - x_12)) * 64)) - x_15))),w6)) (some (false,w6))) fun c_5 w7=>some (.bool c_5,w7)))) := by kernel_rfl
def C_table_New_api_Cap : Cuts := { globs := 0,loops := [(3,[3,15,16])],regs := [],plans := [] }
def T_table_New_api_Cap : List Item := bodyOf Tryz.f177
def T_table_New_api_Cap_L1 : List Item := stk [0,1,0,1,0,0,1,4,5] T_table_New_api_Cap
theorem e_table_New_api_Cap (size : Int) (h : H) :
 exec PR C_table_New_api_Cap C R F_table_New_api_Cap Tryz.f177 100000 true T_table_New_api_Cap [(0,.int .i64 size)] h =
 ck ((0 : Int) ≤ mm2 false (mm2 true size 0) 256 ∧ (mm2 false (mm2 true size 0) 256 : Int) ≤ mm2 false (mm2 true size 0) 256 ∧ mm2 false (mm2 true size 0) 256 ≤ (most : Int)) (nw (.cells Y_table_place_api_Cap false (manyN (Int.toNat (mm2 false (mm2 true size 0) 256)) [.int .i64 0,.int .i64 0,.int .i64 0,.int .i64 0,.int .i64 0,.int .i64 0,.int .i64 0,.bool false])) h fun b w=>nw (.cells Y_table_Table_api_Cap false [.slice (some ⟨b,0,none⟩) (Int.toNat (mm2 false (mm2 true size 0) 256)) (Int.toNat (mm2 false (mm2 true size 0) 256))]) w fun b_1 w1=>gSl (Addr.add ⟨b_1,0,none⟩ 0) w1 fun _ xn _=>R F_table_New_api_Cap T_table_New_api_Cap_L1 [(3,.pointer (some ⟨b_1,0,none⟩)),(15,.int .i64 (xn : Int)),(16,.int .i64 0)] w1) := by kernel_rfl
theorem e_table_New_api_Cap_L1 (t : Addr) (x15 : Int) (x16 : Int) (h : H) :
 exec PR C_table_New_api_Cap C R F_table_New_api_Cap Tryz.f177 100000 true T_table_New_api_Cap_L1 [(3,.pointer (some t)),(15,.int .i64 x15),(16,.int .i64 x16)] h =
 cond (decide (x16 < x15))
 (gSl (Addr.add t 0) h fun x xn _=>aSome x fun p=>ck ((0 : Int) ≤ x16 ∧ x16 < (xn : Int)) (pV (Addr.add (Addr.add (bare p) (Int.toNat x16 * 8)) 6) (.int .i64 1) h fun w=>R F_table_New_api_Cap T_table_New_api_Cap_L1 [(3,.pointer (some t)),(15,.int .i64 x15),(16,.int .i64 (IntKind.wrap .i64 (x16 + 1)))] w))
 (some (.pointer (some t),h)) := by kernel_rfl
def C_ref1_Within : Cuts := { globs := 0,loops := [],regs := [],plans := [] }
def T_ref1_Within : List Item := bodyOf Tryz.f183
theorem e_ref1_Within (atv : Int) (n : Int) (size : Int) (h : H) :
 exec PR C_ref1_Within C R F_ref1_Within Tryz.f183 100000 true T_ref1_Within [(0,.int .i64 atv),(1,.int .i64 n),(2,.int .i64 size)] h =
 bnd (cond (decide (atv ≥ 0)) (some (decide (n ≥ 0),h)) (some (false,h))) fun c w=>bnd (cond c (some (decide (atv ≤ size),w)) (some (false,w))) fun c_1 w1=>bnd (cond c_1 (some (decide (n ≤ (IntKind.wrap .i64 (size - atv))),w1)) (some (false,w1))) fun c_2 w2=>some (.bool c_2,w2) := by kernel_rfl
def C_table_Table_api_Cap_name : Cuts := { globs := 0,loops := [],regs := [],plans := [] }
def T_table_Table_api_Cap_name : List Item := bodyOf Tryz.f195
theorem e_table_Table_api_Cap_name (t : Option Addr) (i : Int) (h : H) :
 exec PR C_table_Table_api_Cap_name C R F_table_Table_api_Cap_name Tryz.f195 100000 true T_table_Table_api_Cap_name [(0,.pointer t),(1,.int .i64 i)] h =
 aSome t fun p=>gSl (Addr.add p 0) h fun x xn _=>aSome x fun p_1=>ck ((0 : Int) ≤ i ∧ i < (xn : Int)) (gInt .i64 (Addr.add (Addr.add (bare p_1) (Int.toNat i * 8)) 6) h fun x_1=>some (.int .i64 (IntKind.wrap .i64 (i + (IntKind.wrap .i64 (256 * x_1)))),h)) := by kernel_rfl
def C_ring_put : Cuts := { globs := 0,loops := [],regs := [],plans := [(5,⟨[0,1,2,3,4],[0,1,0,4,15],[],[]⟩)] }
def T_ring_put : List Item := bodyOf Tryz.f197
theorem e_ring_put (p : List Value) (b : Option Addr) (bn bc : Nat) (h : H) :
 exec PR C_ring_put C R F_ring_put Tryz.f197 100000 true T_ring_put [(0,.agg ⟨p⟩),(1,.slice b bn bc)] h =
 nw (.cells Y_api_Pipe false p) h fun b_1 w=>gAgg ⟨b_1,0,none⟩ 36 w fun x=>bnd (C F_ring_Ok [.agg ⟨x⟩] w) fun r w1=>aBool r fun x_1=>cond (!x_1)
 (some (.bool false,w1))
 (gInt .i64 (Addr.add ⟨b_1,0,none⟩ 0) w1 fun x_2=>gInt .i64 (Addr.add ⟨b_1,0,none⟩ 1) w1 fun x_3=>gInt .i64 (Addr.add ⟨b_1,0,none⟩ 2) w1 fun x_4=>gInt .i64 (Addr.add ⟨b_1,0,none⟩ 3) w1 fun x_5=>nw (.cells Y_uint8 false [.int .u8 1,.int .u8 (IntKind.wrap .u8 (x_2)),.int .u8 (IntKind.wrap .u8 (x_3)),.int .u8 (IntKind.wrap .u8 (x_4)),.int .u8 (IntKind.wrap .u8 (x_5)),.int .u8 197]) w1 fun b_2 w2=>gCells (some ⟨b_2,0,none⟩) (min 6 bn * 1) w2 fun cs=>pCells b cs w2 fun w3=>ckB (fitsOpen b Y_uint8 w3) (ck ((0 : Int) ≤ 6 ∧ 6 ≤ (bc : Int)) (bnd (C F_codec_Sum [.slice (moved b (decide (0 < bc)) (0 * 1)) ((Int.toNat 6) - 0) (bc - 0)] w3) fun r_1 w4=>aInt .u8 r_1 fun x_6=>aSome b fun p_1=>ck ((0 : Int) ≤ 6 ∧ 6 < (bn : Int)) (pV (Addr.add (bare p_1) (Int.toNat 6 * 1)) (.int .u8 x_6) w4 fun w5=>ckB (fitsOpen b Y_uint8 w5) (ck ((0 : Int) ≤ 8 ∧ 8 ≤ (bn : Int)) (ckB (liveA (Addr.add ⟨b_1,0,none⟩ 4) w5) (gCells (moved (some (Addr.add ⟨b_1,0,none⟩ 4)) (decide (0 < 32)) (0 * 1)) (min (32 - 0) (bn - (Int.toNat 8)) * 1) w5 fun cs_1=>pCells (moved b (decide (Int.toNat 8 < bc)) ((Int.toNat 8) * 1)) cs_1 w5 fun w6=>some (.bool true,w6)))))))) := by kernel_rfl
def C_slices_ContainsFunc_s_byte_byte : Cuts := { globs := 0,loops := [],regs := [],plans := [] }
def T_slices_ContainsFunc_s_byte_byte : List Item := bodyOf Tryz.f199
theorem e_slices_ContainsFunc_s_byte_byte (s : Option Addr) (sn sc : Nat) (f : Value) (h : H) :
 exec PR C_slices_ContainsFunc_s_byte_byte C R F_slices_ContainsFunc_s_byte_byte Tryz.f199 100000 true T_slices_ContainsFunc_s_byte_byte [(0,.slice s sn sc),(1,f)] h =
 bnd (C F_slices_IndexFunc_s_byte_byte [.slice s sn sc,f] h) fun r w=>aInt .i64 r fun x=>some (.bool (decide (x ≥ 0)),w) := by kernel_rfl
def C_sect_Sect_Leave : Cuts := { globs := 0,loops := [],regs := [],plans := [] }
def T_sect_Sect_Leave : List Item := bodyOf Tryz.f210
theorem e_sect_Sect_Leave (s : Option Addr) (who : Int) (stamp : Int) (h : H) :
 exec PR C_sect_Sect_Leave C R F_sect_Sect_Leave Tryz.f210 100000 true T_sect_Sect_Leave [(0,.pointer s),(1,.int .i64 who),(2,.int .i64 stamp)] h =
 bnd (C F_sect_Sect_Holds [.pointer s,.int .i64 who,.int .i64 stamp] h) fun r w=>aBool r fun x=>cond (!x)
 (some (.bool false,w))
 (aSome s fun p=>pV (Addr.add p 1) (.bool false) w fun w1=>aSome s fun p_1=>gInt .i64 (Addr.add p_1 7) w1 fun x_1=>aSome s fun p_2=>pV (Addr.add p_2 6) (.int .i64 x_1) w1 fun w2=>some (.bool true,w2)) := by kernel_rfl
def C_pslot_get : Cuts := { globs := 0,loops := [(3,[0,2,4,31,32,33]),(8,[0,2,4,49])],regs := [],plans := [(1,⟨[0,1,2,3,4,5,6,7,8,9,10,11,12,13,14,15,16,17,18],[0,1,3,7,0,16,48,112,0,256,768,1792,0,4096,12288,28672,65535,0,262143],[],[]⟩),(13,⟨[0,1,2,3,4,5,6,7,8],[0,0,2,6,6,30,62,63,255],[(5,[0])],[]⟩)] }
def T_pslot_get : List Item := bodyOf Tryz.f213
def T_pslot_get_L1 : List Item := stk [0,1,0,1,0,0,1,4,5] T_pslot_get
def T_pslot_get_L2 : List Item := stk [0,1,0,1,0,1,0,0,1,4,5] T_pslot_get
theorem e_pslot_get (b : Option Addr) (bn bc : Nat) (h : H) :
 exec PR C_pslot_get C R F_pslot_get Tryz.f213 100000 true T_pslot_get [(0,.slice b bn bc)] h =
 nw (.cells Y_api_Proc false [.int .i64 0,.int .i64 0,.int .i64 0,.int .i64 0,.int .i64 0,.int .i64 0,.int .i64 0,.int .i64 0,.int .i64 0,.int .i64 0,.int .i64 0,.int .i64 0,.int .i64 0,.int .i64 0,.int .i64 0,.int .i64 0]) h fun b_1 w=>aSome b fun p=>ck ((0 : Int) ≤ 0 ∧ 0 < (bn : Int)) (gInt .u8 (Addr.add (bare p) (Int.toNat 0 * 1)) w fun x=>aSome b fun p_1=>ck ((0 : Int) ≤ 1 ∧ 1 < (bn : Int)) (gInt .u8 (Addr.add (bare p_1) (Int.toNat 1 * 1)) w fun x_1=>aSome b fun p_2=>ck ((0 : Int) ≤ 2 ∧ 2 < (bn : Int)) (gInt .u8 (Addr.add (bare p_2) (Int.toNat 2 * 1)) w fun x_2=>aSome b fun p_3=>ck ((0 : Int) ≤ 3 ∧ 3 < (bn : Int)) (gInt .u8 (Addr.add (bare p_3) (Int.toNat 3 * 1)) w fun x_3=>nw (.cells Y_api_Proc false [.int .i64 0,.int .i64 0,.int .i64 0,.int .i64 0,.int .i64 0,.int .i64 0,.int .i64 0,.int .i64 0,.int .i64 0,.int .i64 0,.int .i64 0,.int .i64 0,.int .i64 0,.int .i64 0,.int .i64 0,.int .i64 0]) w fun b_2 w1=>pAgg ⟨b_2,0,none⟩ [.int .i64 (IntKind.wrap .i64 (x)),.int .i64 (IntKind.wrap .i64 (x_1)),.int .i64 (IntKind.wrap .i64 (x_2)),.int .i64 (IntKind.wrap .i64 (x_3)),.int .i64 0,.int .i64 0,.int .i64 0,.int .i64 0,.int .i64 0,.int .i64 0,.int .i64 0,.int .i64 0,.int .i64 0,.int .i64 0,.int .i64 0,.int .i64 0] w1 fun w2=>nw (.cells Y_p_int false [.pointer (some (Addr.add ⟨b_2,0,none⟩ 4)),.pointer (some (Addr.add ⟨b_2,0,none⟩ 5)),.pointer (some (Addr.add ⟨b_2,0,none⟩ 6)),.pointer (some (Addr.add ⟨b_2,0,none⟩ 7))]) w2 fun b_3 w3=>R F_pslot_get T_pslot_get_L1 [(0,.slice b bn bc),(2,.pointer (some ⟨b_1,0,none⟩)),(4,.pointer (some ⟨b_2,0,none⟩)),(31,.slice (some ⟨b_3,0,none⟩) 4 4),(32,.int .i64 4),(33,.int .i64 0)] w3)))) := by kernel_rfl
theorem e_pslot_get_L1 (b : Option Addr) (bn bc : Nat) (x2 : Addr) (p : Addr) (x31 : Option Addr) (x31n x31c : Nat) (x32 : Int) (x33 : Int) (h : H) :
 exec PR C_pslot_get C R F_pslot_get Tryz.f213 100000 true T_pslot_get_L1 [(0,.slice b bn bc),(2,.pointer (some x2)),(4,.pointer (some p)),(31,.slice x31 x31n x31c),(32,.int .i64 x32),(33,.int .i64 x33)] h =
 cond (decide (x33 < x32))
 (aSome x31 fun p_1=>ck ((0 : Int) ≤ x33 ∧ x33 < (x31n : Int)) (gPtr (Addr.add (bare p_1) (Int.toNat x33 * 1)) h fun x=>bnd (C F_codec_Get2 [.slice b bn bc,.int .i64 (IntKind.wrap .i64 (4 + (IntKind.wrap .i64 (2 * x33))))] h) fun r w=>as2 r fun r_1 r_2=>aInt .i64 r_1 fun x_1=>aBool r_2 fun _=>aSome x fun p_2=>pV p_2 (.int .i64 x_1) w fun w1=>R F_pslot_get T_pslot_get_L1 [(0,.slice b bn bc),(2,.pointer (some x2)),(4,.pointer (some p)),(31,.slice x31 x31n x31c),(32,.int .i64 x32),(33,.int .i64 (IntKind.wrap .i64 (x33 + 1)))] w1))
 (R F_pslot_get T_pslot_get_L2 [(0,.slice b bn bc),(2,.pointer (some x2)),(4,.pointer (some p)),(49,.int .i64 0)] h) := by kernel_rfl
theorem e_pslot_get_L2 (b : Option Addr) (bn bc : Nat) (x2 : Addr) (p : Addr) (x49 : Int) (h : H) :
 exec PR C_pslot_get C R F_pslot_get Tryz.f213 100000 true T_pslot_get_L2 [(0,.slice b bn bc),(2,.pointer (some x2)),(4,.pointer (some p)),(49,.int .i64 x49)] h =
 cond (decide (x49 < 8))
 (aSome b fun p_1=>ck ((0 : Int) ≤ IntKind.wrap .i64 (12 + x49) ∧ IntKind.wrap .i64 (12 + x49) < (bn : Int)) (gInt .u8 (Addr.add (bare p_1) (Int.toNat (IntKind.wrap .i64 (12 + x49)) * 1)) h fun x=>ck ((0 : Int) ≤ x49 ∧ x49 < ((8 : Nat) : Int)) (pV (Addr.add (Addr.add p 8) (Int.toNat x49 * 1)) (.int .i64 (IntKind.wrap .i64 (x))) h fun w=>R F_pslot_get T_pslot_get_L2 [(0,.slice b bn bc),(2,.pointer (some x2)),(4,.pointer (some p)),(49,.int .i64 (IntKind.wrap .i64 (x49 + 1)))] w)))
 (gAgg p 16 h fun x_1=>bnd (C F_pslot_Encode [.agg ⟨x_1⟩] h) fun r w1=>as2 r fun r_1 r_2=>aSl r_1 fun x_2 xn xc=>aBool r_2 fun x_3=>gAgg p 16 w1 fun x_4=>bnd (cond x_3 (bnd (C F_slices_Equal_s_byte_byte [.slice x_2 xn xc,.slice b bn bc] w1) fun r_3 w2=>aBool r_3 fun x_5=>gAgg p 16 w2 fun x_6=>same (.agg ⟨x_4⟩) (.agg ⟨x_6⟩) (some (x_5,w2))) (some (false,w1))) fun c w3=>ck (List.length x_4 = 16) (pAgg x2 x_4 w3 fun w4=>gAgg x2 16 w4 fun x_7=>some (.tuple ⟨[.agg ⟨x_7⟩,.bool c]⟩,w4))) := by kernel_rfl
def C_table_Table_api_Cap_at : Cuts := { globs := 0,loops := [],regs := [],plans := [] }
def T_table_Table_api_Cap_at : List Item := bodyOf Tryz.f229
theorem e_table_Table_api_Cap_at (t : Option Addr) (name : Int) (h : H) :
 exec PR C_table_Table_api_Cap_at C R F_table_Table_api_Cap_at Tryz.f229 100000 true T_table_Table_api_Cap_at [(0,.pointer t),(1,.int .i64 name)] h =
 bnd (cond (decide (name < 0)) (some (true,h)) (aSome t fun p=>gSl (Addr.add p 0) h fun _ xn _=>some (decide ((bitA .i64 name 255) ≥ (xn : Int)),h))) fun c w=>bnd (cond c (some (true,w)) (aSome t fun p_1=>gSl (Addr.add p_1 0) w fun x_1 xn_1 _=>aSome x_1 fun p_2=>ck ((0 : Int) ≤ bitA .i64 name 255 ∧ bitA .i64 name 255 < (xn_1 : Int)) (gBool (Addr.add (Addr.add (bare p_2) (Int.toNat (bitA .i64 name 255) * 8)) 7) w fun x_2=>some (!x_2,w)))) fun c_1 w1=>bnd (cond c_1 (some (true,w1)) (bnd (C F_table_Table_api_Cap_name [.pointer t,.int .i64 (bitA .i64 name 255)] w1) fun r w2=>aInt .i64 r fun x_3=>some (x_3 != name,w2))) fun c_2 w3=>cond c_2
 (some (.pointer none,w3))
 (aSome t fun p_3=>gSl (Addr.add p_3 0) w3 fun x_4 xn_2 _=>aSome x_4 fun p_4=>ck ((0 : Int) ≤ bitA .i64 name 255 ∧ bitA .i64 name 255 < (xn_2 : Int)) (some (.pointer (some (Addr.add (bare p_4) (Int.toNat (bitA .i64 name 255) * 8))),w3))) := by kernel_rfl
def C_codec_Put2 : Cuts := { globs := 0,loops := [],regs := [],plans := [] }
def T_codec_Put2 : List Item := bodyOf Tryz.f232
theorem e_codec_Put2 (b : Option Addr) (bn bc : Nat) (atv : Int) (n : Int) (h : H) :
 exec PR C_codec_Put2 C R F_codec_Put2 Tryz.f232 100000 true T_codec_Put2 [(0,.slice b bn bc),(1,.int .i64 atv),(2,.int .i64 n)] h =
 bnd (cond (decide (atv < 0)) (some (true,h)) (some (decide (atv > (IntKind.wrap .i64 ((bn : Int) - 2))),h))) fun c w=>bnd (cond c (some (true,w)) (some (decide (n < 0),w))) fun c_1 w1=>bnd (cond c_1 (some (true,w1)) (some (decide (n > 65535),w1))) fun c_2 w2=>cond c_2
 (some (.bool false,w2))
 (aSome b fun p=>ck ((0 : Int) ≤ atv ∧ atv < (bn : Int)) (pV (Addr.add (bare p) (Int.toNat atv * 1)) (.int .u8 (IntKind.wrap .u8 (Int.fdiv n (2 ^ 8)))) w2 fun w3=>aSome b fun p_1=>ck ((0 : Int) ≤ IntKind.wrap .i64 (atv + 1) ∧ IntKind.wrap .i64 (atv + 1) < (bn : Int)) (pV (Addr.add (bare p_1) (Int.toNat (IntKind.wrap .i64 (atv + 1)) * 1)) (.int .u8 (IntKind.wrap .u8 (n))) w3 fun w4=>some (.bool true,w4)))) := by kernel_rfl
def C_pslot_Ok_1 : Cuts := { globs := 0,loops := [],regs := [],plans := [] }
def T_pslot_Ok_1 : List Item := bodyOf Tryz.f239
theorem e_pslot_Ok_1 (f : Int) (h : H) :
 exec PR C_pslot_Ok_1 C R F_pslot_Ok_1 Tryz.f239 100000 true T_pslot_Ok_1 [(0,.int .i64 f)] h =
 bnd (cond (decide (f < 0)) (some (true,h)) (some (decide (f > 12),h))) fun c w=>some (.bool c,w) := by kernel_rfl
end
end Go.EQ

set_option maxRecDepth 100000
namespace Go.EQ
open Go Go.NN Go.Proofs
variable (C : CallFn) (R : RunFn)
noncomputable section
def cutsL : List (Nat × Cuts) := [(4,C_law15_CommonsApart),(12,C_law15_awake),(13,C_law15_Open),(14,C_law15_Plan),(15,C_commons_New),(19,C_commons_Commons_Bad),(20,C_ref11_ProcBytes),(21,C_law11_Proc),(22,C_kern_Kern_Do),(23,C_commons_Commons_Proc),(24,C_commons_Commons_SetProc),(25,C_commons_Commons_FreeProc),(26,C_commons_Commons_View),(48,C_commons_Commons_Term),(49,C_commons_Commons_Front),(50,C_ref15_Boot),(51,C_kern_New),(52,C_ref1_NewKern),(53,C_ref15_Blank),(54,C_ref1_Kern_Do),(55,C_ref15_NewCommons),(56,C_kern_Kern_Space),(57,C_caps_Space_Names),(58,C_ring_Encode),(59,C_commons_Commons_write),(61,C_commons_record_api_Pipe),(62,C_ring_Decode),(63,C_commons_Commons_most),(64,C_ref1_Two),(65,C_ref1_Sum),(66,C_law11_Proc_1),(67,C_kern_Kern_bytes),(68,C_kern_Kern_number),(69,C_commons_record_api_Proc),(70,C_commons_proc),(71,C_pslot_Decode),(72,C_pslot_Encode),(73,C_commons_Commons_blank),(76,C_commons_FrontBytes),(77,C_ref11_PipeBytes),(79,C_mem_Mem_Load),(108,C_commons_record_int),(109,C_commons_FrontOf),(110,C_kern_check),(111,C_kern_frames),(112,C_slices_Clone_s_int_int),(113,C_mem_New),(114,C_caps_New),(115,C_quota_New),(116,C_region_New),(117,C_sect_New),(118,C_region_Regions_Add),(119,C_quota_Quota_First),(120,C_slices_Contains_s_int_int),(121,C_caps_Space_Put),(122,C_ref1_NewQuota),(123,C_ref1_Quota_First),(124,C_ref1_NewSpace),(125,C_ref1_NewSect),(126,C_ref1_Regions_Add),(127,C_ref1_in),(128,C_ref1_Space_Put),(129,C_ref15_FrontBytes),(131,C_ref1_Regions_Write),(140,C_ref1_Space_All),(141,C_caps_Space_is),(142,C_table_Table_api_Cap_Names),(143,C_ring_Codec),(144,C_codec_Codec_api_Pipe_Encode),(145,C_commons_Commons_place),(146,C_commons_Commons_read),(147,C_codec_Blank),(148,C_codec_Codec_api_Pipe_Decode),(149,C_region_Regions_Read),(150,C_region_Regions_Write),(151,C_region_Regions_Copy),(152,C_caps_Space_Grant),(154,C_quota_Quota_Alloc),(155,C_quota_Quota_Free),(156,C_kern_Kern_enter),(157,C_kern_Kern_leave),(158,C_pslot_Codec),(159,C_codec_Codec_api_Proc_Decode),(160,C_codec_Codec_api_Proc_Encode),(163,C_codec_Sum),(164,C_mem_Mem_in),(165,C_slices_Clone_s_byte_byte),(174,C_kern_check_1),(175,C_slices_ContainsFunc_s_int_int),(176,C_kern_share),(177,C_table_New_api_Cap),(178,C_mem_Mem_Size),(179,C_slices_Index_s_int_int),(180,C_caps_Space_Put_1),(181,C_caps_Space_add),(182,C_ref1_NewNames),(183,C_ref1_Within),(184,C_ref1_Space_env),(185,C_ref1_Space_add),(186,C_ref1_Regions_place),(187,C_ref1_Space_Get),(194,C_ref1_Names_All),(195,C_table_Table_api_Cap_name),(196,C_codec_New_api_Pipe),(197,C_ring_put),(198,C_ring_get),(199,C_slices_ContainsFunc_s_byte_byte),(200,C_codec_Blank_1),(201,C_region_Regions_place),(202,C_mem_Mem_Store),(203,C_caps_Space_Get),(206,C_quota_Quota_is),(207,C_quota_Quota_Owns),(208,C_kern_Kern_sect),(209,C_sect_Sect_Enter),(210,C_sect_Sect_Leave),(211,C_codec_New_api_Proc),(212,C_pslot_put),(213,C_pslot_get),(217,C_slices_IndexFunc_s_int_int),(218,C_table_Table_api_Cap_Add),(219,C_ref1_Names_Add),(220,C_ref1_Names_Has),(223,C_ring_Ok),(224,C_slices_Equal_s_byte_byte),(225,C_slices_IndexFunc_s_byte_byte),(226,C_table_Table_api_Cap_Get),(229,C_table_Table_api_Cap_at),(230,C_sect_Sect_Holds),(231,C_pslot_Ok),(232,C_codec_Put2),(233,C_codec_Get2),(235,C_ring_Ok_1),(238,C_pslot_bits),(239,C_pslot_Ok_1)]
def cutsOf : FuncId → Cuts := cutsAt cutsL
noncomputable abbrev CALL : CallFn := NN.Call PR cutsOf
noncomputable abbrev JUMP : RunFn := NN.Jump PR cutsOf
theorem k_law15_CommonsApart : FnOk PR cutsOf F_law15_CommonsApart Tryz.f4 C_law15_CommonsApart T_law15_CommonsApart 3 := ⟨Tryz.func4,⟨_,rfl⟩,by kernel_rfl,rfl,rfl,by kernel_rfl⟩
theorem k_law15_awake : FnOk PR cutsOf F_law15_awake Tryz.f12 C_law15_awake T_law15_awake 0 := ⟨Tryz.func12,⟨_,rfl⟩,by kernel_rfl,rfl,rfl,by kernel_rfl⟩
theorem k_law15_Open : FnOk PR cutsOf F_law15_Open Tryz.f13 C_law15_Open T_law15_Open 1 := ⟨Tryz.func13,⟨_,rfl⟩,by kernel_rfl,rfl,rfl,by kernel_rfl⟩
theorem k_law15_Plan : FnOk PR cutsOf F_law15_Plan Tryz.f14 C_law15_Plan T_law15_Plan 0 := ⟨Tryz.func14,⟨_,rfl⟩,by kernel_rfl,rfl,rfl,by kernel_rfl⟩
theorem k_commons_New : FnOk PR cutsOf F_commons_New Tryz.f15 C_commons_New T_commons_New 2 := ⟨Tryz.func15,⟨_,rfl⟩,by kernel_rfl,rfl,rfl,by kernel_rfl⟩
theorem k_commons_Commons_Bad : FnOk PR cutsOf F_commons_Commons_Bad Tryz.f19 C_commons_Commons_Bad T_commons_Commons_Bad 1 := ⟨Tryz.func19,⟨_,rfl⟩,by kernel_rfl,rfl,rfl,by kernel_rfl⟩
theorem k_ref11_ProcBytes : FnOk PR cutsOf F_ref11_ProcBytes Tryz.f20 C_ref11_ProcBytes T_ref11_ProcBytes 1 := ⟨Tryz.func20,⟨_,rfl⟩,by kernel_rfl,rfl,rfl,by kernel_rfl⟩
theorem k_law11_Proc : FnOk PR cutsOf F_law11_Proc Tryz.f21 C_law11_Proc T_law11_Proc 1 := ⟨Tryz.func21,⟨_,rfl⟩,by kernel_rfl,rfl,rfl,by kernel_rfl⟩
theorem k_kern_Kern_Do : FnOk PR cutsOf F_kern_Kern_Do Tryz.f22 C_kern_Kern_Do T_kern_Kern_Do 3 := ⟨Tryz.func22,⟨_,rfl⟩,by kernel_rfl,rfl,rfl,by kernel_rfl⟩
theorem k_commons_Commons_Proc : FnOk PR cutsOf F_commons_Commons_Proc Tryz.f23 C_commons_Commons_Proc T_commons_Commons_Proc 2 := ⟨Tryz.func23,⟨_,rfl⟩,by kernel_rfl,rfl,rfl,by kernel_rfl⟩
theorem k_commons_Commons_SetProc : FnOk PR cutsOf F_commons_Commons_SetProc Tryz.f24 C_commons_Commons_SetProc T_commons_Commons_SetProc 3 := ⟨Tryz.func24,⟨_,rfl⟩,by kernel_rfl,rfl,rfl,by kernel_rfl⟩
theorem k_commons_Commons_FreeProc : FnOk PR cutsOf F_commons_Commons_FreeProc Tryz.f25 C_commons_Commons_FreeProc T_commons_Commons_FreeProc 2 := ⟨Tryz.func25,⟨_,rfl⟩,by kernel_rfl,rfl,rfl,by kernel_rfl⟩
theorem k_commons_Commons_View : FnOk PR cutsOf F_commons_Commons_View Tryz.f26 C_commons_Commons_View T_commons_Commons_View 1 := ⟨Tryz.func26,⟨_,rfl⟩,by kernel_rfl,rfl,rfl,by kernel_rfl⟩
theorem k_commons_Commons_Term : FnOk PR cutsOf F_commons_Commons_Term Tryz.f48 C_commons_Commons_Term T_commons_Commons_Term 1 := ⟨Tryz.func48,⟨_,rfl⟩,by kernel_rfl,rfl,rfl,by kernel_rfl⟩
theorem k_commons_Commons_Front : FnOk PR cutsOf F_commons_Commons_Front Tryz.f49 C_commons_Commons_Front T_commons_Commons_Front 1 := ⟨Tryz.func49,⟨_,rfl⟩,by kernel_rfl,rfl,rfl,by kernel_rfl⟩
theorem k_ref15_Boot : FnOk PR cutsOf F_ref15_Boot Tryz.f50 C_ref15_Boot T_ref15_Boot 1 := ⟨Tryz.func50,⟨_,rfl⟩,by kernel_rfl,rfl,rfl,by kernel_rfl⟩
theorem k_kern_New : FnOk PR cutsOf F_kern_New Tryz.f51 C_kern_New T_kern_New 1 := ⟨Tryz.func51,⟨_,rfl⟩,by kernel_rfl,rfl,rfl,by kernel_rfl⟩
theorem k_ref1_NewKern : FnOk PR cutsOf F_ref1_NewKern Tryz.f52 C_ref1_NewKern T_ref1_NewKern 1 := ⟨Tryz.func52,⟨_,rfl⟩,by kernel_rfl,rfl,rfl,by kernel_rfl⟩
theorem k_ref15_Blank : FnOk PR cutsOf F_ref15_Blank Tryz.f53 C_ref15_Blank T_ref15_Blank 0 := ⟨Tryz.func53,⟨_,rfl⟩,by kernel_rfl,rfl,rfl,by kernel_rfl⟩
theorem k_ref1_Kern_Do : FnOk PR cutsOf F_ref1_Kern_Do Tryz.f54 C_ref1_Kern_Do T_ref1_Kern_Do 3 := ⟨Tryz.func54,⟨_,rfl⟩,by kernel_rfl,rfl,rfl,by kernel_rfl⟩
theorem k_ref15_NewCommons : FnOk PR cutsOf F_ref15_NewCommons Tryz.f55 C_ref15_NewCommons T_ref15_NewCommons 2 := ⟨Tryz.func55,⟨_,rfl⟩,by kernel_rfl,rfl,rfl,by kernel_rfl⟩
theorem k_kern_Kern_Space : FnOk PR cutsOf F_kern_Kern_Space Tryz.f56 C_kern_Kern_Space T_kern_Kern_Space 1 := ⟨Tryz.func56,⟨_,rfl⟩,by kernel_rfl,rfl,rfl,by kernel_rfl⟩
theorem k_caps_Space_Names : FnOk PR cutsOf F_caps_Space_Names Tryz.f57 C_caps_Space_Names T_caps_Space_Names 2 := ⟨Tryz.func57,⟨_,rfl⟩,by kernel_rfl,rfl,rfl,by kernel_rfl⟩
theorem k_ring_Encode : FnOk PR cutsOf F_ring_Encode Tryz.f58 C_ring_Encode T_ring_Encode 1 := ⟨Tryz.func58,⟨_,rfl⟩,by kernel_rfl,rfl,rfl,by kernel_rfl⟩
theorem k_commons_Commons_write : FnOk PR cutsOf F_commons_Commons_write Tryz.f59 C_commons_Commons_write T_commons_Commons_write 4 := ⟨Tryz.func59,⟨_,rfl⟩,by kernel_rfl,rfl,rfl,by kernel_rfl⟩
theorem k_commons_record_api_Pipe : FnOk PR cutsOf F_commons_record_api_Pipe Tryz.f61 C_commons_record_api_Pipe T_commons_record_api_Pipe 3 := ⟨Tryz.func61,⟨_,rfl⟩,by kernel_rfl,rfl,rfl,by kernel_rfl⟩
theorem k_ring_Decode : FnOk PR cutsOf F_ring_Decode Tryz.f62 C_ring_Decode T_ring_Decode 1 := ⟨Tryz.func62,⟨_,rfl⟩,by kernel_rfl,rfl,rfl,by kernel_rfl⟩
theorem k_commons_Commons_most : FnOk PR cutsOf F_commons_Commons_most Tryz.f63 C_commons_Commons_most T_commons_Commons_most 2 := ⟨Tryz.func63,⟨_,rfl⟩,by kernel_rfl,rfl,rfl,by kernel_rfl⟩
theorem k_ref1_Two : FnOk PR cutsOf F_ref1_Two Tryz.f64 C_ref1_Two T_ref1_Two 1 := ⟨Tryz.func64,⟨_,rfl⟩,by kernel_rfl,rfl,rfl,by kernel_rfl⟩
theorem k_ref1_Sum : FnOk PR cutsOf F_ref1_Sum Tryz.f65 C_ref1_Sum T_ref1_Sum 1 := ⟨Tryz.func65,⟨_,rfl⟩,by kernel_rfl,rfl,rfl,by kernel_rfl⟩
theorem k_law11_Proc_1 : FnOk PR cutsOf F_law11_Proc_1 Tryz.f66 C_law11_Proc_1 T_law11_Proc_1 2 := ⟨Tryz.func66,⟨_,rfl⟩,by kernel_rfl,rfl,rfl,by kernel_rfl⟩
theorem k_kern_Kern_bytes : FnOk PR cutsOf F_kern_Kern_bytes Tryz.f67 C_kern_Kern_bytes T_kern_Kern_bytes 3 := ⟨Tryz.func67,⟨_,rfl⟩,by kernel_rfl,rfl,rfl,by kernel_rfl⟩
theorem k_kern_Kern_number : FnOk PR cutsOf F_kern_Kern_number Tryz.f68 C_kern_Kern_number T_kern_Kern_number 3 := ⟨Tryz.func68,⟨_,rfl⟩,by kernel_rfl,rfl,rfl,by kernel_rfl⟩
theorem k_commons_record_api_Proc : FnOk PR cutsOf F_commons_record_api_Proc Tryz.f69 C_commons_record_api_Proc T_commons_record_api_Proc 3 := ⟨Tryz.func69,⟨_,rfl⟩,by kernel_rfl,rfl,rfl,by kernel_rfl⟩
theorem k_commons_proc : FnOk PR cutsOf F_commons_proc Tryz.f70 C_commons_proc T_commons_proc 1 := ⟨Tryz.func70,⟨_,rfl⟩,by kernel_rfl,rfl,rfl,by kernel_rfl⟩
theorem k_pslot_Decode : FnOk PR cutsOf F_pslot_Decode Tryz.f71 C_pslot_Decode T_pslot_Decode 1 := ⟨Tryz.func71,⟨_,rfl⟩,by kernel_rfl,rfl,rfl,by kernel_rfl⟩
theorem k_pslot_Encode : FnOk PR cutsOf F_pslot_Encode Tryz.f72 C_pslot_Encode T_pslot_Encode 1 := ⟨Tryz.func72,⟨_,rfl⟩,by kernel_rfl,rfl,rfl,by kernel_rfl⟩
theorem k_commons_Commons_blank : FnOk PR cutsOf F_commons_Commons_blank Tryz.f73 C_commons_Commons_blank T_commons_Commons_blank 2 := ⟨Tryz.func73,⟨_,rfl⟩,by kernel_rfl,rfl,rfl,by kernel_rfl⟩
theorem k_commons_FrontBytes : FnOk PR cutsOf F_commons_FrontBytes Tryz.f76 C_commons_FrontBytes T_commons_FrontBytes 1 := ⟨Tryz.func76,⟨_,rfl⟩,by kernel_rfl,rfl,rfl,by kernel_rfl⟩
theorem k_ref11_PipeBytes : FnOk PR cutsOf F_ref11_PipeBytes Tryz.f77 C_ref11_PipeBytes T_ref11_PipeBytes 1 := ⟨Tryz.func77,⟨_,rfl⟩,by kernel_rfl,rfl,rfl,by kernel_rfl⟩
theorem k_mem_Mem_Load : FnOk PR cutsOf F_mem_Mem_Load Tryz.f79 C_mem_Mem_Load T_mem_Mem_Load 3 := ⟨Tryz.func79,⟨_,rfl⟩,by kernel_rfl,rfl,rfl,by kernel_rfl⟩
theorem k_commons_record_int : FnOk PR cutsOf F_commons_record_int Tryz.f108 C_commons_record_int T_commons_record_int 3 := ⟨Tryz.func108,⟨_,rfl⟩,by kernel_rfl,rfl,rfl,by kernel_rfl⟩
theorem k_commons_FrontOf : FnOk PR cutsOf F_commons_FrontOf Tryz.f109 C_commons_FrontOf T_commons_FrontOf 1 := ⟨Tryz.func109,⟨_,rfl⟩,by kernel_rfl,rfl,rfl,by kernel_rfl⟩
theorem k_kern_check : FnOk PR cutsOf F_kern_check Tryz.f110 C_kern_check T_kern_check 1 := ⟨Tryz.func110,⟨_,rfl⟩,by kernel_rfl,rfl,rfl,by kernel_rfl⟩
theorem k_kern_frames : FnOk PR cutsOf F_kern_frames Tryz.f111 C_kern_frames T_kern_frames 1 := ⟨Tryz.func111,⟨_,rfl⟩,by kernel_rfl,rfl,rfl,by kernel_rfl⟩
theorem k_slices_Clone_s_int_int : FnOk PR cutsOf F_slices_Clone_s_int_int Tryz.f112 C_slices_Clone_s_int_int T_slices_Clone_s_int_int 1 := ⟨Tryz.func112,⟨_,rfl⟩,by kernel_rfl,rfl,rfl,by kernel_rfl⟩
theorem k_mem_New : FnOk PR cutsOf F_mem_New Tryz.f113 C_mem_New T_mem_New 1 := ⟨Tryz.func113,⟨_,rfl⟩,by kernel_rfl,rfl,rfl,by kernel_rfl⟩
theorem k_caps_New : FnOk PR cutsOf F_caps_New Tryz.f114 C_caps_New T_caps_New 1 := ⟨Tryz.func114,⟨_,rfl⟩,by kernel_rfl,rfl,rfl,by kernel_rfl⟩
theorem k_quota_New : FnOk PR cutsOf F_quota_New Tryz.f115 C_quota_New T_quota_New 1 := ⟨Tryz.func115,⟨_,rfl⟩,by kernel_rfl,rfl,rfl,by kernel_rfl⟩
theorem k_region_New : FnOk PR cutsOf F_region_New Tryz.f116 C_region_New T_region_New 2 := ⟨Tryz.func116,⟨_,rfl⟩,by kernel_rfl,rfl,rfl,by kernel_rfl⟩
theorem k_sect_New : FnOk PR cutsOf F_sect_New Tryz.f117 C_sect_New T_sect_New 1 := ⟨Tryz.func117,⟨_,rfl⟩,by kernel_rfl,rfl,rfl,by kernel_rfl⟩
theorem k_region_Regions_Add : FnOk PR cutsOf F_region_Regions_Add Tryz.f118 C_region_Regions_Add T_region_Regions_Add 3 := ⟨Tryz.func118,⟨_,rfl⟩,by kernel_rfl,rfl,rfl,by kernel_rfl⟩
theorem k_quota_Quota_First : FnOk PR cutsOf F_quota_Quota_First Tryz.f119 C_quota_Quota_First T_quota_Quota_First 2 := ⟨Tryz.func119,⟨_,rfl⟩,by kernel_rfl,rfl,rfl,by kernel_rfl⟩
theorem k_slices_Contains_s_int_int : FnOk PR cutsOf F_slices_Contains_s_int_int Tryz.f120 C_slices_Contains_s_int_int T_slices_Contains_s_int_int 2 := ⟨Tryz.func120,⟨_,rfl⟩,by kernel_rfl,rfl,rfl,by kernel_rfl⟩
theorem k_caps_Space_Put : FnOk PR cutsOf F_caps_Space_Put Tryz.f121 C_caps_Space_Put T_caps_Space_Put 3 := ⟨Tryz.func121,⟨_,rfl⟩,by kernel_rfl,rfl,rfl,by kernel_rfl⟩
theorem k_ref1_NewQuota : FnOk PR cutsOf F_ref1_NewQuota Tryz.f122 C_ref1_NewQuota T_ref1_NewQuota 1 := ⟨Tryz.func122,⟨_,rfl⟩,by kernel_rfl,rfl,rfl,by kernel_rfl⟩
theorem k_ref1_Quota_First : FnOk PR cutsOf F_ref1_Quota_First Tryz.f123 C_ref1_Quota_First T_ref1_Quota_First 2 := ⟨Tryz.func123,⟨_,rfl⟩,by kernel_rfl,rfl,rfl,by kernel_rfl⟩
theorem k_ref1_NewSpace : FnOk PR cutsOf F_ref1_NewSpace Tryz.f124 C_ref1_NewSpace T_ref1_NewSpace 1 := ⟨Tryz.func124,⟨_,rfl⟩,by kernel_rfl,rfl,rfl,by kernel_rfl⟩
theorem k_ref1_NewSect : FnOk PR cutsOf F_ref1_NewSect Tryz.f125 C_ref1_NewSect T_ref1_NewSect 1 := ⟨Tryz.func125,⟨_,rfl⟩,by kernel_rfl,rfl,rfl,by kernel_rfl⟩
theorem k_ref1_Regions_Add : FnOk PR cutsOf F_ref1_Regions_Add Tryz.f126 C_ref1_Regions_Add T_ref1_Regions_Add 3 := ⟨Tryz.func126,⟨_,rfl⟩,by kernel_rfl,rfl,rfl,by kernel_rfl⟩
theorem k_ref1_in : FnOk PR cutsOf F_ref1_in Tryz.f127 C_ref1_in T_ref1_in 2 := ⟨Tryz.func127,⟨_,rfl⟩,by kernel_rfl,rfl,rfl,by kernel_rfl⟩
theorem k_ref1_Space_Put : FnOk PR cutsOf F_ref1_Space_Put Tryz.f128 C_ref1_Space_Put T_ref1_Space_Put 3 := ⟨Tryz.func128,⟨_,rfl⟩,by kernel_rfl,rfl,rfl,by kernel_rfl⟩
theorem k_ref15_FrontBytes : FnOk PR cutsOf F_ref15_FrontBytes Tryz.f129 C_ref15_FrontBytes T_ref15_FrontBytes 1 := ⟨Tryz.func129,⟨_,rfl⟩,by kernel_rfl,rfl,rfl,by kernel_rfl⟩
theorem k_ref1_Regions_Write : FnOk PR cutsOf F_ref1_Regions_Write Tryz.f131 C_ref1_Regions_Write T_ref1_Regions_Write 5 := ⟨Tryz.func131,⟨_,rfl⟩,by kernel_rfl,rfl,rfl,by kernel_rfl⟩
theorem k_ref1_Space_All : FnOk PR cutsOf F_ref1_Space_All Tryz.f140 C_ref1_Space_All T_ref1_Space_All 2 := ⟨Tryz.func140,⟨_,rfl⟩,by kernel_rfl,rfl,rfl,by kernel_rfl⟩
theorem k_caps_Space_is : FnOk PR cutsOf F_caps_Space_is Tryz.f141 C_caps_Space_is T_caps_Space_is 2 := ⟨Tryz.func141,⟨_,rfl⟩,by kernel_rfl,rfl,rfl,by kernel_rfl⟩
theorem k_table_Table_api_Cap_Names : FnOk PR cutsOf F_table_Table_api_Cap_Names Tryz.f142 C_table_Table_api_Cap_Names T_table_Table_api_Cap_Names 1 := ⟨Tryz.func142,⟨_,rfl⟩,by kernel_rfl,rfl,rfl,by kernel_rfl⟩
theorem k_ring_Codec : FnOk PR cutsOf F_ring_Codec Tryz.f143 C_ring_Codec T_ring_Codec 0 := ⟨Tryz.func143,⟨_,rfl⟩,by kernel_rfl,rfl,rfl,by kernel_rfl⟩
theorem k_codec_Codec_api_Pipe_Encode : FnOk PR cutsOf F_codec_Codec_api_Pipe_Encode Tryz.f144 C_codec_Codec_api_Pipe_Encode T_codec_Codec_api_Pipe_Encode 2 := ⟨Tryz.func144,⟨_,rfl⟩,by kernel_rfl,rfl,rfl,by kernel_rfl⟩
theorem k_commons_Commons_place : FnOk PR cutsOf F_commons_Commons_place Tryz.f145 C_commons_Commons_place T_commons_Commons_place 2 := ⟨Tryz.func145,⟨_,rfl⟩,by kernel_rfl,rfl,rfl,by kernel_rfl⟩
theorem k_commons_Commons_read : FnOk PR cutsOf F_commons_Commons_read Tryz.f146 C_commons_Commons_read T_commons_Commons_read 2 := ⟨Tryz.func146,⟨_,rfl⟩,by kernel_rfl,rfl,rfl,by kernel_rfl⟩
theorem k_codec_Blank : FnOk PR cutsOf F_codec_Blank Tryz.f147 C_codec_Blank T_codec_Blank 1 := ⟨Tryz.func147,⟨_,rfl⟩,by kernel_rfl,rfl,rfl,by kernel_rfl⟩
theorem k_codec_Codec_api_Pipe_Decode : FnOk PR cutsOf F_codec_Codec_api_Pipe_Decode Tryz.f148 C_codec_Codec_api_Pipe_Decode T_codec_Codec_api_Pipe_Decode 2 := ⟨Tryz.func148,⟨_,rfl⟩,by kernel_rfl,rfl,rfl,by kernel_rfl⟩
theorem k_region_Regions_Read : FnOk PR cutsOf F_region_Regions_Read Tryz.f149 C_region_Regions_Read T_region_Regions_Read 5 := ⟨Tryz.func149,⟨_,rfl⟩,by kernel_rfl,rfl,rfl,by kernel_rfl⟩
theorem k_region_Regions_Write : FnOk PR cutsOf F_region_Regions_Write Tryz.f150 C_region_Regions_Write T_region_Regions_Write 5 := ⟨Tryz.func150,⟨_,rfl⟩,by kernel_rfl,rfl,rfl,by kernel_rfl⟩
theorem k_region_Regions_Copy : FnOk PR cutsOf F_region_Regions_Copy Tryz.f151 C_region_Regions_Copy T_region_Regions_Copy 7 := ⟨Tryz.func151,⟨_,rfl⟩,by kernel_rfl,rfl,rfl,by kernel_rfl⟩
theorem k_caps_Space_Grant : FnOk PR cutsOf F_caps_Space_Grant Tryz.f152 C_caps_Space_Grant T_caps_Space_Grant 7 := ⟨Tryz.func152,⟨_,rfl⟩,by kernel_rfl,rfl,rfl,by kernel_rfl⟩
theorem k_quota_Quota_Alloc : FnOk PR cutsOf F_quota_Quota_Alloc Tryz.f154 C_quota_Quota_Alloc T_quota_Quota_Alloc 2 := ⟨Tryz.func154,⟨_,rfl⟩,by kernel_rfl,rfl,rfl,by kernel_rfl⟩
theorem k_quota_Quota_Free : FnOk PR cutsOf F_quota_Quota_Free Tryz.f155 C_quota_Quota_Free T_quota_Quota_Free 3 := ⟨Tryz.func155,⟨_,rfl⟩,by kernel_rfl,rfl,rfl,by kernel_rfl⟩
theorem k_kern_Kern_enter : FnOk PR cutsOf F_kern_Kern_enter Tryz.f156 C_kern_Kern_enter T_kern_Kern_enter 3 := ⟨Tryz.func156,⟨_,rfl⟩,by kernel_rfl,rfl,rfl,by kernel_rfl⟩
theorem k_kern_Kern_leave : FnOk PR cutsOf F_kern_Kern_leave Tryz.f157 C_kern_Kern_leave T_kern_Kern_leave 3 := ⟨Tryz.func157,⟨_,rfl⟩,by kernel_rfl,rfl,rfl,by kernel_rfl⟩
theorem k_pslot_Codec : FnOk PR cutsOf F_pslot_Codec Tryz.f158 C_pslot_Codec T_pslot_Codec 0 := ⟨Tryz.func158,⟨_,rfl⟩,by kernel_rfl,rfl,rfl,by kernel_rfl⟩
theorem k_codec_Codec_api_Proc_Decode : FnOk PR cutsOf F_codec_Codec_api_Proc_Decode Tryz.f159 C_codec_Codec_api_Proc_Decode T_codec_Codec_api_Proc_Decode 2 := ⟨Tryz.func159,⟨_,rfl⟩,by kernel_rfl,rfl,rfl,by kernel_rfl⟩
theorem k_codec_Codec_api_Proc_Encode : FnOk PR cutsOf F_codec_Codec_api_Proc_Encode Tryz.f160 C_codec_Codec_api_Proc_Encode T_codec_Codec_api_Proc_Encode 2 := ⟨Tryz.func160,⟨_,rfl⟩,by kernel_rfl,rfl,rfl,by kernel_rfl⟩
theorem k_codec_Sum : FnOk PR cutsOf F_codec_Sum Tryz.f163 C_codec_Sum T_codec_Sum 1 := ⟨Tryz.func163,⟨_,rfl⟩,by kernel_rfl,rfl,rfl,by kernel_rfl⟩
theorem k_mem_Mem_in : FnOk PR cutsOf F_mem_Mem_in Tryz.f164 C_mem_Mem_in T_mem_Mem_in 3 := ⟨Tryz.func164,⟨_,rfl⟩,by kernel_rfl,rfl,rfl,by kernel_rfl⟩
theorem k_slices_Clone_s_byte_byte : FnOk PR cutsOf F_slices_Clone_s_byte_byte Tryz.f165 C_slices_Clone_s_byte_byte T_slices_Clone_s_byte_byte 1 := ⟨Tryz.func165,⟨_,rfl⟩,by kernel_rfl,rfl,rfl,by kernel_rfl⟩
theorem k_kern_check_1 : FnOk PR cutsOf F_kern_check_1 Tryz.f174 C_kern_check_1 T_kern_check_1 2 := ⟨Tryz.func174,⟨_,rfl⟩,by kernel_rfl,rfl,rfl,by kernel_rfl⟩
theorem k_slices_ContainsFunc_s_int_int : FnOk PR cutsOf F_slices_ContainsFunc_s_int_int Tryz.f175 C_slices_ContainsFunc_s_int_int T_slices_ContainsFunc_s_int_int 2 := ⟨Tryz.func175,⟨_,rfl⟩,by kernel_rfl,rfl,rfl,by kernel_rfl⟩
theorem k_kern_share : FnOk PR cutsOf F_kern_share Tryz.f176 C_kern_share T_kern_share 2 := ⟨Tryz.func176,⟨_,rfl⟩,by kernel_rfl,rfl,rfl,by kernel_rfl⟩
theorem k_table_New_api_Cap : FnOk PR cutsOf F_table_New_api_Cap Tryz.f177 C_table_New_api_Cap T_table_New_api_Cap 1 := ⟨Tryz.func177,⟨_,rfl⟩,by kernel_rfl,rfl,rfl,by kernel_rfl⟩
theorem k_mem_Mem_Size : FnOk PR cutsOf F_mem_Mem_Size Tryz.f178 C_mem_Mem_Size T_mem_Mem_Size 1 := ⟨Tryz.func178,⟨_,rfl⟩,by kernel_rfl,rfl,rfl,by kernel_rfl⟩
theorem k_slices_Index_s_int_int : FnOk PR cutsOf F_slices_Index_s_int_int Tryz.f179 C_slices_Index_s_int_int T_slices_Index_s_int_int 2 := ⟨Tryz.func179,⟨_,rfl⟩,by kernel_rfl,rfl,rfl,by kernel_rfl⟩
theorem k_caps_Space_Put_1 : FnOk PR cutsOf F_caps_Space_Put_1 Tryz.f180 C_caps_Space_Put_1 T_caps_Space_Put_1 1 := ⟨Tryz.func180,⟨_,rfl⟩,by kernel_rfl,rfl,rfl,by kernel_rfl⟩
theorem k_caps_Space_add : FnOk PR cutsOf F_caps_Space_add Tryz.f181 C_caps_Space_add T_caps_Space_add 3 := ⟨Tryz.func181,⟨_,rfl⟩,by kernel_rfl,rfl,rfl,by kernel_rfl⟩
theorem k_ref1_NewNames : FnOk PR cutsOf F_ref1_NewNames Tryz.f182 C_ref1_NewNames T_ref1_NewNames 1 := ⟨Tryz.func182,⟨_,rfl⟩,by kernel_rfl,rfl,rfl,by kernel_rfl⟩
theorem k_ref1_Within : FnOk PR cutsOf F_ref1_Within Tryz.f183 C_ref1_Within T_ref1_Within 3 := ⟨Tryz.func183,⟨_,rfl⟩,by kernel_rfl,rfl,rfl,by kernel_rfl⟩
theorem k_ref1_Space_env : FnOk PR cutsOf F_ref1_Space_env Tryz.f184 C_ref1_Space_env T_ref1_Space_env 2 := ⟨Tryz.func184,⟨_,rfl⟩,by kernel_rfl,rfl,rfl,by kernel_rfl⟩
theorem k_ref1_Space_add : FnOk PR cutsOf F_ref1_Space_add Tryz.f185 C_ref1_Space_add T_ref1_Space_add 3 := ⟨Tryz.func185,⟨_,rfl⟩,by kernel_rfl,rfl,rfl,by kernel_rfl⟩
theorem k_ref1_Regions_place : FnOk PR cutsOf F_ref1_Regions_place Tryz.f186 C_ref1_Regions_place T_ref1_Regions_place 6 := ⟨Tryz.func186,⟨_,rfl⟩,by kernel_rfl,rfl,rfl,by kernel_rfl⟩
theorem k_ref1_Space_Get : FnOk PR cutsOf F_ref1_Space_Get Tryz.f187 C_ref1_Space_Get T_ref1_Space_Get 3 := ⟨Tryz.func187,⟨_,rfl⟩,by kernel_rfl,rfl,rfl,by kernel_rfl⟩
theorem k_ref1_Names_All : FnOk PR cutsOf F_ref1_Names_All Tryz.f194 C_ref1_Names_All T_ref1_Names_All 1 := ⟨Tryz.func194,⟨_,rfl⟩,by kernel_rfl,rfl,rfl,by kernel_rfl⟩
theorem k_table_Table_api_Cap_name : FnOk PR cutsOf F_table_Table_api_Cap_name Tryz.f195 C_table_Table_api_Cap_name T_table_Table_api_Cap_name 2 := ⟨Tryz.func195,⟨_,rfl⟩,by kernel_rfl,rfl,rfl,by kernel_rfl⟩
theorem k_codec_New_api_Pipe : FnOk PR cutsOf F_codec_New_api_Pipe Tryz.f196 C_codec_New_api_Pipe T_codec_New_api_Pipe 3 := ⟨Tryz.func196,⟨_,rfl⟩,by kernel_rfl,rfl,rfl,by kernel_rfl⟩
theorem k_ring_put : FnOk PR cutsOf F_ring_put Tryz.f197 C_ring_put T_ring_put 2 := ⟨Tryz.func197,⟨_,rfl⟩,by kernel_rfl,rfl,rfl,by kernel_rfl⟩
theorem k_ring_get : FnOk PR cutsOf F_ring_get Tryz.f198 C_ring_get T_ring_get 1 := ⟨Tryz.func198,⟨_,rfl⟩,by kernel_rfl,rfl,rfl,by kernel_rfl⟩
theorem k_slices_ContainsFunc_s_byte_byte : FnOk PR cutsOf F_slices_ContainsFunc_s_byte_byte Tryz.f199 C_slices_ContainsFunc_s_byte_byte T_slices_ContainsFunc_s_byte_byte 2 := ⟨Tryz.func199,⟨_,rfl⟩,by kernel_rfl,rfl,rfl,by kernel_rfl⟩
theorem k_codec_Blank_1 : FnOk PR cutsOf F_codec_Blank_1 Tryz.f200 C_codec_Blank_1 T_codec_Blank_1 1 := ⟨Tryz.func200,⟨_,rfl⟩,by kernel_rfl,rfl,rfl,by kernel_rfl⟩
theorem k_region_Regions_place : FnOk PR cutsOf F_region_Regions_place Tryz.f201 C_region_Regions_place T_region_Regions_place 6 := ⟨Tryz.func201,⟨_,rfl⟩,by kernel_rfl,rfl,rfl,by kernel_rfl⟩
theorem k_mem_Mem_Store : FnOk PR cutsOf F_mem_Mem_Store Tryz.f202 C_mem_Mem_Store T_mem_Mem_Store 3 := ⟨Tryz.func202,⟨_,rfl⟩,by kernel_rfl,rfl,rfl,by kernel_rfl⟩
theorem k_caps_Space_Get : FnOk PR cutsOf F_caps_Space_Get Tryz.f203 C_caps_Space_Get T_caps_Space_Get 3 := ⟨Tryz.func203,⟨_,rfl⟩,by kernel_rfl,rfl,rfl,by kernel_rfl⟩
theorem k_quota_Quota_is : FnOk PR cutsOf F_quota_Quota_is Tryz.f206 C_quota_Quota_is T_quota_Quota_is 2 := ⟨Tryz.func206,⟨_,rfl⟩,by kernel_rfl,rfl,rfl,by kernel_rfl⟩
theorem k_quota_Quota_Owns : FnOk PR cutsOf F_quota_Quota_Owns Tryz.f207 C_quota_Quota_Owns T_quota_Quota_Owns 3 := ⟨Tryz.func207,⟨_,rfl⟩,by kernel_rfl,rfl,rfl,by kernel_rfl⟩
theorem k_kern_Kern_sect : FnOk PR cutsOf F_kern_Kern_sect Tryz.f208 C_kern_Kern_sect T_kern_Kern_sect 3 := ⟨Tryz.func208,⟨_,rfl⟩,by kernel_rfl,rfl,rfl,by kernel_rfl⟩
theorem k_sect_Sect_Enter : FnOk PR cutsOf F_sect_Sect_Enter Tryz.f209 C_sect_Sect_Enter T_sect_Sect_Enter 3 := ⟨Tryz.func209,⟨_,rfl⟩,by kernel_rfl,rfl,rfl,by kernel_rfl⟩
theorem k_sect_Sect_Leave : FnOk PR cutsOf F_sect_Sect_Leave Tryz.f210 C_sect_Sect_Leave T_sect_Sect_Leave 3 := ⟨Tryz.func210,⟨_,rfl⟩,by kernel_rfl,rfl,rfl,by kernel_rfl⟩
theorem k_codec_New_api_Proc : FnOk PR cutsOf F_codec_New_api_Proc Tryz.f211 C_codec_New_api_Proc T_codec_New_api_Proc 3 := ⟨Tryz.func211,⟨_,rfl⟩,by kernel_rfl,rfl,rfl,by kernel_rfl⟩
theorem k_pslot_put : FnOk PR cutsOf F_pslot_put Tryz.f212 C_pslot_put T_pslot_put 2 := ⟨Tryz.func212,⟨_,rfl⟩,by kernel_rfl,rfl,rfl,by kernel_rfl⟩
theorem k_pslot_get : FnOk PR cutsOf F_pslot_get Tryz.f213 C_pslot_get T_pslot_get 1 := ⟨Tryz.func213,⟨_,rfl⟩,by kernel_rfl,rfl,rfl,by kernel_rfl⟩
theorem k_slices_IndexFunc_s_int_int : FnOk PR cutsOf F_slices_IndexFunc_s_int_int Tryz.f217 C_slices_IndexFunc_s_int_int T_slices_IndexFunc_s_int_int 2 := ⟨Tryz.func217,⟨_,rfl⟩,by kernel_rfl,rfl,rfl,by kernel_rfl⟩
theorem k_table_Table_api_Cap_Add : FnOk PR cutsOf F_table_Table_api_Cap_Add Tryz.f218 C_table_Table_api_Cap_Add T_table_Table_api_Cap_Add 2 := ⟨Tryz.func218,⟨_,rfl⟩,by kernel_rfl,rfl,rfl,by kernel_rfl⟩
theorem k_ref1_Names_Add : FnOk PR cutsOf F_ref1_Names_Add Tryz.f219 C_ref1_Names_Add T_ref1_Names_Add 1 := ⟨Tryz.func219,⟨_,rfl⟩,by kernel_rfl,rfl,rfl,by kernel_rfl⟩
theorem k_ref1_Names_Has : FnOk PR cutsOf F_ref1_Names_Has Tryz.f220 C_ref1_Names_Has T_ref1_Names_Has 2 := ⟨Tryz.func220,⟨_,rfl⟩,by kernel_rfl,rfl,rfl,by kernel_rfl⟩
theorem k_ring_Ok : FnOk PR cutsOf F_ring_Ok Tryz.f223 C_ring_Ok T_ring_Ok 1 := ⟨Tryz.func223,⟨_,rfl⟩,by kernel_rfl,rfl,rfl,by kernel_rfl⟩
theorem k_slices_Equal_s_byte_byte : FnOk PR cutsOf F_slices_Equal_s_byte_byte Tryz.f224 C_slices_Equal_s_byte_byte T_slices_Equal_s_byte_byte 2 := ⟨Tryz.func224,⟨_,rfl⟩,by kernel_rfl,rfl,rfl,by kernel_rfl⟩
theorem k_slices_IndexFunc_s_byte_byte : FnOk PR cutsOf F_slices_IndexFunc_s_byte_byte Tryz.f225 C_slices_IndexFunc_s_byte_byte T_slices_IndexFunc_s_byte_byte 2 := ⟨Tryz.func225,⟨_,rfl⟩,by kernel_rfl,rfl,rfl,by kernel_rfl⟩
theorem k_table_Table_api_Cap_Get : FnOk PR cutsOf F_table_Table_api_Cap_Get Tryz.f226 C_table_Table_api_Cap_Get T_table_Table_api_Cap_Get 2 := ⟨Tryz.func226,⟨_,rfl⟩,by kernel_rfl,rfl,rfl,by kernel_rfl⟩
theorem k_table_Table_api_Cap_at : FnOk PR cutsOf F_table_Table_api_Cap_at Tryz.f229 C_table_Table_api_Cap_at T_table_Table_api_Cap_at 2 := ⟨Tryz.func229,⟨_,rfl⟩,by kernel_rfl,rfl,rfl,by kernel_rfl⟩
theorem k_sect_Sect_Holds : FnOk PR cutsOf F_sect_Sect_Holds Tryz.f230 C_sect_Sect_Holds T_sect_Sect_Holds 3 := ⟨Tryz.func230,⟨_,rfl⟩,by kernel_rfl,rfl,rfl,by kernel_rfl⟩
theorem k_pslot_Ok : FnOk PR cutsOf F_pslot_Ok Tryz.f231 C_pslot_Ok T_pslot_Ok 1 := ⟨Tryz.func231,⟨_,rfl⟩,by kernel_rfl,rfl,rfl,by kernel_rfl⟩
theorem k_codec_Put2 : FnOk PR cutsOf F_codec_Put2 Tryz.f232 C_codec_Put2 T_codec_Put2 3 := ⟨Tryz.func232,⟨_,rfl⟩,by kernel_rfl,rfl,rfl,by kernel_rfl⟩
theorem k_codec_Get2 : FnOk PR cutsOf F_codec_Get2 Tryz.f233 C_codec_Get2 T_codec_Get2 2 := ⟨Tryz.func233,⟨_,rfl⟩,by kernel_rfl,rfl,rfl,by kernel_rfl⟩
theorem k_ring_Ok_1 : FnOk PR cutsOf F_ring_Ok_1 Tryz.f235 C_ring_Ok_1 T_ring_Ok_1 2 := ⟨Tryz.func235,⟨_,rfl⟩,by kernel_rfl,rfl,rfl,by kernel_rfl⟩
theorem k_pslot_bits : FnOk PR cutsOf F_pslot_bits Tryz.f238 C_pslot_bits T_pslot_bits 2 := ⟨Tryz.func238,⟨_,rfl⟩,by kernel_rfl,rfl,rfl,by kernel_rfl⟩
theorem k_pslot_Ok_1 : FnOk PR cutsOf F_pslot_Ok_1 Tryz.f239 C_pslot_Ok_1 T_pslot_Ok_1 1 := ⟨Tryz.func239,⟨_,rfl⟩,by kernel_rfl,rfl,rfl,by kernel_rfl⟩
end
end Go.EQ

namespace Go.EQ
open Go Go.NN Go.Proofs
theorem u_int : type_of% Tryz.underlying3 := Tryz.underlying3
theorem u_bool : type_of% Tryz.underlying4 := Tryz.underlying4
theorem u_s_int : type_of% Tryz.underlying48 := Tryz.underlying48
end Go.EQ

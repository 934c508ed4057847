/- For every list of numbers and all numbers the law KernCaps of layer 8 returns true and leaves its arguments as they were. No condition. -/
import Derived.Test.YtkoigngajoefkaaMc
import Derived.Test.YtkoigngajoefkaaProg
import Derived.KernelRfl
set_option linter.unusedVariables false
set_option linter.unusedSimpArgs false
set_option linter.unusedSectionVars false
namespace Go.EQ
open Go Go.NN Go.Proofs
noncomputable abbrev PR : Program := Try.prog
abbrev F_law8_KernCaps : FuncId := 6
abbrev F_kern_New : FuncId := 8
abbrev F_kern_Kern_Do : FuncId := 9
abbrev F_law8_awake : FuncId := 10
abbrev F_kern_Kern_Now : FuncId := 12
abbrev F_law8_Boot : FuncId := 13
abbrev F_kern_Kern_Space : FuncId := 14
abbrev F_caps_Space_Names : FuncId := 15
abbrev F_caps_Space_Get : FuncId := 16
abbrev F_sect_Sect_Holds : FuncId := 19
abbrev F_kern_check : FuncId := 20
abbrev F_kern_frames : FuncId := 21
abbrev F_slices_Clone_s_int_int : FuncId := 22
abbrev F_mem_New : FuncId := 23
abbrev F_caps_New : FuncId := 24
abbrev F_quota_New : FuncId := 25
abbrev F_region_New : FuncId := 26
abbrev F_sect_New : FuncId := 27
abbrev F_region_Regions_Add : FuncId := 28
abbrev F_quota_Quota_First : FuncId := 29
abbrev F_slices_Contains_s_int_int : FuncId := 30
abbrev F_caps_Space_Put : FuncId := 31
abbrev F_kern_Kern_bytes : FuncId := 32
abbrev F_kern_Kern_number : FuncId := 33
abbrev F_law8_Boot_1 : FuncId := 34
abbrev F_caps_Space_is : FuncId := 35
abbrev F_table_Table_api_Cap_Names : FuncId := 36
abbrev F_table_Table_api_Cap_Get : FuncId := 37
abbrev F_kern_check_1 : FuncId := 38
abbrev F_slices_ContainsFunc_s_int_int : FuncId := 39
abbrev F_kern_share : FuncId := 40
abbrev F_table_New_api_Cap : FuncId := 41
abbrev F_mem_Mem_Size : FuncId := 42
abbrev F_slices_Index_s_int_int : FuncId := 43
abbrev F_caps_Space_Put_1 : FuncId := 44
abbrev F_caps_Space_add : FuncId := 45
abbrev F_region_Regions_Read : FuncId := 46
abbrev F_region_Regions_Write : FuncId := 47
abbrev F_region_Regions_Copy : FuncId := 48
abbrev F_caps_Space_Grant : FuncId := 49
abbrev F_caps_Space_Revoke : FuncId := 50
abbrev F_quota_Quota_Alloc : FuncId := 51
abbrev F_quota_Quota_Free : FuncId := 52
abbrev F_kern_Kern_enter : FuncId := 53
abbrev F_kern_Kern_leave : FuncId := 54
abbrev F_table_Table_api_Cap_name : FuncId := 55
abbrev F_table_Table_api_Cap_at : FuncId := 56
abbrev F_slices_IndexFunc_s_int_int : FuncId := 57
abbrev F_table_Table_api_Cap_Add : FuncId := 58
abbrev F_region_Regions_place : FuncId := 59
abbrev F_mem_Mem_Load : FuncId := 60
abbrev F_mem_Mem_Store : FuncId := 61
abbrev F_quota_Quota_is : FuncId := 64
abbrev F_quota_Quota_Owns : FuncId := 65
abbrev F_kern_Kern_sect : FuncId := 66
abbrev F_sect_Sect_Enter : FuncId := 67
abbrev F_sect_Sect_Leave : FuncId := 68
abbrev F_mem_Mem_in : FuncId := 69
abbrev F_slices_Clone_s_byte_byte : FuncId := 70
abbrev Y_int : TypeId := 3
abbrev Y_uint8 : TypeId := 5
abbrev Y_s_int : TypeId := 23
abbrev Y_api_Boot : TypeId := 31
abbrev Y_api_Call : TypeId := 36
abbrev Y_api_Answer : TypeId := 40
abbrev Y_api_Share : TypeId := 45
abbrev Y_api_Cap : TypeId := 57
abbrev Y_p_sect_Sect : TypeId := 62
abbrev Y_kern_Kern : TypeId := 77
abbrev Y_p_table_Table_api_Cap : TypeId := 87
abbrev Y_caps_Space : TypeId := 90
abbrev Y_sect_Sect : TypeId := 95
abbrev Y_mem_Mem : TypeId := 99
abbrev Y_quota_Quota : TypeId := 102
abbrev Y_region_Regions : TypeId := 105
abbrev Y_region_span : TypeId := 107
abbrev Y_table_Table_api_Cap : TypeId := 119
abbrev Y_table_place_api_Cap : TypeId := 121
end Go.EQ

set_option maxRecDepth 100000
set_option linter.unusedVariables false
namespace Go.EQ
open Go Go.NN Go.Proofs
def C_kern_Kern_Do : Cuts := { globs := 0, loops := [], regs := [], plans := [] }
noncomputable def T_kern_Kern_Do : List Item := bodyOf Try.f9
theorem e_kern_Kern_Do (call : CallFn) (run : RunFn) (k : Option Addr) (env : Int) (c : List Value) (h : H) :
  exec PR C_kern_Kern_Do call run F_kern_Kern_Do Try.f9 100000 true T_kern_Kern_Do [(0, .pointer k), (1, .int .i64 env), (2, .agg ⟨c⟩)] h =
  nw (.cells Y_api_Call false c) h fun b hv => nw (.cells Y_api_Answer false [.int .i64 0, .int .i64 0, .slice none 0 0]) hv fun b_1 hv_1 => bnd (cond (decide (env < 0)) (some (true, hv_1)) (aSome k fun p => gSl (Addr.add p 0) hv_1 fun _ xn _ => some (decide (env ≥ ((xn : Nat) : Int)), hv_1))) fun c_1 hv_2 => cond c_1
  (pAgg ⟨b_1, 0, none⟩ [.int .i64 1, .int .i64 0, .slice none 0 0] hv_2 fun hv_3 => gAgg ⟨b_1, 0, none⟩ 3 hv_3 fun x_1 => some (.agg ⟨x_1⟩, hv_3))
  (gAgg ⟨b, 0, none⟩ 7 hv_2 fun x_2 => bnd (call F_kern_Kern_bytes [.pointer k, .int .i64 env, .agg ⟨x_2⟩] hv_2) fun r hv_4 => as3 r fun r_1 r_2 r_3 => aSl r_1 fun x_3 xn_1 xc_1 => aInt .i64 r_2 fun x_4 => aBool r_3 fun x_5 => cond x_5
  (pAgg ⟨b_1, 0, none⟩ [.int .i64 x_4, .int .i64 0, .slice x_3 xn_1 xc_1] hv_4 fun hv_5 => gAgg ⟨b_1, 0, none⟩ 3 hv_5 fun x_6 => some (.agg ⟨x_6⟩, hv_5))
  (gAgg ⟨b, 0, none⟩ 7 hv_4 fun x_7 => bnd (call F_kern_Kern_number [.pointer k, .int .i64 env, .agg ⟨x_7⟩] hv_4) fun r_4 hv_6 => as2 r_4 fun r_5 r_6 => aInt .i64 r_5 fun x_8 => aInt .i64 r_6 fun x_9 => pAgg ⟨b_1, 0, none⟩ [.int .i64 x_9, .int .i64 x_8, .slice none 0 0] hv_6 fun hv_7 => gAgg ⟨b_1, 0, none⟩ 3 hv_7 fun x_10 => some (.agg ⟨x_10⟩, hv_7))) := by kernel_rfl
def C_sect_Sect_Holder : Cuts := { globs := 0, loops := [], regs := [], plans := [(3, ⟨[0, 1, 2, 3, 4, 5, 6, 7, 8, 9, 10, 11, 12, 13, 14, 15], [0, 1, 3, 7, 0, 16, 48, 112, 0, 256, 768, 1792, 15, 4351, 16383, 32767], [], []⟩)] }
def C_sect_Sect_Holds : Cuts := { globs := 0, loops := [], regs := [], plans := [] }
noncomputable def T_sect_Sect_Holds : List Item := bodyOf Try.f19
theorem e_sect_Sect_Holds (call : CallFn) (run : RunFn) (s : Option Addr) (who : Int) (stamp : Int) (h : H) :
  exec PR C_sect_Sect_Holds call run F_sect_Sect_Holds Try.f19 100000 true T_sect_Sect_Holds [(0, .pointer s), (1, .int .i64 who), (2, .int .i64 stamp)] h =
  aSome s fun p => gBool (Addr.add p 1) h fun x => bnd (cond x (aSome s fun p_1 => gInt .i64 (Addr.add p_1 2) h fun x_1 => some (x_1 == who, h)) (some (false, h))) fun c hv => bnd (cond c (aSome s fun p_2 => gInt .i64 (Addr.add p_2 3) hv fun x_2 => some (x_2 == stamp, hv)) (some (false, hv))) fun c_1 hv_1 => some (.bool c_1, hv_1) := by kernel_rfl
def C_kern_frames : Cuts := { globs := 0, loops := [], regs := [], plans := [] }
noncomputable def T_kern_frames : List Item := bodyOf Try.f21
theorem e_kern_frames (call : CallFn) (run : RunFn) (n : Int) (h : H) :
  exec PR C_kern_frames call run F_kern_frames Try.f21 100000 true T_kern_frames [(0, .int .i64 n)] h =
  some (.int .i64 (mm2 false (mm2 true n 0) 64), h) := by kernel_rfl
def C_mem_New : Cuts := { globs := 0, loops := [], regs := [], plans := [] }
noncomputable def T_mem_New : List Item := bodyOf Try.f23
theorem e_mem_New (call : CallFn) (run : RunFn) (frames : Int) (h : H) :
  exec PR C_mem_New call run F_mem_New Try.f23 100000 true T_mem_New [(0, .int .i64 frames)] h =
  ck ((0 : Int) ≤ IntKind.wrap .i64 (64 * (mm2 false (mm2 true frames 0) 256)) ∧ (IntKind.wrap .i64 (64 * (mm2 false (mm2 true frames 0) 256)) : Int) ≤ IntKind.wrap .i64 (64 * (mm2 false (mm2 true frames 0) 256)) ∧ IntKind.wrap .i64 (64 * (mm2 false (mm2 true frames 0) 256)) ≤ (most : Int)) (nw (.cells Y_uint8 false (manyN (Int.toNat (IntKind.wrap .i64 (64 * (mm2 false (mm2 true frames 0) 256)))) [.int .u8 0])) h fun b hv => nw (.cells Y_mem_Mem false [.slice (some ⟨b, 0, none⟩) (Int.toNat (IntKind.wrap .i64 (64 * (mm2 false (mm2 true frames 0) 256)))) (Int.toNat (IntKind.wrap .i64 (64 * (mm2 false (mm2 true frames 0) 256))))]) hv fun b_1 hv_1 => some (.pointer (some ⟨b_1, 0, none⟩), hv_1)) := by kernel_rfl
def C_kern_Kern_number : Cuts := { globs := 0, loops := [], regs := [], plans := [(3, ⟨[0, 1, 2, 3, 4, 5, 6, 7, 8, 9, 10, 11, 12, 13, 14, 15, 16, 17, 18, 19], [0, 1, 3, 7, 0, 0, 32, 0, 128, 0, 512, 0, 2048, 0, 8192, 32767, 65535, 65535, 262143, 524287], [], []⟩), (5, ⟨[0, 1, 2, 3, 4, 5, 6, 7, 8, 9, 10, 11], [0, 1, 3, 7, 0, 0, 32, 127, 255, 255, 1023, 2047], [], []⟩), (7, ⟨[0, 1, 2, 3, 4, 5, 6, 7, 8, 9, 10, 11, 12, 13, 14, 15], [0, 1, 3, 7, 0, 16, 48, 112, 0, 496, 1008, 2047, 4095, 4095, 16383, 32767], [], []⟩), (9, ⟨[0, 1, 2, 3, 4, 5, 6, 7, 8, 9, 10, 11, 12, 13, 14, 15], [0, 1, 3, 7, 0, 16, 48, 112, 0, 496, 1008, 0, 2048, 8191, 16383, 32767], [], []⟩)] }
noncomputable def T_kern_Kern_number : List Item := bodyOf Try.f33
theorem e_kern_Kern_number (call : CallFn) (run : RunFn) (k : Option Addr) (env : Int) (c : List Value) (h : H) :
  exec PR C_kern_Kern_number call run F_kern_Kern_number Try.f33 100000 true T_kern_Kern_number [(0, .pointer k), (1, .int .i64 env), (2, .agg ⟨c⟩)] h =
  nw (.cells Y_api_Call false c) h fun b hv => gInt .i64 (Addr.add ⟨b, 0, none⟩ 0) hv fun x => cond (x == 4)
  (aSome k fun p => gPtr (Addr.add p 3) hv fun x_1 => gInt .i64 (Addr.add ⟨b, 0, none⟩ 1) hv fun x_2 => gInt .i64 (Addr.add ⟨b, 0, none⟩ 4) hv fun x_3 => gInt .i64 (Addr.add ⟨b, 0, none⟩ 5) hv fun x_4 => gInt .i64 (Addr.add ⟨b, 0, none⟩ 2) hv fun x_5 => gInt .i64 (Addr.add ⟨b, 0, none⟩ 3) hv fun x_6 => bnd (call F_caps_Space_Grant [.pointer x_1, .int .i64 env, .int .i64 x_2, .int .i64 x_3, .int .i64 x_4, .int .i64 x_5, .int .i64 x_6] hv) fun r hv_1 => as2 r fun r_1 r_2 => aInt .i64 r_1 fun x_7 => aInt .i64 r_2 fun x_8 => some (.tuple ⟨[.int .i64 x_7, .int .i64 x_8]⟩, hv_1))
  (cond (x == 5)
  (aSome k fun p_1 => gPtr (Addr.add p_1 3) hv fun x_9 => gInt .i64 (Addr.add ⟨b, 0, none⟩ 1) hv fun x_10 => bnd (call F_caps_Space_Revoke [.pointer x_9, .int .i64 env, .int .i64 x_10] hv) fun r_3 hv_2 => as2 r_3 fun r_4 r_5 => aInt .i64 r_4 fun x_11 => aInt .i64 r_5 fun x_12 => some (.tuple ⟨[.int .i64 x_11, .int .i64 x_12]⟩, hv_2))
  (cond (x == 6)
  (aSome k fun p_2 => gPtr (Addr.add p_2 4) hv fun x_13 => aSome k fun p_3 => gSl (Addr.add p_3 0) hv fun x_14 xn _ => aSome x_14 fun p_4 => ck ((0 : Int) ≤ env ∧ env < ((xn : Nat) : Int)) (gInt .i64 (Addr.add (bare p_4) (Int.toNat env * 1)) hv fun x_15 => bnd (call F_quota_Quota_Alloc [.pointer x_13, .int .i64 x_15] hv) fun r_6 hv_3 => as2 r_6 fun r_7 r_8 => aInt .i64 r_7 fun x_16 => aInt .i64 r_8 fun x_17 => some (.tuple ⟨[.int .i64 x_16, .int .i64 x_17]⟩, hv_3)))
  (cond (x == 7)
  (aSome k fun p_5 => gPtr (Addr.add p_5 4) hv fun x_18 => aSome k fun p_6 => gSl (Addr.add p_6 0) hv fun x_19 xn_1 _ => aSome x_19 fun p_7 => ck ((0 : Int) ≤ env ∧ env < ((xn_1 : Nat) : Int)) (gInt .i64 (Addr.add (bare p_7) (Int.toNat env * 1)) hv fun x_20 => gInt .i64 (Addr.add ⟨b, 0, none⟩ 3) hv fun x_21 => bnd (call F_quota_Quota_Free [.pointer x_18, .int .i64 x_20, .int .i64 x_21] hv) fun r_9 hv_4 => aInt .i64 r_9 fun x_22 => some (.tuple ⟨[.int .i64 0, .int .i64 x_22]⟩, hv_4)))
  (cond (x == 8)
  (gAgg ⟨b, 0, none⟩ 7 hv fun x_23 => bnd (call F_kern_Kern_enter [.pointer k, .int .i64 env, .agg ⟨x_23⟩] hv) fun r_10 hv_5 => as2 r_10 fun r_11 r_12 => aInt .i64 r_11 fun x_24 => aInt .i64 r_12 fun x_25 => some (.tuple ⟨[.int .i64 x_24, .int .i64 x_25]⟩, hv_5))
  (cond (x == 9)
  (gAgg ⟨b, 0, none⟩ 7 hv fun x_26 => bnd (call F_kern_Kern_leave [.pointer k, .int .i64 env, .agg ⟨x_26⟩] hv) fun r_13 hv_6 => aInt .i64 r_13 fun x_27 => some (.tuple ⟨[.int .i64 0, .int .i64 x_27]⟩, hv_6))
  (cond (x == 10)
  (aSome k fun p_8 => gInt .i64 (Addr.add p_8 7) hv fun x_28 => some (.tuple ⟨[.int .i64 x_28, .int .i64 0]⟩, hv))
  (some (.tuple ⟨[.int .i64 0, .int .i64 7]⟩, hv)))))))) := by kernel_rfl
def C_law8_Boot_1 : Cuts := { globs := 0, loops := [], regs := [], plans := [] }
noncomputable def T_law8_Boot_1 : List Item := bodyOf Try.f34
theorem e_law8_Boot_1 (call : CallFn) (run : RunFn) (n : Int) (fv0 : Addr) (fv1 : Addr) (h : H) :
  exec PR C_law8_Boot_1 call run F_law8_Boot_1 Try.f34 100000 true T_law8_Boot_1 [(0, .int .i64 n), (1, .pointer (some fv0)), (2, .pointer (some fv1))] h =
  gInt .i64 fv0 h fun x => pV fv0 (.int .i64 (IntKind.wrap .i64 (x + 1))) h fun hv => gInt .i64 fv0 hv fun x_1 => gSl fv1 hv fun _ xn _ => cond (decide (x_1 > ((xn : Nat) : Int)))
  (gInt .i64 fv0 hv fun x_3 => ck (n ≠ (0 : Int)) (some (.int .i64 (Int.tmod x_3 n), hv)))
  (gSl fv1 hv fun x_4 xn_1 _ => gInt .i64 fv0 hv fun x_5 => aSome x_4 fun p => ck ((0 : Int) ≤ IntKind.wrap .i64 (x_5 - 1) ∧ IntKind.wrap .i64 (x_5 - 1) < ((xn_1 : Nat) : Int)) (gInt .i64 (Addr.add (bare p) (Int.toNat (IntKind.wrap .i64 (x_5 - 1)) * 1)) hv fun x_6 => ck (n ≠ (0 : Int)) (some (.int .i64 (Int.tmod (bitA .i64 x_6 65535) n), hv)))) := by kernel_rfl
def C_caps_Space_is : Cuts := { globs := 0, loops := [], regs := [], plans := [] }
noncomputable def T_caps_Space_is : List Item := bodyOf Try.f35
theorem e_caps_Space_is (call : CallFn) (run : RunFn) (s : Option Addr) (env : Int) (h : H) :
  exec PR C_caps_Space_is call run F_caps_Space_is Try.f35 100000 true T_caps_Space_is [(0, .pointer s), (1, .int .i64 env)] h =
  bnd (cond (decide (env ≥ 0)) (aSome s fun p => gSl (Addr.add p 0) h fun _ xn _ => some (decide (env < ((xn : Nat) : Int)), h)) (some (false, h))) fun c hv => some (.bool c, hv) := by kernel_rfl
def C_kern_check_1 : Cuts := { globs := 0, loops := [], regs := [], plans := [] }
noncomputable def T_kern_check_1 : List Item := bodyOf Try.f38
theorem e_kern_check_1 (call : CallFn) (run : RunFn) (s : Int) (fv0 : Addr) (h : H) :
  exec PR C_kern_check_1 call run F_kern_check_1 Try.f38 100000 true T_kern_check_1 [(0, .int .i64 s), (1, .pointer (some fv0))] h =
  bnd (cond (decide (s < 0)) (some (true, h)) (gSl (Addr.add fv0 0) h fun _ xn _ => some (decide (s ≥ ((xn : Nat) : Int)), h))) fun c hv => some (.bool c, hv) := by kernel_rfl
def C_slices_ContainsFunc_s_int_int : Cuts := { globs := 0, loops := [], regs := [], plans := [] }
noncomputable def T_slices_ContainsFunc_s_int_int : List Item := bodyOf Try.f39
theorem e_slices_ContainsFunc_s_int_int (call : CallFn) (run : RunFn) (s : Option Addr) (sn sc : Nat) (f : Value) (h : H) :
  exec PR C_slices_ContainsFunc_s_int_int call run F_slices_ContainsFunc_s_int_int Try.f39 100000 true T_slices_ContainsFunc_s_int_int [(0, .slice s sn sc), (1, f)] h =
  bnd (call F_slices_IndexFunc_s_int_int [.slice s sn sc, f] h) fun r hv => aInt .i64 r fun x => some (.bool (decide (x ≥ 0)), hv) := by kernel_rfl
def C_kern_share : Cuts := { globs := 0, loops := [], regs := [], plans := [] }
noncomputable def T_kern_share : List Item := bodyOf Try.f40
theorem e_kern_share (call : CallFn) (run : RunFn) (c : List Value) (x : List Value) (h : H) :
  exec PR C_kern_share call run F_kern_share Try.f40 100000 true T_kern_share [(0, .agg ⟨c⟩), (1, .agg ⟨x⟩)] h =
  nw (.cells Y_api_Boot false c) h fun b hv => nw (.cells Y_api_Share false x) hv fun b_1 hv_1 => gInt .i64 (Addr.add ⟨b_1, 0, none⟩ 0) hv_1 fun x_1 => bnd (cond (decide (x_1 < 0)) (some (true, hv_1)) (gInt .i64 (Addr.add ⟨b_1, 0, none⟩ 0) hv_1 fun x_2 => gSl (Addr.add ⟨b, 0, none⟩ 0) hv_1 fun _ xn _ => some (decide (x_2 ≥ ((xn : Nat) : Int)), hv_1))) fun c_1 hv_2 => bnd (cond c_1 (some (true, hv_2)) (gInt .i64 (Addr.add ⟨b_1, 0, none⟩ 1) hv_2 fun x_4 => some (decide (x_4 < 0), hv_2))) fun c_2 hv_3 => bnd (cond c_2 (some (true, hv_3)) (gInt .i64 (Addr.add ⟨b_1, 0, none⟩ 2) hv_3 fun x_5 => some (decide (x_5 < 0), hv_3))) fun c_3 hv_4 => bnd (cond c_3 (some (true, hv_4)) (gInt .i64 (Addr.add ⟨b_1, 0, none⟩ 3) hv_4 fun x_6 => some (decide (x_6 < 0), hv_4))) fun c_4 hv_5 => cond c_4
  (some (.bool false, hv_5))
  (gSl (Addr.add ⟨b, 0, none⟩ 0) hv_5 fun x_7 xn_1 _ => gInt .i64 (Addr.add ⟨b_1, 0, none⟩ 0) hv_5 fun x_8 => aSome x_7 fun p => ck ((0 : Int) ≤ x_8 ∧ x_8 < ((xn_1 : Nat) : Int)) (gInt .i64 (Addr.add (bare p) (Int.toNat x_8 * 1)) hv_5 fun x_9 => bnd (call F_kern_frames [.int .i64 x_9] hv_5) fun r hv_6 => aInt .i64 r fun x_10 => gInt .i64 (Addr.add ⟨b_1, 0, none⟩ 1) hv_6 fun x_11 => cond (decide (x_11 > x_10))
  (some (.bool false, hv_6))
  (gInt .i64 (Addr.add ⟨b_1, 0, none⟩ 1) hv_6 fun x_12 => gInt .i64 (Addr.add ⟨b_1, 0, none⟩ 2) hv_6 fun x_13 => bnd (cond (decide (x_13 ≤ (IntKind.wrap .i64 ((IntKind.wrap .i64 (x_10 - x_12)) * 64)))) (gInt .i64 (Addr.add ⟨b_1, 0, none⟩ 3) hv_6 fun x_14 => gInt .i64 (Addr.add ⟨b_1, 0, none⟩ 2) hv_6 fun x_15 => some (decide (x_14 ≤ (IntKind.wrap .i64 ((IntKind.wrap .i64 ((IntKind.wrap .i64 (x_10 - x_12)) * 64)) - x_15))), hv_6)) (some (false, hv_6))) fun c_5 hv_7 => some (.bool c_5, hv_7)))) := by kernel_rfl
def C_table_New_api_Cap : Cuts := { globs := 0, loops := [(3, [3, 15, 16])], regs := [], plans := [] }
noncomputable def T_table_New_api_Cap : List Item := bodyOf Try.f41
noncomputable def T_table_New_api_Cap_L1 : List Item := stk [0, 1, 0, 1, 0, 0, 1, 4, 5] T_table_New_api_Cap
theorem e_table_New_api_Cap (call : CallFn) (run : RunFn) (size : Int) (h : H) :
  exec PR C_table_New_api_Cap call run F_table_New_api_Cap Try.f41 100000 true T_table_New_api_Cap [(0, .int .i64 size)] h =
  ck ((0 : Int) ≤ mm2 false (mm2 true size 0) 256 ∧ (mm2 false (mm2 true size 0) 256 : Int) ≤ mm2 false (mm2 true size 0) 256 ∧ mm2 false (mm2 true size 0) 256 ≤ (most : Int)) (nw (.cells Y_table_place_api_Cap false (manyN (Int.toNat (mm2 false (mm2 true size 0) 256)) [.int .i64 0, .int .i64 0, .int .i64 0, .int .i64 0, .int .i64 0, .int .i64 0, .int .i64 0, .bool false])) h fun b hv => nw (.cells Y_table_Table_api_Cap false [.slice (some ⟨b, 0, none⟩) (Int.toNat (mm2 false (mm2 true size 0) 256)) (Int.toNat (mm2 false (mm2 true size 0) 256))]) hv fun b_1 hv_1 => gSl (Addr.add ⟨b_1, 0, none⟩ 0) hv_1 fun _ xn _ => run F_table_New_api_Cap T_table_New_api_Cap_L1 [(3, .pointer (some ⟨b_1, 0, none⟩)), (15, .int .i64 ((xn : Nat) : Int)), (16, .int .i64 0)] hv_1) := by kernel_rfl
theorem e_table_New_api_Cap_L1 (call : CallFn) (run : RunFn) (t : Addr) (x15 : Int) (x16 : Int) (h : H) :
  exec PR C_table_New_api_Cap call run F_table_New_api_Cap Try.f41 100000 true T_table_New_api_Cap_L1 [(3, .pointer (some t)), (15, .int .i64 x15), (16, .int .i64 x16)] h =
  cond (decide (x16 < x15))
  (gSl (Addr.add t 0) h fun x xn _ => aSome x fun p => ck ((0 : Int) ≤ x16 ∧ x16 < ((xn : Nat) : Int)) (pV (Addr.add (Addr.add (bare p) (Int.toNat x16 * 8)) 6) (.int .i64 1) h fun hv => run F_table_New_api_Cap T_table_New_api_Cap_L1 [(3, .pointer (some t)), (15, .int .i64 x15), (16, .int .i64 (IntKind.wrap .i64 (x16 + 1)))] hv))
  (some (.pointer (some t), h)) := by kernel_rfl
def C_caps_Space_add : Cuts := { globs := 0, loops := [], regs := [], plans := [(1, ⟨[0, 1, 2, 3, 4, 5, 6, 7, 8, 9, 10, 11, 12, 13], [0, 1, 3, 7, 0, 31, 63, 0, 255, 511, 1023, 1023, 2047, 8191], [], []⟩)] }
noncomputable def T_caps_Space_add : List Item := bodyOf Try.f45
theorem e_caps_Space_add (call : CallFn) (run : RunFn) (s : Option Addr) (env : Int) (c : List Value) (h : H) :
  exec PR C_caps_Space_add call run F_caps_Space_add Try.f45 100000 true T_caps_Space_add [(0, .pointer s), (1, .int .i64 env), (2, .agg ⟨c⟩)] h =
  nw (.cells Y_api_Cap false c) h fun b hv => aSome s fun p => gSl (Addr.add p 0) hv fun x xn _ => aSome x fun p_1 => ck ((0 : Int) ≤ env ∧ env < ((xn : Nat) : Int)) (gPtr (Addr.add (bare p_1) (Int.toNat env * 1)) hv fun x_1 => gAgg ⟨b, 0, none⟩ 6 hv fun x_2 => bnd (call F_table_Table_api_Cap_Add [.pointer x_1, .agg ⟨x_2⟩] hv) fun r hv_1 => as2 r fun r_1 r_2 => aInt .i64 r_1 fun x_3 => aBool r_2 fun x_4 => cond (!x_4)
  (some (.tuple ⟨[.int .i64 0, .int .i64 4]⟩, hv_1))
  (some (.tuple ⟨[.int .i64 x_3, .int .i64 0]⟩, hv_1))) := by kernel_rfl
def C_caps_Space_Revoke : Cuts := { globs := 0, loops := [(5, [0, 1, 2, 8, 22, 23, 24])], regs := [], plans := [(7, ⟨[0, 1, 2, 3, 4, 5, 6, 7, 8, 9, 10], [0, 1, 3, 7, 0, 16, 63, 127, 0, 256, 1023], [], []⟩)] }
def C_table_Table_api_Cap_at : Cuts := { globs := 0, loops := [], regs := [], plans := [] }
noncomputable def T_table_Table_api_Cap_at : List Item := bodyOf Try.f56
theorem e_table_Table_api_Cap_at (call : CallFn) (run : RunFn) (t : Option Addr) (name : Int) (h : H) :
  exec PR C_table_Table_api_Cap_at call run F_table_Table_api_Cap_at Try.f56 100000 true T_table_Table_api_Cap_at [(0, .pointer t), (1, .int .i64 name)] h =
  bnd (cond (decide (name < 0)) (some (true, h)) (aSome t fun p => gSl (Addr.add p 0) h fun _ xn _ => some (decide ((bitA .i64 name 255) ≥ ((xn : Nat) : Int)), h))) fun c hv => bnd (cond c (some (true, hv)) (aSome t fun p_1 => gSl (Addr.add p_1 0) hv fun x_1 xn_1 _ => aSome x_1 fun p_2 => ck ((0 : Int) ≤ bitA .i64 name 255 ∧ bitA .i64 name 255 < ((xn_1 : Nat) : Int)) (gBool (Addr.add (Addr.add (bare p_2) (Int.toNat (bitA .i64 name 255) * 8)) 7) hv fun x_2 => some (!x_2, hv)))) fun c_1 hv_1 => bnd (cond c_1 (some (true, hv_1)) (bnd (call F_table_Table_api_Cap_name [.pointer t, .int .i64 (bitA .i64 name 255)] hv_1) fun r hv_2 => aInt .i64 r fun x_3 => some (x_3 != name, hv_2))) fun c_2 hv_3 => cond c_2
  (some (.pointer none, hv_3))
  (aSome t fun p_3 => gSl (Addr.add p_3 0) hv_3 fun x_4 xn_2 _ => aSome x_4 fun p_4 => ck ((0 : Int) ≤ bitA .i64 name 255 ∧ bitA .i64 name 255 < ((xn_2 : Nat) : Int)) (some (.pointer (some (Addr.add (bare p_4) (Int.toNat (bitA .i64 name 255) * 8))), hv_3))) := by kernel_rfl
def C_quota_Quota_Owns : Cuts := { globs := 0, loops := [], regs := [], plans := [] }
noncomputable def T_quota_Quota_Owns : List Item := bodyOf Try.f65
theorem e_quota_Quota_Owns (call : CallFn) (run : RunFn) (q : Option Addr) (s : Int) (k : Int) (h : H) :
  exec PR C_quota_Quota_Owns call run F_quota_Quota_Owns Try.f65 100000 true T_quota_Quota_Owns [(0, .pointer q), (1, .int .i64 s), (2, .int .i64 k)] h =
  bnd (call F_quota_Quota_is [.pointer q, .int .i64 s] h) fun r hv => aBool r fun x => bnd (cond x (some (decide (k ≥ 0), hv)) (some (false, hv))) fun c hv_1 => bnd (cond c (aSome q fun p => gSl (Addr.add p 0) hv_1 fun x_1 xn _ => aSome x_1 fun p_1 => ck ((0 : Int) ≤ s ∧ s < ((xn : Nat) : Int)) (gSl (Addr.add (bare p_1) (Int.toNat s * 1)) hv_1 fun _ xn_1 _ => some (decide (k < ((xn_1 : Nat) : Int)), hv_1))) (some (false, hv_1))) fun c_1 hv_2 => bnd (cond c_1 (aSome q fun p_2 => gSl (Addr.add p_2 0) hv_2 fun x_3 xn_2 _ => aSome x_3 fun p_3 => ck ((0 : Int) ≤ s ∧ s < ((xn_2 : Nat) : Int)) (gSl (Addr.add (bare p_3) (Int.toNat s * 1)) hv_2 fun x_4 xn_3 _ => aSome x_4 fun p_4 => ck ((0 : Int) ≤ k ∧ k < ((xn_3 : Nat) : Int)) (gInt .i64 (Addr.add (bare p_4) (Int.toNat k * 1)) hv_2 fun x_5 => some (decide (x_5 > 0), hv_2)))) (some (false, hv_2))) fun c_2 hv_3 => some (.bool c_2, hv_3) := by kernel_rfl
def C_sect_Sect_Enter : Cuts := { globs := 0, loops := [(18, [0, 1, 2])], regs := [(10, [0, 1, 2]), (11, [0, 1, 2]), (14, [0, 1, 2]), (17, [])], plans := [(11, ⟨[0, 1, 2, 3, 4, 5, 6, 7, 8, 9, 10, 11, 12, 13, 14, 15, 16], [0, 1, 3, 7, 15, 31, 31, 95, 223, 479, 1023, 31, 2079, 6175, 14367, 32767, 65535], [], []⟩), (18, ⟨[0, 1, 2, 3, 4, 5, 6, 7, 8, 9, 10, 11, 12, 13, 14, 15, 16, 17, 18, 19, 20], [0, 1, 3, 7, 15, 31, 0, 127, 255, 511, 511, 1535, 3583, 7679, 16383, 511, 33279, 98815, 229887, 524287, 1048575], [], []⟩)] }
noncomputable def T_sect_Sect_Enter : List Item := bodyOf Try.f67
noncomputable def T_sect_Sect_Enter_R1 : List Item := stk [0, 1, 0, 1, 0, 1, 0, 1, 0, 1, 0, 0, 1, 2, 0, 1] T_sect_Sect_Enter
noncomputable def T_sect_Sect_Enter_R2 : List Item := stk [0, 1, 0, 1, 0, 1, 0, 1, 0, 1, 0, 1, 0, 0] T_sect_Sect_Enter
noncomputable def T_sect_Sect_Enter_R3 : List Item := stk [0, 1, 0, 1, 0, 1, 0, 1, 0, 1, 0, 1, 0, 1, 0, 0] T_sect_Sect_Enter
noncomputable def T_sect_Sect_Enter_R4 : List Item := stk [0, 1, 0, 1, 0, 1, 0, 1, 0, 1, 0, 1, 0, 1, 0, 0, 1, 2, 0, 1, 0] T_sect_Sect_Enter
noncomputable def T_sect_Sect_Enter_L1 : List Item := stk [0, 1, 0, 1, 0, 1, 0, 1, 0, 1, 0, 1, 0, 1, 0, 1, 0, 4, 5] T_sect_Sect_Enter
theorem e_sect_Sect_Enter (call : CallFn) (run : RunFn) (s : Option Addr) (who : Int) (now : Int) (h : H) :
  exec PR C_sect_Sect_Enter call run F_sect_Sect_Enter Try.f67 100000 true T_sect_Sect_Enter [(0, .pointer s), (1, .int .i64 who), (2, .int .i64 now)] h =
  aSome s fun p => gInt .i64 (Addr.add p 7) h fun x => bnd (cond (decide (who < 0)) (some (true, h)) (some (decide (who > 99), h))) fun c hv => cond c
  (some (.tuple ⟨[.int .i64 0, .bool false]⟩, hv))
  (aSome s fun p_1 => pV (Addr.add p_1 7) (.int .i64 (mm2 true now x)) hv fun hv_1 => aSome s fun p_2 => gBool (Addr.add p_2 1) hv_1 fun x_1 => bnd (cond x_1 (aSome s fun p_3 => gInt .i64 (Addr.add p_3 2) hv_1 fun x_2 => some (x_2 == who, hv_1)) (some (false, hv_1))) fun c_1 hv_2 => cond c_1
  (aSome s fun p_4 => gInt .i64 (Addr.add p_4 3) hv_2 fun x_3 => some (.tuple ⟨[.int .i64 x_3, .bool true]⟩, hv_2))
  (aSome s fun p_5 => gSl (Addr.add p_5 5) hv_2 fun x_4 xn xc => bnd (call F_slices_Contains_s_int_int [.slice x_4 xn xc, .int .i64 who] hv_2) fun r hv_3 => aBool r fun x_5 => cond (!x_5)
  (aSome s fun p_6 => gSl (Addr.add p_6 5) hv_3 fun _ xn_1 _ => cond (((xn_1 : Nat) : Int) == 0)
  (aSome s fun p_7 => pV (Addr.add p_7 6) (.int .i64 (mm2 true now x)) hv_3 fun hv_4 => run F_sect_Sect_Enter T_sect_Sect_Enter_R1 [(0, .pointer s), (1, .int .i64 who), (2, .int .i64 (mm2 true now x))] hv_4)
  (run F_sect_Sect_Enter T_sect_Sect_Enter_R1 [(0, .pointer s), (1, .int .i64 who), (2, .int .i64 (mm2 true now x))] hv_3))
  (run F_sect_Sect_Enter T_sect_Sect_Enter_R2 [(0, .pointer s), (1, .int .i64 who), (2, .int .i64 (mm2 true now x))] hv_3))) := by kernel_rfl
theorem e_sect_Sect_Enter_R1 (call : CallFn) (run : RunFn) (s : Option Addr) (who : Int) (now : Int) (h : H) :
  exec PR C_sect_Sect_Enter call run F_sect_Sect_Enter Try.f67 100000 true T_sect_Sect_Enter_R1 [(0, .pointer s), (1, .int .i64 who), (2, .int .i64 now)] h =
  aSome s fun p => gSl (Addr.add p 5) h fun x xn xc => nw (.cells Y_int false [.int .i64 who]) h fun b hv => gCells (some ⟨b, 0, none⟩) (1 * 1) hv fun cs => ckB (fitsOpen x Y_int hv) (apd Y_int 1 x xn xc 1 cs hv fun a an ac hv_1 => aSome s fun p_1 => pV (Addr.add p_1 5) (.slice a an ac) hv_1 fun hv_2 => run F_sect_Sect_Enter T_sect_Sect_Enter_R2 [(0, .pointer s), (1, .int .i64 who), (2, .int .i64 now)] hv_2) := by kernel_rfl
theorem e_sect_Sect_Enter_R2 (call : CallFn) (run : RunFn) (s : Option Addr) (who : Int) (now : Int) (h : H) :
  exec PR C_sect_Sect_Enter call run F_sect_Sect_Enter Try.f67 100000 true T_sect_Sect_Enter_R2 [(0, .pointer s), (1, .int .i64 who), (2, .int .i64 now)] h =
  aSome s fun p => gBool (Addr.add p 1) h fun x => bnd (cond x (aSome s fun p_1 => gInt .i64 (Addr.add p_1 4) h fun x_1 => aSome s fun p_2 => gInt .i64 (Addr.add p_2 0) h fun x_2 => some (decide ((IntKind.wrap .i64 (now - x_1)) ≥ x_2), h)) (some (false, h))) fun c hv => cond c
  (aSome s fun p_3 => pV (Addr.add p_3 1) (.bool false) hv fun hv_1 => aSome s fun p_4 => pV (Addr.add p_4 6) (.int .i64 now) hv_1 fun hv_2 => run F_sect_Sect_Enter T_sect_Sect_Enter_R3 [(0, .pointer s), (1, .int .i64 who), (2, .int .i64 now)] hv_2)
  (run F_sect_Sect_Enter T_sect_Sect_Enter_R3 [(0, .pointer s), (1, .int .i64 who), (2, .int .i64 now)] hv) := by kernel_rfl
theorem e_sect_Sect_Enter_R3 (call : CallFn) (run : RunFn) (s : Option Addr) (who : Int) (now : Int) (h : H) :
  exec PR C_sect_Sect_Enter call run F_sect_Sect_Enter Try.f67 100000 true T_sect_Sect_Enter_R3 [(0, .pointer s), (1, .int .i64 who), (2, .int .i64 now)] h =
  aSome s fun p => gBool (Addr.add p 1) h fun x => cond x
  (aSome s fun p_1 => gSl (Addr.add p_1 5) h fun x_1 xn _ => aSome x_1 fun p_2 => ck ((0 : Int) ≤ 0 ∧ 0 < ((xn : Nat) : Int)) (gInt .i64 (Addr.add (bare p_2) (Int.toNat 0 * 1)) h fun x_2 => cond (x_2 == who)
  (aSome s fun p_3 => pV (Addr.add p_3 6) (.int .i64 now) h fun hv => run F_sect_Sect_Enter T_sect_Sect_Enter_R4 [] hv)
  (run F_sect_Sect_Enter T_sect_Sect_Enter_R4 [] h)))
  (run F_sect_Sect_Enter T_sect_Sect_Enter_L1 [(0, .pointer s), (1, .int .i64 who), (2, .int .i64 now)] h) := by kernel_rfl
theorem e_sect_Sect_Enter_R4 (call : CallFn) (run : RunFn)  (h : H) :
  exec PR C_sect_Sect_Enter call run F_sect_Sect_Enter Try.f67 100000 true T_sect_Sect_Enter_R4 [] h =
  some (.tuple ⟨[.int .i64 0, .bool false]⟩, h) := by kernel_rfl
theorem e_sect_Sect_Enter_L1 (call : CallFn) (run : RunFn) (s : Option Addr) (who : Int) (now : Int) (h : H) :
  exec PR C_sect_Sect_Enter call run F_sect_Sect_Enter Try.f67 100000 true T_sect_Sect_Enter_L1 [(0, .pointer s), (1, .int .i64 who), (2, .int .i64 now)] h =
  aSome s fun p => gSl (Addr.add p 5) h fun x xn _ => aSome x fun p_1 => ck ((0 : Int) ≤ 0 ∧ 0 < ((xn : Nat) : Int)) (gInt .i64 (Addr.add (bare p_1) (Int.toNat 0 * 1)) h fun x_1 => bnd (cond (x_1 != who) (aSome s fun p_2 => gInt .i64 (Addr.add p_2 6) h fun x_2 => aSome s fun p_3 => gInt .i64 (Addr.add p_3 0) h fun x_3 => some (decide ((IntKind.wrap .i64 (now - x_2)) ≥ x_3), h)) (some (false, h))) fun c hv => cond c
  (aSome s fun p_4 => gSl (Addr.add p_4 5) hv fun x_4 xn_1 xc_1 => ckB (fitsOpen x_4 Y_int hv) (ck ((0 : Int) ≤ 1 ∧ 1 ≤ ((xn_1 : Nat) : Int)) (aSome s fun p_5 => pV (Addr.add p_5 5) (.slice (moved x_4 (decide (Int.toNat 1 < xc_1)) ((Int.toNat 1) * 1)) (xn_1 - (Int.toNat 1)) (xc_1 - (Int.toNat 1))) hv fun hv_1 => aSome s fun p_6 => pV (Addr.add p_6 6) (.int .i64 now) hv_1 fun hv_2 => run F_sect_Sect_Enter T_sect_Sect_Enter_L1 [(0, .pointer s), (1, .int .i64 who), (2, .int .i64 now)] hv_2)))
  (aSome s fun p_7 => gSl (Addr.add p_7 5) hv fun x_5 xn_2 _ => aSome x_5 fun p_8 => ck ((0 : Int) ≤ 0 ∧ 0 < ((xn_2 : Nat) : Int)) (gInt .i64 (Addr.add (bare p_8) (Int.toNat 0 * 1)) hv fun x_6 => cond (x_6 != who)
  (some (.tuple ⟨[.int .i64 0, .bool false]⟩, hv))
  (aSome s fun p_9 => gSl (Addr.add p_9 5) hv fun x_7 xn_3 xc_3 => ckB (fitsOpen x_7 Y_int hv) (ck ((0 : Int) ≤ 1 ∧ 1 ≤ ((xn_3 : Nat) : Int)) (aSome s fun p_10 => pV (Addr.add p_10 5) (.slice (moved x_7 (decide (Int.toNat 1 < xc_3)) ((Int.toNat 1) * 1)) (xn_3 - (Int.toNat 1)) (xc_3 - (Int.toNat 1))) hv fun hv_3 => aSome s fun p_11 => pV (Addr.add p_11 6) (.int .i64 now) hv_3 fun hv_4 => aSome s fun p_12 => gInt .i64 (Addr.add p_12 8) hv_4 fun x_8 => aSome s fun p_13 => pV (Addr.add p_13 8) (.int .i64 (IntKind.wrap .i64 (x_8 + 1))) hv_4 fun hv_5 => aSome s fun p_14 => gInt .i64 (Addr.add p_14 8) hv_5 fun x_9 => aSome s fun p_15 => pV (Addr.add p_15 1) (.bool true) hv_5 fun hv_6 => aSome s fun p_16 => pV (Addr.add p_16 2) (.int .i64 who) hv_6 fun hv_7 => aSome s fun p_17 => pV (Addr.add p_17 3) (.int .i64 x_9) hv_7 fun hv_8 => aSome s fun p_18 => pV (Addr.add p_18 4) (.int .i64 now) hv_8 fun hv_9 => aSome s fun p_19 => gInt .i64 (Addr.add p_19 3) hv_9 fun x_10 => some (.tuple ⟨[.int .i64 x_10, .bool true]⟩, hv_9))))))) := by kernel_rfl
def C_slices_SortFunc_s_api_Ref_api_Ref : Cuts := { globs := 0, loops := [], regs := [], plans := [] }
def C_slices_partialInsertionSortCmpFunc_api_Ref : Cuts := { globs := 0, loops := [(3, [0, 1, 2, 3, 9, 10]), (5, [0, 1, 2, 3, 9, 10]), (14, [0, 1, 2, 3, 9, 10, 11]), (20, [0, 1, 2, 3, 9, 10, 12])], regs := [(18, [0, 1, 2, 3, 9, 10])], plans := [(5, ⟨[0, 1, 2, 3, 4, 5, 6, 7, 8, 9, 10, 11, 12, 13, 14, 15, 16, 17], [0, 0, 3, 7, 15, 15, 15, 111, 239, 15, 15, 1039, 3599, 7695, 16383, 32767, 65535, 131071], [], []⟩), (11, ⟨[0, 1, 2, 3, 4, 5, 6, 7, 8, 9, 10, 11, 12, 13, 14, 15, 16, 17], [0, 0, 0, 0, 8, 0, 0, 64, 224, 480, 0, 0, 3072, 7168, 16355, 32739, 65535, 131071], [], []⟩), (16, ⟨[0, 1, 2, 3, 4, 5, 6, 7, 8, 9, 10, 11, 12], [0, 0, 0, 6, 14, 0, 0, 64, 224, 480, 1023, 2047, 4095], [], []⟩), (17, ⟨[0, 1, 2, 3, 4, 5, 6, 7, 8, 9, 10, 11, 12, 13, 14, 15, 16, 17], [0, 0, 0, 0, 8, 0, 0, 64, 224, 480, 0, 0, 3072, 7168, 16355, 32739, 65535, 131071], [], []⟩), (22, ⟨[0, 1, 2, 3, 4, 5, 6, 7, 8, 9, 10, 11, 12], [0, 0, 0, 6, 14, 0, 0, 64, 224, 480, 1023, 2047, 4095], [], []⟩), (23, ⟨[0, 1, 2, 3, 4, 5, 6, 7, 8, 9, 10, 11, 12, 13, 14, 15, 16, 17], [0, 0, 0, 0, 8, 0, 0, 64, 224, 480, 0, 0, 3072, 7168, 16355, 32739, 65535, 131071], [], []⟩)] }
def C_slices_partitionEqualCmpFunc_api_Ref : Cuts := { globs := 0, loops := [(3, [0, 1, 4, 11, 12]), (5, [0, 1, 4, 11, 12])], regs := [], plans := [(1, ⟨[0, 1, 2, 3, 4, 5, 6, 7, 8, 9, 10, 11, 12, 13, 14, 15], [0, 0, 0, 0, 0, 0, 48, 112, 0, 0, 768, 1792, 4083, 8179, 16383, 32767], [], []⟩), (3, ⟨[0, 1, 2, 3, 4, 5, 6, 7, 8, 9, 10, 11, 12, 13, 14, 15, 16], [0, 0, 3, 7, 15, 15, 15, 111, 239, 15, 15, 1551, 3599, 8191, 16383, 32767, 65535], [], []⟩), (5, ⟨[0, 1, 2, 3, 4, 5, 6, 7, 8, 9, 10, 11, 12, 13, 14, 15], [0, 0, 3, 7, 15, 15, 15, 111, 239, 15, 15, 1551, 3599, 8191, 16383, 32767], [], []⟩), (8, ⟨[0, 1, 2, 3, 4, 5, 6, 7, 8, 9, 10, 11, 12, 13, 14, 15], [0, 0, 0, 0, 0, 0, 48, 112, 0, 0, 768, 1792, 4083, 8179, 16383, 32767], [], []⟩)] }
def C_math_bits_Len32 : Cuts := { globs := 0, loops := [], regs := [(4, [0, 2])], plans := [] }
def C_math_bits_Len64 : Cuts := { globs := 0, loops := [], regs := [(4, [0, 2]), (7, [0, 2])], plans := [] }
end Go.EQ

set_option maxRecDepth 100000
set_option linter.unusedVariables false
namespace Go.EQ
open Go Go.NN Go.Proofs
def C_law8_KernFrames : Cuts := { globs := 0, loops := [(7, [2, 7, 8, 10, 11]), (13, [2, 7, 8, 10, 11, 12, 13, 14])], regs := [], plans := [(22, ⟨[0, 1, 2, 3, 4, 5, 6, 7, 8, 9, 10, 11, 12, 13, 14, 15, 16, 17, 18], [0, 1, 3, 0, 0, 8, 56, 120, 255, 511, 1023, 2047, 4095, 8191, 16383, 32767, 65535, 131071, 262143], [], []⟩), (16, ⟨[0, 1, 2, 3, 4, 5, 6, 7, 8, 9, 10, 11, 12, 13, 14, 15, 16, 17, 18, 19, 20, 21, 22, 23, 24, 25, 26, 27, 28, 29, 30], [0, 1, 3, 0, 0, 0, 48, 112, 248, 511, 1023, 2047, 4095, 8191, 16383, 32767, 65535, 32767, 262143, 524287, 1048575, 2097151, 4194303, 8388607, 16777215, 33554431, 67108863, 134217727, 268435455, 536870911, 1073741823], [], []⟩)] }
def C_law8_KernCaps : Cuts := { globs := 0, loops := [(9, [1, 2, 3, 9, 10, 12, 13, 14]), (13, [1, 2, 3, 9, 10, 12, 13, 14, 15, 16])], regs := [], plans := [(15, ⟨[0, 1, 2, 3, 4, 5, 6, 7, 8, 9, 10, 11, 12, 13, 14, 15, 16, 17, 18], [0, 1, 3, 7, 3, 31, 63, 127, 3, 511, 1023, 3, 2051, 3, 14339, 30723, 65535, 131071, 262143], [], []⟩), (19, ⟨[0, 2, 3, 4, 5, 6, 11, 1, 7, 8, 9, 10, 12, 13], [0, 1, 0, 0, 0, 24, 56, 127, 255, 511, 511, 0, 3071, 8191], [(1, [6])], []⟩), (20, ⟨[0, 1, 2, 3, 4, 5, 6, 7, 8, 9, 10, 11, 12, 13], [0, 1, 3, 7, 7, 7, 39, 7, 231, 487, 999, 2039, 4095, 8191], [], []⟩)] }
noncomputable def T_law8_KernCaps : List Item := bodyOf Try.f6
noncomputable def T_law8_KernCaps_L1 : List Item := stk [0, 1, 0, 1, 0, 1, 0, 1, 0, 1, 0, 1, 0, 1, 0, 0, 1, 4, 5] T_law8_KernCaps
noncomputable def T_law8_KernCaps_L2 : List Item := stk [0, 1, 0, 1, 0, 1, 0, 1, 0, 1, 0, 1, 0, 1, 0, 0, 1, 4, 5, 6, 0, 1, 0, 4, 0, 1, 0, 0, 1, 4, 5] T_law8_KernCaps
theorem e_law8_KernCaps (call : CallFn) (run : RunFn) (l : Option Addr) (ln lc : Nat) (env : Int) (to : Int) (n : Int) (h : H) :
  exec PR C_law8_KernCaps call run F_law8_KernCaps Try.f6 100000 true T_law8_KernCaps [(0, .slice l ln lc), (1, .int .i64 env), (2, .int .i64 to), (3, .int .i64 n)] h =
  bnd (call F_law8_Boot [.slice l ln lc] h) fun r hv => aAgg r fun x => nw (.cells Y_api_Boot false [.slice none 0 0, .slice none 0 0, .slice none 0 0, .int .i64 0, .slice none 0 0]) hv fun b hv_1 => ck (List.length x = 5) (pAgg ⟨b, 0, none⟩ x hv_1 fun hv_2 => gAgg ⟨b, 0, none⟩ 5 hv_2 fun x_1 => bnd (call F_kern_New [.agg ⟨x_1⟩] hv_2) fun r_1 hv_3 => as2 r_1 fun r_2 r_3 => aPtr r_2 fun x_2 => aInt .i64 r_3 fun x_3 => bnd (cond x_2.isNone (some (true, hv_3)) (some (x_3 != 0, hv_3))) fun c hv_4 => bnd (cond c (some (true, hv_4)) (bnd (call F_kern_Kern_Space [.pointer x_2] hv_4) fun r_4 hv_5 => aPtr r_4 fun x_4 => some (x_4.isNone, hv_5))) fun c_1 hv_6 => cond c_1
  (some (.bool false, hv_6))
  (gSl (Addr.add ⟨b, 0, none⟩ 1) hv_6 fun _ xn _ => ck (((xn : Nat) : Int) ≠ (0 : Int)) (bnd (call F_kern_Kern_Space [.pointer x_2] hv_6) fun r_5 hv_7 => aPtr r_5 fun x_6 => bnd (call F_caps_Space_Names [.pointer x_6, .int .i64 (Int.tmod (bitA .i64 env 255) ((xn : Nat) : Int))] hv_7) fun r_6 hv_8 => aSl r_6 fun x_7 xn_1 xc_1 => run F_law8_KernCaps T_law8_KernCaps_L1 [(1, .int .i64 (Int.tmod (bitA .i64 env 255) ((xn : Nat) : Int))), (2, .int .i64 to), (3, .int .i64 n), (9, .pointer (some ⟨b, 0, none⟩)), (10, .pointer x_2), (12, .slice x_7 xn_1 xc_1), (13, .int .i64 0), (14, .int .i64 0)] hv_8))) := by kernel_rfl
theorem e_law8_KernCaps_L1 (call : CallFn) (run : RunFn) (env : Int) (to : Int) (n : Int) (b : Addr) (k : Option Addr) (names : Option Addr) (namesn namesc : Nat) (atv : Int) (i : Int) (h : H) :
  exec PR C_law8_KernCaps call run F_law8_KernCaps Try.f6 100000 true T_law8_KernCaps_L1 [(1, .int .i64 env), (2, .int .i64 to), (3, .int .i64 n), (9, .pointer (some b)), (10, .pointer k), (12, .slice names namesn namesc), (13, .int .i64 atv), (14, .int .i64 i)] h =
  gSl (Addr.add b 4) h fun _ xn _ => cond (decide (i < ((xn : Nat) : Int)))
  (run F_law8_KernCaps T_law8_KernCaps_L2 [(1, .int .i64 env), (2, .int .i64 to), (3, .int .i64 n), (9, .pointer (some b)), (10, .pointer k), (12, .slice names namesn namesc), (13, .int .i64 atv), (14, .int .i64 i), (15, .bool false), (16, .int .i64 0)] h)
  (bnd (cond (atv == ((namesn : Nat) : Int)) (bnd (call F_law8_awake [] h) fun r hv => aBool r fun x_1 => some (x_1, hv)) (some (false, h))) fun c hv_1 => some (.bool c, hv_1)) := by kernel_rfl
theorem e_law8_KernCaps_L2 (call : CallFn) (run : RunFn) (env : Int) (to : Int) (n : Int) (b : Addr) (k : Option Addr) (names : Option Addr) (namesn namesc : Nat) (atv : Int) (i : Int) (mine : Bool) (j : Int) (h : H) :
  exec PR C_law8_KernCaps call run F_law8_KernCaps Try.f6 100000 true T_law8_KernCaps_L2 [(1, .int .i64 env), (2, .int .i64 to), (3, .int .i64 n), (9, .pointer (some b)), (10, .pointer k), (12, .slice names namesn namesc), (13, .int .i64 atv), (14, .int .i64 i), (15, .bool mine), (16, .int .i64 j)] h =
  gSl (Addr.add b 4) h fun x xn _ => aSome x fun p => ck ((0 : Int) ≤ i ∧ i < ((xn : Nat) : Int)) (gSl (Addr.add (Addr.add (bare p) (Int.toNat i * 5)) 4) h fun _ xn_1 _ => cond (decide (j < ((xn_1 : Nat) : Int)))
  (bnd (cond mine (some (true, h)) (gSl (Addr.add b 4) h fun x_2 xn_2 _ => aSome x_2 fun p_1 => ck ((0 : Int) ≤ i ∧ i < ((xn_2 : Nat) : Int)) (gSl (Addr.add (Addr.add (bare p_1) (Int.toNat i * 5)) 4) h fun x_3 xn_3 _ => aSome x_3 fun p_2 => ck ((0 : Int) ≤ j ∧ j < ((xn_3 : Nat) : Int)) (gInt .i64 (Addr.add (bare p_2) (Int.toNat j * 1)) h fun x_4 => gSl (Addr.add b 1) h fun x_5 xn_4 _ => aSome x_5 fun p_3 => ck ((0 : Int) ≤ env ∧ env < ((xn_4 : Nat) : Int)) (gInt .i64 (Addr.add (bare p_3) (Int.toNat env * 1)) h fun x_6 => some (x_4 == x_6, h)))))) fun c hv => run F_law8_KernCaps T_law8_KernCaps_L2 [(1, .int .i64 env), (2, .int .i64 to), (3, .int .i64 n), (9, .pointer (some b)), (10, .pointer k), (12, .slice names namesn namesc), (13, .int .i64 atv), (14, .int .i64 i), (15, .bool c), (16, .int .i64 (IntKind.wrap .i64 (j + 1)))] hv)
  (cond (!mine)
  (run F_law8_KernCaps T_law8_KernCaps_L1 [(1, .int .i64 env), (2, .int .i64 to), (3, .int .i64 n), (9, .pointer (some b)), (10, .pointer k), (12, .slice names namesn namesc), (13, .int .i64 atv), (14, .int .i64 (IntKind.wrap .i64 (i + 1)))] h)
  (cond (decide (atv ≥ ((namesn : Nat) : Int)))
  (some (.bool false, h))
  (aSome names fun p_4 => ck ((0 : Int) ≤ atv ∧ atv < ((namesn : Nat) : Int)) (gInt .i64 (Addr.add (bare p_4) (Int.toNat atv * 1)) h fun x_7 => nw (.cells Y_api_Cap false [.int .i64 0, .int .i64 0, .int .i64 0, .int .i64 0, .int .i64 0, .int .i64 0]) h fun b_1 hv_1 => bnd (call F_kern_Kern_Space [.pointer k] hv_1) fun r hv_2 => aPtr r fun x_8 => gInt .i64 (Addr.add (bare p_4) (Int.toNat atv * 1)) hv_2 fun x_9 => same (.int .i64 x_7) (.int .i64 x_9) (bnd (call F_caps_Space_Get [.pointer x_8, .int .i64 env, .int .i64 x_7] hv_2) fun r_1 hv_3 => as2 r_1 fun r_2 r_3 => aAgg r_2 fun x_10 => aInt .i64 r_3 fun x_11 => ck (List.length x_10 = 6) (pAgg ⟨b_1, 0, none⟩ x_10 hv_3 fun hv_4 => bnd (cond (x_11 != 0) (some (true, hv_4)) (gAgg ⟨b_1, 0, none⟩ 6 hv_4 fun x_12 => gSl (Addr.add b 4) hv_4 fun x_13 xn_5 _ => aSome x_13 fun p_5 => ck ((0 : Int) ≤ i ∧ i < ((xn_5 : Nat) : Int)) (gInt .i64 (Addr.add (Addr.add (bare p_5) (Int.toNat i * 5)) 3) hv_4 fun x_14 => eqAgg PR Y_api_Cap x_12 [.int .i64 i, .int .i64 3, .int .i64 0, .int .i64 x_14, .int .i64 0, .int .i64 0] fun eq => some (!eq, hv_4)))) fun c_1 hv_5 => cond c_1
  (some (.bool false, hv_5))
  (aSome names fun p_6 => ck ((0 : Int) ≤ atv ∧ atv < ((namesn : Nat) : Int)) (gInt .i64 (Addr.add (bare p_6) (Int.toNat atv * 1)) hv_5 fun x_15 => bnd (call F_kern_Kern_Do [.pointer k, .int .i64 env, .agg ⟨[.int .i64 4, .int .i64 x_15, .int .i64 0, .int .i64 n, .int .i64 to, .int .i64 1, .slice none 0 0]⟩] hv_5) fun r_4 hv_6 => aAgg r_4 fun x_16 => nth x_16 0 fun E => aInt .i64 E fun E_1 => cond (E_1 != 3)
  (some (.bool false, hv_6))
  (run F_law8_KernCaps T_law8_KernCaps_L1 [(1, .int .i64 env), (2, .int .i64 to), (3, .int .i64 n), (9, .pointer (some b)), (10, .pointer k), (12, .slice names namesn namesc), (13, .int .i64 (IntKind.wrap .i64 (atv + 1))), (14, .int .i64 (IntKind.wrap .i64 (i + 1)))] hv_6)))))))))) := by kernel_rfl
def C_kern_Kern_Now : Cuts := { globs := 0, loops := [], regs := [], plans := [] }
noncomputable def T_kern_Kern_Now : List Item := bodyOf Try.f12
theorem e_kern_Kern_Now (call : CallFn) (run : RunFn) (k : Option Addr) (h : H) :
  exec PR C_kern_Kern_Now call run F_kern_Kern_Now Try.f12 100000 true T_kern_Kern_Now [(0, .pointer k)] h =
  aSome k fun p => gInt .i64 (Addr.add p 7) h fun x => some (.int .i64 x, h) := by kernel_rfl
def C_caps_Space_Names : Cuts := { globs := 0, loops := [], regs := [], plans := [] }
noncomputable def T_caps_Space_Names : List Item := bodyOf Try.f15
theorem e_caps_Space_Names (call : CallFn) (run : RunFn) (s : Option Addr) (env : Int) (h : H) :
  exec PR C_caps_Space_Names call run F_caps_Space_Names Try.f15 100000 true T_caps_Space_Names [(0, .pointer s), (1, .int .i64 env)] h =
  bnd (call F_caps_Space_is [.pointer s, .int .i64 env] h) fun r hv => aBool r fun x => cond (!x)
  (some (.slice none 0 0, hv))
  (aSome s fun p => gSl (Addr.add p 0) hv fun x_1 xn _ => aSome x_1 fun p_1 => ck ((0 : Int) ≤ env ∧ env < ((xn : Nat) : Int)) (gPtr (Addr.add (bare p_1) (Int.toNat env * 1)) hv fun x_2 => bnd (call F_table_Table_api_Cap_Names [.pointer x_2] hv) fun r_1 hv_1 => aSl r_1 fun x_3 xn_1 xc_1 => some (.slice x_3 xn_1 xc_1, hv_1))) := by kernel_rfl
def C_caps_Space_Get : Cuts := { globs := 0, loops := [], regs := [], plans := [] }
noncomputable def T_caps_Space_Get : List Item := bodyOf Try.f16
theorem e_caps_Space_Get (call : CallFn) (run : RunFn) (s : Option Addr) (env : Int) (name : Int) (h : H) :
  exec PR C_caps_Space_Get call run F_caps_Space_Get Try.f16 100000 true T_caps_Space_Get [(0, .pointer s), (1, .int .i64 env), (2, .int .i64 name)] h =
  nw (.cells Y_api_Cap false [.int .i64 0, .int .i64 0, .int .i64 0, .int .i64 0, .int .i64 0, .int .i64 0]) h fun b hv => bnd (call F_caps_Space_is [.pointer s, .int .i64 env] hv) fun r hv_1 => aBool r fun x => cond (!x)
  (pAgg ⟨b, 0, none⟩ [.int .i64 0, .int .i64 0, .int .i64 0, .int .i64 0, .int .i64 0, .int .i64 0] hv_1 fun hv_2 => gAgg ⟨b, 0, none⟩ 6 hv_2 fun x_1 => some (.tuple ⟨[.agg ⟨x_1⟩, .int .i64 2]⟩, hv_2))
  (aSome s fun p => gSl (Addr.add p 0) hv_1 fun x_2 xn _ => aSome x_2 fun p_1 => ck ((0 : Int) ≤ env ∧ env < ((xn : Nat) : Int)) (gPtr (Addr.add (bare p_1) (Int.toNat env * 1)) hv_1 fun x_3 => bnd (call F_table_Table_api_Cap_Get [.pointer x_3, .int .i64 name] hv_1) fun r_1 hv_3 => as2 r_1 fun r_2 r_3 => aAgg r_2 fun x_4 => aBool r_3 fun x_5 => nw (.cells Y_api_Cap false [.int .i64 0, .int .i64 0, .int .i64 0, .int .i64 0, .int .i64 0, .int .i64 0]) hv_3 fun b_1 hv_4 => ck (List.length x_4 = 6) (pAgg ⟨b_1, 0, none⟩ x_4 hv_4 fun hv_5 => cond (!x_5)
  (pAgg ⟨b, 0, none⟩ [.int .i64 0, .int .i64 0, .int .i64 0, .int .i64 0, .int .i64 0, .int .i64 0] hv_5 fun hv_6 => gAgg ⟨b, 0, none⟩ 6 hv_6 fun x_6 => some (.tuple ⟨[.agg ⟨x_6⟩, .int .i64 2]⟩, hv_6))
  (gAgg ⟨b_1, 0, none⟩ 6 hv_5 fun x_7 => ck (List.length x_7 = 6) (pAgg ⟨b, 0, none⟩ x_7 hv_5 fun hv_7 => gAgg ⟨b, 0, none⟩ 6 hv_7 fun x_8 => some (.tuple ⟨[.agg ⟨x_8⟩, .int .i64 0]⟩, hv_7)))))) := by kernel_rfl
def C_kern_check : Cuts := { globs := 0, loops := [(7, [1, 3, 52, 53, 54]), (13, [1, 3, 63, 64, 65])], regs := [], plans := [] }
noncomputable def T_kern_check : List Item := bodyOf Try.f20
noncomputable def T_kern_check_L1 : List Item := stk [0, 1, 0, 1, 0, 1, 0, 1, 0, 0, 1, 4, 5] T_kern_check
noncomputable def T_kern_check_L2 : List Item := stk [0, 1, 0, 1, 0, 1, 0, 1, 0, 1, 0, 0, 1, 4, 5] T_kern_check
theorem e_kern_check (call : CallFn) (run : RunFn) (c : List Value) (h : H) :
  exec PR C_kern_check call run F_kern_check Try.f20 100000 true T_kern_check [(0, .agg ⟨c⟩)] h =
  nw (.cells Y_api_Boot false c) h fun b hv => gSl (Addr.add ⟨b, 0, none⟩ 0) hv fun _ xn _ => bnd (cond (decide (((xn : Nat) : Int) < 1)) (some (true, hv)) (gSl (Addr.add ⟨b, 0, none⟩ 0) hv fun _ xn_1 _ => some (decide (((xn_1 : Nat) : Int) > 4), hv))) fun c_1 hv_1 => bnd (cond c_1 (some (true, hv_1)) (gSl (Addr.add ⟨b, 0, none⟩ 1) hv_1 fun _ xn_2 _ => some (decide (((xn_2 : Nat) : Int) > 40), hv_1))) fun c_2 hv_2 => bnd (cond c_2 (some (true, hv_2)) (gSl (Addr.add ⟨b, 0, none⟩ 2) hv_2 fun _ xn_3 _ => some (decide (((xn_3 : Nat) : Int) > 8), hv_2))) fun c_3 hv_3 => bnd (cond c_3 (some (true, hv_3)) (gSl (Addr.add ⟨b, 0, none⟩ 4) hv_3 fun _ xn_4 _ => some (decide (((xn_4 : Nat) : Int) > 16), hv_3))) fun c_4 hv_4 => bnd (cond c_4 (some (true, hv_4)) (gInt .i64 (Addr.add ⟨b, 0, none⟩ 3) hv_4 fun x_5 => some (decide (x_5 < 1), hv_4))) fun c_5 hv_5 => bnd (cond c_5 (some (true, hv_5)) (gInt .i64 (Addr.add ⟨b, 0, none⟩ 3) hv_5 fun x_6 => some (decide (x_6 > 1000), hv_5))) fun c_6 hv_6 => cond c_6
  (some (.bool false, hv_6))
  (gSl (Addr.add ⟨b, 0, none⟩ 1) hv_6 fun x_7 xn_5 xc_5 => bnd (call F_slices_ContainsFunc_s_int_int [.slice x_7 xn_5 xc_5, .func (.func F_kern_check_1) ⟨[]⟩ ⟨[.pointer (some ⟨b, 0, none⟩)]⟩] hv_6) fun r hv_7 => aBool r fun x_8 => cond x_8
  (some (.bool false, hv_7))
  (gSl (Addr.add ⟨b, 0, none⟩ 2) hv_7 fun x_9 xn_6 xc_6 => run F_kern_check T_kern_check_L1 [(1, .pointer (some ⟨b, 0, none⟩)), (3, .func (.func F_kern_check_1) ⟨[]⟩ ⟨[.pointer (some ⟨b, 0, none⟩)]⟩), (52, .slice x_9 xn_6 xc_6), (53, .int .i64 ((xn_6 : Nat) : Int)), (54, .int .i64 0)] hv_7)) := by kernel_rfl
theorem e_kern_check_L1 (call : CallFn) (run : RunFn) (c : Addr) (nonev : Addr) (x52 : Option Addr) (x52n x52c : Nat) (x53 : Int) (x54 : Int) (h : H) :
  exec PR C_kern_check call run F_kern_check Try.f20 100000 true T_kern_check_L1 [(1, .pointer (some c)), (3, .func (.func F_kern_check_1) ⟨[]⟩ ⟨[.pointer (some nonev)]⟩), (52, .slice x52 x52n x52c), (53, .int .i64 x53), (54, .int .i64 x54)] h =
  cond (decide (x54 < x53))
  (aSome x52 fun p => ck ((0 : Int) ≤ x54 ∧ x54 < ((x52n : Nat) : Int)) (gSl (Addr.add (bare p) (Int.toNat x54 * 1)) h fun x xn xc => bnd (call F_slices_ContainsFunc_s_int_int [.slice x xn xc, .func (.func F_kern_check_1) ⟨[]⟩ ⟨[.pointer (some nonev)]⟩] h) fun r hv => aBool r fun x_1 => cond x_1
  (some (.bool false, hv))
  (run F_kern_check T_kern_check_L1 [(1, .pointer (some c)), (3, .func (.func F_kern_check_1) ⟨[]⟩ ⟨[.pointer (some nonev)]⟩), (52, .slice x52 x52n x52c), (53, .int .i64 x53), (54, .int .i64 (IntKind.wrap .i64 (x54 + 1)))] hv)))
  (gSl (Addr.add c 4) h fun x_2 xn_1 xc_1 => run F_kern_check T_kern_check_L2 [(1, .pointer (some c)), (3, .func (.func F_kern_check_1) ⟨[]⟩ ⟨[.pointer (some nonev)]⟩), (63, .slice x_2 xn_1 xc_1), (64, .int .i64 ((xn_1 : Nat) : Int)), (65, .int .i64 0)] h) := by kernel_rfl
theorem e_kern_check_L2 (call : CallFn) (run : RunFn) (c : Addr) (nonev : Addr) (x63 : Option Addr) (x63n x63c : Nat) (x64 : Int) (x65 : Int) (h : H) :
  exec PR C_kern_check call run F_kern_check Try.f20 100000 true T_kern_check_L2 [(1, .pointer (some c)), (3, .func (.func F_kern_check_1) ⟨[]⟩ ⟨[.pointer (some nonev)]⟩), (63, .slice x63 x63n x63c), (64, .int .i64 x64), (65, .int .i64 x65)] h =
  cond (decide (x65 < x64))
  (aSome x63 fun p => ck ((0 : Int) ≤ x65 ∧ x65 < ((x63n : Nat) : Int)) (gAgg (Addr.add (bare p) (Int.toNat x65 * 5)) 5 h fun x => nw (.cells Y_api_Share false [.int .i64 0, .int .i64 0, .int .i64 0, .int .i64 0, .slice none 0 0]) h fun b hv => ck (List.length x = 5) (pAgg ⟨b, 0, none⟩ x hv fun hv_1 => gAgg c 5 hv_1 fun x_1 => gAgg ⟨b, 0, none⟩ 5 hv_1 fun x_2 => bnd (call F_kern_share [.agg ⟨x_1⟩, .agg ⟨x_2⟩] hv_1) fun r hv_2 => aBool r fun x_3 => bnd (cond (!x_3) (some (true, hv_2)) (gSl (Addr.add ⟨b, 0, none⟩ 4) hv_2 fun x_4 xn xc => bnd (call F_slices_ContainsFunc_s_int_int [.slice x_4 xn xc, .func (.func F_kern_check_1) ⟨[]⟩ ⟨[.pointer (some nonev)]⟩] hv_2) fun r_1 hv_3 => aBool r_1 fun x_5 => some (x_5, hv_3))) fun c_1 hv_4 => cond c_1
  (some (.bool false, hv_4))
  (run F_kern_check T_kern_check_L2 [(1, .pointer (some c)), (3, .func (.func F_kern_check_1) ⟨[]⟩ ⟨[.pointer (some nonev)]⟩), (63, .slice x63 x63n x63c), (64, .int .i64 x64), (65, .int .i64 (IntKind.wrap .i64 (x65 + 1)))] hv_4))))
  (some (.bool true, h)) := by kernel_rfl
def C_slices_Clone_s_int_int : Cuts := { globs := 0, loops := [], regs := [], plans := [] }
noncomputable def T_slices_Clone_s_int_int : List Item := bodyOf Try.f22
theorem e_slices_Clone_s_int_int (call : CallFn) (run : RunFn) (s : Option Addr) (sn sc : Nat) (h : H) :
  exec PR C_slices_Clone_s_int_int call run F_slices_Clone_s_int_int Try.f22 100000 true T_slices_Clone_s_int_int [(0, .slice s sn sc)] h =
  cond s.isNone
  (some (.slice none 0 0, h))
  (nw (.cells Y_int false []) h fun b hv => gCells s (sn * 1) hv fun cs => ckB (fitsOpen (some ⟨b, 0, none⟩) Y_int hv) (apd Y_int 1 (some ⟨b, 0, none⟩) 0 0 sn cs hv fun a an ac hv_1 => some (.slice a an ac, hv_1))) := by kernel_rfl
def C_region_New : Cuts := { globs := 0, loops := [], regs := [], plans := [] }
noncomputable def T_region_New : List Item := bodyOf Try.f26
theorem e_region_New (call : CallFn) (run : RunFn) (m : Option Addr) (s : Option Addr) (h : H) :
  exec PR C_region_New call run F_region_New Try.f26 100000 true T_region_New [(0, .pointer m), (1, .pointer s)] h =
  nw (.cells Y_region_Regions false [.pointer m, .pointer s, .slice none 0 0]) h fun b hv => some (.pointer (some ⟨b, 0, none⟩), hv) := by kernel_rfl
def C_region_Regions_Add : Cuts := { globs := 0, loops := [], regs := [], plans := [] }
noncomputable def T_region_Regions_Add : List Item := bodyOf Try.f28
theorem e_region_Regions_Add (call : CallFn) (run : RunFn) (r : Option Addr) (lo : Int) (n : Int) (h : H) :
  exec PR C_region_Regions_Add call run F_region_Regions_Add Try.f28 100000 true T_region_Regions_Add [(0, .pointer r), (1, .int .i64 lo), (2, .int .i64 n)] h =
  bnd (cond (decide (lo < 0)) (some (true, h)) (some (decide (n < 0), h))) fun c hv => bnd (cond c (some (true, hv)) (aSome r fun p => gPtr (Addr.add p 0) hv fun x => bnd (call F_mem_Mem_Size [.pointer x] hv) fun r_1 hv_1 => aInt .i64 r_1 fun x_1 => some (decide (lo > x_1), hv_1))) fun c_1 hv_2 => bnd (cond c_1 (some (true, hv_2)) (aSome r fun p_1 => gPtr (Addr.add p_1 0) hv_2 fun x_2 => bnd (call F_mem_Mem_Size [.pointer x_2] hv_2) fun r_2 hv_3 => aInt .i64 r_2 fun x_3 => some (decide (n > (IntKind.wrap .i64 (x_3 - lo))), hv_3))) fun c_2 hv_4 => cond c_2
  (some (.tuple ⟨[.int .i64 0, .int .i64 1]⟩, hv_4))
  (aSome r fun p_2 => gSl (Addr.add p_2 2) hv_4 fun _ xn _ => cond (decide (((xn : Nat) : Int) ≥ 32))
  (some (.tuple ⟨[.int .i64 0, .int .i64 4]⟩, hv_4))
  (aSome r fun p_3 => gSl (Addr.add p_3 2) hv_4 fun x_5 xn_1 xc_1 => nw (.cells Y_region_span false [.int .i64 lo, .int .i64 n]) hv_4 fun b hv_5 => gCells (some ⟨b, 0, none⟩) (1 * 2) hv_5 fun cs => ckB (fitsOpen x_5 Y_region_span hv_5) (apd Y_region_span 2 x_5 xn_1 xc_1 1 cs hv_5 fun a an ac hv_6 => aSome r fun p_4 => pV (Addr.add p_4 2) (.slice a an ac) hv_6 fun hv_7 => aSome r fun p_5 => gSl (Addr.add p_5 2) hv_7 fun _ xn_2 _ => some (.tuple ⟨[.int .i64 (IntKind.wrap .i64 (((xn_2 : Nat) : Int) - 1)), .int .i64 0]⟩, hv_7)))) := by kernel_rfl
def C_caps_Space_Put : Cuts := { globs := 0, loops := [], regs := [], plans := [] }
noncomputable def T_caps_Space_Put : List Item := bodyOf Try.f31
theorem e_caps_Space_Put (call : CallFn) (run : RunFn) (s : Option Addr) (env : Int) (c : List Value) (h : H) :
  exec PR C_caps_Space_Put call run F_caps_Space_Put Try.f31 100000 true T_caps_Space_Put [(0, .pointer s), (1, .int .i64 env), (2, .agg ⟨c⟩)] h =
  nw (.cells Y_api_Cap false c) h fun b hv => bnd (call F_caps_Space_is [.pointer s, .int .i64 env] hv) fun r hv_1 => aBool r fun x => bnd (cond (!x) (some (true, hv_1)) (gInt .i64 (Addr.add ⟨b, 0, none⟩ 1) hv_1 fun x_1 => some ((bitN .i64 x_1 7) != 0, hv_1))) fun c_1 hv_2 => bnd (cond c_1 (some (true, hv_2)) (gInt .i64 (Addr.add ⟨b, 0, none⟩ 2) hv_2 fun x_2 => bnd (call F_caps_Space_Put_1 [.int .i64 x_2] hv_2) fun r_1 hv_3 => aBool r_1 fun x_3 => some (!x_3, hv_3))) fun c_2 hv_4 => bnd (cond c_2 (some (true, hv_4)) (gInt .i64 (Addr.add ⟨b, 0, none⟩ 3) hv_4 fun x_4 => bnd (call F_caps_Space_Put_1 [.int .i64 x_4] hv_4) fun r_2 hv_5 => aBool r_2 fun x_5 => some (!x_5, hv_5))) fun c_3 hv_6 => cond c_3
  (some (.tuple ⟨[.int .i64 0, .int .i64 1]⟩, hv_6))
  (pAgg (Addr.add ⟨b, 0, none⟩ 4) [.int .i64 0, .int .i64 0] hv_6 fun hv_7 => gAgg ⟨b, 0, none⟩ 6 hv_7 fun x_6 => bnd (call F_caps_Space_add [.pointer s, .int .i64 env, .agg ⟨x_6⟩] hv_7) fun r_3 hv_8 => as2 r_3 fun r_4 r_5 => aInt .i64 r_4 fun x_7 => aInt .i64 r_5 fun x_8 => some (.tuple ⟨[.int .i64 x_7, .int .i64 x_8]⟩, hv_8)) := by kernel_rfl
def C_table_Table_api_Cap_Names : Cuts := { globs := 0, loops := [(3, [0, 3, 9, 10, 11])], regs := [], plans := [] }
noncomputable def T_table_Table_api_Cap_Names : List Item := bodyOf Try.f36
noncomputable def T_table_Table_api_Cap_Names_L1 : List Item := stk [0, 1, 0, 1, 0, 0, 1, 4, 5] T_table_Table_api_Cap_Names
theorem e_table_Table_api_Cap_Names (call : CallFn) (run : RunFn) (t : Option Addr) (h : H) :
  exec PR C_table_Table_api_Cap_Names call run F_table_Table_api_Cap_Names Try.f36 100000 true T_table_Table_api_Cap_Names [(0, .pointer t)] h =
  aSome t fun p => gSl (Addr.add p 0) h fun x xn xc => run F_table_Table_api_Cap_Names T_table_Table_api_Cap_Names_L1 [(0, .pointer t), (3, .slice none 0 0), (9, .slice x xn xc), (10, .int .i64 ((xn : Nat) : Int)), (11, .int .i64 0)] h := by kernel_rfl
theorem e_table_Table_api_Cap_Names_L1 (call : CallFn) (run : RunFn) (t : Option Addr) (out : Option Addr) (outn outc : Nat) (x9 : Option Addr) (x9n x9c : Nat) (x10 : Int) (x11 : Int) (h : H) :
  exec PR C_table_Table_api_Cap_Names call run F_table_Table_api_Cap_Names Try.f36 100000 true T_table_Table_api_Cap_Names_L1 [(0, .pointer t), (3, .slice out outn outc), (9, .slice x9 x9n x9c), (10, .int .i64 x10), (11, .int .i64 x11)] h =
  cond (decide (x11 < x10))
  (aSome x9 fun p => ck ((0 : Int) ≤ x11 ∧ x11 < ((x9n : Nat) : Int)) (gAgg (Addr.add (bare p) (Int.toNat x11 * 8)) 8 h fun x => nw (.cells Y_table_place_api_Cap false [.int .i64 0, .int .i64 0, .int .i64 0, .int .i64 0, .int .i64 0, .int .i64 0, .int .i64 0, .bool false]) h fun b hv => ck (List.length x = 8) (pAgg ⟨b, 0, none⟩ x hv fun hv_1 => gBool (Addr.add ⟨b, 0, none⟩ 7) hv_1 fun x_1 => cond x_1
  (bnd (call F_table_Table_api_Cap_name [.pointer t, .int .i64 x11] hv_1) fun r hv_2 => aInt .i64 r fun x_2 => nw (.cells Y_int false [.int .i64 x_2]) hv_2 fun b_1 hv_3 => gCells (some ⟨b_1, 0, none⟩) (1 * 1) hv_3 fun cs => ckB (fitsOpen out Y_int hv_3) (apd Y_int 1 out outn outc 1 cs hv_3 fun a an ac hv_4 => run F_table_Table_api_Cap_Names T_table_Table_api_Cap_Names_L1 [(0, .pointer t), (3, .slice a an ac), (9, .slice x9 x9n x9c), (10, .int .i64 x10), (11, .int .i64 (IntKind.wrap .i64 (x11 + 1)))] hv_4))
  (run F_table_Table_api_Cap_Names T_table_Table_api_Cap_Names_L1 [(0, .pointer t), (3, .slice out outn outc), (9, .slice x9 x9n x9c), (10, .int .i64 x10), (11, .int .i64 (IntKind.wrap .i64 (x11 + 1)))] hv_1))))
  (some (.slice out outn outc, h)) := by kernel_rfl
def C_caps_Space_Grant : Cuts := { globs := 0, loops := [], regs := [], plans := [] }
noncomputable def T_caps_Space_Grant : List Item := bodyOf Try.f49
theorem e_caps_Space_Grant (call : CallFn) (run : RunFn) (s : Option Addr) (env : Int) (name : Int) (to : Int) (give : Int) (lo : Int) (n : Int) (h : H) :
  exec PR C_caps_Space_Grant call run F_caps_Space_Grant Try.f49 100000 true T_caps_Space_Grant [(0, .pointer s), (1, .int .i64 env), (2, .int .i64 name), (3, .int .i64 to), (4, .int .i64 give), (5, .int .i64 lo), (6, .int .i64 n)] h =
  bnd (call F_caps_Space_Get [.pointer s, .int .i64 env, .int .i64 name] h) fun r hv => as2 r fun r_1 r_2 => aAgg r_1 fun x => aInt .i64 r_2 fun x_1 => nw (.cells Y_api_Cap false [.int .i64 0, .int .i64 0, .int .i64 0, .int .i64 0, .int .i64 0, .int .i64 0]) hv fun b hv_1 => ck (List.length x = 6) (pAgg ⟨b, 0, none⟩ x hv_1 fun hv_2 => cond (x_1 != 0)
  (some (.tuple ⟨[.int .i64 0, .int .i64 x_1]⟩, hv_2))
  (gInt .i64 (Addr.add ⟨b, 0, none⟩ 1) hv_2 fun x_2 => bnd (cond ((bitA .i64 x_2 4) == 0) (some (true, hv_2)) (gInt .i64 (Addr.add ⟨b, 0, none⟩ 1) hv_2 fun x_3 => some ((bitN .i64 give x_3) != 0, hv_2))) fun c hv_3 => cond c
  (some (.tuple ⟨[.int .i64 0, .int .i64 3]⟩, hv_3))
  (bnd (call F_caps_Space_is [.pointer s, .int .i64 to] hv_3) fun r_3 hv_4 => aBool r_3 fun x_4 => bnd (cond (!x_4) (some (true, hv_4)) (some (decide (lo < 0), hv_4))) fun c_1 hv_5 => bnd (cond c_1 (some (true, hv_5)) (some (decide (n < 0), hv_5))) fun c_2 hv_6 => bnd (cond c_2 (some (true, hv_6)) (gInt .i64 (Addr.add ⟨b, 0, none⟩ 3) hv_6 fun x_5 => some (decide (lo > x_5), hv_6))) fun c_3 hv_7 => bnd (cond c_3 (some (true, hv_7)) (gInt .i64 (Addr.add ⟨b, 0, none⟩ 3) hv_7 fun x_6 => some (decide (n > (IntKind.wrap .i64 (x_6 - lo))), hv_7))) fun c_4 hv_8 => cond c_4
  (some (.tuple ⟨[.int .i64 0, .int .i64 1]⟩, hv_8))
  (gInt .i64 (Addr.add ⟨b, 0, none⟩ 0) hv_8 fun x_7 => gInt .i64 (Addr.add ⟨b, 0, none⟩ 2) hv_8 fun x_8 => bnd (call F_caps_Space_add [.pointer s, .int .i64 to, .agg ⟨[.int .i64 x_7, .int .i64 give, .int .i64 (IntKind.wrap .i64 (x_8 + lo)), .int .i64 n, .int .i64 env, .int .i64 name]⟩] hv_8) fun r_4 hv_9 => as2 r_4 fun r_5 r_6 => aInt .i64 r_5 fun x_9 => aInt .i64 r_6 fun x_10 => some (.tuple ⟨[.int .i64 x_9, .int .i64 x_10]⟩, hv_9))))) := by kernel_rfl
def C_kern_Kern_enter : Cuts := { globs := 0, loops := [], regs := [], plans := [] }
noncomputable def T_kern_Kern_enter : List Item := bodyOf Try.f53
theorem e_kern_Kern_enter (call : CallFn) (run : RunFn) (k : Option Addr) (env : Int) (c : List Value) (h : H) :
  exec PR C_kern_Kern_enter call run F_kern_Kern_enter Try.f53 100000 true T_kern_Kern_enter [(0, .pointer k), (1, .int .i64 env), (2, .agg ⟨c⟩)] h =
  nw (.cells Y_api_Call false c) h fun b hv => gInt .i64 (Addr.add ⟨b, 0, none⟩ 3) hv fun x => bnd (call F_kern_Kern_sect [.pointer k, .int .i64 env, .int .i64 x] hv) fun r hv_1 => as2 r fun r_1 r_2 => aPtr r_1 fun x_1 => aInt .i64 r_2 fun x_2 => cond (x_2 != 0)
  (some (.tuple ⟨[.int .i64 0, .int .i64 x_2]⟩, hv_1))
  (aSome k fun p => gInt .i64 (Addr.add p 7) hv_1 fun x_3 => bnd (call F_sect_Sect_Enter [.pointer x_1, .int .i64 env, .int .i64 x_3] hv_1) fun r_3 hv_2 => as2 r_3 fun r_4 r_5 => aInt .i64 r_4 fun x_4 => aBool r_5 fun _ => some (.tuple ⟨[.int .i64 x_4, .int .i64 0]⟩, hv_2)) := by kernel_rfl
def C_kern_Kern_leave : Cuts := { globs := 0, loops := [], regs := [], plans := [] }
noncomputable def T_kern_Kern_leave : List Item := bodyOf Try.f54
theorem e_kern_Kern_leave (call : CallFn) (run : RunFn) (k : Option Addr) (env : Int) (c : List Value) (h : H) :
  exec PR C_kern_Kern_leave call run F_kern_Kern_leave Try.f54 100000 true T_kern_Kern_leave [(0, .pointer k), (1, .int .i64 env), (2, .agg ⟨c⟩)] h =
  nw (.cells Y_api_Call false c) h fun b hv => gInt .i64 (Addr.add ⟨b, 0, none⟩ 3) hv fun x => bnd (call F_kern_Kern_sect [.pointer k, .int .i64 env, .int .i64 x] hv) fun r hv_1 => as2 r fun r_1 r_2 => aPtr r_1 fun x_1 => aInt .i64 r_2 fun x_2 => bnd (cond (x_2 == 0) (gInt .i64 (Addr.add ⟨b, 0, none⟩ 2) hv_1 fun x_3 => bnd (call F_sect_Sect_Leave [.pointer x_1, .int .i64 env, .int .i64 x_3] hv_1) fun r_3 hv_2 => aBool r_3 fun x_4 => some (!x_4, hv_2)) (some (false, hv_1))) fun c_1 hv_3 => cond c_1
  (some (.int .i64 8, hv_3))
  (some (.int .i64 x_2, hv_3)) := by kernel_rfl
def C_mem_Mem_Load : Cuts := { globs := 0, loops := [], regs := [], plans := [] }
noncomputable def T_mem_Mem_Load : List Item := bodyOf Try.f60
theorem e_mem_Mem_Load (call : CallFn) (run : RunFn) (m : Option Addr) (atv : Int) (n : Int) (h : H) :
  exec PR C_mem_Mem_Load call run F_mem_Mem_Load Try.f60 100000 true T_mem_Mem_Load [(0, .pointer m), (1, .int .i64 atv), (2, .int .i64 n)] h =
  bnd (call F_mem_Mem_in [.pointer m, .int .i64 atv, .int .i64 n] h) fun r hv => aBool r fun x => cond (!x)
  (some (.tuple ⟨[.slice none 0 0, .int .i64 1]⟩, hv))
  (aSome m fun p => gSl (Addr.add p 0) hv fun x_1 _ xc => ckB (fitsOpen x_1 Y_uint8 hv) (ck ((0 : Int) ≤ IntKind.wrap .i64 (atv + n) ∧ IntKind.wrap .i64 (atv + n) ≤ ((xc : Nat) : Int)) (ck ((0 : Int) ≤ atv ∧ atv ≤ ((Int.toNat (IntKind.wrap .i64 (atv + n)) : Nat) : Int)) (bnd (call F_slices_Clone_s_byte_byte [.slice (moved x_1 (decide (Int.toNat atv < xc)) ((Int.toNat atv) * 1)) ((Int.toNat (IntKind.wrap .i64 (atv + n))) - (Int.toNat atv)) (xc - (Int.toNat atv))] hv) fun r_1 hv_1 => aSl r_1 fun x_2 xn_1 xc_1 => some (.tuple ⟨[.slice x_2 xn_1 xc_1, .int .i64 0]⟩, hv_1))))) := by kernel_rfl
def C_table_Table_api_Cap_Drop : Cuts := { globs := 0, loops := [], regs := [], plans := [] }
def C_quota_Quota_is : Cuts := { globs := 0, loops := [], regs := [], plans := [] }
noncomputable def T_quota_Quota_is : List Item := bodyOf Try.f64
theorem e_quota_Quota_is (call : CallFn) (run : RunFn) (q : Option Addr) (s : Int) (h : H) :
  exec PR C_quota_Quota_is call run F_quota_Quota_is Try.f64 100000 true T_quota_Quota_is [(0, .pointer q), (1, .int .i64 s)] h =
  bnd (cond (decide (s ≥ 0)) (aSome q fun p => gSl (Addr.add p 0) h fun _ xn _ => some (decide (s < ((xn : Nat) : Int)), h)) (some (false, h))) fun c hv => some (.bool c, hv) := by kernel_rfl
def C_slices_Clone_s_byte_byte : Cuts := { globs := 0, loops := [], regs := [], plans := [] }
noncomputable def T_slices_Clone_s_byte_byte : List Item := bodyOf Try.f70
theorem e_slices_Clone_s_byte_byte (call : CallFn) (run : RunFn) (s : Option Addr) (sn sc : Nat) (h : H) :
  exec PR C_slices_Clone_s_byte_byte call run F_slices_Clone_s_byte_byte Try.f70 100000 true T_slices_Clone_s_byte_byte [(0, .slice s sn sc)] h =
  cond s.isNone
  (some (.slice none 0 0, h))
  (nw (.cells Y_uint8 false []) h fun b hv => gCells s (sn * 1) hv fun cs => ckB (fitsOpen (some ⟨b, 0, none⟩) Y_uint8 hv) (apd Y_uint8 1 (some ⟨b, 0, none⟩) 0 0 sn cs hv fun a an ac hv_1 => some (.slice a an ac, hv_1))) := by kernel_rfl
def C_slices_insertionSortCmpFunc_api_Ref : Cuts := { globs := 0, loops := [(1, [0, 1, 2, 3, 8]), (4, [0, 1, 2, 3, 8, 9])], regs := [], plans := [(4, ⟨[0, 1, 2, 3, 4, 5, 6, 7, 8, 9, 10, 11, 12, 13, 14, 15, 16], [0, 0, 3, 7, 15, 15, 15, 111, 239, 15, 15, 1039, 3599, 7695, 16383, 32767, 65535], [], []⟩), (6, ⟨[0, 1, 2, 3, 4, 5, 6, 7, 8, 9, 10, 11, 12, 13, 14, 15, 16, 17], [0, 0, 0, 0, 8, 0, 0, 64, 224, 480, 0, 0, 3072, 7168, 16355, 32739, 65535, 131071], [], []⟩)] }
def C_slices_heapSortCmpFunc_api_Ref : Cuts := { globs := 0, loops := [(4, [0, 3, 8, 9, 10, 11]), (8, [0, 3, 8, 9, 12])], regs := [], plans := [(10, ⟨[0, 1, 2, 3, 4, 5, 6, 7, 8, 9, 10, 11, 12, 13, 14, 15, 16, 17, 18, 19], [0, 0, 0, 0, 0, 24, 0, 0, 0, 384, 960, 1984, 0, 0, 12288, 28672, 65475, 131011, 262143, 524287], [], []⟩)] }
def C_slices_partitionCmpFunc_api_Ref : Cuts := { globs := 0, loops := [(3, [0, 1, 4, 12, 13]), (5, [0, 1, 4, 12, 13]), (13, [0, 1, 4, 12, 13]), (15, [0, 1, 4, 12, 13])], regs := [], plans := [(1, ⟨[0, 1, 2, 3, 4, 5, 6, 7, 8, 9, 10, 11, 12, 13, 14, 15], [0, 0, 0, 0, 0, 0, 48, 112, 0, 0, 768, 1792, 4083, 8179, 16383, 32767], [], []⟩), (3, ⟨[0, 1, 2, 3, 4, 5, 6, 7, 8, 9, 10, 11, 12, 13, 14, 15], [0, 0, 3, 7, 15, 15, 15, 111, 239, 15, 15, 1551, 3599, 8191, 16383, 32767], [], []⟩), (5, ⟨[0, 1, 2, 3, 4, 5, 6, 7, 8, 9, 10, 11, 12, 13, 14, 15, 16], [0, 0, 3, 7, 15, 15, 15, 111, 239, 15, 15, 1551, 3599, 8191, 16383, 32767, 65535], [], []⟩), (8, ⟨[0, 1, 2, 3, 4, 5, 6, 7, 8, 9, 10, 11, 12, 13, 14, 15], [0, 0, 0, 0, 0, 0, 48, 112, 0, 0, 768, 1792, 4083, 8179, 16383, 32767], [], []⟩), (10, ⟨[0, 1, 2, 3, 4, 5, 6, 7, 8, 9, 10, 11, 12, 13, 14, 15], [0, 0, 0, 0, 0, 0, 48, 112, 0, 0, 768, 1792, 4083, 8179, 16383, 32767], [], []⟩), (13, ⟨[0, 1, 2, 3, 4, 5, 6, 7, 8, 9, 10, 11, 12, 13, 14, 15], [0, 0, 3, 7, 15, 15, 15, 111, 239, 15, 15, 1551, 3599, 8191, 16383, 32767], [], []⟩), (15, ⟨[0, 1, 2, 3, 4, 5, 6, 7, 8, 9, 10, 11, 12, 13, 14, 15, 16], [0, 0, 3, 7, 15, 15, 15, 111, 239, 15, 15, 1551, 3599, 8191, 16383, 32767, 65535], [], []⟩), (21, ⟨[0, 1, 2, 3, 4, 5, 6, 7, 8, 9, 10, 11, 12, 13, 14, 15], [0, 0, 0, 0, 0, 0, 48, 112, 0, 0, 768, 1792, 4083, 8179, 16383, 32767], [], []⟩), (18, ⟨[0, 1, 2, 3, 4, 5, 6, 7, 8, 9, 10, 11, 12, 13, 14, 15], [0, 0, 0, 0, 0, 0, 48, 112, 0, 0, 768, 1792, 4083, 8179, 16383, 32767], [], []⟩)] }
def C_slices_medianCmpFunc_api_Ref : Cuts := { globs := 0, loops := [], regs := [], plans := [] }
end Go.EQ

set_option maxRecDepth 100000
set_option linter.unusedVariables false
namespace Go.EQ
open Go Go.NN Go.Proofs
def C_law8_KernClock : Cuts := { globs := 0, loops := [(6, [0, 3, 5, 6])], regs := [], plans := [] }
def C_law8_KernSects : Cuts := { globs := 0, loops := [(6, [0, 3, 5, 6]), (22, [0, 3, 5, 6, 12])], regs := [], plans := [(11, ⟨[0, 1, 2, 3, 4, 5, 6, 7, 8], [0, 1, 3, 0, 8, 24, 56, 7, 255], [], []⟩)] }
def C_kern_Kern_Tick : Cuts := { globs := 0, loops := [], regs := [], plans := [] }
def C_kern_Kern_Space : Cuts := { globs := 0, loops := [], regs := [], plans := [] }
noncomputable def T_kern_Kern_Space : List Item := bodyOf Try.f14
theorem e_kern_Kern_Space (call : CallFn) (run : RunFn) (k : Option Addr) (h : H) :
  exec PR C_kern_Kern_Space call run F_kern_Kern_Space Try.f14 100000 true T_kern_Kern_Space [(0, .pointer k)] h =
  aSome k fun p => gPtr (Addr.add p 3) h fun x => some (.pointer x, h) := by kernel_rfl
def C_caps_New : Cuts := { globs := 0, loops := [(3, [3, 8, 9])], regs := [], plans := [(4, ⟨[0, 1, 2, 3, 4, 5, 6, 7, 8, 9, 10], [0, 0, 2, 6, 14, 0, 32, 126, 255, 511, 1023], [(5, [4])], []⟩)] }
noncomputable def T_caps_New : List Item := bodyOf Try.f24
noncomputable def T_caps_New_L1 : List Item := stk [0, 1, 0, 1, 0, 0, 1, 4, 5] T_caps_New
theorem e_caps_New (call : CallFn) (run : RunFn) (envs : Int) (h : H) :
  exec PR C_caps_New call run F_caps_New Try.f24 100000 true T_caps_New [(0, .int .i64 envs)] h =
  nw (.cells Y_caps_Space false [.slice none 0 0]) h fun b hv => run F_caps_New T_caps_New_L1 [(3, .pointer (some ⟨b, 0, none⟩)), (8, .int .i64 (mm2 false (mm2 true envs 0) 40)), (9, .int .i64 0)] hv := by kernel_rfl
theorem e_caps_New_L1 (call : CallFn) (run : RunFn) (s : Addr) (x8 : Int) (x9 : Int) (h : H) :
  exec PR C_caps_New call run F_caps_New Try.f24 100000 true T_caps_New_L1 [(3, .pointer (some s)), (8, .int .i64 x8), (9, .int .i64 x9)] h =
  cond (decide (x9 < x8))
  (gSl (Addr.add s 0) h fun x xn xc => bnd (call F_table_New_api_Cap [.int .i64 32] h) fun r hv => aPtr r fun x_1 => gSl (Addr.add s 0) hv fun x_2 xn_1 xc_1 => same (.slice x xn xc) (.slice x_2 xn_1 xc_1) (nw (.cells Y_p_table_Table_api_Cap false [.pointer x_1]) hv fun b hv_1 => gCells (some ⟨b, 0, none⟩) (1 * 1) hv_1 fun cs => ckB (fitsOpen x Y_p_table_Table_api_Cap hv_1) (apd Y_p_table_Table_api_Cap 1 x xn xc 1 cs hv_1 fun a an ac hv_2 => pV (Addr.add s 0) (.slice a an ac) hv_2 fun hv_3 => run F_caps_New T_caps_New_L1 [(3, .pointer (some s)), (8, .int .i64 x8), (9, .int .i64 (IntKind.wrap .i64 (x9 + 1)))] hv_3)))
  (some (.pointer (some s), h)) := by kernel_rfl
def C_sect_New : Cuts := { globs := 0, loops := [], regs := [], plans := [] }
noncomputable def T_sect_New : List Item := bodyOf Try.f27
theorem e_sect_New (call : CallFn) (run : RunFn) (lease : Int) (h : H) :
  exec PR C_sect_New call run F_sect_New Try.f27 100000 true T_sect_New [(0, .int .i64 lease)] h =
  nw (.cells Y_sect_Sect false [.int .i64 (mm2 false (mm2 true lease 1) 1000), .bool false, .int .i64 0, .int .i64 0, .int .i64 0, .slice none 0 0, .int .i64 0, .int .i64 0, .int .i64 0]) h fun b hv => some (.pointer (some ⟨b, 0, none⟩), hv) := by kernel_rfl
def C_table_Table_api_Cap_Get : Cuts := { globs := 0, loops := [], regs := [], plans := [] }
noncomputable def T_table_Table_api_Cap_Get : List Item := bodyOf Try.f37
theorem e_table_Table_api_Cap_Get (call : CallFn) (run : RunFn) (t : Option Addr) (name : Int) (h : H) :
  exec PR C_table_Table_api_Cap_Get call run F_table_Table_api_Cap_Get Try.f37 100000 true T_table_Table_api_Cap_Get [(0, .pointer t), (1, .int .i64 name)] h =
  nw (.cells Y_api_Cap false [.int .i64 0, .int .i64 0, .int .i64 0, .int .i64 0, .int .i64 0, .int .i64 0]) h fun b hv => bnd (call F_table_Table_api_Cap_at [.pointer t, .int .i64 name] hv) fun r hv_1 => aPtr r fun x => cond x.isNone
  (nw (.cells Y_api_Cap false [.int .i64 0, .int .i64 0, .int .i64 0, .int .i64 0, .int .i64 0, .int .i64 0]) hv_1 fun b_1 hv_2 => gAgg ⟨b_1, 0, none⟩ 6 hv_2 fun x_1 => ck (List.length x_1 = 6) (pAgg ⟨b, 0, none⟩ x_1 hv_2 fun hv_3 => gAgg ⟨b, 0, none⟩ 6 hv_3 fun x_2 => some (.tuple ⟨[.agg ⟨x_2⟩, .bool false]⟩, hv_3)))
  (aSome x fun p => gAgg (Addr.add p 0) 6 hv_1 fun x_3 => ck (List.length x_3 = 6) (pAgg ⟨b, 0, none⟩ x_3 hv_1 fun hv_4 => gAgg ⟨b, 0, none⟩ 6 hv_4 fun x_4 => some (.tuple ⟨[.agg ⟨x_4⟩, .bool true]⟩, hv_4))) := by kernel_rfl
def C_caps_Space_Put_1 : Cuts := { globs := 0, loops := [], regs := [], plans := [] }
noncomputable def T_caps_Space_Put_1 : List Item := bodyOf Try.f44
theorem e_caps_Space_Put_1 (call : CallFn) (run : RunFn) (n : Int) (h : H) :
  exec PR C_caps_Space_Put_1 call run F_caps_Space_Put_1 Try.f44 100000 true T_caps_Space_Put_1 [(0, .int .i64 n)] h =
  bnd (cond (decide (n ≥ 0)) (some (decide (n ≤ 65536), h)) (some (false, h))) fun c hv => some (.bool c, hv) := by kernel_rfl
def C_region_Regions_Write : Cuts := { globs := 0, loops := [], regs := [], plans := [] }
noncomputable def T_region_Regions_Write : List Item := bodyOf Try.f47
theorem e_region_Regions_Write (call : CallFn) (run : RunFn) (r : Option Addr) (env : Int) (name : Int) (atv : Int) (b : Option Addr) (bn bc : Nat) (h : H) :
  exec PR C_region_Regions_Write call run F_region_Regions_Write Try.f47 100000 true T_region_Regions_Write [(0, .pointer r), (1, .int .i64 env), (2, .int .i64 name), (3, .int .i64 atv), (4, .slice b bn bc)] h =
  bnd (call F_region_Regions_place [.pointer r, .int .i64 env, .int .i64 name, .int .i64 2, .int .i64 atv, .int .i64 ((bn : Nat) : Int)] h) fun r_1 hv => as2 r_1 fun r_2 r_3 => aInt .i64 r_2 fun x => aInt .i64 r_3 fun x_1 => cond (x_1 != 0)
  (some (.int .i64 x_1, hv))
  (aSome r fun p => gPtr (Addr.add p 0) hv fun x_2 => bnd (call F_mem_Mem_Store [.pointer x_2, .int .i64 x, .slice b bn bc] hv) fun r_4 hv_1 => aInt .i64 r_4 fun x_3 => some (.int .i64 x_3, hv_1)) := by kernel_rfl
def C_quota_Quota_Alloc : Cuts := { globs := 0, loops := [], regs := [], plans := [] }
noncomputable def T_quota_Quota_Alloc : List Item := bodyOf Try.f51
theorem e_quota_Quota_Alloc (call : CallFn) (run : RunFn) (q : Option Addr) (s : Int) (h : H) :
  exec PR C_quota_Quota_Alloc call run F_quota_Quota_Alloc Try.f51 100000 true T_quota_Quota_Alloc [(0, .pointer q), (1, .int .i64 s)] h =
  bnd (call F_quota_Quota_is [.pointer q, .int .i64 s] h) fun r hv => aBool r fun x => cond (!x)
  (some (.tuple ⟨[.int .i64 0, .int .i64 1]⟩, hv))
  (aSome q fun p => gSl (Addr.add p 0) hv fun x_1 xn _ => aSome x_1 fun p_1 => ck ((0 : Int) ≤ s ∧ s < ((xn : Nat) : Int)) (gSl (Addr.add (bare p_1) (Int.toNat s * 1)) hv fun x_2 xn_1 xc_1 => bnd (call F_slices_Index_s_int_int [.slice x_2 xn_1 xc_1, .int .i64 0] hv) fun r_1 hv_1 => aInt .i64 r_1 fun x_3 => cond (decide (x_3 < 0))
  (some (.tuple ⟨[.int .i64 0, .int .i64 4]⟩, hv_1))
  (aSome q fun p_2 => gSl (Addr.add p_2 0) hv_1 fun x_4 xn_2 _ => aSome x_4 fun p_3 => ck ((0 : Int) ≤ s ∧ s < ((xn_2 : Nat) : Int)) (gSl (Addr.add (bare p_3) (Int.toNat s * 1)) hv_1 fun x_5 xn_3 _ => aSome x_5 fun p_4 => ck ((0 : Int) ≤ x_3 ∧ x_3 < ((xn_3 : Nat) : Int)) (pV (Addr.add (bare p_4) (Int.toNat x_3 * 1)) (.int .i64 1) hv_1 fun hv_2 => some (.tuple ⟨[.int .i64 x_3, .int .i64 0]⟩, hv_2)))))) := by kernel_rfl
def C_table_Table_api_Cap_name : Cuts := { globs := 0, loops := [], regs := [], plans := [] }
noncomputable def T_table_Table_api_Cap_name : List Item := bodyOf Try.f55
theorem e_table_Table_api_Cap_name (call : CallFn) (run : RunFn) (t : Option Addr) (i : Int) (h : H) :
  exec PR C_table_Table_api_Cap_name call run F_table_Table_api_Cap_name Try.f55 100000 true T_table_Table_api_Cap_name [(0, .pointer t), (1, .int .i64 i)] h =
  aSome t fun p => gSl (Addr.add p 0) h fun x xn _ => aSome x fun p_1 => ck ((0 : Int) ≤ i ∧ i < ((xn : Nat) : Int)) (gInt .i64 (Addr.add (Addr.add (bare p_1) (Int.toNat i * 8)) 6) h fun x_1 => some (.int .i64 (IntKind.wrap .i64 (i + (IntKind.wrap .i64 (256 * x_1)))), h)) := by kernel_rfl
def C_table_Table_api_Cap_Add : Cuts := { globs := 0, loops := [(2, [0, 3, 11, 12, 13])], regs := [], plans := [(5, ⟨[0, 1, 2, 3, 4, 5, 6, 7, 8, 9, 10, 11, 12, 13, 14, 15, 16], [0, 1, 3, 7, 0, 0, 32, 96, 224, 0, 0, 1535, 3583, 7679, 16383, 32767, 65535], [], []⟩)] }
noncomputable def T_table_Table_api_Cap_Add : List Item := bodyOf Try.f58
noncomputable def T_table_Table_api_Cap_Add_L1 : List Item := stk [0, 1, 0, 0, 1, 4, 5] T_table_Table_api_Cap_Add
theorem e_table_Table_api_Cap_Add (call : CallFn) (run : RunFn) (t : Option Addr) (v : List Value) (h : H) :
  exec PR C_table_Table_api_Cap_Add call run F_table_Table_api_Cap_Add Try.f58 100000 true T_table_Table_api_Cap_Add [(0, .pointer t), (1, .agg ⟨v⟩)] h =
  nw (.cells Y_api_Cap false v) h fun b hv => aSome t fun p => gSl (Addr.add p 0) hv fun x xn xc => run F_table_Table_api_Cap_Add T_table_Table_api_Cap_Add_L1 [(0, .pointer t), (3, .pointer (some ⟨b, 0, none⟩)), (11, .slice x xn xc), (12, .int .i64 ((xn : Nat) : Int)), (13, .int .i64 0)] hv := by kernel_rfl
theorem e_table_Table_api_Cap_Add_L1 (call : CallFn) (run : RunFn) (t : Option Addr) (v : Addr) (x11 : Option Addr) (x11n x11c : Nat) (x12 : Int) (x13 : Int) (h : H) :
  exec PR C_table_Table_api_Cap_Add call run F_table_Table_api_Cap_Add Try.f58 100000 true T_table_Table_api_Cap_Add_L1 [(0, .pointer t), (3, .pointer (some v)), (11, .slice x11 x11n x11c), (12, .int .i64 x12), (13, .int .i64 x13)] h =
  cond (decide (x13 < x12))
  (aSome x11 fun p => ck ((0 : Int) ≤ x13 ∧ x13 < ((x11n : Nat) : Int)) (gAgg (Addr.add (bare p) (Int.toNat x13 * 8)) 8 h fun x => nw (.cells Y_table_place_api_Cap false [.int .i64 0, .int .i64 0, .int .i64 0, .int .i64 0, .int .i64 0, .int .i64 0, .int .i64 0, .bool false]) h fun b hv => ck (List.length x = 8) (pAgg ⟨b, 0, none⟩ x hv fun hv_1 => gBool (Addr.add ⟨b, 0, none⟩ 7) hv_1 fun x_1 => bnd (cond (!x_1) (gInt .i64 (Addr.add ⟨b, 0, none⟩ 6) hv_1 fun x_2 => some (decide (x_2 ≤ 1000000), hv_1)) (some (false, hv_1))) fun c hv_2 => cond c
  (aSome t fun p_1 => gSl (Addr.add p_1 0) hv_2 fun x_3 xn _ => aSome t fun p_2 => gSl (Addr.add p_2 0) hv_2 fun x_4 xn_1 _ => gAgg v 6 hv_2 fun x_5 => aSome x_3 fun p_3 => ck ((0 : Int) ≤ x13 ∧ x13 < ((xn : Nat) : Int)) (ck (List.length x_5 = 6) (pAgg (Addr.add (Addr.add (bare p_3) (Int.toNat x13 * 8)) 0) x_5 hv_2 fun hv_3 => aSome x_4 fun p_4 => ck ((0 : Int) ≤ x13 ∧ x13 < ((xn_1 : Nat) : Int)) (pV (Addr.add (Addr.add (bare p_4) (Int.toNat x13 * 8)) 7) (.bool true) hv_3 fun hv_4 => bnd (call F_table_Table_api_Cap_name [.pointer t, .int .i64 x13] hv_4) fun r hv_5 => aInt .i64 r fun x_6 => some (.tuple ⟨[.int .i64 x_6, .bool true]⟩, hv_5)))))
  (run F_table_Table_api_Cap_Add T_table_Table_api_Cap_Add_L1 [(0, .pointer t), (3, .pointer (some v)), (11, .slice x11 x11n x11c), (12, .int .i64 x12), (13, .int .i64 (IntKind.wrap .i64 (x13 + 1)))] hv_2))))
  (some (.tuple ⟨[.int .i64 0, .bool false]⟩, h)) := by kernel_rfl
def C_region_Regions_place : Cuts := { globs := 0, loops := [], regs := [], plans := [(6, ⟨[0, 1, 2, 3, 4, 5, 6, 7, 8, 9, 10, 11, 12, 13, 14, 15, 16, 17, 18, 19, 20, 21, 22, 23, 24, 25, 26, 27, 28, 29, 30, 31, 32, 33, 34, 35], [0, 1, 3, 7, 15, 31, 63, 127, 127, 383, 1023, 2047, 4095, 8191, 8191, 24575, 8191, 122879, 262143, 524287, 1048575, 2097151, 4194303, 8388607, 16777215, 33554431, 67108863, 134217727, 67108863, 335544319, 872415231, 1946157055, 4093640703, 8589934591, 17179869183, 34359738367], [], []⟩), (8, ⟨[0, 1, 2, 3, 4, 5, 6, 7, 8, 9], [0, 1, 3, 7, 0, 16, 63, 127, 0, 511], [], []⟩)] }
noncomputable def T_region_Regions_place : List Item := bodyOf Try.f59
theorem e_region_Regions_place (call : CallFn) (run : RunFn) (r : Option Addr) (env : Int) (name : Int) (right : Int) (atv : Int) (n : Int) (h : H) :
  exec PR C_region_Regions_place call run F_region_Regions_place Try.f59 100000 true T_region_Regions_place [(0, .pointer r), (1, .int .i64 env), (2, .int .i64 name), (3, .int .i64 right), (4, .int .i64 atv), (5, .int .i64 n)] h =
  aSome r fun p => gPtr (Addr.add p 1) h fun x => bnd (call F_caps_Space_Get [.pointer x, .int .i64 env, .int .i64 name] h) fun r_1 hv => as2 r_1 fun r_2 r_3 => aAgg r_2 fun x_1 => aInt .i64 r_3 fun x_2 => nw (.cells Y_api_Cap false [.int .i64 0, .int .i64 0, .int .i64 0, .int .i64 0, .int .i64 0, .int .i64 0]) hv fun b hv_1 => ck (List.length x_1 = 6) (pAgg ⟨b, 0, none⟩ x_1 hv_1 fun hv_2 => cond (x_2 != 0)
  (some (.tuple ⟨[.int .i64 0, .int .i64 x_2]⟩, hv_2))
  (gInt .i64 (Addr.add ⟨b, 0, none⟩ 1) hv_2 fun x_3 => cond ((bitA .i64 x_3 right) == 0)
  (some (.tuple ⟨[.int .i64 0, .int .i64 3]⟩, hv_2))
  (bnd (cond (decide (atv < 0)) (some (true, hv_2)) (some (decide (n < 0), hv_2))) fun c hv_3 => bnd (cond c (some (true, hv_3)) (gInt .i64 (Addr.add ⟨b, 0, none⟩ 3) hv_3 fun x_4 => some (decide (atv > x_4), hv_3))) fun c_1 hv_4 => bnd (cond c_1 (some (true, hv_4)) (gInt .i64 (Addr.add ⟨b, 0, none⟩ 3) hv_4 fun x_5 => some (decide (n > (IntKind.wrap .i64 (x_5 - atv))), hv_4))) fun c_2 hv_5 => bnd (cond c_2 (some (true, hv_5)) (gInt .i64 (Addr.add ⟨b, 0, none⟩ 0) hv_5 fun x_6 => some (decide (x_6 < 0), hv_5))) fun c_3 hv_6 => bnd (cond c_3 (some (true, hv_6)) (gInt .i64 (Addr.add ⟨b, 0, none⟩ 0) hv_6 fun x_7 => aSome r fun p_1 => gSl (Addr.add p_1 2) hv_6 fun _ xn _ => some (decide (x_7 ≥ ((xn : Nat) : Int)), hv_6))) fun c_4 hv_7 => cond c_4
  (some (.tuple ⟨[.int .i64 0, .int .i64 1]⟩, hv_7))
  (aSome r fun p_2 => gSl (Addr.add p_2 2) hv_7 fun x_9 xn_1 _ => gInt .i64 (Addr.add ⟨b, 0, none⟩ 0) hv_7 fun x_10 => aSome x_9 fun p_3 => ck ((0 : Int) ≤ x_10 ∧ x_10 < ((xn_1 : Nat) : Int)) (gAgg (Addr.add (bare p_3) (Int.toNat x_10 * 2)) 2 hv_7 fun x_11 => nw (.cells Y_region_span false [.int .i64 0, .int .i64 0]) hv_7 fun b_1 hv_8 => ck (List.length x_11 = 2) (pAgg ⟨b_1, 0, none⟩ x_11 hv_8 fun hv_9 => gInt .i64 (Addr.add ⟨b, 0, none⟩ 2) hv_9 fun x_12 => gInt .i64 (Addr.add ⟨b_1, 0, none⟩ 1) hv_9 fun x_13 => bnd (cond (decide ((IntKind.wrap .i64 (x_12 + atv)) > x_13)) (some (true, hv_9)) (gInt .i64 (Addr.add ⟨b_1, 0, none⟩ 1) hv_9 fun x_14 => gInt .i64 (Addr.add ⟨b, 0, none⟩ 2) hv_9 fun x_15 => some (decide (n > (IntKind.wrap .i64 ((IntKind.wrap .i64 (x_14 - x_15)) - atv))), hv_9))) fun c_5 hv_10 => cond c_5
  (some (.tuple ⟨[.int .i64 0, .int .i64 1]⟩, hv_10))
  (gInt .i64 (Addr.add ⟨b_1, 0, none⟩ 0) hv_10 fun x_16 => gInt .i64 (Addr.add ⟨b, 0, none⟩ 2) hv_10 fun x_17 => some (.tuple ⟨[.int .i64 (IntKind.wrap .i64 ((IntKind.wrap .i64 (x_16 + x_17)) + atv)), .int .i64 0]⟩, hv_10)))))))) := by kernel_rfl
def C_caps_Space_Under : Cuts := { globs := 0, loops := [(6, [0, 1, 2, 10, 11]), (9, [0, 1, 2, 10, 11, 44, 45, 46]), (12, [0, 1, 2, 10, 11, 12, 13, 44, 45, 46, 52, 53, 54]), (22, [1, 2, 10, 19, 85, 86, 87]), (25, [1, 2, 10, 19, 20, 85, 86, 87, 93, 94, 95])], regs := [], plans := [] }
def C_kern_Kern_sect : Cuts := { globs := 0, loops := [], regs := [], plans := [(1, ⟨[0, 1, 2, 3, 4, 5, 6, 7, 8, 9, 10, 11, 12, 13, 14, 15, 16, 17, 18, 19, 20, 21, 22, 23, 24, 25, 26, 27, 28], [0, 1, 3, 7, 7, 23, 55, 119, 247, 511, 1023, 2047, 4095, 8191, 16383, 32767, 4095, 131071, 262143, 4095, 528383, 1576959, 3674111, 4095, 16257023, 33034239, 67108863, 134217727, 268435455], [], []⟩)] }
noncomputable def T_kern_Kern_sect : List Item := bodyOf Try.f66
theorem e_kern_Kern_sect (call : CallFn) (run : RunFn) (k : Option Addr) (env : Int) (n : Int) (h : H) :
  exec PR C_kern_Kern_sect call run F_kern_Kern_sect Try.f66 100000 true T_kern_Kern_sect [(0, .pointer k), (1, .int .i64 env), (2, .int .i64 n)] h =
  bnd (cond (decide (n < 0)) (some (true, h)) (aSome k fun p => gSl (Addr.add p 6) h fun _ xn _ => some (decide (n ≥ ((xn : Nat) : Int)), h))) fun c hv => bnd (cond c (some (true, hv)) (aSome k fun p_1 => gSl (Addr.add p_1 1) hv fun x_1 xn_1 _ => aSome x_1 fun p_2 => ck ((0 : Int) ≤ n ∧ n < ((xn_1 : Nat) : Int)) (gSl (Addr.add (bare p_2) (Int.toNat n * 1)) hv fun x_2 xn_2 xc_2 => aSome k fun p_3 => gSl (Addr.add p_3 0) hv fun x_3 xn_3 _ => aSome x_3 fun p_4 => ck ((0 : Int) ≤ env ∧ env < ((xn_3 : Nat) : Int)) (gInt .i64 (Addr.add (bare p_4) (Int.toNat env * 1)) hv fun x_4 => bnd (call F_slices_Contains_s_int_int [.slice x_2 xn_2 xc_2, .int .i64 x_4] hv) fun r hv_1 => aBool r fun x_5 => some (!x_5, hv_1))))) fun c_1 hv_2 => cond c_1
  (some (.tuple ⟨[.pointer none, .int .i64 8]⟩, hv_2))
  (aSome k fun p_5 => gSl (Addr.add p_5 6) hv_2 fun x_6 xn_4 _ => aSome x_6 fun p_6 => ck ((0 : Int) ≤ n ∧ n < ((xn_4 : Nat) : Int)) (gPtr (Addr.add (bare p_6) (Int.toNat n * 1)) hv_2 fun x_7 => some (.tuple ⟨[.pointer x_7, .int .i64 0]⟩, hv_2))) := by kernel_rfl
def C_mem_Mem_in : Cuts := { globs := 0, loops := [], regs := [], plans := [] }
noncomputable def T_mem_Mem_in : List Item := bodyOf Try.f69
theorem e_mem_Mem_in (call : CallFn) (run : RunFn) (m : Option Addr) (atv : Int) (n : Int) (h : H) :
  exec PR C_mem_Mem_in call run F_mem_Mem_in Try.f69 100000 true T_mem_Mem_in [(0, .pointer m), (1, .int .i64 atv), (2, .int .i64 n)] h =
  bnd (cond (decide (atv ≥ 0)) (some (decide (n ≥ 0), h)) (some (false, h))) fun c hv => bnd (cond c (aSome m fun p => gSl (Addr.add p 0) hv fun _ xn _ => some (decide (atv ≤ ((xn : Nat) : Int)), hv)) (some (false, hv))) fun c_1 hv_1 => bnd (cond c_1 (aSome m fun p_1 => gSl (Addr.add p_1 0) hv_1 fun _ xn_1 _ => some (decide (n ≤ (IntKind.wrap .i64 (((xn_1 : Nat) : Int) - atv))), hv_1)) (some (false, hv_1))) fun c_2 hv_2 => some (.bool c_2, hv_2) := by kernel_rfl
def C_caps_Space_Under_1 : Cuts := { globs := 0, loops := [], regs := [], plans := [] }
def C_slices_pdqsortCmpFunc_api_Ref : Cuts := { globs := 0, loops := [(2, [0, 1, 2, 3, 4, 10, 11])], regs := [(10, [0, 1, 2, 3, 4, 10, 11, 12]), (15, [0, 1, 2, 3, 4, 10, 11, 12, 13, 14]), (17, [0, 1, 2, 3, 4, 10, 11, 12, 13])], plans := [(17, ⟨[0, 1, 2, 3, 4, 5, 6, 7, 8, 9, 10, 11, 12, 13, 14, 15, 16], [0, 1, 3, 7, 7, 7, 39, 119, 247, 7, 7, 1543, 3591, 8191, 16383, 32767, 65535], [], []⟩)] }
def C_slices_breakPatternsCmpFunc_api_Ref : Cuts := { globs := 0, loops := [(5, [0, 1, 8, 9, 10, 11])], regs := [(10, [0, 1, 8, 9, 10, 11, 12])], plans := [(10, ⟨[0, 1, 2, 3, 4, 5, 6, 7, 8, 9, 10, 11, 12, 13, 14, 15, 16, 17, 18, 19], [0, 0, 0, 0, 0, 24, 0, 0, 0, 384, 960, 1984, 0, 0, 12288, 28672, 65475, 131011, 262143, 524287], [], []⟩)] }
def C_slices_reverseRangeCmpFunc_api_Ref : Cuts := { globs := 0, loops := [(2, [0, 8, 9])], regs := [], plans := [(3, ⟨[0, 1, 2, 3, 4, 5, 6, 7, 8, 9, 10, 11, 12, 13, 14, 15], [0, 0, 0, 0, 0, 0, 48, 112, 0, 0, 768, 1792, 4083, 8179, 16383, 32767], [], []⟩)] }
def C_slices_medianAdjacentCmpFunc_api_Ref : Cuts := { globs := 0, loops := [], regs := [], plans := [] }
def C_slices_order2CmpFunc_api_Ref : Cuts := { globs := 0, loops := [], regs := [], plans := [(1, ⟨[0, 1, 2, 3, 4, 5, 6, 7, 8, 9, 10], [0, 0, 0, 6, 14, 0, 0, 96, 224, 511, 1023], [], []⟩)] }
end Go.EQ

set_option maxRecDepth 100000
set_option linter.unusedVariables false
namespace Go.EQ
open Go Go.NN Go.Proofs
def C_law8_KernAlone : Cuts := { globs := 0, loops := [(7, [0, 4, 6, 8])], regs := [], plans := [(13, ⟨[0, 1, 2, 3, 5, 6, 7, 8, 4, 9, 10], [0, 0, 2, 6, 15, 0, 0, 64, 192, 511, 1023], [(4, [8])], []⟩)] }
def C_kern_New : Cuts := { globs := 0, loops := [(5, [1, 4, 20, 21, 22]), (12, [1, 7, 58, 59, 60]), (18, [7, 89, 90, 91]), (22, [7, 11, 12, 89, 90, 91, 122, 123, 124])], regs := [], plans := [(9, ⟨[0, 1, 3, 5, 6, 7, 9, 10, 2, 4, 8, 11, 12, 13, 14], [0, 1, 3, 0, 15, 0, 32, 96, 255, 0, 512, 2047, 4095, 8191, 16383], [(2, [6, 10]), (4, [6, 10]), (8, [10])], []⟩), (10, ⟨[0, 1, 2, 3, 4, 5, 6, 7, 8, 9, 10, 11, 12], [0, 0, 2, 6, 14, 0, 32, 96, 224, 510, 1023, 2047, 4095], [], []⟩), (14, ⟨[0, 1, 2, 3, 4, 5, 6, 7, 8, 9, 10, 11], [0, 0, 2, 6, 14, 0, 32, 96, 254, 511, 1023, 2047], [(6, [4])], []⟩), (15, ⟨[0, 1, 2, 3, 4, 5, 6, 7, 8, 9, 10, 11, 12], [0, 0, 2, 6, 14, 0, 32, 96, 224, 510, 1023, 2047, 4095], [(7, [4])], []⟩), (20, ⟨[0, 1, 2, 3, 4, 5, 6, 7, 8, 9, 11, 12, 15, 16, 18, 19, 10, 13, 14, 17, 20, 21, 22, 23, 24, 25], [0, 1, 3, 7, 0, 16, 48, 112, 0, 256, 1008, 0, 2048, 8176, 16368, 0, 32768, 131056, 0, 262144, 1048575, 2097151, 4194303, 4194303, 8388607, 33554431], [(10, [3, 12, 16, 19])], []⟩), (25, ⟨[0, 1, 2, 3, 4, 5, 6, 7, 8, 9], [0, 1, 3, 7, 0, 0, 0, 64, 224, 511], [], []⟩)] }
noncomputable def T_kern_New : List Item := bodyOf Try.f8
noncomputable def T_kern_New_L1 : List Item := stk [0, 1, 0, 1, 0, 1, 0, 0, 1, 4, 5] T_kern_New
noncomputable def T_kern_New_L2 : List Item := stk [0, 1, 0, 1, 0, 1, 0, 1, 0, 1, 0, 1, 0, 0, 1, 4, 5] T_kern_New
noncomputable def T_kern_New_L3 : List Item := stk [0, 1, 0, 1, 0, 1, 0, 1, 0, 1, 0, 1, 0, 1, 0, 0, 1, 4, 5] T_kern_New
noncomputable def T_kern_New_L4 : List Item := stk [0, 1, 0, 1, 0, 1, 0, 1, 0, 1, 0, 1, 0, 1, 0, 0, 1, 4, 5, 6, 0, 1, 0, 1, 0, 4, 0, 1, 0, 1, 0, 1, 4, 5] T_kern_New
theorem e_kern_New (call : CallFn) (run : RunFn) (c : List Value) (h : H) :
  exec PR C_kern_New call run F_kern_New Try.f8 100000 true T_kern_New [(0, .agg ⟨c⟩)] h =
  nw (.cells Y_api_Boot false c) h fun b hv => gAgg ⟨b, 0, none⟩ 5 hv fun x => bnd (call F_kern_check [.agg ⟨x⟩] hv) fun r hv_1 => aBool r fun x_1 => cond (!x_1)
  (some (.tuple ⟨[.pointer none, .int .i64 1]⟩, hv_1))
  (gSl (Addr.add ⟨b, 0, none⟩ 0) hv_1 fun x_2 xn xc => run F_kern_New T_kern_New_L1 [(1, .pointer (some ⟨b, 0, none⟩)), (4, .int .i64 0), (20, .slice x_2 xn xc), (21, .int .i64 ((xn : Nat) : Int)), (22, .int .i64 0)] hv_1) := by kernel_rfl
theorem e_kern_New_L1 (call : CallFn) (run : RunFn) (c : Addr) (all : Int) (x20 : Option Addr) (x20n x20c : Nat) (x21 : Int) (x22 : Int) (h : H) :
  exec PR C_kern_New call run F_kern_New Try.f8 100000 true T_kern_New_L1 [(1, .pointer (some c)), (4, .int .i64 all), (20, .slice x20 x20n x20c), (21, .int .i64 x21), (22, .int .i64 x22)] h =
  cond (decide (x22 < x21))
  (aSome x20 fun p => ck ((0 : Int) ≤ x22 ∧ x22 < ((x20n : Nat) : Int)) (gInt .i64 (Addr.add (bare p) (Int.toNat x22 * 1)) h fun x => bnd (call F_kern_frames [.int .i64 x] h) fun r hv => aInt .i64 r fun x_1 => run F_kern_New T_kern_New_L1 [(1, .pointer (some c)), (4, .int .i64 (IntKind.wrap .i64 (all + x_1))), (20, .slice x20 x20n x20c), (21, .int .i64 x21), (22, .int .i64 (IntKind.wrap .i64 (x22 + 1)))] hv))
  (gSl (Addr.add c 1) h fun x_2 xn xc => gSl (Addr.add c 1) h fun x_3 xn_1 xc_1 => gSl (Addr.add c 0) h fun x_4 xn_2 xc_2 => bnd (call F_slices_Clone_s_int_int [.slice x_2 xn xc] h) fun r_1 hv_1 => aSl r_1 fun x_5 xn_3 xc_3 => gSl (Addr.add c 1) hv_1 fun x_6 xn_4 xc_4 => same (.slice x_3 xn_1 xc_1) (.slice x_6 xn_4 xc_4) (gSl (Addr.add c 0) hv_1 fun x_7 xn_5 xc_5 => same (.slice x_4 xn_2 xc_2) (.slice x_7 xn_5 xc_5) (bnd (call F_mem_New [.int .i64 all] hv_1) fun r_2 hv_2 => aPtr r_2 fun x_8 => gSl (Addr.add c 1) hv_2 fun x_9 xn_6 xc_6 => same (.slice x_3 xn_1 xc_1) (.slice x_9 xn_6 xc_6) (gSl (Addr.add c 0) hv_2 fun x_10 xn_7 xc_7 => same (.slice x_4 xn_2 xc_2) (.slice x_10 xn_7 xc_7) (bnd (call F_caps_New [.int .i64 ((xn_1 : Nat) : Int)] hv_2) fun r_3 hv_3 => aPtr r_3 fun x_11 => gSl (Addr.add c 0) hv_3 fun x_12 xn_8 xc_8 => same (.slice x_4 xn_2 xc_2) (.slice x_12 xn_8 xc_8) (bnd (call F_quota_New [.slice x_4 xn_2 xc_2] hv_3) fun r_4 hv_4 => aPtr r_4 fun x_13 => nw (.cells Y_kern_Kern false [.slice x_5 xn_3 xc_3, .slice none 0 0, .pointer x_8, .pointer x_11, .pointer x_13, .pointer none, .slice none 0 0, .int .i64 0]) hv_4 fun b hv_5 => gPtr (Addr.add ⟨b, 0, none⟩ 2) hv_5 fun x_14 => gPtr (Addr.add ⟨b, 0, none⟩ 3) hv_5 fun x_15 => bnd (call F_region_New [.pointer x_14, .pointer x_15] hv_5) fun r_5 hv_6 => aPtr r_5 fun x_16 => pV (Addr.add ⟨b, 0, none⟩ 5) (.pointer x_16) hv_6 fun hv_7 => gSl (Addr.add c 2) hv_7 fun x_17 xn_9 xc_9 => run F_kern_New T_kern_New_L2 [(1, .pointer (some c)), (7, .pointer (some ⟨b, 0, none⟩)), (58, .slice x_17 xn_9 xc_9), (59, .int .i64 ((xn_9 : Nat) : Int)), (60, .int .i64 0)] hv_7)))))) := by kernel_rfl
theorem e_kern_New_L2 (call : CallFn) (run : RunFn) (c : Addr) (k : Addr) (x58 : Option Addr) (x58n x58c : Nat) (x59 : Int) (x60 : Int) (h : H) :
  exec PR C_kern_New call run F_kern_New Try.f8 100000 true T_kern_New_L2 [(1, .pointer (some c)), (7, .pointer (some k)), (58, .slice x58 x58n x58c), (59, .int .i64 x59), (60, .int .i64 x60)] h =
  cond (decide (x60 < x59))
  (aSome x58 fun p => ck ((0 : Int) ≤ x60 ∧ x60 < ((x58n : Nat) : Int)) (gSl (Addr.add (bare p) (Int.toNat x60 * 1)) h fun x xn xc => gSl (Addr.add k 1) h fun x_1 xn_1 xc_1 => bnd (call F_slices_Clone_s_int_int [.slice x xn xc] h) fun r hv => aSl r fun x_2 xn_2 xc_2 => gSl (Addr.add k 1) hv fun x_3 xn_3 xc_3 => same (.slice x_1 xn_1 xc_1) (.slice x_3 xn_3 xc_3) (nw (.cells Y_s_int false [.slice x_2 xn_2 xc_2]) hv fun b hv_1 => gCells (some ⟨b, 0, none⟩) (1 * 1) hv_1 fun cs => ckB (fitsOpen x_1 Y_s_int hv_1) (apd Y_s_int 1 x_1 xn_1 xc_1 1 cs hv_1 fun a an ac hv_2 => pV (Addr.add k 1) (.slice a an ac) hv_2 fun hv_3 => gSl (Addr.add k 6) hv_3 fun x_4 xn_4 xc_4 => gInt .i64 (Addr.add c 3) hv_3 fun x_5 => bnd (call F_sect_New [.int .i64 x_5] hv_3) fun r_1 hv_4 => aPtr r_1 fun x_6 => gSl (Addr.add k 6) hv_4 fun x_7 xn_5 xc_5 => same (.slice x_4 xn_4 xc_4) (.slice x_7 xn_5 xc_5) (nw (.cells Y_p_sect_Sect false [.pointer x_6]) hv_4 fun b_1 hv_5 => gCells (some ⟨b_1, 0, none⟩) (1 * 1) hv_5 fun cs_1 => ckB (fitsOpen x_4 Y_p_sect_Sect hv_5) (apd Y_p_sect_Sect 1 x_4 xn_4 xc_4 1 cs_1 hv_5 fun a_1 an_1 ac_1 hv_6 => pV (Addr.add k 6) (.slice a_1 an_1 ac_1) hv_6 fun hv_7 => run F_kern_New T_kern_New_L2 [(1, .pointer (some c)), (7, .pointer (some k)), (58, .slice x58 x58n x58c), (59, .int .i64 x59), (60, .int .i64 (IntKind.wrap .i64 (x60 + 1)))] hv_7))))))
  (gSl (Addr.add c 4) h fun x_8 xn_6 xc_6 => run F_kern_New T_kern_New_L3 [(7, .pointer (some k)), (89, .slice x_8 xn_6 xc_6), (90, .int .i64 ((xn_6 : Nat) : Int)), (91, .int .i64 0)] h) := by kernel_rfl
theorem e_kern_New_L3 (call : CallFn) (run : RunFn) (k : Addr) (x89 : Option Addr) (x89n x89c : Nat) (x90 : Int) (x91 : Int) (h : H) :
  exec PR C_kern_New call run F_kern_New Try.f8 100000 true T_kern_New_L3 [(7, .pointer (some k)), (89, .slice x89 x89n x89c), (90, .int .i64 x90), (91, .int .i64 x91)] h =
  cond (decide (x91 < x90))
  (aSome x89 fun p => ck ((0 : Int) ≤ x91 ∧ x91 < ((x89n : Nat) : Int)) (gAgg (Addr.add (bare p) (Int.toNat x91 * 5)) 5 h fun x => nw (.cells Y_api_Share false [.int .i64 0, .int .i64 0, .int .i64 0, .int .i64 0, .slice none 0 0]) h fun b hv => ck (List.length x = 5) (pAgg ⟨b, 0, none⟩ x hv fun hv_1 => gPtr (Addr.add k 5) hv_1 fun x_1 => gPtr (Addr.add k 4) hv_1 fun x_2 => gInt .i64 (Addr.add ⟨b, 0, none⟩ 0) hv_1 fun x_3 => gInt .i64 (Addr.add ⟨b, 0, none⟩ 1) hv_1 fun x_4 => gInt .i64 (Addr.add ⟨b, 0, none⟩ 2) hv_1 fun x_5 => gInt .i64 (Addr.add ⟨b, 0, none⟩ 3) hv_1 fun x_6 => bnd (call F_quota_Quota_First [.pointer x_2, .int .i64 x_3] hv_1) fun r hv_2 => aInt .i64 r fun x_7 => gPtr (Addr.add k 5) hv_2 fun x_8 => same (.pointer x_1) (.pointer x_8) (gInt .i64 (Addr.add ⟨b, 0, none⟩ 1) hv_2 fun x_9 => same (.int .i64 x_4) (.int .i64 x_9) (gInt .i64 (Addr.add ⟨b, 0, none⟩ 2) hv_2 fun x_10 => same (.int .i64 x_5) (.int .i64 x_10) (gInt .i64 (Addr.add ⟨b, 0, none⟩ 3) hv_2 fun x_11 => same (.int .i64 x_6) (.int .i64 x_11) (bnd (call F_region_Regions_Add [.pointer x_1, .int .i64 (IntKind.wrap .i64 ((IntKind.wrap .i64 ((IntKind.wrap .i64 (x_7 + x_4)) * 64)) + x_5)), .int .i64 x_6] hv_2) fun r_1 hv_3 => as2 r_1 fun r_2 r_3 => aInt .i64 r_2 fun x_12 => aInt .i64 r_3 fun _ => gSl (Addr.add k 0) hv_3 fun x_14 xn xc => run F_kern_New T_kern_New_L4 [(7, .pointer (some k)), (11, .pointer (some ⟨b, 0, none⟩)), (12, .int .i64 x_12), (89, .slice x89 x89n x89c), (90, .int .i64 x90), (91, .int .i64 x91), (122, .slice x_14 xn xc), (123, .int .i64 ((xn : Nat) : Int)), (124, .int .i64 0)] hv_3)))))))
  (some (.tuple ⟨[.pointer (some k), .int .i64 0]⟩, h)) := by kernel_rfl
theorem e_kern_New_L4 (call : CallFn) (run : RunFn) (k : Addr) (x : Addr) (obj : Int) (x89 : Option Addr) (x89n x89c : Nat) (x90 : Int) (x91 : Int) (x122 : Option Addr) (x122n x122c : Nat) (x123 : Int) (x124 : Int) (h : H) :
  exec PR C_kern_New call run F_kern_New Try.f8 100000 true T_kern_New_L4 [(7, .pointer (some k)), (11, .pointer (some x)), (12, .int .i64 obj), (89, .slice x89 x89n x89c), (90, .int .i64 x90), (91, .int .i64 x91), (122, .slice x122 x122n x122c), (123, .int .i64 x123), (124, .int .i64 x124)] h =
  cond (decide (x124 < x123))
  (aSome x122 fun p => ck ((0 : Int) ≤ x124 ∧ x124 < ((x122n : Nat) : Int)) (gInt .i64 (Addr.add (bare p) (Int.toNat x124 * 1)) h fun x_1 => gSl (Addr.add x 4) h fun x_2 xn xc => bnd (call F_slices_Contains_s_int_int [.slice x_2 xn xc, .int .i64 x_1] h) fun r hv => aBool r fun x_3 => cond x_3
  (gPtr (Addr.add k 3) hv fun x_4 => gInt .i64 (Addr.add x 3) hv fun x_5 => bnd (call F_caps_Space_Put [.pointer x_4, .int .i64 x124, .agg ⟨[.int .i64 obj, .int .i64 3, .int .i64 0, .int .i64 x_5, .int .i64 0, .int .i64 0]⟩] hv) fun r_1 hv_1 => as2 r_1 fun r_2 r_3 => aInt .i64 r_2 fun _ => aInt .i64 r_3 fun _ => run F_kern_New T_kern_New_L4 [(7, .pointer (some k)), (11, .pointer (some x)), (12, .int .i64 obj), (89, .slice x89 x89n x89c), (90, .int .i64 x90), (91, .int .i64 x91), (122, .slice x122 x122n x122c), (123, .int .i64 x123), (124, .int .i64 (IntKind.wrap .i64 (x124 + 1)))] hv_1)
  (run F_kern_New T_kern_New_L4 [(7, .pointer (some k)), (11, .pointer (some x)), (12, .int .i64 obj), (89, .slice x89 x89n x89c), (90, .int .i64 x90), (91, .int .i64 x91), (122, .slice x122 x122n x122c), (123, .int .i64 x123), (124, .int .i64 (IntKind.wrap .i64 (x124 + 1)))] hv)))
  (run F_kern_New T_kern_New_L3 [(7, .pointer (some k)), (89, .slice x89 x89n x89c), (90, .int .i64 x90), (91, .int .i64 (IntKind.wrap .i64 (x91 + 1)))] h) := by kernel_rfl
def C_law8_awake : Cuts := { globs := 0, loops := [], regs := [], plans := [] }
noncomputable def T_law8_awake : List Item := bodyOf Try.f10
theorem e_law8_awake (call : CallFn) (run : RunFn)  (h : H) :
  exec PR C_law8_awake call run F_law8_awake Try.f10 100000 true T_law8_awake [] h =
  nw (.cells Y_int false [.int .i64 2, .int .i64 2]) h fun b hv => nw (.cells Y_int false [.int .i64 0, .int .i64 1]) hv fun b_1 hv_1 => nw (.cells Y_int false [.int .i64 0]) hv_1 fun b_2 hv_2 => nw (.cells Y_s_int false [.slice (some ⟨b_2, 0, none⟩) 1 1]) hv_2 fun b_3 hv_3 => nw (.cells Y_int false [.int .i64 0]) hv_3 fun b_4 hv_4 => nw (.cells Y_api_Share false [.int .i64 0, .int .i64 0, .int .i64 0, .int .i64 10, .slice (some ⟨b_4, 0, none⟩) 1 1]) hv_4 fun b_5 hv_5 => bnd (call F_kern_New [.agg ⟨[.slice (some ⟨b, 0, none⟩) 2 2, .slice (some ⟨b_1, 0, none⟩) 2 2, .slice (some ⟨b_3, 0, none⟩) 1 1, .int .i64 5, .slice (some ⟨b_5, 0, none⟩) 1 1]⟩] hv_5) fun r hv_6 => as2 r fun r_1 r_2 => aPtr r_1 fun x => aInt .i64 r_2 fun x_1 => bnd (cond x.isNone (some (true, hv_6)) (some (x_1 != 0, hv_6))) fun c hv_7 => cond c
  (some (.bool false, hv_7))
  (nw (.cells Y_uint8 false [.int .u8 7]) hv_7 fun b_6 hv_8 => bnd (call F_kern_Kern_Do [.pointer x, .int .i64 0, .agg ⟨[.int .i64 2, .int .i64 256, .int .i64 0, .int .i64 0, .int .i64 0, .int .i64 0, .slice (some ⟨b_6, 0, none⟩) 1 1]⟩] hv_8) fun r_3 hv_9 => aAgg r_3 fun x_2 => nw (.cells Y_api_Answer false [.int .i64 0, .int .i64 0, .slice none 0 0]) hv_9 fun b_7 hv_10 => ck (List.length x_2 = 3) (pAgg ⟨b_7, 0, none⟩ x_2 hv_10 fun hv_11 => bnd (call F_kern_Kern_Do [.pointer x, .int .i64 0, .agg ⟨[.int .i64 1, .int .i64 256, .int .i64 0, .int .i64 1, .int .i64 0, .int .i64 0, .slice none 0 0]⟩] hv_11) fun r_4 hv_12 => aAgg r_4 fun x_3 => nw (.cells Y_api_Answer false [.int .i64 0, .int .i64 0, .slice none 0 0]) hv_12 fun b_8 hv_13 => ck (List.length x_3 = 3) (pAgg ⟨b_8, 0, none⟩ x_3 hv_13 fun hv_14 => bnd (call F_kern_Kern_Do [.pointer x, .int .i64 1, .agg ⟨[.int .i64 1, .int .i64 256, .int .i64 0, .int .i64 1, .int .i64 0, .int .i64 0, .slice none 0 0]⟩] hv_14) fun r_5 hv_15 => aAgg r_5 fun x_4 => nw (.cells Y_api_Answer false [.int .i64 0, .int .i64 0, .slice none 0 0]) hv_15 fun b_9 hv_16 => ck (List.length x_4 = 3) (pAgg ⟨b_9, 0, none⟩ x_4 hv_16 fun hv_17 => bnd (call F_kern_Kern_Do [.pointer x, .int .i64 1, .agg ⟨[.int .i64 8, .int .i64 0, .int .i64 0, .int .i64 0, .int .i64 0, .int .i64 0, .slice none 0 0]⟩] hv_17) fun r_6 hv_18 => aAgg r_6 fun x_5 => nw (.cells Y_api_Answer false [.int .i64 0, .int .i64 0, .slice none 0 0]) hv_18 fun b_10 hv_19 => ck (List.length x_5 = 3) (pAgg ⟨b_10, 0, none⟩ x_5 hv_19 fun hv_20 => gInt .i64 (Addr.add ⟨b_7, 0, none⟩ 0) hv_20 fun x_6 => bnd (cond (x_6 == 0) (gSl (Addr.add ⟨b_8, 0, none⟩ 2) hv_20 fun x_7 xn _ => gCells x_7 xn hv_20 fun cs => asBytes cs fun l => some ((ByteArray.mk ⟨l⟩).toList == (ByteArray.mk ⟨[7]⟩).toList, hv_20)) (some (false, hv_20))) fun c_1 hv_21 => bnd (cond c_1 (gInt .i64 (Addr.add ⟨b_9, 0, none⟩ 0) hv_21 fun x_8 => some (x_8 == 2, hv_21)) (some (false, hv_21))) fun c_2 hv_22 => bnd (cond c_2 (gInt .i64 (Addr.add ⟨b_10, 0, none⟩ 0) hv_22 fun x_9 => some (x_9 == 8, hv_22)) (some (false, hv_22))) fun c_3 hv_23 => bnd (cond c_3 (bnd (call F_kern_Kern_Now [.pointer x] hv_23) fun r_7 hv_24 => aInt .i64 r_7 fun x_10 => some (x_10 == 0, hv_24)) (some (false, hv_23))) fun c_4 hv_25 => some (.bool c_4, hv_25)))))) := by kernel_rfl
def C_law8_Boot : Cuts := { globs := 0, loops := [(6, [2, 4, 5, 6, 7]), (10, [2, 4, 5, 6, 8]), (14, [2, 4, 5, 6, 9]), (18, [2, 4, 5, 6, 10])], regs := [], plans := [(8, ⟨[0, 1, 2, 3, 4, 5, 6, 7, 8], [0, 1, 0, 4, 12, 28, 63, 127, 255], [(3, [1])], []⟩), (12, ⟨[0, 1, 2, 3, 4, 5, 6, 7, 8], [0, 1, 0, 0, 12, 28, 63, 127, 255], [(4, [1])], []⟩), (16, ⟨[0, 1, 2, 3, 5, 6, 4, 7, 8, 9, 10, 11, 12], [0, 1, 0, 0, 12, 0, 0, 124, 252, 508, 1023, 2047, 4095], [(4, [1]), (7, [1])], []⟩), (23, ⟨[0, 1, 2, 3, 4, 5, 6, 7, 8, 9, 10, 11, 12, 13, 14, 15, 16, 17], [0, 0, 2, 0, 8, 30, 62, 0, 128, 510, 1022, 0, 2048, 8190, 16382, 32767, 65535, 131071], [], []⟩)] }
noncomputable def T_law8_Boot : List Item := bodyOf Try.f13
noncomputable def T_law8_Boot_L1 : List Item := stk [0, 1, 0, 1, 0, 1, 0, 1, 0, 1, 0, 0, 1, 4, 5] T_law8_Boot
noncomputable def T_law8_Boot_L2 : List Item := stk [0, 1, 0, 1, 0, 1, 0, 1, 0, 1, 0, 1, 0, 0, 1, 4, 5] T_law8_Boot
noncomputable def T_law8_Boot_L3 : List Item := stk [0, 1, 0, 1, 0, 1, 0, 1, 0, 1, 0, 1, 0, 1, 0, 0, 1, 4, 5] T_law8_Boot
noncomputable def T_law8_Boot_L4 : List Item := stk [0, 1, 0, 1, 0, 1, 0, 1, 0, 1, 0, 1, 0, 1, 0, 1, 0, 0, 1, 4, 5] T_law8_Boot
theorem e_law8_Boot (call : CallFn) (run : RunFn) (l : Option Addr) (ln lc : Nat) (h : H) :
  exec PR C_law8_Boot call run F_law8_Boot Try.f13 100000 true T_law8_Boot [(0, .slice l ln lc)] h =
  nw (.cells Y_s_int false [.slice l ln lc]) h fun b hv => nw (.cells Y_api_Boot false [.slice none 0 0, .slice none 0 0, .slice none 0 0, .int .i64 0, .slice none 0 0]) hv fun b_1 hv_1 => nw (.cells Y_int false [.int .i64 0]) hv_1 fun b_2 hv_2 => pV ⟨b_2, 0, none⟩ (.int .i64 0) hv_2 fun hv_3 => bnd (call F_law8_Boot_1 [.int .i64 6, .pointer (some ⟨b_2, 0, none⟩), .pointer (some ⟨b, 0, none⟩)] hv_3) fun r hv_4 => aInt .i64 r fun x => nw (.cells Y_api_Boot false [.slice none 0 0, .slice none 0 0, .slice none 0 0, .int .i64 0, .slice none 0 0]) hv_4 fun b_3 hv_5 => pAgg ⟨b_3, 0, none⟩ [.slice none 0 0, .slice none 0 0, .slice none 0 0, .int .i64 (IntKind.wrap .i64 (1 + x)), .slice none 0 0] hv_5 fun hv_6 => bnd (call F_law8_Boot_1 [.int .i64 3, .pointer (some ⟨b_2, 0, none⟩), .pointer (some ⟨b, 0, none⟩)] hv_6) fun r_1 hv_7 => aInt .i64 r_1 fun x_1 => run F_law8_Boot T_law8_Boot_L1 [(2, .pointer (some ⟨b_1, 0, none⟩)), (4, .func (.func F_law8_Boot_1) ⟨[]⟩ ⟨[.pointer (some ⟨b_2, 0, none⟩), .pointer (some ⟨b, 0, none⟩)]⟩), (5, .pointer (some ⟨b_3, 0, none⟩)), (6, .int .i64 (IntKind.wrap .i64 (1 + x_1))), (7, .int .i64 0)] hv_7 := by kernel_rfl
theorem e_law8_Boot_L1 (call : CallFn) (run : RunFn) (x2 : Addr) (next : Addr) (next_1 : Addr) (b : Addr) (n : Int) (i : Int) (h : H) :
  exec PR C_law8_Boot call run F_law8_Boot Try.f13 100000 true T_law8_Boot_L1 [(2, .pointer (some x2)), (4, .func (.func F_law8_Boot_1) ⟨[]⟩ ⟨[.pointer (some next), .pointer (some next_1)]⟩), (5, .pointer (some b)), (6, .int .i64 n), (7, .int .i64 i)] h =
  cond (decide (i < n))
  (gSl (Addr.add b 0) h fun x xn xc => bnd (call F_law8_Boot_1 [.int .i64 4, .pointer (some next), .pointer (some next_1)] h) fun r hv => aInt .i64 r fun x_1 => gSl (Addr.add b 0) hv fun x_2 xn_1 xc_1 => same (.slice x xn xc) (.slice x_2 xn_1 xc_1) (nw (.cells Y_int false [.int .i64 (IntKind.wrap .i64 (1 + x_1))]) hv fun b_1 hv_1 => gCells (some ⟨b_1, 0, none⟩) (1 * 1) hv_1 fun cs => ckB (fitsOpen x Y_int hv_1) (apd Y_int 1 x xn xc 1 cs hv_1 fun a an ac hv_2 => pV (Addr.add b 0) (.slice a an ac) hv_2 fun hv_3 => run F_law8_Boot T_law8_Boot_L1 [(2, .pointer (some x2)), (4, .func (.func F_law8_Boot_1) ⟨[]⟩ ⟨[.pointer (some next), .pointer (some next_1)]⟩), (5, .pointer (some b)), (6, .int .i64 n), (7, .int .i64 (IntKind.wrap .i64 (i + 1)))] hv_3)))
  (run F_law8_Boot T_law8_Boot_L2 [(2, .pointer (some x2)), (4, .func (.func F_law8_Boot_1) ⟨[]⟩ ⟨[.pointer (some next), .pointer (some next_1)]⟩), (5, .pointer (some b)), (6, .int .i64 n), (8, .int .i64 0)] h) := by kernel_rfl
theorem e_law8_Boot_L2 (call : CallFn) (run : RunFn) (x2 : Addr) (next : Addr) (next_1 : Addr) (b : Addr) (n : Int) (i : Int) (h : H) :
  exec PR C_law8_Boot call run F_law8_Boot Try.f13 100000 true T_law8_Boot_L2 [(2, .pointer (some x2)), (4, .func (.func F_law8_Boot_1) ⟨[]⟩ ⟨[.pointer (some next), .pointer (some next_1)]⟩), (5, .pointer (some b)), (6, .int .i64 n), (8, .int .i64 i)] h =
  cond (decide (i < 5))
  (gSl (Addr.add b 1) h fun x xn xc => bnd (call F_law8_Boot_1 [.int .i64 n, .pointer (some next), .pointer (some next_1)] h) fun r hv => aInt .i64 r fun x_1 => gSl (Addr.add b 1) hv fun x_2 xn_1 xc_1 => same (.slice x xn xc) (.slice x_2 xn_1 xc_1) (nw (.cells Y_int false [.int .i64 x_1]) hv fun b_1 hv_1 => gCells (some ⟨b_1, 0, none⟩) (1 * 1) hv_1 fun cs => ckB (fitsOpen x Y_int hv_1) (apd Y_int 1 x xn xc 1 cs hv_1 fun a an ac hv_2 => pV (Addr.add b 1) (.slice a an ac) hv_2 fun hv_3 => run F_law8_Boot T_law8_Boot_L2 [(2, .pointer (some x2)), (4, .func (.func F_law8_Boot_1) ⟨[]⟩ ⟨[.pointer (some next), .pointer (some next_1)]⟩), (5, .pointer (some b)), (6, .int .i64 n), (8, .int .i64 (IntKind.wrap .i64 (i + 1)))] hv_3)))
  (run F_law8_Boot T_law8_Boot_L3 [(2, .pointer (some x2)), (4, .func (.func F_law8_Boot_1) ⟨[]⟩ ⟨[.pointer (some next), .pointer (some next_1)]⟩), (5, .pointer (some b)), (6, .int .i64 n), (9, .int .i64 0)] h) := by kernel_rfl
theorem e_law8_Boot_L3 (call : CallFn) (run : RunFn) (x2 : Addr) (next : Addr) (next_1 : Addr) (b : Addr) (n : Int) (i : Int) (h : H) :
  exec PR C_law8_Boot call run F_law8_Boot Try.f13 100000 true T_law8_Boot_L3 [(2, .pointer (some x2)), (4, .func (.func F_law8_Boot_1) ⟨[]⟩ ⟨[.pointer (some next), .pointer (some next_1)]⟩), (5, .pointer (some b)), (6, .int .i64 n), (9, .int .i64 i)] h =
  cond (decide (i < 2))
  (gSl (Addr.add b 2) h fun x xn xc => bnd (call F_law8_Boot_1 [.int .i64 n, .pointer (some next), .pointer (some next_1)] h) fun r hv => aInt .i64 r fun x_1 => gSl (Addr.add b 2) hv fun x_2 xn_1 xc_1 => same (.slice x xn xc) (.slice x_2 xn_1 xc_1) (bnd (call F_law8_Boot_1 [.int .i64 n, .pointer (some next), .pointer (some next_1)] hv) fun r_1 hv_1 => aInt .i64 r_1 fun x_3 => gSl (Addr.add b 2) hv_1 fun x_4 xn_2 xc_2 => same (.slice x xn xc) (.slice x_4 xn_2 xc_2) (nw (.cells Y_int false [.int .i64 x_1, .int .i64 x_3]) hv_1 fun b_1 hv_2 => nw (.cells Y_s_int false [.slice (some ⟨b_1, 0, none⟩) 2 2]) hv_2 fun b_2 hv_3 => gCells (some ⟨b_2, 0, none⟩) (1 * 1) hv_3 fun cs => ckB (fitsOpen x Y_s_int hv_3) (apd Y_s_int 1 x xn xc 1 cs hv_3 fun a an ac hv_4 => pV (Addr.add b 2) (.slice a an ac) hv_4 fun hv_5 => run F_law8_Boot T_law8_Boot_L3 [(2, .pointer (some x2)), (4, .func (.func F_law8_Boot_1) ⟨[]⟩ ⟨[.pointer (some next), .pointer (some next_1)]⟩), (5, .pointer (some b)), (6, .int .i64 n), (9, .int .i64 (IntKind.wrap .i64 (i + 1)))] hv_5))))
  (run F_law8_Boot T_law8_Boot_L4 [(2, .pointer (some x2)), (4, .func (.func F_law8_Boot_1) ⟨[]⟩ ⟨[.pointer (some next), .pointer (some next_1)]⟩), (5, .pointer (some b)), (6, .int .i64 n), (10, .int .i64 0)] h) := by kernel_rfl
theorem e_law8_Boot_L4 (call : CallFn) (run : RunFn) (x2 : Addr) (next : Addr) (next_1 : Addr) (b : Addr) (n : Int) (i : Int) (h : H) :
  exec PR C_law8_Boot call run F_law8_Boot Try.f13 100000 true T_law8_Boot_L4 [(2, .pointer (some x2)), (4, .func (.func F_law8_Boot_1) ⟨[]⟩ ⟨[.pointer (some next), .pointer (some next_1)]⟩), (5, .pointer (some b)), (6, .int .i64 n), (10, .int .i64 i)] h =
  cond (decide (i < 3))
  (bnd (call F_law8_Boot_1 [.int .i64 n, .pointer (some next), .pointer (some next_1)] h) fun r hv => aInt .i64 r fun x => bnd (call F_law8_Boot_1 [.int .i64 n, .pointer (some next), .pointer (some next_1)] hv) fun r_1 hv_1 => aInt .i64 r_1 fun x_1 => bnd (call F_law8_Boot_1 [.int .i64 n, .pointer (some next), .pointer (some next_1)] hv_1) fun r_2 hv_2 => aInt .i64 r_2 fun x_2 => nw (.cells Y_int false [.int .i64 x_1, .int .i64 x_2]) hv_2 fun b_1 hv_3 => nw (.cells Y_api_Share false [.int .i64 0, .int .i64 0, .int .i64 0, .int .i64 0, .slice none 0 0]) hv_3 fun b_2 hv_4 => pAgg ⟨b_2, 0, none⟩ [.int .i64 x, .int .i64 0, .int .i64 0, .int .i64 0, .slice (some ⟨b_1, 0, none⟩) 2 2] hv_4 fun hv_5 => gSl (Addr.add b 0) hv_5 fun x_3 xn _ => gInt .i64 (Addr.add ⟨b_2, 0, none⟩ 0) hv_5 fun x_4 => aSome x_3 fun p => ck ((0 : Int) ≤ x_4 ∧ x_4 < ((xn : Nat) : Int)) (gInt .i64 (Addr.add (bare p) (Int.toNat x_4 * 1)) hv_5 fun x_5 => bnd (call F_law8_Boot_1 [.int .i64 x_5, .pointer (some next), .pointer (some next_1)] hv_5) fun r_3 hv_6 => aInt .i64 r_3 fun x_6 => pV (Addr.add ⟨b_2, 0, none⟩ 1) (.int .i64 x_6) hv_6 fun hv_7 => bnd (call F_law8_Boot_1 [.int .i64 30, .pointer (some next), .pointer (some next_1)] hv_7) fun r_4 hv_8 => aInt .i64 r_4 fun x_7 => pV (Addr.add ⟨b_2, 0, none⟩ 2) (.int .i64 x_7) hv_8 fun hv_9 => gSl (Addr.add b 0) hv_9 fun x_8 xn_1 _ => gInt .i64 (Addr.add ⟨b_2, 0, none⟩ 0) hv_9 fun x_9 => aSome x_8 fun p_1 => ck ((0 : Int) ≤ x_9 ∧ x_9 < ((xn_1 : Nat) : Int)) (gInt .i64 (Addr.add (bare p_1) (Int.toNat x_9 * 1)) hv_9 fun x_10 => gInt .i64 (Addr.add ⟨b_2, 0, none⟩ 1) hv_9 fun x_11 => gInt .i64 (Addr.add ⟨b_2, 0, none⟩ 2) hv_9 fun x_12 => bnd (call F_law8_Boot_1 [.int .i64 (IntKind.wrap .i64 ((IntKind.wrap .i64 ((IntKind.wrap .i64 (64 * (IntKind.wrap .i64 (x_10 - x_11)))) - x_12)) + 1)), .pointer (some next), .pointer (some next_1)] hv_9) fun r_5 hv_10 => aInt .i64 r_5 fun x_13 => pV (Addr.add ⟨b_2, 0, none⟩ 3) (.int .i64 x_13) hv_10 fun hv_11 => gSl (Addr.add b 4) hv_11 fun x_14 xn_2 xc_2 => gAgg ⟨b_2, 0, none⟩ 5 hv_11 fun x_15 => ck (List.length x_15 = 5) (nw (.cells Y_api_Share false (x_15 ++ [])) hv_11 fun b_3 hv_12 => gCells (some ⟨b_3, 0, none⟩) (1 * 5) hv_12 fun cs => ckB (fitsOpen x_14 Y_api_Share hv_12) (apd Y_api_Share 5 x_14 xn_2 xc_2 1 cs hv_12 fun a an ac hv_13 => pV (Addr.add b 4) (.slice a an ac) hv_13 fun hv_14 => run F_law8_Boot T_law8_Boot_L4 [(2, .pointer (some x2)), (4, .func (.func F_law8_Boot_1) ⟨[]⟩ ⟨[.pointer (some next), .pointer (some next_1)]⟩), (5, .pointer (some b)), (6, .int .i64 n), (10, .int .i64 (IntKind.wrap .i64 (i + 1)))] hv_14)))))
  (gAgg b 5 h fun x_16 => ck (List.length x_16 = 5) (pAgg x2 x_16 h fun hv_15 => gAgg x2 5 hv_15 fun x_17 => some (.agg ⟨x_17⟩, hv_15))) := by kernel_rfl
def C_kern_Kern_Sect : Cuts := { globs := 0, loops := [], regs := [], plans := [] }
def C_quota_New : Cuts := { globs := 0, loops := [(3, [3, 12, 13, 14])], regs := [], plans := [(5, ⟨[0, 1, 2, 3, 4, 5, 6, 7, 8, 9, 10, 11, 12, 13], [0, 0, 2, 6, 14, 0, 32, 96, 224, 480, 1022, 2047, 4095, 8191], [], []⟩)] }
noncomputable def T_quota_New : List Item := bodyOf Try.f25
noncomputable def T_quota_New_L1 : List Item := stk [0, 1, 0, 1, 0, 0, 1, 4, 5] T_quota_New
theorem e_quota_New (call : CallFn) (run : RunFn) (frames : Option Addr) (framesn framesc : Nat) (h : H) :
  exec PR C_quota_New call run F_quota_New Try.f25 100000 true T_quota_New [(0, .slice frames framesn framesc)] h =
  nw (.cells Y_quota_Quota false [.slice none 0 0]) h fun b hv => ckB (fitsOpen frames Y_int hv) (ck ((0 : Int) ≤ mm2 false ((framesn : Nat) : Int) 4 ∧ mm2 false ((framesn : Nat) : Int) 4 ≤ ((framesc : Nat) : Int)) (run F_quota_New T_quota_New_L1 [(3, .pointer (some ⟨b, 0, none⟩)), (12, .slice (moved frames (decide (0 < framesc)) (0 * 1)) ((Int.toNat (mm2 false ((framesn : Nat) : Int) 4)) - 0) (framesc - 0)), (13, .int .i64 (((Int.toNat (mm2 false ((framesn : Nat) : Int) 4)) - 0 : Nat) : Int)), (14, .int .i64 0)] hv)) := by kernel_rfl
theorem e_quota_New_L1 (call : CallFn) (run : RunFn) (q : Addr) (x12 : Option Addr) (x12n x12c : Nat) (x13 : Int) (x14 : Int) (h : H) :
  exec PR C_quota_New call run F_quota_New Try.f25 100000 true T_quota_New_L1 [(3, .pointer (some q)), (12, .slice x12 x12n x12c), (13, .int .i64 x13), (14, .int .i64 x14)] h =
  cond (decide (x14 < x13))
  (aSome x12 fun p => ck ((0 : Int) ≤ x14 ∧ x14 < ((x12n : Nat) : Int)) (gInt .i64 (Addr.add (bare p) (Int.toNat x14 * 1)) h fun x => gSl (Addr.add q 0) h fun x_1 xn xc => ck ((0 : Int) ≤ mm2 false (mm2 true x 0) 64 ∧ (mm2 false (mm2 true x 0) 64 : Int) ≤ mm2 false (mm2 true x 0) 64 ∧ mm2 false (mm2 true x 0) 64 ≤ (most : Int)) (nw (.cells Y_int false (manyN (Int.toNat (mm2 false (mm2 true x 0) 64)) [.int .i64 0])) h fun b hv => nw (.cells Y_s_int false [.slice (some ⟨b, 0, none⟩) (Int.toNat (mm2 false (mm2 true x 0) 64)) (Int.toNat (mm2 false (mm2 true x 0) 64))]) hv fun b_1 hv_1 => gCells (some ⟨b_1, 0, none⟩) (1 * 1) hv_1 fun cs => ckB (fitsOpen x_1 Y_s_int hv_1) (apd Y_s_int 1 x_1 xn xc 1 cs hv_1 fun a an ac hv_2 => pV (Addr.add q 0) (.slice a an ac) hv_2 fun hv_3 => run F_quota_New T_quota_New_L1 [(3, .pointer (some q)), (12, .slice x12 x12n x12c), (13, .int .i64 x13), (14, .int .i64 (IntKind.wrap .i64 (x14 + 1)))] hv_3))))
  (some (.pointer (some q), h)) := by kernel_rfl
def C_quota_Quota_First : Cuts := { globs := 0, loops := [(3, [5, 20, 21, 22])], regs := [], plans := [(2, ⟨[0, 1, 2, 3, 4, 5, 6, 7, 8, 9, 10, 11, 12, 13, 14], [0, 1, 3, 7, 0, 16, 0, 64, 192, 448, 960, 2032, 4095, 8191, 0], [], []⟩)] }
noncomputable def T_quota_Quota_First : List Item := bodyOf Try.f29
noncomputable def T_quota_Quota_First_L1 : List Item := stk [0, 1, 0, 1, 0, 0, 1, 4, 5] T_quota_Quota_First
theorem e_quota_Quota_First (call : CallFn) (run : RunFn) (q : Option Addr) (s : Int) (h : H) :
  exec PR C_quota_Quota_First call run F_quota_Quota_First Try.f29 100000 true T_quota_Quota_First [(0, .pointer q), (1, .int .i64 s)] h =
  aSome q fun p => gSl (Addr.add p 0) h fun x _ xc => aSome q fun p_1 => gSl (Addr.add p_1 0) h fun _ xn_1 _ => ckB (fitsOpen x Y_s_int h) (ck ((0 : Int) ≤ mm2 false (mm2 true s 0) ((xn_1 : Nat) : Int) ∧ mm2 false (mm2 true s 0) ((xn_1 : Nat) : Int) ≤ ((xc : Nat) : Int)) (run F_quota_Quota_First T_quota_Quota_First_L1 [(5, .int .i64 0), (20, .slice (moved x (decide (0 < xc)) (0 * 1)) ((Int.toNat (mm2 false (mm2 true s 0) ((xn_1 : Nat) : Int))) - 0) (xc - 0)), (21, .int .i64 (((Int.toNat (mm2 false (mm2 true s 0) ((xn_1 : Nat) : Int))) - 0 : Nat) : Int)), (22, .int .i64 0)] h)) := by kernel_rfl
theorem e_quota_Quota_First_L1 (call : CallFn) (run : RunFn) (n : Int) (x20 : Option Addr) (x20n x20c : Nat) (x21 : Int) (x22 : Int) (h : H) :
  exec PR C_quota_Quota_First call run F_quota_Quota_First Try.f29 100000 true T_quota_Quota_First_L1 [(5, .int .i64 n), (20, .slice x20 x20n x20c), (21, .int .i64 x21), (22, .int .i64 x22)] h =
  cond (decide (x22 < x21))
  (aSome x20 fun p => ck ((0 : Int) ≤ x22 ∧ x22 < ((x20n : Nat) : Int)) (gSl (Addr.add (bare p) (Int.toNat x22 * 1)) h fun _ xn _ => run F_quota_Quota_First T_quota_Quota_First_L1 [(5, .int .i64 (IntKind.wrap .i64 (n + ((xn : Nat) : Int)))), (20, .slice x20 x20n x20c), (21, .int .i64 x21), (22, .int .i64 (IntKind.wrap .i64 (x22 + 1)))] h))
  (some (.int .i64 n, h)) := by kernel_rfl
def C_slices_Contains_s_int_int : Cuts := { globs := 0, loops := [], regs := [], plans := [] }
noncomputable def T_slices_Contains_s_int_int : List Item := bodyOf Try.f30
theorem e_slices_Contains_s_int_int (call : CallFn) (run : RunFn) (s : Option Addr) (sn sc : Nat) (v : Int) (h : H) :
  exec PR C_slices_Contains_s_int_int call run F_slices_Contains_s_int_int Try.f30 100000 true T_slices_Contains_s_int_int [(0, .slice s sn sc), (1, .int .i64 v)] h =
  bnd (call F_slices_Index_s_int_int [.slice s sn sc, .int .i64 v] h) fun r hv => aInt .i64 r fun x => some (.bool (decide (x ≥ 0)), hv) := by kernel_rfl
def C_kern_Kern_bytes : Cuts := { globs := 0, loops := [], regs := [], plans := [(4, ⟨[0, 1, 2, 3, 4, 5, 6, 7, 8, 9, 10, 11, 12, 13, 14, 15, 16], [0, 1, 3, 7, 0, 0, 32, 0, 128, 0, 512, 2047, 4095, 8191, 8191, 16383, 65535], [], []⟩), (6, ⟨[0, 1, 2, 3, 4, 5, 6, 7, 8, 9, 10, 11, 12], [0, 1, 3, 7, 0, 0, 32, 0, 128, 0, 512, 2047, 4095], [], []⟩), (8, ⟨[0, 1, 2, 3, 4, 5, 6, 7, 8, 9, 10, 11, 12, 13, 14, 15, 16], [0, 1, 3, 7, 0, 0, 32, 0, 128, 0, 512, 0, 2048, 0, 8192, 32767, 65535], [], []⟩)] }
noncomputable def T_kern_Kern_bytes : List Item := bodyOf Try.f32
theorem e_kern_Kern_bytes (call : CallFn) (run : RunFn) (k : Option Addr) (env : Int) (c : List Value) (h : H) :
  exec PR C_kern_Kern_bytes call run F_kern_Kern_bytes Try.f32 100000 true T_kern_Kern_bytes [(0, .pointer k), (1, .int .i64 env), (2, .agg ⟨c⟩)] h =
  nw (.cells Y_api_Call false c) h fun b hv => gInt .i64 (Addr.add ⟨b, 0, none⟩ 0) hv fun x => cond (x == 1)
  (aSome k fun p => gPtr (Addr.add p 5) hv fun x_1 => gInt .i64 (Addr.add ⟨b, 0, none⟩ 1) hv fun x_2 => gInt .i64 (Addr.add ⟨b, 0, none⟩ 2) hv fun x_3 => gInt .i64 (Addr.add ⟨b, 0, none⟩ 3) hv fun x_4 => bnd (call F_region_Regions_Read [.pointer x_1, .int .i64 env, .int .i64 x_2, .int .i64 x_3, .int .i64 x_4] hv) fun r hv_1 => as2 r fun r_1 r_2 => aSl r_1 fun x_5 xn xc => aInt .i64 r_2 fun x_6 => some (.tuple ⟨[.slice x_5 xn xc, .int .i64 x_6, .bool true]⟩, hv_1))
  (cond (x == 2)
  (aSome k fun p_1 => gPtr (Addr.add p_1 5) hv fun x_7 => gInt .i64 (Addr.add ⟨b, 0, none⟩ 1) hv fun x_8 => gInt .i64 (Addr.add ⟨b, 0, none⟩ 2) hv fun x_9 => gSl (Addr.add ⟨b, 0, none⟩ 6) hv fun x_10 xn_1 xc_1 => bnd (call F_region_Regions_Write [.pointer x_7, .int .i64 env, .int .i64 x_8, .int .i64 x_9, .slice x_10 xn_1 xc_1] hv) fun r_3 hv_2 => aInt .i64 r_3 fun x_11 => some (.tuple ⟨[.slice none 0 0, .int .i64 x_11, .bool true]⟩, hv_2))
  (cond (x == 3)
  (aSome k fun p_2 => gPtr (Addr.add p_2 5) hv fun x_12 => gInt .i64 (Addr.add ⟨b, 0, none⟩ 1) hv fun x_13 => gInt .i64 (Addr.add ⟨b, 0, none⟩ 2) hv fun x_14 => gInt .i64 (Addr.add ⟨b, 0, none⟩ 4) hv fun x_15 => gInt .i64 (Addr.add ⟨b, 0, none⟩ 5) hv fun x_16 => gInt .i64 (Addr.add ⟨b, 0, none⟩ 3) hv fun x_17 => bnd (call F_region_Regions_Copy [.pointer x_12, .int .i64 env, .int .i64 x_13, .int .i64 x_14, .int .i64 x_15, .int .i64 x_16, .int .i64 x_17] hv) fun r_4 hv_3 => aInt .i64 r_4 fun x_18 => some (.tuple ⟨[.slice none 0 0, .int .i64 x_18, .bool true]⟩, hv_3))
  (some (.tuple ⟨[.slice none 0 0, .int .i64 0, .bool false]⟩, hv)))) := by kernel_rfl
def C_mem_Mem_Size : Cuts := { globs := 0, loops := [], regs := [], plans := [] }
noncomputable def T_mem_Mem_Size : List Item := bodyOf Try.f42
theorem e_mem_Mem_Size (call : CallFn) (run : RunFn) (m : Option Addr) (h : H) :
  exec PR C_mem_Mem_Size call run F_mem_Mem_Size Try.f42 100000 true T_mem_Mem_Size [(0, .pointer m)] h =
  aSome m fun p => gSl (Addr.add p 0) h fun _ xn _ => some (.int .i64 ((xn : Nat) : Int), h) := by kernel_rfl
def C_slices_Index_s_int_int : Cuts := { globs := 0, loops := [(2, [0, 1, 7, 8])], regs := [], plans := [] }
noncomputable def T_slices_Index_s_int_int : List Item := bodyOf Try.f43
noncomputable def T_slices_Index_s_int_int_L1 : List Item := stk [0, 1, 0, 0, 1, 4, 5] T_slices_Index_s_int_int
theorem e_slices_Index_s_int_int (call : CallFn) (run : RunFn) (s : Option Addr) (sn sc : Nat) (v : Int) (h : H) :
  exec PR C_slices_Index_s_int_int call run F_slices_Index_s_int_int Try.f43 100000 true T_slices_Index_s_int_int [(0, .slice s sn sc), (1, .int .i64 v)] h =
  run F_slices_Index_s_int_int T_slices_Index_s_int_int_L1 [(0, .slice s sn sc), (1, .int .i64 v), (7, .int .i64 ((sn : Nat) : Int)), (8, .int .i64 0)] h := by kernel_rfl
theorem e_slices_Index_s_int_int_L1 (call : CallFn) (run : RunFn) (s : Option Addr) (sn sc : Nat) (v : Int) (x7 : Int) (x8 : Int) (h : H) :
  exec PR C_slices_Index_s_int_int call run F_slices_Index_s_int_int Try.f43 100000 true T_slices_Index_s_int_int_L1 [(0, .slice s sn sc), (1, .int .i64 v), (7, .int .i64 x7), (8, .int .i64 x8)] h =
  cond (decide (x8 < x7))
  (aSome s fun p => ck ((0 : Int) ≤ x8 ∧ x8 < ((sn : Nat) : Int)) (gInt .i64 (Addr.add (bare p) (Int.toNat x8 * 1)) h fun x => cond (v == x)
  (some (.int .i64 x8, h))
  (run F_slices_Index_s_int_int T_slices_Index_s_int_int_L1 [(0, .slice s sn sc), (1, .int .i64 v), (7, .int .i64 x7), (8, .int .i64 (IntKind.wrap .i64 (x8 + 1)))] h)))
  (some (.int .i64 (-1), h)) := by kernel_rfl
def C_region_Regions_Read : Cuts := { globs := 0, loops := [], regs := [], plans := [] }
noncomputable def T_region_Regions_Read : List Item := bodyOf Try.f46
theorem e_region_Regions_Read (call : CallFn) (run : RunFn) (r : Option Addr) (env : Int) (name : Int) (atv : Int) (n : Int) (h : H) :
  exec PR C_region_Regions_Read call run F_region_Regions_Read Try.f46 100000 true T_region_Regions_Read [(0, .pointer r), (1, .int .i64 env), (2, .int .i64 name), (3, .int .i64 atv), (4, .int .i64 n)] h =
  bnd (call F_region_Regions_place [.pointer r, .int .i64 env, .int .i64 name, .int .i64 1, .int .i64 atv, .int .i64 n] h) fun r_1 hv => as2 r_1 fun r_2 r_3 => aInt .i64 r_2 fun x => aInt .i64 r_3 fun x_1 => cond (x_1 != 0)
  (some (.tuple ⟨[.slice none 0 0, .int .i64 x_1]⟩, hv))
  (aSome r fun p => gPtr (Addr.add p 0) hv fun x_2 => bnd (call F_mem_Mem_Load [.pointer x_2, .int .i64 x, .int .i64 n] hv) fun r_4 hv_1 => as2 r_4 fun r_5 r_6 => aSl r_5 fun x_3 xn xc => aInt .i64 r_6 fun x_4 => some (.tuple ⟨[.slice x_3 xn xc, .int .i64 x_4]⟩, hv_1)) := by kernel_rfl
def C_region_Regions_Copy : Cuts := { globs := 0, loops := [], regs := [], plans := [] }
noncomputable def T_region_Regions_Copy : List Item := bodyOf Try.f48
theorem e_region_Regions_Copy (call : CallFn) (run : RunFn) (r : Option Addr) (env : Int) (fromv : Int) (atv : Int) (to : Int) (on : Int) (n : Int) (h : H) :
  exec PR C_region_Regions_Copy call run F_region_Regions_Copy Try.f48 100000 true T_region_Regions_Copy [(0, .pointer r), (1, .int .i64 env), (2, .int .i64 fromv), (3, .int .i64 atv), (4, .int .i64 to), (5, .int .i64 on), (6, .int .i64 n)] h =
  bnd (call F_region_Regions_Read [.pointer r, .int .i64 env, .int .i64 fromv, .int .i64 atv, .int .i64 n] h) fun r_1 hv => as2 r_1 fun r_2 r_3 => aSl r_2 fun x xn xc => aInt .i64 r_3 fun x_1 => cond (x_1 != 0)
  (some (.int .i64 x_1, hv))
  (bnd (call F_region_Regions_Write [.pointer r, .int .i64 env, .int .i64 to, .int .i64 on, .slice x xn xc] hv) fun r_4 hv_1 => aInt .i64 r_4 fun x_2 => some (.int .i64 x_2, hv_1)) := by kernel_rfl
def C_quota_Quota_Free : Cuts := { globs := 0, loops := [], regs := [], plans := [] }
noncomputable def T_quota_Quota_Free : List Item := bodyOf Try.f52
theorem e_quota_Quota_Free (call : CallFn) (run : RunFn) (q : Option Addr) (s : Int) (k : Int) (h : H) :
  exec PR C_quota_Quota_Free call run F_quota_Quota_Free Try.f52 100000 true T_quota_Quota_Free [(0, .pointer q), (1, .int .i64 s), (2, .int .i64 k)] h =
  bnd (call F_quota_Quota_is [.pointer q, .int .i64 s] h) fun r hv => aBool r fun x => cond (!x)
  (some (.int .i64 1, hv))
  (bnd (call F_quota_Quota_Owns [.pointer q, .int .i64 s, .int .i64 k] hv) fun r_1 hv_1 => aBool r_1 fun x_1 => cond (!x_1)
  (some (.int .i64 5, hv_1))
  (aSome q fun p => gSl (Addr.add p 0) hv_1 fun x_2 xn _ => aSome x_2 fun p_1 => ck ((0 : Int) ≤ s ∧ s < ((xn : Nat) : Int)) (gSl (Addr.add (bare p_1) (Int.toNat s * 1)) hv_1 fun x_3 xn_1 _ => aSome x_3 fun p_2 => ck ((0 : Int) ≤ k ∧ k < ((xn_1 : Nat) : Int)) (pV (Addr.add (bare p_2) (Int.toNat k * 1)) (.int .i64 0) hv_1 fun hv_2 => some (.int .i64 0, hv_2))))) := by kernel_rfl
def C_slices_IndexFunc_s_int_int : Cuts := { globs := 0, loops := [(2, [0, 1, 7, 8])], regs := [], plans := [] }
noncomputable def T_slices_IndexFunc_s_int_int : List Item := bodyOf Try.f57
noncomputable def T_slices_IndexFunc_s_int_int_L1 : List Item := stk [0, 1, 0, 0, 1, 4, 5] T_slices_IndexFunc_s_int_int
theorem e_slices_IndexFunc_s_int_int (call : CallFn) (run : RunFn) (s : Option Addr) (sn sc : Nat) (f : Value) (h : H) :
  exec PR C_slices_IndexFunc_s_int_int call run F_slices_IndexFunc_s_int_int Try.f57 100000 true T_slices_IndexFunc_s_int_int [(0, .slice s sn sc), (1, f)] h =
  run F_slices_IndexFunc_s_int_int T_slices_IndexFunc_s_int_int_L1 [(0, .slice s sn sc), (1, f), (7, .int .i64 ((sn : Nat) : Int)), (8, .int .i64 0)] h := by kernel_rfl
theorem e_slices_IndexFunc_s_int_int_L1 (call : CallFn) (run : RunFn) (s : Option Addr) (sn sc : Nat) (f : Value) (x7 : Int) (x8 : Int) (h : H) :
  exec PR C_slices_IndexFunc_s_int_int call run F_slices_IndexFunc_s_int_int Try.f57 100000 true T_slices_IndexFunc_s_int_int_L1 [(0, .slice s sn sc), (1, f), (7, .int .i64 x7), (8, .int .i64 x8)] h =
  cond (decide (x8 < x7))
  (aSome s fun p => ck ((0 : Int) ≤ x8 ∧ x8 < ((sn : Nat) : Int)) (gInt .i64 (Addr.add (bare p) (Int.toNat x8 * 1)) h fun x => aFn f fun g fi cp => bnd (call g (fi ++ ([.int .i64 x] ++ cp)) h) fun r hv => aBool r fun x_1 => cond x_1
  (some (.int .i64 x8, hv))
  (run F_slices_IndexFunc_s_int_int T_slices_IndexFunc_s_int_int_L1 [(0, .slice s sn sc), (1, f), (7, .int .i64 x7), (8, .int .i64 (IntKind.wrap .i64 (x8 + 1)))] hv)))
  (some (.int .i64 (-1), h)) := by kernel_rfl
def C_mem_Mem_Store : Cuts := { globs := 0, loops := [], regs := [], plans := [] }
noncomputable def T_mem_Mem_Store : List Item := bodyOf Try.f61
theorem e_mem_Mem_Store (call : CallFn) (run : RunFn) (m : Option Addr) (atv : Int) (b : Option Addr) (bn bc : Nat) (h : H) :
  exec PR C_mem_Mem_Store call run F_mem_Mem_Store Try.f61 100000 true T_mem_Mem_Store [(0, .pointer m), (1, .int .i64 atv), (2, .slice b bn bc)] h =
  bnd (call F_mem_Mem_in [.pointer m, .int .i64 atv, .int .i64 ((bn : Nat) : Int)] h) fun r hv => aBool r fun x => cond (!x)
  (some (.int .i64 1, hv))
  (aSome m fun p => gSl (Addr.add p 0) hv fun x_1 xn xc => ckB (fitsOpen x_1 Y_uint8 hv) (ck ((0 : Int) ≤ atv ∧ atv ≤ ((xn : Nat) : Int)) (gCells b (min bn (xn - (Int.toNat atv)) * 1) hv fun cs => pCells (moved x_1 (decide (Int.toNat atv < xc)) ((Int.toNat atv) * 1)) cs hv fun hv_1 => some (.int .i64 0, hv_1)))) := by kernel_rfl
def C_sect_Sect_Leave : Cuts := { globs := 0, loops := [], regs := [], plans := [] }
noncomputable def T_sect_Sect_Leave : List Item := bodyOf Try.f68
theorem e_sect_Sect_Leave (call : CallFn) (run : RunFn) (s : Option Addr) (who : Int) (stamp : Int) (h : H) :
  exec PR C_sect_Sect_Leave call run F_sect_Sect_Leave Try.f68 100000 true T_sect_Sect_Leave [(0, .pointer s), (1, .int .i64 who), (2, .int .i64 stamp)] h =
  bnd (call F_sect_Sect_Holds [.pointer s, .int .i64 who, .int .i64 stamp] h) fun r hv => aBool r fun x => cond (!x)
  (some (.bool false, hv))
  (aSome s fun p => pV (Addr.add p 1) (.bool false) hv fun hv_1 => aSome s fun p_1 => gInt .i64 (Addr.add p_1 7) hv_1 fun x_1 => aSome s fun p_2 => pV (Addr.add p_2 6) (.int .i64 x_1) hv_1 fun hv_2 => some (.bool true, hv_2)) := by kernel_rfl
def C_math_bits_Len : Cuts := { globs := 0, loops := [], regs := [], plans := [] }
def C_slices_choosePivotCmpFunc_api_Ref : Cuts := { globs := 0, loops := [], regs := [(11, [0, 3, 11, 12, 13, 14]), (12, [11, 13])], plans := [] }
def C_slices_siftDownCmpFunc_api_Ref : Cuts := { globs := 0, loops := [(1, [0, 2, 3, 4, 10])], regs := [(5, [0, 2, 3, 4, 10, 11])], plans := [(3, ⟨[0, 1, 2, 3, 4, 5, 6, 7, 8, 9, 10, 11, 12, 13, 14, 15, 16, 17, 18, 19, 20, 21], [0, 1, 0, 7, 15, 31, 31, 31, 31, 415, 991, 2015, 31, 31, 31, 24607, 57375, 127007, 258079, 524287, 1048575, 2097151], [], []⟩), (5, ⟨[0, 1, 2, 3, 4, 5, 6, 7, 8, 9, 10, 11, 12, 13, 14, 15], [0, 0, 0, 0, 12, 30, 62, 0, 0, 0, 768, 1920, 3968, 8191, 16383, 32767], [], []⟩), (6, ⟨[0, 1, 2, 3, 4, 5, 6, 7, 8, 9, 10, 11, 12, 13, 14, 15, 16, 17, 18, 19, 20, 21, 22, 23], [0, 0, 0, 6, 0, 0, 0, 96, 0, 0, 0, 1536, 3840, 7936, 0, 0, 0, 98304, 245760, 507904, 1048335, 2096911, 4194303, 8388607], [], []⟩)] }
def C_slices_nextPowerOfTwo : Cuts := { globs := 0, loops := [], regs := [], plans := [] }
def C_slices_xorshift_Next : Cuts := { globs := 0, loops := [], regs := [], plans := [(1, ⟨[0, 1, 2, 3, 4, 5, 6, 7, 8, 9], [0, 1, 3, 0, 8, 24, 56, 127, 255, 511], [], []⟩), (2, ⟨[0, 1, 2, 3, 4, 5, 6, 7, 8, 9], [0, 1, 3, 0, 8, 24, 56, 127, 255, 511], [], []⟩), (3, ⟨[0, 1, 2, 3, 4, 5, 6, 7, 8, 9], [0, 1, 3, 0, 8, 24, 56, 127, 255, 511], [], []⟩)] }
end Go.EQ

set_option maxRecDepth 100000
namespace Go.EQ
open Go Go.NN Go.Proofs
def cutsOf : FuncId → Cuts
  | 3 => C_law8_KernFrames
  | 4 => C_law8_KernAlone
  | 5 => C_law8_KernClock
  | 6 => C_law8_KernCaps
  | 7 => C_law8_KernSects
  | 8 => C_kern_New
  | 9 => C_kern_Kern_Do
  | 10 => C_law8_awake
  | 11 => C_kern_Kern_Tick
  | 12 => C_kern_Kern_Now
  | 13 => C_law8_Boot
  | 14 => C_kern_Kern_Space
  | 15 => C_caps_Space_Names
  | 16 => C_caps_Space_Get
  | 17 => C_kern_Kern_Sect
  | 18 => C_sect_Sect_Holder
  | 19 => C_sect_Sect_Holds
  | 20 => C_kern_check
  | 21 => C_kern_frames
  | 22 => C_slices_Clone_s_int_int
  | 23 => C_mem_New
  | 24 => C_caps_New
  | 25 => C_quota_New
  | 26 => C_region_New
  | 27 => C_sect_New
  | 28 => C_region_Regions_Add
  | 29 => C_quota_Quota_First
  | 30 => C_slices_Contains_s_int_int
  | 31 => C_caps_Space_Put
  | 32 => C_kern_Kern_bytes
  | 33 => C_kern_Kern_number
  | 34 => C_law8_Boot_1
  | 35 => C_caps_Space_is
  | 36 => C_table_Table_api_Cap_Names
  | 37 => C_table_Table_api_Cap_Get
  | 38 => C_kern_check_1
  | 39 => C_slices_ContainsFunc_s_int_int
  | 40 => C_kern_share
  | 41 => C_table_New_api_Cap
  | 42 => C_mem_Mem_Size
  | 43 => C_slices_Index_s_int_int
  | 44 => C_caps_Space_Put_1
  | 45 => C_caps_Space_add
  | 46 => C_region_Regions_Read
  | 47 => C_region_Regions_Write
  | 48 => C_region_Regions_Copy
  | 49 => C_caps_Space_Grant
  | 50 => C_caps_Space_Revoke
  | 51 => C_quota_Quota_Alloc
  | 52 => C_quota_Quota_Free
  | 53 => C_kern_Kern_enter
  | 54 => C_kern_Kern_leave
  | 55 => C_table_Table_api_Cap_name
  | 56 => C_table_Table_api_Cap_at
  | 57 => C_slices_IndexFunc_s_int_int
  | 58 => C_table_Table_api_Cap_Add
  | 59 => C_region_Regions_place
  | 60 => C_mem_Mem_Load
  | 61 => C_mem_Mem_Store
  | 62 => C_caps_Space_Under
  | 63 => C_table_Table_api_Cap_Drop
  | 64 => C_quota_Quota_is
  | 65 => C_quota_Quota_Owns
  | 66 => C_kern_Kern_sect
  | 67 => C_sect_Sect_Enter
  | 68 => C_sect_Sect_Leave
  | 69 => C_mem_Mem_in
  | 70 => C_slices_Clone_s_byte_byte
  | 71 => C_slices_SortFunc_s_api_Ref_api_Ref
  | 72 => C_caps_Space_Under_1
  | 73 => C_slices_pdqsortCmpFunc_api_Ref
  | 74 => C_math_bits_Len
  | 75 => C_slices_insertionSortCmpFunc_api_Ref
  | 76 => C_slices_heapSortCmpFunc_api_Ref
  | 77 => C_slices_breakPatternsCmpFunc_api_Ref
  | 78 => C_slices_choosePivotCmpFunc_api_Ref
  | 79 => C_slices_reverseRangeCmpFunc_api_Ref
  | 80 => C_slices_partialInsertionSortCmpFunc_api_Ref
  | 81 => C_slices_partitionEqualCmpFunc_api_Ref
  | 82 => C_slices_partitionCmpFunc_api_Ref
  | 83 => C_math_bits_Len32
  | 84 => C_math_bits_Len64
  | 85 => C_slices_siftDownCmpFunc_api_Ref
  | 86 => C_slices_nextPowerOfTwo
  | 87 => C_slices_xorshift_Next
  | 88 => C_slices_medianAdjacentCmpFunc_api_Ref
  | 89 => C_slices_medianCmpFunc_api_Ref
  | 90 => C_slices_order2CmpFunc_api_Ref
  | _ => { globs := 0, loops := [], regs := [], plans := [] }
noncomputable abbrev CALL : CallFn := NN.Call PR cutsOf
noncomputable abbrev JUMP : RunFn := NN.Jump PR cutsOf
theorem k_law8_KernCaps : FnOk PR cutsOf F_law8_KernCaps Try.f6 C_law8_KernCaps T_law8_KernCaps 4 := ⟨Try.func6, ⟨_, rfl⟩, by kernel_rfl, rfl, rfl, by kernel_rfl⟩
theorem k_kern_New : FnOk PR cutsOf F_kern_New Try.f8 C_kern_New T_kern_New 1 := ⟨Try.func8, ⟨_, rfl⟩, by kernel_rfl, rfl, rfl, by kernel_rfl⟩
theorem k_kern_Kern_Do : FnOk PR cutsOf F_kern_Kern_Do Try.f9 C_kern_Kern_Do T_kern_Kern_Do 3 := ⟨Try.func9, ⟨_, rfl⟩, by kernel_rfl, rfl, rfl, by kernel_rfl⟩
theorem k_law8_awake : FnOk PR cutsOf F_law8_awake Try.f10 C_law8_awake T_law8_awake 0 := ⟨Try.func10, ⟨_, rfl⟩, by kernel_rfl, rfl, rfl, by kernel_rfl⟩
theorem k_kern_Kern_Now : FnOk PR cutsOf F_kern_Kern_Now Try.f12 C_kern_Kern_Now T_kern_Kern_Now 1 := ⟨Try.func12, ⟨_, rfl⟩, by kernel_rfl, rfl, rfl, by kernel_rfl⟩
theorem k_law8_Boot : FnOk PR cutsOf F_law8_Boot Try.f13 C_law8_Boot T_law8_Boot 1 := ⟨Try.func13, ⟨_, rfl⟩, by kernel_rfl, rfl, rfl, by kernel_rfl⟩
theorem k_kern_Kern_Space : FnOk PR cutsOf F_kern_Kern_Space Try.f14 C_kern_Kern_Space T_kern_Kern_Space 1 := ⟨Try.func14, ⟨_, rfl⟩, by kernel_rfl, rfl, rfl, by kernel_rfl⟩
theorem k_caps_Space_Names : FnOk PR cutsOf F_caps_Space_Names Try.f15 C_caps_Space_Names T_caps_Space_Names 2 := ⟨Try.func15, ⟨_, rfl⟩, by kernel_rfl, rfl, rfl, by kernel_rfl⟩
theorem k_caps_Space_Get : FnOk PR cutsOf F_caps_Space_Get Try.f16 C_caps_Space_Get T_caps_Space_Get 3 := ⟨Try.func16, ⟨_, rfl⟩, by kernel_rfl, rfl, rfl, by kernel_rfl⟩
theorem k_sect_Sect_Holds : FnOk PR cutsOf F_sect_Sect_Holds Try.f19 C_sect_Sect_Holds T_sect_Sect_Holds 3 := ⟨Try.func19, ⟨_, rfl⟩, by kernel_rfl, rfl, rfl, by kernel_rfl⟩
theorem k_kern_check : FnOk PR cutsOf F_kern_check Try.f20 C_kern_check T_kern_check 1 := ⟨Try.func20, ⟨_, rfl⟩, by kernel_rfl, rfl, rfl, by kernel_rfl⟩
theorem k_kern_frames : FnOk PR cutsOf F_kern_frames Try.f21 C_kern_frames T_kern_frames 1 := ⟨Try.func21, ⟨_, rfl⟩, by kernel_rfl, rfl, rfl, by kernel_rfl⟩
theorem k_slices_Clone_s_int_int : FnOk PR cutsOf F_slices_Clone_s_int_int Try.f22 C_slices_Clone_s_int_int T_slices_Clone_s_int_int 1 := ⟨Try.func22, ⟨_, rfl⟩, by kernel_rfl, rfl, rfl, by kernel_rfl⟩
theorem k_mem_New : FnOk PR cutsOf F_mem_New Try.f23 C_mem_New T_mem_New 1 := ⟨Try.func23, ⟨_, rfl⟩, by kernel_rfl, rfl, rfl, by kernel_rfl⟩
theorem k_caps_New : FnOk PR cutsOf F_caps_New Try.f24 C_caps_New T_caps_New 1 := ⟨Try.func24, ⟨_, rfl⟩, by kernel_rfl, rfl, rfl, by kernel_rfl⟩
theorem k_quota_New : FnOk PR cutsOf F_quota_New Try.f25 C_quota_New T_quota_New 1 := ⟨Try.func25, ⟨_, rfl⟩, by kernel_rfl, rfl, rfl, by kernel_rfl⟩
theorem k_region_New : FnOk PR cutsOf F_region_New Try.f26 C_region_New T_region_New 2 := ⟨Try.func26, ⟨_, rfl⟩, by kernel_rfl, rfl, rfl, by kernel_rfl⟩
theorem k_sect_New : FnOk PR cutsOf F_sect_New Try.f27 C_sect_New T_sect_New 1 := ⟨Try.func27, ⟨_, rfl⟩, by kernel_rfl, rfl, rfl, by kernel_rfl⟩
theorem k_region_Regions_Add : FnOk PR cutsOf F_region_Regions_Add Try.f28 C_region_Regions_Add T_region_Regions_Add 3 := ⟨Try.func28, ⟨_, rfl⟩, by kernel_rfl, rfl, rfl, by kernel_rfl⟩
theorem k_quota_Quota_First : FnOk PR cutsOf F_quota_Quota_First Try.f29 C_quota_Quota_First T_quota_Quota_First 2 := ⟨Try.func29, ⟨_, rfl⟩, by kernel_rfl, rfl, rfl, by kernel_rfl⟩
theorem k_slices_Contains_s_int_int : FnOk PR cutsOf F_slices_Contains_s_int_int Try.f30 C_slices_Contains_s_int_int T_slices_Contains_s_int_int 2 := ⟨Try.func30, ⟨_, rfl⟩, by kernel_rfl, rfl, rfl, by kernel_rfl⟩
theorem k_caps_Space_Put : FnOk PR cutsOf F_caps_Space_Put Try.f31 C_caps_Space_Put T_caps_Space_Put 3 := ⟨Try.func31, ⟨_, rfl⟩, by kernel_rfl, rfl, rfl, by kernel_rfl⟩
theorem k_kern_Kern_bytes : FnOk PR cutsOf F_kern_Kern_bytes Try.f32 C_kern_Kern_bytes T_kern_Kern_bytes 3 := ⟨Try.func32, ⟨_, rfl⟩, by kernel_rfl, rfl, rfl, by kernel_rfl⟩
theorem k_kern_Kern_number : FnOk PR cutsOf F_kern_Kern_number Try.f33 C_kern_Kern_number T_kern_Kern_number 3 := ⟨Try.func33, ⟨_, rfl⟩, by kernel_rfl, rfl, rfl, by kernel_rfl⟩
theorem k_law8_Boot_1 : FnOk PR cutsOf F_law8_Boot_1 Try.f34 C_law8_Boot_1 T_law8_Boot_1 3 := ⟨Try.func34, ⟨_, rfl⟩, by kernel_rfl, rfl, rfl, by kernel_rfl⟩
theorem k_caps_Space_is : FnOk PR cutsOf F_caps_Space_is Try.f35 C_caps_Space_is T_caps_Space_is 2 := ⟨Try.func35, ⟨_, rfl⟩, by kernel_rfl, rfl, rfl, by kernel_rfl⟩
theorem k_table_Table_api_Cap_Names : FnOk PR cutsOf F_table_Table_api_Cap_Names Try.f36 C_table_Table_api_Cap_Names T_table_Table_api_Cap_Names 1 := ⟨Try.func36, ⟨_, rfl⟩, by kernel_rfl, rfl, rfl, by kernel_rfl⟩
theorem k_table_Table_api_Cap_Get : FnOk PR cutsOf F_table_Table_api_Cap_Get Try.f37 C_table_Table_api_Cap_Get T_table_Table_api_Cap_Get 2 := ⟨Try.func37, ⟨_, rfl⟩, by kernel_rfl, rfl, rfl, by kernel_rfl⟩
theorem k_kern_check_1 : FnOk PR cutsOf F_kern_check_1 Try.f38 C_kern_check_1 T_kern_check_1 2 := ⟨Try.func38, ⟨_, rfl⟩, by kernel_rfl, rfl, rfl, by kernel_rfl⟩
theorem k_slices_ContainsFunc_s_int_int : FnOk PR cutsOf F_slices_ContainsFunc_s_int_int Try.f39 C_slices_ContainsFunc_s_int_int T_slices_ContainsFunc_s_int_int 2 := ⟨Try.func39, ⟨_, rfl⟩, by kernel_rfl, rfl, rfl, by kernel_rfl⟩
theorem k_kern_share : FnOk PR cutsOf F_kern_share Try.f40 C_kern_share T_kern_share 2 := ⟨Try.func40, ⟨_, rfl⟩, by kernel_rfl, rfl, rfl, by kernel_rfl⟩
theorem k_table_New_api_Cap : FnOk PR cutsOf F_table_New_api_Cap Try.f41 C_table_New_api_Cap T_table_New_api_Cap 1 := ⟨Try.func41, ⟨_, rfl⟩, by kernel_rfl, rfl, rfl, by kernel_rfl⟩
theorem k_mem_Mem_Size : FnOk PR cutsOf F_mem_Mem_Size Try.f42 C_mem_Mem_Size T_mem_Mem_Size 1 := ⟨Try.func42, ⟨_, rfl⟩, by kernel_rfl, rfl, rfl, by kernel_rfl⟩
theorem k_slices_Index_s_int_int : FnOk PR cutsOf F_slices_Index_s_int_int Try.f43 C_slices_Index_s_int_int T_slices_Index_s_int_int 2 := ⟨Try.func43, ⟨_, rfl⟩, by kernel_rfl, rfl, rfl, by kernel_rfl⟩
theorem k_caps_Space_Put_1 : FnOk PR cutsOf F_caps_Space_Put_1 Try.f44 C_caps_Space_Put_1 T_caps_Space_Put_1 1 := ⟨Try.func44, ⟨_, rfl⟩, by kernel_rfl, rfl, rfl, by kernel_rfl⟩
theorem k_caps_Space_add : FnOk PR cutsOf F_caps_Space_add Try.f45 C_caps_Space_add T_caps_Space_add 3 := ⟨Try.func45, ⟨_, rfl⟩, by kernel_rfl, rfl, rfl, by kernel_rfl⟩
theorem k_region_Regions_Read : FnOk PR cutsOf F_region_Regions_Read Try.f46 C_region_Regions_Read T_region_Regions_Read 5 := ⟨Try.func46, ⟨_, rfl⟩, by kernel_rfl, rfl, rfl, by kernel_rfl⟩
theorem k_region_Regions_Write : FnOk PR cutsOf F_region_Regions_Write Try.f47 C_region_Regions_Write T_region_Regions_Write 5 := ⟨Try.func47, ⟨_, rfl⟩, by kernel_rfl, rfl, rfl, by kernel_rfl⟩
theorem k_region_Regions_Copy : FnOk PR cutsOf F_region_Regions_Copy Try.f48 C_region_Regions_Copy T_region_Regions_Copy 7 := ⟨Try.func48, ⟨_, rfl⟩, by kernel_rfl, rfl, rfl, by kernel_rfl⟩
theorem k_caps_Space_Grant : FnOk PR cutsOf F_caps_Space_Grant Try.f49 C_caps_Space_Grant T_caps_Space_Grant 7 := ⟨Try.func49, ⟨_, rfl⟩, by kernel_rfl, rfl, rfl, by kernel_rfl⟩
theorem k_quota_Quota_Alloc : FnOk PR cutsOf F_quota_Quota_Alloc Try.f51 C_quota_Quota_Alloc T_quota_Quota_Alloc 2 := ⟨Try.func51, ⟨_, rfl⟩, by kernel_rfl, rfl, rfl, by kernel_rfl⟩
theorem k_quota_Quota_Free : FnOk PR cutsOf F_quota_Quota_Free Try.f52 C_quota_Quota_Free T_quota_Quota_Free 3 := ⟨Try.func52, ⟨_, rfl⟩, by kernel_rfl, rfl, rfl, by kernel_rfl⟩
theorem k_kern_Kern_enter : FnOk PR cutsOf F_kern_Kern_enter Try.f53 C_kern_Kern_enter T_kern_Kern_enter 3 := ⟨Try.func53, ⟨_, rfl⟩, by kernel_rfl, rfl, rfl, by kernel_rfl⟩
theorem k_kern_Kern_leave : FnOk PR cutsOf F_kern_Kern_leave Try.f54 C_kern_Kern_leave T_kern_Kern_leave 3 := ⟨Try.func54, ⟨_, rfl⟩, by kernel_rfl, rfl, rfl, by kernel_rfl⟩
theorem k_table_Table_api_Cap_name : FnOk PR cutsOf F_table_Table_api_Cap_name Try.f55 C_table_Table_api_Cap_name T_table_Table_api_Cap_name 2 := ⟨Try.func55, ⟨_, rfl⟩, by kernel_rfl, rfl, rfl, by kernel_rfl⟩
theorem k_table_Table_api_Cap_at : FnOk PR cutsOf F_table_Table_api_Cap_at Try.f56 C_table_Table_api_Cap_at T_table_Table_api_Cap_at 2 := ⟨Try.func56, ⟨_, rfl⟩, by kernel_rfl, rfl, rfl, by kernel_rfl⟩
theorem k_slices_IndexFunc_s_int_int : FnOk PR cutsOf F_slices_IndexFunc_s_int_int Try.f57 C_slices_IndexFunc_s_int_int T_slices_IndexFunc_s_int_int 2 := ⟨Try.func57, ⟨_, rfl⟩, by kernel_rfl, rfl, rfl, by kernel_rfl⟩
theorem k_table_Table_api_Cap_Add : FnOk PR cutsOf F_table_Table_api_Cap_Add Try.f58 C_table_Table_api_Cap_Add T_table_Table_api_Cap_Add 2 := ⟨Try.func58, ⟨_, rfl⟩, by kernel_rfl, rfl, rfl, by kernel_rfl⟩
theorem k_region_Regions_place : FnOk PR cutsOf F_region_Regions_place Try.f59 C_region_Regions_place T_region_Regions_place 6 := ⟨Try.func59, ⟨_, rfl⟩, by kernel_rfl, rfl, rfl, by kernel_rfl⟩
theorem k_mem_Mem_Load : FnOk PR cutsOf F_mem_Mem_Load Try.f60 C_mem_Mem_Load T_mem_Mem_Load 3 := ⟨Try.func60, ⟨_, rfl⟩, by kernel_rfl, rfl, rfl, by kernel_rfl⟩
theorem k_mem_Mem_Store : FnOk PR cutsOf F_mem_Mem_Store Try.f61 C_mem_Mem_Store T_mem_Mem_Store 3 := ⟨Try.func61, ⟨_, rfl⟩, by kernel_rfl, rfl, rfl, by kernel_rfl⟩
theorem k_quota_Quota_is : FnOk PR cutsOf F_quota_Quota_is Try.f64 C_quota_Quota_is T_quota_Quota_is 2 := ⟨Try.func64, ⟨_, rfl⟩, by kernel_rfl, rfl, rfl, by kernel_rfl⟩
theorem k_quota_Quota_Owns : FnOk PR cutsOf F_quota_Quota_Owns Try.f65 C_quota_Quota_Owns T_quota_Quota_Owns 3 := ⟨Try.func65, ⟨_, rfl⟩, by kernel_rfl, rfl, rfl, by kernel_rfl⟩
theorem k_kern_Kern_sect : FnOk PR cutsOf F_kern_Kern_sect Try.f66 C_kern_Kern_sect T_kern_Kern_sect 3 := ⟨Try.func66, ⟨_, rfl⟩, by kernel_rfl, rfl, rfl, by kernel_rfl⟩
theorem k_sect_Sect_Enter : FnOk PR cutsOf F_sect_Sect_Enter Try.f67 C_sect_Sect_Enter T_sect_Sect_Enter 3 := ⟨Try.func67, ⟨_, rfl⟩, by kernel_rfl, rfl, rfl, by kernel_rfl⟩
theorem k_sect_Sect_Leave : FnOk PR cutsOf F_sect_Sect_Leave Try.f68 C_sect_Sect_Leave T_sect_Sect_Leave 3 := ⟨Try.func68, ⟨_, rfl⟩, by kernel_rfl, rfl, rfl, by kernel_rfl⟩
theorem k_mem_Mem_in : FnOk PR cutsOf F_mem_Mem_in Try.f69 C_mem_Mem_in T_mem_Mem_in 3 := ⟨Try.func69, ⟨_, rfl⟩, by kernel_rfl, rfl, rfl, by kernel_rfl⟩
theorem k_slices_Clone_s_byte_byte : FnOk PR cutsOf F_slices_Clone_s_byte_byte Try.f70 C_slices_Clone_s_byte_byte T_slices_Clone_s_byte_byte 1 := ⟨Try.func70, ⟨_, rfl⟩, by kernel_rfl, rfl, rfl, by kernel_rfl⟩
end Go.EQ

namespace Go.EQ
open Go Go.NN Go.Proofs
theorem u_int : type_of% Try.underlying3 := Try.underlying3
theorem u_bool : type_of% Try.underlying4 := Try.underlying4
theorem u_s_int : type_of% Try.underlying23 := Try.underlying23
end Go.EQ

/- PlainArgs returns true whatever plan it is given, and the card ties the two tables that its code names to the program's text. No condition. -/
import Derived.Test.YtocmejnmpmbepaaDoorMd
import Derived.Test.YtocmejnmpmbepaaDoorProg
import Derived.KernelRfl
set_option linter.unusedVariables false
set_option linter.unusedSimpArgs false
set_option linter.unusedSectionVars false
namespace Go.EQ
open Go Go.NN Go.Proofs
noncomputable abbrev PR : Program := Tryd.prog
abbrev F_law23_PlainArgs : FuncId := 3
abbrev F_law23_awake : FuncId := 4
abbrev F_plain_New : FuncId := 5
abbrev F_ref15_PlanOk : FuncId := 6
abbrev F_plain_Run : FuncId := 7
abbrev F_plain_check : FuncId := 8
abbrev F_sect_New : FuncId := 9
abbrev F_plain_unit_bridge : FuncId := 10
abbrev F_plain_Plain_Do : FuncId := 11
abbrev F_plain_check_1 : FuncId := 12
abbrev F_slices_ContainsFunc_s_api_Bridge_api_Bridge : FuncId := 13
abbrev F_plain_in : FuncId := 14
abbrev F_plain_unit_start : FuncId := 15
abbrev F_ring_Put : FuncId := 16
abbrev F_plain_unit_pick : FuncId := 17
abbrev F_plain_unit_idle : FuncId := 18
abbrev F_slices_IndexFunc_s_api_Bridge_api_Bridge : FuncId := 19
abbrev F_plain_unit_lives : FuncId := 20
abbrev F_slices_Clone_s_byte_byte : FuncId := 21
abbrev F_ring_Ok : FuncId := 22
abbrev F_plain_unit_leave : FuncId := 23
abbrev F_sect_Sect_Enter : FuncId := 24
abbrev F_plain_unit_inside : FuncId := 25
abbrev F_plain_unit_blocked : FuncId := 26
abbrev F_plain_unit_signals : FuncId := 27
abbrev F_sect_Sect_Quit : FuncId := 28
abbrev F_ring_Ok_1 : FuncId := 29
abbrev F_sect_Sect_Leave : FuncId := 30
abbrev F_slices_Contains_s_int_int : FuncId := 31
abbrev F_sect_Sect_Holds : FuncId := 32
abbrev F_plain_unit_do : FuncId := 33
abbrev F_sig_Wakes : FuncId := 34
abbrev F_plain_unit_wakes : FuncId := 35
abbrev F_sig_Deliver : FuncId := 36
abbrev F_plain_unit_exit : FuncId := 37
abbrev F_slices_Index_s_int_int : FuncId := 38
abbrev F_slices_Delete_s_int_int : FuncId := 39
abbrev F_slices_Clone_s_int_int : FuncId := 40
abbrev F_plain_unit_descriptors : FuncId := 41
abbrev F_plain_told : FuncId := 42
abbrev F_plain_unit_fork : FuncId := 43
abbrev F_plain_unit_wait : FuncId := 44
abbrev F_plain_unit_kill : FuncId := 45
abbrev F_plain_unit_own : FuncId := 46
abbrev F_plain_unit_group : FuncId := 47
abbrev F_sig_Next : FuncId := 48
abbrev F_plain_unit_open : FuncId := 49
abbrev F_plain_unit_drop : FuncId := 50
abbrev F_plain_unit_pipe : FuncId := 51
abbrev F_plain_unit_read : FuncId := 52
abbrev F_plain_unit_write : FuncId := 53
abbrev F_plain_unit_close : FuncId := 54
abbrev F_plain_unit_dup : FuncId := 55
abbrev F_plain_unit_dup2 : FuncId := 56
abbrev F_plain_unit_never : FuncId := 57
abbrev F_plain_unit_toFront : FuncId := 58
abbrev F_slices_IndexFunc_s_api_Proc_api_Proc : FuncId := 59
abbrev F_plain_unit_fork_1 : FuncId := 60
abbrev F_plain_those : FuncId := 61
abbrev F_plain_unit_wait_1 : FuncId := 62
abbrev F_plain_unit_kill_1 : FuncId := 63
abbrev F_sig_Raise : FuncId := 64
abbrev F_sig_Mask : FuncId := 65
abbrev F_sig_Handle : FuncId := 66
abbrev F_plain_unit_has : FuncId := 67
abbrev F_math_bits_TrailingZeros : FuncId := 68
abbrev F_plain_unit_fds : FuncId := 69
abbrev F_slices_Index_s_api_Pipe_api_Pipe : FuncId := 70
abbrev F_plain_waits : FuncId := 71
abbrev F_ring_Take : FuncId := 72
abbrev F_sig_is : FuncId := 73
abbrev F_plain_unit_has_1 : FuncId := 74
abbrev F_math_bits_TrailingZeros64 : FuncId := 76
abbrev F_plain_unit_fds_1 : FuncId := 77
abbrev F_ring_Bytes : FuncId := 78
abbrev F_slices_Clip_s_byte_byte : FuncId := 79
abbrev Y_int : TypeId := 3
abbrev Y_bool : TypeId := 4
abbrev Y_uint8 : TypeId := 5
abbrev Y_s_bool : TypeId := 22
abbrev Y_s_api_Bridge : TypeId := 23
abbrev Y_api_Plan : TypeId := 25
abbrev Y_api_Sys : TypeId := 37
abbrev Y_api_Step : TypeId := 41
abbrev Y_api_Out : TypeId := 44
abbrev Y_plain_Plain : TypeId := 47
abbrev Y_p_plain_unit : TypeId := 48
abbrev Y_p_api_Pipe : TypeId := 52
abbrev Y_api_Pipe : TypeId := 55
abbrev Y_api_Proc : TypeId := 58
abbrev Y_api_File : TypeId := 61
abbrev Y_plain_unit : TypeId := 67
abbrev Y_api_Bridge : TypeId := 69
abbrev Y_sect_Sect : TypeId := 77
abbrev Y_api_Ret : TypeId := 98
abbrev Y_12_int : TypeId := 127
end Go.EQ

set_option maxRecDepth 100000
set_option linter.unusedVariables false
namespace Go.EQ
open Go Go.NN Go.Proofs
def C_law23_PlainArgs : Cuts := { globs := 0, loops := [], regs := [], plans := [] }
noncomputable def T_law23_PlainArgs : List Item := bodyOf Tryd.f3
theorem e_law23_PlainArgs (call : CallFn) (run : RunFn) (p : List Value) (h : H) :
  exec PR C_law23_PlainArgs call run F_law23_PlainArgs Tryd.f3 100000 true T_law23_PlainArgs [(0, .agg ⟨p⟩)] h =
  nw (.cells Y_api_Plan false p) h fun b hv => gSl (Addr.add ⟨b, 0, none⟩ 0) hv fun _ xn _ => bnd (cond (decide (((xn : Nat) : Int) > 20)) (some (true, hv)) (gSl (Addr.add ⟨b, 0, none⟩ 1) hv fun _ xn_1 _ => some (decide (((xn_1 : Nat) : Int) > 20), hv))) fun c hv_1 => cond c
  (bnd (call F_law23_awake [] hv_1) fun r hv_2 => aBool r fun x_2 => some (.bool x_2, hv_2))
  (gAgg ⟨b, 0, none⟩ 3 hv_1 fun x_3 => bnd (call F_plain_New [.agg ⟨x_3⟩] hv_1) fun r_1 hv_3 => as2 r_1 fun r_2 r_3 => aPtr r_2 fun x_4 => aInt .i64 r_3 fun x_5 => gAgg ⟨b, 0, none⟩ 3 hv_3 fun x_6 => bnd (call F_ref15_PlanOk [.agg ⟨x_6⟩] hv_3) fun r_4 hv_4 => aBool r_4 fun x_7 => bnd (cond ((!x_4.isNone) == x_7) (some ((x_5 == 0) == x_7, hv_4)) (some (false, hv_4))) fun c_1 hv_5 => bnd (cond c_1 (bnd (cond x_7 (some (true, hv_5)) (some (x_5 == 1, hv_5))) fun c_2 hv_6 => some (c_2, hv_6)) (some (false, hv_5))) fun c_3 hv_7 => bnd (cond c_3 (bnd (call F_law23_awake [] hv_7) fun r_5 hv_8 => aBool r_5 fun x_8 => some (x_8, hv_8)) (some (false, hv_7))) fun c_4 hv_9 => some (.bool c_4, hv_9)) := by kernel_rfl
def C_plain_New : Cuts := { globs := 0, loops := [(5, [1, 4, 16, 17]), (13, [4, 55, 56, 57])], regs := [], plans := [(6, ⟨[0, 1, 3, 4, 5, 2, 6, 7, 8], [0, 1, 3, 0, 0, 16, 63, 127, 255], [], []⟩), (16, ⟨[0, 1, 2, 3, 4, 5, 6, 7, 8, 9], [0, 1, 3, 7, 0, 16, 63, 127, 0, 511], [], []⟩), (17, ⟨[0, 1, 2, 3, 4, 5, 6, 7, 8, 9], [0, 1, 3, 7, 0, 16, 63, 127, 0, 511], [], []⟩)] }
noncomputable def T_plain_New : List Item := bodyOf Tryd.f5
noncomputable def T_plain_New_L1 : List Item := stk [0, 1, 0, 1, 0, 1, 0, 0, 1, 4, 5] T_plain_New
noncomputable def T_plain_New_L2 : List Item := stk [0, 1, 0, 1, 0, 1, 0, 1, 0, 0, 1, 4, 5] T_plain_New
theorem e_plain_New (call : CallFn) (run : RunFn) (p : List Value) (h : H) :
  exec PR C_plain_New call run F_plain_New Tryd.f5 100000 true T_plain_New [(0, .agg ⟨p⟩)] h =
  nw (.cells Y_api_Plan false p) h fun b hv => gAgg ⟨b, 0, none⟩ 3 hv fun x => bnd (call F_plain_check [.agg ⟨x⟩] hv) fun r hv_1 => aBool r fun x_1 => cond (!x_1)
  (some (.tuple ⟨[.pointer none, .int .i64 1]⟩, hv_1))
  (nw (.cells Y_plain_Plain false [.slice none 0 0, .int .i64 0]) hv_1 fun b_1 hv_2 => gSl (Addr.add ⟨b, 0, none⟩ 0) hv_2 fun _ xn _ => run F_plain_New T_plain_New_L1 [(1, .pointer (some ⟨b, 0, none⟩)), (4, .pointer (some ⟨b_1, 0, none⟩)), (16, .int .i64 ((xn : Nat) : Int)), (17, .int .i64 0)] hv_2) := by kernel_rfl
theorem e_plain_New_L1 (call : CallFn) (run : RunFn) (p : Addr) (u : Addr) (x16 : Int) (x17 : Int) (h : H) :
  exec PR C_plain_New call run F_plain_New Tryd.f5 100000 true T_plain_New_L1 [(1, .pointer (some p)), (4, .pointer (some u)), (16, .int .i64 x16), (17, .int .i64 x17)] h =
  cond (decide (x17 < x16))
  (gInt .i64 (Addr.add p 2) h fun x => ck ((0 : Int) ≤ 4 ∧ (4 : Int) ≤ 4 ∧ 4 ≤ (most : Int)) (nw (.cells Y_p_api_Pipe false (manyN (Int.toNat 4) [.pointer none])) h fun b hv => nw (.cells Y_api_Pipe false [.int .i64 0, .int .i64 0, .int .i64 1, .int .i64 1, .int .u8 0, .int .u8 0, .int .u8 0, .int .u8 0, .int .u8 0, .int .u8 0, .int .u8 0, .int .u8 0, .int .u8 0, .int .u8 0, .int .u8 0, .int .u8 0, .int .u8 0, .int .u8 0, .int .u8 0, .int .u8 0, .int .u8 0, .int .u8 0, .int .u8 0, .int .u8 0, .int .u8 0, .int .u8 0, .int .u8 0, .int .u8 0, .int .u8 0, .int .u8 0, .int .u8 0, .int .u8 0, .int .u8 0, .int .u8 0, .int .u8 0, .int .u8 0]) hv fun b_1 hv_1 => bnd (call F_sect_New [.int .i64 x] hv_1) fun r hv_2 => aPtr r fun x_1 => nw (.cells Y_plain_unit false [.int .i64 0, .int .i64 0, .int .i64 0, .int .i64 0, .int .i64 0, .int .i64 0, .int .i64 0, .int .i64 0, .int .i64 0, .int .i64 0, .int .i64 0, .int .i64 0, .int .i64 0, .int .i64 0, .int .i64 0, .int .i64 0, .int .i64 0, .int .i64 0, .int .i64 0, .int .i64 0, .int .i64 0, .int .i64 0, .int .i64 0, .int .i64 0, .int .i64 0, .int .i64 0, .int .i64 0, .int .i64 0, .int .i64 0, .int .i64 0, .int .i64 0, .int .i64 0, .int .i64 0, .int .i64 0, .int .i64 0, .int .i64 0, .int .i64 0, .int .i64 0, .int .i64 0, .int .i64 0, .int .i64 0, .int .i64 0, .int .i64 0, .int .i64 0, .int .i64 0, .int .i64 0, .int .i64 0, .int .i64 0, .int .i64 0, .int .i64 0, .int .i64 0, .int .i64 0, .int .i64 0, .int .i64 0, .int .i64 0, .int .i64 0, .int .i64 0, .int .i64 0, .int .i64 0, .int .i64 0, .int .i64 0, .int .i64 0, .int .i64 0, .int .i64 0, .int .i64 0, .int .i64 0, .int .i64 0, .int .i64 0, .int .i64 0, .int .i64 0, .int .i64 0, .int .i64 0, .int .i64 0, .int .i64 0, .int .i64 0, .int .i64 0, .int .i64 0, .int .i64 0, .int .i64 0, .int .i64 0, .int .i64 0, .int .i64 0, .int .i64 0, .int .i64 0, .int .i64 0, .int .i64 0, .int .i64 0, .int .i64 0, .int .i64 0, .int .i64 0, .int .i64 0, .int .i64 0, .int .i64 0, .int .i64 0, .int .i64 0, .int .i64 0, .int .i64 0, .int .i64 0, .int .i64 0, .int .i64 0, .int .i64 0, .int .i64 0, .int .i64 0, .int .i64 0, .int .i64 0, .int .i64 0, .int .i64 0, .int .i64 0, .int .i64 0, .int .i64 0, .int .i64 0, .int .i64 0, .int .i64 0, .int .i64 0, .int .i64 0, .int .i64 0, .int .i64 0, .int .i64 0, .int .i64 0, .int .i64 0, .int .i64 0, .int .i64 0, .int .i64 0, .int .i64 0, .int .i64 0, .int .i64 0, .int .i64 0, .int .i64 0, .int .i64 0, .int .i64 0, .int .i64 0, .int .i64 0, .int .i64 0, .int .i64 0, .int .i64 0, .int .i64 0, .int .i64 0, .int .i64 0, .int .i64 0, .int .i64 0, .int .i64 0, .int .i64 0, .int .i64 0, .int .i64 0, .int .i64 0, .int .i64 0, .int .i64 0, .int .i64 0, .int .i64 0, .int .i64 0, .int .i64 0, .int .i64 0, .int .i64 0, .int .i64 0, .int .i64 0, .int .i64 0, .int .i64 0, .int .i64 0, .int .i64 0, .int .i64 0, .int .i64 0, .int .i64 0, .int .i64 0, .int .i64 0, .int .i64 0, .int .i64 0, .int .i64 0, .int .i64 0, .int .i64 0, .int .i64 0, .int .i64 0, .int .i64 0, .int .i64 0, .int .i64 0, .int .i64 0, .int .i64 0, .slice (some ⟨b, 0, none⟩) (Int.toNat 4) (Int.toNat 4), .pointer (some ⟨b_1, 0, none⟩), .int .i64 0, .pointer x_1, .int .i64 0, .int .i64 0, .int .i64 0, .int .i64 0, .int .i64 0, .slice none 0 0, .int .i64 0, .int .i64 0, .int .i64 0, .int .i64 0, .int .i64 0, .slice none 0 0, .int .i64 0, .int .i64 0, .int .i64 0, .int .i64 0, .int .i64 0, .slice none 0 0, .int .i64 0, .int .i64 0, .int .i64 0, .int .i64 0, .int .i64 0, .slice none 0 0, .int .i64 0, .int .i64 0, .int .i64 0, .int .i64 0, .int .i64 0, .slice none 0 0, .int .i64 0, .int .i64 0, .int .i64 0, .int .i64 0, .int .i64 0, .slice none 0 0, .int .i64 0, .int .i64 0, .int .i64 0, .int .i64 0, .int .i64 0, .slice none 0 0, .int .i64 0, .int .i64 0, .int .i64 0, .int .i64 0, .int .i64 0, .slice none 0 0]) hv_2 fun b_2 hv_3 => ck ((0 : Int) ≤ 0 ∧ 0 < ((8 : Nat) : Int)) (pAgg (Addr.add (Addr.add ⟨b_2, 0, none⟩ 0) (Int.toNat 0 * 16)) [.int .i64 1, .int .i64 0, .int .i64 0, .int .i64 0, .int .i64 0, .int .i64 0, .int .i64 0, .int .i64 0, .int .i64 0, .int .i64 0, .int .i64 0, .int .i64 0, .int .i64 0, .int .i64 0, .int .i64 0, .int .i64 0] hv_3 fun hv_4 => ck ((0 : Int) ≤ 0 ∧ 0 < ((8 : Nat) : Int)) (ck ((0 : Int) ≤ 0 ∧ 0 < ((8 : Nat) : Int)) (pV (Addr.add (Addr.add (Addr.add (Addr.add ⟨b_2, 0, none⟩ 0) (Int.toNat 0 * 16)) 8) (Int.toNat 0 * 1)) (.int .i64 1) hv_4 fun hv_5 => ck ((0 : Int) ≤ 0 ∧ 0 < ((12 : Nat) : Int)) (pAgg (Addr.add (Addr.add ⟨b_2, 0, none⟩ 128) (Int.toNat 0 * 4)) [.int .i64 3, .int .i64 0, .int .i64 1, .int .i64 0] hv_5 fun hv_6 => gSl (Addr.add u 0) hv_6 fun x_2 xn xc => nw (.cells Y_p_plain_unit false [.pointer (some ⟨b_2, 0, none⟩)]) hv_6 fun b_3 hv_7 => gCells (some ⟨b_3, 0, none⟩) (1 * 1) hv_7 fun cs => ckB (fitsOpen x_2 Y_p_plain_unit hv_7) (apd Y_p_plain_unit 1 x_2 xn xc 1 cs hv_7 fun a an ac hv_8 => pV (Addr.add u 0) (.slice a an ac) hv_8 fun hv_9 => run F_plain_New T_plain_New_L1 [(1, .pointer (some p)), (4, .pointer (some u)), (16, .int .i64 x16), (17, .int .i64 (IntKind.wrap .i64 (x17 + 1)))] hv_9)))))))
  (gSl (Addr.add p 1) h fun x_3 xn_1 xc_1 => run F_plain_New T_plain_New_L2 [(4, .pointer (some u)), (55, .slice x_3 xn_1 xc_1), (56, .int .i64 ((xn_1 : Nat) : Int)), (57, .int .i64 0)] h) := by kernel_rfl
theorem e_plain_New_L2 (call : CallFn) (run : RunFn) (u : Addr) (x55 : Option Addr) (x55n x55c : Nat) (x56 : Int) (x57 : Int) (h : H) :
  exec PR C_plain_New call run F_plain_New Tryd.f5 100000 true T_plain_New_L2 [(4, .pointer (some u)), (55, .slice x55 x55n x55c), (56, .int .i64 x56), (57, .int .i64 x57)] h =
  cond (decide (x57 < x56))
  (aSome x55 fun p => ck ((0 : Int) ≤ x57 ∧ x57 < ((x55n : Nat) : Int)) (gAgg (Addr.add (bare p) (Int.toNat x57 * 2)) 2 h fun x => nw (.cells Y_api_Bridge false [.int .i64 0, .int .i64 0]) h fun b hv => ck (List.length x = 2) (pAgg ⟨b, 0, none⟩ x hv fun hv_1 => nw (.cells Y_api_Pipe false [.int .i64 0, .int .i64 0, .int .i64 1, .int .i64 1, .int .u8 0, .int .u8 0, .int .u8 0, .int .u8 0, .int .u8 0, .int .u8 0, .int .u8 0, .int .u8 0, .int .u8 0, .int .u8 0, .int .u8 0, .int .u8 0, .int .u8 0, .int .u8 0, .int .u8 0, .int .u8 0, .int .u8 0, .int .u8 0, .int .u8 0, .int .u8 0, .int .u8 0, .int .u8 0, .int .u8 0, .int .u8 0, .int .u8 0, .int .u8 0, .int .u8 0, .int .u8 0, .int .u8 0, .int .u8 0, .int .u8 0, .int .u8 0]) hv_1 fun b_1 hv_2 => gSl (Addr.add u 0) hv_2 fun x_1 xn _ => gInt .i64 (Addr.add ⟨b, 0, none⟩ 0) hv_2 fun x_2 => aSome x_1 fun p_1 => ck ((0 : Int) ≤ x_2 ∧ x_2 < ((xn : Nat) : Int)) (gPtr (Addr.add (bare p_1) (Int.toNat x_2 * 1)) hv_2 fun x_3 => bnd (call F_plain_unit_bridge [.pointer x_3, .int .i64 2, .pointer (some ⟨b_1, 0, none⟩)] hv_2) fun r hv_3 => as0 r (gSl (Addr.add u 0) hv_3 fun x_4 xn_1 _ => gInt .i64 (Addr.add ⟨b, 0, none⟩ 1) hv_3 fun x_5 => aSome x_4 fun p_2 => ck ((0 : Int) ≤ x_5 ∧ x_5 < ((xn_1 : Nat) : Int)) (gPtr (Addr.add (bare p_2) (Int.toNat x_5 * 1)) hv_3 fun x_6 => bnd (call F_plain_unit_bridge [.pointer x_6, .int .i64 1, .pointer (some ⟨b_1, 0, none⟩)] hv_3) fun r_1 hv_4 => as0 r_1 (run F_plain_New T_plain_New_L2 [(4, .pointer (some u)), (55, .slice x55 x55n x55c), (56, .int .i64 x56), (57, .int .i64 (IntKind.wrap .i64 (x57 + 1)))] hv_4)))))))
  (some (.tuple ⟨[.pointer (some u), .int .i64 0]⟩, h)) := by kernel_rfl
def C_ref15_PlanOk : Cuts := { globs := 0, loops := [(4, [1, 3])], regs := [], plans := [] }
noncomputable def T_ref15_PlanOk : List Item := bodyOf Tryd.f6
noncomputable def T_ref15_PlanOk_L1 : List Item := stk [0, 1, 0, 1, 0, 0, 1, 4, 5] T_ref15_PlanOk
theorem e_ref15_PlanOk (call : CallFn) (run : RunFn) (p : List Value) (h : H) :
  exec PR C_ref15_PlanOk call run F_ref15_PlanOk Tryd.f6 100000 true T_ref15_PlanOk [(0, .agg ⟨p⟩)] h =
  nw (.cells Y_api_Plan false p) h fun b hv => gSl (Addr.add ⟨b, 0, none⟩ 0) hv fun _ xn _ => bnd (cond (decide (((xn : Nat) : Int) < 1)) (some (true, hv)) (gSl (Addr.add ⟨b, 0, none⟩ 0) hv fun _ xn_1 _ => some (decide (((xn_1 : Nat) : Int) > 4), hv))) fun c hv_1 => bnd (cond c (some (true, hv_1)) (gSl (Addr.add ⟨b, 0, none⟩ 1) hv_1 fun _ xn_2 _ => some (decide (((xn_2 : Nat) : Int) > 4), hv_1))) fun c_1 hv_2 => bnd (cond c_1 (some (true, hv_2)) (gInt .i64 (Addr.add ⟨b, 0, none⟩ 2) hv_2 fun x_3 => some (decide (x_3 < 1), hv_2))) fun c_2 hv_3 => bnd (cond c_2 (some (true, hv_3)) (gInt .i64 (Addr.add ⟨b, 0, none⟩ 2) hv_3 fun x_4 => some (decide (x_4 > 1000), hv_3))) fun c_3 hv_4 => cond c_3
  (some (.bool false, hv_4))
  (run F_ref15_PlanOk T_ref15_PlanOk_L1 [(1, .pointer (some ⟨b, 0, none⟩)), (3, .int .i64 0)] hv_4) := by kernel_rfl
theorem e_ref15_PlanOk_L1 (call : CallFn) (run : RunFn) (p : Addr) (i : Int) (h : H) :
  exec PR C_ref15_PlanOk call run F_ref15_PlanOk Tryd.f6 100000 true T_ref15_PlanOk_L1 [(1, .pointer (some p)), (3, .int .i64 i)] h =
  gSl (Addr.add p 1) h fun _ xn _ => cond (decide (i < ((xn : Nat) : Int)))
  (gSl (Addr.add p 1) h fun x_1 xn_1 _ => aSome x_1 fun p_1 => ck ((0 : Int) ≤ i ∧ i < ((xn_1 : Nat) : Int)) (gAgg (Addr.add (bare p_1) (Int.toNat i * 2)) 2 h fun x_2 => nw (.cells Y_api_Bridge false [.int .i64 0, .int .i64 0]) h fun b hv => ck (List.length x_2 = 2) (pAgg ⟨b, 0, none⟩ x_2 hv fun hv_1 => gInt .i64 (Addr.add ⟨b, 0, none⟩ 0) hv_1 fun x_3 => bnd (cond (decide (x_3 < 0)) (some (true, hv_1)) (gInt .i64 (Addr.add ⟨b, 0, none⟩ 0) hv_1 fun x_4 => gSl (Addr.add p 0) hv_1 fun _ xn_2 _ => some (decide (x_4 ≥ ((xn_2 : Nat) : Int)), hv_1))) fun c hv_2 => bnd (cond c (some (true, hv_2)) (gInt .i64 (Addr.add ⟨b, 0, none⟩ 1) hv_2 fun x_6 => some (decide (x_6 < 0), hv_2))) fun c_1 hv_3 => bnd (cond c_1 (some (true, hv_3)) (gInt .i64 (Addr.add ⟨b, 0, none⟩ 1) hv_3 fun x_7 => gSl (Addr.add p 0) hv_3 fun _ xn_3 _ => some (decide (x_7 ≥ ((xn_3 : Nat) : Int)), hv_3))) fun c_2 hv_4 => bnd (cond c_2 (some (true, hv_4)) (gInt .i64 (Addr.add ⟨b, 0, none⟩ 0) hv_4 fun x_9 => gInt .i64 (Addr.add ⟨b, 0, none⟩ 1) hv_4 fun x_10 => some (x_9 == x_10, hv_4))) fun c_3 hv_5 => cond c_3
  (some (.bool false, hv_5))
  (run F_ref15_PlanOk T_ref15_PlanOk_L1 [(1, .pointer (some p)), (3, .int .i64 (IntKind.wrap .i64 (i + 1)))] hv_5))))
  (some (.bool true, h)) := by kernel_rfl
def C_plain_Run : Cuts := { globs := 0, loops := [(6, [6, 8, 21, 22, 23])], regs := [], plans := [] }
noncomputable def T_plain_Run : List Item := bodyOf Tryd.f7
noncomputable def T_plain_Run_L1 : List Item := stk [0, 1, 0, 1, 0, 1, 0, 1, 0, 0, 1, 4, 5] T_plain_Run
def C_plain_unit_idle : Cuts := { globs := 0, loops := [], regs := [], plans := [] }
noncomputable def T_plain_unit_idle : List Item := bodyOf Tryd.f18
def C_plain_unit_lives : Cuts := { globs := 0, loops := [], regs := [], plans := [] }
noncomputable def T_plain_unit_lives : List Item := bodyOf Tryd.f20
def C_plain_unit_inside : Cuts := { globs := 0, loops := [], regs := [], plans := [(2, ⟨[0, 1, 2, 3, 4, 5, 6, 7, 8, 9, 10], [0, 1, 3, 7, 0, 0, 32, 96, 224, 511, 1023], [], []⟩), (10, ⟨[0, 1, 2, 3, 4, 5, 6, 7, 8, 9, 10, 11, 12, 13], [0, 0, 2, 6, 14, 0, 32, 0, 128, 0, 512, 2047, 0, 8191], [], []⟩)] }
noncomputable def T_plain_unit_inside : List Item := bodyOf Tryd.f25
def C_slices_Contains_s_int_int : Cuts := { globs := 0, loops := [], regs := [], plans := [] }
noncomputable def T_slices_Contains_s_int_int : List Item := bodyOf Tryd.f31
def C_sect_Sect_Holds : Cuts := { globs := 0, loops := [], regs := [], plans := [] }
noncomputable def T_sect_Sect_Holds : List Item := bodyOf Tryd.f32
def C_plain_unit_wakes : Cuts := { globs := 0, loops := [], regs := [], plans := [(8, ⟨[0, 1, 2, 3, 4, 5, 6, 7, 8, 9, 10], [0, 1, 3, 7, 0, 16, 48, 112, 255, 511, 1023], [], []⟩)] }
noncomputable def T_plain_unit_wakes : List Item := bodyOf Tryd.f35
def C_plain_unit_exit : Cuts := { globs := 0, loops := [(2, [0, 1, 2, 6, 19, 20]), (9, [0, 1, 2, 6, 34])], regs := [], plans := [] }
noncomputable def T_plain_unit_exit : List Item := bodyOf Tryd.f37
noncomputable def T_plain_unit_exit_L1 : List Item := stk [0, 1, 0, 0, 1, 4, 5] T_plain_unit_exit
noncomputable def T_plain_unit_exit_L2 : List Item := stk [0, 1, 0, 1, 0, 1, 0, 0, 1, 4, 5] T_plain_unit_exit
def C_plain_unit_group : Cuts := { globs := 0, loops := [], regs := [], plans := [] }
noncomputable def T_plain_unit_group : List Item := bodyOf Tryd.f47
def C_plain_unit_drop : Cuts := { globs := 0, loops := [], regs := [(10, [0, 5, 6])], plans := [(6, ⟨[0, 1, 2, 3, 4, 5, 6, 7, 8], [0, 1, 3, 7, 0, 16, 63, 127, 255], [], []⟩), (10, ⟨[0, 1, 2, 3, 4, 5, 6, 7, 8, 9, 10, 11, 12, 13, 14], [0, 1, 3, 7, 0, 16, 48, 112, 255, 511, 1023, 2047, 4095, 8191, 16383], [], []⟩), (11, ⟨[0, 1, 2, 3, 4, 5, 6, 7], [0, 1, 3, 7, 0, 16, 63, 127], [], []⟩)] }
noncomputable def T_plain_unit_drop : List Item := bodyOf Tryd.f50
noncomputable def T_plain_unit_drop_R1 : List Item := stk [0, 1, 0, 1, 0, 1, 0, 1, 0, 1, 0, 1, 0, 1, 0] T_plain_unit_drop
def C_plain_unit_dup : Cuts := { globs := 0, loops := [], regs := [], plans := [(9, ⟨[0, 1, 2, 3, 4, 5, 6, 7, 8, 9, 10, 11, 12, 13, 14, 15, 16, 17, 18, 19], [0, 0, 0, 4, 12, 0, 0, 0, 32, 288, 864, 1888, 4064, 8160, 1, 16385, 49155, 114691, 262143, 524287], [], []⟩)] }
noncomputable def T_plain_unit_dup : List Item := bodyOf Tryd.f55
def C_slices_IndexFunc_s_api_Proc_api_Proc : Cuts := { globs := 0, loops := [(2, [0, 1, 7, 8])], regs := [], plans := [] }
noncomputable def T_slices_IndexFunc_s_api_Proc_api_Proc : List Item := bodyOf Tryd.f59
noncomputable def T_slices_IndexFunc_s_api_Proc_api_Proc_L1 : List Item := stk [0, 1, 0, 0, 1, 4, 5] T_slices_IndexFunc_s_api_Proc_api_Proc
def C_plain_unit_wait_1 : Cuts := { globs := 0, loops := [], regs := [], plans := [(1, ⟨[0, 1, 2, 3, 4, 5, 6, 7, 8, 9, 10, 11, 12, 13, 14, 15, 16, 17, 18, 19, 20], [0, 0, 1, 5, 15, 31, 63, 127, 255, 511, 511, 1023, 3071, 8191, 16383, 32767, 511, 66047, 262143, 524287, 1048575], [], []⟩)] }
noncomputable def T_plain_unit_wait_1 : List Item := bodyOf Tryd.f62
def C_math_bits_TrailingZeros : Cuts := { globs := 0, loops := [], regs := [], plans := [] }
noncomputable def T_math_bits_TrailingZeros : List Item := bodyOf Tryd.f68
def C_plain_waits : Cuts := { globs := 0, loops := [], regs := [], plans := [] }
noncomputable def T_plain_waits : List Item := bodyOf Tryd.f71
def C_sig_is : Cuts := { globs := 0, loops := [], regs := [], plans := [] }
noncomputable def T_sig_is : List Item := bodyOf Tryd.f73
end Go.EQ

set_option maxRecDepth 100000
set_option linter.unusedVariables false
namespace Go.EQ
open Go Go.NN Go.Proofs
def C_law23_awake : Cuts := { globs := 0, loops := [], regs := [], plans := [] }
noncomputable def T_law23_awake : List Item := bodyOf Tryd.f4
def C_plain_check : Cuts := { globs := 0, loops := [], regs := [], plans := [] }
noncomputable def T_plain_check : List Item := bodyOf Tryd.f8
theorem e_plain_check (call : CallFn) (run : RunFn) (p : List Value) (h : H) :
  exec PR C_plain_check call run F_plain_check Tryd.f8 100000 true T_plain_check [(0, .agg ⟨p⟩)] h =
  nw (.cells Y_api_Plan false p) h fun b hv => gSl (Addr.add ⟨b, 0, none⟩ 0) hv fun _ xn _ => nw (.cells Y_int false [.int .i64 0]) hv fun b_1 hv_1 => pV ⟨b_1, 0, none⟩ (.int .i64 ((xn : Nat) : Int)) hv_1 fun hv_2 => gInt .i64 ⟨b_1, 0, none⟩ hv_2 fun x_1 => bnd (cond (decide (x_1 ≥ 1)) (gInt .i64 ⟨b_1, 0, none⟩ hv_2 fun x_2 => some (decide (x_2 ≤ 4), hv_2)) (some (false, hv_2))) fun c hv_3 => bnd (cond c (gSl (Addr.add ⟨b, 0, none⟩ 1) hv_3 fun _ xn_1 _ => some (decide (((xn_1 : Nat) : Int) ≤ 4), hv_3)) (some (false, hv_3))) fun c_1 hv_4 => bnd (cond c_1 (gInt .i64 (Addr.add ⟨b, 0, none⟩ 2) hv_4 fun x_4 => some (decide (x_4 ≥ 1), hv_4)) (some (false, hv_4))) fun c_2 hv_5 => bnd (cond c_2 (gInt .i64 (Addr.add ⟨b, 0, none⟩ 2) hv_5 fun x_5 => some (decide (x_5 ≤ 1000), hv_5)) (some (false, hv_5))) fun c_3 hv_6 => bnd (cond c_3 (gSl (Addr.add ⟨b, 0, none⟩ 1) hv_6 fun x_6 xn_2 xc_2 => bnd (call F_slices_ContainsFunc_s_api_Bridge_api_Bridge [.slice x_6 xn_2 xc_2, .func (.func F_plain_check_1) ⟨[]⟩ ⟨[.pointer (some ⟨b_1, 0, none⟩)]⟩] hv_6) fun r hv_7 => aBool r fun x_7 => some (!x_7, hv_7)) (some (false, hv_6))) fun c_4 hv_8 => some (.bool c_4, hv_8) := by kernel_rfl
def C_sect_New : Cuts := { globs := 0, loops := [], regs := [], plans := [] }
noncomputable def T_sect_New : List Item := bodyOf Tryd.f9
theorem e_sect_New (call : CallFn) (run : RunFn) (lease : Int) (h : H) :
  exec PR C_sect_New call run F_sect_New Tryd.f9 100000 true T_sect_New [(0, .int .i64 lease)] h =
  nw (.cells Y_sect_Sect false [.int .i64 (mm2 false (mm2 true lease 1) 1000), .bool false, .int .i64 0, .int .i64 0, .int .i64 0, .slice none 0 0, .int .i64 0, .int .i64 0, .int .i64 0]) h fun b hv => some (.pointer (some ⟨b, 0, none⟩), hv) := by kernel_rfl
def C_slices_ContainsFunc_s_api_Bridge_api_Bridge : Cuts := { globs := 0, loops := [], regs := [], plans := [] }
noncomputable def T_slices_ContainsFunc_s_api_Bridge_api_Bridge : List Item := bodyOf Tryd.f13
theorem e_slices_ContainsFunc_s_api_Bridge_api_Bridge (call : CallFn) (run : RunFn) (s : Option Addr) (sn sc : Nat) (f : Value) (h : H) :
  exec PR C_slices_ContainsFunc_s_api_Bridge_api_Bridge call run F_slices_ContainsFunc_s_api_Bridge_api_Bridge Tryd.f13 100000 true T_slices_ContainsFunc_s_api_Bridge_api_Bridge [(0, .slice s sn sc), (1, f)] h =
  bnd (call F_slices_IndexFunc_s_api_Bridge_api_Bridge [.slice s sn sc, f] h) fun r hv => aInt .i64 r fun x => some (.bool (decide (x ≥ 0)), hv) := by kernel_rfl
def C_plain_in : Cuts := { globs := 0, loops := [], regs := [], plans := [] }
noncomputable def T_plain_in : List Item := bodyOf Tryd.f14
def C_plain_unit_start : Cuts := { globs := 0, loops := [], regs := [], plans := [(3, ⟨[0, 1, 2, 3, 4, 5, 6, 7], [0, 0, 0, 4, 1, 17, 63, 127], [], []⟩)] }
noncomputable def T_plain_unit_start : List Item := bodyOf Tryd.f15
def C_plain_unit_pick : Cuts := { globs := 0, loops := [], regs := [(8, [8]), (14, [8])], plans := [] }
noncomputable def T_plain_unit_pick : List Item := bodyOf Tryd.f17
noncomputable def T_plain_unit_pick_R1 : List Item := stk [0, 1, 0, 1, 0, 4, 0, 1, 3, 0, 1, 2, 0, 1, 0] T_plain_unit_pick
noncomputable def T_plain_unit_pick_R2 : List Item := stk [0, 1, 0, 1, 0, 1, 0, 0, 1, 4, 0, 1, 2, 0, 1, 0] T_plain_unit_pick
def C_plain_unit_leave : Cuts := { globs := 0, loops := [], regs := [], plans := [(0, ⟨[0, 1, 2, 3, 4, 5, 6, 7, 8, 9, 10, 11, 12], [0, 1, 3, 7, 0, 0, 0, 32, 160, 480, 992, 2016, 4095], [], []⟩)] }
noncomputable def T_plain_unit_leave : List Item := bodyOf Tryd.f23
def C_sect_Sect_Enter : Cuts := { globs := 0, loops := [(18, [0, 1, 2])], regs := [(10, [0, 1, 2]), (11, [0, 1, 2]), (14, [0, 1, 2]), (17, [])], plans := [(11, ⟨[0, 1, 2, 3, 4, 5, 6, 7, 8, 9, 10, 11, 12, 13, 14, 15, 16], [0, 1, 3, 7, 15, 31, 31, 95, 223, 479, 1023, 31, 2079, 6175, 14367, 32767, 65535], [], []⟩), (18, ⟨[0, 1, 2, 3, 4, 5, 6, 7, 8, 9, 10, 11, 12, 13, 14, 15, 16, 17, 18, 19, 20], [0, 1, 3, 7, 15, 31, 0, 127, 255, 511, 511, 1535, 3583, 7679, 16383, 511, 33279, 98815, 229887, 524287, 1048575], [], []⟩)] }
noncomputable def T_sect_Sect_Enter : List Item := bodyOf Tryd.f24
noncomputable def T_sect_Sect_Enter_R1 : List Item := stk [0, 1, 0, 1, 0, 1, 0, 1, 0, 1, 0, 0, 1, 2, 0, 1] T_sect_Sect_Enter
noncomputable def T_sect_Sect_Enter_R2 : List Item := stk [0, 1, 0, 1, 0, 1, 0, 1, 0, 1, 0, 1, 0, 0] T_sect_Sect_Enter
noncomputable def T_sect_Sect_Enter_R3 : List Item := stk [0, 1, 0, 1, 0, 1, 0, 1, 0, 1, 0, 1, 0, 1, 0, 0] T_sect_Sect_Enter
noncomputable def T_sect_Sect_Enter_R4 : List Item := stk [0, 1, 0, 1, 0, 1, 0, 1, 0, 1, 0, 1, 0, 1, 0, 0, 1, 2, 0, 1, 0] T_sect_Sect_Enter
noncomputable def T_sect_Sect_Enter_L1 : List Item := stk [0, 1, 0, 1, 0, 1, 0, 1, 0, 1, 0, 1, 0, 1, 0, 1, 0, 4, 5] T_sect_Sect_Enter
def C_sect_Sect_Leave : Cuts := { globs := 0, loops := [], regs := [], plans := [] }
noncomputable def T_sect_Sect_Leave : List Item := bodyOf Tryd.f30
def C_sig_Wakes : Cuts := { globs := 0, loops := [], regs := [], plans := [] }
noncomputable def T_sig_Wakes : List Item := bodyOf Tryd.f34
def C_plain_unit_kill : Cuts := { globs := 0, loops := [(7, [2, 3, 23, 24, 25])], regs := [], plans := [(9, ⟨[0, 1, 2, 3, 4, 5, 6, 7, 8, 13, 14, 9, 10, 11, 12, 15, 16], [0, 0, 0, 0, 4, 20, 60, 124, 0, 508, 1020, 2044, 2044, 1, 8193, 28671, 61439], [(9, [0])], []⟩)] }
noncomputable def T_plain_unit_kill : List Item := bodyOf Tryd.f45
noncomputable def T_plain_unit_kill_L1 : List Item := stk [0, 1, 0, 1, 0, 1, 0, 1, 0, 0, 1, 4, 5] T_plain_unit_kill
def C_plain_unit_write : Cuts := { globs := 0, loops := [], regs := [], plans := [(8, ⟨[0, 1, 2, 3, 4, 5, 6, 7, 8, 9, 10], [0, 1, 3, 7, 0, 16, 48, 112, 255, 511, 1023], [], []⟩), (10, ⟨[0, 1, 2, 3, 4, 5, 6, 7, 12, 13, 8, 9, 10, 11, 14, 15], [0, 0, 0, 0, 4, 20, 60, 124, 252, 508, 1020, 1020, 1, 4097, 14335, 30719], [], []⟩)] }
noncomputable def T_plain_unit_write : List Item := bodyOf Tryd.f53
def C_plain_unit_dup2 : Cuts := { globs := 0, loops := [], regs := [], plans := [(10, ⟨[0, 1, 2, 3, 4, 5, 6, 7, 8, 9, 10, 11, 12, 13, 14, 15, 16, 17], [0, 0, 0, 0, 0, 0, 8, 72, 216, 472, 1016, 2040, 1, 4097, 12291, 28675, 65535, 131071], [], []⟩)] }
noncomputable def T_plain_unit_dup2 : List Item := bodyOf Tryd.f56
def C_plain_unit_never : Cuts := { globs := 0, loops := [], regs := [], plans := [] }
noncomputable def T_plain_unit_never : List Item := bodyOf Tryd.f57
def C_plain_those : Cuts := { globs := 0, loops := [(3, [0, 3, 5])], regs := [], plans := [] }
noncomputable def T_plain_those : List Item := bodyOf Tryd.f61
noncomputable def T_plain_those_L1 : List Item := stk [0, 1, 0, 1, 0, 0, 1, 4, 5] T_plain_those
def C_sig_Raise : Cuts := { globs := 0, loops := [], regs := [(6, [2, 4, 6]), (8, [2, 4, 6])], plans := [] }
noncomputable def T_sig_Raise : List Item := bodyOf Tryd.f64
noncomputable def T_sig_Raise_R1 : List Item := stk [0, 1, 0, 1, 0, 1, 0, 1, 0, 0] T_sig_Raise
noncomputable def T_sig_Raise_R2 : List Item := stk [0, 1, 0, 1, 0, 1, 0, 1, 0, 1, 0, 0] T_sig_Raise
def C_ring_Take : Cuts := { globs := 0, loops := [], regs := [], plans := [(6, ⟨[0, 1, 2, 3, 4], [0, 0, 2, 7, 15], [(2, [0])], []⟩)] }
noncomputable def T_ring_Take : List Item := bodyOf Tryd.f72
def C_ring_Bytes : Cuts := { globs := 0, loops := [(5, [1, 3, 9, 10])], regs := [], plans := [] }
noncomputable def T_ring_Bytes : List Item := bodyOf Tryd.f78
noncomputable def T_ring_Bytes_L1 : List Item := stk [0, 1, 0, 1, 0, 1, 0, 0, 1, 4, 5] T_ring_Bytes
end Go.EQ

set_option maxRecDepth 100000
set_option linter.unusedVariables false
namespace Go.EQ
open Go Go.NN Go.Proofs
def C_plain_unit_bridge : Cuts := { globs := 0, loops := [], regs := [], plans := [(2, ⟨[0, 1, 2, 3, 4, 5, 6, 7, 8, 9, 10, 11, 12, 13], [0, 0, 0, 0, 8, 24, 56, 120, 248, 508, 1, 1025, 4095, 8191], [], []⟩)] }
noncomputable def T_plain_unit_bridge : List Item := bodyOf Tryd.f10
theorem e_plain_unit_bridge (call : CallFn) (run : RunFn) (x : Option Addr) (kind : Int) (r : Option Addr) (h : H) :
  exec PR C_plain_unit_bridge call run F_plain_unit_bridge Tryd.f10 100000 true T_plain_unit_bridge [(0, .pointer x), (1, .int .i64 kind), (2, .pointer r)] h =
  aSome x fun p => gSl (Addr.add p 176) h fun x_1 xn xc => nw (.cells Y_p_api_Pipe false [.pointer r]) h fun b hv => gCells (some ⟨b, 0, none⟩) (1 * 1) hv fun cs => ckB (fitsOpen x_1 Y_p_api_Pipe hv) (apd Y_p_api_Pipe 1 x_1 xn xc 1 cs hv fun a an ac hv_1 => aSome x fun p_1 => pV (Addr.add p_1 176) (.slice a an ac) hv_1 fun hv_2 => aSome x fun p_2 => gSl (Addr.add p_2 176) hv_2 fun _ xn_1 _ => aSome x fun p_3 => gSl (Addr.add p_3 176) hv_2 fun _ xn_2 _ => aSome x fun p_4 => ck ((0 : Int) ≤ IntKind.wrap .i64 (((xn_1 : Nat) : Int) - 4) ∧ IntKind.wrap .i64 (((xn_1 : Nat) : Int) - 4) < ((12 : Nat) : Int)) (pAgg (Addr.add (Addr.add p_4 128) (Int.toNat (IntKind.wrap .i64 (((xn_1 : Nat) : Int) - 4)) * 4)) [.int .i64 kind, .int .i64 (IntKind.wrap .i64 (((xn_2 : Nat) : Int) - 1)), .int .i64 1, .int .i64 0] hv_2 fun hv_3 => aSome x fun p_5 => ck ((0 : Int) ≤ 0 ∧ 0 < ((8 : Nat) : Int)) (ck ((0 : Int) ≤ IntKind.wrap .i64 (((xn_1 : Nat) : Int) - 4) ∧ IntKind.wrap .i64 (((xn_1 : Nat) : Int) - 4) < ((8 : Nat) : Int)) (pV (Addr.add (Addr.add (Addr.add (Addr.add p_5 0) (Int.toNat 0 * 16)) 8) (Int.toNat (IntKind.wrap .i64 (((xn_1 : Nat) : Int) - 4)) * 1)) (.int .i64 (IntKind.wrap .i64 ((IntKind.wrap .i64 (((xn_1 : Nat) : Int) - 4)) + 1))) hv_3 fun hv_4 => some (.tuple ⟨[]⟩, hv_4))))) := by kernel_rfl
def C_plain_Plain_Do : Cuts := { globs := 0, loops := [], regs := [(3, [0, 3, 4])], plans := [(2, ⟨[0, 1, 2, 3, 4, 5, 6, 7, 8, 9, 10, 11, 12, 13], [0, 0, 2, 6, 14, 0, 32, 96, 224, 510, 1022, 2047, 4095, 8191], [], []⟩), (3, ⟨[0, 1, 2, 3, 4, 5, 6, 7, 8, 9, 10, 11, 12, 13, 14, 15], [0, 1, 0, 4, 12, 28, 60, 124, 255, 511, 1023, 2047, 4095, 8191, 16383, 32767], [], []⟩), (5, ⟨[0, 1, 2, 3, 4, 5, 6, 7, 8], [0, 1, 3, 7, 0, 16, 63, 127, 255], [], []⟩), (11, ⟨[0, 1, 2, 3, 4, 5, 6, 7, 8, 9, 10, 11, 12, 13, 14, 15, 16, 17], [0, 1, 3, 7, 0, 16, 48, 112, 240, 496, 0, 1024, 4080, 8176, 16368, 16368, 32767, 98303], [(12, [3])], []⟩), (13, ⟨[0, 1, 2, 3, 4, 5, 6, 7, 8, 9, 10, 11, 12, 17, 13, 14, 15, 16, 18, 19], [0, 0, 2, 6, 0, 16, 62, 0, 128, 0, 512, 1536, 3584, 8191, 16383, 32767, 32767, 0, 196607, 524287], [], []⟩)] }
noncomputable def T_plain_Plain_Do : List Item := bodyOf Tryd.f11
noncomputable def T_plain_Plain_Do_R1 : List Item := stk [0, 1, 0, 1, 0, 0] T_plain_Plain_Do
def C_plain_check_1 : Cuts := { globs := 0, loops := [], regs := [], plans := [] }
noncomputable def T_plain_check_1 : List Item := bodyOf Tryd.f12
theorem e_plain_check_1 (call : CallFn) (run : RunFn) (b : List Value) (fv0 : Addr) (h : H) :
  exec PR C_plain_check_1 call run F_plain_check_1 Tryd.f12 100000 true T_plain_check_1 [(0, .agg ⟨b⟩), (1, .pointer (some fv0))] h =
  nw (.cells Y_api_Bridge false b) h fun b_1 hv => gInt .i64 (Addr.add ⟨b_1, 0, none⟩ 0) hv fun x => bnd (cond (decide (x < 0)) (some (true, hv)) (gInt .i64 (Addr.add ⟨b_1, 0, none⟩ 0) hv fun x_1 => gInt .i64 fv0 hv fun x_2 => some (decide (x_1 ≥ x_2), hv))) fun c hv_1 => bnd (cond c (some (true, hv_1)) (gInt .i64 (Addr.add ⟨b_1, 0, none⟩ 1) hv_1 fun x_3 => some (decide (x_3 < 0), hv_1))) fun c_1 hv_2 => bnd (cond c_1 (some (true, hv_2)) (gInt .i64 (Addr.add ⟨b_1, 0, none⟩ 1) hv_2 fun x_4 => gInt .i64 fv0 hv_2 fun x_5 => some (decide (x_4 ≥ x_5), hv_2))) fun c_2 hv_3 => bnd (cond c_2 (some (true, hv_3)) (gInt .i64 (Addr.add ⟨b_1, 0, none⟩ 0) hv_3 fun x_6 => gInt .i64 (Addr.add ⟨b_1, 0, none⟩ 1) hv_3 fun x_7 => some (x_6 == x_7, hv_3))) fun c_3 hv_4 => some (.bool c_3, hv_4) := by kernel_rfl
def C_sect_Sect_Quit : Cuts := { globs := 0, loops := [], regs := [(3, [0, 1])], plans := [] }
noncomputable def T_sect_Sect_Quit : List Item := bodyOf Tryd.f28
noncomputable def T_sect_Sect_Quit_R1 : List Item := stk [0, 1, 0] T_sect_Sect_Quit
def C_plain_unit_do : Cuts := { globs := 0, loops := [], regs := [], plans := [] }
noncomputable def T_plain_unit_do : List Item := bodyOf Tryd.f33
def C_sig_Deliver : Cuts := { globs := 0, loops := [(1, [1, 2, 3])], regs := [], plans := [] }
noncomputable def T_sig_Deliver : List Item := bodyOf Tryd.f36
noncomputable def T_sig_Deliver_L1 : List Item := stk [0, 1, 4, 5] T_sig_Deliver
def C_slices_Index_s_int_int : Cuts := { globs := 0, loops := [(2, [0, 1, 7, 8])], regs := [], plans := [] }
noncomputable def T_slices_Index_s_int_int : List Item := bodyOf Tryd.f38
noncomputable def T_slices_Index_s_int_int_L1 : List Item := stk [0, 1, 0, 0, 1, 4, 5] T_slices_Index_s_int_int
def C_slices_Clone_s_int_int : Cuts := { globs := 0, loops := [], regs := [], plans := [] }
noncomputable def T_slices_Clone_s_int_int : List Item := bodyOf Tryd.f40
def C_plain_told : Cuts := { globs := 0, loops := [], regs := [], plans := [] }
noncomputable def T_plain_told : List Item := bodyOf Tryd.f42
def C_plain_unit_wait : Cuts := { globs := 0, loops := [(3, [2, 4, 5, 11, 12, 13])], regs := [], plans := [] }
noncomputable def T_plain_unit_wait : List Item := bodyOf Tryd.f44
noncomputable def T_plain_unit_wait_L1 : List Item := stk [0, 1, 0, 1, 0, 0, 1, 4, 5] T_plain_unit_wait
def C_plain_unit_read : Cuts := { globs := 0, loops := [], regs := [(14, [3, 8, 9, 10])], plans := [(6, ⟨[0, 1, 2, 3, 4, 5, 6, 7, 8, 9, 10, 11, 12, 13, 14, 15, 16, 17, 18, 19], [0, 1, 3, 7, 15, 31, 63, 127, 255, 511, 63, 63, 1087, 5183, 15423, 31807, 64575, 131071, 262143, 524287], [], []⟩), (12, ⟨[0, 1, 2, 3, 4, 5, 6, 7, 8, 9, 10], [0, 1, 3, 7, 0, 16, 48, 112, 255, 511, 1023], [], []⟩)] }
noncomputable def T_plain_unit_read : List Item := bodyOf Tryd.f52
noncomputable def T_plain_unit_read_R1 : List Item := stk [0, 1, 0, 1, 0, 1, 0, 1, 0, 1, 0, 4, 0] T_plain_unit_read
def C_plain_unit_toFront : Cuts := { globs := 0, loops := [], regs := [], plans := [(3, ⟨[0, 1, 2, 3, 4, 5, 6, 7, 8, 9, 10, 11, 12, 13, 14, 15, 16, 17, 18], [0, 0, 1, 5, 15, 31, 63, 0, 128, 384, 896, 2047, 4095, 8191, 8191, 32767, 65535, 131071, 262143], [], []⟩)] }
noncomputable def T_plain_unit_toFront : List Item := bodyOf Tryd.f58
def C_plain_unit_fork_1 : Cuts := { globs := 0, loops := [], regs := [], plans := [] }
noncomputable def T_plain_unit_fork_1 : List Item := bodyOf Tryd.f60
def C_plain_unit_kill_1 : Cuts := { globs := 0, loops := [], regs := [], plans := [(1, ⟨[0, 1, 2, 3, 4, 5, 6, 7, 8, 9, 10, 11, 12, 13, 14, 15, 16, 17, 18, 19, 20, 21, 22, 23, 24, 25, 26, 27, 28, 29, 30, 31, 32, 33, 34, 35, 36, 37, 38], [0, 1, 3, 7, 7, 31, 63, 127, 255, 255, 511, 1535, 4095, 8191, 16383, 32767, 65535, 131071, 262143, 524287, 1048575, 2097151, 2097151, 8388607, 16777215, 33554431, 67108863, 67108863, 134217727, 402653183, 1073741823, 2147483647, 4294967295, 67108863, 8657043455, 34359738367, 68719476735, 137438953471, 274877906943], [], []⟩)] }
noncomputable def T_plain_unit_kill_1 : List Item := bodyOf Tryd.f63
def C_sig_Mask : Cuts := { globs := 0, loops := [], regs := [], plans := [] }
noncomputable def T_sig_Mask : List Item := bodyOf Tryd.f65
def C_sig_Handle : Cuts := { globs := 0, loops := [], regs := [], plans := [] }
noncomputable def T_sig_Handle : List Item := bodyOf Tryd.f66
def C_plain_unit_fds : Cuts := { globs := 0, loops := [], regs := [], plans := [] }
noncomputable def T_plain_unit_fds : List Item := bodyOf Tryd.f69
def C_plain_unit_has_1 : Cuts := { globs := 0, loops := [], regs := [], plans := [(1, ⟨[0, 1, 2, 3, 4, 5, 6, 7, 8, 9, 10, 11, 12, 13, 14], [0, 0, 3, 7, 15, 15, 31, 95, 255, 511, 1023, 15, 4095, 8191, 16383], [], []⟩)] }
noncomputable def T_plain_unit_has_1 : List Item := bodyOf Tryd.f74
end Go.EQ

set_option maxRecDepth 100000
set_option linter.unusedVariables false
namespace Go.EQ
open Go Go.NN Go.Proofs
def C_ring_Put : Cuts := { globs := 0, loops := [(5, [2, 4, 6, 13, 14, 15])], regs := [], plans := [] }
noncomputable def T_ring_Put : List Item := bodyOf Tryd.f16
noncomputable def T_ring_Put_L1 : List Item := stk [0, 1, 0, 1, 0, 1, 0, 0, 1, 4, 5] T_ring_Put
def C_slices_IndexFunc_s_api_Bridge_api_Bridge : Cuts := { globs := 0, loops := [(2, [0, 1, 7, 8])], regs := [], plans := [] }
noncomputable def T_slices_IndexFunc_s_api_Bridge_api_Bridge : List Item := bodyOf Tryd.f19
noncomputable def T_slices_IndexFunc_s_api_Bridge_api_Bridge_L1 : List Item := stk [0, 1, 0, 0, 1, 4, 5] T_slices_IndexFunc_s_api_Bridge_api_Bridge
theorem e_slices_IndexFunc_s_api_Bridge_api_Bridge (call : CallFn) (run : RunFn) (s : Option Addr) (sn sc : Nat) (f : Value) (h : H) :
  exec PR C_slices_IndexFunc_s_api_Bridge_api_Bridge call run F_slices_IndexFunc_s_api_Bridge_api_Bridge Tryd.f19 100000 true T_slices_IndexFunc_s_api_Bridge_api_Bridge [(0, .slice s sn sc), (1, f)] h =
  run F_slices_IndexFunc_s_api_Bridge_api_Bridge T_slices_IndexFunc_s_api_Bridge_api_Bridge_L1 [(0, .slice s sn sc), (1, f), (7, .int .i64 ((sn : Nat) : Int)), (8, .int .i64 0)] h := by kernel_rfl
theorem e_slices_IndexFunc_s_api_Bridge_api_Bridge_L1 (call : CallFn) (run : RunFn) (s : Option Addr) (sn sc : Nat) (f : Value) (x7 : Int) (x8 : Int) (h : H) :
  exec PR C_slices_IndexFunc_s_api_Bridge_api_Bridge call run F_slices_IndexFunc_s_api_Bridge_api_Bridge Tryd.f19 100000 true T_slices_IndexFunc_s_api_Bridge_api_Bridge_L1 [(0, .slice s sn sc), (1, f), (7, .int .i64 x7), (8, .int .i64 x8)] h =
  cond (decide (x8 < x7))
  (aSome s fun p => ck ((0 : Int) ≤ x8 ∧ x8 < ((sn : Nat) : Int)) (gAgg (Addr.add (bare p) (Int.toNat x8 * 2)) 2 h fun x => aFn f fun g fi cp => bnd (call g (fi ++ ([.agg ⟨x⟩] ++ cp)) h) fun r hv => aBool r fun x_1 => cond x_1
  (some (.int .i64 x8, hv))
  (run F_slices_IndexFunc_s_api_Bridge_api_Bridge T_slices_IndexFunc_s_api_Bridge_api_Bridge_L1 [(0, .slice s sn sc), (1, f), (7, .int .i64 x7), (8, .int .i64 (IntKind.wrap .i64 (x8 + 1)))] hv)))
  (some (.int .i64 (-1), h)) := by kernel_rfl
def C_slices_Clone_s_byte_byte : Cuts := { globs := 0, loops := [], regs := [], plans := [] }
noncomputable def T_slices_Clone_s_byte_byte : List Item := bodyOf Tryd.f21
def C_ring_Ok : Cuts := { globs := 0, loops := [], regs := [], plans := [] }
noncomputable def T_ring_Ok : List Item := bodyOf Tryd.f22
def C_plain_unit_blocked : Cuts := { globs := 0, loops := [], regs := [], plans := [] }
noncomputable def T_plain_unit_blocked : List Item := bodyOf Tryd.f26
def C_plain_unit_signals : Cuts := { globs := 0, loops := [], regs := [], plans := [(3, ⟨[0, 1, 2, 3, 4, 5, 6, 7, 13, 14, 8, 9, 10, 11, 12, 15, 16, 17, 18, 19, 20], [0, 0, 0, 0, 4, 20, 60, 124, 252, 508, 1020, 1020, 1020, 1, 8193, 26623, 59391, 126975, 258047, 524287, 1048575], [], []⟩)] }
noncomputable def T_plain_unit_signals : List Item := bodyOf Tryd.f27
def C_ring_Ok_1 : Cuts := { globs := 0, loops := [], regs := [], plans := [] }
noncomputable def T_ring_Ok_1 : List Item := bodyOf Tryd.f29
def C_slices_Delete_s_int_int : Cuts := { globs := 0, loops := [], regs := [], plans := [(5, ⟨[0, 1, 2, 3, 4, 5, 6, 7], [0, 0, 3, 0, 0, 24, 63, 127], [], []⟩)] }
noncomputable def T_slices_Delete_s_int_int : List Item := bodyOf Tryd.f39
def C_plain_unit_descriptors : Cuts := { globs := 0, loops := [], regs := [], plans := [] }
noncomputable def T_plain_unit_descriptors : List Item := bodyOf Tryd.f41
def C_plain_unit_fork : Cuts := { globs := 0, loops := [(7, [0, 1, 6, 7, 8, 29, 30]), (13, [0, 1, 6, 7, 8, 42, 43]), (19, [0, 1, 6, 7, 62, 63])], regs := [], plans := [(21, ⟨[0, 1, 2, 3, 4, 5, 6, 7, 8, 9, 10, 11, 12, 13], [0, 0, 1, 5, 15, 31, 63, 0, 255, 1, 513, 2047, 4095, 8191], [], []⟩), (24, ⟨[0, 1, 2, 3, 4, 5, 6], [0, 0, 0, 1, 9, 31, 63], [], []⟩)] }
noncomputable def T_plain_unit_fork : List Item := bodyOf Tryd.f43
noncomputable def T_plain_unit_fork_L1 : List Item := stk [0, 1, 0, 1, 0, 1, 0, 1, 0, 1, 0, 0, 1, 4, 5] T_plain_unit_fork
noncomputable def T_plain_unit_fork_L2 : List Item := stk [0, 1, 0, 1, 0, 1, 0, 1, 0, 1, 0, 1, 0, 0, 1, 4, 5] T_plain_unit_fork
noncomputable def T_plain_unit_fork_L3 : List Item := stk [0, 1, 0, 1, 0, 1, 0, 1, 0, 1, 0, 1, 0, 1, 0, 0, 1, 4, 5] T_plain_unit_fork
def C_plain_unit_own : Cuts := { globs := 0, loops := [], regs := [(5, [0, 1, 6, 7, 8, 9])], plans := [(6, ⟨[0, 1, 2, 3, 4, 5, 6], [0, 0, 0, 1, 9, 31, 63], [], []⟩)] }
noncomputable def T_plain_unit_own : List Item := bodyOf Tryd.f46
noncomputable def T_plain_unit_own_R1 : List Item := stk [0, 1, 0, 1, 0, 1, 0, 0] T_plain_unit_own
def C_sig_Next : Cuts := { globs := 0, loops := [], regs := [(7, [1, 2])], plans := [] }
noncomputable def T_sig_Next : List Item := bodyOf Tryd.f48
noncomputable def T_sig_Next_R1 : List Item := stk [0, 1, 0, 1, 0, 1, 0] T_sig_Next
def C_plain_unit_open : Cuts := { globs := 0, loops := [], regs := [], plans := [(3, ⟨[0, 1, 2, 3, 4, 5, 6, 7, 8, 9, 10, 11, 12, 13, 14], [0, 0, 0, 0, 2, 18, 54, 118, 254, 510, 1022, 1, 2049, 8191, 16383], [], []⟩)] }
noncomputable def T_plain_unit_open : List Item := bodyOf Tryd.f49
def C_plain_unit_pipe : Cuts := { globs := 0, loops := [(6, [0, 1, 6, 7, 22, 23]), (16, [0, 1, 6, 7, 10, 56, 57, 58])], regs := [], plans := [(18, ⟨[0, 1, 2, 3, 4, 5, 6, 7, 8, 9, 10, 11], [0, 0, 0, 6, 14, 0, 0, 96, 1, 257, 1023, 2047], [], []⟩), (19, ⟨[0, 1, 2, 3, 4, 5, 6, 7, 8, 9, 10, 11, 12, 13, 14, 15, 16], [0, 0, 0, 0, 12, 28, 0, 0, 192, 448, 960, 1, 2049, 6147, 14339, 32767, 65535], [], []⟩), (21, ⟨[0, 1, 2, 3, 4, 5, 6, 7, 8, 9], [0, 1, 3, 0, 8, 24, 56, 127, 255, 511], [], []⟩)] }
noncomputable def T_plain_unit_pipe : List Item := bodyOf Tryd.f51
noncomputable def T_plain_unit_pipe_L1 : List Item := stk [0, 1, 0, 1, 0, 1, 0, 1, 0, 0, 1, 4, 5] T_plain_unit_pipe
noncomputable def T_plain_unit_pipe_L2 : List Item := stk [0, 1, 0, 1, 0, 1, 0, 1, 0, 1, 0, 1, 0, 1, 0, 1, 0, 0, 1, 4, 5] T_plain_unit_pipe
def C_plain_unit_close : Cuts := { globs := 0, loops := [], regs := [], plans := [] }
noncomputable def T_plain_unit_close : List Item := bodyOf Tryd.f54
def C_plain_unit_has : Cuts := { globs := 0, loops := [], regs := [], plans := [] }
noncomputable def T_plain_unit_has : List Item := bodyOf Tryd.f67
def C_plain_unit_fds_1 : Cuts := { globs := 0, loops := [], regs := [], plans := [(1, ⟨[0, 1, 2, 3, 4, 5, 6, 7, 8, 9, 10], [0, 0, 0, 1, 9, 27, 59, 127, 255, 511, 1023], [], []⟩)] }
noncomputable def T_plain_unit_fds_1 : List Item := bodyOf Tryd.f77
def C_slices_Clip_s_byte_byte : Cuts := { globs := 0, loops := [], regs := [], plans := [] }
noncomputable def T_slices_Clip_s_byte_byte : List Item := bodyOf Tryd.f79
end Go.EQ

set_option maxRecDepth 100000
namespace Go.EQ
open Go Go.NN Go.Proofs
def cutsL : List (Nat × Cuts) := [(3, C_law23_PlainArgs), (4, C_law23_awake), (5, C_plain_New), (6, C_ref15_PlanOk), (7, C_plain_Run), (8, C_plain_check), (9, C_sect_New), (10, C_plain_unit_bridge), (11, C_plain_Plain_Do), (12, C_plain_check_1), (13, C_slices_ContainsFunc_s_api_Bridge_api_Bridge), (14, C_plain_in), (15, C_plain_unit_start), (16, C_ring_Put), (17, C_plain_unit_pick), (18, C_plain_unit_idle), (19, C_slices_IndexFunc_s_api_Bridge_api_Bridge), (20, C_plain_unit_lives), (21, C_slices_Clone_s_byte_byte), (22, C_ring_Ok), (23, C_plain_unit_leave), (24, C_sect_Sect_Enter), (25, C_plain_unit_inside), (26, C_plain_unit_blocked), (27, C_plain_unit_signals), (28, C_sect_Sect_Quit), (29, C_ring_Ok_1), (30, C_sect_Sect_Leave), (31, C_slices_Contains_s_int_int), (32, C_sect_Sect_Holds), (33, C_plain_unit_do), (34, C_sig_Wakes), (35, C_plain_unit_wakes), (36, C_sig_Deliver), (37, C_plain_unit_exit), (38, C_slices_Index_s_int_int), (39, C_slices_Delete_s_int_int), (40, C_slices_Clone_s_int_int), (41, C_plain_unit_descriptors), (42, C_plain_told), (43, C_plain_unit_fork), (44, C_plain_unit_wait), (45, C_plain_unit_kill), (46, C_plain_unit_own), (47, C_plain_unit_group), (48, C_sig_Next), (49, C_plain_unit_open), (50, C_plain_unit_drop), (51, C_plain_unit_pipe), (52, C_plain_unit_read), (53, C_plain_unit_write), (54, C_plain_unit_close), (55, C_plain_unit_dup), (56, C_plain_unit_dup2), (57, C_plain_unit_never), (58, C_plain_unit_toFront), (59, C_slices_IndexFunc_s_api_Proc_api_Proc), (60, C_plain_unit_fork_1), (61, C_plain_those), (62, C_plain_unit_wait_1), (63, C_plain_unit_kill_1), (64, C_sig_Raise), (65, C_sig_Mask), (66, C_sig_Handle), (67, C_plain_unit_has), (68, C_math_bits_TrailingZeros), (69, C_plain_unit_fds), (71, C_plain_waits), (72, C_ring_Take), (73, C_sig_is), (74, C_plain_unit_has_1), (77, C_plain_unit_fds_1), (78, C_ring_Bytes), (79, C_slices_Clip_s_byte_byte)]
def cutsOf : FuncId → Cuts := cutsAt cutsL
noncomputable abbrev CALL : CallFn := NN.Call PR cutsOf
noncomputable abbrev JUMP : RunFn := NN.Jump PR cutsOf
theorem k_law23_PlainArgs : FnOk PR cutsOf F_law23_PlainArgs Tryd.f3 C_law23_PlainArgs T_law23_PlainArgs 1 := ⟨Tryd.func3, ⟨_, rfl⟩, by kernel_rfl, rfl, rfl, by kernel_rfl⟩
theorem k_law23_awake : FnOk PR cutsOf F_law23_awake Tryd.f4 C_law23_awake T_law23_awake 0 := ⟨Tryd.func4, ⟨_, rfl⟩, by kernel_rfl, rfl, rfl, by kernel_rfl⟩
theorem k_plain_New : FnOk PR cutsOf F_plain_New Tryd.f5 C_plain_New T_plain_New 1 := ⟨Tryd.func5, ⟨_, rfl⟩, by kernel_rfl, rfl, rfl, by kernel_rfl⟩
theorem k_ref15_PlanOk : FnOk PR cutsOf F_ref15_PlanOk Tryd.f6 C_ref15_PlanOk T_ref15_PlanOk 1 := ⟨Tryd.func6, ⟨_, rfl⟩, by kernel_rfl, rfl, rfl, by kernel_rfl⟩
theorem k_plain_Run : FnOk PR cutsOf F_plain_Run Tryd.f7 C_plain_Run T_plain_Run 2 := ⟨Tryd.func7, ⟨_, rfl⟩, by kernel_rfl, rfl, rfl, by kernel_rfl⟩
theorem k_plain_check : FnOk PR cutsOf F_plain_check Tryd.f8 C_plain_check T_plain_check 1 := ⟨Tryd.func8, ⟨_, rfl⟩, by kernel_rfl, rfl, rfl, by kernel_rfl⟩
theorem k_sect_New : FnOk PR cutsOf F_sect_New Tryd.f9 C_sect_New T_sect_New 1 := ⟨Tryd.func9, ⟨_, rfl⟩, by kernel_rfl, rfl, rfl, by kernel_rfl⟩
theorem k_plain_unit_bridge : FnOk PR cutsOf F_plain_unit_bridge Tryd.f10 C_plain_unit_bridge T_plain_unit_bridge 3 := ⟨Tryd.func10, ⟨_, rfl⟩, by kernel_rfl, rfl, rfl, by kernel_rfl⟩
theorem k_plain_Plain_Do : FnOk PR cutsOf F_plain_Plain_Do Tryd.f11 C_plain_Plain_Do T_plain_Plain_Do 2 := ⟨Tryd.func11, ⟨_, rfl⟩, by kernel_rfl, rfl, rfl, by kernel_rfl⟩
theorem k_plain_check_1 : FnOk PR cutsOf F_plain_check_1 Tryd.f12 C_plain_check_1 T_plain_check_1 2 := ⟨Tryd.func12, ⟨_, rfl⟩, by kernel_rfl, rfl, rfl, by kernel_rfl⟩
theorem k_slices_ContainsFunc_s_api_Bridge_api_Bridge : FnOk PR cutsOf F_slices_ContainsFunc_s_api_Bridge_api_Bridge Tryd.f13 C_slices_ContainsFunc_s_api_Bridge_api_Bridge T_slices_ContainsFunc_s_api_Bridge_api_Bridge 2 := ⟨Tryd.func13, ⟨_, rfl⟩, by kernel_rfl, rfl, rfl, by kernel_rfl⟩
theorem k_plain_in : FnOk PR cutsOf F_plain_in Tryd.f14 C_plain_in T_plain_in 2 := ⟨Tryd.func14, ⟨_, rfl⟩, by kernel_rfl, rfl, rfl, by kernel_rfl⟩
theorem k_plain_unit_start : FnOk PR cutsOf F_plain_unit_start Tryd.f15 C_plain_unit_start T_plain_unit_start 3 := ⟨Tryd.func15, ⟨_, rfl⟩, by kernel_rfl, rfl, rfl, by kernel_rfl⟩
theorem k_ring_Put : FnOk PR cutsOf F_ring_Put Tryd.f16 C_ring_Put T_ring_Put 2 := ⟨Tryd.func16, ⟨_, rfl⟩, by kernel_rfl, rfl, rfl, by kernel_rfl⟩
theorem k_plain_unit_pick : FnOk PR cutsOf F_plain_unit_pick Tryd.f17 C_plain_unit_pick T_plain_unit_pick 4 := ⟨Tryd.func17, ⟨_, rfl⟩, by kernel_rfl, rfl, rfl, by kernel_rfl⟩
theorem k_plain_unit_idle : FnOk PR cutsOf F_plain_unit_idle Tryd.f18 C_plain_unit_idle T_plain_unit_idle 3 := ⟨Tryd.func18, ⟨_, rfl⟩, by kernel_rfl, rfl, rfl, by kernel_rfl⟩
theorem k_slices_IndexFunc_s_api_Bridge_api_Bridge : FnOk PR cutsOf F_slices_IndexFunc_s_api_Bridge_api_Bridge Tryd.f19 C_slices_IndexFunc_s_api_Bridge_api_Bridge T_slices_IndexFunc_s_api_Bridge_api_Bridge 2 := ⟨Tryd.func19, ⟨_, rfl⟩, by kernel_rfl, rfl, rfl, by kernel_rfl⟩
theorem k_plain_unit_lives : FnOk PR cutsOf F_plain_unit_lives Tryd.f20 C_plain_unit_lives T_plain_unit_lives 2 := ⟨Tryd.func20, ⟨_, rfl⟩, by kernel_rfl, rfl, rfl, by kernel_rfl⟩
theorem k_slices_Clone_s_byte_byte : FnOk PR cutsOf F_slices_Clone_s_byte_byte Tryd.f21 C_slices_Clone_s_byte_byte T_slices_Clone_s_byte_byte 1 := ⟨Tryd.func21, ⟨_, rfl⟩, by kernel_rfl, rfl, rfl, by kernel_rfl⟩
theorem k_ring_Ok : FnOk PR cutsOf F_ring_Ok Tryd.f22 C_ring_Ok T_ring_Ok 1 := ⟨Tryd.func22, ⟨_, rfl⟩, by kernel_rfl, rfl, rfl, by kernel_rfl⟩
theorem k_plain_unit_leave : FnOk PR cutsOf F_plain_unit_leave Tryd.f23 C_plain_unit_leave T_plain_unit_leave 4 := ⟨Tryd.func23, ⟨_, rfl⟩, by kernel_rfl, rfl, rfl, by kernel_rfl⟩
theorem k_sect_Sect_Enter : FnOk PR cutsOf F_sect_Sect_Enter Tryd.f24 C_sect_Sect_Enter T_sect_Sect_Enter 3 := ⟨Tryd.func24, ⟨_, rfl⟩, by kernel_rfl, rfl, rfl, by kernel_rfl⟩
theorem k_plain_unit_inside : FnOk PR cutsOf F_plain_unit_inside Tryd.f25 C_plain_unit_inside T_plain_unit_inside 3 := ⟨Tryd.func25, ⟨_, rfl⟩, by kernel_rfl, rfl, rfl, by kernel_rfl⟩
theorem k_plain_unit_blocked : FnOk PR cutsOf F_plain_unit_blocked Tryd.f26 C_plain_unit_blocked T_plain_unit_blocked 2 := ⟨Tryd.func26, ⟨_, rfl⟩, by kernel_rfl, rfl, rfl, by kernel_rfl⟩
theorem k_plain_unit_signals : FnOk PR cutsOf F_plain_unit_signals Tryd.f27 C_plain_unit_signals T_plain_unit_signals 3 := ⟨Tryd.func27, ⟨_, rfl⟩, by kernel_rfl, rfl, rfl, by kernel_rfl⟩
theorem k_sect_Sect_Quit : FnOk PR cutsOf F_sect_Sect_Quit Tryd.f28 C_sect_Sect_Quit T_sect_Sect_Quit 2 := ⟨Tryd.func28, ⟨_, rfl⟩, by kernel_rfl, rfl, rfl, by kernel_rfl⟩
theorem k_ring_Ok_1 : FnOk PR cutsOf F_ring_Ok_1 Tryd.f29 C_ring_Ok_1 T_ring_Ok_1 2 := ⟨Tryd.func29, ⟨_, rfl⟩, by kernel_rfl, rfl, rfl, by kernel_rfl⟩
theorem k_sect_Sect_Leave : FnOk PR cutsOf F_sect_Sect_Leave Tryd.f30 C_sect_Sect_Leave T_sect_Sect_Leave 3 := ⟨Tryd.func30, ⟨_, rfl⟩, by kernel_rfl, rfl, rfl, by kernel_rfl⟩
theorem k_slices_Contains_s_int_int : FnOk PR cutsOf F_slices_Contains_s_int_int Tryd.f31 C_slices_Contains_s_int_int T_slices_Contains_s_int_int 2 := ⟨Tryd.func31, ⟨_, rfl⟩, by kernel_rfl, rfl, rfl, by kernel_rfl⟩
theorem k_sect_Sect_Holds : FnOk PR cutsOf F_sect_Sect_Holds Tryd.f32 C_sect_Sect_Holds T_sect_Sect_Holds 3 := ⟨Tryd.func32, ⟨_, rfl⟩, by kernel_rfl, rfl, rfl, by kernel_rfl⟩
theorem k_plain_unit_do : FnOk PR cutsOf F_plain_unit_do Tryd.f33 C_plain_unit_do T_plain_unit_do 3 := ⟨Tryd.func33, ⟨_, rfl⟩, by kernel_rfl, rfl, rfl, by kernel_rfl⟩
theorem k_sig_Wakes : FnOk PR cutsOf F_sig_Wakes Tryd.f34 C_sig_Wakes T_sig_Wakes 1 := ⟨Tryd.func34, ⟨_, rfl⟩, by kernel_rfl, rfl, rfl, by kernel_rfl⟩
theorem k_plain_unit_wakes : FnOk PR cutsOf F_plain_unit_wakes Tryd.f35 C_plain_unit_wakes T_plain_unit_wakes 3 := ⟨Tryd.func35, ⟨_, rfl⟩, by kernel_rfl, rfl, rfl, by kernel_rfl⟩
theorem k_sig_Deliver : FnOk PR cutsOf F_sig_Deliver Tryd.f36 C_sig_Deliver T_sig_Deliver 1 := ⟨Tryd.func36, ⟨_, rfl⟩, by kernel_rfl, rfl, rfl, by kernel_rfl⟩
theorem k_plain_unit_exit : FnOk PR cutsOf F_plain_unit_exit Tryd.f37 C_plain_unit_exit T_plain_unit_exit 3 := ⟨Tryd.func37, ⟨_, rfl⟩, by kernel_rfl, rfl, rfl, by kernel_rfl⟩
theorem k_slices_Index_s_int_int : FnOk PR cutsOf F_slices_Index_s_int_int Tryd.f38 C_slices_Index_s_int_int T_slices_Index_s_int_int 2 := ⟨Tryd.func38, ⟨_, rfl⟩, by kernel_rfl, rfl, rfl, by kernel_rfl⟩
theorem k_slices_Delete_s_int_int : FnOk PR cutsOf F_slices_Delete_s_int_int Tryd.f39 C_slices_Delete_s_int_int T_slices_Delete_s_int_int 3 := ⟨Tryd.func39, ⟨_, rfl⟩, by kernel_rfl, rfl, rfl, by kernel_rfl⟩
theorem k_slices_Clone_s_int_int : FnOk PR cutsOf F_slices_Clone_s_int_int Tryd.f40 C_slices_Clone_s_int_int T_slices_Clone_s_int_int 1 := ⟨Tryd.func40, ⟨_, rfl⟩, by kernel_rfl, rfl, rfl, by kernel_rfl⟩
theorem k_plain_unit_descriptors : FnOk PR cutsOf F_plain_unit_descriptors Tryd.f41 C_plain_unit_descriptors T_plain_unit_descriptors 3 := ⟨Tryd.func41, ⟨_, rfl⟩, by kernel_rfl, rfl, rfl, by kernel_rfl⟩
theorem k_plain_told : FnOk PR cutsOf F_plain_told Tryd.f42 C_plain_told T_plain_told 2 := ⟨Tryd.func42, ⟨_, rfl⟩, by kernel_rfl, rfl, rfl, by kernel_rfl⟩
theorem k_plain_unit_fork : FnOk PR cutsOf F_plain_unit_fork Tryd.f43 C_plain_unit_fork T_plain_unit_fork 2 := ⟨Tryd.func43, ⟨_, rfl⟩, by kernel_rfl, rfl, rfl, by kernel_rfl⟩
theorem k_plain_unit_wait : FnOk PR cutsOf F_plain_unit_wait Tryd.f44 C_plain_unit_wait T_plain_unit_wait 2 := ⟨Tryd.func44, ⟨_, rfl⟩, by kernel_rfl, rfl, rfl, by kernel_rfl⟩
theorem k_plain_unit_kill : FnOk PR cutsOf F_plain_unit_kill Tryd.f45 C_plain_unit_kill T_plain_unit_kill 3 := ⟨Tryd.func45, ⟨_, rfl⟩, by kernel_rfl, rfl, rfl, by kernel_rfl⟩
theorem k_plain_unit_own : FnOk PR cutsOf F_plain_unit_own Tryd.f46 C_plain_unit_own T_plain_unit_own 3 := ⟨Tryd.func46, ⟨_, rfl⟩, by kernel_rfl, rfl, rfl, by kernel_rfl⟩
theorem k_plain_unit_group : FnOk PR cutsOf F_plain_unit_group Tryd.f47 C_plain_unit_group T_plain_unit_group 4 := ⟨Tryd.func47, ⟨_, rfl⟩, by kernel_rfl, rfl, rfl, by kernel_rfl⟩
theorem k_sig_Next : FnOk PR cutsOf F_sig_Next Tryd.f48 C_sig_Next T_sig_Next 1 := ⟨Tryd.func48, ⟨_, rfl⟩, by kernel_rfl, rfl, rfl, by kernel_rfl⟩
theorem k_plain_unit_open : FnOk PR cutsOf F_plain_unit_open Tryd.f49 C_plain_unit_open T_plain_unit_open 3 := ⟨Tryd.func49, ⟨_, rfl⟩, by kernel_rfl, rfl, rfl, by kernel_rfl⟩
theorem k_plain_unit_drop : FnOk PR cutsOf F_plain_unit_drop Tryd.f50 C_plain_unit_drop T_plain_unit_drop 2 := ⟨Tryd.func50, ⟨_, rfl⟩, by kernel_rfl, rfl, rfl, by kernel_rfl⟩
theorem k_plain_unit_pipe : FnOk PR cutsOf F_plain_unit_pipe Tryd.f51 C_plain_unit_pipe T_plain_unit_pipe 2 := ⟨Tryd.func51, ⟨_, rfl⟩, by kernel_rfl, rfl, rfl, by kernel_rfl⟩
theorem k_plain_unit_read : FnOk PR cutsOf F_plain_unit_read Tryd.f52 C_plain_unit_read T_plain_unit_read 4 := ⟨Tryd.func52, ⟨_, rfl⟩, by kernel_rfl, rfl, rfl, by kernel_rfl⟩
theorem k_plain_unit_write : FnOk PR cutsOf F_plain_unit_write Tryd.f53 C_plain_unit_write T_plain_unit_write 4 := ⟨Tryd.func53, ⟨_, rfl⟩, by kernel_rfl, rfl, rfl, by kernel_rfl⟩
theorem k_plain_unit_close : FnOk PR cutsOf F_plain_unit_close Tryd.f54 C_plain_unit_close T_plain_unit_close 3 := ⟨Tryd.func54, ⟨_, rfl⟩, by kernel_rfl, rfl, rfl, by kernel_rfl⟩
theorem k_plain_unit_dup : FnOk PR cutsOf F_plain_unit_dup Tryd.f55 C_plain_unit_dup T_plain_unit_dup 3 := ⟨Tryd.func55, ⟨_, rfl⟩, by kernel_rfl, rfl, rfl, by kernel_rfl⟩
theorem k_plain_unit_dup2 : FnOk PR cutsOf F_plain_unit_dup2 Tryd.f56 C_plain_unit_dup2 T_plain_unit_dup2 4 := ⟨Tryd.func56, ⟨_, rfl⟩, by kernel_rfl, rfl, rfl, by kernel_rfl⟩
theorem k_plain_unit_never : FnOk PR cutsOf F_plain_unit_never Tryd.f57 C_plain_unit_never T_plain_unit_never 4 := ⟨Tryd.func57, ⟨_, rfl⟩, by kernel_rfl, rfl, rfl, by kernel_rfl⟩
theorem k_plain_unit_toFront : FnOk PR cutsOf F_plain_unit_toFront Tryd.f58 C_plain_unit_toFront T_plain_unit_toFront 3 := ⟨Tryd.func58, ⟨_, rfl⟩, by kernel_rfl, rfl, rfl, by kernel_rfl⟩
theorem k_slices_IndexFunc_s_api_Proc_api_Proc : FnOk PR cutsOf F_slices_IndexFunc_s_api_Proc_api_Proc Tryd.f59 C_slices_IndexFunc_s_api_Proc_api_Proc T_slices_IndexFunc_s_api_Proc_api_Proc 2 := ⟨Tryd.func59, ⟨_, rfl⟩, by kernel_rfl, rfl, rfl, by kernel_rfl⟩
theorem k_plain_unit_fork_1 : FnOk PR cutsOf F_plain_unit_fork_1 Tryd.f60 C_plain_unit_fork_1 T_plain_unit_fork_1 1 := ⟨Tryd.func60, ⟨_, rfl⟩, by kernel_rfl, rfl, rfl, by kernel_rfl⟩
theorem k_plain_those : FnOk PR cutsOf F_plain_those Tryd.f61 C_plain_those T_plain_those 1 := ⟨Tryd.func61, ⟨_, rfl⟩, by kernel_rfl, rfl, rfl, by kernel_rfl⟩
theorem k_plain_unit_wait_1 : FnOk PR cutsOf F_plain_unit_wait_1 Tryd.f62 C_plain_unit_wait_1 T_plain_unit_wait_1 3 := ⟨Tryd.func62, ⟨_, rfl⟩, by kernel_rfl, rfl, rfl, by kernel_rfl⟩
theorem k_plain_unit_kill_1 : FnOk PR cutsOf F_plain_unit_kill_1 Tryd.f63 C_plain_unit_kill_1 T_plain_unit_kill_1 3 := ⟨Tryd.func63, ⟨_, rfl⟩, by kernel_rfl, rfl, rfl, by kernel_rfl⟩
theorem k_sig_Raise : FnOk PR cutsOf F_sig_Raise Tryd.f64 C_sig_Raise T_sig_Raise 2 := ⟨Tryd.func64, ⟨_, rfl⟩, by kernel_rfl, rfl, rfl, by kernel_rfl⟩
theorem k_sig_Mask : FnOk PR cutsOf F_sig_Mask Tryd.f65 C_sig_Mask T_sig_Mask 2 := ⟨Tryd.func65, ⟨_, rfl⟩, by kernel_rfl, rfl, rfl, by kernel_rfl⟩
theorem k_sig_Handle : FnOk PR cutsOf F_sig_Handle Tryd.f66 C_sig_Handle T_sig_Handle 3 := ⟨Tryd.func66, ⟨_, rfl⟩, by kernel_rfl, rfl, rfl, by kernel_rfl⟩
theorem k_plain_unit_has : FnOk PR cutsOf F_plain_unit_has Tryd.f67 C_plain_unit_has T_plain_unit_has 2 := ⟨Tryd.func67, ⟨_, rfl⟩, by kernel_rfl, rfl, rfl, by kernel_rfl⟩
theorem k_math_bits_TrailingZeros : FnOk PR cutsOf F_math_bits_TrailingZeros Tryd.f68 C_math_bits_TrailingZeros T_math_bits_TrailingZeros 1 := ⟨Tryd.func68, ⟨_, rfl⟩, by kernel_rfl, rfl, rfl, by kernel_rfl⟩
theorem k_plain_unit_fds : FnOk PR cutsOf F_plain_unit_fds Tryd.f69 C_plain_unit_fds T_plain_unit_fds 2 := ⟨Tryd.func69, ⟨_, rfl⟩, by kernel_rfl, rfl, rfl, by kernel_rfl⟩
theorem k_plain_waits : FnOk PR cutsOf F_plain_waits Tryd.f71 C_plain_waits T_plain_waits 1 := ⟨Tryd.func71, ⟨_, rfl⟩, by kernel_rfl, rfl, rfl, by kernel_rfl⟩
theorem k_ring_Take : FnOk PR cutsOf F_ring_Take Tryd.f72 C_ring_Take T_ring_Take 2 := ⟨Tryd.func72, ⟨_, rfl⟩, by kernel_rfl, rfl, rfl, by kernel_rfl⟩
theorem k_sig_is : FnOk PR cutsOf F_sig_is Tryd.f73 C_sig_is T_sig_is 1 := ⟨Tryd.func73, ⟨_, rfl⟩, by kernel_rfl, rfl, rfl, by kernel_rfl⟩
theorem k_plain_unit_has_1 : FnOk PR cutsOf F_plain_unit_has_1 Tryd.f74 C_plain_unit_has_1 T_plain_unit_has_1 3 := ⟨Tryd.func74, ⟨_, rfl⟩, by kernel_rfl, rfl, rfl, by kernel_rfl⟩
theorem k_plain_unit_fds_1 : FnOk PR cutsOf F_plain_unit_fds_1 Tryd.f77 C_plain_unit_fds_1 T_plain_unit_fds_1 3 := ⟨Tryd.func77, ⟨_, rfl⟩, by kernel_rfl, rfl, rfl, by kernel_rfl⟩
theorem k_ring_Bytes : FnOk PR cutsOf F_ring_Bytes Tryd.f78 C_ring_Bytes T_ring_Bytes 1 := ⟨Tryd.func78, ⟨_, rfl⟩, by kernel_rfl, rfl, rfl, by kernel_rfl⟩
theorem k_slices_Clip_s_byte_byte : FnOk PR cutsOf F_slices_Clip_s_byte_byte Tryd.f79 C_slices_Clip_s_byte_byte T_slices_Clip_s_byte_byte 1 := ⟨Tryd.func79, ⟨_, rfl⟩, by kernel_rfl, rfl, rfl, by kernel_rfl⟩
end Go.EQ

namespace Go.EQ
open Go Go.NN Go.Proofs
theorem u_int : type_of% Tryd.underlying3 := Tryd.underlying3
theorem u_bool : type_of% Tryd.underlying4 := Tryd.underlying4
theorem u_s_bool : type_of% Tryd.underlying22 := Tryd.underlying22
theorem u_s_api_Bridge : type_of% Tryd.underlying23 := Tryd.underlying23
theorem u_api_Plan : type_of% Tryd.underlying25 := Tryd.underlying25
theorem u_api_Bridge : type_of% Tryd.underlying69 := Tryd.underlying69
end Go.EQ

/- What one slot was told is picked out in its order; returns are counted by their calls; one row of bytes is the beginning of another one, or not. -/
import Derived.Test.YtffngggpkaibkaaGreatDoorMe
set_option linter.unusedVariables false
set_option linter.unusedSimpArgs false
set_option linter.unusedSectionVars false
set_option maxRecDepth 100000
set_option linter.unusedVariables false
namespace Go.EQ
open Go Go.Proofs
open Go.NN hiding bnd ld gInt gBool gStr gPtr gSl gMap gFv gAgg gCells nw pV pAgg pCells apd fitsOpen liveA mapAt
open Go.NP Go.NW
noncomputable def X_law25_awake : XPoly := fun G _ call run a h => match a with
  | [] =>
  nw (.cells Y_bool false [.bool false, .bool false]) h fun b hv => nw (.cells Y_api_Bridge false [.int .i64 0, .int .i64 1]) hv fun b_1 hv_1 => nw (.cells Y_api_Plan false [.slice none 0 0, .slice none 0 0, .int .i64 0]) hv_1 fun b_2 hv_2 => pAgg ⟨b_2, 0, none⟩ [.slice (some ⟨b, 0, none⟩) 2 2, .slice (some ⟨b_1, 0, none⟩) 1 1, .int .i64 5] hv_2 fun hv_3 => gAgg ⟨b_2, 0, none⟩ 3 hv_3 fun x => nw (.cells Y_uint8 false [.int .u8 7, .int .u8 8]) hv_3 fun b_3 hv_4 => nw (.cells Y_api_Step false [.int .i64 1, .int .i64 0, .int .i64 0, .int .i64 0, .slice none 0 0, .int .i64 11, .int .i64 1, .int .i64 0, .slice (some ⟨b_3, 0, none⟩) 2 2, .int .i64 0, .int .i64 0, .int .i64 0, .int .i64 0, .int .i64 0, .int .i64 0, .slice none 0 0, .int .i64 2, .int .i64 0, .int .i64 0, .int .i64 0, .slice none 0 0, .int .i64 0, .int .i64 0, .int .i64 0, .slice none 0 0, .int .i64 0, .int .i64 0, .int .i64 0, .int .i64 0, .int .i64 0, .int .i64 0, .slice none 0 0, .int .i64 2, .int .i64 0, .int .i64 0, .int .i64 0, .slice none 0 0, .int .i64 0, .int .i64 0, .int .i64 0, .slice none 0 0, .int .i64 0, .int .i64 0, .int .i64 0, .int .i64 0, .int .i64 0, .int .i64 0, .slice none 0 0]) hv_4 fun b_4 hv_5 => bnd (call F_trace_Flow [.agg ⟨x⟩, .int .i64 0, .slice (some ⟨b_4, 0, none⟩) 3 3] hv_5) fun r hv_6 => as3 r fun r_1 r_2 r_3 => aSl r_1 fun x_1 xn _ => aSl r_2 fun _ xn_1 _ => aInt .i64 r_3 fun x_3 => bnd (cond (ieqF x_3 0) (gCells x_1 xn hv_6 fun cs => asBytes cs fun l => some ((ByteArray.mk ⟨l⟩).toList == (ByteArray.mk ⟨[7, 8]⟩).toList, hv_6)) (some (false, hv_6))) fun c hv_7 => bnd (cond c (some (ieqF ((xn_1 : Nat) : Int) 0, hv_7)) (some (false, hv_7))) fun c_1 hv_8 => bnd (cond c_1 (nw (.cells Y_uint8 false [.int .u8 1, .int .u8 2, .int .u8 3]) hv_8 fun b_5 hv_9 => nw (.cells Y_uint8 false [.int .u8 1, .int .u8 2]) hv_9 fun b_6 hv_10 => bnd (call F_trace_Fifo [.slice (some ⟨b_5, 0, none⟩) 3 3, .slice (some ⟨b_6, 0, none⟩) 2 2] hv_10) fun r_4 hv_11 => aBool r_4 fun x_4 => some (x_4, hv_11)) (some (false, hv_8))) fun c_2 hv_12 => bnd (cond c_2 (nw (.cells Y_uint8 false [.int .u8 1]) hv_12 fun b_7 hv_13 => nw (.cells Y_uint8 false [.int .u8 2]) hv_13 fun b_8 hv_14 => bnd (call F_trace_Fifo [.slice (some ⟨b_7, 0, none⟩) 1 1, .slice (some ⟨b_8, 0, none⟩) 1 1] hv_14) fun r_5 hv_15 => aBool r_5 fun x_5 => some (!x_5, hv_15)) (some (false, hv_12))) fun c_3 hv_16 => some (.bool c_3, hv_16)
  | _ => none
noncomputable def X_bytes_HasPrefix : XPoly := fun G _ call run a h => match a with
  | [.slice s sn sc, .slice prefixv prefixn prefixc] =>
  bnd (cond (ileF ((prefixn : Nat) : Int) ((sn : Nat) : Int)) (ckB (fitsOpen s Y_uint8 h) (ckLF ((prefixn : Nat) : Int) sc (bnd (call F_bytes_Equal [.slice (moved s (decide (0 < sc)) (0 * 1)) ((Int.toNat ((prefixn : Nat) : Int)) - 0) (sc - 0), .slice prefixv prefixn prefixc] h) fun r hv => aBool r fun x => some (x, hv)))) (some (false, h))) fun c hv_1 => some (.bool c, hv_1)
  | _ => none
noncomputable def X_world_New : XPoly := fun G _ call run a h => match a with
  | [.agg ⟨p⟩] =>
  nw (.cells Y_api_Plan false p) h fun b hv => gAgg ⟨b, 0, none⟩ 3 hv fun x => bnd (call F_world_Check [.agg ⟨x⟩] hv) fun r hv_1 => aInt .i64 r fun x_1 => cond (ineF x_1 0)
      (some (.tuple ⟨[.pointer none, .int .i64 x_1]⟩, hv_1))
      (gAgg ⟨b, 0, none⟩ 3 hv_1 fun x_2 => bnd (call F_world_Boot [.agg ⟨x_2⟩] hv_1) fun r_1 hv_2 => aAgg r_1 fun x_3 => bnd (call F_kern_New [.agg ⟨x_3⟩] hv_2) fun r_2 hv_3 => as2 r_2 fun r_3 r_4 => aPtr r_3 fun x_4 => aInt .i64 r_4 fun x_5 => cond (ineF x_5 0)
      (some (.tuple ⟨[.pointer none, .int .i64 x_5]⟩, hv_3))
      (nw (.cells Y_bool false []) hv_3 fun b_1 hv_4 => gSl (Addr.add ⟨b, 0, none⟩ 0) hv_4 fun x_6 xn _ => nw (.cells Y_api_Bridge false []) hv_4 fun b_2 hv_5 => gSl (Addr.add ⟨b, 0, none⟩ 1) hv_5 fun x_7 xn_1 xc_1 => gInt .i64 (Addr.add ⟨b, 0, none⟩ 2) hv_5 fun x_8 => gCells x_6 (xn * 1) hv_5 fun cs => ckB (fitsOpen (some ⟨b_1, 0, none⟩) Y_bool hv_5) (apd Y_bool 1 (some ⟨b_1, 0, none⟩) 0 0 xn cs hv_5 fun a an ac hv_6 => gSl (Addr.add ⟨b, 0, none⟩ 1) hv_6 fun x_9 xn_2 xc_2 => same (.slice x_7 xn_1 xc_1) (.slice x_9 xn_2 xc_2) (gInt .i64 (Addr.add ⟨b, 0, none⟩ 2) hv_6 fun x_10 => same (.int .i64 x_8) (.int .i64 x_10) (gCells x_7 (xn_1 * 2) hv_6 fun cs_1 => ckB (fitsOpen (some ⟨b_2, 0, none⟩) Y_api_Bridge hv_6) (apd Y_api_Bridge 2 (some ⟨b_2, 0, none⟩) 0 0 xn_1 cs_1 hv_6 fun a_1 an_1 ac_1 hv_7 => gInt .i64 (Addr.add ⟨b, 0, none⟩ 2) hv_7 fun x_11 => same (.int .i64 x_8) (.int .i64 x_11) (nw (.cells Y_world_World false [.slice a an ac, .slice a_1 an_1 ac_1, .int .i64 x_8, .pointer x_4, .slice none 0 0]) hv_7 fun b_3 hv_8 => gSl (Addr.add ⟨b, 0, none⟩ 0) hv_8 fun _ xn_3 _ => run F_world_New 3018 [.pointer x_4, .pointer (some ⟨b_3, 0, none⟩), .int .i64 ((xn_3 : Nat) : Int), .int .i64 0] hv_8)))))))
  | _ => none
noncomputable def X_world_New_L1 : XPoly := fun G _ call run a h => match a with
  | [.pointer k, .pointer (some wv), .int .i64 x43, .int .i64 x44] =>
  cond (iltF x44 x43)
      (bnd (call F_world_World_begin [.pointer (some wv), .int .i64 x44] h) fun r hv => as0 r (run F_world_New 8028 [.pointer k, .pointer (some wv), .int .i64 x44, .slice none 0 0, .int .i64 x43, .int .i64 x44, .int .i64 0] hv))
      (some (.tuple ⟨[.pointer (some wv), .int .i64 0]⟩, h))
  | _ => none
noncomputable def LB_world_New_L1 : Lab := ⟨F_world_New, 3018, T_world_New_L1, [5, 7, 43, 44], X_world_New_L1⟩
noncomputable def X_world_New_L2 : XPoly := fun G _ call run a h => match a with
  | [.pointer k, .pointer (some wv), .int .i64 s, .slice l ln lc, .int .i64 x43, .int .i64 x44, .int .i64 x50] =>
  cond (iltF x50 8)
      (bnd (call F_host_New [.pointer k, .int .i64 (wrapF .i64 ((wrapF .i64 (9 * s)) + x50)), .int .i64 x50, .int .i64 s] h) fun r hv => as2 r fun r_1 r_2 => aPtr r_1 fun x => aInt .i64 r_2 fun _ => nw (.cells Y_p_host_Host false [.pointer x]) hv fun b hv_1 => gCells (some ⟨b, 0, none⟩) (1 * 1) hv_1 fun cs => ckB (fitsOpen l Y_p_host_Host hv_1) (apd Y_p_host_Host 1 l ln lc 1 cs hv_1 fun a an ac hv_2 => run F_world_New 8028 [.pointer k, .pointer (some wv), .int .i64 s, .slice a an ac, .int .i64 x43, .int .i64 x44, .int .i64 (wrapF .i64 (x50 + 1))] hv_2))
      (gSl (Addr.add wv 4) h fun x_2 xn xc => nw (.cells Y_s_p_host_Host false [.slice l ln lc]) h fun b_1 hv_3 => gCells (some ⟨b_1, 0, none⟩) (1 * 1) hv_3 fun cs_1 => ckB (fitsOpen x_2 Y_s_p_host_Host hv_3) (apd Y_s_p_host_Host 1 x_2 xn xc 1 cs_1 hv_3 fun a_1 an_1 ac_1 hv_4 => pV (Addr.add wv 4) (.slice a_1 an_1 ac_1) hv_4 fun hv_5 => run F_world_New 3018 [.pointer k, .pointer (some wv), .int .i64 x43, .int .i64 (wrapF .i64 (x44 + 1))] hv_5))
  | _ => none
noncomputable def LB_world_New_L2 : Lab := ⟨F_world_New, 8028, T_world_New_L2, [5, 7, 8, 9, 43, 44, 50], X_world_New_L2⟩
noncomputable def X_world_World_Do : XPoly := fun G _ call run a h => match a with
  | [.pointer wv, .agg ⟨s⟩] =>
  nw (.cells Y_api_Step false s) h fun b hv => nw (.cells Y_api_Out false [.int .i64 0, .int .i64 0, .int .i64 0, .int .i64 0, .int .i64 0, .slice none 0 0, .int .i64 0, .int .i64 0, .slice none 0 0, .bool false, .slice none 0 0, .int .i64 0]) hv fun b_1 hv_1 => gInt .i64 (Addr.add ⟨b, 0, none⟩ 1) hv_1 fun x => gInt .i64 (Addr.add ⟨b, 0, none⟩ 2) hv_1 fun x_1 => bnd (call F_world_World_Host [.pointer wv, .int .i64 x, .int .i64 x_1] hv_1) fun r hv_2 => aPtr r fun x_2 => gInt .i64 (Addr.add ⟨b, 0, none⟩ 0) hv_2 fun x_3 => cond (ieqF x_3 2)
      (gAgg ⟨b, 0, none⟩ 16 hv_2 fun x_4 => bnd (call F_world_World_pick [.pointer wv, .agg ⟨x_4⟩] hv_2) fun r_1 hv_3 => as2 r_1 fun r_2 r_3 => aAgg r_2 fun x_5 => aBool r_3 fun x_6 => ck (List.length x_5 = 12) (pAgg ⟨b_1, 0, none⟩ x_5 hv_3 fun hv_4 => gAgg ⟨b_1, 0, none⟩ 12 hv_4 fun x_7 => some (.tuple ⟨[.agg ⟨x_7⟩, .bool x_6]⟩, hv_4)))
      (cond (ieqF x_3 3)
      (aSome wv fun p => gPtr (Addr.add p 3) hv_2 fun x_8 => gInt .i64 (Addr.add ⟨b, 0, none⟩ 3) hv_2 fun x_9 => bnd (call F_kern_Kern_Tick [.pointer x_8, .int .i64 x_9] hv_2) fun r_4 hv_5 => aInt .i64 r_4 fun _ => pAgg ⟨b_1, 0, none⟩ [.int .i64 0, .int .i64 0, .int .i64 0, .int .i64 0, .int .i64 0, .slice none 0 0, .int .i64 0, .int .i64 0, .slice none 0 0, .bool false, .slice none 0 0, .int .i64 0] hv_5 fun hv_6 => gAgg ⟨b_1, 0, none⟩ 12 hv_6 fun x_11 => some (.tuple ⟨[.agg ⟨x_11⟩, .bool false]⟩, hv_6))
      (cond (ieqF x_3 1)
      (cond (!x_2.isNone)
      (gAgg (Addr.add ⟨b, 0, none⟩ 5) 4 hv_2 fun x_12 => bnd (call F_host_Host_Start [.pointer x_2, .agg ⟨x_12⟩] hv_2) fun r_5 hv_7 => aBool r_5 fun _ => pAgg ⟨b_1, 0, none⟩ [.int .i64 0, .int .i64 0, .int .i64 0, .int .i64 0, .int .i64 0, .slice none 0 0, .int .i64 0, .int .i64 0, .slice none 0 0, .bool false, .slice none 0 0, .int .i64 0] hv_7 fun hv_8 => gAgg ⟨b_1, 0, none⟩ 12 hv_8 fun x_14 => some (.tuple ⟨[.agg ⟨x_14⟩, .bool false]⟩, hv_8))
      (pAgg ⟨b_1, 0, none⟩ [.int .i64 0, .int .i64 0, .int .i64 0, .int .i64 0, .int .i64 0, .slice none 0 0, .int .i64 0, .int .i64 0, .slice none 0 0, .bool false, .slice none 0 0, .int .i64 0] hv_2 fun hv_9 => gAgg ⟨b_1, 0, none⟩ 12 hv_9 fun x_15 => some (.tuple ⟨[.agg ⟨x_15⟩, .bool false]⟩, hv_9)))
      (cond (ieqF x_3 4)
      (bnd (cond (!x_2.isNone) (gSl (Addr.add ⟨b, 0, none⟩ 4) hv_2 fun _ xn _ => some (ileF ((xn : Nat) : Int) 32, hv_2)) (some (false, hv_2))) fun c hv_10 => cond c
      (gSl (Addr.add ⟨b, 0, none⟩ 4) hv_10 fun x_17 xn_1 xc_1 => bnd (call F_host_Host_Commons [.pointer x_2] hv_10) fun r_6 hv_11 => aPtr r_6 fun x_18 => gSl (Addr.add ⟨b, 0, none⟩ 4) hv_11 fun x_19 xn_2 xc_2 => same (.slice x_17 xn_1 xc_1) (.slice x_19 xn_2 xc_2) (bnd (call F_pipes_Type [.pointer x_18, .slice x_17 xn_1 xc_1] hv_11) fun r_7 hv_12 => aInt .i64 r_7 fun _ => pAgg ⟨b_1, 0, none⟩ [.int .i64 0, .int .i64 0, .int .i64 0, .int .i64 0, .int .i64 0, .slice none 0 0, .int .i64 0, .int .i64 0, .slice none 0 0, .bool false, .slice none 0 0, .int .i64 0] hv_12 fun hv_13 => gAgg ⟨b_1, 0, none⟩ 12 hv_13 fun x_21 => some (.tuple ⟨[.agg ⟨x_21⟩, .bool false]⟩, hv_13)))
      (pAgg ⟨b_1, 0, none⟩ [.int .i64 0, .int .i64 0, .int .i64 0, .int .i64 0, .int .i64 0, .slice none 0 0, .int .i64 0, .int .i64 0, .slice none 0 0, .bool false, .slice none 0 0, .int .i64 0] hv_10 fun hv_14 => gAgg ⟨b_1, 0, none⟩ 12 hv_14 fun x_22 => some (.tuple ⟨[.agg ⟨x_22⟩, .bool false]⟩, hv_14)))
      (cond (ieqF x_3 5)
      (gInt .i64 (Addr.add ⟨b, 0, none⟩ 1) hv_2 fun x_23 => bnd (cond (ileF 0 x_23) (gInt .i64 (Addr.add ⟨b, 0, none⟩ 1) hv_2 fun x_24 => aSome wv fun p_1 => gSl (Addr.add (Addr.add p_1 0) 0) hv_2 fun _ xn_3 _ => some (iltF x_24 ((xn_3 : Nat) : Int), hv_2)) (some (false, hv_2))) fun c_1 hv_15 => bnd (cond c_1 (aSome wv fun p_2 => gSl (Addr.add (Addr.add p_2 0) 0) hv_15 fun x_26 xn_4 _ => gInt .i64 (Addr.add ⟨b, 0, none⟩ 1) hv_15 fun x_27 => aSome x_26 fun p_3 => ckRF x_27 xn_4 (gBool (Addr.add (bare p_3) (Int.toNat x_27 * 1)) hv_15 fun x_28 => some (x_28, hv_15))) (some (false, hv_15))) fun c_2 hv_16 => cond c_2
      (aSome wv fun p_4 => gPtr (Addr.add p_4 3) hv_16 fun x_29 => gInt .i64 (Addr.add ⟨b, 0, none⟩ 1) hv_16 fun x_30 => gAgg (Addr.add ⟨b, 0, none⟩ 9) 7 hv_16 fun x_31 => bnd (call F_kern_Kern_Do [.pointer x_29, .int .i64 (wrapF .i64 ((wrapF .i64 (9 * x_30)) + 8)), .agg ⟨x_31⟩] hv_16) fun r_8 hv_17 => aAgg r_8 fun _ => pAgg ⟨b_1, 0, none⟩ [.int .i64 0, .int .i64 0, .int .i64 0, .int .i64 0, .int .i64 0, .slice none 0 0, .int .i64 0, .int .i64 0, .slice none 0 0, .bool false, .slice none 0 0, .int .i64 0] hv_17 fun hv_18 => gAgg ⟨b_1, 0, none⟩ 12 hv_18 fun x_33 => some (.tuple ⟨[.agg ⟨x_33⟩, .bool false]⟩, hv_18))
      (pAgg ⟨b_1, 0, none⟩ [.int .i64 0, .int .i64 0, .int .i64 0, .int .i64 0, .int .i64 0, .slice none 0 0, .int .i64 0, .int .i64 0, .slice none 0 0, .bool false, .slice none 0 0, .int .i64 0] hv_16 fun hv_19 => gAgg ⟨b_1, 0, none⟩ 12 hv_19 fun x_34 => some (.tuple ⟨[.agg ⟨x_34⟩, .bool false]⟩, hv_19)))
      (pAgg ⟨b_1, 0, none⟩ [.int .i64 0, .int .i64 0, .int .i64 0, .int .i64 0, .int .i64 0, .slice none 0 0, .int .i64 0, .int .i64 0, .slice none 0 0, .bool false, .slice none 0 0, .int .i64 0] hv_2 fun hv_20 => gAgg ⟨b_1, 0, none⟩ 12 hv_20 fun x_35 => some (.tuple ⟨[.agg ⟨x_35⟩, .bool false]⟩, hv_20))))))
  | _ => none
noncomputable def X_bytes_Equal : XPoly := fun G _ call run a h => match a with
  | [.slice a an ac, .slice b bn bc] =>
  gCells a an h fun cs => asBytes cs fun l => gCells b bn h fun cs_1 => asBytes cs_1 fun l_1 => some (.bool ((ByteArray.mk ⟨l⟩).toList == (ByteArray.mk ⟨l_1⟩).toList), h)
  | _ => none
noncomputable def X_kern_New : XPoly := fun G _ call run a h => match a with
  | [.agg ⟨c⟩] =>
  nw (.cells Y_api_Boot false c) h fun b hv => gAgg ⟨b, 0, none⟩ 5 hv fun x => bnd (call F_kern_check [.agg ⟨x⟩] hv) fun r hv_1 => aBool r fun x_1 => cond (!x_1)
      (some (.tuple ⟨[.pointer none, .int .i64 1]⟩, hv_1))
      (gSl (Addr.add ⟨b, 0, none⟩ 0) hv_1 fun x_2 xn xc => run F_kern_New 3010 [.pointer (some ⟨b, 0, none⟩), .int .i64 0, .slice x_2 xn xc, .int .i64 ((xn : Nat) : Int), .int .i64 0] hv_1)
  | _ => none
noncomputable def X_kern_New_L1 : XPoly := fun G _ call run a h => match a with
  | [.pointer (some c), .int .i64 all, .slice x20 x20n x20c, .int .i64 x21, .int .i64 x22] =>
  cond (iltF x22 x21)
      (aSome x20 fun p => ckRF x22 x20n (gInt .i64 (Addr.add (bare p) (Int.toNat x22 * 1)) h fun x => bnd (call F_kern_frames [.int .i64 x] h) fun r hv => aInt .i64 r fun x_1 => run F_kern_New 3010 [.pointer (some c), .int .i64 (wrapF .i64 (all + x_1)), .slice x20 x20n x20c, .int .i64 x21, .int .i64 (wrapF .i64 (x22 + 1))] hv))
      (gSl (Addr.add c 1) h fun x_2 xn xc => gSl (Addr.add c 1) h fun x_3 xn_1 xc_1 => gSl (Addr.add c 0) h fun x_4 xn_2 xc_2 => bnd (call F_slices_Clone_s_int_int [.slice x_2 xn xc] h) fun r_1 hv_1 => aSl r_1 fun x_5 xn_3 xc_3 => gSl (Addr.add c 1) hv_1 fun x_6 xn_4 xc_4 => same (.slice x_3 xn_1 xc_1) (.slice x_6 xn_4 xc_4) (gSl (Addr.add c 0) hv_1 fun x_7 xn_5 xc_5 => same (.slice x_4 xn_2 xc_2) (.slice x_7 xn_5 xc_5) (bnd (call F_mem_New [.int .i64 all] hv_1) fun r_2 hv_2 => aPtr r_2 fun x_8 => gSl (Addr.add c 1) hv_2 fun x_9 xn_6 xc_6 => same (.slice x_3 xn_1 xc_1) (.slice x_9 xn_6 xc_6) (gSl (Addr.add c 0) hv_2 fun x_10 xn_7 xc_7 => same (.slice x_4 xn_2 xc_2) (.slice x_10 xn_7 xc_7) (bnd (call F_caps_New [.int .i64 ((xn_1 : Nat) : Int)] hv_2) fun r_3 hv_3 => aPtr r_3 fun x_11 => gSl (Addr.add c 0) hv_3 fun x_12 xn_8 xc_8 => same (.slice x_4 xn_2 xc_2) (.slice x_12 xn_8 xc_8) (bnd (call F_quota_New [.slice x_4 xn_2 xc_2] hv_3) fun r_4 hv_4 => aPtr r_4 fun x_13 => nw (.cells Y_kern_Kern false [.slice x_5 xn_3 xc_3, .slice none 0 0, .pointer x_8, .pointer x_11, .pointer x_13, .pointer none, .slice none 0 0, .int .i64 0]) hv_4 fun b hv_5 => gPtr (Addr.add ⟨b, 0, none⟩ 2) hv_5 fun x_14 => gPtr (Addr.add ⟨b, 0, none⟩ 3) hv_5 fun x_15 => bnd (call F_region_New [.pointer x_14, .pointer x_15] hv_5) fun r_5 hv_6 => aPtr r_5 fun x_16 => pV (Addr.add ⟨b, 0, none⟩ 5) (.pointer x_16) hv_6 fun hv_7 => gSl (Addr.add c 2) hv_7 fun x_17 xn_9 xc_9 => run F_kern_New 3024 [.pointer (some c), .pointer (some ⟨b, 0, none⟩), .slice x_17 xn_9 xc_9, .int .i64 ((xn_9 : Nat) : Int), .int .i64 0] hv_7))))))
  | _ => none
noncomputable def LB_kern_New_L1 : Lab := ⟨F_kern_New, 3010, T_kern_New_L1, [1, 4, 20, 21, 22], X_kern_New_L1⟩
noncomputable def X_kern_New_L2 : XPoly := fun G _ call run a h => match a with
  | [.pointer (some c), .pointer (some k), .slice x58 x58n x58c, .int .i64 x59, .int .i64 x60] =>
  cond (iltF x60 x59)
      (aSome x58 fun p => ckRF x60 x58n (gSl (Addr.add (bare p) (Int.toNat x60 * 1)) h fun x xn xc => gSl (Addr.add k 1) h fun x_1 xn_1 xc_1 => bnd (call F_slices_Clone_s_int_int [.slice x xn xc] h) fun r hv => aSl r fun x_2 xn_2 xc_2 => gSl (Addr.add k 1) hv fun x_3 xn_3 xc_3 => same (.slice x_1 xn_1 xc_1) (.slice x_3 xn_3 xc_3) (nw (.cells Y_s_int false [.slice x_2 xn_2 xc_2]) hv fun b hv_1 => gCells (some ⟨b, 0, none⟩) (1 * 1) hv_1 fun cs => ckB (fitsOpen x_1 Y_s_int hv_1) (apd Y_s_int 1 x_1 xn_1 xc_1 1 cs hv_1 fun a an ac hv_2 => pV (Addr.add k 1) (.slice a an ac) hv_2 fun hv_3 => gSl (Addr.add k 6) hv_3 fun x_4 xn_4 xc_4 => gInt .i64 (Addr.add c 3) hv_3 fun x_5 => bnd (call F_sect_New [.int .i64 x_5] hv_3) fun r_1 hv_4 => aPtr r_1 fun x_6 => gSl (Addr.add k 6) hv_4 fun x_7 xn_5 xc_5 => same (.slice x_4 xn_4 xc_4) (.slice x_7 xn_5 xc_5) (nw (.cells Y_p_sect_Sect false [.pointer x_6]) hv_4 fun b_1 hv_5 => gCells (some ⟨b_1, 0, none⟩) (1 * 1) hv_5 fun cs_1 => ckB (fitsOpen x_4 Y_p_sect_Sect hv_5) (apd Y_p_sect_Sect 1 x_4 xn_4 xc_4 1 cs_1 hv_5 fun a_1 an_1 ac_1 hv_6 => pV (Addr.add k 6) (.slice a_1 an_1 ac_1) hv_6 fun hv_7 => run F_kern_New 3024 [.pointer (some c), .pointer (some k), .slice x58 x58n x58c, .int .i64 x59, .int .i64 (wrapF .i64 (x60 + 1))] hv_7))))))
      (gSl (Addr.add c 4) h fun x_8 xn_6 xc_6 => run F_kern_New 3036 [.pointer (some k), .slice x_8 xn_6 xc_6, .int .i64 ((xn_6 : Nat) : Int), .int .i64 0] h)
  | _ => none
noncomputable def LB_kern_New_L2 : Lab := ⟨F_kern_New, 3024, T_kern_New_L2, [1, 7, 58, 59, 60], X_kern_New_L2⟩
noncomputable def X_kern_New_L3 : XPoly := fun G _ call run a h => match a with
  | [.pointer (some k), .slice x89 x89n x89c, .int .i64 x90, .int .i64 x91] =>
  cond (iltF x91 x90)
      (aSome x89 fun p => ckRF x91 x89n (gAgg (Addr.add (bare p) (Int.toNat x91 * 5)) 5 h fun x => nw (.cells Y_api_Share false [.int .i64 0, .int .i64 0, .int .i64 0, .int .i64 0, .slice none 0 0]) h fun b hv => ck (List.length x = 5) (pAgg ⟨b, 0, none⟩ x hv fun hv_1 => gPtr (Addr.add k 5) hv_1 fun x_1 => gPtr (Addr.add k 4) hv_1 fun x_2 => gInt .i64 (Addr.add ⟨b, 0, none⟩ 0) hv_1 fun x_3 => gInt .i64 (Addr.add ⟨b, 0, none⟩ 1) hv_1 fun x_4 => gInt .i64 (Addr.add ⟨b, 0, none⟩ 2) hv_1 fun x_5 => gInt .i64 (Addr.add ⟨b, 0, none⟩ 3) hv_1 fun x_6 => bnd (call F_quota_Quota_First [.pointer x_2, .int .i64 x_3] hv_1) fun r hv_2 => aInt .i64 r fun x_7 => gPtr (Addr.add k 5) hv_2 fun x_8 => same (.pointer x_1) (.pointer x_8) (gInt .i64 (Addr.add ⟨b, 0, none⟩ 1) hv_2 fun x_9 => same (.int .i64 x_4) (.int .i64 x_9) (gInt .i64 (Addr.add ⟨b, 0, none⟩ 2) hv_2 fun x_10 => same (.int .i64 x_5) (.int .i64 x_10) (gInt .i64 (Addr.add ⟨b, 0, none⟩ 3) hv_2 fun x_11 => same (.int .i64 x_6) (.int .i64 x_11) (bnd (call F_region_Regions_Add [.pointer x_1, .int .i64 (wrapF .i64 ((wrapF .i64 ((wrapF .i64 (x_7 + x_4)) * 64)) + x_5)), .int .i64 x_6] hv_2) fun r_1 hv_3 => as2 r_1 fun r_2 r_3 => aInt .i64 r_2 fun x_12 => aInt .i64 r_3 fun _ => gSl (Addr.add k 0) hv_3 fun x_14 xn xc => run F_kern_New 7044 [.pointer (some k), .pointer (some ⟨b, 0, none⟩), .int .i64 x_12, .slice x89 x89n x89c, .int .i64 x90, .int .i64 x91, .slice x_14 xn xc, .int .i64 ((xn : Nat) : Int), .int .i64 0] hv_3)))))))
      (some (.tuple ⟨[.pointer (some k), .int .i64 0]⟩, h))
  | _ => none
noncomputable def LB_kern_New_L3 : Lab := ⟨F_kern_New, 3036, T_kern_New_L3, [7, 89, 90, 91], X_kern_New_L3⟩
noncomputable def X_kern_New_L4 : XPoly := fun G _ call run a h => match a with
  | [.pointer (some k), .pointer (some x), .int .i64 obj, .slice x89 x89n x89c, .int .i64 x90, .int .i64 x91, .slice x122 x122n x122c, .int .i64 x123, .int .i64 x124] =>
  cond (iltF x124 x123)
      (aSome x122 fun p => ckRF x124 x122n (gInt .i64 (Addr.add (bare p) (Int.toNat x124 * 1)) h fun x_1 => gSl (Addr.add x 4) h fun x_2 xn xc => bnd (call F_slices_Contains_s_int_int [.slice x_2 xn xc, .int .i64 x_1] h) fun r hv => aBool r fun x_3 => cond x_3
      (gPtr (Addr.add k 3) hv fun x_4 => gInt .i64 (Addr.add x 3) hv fun x_5 => bnd (call F_caps_Space_Put [.pointer x_4, .int .i64 x124, .agg ⟨[.int .i64 obj, .int .i64 3, .int .i64 0, .int .i64 x_5, .int .i64 0, .int .i64 0]⟩] hv) fun r_1 hv_1 => as2 r_1 fun r_2 r_3 => aInt .i64 r_2 fun _ => aInt .i64 r_3 fun _ => run F_kern_New 7044 [.pointer (some k), .pointer (some x), .int .i64 obj, .slice x89 x89n x89c, .int .i64 x90, .int .i64 x91, .slice x122 x122n x122c, .int .i64 x123, .int .i64 (wrapF .i64 (x124 + 1))] hv_1)
      (run F_kern_New 7044 [.pointer (some k), .pointer (some x), .int .i64 obj, .slice x89 x89n x89c, .int .i64 x90, .int .i64 x91, .slice x122 x122n x122c, .int .i64 x123, .int .i64 (wrapF .i64 (x124 + 1))] hv)))
      (run F_kern_New 3036 [.pointer (some k), .slice x89 x89n x89c, .int .i64 x90, .int .i64 (wrapF .i64 (x91 + 1))] h)
  | _ => none
noncomputable def LB_kern_New_L4 : Lab := ⟨F_kern_New, 7044, T_kern_New_L4, [7, 11, 12, 89, 90, 91, 122, 123, 124], X_kern_New_L4⟩
noncomputable def X_world_Boot : XPoly := fun G _ call run a h => match a with
  | [.agg ⟨p⟩] =>
  nw (.cells Y_api_Plan false p) h fun b hv => nw (.cells Y_api_Boot false [.slice none 0 0, .slice none 0 0, .slice none 0 0, .int .i64 0, .slice none 0 0]) hv fun b_1 hv_1 => gAgg ⟨b, 0, none⟩ 3 hv_1 fun x => bnd (call F_world_Check [.agg ⟨x⟩] hv_1) fun r hv_2 => aInt .i64 r fun x_1 => cond (ineF x_1 0)
      (pAgg ⟨b_1, 0, none⟩ [.slice none 0 0, .slice none 0 0, .slice none 0 0, .int .i64 0, .slice none 0 0] hv_2 fun hv_3 => gAgg ⟨b_1, 0, none⟩ 5 hv_3 fun x_2 => some (.agg ⟨x_2⟩, hv_3))
      (gInt .i64 (Addr.add ⟨b, 0, none⟩ 2) hv_2 fun x_3 => nw (.cells Y_api_Boot false [.slice none 0 0, .slice none 0 0, .slice none 0 0, .int .i64 0, .slice none 0 0]) hv_2 fun b_2 hv_4 => pAgg ⟨b_2, 0, none⟩ [.slice none 0 0, .slice none 0 0, .slice none 0 0, .int .i64 x_3, .slice none 0 0] hv_4 fun hv_5 => gSl (Addr.add ⟨b, 0, none⟩ 0) hv_5 fun _ xn _ => run F_world_Boot 3010 [.pointer (some ⟨b, 0, none⟩), .pointer (some ⟨b_1, 0, none⟩), .pointer (some ⟨b_2, 0, none⟩), .int .i64 ((xn : Nat) : Int), .int .i64 0] hv_5)
  | _ => none
noncomputable def X_world_Boot_L1 : XPoly := fun G _ call run a h => match a with
  | [.pointer (some p), .pointer (some x2), .pointer (some c), .int .i64 x16, .int .i64 x17] =>
  cond (iltF x17 x16)
      (gSl (Addr.add c 0) h fun x xn xc => nw (.cells Y_int false [.int .i64 20]) h fun b hv => gCells (some ⟨b, 0, none⟩) (1 * 1) hv fun cs => ckB (fitsOpen x Y_int hv) (apd Y_int 1 x xn xc 1 cs hv fun a an ac hv_1 => pV (Addr.add c 0) (.slice a an ac) hv_1 fun hv_2 => run F_world_Boot 8018 [.pointer (some p), .pointer (some x2), .pointer (some c), .int .i64 x17, .int .i64 x16, .int .i64 x17, .int .i64 0] hv_2))
      (gSl (Addr.add p 1) h fun x_1 xn_1 xc_1 => run F_world_Boot 3032 [.pointer (some x2), .pointer (some c), .slice x_1 xn_1 xc_1, .int .i64 ((xn_1 : Nat) : Int), .int .i64 0] h)
  | _ => none
noncomputable def LB_world_Boot_L1 : Lab := ⟨F_world_Boot, 3010, T_world_Boot_L1, [1, 2, 3, 16, 17], X_world_Boot_L1⟩
noncomputable def X_world_Boot_L2 : XPoly := fun G _ call run a h => match a with
  | [.pointer (some p), .pointer (some x2), .pointer (some c), .int .i64 s, .int .i64 x16, .int .i64 x17, .int .i64 x25] =>
  cond (iltF x25 9)
      (gSl (Addr.add c 1) h fun x xn xc => nw (.cells Y_int false [.int .i64 s]) h fun b hv => gCells (some ⟨b, 0, none⟩) (1 * 1) hv fun cs => ckB (fitsOpen x Y_int hv) (apd Y_int 1 x xn xc 1 cs hv fun a an ac hv_1 => pV (Addr.add c 1) (.slice a an ac) hv_1 fun hv_2 => run F_world_Boot 8018 [.pointer (some p), .pointer (some x2), .pointer (some c), .int .i64 s, .int .i64 x16, .int .i64 x17, .int .i64 (wrapF .i64 (x25 + 1))] hv_2))
      (gSl (Addr.add c 2) h fun x_1 xn_1 xc_1 => nw (.cells Y_int false [.int .i64 s]) h fun b_1 hv_3 => nw (.cells Y_s_int false [.slice (some ⟨b_1, 0, none⟩) 1 1]) hv_3 fun b_2 hv_4 => gCells (some ⟨b_2, 0, none⟩) (1 * 1) hv_4 fun cs_1 => ckB (fitsOpen x_1 Y_s_int hv_4) (apd Y_s_int 1 x_1 xn_1 xc_1 1 cs_1 hv_4 fun a_1 an_1 ac_1 hv_5 => pV (Addr.add c 2) (.slice a_1 an_1 ac_1) hv_5 fun hv_6 => gSl (Addr.add c 4) hv_6 fun x_2 xn_2 xc_2 => nw (.cells Y_int false [.int .i64 s]) hv_6 fun b_3 hv_7 => nw (.cells Y_api_Share false [.int .i64 s, .int .i64 0, .int .i64 0, .int .i64 492, .slice (some ⟨b_3, 0, none⟩) 1 1]) hv_7 fun b_4 hv_8 => gCells (some ⟨b_4, 0, none⟩) (1 * 5) hv_8 fun cs_2 => ckB (fitsOpen x_2 Y_api_Share hv_8) (apd Y_api_Share 5 x_2 xn_2 xc_2 1 cs_2 hv_8 fun a_2 an_2 ac_2 hv_9 => pV (Addr.add c 4) (.slice a_2 an_2 ac_2) hv_9 fun hv_10 => run F_world_Boot 3010 [.pointer (some p), .pointer (some x2), .pointer (some c), .int .i64 x16, .int .i64 (wrapF .i64 (x17 + 1))] hv_10)))
  | _ => none
noncomputable def LB_world_Boot_L2 : Lab := ⟨F_world_Boot, 8018, T_world_Boot_L2, [1, 2, 3, 4, 16, 17, 25], X_world_Boot_L2⟩
noncomputable def X_world_Boot_L3 : XPoly := fun G _ call run a h => match a with
  | [.pointer (some x2), .pointer (some c), .slice x52 x52n x52c, .int .i64 x53, .int .i64 x54] =>
  cond (iltF x54 x53)
      (aSome x52 fun p => ckRF x54 x52n (gAgg (Addr.add (bare p) (Int.toNat x54 * 2)) 2 h fun x => nw (.cells Y_api_Bridge false [.int .i64 0, .int .i64 0]) h fun b hv => ck (List.length x = 2) (pAgg ⟨b, 0, none⟩ x hv fun hv_1 => gSl (Addr.add c 4) hv_1 fun x_1 xn xc => gInt .i64 (Addr.add ⟨b, 0, none⟩ 0) hv_1 fun x_2 => gInt .i64 (Addr.add ⟨b, 0, none⟩ 0) hv_1 fun x_3 => gInt .i64 (Addr.add ⟨b, 0, none⟩ 1) hv_1 fun x_4 => nw (.cells Y_int false [.int .i64 x_3, .int .i64 x_4]) hv_1 fun b_1 hv_2 => nw (.cells Y_api_Share false [.int .i64 x_2, .int .i64 (wrapF .i64 (8 + x54)), .int .i64 0, .int .i64 40, .slice (some ⟨b_1, 0, none⟩) 2 2]) hv_2 fun b_2 hv_3 => gCells (some ⟨b_2, 0, none⟩) (1 * 5) hv_3 fun cs => ckB (fitsOpen x_1 Y_api_Share hv_3) (apd Y_api_Share 5 x_1 xn xc 1 cs hv_3 fun a an ac hv_4 => pV (Addr.add c 4) (.slice a an ac) hv_4 fun hv_5 => run F_world_Boot 3032 [.pointer (some x2), .pointer (some c), .slice x52 x52n x52c, .int .i64 x53, .int .i64 (wrapF .i64 (x54 + 1))] hv_5))))
      (gAgg c 5 h fun x_5 => ck (List.length x_5 = 5) (pAgg x2 x_5 h fun hv_6 => gAgg x2 5 hv_6 fun x_6 => some (.agg ⟨x_6⟩, hv_6)))
  | _ => none
noncomputable def LB_world_Boot_L3 : Lab := ⟨F_world_Boot, 3032, T_world_Boot_L3, [2, 3, 52, 53, 54], X_world_Boot_L3⟩
noncomputable def X_ring_Decode : XPoly := fun G _ call run a h => match a with
  | [.slice b bn bc] =>
  nw (.cells Y_api_Pipe false [.int .i64 0, .int .i64 0, .int .i64 0, .int .i64 0, .int .u8 0, .int .u8 0, .int .u8 0, .int .u8 0, .int .u8 0, .int .u8 0, .int .u8 0, .int .u8 0, .int .u8 0, .int .u8 0, .int .u8 0, .int .u8 0, .int .u8 0, .int .u8 0, .int .u8 0, .int .u8 0, .int .u8 0, .int .u8 0, .int .u8 0, .int .u8 0, .int .u8 0, .int .u8 0, .int .u8 0, .int .u8 0, .int .u8 0, .int .u8 0, .int .u8 0, .int .u8 0, .int .u8 0, .int .u8 0, .int .u8 0, .int .u8 0]) h fun b_1 hv => bnd (cond (ieqF ((bn : Nat) : Int) 40) (bnd (call F_codec_Blank [.slice b bn bc] hv) fun r hv_1 => aBool r fun x => some (x, hv_1)) (some (false, hv))) fun c hv_2 => cond c
      (pAgg ⟨b_1, 0, none⟩ [.int .i64 0, .int .i64 0, .int .i64 0, .int .i64 0, .int .u8 0, .int .u8 0, .int .u8 0, .int .u8 0, .int .u8 0, .int .u8 0, .int .u8 0, .int .u8 0, .int .u8 0, .int .u8 0, .int .u8 0, .int .u8 0, .int .u8 0, .int .u8 0, .int .u8 0, .int .u8 0, .int .u8 0, .int .u8 0, .int .u8 0, .int .u8 0, .int .u8 0, .int .u8 0, .int .u8 0, .int .u8 0, .int .u8 0, .int .u8 0, .int .u8 0, .int .u8 0, .int .u8 0, .int .u8 0, .int .u8 0, .int .u8 0] hv_2 fun hv_3 => gAgg ⟨b_1, 0, none⟩ 36 hv_3 fun x_1 => some (.tuple ⟨[.agg ⟨x_1⟩, .int .i64 0]⟩, hv_3))
      (bnd (call F_ring_Codec [] hv_2) fun r_1 hv_4 => aPtr r_1 fun x_2 => bnd (call F_codec_Codec_api_Pipe_Decode [.pointer x_2, .slice b bn bc] hv_4) fun r_2 hv_5 => as2 r_2 fun r_3 r_4 => aAgg r_3 fun x_3 => aBool r_4 fun x_4 => nw (.cells Y_api_Pipe false [.int .i64 0, .int .i64 0, .int .i64 0, .int .i64 0, .int .u8 0, .int .u8 0, .int .u8 0, .int .u8 0, .int .u8 0, .int .u8 0, .int .u8 0, .int .u8 0, .int .u8 0, .int .u8 0, .int .u8 0, .int .u8 0, .int .u8 0, .int .u8 0, .int .u8 0, .int .u8 0, .int .u8 0, .int .u8 0, .int .u8 0, .int .u8 0, .int .u8 0, .int .u8 0, .int .u8 0, .int .u8 0, .int .u8 0, .int .u8 0, .int .u8 0, .int .u8 0, .int .u8 0, .int .u8 0, .int .u8 0, .int .u8 0]) hv_5 fun b_2 hv_6 => ck (List.length x_3 = 36) (pAgg ⟨b_2, 0, none⟩ x_3 hv_6 fun hv_7 => cond (!x_4)
      (pAgg ⟨b_1, 0, none⟩ [.int .i64 0, .int .i64 0, .int .i64 0, .int .i64 0, .int .u8 0, .int .u8 0, .int .u8 0, .int .u8 0, .int .u8 0, .int .u8 0, .int .u8 0, .int .u8 0, .int .u8 0, .int .u8 0, .int .u8 0, .int .u8 0, .int .u8 0, .int .u8 0, .int .u8 0, .int .u8 0, .int .u8 0, .int .u8 0, .int .u8 0, .int .u8 0, .int .u8 0, .int .u8 0, .int .u8 0, .int .u8 0, .int .u8 0, .int .u8 0, .int .u8 0, .int .u8 0, .int .u8 0, .int .u8 0, .int .u8 0, .int .u8 0] hv_7 fun hv_8 => gAgg ⟨b_1, 0, none⟩ 36 hv_8 fun x_5 => some (.tuple ⟨[.agg ⟨x_5⟩, .int .i64 2]⟩, hv_8))
      (gAgg ⟨b_2, 0, none⟩ 36 hv_7 fun x_6 => ck (List.length x_6 = 36) (pAgg ⟨b_1, 0, none⟩ x_6 hv_7 fun hv_9 => gAgg ⟨b_1, 0, none⟩ 36 hv_9 fun x_7 => some (.tuple ⟨[.agg ⟨x_7⟩, .int .i64 1]⟩, hv_9)))))
  | _ => none
noncomputable def X_ring_Bytes : XPoly := fun G _ call run a h => match a with
  | [.agg ⟨p⟩] =>
  nw (.cells Y_api_Pipe false p) h fun b hv => gAgg ⟨b, 0, none⟩ 36 hv fun x => bnd (call F_ring_Ok [.agg ⟨x⟩] hv) fun r hv_1 => aBool r fun x_1 => cond (!x_1)
      (some (.slice none 0 0, hv_1))
      (gInt .i64 (Addr.add ⟨b, 0, none⟩ 1) hv_1 fun x_2 => run F_ring_Bytes 3010 [.pointer (some ⟨b, 0, none⟩), .slice none 0 0, .int .i64 x_2, .int .i64 0] hv_1)
  | _ => none
noncomputable def X_ring_Bytes_L1 : XPoly := fun G _ call run a h => match a with
  | [.pointer (some p), .slice out outn outc, .int .i64 x9, .int .i64 x10] =>
  cond (iltF x10 x9)
      (gInt .i64 (Addr.add p 0) h fun x => ckRF (Int.tmod (wrapF .i64 (x + x10)) 32) 32 (gInt .u8 (Addr.add (Addr.add p 4) (Int.toNat (Int.tmod (wrapF .i64 (x + x10)) 32) * 1)) h fun x_1 => nw (.cells Y_uint8 false [.int .u8 x_1]) h fun b hv => gCells (some ⟨b, 0, none⟩) (1 * 1) hv fun cs => ckB (fitsOpen out Y_uint8 hv) (apd Y_uint8 1 out outn outc 1 cs hv fun a an ac hv_1 => run F_ring_Bytes 3010 [.pointer (some p), .slice a an ac, .int .i64 x9, .int .i64 (wrapF .i64 (x10 + 1))] hv_1)))
      (some (.slice out outn outc, h))
  | _ => none
noncomputable def LB_ring_Bytes_L1 : Lab := ⟨F_ring_Bytes, 3010, T_ring_Bytes_L1, [1, 3, 9, 10], X_ring_Bytes_L1⟩
noncomputable def X_world_World_pick : XPoly := fun G _ call run a h => match a with
  | [.pointer wv, .agg ⟨s⟩] =>
  nw (.cells Y_api_Step false s) h fun b hv => nw (.cells Y_api_Out false [.int .i64 0, .int .i64 0, .int .i64 0, .int .i64 0, .int .i64 0, .slice none 0 0, .int .i64 0, .int .i64 0, .slice none 0 0, .bool false, .slice none 0 0, .int .i64 0]) hv fun b_1 hv_1 => gInt .i64 (Addr.add ⟨b, 0, none⟩ 1) hv_1 fun x => gInt .i64 (Addr.add ⟨b, 0, none⟩ 2) hv_1 fun x_1 => bnd (call F_world_World_Host [.pointer wv, .int .i64 x, .int .i64 x_1] hv_1) fun r hv_2 => aPtr r fun x_2 => cond x_2.isNone
      (pAgg ⟨b_1, 0, none⟩ [.int .i64 0, .int .i64 0, .int .i64 0, .int .i64 0, .int .i64 0, .slice none 0 0, .int .i64 0, .int .i64 0, .slice none 0 0, .bool false, .slice none 0 0, .int .i64 0] hv_2 fun hv_3 => gAgg ⟨b_1, 0, none⟩ 12 hv_3 fun x_3 => some (.tuple ⟨[.agg ⟨x_3⟩, .bool false]⟩, hv_3))
      (bnd (call F_host_Host_Pick [.pointer x_2] hv_2) fun r_1 hv_4 => as2 r_1 fun r_2 r_3 => aAgg r_2 fun x_4 => aBool r_3 fun x_5 => nw (.cells Y_api_Out false [.int .i64 0, .int .i64 0, .int .i64 0, .int .i64 0, .int .i64 0, .slice none 0 0, .int .i64 0, .int .i64 0, .slice none 0 0, .bool false, .slice none 0 0, .int .i64 0]) hv_4 fun b_2 hv_5 => ck (List.length x_4 = 12) (pAgg ⟨b_2, 0, none⟩ x_4 hv_5 fun hv_6 => cond (!x_5)
      (pAgg ⟨b_1, 0, none⟩ [.int .i64 0, .int .i64 0, .int .i64 0, .int .i64 0, .int .i64 0, .slice none 0 0, .int .i64 0, .int .i64 0, .slice none 0 0, .bool false, .slice none 0 0, .int .i64 0] hv_6 fun hv_7 => gAgg ⟨b_1, 0, none⟩ 12 hv_7 fun x_6 => some (.tuple ⟨[.agg ⟨x_6⟩, .bool false]⟩, hv_7))
      (gInt .i64 (Addr.add ⟨b, 0, none⟩ 1) hv_6 fun x_7 => pV (Addr.add ⟨b_2, 0, none⟩ 0) (.int .i64 x_7) hv_6 fun hv_8 => gBool (Addr.add ⟨b_2, 0, none⟩ 9) hv_8 fun x_8 => bnd (cond x_8 (gInt .i64 (Addr.add (Addr.add ⟨b_2, 0, none⟩ 2) 0) hv_8 fun x_9 => some (ieqF x_9 2, hv_8)) (some (false, hv_8))) fun c hv_9 => bnd (cond c (gInt .i64 (Addr.add ⟨b_2, 0, none⟩ 7) hv_9 fun x_10 => some (ieqF x_10 0, hv_9)) (some (false, hv_9))) fun c_1 hv_10 => cond c_1
      (gInt .i64 (Addr.add ⟨b, 0, none⟩ 1) hv_10 fun x_11 => gInt .i64 (Addr.add ⟨b_2, 0, none⟩ 6) hv_10 fun x_12 => bnd (call F_world_World_Host [.pointer wv, .int .i64 x_11, .int .i64 x_12] hv_10) fun r_4 hv_11 => aPtr r_4 fun x_13 => cond (!x_13.isNone)
      (bnd (call F_host_Host_Fresh [.pointer x_13] hv_11) fun r_5 hv_12 => as0 r_5 (gAgg ⟨b_2, 0, none⟩ 12 hv_12 fun x_14 => ck (List.length x_14 = 12) (pAgg ⟨b_1, 0, none⟩ x_14 hv_12 fun hv_13 => gAgg ⟨b_1, 0, none⟩ 12 hv_13 fun x_15 => some (.tuple ⟨[.agg ⟨x_15⟩, .bool true]⟩, hv_13))))
      (gAgg ⟨b_2, 0, none⟩ 12 hv_11 fun x_16 => ck (List.length x_16 = 12) (pAgg ⟨b_1, 0, none⟩ x_16 hv_11 fun hv_14 => gAgg ⟨b_1, 0, none⟩ 12 hv_14 fun x_17 => some (.tuple ⟨[.agg ⟨x_17⟩, .bool true]⟩, hv_14))))
      (gAgg ⟨b_2, 0, none⟩ 12 hv_10 fun x_18 => ck (List.length x_18 = 12) (pAgg ⟨b_1, 0, none⟩ x_18 hv_10 fun hv_15 => gAgg ⟨b_1, 0, none⟩ 12 hv_15 fun x_19 => some (.tuple ⟨[.agg ⟨x_19⟩, .bool true]⟩, hv_15))))))
  | _ => none
noncomputable def X_host_Host_Commons : XPoly := fun G _ call run a h => match a with
  | [.pointer hv] =>
  aSome hv fun p => gPtr (Addr.add p 4) h fun x => some (.pointer x, h)
  | _ => none
noncomputable def X_kern_check : XPoly := fun G _ call run a h => match a with
  | [.agg ⟨c⟩] =>
  nw (.cells Y_api_Boot false c) h fun b hv => gSl (Addr.add ⟨b, 0, none⟩ 0) hv fun _ xn _ => bnd (cond (iltF ((xn : Nat) : Int) 1) (some (true, hv)) (gSl (Addr.add ⟨b, 0, none⟩ 0) hv fun _ xn_1 _ => some (iltF 4 ((xn_1 : Nat) : Int), hv))) fun c_1 hv_1 => bnd (cond c_1 (some (true, hv_1)) (gSl (Addr.add ⟨b, 0, none⟩ 1) hv_1 fun _ xn_2 _ => some (iltF 40 ((xn_2 : Nat) : Int), hv_1))) fun c_2 hv_2 => bnd (cond c_2 (some (true, hv_2)) (gSl (Addr.add ⟨b, 0, none⟩ 2) hv_2 fun _ xn_3 _ => some (iltF 8 ((xn_3 : Nat) : Int), hv_2))) fun c_3 hv_3 => bnd (cond c_3 (some (true, hv_3)) (gSl (Addr.add ⟨b, 0, none⟩ 4) hv_3 fun _ xn_4 _ => some (iltF 16 ((xn_4 : Nat) : Int), hv_3))) fun c_4 hv_4 => bnd (cond c_4 (some (true, hv_4)) (gInt .i64 (Addr.add ⟨b, 0, none⟩ 3) hv_4 fun x_5 => some (iltF x_5 1, hv_4))) fun c_5 hv_5 => bnd (cond c_5 (some (true, hv_5)) (gInt .i64 (Addr.add ⟨b, 0, none⟩ 3) hv_5 fun x_6 => some (iltF 1000 x_6, hv_5))) fun c_6 hv_6 => cond c_6
      (some (.bool false, hv_6))
      (gSl (Addr.add ⟨b, 0, none⟩ 1) hv_6 fun x_7 xn_5 xc_5 => bnd (call F_slices_ContainsFunc_s_int_int [.slice x_7 xn_5 xc_5, .func (.func F_kern_check_1) ⟨[]⟩ ⟨[.pointer (some ⟨b, 0, none⟩)]⟩] hv_6) fun r hv_7 => aBool r fun x_8 => cond x_8
      (some (.bool false, hv_7))
      (gSl (Addr.add ⟨b, 0, none⟩ 2) hv_7 fun x_9 xn_6 xc_6 => run F_kern_check 3014 [.pointer (some ⟨b, 0, none⟩), .func (.func F_kern_check_1) ⟨[]⟩ ⟨[.pointer (some ⟨b, 0, none⟩)]⟩, .slice x_9 xn_6 xc_6, .int .i64 ((xn_6 : Nat) : Int), .int .i64 0] hv_7))
  | _ => none
noncomputable def X_kern_check_L1 : XPoly := fun G _ call run a h => match a with
  | [.pointer (some c), .func (.func fN0) ⟨[]⟩ ⟨[.pointer (some nonev)]⟩, .slice x52 x52n x52c, .int .i64 x53, .int .i64 x54] =>
  cond (Nat.beq fN0 F_kern_check_1) (cond (iltF x54 x53)
      (aSome x52 fun p => ckRF x54 x52n (gSl (Addr.add (bare p) (Int.toNat x54 * 1)) h fun x xn xc => bnd (call F_slices_ContainsFunc_s_int_int [.slice x xn xc, .func (.func F_kern_check_1) ⟨[]⟩ ⟨[.pointer (some nonev)]⟩] h) fun r hv => aBool r fun x_1 => cond x_1
      (some (.bool false, hv))
      (run F_kern_check 3014 [.pointer (some c), .func (.func F_kern_check_1) ⟨[]⟩ ⟨[.pointer (some nonev)]⟩, .slice x52 x52n x52c, .int .i64 x53, .int .i64 (wrapF .i64 (x54 + 1))] hv)))
      (gSl (Addr.add c 4) h fun x_2 xn_1 xc_1 => run F_kern_check 3026 [.pointer (some c), .func (.func F_kern_check_1) ⟨[]⟩ ⟨[.pointer (some nonev)]⟩, .slice x_2 xn_1 xc_1, .int .i64 ((xn_1 : Nat) : Int), .int .i64 0] h)) none
  | _ => none
noncomputable def LB_kern_check_L1 : Lab := ⟨F_kern_check, 3014, T_kern_check_L1, [1, 3, 52, 53, 54], X_kern_check_L1⟩
noncomputable def X_kern_check_L2 : XPoly := fun G _ call run a h => match a with
  | [.pointer (some c), .func (.func fN0) ⟨[]⟩ ⟨[.pointer (some nonev)]⟩, .slice x63 x63n x63c, .int .i64 x64, .int .i64 x65] =>
  cond (Nat.beq fN0 F_kern_check_1) (cond (iltF x65 x64)
      (aSome x63 fun p => ckRF x65 x63n (gAgg (Addr.add (bare p) (Int.toNat x65 * 5)) 5 h fun x => nw (.cells Y_api_Share false [.int .i64 0, .int .i64 0, .int .i64 0, .int .i64 0, .slice none 0 0]) h fun b hv => ck (List.length x = 5) (pAgg ⟨b, 0, none⟩ x hv fun hv_1 => gAgg c 5 hv_1 fun x_1 => gAgg ⟨b, 0, none⟩ 5 hv_1 fun x_2 => bnd (call F_kern_share [.agg ⟨x_1⟩, .agg ⟨x_2⟩] hv_1) fun r hv_2 => aBool r fun x_3 => bnd (cond (!x_3) (some (true, hv_2)) (gSl (Addr.add ⟨b, 0, none⟩ 4) hv_2 fun x_4 xn xc => bnd (call F_slices_ContainsFunc_s_int_int [.slice x_4 xn xc, .func (.func F_kern_check_1) ⟨[]⟩ ⟨[.pointer (some nonev)]⟩] hv_2) fun r_1 hv_3 => aBool r_1 fun x_5 => some (x_5, hv_3))) fun c_1 hv_4 => cond c_1
      (some (.bool false, hv_4))
      (run F_kern_check 3026 [.pointer (some c), .func (.func F_kern_check_1) ⟨[]⟩ ⟨[.pointer (some nonev)]⟩, .slice x63 x63n x63c, .int .i64 x64, .int .i64 (wrapF .i64 (x65 + 1))] hv_4))))
      (some (.bool true, h))) none
  | _ => none
noncomputable def LB_kern_check_L2 : Lab := ⟨F_kern_check, 3026, T_kern_check_L2, [1, 3, 63, 64, 65], X_kern_check_L2⟩
noncomputable def X_slices_Clone_s_int_int : XPoly := fun G _ call run a h => match a with
  | [.slice s sn sc] =>
  cond s.isNone
      (some (.slice none 0 0, h))
      (nw (.cells Y_int false []) h fun b hv => gCells s (sn * 1) hv fun cs => ckB (fitsOpen (some ⟨b, 0, none⟩) Y_int hv) (apd Y_int 1 (some ⟨b, 0, none⟩) 0 0 sn cs hv fun a an ac hv_1 => some (.slice a an ac, hv_1)))
  | _ => none
noncomputable def X_caps_New : XPoly := fun G _ call run a h => match a with
  | [.int .i64 envs] =>
  nw (.cells Y_caps_Space false [.slice none 0 0]) h fun b hv => run F_caps_New 3006 [.pointer (some ⟨b, 0, none⟩), .int .i64 (mm2 false (mm2 true envs 0) 40), .int .i64 0] hv
  | _ => none
noncomputable def X_caps_New_L1 : XPoly := fun G _ call run a h => match a with
  | [.pointer (some s), .int .i64 x8, .int .i64 x9] =>
  cond (iltF x9 x8)
      (gSl (Addr.add s 0) h fun x xn xc => bnd (call F_table_New_api_Cap [.int .i64 32] h) fun r hv => aPtr r fun x_1 => gSl (Addr.add s 0) hv fun x_2 xn_1 xc_1 => same (.slice x xn xc) (.slice x_2 xn_1 xc_1) (nw (.cells Y_p_table_Table_api_Cap false [.pointer x_1]) hv fun b hv_1 => gCells (some ⟨b, 0, none⟩) (1 * 1) hv_1 fun cs => ckB (fitsOpen x Y_p_table_Table_api_Cap hv_1) (apd Y_p_table_Table_api_Cap 1 x xn xc 1 cs hv_1 fun a an ac hv_2 => pV (Addr.add s 0) (.slice a an ac) hv_2 fun hv_3 => run F_caps_New 3006 [.pointer (some s), .int .i64 x8, .int .i64 (wrapF .i64 (x9 + 1))] hv_3)))
      (some (.pointer (some s), h))
  | _ => none
noncomputable def LB_caps_New_L1 : Lab := ⟨F_caps_New, 3006, T_caps_New_L1, [3, 8, 9], X_caps_New_L1⟩
noncomputable def X_region_New : XPoly := fun G _ call run a h => match a with
  | [.pointer m, .pointer s] =>
  nw (.cells Y_region_Regions false [.pointer m, .pointer s, .slice none 0 0]) h fun b hv => some (.pointer (some ⟨b, 0, none⟩), hv)
  | _ => none
noncomputable def X_sect_New : XPoly := fun G _ call run a h => match a with
  | [.int .i64 lease] =>
  nw (.cells Y_sect_Sect false [.int .i64 (mm2 false (mm2 true lease 1) 1000), .bool false, .int .i64 0, .int .i64 0, .int .i64 0, .slice none 0 0, .int .i64 0, .int .i64 0, .int .i64 0]) h fun b hv => some (.pointer (some ⟨b, 0, none⟩), hv)
  | _ => none
noncomputable def X_region_Regions_Add : XPoly := fun G _ call run a h => match a with
  | [.pointer r, .int .i64 lo, .int .i64 n] =>
  bnd (cond (iltF lo 0) (some (true, h)) (some (iltF n 0, h))) fun c hv => bnd (cond c (some (true, hv)) (aSome r fun p => gPtr (Addr.add p 0) hv fun x => bnd (call F_mem_Mem_Size [.pointer x] hv) fun r_1 hv_1 => aInt .i64 r_1 fun x_1 => some (iltF x_1 lo, hv_1))) fun c_1 hv_2 => bnd (cond c_1 (some (true, hv_2)) (aSome r fun p_1 => gPtr (Addr.add p_1 0) hv_2 fun x_2 => bnd (call F_mem_Mem_Size [.pointer x_2] hv_2) fun r_2 hv_3 => aInt .i64 r_2 fun x_3 => some (iltF (wrapF .i64 (x_3 - lo)) n, hv_3))) fun c_2 hv_4 => cond c_2
      (some (.tuple ⟨[.int .i64 0, .int .i64 1]⟩, hv_4))
      (aSome r fun p_2 => gSl (Addr.add p_2 2) hv_4 fun _ xn _ => cond (ileF 32 ((xn : Nat) : Int))
      (some (.tuple ⟨[.int .i64 0, .int .i64 4]⟩, hv_4))
      (aSome r fun p_3 => gSl (Addr.add p_3 2) hv_4 fun x_5 xn_1 xc_1 => nw (.cells Y_region_span false [.int .i64 lo, .int .i64 n]) hv_4 fun b hv_5 => gCells (some ⟨b, 0, none⟩) (1 * 2) hv_5 fun cs => ckB (fitsOpen x_5 Y_region_span hv_5) (apd Y_region_span 2 x_5 xn_1 xc_1 1 cs hv_5 fun a an ac hv_6 => aSome r fun p_4 => pV (Addr.add p_4 2) (.slice a an ac) hv_6 fun hv_7 => aSome r fun p_5 => gSl (Addr.add p_5 2) hv_7 fun _ xn_2 _ => some (.tuple ⟨[.int .i64 (wrapF .i64 (((xn_2 : Nat) : Int) - 1)), .int .i64 0]⟩, hv_7))))
  | _ => none
noncomputable def X_slices_Contains_s_int_int : XPoly := fun G _ call run a h => match a with
  | [.slice s sn sc, .int .i64 v] =>
  bnd (call F_slices_Index_s_int_int [.slice s sn sc, .int .i64 v] h) fun r hv => aInt .i64 r fun x => some (.bool (ileF 0 x), hv)
  | _ => none
noncomputable def X_caps_Space_Put : XPoly := fun G _ call run a h => match a with
  | [.pointer s, .int .i64 env, .agg ⟨c⟩] =>
  nw (.cells Y_api_Cap false c) h fun b hv => bnd (call F_caps_Space_is [.pointer s, .int .i64 env] hv) fun r hv_1 => aBool r fun x => bnd (cond (!x) (some (true, hv_1)) (gInt .i64 (Addr.add ⟨b, 0, none⟩ 1) hv_1 fun x_1 => some (ineF (bitN .i64 x_1 7) 0, hv_1))) fun c_1 hv_2 => bnd (cond c_1 (some (true, hv_2)) (gInt .i64 (Addr.add ⟨b, 0, none⟩ 2) hv_2 fun x_2 => bnd (call F_caps_Space_Put_1 [.int .i64 x_2] hv_2) fun r_1 hv_3 => aBool r_1 fun x_3 => some (!x_3, hv_3))) fun c_2 hv_4 => bnd (cond c_2 (some (true, hv_4)) (gInt .i64 (Addr.add ⟨b, 0, none⟩ 3) hv_4 fun x_4 => bnd (call F_caps_Space_Put_1 [.int .i64 x_4] hv_4) fun r_2 hv_5 => aBool r_2 fun x_5 => some (!x_5, hv_5))) fun c_3 hv_6 => cond c_3
      (some (.tuple ⟨[.int .i64 0, .int .i64 1]⟩, hv_6))
      (pAgg (Addr.add ⟨b, 0, none⟩ 4) [.int .i64 0, .int .i64 0] hv_6 fun hv_7 => gAgg ⟨b, 0, none⟩ 6 hv_7 fun x_6 => bnd (call F_caps_Space_add [.pointer s, .int .i64 env, .agg ⟨x_6⟩] hv_7) fun r_3 hv_8 => as2 r_3 fun r_4 r_5 => aInt .i64 r_4 fun x_7 => aInt .i64 r_5 fun x_8 => some (.tuple ⟨[.int .i64 x_7, .int .i64 x_8]⟩, hv_8))
  | _ => none
noncomputable def X_commons_New : XPoly := fun G _ call run a h => match a with
  | [.pointer k, .int .i64 env] =>
  bnd (cond k.isNone (some (true, h)) (bnd (call F_kern_Kern_Space [.pointer k] h) fun r hv => aPtr r fun x => bnd (call F_caps_Space_Names [.pointer x, .int .i64 env] hv) fun r_1 hv_1 => aSl r_1 fun _ xn _ => some (ieqF ((xn : Nat) : Int) 0, hv_1))) fun c hv_2 => cond c
      (some (.tuple ⟨[.pointer none, .int .i64 1]⟩, hv_2))
      (bnd (call F_kern_Kern_Space [.pointer k] hv_2) fun r_2 hv_3 => aPtr r_2 fun x_2 => bnd (call F_caps_Space_Names [.pointer x_2, .int .i64 env] hv_3) fun r_3 hv_4 => aSl r_3 fun x_3 xn_1 xc_1 => nw (.map [] 0) hv_4 fun b hv_5 => nw (.cells Y_commons_Commons false [.pointer k, .int .i64 env, .slice x_3 xn_1 xc_1, .map (some b)]) hv_5 fun b_1 hv_6 => some (.tuple ⟨[.pointer (some ⟨b_1, 0, none⟩), .int .i64 0]⟩, hv_6))
  | _ => none
noncomputable def X_commons_Commons_SetPipe : XPoly := fun G _ call run a h => match a with
  | [.pointer c, .int .i64 i, .agg ⟨p⟩] =>
  nw (.cells Y_api_Pipe false p) h fun b hv => gAgg ⟨b, 0, none⟩ 36 hv fun x => bnd (call F_ring_Encode [.agg ⟨x⟩] hv) fun r hv_1 => as2 r fun r_1 r_2 => aSl r_1 fun x_1 xn xc => aBool r_2 fun x_2 => bnd (call F_commons_pipe [.int .i64 i] hv_1) fun r_3 hv_2 => aAgg r_3 fun x_3 => bnd (call F_commons_Commons_write [.pointer c, .agg ⟨x_3⟩, .slice x_1 xn xc, .bool x_2] hv_2) fun r_4 hv_3 => aBool r_4 fun x_4 => some (.bool x_4, hv_3)
  | _ => none
noncomputable def X_commons_Commons_SetProc : XPoly := fun G _ call run a h => match a with
  | [.pointer c, .int .i64 i, .agg ⟨p⟩] =>
  nw (.cells Y_api_Proc false p) h fun b hv => gAgg ⟨b, 0, none⟩ 16 hv fun x => bnd (call F_pslot_Encode [.agg ⟨x⟩] hv) fun r hv_1 => as2 r fun r_1 r_2 => aSl r_1 fun x_1 xn xc => aBool r_2 fun x_2 => bnd (call F_commons_proc [.int .i64 i] hv_1) fun r_3 hv_2 => aAgg r_3 fun x_3 => bnd (call F_commons_Commons_write [.pointer c, .agg ⟨x_3⟩, .slice x_1 xn xc, .bool x_2] hv_2) fun r_4 hv_3 => aBool r_4 fun x_4 => some (.bool x_4, hv_3)
  | _ => none
noncomputable def X_region_Regions_Raw : XPoly := fun G _ call run a h => match a with
  | [.pointer r, .int .i64 obj] =>
  bnd (cond (iltF obj 0) (some (true, h)) (aSome r fun p => gSl (Addr.add p 2) h fun _ xn _ => some (ileF ((xn : Nat) : Int) obj, h))) fun c hv => cond c
      (some (.tuple ⟨[.slice none 0 0, .int .i64 1]⟩, hv))
      (aSome r fun p_1 => gPtr (Addr.add p_1 0) hv fun x_1 => aSome r fun p_2 => gSl (Addr.add p_2 2) hv fun x_2 xn_1 _ => aSome x_2 fun p_3 => ckRF obj xn_1 (gInt .i64 (Addr.add (Addr.add (bare p_3) (Int.toNat obj * 2)) 0) hv fun x_3 => aSome r fun p_4 => gSl (Addr.add p_4 2) hv fun x_4 xn_2 _ => aSome x_4 fun p_5 => ckRF obj xn_2 (gInt .i64 (Addr.add (Addr.add (bare p_5) (Int.toNat obj * 2)) 1) hv fun x_5 => bnd (call F_mem_Mem_Load [.pointer x_1, .int .i64 x_3, .int .i64 x_5] hv) fun r_1 hv_1 => as2 r_1 fun r_2 r_3 => aSl r_2 fun x_6 xn_3 xc_3 => aInt .i64 r_3 fun x_7 => some (.tuple ⟨[.slice x_6 xn_3 xc_3, .int .i64 x_7]⟩, hv_1))))
  | _ => none
noncomputable def X_codec_Blank : XPoly := fun G _ call run a h => match a with
  | [.slice b bn bc] =>
  bnd (call F_slices_ContainsFunc_s_byte_byte [.slice b bn bc, .func (.func F_codec_Blank_1) ⟨[]⟩ ⟨[]⟩] h) fun r hv => aBool r fun x => some (.bool (!x), hv)
  | _ => none
noncomputable def X_codec_Codec_api_Pipe_Decode : XPoly := fun G _ call run a h => match a with
  | [.pointer c, .slice b bn bc] =>
  nw (.cells Y_api_Pipe false [.int .i64 0, .int .i64 0, .int .i64 0, .int .i64 0, .int .u8 0, .int .u8 0, .int .u8 0, .int .u8 0, .int .u8 0, .int .u8 0, .int .u8 0, .int .u8 0, .int .u8 0, .int .u8 0, .int .u8 0, .int .u8 0, .int .u8 0, .int .u8 0, .int .u8 0, .int .u8 0, .int .u8 0, .int .u8 0, .int .u8 0, .int .u8 0, .int .u8 0, .int .u8 0, .int .u8 0, .int .u8 0, .int .u8 0, .int .u8 0, .int .u8 0, .int .u8 0, .int .u8 0, .int .u8 0, .int .u8 0, .int .u8 0]) h fun b_1 hv => nw (.cells Y_api_Pipe false [.int .i64 0, .int .i64 0, .int .i64 0, .int .i64 0, .int .u8 0, .int .u8 0, .int .u8 0, .int .u8 0, .int .u8 0, .int .u8 0, .int .u8 0, .int .u8 0, .int .u8 0, .int .u8 0, .int .u8 0, .int .u8 0, .int .u8 0, .int .u8 0, .int .u8 0, .int .u8 0, .int .u8 0, .int .u8 0, .int .u8 0, .int .u8 0, .int .u8 0, .int .u8 0, .int .u8 0, .int .u8 0, .int .u8 0, .int .u8 0, .int .u8 0, .int .u8 0, .int .u8 0, .int .u8 0, .int .u8 0, .int .u8 0]) hv fun b_2 hv_1 => aSome c fun p => gFv (Addr.add p 2) hv_1 fun x => isNilF x fun b_3 => bnd (cond b_3 (some (true, hv_1)) (aSome c fun p_1 => gInt .i64 (Addr.add p_1 0) hv_1 fun x_1 => some (ineF ((bn : Nat) : Int) x_1, hv_1))) fun c_1 hv_2 => cond c_1
      (gAgg ⟨b_2, 0, none⟩ 36 hv_2 fun x_2 => ck (List.length x_2 = 36) (pAgg ⟨b_1, 0, none⟩ x_2 hv_2 fun hv_3 => gAgg ⟨b_1, 0, none⟩ 36 hv_3 fun x_3 => some (.tuple ⟨[.agg ⟨x_3⟩, .bool false]⟩, hv_3)))
      (aSome c fun p_2 => gFv (Addr.add p_2 2) hv_2 fun x_4 => nw (.cells Y_api_Pipe false [.int .i64 0, .int .i64 0, .int .i64 0, .int .i64 0, .int .u8 0, .int .u8 0, .int .u8 0, .int .u8 0, .int .u8 0, .int .u8 0, .int .u8 0, .int .u8 0, .int .u8 0, .int .u8 0, .int .u8 0, .int .u8 0, .int .u8 0, .int .u8 0, .int .u8 0, .int .u8 0, .int .u8 0, .int .u8 0, .int .u8 0, .int .u8 0, .int .u8 0, .int .u8 0, .int .u8 0, .int .u8 0, .int .u8 0, .int .u8 0, .int .u8 0, .int .u8 0, .int .u8 0, .int .u8 0, .int .u8 0, .int .u8 0]) hv_2 fun b_4 hv_4 => bnd (call F_slices_Clone_s_byte_byte [.slice b bn bc] hv_4) fun r hv_5 => aSl r fun x_5 xn xc => gFv (Addr.add p_2 2) hv_5 fun x_6 => sameU (x_4) (x_6) (aFn x_4 fun g fi cp => bnd (call g (fi ++ ([.slice x_5 xn xc] ++ cp)) hv_5) fun r_1 hv_6 => as2 r_1 fun r_2 r_3 => aAgg r_2 fun x_7 => aBool r_3 fun x_8 => ck (List.length x_7 = 36) (pAgg ⟨b_4, 0, none⟩ x_7 hv_6 fun hv_7 => cond (!x_8)
      (gAgg ⟨b_2, 0, none⟩ 36 hv_7 fun x_9 => ck (List.length x_9 = 36) (pAgg ⟨b_1, 0, none⟩ x_9 hv_7 fun hv_8 => gAgg ⟨b_1, 0, none⟩ 36 hv_8 fun x_10 => some (.tuple ⟨[.agg ⟨x_10⟩, .bool false]⟩, hv_8)))
      (gAgg ⟨b_4, 0, none⟩ 36 hv_7 fun x_11 => ck (List.length x_11 = 36) (pAgg ⟨b_1, 0, none⟩ x_11 hv_7 fun hv_9 => gAgg ⟨b_1, 0, none⟩ 36 hv_9 fun x_12 => some (.tuple ⟨[.agg ⟨x_12⟩, .bool true]⟩, hv_9))))))
  | _ => none
noncomputable def X_ring_Ok : XPoly := fun G _ call run a h => match a with
  | [.agg ⟨p⟩] =>
  nw (.cells Y_api_Pipe false p) h fun b hv => gInt .i64 (Addr.add ⟨b, 0, none⟩ 0) hv fun x => bnd (call F_ring_Ok_1 [.int .i64 x, .int .i64 31] hv) fun r hv_1 => aBool r fun x_1 => bnd (cond x_1 (gInt .i64 (Addr.add ⟨b, 0, none⟩ 1) hv_1 fun x_2 => bnd (call F_ring_Ok_1 [.int .i64 x_2, .int .i64 32] hv_1) fun r_1 hv_2 => aBool r_1 fun x_3 => some (x_3, hv_2)) (some (false, hv_1))) fun c hv_3 => bnd (cond c (gInt .i64 (Addr.add ⟨b, 0, none⟩ 2) hv_3 fun x_4 => bnd (call F_ring_Ok_1 [.int .i64 x_4, .int .i64 8] hv_3) fun r_2 hv_4 => aBool r_2 fun x_5 => some (x_5, hv_4)) (some (false, hv_3))) fun c_1 hv_5 => bnd (cond c_1 (gInt .i64 (Addr.add ⟨b, 0, none⟩ 3) hv_5 fun x_6 => bnd (call F_ring_Ok_1 [.int .i64 x_6, .int .i64 8] hv_5) fun r_3 hv_6 => aBool r_3 fun x_7 => some (x_7, hv_6)) (some (false, hv_5))) fun c_2 hv_7 => some (.bool c_2, hv_7)
  | _ => none
noncomputable def X_commons_Commons_Look : XPoly := fun G _ call run a h => match a with
  | [.pointer c] =>
  run F_commons_Commons_Look 3002 [.pointer c, .int .i64 0] h
  | _ => none
noncomputable def X_commons_Commons_Look_L1 : XPoly := fun G _ call run a h => match a with
  | [.pointer c, .int .i64 x5] =>
  cond (iltF x5 8)
      (bnd (call F_commons_Commons_Proc [.pointer c, .int .i64 x5] h) fun r hv => as2 r fun r_1 r_2 => aAgg r_1 fun _ => aInt .i64 r_2 fun _ => run F_commons_Commons_Look 3002 [.pointer c, .int .i64 (wrapF .i64 (x5 + 1))] hv)
      (run F_commons_Commons_Look 3012 [.pointer c, .int .i64 0] h)
  | _ => none
noncomputable def LB_commons_Commons_Look_L1 : Lab := ⟨F_commons_Commons_Look, 3002, T_commons_Commons_Look_L1, [0, 5], X_commons_Commons_Look_L1⟩
noncomputable def X_commons_Commons_Look_L2 : XPoly := fun G _ call run a h => match a with
  | [.pointer c, .int .i64 x12] =>
  cond (iltF x12 12)
      (bnd (call F_commons_Commons_File [.pointer c, .int .i64 x12] h) fun r hv => as2 r fun r_1 r_2 => aAgg r_1 fun _ => aInt .i64 r_2 fun _ => run F_commons_Commons_Look 3012 [.pointer c, .int .i64 (wrapF .i64 (x12 + 1))] hv)
      (bnd (call F_commons_Commons_most [.pointer c, .int .i64 3] h) fun r_3 hv_1 => aInt .i64 r_3 fun x_2 => run F_commons_Commons_Look 3022 [.pointer c, .int .i64 x_2, .int .i64 0] hv_1)
  | _ => none
noncomputable def LB_commons_Commons_Look_L2 : Lab := ⟨F_commons_Commons_Look, 3012, T_commons_Commons_Look_L2, [0, 12], X_commons_Commons_Look_L2⟩
noncomputable def X_commons_Commons_Look_L3 : XPoly := fun G _ call run a h => match a with
  | [.pointer c, .int .i64 x20, .int .i64 x21] =>
  cond (iltF x21 x20)
      (bnd (call F_commons_Commons_Pipe [.pointer c, .int .i64 x21] h) fun r hv => as2 r fun r_1 r_2 => aAgg r_1 fun _ => aInt .i64 r_2 fun _ => run F_commons_Commons_Look 3022 [.pointer c, .int .i64 x20, .int .i64 (wrapF .i64 (x21 + 1))] hv)
      (bnd (call F_commons_Commons_Term [.pointer c] h) fun r_3 hv_1 => as2 r_3 fun r_4 r_5 => aAgg r_4 fun _ => aInt .i64 r_5 fun _ => bnd (call F_commons_Commons_Front [.pointer c] hv_1) fun r_6 hv_2 => as2 r_6 fun r_7 r_8 => aInt .i64 r_7 fun _ => aBool r_8 fun _ => some (.tuple ⟨[]⟩, hv_2))
  | _ => none
noncomputable def LB_commons_Commons_Look_L3 : Lab := ⟨F_commons_Commons_Look, 3022, T_commons_Commons_Look_L3, [0, 20, 21], X_commons_Commons_Look_L3⟩
noncomputable def X_commons_Commons_Term : XPoly := fun G _ call run a h => match a with
  | [.pointer c] =>
  nw (.cells Y_api_Pipe false [.int .i64 0, .int .i64 0, .int .i64 0, .int .i64 0, .int .u8 0, .int .u8 0, .int .u8 0, .int .u8 0, .int .u8 0, .int .u8 0, .int .u8 0, .int .u8 0, .int .u8 0, .int .u8 0, .int .u8 0, .int .u8 0, .int .u8 0, .int .u8 0, .int .u8 0, .int .u8 0, .int .u8 0, .int .u8 0, .int .u8 0, .int .u8 0, .int .u8 0, .int .u8 0, .int .u8 0, .int .u8 0, .int .u8 0, .int .u8 0, .int .u8 0, .int .u8 0, .int .u8 0, .int .u8 0, .int .u8 0, .int .u8 0]) h fun b hv => bnd (call F_commons_record_api_Pipe [.pointer c, .agg ⟨[.int .i64 4, .int .i64 0]⟩, .func (.func F_ring_Decode) ⟨[]⟩ ⟨[]⟩] hv) fun r hv_1 => as2 r fun r_1 r_2 => aAgg r_1 fun x => aInt .i64 r_2 fun x_1 => ck (List.length x = 36) (pAgg ⟨b, 0, none⟩ x hv_1 fun hv_2 => gAgg ⟨b, 0, none⟩ 36 hv_2 fun x_2 => some (.tuple ⟨[.agg ⟨x_2⟩, .int .i64 x_1]⟩, hv_2))
  | _ => none
noncomputable def X_kern_Kern_bytes : XPoly := fun G _ call run a h => match a with
  | [.pointer k, .int .i64 env, .agg ⟨c⟩] =>
  nw (.cells Y_api_Call false c) h fun b hv => gInt .i64 (Addr.add ⟨b, 0, none⟩ 0) hv fun x => cond (ieqF x 1)
      (aSome k fun p => gPtr (Addr.add p 5) hv fun x_1 => gInt .i64 (Addr.add ⟨b, 0, none⟩ 1) hv fun x_2 => gInt .i64 (Addr.add ⟨b, 0, none⟩ 2) hv fun x_3 => gInt .i64 (Addr.add ⟨b, 0, none⟩ 3) hv fun x_4 => bnd (call F_region_Regions_Read [.pointer x_1, .int .i64 env, .int .i64 x_2, .int .i64 x_3, .int .i64 x_4] hv) fun r hv_1 => as2 r fun r_1 r_2 => aSl r_1 fun x_5 xn xc => aInt .i64 r_2 fun x_6 => some (.tuple ⟨[.slice x_5 xn xc, .int .i64 x_6, .bool true]⟩, hv_1))
      (cond (ieqF x 2)
      (aSome k fun p_1 => gPtr (Addr.add p_1 5) hv fun x_7 => gInt .i64 (Addr.add ⟨b, 0, none⟩ 1) hv fun x_8 => gInt .i64 (Addr.add ⟨b, 0, none⟩ 2) hv fun x_9 => gSl (Addr.add ⟨b, 0, none⟩ 6) hv fun x_10 xn_1 xc_1 => bnd (call F_region_Regions_Write [.pointer x_7, .int .i64 env, .int .i64 x_8, .int .i64 x_9, .slice x_10 xn_1 xc_1] hv) fun r_3 hv_2 => aInt .i64 r_3 fun x_11 => some (.tuple ⟨[.slice none 0 0, .int .i64 x_11, .bool true]⟩, hv_2))
      (cond (ieqF x 3)
      (aSome k fun p_2 => gPtr (Addr.add p_2 5) hv fun x_12 => gInt .i64 (Addr.add ⟨b, 0, none⟩ 1) hv fun x_13 => gInt .i64 (Addr.add ⟨b, 0, none⟩ 2) hv fun x_14 => gInt .i64 (Addr.add ⟨b, 0, none⟩ 4) hv fun x_15 => gInt .i64 (Addr.add ⟨b, 0, none⟩ 5) hv fun x_16 => gInt .i64 (Addr.add ⟨b, 0, none⟩ 3) hv fun x_17 => bnd (call F_region_Regions_Copy [.pointer x_12, .int .i64 env, .int .i64 x_13, .int .i64 x_14, .int .i64 x_15, .int .i64 x_16, .int .i64 x_17] hv) fun r_4 hv_3 => aInt .i64 r_4 fun x_18 => some (.tuple ⟨[.slice none 0 0, .int .i64 x_18, .bool true]⟩, hv_3))
      (some (.tuple ⟨[.slice none 0 0, .int .i64 0, .bool false]⟩, hv))))
  | _ => none
noncomputable def X_slices_ContainsFunc_s_int_int : XPoly := fun G _ call run a h => match a with
  | [.slice s sn sc, f] =>
  bnd (call F_slices_IndexFunc_s_int_int [.slice s sn sc, f] h) fun r hv => aInt .i64 r fun x => some (.bool (ileF 0 x), hv)
  | _ => none
noncomputable def X_kern_share : XPoly := fun G _ call run a h => match a with
  | [.agg ⟨c⟩, .agg ⟨x⟩] =>
  nw (.cells Y_api_Boot false c) h fun b hv => nw (.cells Y_api_Share false x) hv fun b_1 hv_1 => gInt .i64 (Addr.add ⟨b_1, 0, none⟩ 0) hv_1 fun x_1 => bnd (cond (iltF x_1 0) (some (true, hv_1)) (gInt .i64 (Addr.add ⟨b_1, 0, none⟩ 0) hv_1 fun x_2 => gSl (Addr.add ⟨b, 0, none⟩ 0) hv_1 fun _ xn _ => some (ileF ((xn : Nat) : Int) x_2, hv_1))) fun c_1 hv_2 => bnd (cond c_1 (some (true, hv_2)) (gInt .i64 (Addr.add ⟨b_1, 0, none⟩ 1) hv_2 fun x_4 => some (iltF x_4 0, hv_2))) fun c_2 hv_3 => bnd (cond c_2 (some (true, hv_3)) (gInt .i64 (Addr.add ⟨b_1, 0, none⟩ 2) hv_3 fun x_5 => some (iltF x_5 0, hv_3))) fun c_3 hv_4 => bnd (cond c_3 (some (true, hv_4)) (gInt .i64 (Addr.add ⟨b_1, 0, none⟩ 3) hv_4 fun x_6 => some (iltF x_6 0, hv_4))) fun c_4 hv_5 => cond c_4
      (some (.bool false, hv_5))
      (gSl (Addr.add ⟨b, 0, none⟩ 0) hv_5 fun x_7 xn_1 _ => gInt .i64 (Addr.add ⟨b_1, 0, none⟩ 0) hv_5 fun x_8 => aSome x_7 fun p => ckRF x_8 xn_1 (gInt .i64 (Addr.add (bare p) (Int.toNat x_8 * 1)) hv_5 fun x_9 => bnd (call F_kern_frames [.int .i64 x_9] hv_5) fun r hv_6 => aInt .i64 r fun x_10 => gInt .i64 (Addr.add ⟨b_1, 0, none⟩ 1) hv_6 fun x_11 => cond (iltF x_10 x_11)
      (some (.bool false, hv_6))
      (gInt .i64 (Addr.add ⟨b_1, 0, none⟩ 1) hv_6 fun x_12 => gInt .i64 (Addr.add ⟨b_1, 0, none⟩ 2) hv_6 fun x_13 => bnd (cond (ileF x_13 (wrapF .i64 ((wrapF .i64 (x_10 - x_12)) * 64))) (gInt .i64 (Addr.add ⟨b_1, 0, none⟩ 3) hv_6 fun x_14 => gInt .i64 (Addr.add ⟨b_1, 0, none⟩ 2) hv_6 fun x_15 => some (ileF x_14 (wrapF .i64 ((wrapF .i64 ((wrapF .i64 (x_10 - x_12)) * 64)) - x_15)), hv_6)) (some (false, hv_6))) fun c_5 hv_7 => some (.bool c_5, hv_7))))
  | _ => none
noncomputable def X_mem_Mem_Size : XPoly := fun G _ call run a h => match a with
  | [.pointer m] =>
  aSome m fun p => gSl (Addr.add p 0) h fun _ xn _ => some (.int .i64 ((xn : Nat) : Int), h)
  | _ => none
noncomputable def X_slices_Index_s_int_int : XPoly := fun G _ call run a h => match a with
  | [.slice s sn sc, .int .i64 v] =>
  run F_slices_Index_s_int_int 3004 [.slice s sn sc, .int .i64 v, .int .i64 ((sn : Nat) : Int), .int .i64 0] h
  | _ => none
noncomputable def X_slices_Index_s_int_int_L1 : XPoly := fun G _ call run a h => match a with
  | [.slice s sn sc, .int .i64 v, .int .i64 x7, .int .i64 x8] =>
  cond (iltF x8 x7)
      (aSome s fun p => ckRF x8 sn (gInt .i64 (Addr.add (bare p) (Int.toNat x8 * 1)) h fun x => cond (ieqF v x)
      (some (.int .i64 x8, h))
      (run F_slices_Index_s_int_int 3004 [.slice s sn sc, .int .i64 v, .int .i64 x7, .int .i64 (wrapF .i64 (x8 + 1))] h)))
      (some (.int .i64 (-1), h))
  | _ => none
noncomputable def LB_slices_Index_s_int_int_L1 : Lab := ⟨F_slices_Index_s_int_int, 3004, T_slices_Index_s_int_int_L1, [0, 1, 7, 8], X_slices_Index_s_int_int_L1⟩
noncomputable def X_caps_Space_is : XPoly := fun G _ call run a h => match a with
  | [.pointer s, .int .i64 env] =>
  bnd (cond (ileF 0 env) (aSome s fun p => gSl (Addr.add p 0) h fun _ xn _ => some (iltF env ((xn : Nat) : Int), h)) (some (false, h))) fun c hv => some (.bool c, hv)
  | _ => none
noncomputable def X_kern_Kern_Space : XPoly := fun G _ call run a h => match a with
  | [.pointer k] =>
  aSome k fun p => gPtr (Addr.add p 3) h fun x => some (.pointer x, h)
  | _ => none
noncomputable def X_ring_Encode : XPoly := fun G _ call run a h => match a with
  | [.agg ⟨p⟩] =>
  nw (.cells Y_api_Pipe false p) h fun b hv => gAgg ⟨b, 0, none⟩ 36 hv fun x => bnd (call F_ring_Codec [] hv) fun r hv_1 => aPtr r fun x_1 => gAgg ⟨b, 0, none⟩ 36 hv_1 fun x_2 => same (.agg ⟨x⟩) (.agg ⟨x_2⟩) (bnd (call F_codec_Codec_api_Pipe_Encode [.pointer x_1, .agg ⟨x⟩] hv_1) fun r_1 hv_2 => as2 r_1 fun r_2 r_3 => aSl r_2 fun x_3 xn xc => aBool r_3 fun x_4 => some (.tuple ⟨[.slice x_3 xn xc, .bool x_4]⟩, hv_2))
  | _ => none
noncomputable def X_commons_Commons_write : XPoly := fun G _ call run a h => match a with
  | [.pointer c, .agg ⟨r⟩, .slice b bn bc, .bool ok] =>
  nw (.cells Y_api_Rec false r) h fun b_1 hv => gAgg ⟨b_1, 0, none⟩ 2 hv fun x => bnd (call F_commons_Commons_place [.pointer c, .agg ⟨x⟩] hv) fun r_1 hv_1 => as2 r_1 fun r_2 r_3 => aAgg r_2 fun x_1 => aBool r_3 fun x_2 => nw (.cells Y_commons_place false [.int .i64 0, .int .i64 0, .int .i64 0]) hv_1 fun b_2 hv_2 => ck (List.length x_1 = 3) (pAgg ⟨b_2, 0, none⟩ x_1 hv_2 fun hv_3 => bnd (cond (!x_2) (some (true, hv_3)) (some (!ok, hv_3))) fun c_1 hv_4 => bnd (cond c_1 (some (true, hv_4)) (aSome c fun p => gMap (Addr.add p 3) hv_4 fun x_3 => gAgg ⟨b_1, 0, none⟩ 2 hv_4 fun x_4 => keyN PR Y_api_Rec (.agg ⟨x_4⟩) (opt x_3 fun r_4 => mapAt hv_4 r_4 fun es _ => opt (lookM (.int .i64 0) (.agg ⟨x_4⟩) es) fun f => aInt .i64 f.1 fun x_5 => some (iltF 0 x_5, hv_4)))) fun c_2 hv_5 => cond c_2
      (some (.bool false, hv_5))
      (aSome c fun p_1 => gPtr (Addr.add p_1 0) hv_5 fun x_6 => aSome c fun p_2 => gInt .i64 (Addr.add p_2 1) hv_5 fun x_7 => gInt .i64 (Addr.add ⟨b_2, 0, none⟩ 0) hv_5 fun x_8 => gInt .i64 (Addr.add ⟨b_2, 0, none⟩ 1) hv_5 fun x_9 => bnd (call F_kern_Kern_Do [.pointer x_6, .int .i64 x_7, .agg ⟨[.int .i64 2, .int .i64 x_8, .int .i64 x_9, .int .i64 0, .int .i64 0, .int .i64 0, .slice b bn bc]⟩] hv_5) fun r_5 hv_6 => aAgg r_5 fun x_10 => nth x_10 0 fun E => aInt .i64 E fun E_1 => some (.bool (ieqF E_1 0), hv_6)))
  | _ => none
noncomputable def X_commons_pipe : XPoly := fun G _ call run a h => match a with
  | [.int .i64 i] =>
  nw (.cells Y_api_Rec false [.int .i64 0, .int .i64 0]) h fun b hv => pAgg ⟨b, 0, none⟩ [.int .i64 3, .int .i64 i] hv fun hv_1 => gAgg ⟨b, 0, none⟩ 2 hv_1 fun x => some (.agg ⟨x⟩, hv_1)
  | _ => none
noncomputable def X_slices_ContainsFunc_s_byte_byte : XPoly := fun G _ call run a h => match a with
  | [.slice s sn sc, f] =>
  bnd (call F_slices_IndexFunc_s_byte_byte [.slice s sn sc, f] h) fun r hv => aInt .i64 r fun x => some (.bool (ileF 0 x), hv)
  | _ => none
noncomputable def X_codec_Blank_1 : XPoly := fun G _ call run a h => match a with
  | [.int .u8 c] =>
  some (.bool (ineF c 0), h)
  | _ => none
noncomputable def X_host_Host_want : XPoly := fun G _ call run a h => match a with
  | [.pointer hv] =>
  aSome hv fun p => gPtr (Addr.add p 0) h fun x => aSome hv fun p_1 => gInt .i64 (Addr.add p_1 1) h fun x_1 => aSome hv fun p_2 => gInt .i64 (Addr.add p_2 3) h fun x_2 => nw (.cells Y_api_Answer false [.int .i64 0, .int .i64 0, .slice none 0 0]) h fun b hv_1 => bnd (call F_kern_Kern_Do [.pointer x, .int .i64 x_1, .agg ⟨[.int .i64 8, .int .i64 0, .int .i64 0, .int .i64 x_2, .int .i64 0, .int .i64 0, .slice none 0 0]⟩] hv_1) fun r hv_2 => aAgg r fun x_3 => ck (List.length x_3 = 3) (pAgg ⟨b, 0, none⟩ x_3 hv_2 fun hv_3 => gInt .i64 (Addr.add ⟨b, 0, none⟩ 1) hv_3 fun x_4 => cond (iltF 0 x_4)
      (gInt .i64 (Addr.add ⟨b, 0, none⟩ 1) hv_3 fun x_5 => aSome hv fun p_3 => pV (Addr.add p_3 5) (.int .i64 2) hv_3 fun hv_4 => gInt .i64 (Addr.add ⟨b, 0, none⟩ 1) hv_4 fun x_6 => same (.int .i64 x_5) (.int .i64 x_6) (aSome hv fun p_4 => pV (Addr.add p_4 6) (.int .i64 x_5) hv_4 fun hv_5 => some (.tuple ⟨[]⟩, hv_5)))
      (some (.tuple ⟨[]⟩, hv_3)))
  | _ => none
noncomputable def X_host_Host_in : XPoly := fun G _ call run a h => match a with
  | [.pointer hv] =>
  nw (.cells Y_api_Out false [.int .i64 0, .int .i64 0, .int .i64 0, .int .i64 0, .int .i64 0, .slice none 0 0, .int .i64 0, .int .i64 0, .slice none 0 0, .bool false, .slice none 0 0, .int .i64 0]) h fun b hv_1 => aSome hv fun p => gPtr (Addr.add p 0) hv_1 fun x => aSome hv fun p_1 => gInt .i64 (Addr.add p_1 3) hv_1 fun x_1 => aSome hv fun p_2 => gInt .i64 (Addr.add p_2 1) hv_1 fun x_2 => aSome hv fun p_3 => gInt .i64 (Addr.add p_3 6) hv_1 fun x_3 => bnd (call F_kern_Kern_Sect [.pointer x, .int .i64 x_1] hv_1) fun r hv_2 => aPtr r fun x_4 => gInt .i64 (Addr.add p_2 1) hv_2 fun x_5 => same (.int .i64 x_2) (.int .i64 x_5) (gInt .i64 (Addr.add p_3 6) hv_2 fun x_6 => same (.int .i64 x_3) (.int .i64 x_6) (bnd (call F_sect_Sect_Holds [.pointer x_4, .int .i64 x_2, .int .i64 x_3] hv_2) fun r_1 hv_3 => aBool r_1 fun x_7 => cond (!x_7)
      (aSome hv fun p_4 => pV (Addr.add p_4 5) (.int .i64 1) hv_3 fun hv_4 => pAgg ⟨b, 0, none⟩ [.int .i64 0, .int .i64 0, .int .i64 0, .int .i64 0, .int .i64 0, .slice none 0 0, .int .i64 0, .int .i64 0, .slice none 0 0, .bool false, .slice none 0 0, .int .i64 0] hv_4 fun hv_5 => gAgg ⟨b, 0, none⟩ 12 hv_5 fun x_8 => some (.tuple ⟨[.agg ⟨x_8⟩, .bool false]⟩, hv_5))
      (aSome hv fun p_5 => gPtr (Addr.add p_5 4) hv_3 fun x_9 => aSome hv fun p_6 => gInt .i64 (Addr.add p_6 2) hv_3 fun x_10 => aSome hv fun p_7 => gAgg (Addr.add p_7 7) 4 hv_3 fun x_11 => nw (.cells Y_api_Ret false [.int .i64 0, .int .i64 0, .slice none 0 0, .bool false]) hv_3 fun b_1 hv_6 => bnd (call F_calls_Do [.pointer x_9, .int .i64 x_10, .agg ⟨x_11⟩] hv_6) fun r_2 hv_7 => aAgg r_2 fun x_12 => ck (List.length x_12 = 4) (pAgg ⟨b_1, 0, none⟩ x_12 hv_7 fun hv_8 => gBool (Addr.add ⟨b_1, 0, none⟩ 3) hv_8 fun x_13 => cond x_13
      (bnd (call F_host_Host_leave [.pointer hv, .int .i64 3] hv_8) fun r_3 hv_9 => as0 r_3 (pAgg ⟨b, 0, none⟩ [.int .i64 0, .int .i64 0, .int .i64 0, .int .i64 0, .int .i64 0, .slice none 0 0, .int .i64 0, .int .i64 0, .slice none 0 0, .bool false, .slice none 0 0, .int .i64 0] hv_9 fun hv_10 => gAgg ⟨b, 0, none⟩ 12 hv_10 fun x_14 => some (.tuple ⟨[.agg ⟨x_14⟩, .bool false]⟩, hv_10)))
      (bnd (call F_host_Host_leave [.pointer hv, .int .i64 0] hv_8) fun r_4 hv_11 => as0 r_4 (gAgg ⟨b_1, 0, none⟩ 4 hv_11 fun x_15 => bnd (call F_host_Host_back [.pointer hv, .agg ⟨x_15⟩] hv_11) fun r_5 hv_12 => aAgg r_5 fun x_16 => nw (.cells Y_api_Out false [.int .i64 0, .int .i64 0, .int .i64 0, .int .i64 0, .int .i64 0, .slice none 0 0, .int .i64 0, .int .i64 0, .slice none 0 0, .bool false, .slice none 0 0, .int .i64 0]) hv_12 fun b_2 hv_13 => ck (List.length x_16 = 12) (pAgg ⟨b_2, 0, none⟩ x_16 hv_13 fun hv_14 => aSome hv fun p_8 => gInt .i64 (Addr.add (Addr.add p_8 7) 0) hv_14 fun x_17 => cond (ineF x_17 3)
      (gAgg ⟨b_2, 0, none⟩ 12 hv_14 fun x_18 => bnd (call F_host_Host_end [.pointer hv, .agg ⟨x_18⟩] hv_14) fun r_6 hv_15 => aAgg r_6 fun x_19 => ck (List.length x_19 = 12) (pAgg ⟨b_2, 0, none⟩ x_19 hv_15 fun hv_16 => gAgg ⟨b_2, 0, none⟩ 12 hv_16 fun x_20 => ck (List.length x_20 = 12) (pAgg ⟨b, 0, none⟩ x_20 hv_16 fun hv_17 => gAgg ⟨b, 0, none⟩ 12 hv_17 fun x_21 => some (.tuple ⟨[.agg ⟨x_21⟩, .bool true]⟩, hv_17))))
      (gAgg ⟨b_2, 0, none⟩ 12 hv_14 fun x_22 => ck (List.length x_22 = 12) (pAgg ⟨b, 0, none⟩ x_22 hv_14 fun hv_18 => gAgg ⟨b, 0, none⟩ 12 hv_18 fun x_23 => some (.tuple ⟨[.agg ⟨x_23⟩, .bool true]⟩, hv_18))))))))))
  | _ => none
noncomputable def X_commons_Commons_most : XPoly := fun G _ call run a h => match a with
  | [.pointer c, .int .i64 kind] =>
  cond (ieqF kind 1)
      (some (.int .i64 8, h))
      (cond (ieqF kind 2)
      (some (.int .i64 12, h))
      (cond (ieqF kind 3)
      (aSome c fun p => gSl (Addr.add p 2) h fun _ xn _ => some (.int .i64 (wrapF .i64 ((wrapF .i64 (4 + ((xn : Nat) : Int))) - 1)), h))
      (some (.int .i64 1, h))))
  | _ => none
noncomputable def X_commons_Commons_Pipe : XPoly := fun G _ call run a h => match a with
  | [.pointer c, .int .i64 i] =>
  nw (.cells Y_api_Pipe false [.int .i64 0, .int .i64 0, .int .i64 0, .int .i64 0, .int .u8 0, .int .u8 0, .int .u8 0, .int .u8 0, .int .u8 0, .int .u8 0, .int .u8 0, .int .u8 0, .int .u8 0, .int .u8 0, .int .u8 0, .int .u8 0, .int .u8 0, .int .u8 0, .int .u8 0, .int .u8 0, .int .u8 0, .int .u8 0, .int .u8 0, .int .u8 0, .int .u8 0, .int .u8 0, .int .u8 0, .int .u8 0, .int .u8 0, .int .u8 0, .int .u8 0, .int .u8 0, .int .u8 0, .int .u8 0, .int .u8 0, .int .u8 0]) h fun b hv => bnd (call F_commons_pipe [.int .i64 i] hv) fun r hv_1 => aAgg r fun x => bnd (call F_commons_record_api_Pipe [.pointer c, .agg ⟨x⟩, .func (.func F_ring_Decode) ⟨[]⟩ ⟨[]⟩] hv_1) fun r_1 hv_2 => as2 r_1 fun r_2 r_3 => aAgg r_2 fun x_1 => aInt .i64 r_3 fun x_2 => ck (List.length x_1 = 36) (pAgg ⟨b, 0, none⟩ x_1 hv_2 fun hv_3 => gAgg ⟨b, 0, none⟩ 36 hv_3 fun x_3 => some (.tuple ⟨[.agg ⟨x_3⟩, .int .i64 x_2]⟩, hv_3))
  | _ => none
noncomputable def X_commons_Commons_Front : XPoly := fun G _ call run a h => match a with
  | [.pointer c] =>
  bnd (call F_commons_record_int [.pointer c, .agg ⟨[.int .i64 5, .int .i64 0]⟩, .func (.func F_commons_FrontOf) ⟨[]⟩ ⟨[]⟩] h) fun r hv => as2 r fun r_1 r_2 => aInt .i64 r_1 fun x => aInt .i64 r_2 fun x_1 => some (.tuple ⟨[.int .i64 x, .bool (ieqF x_1 1)]⟩, hv)
  | _ => none
noncomputable def X_pslot_Decode : XPoly := fun G _ call run a h => match a with
  | [.slice b bn bc] =>
  nw (.cells Y_api_Proc false [.int .i64 0, .int .i64 0, .int .i64 0, .int .i64 0, .int .i64 0, .int .i64 0, .int .i64 0, .int .i64 0, .int .i64 0, .int .i64 0, .int .i64 0, .int .i64 0, .int .i64 0, .int .i64 0, .int .i64 0, .int .i64 0]) h fun b_1 hv => bnd (cond (ieqF ((bn : Nat) : Int) 24) (bnd (call F_codec_Blank [.slice b bn bc] hv) fun r hv_1 => aBool r fun x => some (x, hv_1)) (some (false, hv))) fun c hv_2 => cond c
      (pAgg ⟨b_1, 0, none⟩ [.int .i64 0, .int .i64 0, .int .i64 0, .int .i64 0, .int .i64 0, .int .i64 0, .int .i64 0, .int .i64 0, .int .i64 0, .int .i64 0, .int .i64 0, .int .i64 0, .int .i64 0, .int .i64 0, .int .i64 0, .int .i64 0] hv_2 fun hv_3 => gAgg ⟨b_1, 0, none⟩ 16 hv_3 fun x_1 => some (.tuple ⟨[.agg ⟨x_1⟩, .int .i64 0]⟩, hv_3))
      (bnd (call F_pslot_Codec [] hv_2) fun r_1 hv_4 => aPtr r_1 fun x_2 => bnd (call F_codec_Codec_api_Proc_Decode [.pointer x_2, .slice b bn bc] hv_4) fun r_2 hv_5 => as2 r_2 fun r_3 r_4 => aAgg r_3 fun x_3 => aBool r_4 fun x_4 => nw (.cells Y_api_Proc false [.int .i64 0, .int .i64 0, .int .i64 0, .int .i64 0, .int .i64 0, .int .i64 0, .int .i64 0, .int .i64 0, .int .i64 0, .int .i64 0, .int .i64 0, .int .i64 0, .int .i64 0, .int .i64 0, .int .i64 0, .int .i64 0]) hv_5 fun b_2 hv_6 => ck (List.length x_3 = 16) (pAgg ⟨b_2, 0, none⟩ x_3 hv_6 fun hv_7 => cond (!x_4)
      (pAgg ⟨b_1, 0, none⟩ [.int .i64 0, .int .i64 0, .int .i64 0, .int .i64 0, .int .i64 0, .int .i64 0, .int .i64 0, .int .i64 0, .int .i64 0, .int .i64 0, .int .i64 0, .int .i64 0, .int .i64 0, .int .i64 0, .int .i64 0, .int .i64 0] hv_7 fun hv_8 => gAgg ⟨b_1, 0, none⟩ 16 hv_8 fun x_5 => some (.tuple ⟨[.agg ⟨x_5⟩, .int .i64 2]⟩, hv_8))
      (gAgg ⟨b_2, 0, none⟩ 16 hv_7 fun x_6 => ck (List.length x_6 = 16) (pAgg ⟨b_1, 0, none⟩ x_6 hv_7 fun hv_9 => gAgg ⟨b_1, 0, none⟩ 16 hv_9 fun x_7 => some (.tuple ⟨[.agg ⟨x_7⟩, .int .i64 1]⟩, hv_9)))))
  | _ => none
noncomputable def X_region_Regions_Read : XPoly := fun G _ call run a h => match a with
  | [.pointer r, .int .i64 env, .int .i64 name, .int .i64 atv, .int .i64 n] =>
  bnd (call F_region_Regions_place [.pointer r, .int .i64 env, .int .i64 name, .int .i64 1, .int .i64 atv, .int .i64 n] h) fun r_1 hv => as2 r_1 fun r_2 r_3 => aInt .i64 r_2 fun x => aInt .i64 r_3 fun x_1 => cond (ineF x_1 0)
      (some (.tuple ⟨[.slice none 0 0, .int .i64 x_1]⟩, hv))
      (aSome r fun p => gPtr (Addr.add p 0) hv fun x_2 => bnd (call F_mem_Mem_Load [.pointer x_2, .int .i64 x, .int .i64 n] hv) fun r_4 hv_1 => as2 r_4 fun r_5 r_6 => aSl r_5 fun x_3 xn xc => aInt .i64 r_6 fun x_4 => some (.tuple ⟨[.slice x_3 xn xc, .int .i64 x_4]⟩, hv_1))
  | _ => none
noncomputable def X_region_Regions_Write : XPoly := fun G _ call run a h => match a with
  | [.pointer r, .int .i64 env, .int .i64 name, .int .i64 atv, .slice b bn bc] =>
  bnd (call F_region_Regions_place [.pointer r, .int .i64 env, .int .i64 name, .int .i64 2, .int .i64 atv, .int .i64 ((bn : Nat) : Int)] h) fun r_1 hv => as2 r_1 fun r_2 r_3 => aInt .i64 r_2 fun x => aInt .i64 r_3 fun x_1 => cond (ineF x_1 0)
      (some (.int .i64 x_1, hv))
      (aSome r fun p => gPtr (Addr.add p 0) hv fun x_2 => bnd (call F_mem_Mem_Store [.pointer x_2, .int .i64 x, .slice b bn bc] hv) fun r_4 hv_1 => aInt .i64 r_4 fun x_3 => some (.int .i64 x_3, hv_1))
  | _ => none
noncomputable def X_kern_Kern_enter : XPoly := fun G _ call run a h => match a with
  | [.pointer k, .int .i64 env, .agg ⟨c⟩] =>
  nw (.cells Y_api_Call false c) h fun b hv => gInt .i64 (Addr.add ⟨b, 0, none⟩ 3) hv fun x => bnd (call F_kern_Kern_sect [.pointer k, .int .i64 env, .int .i64 x] hv) fun r hv_1 => as2 r fun r_1 r_2 => aPtr r_1 fun x_1 => aInt .i64 r_2 fun x_2 => cond (ineF x_2 0)
      (some (.tuple ⟨[.int .i64 0, .int .i64 x_2]⟩, hv_1))
      (aSome k fun p => gInt .i64 (Addr.add p 7) hv_1 fun x_3 => bnd (call F_sect_Sect_Enter [.pointer x_1, .int .i64 env, .int .i64 x_3] hv_1) fun r_3 hv_2 => as2 r_3 fun r_4 r_5 => aInt .i64 r_4 fun x_4 => aBool r_5 fun _ => some (.tuple ⟨[.int .i64 x_4, .int .i64 0]⟩, hv_2))
  | _ => none
noncomputable def X_table_Table_api_Cap_Add : XPoly := fun G _ call run a h => match a with
  | [.pointer t, .agg ⟨v⟩] =>
  nw (.cells Y_api_Cap false v) h fun b hv => aSome t fun p => gSl (Addr.add p 0) hv fun x xn xc => run F_table_Table_api_Cap_Add 3004 [.pointer t, .pointer (some ⟨b, 0, none⟩), .slice x xn xc, .int .i64 ((xn : Nat) : Int), .int .i64 0] hv
  | _ => none
noncomputable def X_table_Table_api_Cap_Add_L1 : XPoly := fun G _ call run a h => match a with
  | [.pointer t, .pointer (some v), .slice x11 x11n x11c, .int .i64 x12, .int .i64 x13] =>
  cond (iltF x13 x12)
      (aSome x11 fun p => ckRF x13 x11n (gAgg (Addr.add (bare p) (Int.toNat x13 * 8)) 8 h fun x => nw (.cells Y_table_place_api_Cap false [.int .i64 0, .int .i64 0, .int .i64 0, .int .i64 0, .int .i64 0, .int .i64 0, .int .i64 0, .bool false]) h fun b hv => ck (List.length x = 8) (pAgg ⟨b, 0, none⟩ x hv fun hv_1 => gBool (Addr.add ⟨b, 0, none⟩ 7) hv_1 fun x_1 => bnd (cond (!x_1) (gInt .i64 (Addr.add ⟨b, 0, none⟩ 6) hv_1 fun x_2 => some (ileF x_2 1000000, hv_1)) (some (false, hv_1))) fun c hv_2 => cond c
      (aSome t fun p_1 => gSl (Addr.add p_1 0) hv_2 fun x_3 xn _ => aSome t fun p_2 => gSl (Addr.add p_2 0) hv_2 fun x_4 xn_1 _ => gAgg v 6 hv_2 fun x_5 => aSome x_3 fun p_3 => ckRF x13 xn (ck (List.length x_5 = 6) (pAgg (Addr.add (Addr.add (bare p_3) (Int.toNat x13 * 8)) 0) x_5 hv_2 fun hv_3 => aSome x_4 fun p_4 => ckRF x13 xn_1 (pV (Addr.add (Addr.add (bare p_4) (Int.toNat x13 * 8)) 7) (.bool true) hv_3 fun hv_4 => bnd (call F_table_Table_api_Cap_name [.pointer t, .int .i64 x13] hv_4) fun r hv_5 => aInt .i64 r fun x_6 => some (.tuple ⟨[.int .i64 x_6, .bool true]⟩, hv_5)))))
      (run F_table_Table_api_Cap_Add 3004 [.pointer t, .pointer (some v), .slice x11 x11n x11c, .int .i64 x12, .int .i64 (wrapF .i64 (x13 + 1))] hv_2))))
      (some (.tuple ⟨[.int .i64 0, .bool false]⟩, h))
  | _ => none
noncomputable def LB_table_Table_api_Cap_Add_L1 : Lab := ⟨F_table_Table_api_Cap_Add, 3004, T_table_Table_api_Cap_Add_L1, [0, 3, 11, 12, 13], X_table_Table_api_Cap_Add_L1⟩
noncomputable def X_table_Table_api_Cap_Names : XPoly := fun G _ call run a h => match a with
  | [.pointer t] =>
  aSome t fun p => gSl (Addr.add p 0) h fun x xn xc => run F_table_Table_api_Cap_Names 3006 [.pointer t, .slice none 0 0, .slice x xn xc, .int .i64 ((xn : Nat) : Int), .int .i64 0] h
  | _ => none
noncomputable def X_table_Table_api_Cap_Names_L1 : XPoly := fun G _ call run a h => match a with
  | [.pointer t, .slice out outn outc, .slice x9 x9n x9c, .int .i64 x10, .int .i64 x11] =>
  cond (iltF x11 x10)
      (aSome x9 fun p => ckRF x11 x9n (gAgg (Addr.add (bare p) (Int.toNat x11 * 8)) 8 h fun x => nw (.cells Y_table_place_api_Cap false [.int .i64 0, .int .i64 0, .int .i64 0, .int .i64 0, .int .i64 0, .int .i64 0, .int .i64 0, .bool false]) h fun b hv => ck (List.length x = 8) (pAgg ⟨b, 0, none⟩ x hv fun hv_1 => gBool (Addr.add ⟨b, 0, none⟩ 7) hv_1 fun x_1 => cond x_1
      (bnd (call F_table_Table_api_Cap_name [.pointer t, .int .i64 x11] hv_1) fun r hv_2 => aInt .i64 r fun x_2 => nw (.cells Y_int false [.int .i64 x_2]) hv_2 fun b_1 hv_3 => gCells (some ⟨b_1, 0, none⟩) (1 * 1) hv_3 fun cs => ckB (fitsOpen out Y_int hv_3) (apd Y_int 1 out outn outc 1 cs hv_3 fun a an ac hv_4 => run F_table_Table_api_Cap_Names 3006 [.pointer t, .slice a an ac, .slice x9 x9n x9c, .int .i64 x10, .int .i64 (wrapF .i64 (x11 + 1))] hv_4))
      (run F_table_Table_api_Cap_Names 3006 [.pointer t, .slice out outn outc, .slice x9 x9n x9c, .int .i64 x10, .int .i64 (wrapF .i64 (x11 + 1))] hv_1))))
      (some (.slice out outn outc, h))
  | _ => none
noncomputable def LB_table_Table_api_Cap_Names_L1 : Lab := ⟨F_table_Table_api_Cap_Names, 3006, T_table_Table_api_Cap_Names_L1, [0, 3, 9, 10, 11], X_table_Table_api_Cap_Names_L1⟩
noncomputable def X_commons_Commons_place : XPoly := fun G _ call run a h => match a with
  | [.pointer c, .agg ⟨r⟩] =>
  nw (.cells Y_api_Rec false r) h fun b hv => nw (.cells Y_commons_place false [.int .i64 0, .int .i64 0, .int .i64 0]) hv fun b_1 hv_1 => gInt .i64 (Addr.add ⟨b, 0, none⟩ 1) hv_1 fun x => bnd (cond (iltF x 0) (some (true, hv_1)) (gInt .i64 (Addr.add ⟨b, 0, none⟩ 0) hv_1 fun x_1 => bnd (call F_commons_Commons_most [.pointer c, .int .i64 x_1] hv_1) fun r_1 hv_2 => aInt .i64 r_1 fun x_2 => some (ileF x_2 x, hv_2))) fun c_1 hv_3 => cond c_1
      (pAgg ⟨b_1, 0, none⟩ [.int .i64 0, .int .i64 0, .int .i64 0] hv_3 fun hv_4 => gAgg ⟨b_1, 0, none⟩ 3 hv_4 fun x_3 => some (.tuple ⟨[.agg ⟨x_3⟩, .bool false]⟩, hv_4))
      (aSome c fun p => gSl (Addr.add p 2) hv_3 fun x_4 xn _ => aSome x_4 fun p_1 => ckRF 0 xn (gInt .i64 (Addr.add (bare p_1) (Int.toNat 0 * 1)) hv_3 fun x_5 => gInt .i64 (Addr.add ⟨b, 0, none⟩ 0) hv_3 fun x_6 => cond (ieqF x_6 1)
      (pAgg ⟨b_1, 0, none⟩ [.int .i64 x_5, .int .i64 (wrapF .i64 (24 * x)), .int .i64 24] hv_3 fun hv_5 => gAgg ⟨b_1, 0, none⟩ 3 hv_5 fun x_7 => some (.tuple ⟨[.agg ⟨x_7⟩, .bool true]⟩, hv_5))
      (gInt .i64 (Addr.add ⟨b, 0, none⟩ 0) hv_3 fun x_8 => cond (ieqF x_8 2)
      (pAgg ⟨b_1, 0, none⟩ [.int .i64 x_5, .int .i64 (wrapF .i64 (192 + (wrapF .i64 (8 * x)))), .int .i64 8] hv_3 fun hv_6 => gAgg ⟨b_1, 0, none⟩ 3 hv_6 fun x_9 => some (.tuple ⟨[.agg ⟨x_9⟩, .bool true]⟩, hv_6))
      (gInt .i64 (Addr.add ⟨b, 0, none⟩ 0) hv_3 fun x_10 => bnd (cond (ieqF x_10 3) (some (iltF x 4, hv_3)) (some (false, hv_3))) fun c_2 hv_7 => cond c_2
      (pAgg ⟨b_1, 0, none⟩ [.int .i64 x_5, .int .i64 (wrapF .i64 (288 + (wrapF .i64 (40 * x)))), .int .i64 40] hv_7 fun hv_8 => gAgg ⟨b_1, 0, none⟩ 3 hv_8 fun x_11 => some (.tuple ⟨[.agg ⟨x_11⟩, .bool true]⟩, hv_8))
      (gInt .i64 (Addr.add ⟨b, 0, none⟩ 0) hv_7 fun x_12 => cond (ieqF x_12 3)
      (aSome c fun p_2 => gSl (Addr.add p_2 2) hv_7 fun x_13 xn_1 _ => aSome x_13 fun p_3 => ckRF (wrapF .i64 ((wrapF .i64 (x - 4)) + 1)) xn_1 (gInt .i64 (Addr.add (bare p_3) (Int.toNat (wrapF .i64 ((wrapF .i64 (x - 4)) + 1)) * 1)) hv_7 fun x_14 => pAgg ⟨b_1, 0, none⟩ [.int .i64 x_14, .int .i64 0, .int .i64 40] hv_7 fun hv_9 => gAgg ⟨b_1, 0, none⟩ 3 hv_9 fun x_15 => some (.tuple ⟨[.agg ⟨x_15⟩, .bool true]⟩, hv_9)))
      (gInt .i64 (Addr.add ⟨b, 0, none⟩ 0) hv_7 fun x_16 => cond (ieqF x_16 4)
      (pAgg ⟨b_1, 0, none⟩ [.int .i64 x_5, .int .i64 448, .int .i64 40] hv_7 fun hv_10 => gAgg ⟨b_1, 0, none⟩ 3 hv_10 fun x_17 => some (.tuple ⟨[.agg ⟨x_17⟩, .bool true]⟩, hv_10))
      (pAgg ⟨b_1, 0, none⟩ [.int .i64 x_5, .int .i64 488, .int .i64 4] hv_7 fun hv_11 => gAgg ⟨b_1, 0, none⟩ 3 hv_11 fun x_18 => some (.tuple ⟨[.agg ⟨x_18⟩, .bool true]⟩, hv_11))))))))
  | _ => none
noncomputable def X_codec_Sum : XPoly := fun G _ call run a h => match a with
  | [.slice b bn bc] =>
  run F_codec_Sum 3006 [.int .u8 (wrapF .u8 (((bn : Nat) : Int))), .slice b bn bc, .int .i64 ((bn : Nat) : Int), .int .i64 0] h
  | _ => none
noncomputable def X_codec_Sum_L1 : XPoly := fun G _ call run a h => match a with
  | [.int .u8 n, .slice x9 x9n x9c, .int .i64 x10, .int .i64 x11] =>
  cond (iltF x11 x10)
      (aSome x9 fun p => ckRF x11 x9n (gInt .u8 (Addr.add (bare p) (Int.toNat x11 * 1)) h fun x => run F_codec_Sum 3006 [.int .u8 (wrapF .u8 (n + x)), .slice x9 x9n x9c, .int .i64 x10, .int .i64 (wrapF .i64 (x11 + 1))] h))
      (some (.int .u8 n, h))
  | _ => none
noncomputable def LB_codec_Sum_L1 : Lab := ⟨F_codec_Sum, 3006, T_codec_Sum_L1, [3, 9, 10, 11], X_codec_Sum_L1⟩
noncomputable def X_codec_Codec_api_File_Encode : XPoly := fun G _ call run a h => match a with
  | [.pointer c, .agg ⟨v⟩] =>
  nw (.cells Y_api_File false v) h fun b hv => aSome c fun p => gInt .i64 (Addr.add p 0) hv fun x => ck ((0 : Int) ≤ x ∧ (x : Int) ≤ x ∧ x ≤ (most : Int)) (nw (.cells Y_uint8 false (manyN (Int.toNat x) [.int .u8 0])) hv fun b_1 hv_1 => aSome c fun p_1 => gFv (Addr.add p_1 1) hv_1 fun x_1 => isNilF x_1 fun b_2 => bnd (cond b_2 (some (true, hv_1)) (aSome c fun p_2 => gFv (Addr.add p_2 1) hv_1 fun x_2 => gAgg ⟨b, 0, none⟩ 4 hv_1 fun x_3 => aFn x_2 fun g fi cp => bnd (call g (fi ++ ([.agg ⟨x_3⟩, .slice (some ⟨b_1, 0, none⟩) (Int.toNat x) (Int.toNat x)] ++ cp)) hv_1) fun r hv_2 => aBool r fun x_4 => some (!x_4, hv_2))) fun c_1 hv_3 => cond c_1
      (some (.tuple ⟨[.slice none 0 0, .bool false]⟩, hv_3))
      (some (.tuple ⟨[.slice (some ⟨b_1, 0, none⟩) (Int.toNat x) (Int.toNat x), .bool true]⟩, hv_3)))
  | _ => none
noncomputable def X_pslot_Codec : XPoly := fun G _ call run a h => match a with
  | [] =>
  bnd (call F_codec_New_api_Proc [.int .i64 24, .func (.func F_pslot_put) ⟨[]⟩ ⟨[]⟩, .func (.func F_pslot_get) ⟨[]⟩ ⟨[]⟩] h) fun r hv => aPtr r fun x => some (.pointer x, hv)
  | _ => none
noncomputable def X_mem_Mem_in : XPoly := fun G _ call run a h => match a with
  | [.pointer m, .int .i64 atv, .int .i64 n] =>
  bnd (cond (ileF 0 atv) (some (ileF 0 n, h)) (some (false, h))) fun c hv => bnd (cond c (aSome m fun p => gSl (Addr.add p 0) hv fun _ xn _ => some (ileF atv ((xn : Nat) : Int), hv)) (some (false, hv))) fun c_1 hv_1 => bnd (cond c_1 (aSome m fun p_1 => gSl (Addr.add p_1 0) hv_1 fun _ xn_1 _ => some (ileF n (wrapF .i64 (((xn_1 : Nat) : Int) - atv)), hv_1)) (some (false, hv_1))) fun c_2 hv_2 => some (.bool c_2, hv_2)
  | _ => none
noncomputable def X_host_Host_back : XPoly := fun G _ call run a h => match a with
  | [.pointer hv, .agg ⟨r⟩] =>
  nw (.cells Y_api_Ret false r) h fun b hv_1 => nw (.cells Y_api_Out false [.int .i64 0, .int .i64 0, .int .i64 0, .int .i64 0, .int .i64 0, .slice none 0 0, .int .i64 0, .int .i64 0, .slice none 0 0, .bool false, .slice none 0 0, .int .i64 0]) hv_1 fun b_1 hv_2 => aSome hv fun p => gInt .i64 (Addr.add p 2) hv_2 fun x => aSome hv fun p_1 => gAgg (Addr.add p_1 7) 4 hv_2 fun x_1 => gInt .i64 (Addr.add ⟨b, 0, none⟩ 0) hv_2 fun x_2 => gInt .i64 (Addr.add ⟨b, 0, none⟩ 1) hv_2 fun x_3 => gSl (Addr.add ⟨b, 0, none⟩ 2) hv_2 fun x_4 xn xc => ck (List.length x_1 = 4) (ck (List.length (.int .i64 0 :: (.int .i64 x :: (x_1 ++ (.int .i64 x_2 :: (.int .i64 x_3 :: (.slice x_4 xn xc :: (.bool true :: (.slice none 0 0 :: [.int .i64 0])))))))) = 12) (pAgg ⟨b_1, 0, none⟩ (.int .i64 0 :: (.int .i64 x :: (x_1 ++ (.int .i64 x_2 :: (.int .i64 x_3 :: (.slice x_4 xn xc :: (.bool true :: (.slice none 0 0 :: [.int .i64 0])))))))) hv_2 fun hv_3 => gAgg ⟨b_1, 0, none⟩ 12 hv_3 fun x_5 => some (.agg ⟨x_5⟩, hv_3)))
  | _ => none
noncomputable def X_sect_Sect_Holds : XPoly := fun G _ call run a h => match a with
  | [.pointer s, .int .i64 who, .int .i64 stamp] =>
  aSome s fun p => gBool (Addr.add p 1) h fun x => bnd (cond x (aSome s fun p_1 => gInt .i64 (Addr.add p_1 2) h fun x_1 => some (ieqF x_1 who, h)) (some (false, h))) fun c hv => bnd (cond c (aSome s fun p_2 => gInt .i64 (Addr.add p_2 3) hv fun x_2 => some (ieqF x_2 stamp, hv)) (some (false, hv))) fun c_1 hv_1 => some (.bool c_1, hv_1)
  | _ => none
noncomputable def X_ofile_Decode : XPoly := fun G _ call run a h => match a with
  | [.slice b bn bc] =>
  nw (.cells Y_api_File false [.int .i64 0, .int .i64 0, .int .i64 0, .int .i64 0]) h fun b_1 hv => bnd (cond (ieqF ((bn : Nat) : Int) 8) (bnd (call F_codec_Blank [.slice b bn bc] hv) fun r hv_1 => aBool r fun x => some (x, hv_1)) (some (false, hv))) fun c hv_2 => cond c
      (pAgg ⟨b_1, 0, none⟩ [.int .i64 0, .int .i64 0, .int .i64 0, .int .i64 0] hv_2 fun hv_3 => gAgg ⟨b_1, 0, none⟩ 4 hv_3 fun x_1 => some (.tuple ⟨[.agg ⟨x_1⟩, .int .i64 0]⟩, hv_3))
      (bnd (call F_ofile_Codec [] hv_2) fun r_1 hv_4 => aPtr r_1 fun x_2 => bnd (call F_codec_Codec_api_File_Decode [.pointer x_2, .slice b bn bc] hv_4) fun r_2 hv_5 => as2 r_2 fun r_3 r_4 => aAgg r_3 fun x_3 => aBool r_4 fun x_4 => nw (.cells Y_api_File false [.int .i64 0, .int .i64 0, .int .i64 0, .int .i64 0]) hv_5 fun b_2 hv_6 => ck (List.length x_3 = 4) (pAgg ⟨b_2, 0, none⟩ x_3 hv_6 fun hv_7 => cond (!x_4)
      (pAgg ⟨b_1, 0, none⟩ [.int .i64 0, .int .i64 0, .int .i64 0, .int .i64 0] hv_7 fun hv_8 => gAgg ⟨b_1, 0, none⟩ 4 hv_8 fun x_5 => some (.tuple ⟨[.agg ⟨x_5⟩, .int .i64 2]⟩, hv_8))
      (gAgg ⟨b_2, 0, none⟩ 4 hv_7 fun x_6 => ck (List.length x_6 = 4) (pAgg ⟨b_1, 0, none⟩ x_6 hv_7 fun hv_9 => gAgg ⟨b_1, 0, none⟩ 4 hv_9 fun x_7 => some (.tuple ⟨[.agg ⟨x_7⟩, .int .i64 1]⟩, hv_9)))))
  | _ => none
noncomputable def X_commons_Commons_read : XPoly := fun G _ call run a h => match a with
  | [.pointer c, .agg ⟨r⟩] =>
  nw (.cells Y_api_Rec false r) h fun b hv => gAgg ⟨b, 0, none⟩ 2 hv fun x => bnd (call F_commons_Commons_place [.pointer c, .agg ⟨x⟩] hv) fun r_1 hv_1 => as2 r_1 fun r_2 r_3 => aAgg r_2 fun x_1 => aBool r_3 fun x_2 => nw (.cells Y_commons_place false [.int .i64 0, .int .i64 0, .int .i64 0]) hv_1 fun b_1 hv_2 => ck (List.length x_1 = 3) (pAgg ⟨b_1, 0, none⟩ x_1 hv_2 fun hv_3 => bnd (cond (!x_2) (some (true, hv_3)) (aSome c fun p => gMap (Addr.add p 3) hv_3 fun x_3 => gAgg ⟨b, 0, none⟩ 2 hv_3 fun x_4 => keyN PR Y_api_Rec (.agg ⟨x_4⟩) (opt x_3 fun r_4 => mapAt hv_3 r_4 fun es _ => opt (lookM (.int .i64 0) (.agg ⟨x_4⟩) es) fun f => aInt .i64 f.1 fun x_5 => some (iltF 0 x_5, hv_3)))) fun c_1 hv_4 => cond c_1
      (some (.tuple ⟨[.slice none 0 0, .bool false]⟩, hv_4))
      (aSome c fun p_1 => gPtr (Addr.add p_1 0) hv_4 fun x_6 => aSome c fun p_2 => gInt .i64 (Addr.add p_2 1) hv_4 fun x_7 => gInt .i64 (Addr.add ⟨b_1, 0, none⟩ 0) hv_4 fun x_8 => gInt .i64 (Addr.add ⟨b_1, 0, none⟩ 1) hv_4 fun x_9 => gInt .i64 (Addr.add ⟨b_1, 0, none⟩ 2) hv_4 fun x_10 => nw (.cells Y_api_Answer false [.int .i64 0, .int .i64 0, .slice none 0 0]) hv_4 fun b_2 hv_5 => bnd (call F_kern_Kern_Do [.pointer x_6, .int .i64 x_7, .agg ⟨[.int .i64 1, .int .i64 x_8, .int .i64 x_9, .int .i64 x_10, .int .i64 0, .int .i64 0, .slice none 0 0]⟩] hv_5) fun r_5 hv_6 => aAgg r_5 fun x_11 => ck (List.length x_11 = 3) (pAgg ⟨b_2, 0, none⟩ x_11 hv_6 fun hv_7 => gInt .i64 (Addr.add ⟨b_2, 0, none⟩ 0) hv_7 fun x_12 => cond (ineF x_12 0)
      (aSome c fun p_3 => gMap (Addr.add p_3 3) hv_7 fun x_13 => gAgg ⟨b, 0, none⟩ 2 hv_7 fun x_14 => keyN PR Y_api_Rec (.agg ⟨x_14⟩) (opt x_13 fun r_6 => mapAt hv_7 r_6 fun es_1 _ => opt (lookM (.int .i64 0) (.agg ⟨x_14⟩) es_1) fun f_1 => aInt .i64 f_1.1 fun x_15 => keyN PR Y_api_Rec (.agg ⟨x_14⟩) (opt x_13 fun r_7 => mapAt hv_7 r_7 fun es_2 cl_2 => opt (entM (.int .i64 0) (.agg ⟨x_14⟩) es_2 cl_2) fun f_2 => aInt .i64 f_2.1 fun _ => lt (hset hv_7 r_7 f_2.2.2) fun hv_8 => keyN PR Y_api_Rec (.agg ⟨x_14⟩) (opt x_13 fun r_8 => mapAt hv_8 r_8 fun es_3 _ => opt (lookM (.int .i64 0) (.agg ⟨x_14⟩) es_3) fun f_3 => aInt .i64 f_3.1 fun x_17 => same (.int .i64 x_15) (.int .i64 x_17) (opt x_13 fun r_9 => mapAt hv_8 r_9 fun es_4 cl_4 => opt (bornN (f_2.2.1 : Int) es_4 0) fun i => lt (hset hv_8 r_9 (.map (modN (fun e => { e with val := .int .i64 (wrapF .i64 (x_15 + 1)) }) i es_4) cl_4)) fun hv_9 => some (.tuple ⟨[.slice none 0 0, .bool false]⟩, hv_9))))))
      (gSl (Addr.add ⟨b_2, 0, none⟩ 2) hv_7 fun x_18 xn xc => some (.tuple ⟨[.slice x_18 xn xc, .bool true]⟩, hv_7)))))
  | _ => none
noncomputable def X_codec_Codec_api_Proc_Decode : XPoly := fun G _ call run a h => match a with
  | [.pointer c, .slice b bn bc] =>
  nw (.cells Y_api_Proc false [.int .i64 0, .int .i64 0, .int .i64 0, .int .i64 0, .int .i64 0, .int .i64 0, .int .i64 0, .int .i64 0, .int .i64 0, .int .i64 0, .int .i64 0, .int .i64 0, .int .i64 0, .int .i64 0, .int .i64 0, .int .i64 0]) h fun b_1 hv => nw (.cells Y_api_Proc false [.int .i64 0, .int .i64 0, .int .i64 0, .int .i64 0, .int .i64 0, .int .i64 0, .int .i64 0, .int .i64 0, .int .i64 0, .int .i64 0, .int .i64 0, .int .i64 0, .int .i64 0, .int .i64 0, .int .i64 0, .int .i64 0]) hv fun b_2 hv_1 => aSome c fun p => gFv (Addr.add p 2) hv_1 fun x => isNilF x fun b_3 => bnd (cond b_3 (some (true, hv_1)) (aSome c fun p_1 => gInt .i64 (Addr.add p_1 0) hv_1 fun x_1 => some (ineF ((bn : Nat) : Int) x_1, hv_1))) fun c_1 hv_2 => cond c_1
      (gAgg ⟨b_2, 0, none⟩ 16 hv_2 fun x_2 => ck (List.length x_2 = 16) (pAgg ⟨b_1, 0, none⟩ x_2 hv_2 fun hv_3 => gAgg ⟨b_1, 0, none⟩ 16 hv_3 fun x_3 => some (.tuple ⟨[.agg ⟨x_3⟩, .bool false]⟩, hv_3)))
      (aSome c fun p_2 => gFv (Addr.add p_2 2) hv_2 fun x_4 => nw (.cells Y_api_Proc false [.int .i64 0, .int .i64 0, .int .i64 0, .int .i64 0, .int .i64 0, .int .i64 0, .int .i64 0, .int .i64 0, .int .i64 0, .int .i64 0, .int .i64 0, .int .i64 0, .int .i64 0, .int .i64 0, .int .i64 0, .int .i64 0]) hv_2 fun b_4 hv_4 => bnd (call F_slices_Clone_s_byte_byte [.slice b bn bc] hv_4) fun r hv_5 => aSl r fun x_5 xn xc => gFv (Addr.add p_2 2) hv_5 fun x_6 => sameU (x_4) (x_6) (aFn x_4 fun g fi cp => bnd (call g (fi ++ ([.slice x_5 xn xc] ++ cp)) hv_5) fun r_1 hv_6 => as2 r_1 fun r_2 r_3 => aAgg r_2 fun x_7 => aBool r_3 fun x_8 => ck (List.length x_7 = 16) (pAgg ⟨b_4, 0, none⟩ x_7 hv_6 fun hv_7 => cond (!x_8)
      (gAgg ⟨b_2, 0, none⟩ 16 hv_7 fun x_9 => ck (List.length x_9 = 16) (pAgg ⟨b_1, 0, none⟩ x_9 hv_7 fun hv_8 => gAgg ⟨b_1, 0, none⟩ 16 hv_8 fun x_10 => some (.tuple ⟨[.agg ⟨x_10⟩, .bool false]⟩, hv_8)))
      (gAgg ⟨b_4, 0, none⟩ 16 hv_7 fun x_11 => ck (List.length x_11 = 16) (pAgg ⟨b_1, 0, none⟩ x_11 hv_7 fun hv_9 => gAgg ⟨b_1, 0, none⟩ 16 hv_9 fun x_12 => some (.tuple ⟨[.agg ⟨x_12⟩, .bool true]⟩, hv_9))))))
  | _ => none
noncomputable def X_mem_Mem_Store : XPoly := fun G _ call run a h => match a with
  | [.pointer m, .int .i64 atv, .slice b bn bc] =>
  bnd (call F_mem_Mem_in [.pointer m, .int .i64 atv, .int .i64 ((bn : Nat) : Int)] h) fun r hv => aBool r fun x => cond (!x)
      (some (.int .i64 1, hv))
      (aSome m fun p => gSl (Addr.add p 0) hv fun x_1 xn xc => ckB (fitsOpen x_1 Y_uint8 hv) (ckLF atv xn (gCells b (min bn (xn - (Int.toNat atv)) * 1) hv fun cs => pCells (moved x_1 (decide (Int.toNat atv < xc)) ((Int.toNat atv) * 1)) cs hv fun hv_1 => some (.int .i64 0, hv_1))))
  | _ => none
noncomputable def X_kern_Kern_sect : XPoly := fun G _ call run a h => match a with
  | [.pointer k, .int .i64 env, .int .i64 n] =>
  bnd (cond (iltF n 0) (some (true, h)) (aSome k fun p => gSl (Addr.add p 6) h fun _ xn _ => some (ileF ((xn : Nat) : Int) n, h))) fun c hv => bnd (cond c (some (true, hv)) (aSome k fun p_1 => gSl (Addr.add p_1 1) hv fun x_1 xn_1 _ => aSome x_1 fun p_2 => ckRF n xn_1 (gSl (Addr.add (bare p_2) (Int.toNat n * 1)) hv fun x_2 xn_2 xc_2 => aSome k fun p_3 => gSl (Addr.add p_3 0) hv fun x_3 xn_3 _ => aSome x_3 fun p_4 => ckRF env xn_3 (gInt .i64 (Addr.add (bare p_4) (Int.toNat env * 1)) hv fun x_4 => bnd (call F_slices_Contains_s_int_int [.slice x_2 xn_2 xc_2, .int .i64 x_4] hv) fun r hv_1 => aBool r fun x_5 => some (!x_5, hv_1))))) fun c_1 hv_2 => cond c_1
      (some (.tuple ⟨[.pointer none, .int .i64 8]⟩, hv_2))
      (aSome k fun p_5 => gSl (Addr.add p_5 6) hv_2 fun x_6 xn_4 _ => aSome x_6 fun p_6 => ckRF n xn_4 (gPtr (Addr.add (bare p_6) (Int.toNat n * 1)) hv_2 fun x_7 => some (.tuple ⟨[.pointer x_7, .int .i64 0]⟩, hv_2)))
  | _ => none
noncomputable def X_sect_Sect_Leave : XPoly := fun G _ call run a h => match a with
  | [.pointer s, .int .i64 who, .int .i64 stamp] =>
  bnd (call F_sect_Sect_Holds [.pointer s, .int .i64 who, .int .i64 stamp] h) fun r hv => aBool r fun x => cond (!x)
      (some (.bool false, hv))
      (aSome s fun p => pV (Addr.add p 1) (.bool false) hv fun hv_1 => aSome s fun p_1 => gInt .i64 (Addr.add p_1 7) hv_1 fun x_1 => aSome s fun p_2 => pV (Addr.add p_2 6) (.int .i64 x_1) hv_1 fun hv_2 => some (.bool true, hv_2))
  | _ => none
noncomputable def X_codec_New_api_File : XPoly := fun G _ call run a h => match a with
  | [.int .i64 size, put, get] =>
  one put (one get (nw (.cells Y_codec_Codec_api_File false [.int .i64 (mm2 false (mm2 true size 0) 64), put, get]) h fun b hv => some (.pointer (some ⟨b, 0, none⟩), hv)))
  | _ => none
noncomputable def X_ofile_get : XPoly := fun G _ call run a h => match a with
  | [.slice b bn bc] =>
  nw (.cells Y_api_File false [.int .i64 0, .int .i64 0, .int .i64 0, .int .i64 0]) h fun b_1 hv => aSome b fun p => ckRF 0 bn (gInt .u8 (Addr.add (bare p) (Int.toNat 0 * 1)) hv fun x => aSome b fun p_1 => ckRF 1 bn (gInt .u8 (Addr.add (bare p_1) (Int.toNat 1 * 1)) hv fun x_1 => aSome b fun p_2 => ckRF 2 bn (gInt .u8 (Addr.add (bare p_2) (Int.toNat 2 * 1)) hv fun x_2 => aSome b fun p_3 => ckRF 3 bn (gInt .u8 (Addr.add (bare p_3) (Int.toNat 3 * 1)) hv fun x_3 => nw (.cells Y_api_File false [.int .i64 0, .int .i64 0, .int .i64 0, .int .i64 0]) hv fun b_2 hv_1 => pAgg ⟨b_2, 0, none⟩ [.int .i64 (wrapF .i64 (x)), .int .i64 (wrapF .i64 (x_1)), .int .i64 (wrapF .i64 (x_2)), .int .i64 (wrapF .i64 (x_3))] hv_1 fun hv_2 => gAgg ⟨b_2, 0, none⟩ 4 hv_2 fun x_4 => bnd (call F_ofile_Encode [.agg ⟨x_4⟩] hv_2) fun r hv_3 => as2 r fun r_1 r_2 => aSl r_1 fun x_5 xn xc => aBool r_2 fun x_6 => gAgg ⟨b_2, 0, none⟩ 4 hv_3 fun x_7 => bnd (cond x_6 (bnd (call F_slices_Equal_s_byte_byte [.slice x_5 xn xc, .slice b bn bc] hv_3) fun r_3 hv_4 => aBool r_3 fun x_8 => gAgg ⟨b_2, 0, none⟩ 4 hv_4 fun x_9 => same (.agg ⟨x_7⟩) (.agg ⟨x_9⟩) (some (x_8, hv_4))) (some (false, hv_3))) fun c hv_5 => ck (List.length x_7 = 4) (pAgg ⟨b_1, 0, none⟩ x_7 hv_5 fun hv_6 => gAgg ⟨b_1, 0, none⟩ 4 hv_6 fun x_10 => some (.tuple ⟨[.agg ⟨x_10⟩, .bool c]⟩, hv_6))))))
  | _ => none
noncomputable def X_pslot_get : XPoly := fun G _ call run a h => match a with
  | [.slice b bn bc] =>
  nw (.cells Y_api_Proc false [.int .i64 0, .int .i64 0, .int .i64 0, .int .i64 0, .int .i64 0, .int .i64 0, .int .i64 0, .int .i64 0, .int .i64 0, .int .i64 0, .int .i64 0, .int .i64 0, .int .i64 0, .int .i64 0, .int .i64 0, .int .i64 0]) h fun b_1 hv => aSome b fun p => ckRF 0 bn (gInt .u8 (Addr.add (bare p) (Int.toNat 0 * 1)) hv fun x => aSome b fun p_1 => ckRF 1 bn (gInt .u8 (Addr.add (bare p_1) (Int.toNat 1 * 1)) hv fun x_1 => aSome b fun p_2 => ckRF 2 bn (gInt .u8 (Addr.add (bare p_2) (Int.toNat 2 * 1)) hv fun x_2 => aSome b fun p_3 => ckRF 3 bn (gInt .u8 (Addr.add (bare p_3) (Int.toNat 3 * 1)) hv fun x_3 => nw (.cells Y_api_Proc false [.int .i64 0, .int .i64 0, .int .i64 0, .int .i64 0, .int .i64 0, .int .i64 0, .int .i64 0, .int .i64 0, .int .i64 0, .int .i64 0, .int .i64 0, .int .i64 0, .int .i64 0, .int .i64 0, .int .i64 0, .int .i64 0]) hv fun b_2 hv_1 => pAgg ⟨b_2, 0, none⟩ [.int .i64 (wrapF .i64 (x)), .int .i64 (wrapF .i64 (x_1)), .int .i64 (wrapF .i64 (x_2)), .int .i64 (wrapF .i64 (x_3)), .int .i64 0, .int .i64 0, .int .i64 0, .int .i64 0, .int .i64 0, .int .i64 0, .int .i64 0, .int .i64 0, .int .i64 0, .int .i64 0, .int .i64 0, .int .i64 0] hv_1 fun hv_2 => nw (.cells Y_p_int false [.pointer (some (Addr.add ⟨b_2, 0, none⟩ 4)), .pointer (some (Addr.add ⟨b_2, 0, none⟩ 5)), .pointer (some (Addr.add ⟨b_2, 0, none⟩ 6)), .pointer (some (Addr.add ⟨b_2, 0, none⟩ 7))]) hv_2 fun b_3 hv_3 => run F_pslot_get 3006 [.slice b bn bc, .pointer (some ⟨b_1, 0, none⟩), .pointer (some ⟨b_2, 0, none⟩), .slice (some ⟨b_3, 0, none⟩) 4 4, .int .i64 4, .int .i64 0] hv_3))))
  | _ => none
noncomputable def X_pslot_get_L1 : XPoly := fun G _ call run a h => match a with
  | [.slice b bn bc, .pointer (some x2), .pointer (some p), .slice x31 x31n x31c, .int .i64 x32, .int .i64 x33] =>
  cond (iltF x33 x32)
      (aSome x31 fun p_1 => ckRF x33 x31n (gPtr (Addr.add (bare p_1) (Int.toNat x33 * 1)) h fun x => bnd (call F_codec_Get2 [.slice b bn bc, .int .i64 (wrapF .i64 (4 + (wrapF .i64 (2 * x33))))] h) fun r hv => as2 r fun r_1 r_2 => aInt .i64 r_1 fun x_1 => aBool r_2 fun _ => aSome x fun p_2 => pV p_2 (.int .i64 x_1) hv fun hv_1 => run F_pslot_get 3006 [.slice b bn bc, .pointer (some x2), .pointer (some p), .slice x31 x31n x31c, .int .i64 x32, .int .i64 (wrapF .i64 (x33 + 1))] hv_1))
      (run F_pslot_get 3016 [.slice b bn bc, .pointer (some x2), .pointer (some p), .int .i64 0] h)
  | _ => none
noncomputable def LB_pslot_get_L1 : Lab := ⟨F_pslot_get, 3006, T_pslot_get_L1, [0, 2, 4, 31, 32, 33], X_pslot_get_L1⟩
noncomputable def X_pslot_get_L2 : XPoly := fun G _ call run a h => match a with
  | [.slice b bn bc, .pointer (some x2), .pointer (some p), .int .i64 x49] =>
  cond (iltF x49 8)
      (aSome b fun p_1 => ckRF (wrapF .i64 (12 + x49)) bn (gInt .u8 (Addr.add (bare p_1) (Int.toNat (wrapF .i64 (12 + x49)) * 1)) h fun x => ckRF x49 8 (pV (Addr.add (Addr.add p 8) (Int.toNat x49 * 1)) (.int .i64 (wrapF .i64 (x))) h fun hv => run F_pslot_get 3016 [.slice b bn bc, .pointer (some x2), .pointer (some p), .int .i64 (wrapF .i64 (x49 + 1))] hv)))
      (gAgg p 16 h fun x_1 => bnd (call F_pslot_Encode [.agg ⟨x_1⟩] h) fun r hv_1 => as2 r fun r_1 r_2 => aSl r_1 fun x_2 xn xc => aBool r_2 fun x_3 => gAgg p 16 hv_1 fun x_4 => bnd (cond x_3 (bnd (call F_slices_Equal_s_byte_byte [.slice x_2 xn xc, .slice b bn bc] hv_1) fun r_3 hv_2 => aBool r_3 fun x_5 => gAgg p 16 hv_2 fun x_6 => same (.agg ⟨x_4⟩) (.agg ⟨x_6⟩) (some (x_5, hv_2))) (some (false, hv_1))) fun c hv_3 => ck (List.length x_4 = 16) (pAgg x2 x_4 hv_3 fun hv_4 => gAgg x2 16 hv_4 fun x_7 => some (.tuple ⟨[.agg ⟨x_7⟩, .bool c]⟩, hv_4)))
  | _ => none
noncomputable def LB_pslot_get_L2 : Lab := ⟨F_pslot_get, 3016, T_pslot_get_L2, [0, 2, 4, 49], X_pslot_get_L2⟩
noncomputable def X_calls_files : XPoly := fun G _ call run a h => match a with
  | [.pointer c, .int .i64 i, .agg ⟨s⟩] =>
  nw (.cells Y_api_Sys false s) h fun b hv => nw (.cells Y_api_Ret false [.int .i64 0, .int .i64 0, .slice none 0 0, .bool false]) hv fun b_1 hv_1 => gInt .i64 (Addr.add ⟨b, 0, none⟩ 0) hv_1 fun x => cond (ieqF x 9)
      (bnd (call F_fds_Pipe [.pointer c, .int .i64 i] hv_1) fun r hv_2 => aAgg r fun x_1 => ck (List.length x_1 = 4) (pAgg ⟨b_1, 0, none⟩ x_1 hv_2 fun hv_3 => gAgg ⟨b_1, 0, none⟩ 4 hv_3 fun x_2 => some (.tuple ⟨[.agg ⟨x_2⟩, .bool true]⟩, hv_3)))
      (cond (ieqF x 10)
      (gInt .i64 (Addr.add ⟨b, 0, none⟩ 1) hv_1 fun x_3 => gInt .i64 (Addr.add ⟨b, 0, none⟩ 2) hv_1 fun x_4 => bnd (call F_pipes_Read [.pointer c, .int .i64 i, .int .i64 x_3, .int .i64 x_4] hv_1) fun r_1 hv_4 => aAgg r_1 fun x_5 => ck (List.length x_5 = 4) (pAgg ⟨b_1, 0, none⟩ x_5 hv_4 fun hv_5 => gAgg ⟨b_1, 0, none⟩ 4 hv_5 fun x_6 => some (.tuple ⟨[.agg ⟨x_6⟩, .bool true]⟩, hv_5)))
      (cond (ieqF x 11)
      (gInt .i64 (Addr.add ⟨b, 0, none⟩ 1) hv_1 fun x_7 => gSl (Addr.add ⟨b, 0, none⟩ 3) hv_1 fun x_8 xn xc => bnd (call F_pipes_Write [.pointer c, .int .i64 i, .int .i64 x_7, .slice x_8 xn xc] hv_1) fun r_2 hv_6 => aAgg r_2 fun x_9 => ck (List.length x_9 = 4) (pAgg ⟨b_1, 0, none⟩ x_9 hv_6 fun hv_7 => gAgg ⟨b_1, 0, none⟩ 4 hv_7 fun x_10 => some (.tuple ⟨[.agg ⟨x_10⟩, .bool true]⟩, hv_7)))
      (cond (ieqF x 12)
      (gInt .i64 (Addr.add ⟨b, 0, none⟩ 1) hv_1 fun x_11 => bnd (call F_fds_Close [.pointer c, .int .i64 i, .int .i64 x_11] hv_1) fun r_3 hv_8 => aAgg r_3 fun x_12 => ck (List.length x_12 = 4) (pAgg ⟨b_1, 0, none⟩ x_12 hv_8 fun hv_9 => gAgg ⟨b_1, 0, none⟩ 4 hv_9 fun x_13 => some (.tuple ⟨[.agg ⟨x_13⟩, .bool true]⟩, hv_9)))
      (cond (ieqF x 13)
      (gInt .i64 (Addr.add ⟨b, 0, none⟩ 1) hv_1 fun x_14 => bnd (call F_fds_Dup [.pointer c, .int .i64 i, .int .i64 x_14] hv_1) fun r_4 hv_10 => aAgg r_4 fun x_15 => ck (List.length x_15 = 4) (pAgg ⟨b_1, 0, none⟩ x_15 hv_10 fun hv_11 => gAgg ⟨b_1, 0, none⟩ 4 hv_11 fun x_16 => some (.tuple ⟨[.agg ⟨x_16⟩, .bool true]⟩, hv_11)))
      (cond (ieqF x 14)
      (gInt .i64 (Addr.add ⟨b, 0, none⟩ 1) hv_1 fun x_17 => gInt .i64 (Addr.add ⟨b, 0, none⟩ 2) hv_1 fun x_18 => bnd (call F_fds_Dup2 [.pointer c, .int .i64 i, .int .i64 x_17, .int .i64 x_18] hv_1) fun r_5 hv_12 => aAgg r_5 fun x_19 => ck (List.length x_19 = 4) (pAgg ⟨b_1, 0, none⟩ x_19 hv_12 fun hv_13 => gAgg ⟨b_1, 0, none⟩ 4 hv_13 fun x_20 => some (.tuple ⟨[.agg ⟨x_20⟩, .bool true]⟩, hv_13)))
      (cond (ieqF x 15)
      (gInt .i64 (Addr.add ⟨b, 0, none⟩ 1) hv_1 fun x_21 => gInt .i64 (Addr.add ⟨b, 0, none⟩ 2) hv_1 fun x_22 => bnd (call F_fds_Now [.pointer c, .int .i64 i, .int .i64 x_21, .int .i64 x_22] hv_1) fun r_6 hv_14 => aAgg r_6 fun x_23 => ck (List.length x_23 = 4) (pAgg ⟨b_1, 0, none⟩ x_23 hv_14 fun hv_15 => gAgg ⟨b_1, 0, none⟩ 4 hv_15 fun x_24 => some (.tuple ⟨[.agg ⟨x_24⟩, .bool true]⟩, hv_15)))
      (cond (ieqF x 16)
      (gInt .i64 (Addr.add ⟨b, 0, none⟩ 1) hv_1 fun x_25 => bnd (call F_pipes_Front [.pointer c, .int .i64 i, .int .i64 x_25] hv_1) fun r_7 hv_16 => aAgg r_7 fun x_26 => ck (List.length x_26 = 4) (pAgg ⟨b_1, 0, none⟩ x_26 hv_16 fun hv_17 => gAgg ⟨b_1, 0, none⟩ 4 hv_17 fun x_27 => some (.tuple ⟨[.agg ⟨x_27⟩, .bool true]⟩, hv_17)))
      (pAgg ⟨b_1, 0, none⟩ [.int .i64 0, .int .i64 0, .slice none 0 0, .bool false] hv_1 fun hv_18 => gAgg ⟨b_1, 0, none⟩ 4 hv_18 fun x_28 => some (.tuple ⟨[.agg ⟨x_28⟩, .bool false]⟩, hv_18)))))))))
  | _ => none
noncomputable def X_fds_Of : XPoly := fun G _ call run a h => match a with
  | [.pointer c, .int .i64 i, .int .i64 fd] =>
  nw (.cells Y_api_File false [.int .i64 0, .int .i64 0, .int .i64 0, .int .i64 0]) h fun b hv => bnd (call F_proc_Self [.pointer c, .int .i64 i] hv) fun r hv_1 => as2 r fun r_1 r_2 => aAgg r_1 fun x => aInt .i64 r_2 fun x_1 => nw (.cells Y_api_Proc false [.int .i64 0, .int .i64 0, .int .i64 0, .int .i64 0, .int .i64 0, .int .i64 0, .int .i64 0, .int .i64 0, .int .i64 0, .int .i64 0, .int .i64 0, .int .i64 0, .int .i64 0, .int .i64 0, .int .i64 0, .int .i64 0]) hv_1 fun b_1 hv_2 => ck (List.length x = 16) (pAgg ⟨b_1, 0, none⟩ x hv_2 fun hv_3 => cond (ineF x_1 0)
      (gAgg ⟨b, 0, none⟩ 4 hv_3 fun x_2 => ck (List.length x_2 = 4) (pAgg ⟨b, 0, none⟩ x_2 hv_3 fun hv_4 => gAgg ⟨b, 0, none⟩ 4 hv_4 fun x_3 => some (.tuple ⟨[.int .i64 0, .agg ⟨x_3⟩, .int .i64 x_1]⟩, hv_4)))
      (gAgg ⟨b_1, 0, none⟩ 16 hv_3 fun x_4 => bnd (call F_fds_named [.agg ⟨x_4⟩, .int .i64 fd] hv_3) fun r_3 hv_5 => aBool r_3 fun x_5 => cond (!x_5)
      (gAgg ⟨b, 0, none⟩ 4 hv_5 fun x_6 => ck (List.length x_6 = 4) (pAgg ⟨b, 0, none⟩ x_6 hv_5 fun hv_6 => gAgg ⟨b, 0, none⟩ 4 hv_6 fun x_7 => some (.tuple ⟨[.int .i64 0, .agg ⟨x_7⟩, .int .i64 109]⟩, hv_6)))
      (ckRF fd 8 (gInt .i64 (Addr.add (Addr.add ⟨b_1, 0, none⟩ 8) (Int.toNat fd * 1)) hv_5 fun x_8 => bnd (call F_commons_Commons_File [.pointer c, .int .i64 (wrapF .i64 (x_8 - 1))] hv_5) fun r_4 hv_7 => as2 r_4 fun r_5 r_6 => aAgg r_5 fun x_9 => aInt .i64 r_6 fun x_10 => ck (List.length x_9 = 4) (pAgg ⟨b, 0, none⟩ x_9 hv_7 fun hv_8 => cond (ineF x_10 1)
      (pAgg ⟨b, 0, none⟩ [.int .i64 0, .int .i64 0, .int .i64 0, .int .i64 0] hv_8 fun hv_9 => gAgg ⟨b, 0, none⟩ 4 hv_9 fun x_11 => some (.tuple ⟨[.int .i64 0, .agg ⟨x_11⟩, .int .i64 105]⟩, hv_9))
      (ckRF fd 8 (gInt .i64 (Addr.add (Addr.add ⟨b_1, 0, none⟩ 8) (Int.toNat fd * 1)) hv_8 fun x_12 => gAgg ⟨b, 0, none⟩ 4 hv_8 fun x_13 => ck (List.length x_13 = 4) (pAgg ⟨b, 0, none⟩ x_13 hv_8 fun hv_10 => gAgg ⟨b, 0, none⟩ 4 hv_10 fun x_14 => some (.tuple ⟨[.int .i64 (wrapF .i64 (x_12 - 1)), .agg ⟨x_14⟩, .int .i64 0]⟩, hv_10)))))))))
  | _ => none
noncomputable def X_pred_Any : XPoly := fun G _ call run a h => match a with
  | [.int .i64 atv, .int .i64 mask] =>
  bnd (call F_pred_in [.int .i64 atv] h) fun r hv => aBool r fun x => bnd (cond (!x) (some (true, hv)) (bnd (call F_pred_in [.int .i64 mask] hv) fun r_1 hv_1 => aBool r_1 fun x_1 => some (!x_1, hv_1))) fun c hv_2 => cond c
      (some (.slice none 0 0, hv_2))
      (nw (.cells Y_api_Ins false [.int .i64 1, .int .i64 atv, .int .i64 0, .int .i64 3, .int .i64 mask, .int .i64 0, .int .i64 7, .int .i64 0, .int .i64 0, .int .i64 5, .int .i64 1, .int .i64 0, .int .i64 6, .int .i64 0, .int .i64 0]) hv_2 fun b hv_3 => some (.slice (some ⟨b, 0, none⟩) 5 5, hv_3))
  | _ => none
noncomputable def X_proc_Self : XPoly := fun G _ call run a h => match a with
  | [.pointer c, .int .i64 i] =>
  nw (.cells Y_api_Proc false [.int .i64 0, .int .i64 0, .int .i64 0, .int .i64 0, .int .i64 0, .int .i64 0, .int .i64 0, .int .i64 0, .int .i64 0, .int .i64 0, .int .i64 0, .int .i64 0, .int .i64 0, .int .i64 0, .int .i64 0, .int .i64 0]) h fun b hv => bnd (call F_commons_Commons_Look [.pointer c] hv) fun r hv_1 => as0 r (bnd (call F_commons_Commons_Proc [.pointer c, .int .i64 i] hv_1) fun r_1 hv_2 => as2 r_1 fun r_2 r_3 => aAgg r_2 fun x => aInt .i64 r_3 fun x_1 => nw (.cells Y_api_Proc false [.int .i64 0, .int .i64 0, .int .i64 0, .int .i64 0, .int .i64 0, .int .i64 0, .int .i64 0, .int .i64 0, .int .i64 0, .int .i64 0, .int .i64 0, .int .i64 0, .int .i64 0, .int .i64 0, .int .i64 0, .int .i64 0]) hv_2 fun b_1 hv_3 => ck (List.length x = 16) (pAgg ⟨b_1, 0, none⟩ x hv_3 fun hv_4 => bnd (cond (ineF x_1 1) (some (true, hv_4)) (gInt .i64 (Addr.add ⟨b_1, 0, none⟩ 0) hv_4 fun x_2 => some (ineF x_2 1, hv_4))) fun c_1 hv_5 => cond c_1
      (pAgg ⟨b, 0, none⟩ [.int .i64 0, .int .i64 0, .int .i64 0, .int .i64 0, .int .i64 0, .int .i64 0, .int .i64 0, .int .i64 0, .int .i64 0, .int .i64 0, .int .i64 0, .int .i64 0, .int .i64 0, .int .i64 0, .int .i64 0, .int .i64 0] hv_5 fun hv_6 => gAgg ⟨b, 0, none⟩ 16 hv_6 fun x_3 => some (.tuple ⟨[.agg ⟨x_3⟩, .int .i64 105]⟩, hv_6))
      (gAgg ⟨b_1, 0, none⟩ 16 hv_5 fun x_4 => ck (List.length x_4 = 16) (pAgg ⟨b, 0, none⟩ x_4 hv_5 fun hv_7 => gAgg ⟨b, 0, none⟩ 16 hv_7 fun x_5 => some (.tuple ⟨[.agg ⟨x_5⟩, .int .i64 0]⟩, hv_7)))))
  | _ => none
noncomputable def X_codec_Codec_api_File_Decode : XPoly := fun G _ call run a h => match a with
  | [.pointer c, .slice b bn bc] =>
  nw (.cells Y_api_File false [.int .i64 0, .int .i64 0, .int .i64 0, .int .i64 0]) h fun b_1 hv => nw (.cells Y_api_File false [.int .i64 0, .int .i64 0, .int .i64 0, .int .i64 0]) hv fun b_2 hv_1 => aSome c fun p => gFv (Addr.add p 2) hv_1 fun x => isNilF x fun b_3 => bnd (cond b_3 (some (true, hv_1)) (aSome c fun p_1 => gInt .i64 (Addr.add p_1 0) hv_1 fun x_1 => some (ineF ((bn : Nat) : Int) x_1, hv_1))) fun c_1 hv_2 => cond c_1
      (gAgg ⟨b_2, 0, none⟩ 4 hv_2 fun x_2 => ck (List.length x_2 = 4) (pAgg ⟨b_1, 0, none⟩ x_2 hv_2 fun hv_3 => gAgg ⟨b_1, 0, none⟩ 4 hv_3 fun x_3 => some (.tuple ⟨[.agg ⟨x_3⟩, .bool false]⟩, hv_3)))
      (aSome c fun p_2 => gFv (Addr.add p_2 2) hv_2 fun x_4 => nw (.cells Y_api_File false [.int .i64 0, .int .i64 0, .int .i64 0, .int .i64 0]) hv_2 fun b_4 hv_4 => bnd (call F_slices_Clone_s_byte_byte [.slice b bn bc] hv_4) fun r hv_5 => aSl r fun x_5 xn xc => gFv (Addr.add p_2 2) hv_5 fun x_6 => sameU (x_4) (x_6) (aFn x_4 fun g fi cp => bnd (call g (fi ++ ([.slice x_5 xn xc] ++ cp)) hv_5) fun r_1 hv_6 => as2 r_1 fun r_2 r_3 => aAgg r_2 fun x_7 => aBool r_3 fun x_8 => ck (List.length x_7 = 4) (pAgg ⟨b_4, 0, none⟩ x_7 hv_6 fun hv_7 => cond (!x_8)
      (gAgg ⟨b_2, 0, none⟩ 4 hv_7 fun x_9 => ck (List.length x_9 = 4) (pAgg ⟨b_1, 0, none⟩ x_9 hv_7 fun hv_8 => gAgg ⟨b_1, 0, none⟩ 4 hv_8 fun x_10 => some (.tuple ⟨[.agg ⟨x_10⟩, .bool false]⟩, hv_8)))
      (gAgg ⟨b_4, 0, none⟩ 4 hv_7 fun x_11 => ck (List.length x_11 = 4) (pAgg ⟨b_1, 0, none⟩ x_11 hv_7 fun hv_9 => gAgg ⟨b_1, 0, none⟩ 4 hv_9 fun x_12 => some (.tuple ⟨[.agg ⟨x_12⟩, .bool true]⟩, hv_9))))))
  | _ => none
noncomputable def X_table_Table_api_Cap_Get : XPoly := fun G _ call run a h => match a with
  | [.pointer t, .int .i64 name] =>
  nw (.cells Y_api_Cap false [.int .i64 0, .int .i64 0, .int .i64 0, .int .i64 0, .int .i64 0, .int .i64 0]) h fun b hv => bnd (call F_table_Table_api_Cap_at [.pointer t, .int .i64 name] hv) fun r hv_1 => aPtr r fun x => cond x.isNone
      (nw (.cells Y_api_Cap false [.int .i64 0, .int .i64 0, .int .i64 0, .int .i64 0, .int .i64 0, .int .i64 0]) hv_1 fun b_1 hv_2 => gAgg ⟨b_1, 0, none⟩ 6 hv_2 fun x_1 => ck (List.length x_1 = 6) (pAgg ⟨b, 0, none⟩ x_1 hv_2 fun hv_3 => gAgg ⟨b, 0, none⟩ 6 hv_3 fun x_2 => some (.tuple ⟨[.agg ⟨x_2⟩, .bool false]⟩, hv_3)))
      (aSome x fun p => gAgg (Addr.add p 0) 6 hv_1 fun x_3 => ck (List.length x_3 = 6) (pAgg ⟨b, 0, none⟩ x_3 hv_1 fun hv_4 => gAgg ⟨b, 0, none⟩ 6 hv_4 fun x_4 => some (.tuple ⟨[.agg ⟨x_4⟩, .bool true]⟩, hv_4)))
  | _ => none
noncomputable def X_codec_Put2 : XPoly := fun G _ call run a h => match a with
  | [.slice b bn bc, .int .i64 atv, .int .i64 n] =>
  bnd (cond (iltF atv 0) (some (true, h)) (some (iltF (wrapF .i64 (((bn : Nat) : Int) - 2)) atv, h))) fun c hv => bnd (cond c (some (true, hv)) (some (iltF n 0, hv))) fun c_1 hv_1 => bnd (cond c_1 (some (true, hv_1)) (some (iltF 65535 n, hv_1))) fun c_2 hv_2 => cond c_2
      (some (.bool false, hv_2))
      (aSome b fun p => ckRF atv bn (pV (Addr.add (bare p) (Int.toNat atv * 1)) (.int .u8 (wrapF .u8 (Int.fdiv n (2 ^ 8)))) hv_2 fun hv_3 => aSome b fun p_1 => ckRF (wrapF .i64 (atv + 1)) bn (pV (Addr.add (bare p_1) (Int.toNat (wrapF .i64 (atv + 1)) * 1)) (.int .u8 (wrapF .u8 (n))) hv_3 fun hv_4 => some (.bool true, hv_4))))
  | _ => none
noncomputable def X_codec_Get2 : XPoly := fun G _ call run a h => match a with
  | [.slice b bn bc, .int .i64 atv] =>
  bnd (cond (iltF atv 0) (some (true, h)) (some (iltF (wrapF .i64 (((bn : Nat) : Int) - 2)) atv, h))) fun c hv => cond c
      (some (.tuple ⟨[.int .i64 0, .bool false]⟩, hv))
      (aSome b fun p => ckRF atv bn (gInt .u8 (Addr.add (bare p) (Int.toNat atv * 1)) hv fun x => aSome b fun p_1 => ckRF (wrapF .i64 (atv + 1)) bn (gInt .u8 (Addr.add (bare p_1) (Int.toNat (wrapF .i64 (atv + 1)) * 1)) hv fun x_1 => some (.tuple ⟨[.int .i64 (bitO .i64 (wrapF .i64 ((wrapF .i64 (x)) * 2 ^ 8)) (wrapF .i64 (x_1))), .bool true]⟩, hv))))
  | _ => none
noncomputable def X_pipes_Write : XPoly := fun G _ call run a h => match a with
  | [.pointer c, .int .i64 i, .int .i64 fd, .slice b bn bc] =>
  nw (.cells Y_api_Ret false [.int .i64 0, .int .i64 0, .slice none 0 0, .bool false]) h fun b_1 hv => bnd (call F_fds_Of [.pointer c, .int .i64 i, .int .i64 fd] hv) fun r hv_1 => as3 r fun r_1 r_2 r_3 => aInt .i64 r_1 fun _ => aAgg r_2 fun x_1 => aInt .i64 r_3 fun x_2 => nw (.cells Y_api_File false [.int .i64 0, .int .i64 0, .int .i64 0, .int .i64 0]) hv_1 fun b_2 hv_2 => ck (List.length x_1 = 4) (pAgg ⟨b_2, 0, none⟩ x_1 hv_2 fun hv_3 => cond (ineF x_2 0)
      (bnd (call F_pipes_told [.int .i64 x_2] hv_3) fun r_4 hv_4 => aAgg r_4 fun x_3 => ck (List.length x_3 = 4) (pAgg ⟨b_1, 0, none⟩ x_3 hv_4 fun hv_5 => gAgg ⟨b_1, 0, none⟩ 4 hv_5 fun x_4 => some (.agg ⟨x_4⟩, hv_5)))
      (gInt .i64 (Addr.add ⟨b_2, 0, none⟩ 0) hv_3 fun x_5 => cond (ineF x_5 2)
      (bnd (call F_pipes_told [.int .i64 109] hv_3) fun r_5 hv_6 => aAgg r_5 fun x_6 => ck (List.length x_6 = 4) (pAgg ⟨b_1, 0, none⟩ x_6 hv_6 fun hv_7 => gAgg ⟨b_1, 0, none⟩ 4 hv_7 fun x_7 => some (.agg ⟨x_7⟩, hv_7)))
      (cond (iltF 32 ((bn : Nat) : Int))
      (bnd (call F_pipes_told [.int .i64 122] hv_3) fun r_6 hv_8 => aAgg r_6 fun x_8 => ck (List.length x_8 = 4) (pAgg ⟨b_1, 0, none⟩ x_8 hv_8 fun hv_9 => gAgg ⟨b_1, 0, none⟩ 4 hv_9 fun x_9 => some (.agg ⟨x_9⟩, hv_9)))
      (cond (ieqF ((bn : Nat) : Int) 0)
      (pAgg ⟨b_1, 0, none⟩ [.int .i64 0, .int .i64 0, .slice none 0 0, .bool false] hv_3 fun hv_10 => gAgg ⟨b_1, 0, none⟩ 4 hv_10 fun x_10 => some (.agg ⟨x_10⟩, hv_10))
      (gAgg ⟨b_2, 0, none⟩ 4 hv_3 fun x_11 => bnd (call F_pipes_of [.pointer c, .agg ⟨x_11⟩] hv_3) fun r_7 hv_11 => as2 r_7 fun r_8 r_9 => aAgg r_8 fun x_12 => aBool r_9 fun x_13 => nw (.cells Y_pipes_flow false [.int .i64 0, .int .i64 0, .int .i64 0, .int .i64 0, .int .u8 0, .int .u8 0, .int .u8 0, .int .u8 0, .int .u8 0, .int .u8 0, .int .u8 0, .int .u8 0, .int .u8 0, .int .u8 0, .int .u8 0, .int .u8 0, .int .u8 0, .int .u8 0, .int .u8 0, .int .u8 0, .int .u8 0, .int .u8 0, .int .u8 0, .int .u8 0, .int .u8 0, .int .u8 0, .int .u8 0, .int .u8 0, .int .u8 0, .int .u8 0, .int .u8 0, .int .u8 0, .int .u8 0, .int .u8 0, .int .u8 0, .int .u8 0, .nilFunc]) hv_11 fun b_3 hv_12 => ck (List.length x_12 = 37) (pAgg ⟨b_3, 0, none⟩ x_12 hv_12 fun hv_13 => cond (!x_13)
      (bnd (call F_pipes_told [.int .i64 105] hv_13) fun r_10 hv_14 => aAgg r_10 fun x_14 => ck (List.length x_14 = 4) (pAgg ⟨b_1, 0, none⟩ x_14 hv_14 fun hv_15 => gAgg ⟨b_1, 0, none⟩ 4 hv_15 fun x_15 => some (.agg ⟨x_15⟩, hv_15)))
      (gInt .i64 (Addr.add (Addr.add ⟨b_3, 0, none⟩ 0) 2) hv_13 fun x_16 => cond (ieqF x_16 0)
      (bnd (call F_pipes_broken [.pointer c, .int .i64 i] hv_13) fun r_11 hv_16 => aAgg r_11 fun x_17 => ck (List.length x_17 = 4) (pAgg ⟨b_1, 0, none⟩ x_17 hv_16 fun hv_17 => gAgg ⟨b_1, 0, none⟩ 4 hv_17 fun x_18 => some (.agg ⟨x_18⟩, hv_17)))
      (gInt .i64 (Addr.add (Addr.add ⟨b_3, 0, none⟩ 0) 1) hv_13 fun x_19 => bnd (cond (ieqF (wrapF .i64 (32 - x_19)) 0) (some (true, hv_13)) (bnd (cond (ileF ((bn : Nat) : Int) 8) (some (iltF (wrapF .i64 (32 - x_19)) ((bn : Nat) : Int), hv_13)) (some (false, hv_13))) fun c_1 hv_18 => some (c_1, hv_18))) fun c_2 hv_19 => cond c_2
      (gAgg ⟨b_2, 0, none⟩ 4 hv_19 fun x_20 => bnd (call F_pipes_waits [.agg ⟨x_20⟩] hv_19) fun r_12 hv_20 => aAgg r_12 fun x_21 => ck (List.length x_21 = 4) (pAgg ⟨b_1, 0, none⟩ x_21 hv_20 fun hv_21 => gAgg ⟨b_1, 0, none⟩ 4 hv_21 fun x_22 => some (.agg ⟨x_22⟩, hv_21)))
      (gAgg (Addr.add ⟨b_3, 0, none⟩ 0) 36 hv_19 fun x_23 => bnd (call F_ring_Put [.agg ⟨x_23⟩, .slice b bn bc] hv_19) fun r_13 hv_22 => as2 r_13 fun r_14 r_15 => aAgg r_14 fun x_24 => aInt .i64 r_15 fun x_25 => nw (.cells Y_api_Pipe false [.int .i64 0, .int .i64 0, .int .i64 0, .int .i64 0, .int .u8 0, .int .u8 0, .int .u8 0, .int .u8 0, .int .u8 0, .int .u8 0, .int .u8 0, .int .u8 0, .int .u8 0, .int .u8 0, .int .u8 0, .int .u8 0, .int .u8 0, .int .u8 0, .int .u8 0, .int .u8 0, .int .u8 0, .int .u8 0, .int .u8 0, .int .u8 0, .int .u8 0, .int .u8 0, .int .u8 0, .int .u8 0, .int .u8 0, .int .u8 0, .int .u8 0, .int .u8 0, .int .u8 0, .int .u8 0, .int .u8 0, .int .u8 0]) hv_22 fun b_4 hv_23 => ck (List.length x_24 = 36) (pAgg ⟨b_4, 0, none⟩ x_24 hv_23 fun hv_24 => gFv (Addr.add ⟨b_3, 0, none⟩ 36) hv_24 fun x_26 => gAgg ⟨b_4, 0, none⟩ 36 hv_24 fun x_27 => aFn x_26 fun g fi cp => bnd (call g (fi ++ ([.agg ⟨x_27⟩] ++ cp)) hv_24) fun r_16 hv_25 => aBool r_16 fun x_28 => cond (!x_28)
      (bnd (call F_pipes_told [.int .i64 105] hv_25) fun r_17 hv_26 => aAgg r_17 fun x_29 => ck (List.length x_29 = 4) (pAgg ⟨b_1, 0, none⟩ x_29 hv_26 fun hv_27 => gAgg ⟨b_1, 0, none⟩ 4 hv_27 fun x_30 => some (.agg ⟨x_30⟩, hv_27)))
      (pAgg ⟨b_1, 0, none⟩ [.int .i64 x_25, .int .i64 0, .slice none 0 0, .bool false] hv_25 fun hv_28 => gAgg ⟨b_1, 0, none⟩ 4 hv_28 fun x_31 => some (.agg ⟨x_31⟩, hv_28))))))))))))
  | _ => none
noncomputable def X_fds_named : XPoly := fun G _ call run a h => match a with
  | [.agg ⟨p⟩, .int .i64 fd] =>
  nw (.cells Y_api_Proc false p) h fun b hv => bnd (cond (ileF 0 fd) (some (iltF fd 8, hv)) (some (false, hv))) fun c hv_1 => bnd (cond c (ckRF fd 8 (gInt .i64 (Addr.add (Addr.add ⟨b, 0, none⟩ 8) (Int.toNat fd * 1)) hv_1 fun x => some (iltF 0 x, hv_1))) (some (false, hv_1))) fun c_1 hv_2 => some (.bool c_1, hv_2)
  | _ => none
noncomputable def X_pipes_of : XPoly := fun G _ call run a h => match a with
  | [.pointer c, .agg ⟨f⟩] =>
  nw (.cells Y_p_commons_Commons false [.pointer c]) h fun b hv => nw (.cells Y_api_File false f) hv fun b_1 hv_1 => nw (.cells Y_pipes_flow false [.int .i64 0, .int .i64 0, .int .i64 0, .int .i64 0, .int .u8 0, .int .u8 0, .int .u8 0, .int .u8 0, .int .u8 0, .int .u8 0, .int .u8 0, .int .u8 0, .int .u8 0, .int .u8 0, .int .u8 0, .int .u8 0, .int .u8 0, .int .u8 0, .int .u8 0, .int .u8 0, .int .u8 0, .int .u8 0, .int .u8 0, .int .u8 0, .int .u8 0, .int .u8 0, .int .u8 0, .int .u8 0, .int .u8 0, .int .u8 0, .int .u8 0, .int .u8 0, .int .u8 0, .int .u8 0, .int .u8 0, .int .u8 0, .nilFunc]) hv_1 fun b_2 hv_2 => gInt .i64 (Addr.add ⟨b_1, 0, none⟩ 0) hv_2 fun x => cond (ieqF x 3)
      (gPtr ⟨b, 0, none⟩ hv_2 fun x_1 => bnd (call F_commons_Commons_Term [.pointer x_1] hv_2) fun r hv_3 => as2 r fun r_1 r_2 => aAgg r_1 fun x_2 => aInt .i64 r_2 fun x_3 => nw (.cells Y_api_Pipe false [.int .i64 0, .int .i64 0, .int .i64 0, .int .i64 0, .int .u8 0, .int .u8 0, .int .u8 0, .int .u8 0, .int .u8 0, .int .u8 0, .int .u8 0, .int .u8 0, .int .u8 0, .int .u8 0, .int .u8 0, .int .u8 0, .int .u8 0, .int .u8 0, .int .u8 0, .int .u8 0, .int .u8 0, .int .u8 0, .int .u8 0, .int .u8 0, .int .u8 0, .int .u8 0, .int .u8 0, .int .u8 0, .int .u8 0, .int .u8 0, .int .u8 0, .int .u8 0, .int .u8 0, .int .u8 0, .int .u8 0, .int .u8 0]) hv_3 fun b_3 hv_4 => ck (List.length x_2 = 36) (pAgg ⟨b_3, 0, none⟩ x_2 hv_4 fun hv_5 => gAgg ⟨b_3, 0, none⟩ 36 hv_5 fun x_4 => gPtr ⟨b, 0, none⟩ hv_5 fun x_5 => ck (List.length x_4 = 36) (ck (List.length (x_4 ++ [.func (.func F_commons_Commons_SetTerm) ⟨[.pointer x_5]⟩ ⟨[]⟩]) = 37) (pAgg ⟨b_2, 0, none⟩ (x_4 ++ [.func (.func F_commons_Commons_SetTerm) ⟨[.pointer x_5]⟩ ⟨[]⟩]) hv_5 fun hv_6 => gAgg ⟨b_2, 0, none⟩ 37 hv_6 fun x_6 => some (.tuple ⟨[.agg ⟨x_6⟩, .bool (ieqF x_3 1)]⟩, hv_6)))))
      (gPtr ⟨b, 0, none⟩ hv_2 fun x_7 => gInt .i64 (Addr.add ⟨b_1, 0, none⟩ 1) hv_2 fun x_8 => bnd (call F_commons_Commons_Pipe [.pointer x_7, .int .i64 x_8] hv_2) fun r_3 hv_7 => as2 r_3 fun r_4 r_5 => aAgg r_4 fun x_9 => aInt .i64 r_5 fun x_10 => nw (.cells Y_api_Pipe false [.int .i64 0, .int .i64 0, .int .i64 0, .int .i64 0, .int .u8 0, .int .u8 0, .int .u8 0, .int .u8 0, .int .u8 0, .int .u8 0, .int .u8 0, .int .u8 0, .int .u8 0, .int .u8 0, .int .u8 0, .int .u8 0, .int .u8 0, .int .u8 0, .int .u8 0, .int .u8 0, .int .u8 0, .int .u8 0, .int .u8 0, .int .u8 0, .int .u8 0, .int .u8 0, .int .u8 0, .int .u8 0, .int .u8 0, .int .u8 0, .int .u8 0, .int .u8 0, .int .u8 0, .int .u8 0, .int .u8 0, .int .u8 0]) hv_7 fun b_4 hv_8 => ck (List.length x_9 = 36) (pAgg ⟨b_4, 0, none⟩ x_9 hv_8 fun hv_9 => gAgg ⟨b_4, 0, none⟩ 36 hv_9 fun x_11 => ck (List.length x_11 = 36) (ck (List.length (x_11 ++ [.func (.func F_pipes_of_1) ⟨[]⟩ ⟨[.pointer (some ⟨b, 0, none⟩), .pointer (some ⟨b_1, 0, none⟩)]⟩]) = 37) (pAgg ⟨b_2, 0, none⟩ (x_11 ++ [.func (.func F_pipes_of_1) ⟨[]⟩ ⟨[.pointer (some ⟨b, 0, none⟩), .pointer (some ⟨b_1, 0, none⟩)]⟩]) hv_9 fun hv_10 => gAgg ⟨b_2, 0, none⟩ 37 hv_10 fun x_12 => some (.tuple ⟨[.agg ⟨x_12⟩, .bool (ieqF x_10 1)]⟩, hv_10)))))
  | _ => none
end Go.EQ

set_option maxRecDepth 100000
set_option linter.unusedVariables false
namespace Go.EQ
open Go Go.Proofs
open Go.NN hiding bnd ld gInt gBool gStr gPtr gSl gMap gFv gAgg gCells nw pV pAgg pCells apd fitsOpen liveA mapAt
open Go.NP Go.NW
noncomputable def X_trace_Fifo : XPoly := fun G _ call run a h => match a with
  | [.slice inv inn inc, .slice out outn outc] =>
  bnd (call F_bytes_HasPrefix [.slice inv inn inc, .slice out outn outc] h) fun r hv => aBool r fun x => some (.bool x, hv)
  | _ => none
noncomputable def X_trace_Flow : XPoly := fun G _ call run a h => match a with
  | [.agg ⟨p⟩, .int .i64 b, .slice l ln lc] =>
  nw (.cells Y_api_Plan false p) h fun b_1 hv => gAgg ⟨b_1, 0, none⟩ 3 hv fun x => bnd (call F_world_New [.agg ⟨x⟩] hv) fun r hv_1 => as2 r fun r_1 r_2 => aPtr r_1 fun x_1 => aInt .i64 r_2 fun x_2 => cond (ineF x_2 0)
      (some (.tuple ⟨[.slice none 0 0, .slice none 0 0, .int .i64 x_2]⟩, hv_1))
      (bnd (cond (iltF b 0) (some (true, hv_1)) (gSl (Addr.add ⟨b_1, 0, none⟩ 1) hv_1 fun _ xn _ => some (ileF ((xn : Nat) : Int) b, hv_1))) fun c hv_2 => cond c
      (some (.tuple ⟨[.slice none 0 0, .slice none 0 0, .int .i64 1]⟩, hv_2))
      (bnd (call F_trace_look [.pointer x_1, .int .i64 b] hv_2) fun r_3 hv_3 => as2 r_3 fun r_4 r_5 => aSl r_4 fun x_4 xn_1 xc_1 => aBool r_5 fun x_5 => run F_trace_Flow 3016 [.int .i64 b, .slice none 0 0, .slice none 0 0, .pointer x_1, .slice x_4 xn_1 xc_1, .bool x_5, .slice l ln lc, .int .i64 ((ln : Nat) : Int), .int .i64 0] hv_3))
  | _ => none
noncomputable def X_trace_Flow_L1 : XPoly := fun G _ call run a h => match a with
  | [.int .i64 b, .slice inv inn inc, .slice out outn outc, .pointer wv, .slice was wasn wasc, .bool good, .slice x39 x39n x39c, .int .i64 x40, .int .i64 x41] =>
  cond (iltF x41 x40)
      (aSome x39 fun p => ckRF x41 x39n (gAgg (Addr.add (bare p) (Int.toNat x41 * 16)) 16 h fun x => nw (.cells Y_api_Step false [.int .i64 0, .int .i64 0, .int .i64 0, .int .i64 0, .slice none 0 0, .int .i64 0, .int .i64 0, .int .i64 0, .slice none 0 0, .int .i64 0, .int .i64 0, .int .i64 0, .int .i64 0, .int .i64 0, .int .i64 0, .slice none 0 0]) h fun b_1 hv => ck (List.length x = 16) (pAgg ⟨b_1, 0, none⟩ x hv fun hv_1 => gAgg ⟨b_1, 0, none⟩ 16 hv_1 fun x_1 => bnd (call F_world_World_Do [.pointer wv, .agg ⟨x_1⟩] hv_1) fun r hv_2 => as2 r fun r_1 r_2 => aAgg r_1 fun _ => aBool r_2 fun _ => bnd (call F_trace_look [.pointer wv, .int .i64 b] hv_2) fun r_3 hv_3 => as2 r_3 fun r_4 r_5 => aSl r_4 fun x_4 xn xc => aBool r_5 fun x_5 => bnd (cond good (some (x_5, hv_3)) (some (false, hv_3))) fun c hv_4 => bnd (cond c (gInt .i64 (Addr.add ⟨b_1, 0, none⟩ 0) hv_4 fun x_6 => some (ineF x_6 5, hv_4)) (some (false, hv_4))) fun c_1 hv_5 => cond c_1
      (ckB (fitsOpen x_4 Y_uint8 hv_5) (ckLF (mm2 false ((wasn : Nat) : Int) ((xn : Nat) : Int)) xn (gCells (moved x_4 (decide (Int.toNat (mm2 false ((wasn : Nat) : Int) ((xn : Nat) : Int)) < xc)) ((Int.toNat (mm2 false ((wasn : Nat) : Int) ((xn : Nat) : Int))) * 1)) ((xn - (Int.toNat (mm2 false ((wasn : Nat) : Int) ((xn : Nat) : Int)))) * 1) hv_5 fun cs => ckB (fitsOpen inv Y_uint8 hv_5) (apd Y_uint8 1 inv inn inc (xn - (Int.toNat (mm2 false ((wasn : Nat) : Int) ((xn : Nat) : Int)))) cs hv_5 fun a an ac hv_6 => ckB (fitsOpen was Y_uint8 hv_6) (ckLF (mm2 true (wrapF .i64 (((wasn : Nat) : Int) - ((xn : Nat) : Int))) 0) wasc (gCells (moved was (decide (0 < wasc)) (0 * 1)) (((Int.toNat (mm2 true (wrapF .i64 (((wasn : Nat) : Int) - ((xn : Nat) : Int))) 0)) - 0) * 1) hv_6 fun cs_1 => ckB (fitsOpen out Y_uint8 hv_6) (apd Y_uint8 1 out outn outc ((Int.toNat (mm2 true (wrapF .i64 (((wasn : Nat) : Int) - ((xn : Nat) : Int))) 0)) - 0) cs_1 hv_6 fun a_1 an_1 ac_1 hv_7 => run F_trace_Flow 3016 [.int .i64 b, .slice a an ac, .slice a_1 an_1 ac_1, .pointer wv, .slice x_4 xn xc, .bool x_5, .slice x39 x39n x39c, .int .i64 x40, .int .i64 (wrapF .i64 (x41 + 1))] hv_7)))))))
      (run F_trace_Flow 3016 [.int .i64 b, .slice inv inn inc, .slice out outn outc, .pointer wv, .slice x_4 xn xc, .bool x_5, .slice x39 x39n x39c, .int .i64 x40, .int .i64 (wrapF .i64 (x41 + 1))] hv_5))))
      (some (.tuple ⟨[.slice inv inn inc, .slice out outn outc, .int .i64 0]⟩, h))
  | _ => none
noncomputable def LB_trace_Flow_L1 : Lab := ⟨F_trace_Flow, 3016, T_trace_Flow_L1, [1, 6, 7, 9, 10, 11, 39, 40, 41], X_trace_Flow_L1⟩
noncomputable def X_trace_look : XPoly := fun G _ call run a h => match a with
  | [.pointer wv, .int .i64 b] =>
  bnd (call F_world_World_Bridge [.pointer wv, .int .i64 b] h) fun r hv => as2 r fun r_1 r_2 => aSl r_1 fun x xn xc => aInt .i64 r_2 fun _ => bnd (call F_ring_Decode [.slice x xn xc] hv) fun r_3 hv_1 => as2 r_3 fun r_4 r_5 => aAgg r_4 fun x_2 => aInt .i64 r_5 fun x_3 => nw (.cells Y_api_Pipe false [.int .i64 0, .int .i64 0, .int .i64 0, .int .i64 0, .int .u8 0, .int .u8 0, .int .u8 0, .int .u8 0, .int .u8 0, .int .u8 0, .int .u8 0, .int .u8 0, .int .u8 0, .int .u8 0, .int .u8 0, .int .u8 0, .int .u8 0, .int .u8 0, .int .u8 0, .int .u8 0, .int .u8 0, .int .u8 0, .int .u8 0, .int .u8 0, .int .u8 0, .int .u8 0, .int .u8 0, .int .u8 0, .int .u8 0, .int .u8 0, .int .u8 0, .int .u8 0, .int .u8 0, .int .u8 0, .int .u8 0, .int .u8 0]) hv_1 fun b_1 hv_2 => ck (List.length x_2 = 36) (pAgg ⟨b_1, 0, none⟩ x_2 hv_2 fun hv_3 => gAgg ⟨b_1, 0, none⟩ 36 hv_3 fun x_4 => bnd (call F_ring_Bytes [.agg ⟨x_4⟩] hv_3) fun r_6 hv_4 => aSl r_6 fun x_5 xn_1 xc_1 => some (.tuple ⟨[.slice x_5 xn_1 xc_1, .bool (ieqF x_3 1)]⟩, hv_4))
  | _ => none
noncomputable def X_world_Check : XPoly := fun G _ call run a h => match a with
  | [.agg ⟨p⟩] =>
  nw (.cells Y_api_Plan false p) h fun b hv => gSl (Addr.add ⟨b, 0, none⟩ 0) hv fun _ xn _ => bnd (cond (iltF ((xn : Nat) : Int) 1) (some (true, hv)) (some (iltF 4 ((xn : Nat) : Int), hv))) fun c hv_1 => bnd (cond c (some (true, hv_1)) (gSl (Addr.add ⟨b, 0, none⟩ 1) hv_1 fun _ xn_1 _ => some (iltF 4 ((xn_1 : Nat) : Int), hv_1))) fun c_1 hv_2 => bnd (cond c_1 (some (true, hv_2)) (gInt .i64 (Addr.add ⟨b, 0, none⟩ 2) hv_2 fun x_2 => some (iltF x_2 1, hv_2))) fun c_2 hv_3 => bnd (cond c_2 (some (true, hv_3)) (gInt .i64 (Addr.add ⟨b, 0, none⟩ 2) hv_3 fun x_3 => some (iltF 1000 x_3, hv_3))) fun c_3 hv_4 => cond c_3
      (some (.int .i64 1, hv_4))
      (gSl (Addr.add ⟨b, 0, none⟩ 1) hv_4 fun x_4 xn_2 xc_2 => run F_world_Check 3010 [.int .i64 ((xn : Nat) : Int), .slice x_4 xn_2 xc_2, .int .i64 ((xn_2 : Nat) : Int), .int .i64 0] hv_4)
  | _ => none
noncomputable def X_world_Check_L1 : XPoly := fun G _ call run a h => match a with
  | [.int .i64 n, .slice x32 x32n x32c, .int .i64 x33, .int .i64 x34] =>
  cond (iltF x34 x33)
      (aSome x32 fun p => ckRF x34 x32n (gAgg (Addr.add (bare p) (Int.toNat x34 * 2)) 2 h fun x => nw (.cells Y_api_Bridge false [.int .i64 0, .int .i64 0]) h fun b hv => ck (List.length x = 2) (pAgg ⟨b, 0, none⟩ x hv fun hv_1 => gInt .i64 (Addr.add ⟨b, 0, none⟩ 0) hv_1 fun x_1 => bnd (cond (iltF x_1 0) (some (true, hv_1)) (gInt .i64 (Addr.add ⟨b, 0, none⟩ 0) hv_1 fun x_2 => some (ileF n x_2, hv_1))) fun c hv_2 => bnd (cond c (some (true, hv_2)) (gInt .i64 (Addr.add ⟨b, 0, none⟩ 1) hv_2 fun x_3 => some (iltF x_3 0, hv_2))) fun c_1 hv_3 => bnd (cond c_1 (some (true, hv_3)) (gInt .i64 (Addr.add ⟨b, 0, none⟩ 1) hv_3 fun x_4 => some (ileF n x_4, hv_3))) fun c_2 hv_4 => bnd (cond c_2 (some (true, hv_4)) (gInt .i64 (Addr.add ⟨b, 0, none⟩ 0) hv_4 fun x_5 => gInt .i64 (Addr.add ⟨b, 0, none⟩ 1) hv_4 fun x_6 => some (ieqF x_5 x_6, hv_4))) fun c_3 hv_5 => cond c_3
      (some (.int .i64 1, hv_5))
      (run F_world_Check 3010 [.int .i64 n, .slice x32 x32n x32c, .int .i64 x33, .int .i64 (wrapF .i64 (x34 + 1))] hv_5))))
      (some (.int .i64 0, h))
  | _ => none
noncomputable def LB_world_Check_L1 : Lab := ⟨F_world_Check, 3010, T_world_Check_L1, [3, 32, 33, 34], X_world_Check_L1⟩
noncomputable def X_world_World_begin : XPoly := fun G _ call run a h => match a with
  | [.pointer wv, .int .i64 s] =>
  aSome wv fun p => gPtr (Addr.add p 3) h fun x => bnd (call F_commons_New [.pointer x, .int .i64 (wrapF .i64 (9 * s))] h) fun r hv => as2 r fun r_1 r_2 => aPtr r_1 fun x_1 => aInt .i64 r_2 fun _ => bnd (call F_commons_Commons_SetTerm [.pointer x_1, .agg ⟨[.int .i64 0, .int .i64 0, .int .i64 1, .int .i64 1, .int .u8 0, .int .u8 0, .int .u8 0, .int .u8 0, .int .u8 0, .int .u8 0, .int .u8 0, .int .u8 0, .int .u8 0, .int .u8 0, .int .u8 0, .int .u8 0, .int .u8 0, .int .u8 0, .int .u8 0, .int .u8 0, .int .u8 0, .int .u8 0, .int .u8 0, .int .u8 0, .int .u8 0, .int .u8 0, .int .u8 0, .int .u8 0, .int .u8 0, .int .u8 0, .int .u8 0, .int .u8 0, .int .u8 0, .int .u8 0, .int .u8 0, .int .u8 0]⟩] hv) fun r_3 hv_1 => aBool r_3 fun _ => bnd (call F_commons_Commons_SetFront [.pointer x_1, .int .i64 0] hv_1) fun r_4 hv_2 => aBool r_4 fun _ => bnd (call F_commons_Commons_SetFile [.pointer x_1, .int .i64 0, .agg ⟨[.int .i64 3, .int .i64 0, .int .i64 1, .int .i64 0]⟩] hv_2) fun r_5 hv_3 => aBool r_5 fun _ => nw (.cells Y_api_Proc false [.int .i64 0, .int .i64 0, .int .i64 0, .int .i64 0, .int .i64 0, .int .i64 0, .int .i64 0, .int .i64 0, .int .i64 0, .int .i64 0, .int .i64 0, .int .i64 0, .int .i64 0, .int .i64 0, .int .i64 0, .int .i64 0]) hv_3 fun b hv_4 => pAgg ⟨b, 0, none⟩ [.int .i64 1, .int .i64 0, .int .i64 0, .int .i64 0, .int .i64 0, .int .i64 0, .int .i64 0, .int .i64 0, .int .i64 0, .int .i64 0, .int .i64 0, .int .i64 0, .int .i64 0, .int .i64 0, .int .i64 0, .int .i64 0] hv_4 fun hv_5 => ckRF 0 8 (pV (Addr.add (Addr.add ⟨b, 0, none⟩ 8) (Int.toNat 0 * 1)) (.int .i64 1) hv_5 fun hv_6 => aSome wv fun p_1 => gSl (Addr.add (Addr.add p_1 0) 1) hv_6 fun x_6 xn xc => run F_world_World_begin 3016 [.int .i64 s, .pointer x_1, .pointer (some ⟨b, 0, none⟩), .int .i64 0, .slice x_6 xn xc, .int .i64 ((xn : Nat) : Int), .int .i64 0] hv_6)
  | _ => none
noncomputable def X_world_World_begin_L1 : XPoly := fun G _ call run a h => match a with
  | [.int .i64 s, .pointer c, .pointer (some p), .int .i64 n, .slice x36 x36n x36c, .int .i64 x37, .int .i64 x38] =>
  cond (iltF x38 x37)
      (aSome x36 fun p_1 => ckRF x38 x36n (gAgg (Addr.add (bare p_1) (Int.toNat x38 * 2)) 2 h fun x => nw (.cells Y_api_Bridge false [.int .i64 0, .int .i64 0]) h fun b hv => ck (List.length x = 2) (pAgg ⟨b, 0, none⟩ x hv fun hv_1 => gInt .i64 (Addr.add ⟨b, 0, none⟩ 0) hv_1 fun x_1 => cond (ieqF s x_1)
      (run F_world_World_begin 7031 [.int .i64 s, .pointer c, .pointer (some p), .int .i64 n, .int .i64 2, .slice x36 x36n x36c, .int .i64 x37, .int .i64 x38] hv_1)
      (gInt .i64 (Addr.add ⟨b, 0, none⟩ 1) hv_1 fun x_2 => cond (ieqF s x_2)
      (run F_world_World_begin 7031 [.int .i64 s, .pointer c, .pointer (some p), .int .i64 n, .int .i64 1, .slice x36 x36n x36c, .int .i64 x37, .int .i64 x38] hv_1)
      (run F_world_World_begin 3016 [.int .i64 s, .pointer c, .pointer (some p), .int .i64 n, .slice x36 x36n x36c, .int .i64 x37, .int .i64 (wrapF .i64 (x38 + 1))] hv_1)))))
      (gAgg p 16 h fun x_3 => bnd (call F_commons_Commons_SetProc [.pointer c, .int .i64 0, .agg ⟨x_3⟩] h) fun r hv_2 => aBool r fun _ => some (.tuple ⟨[]⟩, hv_2))
  | _ => none
noncomputable def LB_world_World_begin_L1 : Lab := ⟨F_world_World_begin, 3016, T_world_World_begin_L1, [1, 4, 6, 7, 36, 37, 38], X_world_World_begin_L1⟩
noncomputable def X_world_World_begin_R1 : XPoly := fun G _ call run a h => match a with
  | [.int .i64 s, .pointer c, .pointer (some p), .int .i64 n, .int .i64 kind, .slice x36 x36n x36c, .int .i64 x37, .int .i64 x38] =>
  bnd (call F_commons_Commons_SetPipe [.pointer c, .int .i64 (wrapF .i64 ((wrapF .i64 (4 + (wrapF .i64 (n + 1)))) - 1)), .agg ⟨[.int .i64 0, .int .i64 0, .int .i64 1, .int .i64 1, .int .u8 0, .int .u8 0, .int .u8 0, .int .u8 0, .int .u8 0, .int .u8 0, .int .u8 0, .int .u8 0, .int .u8 0, .int .u8 0, .int .u8 0, .int .u8 0, .int .u8 0, .int .u8 0, .int .u8 0, .int .u8 0, .int .u8 0, .int .u8 0, .int .u8 0, .int .u8 0, .int .u8 0, .int .u8 0, .int .u8 0, .int .u8 0, .int .u8 0, .int .u8 0, .int .u8 0, .int .u8 0, .int .u8 0, .int .u8 0, .int .u8 0, .int .u8 0]⟩] h) fun r hv => aBool r fun _ => bnd (call F_commons_Commons_SetFile [.pointer c, .int .i64 (wrapF .i64 (n + 1)), .agg ⟨[.int .i64 kind, .int .i64 (wrapF .i64 ((wrapF .i64 (4 + (wrapF .i64 (n + 1)))) - 1)), .int .i64 1, .int .i64 0]⟩] hv) fun r_1 hv_1 => aBool r_1 fun _ => ckRF (wrapF .i64 (n + 1)) 8 (pV (Addr.add (Addr.add p 8) (Int.toNat (wrapF .i64 (n + 1)) * 1)) (.int .i64 (wrapF .i64 ((wrapF .i64 (n + 1)) + 1))) hv_1 fun hv_2 => run F_world_World_begin 3016 [.int .i64 s, .pointer c, .pointer (some p), .int .i64 (wrapF .i64 (n + 1)), .slice x36 x36n x36c, .int .i64 x37, .int .i64 (wrapF .i64 (x38 + 1))] hv_2)
  | _ => none
noncomputable def LB_world_World_begin_R1 : Lab := ⟨F_world_World_begin, 7031, T_world_World_begin_R1, [1, 4, 6, 7, 10, 36, 37, 38], X_world_World_begin_R1⟩
noncomputable def X_host_New : XPoly := fun G _ call run a h => match a with
  | [.pointer k, .int .i64 env, .int .i64 slot, .int .i64 sectionv] =>
  bnd (call F_commons_New [.pointer k, .int .i64 env] h) fun r hv => as2 r fun r_1 r_2 => aPtr r_1 fun x => aInt .i64 r_2 fun x_1 => cond (ineF x_1 0)
      (some (.tuple ⟨[.pointer none, .int .i64 x_1]⟩, hv))
      (bnd (cond (iltF slot 0) (some (true, hv)) (some (ileF 8 slot, hv))) fun c hv_1 => cond c
      (some (.tuple ⟨[.pointer none, .int .i64 1]⟩, hv_1))
      (bnd (call F_kern_Kern_Sect [.pointer k, .int .i64 sectionv] hv_1) fun r_3 hv_2 => aPtr r_3 fun x_2 => cond x_2.isNone
      (some (.tuple ⟨[.pointer none, .int .i64 8]⟩, hv_2))
      (nw (.cells Y_host_Host false [.pointer k, .int .i64 env, .int .i64 slot, .int .i64 sectionv, .pointer x, .int .i64 0, .int .i64 0, .int .i64 0, .int .i64 0, .int .i64 0, .slice none 0 0]) hv_2 fun b hv_3 => some (.tuple ⟨[.pointer (some ⟨b, 0, none⟩), .int .i64 0]⟩, hv_3))))
  | _ => none
noncomputable def X_world_World_Bridge : XPoly := fun G _ call run a h => match a with
  | [.pointer wv, .int .i64 b] =>
  bnd (cond (iltF b 0) (some (true, h)) (aSome wv fun p => gSl (Addr.add (Addr.add p 0) 1) h fun _ xn _ => some (ileF ((xn : Nat) : Int) b, h))) fun c hv => cond c
      (some (.tuple ⟨[.slice none 0 0, .int .i64 1]⟩, hv))
      (aSome wv fun p_1 => gPtr (Addr.add p_1 3) hv fun x_1 => aSome wv fun p_2 => gSl (Addr.add p_2 4) hv fun x_2 xn_1 xc_1 => bnd (call F_kern_Kern_Regions [.pointer x_1] hv) fun r hv_1 => aPtr r fun x_3 => gSl (Addr.add p_2 4) hv_1 fun x_4 xn_2 xc_2 => same (.slice x_2 xn_1 xc_1) (.slice x_4 xn_2 xc_2) (bnd (call F_region_Regions_Raw [.pointer x_3, .int .i64 (wrapF .i64 (((xn_1 : Nat) : Int) + b))] hv_1) fun r_1 hv_2 => as2 r_1 fun r_2 r_3 => aSl r_2 fun x_5 xn_3 xc_3 => aInt .i64 r_3 fun x_6 => some (.tuple ⟨[.slice x_5 xn_3 xc_3, .int .i64 x_6]⟩, hv_2)))
  | _ => none
noncomputable def X_world_World_Host : XPoly := fun G _ call run a h => match a with
  | [.pointer wv, .int .i64 session, .int .i64 slot] =>
  bnd (cond (iltF session 0) (some (true, h)) (aSome wv fun p => gSl (Addr.add p 4) h fun _ xn _ => some (ileF ((xn : Nat) : Int) session, h))) fun c hv => bnd (cond c (some (true, hv)) (some (iltF slot 0, hv))) fun c_1 hv_1 => bnd (cond c_1 (some (true, hv_1)) (some (ileF 8 slot, hv_1))) fun c_2 hv_2 => cond c_2
      (some (.pointer none, hv_2))
      (aSome wv fun p_1 => gSl (Addr.add p_1 4) hv_2 fun x_1 xn_1 _ => aSome x_1 fun p_2 => ckRF session xn_1 (gSl (Addr.add (bare p_2) (Int.toNat session * 1)) hv_2 fun x_2 xn_2 _ => aSome x_2 fun p_3 => ckRF slot xn_2 (gPtr (Addr.add (bare p_3) (Int.toNat slot * 1)) hv_2 fun x_3 => some (.pointer x_3, hv_2))))
  | _ => none
noncomputable def X_host_Host_Start : XPoly := fun G _ call run a h => match a with
  | [.pointer hv, .agg ⟨s⟩] =>
  nw (.cells Y_api_Sys false s) h fun b hv_1 => aSome hv fun p => gPtr (Addr.add p 4) hv_1 fun x => bnd (call F_commons_Commons_Look [.pointer x] hv_1) fun r hv_2 => as0 r (aSome hv fun p_1 => gInt .i64 (Addr.add p_1 5) hv_2 fun x_1 => cond (ineF x_1 0)
      (some (.bool false, hv_2))
      (aSome hv fun p_2 => gPtr (Addr.add p_2 4) hv_2 fun x_2 => aSome hv fun p_3 => gInt .i64 (Addr.add p_3 2) hv_2 fun x_3 => nw (.cells Y_api_Proc false [.int .i64 0, .int .i64 0, .int .i64 0, .int .i64 0, .int .i64 0, .int .i64 0, .int .i64 0, .int .i64 0, .int .i64 0, .int .i64 0, .int .i64 0, .int .i64 0, .int .i64 0, .int .i64 0, .int .i64 0, .int .i64 0]) hv_2 fun b_1 hv_3 => bnd (call F_commons_Commons_Proc [.pointer x_2, .int .i64 x_3] hv_3) fun r_1 hv_4 => as2 r_1 fun r_2 r_3 => aAgg r_2 fun x_4 => aInt .i64 r_3 fun x_5 => ck (List.length x_4 = 16) (pAgg ⟨b_1, 0, none⟩ x_4 hv_4 fun hv_5 => bnd (cond (ineF x_5 1) (some (true, hv_5)) (gInt .i64 (Addr.add ⟨b_1, 0, none⟩ 0) hv_5 fun x_6 => some (ieqF x_6 2, hv_5))) fun c hv_6 => cond c
      (some (.bool false, hv_6))
      (gSl (Addr.add ⟨b, 0, none⟩ 3) hv_6 fun x_7 xn xc => bnd (call F_slices_Clone_s_byte_byte [.slice x_7 xn xc] hv_6) fun r_4 hv_7 => aSl r_4 fun x_8 xn_1 xc_1 => pV (Addr.add ⟨b, 0, none⟩ 3) (.slice x_8 xn_1 xc_1) hv_7 fun hv_8 => gAgg ⟨b, 0, none⟩ 4 hv_8 fun x_9 => aSome hv fun p_4 => pV (Addr.add p_4 5) (.int .i64 1) hv_8 fun hv_9 => gAgg ⟨b, 0, none⟩ 4 hv_9 fun x_10 => same (.agg ⟨x_9⟩) (.agg ⟨x_10⟩) (aSome hv fun p_5 => ck (List.length x_9 = 4) (pAgg (Addr.add p_5 7) x_9 hv_9 fun hv_10 => some (.bool true, hv_10)))))))
  | _ => none
noncomputable def X_pipes_Type : XPoly := fun G _ call run a h => match a with
  | [.pointer c, .slice b bn bc] =>
  bnd (call F_commons_Commons_Look [.pointer c] h) fun r hv => as0 r (bnd (call F_commons_Commons_Term [.pointer c] hv) fun r_1 hv_1 => as2 r_1 fun r_2 r_3 => aAgg r_2 fun x => aInt .i64 r_3 fun x_1 => nw (.cells Y_api_Pipe false [.int .i64 0, .int .i64 0, .int .i64 0, .int .i64 0, .int .u8 0, .int .u8 0, .int .u8 0, .int .u8 0, .int .u8 0, .int .u8 0, .int .u8 0, .int .u8 0, .int .u8 0, .int .u8 0, .int .u8 0, .int .u8 0, .int .u8 0, .int .u8 0, .int .u8 0, .int .u8 0, .int .u8 0, .int .u8 0, .int .u8 0, .int .u8 0, .int .u8 0, .int .u8 0, .int .u8 0, .int .u8 0, .int .u8 0, .int .u8 0, .int .u8 0, .int .u8 0, .int .u8 0, .int .u8 0, .int .u8 0, .int .u8 0]) hv_1 fun b_1 hv_2 => ck (List.length x = 36) (pAgg ⟨b_1, 0, none⟩ x hv_2 fun hv_3 => cond (ineF x_1 1)
      (some (.int .i64 0, hv_3))
      (gAgg ⟨b_1, 0, none⟩ 36 hv_3 fun x_2 => bnd (call F_ring_Put [.agg ⟨x_2⟩, .slice b bn bc] hv_3) fun r_4 hv_4 => as2 r_4 fun r_5 r_6 => aAgg r_5 fun x_3 => aInt .i64 r_6 fun x_4 => nw (.cells Y_api_Pipe false [.int .i64 0, .int .i64 0, .int .i64 0, .int .i64 0, .int .u8 0, .int .u8 0, .int .u8 0, .int .u8 0, .int .u8 0, .int .u8 0, .int .u8 0, .int .u8 0, .int .u8 0, .int .u8 0, .int .u8 0, .int .u8 0, .int .u8 0, .int .u8 0, .int .u8 0, .int .u8 0, .int .u8 0, .int .u8 0, .int .u8 0, .int .u8 0, .int .u8 0, .int .u8 0, .int .u8 0, .int .u8 0, .int .u8 0, .int .u8 0, .int .u8 0, .int .u8 0, .int .u8 0, .int .u8 0, .int .u8 0, .int .u8 0]) hv_4 fun b_2 hv_5 => ck (List.length x_3 = 36) (pAgg ⟨b_2, 0, none⟩ x_3 hv_5 fun hv_6 => gAgg ⟨b_2, 0, none⟩ 36 hv_6 fun x_5 => bnd (call F_commons_Commons_SetTerm [.pointer c, .agg ⟨x_5⟩] hv_6) fun r_7 hv_7 => aBool r_7 fun x_6 => cond (!x_6)
      (some (.int .i64 0, hv_7))
      (some (.int .i64 x_4, hv_7))))))
  | _ => none
noncomputable def X_kern_Kern_Do : XPoly := fun G _ call run a h => match a with
  | [.pointer k, .int .i64 env, .agg ⟨c⟩] =>
  nw (.cells Y_api_Call false c) h fun b hv => nw (.cells Y_api_Answer false [.int .i64 0, .int .i64 0, .slice none 0 0]) hv fun b_1 hv_1 => bnd (cond (iltF env 0) (some (true, hv_1)) (aSome k fun p => gSl (Addr.add p 0) hv_1 fun _ xn _ => some (ileF ((xn : Nat) : Int) env, hv_1))) fun c_1 hv_2 => cond c_1
      (pAgg ⟨b_1, 0, none⟩ [.int .i64 1, .int .i64 0, .slice none 0 0] hv_2 fun hv_3 => gAgg ⟨b_1, 0, none⟩ 3 hv_3 fun x_1 => some (.agg ⟨x_1⟩, hv_3))
      (gAgg ⟨b, 0, none⟩ 7 hv_2 fun x_2 => bnd (call F_kern_Kern_bytes [.pointer k, .int .i64 env, .agg ⟨x_2⟩] hv_2) fun r hv_4 => as3 r fun r_1 r_2 r_3 => aSl r_1 fun x_3 xn_1 xc_1 => aInt .i64 r_2 fun x_4 => aBool r_3 fun x_5 => cond x_5
      (pAgg ⟨b_1, 0, none⟩ [.int .i64 x_4, .int .i64 0, .slice x_3 xn_1 xc_1] hv_4 fun hv_5 => gAgg ⟨b_1, 0, none⟩ 3 hv_5 fun x_6 => some (.agg ⟨x_6⟩, hv_5))
      (gAgg ⟨b, 0, none⟩ 7 hv_4 fun x_7 => bnd (call F_kern_Kern_number [.pointer k, .int .i64 env, .agg ⟨x_7⟩] hv_4) fun r_4 hv_6 => as2 r_4 fun r_5 r_6 => aInt .i64 r_5 fun x_8 => aInt .i64 r_6 fun x_9 => pAgg ⟨b_1, 0, none⟩ [.int .i64 x_9, .int .i64 x_8, .slice none 0 0] hv_6 fun hv_7 => gAgg ⟨b_1, 0, none⟩ 3 hv_7 fun x_10 => some (.agg ⟨x_10⟩, hv_7)))
  | _ => none
noncomputable def X_kern_frames : XPoly := fun G _ call run a h => match a with
  | [.int .i64 n] =>
  some (.int .i64 (mm2 false (mm2 true n 0) 64), h)
  | _ => none
noncomputable def X_mem_New : XPoly := fun G _ call run a h => match a with
  | [.int .i64 frames] =>
  ck ((0 : Int) ≤ wrapF .i64 (64 * (mm2 false (mm2 true frames 0) 256)) ∧ (wrapF .i64 (64 * (mm2 false (mm2 true frames 0) 256)) : Int) ≤ wrapF .i64 (64 * (mm2 false (mm2 true frames 0) 256)) ∧ wrapF .i64 (64 * (mm2 false (mm2 true frames 0) 256)) ≤ (most : Int)) (nw (.cells Y_uint8 false (manyN (Int.toNat (wrapF .i64 (64 * (mm2 false (mm2 true frames 0) 256)))) [.int .u8 0])) h fun b hv => nw (.cells Y_mem_Mem false [.slice (some ⟨b, 0, none⟩) (Int.toNat (wrapF .i64 (64 * (mm2 false (mm2 true frames 0) 256)))) (Int.toNat (wrapF .i64 (64 * (mm2 false (mm2 true frames 0) 256))))]) hv fun b_1 hv_1 => some (.pointer (some ⟨b_1, 0, none⟩), hv_1))
  | _ => none
noncomputable def X_quota_New : XPoly := fun G _ call run a h => match a with
  | [.slice frames framesn framesc] =>
  nw (.cells Y_quota_Quota false [.slice none 0 0]) h fun b hv => ckB (fitsOpen frames Y_int hv) (ckLF (mm2 false ((framesn : Nat) : Int) 4) framesc (run F_quota_New 3006 [.pointer (some ⟨b, 0, none⟩), .slice (moved frames (decide (0 < framesc)) (0 * 1)) ((Int.toNat (mm2 false ((framesn : Nat) : Int) 4)) - 0) (framesc - 0), .int .i64 (((Int.toNat (mm2 false ((framesn : Nat) : Int) 4)) - 0 : Nat) : Int), .int .i64 0] hv))
  | _ => none
noncomputable def X_quota_New_L1 : XPoly := fun G _ call run a h => match a with
  | [.pointer (some q), .slice x12 x12n x12c, .int .i64 x13, .int .i64 x14] =>
  cond (iltF x14 x13)
      (aSome x12 fun p => ckRF x14 x12n (gInt .i64 (Addr.add (bare p) (Int.toNat x14 * 1)) h fun x => gSl (Addr.add q 0) h fun x_1 xn xc => ck ((0 : Int) ≤ mm2 false (mm2 true x 0) 64 ∧ (mm2 false (mm2 true x 0) 64 : Int) ≤ mm2 false (mm2 true x 0) 64 ∧ mm2 false (mm2 true x 0) 64 ≤ (most : Int)) (nw (.cells Y_int false (manyN (Int.toNat (mm2 false (mm2 true x 0) 64)) [.int .i64 0])) h fun b hv => nw (.cells Y_s_int false [.slice (some ⟨b, 0, none⟩) (Int.toNat (mm2 false (mm2 true x 0) 64)) (Int.toNat (mm2 false (mm2 true x 0) 64))]) hv fun b_1 hv_1 => gCells (some ⟨b_1, 0, none⟩) (1 * 1) hv_1 fun cs => ckB (fitsOpen x_1 Y_s_int hv_1) (apd Y_s_int 1 x_1 xn xc 1 cs hv_1 fun a an ac hv_2 => pV (Addr.add q 0) (.slice a an ac) hv_2 fun hv_3 => run F_quota_New 3006 [.pointer (some q), .slice x12 x12n x12c, .int .i64 x13, .int .i64 (wrapF .i64 (x14 + 1))] hv_3))))
      (some (.pointer (some q), h))
  | _ => none
noncomputable def LB_quota_New_L1 : Lab := ⟨F_quota_New, 3006, T_quota_New_L1, [3, 12, 13, 14], X_quota_New_L1⟩
noncomputable def X_quota_Quota_First : XPoly := fun G _ call run a h => match a with
  | [.pointer q, .int .i64 s] =>
  aSome q fun p => gSl (Addr.add p 0) h fun x _ xc => aSome q fun p_1 => gSl (Addr.add p_1 0) h fun _ xn_1 _ => ckB (fitsOpen x Y_s_int h) (ckLF (mm2 false (mm2 true s 0) ((xn_1 : Nat) : Int)) xc (run F_quota_Quota_First 3006 [.int .i64 0, .slice (moved x (decide (0 < xc)) (0 * 1)) ((Int.toNat (mm2 false (mm2 true s 0) ((xn_1 : Nat) : Int))) - 0) (xc - 0), .int .i64 (((Int.toNat (mm2 false (mm2 true s 0) ((xn_1 : Nat) : Int))) - 0 : Nat) : Int), .int .i64 0] h))
  | _ => none
noncomputable def X_quota_Quota_First_L1 : XPoly := fun G _ call run a h => match a with
  | [.int .i64 n, .slice x20 x20n x20c, .int .i64 x21, .int .i64 x22] =>
  cond (iltF x22 x21)
      (aSome x20 fun p => ckRF x22 x20n (gSl (Addr.add (bare p) (Int.toNat x22 * 1)) h fun _ xn _ => run F_quota_Quota_First 3006 [.int .i64 (wrapF .i64 (n + ((xn : Nat) : Int))), .slice x20 x20n x20c, .int .i64 x21, .int .i64 (wrapF .i64 (x22 + 1))] h))
      (some (.int .i64 n, h))
  | _ => none
noncomputable def LB_quota_Quota_First_L1 : Lab := ⟨F_quota_Quota_First, 3006, T_quota_Quota_First_L1, [5, 20, 21, 22], X_quota_Quota_First_L1⟩
noncomputable def X_commons_Commons_SetTerm : XPoly := fun G _ call run a h => match a with
  | [.pointer c, .agg ⟨p⟩] =>
  nw (.cells Y_api_Pipe false p) h fun b hv => gAgg ⟨b, 0, none⟩ 36 hv fun x => bnd (call F_ring_Encode [.agg ⟨x⟩] hv) fun r hv_1 => as2 r fun r_1 r_2 => aSl r_1 fun x_1 xn xc => aBool r_2 fun x_2 => bnd (call F_commons_Commons_write [.pointer c, .agg ⟨[.int .i64 4, .int .i64 0]⟩, .slice x_1 xn xc, .bool x_2] hv_1) fun r_3 hv_2 => aBool r_3 fun x_3 => some (.bool x_3, hv_2)
  | _ => none
noncomputable def X_commons_Commons_SetFront : XPoly := fun G _ call run a h => match a with
  | [.pointer c, .int .i64 g] =>
  bnd (call F_commons_FrontBytes [.int .i64 g] h) fun r hv => as2 r fun r_1 r_2 => aSl r_1 fun x xn xc => aBool r_2 fun x_1 => bnd (call F_commons_Commons_write [.pointer c, .agg ⟨[.int .i64 5, .int .i64 0]⟩, .slice x xn xc, .bool x_1] hv) fun r_3 hv_1 => aBool r_3 fun x_2 => some (.bool x_2, hv_1)
  | _ => none
noncomputable def X_commons_Commons_SetFile : XPoly := fun G _ call run a h => match a with
  | [.pointer c, .int .i64 i, .agg ⟨f⟩] =>
  nw (.cells Y_api_File false f) h fun b hv => gAgg ⟨b, 0, none⟩ 4 hv fun x => bnd (call F_ofile_Encode [.agg ⟨x⟩] hv) fun r hv_1 => as2 r fun r_1 r_2 => aSl r_1 fun x_1 xn xc => aBool r_2 fun x_2 => bnd (call F_commons_file [.int .i64 i] hv_1) fun r_3 hv_2 => aAgg r_3 fun x_3 => bnd (call F_commons_Commons_write [.pointer c, .agg ⟨x_3⟩, .slice x_1 xn xc, .bool x_2] hv_2) fun r_4 hv_3 => aBool r_4 fun x_4 => some (.bool x_4, hv_3)
  | _ => none
noncomputable def X_kern_Kern_Sect : XPoly := fun G _ call run a h => match a with
  | [.pointer k, .int .i64 n] =>
  bnd (cond (iltF n 0) (some (true, h)) (aSome k fun p => gSl (Addr.add p 6) h fun _ xn _ => some (ileF ((xn : Nat) : Int) n, h))) fun c hv => cond c
      (some (.pointer none, hv))
      (aSome k fun p_1 => gSl (Addr.add p_1 6) hv fun x_1 xn_1 _ => aSome x_1 fun p_2 => ckRF n xn_1 (gPtr (Addr.add (bare p_2) (Int.toNat n * 1)) hv fun x_2 => some (.pointer x_2, hv)))
  | _ => none
noncomputable def X_kern_Kern_Regions : XPoly := fun G _ call run a h => match a with
  | [.pointer k] =>
  aSome k fun p => gPtr (Addr.add p 5) h fun x => some (.pointer x, h)
  | _ => none
noncomputable def X_ring_Codec : XPoly := fun G _ call run a h => match a with
  | [] =>
  bnd (call F_codec_New_api_Pipe [.int .i64 40, .func (.func F_ring_put) ⟨[]⟩ ⟨[]⟩, .func (.func F_ring_get) ⟨[]⟩ ⟨[]⟩] h) fun r hv => aPtr r fun x => some (.pointer x, hv)
  | _ => none
noncomputable def X_host_Host_Pick : XPoly := fun G _ call run a h => match a with
  | [.pointer hv] =>
  nw (.cells Y_api_Out false [.int .i64 0, .int .i64 0, .int .i64 0, .int .i64 0, .int .i64 0, .slice none 0 0, .int .i64 0, .int .i64 0, .slice none 0 0, .bool false, .slice none 0 0, .int .i64 0]) h fun b hv_1 => aSome hv fun p => gPtr (Addr.add p 4) hv_1 fun x => bnd (call F_commons_Commons_Look [.pointer x] hv_1) fun r hv_2 => as0 r (aSome hv fun p_1 => gPtr (Addr.add p_1 4) hv_2 fun x_1 => aSome hv fun p_2 => gInt .i64 (Addr.add p_2 2) hv_2 fun x_2 => nw (.cells Y_api_Proc false [.int .i64 0, .int .i64 0, .int .i64 0, .int .i64 0, .int .i64 0, .int .i64 0, .int .i64 0, .int .i64 0, .int .i64 0, .int .i64 0, .int .i64 0, .int .i64 0, .int .i64 0, .int .i64 0, .int .i64 0, .int .i64 0]) hv_2 fun b_1 hv_3 => bnd (call F_commons_Commons_Proc [.pointer x_1, .int .i64 x_2] hv_3) fun r_1 hv_4 => as2 r_1 fun r_2 r_3 => aAgg r_2 fun x_3 => aInt .i64 r_3 fun x_4 => ck (List.length x_3 = 16) (pAgg ⟨b_1, 0, none⟩ x_3 hv_4 fun hv_5 => cond (ieqF x_4 2)
      (bnd (call F_host_Host_bad [.pointer hv] hv_5) fun r_4 hv_6 => as2 r_4 fun r_5 r_6 => aAgg r_5 fun x_5 => aBool r_6 fun x_6 => ck (List.length x_5 = 12) (pAgg ⟨b, 0, none⟩ x_5 hv_6 fun hv_7 => gAgg ⟨b, 0, none⟩ 12 hv_7 fun x_7 => some (.tuple ⟨[.agg ⟨x_7⟩, .bool x_6]⟩, hv_7)))
      (bnd (cond (ieqF x_4 0) (some (true, hv_5)) (gInt .i64 (Addr.add ⟨b_1, 0, none⟩ 0) hv_5 fun x_8 => some (ieqF x_8 2, hv_5))) fun c hv_8 => cond c
      (bnd (call F_host_Host_idle [.pointer hv] hv_8) fun r_7 hv_9 => as0 r_7 (pAgg ⟨b, 0, none⟩ [.int .i64 0, .int .i64 0, .int .i64 0, .int .i64 0, .int .i64 0, .slice none 0 0, .int .i64 0, .int .i64 0, .slice none 0 0, .bool false, .slice none 0 0, .int .i64 0] hv_9 fun hv_10 => gAgg ⟨b, 0, none⟩ 12 hv_10 fun x_9 => some (.tuple ⟨[.agg ⟨x_9⟩, .bool false]⟩, hv_10)))
      (gInt .i64 (Addr.add ⟨b_1, 0, none⟩ 0) hv_8 fun x_10 => cond (ieqF x_10 3)
      (aSome hv fun p_3 => gInt .i64 (Addr.add p_3 5) hv_8 fun x_11 => cond (ieqF x_11 2)
      (bnd (call F_host_Host_leave [.pointer hv, .int .i64 1] hv_8) fun r_8 hv_11 => as0 r_8 (run F_host_Host_Pick 4023 [.pointer (some ⟨b, 0, none⟩)] hv_11))
      (run F_host_Host_Pick 4023 [.pointer (some ⟨b, 0, none⟩)] hv_8))
      (aSome hv fun p_4 => gInt .i64 (Addr.add p_4 5) hv_8 fun x_12 => cond (ieqF x_12 1)
      (bnd (call F_host_Host_want [.pointer hv] hv_8) fun r_9 hv_12 => as0 r_9 (pAgg ⟨b, 0, none⟩ [.int .i64 0, .int .i64 0, .int .i64 0, .int .i64 0, .int .i64 0, .slice none 0 0, .int .i64 0, .int .i64 0, .slice none 0 0, .bool false, .slice none 0 0, .int .i64 0] hv_12 fun hv_13 => gAgg ⟨b, 0, none⟩ 12 hv_13 fun x_13 => some (.tuple ⟨[.agg ⟨x_13⟩, .bool false]⟩, hv_13)))
      (cond (ieqF x_12 2)
      (bnd (call F_host_Host_in [.pointer hv] hv_8) fun r_10 hv_14 => as2 r_10 fun r_11 r_12 => aAgg r_11 fun x_14 => aBool r_12 fun x_15 => ck (List.length x_14 = 12) (pAgg ⟨b, 0, none⟩ x_14 hv_14 fun hv_15 => gAgg ⟨b, 0, none⟩ 12 hv_15 fun x_16 => some (.tuple ⟨[.agg ⟨x_16⟩, .bool x_15]⟩, hv_15)))
      (cond (ieqF x_12 3)
      (gAgg ⟨b_1, 0, none⟩ 16 hv_8 fun x_17 => bnd (call F_host_Host_blocked [.pointer hv, .agg ⟨x_17⟩] hv_8) fun r_13 hv_16 => as2 r_13 fun r_14 r_15 => aAgg r_14 fun x_18 => aBool r_15 fun x_19 => ck (List.length x_18 = 12) (pAgg ⟨b, 0, none⟩ x_18 hv_16 fun hv_17 => gAgg ⟨b, 0, none⟩ 12 hv_17 fun x_20 => some (.tuple ⟨[.agg ⟨x_20⟩, .bool x_19]⟩, hv_17)))
      (aSome hv fun p_5 => gInt .i64 (Addr.add p_5 2) hv_8 fun x_21 => bnd (call F_host_Host_end [.pointer hv, .agg ⟨[.int .i64 0, .int .i64 x_21, .int .i64 0, .int .i64 0, .int .i64 0, .slice none 0 0, .int .i64 0, .int .i64 0, .slice none 0 0, .bool false, .slice none 0 0, .int .i64 0]⟩] hv_8) fun r_16 hv_18 => aAgg r_16 fun x_22 => nw (.cells Y_api_Out false [.int .i64 0, .int .i64 0, .int .i64 0, .int .i64 0, .int .i64 0, .slice none 0 0, .int .i64 0, .int .i64 0, .slice none 0 0, .bool false, .slice none 0 0, .int .i64 0]) hv_18 fun b_2 hv_19 => ck (List.length x_22 = 12) (pAgg ⟨b_2, 0, none⟩ x_22 hv_19 fun hv_20 => gSl (Addr.add ⟨b_2, 0, none⟩ 10) hv_20 fun _ xn _ => bnd (cond (iltF 0 ((xn : Nat) : Int)) (some (true, hv_20)) (gInt .i64 (Addr.add ⟨b_2, 0, none⟩ 11) hv_20 fun x_24 => some (iltF 0 x_24, hv_20))) fun c_1 hv_21 => cond c_1
      (gAgg ⟨b_2, 0, none⟩ 12 hv_21 fun x_25 => ck (List.length x_25 = 12) (pAgg ⟨b, 0, none⟩ x_25 hv_21 fun hv_22 => gAgg ⟨b, 0, none⟩ 12 hv_22 fun x_26 => some (.tuple ⟨[.agg ⟨x_26⟩, .bool true]⟩, hv_22)))
      (pAgg ⟨b, 0, none⟩ [.int .i64 0, .int .i64 0, .int .i64 0, .int .i64 0, .int .i64 0, .slice none 0 0, .int .i64 0, .int .i64 0, .slice none 0 0, .bool false, .slice none 0 0, .int .i64 0] hv_21 fun hv_23 => gAgg ⟨b, 0, none⟩ 12 hv_23 fun x_27 => some (.tuple ⟨[.agg ⟨x_27⟩, .bool false]⟩, hv_23)))))))))))
  | _ => none
noncomputable def X_host_Host_Pick_R1 : XPoly := fun G _ call run a h => match a with
  | [.pointer (some x2)] =>
  pAgg x2 [.int .i64 0, .int .i64 0, .int .i64 0, .int .i64 0, .int .i64 0, .slice none 0 0, .int .i64 0, .int .i64 0, .slice none 0 0, .bool false, .slice none 0 0, .int .i64 0] h fun hv => gAgg x2 12 hv fun x => some (.tuple ⟨[.agg ⟨x⟩, .bool false]⟩, hv)
  | _ => none
noncomputable def LB_host_Host_Pick_R1 : Lab := ⟨F_host_Host_Pick, 4023, T_host_Host_Pick_R1, [2], X_host_Host_Pick_R1⟩
noncomputable def X_host_Host_Fresh : XPoly := fun G _ call run a h => match a with
  | [.pointer hv] =>
  bnd (call F_host_Host_idle [.pointer hv] h) fun r hv_1 => as0 r (aSome hv fun p => gPtr (Addr.add p 0) hv_1 fun x => aSome hv fun p_1 => gInt .i64 (Addr.add p_1 1) hv_1 fun x_1 => bnd (call F_commons_New [.pointer x, .int .i64 x_1] hv_1) fun r_1 hv_2 => as2 r_1 fun r_2 r_3 => aPtr r_2 fun x_2 => aInt .i64 r_3 fun _ => aSome hv fun p_2 => pV (Addr.add p_2 4) (.pointer x_2) hv_2 fun hv_3 => some (.tuple ⟨[]⟩, hv_3))
  | _ => none
noncomputable def X_commons_Commons_Proc : XPoly := fun G _ call run a h => match a with
  | [.pointer c, .int .i64 i] =>
  nw (.cells Y_api_Proc false [.int .i64 0, .int .i64 0, .int .i64 0, .int .i64 0, .int .i64 0, .int .i64 0, .int .i64 0, .int .i64 0, .int .i64 0, .int .i64 0, .int .i64 0, .int .i64 0, .int .i64 0, .int .i64 0, .int .i64 0, .int .i64 0]) h fun b hv => bnd (call F_commons_proc [.int .i64 i] hv) fun r hv_1 => aAgg r fun x => bnd (call F_commons_record_api_Proc [.pointer c, .agg ⟨x⟩, .func (.func F_pslot_Decode) ⟨[]⟩ ⟨[]⟩] hv_1) fun r_1 hv_2 => as2 r_1 fun r_2 r_3 => aAgg r_2 fun x_1 => aInt .i64 r_3 fun x_2 => ck (List.length x_1 = 16) (pAgg ⟨b, 0, none⟩ x_1 hv_2 fun hv_3 => gAgg ⟨b, 0, none⟩ 16 hv_3 fun x_3 => some (.tuple ⟨[.agg ⟨x_3⟩, .int .i64 x_2]⟩, hv_3))
  | _ => none
noncomputable def X_slices_Clone_s_byte_byte : XPoly := fun G _ call run a h => match a with
  | [.slice s sn sc] =>
  cond s.isNone
      (some (.slice none 0 0, h))
      (nw (.cells Y_uint8 false []) h fun b hv => gCells s (sn * 1) hv fun cs => ckB (fitsOpen (some ⟨b, 0, none⟩) Y_uint8 hv) (apd Y_uint8 1 (some ⟨b, 0, none⟩) 0 0 sn cs hv fun a an ac hv_1 => some (.slice a an ac, hv_1)))
  | _ => none
noncomputable def X_ring_Put : XPoly := fun G _ call run a h => match a with
  | [.agg ⟨p⟩, .slice b bn bc] =>
  nw (.cells Y_api_Pipe false p) h fun b_1 hv => nw (.cells Y_api_Pipe false [.int .i64 0, .int .i64 0, .int .i64 0, .int .i64 0, .int .u8 0, .int .u8 0, .int .u8 0, .int .u8 0, .int .u8 0, .int .u8 0, .int .u8 0, .int .u8 0, .int .u8 0, .int .u8 0, .int .u8 0, .int .u8 0, .int .u8 0, .int .u8 0, .int .u8 0, .int .u8 0, .int .u8 0, .int .u8 0, .int .u8 0, .int .u8 0, .int .u8 0, .int .u8 0, .int .u8 0, .int .u8 0, .int .u8 0, .int .u8 0, .int .u8 0, .int .u8 0, .int .u8 0, .int .u8 0, .int .u8 0, .int .u8 0]) hv fun b_2 hv_1 => gAgg ⟨b_1, 0, none⟩ 36 hv_1 fun x => bnd (call F_ring_Ok [.agg ⟨x⟩] hv_1) fun r hv_2 => aBool r fun x_1 => cond (!x_1)
      (gAgg ⟨b_1, 0, none⟩ 36 hv_2 fun x_2 => ck (List.length x_2 = 36) (pAgg ⟨b_2, 0, none⟩ x_2 hv_2 fun hv_3 => gAgg ⟨b_2, 0, none⟩ 36 hv_3 fun x_3 => some (.tuple ⟨[.agg ⟨x_3⟩, .int .i64 0]⟩, hv_3)))
      (run F_ring_Put 3010 [.pointer (some ⟨b_1, 0, none⟩), .pointer (some ⟨b_2, 0, none⟩), .int .i64 0, .slice b bn bc, .int .i64 ((bn : Nat) : Int), .int .i64 0] hv_2)
  | _ => none
noncomputable def X_ring_Put_L1 : XPoly := fun G _ call run a h => match a with
  | [.pointer (some p), .pointer (some x4), .int .i64 n, .slice x13 x13n x13c, .int .i64 x14, .int .i64 x15] =>
  cond (iltF x15 x14)
      (aSome x13 fun p_1 => ckRF x15 x13n (gInt .u8 (Addr.add (bare p_1) (Int.toNat x15 * 1)) h fun x => gInt .i64 (Addr.add p 1) h fun x_1 => cond (ieqF x_1 32)
      (gAgg p 36 h fun x_2 => ck (List.length x_2 = 36) (pAgg x4 x_2 h fun hv => gAgg x4 36 hv fun x_3 => some (.tuple ⟨[.agg ⟨x_3⟩, .int .i64 n]⟩, hv)))
      (gInt .i64 (Addr.add p 0) h fun x_4 => gInt .i64 (Addr.add p 1) h fun x_5 => ckRF (Int.tmod (wrapF .i64 (x_4 + x_5)) 32) 32 (pV (Addr.add (Addr.add p 4) (Int.toNat (Int.tmod (wrapF .i64 (x_4 + x_5)) 32) * 1)) (.int .u8 x) h fun hv_1 => gInt .i64 (Addr.add p 1) hv_1 fun x_6 => pV (Addr.add p 1) (.int .i64 (wrapF .i64 (x_6 + 1))) hv_1 fun hv_2 => run F_ring_Put 3010 [.pointer (some p), .pointer (some x4), .int .i64 (wrapF .i64 (n + 1)), .slice x13 x13n x13c, .int .i64 x14, .int .i64 (wrapF .i64 (x15 + 1))] hv_2))))
      (gAgg p 36 h fun x_7 => ck (List.length x_7 = 36) (pAgg x4 x_7 h fun hv_3 => gAgg x4 36 hv_3 fun x_8 => some (.tuple ⟨[.agg ⟨x_8⟩, .int .i64 n]⟩, hv_3)))
  | _ => none
noncomputable def LB_ring_Put_L1 : Lab := ⟨F_ring_Put, 3010, T_ring_Put_L1, [2, 4, 6, 13, 14, 15], X_ring_Put_L1⟩
noncomputable def X_kern_Kern_number : XPoly := fun G _ call run a h => match a with
  | [.pointer k, .int .i64 env, .agg ⟨c⟩] =>
  nw (.cells Y_api_Call false c) h fun b hv => gInt .i64 (Addr.add ⟨b, 0, none⟩ 0) hv fun x => cond (ieqF x 4)
      (aSome k fun p => gPtr (Addr.add p 3) hv fun x_1 => gInt .i64 (Addr.add ⟨b, 0, none⟩ 1) hv fun x_2 => gInt .i64 (Addr.add ⟨b, 0, none⟩ 4) hv fun x_3 => gInt .i64 (Addr.add ⟨b, 0, none⟩ 5) hv fun x_4 => gInt .i64 (Addr.add ⟨b, 0, none⟩ 2) hv fun x_5 => gInt .i64 (Addr.add ⟨b, 0, none⟩ 3) hv fun x_6 => bnd (call F_caps_Space_Grant [.pointer x_1, .int .i64 env, .int .i64 x_2, .int .i64 x_3, .int .i64 x_4, .int .i64 x_5, .int .i64 x_6] hv) fun r hv_1 => as2 r fun r_1 r_2 => aInt .i64 r_1 fun x_7 => aInt .i64 r_2 fun x_8 => some (.tuple ⟨[.int .i64 x_7, .int .i64 x_8]⟩, hv_1))
      (cond (ieqF x 5)
      (aSome k fun p_1 => gPtr (Addr.add p_1 3) hv fun x_9 => gInt .i64 (Addr.add ⟨b, 0, none⟩ 1) hv fun x_10 => bnd (call F_caps_Space_Revoke [.pointer x_9, .int .i64 env, .int .i64 x_10] hv) fun r_3 hv_2 => as2 r_3 fun r_4 r_5 => aInt .i64 r_4 fun x_11 => aInt .i64 r_5 fun x_12 => some (.tuple ⟨[.int .i64 x_11, .int .i64 x_12]⟩, hv_2))
      (cond (ieqF x 6)
      (aSome k fun p_2 => gPtr (Addr.add p_2 4) hv fun x_13 => aSome k fun p_3 => gSl (Addr.add p_3 0) hv fun x_14 xn _ => aSome x_14 fun p_4 => ckRF env xn (gInt .i64 (Addr.add (bare p_4) (Int.toNat env * 1)) hv fun x_15 => bnd (call F_quota_Quota_Alloc [.pointer x_13, .int .i64 x_15] hv) fun r_6 hv_3 => as2 r_6 fun r_7 r_8 => aInt .i64 r_7 fun x_16 => aInt .i64 r_8 fun x_17 => some (.tuple ⟨[.int .i64 x_16, .int .i64 x_17]⟩, hv_3)))
      (cond (ieqF x 7)
      (aSome k fun p_5 => gPtr (Addr.add p_5 4) hv fun x_18 => aSome k fun p_6 => gSl (Addr.add p_6 0) hv fun x_19 xn_1 _ => aSome x_19 fun p_7 => ckRF env xn_1 (gInt .i64 (Addr.add (bare p_7) (Int.toNat env * 1)) hv fun x_20 => gInt .i64 (Addr.add ⟨b, 0, none⟩ 3) hv fun x_21 => bnd (call F_quota_Quota_Free [.pointer x_18, .int .i64 x_20, .int .i64 x_21] hv) fun r_9 hv_4 => aInt .i64 r_9 fun x_22 => some (.tuple ⟨[.int .i64 0, .int .i64 x_22]⟩, hv_4)))
      (cond (ieqF x 8)
      (gAgg ⟨b, 0, none⟩ 7 hv fun x_23 => bnd (call F_kern_Kern_enter [.pointer k, .int .i64 env, .agg ⟨x_23⟩] hv) fun r_10 hv_5 => as2 r_10 fun r_11 r_12 => aInt .i64 r_11 fun x_24 => aInt .i64 r_12 fun x_25 => some (.tuple ⟨[.int .i64 x_24, .int .i64 x_25]⟩, hv_5))
      (cond (ieqF x 9)
      (gAgg ⟨b, 0, none⟩ 7 hv fun x_26 => bnd (call F_kern_Kern_leave [.pointer k, .int .i64 env, .agg ⟨x_26⟩] hv) fun r_13 hv_6 => aInt .i64 r_13 fun x_27 => some (.tuple ⟨[.int .i64 0, .int .i64 x_27]⟩, hv_6))
      (cond (ieqF x 10)
      (aSome k fun p_8 => gInt .i64 (Addr.add p_8 7) hv fun x_28 => some (.tuple ⟨[.int .i64 x_28, .int .i64 0]⟩, hv))
      (some (.tuple ⟨[.int .i64 0, .int .i64 7]⟩, hv))))))))
  | _ => none
noncomputable def X_kern_check_1 : XPoly := fun G _ call run a h => match a with
  | [.int .i64 s, .pointer (some fv0)] =>
  bnd (cond (iltF s 0) (some (true, h)) (gSl (Addr.add fv0 0) h fun _ xn _ => some (ileF ((xn : Nat) : Int) s, h))) fun c hv => some (.bool c, hv)
  | _ => none
noncomputable def X_table_New_api_Cap : XPoly := fun G _ call run a h => match a with
  | [.int .i64 size] =>
  ck ((0 : Int) ≤ mm2 false (mm2 true size 0) 256 ∧ (mm2 false (mm2 true size 0) 256 : Int) ≤ mm2 false (mm2 true size 0) 256 ∧ mm2 false (mm2 true size 0) 256 ≤ (most : Int)) (nw (.cells Y_table_place_api_Cap false (manyN (Int.toNat (mm2 false (mm2 true size 0) 256)) [.int .i64 0, .int .i64 0, .int .i64 0, .int .i64 0, .int .i64 0, .int .i64 0, .int .i64 0, .bool false])) h fun b hv => nw (.cells Y_table_Table_api_Cap false [.slice (some ⟨b, 0, none⟩) (Int.toNat (mm2 false (mm2 true size 0) 256)) (Int.toNat (mm2 false (mm2 true size 0) 256))]) hv fun b_1 hv_1 => gSl (Addr.add ⟨b_1, 0, none⟩ 0) hv_1 fun _ xn _ => run F_table_New_api_Cap 3006 [.pointer (some ⟨b_1, 0, none⟩), .int .i64 ((xn : Nat) : Int), .int .i64 0] hv_1)
  | _ => none
noncomputable def X_table_New_api_Cap_L1 : XPoly := fun G _ call run a h => match a with
  | [.pointer (some t), .int .i64 x15, .int .i64 x16] =>
  cond (iltF x16 x15)
      (gSl (Addr.add t 0) h fun x xn _ => aSome x fun p => ckRF x16 xn (pV (Addr.add (Addr.add (bare p) (Int.toNat x16 * 8)) 6) (.int .i64 1) h fun hv => run F_table_New_api_Cap 3006 [.pointer (some t), .int .i64 x15, .int .i64 (wrapF .i64 (x16 + 1))] hv))
      (some (.pointer (some t), h))
  | _ => none
noncomputable def LB_table_New_api_Cap_L1 : Lab := ⟨F_table_New_api_Cap, 3006, T_table_New_api_Cap_L1, [3, 15, 16], X_table_New_api_Cap_L1⟩
noncomputable def X_caps_Space_Put_1 : XPoly := fun G _ call run a h => match a with
  | [.int .i64 n] =>
  bnd (cond (ileF 0 n) (some (ileF n 65536, h)) (some (false, h))) fun c hv => some (.bool c, hv)
  | _ => none
noncomputable def X_caps_Space_add : XPoly := fun G _ call run a h => match a with
  | [.pointer s, .int .i64 env, .agg ⟨c⟩] =>
  nw (.cells Y_api_Cap false c) h fun b hv => aSome s fun p => gSl (Addr.add p 0) hv fun x xn _ => aSome x fun p_1 => ckRF env xn (gPtr (Addr.add (bare p_1) (Int.toNat env * 1)) hv fun x_1 => gAgg ⟨b, 0, none⟩ 6 hv fun x_2 => bnd (call F_table_Table_api_Cap_Add [.pointer x_1, .agg ⟨x_2⟩] hv) fun r hv_1 => as2 r fun r_1 r_2 => aInt .i64 r_1 fun x_3 => aBool r_2 fun x_4 => cond (!x_4)
      (some (.tuple ⟨[.int .i64 0, .int .i64 4]⟩, hv_1))
      (some (.tuple ⟨[.int .i64 x_3, .int .i64 0]⟩, hv_1)))
  | _ => none
noncomputable def X_caps_Space_Names : XPoly := fun G _ call run a h => match a with
  | [.pointer s, .int .i64 env] =>
  bnd (call F_caps_Space_is [.pointer s, .int .i64 env] h) fun r hv => aBool r fun x => cond (!x)
      (some (.slice none 0 0, hv))
      (aSome s fun p => gSl (Addr.add p 0) hv fun x_1 xn _ => aSome x_1 fun p_1 => ckRF env xn (gPtr (Addr.add (bare p_1) (Int.toNat env * 1)) hv fun x_2 => bnd (call F_table_Table_api_Cap_Names [.pointer x_2] hv) fun r_1 hv_1 => aSl r_1 fun x_3 xn_1 xc_1 => some (.slice x_3 xn_1 xc_1, hv_1)))
  | _ => none
noncomputable def X_commons_FrontBytes : XPoly := fun G _ call run a h => match a with
  | [.int .i64 g] =>
  bnd (cond (iltF g 0) (some (true, h)) (some (ileF 8 g, h))) fun c hv => cond c
      (some (.tuple ⟨[.slice none 0 0, .bool false]⟩, hv))
      (nw (.cells Y_uint8 false [.int .u8 (wrapF .u8 (g)), .int .u8 211]) hv fun b hv_1 => bnd (call F_codec_Sum [.slice (some ⟨b, 0, none⟩) 2 2] hv_1) fun r hv_2 => aInt .u8 r fun x => nw (.cells Y_uint8 false [.int .u8 x, .int .u8 0]) hv_2 fun b_1 hv_3 => gCells (some ⟨b_1, 0, none⟩) (2 * 1) hv_3 fun cs => ckB (fitsOpen (some ⟨b, 0, none⟩) Y_uint8 hv_3) (apd Y_uint8 1 (some ⟨b, 0, none⟩) 2 2 2 cs hv_3 fun a an ac hv_4 => some (.tuple ⟨[.slice a an ac, .bool true]⟩, hv_4)))
  | _ => none
noncomputable def X_ofile_Encode : XPoly := fun G _ call run a h => match a with
  | [.agg ⟨f⟩] =>
  nw (.cells Y_api_File false f) h fun b hv => gAgg ⟨b, 0, none⟩ 4 hv fun x => bnd (call F_ofile_Codec [] hv) fun r hv_1 => aPtr r fun x_1 => gAgg ⟨b, 0, none⟩ 4 hv_1 fun x_2 => same (.agg ⟨x⟩) (.agg ⟨x_2⟩) (bnd (call F_codec_Codec_api_File_Encode [.pointer x_1, .agg ⟨x⟩] hv_1) fun r_1 hv_2 => as2 r_1 fun r_2 r_3 => aSl r_2 fun x_3 xn xc => aBool r_3 fun x_4 => some (.tuple ⟨[.slice x_3 xn xc, .bool x_4]⟩, hv_2))
  | _ => none
noncomputable def X_commons_file : XPoly := fun G _ call run a h => match a with
  | [.int .i64 i] =>
  nw (.cells Y_api_Rec false [.int .i64 0, .int .i64 0]) h fun b hv => pAgg ⟨b, 0, none⟩ [.int .i64 2, .int .i64 i] hv fun hv_1 => gAgg ⟨b, 0, none⟩ 2 hv_1 fun x => some (.agg ⟨x⟩, hv_1)
  | _ => none
noncomputable def X_pslot_Encode : XPoly := fun G _ call run a h => match a with
  | [.agg ⟨p⟩] =>
  nw (.cells Y_api_Proc false p) h fun b hv => gAgg ⟨b, 0, none⟩ 16 hv fun x => bnd (call F_pslot_Codec [] hv) fun r hv_1 => aPtr r fun x_1 => gAgg ⟨b, 0, none⟩ 16 hv_1 fun x_2 => same (.agg ⟨x⟩) (.agg ⟨x_2⟩) (bnd (call F_codec_Codec_api_Proc_Encode [.pointer x_1, .agg ⟨x⟩] hv_1) fun r_1 hv_2 => as2 r_1 fun r_2 r_3 => aSl r_2 fun x_3 xn xc => aBool r_3 fun x_4 => some (.tuple ⟨[.slice x_3 xn xc, .bool x_4]⟩, hv_2))
  | _ => none
noncomputable def X_commons_proc : XPoly := fun G _ call run a h => match a with
  | [.int .i64 i] =>
  nw (.cells Y_api_Rec false [.int .i64 0, .int .i64 0]) h fun b hv => pAgg ⟨b, 0, none⟩ [.int .i64 1, .int .i64 i] hv fun hv_1 => gAgg ⟨b, 0, none⟩ 2 hv_1 fun x => some (.agg ⟨x⟩, hv_1)
  | _ => none
noncomputable def X_mem_Mem_Load : XPoly := fun G _ call run a h => match a with
  | [.pointer m, .int .i64 atv, .int .i64 n] =>
  bnd (call F_mem_Mem_in [.pointer m, .int .i64 atv, .int .i64 n] h) fun r hv => aBool r fun x => cond (!x)
      (some (.tuple ⟨[.slice none 0 0, .int .i64 1]⟩, hv))
      (aSome m fun p => gSl (Addr.add p 0) hv fun x_1 _ xc => ckB (fitsOpen x_1 Y_uint8 hv) (ckLF (wrapF .i64 (atv + n)) xc (ckLF atv (Int.toNat (wrapF .i64 (atv + n))) (bnd (call F_slices_Clone_s_byte_byte [.slice (moved x_1 (decide (Int.toNat atv < xc)) ((Int.toNat atv) * 1)) ((Int.toNat (wrapF .i64 (atv + n))) - (Int.toNat atv)) (xc - (Int.toNat atv))] hv) fun r_1 hv_1 => aSl r_1 fun x_2 xn_1 xc_1 => some (.tuple ⟨[.slice x_2 xn_1 xc_1, .int .i64 0]⟩, hv_1)))))
  | _ => none
noncomputable def X_codec_New_api_Pipe : XPoly := fun G _ call run a h => match a with
  | [.int .i64 size, put, get] =>
  one put (one get (nw (.cells Y_codec_Codec_api_Pipe false [.int .i64 (mm2 false (mm2 true size 0) 64), put, get]) h fun b hv => some (.pointer (some ⟨b, 0, none⟩), hv)))
  | _ => none
noncomputable def X_ring_put : XPoly := fun G _ call run a h => match a with
  | [.agg ⟨p⟩, .slice b bn bc] =>
  nw (.cells Y_api_Pipe false p) h fun b_1 hv => gAgg ⟨b_1, 0, none⟩ 36 hv fun x => bnd (call F_ring_Ok [.agg ⟨x⟩] hv) fun r hv_1 => aBool r fun x_1 => cond (!x_1)
      (some (.bool false, hv_1))
      (gInt .i64 (Addr.add ⟨b_1, 0, none⟩ 0) hv_1 fun x_2 => gInt .i64 (Addr.add ⟨b_1, 0, none⟩ 1) hv_1 fun x_3 => gInt .i64 (Addr.add ⟨b_1, 0, none⟩ 2) hv_1 fun x_4 => gInt .i64 (Addr.add ⟨b_1, 0, none⟩ 3) hv_1 fun x_5 => nw (.cells Y_uint8 false [.int .u8 1, .int .u8 (wrapF .u8 (x_2)), .int .u8 (wrapF .u8 (x_3)), .int .u8 (wrapF .u8 (x_4)), .int .u8 (wrapF .u8 (x_5)), .int .u8 197]) hv_1 fun b_2 hv_2 => gCells (some ⟨b_2, 0, none⟩) (min 6 bn * 1) hv_2 fun cs => pCells b cs hv_2 fun hv_3 => ckB (fitsOpen b Y_uint8 hv_3) (ckLF 6 bc (bnd (call F_codec_Sum [.slice (moved b (decide (0 < bc)) (0 * 1)) ((Int.toNat 6) - 0) (bc - 0)] hv_3) fun r_1 hv_4 => aInt .u8 r_1 fun x_6 => aSome b fun p_1 => ckRF 6 bn (pV (Addr.add (bare p_1) (Int.toNat 6 * 1)) (.int .u8 x_6) hv_4 fun hv_5 => ckB (fitsOpen b Y_uint8 hv_5) (ckLF 8 bn (ckB (liveA (Addr.add ⟨b_1, 0, none⟩ 4) hv_5) (gCells (moved (some (Addr.add ⟨b_1, 0, none⟩ 4)) (decide (0 < 32)) (0 * 1)) (min (32 - 0) (bn - (Int.toNat 8)) * 1) hv_5 fun cs_1 => pCells (moved b (decide (Int.toNat 8 < bc)) ((Int.toNat 8) * 1)) cs_1 hv_5 fun hv_6 => some (.bool true, hv_6))))))))
  | _ => none
noncomputable def X_ring_get : XPoly := fun G _ call run a h => match a with
  | [.slice b bn bc] =>
  nw (.cells Y_api_Pipe false [.int .i64 0, .int .i64 0, .int .i64 0, .int .i64 0, .int .u8 0, .int .u8 0, .int .u8 0, .int .u8 0, .int .u8 0, .int .u8 0, .int .u8 0, .int .u8 0, .int .u8 0, .int .u8 0, .int .u8 0, .int .u8 0, .int .u8 0, .int .u8 0, .int .u8 0, .int .u8 0, .int .u8 0, .int .u8 0, .int .u8 0, .int .u8 0, .int .u8 0, .int .u8 0, .int .u8 0, .int .u8 0, .int .u8 0, .int .u8 0, .int .u8 0, .int .u8 0, .int .u8 0, .int .u8 0, .int .u8 0, .int .u8 0]) h fun b_1 hv => aSome b fun p => ckRF 1 bn (gInt .u8 (Addr.add (bare p) (Int.toNat 1 * 1)) hv fun x => aSome b fun p_1 => ckRF 2 bn (gInt .u8 (Addr.add (bare p_1) (Int.toNat 2 * 1)) hv fun x_1 => aSome b fun p_2 => ckRF 3 bn (gInt .u8 (Addr.add (bare p_2) (Int.toNat 3 * 1)) hv fun x_2 => aSome b fun p_3 => ckRF 4 bn (gInt .u8 (Addr.add (bare p_3) (Int.toNat 4 * 1)) hv fun x_3 => nw (.cells Y_api_Pipe false [.int .i64 0, .int .i64 0, .int .i64 0, .int .i64 0, .int .u8 0, .int .u8 0, .int .u8 0, .int .u8 0, .int .u8 0, .int .u8 0, .int .u8 0, .int .u8 0, .int .u8 0, .int .u8 0, .int .u8 0, .int .u8 0, .int .u8 0, .int .u8 0, .int .u8 0, .int .u8 0, .int .u8 0, .int .u8 0, .int .u8 0, .int .u8 0, .int .u8 0, .int .u8 0, .int .u8 0, .int .u8 0, .int .u8 0, .int .u8 0, .int .u8 0, .int .u8 0, .int .u8 0, .int .u8 0, .int .u8 0, .int .u8 0]) hv fun b_2 hv_1 => pAgg ⟨b_2, 0, none⟩ [.int .i64 (wrapF .i64 (x)), .int .i64 (wrapF .i64 (x_1)), .int .i64 (wrapF .i64 (x_2)), .int .i64 (wrapF .i64 (x_3)), .int .u8 0, .int .u8 0, .int .u8 0, .int .u8 0, .int .u8 0, .int .u8 0, .int .u8 0, .int .u8 0, .int .u8 0, .int .u8 0, .int .u8 0, .int .u8 0, .int .u8 0, .int .u8 0, .int .u8 0, .int .u8 0, .int .u8 0, .int .u8 0, .int .u8 0, .int .u8 0, .int .u8 0, .int .u8 0, .int .u8 0, .int .u8 0, .int .u8 0, .int .u8 0, .int .u8 0, .int .u8 0, .int .u8 0, .int .u8 0, .int .u8 0, .int .u8 0] hv_1 fun hv_2 => ckB (liveA (Addr.add ⟨b_2, 0, none⟩ 4) hv_2) (ckB (fitsOpen b Y_uint8 hv_2) (ckLF 8 bn (gCells (moved b (decide (Int.toNat 8 < bc)) ((Int.toNat 8) * 1)) (min (bn - (Int.toNat 8)) (32 - 0) * 1) hv_2 fun cs => pCells (moved (some (Addr.add ⟨b_2, 0, none⟩ 4)) (decide (0 < 32)) (0 * 1)) cs hv_2 fun hv_3 => gAgg ⟨b_2, 0, none⟩ 36 hv_3 fun x_4 => bnd (call F_ring_Encode [.agg ⟨x_4⟩] hv_3) fun r hv_4 => as2 r fun r_1 r_2 => aSl r_1 fun x_5 xn xc => aBool r_2 fun x_6 => gAgg ⟨b_2, 0, none⟩ 36 hv_4 fun x_7 => bnd (cond x_6 (bnd (call F_slices_Equal_s_byte_byte [.slice x_5 xn xc, .slice b bn bc] hv_4) fun r_3 hv_5 => aBool r_3 fun x_8 => gAgg ⟨b_2, 0, none⟩ 36 hv_5 fun x_9 => same (.agg ⟨x_7⟩) (.agg ⟨x_9⟩) (some (x_8, hv_5))) (some (false, hv_4))) fun c hv_6 => ck (List.length x_7 = 36) (pAgg ⟨b_1, 0, none⟩ x_7 hv_6 fun hv_7 => gAgg ⟨b_1, 0, none⟩ 36 hv_7 fun x_10 => some (.tuple ⟨[.agg ⟨x_10⟩, .bool c]⟩, hv_7)))))))))
  | _ => none
noncomputable def X_ring_Ok_1 : XPoly := fun G _ call run a h => match a with
  | [.int .i64 n, .int .i64 most] =>
  bnd (cond (ileF 0 n) (some (ileF n most, h)) (some (false, h))) fun c hv => some (.bool c, hv)
  | _ => none
noncomputable def X_host_Host_leave : XPoly := fun G _ call run a h => match a with
  | [.pointer hv, .int .i64 phase] =>
  aSome hv fun p => gPtr (Addr.add p 0) h fun x => aSome hv fun p_1 => gInt .i64 (Addr.add p_1 1) h fun x_1 => aSome hv fun p_2 => gInt .i64 (Addr.add p_2 3) h fun x_2 => aSome hv fun p_3 => gInt .i64 (Addr.add p_3 6) h fun x_3 => bnd (call F_kern_Kern_Do [.pointer x, .int .i64 x_1, .agg ⟨[.int .i64 9, .int .i64 0, .int .i64 x_3, .int .i64 x_2, .int .i64 0, .int .i64 0, .slice none 0 0]⟩] h) fun r hv_1 => aAgg r fun _ => aSome hv fun p_4 => pV (Addr.add p_4 5) (.int .i64 phase) hv_1 fun hv_2 => some (.tuple ⟨[]⟩, hv_2)
  | _ => none
noncomputable def X_host_Host_end : XPoly := fun G _ call run a h => match a with
  | [.pointer hv, .agg ⟨o⟩] =>
  nw (.cells Y_api_Out false o) h fun b hv_1 => nw (.cells Y_api_Out false [.int .i64 0, .int .i64 0, .int .i64 0, .int .i64 0, .int .i64 0, .slice none 0 0, .int .i64 0, .int .i64 0, .slice none 0 0, .bool false, .slice none 0 0, .int .i64 0]) hv_1 fun b_1 hv_2 => aSome hv fun p => gPtr (Addr.add p 4) hv_2 fun x => aSome hv fun p_1 => gInt .i64 (Addr.add p_1 2) hv_2 fun x_1 => nw (.cells Y_api_Proc false [.int .i64 0, .int .i64 0, .int .i64 0, .int .i64 0, .int .i64 0, .int .i64 0, .int .i64 0, .int .i64 0, .int .i64 0, .int .i64 0, .int .i64 0, .int .i64 0, .int .i64 0, .int .i64 0, .int .i64 0, .int .i64 0]) hv_2 fun b_2 hv_3 => bnd (call F_commons_Commons_Proc [.pointer x, .int .i64 x_1] hv_3) fun r hv_4 => as2 r fun r_1 r_2 => aAgg r_1 fun x_2 => aInt .i64 r_2 fun x_3 => ck (List.length x_2 = 16) (pAgg ⟨b_2, 0, none⟩ x_2 hv_4 fun hv_5 => bnd (cond (ineF x_3 1) (some (true, hv_5)) (gInt .i64 (Addr.add ⟨b_2, 0, none⟩ 0) hv_5 fun x_4 => some (ineF x_4 1, hv_5))) fun c hv_6 => cond c
      (gAgg ⟨b, 0, none⟩ 12 hv_6 fun x_5 => ck (List.length x_5 = 12) (pAgg ⟨b_1, 0, none⟩ x_5 hv_6 fun hv_7 => gAgg ⟨b_1, 0, none⟩ 12 hv_7 fun x_6 => some (.agg ⟨x_6⟩, hv_7)))
      (gAgg ⟨b_2, 0, none⟩ 16 hv_6 fun x_7 => bnd (call F_sig_Deliver [.agg ⟨x_7⟩] hv_6) fun r_3 hv_8 => as3 r_3 fun r_4 r_5 r_6 => aAgg r_4 fun x_8 => aSl r_5 fun x_9 xn xc => aInt .i64 r_6 fun x_10 => ck (List.length x_8 = 16) (pAgg ⟨b_2, 0, none⟩ x_8 hv_8 fun hv_9 => pV (Addr.add ⟨b, 0, none⟩ 10) (.slice x_9 xn xc) hv_9 fun hv_10 => pV (Addr.add ⟨b, 0, none⟩ 11) (.int .i64 x_10) hv_10 fun hv_11 => aSome hv fun p_2 => gPtr (Addr.add p_2 4) hv_11 fun x_11 => aSome hv fun p_3 => gInt .i64 (Addr.add p_3 2) hv_11 fun x_12 => gAgg ⟨b_2, 0, none⟩ 16 hv_11 fun x_13 => bnd (call F_commons_Commons_SetProc [.pointer x_11, .int .i64 x_12, .agg ⟨x_13⟩] hv_11) fun r_7 hv_12 => aBool r_7 fun _ => gInt .i64 (Addr.add ⟨b, 0, none⟩ 11) hv_12 fun x_15 => cond (iltF 0 x_15)
      (aSome hv fun p_4 => gPtr (Addr.add p_4 4) hv_12 fun x_16 => aSome hv fun p_5 => gInt .i64 (Addr.add p_5 2) hv_12 fun x_17 => gInt .i64 (Addr.add ⟨b, 0, none⟩ 11) hv_12 fun x_18 => bnd (call F_proc_Exit [.pointer x_16, .int .i64 x_17, .int .i64 (wrapF .i64 (128 + x_18))] hv_12) fun r_8 hv_13 => aAgg r_8 fun _ => gAgg ⟨b, 0, none⟩ 12 hv_13 fun x_20 => ck (List.length x_20 = 12) (pAgg ⟨b_1, 0, none⟩ x_20 hv_13 fun hv_14 => gAgg ⟨b_1, 0, none⟩ 12 hv_14 fun x_21 => some (.agg ⟨x_21⟩, hv_14)))
      (gAgg ⟨b, 0, none⟩ 12 hv_12 fun x_22 => ck (List.length x_22 = 12) (pAgg ⟨b_1, 0, none⟩ x_22 hv_12 fun hv_15 => gAgg ⟨b_1, 0, none⟩ 12 hv_15 fun x_23 => some (.agg ⟨x_23⟩, hv_15))))))
  | _ => none
noncomputable def X_commons_Commons_File : XPoly := fun G _ call run a h => match a with
  | [.pointer c, .int .i64 i] =>
  nw (.cells Y_api_File false [.int .i64 0, .int .i64 0, .int .i64 0, .int .i64 0]) h fun b hv => bnd (call F_commons_file [.int .i64 i] hv) fun r hv_1 => aAgg r fun x => bnd (call F_commons_record_api_File [.pointer c, .agg ⟨x⟩, .func (.func F_ofile_Decode) ⟨[]⟩ ⟨[]⟩] hv_1) fun r_1 hv_2 => as2 r_1 fun r_2 r_3 => aAgg r_2 fun x_1 => aInt .i64 r_3 fun x_2 => ck (List.length x_1 = 4) (pAgg ⟨b, 0, none⟩ x_1 hv_2 fun hv_3 => gAgg ⟨b, 0, none⟩ 4 hv_3 fun x_3 => some (.tuple ⟨[.agg ⟨x_3⟩, .int .i64 x_2]⟩, hv_3))
  | _ => none
noncomputable def X_commons_record_api_Proc : XPoly := fun G _ call run a h => match a with
  | [.pointer c, .agg ⟨r⟩, decode] =>
  nw (.cells Y_api_Rec false r) h fun b hv => nw (.cells Y_api_Proc false [.int .i64 0, .int .i64 0, .int .i64 0, .int .i64 0, .int .i64 0, .int .i64 0, .int .i64 0, .int .i64 0, .int .i64 0, .int .i64 0, .int .i64 0, .int .i64 0, .int .i64 0, .int .i64 0, .int .i64 0, .int .i64 0]) hv fun b_1 hv_1 => nw (.cells Y_api_Proc false [.int .i64 0, .int .i64 0, .int .i64 0, .int .i64 0, .int .i64 0, .int .i64 0, .int .i64 0, .int .i64 0, .int .i64 0, .int .i64 0, .int .i64 0, .int .i64 0, .int .i64 0, .int .i64 0, .int .i64 0, .int .i64 0]) hv_1 fun b_2 hv_2 => gAgg ⟨b, 0, none⟩ 2 hv_2 fun x => bnd (call F_commons_Commons_read [.pointer c, .agg ⟨x⟩] hv_2) fun r_1 hv_3 => as2 r_1 fun r_2 r_3 => aSl r_2 fun x_1 xn xc => aBool r_3 fun x_2 => cond (!x_2)
      (gAgg ⟨b_2, 0, none⟩ 16 hv_3 fun x_3 => ck (List.length x_3 = 16) (pAgg ⟨b_1, 0, none⟩ x_3 hv_3 fun hv_4 => gAgg ⟨b_1, 0, none⟩ 16 hv_4 fun x_4 => some (.tuple ⟨[.agg ⟨x_4⟩, .int .i64 2]⟩, hv_4)))
      (aFn decode fun g fi cp => bnd (call g (fi ++ ([.slice x_1 xn xc] ++ cp)) hv_3) fun r_4 hv_5 => as2 r_4 fun r_5 r_6 => aAgg r_5 fun x_5 => aInt .i64 r_6 fun x_6 => nw (.cells Y_api_Proc false [.int .i64 0, .int .i64 0, .int .i64 0, .int .i64 0, .int .i64 0, .int .i64 0, .int .i64 0, .int .i64 0, .int .i64 0, .int .i64 0, .int .i64 0, .int .i64 0, .int .i64 0, .int .i64 0, .int .i64 0, .int .i64 0]) hv_5 fun b_3 hv_6 => ck (List.length x_5 = 16) (pAgg ⟨b_3, 0, none⟩ x_5 hv_6 fun hv_7 => cond (ieqF x_6 2)
      (aSome c fun p => gMap (Addr.add p 3) hv_7 fun x_7 => gAgg ⟨b, 0, none⟩ 2 hv_7 fun x_8 => keyN PR Y_api_Rec (.agg ⟨x_8⟩) (opt x_7 fun r_7 => mapAt hv_7 r_7 fun es _ => opt (lookM (.int .i64 0) (.agg ⟨x_8⟩) es) fun f => aInt .i64 f.1 fun x_9 => keyN PR Y_api_Rec (.agg ⟨x_8⟩) (opt x_7 fun r_8 => mapAt hv_7 r_8 fun es_1 cl_1 => opt (entM (.int .i64 0) (.agg ⟨x_8⟩) es_1 cl_1) fun f_1 => aInt .i64 f_1.1 fun _ => lt (hset hv_7 r_8 f_1.2.2) fun hv_8 => keyN PR Y_api_Rec (.agg ⟨x_8⟩) (opt x_7 fun r_9 => mapAt hv_8 r_9 fun es_2 _ => opt (lookM (.int .i64 0) (.agg ⟨x_8⟩) es_2) fun f_2 => aInt .i64 f_2.1 fun x_11 => same (.int .i64 x_9) (.int .i64 x_11) (opt x_7 fun r_10 => mapAt hv_8 r_10 fun es_3 cl_3 => opt (bornN (f_1.2.1 : Int) es_3 0) fun i => lt (hset hv_8 r_10 (.map (modN (fun e => { e with val := .int .i64 (wrapF .i64 (x_9 + 1)) }) i es_3) cl_3)) fun hv_9 => run F_commons_record_api_Proc 3017 [.pointer (some ⟨b_1, 0, none⟩), .pointer (some ⟨b_2, 0, none⟩), .pointer (some ⟨b_3, 0, none⟩), .int .i64 x_6] hv_9)))))
      (run F_commons_record_api_Proc 3017 [.pointer (some ⟨b_1, 0, none⟩), .pointer (some ⟨b_2, 0, none⟩), .pointer (some ⟨b_3, 0, none⟩), .int .i64 x_6] hv_7)))
  | _ => none
noncomputable def X_commons_record_api_Proc_R1 : XPoly := fun G _ call run a h => match a with
  | [.pointer (some x6), .pointer (some nonev), .pointer (some v), .int .i64 isv] =>
  cond (ineF isv 1)
      (gAgg nonev 16 h fun x => ck (List.length x = 16) (pAgg x6 x h fun hv => gAgg x6 16 hv fun x_1 => some (.tuple ⟨[.agg ⟨x_1⟩, .int .i64 isv]⟩, hv)))
      (gAgg v 16 h fun x_2 => ck (List.length x_2 = 16) (pAgg x6 x_2 h fun hv_1 => gAgg x6 16 hv_1 fun x_3 => some (.tuple ⟨[.agg ⟨x_3⟩, .int .i64 isv]⟩, hv_1)))
  | _ => none
noncomputable def LB_commons_record_api_Proc_R1 : Lab := ⟨F_commons_record_api_Proc, 3017, T_commons_record_api_Proc_R1, [6, 8, 11, 12], X_commons_record_api_Proc_R1⟩
noncomputable def X_commons_record_api_Pipe : XPoly := fun G _ call run a h => match a with
  | [.pointer c, .agg ⟨r⟩, decode] =>
  nw (.cells Y_api_Rec false r) h fun b hv => nw (.cells Y_api_Pipe false [.int .i64 0, .int .i64 0, .int .i64 0, .int .i64 0, .int .u8 0, .int .u8 0, .int .u8 0, .int .u8 0, .int .u8 0, .int .u8 0, .int .u8 0, .int .u8 0, .int .u8 0, .int .u8 0, .int .u8 0, .int .u8 0, .int .u8 0, .int .u8 0, .int .u8 0, .int .u8 0, .int .u8 0, .int .u8 0, .int .u8 0, .int .u8 0, .int .u8 0, .int .u8 0, .int .u8 0, .int .u8 0, .int .u8 0, .int .u8 0, .int .u8 0, .int .u8 0, .int .u8 0, .int .u8 0, .int .u8 0, .int .u8 0]) hv fun b_1 hv_1 => nw (.cells Y_api_Pipe false [.int .i64 0, .int .i64 0, .int .i64 0, .int .i64 0, .int .u8 0, .int .u8 0, .int .u8 0, .int .u8 0, .int .u8 0, .int .u8 0, .int .u8 0, .int .u8 0, .int .u8 0, .int .u8 0, .int .u8 0, .int .u8 0, .int .u8 0, .int .u8 0, .int .u8 0, .int .u8 0, .int .u8 0, .int .u8 0, .int .u8 0, .int .u8 0, .int .u8 0, .int .u8 0, .int .u8 0, .int .u8 0, .int .u8 0, .int .u8 0, .int .u8 0, .int .u8 0, .int .u8 0, .int .u8 0, .int .u8 0, .int .u8 0]) hv_1 fun b_2 hv_2 => gAgg ⟨b, 0, none⟩ 2 hv_2 fun x => bnd (call F_commons_Commons_read [.pointer c, .agg ⟨x⟩] hv_2) fun r_1 hv_3 => as2 r_1 fun r_2 r_3 => aSl r_2 fun x_1 xn xc => aBool r_3 fun x_2 => cond (!x_2)
      (gAgg ⟨b_2, 0, none⟩ 36 hv_3 fun x_3 => ck (List.length x_3 = 36) (pAgg ⟨b_1, 0, none⟩ x_3 hv_3 fun hv_4 => gAgg ⟨b_1, 0, none⟩ 36 hv_4 fun x_4 => some (.tuple ⟨[.agg ⟨x_4⟩, .int .i64 2]⟩, hv_4)))
      (aFn decode fun g fi cp => bnd (call g (fi ++ ([.slice x_1 xn xc] ++ cp)) hv_3) fun r_4 hv_5 => as2 r_4 fun r_5 r_6 => aAgg r_5 fun x_5 => aInt .i64 r_6 fun x_6 => nw (.cells Y_api_Pipe false [.int .i64 0, .int .i64 0, .int .i64 0, .int .i64 0, .int .u8 0, .int .u8 0, .int .u8 0, .int .u8 0, .int .u8 0, .int .u8 0, .int .u8 0, .int .u8 0, .int .u8 0, .int .u8 0, .int .u8 0, .int .u8 0, .int .u8 0, .int .u8 0, .int .u8 0, .int .u8 0, .int .u8 0, .int .u8 0, .int .u8 0, .int .u8 0, .int .u8 0, .int .u8 0, .int .u8 0, .int .u8 0, .int .u8 0, .int .u8 0, .int .u8 0, .int .u8 0, .int .u8 0, .int .u8 0, .int .u8 0, .int .u8 0]) hv_5 fun b_3 hv_6 => ck (List.length x_5 = 36) (pAgg ⟨b_3, 0, none⟩ x_5 hv_6 fun hv_7 => cond (ieqF x_6 2)
      (aSome c fun p => gMap (Addr.add p 3) hv_7 fun x_7 => gAgg ⟨b, 0, none⟩ 2 hv_7 fun x_8 => keyN PR Y_api_Rec (.agg ⟨x_8⟩) (opt x_7 fun r_7 => mapAt hv_7 r_7 fun es _ => opt (lookM (.int .i64 0) (.agg ⟨x_8⟩) es) fun f => aInt .i64 f.1 fun x_9 => keyN PR Y_api_Rec (.agg ⟨x_8⟩) (opt x_7 fun r_8 => mapAt hv_7 r_8 fun es_1 cl_1 => opt (entM (.int .i64 0) (.agg ⟨x_8⟩) es_1 cl_1) fun f_1 => aInt .i64 f_1.1 fun _ => lt (hset hv_7 r_8 f_1.2.2) fun hv_8 => keyN PR Y_api_Rec (.agg ⟨x_8⟩) (opt x_7 fun r_9 => mapAt hv_8 r_9 fun es_2 _ => opt (lookM (.int .i64 0) (.agg ⟨x_8⟩) es_2) fun f_2 => aInt .i64 f_2.1 fun x_11 => same (.int .i64 x_9) (.int .i64 x_11) (opt x_7 fun r_10 => mapAt hv_8 r_10 fun es_3 cl_3 => opt (bornN (f_1.2.1 : Int) es_3 0) fun i => lt (hset hv_8 r_10 (.map (modN (fun e => { e with val := .int .i64 (wrapF .i64 (x_9 + 1)) }) i es_3) cl_3)) fun hv_9 => run F_commons_record_api_Pipe 3017 [.pointer (some ⟨b_1, 0, none⟩), .pointer (some ⟨b_2, 0, none⟩), .pointer (some ⟨b_3, 0, none⟩), .int .i64 x_6] hv_9)))))
      (run F_commons_record_api_Pipe 3017 [.pointer (some ⟨b_1, 0, none⟩), .pointer (some ⟨b_2, 0, none⟩), .pointer (some ⟨b_3, 0, none⟩), .int .i64 x_6] hv_7)))
  | _ => none
noncomputable def X_commons_record_api_Pipe_R1 : XPoly := fun G _ call run a h => match a with
  | [.pointer (some x6), .pointer (some nonev), .pointer (some v), .int .i64 isv] =>
  cond (ineF isv 1)
      (gAgg nonev 36 h fun x => ck (List.length x = 36) (pAgg x6 x h fun hv => gAgg x6 36 hv fun x_1 => some (.tuple ⟨[.agg ⟨x_1⟩, .int .i64 isv]⟩, hv)))
      (gAgg v 36 h fun x_2 => ck (List.length x_2 = 36) (pAgg x6 x_2 h fun hv_1 => gAgg x6 36 hv_1 fun x_3 => some (.tuple ⟨[.agg ⟨x_3⟩, .int .i64 isv]⟩, hv_1)))
  | _ => none
noncomputable def LB_commons_record_api_Pipe_R1 : Lab := ⟨F_commons_record_api_Pipe, 3017, T_commons_record_api_Pipe_R1, [6, 8, 11, 12], X_commons_record_api_Pipe_R1⟩
noncomputable def X_caps_Space_Revoke : XPoly := fun G _ call run a h => match a with
  | [.pointer s, .int .i64 env, .int .i64 name] =>
  bnd (call F_caps_Space_Under [.pointer s, .int .i64 env, .int .i64 name] h) fun r hv => as2 r fun r_1 r_2 => aSl r_1 fun x xn xc => aInt .i64 r_2 fun x_1 => cond (ineF x_1 0)
      (some (.tuple ⟨[.int .i64 0, .int .i64 x_1]⟩, hv))
      (run F_caps_Space_Revoke 3010 [.pointer s, .int .i64 env, .int .i64 name, .slice x xn xc, .slice x xn xc, .int .i64 ((xn : Nat) : Int), .int .i64 0] hv)
  | _ => none
noncomputable def X_caps_Space_Revoke_L1 : XPoly := fun G _ call run a h => match a with
  | [.pointer s, .int .i64 env, .int .i64 name, .slice l ln lc, .slice x22 x22n x22c, .int .i64 x23, .int .i64 x24] =>
  cond (iltF x24 x23)
      (aSome x22 fun p => ckRF x24 x22n (gAgg (Addr.add (bare p) (Int.toNat x24 * 2)) 2 h fun x => nw (.cells Y_api_Ref false [.int .i64 0, .int .i64 0]) h fun b hv => ck (List.length x = 2) (pAgg ⟨b, 0, none⟩ x hv fun hv_1 => aSome s fun p_1 => gSl (Addr.add p_1 0) hv_1 fun x_1 xn _ => gInt .i64 (Addr.add ⟨b, 0, none⟩ 0) hv_1 fun x_2 => aSome x_1 fun p_2 => ckRF x_2 xn (gPtr (Addr.add (bare p_2) (Int.toNat x_2 * 1)) hv_1 fun x_3 => gInt .i64 (Addr.add ⟨b, 0, none⟩ 1) hv_1 fun x_4 => bnd (call F_table_Table_api_Cap_Drop [.pointer x_3, .int .i64 x_4] hv_1) fun r hv_2 => aBool r fun _ => run F_caps_Space_Revoke 3010 [.pointer s, .int .i64 env, .int .i64 name, .slice l ln lc, .slice x22 x22n x22c, .int .i64 x23, .int .i64 (wrapF .i64 (x24 + 1))] hv_2))))
      (aSome s fun p_3 => gSl (Addr.add p_3 0) h fun x_6 xn_1 _ => aSome x_6 fun p_4 => ckRF env xn_1 (gPtr (Addr.add (bare p_4) (Int.toNat env * 1)) h fun x_7 => bnd (call F_table_Table_api_Cap_Drop [.pointer x_7, .int .i64 name] h) fun r_1 hv_3 => aBool r_1 fun _ => some (.tuple ⟨[.int .i64 (wrapF .i64 (((ln : Nat) : Int) + 1)), .int .i64 0]⟩, hv_3)))
  | _ => none
noncomputable def LB_caps_Space_Revoke_L1 : Lab := ⟨F_caps_Space_Revoke, 3010, T_caps_Space_Revoke_L1, [0, 1, 2, 8, 22, 23, 24], X_caps_Space_Revoke_L1⟩
noncomputable def X_kern_Kern_leave : XPoly := fun G _ call run a h => match a with
  | [.pointer k, .int .i64 env, .agg ⟨c⟩] =>
  nw (.cells Y_api_Call false c) h fun b hv => gInt .i64 (Addr.add ⟨b, 0, none⟩ 3) hv fun x => bnd (call F_kern_Kern_sect [.pointer k, .int .i64 env, .int .i64 x] hv) fun r hv_1 => as2 r fun r_1 r_2 => aPtr r_1 fun x_1 => aInt .i64 r_2 fun x_2 => bnd (cond (ieqF x_2 0) (gInt .i64 (Addr.add ⟨b, 0, none⟩ 2) hv_1 fun x_3 => bnd (call F_sect_Sect_Leave [.pointer x_1, .int .i64 env, .int .i64 x_3] hv_1) fun r_3 hv_2 => aBool r_3 fun x_4 => some (!x_4, hv_2)) (some (false, hv_1))) fun c_1 hv_3 => cond c_1
      (some (.int .i64 8, hv_3))
      (some (.int .i64 x_2, hv_3))
  | _ => none
noncomputable def X_slices_IndexFunc_s_int_int : XPoly := fun G _ call run a h => match a with
  | [.slice s sn sc, f] =>
  run F_slices_IndexFunc_s_int_int 3004 [.slice s sn sc, f, .int .i64 ((sn : Nat) : Int), .int .i64 0] h
  | _ => none
noncomputable def X_slices_IndexFunc_s_int_int_L1 : XPoly := fun G _ call run a h => match a with
  | [.slice s sn sc, f, .int .i64 x7, .int .i64 x8] =>
  cond (iltF x8 x7)
      (aSome s fun p => ckRF x8 sn (gInt .i64 (Addr.add (bare p) (Int.toNat x8 * 1)) h fun x => aFn f fun g fi cp => bnd (call g (fi ++ ([.int .i64 x] ++ cp)) h) fun r hv => aBool r fun x_1 => cond x_1
      (some (.int .i64 x8, hv))
      (run F_slices_IndexFunc_s_int_int 3004 [.slice s sn sc, f, .int .i64 x7, .int .i64 (wrapF .i64 (x8 + 1))] hv)))
      (some (.int .i64 (-1), h))
  | _ => none
noncomputable def LB_slices_IndexFunc_s_int_int_L1 : Lab := ⟨F_slices_IndexFunc_s_int_int, 3004, T_slices_IndexFunc_s_int_int_L1, [0, 1, 7, 8], X_slices_IndexFunc_s_int_int_L1⟩
noncomputable def X_codec_Codec_api_Pipe_Encode : XPoly := fun G _ call run a h => match a with
  | [.pointer c, .agg ⟨v⟩] =>
  nw (.cells Y_api_Pipe false v) h fun b hv => aSome c fun p => gInt .i64 (Addr.add p 0) hv fun x => ck ((0 : Int) ≤ x ∧ (x : Int) ≤ x ∧ x ≤ (most : Int)) (nw (.cells Y_uint8 false (manyN (Int.toNat x) [.int .u8 0])) hv fun b_1 hv_1 => aSome c fun p_1 => gFv (Addr.add p_1 1) hv_1 fun x_1 => isNilF x_1 fun b_2 => bnd (cond b_2 (some (true, hv_1)) (aSome c fun p_2 => gFv (Addr.add p_2 1) hv_1 fun x_2 => gAgg ⟨b, 0, none⟩ 36 hv_1 fun x_3 => aFn x_2 fun g fi cp => bnd (call g (fi ++ ([.agg ⟨x_3⟩, .slice (some ⟨b_1, 0, none⟩) (Int.toNat x) (Int.toNat x)] ++ cp)) hv_1) fun r hv_2 => aBool r fun x_4 => some (!x_4, hv_2))) fun c_1 hv_3 => cond c_1
      (some (.tuple ⟨[.slice none 0 0, .bool false]⟩, hv_3))
      (some (.tuple ⟨[.slice (some ⟨b_1, 0, none⟩) (Int.toNat x) (Int.toNat x), .bool true]⟩, hv_3)))
  | _ => none
noncomputable def X_ofile_Codec : XPoly := fun G _ call run a h => match a with
  | [] =>
  bnd (call F_codec_New_api_File [.int .i64 8, .func (.func F_ofile_put) ⟨[]⟩ ⟨[]⟩, .func (.func F_ofile_get) ⟨[]⟩ ⟨[]⟩] h) fun r hv => aPtr r fun x => some (.pointer x, hv)
  | _ => none
noncomputable def X_codec_Codec_api_Proc_Encode : XPoly := fun G _ call run a h => match a with
  | [.pointer c, .agg ⟨v⟩] =>
  nw (.cells Y_api_Proc false v) h fun b hv => aSome c fun p => gInt .i64 (Addr.add p 0) hv fun x => ck ((0 : Int) ≤ x ∧ (x : Int) ≤ x ∧ x ≤ (most : Int)) (nw (.cells Y_uint8 false (manyN (Int.toNat x) [.int .u8 0])) hv fun b_1 hv_1 => aSome c fun p_1 => gFv (Addr.add p_1 1) hv_1 fun x_1 => isNilF x_1 fun b_2 => bnd (cond b_2 (some (true, hv_1)) (aSome c fun p_2 => gFv (Addr.add p_2 1) hv_1 fun x_2 => gAgg ⟨b, 0, none⟩ 16 hv_1 fun x_3 => aFn x_2 fun g fi cp => bnd (call g (fi ++ ([.agg ⟨x_3⟩, .slice (some ⟨b_1, 0, none⟩) (Int.toNat x) (Int.toNat x)] ++ cp)) hv_1) fun r hv_2 => aBool r fun x_4 => some (!x_4, hv_2))) fun c_1 hv_3 => cond c_1
      (some (.tuple ⟨[.slice none 0 0, .bool false]⟩, hv_3))
      (some (.tuple ⟨[.slice (some ⟨b_1, 0, none⟩) (Int.toNat x) (Int.toNat x), .bool true]⟩, hv_3)))
  | _ => none
noncomputable def X_slices_IndexFunc_s_byte_byte : XPoly := fun G _ call run a h => match a with
  | [.slice s sn sc, f] =>
  run F_slices_IndexFunc_s_byte_byte 3004 [.slice s sn sc, f, .int .i64 ((sn : Nat) : Int), .int .i64 0] h
  | _ => none
noncomputable def X_slices_IndexFunc_s_byte_byte_L1 : XPoly := fun G _ call run a h => match a with
  | [.slice s sn sc, f, .int .i64 x7, .int .i64 x8] =>
  cond (iltF x8 x7)
      (aSome s fun p => ckRF x8 sn (gInt .u8 (Addr.add (bare p) (Int.toNat x8 * 1)) h fun x => aFn f fun g fi cp => bnd (call g (fi ++ ([.int .u8 x] ++ cp)) h) fun r hv => aBool r fun x_1 => cond x_1
      (some (.int .i64 x8, hv))
      (run F_slices_IndexFunc_s_byte_byte 3004 [.slice s sn sc, f, .int .i64 x7, .int .i64 (wrapF .i64 (x8 + 1))] hv)))
      (some (.int .i64 (-1), h))
  | _ => none
noncomputable def LB_slices_IndexFunc_s_byte_byte_L1 : Lab := ⟨F_slices_IndexFunc_s_byte_byte, 3004, T_slices_IndexFunc_s_byte_byte_L1, [0, 1, 7, 8], X_slices_IndexFunc_s_byte_byte_L1⟩
noncomputable def X_slices_Equal_s_byte_byte : XPoly := fun G _ call run a h => match a with
  | [.slice s1 s1n s1c, .slice s2 s2n s2c] =>
  cond (ineF ((s1n : Nat) : Int) ((s2n : Nat) : Int))
      (some (.bool false, h))
      (run F_slices_Equal_s_byte_byte 3008 [.slice s1 s1n s1c, .slice s2 s2n s2c, .int .i64 ((s1n : Nat) : Int), .int .i64 0] h)
  | _ => none
noncomputable def X_slices_Equal_s_byte_byte_L1 : XPoly := fun G _ call run a h => match a with
  | [.slice s1 s1n s1c, .slice s2 s2n s2c, .int .i64 x12, .int .i64 x13] =>
  cond (iltF x13 x12)
      (aSome s1 fun p => ckRF x13 s1n (gInt .u8 (Addr.add (bare p) (Int.toNat x13 * 1)) h fun x => aSome s2 fun p_1 => ckRF x13 s2n (gInt .u8 (Addr.add (bare p_1) (Int.toNat x13 * 1)) h fun x_1 => cond (ineF x x_1)
      (some (.bool false, h))
      (run F_slices_Equal_s_byte_byte 3008 [.slice s1 s1n s1c, .slice s2 s2n s2c, .int .i64 x12, .int .i64 (wrapF .i64 (x13 + 1))] h))))
      (some (.bool true, h))
  | _ => none
noncomputable def LB_slices_Equal_s_byte_byte_L1 : Lab := ⟨F_slices_Equal_s_byte_byte, 3008, T_slices_Equal_s_byte_byte_L1, [0, 1, 12, 13], X_slices_Equal_s_byte_byte_L1⟩
noncomputable def X_sect_Sect_Quit : XPoly := fun G _ call run a h => match a with
  | [.pointer s, .int .i64 who] =>
  aSome s fun p => gBool (Addr.add p 1) h fun x => bnd (cond x (aSome s fun p_1 => gInt .i64 (Addr.add p_1 2) h fun x_1 => some (ieqF x_1 who, h)) (some (false, h))) fun c hv => cond c
      (aSome s fun p_2 => pV (Addr.add p_2 1) (.bool false) hv fun hv_1 => aSome s fun p_3 => gInt .i64 (Addr.add p_3 7) hv_1 fun x_2 => aSome s fun p_4 => pV (Addr.add p_4 6) (.int .i64 x_2) hv_1 fun hv_2 => run F_sect_Sect_Quit 2007 [.pointer s, .int .i64 who] hv_2)
      (run F_sect_Sect_Quit 2007 [.pointer s, .int .i64 who] hv)
  | _ => none
noncomputable def X_sect_Sect_Quit_R1 : XPoly := fun G _ call run a h => match a with
  | [.pointer s, .int .i64 who] =>
  aSome s fun p => gSl (Addr.add p 5) h fun x xn xc => bnd (call F_slices_Index_s_int_int [.slice x xn xc, .int .i64 who] h) fun r hv => aInt .i64 r fun x_1 => cond (iltF x_1 0)
      (some (.tuple ⟨[]⟩, hv))
      (aSome s fun p_1 => gSl (Addr.add p_1 5) hv fun x_2 xn_1 xc_1 => bnd (call F_slices_Clone_s_int_int [.slice x_2 xn_1 xc_1] hv) fun r_1 hv_1 => aSl r_1 fun x_3 xn_2 xc_2 => bnd (call F_slices_Delete_s_int_int [.slice x_3 xn_2 xc_2, .int .i64 x_1, .int .i64 (wrapF .i64 (x_1 + 1))] hv_1) fun r_2 hv_2 => aSl r_2 fun x_4 xn_3 xc_3 => aSome s fun p_2 => pV (Addr.add p_2 5) (.slice x_4 xn_3 xc_3) hv_2 fun hv_3 => cond (ieqF x_1 0)
      (aSome s fun p_3 => gInt .i64 (Addr.add p_3 7) hv_3 fun x_5 => aSome s fun p_4 => pV (Addr.add p_4 6) (.int .i64 x_5) hv_3 fun hv_4 => some (.tuple ⟨[]⟩, hv_4))
      (some (.tuple ⟨[]⟩, hv_3)))
  | _ => none
noncomputable def LB_sect_Sect_Quit_R1 : Lab := ⟨F_sect_Sect_Quit, 2007, T_sect_Sect_Quit_R1, [0, 1], X_sect_Sect_Quit_R1⟩
noncomputable def X_calls_Do : XPoly := fun G _ call run a h => match a with
  | [.pointer c, .int .i64 i, .agg ⟨s⟩] =>
  nw (.cells Y_api_Sys false s) h fun b hv => nw (.cells Y_api_Ret false [.int .i64 0, .int .i64 0, .slice none 0 0, .bool false]) hv fun b_1 hv_1 => bnd (call F_commons_Commons_Look [.pointer c] hv_1) fun r hv_2 => as0 r (gAgg ⟨b, 0, none⟩ 4 hv_2 fun x => bnd (call F_calls_files [.pointer c, .int .i64 i, .agg ⟨x⟩] hv_2) fun r_1 hv_3 => as2 r_1 fun r_2 r_3 => aAgg r_2 fun x_1 => aBool r_3 fun x_2 => nw (.cells Y_api_Ret false [.int .i64 0, .int .i64 0, .slice none 0 0, .bool false]) hv_3 fun b_2 hv_4 => ck (List.length x_1 = 4) (pAgg ⟨b_2, 0, none⟩ x_1 hv_4 fun hv_5 => cond x_2
      (gAgg ⟨b_2, 0, none⟩ 4 hv_5 fun x_3 => ck (List.length x_3 = 4) (pAgg ⟨b_1, 0, none⟩ x_3 hv_5 fun hv_6 => gAgg ⟨b_1, 0, none⟩ 4 hv_6 fun x_4 => some (.agg ⟨x_4⟩, hv_6)))
      (gInt .i64 (Addr.add ⟨b, 0, none⟩ 0) hv_5 fun x_5 => cond (ieqF x_5 2)
      (bnd (call F_proc_Fork [.pointer c, .int .i64 i] hv_5) fun r_4 hv_7 => aAgg r_4 fun x_6 => ck (List.length x_6 = 4) (pAgg ⟨b_1, 0, none⟩ x_6 hv_7 fun hv_8 => gAgg ⟨b_1, 0, none⟩ 4 hv_8 fun x_7 => some (.agg ⟨x_7⟩, hv_8)))
      (cond (ieqF x_5 3)
      (gInt .i64 (Addr.add ⟨b, 0, none⟩ 1) hv_5 fun x_8 => bnd (call F_proc_Exit [.pointer c, .int .i64 i, .int .i64 x_8] hv_5) fun r_5 hv_9 => aAgg r_5 fun x_9 => ck (List.length x_9 = 4) (pAgg ⟨b_1, 0, none⟩ x_9 hv_9 fun hv_10 => gAgg ⟨b_1, 0, none⟩ 4 hv_10 fun x_10 => some (.agg ⟨x_10⟩, hv_10)))
      (cond (ieqF x_5 4)
      (bnd (call F_proc_Wait [.pointer c, .int .i64 i] hv_5) fun r_6 hv_11 => aAgg r_6 fun x_11 => ck (List.length x_11 = 4) (pAgg ⟨b_1, 0, none⟩ x_11 hv_11 fun hv_12 => gAgg ⟨b_1, 0, none⟩ 4 hv_12 fun x_12 => some (.agg ⟨x_12⟩, hv_12)))
      (cond (ieqF x_5 5)
      (gInt .i64 (Addr.add ⟨b, 0, none⟩ 1) hv_5 fun x_13 => gInt .i64 (Addr.add ⟨b, 0, none⟩ 2) hv_5 fun x_14 => bnd (call F_proc_Kill [.pointer c, .int .i64 i, .int .i64 x_13, .int .i64 x_14] hv_5) fun r_7 hv_13 => aAgg r_7 fun x_15 => ck (List.length x_15 = 4) (pAgg ⟨b_1, 0, none⟩ x_15 hv_13 fun hv_14 => gAgg ⟨b_1, 0, none⟩ 4 hv_14 fun x_16 => some (.agg ⟨x_16⟩, hv_14)))
      (cond (ieqF x_5 8)
      (gInt .i64 (Addr.add ⟨b, 0, none⟩ 1) hv_5 fun x_17 => gInt .i64 (Addr.add ⟨b, 0, none⟩ 2) hv_5 fun x_18 => bnd (call F_proc_Group [.pointer c, .int .i64 i, .int .i64 x_17, .int .i64 x_18] hv_5) fun r_8 hv_15 => aAgg r_8 fun x_19 => ck (List.length x_19 = 4) (pAgg ⟨b_1, 0, none⟩ x_19 hv_15 fun hv_16 => gAgg ⟨b_1, 0, none⟩ 4 hv_16 fun x_20 => some (.agg ⟨x_20⟩, hv_16)))
      (cond (ieqF x_5 1)
      (cond (ieqF x_5 1)
      (gAgg ⟨b, 0, none⟩ 4 hv_5 fun x_21 => bnd (call F_calls_own [.pointer c, .int .i64 i, .agg ⟨x_21⟩] hv_5) fun r_9 hv_17 => aAgg r_9 fun x_22 => ck (List.length x_22 = 4) (pAgg ⟨b_1, 0, none⟩ x_22 hv_17 fun hv_18 => gAgg ⟨b_1, 0, none⟩ 4 hv_18 fun x_23 => some (.agg ⟨x_23⟩, hv_18)))
      (bnd (call F_calls_told [.int .i64 122] hv_5) fun r_10 hv_19 => aAgg r_10 fun x_24 => ck (List.length x_24 = 4) (pAgg ⟨b_1, 0, none⟩ x_24 hv_19 fun hv_20 => gAgg ⟨b_1, 0, none⟩ 4 hv_20 fun x_25 => some (.agg ⟨x_25⟩, hv_20))))
      (cond (ieqF x_5 17)
      (cond (ieqF x_5 17)
      (gAgg ⟨b, 0, none⟩ 4 hv_5 fun x_26 => bnd (call F_calls_own [.pointer c, .int .i64 i, .agg ⟨x_26⟩] hv_5) fun r_11 hv_21 => aAgg r_11 fun x_27 => ck (List.length x_27 = 4) (pAgg ⟨b_1, 0, none⟩ x_27 hv_21 fun hv_22 => gAgg ⟨b_1, 0, none⟩ 4 hv_22 fun x_28 => some (.agg ⟨x_28⟩, hv_22)))
      (bnd (call F_calls_told [.int .i64 122] hv_5) fun r_12 hv_23 => aAgg r_12 fun x_29 => ck (List.length x_29 = 4) (pAgg ⟨b_1, 0, none⟩ x_29 hv_23 fun hv_24 => gAgg ⟨b_1, 0, none⟩ 4 hv_24 fun x_30 => some (.agg ⟨x_30⟩, hv_24))))
      (cond (ieqF x_5 18)
      (cond (ieqF x_5 18)
      (gAgg ⟨b, 0, none⟩ 4 hv_5 fun x_31 => bnd (call F_calls_own [.pointer c, .int .i64 i, .agg ⟨x_31⟩] hv_5) fun r_13 hv_25 => aAgg r_13 fun x_32 => ck (List.length x_32 = 4) (pAgg ⟨b_1, 0, none⟩ x_32 hv_25 fun hv_26 => gAgg ⟨b_1, 0, none⟩ 4 hv_26 fun x_33 => some (.agg ⟨x_33⟩, hv_26)))
      (bnd (call F_calls_told [.int .i64 122] hv_5) fun r_14 hv_27 => aAgg r_14 fun x_34 => ck (List.length x_34 = 4) (pAgg ⟨b_1, 0, none⟩ x_34 hv_27 fun hv_28 => gAgg ⟨b_1, 0, none⟩ 4 hv_28 fun x_35 => some (.agg ⟨x_35⟩, hv_28))))
      (cond (ieqF x_5 6)
      (cond (ieqF x_5 6)
      (gAgg ⟨b, 0, none⟩ 4 hv_5 fun x_36 => bnd (call F_calls_own [.pointer c, .int .i64 i, .agg ⟨x_36⟩] hv_5) fun r_15 hv_29 => aAgg r_15 fun x_37 => ck (List.length x_37 = 4) (pAgg ⟨b_1, 0, none⟩ x_37 hv_29 fun hv_30 => gAgg ⟨b_1, 0, none⟩ 4 hv_30 fun x_38 => some (.agg ⟨x_38⟩, hv_30)))
      (bnd (call F_calls_told [.int .i64 122] hv_5) fun r_16 hv_31 => aAgg r_16 fun x_39 => ck (List.length x_39 = 4) (pAgg ⟨b_1, 0, none⟩ x_39 hv_31 fun hv_32 => gAgg ⟨b_1, 0, none⟩ 4 hv_32 fun x_40 => some (.agg ⟨x_40⟩, hv_32))))
      (cond (ieqF x_5 7)
      (gAgg ⟨b, 0, none⟩ 4 hv_5 fun x_41 => bnd (call F_calls_own [.pointer c, .int .i64 i, .agg ⟨x_41⟩] hv_5) fun r_17 hv_33 => aAgg r_17 fun x_42 => ck (List.length x_42 = 4) (pAgg ⟨b_1, 0, none⟩ x_42 hv_33 fun hv_34 => gAgg ⟨b_1, 0, none⟩ 4 hv_34 fun x_43 => some (.agg ⟨x_43⟩, hv_34)))
      (bnd (call F_calls_told [.int .i64 122] hv_5) fun r_18 hv_35 => aAgg r_18 fun x_44 => ck (List.length x_44 = 4) (pAgg ⟨b_1, 0, none⟩ x_44 hv_35 fun hv_36 => gAgg ⟨b_1, 0, none⟩ 4 hv_36 fun x_45 => some (.agg ⟨x_45⟩, hv_36)))))))))))))))
  | _ => none
noncomputable def X_sig_Deliver : XPoly := fun G _ call run a h => match a with
  | [.agg ⟨p⟩] =>
  nw (.cells Y_api_Proc false p) h fun b hv => nw (.cells Y_api_Proc false [.int .i64 0, .int .i64 0, .int .i64 0, .int .i64 0, .int .i64 0, .int .i64 0, .int .i64 0, .int .i64 0, .int .i64 0, .int .i64 0, .int .i64 0, .int .i64 0, .int .i64 0, .int .i64 0, .int .i64 0, .int .i64 0]) hv fun b_1 hv_1 => run F_sig_Deliver 2002 [.pointer (some ⟨b, 0, none⟩), .pointer (some ⟨b_1, 0, none⟩), .slice none 0 0] hv_1
  | _ => none
noncomputable def X_sig_Deliver_L1 : XPoly := fun G _ call run a h => match a with
  | [.pointer (some p), .pointer (some q), .slice caught caughtn caughtc] =>
  gAgg p 16 h fun x => bnd (call F_sig_Next [.agg ⟨x⟩] h) fun r hv => as2 r fun r_1 r_2 => aInt .i64 r_1 fun x_1 => aInt .i64 r_2 fun x_2 => cond (ieqF x_2 0)
      (gAgg p 16 hv fun x_3 => ck (List.length x_3 = 16) (pAgg q x_3 hv fun hv_1 => gAgg q 16 hv_1 fun x_4 => some (.tuple ⟨[.agg ⟨x_4⟩, .slice caught caughtn caughtc, .int .i64 0]⟩, hv_1)))
      (gInt .i64 (Addr.add p 4) hv fun x_5 => ck ((0 : Int) ≤ (wrapF .u64 (x_1))) (pV (Addr.add p 4) (.int .i64 (bitN .i64 x_5 (wrapF .i64 (1 * 2 ^ (min (Int.toNat (wrapF .u64 (x_1))) 64))))) hv fun hv_2 => cond (ieqF x_2 2)
      (nw (.cells Y_int false [.int .i64 x_1]) hv_2 fun b hv_3 => gCells (some ⟨b, 0, none⟩) (1 * 1) hv_3 fun cs => ckB (fitsOpen caught Y_int hv_3) (apd Y_int 1 caught caughtn caughtc 1 cs hv_3 fun a an ac hv_4 => run F_sig_Deliver 2002 [.pointer (some p), .pointer (some q), .slice a an ac] hv_4))
      (cond (ieqF x_2 3)
      (pV (Addr.add p 0) (.int .i64 3) hv_2 fun hv_5 => run F_sig_Deliver 2002 [.pointer (some p), .pointer (some q), .slice caught caughtn caughtc] hv_5)
      (cond (ieqF x_2 4)
      (gAgg p 16 hv_2 fun x_6 => ck (List.length x_6 = 16) (pAgg q x_6 hv_2 fun hv_6 => gAgg q 16 hv_6 fun x_7 => some (.tuple ⟨[.agg ⟨x_7⟩, .slice caught caughtn caughtc, .int .i64 x_1]⟩, hv_6)))
      (run F_sig_Deliver 2002 [.pointer (some p), .pointer (some q), .slice caught caughtn caughtc] hv_2)))))
  | _ => none
noncomputable def LB_sig_Deliver_L1 : Lab := ⟨F_sig_Deliver, 2002, T_sig_Deliver_L1, [1, 2, 3], X_sig_Deliver_L1⟩
noncomputable def X_proc_Exit : XPoly := fun G _ call run a h => match a with
  | [.pointer c, .int .i64 i, .int .i64 code] =>
  nw (.cells Y_api_Ret false [.int .i64 0, .int .i64 0, .slice none 0 0, .bool false]) h fun b hv => bnd (call F_proc_Self [.pointer c, .int .i64 i] hv) fun r hv_1 => as2 r fun r_1 r_2 => aAgg r_1 fun x => aInt .i64 r_2 fun x_1 => nw (.cells Y_api_Proc false [.int .i64 0, .int .i64 0, .int .i64 0, .int .i64 0, .int .i64 0, .int .i64 0, .int .i64 0, .int .i64 0, .int .i64 0, .int .i64 0, .int .i64 0, .int .i64 0, .int .i64 0, .int .i64 0, .int .i64 0, .int .i64 0]) hv_1 fun b_1 hv_2 => ck (List.length x = 16) (pAgg ⟨b_1, 0, none⟩ x hv_2 fun hv_3 => cond (ineF x_1 0)
      (bnd (call F_proc_told [.int .i64 x_1] hv_3) fun r_3 hv_4 => aAgg r_3 fun x_2 => ck (List.length x_2 = 4) (pAgg ⟨b, 0, none⟩ x_2 hv_4 fun hv_5 => gAgg ⟨b, 0, none⟩ 4 hv_5 fun x_3 => some (.agg ⟨x_3⟩, hv_5)))
      (bnd (call F_proc_CloseAll [.pointer c, .int .i64 i] hv_3) fun r_4 hv_6 => as0 r_4 (bnd (call F_proc_orphan [.pointer c, .int .i64 i] hv_6) fun r_5 hv_7 => as0 r_5 (bnd (call F_commons_Commons_Proc [.pointer c, .int .i64 i] hv_7) fun r_6 hv_8 => as2 r_6 fun r_7 r_8 => aAgg r_7 fun x_4 => aInt .i64 r_8 fun x_5 => nw (.cells Y_api_Proc false [.int .i64 0, .int .i64 0, .int .i64 0, .int .i64 0, .int .i64 0, .int .i64 0, .int .i64 0, .int .i64 0, .int .i64 0, .int .i64 0, .int .i64 0, .int .i64 0, .int .i64 0, .int .i64 0, .int .i64 0, .int .i64 0]) hv_8 fun b_2 hv_9 => ck (List.length x_4 = 16) (pAgg ⟨b_2, 0, none⟩ x_4 hv_9 fun hv_10 => cond (ineF x_5 1)
      (bnd (call F_proc_told [.int .i64 105] hv_10) fun r_9 hv_11 => aAgg r_9 fun x_6 => ck (List.length x_6 = 4) (pAgg ⟨b, 0, none⟩ x_6 hv_11 fun hv_12 => gAgg ⟨b, 0, none⟩ 4 hv_12 fun x_7 => some (.agg ⟨x_7⟩, hv_12)))
      (gInt .i64 (Addr.add ⟨b_2, 0, none⟩ 1) hv_10 fun x_8 => cond (iltF 0 x_8)
      (gInt .i64 (Addr.add ⟨b_2, 0, none⟩ 1) hv_10 fun x_9 => bnd (call F_commons_Commons_Proc [.pointer c, .int .i64 (wrapF .i64 (x_9 - 1))] hv_10) fun r_10 hv_13 => as2 r_10 fun r_11 r_12 => aAgg r_11 fun x_10 => aInt .i64 r_12 fun x_11 => nw (.cells Y_api_Proc false [.int .i64 0, .int .i64 0, .int .i64 0, .int .i64 0, .int .i64 0, .int .i64 0, .int .i64 0, .int .i64 0, .int .i64 0, .int .i64 0, .int .i64 0, .int .i64 0, .int .i64 0, .int .i64 0, .int .i64 0, .int .i64 0]) hv_13 fun b_3 hv_14 => ck (List.length x_10 = 16) (pAgg ⟨b_3, 0, none⟩ x_10 hv_14 fun hv_15 => bnd (cond (ieqF x_11 1) (gInt .i64 (Addr.add ⟨b_3, 0, none⟩ 0) hv_15 fun x_12 => some (ineF x_12 2, hv_15)) (some (false, hv_15))) fun c_1 hv_16 => cond c_1
      (pV (Addr.add ⟨b_2, 0, none⟩ 0) (.int .i64 2) hv_16 fun hv_17 => pV (Addr.add ⟨b_2, 0, none⟩ 3) (.int .i64 (Int.tmod (wrapF .i64 ((Int.tmod code 256) + 256)) 256)) hv_17 fun hv_18 => pV (Addr.add ⟨b_2, 0, none⟩ 4) (.int .i64 0) hv_18 fun hv_19 => pAgg (Addr.add ⟨b_2, 0, none⟩ 8) [.int .i64 0, .int .i64 0, .int .i64 0, .int .i64 0, .int .i64 0, .int .i64 0, .int .i64 0, .int .i64 0] hv_19 fun hv_20 => gAgg ⟨b_2, 0, none⟩ 16 hv_20 fun x_13 => bnd (call F_commons_Commons_SetProc [.pointer c, .int .i64 i, .agg ⟨x_13⟩] hv_20) fun r_13 hv_21 => aBool r_13 fun x_14 => bnd (call F_proc_done [.bool x_14, .int .i64 0] hv_21) fun r_14 hv_22 => aAgg r_14 fun x_15 => ck (List.length x_15 = 4) (pAgg ⟨b, 0, none⟩ x_15 hv_22 fun hv_23 => gAgg ⟨b, 0, none⟩ 4 hv_23 fun x_16 => some (.agg ⟨x_16⟩, hv_23)))
      (bnd (call F_commons_Commons_FreeProc [.pointer c, .int .i64 i] hv_16) fun r_15 hv_24 => aBool r_15 fun x_17 => bnd (call F_proc_done [.bool x_17, .int .i64 0] hv_24) fun r_16 hv_25 => aAgg r_16 fun x_18 => ck (List.length x_18 = 4) (pAgg ⟨b, 0, none⟩ x_18 hv_25 fun hv_26 => gAgg ⟨b, 0, none⟩ 4 hv_26 fun x_19 => some (.agg ⟨x_19⟩, hv_26)))))
      (bnd (call F_commons_Commons_FreeProc [.pointer c, .int .i64 i] hv_10) fun r_17 hv_27 => aBool r_17 fun x_20 => bnd (call F_proc_done [.bool x_20, .int .i64 0] hv_27) fun r_18 hv_28 => aAgg r_18 fun x_21 => ck (List.length x_21 = 4) (pAgg ⟨b, 0, none⟩ x_21 hv_28 fun hv_29 => gAgg ⟨b, 0, none⟩ 4 hv_29 fun x_22 => some (.agg ⟨x_22⟩, hv_29)))))))))
  | _ => none
noncomputable def X_commons_record_api_File : XPoly := fun G _ call run a h => match a with
  | [.pointer c, .agg ⟨r⟩, decode] =>
  nw (.cells Y_api_Rec false r) h fun b hv => nw (.cells Y_api_File false [.int .i64 0, .int .i64 0, .int .i64 0, .int .i64 0]) hv fun b_1 hv_1 => nw (.cells Y_api_File false [.int .i64 0, .int .i64 0, .int .i64 0, .int .i64 0]) hv_1 fun b_2 hv_2 => gAgg ⟨b, 0, none⟩ 2 hv_2 fun x => bnd (call F_commons_Commons_read [.pointer c, .agg ⟨x⟩] hv_2) fun r_1 hv_3 => as2 r_1 fun r_2 r_3 => aSl r_2 fun x_1 xn xc => aBool r_3 fun x_2 => cond (!x_2)
      (gAgg ⟨b_2, 0, none⟩ 4 hv_3 fun x_3 => ck (List.length x_3 = 4) (pAgg ⟨b_1, 0, none⟩ x_3 hv_3 fun hv_4 => gAgg ⟨b_1, 0, none⟩ 4 hv_4 fun x_4 => some (.tuple ⟨[.agg ⟨x_4⟩, .int .i64 2]⟩, hv_4)))
      (aFn decode fun g fi cp => bnd (call g (fi ++ ([.slice x_1 xn xc] ++ cp)) hv_3) fun r_4 hv_5 => as2 r_4 fun r_5 r_6 => aAgg r_5 fun x_5 => aInt .i64 r_6 fun x_6 => nw (.cells Y_api_File false [.int .i64 0, .int .i64 0, .int .i64 0, .int .i64 0]) hv_5 fun b_3 hv_6 => ck (List.length x_5 = 4) (pAgg ⟨b_3, 0, none⟩ x_5 hv_6 fun hv_7 => cond (ieqF x_6 2)
      (aSome c fun p => gMap (Addr.add p 3) hv_7 fun x_7 => gAgg ⟨b, 0, none⟩ 2 hv_7 fun x_8 => keyN PR Y_api_Rec (.agg ⟨x_8⟩) (opt x_7 fun r_7 => mapAt hv_7 r_7 fun es _ => opt (lookM (.int .i64 0) (.agg ⟨x_8⟩) es) fun f => aInt .i64 f.1 fun x_9 => keyN PR Y_api_Rec (.agg ⟨x_8⟩) (opt x_7 fun r_8 => mapAt hv_7 r_8 fun es_1 cl_1 => opt (entM (.int .i64 0) (.agg ⟨x_8⟩) es_1 cl_1) fun f_1 => aInt .i64 f_1.1 fun _ => lt (hset hv_7 r_8 f_1.2.2) fun hv_8 => keyN PR Y_api_Rec (.agg ⟨x_8⟩) (opt x_7 fun r_9 => mapAt hv_8 r_9 fun es_2 _ => opt (lookM (.int .i64 0) (.agg ⟨x_8⟩) es_2) fun f_2 => aInt .i64 f_2.1 fun x_11 => same (.int .i64 x_9) (.int .i64 x_11) (opt x_7 fun r_10 => mapAt hv_8 r_10 fun es_3 cl_3 => opt (bornN (f_1.2.1 : Int) es_3 0) fun i => lt (hset hv_8 r_10 (.map (modN (fun e => { e with val := .int .i64 (wrapF .i64 (x_9 + 1)) }) i es_3) cl_3)) fun hv_9 => run F_commons_record_api_File 3017 [.pointer (some ⟨b_1, 0, none⟩), .pointer (some ⟨b_2, 0, none⟩), .pointer (some ⟨b_3, 0, none⟩), .int .i64 x_6] hv_9)))))
      (run F_commons_record_api_File 3017 [.pointer (some ⟨b_1, 0, none⟩), .pointer (some ⟨b_2, 0, none⟩), .pointer (some ⟨b_3, 0, none⟩), .int .i64 x_6] hv_7)))
  | _ => none
noncomputable def X_commons_record_api_File_R1 : XPoly := fun G _ call run a h => match a with
  | [.pointer (some x6), .pointer (some nonev), .pointer (some v), .int .i64 isv] =>
  cond (ineF isv 1)
      (gAgg nonev 4 h fun x => ck (List.length x = 4) (pAgg x6 x h fun hv => gAgg x6 4 hv fun x_1 => some (.tuple ⟨[.agg ⟨x_1⟩, .int .i64 isv]⟩, hv)))
      (gAgg v 4 h fun x_2 => ck (List.length x_2 = 4) (pAgg x6 x_2 h fun hv_1 => gAgg x6 4 hv_1 fun x_3 => some (.tuple ⟨[.agg ⟨x_3⟩, .int .i64 isv]⟩, hv_1)))
  | _ => none
noncomputable def LB_commons_record_api_File_R1 : Lab := ⟨F_commons_record_api_File, 3017, T_commons_record_api_File_R1, [6, 8, 11, 12], X_commons_record_api_File_R1⟩
noncomputable def X_commons_record_int : XPoly := fun G _ call run a h => match a with
  | [.pointer c, .agg ⟨r⟩, decode] =>
  nw (.cells Y_api_Rec false r) h fun b hv => gAgg ⟨b, 0, none⟩ 2 hv fun x => bnd (call F_commons_Commons_read [.pointer c, .agg ⟨x⟩] hv) fun r_1 hv_1 => as2 r_1 fun r_2 r_3 => aSl r_2 fun x_1 xn xc => aBool r_3 fun x_2 => cond (!x_2)
      (some (.tuple ⟨[.int .i64 0, .int .i64 2]⟩, hv_1))
      (aFn decode fun g fi cp => bnd (call g (fi ++ ([.slice x_1 xn xc] ++ cp)) hv_1) fun r_4 hv_2 => as2 r_4 fun r_5 r_6 => aInt .i64 r_5 fun x_3 => aInt .i64 r_6 fun x_4 => cond (ieqF x_4 2)
      (aSome c fun p => gMap (Addr.add p 3) hv_2 fun x_5 => gAgg ⟨b, 0, none⟩ 2 hv_2 fun x_6 => keyN PR Y_api_Rec (.agg ⟨x_6⟩) (opt x_5 fun r_7 => mapAt hv_2 r_7 fun es _ => opt (lookM (.int .i64 0) (.agg ⟨x_6⟩) es) fun f => aInt .i64 f.1 fun x_7 => keyN PR Y_api_Rec (.agg ⟨x_6⟩) (opt x_5 fun r_8 => mapAt hv_2 r_8 fun es_1 cl_1 => opt (entM (.int .i64 0) (.agg ⟨x_6⟩) es_1 cl_1) fun f_1 => aInt .i64 f_1.1 fun _ => lt (hset hv_2 r_8 f_1.2.2) fun hv_3 => keyN PR Y_api_Rec (.agg ⟨x_6⟩) (opt x_5 fun r_9 => mapAt hv_3 r_9 fun es_2 _ => opt (lookM (.int .i64 0) (.agg ⟨x_6⟩) es_2) fun f_2 => aInt .i64 f_2.1 fun x_9 => same (.int .i64 x_7) (.int .i64 x_9) (opt x_5 fun r_10 => mapAt hv_3 r_10 fun es_3 cl_3 => opt (bornN (f_1.2.1 : Int) es_3 0) fun i => lt (hset hv_3 r_10 (.map (modN (fun e => { e with val := .int .i64 (wrapF .i64 (x_7 + 1)) }) i es_3) cl_3)) fun hv_4 => run F_commons_record_int 3017 [.int .i64 0, .int .i64 x_3, .int .i64 x_4] hv_4)))))
      (run F_commons_record_int 3017 [.int .i64 0, .int .i64 x_3, .int .i64 x_4] hv_2))
  | _ => none
noncomputable def X_commons_record_int_R1 : XPoly := fun G _ call run a h => match a with
  | [.int .i64 nonev, .int .i64 v, .int .i64 isv] =>
  cond (ineF isv 1)
      (some (.tuple ⟨[.int .i64 nonev, .int .i64 isv]⟩, h))
      (some (.tuple ⟨[.int .i64 v, .int .i64 isv]⟩, h))
  | _ => none
noncomputable def LB_commons_record_int_R1 : Lab := ⟨F_commons_record_int, 3017, T_commons_record_int_R1, [8, 11, 12], X_commons_record_int_R1⟩
noncomputable def X_commons_FrontOf : XPoly := fun G _ call run a h => match a with
  | [.slice b bn bc] =>
  cond (ineF ((bn : Nat) : Int) 4)
      (some (.tuple ⟨[.int .i64 0, .int .i64 2]⟩, h))
      (aSome b fun p => ckRF 0 bn (gInt .u8 (Addr.add (bare p) (Int.toNat 0 * 1)) h fun x => bnd (call F_commons_FrontBytes [.int .i64 (wrapF .i64 (x))] h) fun r hv => as2 r fun r_1 r_2 => aSl r_1 fun x_1 xn _ => aBool r_2 fun x_2 => bnd (cond (!x_2) (some (true, hv)) (gCells x_1 xn hv fun cs => asBytes cs fun l => gCells b bn hv fun cs_1 => asBytes cs_1 fun l_1 => some (!((ByteArray.mk ⟨l⟩).toList == (ByteArray.mk ⟨l_1⟩).toList), hv))) fun c hv_1 => cond c
      (some (.tuple ⟨[.int .i64 0, .int .i64 2]⟩, hv_1))
      (aSome b fun p_1 => ckRF 0 bn (gInt .u8 (Addr.add (bare p_1) (Int.toNat 0 * 1)) hv_1 fun x_3 => some (.tuple ⟨[.int .i64 (wrapF .i64 (x_3)), .int .i64 1]⟩, hv_1)))))
  | _ => none
noncomputable def X_region_Regions_place : XPoly := fun G _ call run a h => match a with
  | [.pointer r, .int .i64 env, .int .i64 name, .int .i64 right, .int .i64 atv, .int .i64 n] =>
  aSome r fun p => gPtr (Addr.add p 1) h fun x => bnd (call F_caps_Space_Get [.pointer x, .int .i64 env, .int .i64 name] h) fun r_1 hv => as2 r_1 fun r_2 r_3 => aAgg r_2 fun x_1 => aInt .i64 r_3 fun x_2 => nw (.cells Y_api_Cap false [.int .i64 0, .int .i64 0, .int .i64 0, .int .i64 0, .int .i64 0, .int .i64 0]) hv fun b hv_1 => ck (List.length x_1 = 6) (pAgg ⟨b, 0, none⟩ x_1 hv_1 fun hv_2 => cond (ineF x_2 0)
      (some (.tuple ⟨[.int .i64 0, .int .i64 x_2]⟩, hv_2))
      (gInt .i64 (Addr.add ⟨b, 0, none⟩ 1) hv_2 fun x_3 => cond (ieqF (bitAF .i64 x_3 right) 0)
      (some (.tuple ⟨[.int .i64 0, .int .i64 3]⟩, hv_2))
      (bnd (cond (iltF atv 0) (some (true, hv_2)) (some (iltF n 0, hv_2))) fun c hv_3 => bnd (cond c (some (true, hv_3)) (gInt .i64 (Addr.add ⟨b, 0, none⟩ 3) hv_3 fun x_4 => some (iltF x_4 atv, hv_3))) fun c_1 hv_4 => bnd (cond c_1 (some (true, hv_4)) (gInt .i64 (Addr.add ⟨b, 0, none⟩ 3) hv_4 fun x_5 => some (iltF (wrapF .i64 (x_5 - atv)) n, hv_4))) fun c_2 hv_5 => bnd (cond c_2 (some (true, hv_5)) (gInt .i64 (Addr.add ⟨b, 0, none⟩ 0) hv_5 fun x_6 => some (iltF x_6 0, hv_5))) fun c_3 hv_6 => bnd (cond c_3 (some (true, hv_6)) (gInt .i64 (Addr.add ⟨b, 0, none⟩ 0) hv_6 fun x_7 => aSome r fun p_1 => gSl (Addr.add p_1 2) hv_6 fun _ xn _ => some (ileF ((xn : Nat) : Int) x_7, hv_6))) fun c_4 hv_7 => cond c_4
      (some (.tuple ⟨[.int .i64 0, .int .i64 1]⟩, hv_7))
      (aSome r fun p_2 => gSl (Addr.add p_2 2) hv_7 fun x_9 xn_1 _ => gInt .i64 (Addr.add ⟨b, 0, none⟩ 0) hv_7 fun x_10 => aSome x_9 fun p_3 => ckRF x_10 xn_1 (gAgg (Addr.add (bare p_3) (Int.toNat x_10 * 2)) 2 hv_7 fun x_11 => nw (.cells Y_region_span false [.int .i64 0, .int .i64 0]) hv_7 fun b_1 hv_8 => ck (List.length x_11 = 2) (pAgg ⟨b_1, 0, none⟩ x_11 hv_8 fun hv_9 => gInt .i64 (Addr.add ⟨b, 0, none⟩ 2) hv_9 fun x_12 => gInt .i64 (Addr.add ⟨b_1, 0, none⟩ 1) hv_9 fun x_13 => bnd (cond (iltF x_13 (wrapF .i64 (x_12 + atv))) (some (true, hv_9)) (gInt .i64 (Addr.add ⟨b_1, 0, none⟩ 1) hv_9 fun x_14 => gInt .i64 (Addr.add ⟨b, 0, none⟩ 2) hv_9 fun x_15 => some (iltF (wrapF .i64 ((wrapF .i64 (x_14 - x_15)) - atv)) n, hv_9))) fun c_5 hv_10 => cond c_5
      (some (.tuple ⟨[.int .i64 0, .int .i64 1]⟩, hv_10))
      (gInt .i64 (Addr.add ⟨b_1, 0, none⟩ 0) hv_10 fun x_16 => gInt .i64 (Addr.add ⟨b, 0, none⟩ 2) hv_10 fun x_17 => some (.tuple ⟨[.int .i64 (wrapF .i64 ((wrapF .i64 (x_16 + x_17)) + atv)), .int .i64 0]⟩, hv_10))))))))
  | _ => none
noncomputable def X_caps_Space_Get : XPoly := fun G _ call run a h => match a with
  | [.pointer s, .int .i64 env, .int .i64 name] =>
  nw (.cells Y_api_Cap false [.int .i64 0, .int .i64 0, .int .i64 0, .int .i64 0, .int .i64 0, .int .i64 0]) h fun b hv => bnd (call F_caps_Space_is [.pointer s, .int .i64 env] hv) fun r hv_1 => aBool r fun x => cond (!x)
      (pAgg ⟨b, 0, none⟩ [.int .i64 0, .int .i64 0, .int .i64 0, .int .i64 0, .int .i64 0, .int .i64 0] hv_1 fun hv_2 => gAgg ⟨b, 0, none⟩ 6 hv_2 fun x_1 => some (.tuple ⟨[.agg ⟨x_1⟩, .int .i64 2]⟩, hv_2))
      (aSome s fun p => gSl (Addr.add p 0) hv_1 fun x_2 xn _ => aSome x_2 fun p_1 => ckRF env xn (gPtr (Addr.add (bare p_1) (Int.toNat env * 1)) hv_1 fun x_3 => bnd (call F_table_Table_api_Cap_Get [.pointer x_3, .int .i64 name] hv_1) fun r_1 hv_3 => as2 r_1 fun r_2 r_3 => aAgg r_2 fun x_4 => aBool r_3 fun x_5 => nw (.cells Y_api_Cap false [.int .i64 0, .int .i64 0, .int .i64 0, .int .i64 0, .int .i64 0, .int .i64 0]) hv_3 fun b_1 hv_4 => ck (List.length x_4 = 6) (pAgg ⟨b_1, 0, none⟩ x_4 hv_4 fun hv_5 => cond (!x_5)
      (pAgg ⟨b, 0, none⟩ [.int .i64 0, .int .i64 0, .int .i64 0, .int .i64 0, .int .i64 0, .int .i64 0] hv_5 fun hv_6 => gAgg ⟨b, 0, none⟩ 6 hv_6 fun x_6 => some (.tuple ⟨[.agg ⟨x_6⟩, .int .i64 2]⟩, hv_6))
      (gAgg ⟨b_1, 0, none⟩ 6 hv_5 fun x_7 => ck (List.length x_7 = 6) (pAgg ⟨b, 0, none⟩ x_7 hv_5 fun hv_7 => gAgg ⟨b, 0, none⟩ 6 hv_7 fun x_8 => some (.tuple ⟨[.agg ⟨x_8⟩, .int .i64 0]⟩, hv_7))))))
  | _ => none
noncomputable def X_sect_Sect_Enter : XPoly := fun G _ call run a h => match a with
  | [.pointer s, .int .i64 who, .int .i64 now] =>
  aSome s fun p => gInt .i64 (Addr.add p 7) h fun x => bnd (cond (iltF who 0) (some (true, h)) (some (iltF 99 who, h))) fun c hv => cond c
      (some (.tuple ⟨[.int .i64 0, .bool false]⟩, hv))
      (aSome s fun p_1 => pV (Addr.add p_1 7) (.int .i64 (mm2 true now x)) hv fun hv_1 => aSome s fun p_2 => gBool (Addr.add p_2 1) hv_1 fun x_1 => bnd (cond x_1 (aSome s fun p_3 => gInt .i64 (Addr.add p_3 2) hv_1 fun x_2 => some (ieqF x_2 who, hv_1)) (some (false, hv_1))) fun c_1 hv_2 => cond c_1
      (aSome s fun p_4 => gInt .i64 (Addr.add p_4 3) hv_2 fun x_3 => some (.tuple ⟨[.int .i64 x_3, .bool true]⟩, hv_2))
      (aSome s fun p_5 => gSl (Addr.add p_5 5) hv_2 fun x_4 xn xc => bnd (call F_slices_Contains_s_int_int [.slice x_4 xn xc, .int .i64 who] hv_2) fun r hv_3 => aBool r fun x_5 => cond (!x_5)
      (aSome s fun p_6 => gSl (Addr.add p_6 5) hv_3 fun _ xn_1 _ => cond (ieqF ((xn_1 : Nat) : Int) 0)
      (aSome s fun p_7 => pV (Addr.add p_7 6) (.int .i64 (mm2 true now x)) hv_3 fun hv_4 => run F_sect_Sect_Enter 2021 [.pointer s, .int .i64 who, .int .i64 (mm2 true now x)] hv_4)
      (run F_sect_Sect_Enter 2021 [.pointer s, .int .i64 who, .int .i64 (mm2 true now x)] hv_3))
      (run F_sect_Sect_Enter 3023 [.pointer s, .int .i64 who, .int .i64 (mm2 true now x)] hv_3)))
  | _ => none
noncomputable def X_sect_Sect_Enter_R1 : XPoly := fun G _ call run a h => match a with
  | [.pointer s, .int .i64 who, .int .i64 now] =>
  aSome s fun p => gSl (Addr.add p 5) h fun x xn xc => nw (.cells Y_int false [.int .i64 who]) h fun b hv => gCells (some ⟨b, 0, none⟩) (1 * 1) hv fun cs => ckB (fitsOpen x Y_int hv) (apd Y_int 1 x xn xc 1 cs hv fun a an ac hv_1 => aSome s fun p_1 => pV (Addr.add p_1 5) (.slice a an ac) hv_1 fun hv_2 => run F_sect_Sect_Enter 3023 [.pointer s, .int .i64 who, .int .i64 now] hv_2)
  | _ => none
noncomputable def LB_sect_Sect_Enter_R1 : Lab := ⟨F_sect_Sect_Enter, 2021, T_sect_Sect_Enter_R1, [0, 1, 2], X_sect_Sect_Enter_R1⟩
noncomputable def X_sect_Sect_Enter_R2 : XPoly := fun G _ call run a h => match a with
  | [.pointer s, .int .i64 who, .int .i64 now] =>
  aSome s fun p => gBool (Addr.add p 1) h fun x => bnd (cond x (aSome s fun p_1 => gInt .i64 (Addr.add p_1 4) h fun x_1 => aSome s fun p_2 => gInt .i64 (Addr.add p_2 0) h fun x_2 => some (ileF x_2 (wrapF .i64 (now - x_1)), h)) (some (false, h))) fun c hv => cond c
      (aSome s fun p_3 => pV (Addr.add p_3 1) (.bool false) hv fun hv_1 => aSome s fun p_4 => pV (Addr.add p_4 6) (.int .i64 now) hv_1 fun hv_2 => run F_sect_Sect_Enter 3029 [.pointer s, .int .i64 who, .int .i64 now] hv_2)
      (run F_sect_Sect_Enter 3029 [.pointer s, .int .i64 who, .int .i64 now] hv)
  | _ => none
noncomputable def LB_sect_Sect_Enter_R2 : Lab := ⟨F_sect_Sect_Enter, 3023, T_sect_Sect_Enter_R2, [0, 1, 2], X_sect_Sect_Enter_R2⟩
noncomputable def X_sect_Sect_Enter_R3 : XPoly := fun G _ call run a h => match a with
  | [.pointer s, .int .i64 who, .int .i64 now] =>
  aSome s fun p => gBool (Addr.add p 1) h fun x => cond x
      (aSome s fun p_1 => gSl (Addr.add p_1 5) h fun x_1 xn _ => aSome x_1 fun p_2 => ckRF 0 xn (gInt .i64 (Addr.add (bare p_2) (Int.toNat 0 * 1)) h fun x_2 => cond (ieqF x_2 who)
      (aSome s fun p_3 => pV (Addr.add p_3 6) (.int .i64 now) h fun hv => run F_sect_Sect_Enter 3035 [] hv)
      (run F_sect_Sect_Enter 3035 [] h)))
      (run F_sect_Sect_Enter 3036 [.pointer s, .int .i64 who, .int .i64 now] h)
  | _ => none
noncomputable def LB_sect_Sect_Enter_R3 : Lab := ⟨F_sect_Sect_Enter, 3029, T_sect_Sect_Enter_R3, [0, 1, 2], X_sect_Sect_Enter_R3⟩
noncomputable def X_sect_Sect_Enter_R4 : XPoly := fun G _ call run a h => match a with
  | [] =>
  some (.tuple ⟨[.int .i64 0, .bool false]⟩, h)
  | _ => none
noncomputable def LB_sect_Sect_Enter_R4 : Lab := ⟨F_sect_Sect_Enter, 3035, T_sect_Sect_Enter_R4, [], X_sect_Sect_Enter_R4⟩
noncomputable def X_sect_Sect_Enter_L1 : XPoly := fun G _ call run a h => match a with
  | [.pointer s, .int .i64 who, .int .i64 now] =>
  aSome s fun p => gSl (Addr.add p 5) h fun x xn _ => aSome x fun p_1 => ckRF 0 xn (gInt .i64 (Addr.add (bare p_1) (Int.toNat 0 * 1)) h fun x_1 => bnd (cond (ineF x_1 who) (aSome s fun p_2 => gInt .i64 (Addr.add p_2 6) h fun x_2 => aSome s fun p_3 => gInt .i64 (Addr.add p_3 0) h fun x_3 => some (ileF x_3 (wrapF .i64 (now - x_2)), h)) (some (false, h))) fun c hv => cond c
      (aSome s fun p_4 => gSl (Addr.add p_4 5) hv fun x_4 xn_1 xc_1 => ckB (fitsOpen x_4 Y_int hv) (ckLF 1 xn_1 (aSome s fun p_5 => pV (Addr.add p_5 5) (.slice (moved x_4 (decide (Int.toNat 1 < xc_1)) ((Int.toNat 1) * 1)) (xn_1 - (Int.toNat 1)) (xc_1 - (Int.toNat 1))) hv fun hv_1 => aSome s fun p_6 => pV (Addr.add p_6 6) (.int .i64 now) hv_1 fun hv_2 => run F_sect_Sect_Enter 3036 [.pointer s, .int .i64 who, .int .i64 now] hv_2)))
      (aSome s fun p_7 => gSl (Addr.add p_7 5) hv fun x_5 xn_2 _ => aSome x_5 fun p_8 => ckRF 0 xn_2 (gInt .i64 (Addr.add (bare p_8) (Int.toNat 0 * 1)) hv fun x_6 => cond (ineF x_6 who)
      (some (.tuple ⟨[.int .i64 0, .bool false]⟩, hv))
      (aSome s fun p_9 => gSl (Addr.add p_9 5) hv fun x_7 xn_3 xc_3 => ckB (fitsOpen x_7 Y_int hv) (ckLF 1 xn_3 (aSome s fun p_10 => pV (Addr.add p_10 5) (.slice (moved x_7 (decide (Int.toNat 1 < xc_3)) ((Int.toNat 1) * 1)) (xn_3 - (Int.toNat 1)) (xc_3 - (Int.toNat 1))) hv fun hv_3 => aSome s fun p_11 => pV (Addr.add p_11 6) (.int .i64 now) hv_3 fun hv_4 => aSome s fun p_12 => gInt .i64 (Addr.add p_12 8) hv_4 fun x_8 => aSome s fun p_13 => pV (Addr.add p_13 8) (.int .i64 (wrapF .i64 (x_8 + 1))) hv_4 fun hv_5 => aSome s fun p_14 => gInt .i64 (Addr.add p_14 8) hv_5 fun x_9 => aSome s fun p_15 => pV (Addr.add p_15 1) (.bool true) hv_5 fun hv_6 => aSome s fun p_16 => pV (Addr.add p_16 2) (.int .i64 who) hv_6 fun hv_7 => aSome s fun p_17 => pV (Addr.add p_17 3) (.int .i64 x_9) hv_7 fun hv_8 => aSome s fun p_18 => pV (Addr.add p_18 4) (.int .i64 now) hv_8 fun hv_9 => aSome s fun p_19 => gInt .i64 (Addr.add p_19 3) hv_9 fun x_10 => some (.tuple ⟨[.int .i64 x_10, .bool true]⟩, hv_9)))))))
  | _ => none
noncomputable def LB_sect_Sect_Enter_L1 : Lab := ⟨F_sect_Sect_Enter, 3036, T_sect_Sect_Enter_L1, [0, 1, 2], X_sect_Sect_Enter_L1⟩
noncomputable def X_table_Table_api_Cap_name : XPoly := fun G _ call run a h => match a with
  | [.pointer t, .int .i64 i] =>
  aSome t fun p => gSl (Addr.add p 0) h fun x xn _ => aSome x fun p_1 => ckRF i xn (gInt .i64 (Addr.add (Addr.add (bare p_1) (Int.toNat i * 8)) 6) h fun x_1 => some (.int .i64 (wrapF .i64 (i + (wrapF .i64 (256 * x_1)))), h))
  | _ => none
noncomputable def X_ofile_put : XPoly := fun G _ call run a h => match a with
  | [.agg ⟨f⟩, .slice b bn bc] =>
  nw (.cells Y_api_File false f) h fun b_1 hv => gAgg ⟨b_1, 0, none⟩ 4 hv fun x => bnd (call F_ofile_Ok [.agg ⟨x⟩] hv) fun r hv_1 => aBool r fun x_1 => cond (!x_1)
      (some (.bool false, hv_1))
      (gInt .i64 (Addr.add ⟨b_1, 0, none⟩ 0) hv_1 fun x_2 => gInt .i64 (Addr.add ⟨b_1, 0, none⟩ 1) hv_1 fun x_3 => gInt .i64 (Addr.add ⟨b_1, 0, none⟩ 2) hv_1 fun x_4 => gInt .i64 (Addr.add ⟨b_1, 0, none⟩ 3) hv_1 fun x_5 => nw (.cells Y_uint8 false [.int .u8 (wrapF .u8 (x_2)), .int .u8 (wrapF .u8 (x_3)), .int .u8 (wrapF .u8 (x_4)), .int .u8 (wrapF .u8 (x_5)), .int .u8 179]) hv_1 fun b_2 hv_2 => gCells (some ⟨b_2, 0, none⟩) (min 5 bn * 1) hv_2 fun cs => pCells b cs hv_2 fun hv_3 => ckB (fitsOpen b Y_uint8 hv_3) (ckLF 5 bc (bnd (call F_codec_Sum [.slice (moved b (decide (0 < bc)) (0 * 1)) ((Int.toNat 5) - 0) (bc - 0)] hv_3) fun r_1 hv_4 => aInt .u8 r_1 fun x_6 => aSome b fun p => ckRF 5 bn (pV (Addr.add (bare p) (Int.toNat 5 * 1)) (.int .u8 x_6) hv_4 fun hv_5 => some (.bool true, hv_5)))))
  | _ => none
noncomputable def X_codec_New_api_Proc : XPoly := fun G _ call run a h => match a with
  | [.int .i64 size, put, get] =>
  one put (one get (nw (.cells Y_codec_Codec_api_Proc false [.int .i64 (mm2 false (mm2 true size 0) 64), put, get]) h fun b hv => some (.pointer (some ⟨b, 0, none⟩), hv)))
  | _ => none
noncomputable def X_pslot_put : XPoly := fun G _ call run a h => match a with
  | [.agg ⟨p⟩, .slice b bn bc] =>
  nw (.cells Y_api_Proc false p) h fun b_1 hv => gAgg ⟨b_1, 0, none⟩ 16 hv fun x => bnd (call F_pslot_Ok [.agg ⟨x⟩] hv) fun r hv_1 => aBool r fun x_1 => cond (!x_1)
      (some (.bool false, hv_1))
      (gInt .i64 (Addr.add ⟨b_1, 0, none⟩ 0) hv_1 fun x_2 => gInt .i64 (Addr.add ⟨b_1, 0, none⟩ 1) hv_1 fun x_3 => gInt .i64 (Addr.add ⟨b_1, 0, none⟩ 2) hv_1 fun x_4 => gInt .i64 (Addr.add ⟨b_1, 0, none⟩ 3) hv_1 fun x_5 => nw (.cells Y_int false [.int .i64 x_2, .int .i64 x_3, .int .i64 x_4, .int .i64 x_5]) hv_1 fun b_2 hv_2 => run F_pslot_put 3008 [.slice b bn bc, .pointer (some ⟨b_1, 0, none⟩), .slice (some ⟨b_2, 0, none⟩) 4 4, .int .i64 4, .int .i64 0] hv_2)
  | _ => none
noncomputable def X_pslot_put_L1 : XPoly := fun G _ call run a h => match a with
  | [.slice b bn bc, .pointer (some p), .slice x22 x22n x22c, .int .i64 x23, .int .i64 x24] =>
  cond (iltF x24 x23)
      (aSome x22 fun p_1 => ckRF x24 x22n (gInt .i64 (Addr.add (bare p_1) (Int.toNat x24 * 1)) h fun x => aSome b fun p_2 => ckRF x24 bn (pV (Addr.add (bare p_2) (Int.toNat x24 * 1)) (.int .u8 (wrapF .u8 (x))) h fun hv => run F_pslot_put 3008 [.slice b bn bc, .pointer (some p), .slice x22 x22n x22c, .int .i64 x23, .int .i64 (wrapF .i64 (x24 + 1))] hv)))
      (gInt .i64 (Addr.add p 4) h fun x_1 => gInt .i64 (Addr.add p 5) h fun x_2 => gInt .i64 (Addr.add p 6) h fun x_3 => gInt .i64 (Addr.add p 7) h fun x_4 => nw (.cells Y_int false [.int .i64 x_1, .int .i64 x_2, .int .i64 x_3, .int .i64 x_4]) h fun b_1 hv_1 => run F_pslot_put 3018 [.slice b bn bc, .pointer (some p), .slice (some ⟨b_1, 0, none⟩) 4 4, .int .i64 4, .int .i64 0] hv_1)
  | _ => none
noncomputable def LB_pslot_put_L1 : Lab := ⟨F_pslot_put, 3008, T_pslot_put_L1, [1, 2, 22, 23, 24], X_pslot_put_L1⟩
noncomputable def X_pslot_put_L2 : XPoly := fun G _ call run a h => match a with
  | [.slice b bn bc, .pointer (some p), .slice x43 x43n x43c, .int .i64 x44, .int .i64 x45] =>
  cond (iltF x45 x44)
      (aSome x43 fun p_1 => ckRF x45 x43n (gInt .i64 (Addr.add (bare p_1) (Int.toNat x45 * 1)) h fun x => bnd (call F_codec_Put2 [.slice b bn bc, .int .i64 (wrapF .i64 (4 + (wrapF .i64 (2 * x45)))), .int .i64 x] h) fun r hv => aBool r fun _ => run F_pslot_put 3018 [.slice b bn bc, .pointer (some p), .slice x43 x43n x43c, .int .i64 x44, .int .i64 (wrapF .i64 (x45 + 1))] hv))
      (gAgg (Addr.add p 8) 8 h fun x_2 => run F_pslot_put 3028 [.slice b bn bc, .agg ⟨x_2⟩, .int .i64 0] h)
  | _ => none
noncomputable def LB_pslot_put_L2 : Lab := ⟨F_pslot_put, 3018, T_pslot_put_L2, [1, 2, 43, 44, 45], X_pslot_put_L2⟩
noncomputable def X_pslot_put_L3 : XPoly := fun G _ call run a h => match a with
  | [.slice b bn bc, .agg ⟨x58⟩, .int .i64 x59] =>
  cond (iltF x59 8)
      (ckRF x59 8 (nth x58 (Int.toNat x59 * 1) fun x => aInt .i64 x fun x_1 => aSome b fun p => ckRF (wrapF .i64 (12 + x59)) bn (pV (Addr.add (bare p) (Int.toNat (wrapF .i64 (12 + x59)) * 1)) (.int .u8 (wrapF .u8 (x_1))) h fun hv => run F_pslot_put 3028 [.slice b bn bc, .agg ⟨x58⟩, .int .i64 (wrapF .i64 (x59 + 1))] hv)))
      (aSome b fun p_1 => ckRF 20 bn (pV (Addr.add (bare p_1) (Int.toNat 20 * 1)) (.int .u8 167) h fun hv_1 => ckB (fitsOpen b Y_uint8 hv_1) (ckLF 21 bc (bnd (call F_codec_Sum [.slice (moved b (decide (0 < bc)) (0 * 1)) ((Int.toNat 21) - 0) (bc - 0)] hv_1) fun r hv_2 => aInt .u8 r fun x_2 => aSome b fun p_2 => ckRF 21 bn (pV (Addr.add (bare p_2) (Int.toNat 21 * 1)) (.int .u8 x_2) hv_2 fun hv_3 => some (.bool true, hv_3))))))
  | _ => none
noncomputable def LB_pslot_put_L3 : Lab := ⟨F_pslot_put, 3028, T_pslot_put_L3, [1, 58, 59], X_pslot_put_L3⟩
noncomputable def X_proc_Wait : XPoly := fun G _ call run a h => match a with
  | [.pointer c, .int .i64 i] =>
  nw (.cells Y_int false [.int .i64 i]) h fun b hv => nw (.cells Y_api_Ret false [.int .i64 0, .int .i64 0, .slice none 0 0, .bool false]) hv fun b_1 hv_1 => gInt .i64 ⟨b, 0, none⟩ hv_1 fun x => bnd (call F_proc_Self [.pointer c, .int .i64 x] hv_1) fun r hv_2 => as2 r fun r_1 r_2 => aAgg r_1 fun x_1 => aInt .i64 r_2 fun x_2 => nw (.cells Y_api_Proc false [.int .i64 0, .int .i64 0, .int .i64 0, .int .i64 0, .int .i64 0, .int .i64 0, .int .i64 0, .int .i64 0, .int .i64 0, .int .i64 0, .int .i64 0, .int .i64 0, .int .i64 0, .int .i64 0, .int .i64 0, .int .i64 0]) hv_2 fun b_2 hv_3 => ck (List.length x_1 = 16) (pAgg ⟨b_2, 0, none⟩ x_1 hv_3 fun hv_4 => cond (ineF x_2 0)
      (bnd (call F_proc_told [.int .i64 x_2] hv_4) fun r_3 hv_5 => aAgg r_3 fun x_3 => ck (List.length x_3 = 4) (pAgg ⟨b_1, 0, none⟩ x_3 hv_5 fun hv_6 => gAgg ⟨b_1, 0, none⟩ 4 hv_6 fun x_4 => some (.agg ⟨x_4⟩, hv_6)))
      (bnd (call F_proc_slots [.pointer c, .func (.func F_proc_Wait_1) ⟨[]⟩ ⟨[.pointer (some ⟨b, 0, none⟩)]⟩] hv_4) fun r_4 hv_7 => aSl r_4 fun x_5 xn xc => run F_proc_Wait 3012 [.pointer c, .pointer (some ⟨b_1, 0, none⟩), .slice x_5 xn xc, .slice x_5 xn xc, .int .i64 ((xn : Nat) : Int), .int .i64 0] hv_7))
  | _ => none
noncomputable def X_proc_Wait_L1 : XPoly := fun G _ call run a h => match a with
  | [.pointer c, .pointer (some x4), .slice l ln lc, .slice x23 x23n x23c, .int .i64 x24, .int .i64 x25] =>
  cond (iltF x25 x24)
      (aSome x23 fun p => ckRF x25 x23n (gAgg (Addr.add (bare p) (Int.toNat x25 * 17)) 17 h fun x => nw (.cells Y_proc_slot false [.int .i64 0, .int .i64 0, .int .i64 0, .int .i64 0, .int .i64 0, .int .i64 0, .int .i64 0, .int .i64 0, .int .i64 0, .int .i64 0, .int .i64 0, .int .i64 0, .int .i64 0, .int .i64 0, .int .i64 0, .int .i64 0, .int .i64 0]) h fun b hv => ck (List.length x = 17) (pAgg ⟨b, 0, none⟩ x hv fun hv_1 => gAgg ⟨b, 0, none⟩ 17 hv_1 fun x_1 => bnd (call F_proc_slot_lives [.agg ⟨x_1⟩] hv_1) fun r hv_2 => aBool r fun x_2 => cond (!x_2)
      (gInt .i64 (Addr.add ⟨b, 0, none⟩ 0) hv_2 fun x_3 => gInt .i64 (Addr.add ⟨b, 0, none⟩ 0) hv_2 fun x_4 => gInt .i64 (Addr.add (Addr.add ⟨b, 0, none⟩ 1) 3) hv_2 fun x_5 => bnd (call F_commons_Commons_FreeProc [.pointer c, .int .i64 x_3] hv_2) fun r_1 hv_3 => aBool r_1 fun x_6 => gInt .i64 (Addr.add ⟨b, 0, none⟩ 0) hv_3 fun x_7 => same (.int .i64 x_4) (.int .i64 x_7) (gInt .i64 (Addr.add (Addr.add ⟨b, 0, none⟩ 1) 3) hv_3 fun x_8 => same (.int .i64 x_5) (.int .i64 x_8) (bnd (call F_proc_done [.bool x_6, .int .i64 (wrapF .i64 ((wrapF .i64 (256 * x_4)) + x_5))] hv_3) fun r_2 hv_4 => aAgg r_2 fun x_9 => ck (List.length x_9 = 4) (pAgg x4 x_9 hv_4 fun hv_5 => gAgg x4 4 hv_5 fun x_10 => some (.agg ⟨x_10⟩, hv_5)))))
      (run F_proc_Wait 3012 [.pointer c, .pointer (some x4), .slice l ln lc, .slice x23 x23n x23c, .int .i64 x24, .int .i64 (wrapF .i64 (x25 + 1))] hv_2))))
      (cond (ieqF ((ln : Nat) : Int) 0)
      (bnd (call F_proc_told [.int .i64 110] h) fun r_3 hv_6 => aAgg r_3 fun x_11 => ck (List.length x_11 = 4) (pAgg x4 x_11 hv_6 fun hv_7 => gAgg x4 4 hv_7 fun x_12 => some (.agg ⟨x_12⟩, hv_7)))
      (pAgg x4 [.int .i64 0, .int .i64 0, .slice none 0 0, .bool true] h fun hv_8 => gAgg x4 4 hv_8 fun x_13 => some (.agg ⟨x_13⟩, hv_8)))
  | _ => none
noncomputable def LB_proc_Wait_L1 : Lab := ⟨F_proc_Wait, 3012, T_proc_Wait_L1, [0, 4, 7, 23, 24, 25], X_proc_Wait_L1⟩
noncomputable def X_calls_told : XPoly := fun G _ call run a h => match a with
  | [.int .i64 e] =>
  nw (.cells Y_api_Ret false [.int .i64 0, .int .i64 0, .slice none 0 0, .bool false]) h fun b hv => pAgg ⟨b, 0, none⟩ [.int .i64 0, .int .i64 e, .slice none 0 0, .bool false] hv fun hv_1 => gAgg ⟨b, 0, none⟩ 4 hv_1 fun x => some (.agg ⟨x⟩, hv_1)
  | _ => none
noncomputable def X_sig_Next : XPoly := fun G _ call run a h => match a with
  | [.agg ⟨p⟩] =>
  nw (.cells Y_api_Proc false p) h fun b hv => gInt .i64 (Addr.add ⟨b, 0, none⟩ 4) hv fun x => gInt .i64 (Addr.add ⟨b, 0, none⟩ 5) hv fun x_1 => gInt .i64 (Addr.add ⟨b, 0, none⟩ 0) hv fun x_2 => bnd (cond (ineF x_2 1) (some (true, hv)) (some (ieqF (bitAF .i64 (bitN .i64 x x_1) 65534) 0, hv))) fun c hv_1 => cond c
      (some (.tuple ⟨[.int .i64 0, .int .i64 0]⟩, hv_1))
      (cond (ineF (bitAF .i64 (bitAF .i64 (bitN .i64 x x_1) 65534) 512) 0)
      (run F_sig_Next 2015 [.pointer (some ⟨b, 0, none⟩), .int .i64 9] hv_1)
      (bnd (call F_math_bits_TrailingZeros [.int .u64 (wrapF .u64 (bitAF .i64 (bitN .i64 x x_1) 65534))] hv_1) fun r hv_2 => aInt .i64 r fun x_3 => run F_sig_Next 2015 [.pointer (some ⟨b, 0, none⟩), .int .i64 x_3] hv_2))
  | _ => none
noncomputable def X_sig_Next_R1 : XPoly := fun G _ call run a h => match a with
  | [.pointer (some p), .int .i64 n] =>
  gInt .i64 (Addr.add p 7) h fun x => ck ((0 : Int) ≤ (wrapF .u64 (n))) (cond (ieqF (bitAF .i64 (Int.fdiv x (2 ^ (min (Int.toNat (wrapF .u64 (n))) 64))) 1) 1)
      (some (.tuple ⟨[.int .i64 n, .int .i64 2]⟩, h))
      (cond (ieqF n 15)
      (some (.tuple ⟨[.int .i64 n, .int .i64 1]⟩, h))
      (cond (ieqF n 14)
      (some (.tuple ⟨[.int .i64 n, .int .i64 3]⟩, h))
      (some (.tuple ⟨[.int .i64 n, .int .i64 4]⟩, h)))))
  | _ => none
noncomputable def LB_sig_Next_R1 : Lab := ⟨F_sig_Next, 2015, T_sig_Next_R1, [1, 2], X_sig_Next_R1⟩
noncomputable def X_table_Table_api_Cap_at : XPoly := fun G _ call run a h => match a with
  | [.pointer t, .int .i64 name] =>
  bnd (cond (iltF name 0) (some (true, h)) (aSome t fun p => gSl (Addr.add p 0) h fun _ xn _ => some (ileF ((xn : Nat) : Int) (bitAF .i64 name 255), h))) fun c hv => bnd (cond c (some (true, hv)) (aSome t fun p_1 => gSl (Addr.add p_1 0) hv fun x_1 xn_1 _ => aSome x_1 fun p_2 => ckRF (bitAF .i64 name 255) xn_1 (gBool (Addr.add (Addr.add (bare p_2) (Int.toNat (bitAF .i64 name 255) * 8)) 7) hv fun x_2 => some (!x_2, hv)))) fun c_1 hv_1 => bnd (cond c_1 (some (true, hv_1)) (bnd (call F_table_Table_api_Cap_name [.pointer t, .int .i64 (bitAF .i64 name 255)] hv_1) fun r hv_2 => aInt .i64 r fun x_3 => some (ineF x_3 name, hv_2))) fun c_2 hv_3 => cond c_2
      (some (.pointer none, hv_3))
      (aSome t fun p_3 => gSl (Addr.add p_3 0) hv_3 fun x_4 xn_2 _ => aSome x_4 fun p_4 => ckRF (bitAF .i64 name 255) xn_2 (some (.pointer (some (Addr.add (bare p_4) (Int.toNat (bitAF .i64 name 255) * 8))), hv_3)))
  | _ => none
noncomputable def X_ofile_Ok : XPoly := fun G _ call run a h => match a with
  | [.agg ⟨f⟩] =>
  nw (.cells Y_api_File false f) h fun b hv => gInt .i64 (Addr.add ⟨b, 0, none⟩ 0) hv fun x => bnd (cond (ileF 1 x) (gInt .i64 (Addr.add ⟨b, 0, none⟩ 0) hv fun x_1 => some (ileF x_1 3, hv)) (some (false, hv))) fun c hv_1 => bnd (cond c (gInt .i64 (Addr.add ⟨b, 0, none⟩ 1) hv_1 fun x_2 => some (ileF 0 x_2, hv_1)) (some (false, hv_1))) fun c_1 hv_2 => bnd (cond c_1 (gInt .i64 (Addr.add ⟨b, 0, none⟩ 1) hv_2 fun x_3 => some (ileF x_3 7, hv_2)) (some (false, hv_2))) fun c_2 hv_3 => bnd (cond c_2 (gInt .i64 (Addr.add ⟨b, 0, none⟩ 0) hv_3 fun x_4 => bnd (cond (ineF x_4 3) (some (true, hv_3)) (gInt .i64 (Addr.add ⟨b, 0, none⟩ 1) hv_3 fun x_5 => some (ieqF x_5 0, hv_3))) fun c_3 hv_4 => some (c_3, hv_4)) (some (false, hv_3))) fun c_4 hv_5 => bnd (cond c_4 (gInt .i64 (Addr.add ⟨b, 0, none⟩ 2) hv_5 fun x_6 => some (ileF 1 x_6, hv_5)) (some (false, hv_5))) fun c_5 hv_6 => bnd (cond c_5 (gInt .i64 (Addr.add ⟨b, 0, none⟩ 2) hv_6 fun x_7 => some (ileF x_7 64, hv_6)) (some (false, hv_6))) fun c_6 hv_7 => bnd (cond c_6 (gInt .i64 (Addr.add ⟨b, 0, none⟩ 3) hv_7 fun x_8 => bnd (cond (ieqF x_8 0) (some (true, hv_7)) (gInt .i64 (Addr.add ⟨b, 0, none⟩ 3) hv_7 fun x_9 => some (ieqF x_9 1, hv_7))) fun c_7 hv_8 => some (c_7, hv_8)) (some (false, hv_7))) fun c_8 hv_9 => some (.bool c_8, hv_9)
  | _ => none
noncomputable def X_pslot_Ok : XPoly := fun G _ call run a h => match a with
  | [.agg ⟨p⟩] =>
  nw (.cells Y_api_Proc false p) h fun b hv => gInt .i64 (Addr.add ⟨b, 0, none⟩ 0) hv fun x => bnd (cond (iltF x 1) (some (true, hv)) (gInt .i64 (Addr.add ⟨b, 0, none⟩ 0) hv fun x_1 => some (iltF 3 x_1, hv))) fun c hv_1 => bnd (cond c (some (true, hv_1)) (gInt .i64 (Addr.add ⟨b, 0, none⟩ 1) hv_1 fun x_2 => some (iltF x_2 0, hv_1))) fun c_1 hv_2 => bnd (cond c_1 (some (true, hv_2)) (gInt .i64 (Addr.add ⟨b, 0, none⟩ 1) hv_2 fun x_3 => some (iltF 8 x_3, hv_2))) fun c_2 hv_3 => bnd (cond c_2 (some (true, hv_3)) (gInt .i64 (Addr.add ⟨b, 0, none⟩ 2) hv_3 fun x_4 => some (iltF x_4 0, hv_3))) fun c_3 hv_4 => bnd (cond c_3 (some (true, hv_4)) (gInt .i64 (Addr.add ⟨b, 0, none⟩ 2) hv_4 fun x_5 => some (ileF 8 x_5, hv_4))) fun c_4 hv_5 => bnd (cond c_4 (some (true, hv_5)) (gInt .i64 (Addr.add ⟨b, 0, none⟩ 3) hv_5 fun x_6 => some (iltF x_6 0, hv_5))) fun c_5 hv_6 => bnd (cond c_5 (some (true, hv_6)) (gInt .i64 (Addr.add ⟨b, 0, none⟩ 3) hv_6 fun x_7 => some (iltF 255 x_7, hv_6))) fun c_6 hv_7 => cond c_6
      (some (.bool false, hv_7))
      (gInt .i64 (Addr.add ⟨b, 0, none⟩ 4) hv_7 fun x_8 => bnd (call F_pslot_bits [.int .i64 x_8, .int .i64 0] hv_7) fun r hv_8 => aBool r fun x_9 => bnd (cond (!x_9) (some (true, hv_8)) (gInt .i64 (Addr.add ⟨b, 0, none⟩ 5) hv_8 fun x_10 => bnd (call F_pslot_bits [.int .i64 x_10, .int .i64 16896] hv_8) fun r_1 hv_9 => aBool r_1 fun x_11 => some (!x_11, hv_9))) fun c_7 hv_10 => bnd (cond c_7 (some (true, hv_10)) (gInt .i64 (Addr.add ⟨b, 0, none⟩ 6) hv_10 fun x_12 => bnd (call F_pslot_bits [.int .i64 x_12, .int .i64 16896] hv_10) fun r_2 hv_11 => aBool r_2 fun x_13 => some (!x_13, hv_11))) fun c_8 hv_12 => bnd (cond c_8 (some (true, hv_12)) (gInt .i64 (Addr.add ⟨b, 0, none⟩ 7) hv_12 fun x_14 => bnd (call F_pslot_bits [.int .i64 x_14, .int .i64 16896] hv_12) fun r_3 hv_13 => aBool r_3 fun x_15 => some (!x_15, hv_13))) fun c_9 hv_14 => bnd (cond c_9 (some (true, hv_14)) (gInt .i64 (Addr.add ⟨b, 0, none⟩ 6) hv_14 fun x_16 => gInt .i64 (Addr.add ⟨b, 0, none⟩ 7) hv_14 fun x_17 => some (ineF (bitAF .i64 x_16 x_17) 0, hv_14))) fun c_10 hv_15 => cond c_10
      (some (.bool false, hv_15))
      (ckB (liveA (Addr.add ⟨b, 0, none⟩ 8) hv_15) (bnd (call F_slices_ContainsFunc_s_int_int [.slice (moved (some (Addr.add ⟨b, 0, none⟩ 8)) (decide (0 < 8)) (0 * 1)) (8 - 0) (8 - 0), .func (.func F_pslot_Ok_1) ⟨[]⟩ ⟨[]⟩] hv_15) fun r_4 hv_16 => aBool r_4 fun x_18 => cond x_18
      (some (.bool false, hv_16))
      (gInt .i64 (Addr.add ⟨b, 0, none⟩ 0) hv_16 fun x_19 => cond (ieqF x_19 2)
      (gInt .i64 (Addr.add ⟨b, 0, none⟩ 4) hv_16 fun x_20 => bnd (cond (ieqF x_20 0) (gAgg (Addr.add ⟨b, 0, none⟩ 8) 8 hv_16 fun x_21 => eqAgg PR Y_8_int x_21 [.int .i64 0, .int .i64 0, .int .i64 0, .int .i64 0, .int .i64 0, .int .i64 0, .int .i64 0, .int .i64 0] fun eq => some (eq, hv_16)) (some (false, hv_16))) fun c_11 hv_17 => some (.bool c_11, hv_17))
      (gInt .i64 (Addr.add ⟨b, 0, none⟩ 3) hv_16 fun x_22 => some (.bool (ieqF x_22 0), hv_16))))))
  | _ => none
noncomputable def X_pslot_bits : XPoly := fun G _ call run a h => match a with
  | [.int .i64 n, .int .i64 without] =>
  bnd (cond (ieqF (bitN .i64 n 65534) 0) (some (ieqF (bitAF .i64 n without) 0, h)) (some (false, h))) fun c hv => some (.bool c, hv)
  | _ => none
noncomputable def X_pslot_Ok_1 : XPoly := fun G _ call run a h => match a with
  | [.int .i64 f] =>
  bnd (cond (iltF f 0) (some (true, h)) (some (iltF 12 f, h))) fun c hv => some (.bool c, hv)
  | _ => none
noncomputable def X_pipes_of_1 : XPoly := fun G _ call run a h => match a with
  | [.agg ⟨p⟩, .pointer (some fv0), .pointer (some fv1)] =>
  nw (.cells Y_api_Pipe false p) h fun b hv => gPtr fv0 hv fun x => gInt .i64 (Addr.add fv1 1) hv fun x_1 => gAgg ⟨b, 0, none⟩ 36 hv fun x_2 => bnd (call F_commons_Commons_SetPipe [.pointer x, .int .i64 x_1, .agg ⟨x_2⟩] hv) fun r hv_1 => aBool r fun x_3 => some (.bool x_3, hv_1)
  | _ => none
end Go.EQ

set_option maxRecDepth 100000
set_option linter.unusedVariables false
namespace Go.EQ
open Go Go.Proofs
open Go.NN hiding bnd ld gInt gBool gStr gPtr gSl gMap gFv gAgg gCells nw pV pAgg pCells apd fitsOpen liveA mapAt
open Go.NP Go.NW
noncomputable def TABF : Tab XPoly := .node 88 X_codec_New_api_Pipe (.node 49 X_commons_Commons_SetProc (.node 29 X_pipes_Type (.node 18 X_kern_New (.node 13 X_world_New (.node 9 X_trace_Flow (.node 8 X_trace_Fifo (.node 4 X_law25_awake .leaf .leaf) .leaf) (.node 12 X_bytes_HasPrefix .leaf .leaf)) (.node 16 X_bytes_Equal (.node 15 X_world_World_Do (.node 14 X_trace_look .leaf .leaf) .leaf) (.node 17 X_world_Check .leaf .leaf))) (.node 23 X_ring_Decode (.node 21 X_host_New (.node 20 X_world_World_begin (.node 19 X_world_Boot .leaf .leaf) .leaf) (.node 22 X_world_World_Bridge .leaf .leaf)) (.node 26 X_world_World_pick (.node 25 X_world_World_Host (.node 24 X_ring_Bytes .leaf .leaf) .leaf) (.node 28 X_host_Host_Start .leaf .leaf)))) (.node 39 X_sect_New (.node 34 X_slices_Clone_s_int_int (.node 32 X_kern_check (.node 31 X_kern_Kern_Do (.node 30 X_host_Host_Commons .leaf .leaf) .leaf) (.node 33 X_kern_frames .leaf .leaf)) (.node 37 X_quota_New (.node 36 X_caps_New (.node 35 X_mem_New .leaf .leaf) .leaf) (.node 38 X_region_New .leaf .leaf))) (.node 44 X_commons_New (.node 42 X_slices_Contains_s_int_int (.node 41 X_quota_Quota_First (.node 40 X_region_Regions_Add .leaf .leaf) .leaf) (.node 43 X_caps_Space_Put .leaf .leaf)) (.node 47 X_commons_Commons_SetFile (.node 46 X_commons_Commons_SetFront (.node 45 X_commons_Commons_SetTerm .leaf .leaf) .leaf) (.node 48 X_commons_Commons_SetPipe .leaf .leaf))))) (.node 69 X_table_New_api_Cap (.node 59 X_commons_Commons_Look (.node 54 X_ring_Codec (.node 52 X_region_Regions_Raw (.node 51 X_kern_Kern_Regions (.node 50 X_kern_Kern_Sect .leaf .leaf) .leaf) (.node 53 X_codec_Blank .leaf .leaf)) (.node 57 X_host_Host_Pick (.node 56 X_ring_Ok (.node 55 X_codec_Codec_api_Pipe_Decode .leaf .leaf) .leaf) (.node 58 X_host_Host_Fresh .leaf .leaf))) (.node 64 X_kern_Kern_bytes (.node 62 X_commons_Commons_Term (.node 61 X_slices_Clone_s_byte_byte (.node 60 X_commons_Commons_Proc .leaf .leaf) .leaf) (.node 63 X_ring_Put .leaf .leaf)) (.node 67 X_slices_ContainsFunc_s_int_int (.node 66 X_kern_check_1 (.node 65 X_kern_Kern_number .leaf .leaf) .leaf) (.node 68 X_kern_share .leaf .leaf)))) (.node 79 X_commons_FrontBytes (.node 74 X_caps_Space_add (.node 72 X_caps_Space_Put_1 (.node 71 X_slices_Index_s_int_int (.node 70 X_mem_Mem_Size .leaf .leaf) .leaf) (.node 73 X_caps_Space_is .leaf .leaf)) (.node 77 X_ring_Encode (.node 76 X_caps_Space_Names (.node 75 X_kern_Kern_Space .leaf .leaf) .leaf) (.node 78 X_commons_Commons_write .leaf .leaf))) (.node 84 X_commons_proc (.node 82 X_commons_pipe (.node 81 X_commons_file (.node 80 X_ofile_Encode .leaf .leaf) .leaf) (.node 83 X_pslot_Encode .leaf .leaf)) (.node 86 X_slices_ContainsFunc_s_byte_byte (.node 85 X_mem_Mem_Load .leaf .leaf) (.node 87 X_codec_Blank_1 .leaf .leaf)))))) (.node 139 X_commons_record_api_File (.node 115 X_slices_IndexFunc_s_int_int (.node 101 X_commons_Commons_Pipe (.node 95 X_host_Host_want (.node 91 X_ring_Ok_1 (.node 90 X_ring_get (.node 89 X_ring_put .leaf .leaf) .leaf) (.node 94 X_host_Host_leave .leaf .leaf)) (.node 99 X_commons_Commons_File (.node 98 X_host_Host_end (.node 96 X_host_Host_in .leaf .leaf) .leaf) (.node 100 X_commons_Commons_most .leaf .leaf))) (.node 106 X_region_Regions_Read (.node 104 X_pslot_Decode (.node 103 X_commons_record_api_Proc (.node 102 X_commons_Commons_Front .leaf .leaf) .leaf) (.node 105 X_commons_record_api_Pipe .leaf .leaf)) (.node 113 X_kern_Kern_enter (.node 110 X_caps_Space_Revoke (.node 107 X_region_Regions_Write .leaf .leaf) .leaf) (.node 114 X_kern_Kern_leave .leaf .leaf)))) (.node 125 X_mem_Mem_in (.node 120 X_codec_Sum (.node 118 X_codec_Codec_api_Pipe_Encode (.node 117 X_table_Table_api_Cap_Names (.node 116 X_table_Table_api_Cap_Add .leaf .leaf) .leaf) (.node 119 X_commons_Commons_place .leaf .leaf)) (.node 123 X_pslot_Codec (.node 122 X_codec_Codec_api_File_Encode (.node 121 X_ofile_Codec .leaf .leaf) .leaf) (.node 124 X_codec_Codec_api_Proc_Encode .leaf .leaf))) (.node 130 X_sect_Sect_Holds (.node 128 X_host_Host_back (.node 127 X_slices_Equal_s_byte_byte (.node 126 X_slices_IndexFunc_s_byte_byte .leaf .leaf) .leaf) (.node 129 X_sect_Sect_Quit .leaf .leaf)) (.node 137 X_sig_Deliver (.node 131 X_calls_Do .leaf .leaf) (.node 138 X_proc_Exit .leaf .leaf))))) (.node 165 X_proc_Wait (.node 153 X_sect_Sect_Enter (.node 144 X_codec_Codec_api_Proc_Decode (.node 142 X_commons_FrontOf (.node 141 X_commons_record_int (.node 140 X_ofile_Decode .leaf .leaf) .leaf) (.node 143 X_commons_Commons_read .leaf .leaf)) (.node 147 X_caps_Space_Get (.node 146 X_mem_Mem_Store (.node 145 X_region_Regions_place .leaf .leaf) .leaf) (.node 152 X_kern_Kern_sect .leaf .leaf))) (.node 158 X_ofile_get (.node 156 X_codec_New_api_File (.node 155 X_table_Table_api_Cap_name (.node 154 X_sect_Sect_Leave .leaf .leaf) .leaf) (.node 157 X_ofile_put .leaf .leaf)) (.node 161 X_pslot_get (.node 160 X_pslot_put (.node 159 X_codec_New_api_Proc .leaf .leaf) .leaf) (.node 163 X_calls_files .leaf .leaf)))) (.node 188 X_pslot_Ok (.node 176 X_proc_Self (.node 173 X_fds_Of (.node 170 X_sig_Next (.node 169 X_calls_told .leaf .leaf) .leaf) (.node 174 X_pred_Any .leaf .leaf)) (.node 186 X_table_Table_api_Cap_at (.node 183 X_table_Table_api_Cap_Get (.node 182 X_codec_Codec_api_File_Decode .leaf .leaf) .leaf) (.node 187 X_ofile_Ok .leaf .leaf))) (.node 223 X_pslot_bits (.node 193 X_pipes_Write (.node 190 X_codec_Get2 (.node 189 X_codec_Put2 .leaf .leaf) .leaf) (.node 214 X_fds_named .leaf .leaf)) (.node 233 X_pipes_of (.node 224 X_pslot_Ok_1 .leaf .leaf) (.node 259 X_pipes_of_1 .leaf .leaf))))))
noncomputable def TABL : Tab Lab := .node 71003004 LB_slices_Index_s_int_int_L1 (.node 20007031 LB_world_World_begin_R1 (.node 18003036 LB_kern_New_L3 (.node 17003010 LB_world_Check_L1 (.node 13003018 LB_world_New_L1 (.node 9003016 LB_trace_Flow_L1 .leaf .leaf) (.node 13008028 LB_world_New_L2 .leaf .leaf)) (.node 18003024 LB_kern_New_L2 (.node 18003010 LB_kern_New_L1 .leaf .leaf) .leaf)) (.node 19003032 LB_world_Boot_L3 (.node 19003010 LB_world_Boot_L1 (.node 18007044 LB_kern_New_L4 .leaf .leaf) .leaf) (.node 20003016 LB_world_World_begin_L1 (.node 19008018 LB_world_Boot_L2 .leaf .leaf) .leaf))) (.node 57004023 LB_host_Host_Pick_R1 (.node 36003006 LB_caps_New_L1 (.node 32003014 LB_kern_check_L1 (.node 24003010 LB_ring_Bytes_L1 .leaf .leaf) (.node 32003026 LB_kern_check_L2 .leaf .leaf)) (.node 41003006 LB_quota_Quota_First_L1 (.node 37003006 LB_quota_New_L1 .leaf .leaf) .leaf)) (.node 59003022 LB_commons_Commons_Look_L3 (.node 59003012 LB_commons_Commons_Look_L2 (.node 59003002 LB_commons_Commons_Look_L1 .leaf .leaf) .leaf) (.node 69003006 LB_table_New_api_Cap_L1 (.node 63003010 LB_ring_Put_L1 .leaf .leaf) .leaf)))) (.node 141003017 LB_commons_record_int_R1 (.node 120003006 LB_codec_Sum_L1 (.node 115003004 LB_slices_IndexFunc_s_int_int_L1 (.node 105003017 LB_commons_record_api_Pipe_R1 (.node 103003017 LB_commons_record_api_Proc_R1 .leaf .leaf) (.node 110003010 LB_caps_Space_Revoke_L1 .leaf .leaf)) (.node 117003006 LB_table_Table_api_Cap_Names_L1 (.node 116003004 LB_table_Table_api_Cap_Add_L1 .leaf .leaf) .leaf)) (.node 129002007 LB_sect_Sect_Quit_R1 (.node 127003008 LB_slices_Equal_s_byte_byte_L1 (.node 126003004 LB_slices_IndexFunc_s_byte_byte_L1 .leaf .leaf) .leaf) (.node 139003017 LB_commons_record_api_File_R1 (.node 137002002 LB_sig_Deliver_L1 .leaf .leaf) .leaf))) (.node 160003018 LB_pslot_put_L2 (.node 153003035 LB_sect_Sect_Enter_R4 (.node 153003023 LB_sect_Sect_Enter_R2 (.node 153002021 LB_sect_Sect_Enter_R1 .leaf .leaf) (.node 153003029 LB_sect_Sect_Enter_R3 .leaf .leaf)) (.node 160003008 LB_pslot_put_L1 (.node 153003036 LB_sect_Sect_Enter_L1 .leaf .leaf) .leaf)) (.node 161003016 LB_pslot_get_L2 (.node 161003006 LB_pslot_get_L1 (.node 160003028 LB_pslot_put_L3 .leaf .leaf) .leaf) (.node 170002015 LB_sig_Next_R1 (.node 165003012 LB_proc_Wait_L1 .leaf .leaf) .leaf))))
noncomputable def TABS : Tabs := ⟨TABF, TABL⟩
end Go.EQ

/- TaintCloses returns true whatever it is given: a plan, whole numbers, a whole number; and the card ties the two tables that its code names to the program's text. No condition. -/
import Derived.Test.YtnkokamjidjnpaaGreatDoorMe
set_option linter.unusedVariables false
set_option linter.unusedSimpArgs false
set_option linter.unusedSectionVars false
set_option maxRecDepth 100000
set_option linter.unusedVariables false
namespace Go.EQ
open Go Go.Proofs
open Go.NN hiding bnd ld gInt gBool gStr gPtr gSl gMap gFv gAgg gCells nw pV pAgg pCells apd fitsOpen liveA mapAt
open Go.NP Go.NW
noncomputable def X_world_Check : XPoly := fun G _ call run a h => match a with
  | [.agg ⟨p⟩] =>
  nw (.cells Y_api_Plan false p) h fun b hv => gSl (Addr.add ⟨b, 0, none⟩ 0) hv fun _ xn _ => bnd (cond (iltF ((xn : Nat) : Int) 1) (some (true, hv)) (some (iltF 4 ((xn : Nat) : Int), hv))) fun c hv_1 => bnd (cond c (some (true, hv_1)) (gSl (Addr.add ⟨b, 0, none⟩ 1) hv_1 fun _ xn_1 _ => some (iltF 4 ((xn_1 : Nat) : Int), hv_1))) fun c_1 hv_2 => bnd (cond c_1 (some (true, hv_2)) (gInt .i64 (Addr.add ⟨b, 0, none⟩ 2) hv_2 fun x_2 => some (iltF x_2 1, hv_2))) fun c_2 hv_3 => bnd (cond c_2 (some (true, hv_3)) (gInt .i64 (Addr.add ⟨b, 0, none⟩ 2) hv_3 fun x_3 => some (iltF 1000 x_3, hv_3))) fun c_3 hv_4 => cond c_3
      (some (.int .i64 1, hv_4))
      (gSl (Addr.add ⟨b, 0, none⟩ 1) hv_4 fun x_4 xn_2 xc_2 => run F_world_Check 3010 [.int .i64 ((xn : Nat) : Int), .slice x_4 xn_2 xc_2, .int .i64 ((xn_2 : Nat) : Int), .int .i64 0] hv_4)
  | _ => none
noncomputable def X_world_Check_L1 : XPoly := fun G _ call run a h => match a with
  | [.int .i64 n, .slice x32 x32n x32c, .int .i64 x33, .int .i64 x34] =>
  cond (iltF x34 x33)
      (aSome x32 fun p => ckRF x34 x32n (gAgg (Addr.add (bare p) (Int.toNat x34 * 2)) 2 h fun x => nw (.cells Y_api_Bridge false [.int .i64 0, .int .i64 0]) h fun b hv => ck (List.length x = 2) (pAgg ⟨b, 0, none⟩ x hv fun hv_1 => gInt .i64 (Addr.add ⟨b, 0, none⟩ 0) hv_1 fun x_1 => bnd (cond (iltF x_1 0) (some (true, hv_1)) (gInt .i64 (Addr.add ⟨b, 0, none⟩ 0) hv_1 fun x_2 => some (ileF n x_2, hv_1))) fun c hv_2 => bnd (cond c (some (true, hv_2)) (gInt .i64 (Addr.add ⟨b, 0, none⟩ 1) hv_2 fun x_3 => some (iltF x_3 0, hv_2))) fun c_1 hv_3 => bnd (cond c_1 (some (true, hv_3)) (gInt .i64 (Addr.add ⟨b, 0, none⟩ 1) hv_3 fun x_4 => some (ileF n x_4, hv_3))) fun c_2 hv_4 => bnd (cond c_2 (some (true, hv_4)) (gInt .i64 (Addr.add ⟨b, 0, none⟩ 0) hv_4 fun x_5 => gInt .i64 (Addr.add ⟨b, 0, none⟩ 1) hv_4 fun x_6 => some (ieqF x_5 x_6, hv_4))) fun c_3 hv_5 => cond c_3
      (some (.int .i64 1, hv_5))
      (run F_world_Check 3010 [.int .i64 n, .slice x32 x32n x32c, .int .i64 x33, .int .i64 (wrapF .i64 (x34 + 1))] hv_5))))
      (some (.int .i64 0, h))
  | _ => none
noncomputable def LB_world_Check_L1 : Lab := ⟨F_world_Check, 3010, T_world_Check_L1, [3, 32, 33, 34], X_world_Check_L1⟩
noncomputable def X_slices_Clone_s_bool_bool : XPoly := fun G _ call run a h => match a with
  | [.slice s sn sc] =>
  cond s.isNone
      (some (.slice none 0 0, h))
      (nw (.cells Y_bool false []) h fun b hv => gCells s (sn * 1) hv fun cs => ckB (fitsOpen (some ⟨b, 0, none⟩) Y_bool hv) (apd Y_bool 1 (some ⟨b, 0, none⟩) 0 0 sn cs hv fun a an ac hv_1 => some (.slice a an ac, hv_1)))
  | _ => none
noncomputable def X_taint_Only : XPoly := fun G _ call run a h => match a with
  | [.agg ⟨p⟩, .slice outs outsn outsc] =>
  nw (.cells Y_api_Plan false p) h fun b hv => gAgg ⟨b, 0, none⟩ 3 hv fun x => bnd (call F_taint_Closure [.agg ⟨x⟩] hv) fun r hv_1 => aSl r fun x_1 xn xc => run F_taint_Only 3008 [.slice x_1 xn xc, .slice none 0 0, .slice outs outsn outsc, .int .i64 ((outsn : Nat) : Int), .int .i64 0] hv_1
  | _ => none
noncomputable def X_taint_Only_L1 : XPoly := fun G _ call run a h => match a with
  | [.slice c cn cc, .slice out outn outc, .slice x11 x11n x11c, .int .i64 x12, .int .i64 x13] =>
  cond (iltF x13 x12)
      (aSome x11 fun p => ckRF x13 x11n (gAgg (Addr.add (bare p) (Int.toNat x13 * 12)) 12 h fun x => nw (.cells Y_api_Out false [.int .i64 0, .int .i64 0, .int .i64 0, .int .i64 0, .int .i64 0, .slice none 0 0, .int .i64 0, .int .i64 0, .slice none 0 0, .bool false, .slice none 0 0, .int .i64 0]) h fun b hv => ck (List.length x = 12) (pAgg ⟨b, 0, none⟩ x hv fun hv_1 => gInt .i64 (Addr.add ⟨b, 0, none⟩ 0) hv_1 fun x_1 => bnd (cond (ileF 0 x_1) (gInt .i64 (Addr.add ⟨b, 0, none⟩ 0) hv_1 fun x_2 => some (iltF x_2 ((cn : Nat) : Int), hv_1)) (some (false, hv_1))) fun c_1 hv_2 => bnd (cond c_1 (gInt .i64 (Addr.add ⟨b, 0, none⟩ 0) hv_2 fun x_3 => aSome c fun p_1 => ckRF x_3 cn (gBool (Addr.add (bare p_1) (Int.toNat x_3 * 1)) hv_2 fun x_4 => some (!x_4, hv_2))) (some (false, hv_2))) fun c_2 hv_3 => cond c_2
      (gAgg ⟨b, 0, none⟩ 12 hv_3 fun x_5 => ck (List.length x_5 = 12) (nw (.cells Y_api_Out false (x_5 ++ [])) hv_3 fun b_1 hv_4 => gCells (some ⟨b_1, 0, none⟩) (1 * 12) hv_4 fun cs => ckB (fitsOpen out Y_api_Out hv_4) (apd Y_api_Out 12 out outn outc 1 cs hv_4 fun a an ac hv_5 => run F_taint_Only 3008 [.slice c cn cc, .slice a an ac, .slice x11 x11n x11c, .int .i64 x12, .int .i64 (wrapF .i64 (x13 + 1))] hv_5)))
      (run F_taint_Only 3008 [.slice c cn cc, .slice out outn outc, .slice x11 x11n x11c, .int .i64 x12, .int .i64 (wrapF .i64 (x13 + 1))] hv_3))))
      (some (.slice out outn outc, h))
  | _ => none
noncomputable def LB_taint_Only_L1 : Lab := ⟨F_taint_Only, 3008, T_taint_Only_L1, [5, 6, 11, 12, 13], X_taint_Only_L1⟩
noncomputable def X_kern_New : XPoly := fun G _ call run a h => match a with
  | [.agg ⟨c⟩] =>
  nw (.cells Y_api_Boot false c) h fun b hv => gAgg ⟨b, 0, none⟩ 5 hv fun x => bnd (call F_kern_check [.agg ⟨x⟩] hv) fun r hv_1 => aBool r fun x_1 => cond (!x_1)
      (some (.tuple ⟨[.pointer none, .int .i64 1]⟩, hv_1))
      (gSl (Addr.add ⟨b, 0, none⟩ 0) hv_1 fun x_2 xn xc => run F_kern_New 3010 [.pointer (some ⟨b, 0, none⟩), .int .i64 0, .slice x_2 xn xc, .int .i64 ((xn : Nat) : Int), .int .i64 0] hv_1)
  | _ => none
noncomputable def X_kern_New_L1 : XPoly := fun G _ call run a h => match a with
  | [.pointer (some c), .int .i64 all, .slice x20 x20n x20c, .int .i64 x21, .int .i64 x22] =>
  cond (iltF x22 x21)
      (aSome x20 fun p => ckRF x22 x20n (gInt .i64 (Addr.add (bare p) (Int.toNat x22 * 1)) h fun x => bnd (call F_kern_frames [.int .i64 x] h) fun r hv => aInt .i64 r fun x_1 => run F_kern_New 3010 [.pointer (some c), .int .i64 (wrapF .i64 (all + x_1)), .slice x20 x20n x20c, .int .i64 x21, .int .i64 (wrapF .i64 (x22 + 1))] hv))
      (gSl (Addr.add c 1) h fun x_2 xn xc => gSl (Addr.add c 1) h fun x_3 xn_1 xc_1 => gSl (Addr.add c 0) h fun x_4 xn_2 xc_2 => bnd (call F_slices_Clone_s_int_int [.slice x_2 xn xc] h) fun r_1 hv_1 => aSl r_1 fun x_5 xn_3 xc_3 => gSl (Addr.add c 1) hv_1 fun x_6 xn_4 xc_4 => same (.slice x_3 xn_1 xc_1) (.slice x_6 xn_4 xc_4) (gSl (Addr.add c 0) hv_1 fun x_7 xn_5 xc_5 => same (.slice x_4 xn_2 xc_2) (.slice x_7 xn_5 xc_5) (bnd (call F_mem_New [.int .i64 all] hv_1) fun r_2 hv_2 => aPtr r_2 fun x_8 => gSl (Addr.add c 1) hv_2 fun x_9 xn_6 xc_6 => same (.slice x_3 xn_1 xc_1) (.slice x_9 xn_6 xc_6) (gSl (Addr.add c 0) hv_2 fun x_10 xn_7 xc_7 => same (.slice x_4 xn_2 xc_2) (.slice x_10 xn_7 xc_7) (bnd (call F_caps_New [.int .i64 ((xn_1 : Nat) : Int)] hv_2) fun r_3 hv_3 => aPtr r_3 fun x_11 => gSl (Addr.add c 0) hv_3 fun x_12 xn_8 xc_8 => same (.slice x_4 xn_2 xc_2) (.slice x_12 xn_8 xc_8) (bnd (call F_quota_New [.slice x_4 xn_2 xc_2] hv_3) fun r_4 hv_4 => aPtr r_4 fun x_13 => nw (.cells Y_kern_Kern false [.slice x_5 xn_3 xc_3, .slice none 0 0, .pointer x_8, .pointer x_11, .pointer x_13, .pointer none, .slice none 0 0, .int .i64 0]) hv_4 fun b hv_5 => gPtr (Addr.add ⟨b, 0, none⟩ 2) hv_5 fun x_14 => gPtr (Addr.add ⟨b, 0, none⟩ 3) hv_5 fun x_15 => bnd (call F_region_New [.pointer x_14, .pointer x_15] hv_5) fun r_5 hv_6 => aPtr r_5 fun x_16 => pV (Addr.add ⟨b, 0, none⟩ 5) (.pointer x_16) hv_6 fun hv_7 => gSl (Addr.add c 2) hv_7 fun x_17 xn_9 xc_9 => run F_kern_New 3024 [.pointer (some c), .pointer (some ⟨b, 0, none⟩), .slice x_17 xn_9 xc_9, .int .i64 ((xn_9 : Nat) : Int), .int .i64 0] hv_7))))))
  | _ => none
noncomputable def LB_kern_New_L1 : Lab := ⟨F_kern_New, 3010, T_kern_New_L1, [1, 4, 20, 21, 22], X_kern_New_L1⟩
noncomputable def X_kern_New_L2 : XPoly := fun G _ call run a h => match a with
  | [.pointer (some c), .pointer (some k), .slice x58 x58n x58c, .int .i64 x59, .int .i64 x60] =>
  cond (iltF x60 x59)
      (aSome x58 fun p => ckRF x60 x58n (gSl (Addr.add (bare p) (Int.toNat x60 * 1)) h fun x xn xc => gSl (Addr.add k 1) h fun x_1 xn_1 xc_1 => bnd (call F_slices_Clone_s_int_int [.slice x xn xc] h) fun r hv => aSl r fun x_2 xn_2 xc_2 => gSl (Addr.add k 1) hv fun x_3 xn_3 xc_3 => same (.slice x_1 xn_1 xc_1) (.slice x_3 xn_3 xc_3) (nw (.cells Y_s_int false [.slice x_2 xn_2 xc_2]) hv fun b hv_1 => gCells (some ⟨b, 0, none⟩) (1 * 1) hv_1 fun cs => ckB (fitsOpen x_1 Y_s_int hv_1) (apd Y_s_int 1 x_1 xn_1 xc_1 1 cs hv_1 fun a an ac hv_2 => pV (Addr.add k 1) (.slice a an ac) hv_2 fun hv_3 => gSl (Addr.add k 6) hv_3 fun x_4 xn_4 xc_4 => gInt .i64 (Addr.add c 3) hv_3 fun x_5 => bnd (call F_sect_New [.int .i64 x_5] hv_3) fun r_1 hv_4 => aPtr r_1 fun x_6 => gSl (Addr.add k 6) hv_4 fun x_7 xn_5 xc_5 => same (.slice x_4 xn_4 xc_4) (.slice x_7 xn_5 xc_5) (nw (.cells Y_p_sect_Sect false [.pointer x_6]) hv_4 fun b_1 hv_5 => gCells (some ⟨b_1, 0, none⟩) (1 * 1) hv_5 fun cs_1 => ckB (fitsOpen x_4 Y_p_sect_Sect hv_5) (apd Y_p_sect_Sect 1 x_4 xn_4 xc_4 1 cs_1 hv_5 fun a_1 an_1 ac_1 hv_6 => pV (Addr.add k 6) (.slice a_1 an_1 ac_1) hv_6 fun hv_7 => run F_kern_New 3024 [.pointer (some c), .pointer (some k), .slice x58 x58n x58c, .int .i64 x59, .int .i64 (wrapF .i64 (x60 + 1))] hv_7))))))
      (gSl (Addr.add c 4) h fun x_8 xn_6 xc_6 => run F_kern_New 3036 [.pointer (some k), .slice x_8 xn_6 xc_6, .int .i64 ((xn_6 : Nat) : Int), .int .i64 0] h)
  | _ => none
noncomputable def LB_kern_New_L2 : Lab := ⟨F_kern_New, 3024, T_kern_New_L2, [1, 7, 58, 59, 60], X_kern_New_L2⟩
noncomputable def X_kern_New_L3 : XPoly := fun G _ call run a h => match a with
  | [.pointer (some k), .slice x89 x89n x89c, .int .i64 x90, .int .i64 x91] =>
  cond (iltF x91 x90)
      (aSome x89 fun p => ckRF x91 x89n (gAgg (Addr.add (bare p) (Int.toNat x91 * 5)) 5 h fun x => nw (.cells Y_api_Share false [.int .i64 0, .int .i64 0, .int .i64 0, .int .i64 0, .slice none 0 0]) h fun b hv => ck (List.length x = 5) (pAgg ⟨b, 0, none⟩ x hv fun hv_1 => gPtr (Addr.add k 5) hv_1 fun x_1 => gPtr (Addr.add k 4) hv_1 fun x_2 => gInt .i64 (Addr.add ⟨b, 0, none⟩ 0) hv_1 fun x_3 => gInt .i64 (Addr.add ⟨b, 0, none⟩ 1) hv_1 fun x_4 => gInt .i64 (Addr.add ⟨b, 0, none⟩ 2) hv_1 fun x_5 => gInt .i64 (Addr.add ⟨b, 0, none⟩ 3) hv_1 fun x_6 => bnd (call F_quota_Quota_First [.pointer x_2, .int .i64 x_3] hv_1) fun r hv_2 => aInt .i64 r fun x_7 => gPtr (Addr.add k 5) hv_2 fun x_8 => same (.pointer x_1) (.pointer x_8) (gInt .i64 (Addr.add ⟨b, 0, none⟩ 1) hv_2 fun x_9 => same (.int .i64 x_4) (.int .i64 x_9) (gInt .i64 (Addr.add ⟨b, 0, none⟩ 2) hv_2 fun x_10 => same (.int .i64 x_5) (.int .i64 x_10) (gInt .i64 (Addr.add ⟨b, 0, none⟩ 3) hv_2 fun x_11 => same (.int .i64 x_6) (.int .i64 x_11) (bnd (call F_region_Regions_Add [.pointer x_1, .int .i64 (wrapF .i64 ((wrapF .i64 ((wrapF .i64 (x_7 + x_4)) * 64)) + x_5)), .int .i64 x_6] hv_2) fun r_1 hv_3 => as2 r_1 fun r_2 r_3 => aInt .i64 r_2 fun x_12 => aInt .i64 r_3 fun _ => gSl (Addr.add k 0) hv_3 fun x_14 xn xc => run F_kern_New 7044 [.pointer (some k), .pointer (some ⟨b, 0, none⟩), .int .i64 x_12, .slice x89 x89n x89c, .int .i64 x90, .int .i64 x91, .slice x_14 xn xc, .int .i64 ((xn : Nat) : Int), .int .i64 0] hv_3)))))))
      (some (.tuple ⟨[.pointer (some k), .int .i64 0]⟩, h))
  | _ => none
noncomputable def LB_kern_New_L3 : Lab := ⟨F_kern_New, 3036, T_kern_New_L3, [7, 89, 90, 91], X_kern_New_L3⟩
noncomputable def X_kern_New_L4 : XPoly := fun G _ call run a h => match a with
  | [.pointer (some k), .pointer (some x), .int .i64 obj, .slice x89 x89n x89c, .int .i64 x90, .int .i64 x91, .slice x122 x122n x122c, .int .i64 x123, .int .i64 x124] =>
  cond (iltF x124 x123)
      (aSome x122 fun p => ckRF x124 x122n (gInt .i64 (Addr.add (bare p) (Int.toNat x124 * 1)) h fun x_1 => gSl (Addr.add x 4) h fun x_2 xn xc => bnd (call F_slices_Contains_s_int_int [.slice x_2 xn xc, .int .i64 x_1] h) fun r hv => aBool r fun x_3 => cond x_3
      (gPtr (Addr.add k 3) hv fun x_4 => gInt .i64 (Addr.add x 3) hv fun x_5 => bnd (call F_caps_Space_Put [.pointer x_4, .int .i64 x124, .agg ⟨[.int .i64 obj, .int .i64 3, .int .i64 0, .int .i64 x_5, .int .i64 0, .int .i64 0]⟩] hv) fun r_1 hv_1 => as2 r_1 fun r_2 r_3 => aInt .i64 r_2 fun _ => aInt .i64 r_3 fun _ => run F_kern_New 7044 [.pointer (some k), .pointer (some x), .int .i64 obj, .slice x89 x89n x89c, .int .i64 x90, .int .i64 x91, .slice x122 x122n x122c, .int .i64 x123, .int .i64 (wrapF .i64 (x124 + 1))] hv_1)
      (run F_kern_New 7044 [.pointer (some k), .pointer (some x), .int .i64 obj, .slice x89 x89n x89c, .int .i64 x90, .int .i64 x91, .slice x122 x122n x122c, .int .i64 x123, .int .i64 (wrapF .i64 (x124 + 1))] hv)))
      (run F_kern_New 3036 [.pointer (some k), .slice x89 x89n x89c, .int .i64 x90, .int .i64 (wrapF .i64 (x91 + 1))] h)
  | _ => none
noncomputable def LB_kern_New_L4 : Lab := ⟨F_kern_New, 7044, T_kern_New_L4, [7, 11, 12, 89, 90, 91, 122, 123, 124], X_kern_New_L4⟩
noncomputable def X_host_New : XPoly := fun G _ call run a h => match a with
  | [.pointer k, .int .i64 env, .int .i64 slot, .int .i64 sectionv] =>
  bnd (call F_commons_New [.pointer k, .int .i64 env] h) fun r hv => as2 r fun r_1 r_2 => aPtr r_1 fun x => aInt .i64 r_2 fun x_1 => cond (ineF x_1 0)
      (some (.tuple ⟨[.pointer none, .int .i64 x_1]⟩, hv))
      (bnd (cond (iltF slot 0) (some (true, hv)) (some (ileF 8 slot, hv))) fun c hv_1 => cond c
      (some (.tuple ⟨[.pointer none, .int .i64 1]⟩, hv_1))
      (bnd (call F_kern_Kern_Sect [.pointer k, .int .i64 sectionv] hv_1) fun r_3 hv_2 => aPtr r_3 fun x_2 => cond x_2.isNone
      (some (.tuple ⟨[.pointer none, .int .i64 8]⟩, hv_2))
      (nw (.cells Y_host_Host false [.pointer k, .int .i64 env, .int .i64 slot, .int .i64 sectionv, .pointer x, .int .i64 0, .int .i64 0, .int .i64 0, .int .i64 0, .int .i64 0, .slice none 0 0]) hv_2 fun b hv_3 => some (.tuple ⟨[.pointer (some ⟨b, 0, none⟩), .int .i64 0]⟩, hv_3))))
  | _ => none
noncomputable def X_kern_Kern_Do : XPoly := fun G _ call run a h => match a with
  | [.pointer k, .int .i64 env, .agg ⟨c⟩] =>
  nw (.cells Y_api_Call false c) h fun b hv => nw (.cells Y_api_Answer false [.int .i64 0, .int .i64 0, .slice none 0 0]) hv fun b_1 hv_1 => bnd (cond (iltF env 0) (some (true, hv_1)) (aSome k fun p => gSl (Addr.add p 0) hv_1 fun _ xn _ => some (ileF ((xn : Nat) : Int) env, hv_1))) fun c_1 hv_2 => cond c_1
      (pAgg ⟨b_1, 0, none⟩ [.int .i64 1, .int .i64 0, .slice none 0 0] hv_2 fun hv_3 => gAgg ⟨b_1, 0, none⟩ 3 hv_3 fun x_1 => some (.agg ⟨x_1⟩, hv_3))
      (gAgg ⟨b, 0, none⟩ 7 hv_2 fun x_2 => bnd (call F_kern_Kern_bytes [.pointer k, .int .i64 env, .agg ⟨x_2⟩] hv_2) fun r hv_4 => as3 r fun r_1 r_2 r_3 => aSl r_1 fun x_3 xn_1 xc_1 => aInt .i64 r_2 fun x_4 => aBool r_3 fun x_5 => cond x_5
      (pAgg ⟨b_1, 0, none⟩ [.int .i64 x_4, .int .i64 0, .slice x_3 xn_1 xc_1] hv_4 fun hv_5 => gAgg ⟨b_1, 0, none⟩ 3 hv_5 fun x_6 => some (.agg ⟨x_6⟩, hv_5))
      (gAgg ⟨b, 0, none⟩ 7 hv_4 fun x_7 => bnd (call F_kern_Kern_number [.pointer k, .int .i64 env, .agg ⟨x_7⟩] hv_4) fun r_4 hv_6 => as2 r_4 fun r_5 r_6 => aInt .i64 r_5 fun x_8 => aInt .i64 r_6 fun x_9 => pAgg ⟨b_1, 0, none⟩ [.int .i64 x_9, .int .i64 x_8, .slice none 0 0] hv_6 fun hv_7 => gAgg ⟨b_1, 0, none⟩ 3 hv_7 fun x_10 => some (.agg ⟨x_10⟩, hv_7)))
  | _ => none
noncomputable def X_kern_check : XPoly := fun G _ call run a h => match a with
  | [.agg ⟨c⟩] =>
  nw (.cells Y_api_Boot false c) h fun b hv => gSl (Addr.add ⟨b, 0, none⟩ 0) hv fun _ xn _ => bnd (cond (iltF ((xn : Nat) : Int) 1) (some (true, hv)) (gSl (Addr.add ⟨b, 0, none⟩ 0) hv fun _ xn_1 _ => some (iltF 4 ((xn_1 : Nat) : Int), hv))) fun c_1 hv_1 => bnd (cond c_1 (some (true, hv_1)) (gSl (Addr.add ⟨b, 0, none⟩ 1) hv_1 fun _ xn_2 _ => some (iltF 40 ((xn_2 : Nat) : Int), hv_1))) fun c_2 hv_2 => bnd (cond c_2 (some (true, hv_2)) (gSl (Addr.add ⟨b, 0, none⟩ 2) hv_2 fun _ xn_3 _ => some (iltF 8 ((xn_3 : Nat) : Int), hv_2))) fun c_3 hv_3 => bnd (cond c_3 (some (true, hv_3)) (gSl (Addr.add ⟨b, 0, none⟩ 4) hv_3 fun _ xn_4 _ => some (iltF 16 ((xn_4 : Nat) : Int), hv_3))) fun c_4 hv_4 => bnd (cond c_4 (some (true, hv_4)) (gInt .i64 (Addr.add ⟨b, 0, none⟩ 3) hv_4 fun x_5 => some (iltF x_5 1, hv_4))) fun c_5 hv_5 => bnd (cond c_5 (some (true, hv_5)) (gInt .i64 (Addr.add ⟨b, 0, none⟩ 3) hv_5 fun x_6 => some (iltF 1000 x_6, hv_5))) fun c_6 hv_6 => cond c_6
      (some (.bool false, hv_6))
      (gSl (Addr.add ⟨b, 0, none⟩ 1) hv_6 fun x_7 xn_5 xc_5 => bnd (call F_slices_ContainsFunc_s_int_int [.slice x_7 xn_5 xc_5, .func (.func F_kern_check_1) ⟨[]⟩ ⟨[.pointer (some ⟨b, 0, none⟩)]⟩] hv_6) fun r hv_7 => aBool r fun x_8 => cond x_8
      (some (.bool false, hv_7))
      (gSl (Addr.add ⟨b, 0, none⟩ 2) hv_7 fun x_9 xn_6 xc_6 => run F_kern_check 3014 [.pointer (some ⟨b, 0, none⟩), .func (.func F_kern_check_1) ⟨[]⟩ ⟨[.pointer (some ⟨b, 0, none⟩)]⟩, .slice x_9 xn_6 xc_6, .int .i64 ((xn_6 : Nat) : Int), .int .i64 0] hv_7))
  | _ => none
noncomputable def X_kern_check_L1 : XPoly := fun G _ call run a h => match a with
  | [.pointer (some c), .func (.func fN0) ⟨[]⟩ ⟨[.pointer (some nonev)]⟩, .slice x52 x52n x52c, .int .i64 x53, .int .i64 x54] =>
  cond (Nat.beq fN0 F_kern_check_1) (cond (iltF x54 x53)
      (aSome x52 fun p => ckRF x54 x52n (gSl (Addr.add (bare p) (Int.toNat x54 * 1)) h fun x xn xc => bnd (call F_slices_ContainsFunc_s_int_int [.slice x xn xc, .func (.func F_kern_check_1) ⟨[]⟩ ⟨[.pointer (some nonev)]⟩] h) fun r hv => aBool r fun x_1 => cond x_1
      (some (.bool false, hv))
      (run F_kern_check 3014 [.pointer (some c), .func (.func F_kern_check_1) ⟨[]⟩ ⟨[.pointer (some nonev)]⟩, .slice x52 x52n x52c, .int .i64 x53, .int .i64 (wrapF .i64 (x54 + 1))] hv)))
      (gSl (Addr.add c 4) h fun x_2 xn_1 xc_1 => run F_kern_check 3026 [.pointer (some c), .func (.func F_kern_check_1) ⟨[]⟩ ⟨[.pointer (some nonev)]⟩, .slice x_2 xn_1 xc_1, .int .i64 ((xn_1 : Nat) : Int), .int .i64 0] h)) none
  | _ => none
noncomputable def LB_kern_check_L1 : Lab := ⟨F_kern_check, 3014, T_kern_check_L1, [1, 3, 52, 53, 54], X_kern_check_L1⟩
noncomputable def X_kern_check_L2 : XPoly := fun G _ call run a h => match a with
  | [.pointer (some c), .func (.func fN0) ⟨[]⟩ ⟨[.pointer (some nonev)]⟩, .slice x63 x63n x63c, .int .i64 x64, .int .i64 x65] =>
  cond (Nat.beq fN0 F_kern_check_1) (cond (iltF x65 x64)
      (aSome x63 fun p => ckRF x65 x63n (gAgg (Addr.add (bare p) (Int.toNat x65 * 5)) 5 h fun x => nw (.cells Y_api_Share false [.int .i64 0, .int .i64 0, .int .i64 0, .int .i64 0, .slice none 0 0]) h fun b hv => ck (List.length x = 5) (pAgg ⟨b, 0, none⟩ x hv fun hv_1 => gAgg c 5 hv_1 fun x_1 => gAgg ⟨b, 0, none⟩ 5 hv_1 fun x_2 => bnd (call F_kern_share [.agg ⟨x_1⟩, .agg ⟨x_2⟩] hv_1) fun r hv_2 => aBool r fun x_3 => bnd (cond (!x_3) (some (true, hv_2)) (gSl (Addr.add ⟨b, 0, none⟩ 4) hv_2 fun x_4 xn xc => bnd (call F_slices_ContainsFunc_s_int_int [.slice x_4 xn xc, .func (.func F_kern_check_1) ⟨[]⟩ ⟨[.pointer (some nonev)]⟩] hv_2) fun r_1 hv_3 => aBool r_1 fun x_5 => some (x_5, hv_3))) fun c_1 hv_4 => cond c_1
      (some (.bool false, hv_4))
      (run F_kern_check 3026 [.pointer (some c), .func (.func F_kern_check_1) ⟨[]⟩ ⟨[.pointer (some nonev)]⟩, .slice x63 x63n x63c, .int .i64 x64, .int .i64 (wrapF .i64 (x65 + 1))] hv_4))))
      (some (.bool true, h))) none
  | _ => none
noncomputable def LB_kern_check_L2 : Lab := ⟨F_kern_check, 3026, T_kern_check_L2, [1, 3, 63, 64, 65], X_kern_check_L2⟩
noncomputable def X_quota_New : XPoly := fun G _ call run a h => match a with
  | [.slice frames framesn framesc] =>
  nw (.cells Y_quota_Quota false [.slice none 0 0]) h fun b hv => ckB (fitsOpen frames Y_int hv) (ckLF (mm2 false ((framesn : Nat) : Int) 4) framesc (run F_quota_New 3006 [.pointer (some ⟨b, 0, none⟩), .slice (moved frames (decide (0 < framesc)) (0 * 1)) ((Int.toNat (mm2 false ((framesn : Nat) : Int) 4)) - 0) (framesc - 0), .int .i64 (((Int.toNat (mm2 false ((framesn : Nat) : Int) 4)) - 0 : Nat) : Int), .int .i64 0] hv))
  | _ => none
noncomputable def X_quota_New_L1 : XPoly := fun G _ call run a h => match a with
  | [.pointer (some q), .slice x12 x12n x12c, .int .i64 x13, .int .i64 x14] =>
  cond (iltF x14 x13)
      (aSome x12 fun p => ckRF x14 x12n (gInt .i64 (Addr.add (bare p) (Int.toNat x14 * 1)) h fun x => gSl (Addr.add q 0) h fun x_1 xn xc => ck ((0 : Int) ≤ mm2 false (mm2 true x 0) 64 ∧ (mm2 false (mm2 true x 0) 64 : Int) ≤ mm2 false (mm2 true x 0) 64 ∧ mm2 false (mm2 true x 0) 64 ≤ (most : Int)) (nw (.cells Y_int false (manyN (Int.toNat (mm2 false (mm2 true x 0) 64)) [.int .i64 0])) h fun b hv => nw (.cells Y_s_int false [.slice (some ⟨b, 0, none⟩) (Int.toNat (mm2 false (mm2 true x 0) 64)) (Int.toNat (mm2 false (mm2 true x 0) 64))]) hv fun b_1 hv_1 => gCells (some ⟨b_1, 0, none⟩) (1 * 1) hv_1 fun cs => ckB (fitsOpen x_1 Y_s_int hv_1) (apd Y_s_int 1 x_1 xn xc 1 cs hv_1 fun a an ac hv_2 => pV (Addr.add q 0) (.slice a an ac) hv_2 fun hv_3 => run F_quota_New 3006 [.pointer (some q), .slice x12 x12n x12c, .int .i64 x13, .int .i64 (wrapF .i64 (x14 + 1))] hv_3))))
      (some (.pointer (some q), h))
  | _ => none
noncomputable def LB_quota_New_L1 : Lab := ⟨F_quota_New, 3006, T_quota_New_L1, [3, 12, 13, 14], X_quota_New_L1⟩
noncomputable def X_region_New : XPoly := fun G _ call run a h => match a with
  | [.pointer m, .pointer s] =>
  nw (.cells Y_region_Regions false [.pointer m, .pointer s, .slice none 0 0]) h fun b hv => some (.pointer (some ⟨b, 0, none⟩), hv)
  | _ => none
noncomputable def X_quota_Quota_First : XPoly := fun G _ call run a h => match a with
  | [.pointer q, .int .i64 s] =>
  aSome q fun p => gSl (Addr.add p 0) h fun x _ xc => aSome q fun p_1 => gSl (Addr.add p_1 0) h fun _ xn_1 _ => ckB (fitsOpen x Y_s_int h) (ckLF (mm2 false (mm2 true s 0) ((xn_1 : Nat) : Int)) xc (run F_quota_Quota_First 3006 [.int .i64 0, .slice (moved x (decide (0 < xc)) (0 * 1)) ((Int.toNat (mm2 false (mm2 true s 0) ((xn_1 : Nat) : Int))) - 0) (xc - 0), .int .i64 (((Int.toNat (mm2 false (mm2 true s 0) ((xn_1 : Nat) : Int))) - 0 : Nat) : Int), .int .i64 0] h))
  | _ => none
noncomputable def X_quota_Quota_First_L1 : XPoly := fun G _ call run a h => match a with
  | [.int .i64 n, .slice x20 x20n x20c, .int .i64 x21, .int .i64 x22] =>
  cond (iltF x22 x21)
      (aSome x20 fun p => ckRF x22 x20n (gSl (Addr.add (bare p) (Int.toNat x22 * 1)) h fun _ xn _ => run F_quota_Quota_First 3006 [.int .i64 (wrapF .i64 (n + ((xn : Nat) : Int))), .slice x20 x20n x20c, .int .i64 x21, .int .i64 (wrapF .i64 (x22 + 1))] h))
      (some (.int .i64 n, h))
  | _ => none
noncomputable def LB_quota_Quota_First_L1 : Lab := ⟨F_quota_Quota_First, 3006, T_quota_Quota_First_L1, [5, 20, 21, 22], X_quota_Quota_First_L1⟩
noncomputable def X_slices_Contains_s_int_int : XPoly := fun G _ call run a h => match a with
  | [.slice s sn sc, .int .i64 v] =>
  bnd (call F_slices_Index_s_int_int [.slice s sn sc, .int .i64 v] h) fun r hv => aInt .i64 r fun x => some (.bool (ileF 0 x), hv)
  | _ => none
noncomputable def X_commons_New : XPoly := fun G _ call run a h => match a with
  | [.pointer k, .int .i64 env] =>
  bnd (cond k.isNone (some (true, h)) (bnd (call F_kern_Kern_Space [.pointer k] h) fun r hv => aPtr r fun x => bnd (call F_caps_Space_Names [.pointer x, .int .i64 env] hv) fun r_1 hv_1 => aSl r_1 fun _ xn _ => some (ieqF ((xn : Nat) : Int) 0, hv_1))) fun c hv_2 => cond c
      (some (.tuple ⟨[.pointer none, .int .i64 1]⟩, hv_2))
      (bnd (call F_kern_Kern_Space [.pointer k] hv_2) fun r_2 hv_3 => aPtr r_2 fun x_2 => bnd (call F_caps_Space_Names [.pointer x_2, .int .i64 env] hv_3) fun r_3 hv_4 => aSl r_3 fun x_3 xn_1 xc_1 => nw (.map [] 0) hv_4 fun b hv_5 => nw (.cells Y_commons_Commons false [.pointer k, .int .i64 env, .slice x_3 xn_1 xc_1, .map (some b)]) hv_5 fun b_1 hv_6 => some (.tuple ⟨[.pointer (some ⟨b_1, 0, none⟩), .int .i64 0]⟩, hv_6))
  | _ => none
noncomputable def X_commons_Commons_SetTerm : XPoly := fun G _ call run a h => match a with
  | [.pointer c, .agg ⟨p⟩] =>
  nw (.cells Y_api_Pipe false p) h fun b hv => gAgg ⟨b, 0, none⟩ 36 hv fun x => bnd (call F_ring_Encode [.agg ⟨x⟩] hv) fun r hv_1 => as2 r fun r_1 r_2 => aSl r_1 fun x_1 xn xc => aBool r_2 fun x_2 => bnd (call F_commons_Commons_write [.pointer c, .agg ⟨[.int .i64 4, .int .i64 0]⟩, .slice x_1 xn xc, .bool x_2] hv_1) fun r_3 hv_2 => aBool r_3 fun x_3 => some (.bool x_3, hv_2)
  | _ => none
noncomputable def X_commons_Commons_SetFront : XPoly := fun G _ call run a h => match a with
  | [.pointer c, .int .i64 g] =>
  bnd (call F_commons_FrontBytes [.int .i64 g] h) fun r hv => as2 r fun r_1 r_2 => aSl r_1 fun x xn xc => aBool r_2 fun x_1 => bnd (call F_commons_Commons_write [.pointer c, .agg ⟨[.int .i64 5, .int .i64 0]⟩, .slice x xn xc, .bool x_1] hv) fun r_3 hv_1 => aBool r_3 fun x_2 => some (.bool x_2, hv_1)
  | _ => none
noncomputable def X_commons_Commons_SetFile : XPoly := fun G _ call run a h => match a with
  | [.pointer c, .int .i64 i, .agg ⟨f⟩] =>
  nw (.cells Y_api_File false f) h fun b hv => gAgg ⟨b, 0, none⟩ 4 hv fun x => bnd (call F_ofile_Encode [.agg ⟨x⟩] hv) fun r hv_1 => as2 r fun r_1 r_2 => aSl r_1 fun x_1 xn xc => aBool r_2 fun x_2 => bnd (call F_commons_file [.int .i64 i] hv_1) fun r_3 hv_2 => aAgg r_3 fun x_3 => bnd (call F_commons_Commons_write [.pointer c, .agg ⟨x_3⟩, .slice x_1 xn xc, .bool x_2] hv_2) fun r_4 hv_3 => aBool r_4 fun x_4 => some (.bool x_4, hv_3)
  | _ => none
noncomputable def X_kern_Kern_bytes : XPoly := fun G _ call run a h => match a with
  | [.pointer k, .int .i64 env, .agg ⟨c⟩] =>
  nw (.cells Y_api_Call false c) h fun b hv => gInt .i64 (Addr.add ⟨b, 0, none⟩ 0) hv fun x => cond (ieqF x 1)
      (aSome k fun p => gPtr (Addr.add p 5) hv fun x_1 => gInt .i64 (Addr.add ⟨b, 0, none⟩ 1) hv fun x_2 => gInt .i64 (Addr.add ⟨b, 0, none⟩ 2) hv fun x_3 => gInt .i64 (Addr.add ⟨b, 0, none⟩ 3) hv fun x_4 => bnd (call F_region_Regions_Read [.pointer x_1, .int .i64 env, .int .i64 x_2, .int .i64 x_3, .int .i64 x_4] hv) fun r hv_1 => as2 r fun r_1 r_2 => aSl r_1 fun x_5 xn xc => aInt .i64 r_2 fun x_6 => some (.tuple ⟨[.slice x_5 xn xc, .int .i64 x_6, .bool true]⟩, hv_1))
      (cond (ieqF x 2)
      (aSome k fun p_1 => gPtr (Addr.add p_1 5) hv fun x_7 => gInt .i64 (Addr.add ⟨b, 0, none⟩ 1) hv fun x_8 => gInt .i64 (Addr.add ⟨b, 0, none⟩ 2) hv fun x_9 => gSl (Addr.add ⟨b, 0, none⟩ 6) hv fun x_10 xn_1 xc_1 => bnd (call F_region_Regions_Write [.pointer x_7, .int .i64 env, .int .i64 x_8, .int .i64 x_9, .slice x_10 xn_1 xc_1] hv) fun r_3 hv_2 => aInt .i64 r_3 fun x_11 => some (.tuple ⟨[.slice none 0 0, .int .i64 x_11, .bool true]⟩, hv_2))
      (cond (ieqF x 3)
      (aSome k fun p_2 => gPtr (Addr.add p_2 5) hv fun x_12 => gInt .i64 (Addr.add ⟨b, 0, none⟩ 1) hv fun x_13 => gInt .i64 (Addr.add ⟨b, 0, none⟩ 2) hv fun x_14 => gInt .i64 (Addr.add ⟨b, 0, none⟩ 4) hv fun x_15 => gInt .i64 (Addr.add ⟨b, 0, none⟩ 5) hv fun x_16 => gInt .i64 (Addr.add ⟨b, 0, none⟩ 3) hv fun x_17 => bnd (call F_region_Regions_Copy [.pointer x_12, .int .i64 env, .int .i64 x_13, .int .i64 x_14, .int .i64 x_15, .int .i64 x_16, .int .i64 x_17] hv) fun r_4 hv_3 => aInt .i64 r_4 fun x_18 => some (.tuple ⟨[.slice none 0 0, .int .i64 x_18, .bool true]⟩, hv_3))
      (some (.tuple ⟨[.slice none 0 0, .int .i64 0, .bool false]⟩, hv))))
  | _ => none
noncomputable def X_kern_check_1 : XPoly := fun G _ call run a h => match a with
  | [.int .i64 s, .pointer (some fv0)] =>
  bnd (cond (iltF s 0) (some (true, h)) (gSl (Addr.add fv0 0) h fun _ xn _ => some (ileF ((xn : Nat) : Int) s, h))) fun c hv => some (.bool c, hv)
  | _ => none
noncomputable def X_mem_Mem_Size : XPoly := fun G _ call run a h => match a with
  | [.pointer m] =>
  aSome m fun p => gSl (Addr.add p 0) h fun _ xn _ => some (.int .i64 ((xn : Nat) : Int), h)
  | _ => none
noncomputable def X_caps_Space_Put_1 : XPoly := fun G _ call run a h => match a with
  | [.int .i64 n] =>
  bnd (cond (ileF 0 n) (some (ileF n 65536, h)) (some (false, h))) fun c hv => some (.bool c, hv)
  | _ => none
noncomputable def X_caps_Space_is : XPoly := fun G _ call run a h => match a with
  | [.pointer s, .int .i64 env] =>
  bnd (cond (ileF 0 env) (aSome s fun p => gSl (Addr.add p 0) h fun _ xn _ => some (iltF env ((xn : Nat) : Int), h)) (some (false, h))) fun c hv => some (.bool c, hv)
  | _ => none
noncomputable def X_caps_Space_add : XPoly := fun G _ call run a h => match a with
  | [.pointer s, .int .i64 env, .agg ⟨c⟩] =>
  nw (.cells Y_api_Cap false c) h fun b hv => aSome s fun p => gSl (Addr.add p 0) hv fun x xn _ => aSome x fun p_1 => ckRF env xn (gPtr (Addr.add (bare p_1) (Int.toNat env * 1)) hv fun x_1 => gAgg ⟨b, 0, none⟩ 6 hv fun x_2 => bnd (call F_table_Table_api_Cap_Add [.pointer x_1, .agg ⟨x_2⟩] hv) fun r hv_1 => as2 r fun r_1 r_2 => aInt .i64 r_1 fun x_3 => aBool r_2 fun x_4 => cond (!x_4)
      (some (.tuple ⟨[.int .i64 0, .int .i64 4]⟩, hv_1))
      (some (.tuple ⟨[.int .i64 x_3, .int .i64 0]⟩, hv_1)))
  | _ => none
noncomputable def X_kern_Kern_Space : XPoly := fun G _ call run a h => match a with
  | [.pointer k] =>
  aSome k fun p => gPtr (Addr.add p 3) h fun x => some (.pointer x, h)
  | _ => none
noncomputable def X_ring_Encode : XPoly := fun G _ call run a h => match a with
  | [.agg ⟨p⟩] =>
  nw (.cells Y_api_Pipe false p) h fun b hv => gAgg ⟨b, 0, none⟩ 36 hv fun x => bnd (call F_ring_Codec [] hv) fun r hv_1 => aPtr r fun x_1 => gAgg ⟨b, 0, none⟩ 36 hv_1 fun x_2 => same (.agg ⟨x⟩) (.agg ⟨x_2⟩) (bnd (call F_codec_Codec_api_Pipe_Encode [.pointer x_1, .agg ⟨x⟩] hv_1) fun r_1 hv_2 => as2 r_1 fun r_2 r_3 => aSl r_2 fun x_3 xn xc => aBool r_3 fun x_4 => some (.tuple ⟨[.slice x_3 xn xc, .bool x_4]⟩, hv_2))
  | _ => none
noncomputable def X_commons_Commons_write : XPoly := fun G _ call run a h => match a with
  | [.pointer c, .agg ⟨r⟩, .slice b bn bc, .bool ok] =>
  nw (.cells Y_api_Rec false r) h fun b_1 hv => gAgg ⟨b_1, 0, none⟩ 2 hv fun x => bnd (call F_commons_Commons_place [.pointer c, .agg ⟨x⟩] hv) fun r_1 hv_1 => as2 r_1 fun r_2 r_3 => aAgg r_2 fun x_1 => aBool r_3 fun x_2 => nw (.cells Y_commons_place false [.int .i64 0, .int .i64 0, .int .i64 0]) hv_1 fun b_2 hv_2 => ck (List.length x_1 = 3) (pAgg ⟨b_2, 0, none⟩ x_1 hv_2 fun hv_3 => bnd (cond (!x_2) (some (true, hv_3)) (some (!ok, hv_3))) fun c_1 hv_4 => bnd (cond c_1 (some (true, hv_4)) (aSome c fun p => gMap (Addr.add p 3) hv_4 fun x_3 => gAgg ⟨b_1, 0, none⟩ 2 hv_4 fun x_4 => keyN PR Y_api_Rec (.agg ⟨x_4⟩) (opt x_3 fun r_4 => mapAt hv_4 r_4 fun es _ => opt (lookM (.int .i64 0) (.agg ⟨x_4⟩) es) fun f => aInt .i64 f.1 fun x_5 => some (iltF 0 x_5, hv_4)))) fun c_2 hv_5 => cond c_2
      (some (.bool false, hv_5))
      (aSome c fun p_1 => gPtr (Addr.add p_1 0) hv_5 fun x_6 => aSome c fun p_2 => gInt .i64 (Addr.add p_2 1) hv_5 fun x_7 => gInt .i64 (Addr.add ⟨b_2, 0, none⟩ 0) hv_5 fun x_8 => gInt .i64 (Addr.add ⟨b_2, 0, none⟩ 1) hv_5 fun x_9 => bnd (call F_kern_Kern_Do [.pointer x_6, .int .i64 x_7, .agg ⟨[.int .i64 2, .int .i64 x_8, .int .i64 x_9, .int .i64 0, .int .i64 0, .int .i64 0, .slice b bn bc]⟩] hv_5) fun r_5 hv_6 => aAgg r_5 fun x_10 => nth x_10 0 fun E => aInt .i64 E fun E_1 => some (.bool (ieqF E_1 0), hv_6)))
  | _ => none
noncomputable def X_commons_FrontBytes : XPoly := fun G _ call run a h => match a with
  | [.int .i64 g] =>
  bnd (cond (iltF g 0) (some (true, h)) (some (ileF 8 g, h))) fun c hv => cond c
      (some (.tuple ⟨[.slice none 0 0, .bool false]⟩, hv))
      (nw (.cells Y_uint8 false [.int .u8 (wrapF .u8 (g)), .int .u8 211]) hv fun b hv_1 => bnd (call F_codec_Sum [.slice (some ⟨b, 0, none⟩) 2 2] hv_1) fun r hv_2 => aInt .u8 r fun x => nw (.cells Y_uint8 false [.int .u8 x, .int .u8 0]) hv_2 fun b_1 hv_3 => gCells (some ⟨b_1, 0, none⟩) (2 * 1) hv_3 fun cs => ckB (fitsOpen (some ⟨b, 0, none⟩) Y_uint8 hv_3) (apd Y_uint8 1 (some ⟨b, 0, none⟩) 2 2 2 cs hv_3 fun a an ac hv_4 => some (.tuple ⟨[.slice a an ac, .bool true]⟩, hv_4)))
  | _ => none
noncomputable def X_commons_Commons_most : XPoly := fun G _ call run a h => match a with
  | [.pointer c, .int .i64 kind] =>
  cond (ieqF kind 1)
      (some (.int .i64 8, h))
      (cond (ieqF kind 2)
      (some (.int .i64 12, h))
      (cond (ieqF kind 3)
      (aSome c fun p => gSl (Addr.add p 2) h fun _ xn _ => some (.int .i64 (wrapF .i64 ((wrapF .i64 (4 + ((xn : Nat) : Int))) - 1)), h))
      (some (.int .i64 1, h))))
  | _ => none
noncomputable def X_ring_Ok : XPoly := fun G _ call run a h => match a with
  | [.agg ⟨p⟩] =>
  nw (.cells Y_api_Pipe false p) h fun b hv => gInt .i64 (Addr.add ⟨b, 0, none⟩ 0) hv fun x => bnd (call F_ring_Ok_1 [.int .i64 x, .int .i64 31] hv) fun r hv_1 => aBool r fun x_1 => bnd (cond x_1 (gInt .i64 (Addr.add ⟨b, 0, none⟩ 1) hv_1 fun x_2 => bnd (call F_ring_Ok_1 [.int .i64 x_2, .int .i64 32] hv_1) fun r_1 hv_2 => aBool r_1 fun x_3 => some (x_3, hv_2)) (some (false, hv_1))) fun c hv_3 => bnd (cond c (gInt .i64 (Addr.add ⟨b, 0, none⟩ 2) hv_3 fun x_4 => bnd (call F_ring_Ok_1 [.int .i64 x_4, .int .i64 8] hv_3) fun r_2 hv_4 => aBool r_2 fun x_5 => some (x_5, hv_4)) (some (false, hv_3))) fun c_1 hv_5 => bnd (cond c_1 (gInt .i64 (Addr.add ⟨b, 0, none⟩ 3) hv_5 fun x_6 => bnd (call F_ring_Ok_1 [.int .i64 x_6, .int .i64 8] hv_5) fun r_3 hv_6 => aBool r_3 fun x_7 => some (x_7, hv_6)) (some (false, hv_5))) fun c_2 hv_7 => some (.bool c_2, hv_7)
  | _ => none
noncomputable def X_table_Table_api_Cap_Names : XPoly := fun G _ call run a h => match a with
  | [.pointer t] =>
  aSome t fun p => gSl (Addr.add p 0) h fun x xn xc => run F_table_Table_api_Cap_Names 3006 [.pointer t, .slice none 0 0, .slice x xn xc, .int .i64 ((xn : Nat) : Int), .int .i64 0] h
  | _ => none
noncomputable def X_table_Table_api_Cap_Names_L1 : XPoly := fun G _ call run a h => match a with
  | [.pointer t, .slice out outn outc, .slice x9 x9n x9c, .int .i64 x10, .int .i64 x11] =>
  cond (iltF x11 x10)
      (aSome x9 fun p => ckRF x11 x9n (gAgg (Addr.add (bare p) (Int.toNat x11 * 8)) 8 h fun x => nw (.cells Y_table_place_api_Cap false [.int .i64 0, .int .i64 0, .int .i64 0, .int .i64 0, .int .i64 0, .int .i64 0, .int .i64 0, .bool false]) h fun b hv => ck (List.length x = 8) (pAgg ⟨b, 0, none⟩ x hv fun hv_1 => gBool (Addr.add ⟨b, 0, none⟩ 7) hv_1 fun x_1 => cond x_1
      (bnd (call F_table_Table_api_Cap_name [.pointer t, .int .i64 x11] hv_1) fun r hv_2 => aInt .i64 r fun x_2 => nw (.cells Y_int false [.int .i64 x_2]) hv_2 fun b_1 hv_3 => gCells (some ⟨b_1, 0, none⟩) (1 * 1) hv_3 fun cs => ckB (fitsOpen out Y_int hv_3) (apd Y_int 1 out outn outc 1 cs hv_3 fun a an ac hv_4 => run F_table_Table_api_Cap_Names 3006 [.pointer t, .slice a an ac, .slice x9 x9n x9c, .int .i64 x10, .int .i64 (wrapF .i64 (x11 + 1))] hv_4))
      (run F_table_Table_api_Cap_Names 3006 [.pointer t, .slice out outn outc, .slice x9 x9n x9c, .int .i64 x10, .int .i64 (wrapF .i64 (x11 + 1))] hv_1))))
      (some (.slice out outn outc, h))
  | _ => none
noncomputable def LB_table_Table_api_Cap_Names_L1 : Lab := ⟨F_table_Table_api_Cap_Names, 3006, T_table_Table_api_Cap_Names_L1, [0, 3, 9, 10, 11], X_table_Table_api_Cap_Names_L1⟩
noncomputable def X_ring_Codec : XPoly := fun G _ call run a h => match a with
  | [] =>
  bnd (call F_codec_New_api_Pipe [.int .i64 40, .func (.func F_ring_put) ⟨[]⟩ ⟨[]⟩, .func (.func F_ring_get) ⟨[]⟩ ⟨[]⟩] h) fun r hv => aPtr r fun x => some (.pointer x, hv)
  | _ => none
noncomputable def X_codec_Codec_api_Proc_Encode : XPoly := fun G _ call run a h => match a with
  | [.pointer c, .agg ⟨v⟩] =>
  nw (.cells Y_api_Proc false v) h fun b hv => aSome c fun p => gInt .i64 (Addr.add p 0) hv fun x => ck ((0 : Int) ≤ x ∧ (x : Int) ≤ x ∧ x ≤ (most : Int)) (nw (.cells Y_uint8 false (manyN (Int.toNat x) [.int .u8 0])) hv fun b_1 hv_1 => aSome c fun p_1 => gFv (Addr.add p_1 1) hv_1 fun x_1 => isNilF x_1 fun b_2 => bnd (cond b_2 (some (true, hv_1)) (aSome c fun p_2 => gFv (Addr.add p_2 1) hv_1 fun x_2 => gAgg ⟨b, 0, none⟩ 16 hv_1 fun x_3 => aFn x_2 fun g fi cp => bnd (call g (fi ++ ([.agg ⟨x_3⟩, .slice (some ⟨b_1, 0, none⟩) (Int.toNat x) (Int.toNat x)] ++ cp)) hv_1) fun r hv_2 => aBool r fun x_4 => some (!x_4, hv_2))) fun c_1 hv_3 => cond c_1
      (some (.tuple ⟨[.slice none 0 0, .bool false]⟩, hv_3))
      (some (.tuple ⟨[.slice (some ⟨b_1, 0, none⟩) (Int.toNat x) (Int.toNat x), .bool true]⟩, hv_3)))
  | _ => none
noncomputable def X_region_Regions_place : XPoly := fun G _ call run a h => match a with
  | [.pointer r, .int .i64 env, .int .i64 name, .int .i64 right, .int .i64 atv, .int .i64 n] =>
  aSome r fun p => gPtr (Addr.add p 1) h fun x => bnd (call F_caps_Space_Get [.pointer x, .int .i64 env, .int .i64 name] h) fun r_1 hv => as2 r_1 fun r_2 r_3 => aAgg r_2 fun x_1 => aInt .i64 r_3 fun x_2 => nw (.cells Y_api_Cap false [.int .i64 0, .int .i64 0, .int .i64 0, .int .i64 0, .int .i64 0, .int .i64 0]) hv fun b hv_1 => ck (List.length x_1 = 6) (pAgg ⟨b, 0, none⟩ x_1 hv_1 fun hv_2 => cond (ineF x_2 0)
      (some (.tuple ⟨[.int .i64 0, .int .i64 x_2]⟩, hv_2))
      (gInt .i64 (Addr.add ⟨b, 0, none⟩ 1) hv_2 fun x_3 => cond (ieqF (bitAF .i64 x_3 right) 0)
      (some (.tuple ⟨[.int .i64 0, .int .i64 3]⟩, hv_2))
      (bnd (cond (iltF atv 0) (some (true, hv_2)) (some (iltF n 0, hv_2))) fun c hv_3 => bnd (cond c (some (true, hv_3)) (gInt .i64 (Addr.add ⟨b, 0, none⟩ 3) hv_3 fun x_4 => some (iltF x_4 atv, hv_3))) fun c_1 hv_4 => bnd (cond c_1 (some (true, hv_4)) (gInt .i64 (Addr.add ⟨b, 0, none⟩ 3) hv_4 fun x_5 => some (iltF (wrapF .i64 (x_5 - atv)) n, hv_4))) fun c_2 hv_5 => bnd (cond c_2 (some (true, hv_5)) (gInt .i64 (Addr.add ⟨b, 0, none⟩ 0) hv_5 fun x_6 => some (iltF x_6 0, hv_5))) fun c_3 hv_6 => bnd (cond c_3 (some (true, hv_6)) (gInt .i64 (Addr.add ⟨b, 0, none⟩ 0) hv_6 fun x_7 => aSome r fun p_1 => gSl (Addr.add p_1 2) hv_6 fun _ xn _ => some (ileF ((xn : Nat) : Int) x_7, hv_6))) fun c_4 hv_7 => cond c_4
      (some (.tuple ⟨[.int .i64 0, .int .i64 1]⟩, hv_7))
      (aSome r fun p_2 => gSl (Addr.add p_2 2) hv_7 fun x_9 xn_1 _ => gInt .i64 (Addr.add ⟨b, 0, none⟩ 0) hv_7 fun x_10 => aSome x_9 fun p_3 => ckRF x_10 xn_1 (gAgg (Addr.add (bare p_3) (Int.toNat x_10 * 2)) 2 hv_7 fun x_11 => nw (.cells Y_region_span false [.int .i64 0, .int .i64 0]) hv_7 fun b_1 hv_8 => ck (List.length x_11 = 2) (pAgg ⟨b_1, 0, none⟩ x_11 hv_8 fun hv_9 => gInt .i64 (Addr.add ⟨b, 0, none⟩ 2) hv_9 fun x_12 => gInt .i64 (Addr.add ⟨b_1, 0, none⟩ 1) hv_9 fun x_13 => bnd (cond (iltF x_13 (wrapF .i64 (x_12 + atv))) (some (true, hv_9)) (gInt .i64 (Addr.add ⟨b_1, 0, none⟩ 1) hv_9 fun x_14 => gInt .i64 (Addr.add ⟨b, 0, none⟩ 2) hv_9 fun x_15 => some (iltF (wrapF .i64 ((wrapF .i64 (x_14 - x_15)) - atv)) n, hv_9))) fun c_5 hv_10 => cond c_5
      (some (.tuple ⟨[.int .i64 0, .int .i64 1]⟩, hv_10))
      (gInt .i64 (Addr.add ⟨b_1, 0, none⟩ 0) hv_10 fun x_16 => gInt .i64 (Addr.add ⟨b, 0, none⟩ 2) hv_10 fun x_17 => some (.tuple ⟨[.int .i64 (wrapF .i64 ((wrapF .i64 (x_16 + x_17)) + atv)), .int .i64 0]⟩, hv_10))))))))
  | _ => none
noncomputable def X_table_Table_api_Cap_name : XPoly := fun G _ call run a h => match a with
  | [.pointer t, .int .i64 i] =>
  aSome t fun p => gSl (Addr.add p 0) h fun x xn _ => aSome x fun p_1 => ckRF i xn (gInt .i64 (Addr.add (Addr.add (bare p_1) (Int.toNat i * 8)) 6) h fun x_1 => some (.int .i64 (wrapF .i64 (i + (wrapF .i64 (256 * x_1)))), h))
  | _ => none
noncomputable def X_codec_New_api_Pipe : XPoly := fun G _ call run a h => match a with
  | [.int .i64 size, put, get] =>
  one put (one get (nw (.cells Y_codec_Codec_api_Pipe false [.int .i64 (mm2 false (mm2 true size 0) 64), put, get]) h fun b hv => some (.pointer (some ⟨b, 0, none⟩), hv)))
  | _ => none
noncomputable def X_ring_put : XPoly := fun G _ call run a h => match a with
  | [.agg ⟨p⟩, .slice b bn bc] =>
  nw (.cells Y_api_Pipe false p) h fun b_1 hv => gAgg ⟨b_1, 0, none⟩ 36 hv fun x => bnd (call F_ring_Ok [.agg ⟨x⟩] hv) fun r hv_1 => aBool r fun x_1 => cond (!x_1)
      (some (.bool false, hv_1))
      (gInt .i64 (Addr.add ⟨b_1, 0, none⟩ 0) hv_1 fun x_2 => gInt .i64 (Addr.add ⟨b_1, 0, none⟩ 1) hv_1 fun x_3 => gInt .i64 (Addr.add ⟨b_1, 0, none⟩ 2) hv_1 fun x_4 => gInt .i64 (Addr.add ⟨b_1, 0, none⟩ 3) hv_1 fun x_5 => nw (.cells Y_uint8 false [.int .u8 1, .int .u8 (wrapF .u8 (x_2)), .int .u8 (wrapF .u8 (x_3)), .int .u8 (wrapF .u8 (x_4)), .int .u8 (wrapF .u8 (x_5)), .int .u8 197]) hv_1 fun b_2 hv_2 => gCells (some ⟨b_2, 0, none⟩) (min 6 bn * 1) hv_2 fun cs => pCells b cs hv_2 fun hv_3 => ckB (fitsOpen b Y_uint8 hv_3) (ckLF 6 bc (bnd (call F_codec_Sum [.slice (moved b (decide (0 < bc)) (0 * 1)) ((Int.toNat 6) - 0) (bc - 0)] hv_3) fun r_1 hv_4 => aInt .u8 r_1 fun x_6 => aSome b fun p_1 => ckRF 6 bn (pV (Addr.add (bare p_1) (Int.toNat 6 * 1)) (.int .u8 x_6) hv_4 fun hv_5 => ckB (fitsOpen b Y_uint8 hv_5) (ckLF 8 bn (ckB (liveA (Addr.add ⟨b_1, 0, none⟩ 4) hv_5) (gCells (moved (some (Addr.add ⟨b_1, 0, none⟩ 4)) (decide (0 < 32)) (0 * 1)) (min (32 - 0) (bn - (Int.toNat 8)) * 1) hv_5 fun cs_1 => pCells (moved b (decide (Int.toNat 8 < bc)) ((Int.toNat 8) * 1)) cs_1 hv_5 fun hv_6 => some (.bool true, hv_6))))))))
  | _ => none
noncomputable def X_ofile_put : XPoly := fun G _ call run a h => match a with
  | [.agg ⟨f⟩, .slice b bn bc] =>
  nw (.cells Y_api_File false f) h fun b_1 hv => gAgg ⟨b_1, 0, none⟩ 4 hv fun x => bnd (call F_ofile_Ok [.agg ⟨x⟩] hv) fun r hv_1 => aBool r fun x_1 => cond (!x_1)
      (some (.bool false, hv_1))
      (gInt .i64 (Addr.add ⟨b_1, 0, none⟩ 0) hv_1 fun x_2 => gInt .i64 (Addr.add ⟨b_1, 0, none⟩ 1) hv_1 fun x_3 => gInt .i64 (Addr.add ⟨b_1, 0, none⟩ 2) hv_1 fun x_4 => gInt .i64 (Addr.add ⟨b_1, 0, none⟩ 3) hv_1 fun x_5 => nw (.cells Y_uint8 false [.int .u8 (wrapF .u8 (x_2)), .int .u8 (wrapF .u8 (x_3)), .int .u8 (wrapF .u8 (x_4)), .int .u8 (wrapF .u8 (x_5)), .int .u8 179]) hv_1 fun b_2 hv_2 => gCells (some ⟨b_2, 0, none⟩) (min 5 bn * 1) hv_2 fun cs => pCells b cs hv_2 fun hv_3 => ckB (fitsOpen b Y_uint8 hv_3) (ckLF 5 bc (bnd (call F_codec_Sum [.slice (moved b (decide (0 < bc)) (0 * 1)) ((Int.toNat 5) - 0) (bc - 0)] hv_3) fun r_1 hv_4 => aInt .u8 r_1 fun x_6 => aSome b fun p => ckRF 5 bn (pV (Addr.add (bare p) (Int.toNat 5 * 1)) (.int .u8 x_6) hv_4 fun hv_5 => some (.bool true, hv_5)))))
  | _ => none
noncomputable def X_codec_New_api_Proc : XPoly := fun G _ call run a h => match a with
  | [.int .i64 size, put, get] =>
  one put (one get (nw (.cells Y_codec_Codec_api_Proc false [.int .i64 (mm2 false (mm2 true size 0) 64), put, get]) h fun b hv => some (.pointer (some ⟨b, 0, none⟩), hv)))
  | _ => none
noncomputable def X_pslot_put : XPoly := fun G _ call run a h => match a with
  | [.agg ⟨p⟩, .slice b bn bc] =>
  nw (.cells Y_api_Proc false p) h fun b_1 hv => gAgg ⟨b_1, 0, none⟩ 16 hv fun x => bnd (call F_pslot_Ok [.agg ⟨x⟩] hv) fun r hv_1 => aBool r fun x_1 => cond (!x_1)
      (some (.bool false, hv_1))
      (gInt .i64 (Addr.add ⟨b_1, 0, none⟩ 0) hv_1 fun x_2 => gInt .i64 (Addr.add ⟨b_1, 0, none⟩ 1) hv_1 fun x_3 => gInt .i64 (Addr.add ⟨b_1, 0, none⟩ 2) hv_1 fun x_4 => gInt .i64 (Addr.add ⟨b_1, 0, none⟩ 3) hv_1 fun x_5 => nw (.cells Y_int false [.int .i64 x_2, .int .i64 x_3, .int .i64 x_4, .int .i64 x_5]) hv_1 fun b_2 hv_2 => run F_pslot_put 3008 [.slice b bn bc, .pointer (some ⟨b_1, 0, none⟩), .slice (some ⟨b_2, 0, none⟩) 4 4, .int .i64 4, .int .i64 0] hv_2)
  | _ => none
noncomputable def X_pslot_put_L1 : XPoly := fun G _ call run a h => match a with
  | [.slice b bn bc, .pointer (some p), .slice x22 x22n x22c, .int .i64 x23, .int .i64 x24] =>
  cond (iltF x24 x23)
      (aSome x22 fun p_1 => ckRF x24 x22n (gInt .i64 (Addr.add (bare p_1) (Int.toNat x24 * 1)) h fun x => aSome b fun p_2 => ckRF x24 bn (pV (Addr.add (bare p_2) (Int.toNat x24 * 1)) (.int .u8 (wrapF .u8 (x))) h fun hv => run F_pslot_put 3008 [.slice b bn bc, .pointer (some p), .slice x22 x22n x22c, .int .i64 x23, .int .i64 (wrapF .i64 (x24 + 1))] hv)))
      (gInt .i64 (Addr.add p 4) h fun x_1 => gInt .i64 (Addr.add p 5) h fun x_2 => gInt .i64 (Addr.add p 6) h fun x_3 => gInt .i64 (Addr.add p 7) h fun x_4 => nw (.cells Y_int false [.int .i64 x_1, .int .i64 x_2, .int .i64 x_3, .int .i64 x_4]) h fun b_1 hv_1 => run F_pslot_put 3018 [.slice b bn bc, .pointer (some p), .slice (some ⟨b_1, 0, none⟩) 4 4, .int .i64 4, .int .i64 0] hv_1)
  | _ => none
noncomputable def LB_pslot_put_L1 : Lab := ⟨F_pslot_put, 3008, T_pslot_put_L1, [1, 2, 22, 23, 24], X_pslot_put_L1⟩
noncomputable def X_pslot_put_L2 : XPoly := fun G _ call run a h => match a with
  | [.slice b bn bc, .pointer (some p), .slice x43 x43n x43c, .int .i64 x44, .int .i64 x45] =>
  cond (iltF x45 x44)
      (aSome x43 fun p_1 => ckRF x45 x43n (gInt .i64 (Addr.add (bare p_1) (Int.toNat x45 * 1)) h fun x => bnd (call F_codec_Put2 [.slice b bn bc, .int .i64 (wrapF .i64 (4 + (wrapF .i64 (2 * x45)))), .int .i64 x] h) fun r hv => aBool r fun _ => run F_pslot_put 3018 [.slice b bn bc, .pointer (some p), .slice x43 x43n x43c, .int .i64 x44, .int .i64 (wrapF .i64 (x45 + 1))] hv))
      (gAgg (Addr.add p 8) 8 h fun x_2 => run F_pslot_put 3028 [.slice b bn bc, .agg ⟨x_2⟩, .int .i64 0] h)
  | _ => none
noncomputable def LB_pslot_put_L2 : Lab := ⟨F_pslot_put, 3018, T_pslot_put_L2, [1, 2, 43, 44, 45], X_pslot_put_L2⟩
noncomputable def X_pslot_put_L3 : XPoly := fun G _ call run a h => match a with
  | [.slice b bn bc, .agg ⟨x58⟩, .int .i64 x59] =>
  cond (iltF x59 8)
      (ckRF x59 8 (nth x58 (Int.toNat x59 * 1) fun x => aInt .i64 x fun x_1 => aSome b fun p => ckRF (wrapF .i64 (12 + x59)) bn (pV (Addr.add (bare p) (Int.toNat (wrapF .i64 (12 + x59)) * 1)) (.int .u8 (wrapF .u8 (x_1))) h fun hv => run F_pslot_put 3028 [.slice b bn bc, .agg ⟨x58⟩, .int .i64 (wrapF .i64 (x59 + 1))] hv)))
      (aSome b fun p_1 => ckRF 20 bn (pV (Addr.add (bare p_1) (Int.toNat 20 * 1)) (.int .u8 167) h fun hv_1 => ckB (fitsOpen b Y_uint8 hv_1) (ckLF 21 bc (bnd (call F_codec_Sum [.slice (moved b (decide (0 < bc)) (0 * 1)) ((Int.toNat 21) - 0) (bc - 0)] hv_1) fun r hv_2 => aInt .u8 r fun x_2 => aSome b fun p_2 => ckRF 21 bn (pV (Addr.add (bare p_2) (Int.toNat 21 * 1)) (.int .u8 x_2) hv_2 fun hv_3 => some (.bool true, hv_3))))))
  | _ => none
noncomputable def LB_pslot_put_L3 : Lab := ⟨F_pslot_put, 3028, T_pslot_put_L3, [1, 58, 59], X_pslot_put_L3⟩
noncomputable def X_mem_Mem_in : XPoly := fun G _ call run a h => match a with
  | [.pointer m, .int .i64 atv, .int .i64 n] =>
  bnd (cond (ileF 0 atv) (some (ileF 0 n, h)) (some (false, h))) fun c hv => bnd (cond c (aSome m fun p => gSl (Addr.add p 0) hv fun _ xn _ => some (ileF atv ((xn : Nat) : Int), hv)) (some (false, hv))) fun c_1 hv_1 => bnd (cond c_1 (aSome m fun p_1 => gSl (Addr.add p_1 0) hv_1 fun _ xn_1 _ => some (ileF n (wrapF .i64 (((xn_1 : Nat) : Int) - atv)), hv_1)) (some (false, hv_1))) fun c_2 hv_2 => some (.bool c_2, hv_2)
  | _ => none
noncomputable def X_table_Table_api_Cap_Get : XPoly := fun G _ call run a h => match a with
  | [.pointer t, .int .i64 name] =>
  nw (.cells Y_api_Cap false [.int .i64 0, .int .i64 0, .int .i64 0, .int .i64 0, .int .i64 0, .int .i64 0]) h fun b hv => bnd (call F_table_Table_api_Cap_at [.pointer t, .int .i64 name] hv) fun r hv_1 => aPtr r fun x => cond x.isNone
      (nw (.cells Y_api_Cap false [.int .i64 0, .int .i64 0, .int .i64 0, .int .i64 0, .int .i64 0, .int .i64 0]) hv_1 fun b_1 hv_2 => gAgg ⟨b_1, 0, none⟩ 6 hv_2 fun x_1 => ck (List.length x_1 = 6) (pAgg ⟨b, 0, none⟩ x_1 hv_2 fun hv_3 => gAgg ⟨b, 0, none⟩ 6 hv_3 fun x_2 => some (.tuple ⟨[.agg ⟨x_2⟩, .bool false]⟩, hv_3)))
      (aSome x fun p => gAgg (Addr.add p 0) 6 hv_1 fun x_3 => ck (List.length x_3 = 6) (pAgg ⟨b, 0, none⟩ x_3 hv_1 fun hv_4 => gAgg ⟨b, 0, none⟩ 6 hv_4 fun x_4 => some (.tuple ⟨[.agg ⟨x_4⟩, .bool true]⟩, hv_4)))
  | _ => none
noncomputable def X_ofile_Ok : XPoly := fun G _ call run a h => match a with
  | [.agg ⟨f⟩] =>
  nw (.cells Y_api_File false f) h fun b hv => gInt .i64 (Addr.add ⟨b, 0, none⟩ 0) hv fun x => bnd (cond (ileF 1 x) (gInt .i64 (Addr.add ⟨b, 0, none⟩ 0) hv fun x_1 => some (ileF x_1 3, hv)) (some (false, hv))) fun c hv_1 => bnd (cond c (gInt .i64 (Addr.add ⟨b, 0, none⟩ 1) hv_1 fun x_2 => some (ileF 0 x_2, hv_1)) (some (false, hv_1))) fun c_1 hv_2 => bnd (cond c_1 (gInt .i64 (Addr.add ⟨b, 0, none⟩ 1) hv_2 fun x_3 => some (ileF x_3 7, hv_2)) (some (false, hv_2))) fun c_2 hv_3 => bnd (cond c_2 (gInt .i64 (Addr.add ⟨b, 0, none⟩ 0) hv_3 fun x_4 => bnd (cond (ineF x_4 3) (some (true, hv_3)) (gInt .i64 (Addr.add ⟨b, 0, none⟩ 1) hv_3 fun x_5 => some (ieqF x_5 0, hv_3))) fun c_3 hv_4 => some (c_3, hv_4)) (some (false, hv_3))) fun c_4 hv_5 => bnd (cond c_4 (gInt .i64 (Addr.add ⟨b, 0, none⟩ 2) hv_5 fun x_6 => some (ileF 1 x_6, hv_5)) (some (false, hv_5))) fun c_5 hv_6 => bnd (cond c_5 (gInt .i64 (Addr.add ⟨b, 0, none⟩ 2) hv_6 fun x_7 => some (ileF x_7 64, hv_6)) (some (false, hv_6))) fun c_6 hv_7 => bnd (cond c_6 (gInt .i64 (Addr.add ⟨b, 0, none⟩ 3) hv_7 fun x_8 => bnd (cond (ieqF x_8 0) (some (true, hv_7)) (gInt .i64 (Addr.add ⟨b, 0, none⟩ 3) hv_7 fun x_9 => some (ieqF x_9 1, hv_7))) fun c_7 hv_8 => some (c_7, hv_8)) (some (false, hv_7))) fun c_8 hv_9 => some (.bool c_8, hv_9)
  | _ => none
noncomputable def X_pslot_Ok : XPoly := fun G _ call run a h => match a with
  | [.agg ⟨p⟩] =>
  nw (.cells Y_api_Proc false p) h fun b hv => gInt .i64 (Addr.add ⟨b, 0, none⟩ 0) hv fun x => bnd (cond (iltF x 1) (some (true, hv)) (gInt .i64 (Addr.add ⟨b, 0, none⟩ 0) hv fun x_1 => some (iltF 3 x_1, hv))) fun c hv_1 => bnd (cond c (some (true, hv_1)) (gInt .i64 (Addr.add ⟨b, 0, none⟩ 1) hv_1 fun x_2 => some (iltF x_2 0, hv_1))) fun c_1 hv_2 => bnd (cond c_1 (some (true, hv_2)) (gInt .i64 (Addr.add ⟨b, 0, none⟩ 1) hv_2 fun x_3 => some (iltF 8 x_3, hv_2))) fun c_2 hv_3 => bnd (cond c_2 (some (true, hv_3)) (gInt .i64 (Addr.add ⟨b, 0, none⟩ 2) hv_3 fun x_4 => some (iltF x_4 0, hv_3))) fun c_3 hv_4 => bnd (cond c_3 (some (true, hv_4)) (gInt .i64 (Addr.add ⟨b, 0, none⟩ 2) hv_4 fun x_5 => some (ileF 8 x_5, hv_4))) fun c_4 hv_5 => bnd (cond c_4 (some (true, hv_5)) (gInt .i64 (Addr.add ⟨b, 0, none⟩ 3) hv_5 fun x_6 => some (iltF x_6 0, hv_5))) fun c_5 hv_6 => bnd (cond c_5 (some (true, hv_6)) (gInt .i64 (Addr.add ⟨b, 0, none⟩ 3) hv_6 fun x_7 => some (iltF 255 x_7, hv_6))) fun c_6 hv_7 => cond c_6
      (some (.bool false, hv_7))
      (gInt .i64 (Addr.add ⟨b, 0, none⟩ 4) hv_7 fun x_8 => bnd (call F_pslot_bits [.int .i64 x_8, .int .i64 0] hv_7) fun r hv_8 => aBool r fun x_9 => bnd (cond (!x_9) (some (true, hv_8)) (gInt .i64 (Addr.add ⟨b, 0, none⟩ 5) hv_8 fun x_10 => bnd (call F_pslot_bits [.int .i64 x_10, .int .i64 16896] hv_8) fun r_1 hv_9 => aBool r_1 fun x_11 => some (!x_11, hv_9))) fun c_7 hv_10 => bnd (cond c_7 (some (true, hv_10)) (gInt .i64 (Addr.add ⟨b, 0, none⟩ 6) hv_10 fun x_12 => bnd (call F_pslot_bits [.int .i64 x_12, .int .i64 16896] hv_10) fun r_2 hv_11 => aBool r_2 fun x_13 => some (!x_13, hv_11))) fun c_8 hv_12 => bnd (cond c_8 (some (true, hv_12)) (gInt .i64 (Addr.add ⟨b, 0, none⟩ 7) hv_12 fun x_14 => bnd (call F_pslot_bits [.int .i64 x_14, .int .i64 16896] hv_12) fun r_3 hv_13 => aBool r_3 fun x_15 => some (!x_15, hv_13))) fun c_9 hv_14 => bnd (cond c_9 (some (true, hv_14)) (gInt .i64 (Addr.add ⟨b, 0, none⟩ 6) hv_14 fun x_16 => gInt .i64 (Addr.add ⟨b, 0, none⟩ 7) hv_14 fun x_17 => some (ineF (bitAF .i64 x_16 x_17) 0, hv_14))) fun c_10 hv_15 => cond c_10
      (some (.bool false, hv_15))
      (ckB (liveA (Addr.add ⟨b, 0, none⟩ 8) hv_15) (bnd (call F_slices_ContainsFunc_s_int_int [.slice (moved (some (Addr.add ⟨b, 0, none⟩ 8)) (decide (0 < 8)) (0 * 1)) (8 - 0) (8 - 0), .func (.func F_pslot_Ok_1) ⟨[]⟩ ⟨[]⟩] hv_15) fun r_4 hv_16 => aBool r_4 fun x_18 => cond x_18
      (some (.bool false, hv_16))
      (gInt .i64 (Addr.add ⟨b, 0, none⟩ 0) hv_16 fun x_19 => cond (ieqF x_19 2)
      (gInt .i64 (Addr.add ⟨b, 0, none⟩ 4) hv_16 fun x_20 => bnd (cond (ieqF x_20 0) (gAgg (Addr.add ⟨b, 0, none⟩ 8) 8 hv_16 fun x_21 => eqAgg PR Y_8_int x_21 [.int .i64 0, .int .i64 0, .int .i64 0, .int .i64 0, .int .i64 0, .int .i64 0, .int .i64 0, .int .i64 0] fun eq => some (eq, hv_16)) (some (false, hv_16))) fun c_11 hv_17 => some (.bool c_11, hv_17))
      (gInt .i64 (Addr.add ⟨b, 0, none⟩ 3) hv_16 fun x_22 => some (.bool (ieqF x_22 0), hv_16))))))
  | _ => none
noncomputable def X_codec_Put2 : XPoly := fun G _ call run a h => match a with
  | [.slice b bn bc, .int .i64 atv, .int .i64 n] =>
  bnd (cond (iltF atv 0) (some (true, h)) (some (iltF (wrapF .i64 (((bn : Nat) : Int) - 2)) atv, h))) fun c hv => bnd (cond c (some (true, hv)) (some (iltF n 0, hv))) fun c_1 hv_1 => bnd (cond c_1 (some (true, hv_1)) (some (iltF 65535 n, hv_1))) fun c_2 hv_2 => cond c_2
      (some (.bool false, hv_2))
      (aSome b fun p => ckRF atv bn (pV (Addr.add (bare p) (Int.toNat atv * 1)) (.int .u8 (wrapF .u8 (Int.fdiv n (2 ^ 8)))) hv_2 fun hv_3 => aSome b fun p_1 => ckRF (wrapF .i64 (atv + 1)) bn (pV (Addr.add (bare p_1) (Int.toNat (wrapF .i64 (atv + 1)) * 1)) (.int .u8 (wrapF .u8 (n))) hv_3 fun hv_4 => some (.bool true, hv_4))))
  | _ => none
end Go.EQ

set_option maxRecDepth 100000
set_option linter.unusedVariables false
namespace Go.EQ
open Go Go.Proofs
open Go.NN hiding bnd ld gInt gBool gStr gPtr gSl gMap gFv gAgg gCells nw pV pAgg pCells apd fitsOpen liveA mapAt
open Go.NP Go.NW
noncomputable def X_law24_awake : XPoly := fun G _ call run a h => match a with
  | [] =>
  nw (.cells Y_bool false [.bool true, .bool false, .bool false]) h fun b hv => nw (.cells Y_api_Bridge false [.int .i64 1, .int .i64 0]) hv fun b_1 hv_1 => bnd (call F_taint_Closure [.agg ⟨[.slice (some ⟨b, 0, none⟩) 3 3, .slice (some ⟨b_1, 0, none⟩) 1 1, .int .i64 1]⟩] hv_1) fun r hv_2 => aSl r fun x xn _ => nw (.cells Y_bool false [.bool false]) hv_2 fun b_2 hv_3 => bnd (call F_taint_Differ [.agg ⟨[.slice (some ⟨b_2, 0, none⟩) 1 1, .slice none 0 0, .int .i64 1]⟩, .slice none 0 0] hv_3) fun r_1 hv_4 => as2 r_1 fun r_2 r_3 => aInt .i64 r_2 fun x_1 => aInt .i64 r_3 fun x_2 => bnd (cond (ieqF ((xn : Nat) : Int) 3) (aSome x fun p => ckRF 0 xn (gBool (Addr.add (bare p) (Int.toNat 0 * 1)) hv_4 fun x_3 => some (x_3, hv_4))) (some (false, hv_4))) fun c hv_5 => bnd (cond c (aSome x fun p_1 => ckRF 1 xn (gBool (Addr.add (bare p_1) (Int.toNat 1 * 1)) hv_5 fun x_4 => some (x_4, hv_5))) (some (false, hv_5))) fun c_1 hv_6 => bnd (cond c_1 (aSome x fun p_2 => ckRF 2 xn (gBool (Addr.add (bare p_2) (Int.toNat 2 * 1)) hv_6 fun x_5 => some (!x_5, hv_6))) (some (false, hv_6))) fun c_2 hv_7 => bnd (cond c_2 (some (ieqF x_1 (-1), hv_7)) (some (false, hv_7))) fun c_3 hv_8 => bnd (cond c_3 (some (ieqF x_2 0, hv_8)) (some (false, hv_8))) fun c_4 hv_9 => some (.bool c_4, hv_9)
  | _ => none
noncomputable def X_taint_Closure : XPoly := fun G _ call run a h => match a with
  | [.agg ⟨p⟩] =>
  nw (.cells Y_api_Plan false p) h fun b hv => gAgg ⟨b, 0, none⟩ 3 hv fun x => bnd (call F_world_Check [.agg ⟨x⟩] hv) fun r hv_1 => aInt .i64 r fun x_1 => cond (ineF x_1 0)
      (some (.slice none 0 0, hv_1))
      (gSl (Addr.add ⟨b, 0, none⟩ 0) hv_1 fun x_2 xn xc => bnd (call F_slices_Clone_s_bool_bool [.slice x_2 xn xc] hv_1) fun r_1 hv_2 => aSl r_1 fun x_3 xn_1 xc_1 => gSl (Addr.add ⟨b, 0, none⟩ 0) hv_2 fun _ xn_2 _ => run F_taint_Closure 3010 [.pointer (some ⟨b, 0, none⟩), .slice x_3 xn_1 xc_1, .int .i64 ((xn_2 : Nat) : Int), .int .i64 0] hv_2)
  | _ => none
noncomputable def X_taint_Closure_L1 : XPoly := fun G _ call run a h => match a with
  | [.pointer (some p), .slice out outn outc, .int .i64 x14, .int .i64 x15] =>
  cond (iltF x15 x14)
      (gSl (Addr.add p 1) h fun x xn xc => run F_taint_Closure 7014 [.pointer (some p), .slice out outn outc, .int .i64 x14, .int .i64 x15, .slice x xn xc, .int .i64 ((xn : Nat) : Int), .int .i64 0] h)
      (some (.slice out outn outc, h))
  | _ => none
noncomputable def LB_taint_Closure_L1 : Lab := ⟨F_taint_Closure, 3010, T_taint_Closure_L1, [1, 3, 14, 15], X_taint_Closure_L1⟩
noncomputable def X_taint_Closure_L2 : XPoly := fun G _ call run a h => match a with
  | [.pointer (some p), .slice out outn outc, .int .i64 x14, .int .i64 x15, .slice x18 x18n x18c, .int .i64 x19, .int .i64 x20] =>
  cond (iltF x20 x19)
      (aSome x18 fun p_1 => ckRF x20 x18n (gAgg (Addr.add (bare p_1) (Int.toNat x20 * 2)) 2 h fun x => nw (.cells Y_api_Bridge false [.int .i64 0, .int .i64 0]) h fun b hv => ck (List.length x = 2) (pAgg ⟨b, 0, none⟩ x hv fun hv_1 => gInt .i64 (Addr.add ⟨b, 0, none⟩ 0) hv_1 fun x_1 => aSome out fun p_2 => ckRF x_1 outn (gBool (Addr.add (bare p_2) (Int.toNat x_1 * 1)) hv_1 fun x_2 => bnd (cond x_2 (some (true, hv_1)) (gInt .i64 (Addr.add ⟨b, 0, none⟩ 1) hv_1 fun x_3 => aSome out fun p_3 => ckRF x_3 outn (gBool (Addr.add (bare p_3) (Int.toNat x_3 * 1)) hv_1 fun x_4 => some (x_4, hv_1)))) fun c hv_2 => cond c
      (gInt .i64 (Addr.add ⟨b, 0, none⟩ 0) hv_2 fun x_5 => gInt .i64 (Addr.add ⟨b, 0, none⟩ 1) hv_2 fun x_6 => aSome out fun p_4 => ckRF x_5 outn (pV (Addr.add (bare p_4) (Int.toNat x_5 * 1)) (.bool true) hv_2 fun hv_3 => gInt .i64 (Addr.add ⟨b, 0, none⟩ 1) hv_3 fun x_7 => same (.int .i64 x_6) (.int .i64 x_7) (aSome out fun p_5 => ckRF x_6 outn (pV (Addr.add (bare p_5) (Int.toNat x_6 * 1)) (.bool true) hv_3 fun hv_4 => run F_taint_Closure 7014 [.pointer (some p), .slice out outn outc, .int .i64 x14, .int .i64 x15, .slice x18 x18n x18c, .int .i64 x19, .int .i64 (wrapF .i64 (x20 + 1))] hv_4))))
      (run F_taint_Closure 7014 [.pointer (some p), .slice out outn outc, .int .i64 x14, .int .i64 x15, .slice x18 x18n x18c, .int .i64 x19, .int .i64 (wrapF .i64 (x20 + 1))] hv_2)))))
      (run F_taint_Closure 3010 [.pointer (some p), .slice out outn outc, .int .i64 x14, .int .i64 (wrapF .i64 (x15 + 1))] h)
  | _ => none
noncomputable def LB_taint_Closure_L2 : Lab := ⟨F_taint_Closure, 7014, T_taint_Closure_L2, [1, 3, 14, 15, 18, 19, 20], X_taint_Closure_L2⟩
noncomputable def X_taint_Differ : XPoly := fun G _ call run a h => match a with
  | [.agg ⟨p⟩, .slice l ln lc] =>
  nw (.cells Y_api_Plan false p) h fun b hv => gAgg ⟨b, 0, none⟩ 3 hv fun x => bnd (call F_world_Run [.agg ⟨x⟩, .slice l ln lc] hv) fun r hv_1 => as2 r fun r_1 r_2 => aSl r_1 fun x_1 xn xc => aInt .i64 r_2 fun x_2 => cond (ineF x_2 0)
      (some (.tuple ⟨[.int .i64 0, .int .i64 x_2]⟩, hv_1))
      (gAgg ⟨b, 0, none⟩ 3 hv_1 fun x_3 => bnd (call F_taint_Clean [.slice l ln lc] hv_1) fun r_3 hv_2 => aSl r_3 fun x_4 xn_1 xc_1 => gAgg ⟨b, 0, none⟩ 3 hv_2 fun x_5 => same (.agg ⟨x_3⟩) (.agg ⟨x_5⟩) (bnd (call F_world_Run [.agg ⟨x_3⟩, .slice x_4 xn_1 xc_1] hv_2) fun r_4 hv_3 => as2 r_4 fun r_5 r_6 => aSl r_5 fun x_6 xn_2 xc_2 => aInt .i64 r_6 fun _ => gAgg ⟨b, 0, none⟩ 3 hv_3 fun x_8 => gAgg ⟨b, 0, none⟩ 3 hv_3 fun x_9 => bnd (call F_taint_Only [.agg ⟨x_8⟩, .slice x_1 xn xc] hv_3) fun r_7 hv_4 => aSl r_7 fun x_10 xn_3 xc_3 => gAgg ⟨b, 0, none⟩ 3 hv_4 fun x_11 => same (.agg ⟨x_9⟩) (.agg ⟨x_11⟩) (bnd (call F_taint_Only [.agg ⟨x_9⟩, .slice x_6 xn_2 xc_2] hv_4) fun r_8 hv_5 => aSl r_8 fun x_12 xn_4 xc_4 => run F_taint_Differ 3014 [.slice x_10 xn_3 xc_3, .slice x_12 xn_4 xc_4, .int .i64 (mm2 true ((xn_3 : Nat) : Int) ((xn_4 : Nat) : Int)), .int .i64 0] hv_5)))
  | _ => none
noncomputable def X_taint_Differ_L1 : XPoly := fun G _ call run a h => match a with
  | [.slice a an ac, .slice b bn bc, .int .i64 x37, .int .i64 x38] =>
  cond (iltF x38 x37)
      (bnd (cond (ileF ((an : Nat) : Int) x38) (some (true, h)) (some (ileF ((bn : Nat) : Int) x38, h))) fun c hv => bnd (cond c (some (true, hv)) (aSome a fun p => ckRF x38 an (gAgg (Addr.add (bare p) (Int.toNat x38 * 12)) 12 hv fun x => aSome b fun p_1 => ckRF x38 bn (gAgg (Addr.add (bare p_1) (Int.toNat x38 * 12)) 12 hv fun x_1 => bnd (call F_taint_Same [.agg ⟨x⟩, .agg ⟨x_1⟩] hv) fun r hv_1 => aBool r fun x_2 => some (!x_2, hv_1))))) fun c_1 hv_2 => cond c_1
      (some (.tuple ⟨[.int .i64 x38, .int .i64 0]⟩, hv_2))
      (run F_taint_Differ 3014 [.slice a an ac, .slice b bn bc, .int .i64 x37, .int .i64 (wrapF .i64 (x38 + 1))] hv_2))
      (some (.tuple ⟨[.int .i64 (-1), .int .i64 0]⟩, h))
  | _ => none
noncomputable def LB_taint_Differ_L1 : Lab := ⟨F_taint_Differ, 3014, T_taint_Differ_L1, [6, 8, 37, 38], X_taint_Differ_L1⟩
noncomputable def X_world_Run : XPoly := fun G _ call run a h => match a with
  | [.agg ⟨p⟩, .slice l ln lc] =>
  nw (.cells Y_api_Plan false p) h fun b hv => gAgg ⟨b, 0, none⟩ 3 hv fun x => bnd (call F_world_New [.agg ⟨x⟩] hv) fun r hv_1 => as2 r fun r_1 r_2 => aPtr r_1 fun x_1 => aInt .i64 r_2 fun x_2 => cond (ineF x_2 0)
      (some (.tuple ⟨[.slice none 0 0, .int .i64 x_2]⟩, hv_1))
      (run F_world_Run 3012 [.pointer x_1, .slice none 0 0, .slice l ln lc, .int .i64 ((ln : Nat) : Int), .int .i64 0] hv_1)
  | _ => none
noncomputable def X_world_Run_L1 : XPoly := fun G _ call run a h => match a with
  | [.pointer wv, .slice out outn outc, .slice x21 x21n x21c, .int .i64 x22, .int .i64 x23] =>
  cond (iltF x23 x22)
      (aSome x21 fun p => ckRF x23 x21n (gAgg (Addr.add (bare p) (Int.toNat x23 * 16)) 16 h fun x => nw (.cells Y_api_Step false [.int .i64 0, .int .i64 0, .int .i64 0, .int .i64 0, .slice none 0 0, .int .i64 0, .int .i64 0, .int .i64 0, .slice none 0 0, .int .i64 0, .int .i64 0, .int .i64 0, .int .i64 0, .int .i64 0, .int .i64 0, .slice none 0 0]) h fun b hv => ck (List.length x = 16) (pAgg ⟨b, 0, none⟩ x hv fun hv_1 => gAgg ⟨b, 0, none⟩ 16 hv_1 fun x_1 => bnd (call F_world_World_Do [.pointer wv, .agg ⟨x_1⟩] hv_1) fun r hv_2 => as2 r fun r_1 r_2 => aAgg r_1 fun x_2 => aBool r_2 fun x_3 => nw (.cells Y_api_Out false [.int .i64 0, .int .i64 0, .int .i64 0, .int .i64 0, .int .i64 0, .slice none 0 0, .int .i64 0, .int .i64 0, .slice none 0 0, .bool false, .slice none 0 0, .int .i64 0]) hv_2 fun b_1 hv_3 => ck (List.length x_2 = 12) (pAgg ⟨b_1, 0, none⟩ x_2 hv_3 fun hv_4 => cond x_3
      (gAgg ⟨b_1, 0, none⟩ 12 hv_4 fun x_4 => ck (List.length x_4 = 12) (nw (.cells Y_api_Out false (x_4 ++ [])) hv_4 fun b_2 hv_5 => gCells (some ⟨b_2, 0, none⟩) (1 * 12) hv_5 fun cs => ckB (fitsOpen out Y_api_Out hv_5) (apd Y_api_Out 12 out outn outc 1 cs hv_5 fun a an ac hv_6 => run F_world_Run 3012 [.pointer wv, .slice a an ac, .slice x21 x21n x21c, .int .i64 x22, .int .i64 (wrapF .i64 (x23 + 1))] hv_6)))
      (run F_world_Run 3012 [.pointer wv, .slice out outn outc, .slice x21 x21n x21c, .int .i64 x22, .int .i64 (wrapF .i64 (x23 + 1))] hv_4)))))
      (some (.tuple ⟨[.slice out outn outc, .int .i64 0]⟩, h))
  | _ => none
noncomputable def LB_world_Run_L1 : Lab := ⟨F_world_Run, 3012, T_world_Run_L1, [6, 8, 21, 22, 23], X_world_Run_L1⟩
noncomputable def X_taint_Clean : XPoly := fun G _ call run a h => match a with
  | [.slice l ln lc] =>
  bnd (call F_slices_Clone_s_api_Step_api_Step [.slice l ln lc] h) fun r hv => aSl r fun x xn xc => run F_taint_Clean 3006 [.slice x xn xc, .slice x xn xc, .int .i64 ((xn : Nat) : Int), .int .i64 0] hv
  | _ => none
noncomputable def X_taint_Clean_L1 : XPoly := fun G _ call run a h => match a with
  | [.slice out outn outc, .slice x8 x8n x8c, .int .i64 x9, .int .i64 x10] =>
  cond (iltF x10 x9)
      (aSome x8 fun p => ckRF x10 x8n (gAgg (Addr.add (bare p) (Int.toNat x10 * 16)) 16 h fun x => nw (.cells Y_api_Step false [.int .i64 0, .int .i64 0, .int .i64 0, .int .i64 0, .slice none 0 0, .int .i64 0, .int .i64 0, .int .i64 0, .slice none 0 0, .int .i64 0, .int .i64 0, .int .i64 0, .int .i64 0, .int .i64 0, .int .i64 0, .slice none 0 0]) h fun b hv => ck (List.length x = 16) (pAgg ⟨b, 0, none⟩ x hv fun hv_1 => gInt .i64 (Addr.add ⟨b, 0, none⟩ 0) hv_1 fun x_1 => cond (ieqF x_1 5)
      (aSome out fun p_1 => ckRF x10 outn (pAgg (Addr.add (bare p_1) (Int.toNat x10 * 16)) [.int .i64 0, .int .i64 0, .int .i64 0, .int .i64 0, .slice none 0 0, .int .i64 0, .int .i64 0, .int .i64 0, .slice none 0 0, .int .i64 0, .int .i64 0, .int .i64 0, .int .i64 0, .int .i64 0, .int .i64 0, .slice none 0 0] hv_1 fun hv_2 => run F_taint_Clean 3006 [.slice out outn outc, .slice x8 x8n x8c, .int .i64 x9, .int .i64 (wrapF .i64 (x10 + 1))] hv_2))
      (run F_taint_Clean 3006 [.slice out outn outc, .slice x8 x8n x8c, .int .i64 x9, .int .i64 (wrapF .i64 (x10 + 1))] hv_1))))
      (some (.slice out outn outc, h))
  | _ => none
noncomputable def LB_taint_Clean_L1 : Lab := ⟨F_taint_Clean, 3006, T_taint_Clean_L1, [3, 8, 9, 10], X_taint_Clean_L1⟩
noncomputable def X_world_New : XPoly := fun G _ call run a h => match a with
  | [.agg ⟨p⟩] =>
  nw (.cells Y_api_Plan false p) h fun b hv => gAgg ⟨b, 0, none⟩ 3 hv fun x => bnd (call F_world_Check [.agg ⟨x⟩] hv) fun r hv_1 => aInt .i64 r fun x_1 => cond (ineF x_1 0)
      (some (.tuple ⟨[.pointer none, .int .i64 x_1]⟩, hv_1))
      (gAgg ⟨b, 0, none⟩ 3 hv_1 fun x_2 => bnd (call F_world_Boot [.agg ⟨x_2⟩] hv_1) fun r_1 hv_2 => aAgg r_1 fun x_3 => bnd (call F_kern_New [.agg ⟨x_3⟩] hv_2) fun r_2 hv_3 => as2 r_2 fun r_3 r_4 => aPtr r_3 fun x_4 => aInt .i64 r_4 fun x_5 => cond (ineF x_5 0)
      (some (.tuple ⟨[.pointer none, .int .i64 x_5]⟩, hv_3))
      (nw (.cells Y_bool false []) hv_3 fun b_1 hv_4 => gSl (Addr.add ⟨b, 0, none⟩ 0) hv_4 fun x_6 xn _ => nw (.cells Y_api_Bridge false []) hv_4 fun b_2 hv_5 => gSl (Addr.add ⟨b, 0, none⟩ 1) hv_5 fun x_7 xn_1 xc_1 => gInt .i64 (Addr.add ⟨b, 0, none⟩ 2) hv_5 fun x_8 => gCells x_6 (xn * 1) hv_5 fun cs => ckB (fitsOpen (some ⟨b_1, 0, none⟩) Y_bool hv_5) (apd Y_bool 1 (some ⟨b_1, 0, none⟩) 0 0 xn cs hv_5 fun a an ac hv_6 => gSl (Addr.add ⟨b, 0, none⟩ 1) hv_6 fun x_9 xn_2 xc_2 => same (.slice x_7 xn_1 xc_1) (.slice x_9 xn_2 xc_2) (gInt .i64 (Addr.add ⟨b, 0, none⟩ 2) hv_6 fun x_10 => same (.int .i64 x_8) (.int .i64 x_10) (gCells x_7 (xn_1 * 2) hv_6 fun cs_1 => ckB (fitsOpen (some ⟨b_2, 0, none⟩) Y_api_Bridge hv_6) (apd Y_api_Bridge 2 (some ⟨b_2, 0, none⟩) 0 0 xn_1 cs_1 hv_6 fun a_1 an_1 ac_1 hv_7 => gInt .i64 (Addr.add ⟨b, 0, none⟩ 2) hv_7 fun x_11 => same (.int .i64 x_8) (.int .i64 x_11) (nw (.cells Y_world_World false [.slice a an ac, .slice a_1 an_1 ac_1, .int .i64 x_8, .pointer x_4, .slice none 0 0]) hv_7 fun b_3 hv_8 => gSl (Addr.add ⟨b, 0, none⟩ 0) hv_8 fun _ xn_3 _ => run F_world_New 3018 [.pointer x_4, .pointer (some ⟨b_3, 0, none⟩), .int .i64 ((xn_3 : Nat) : Int), .int .i64 0] hv_8)))))))
  | _ => none
noncomputable def X_world_New_L1 : XPoly := fun G _ call run a h => match a with
  | [.pointer k, .pointer (some wv), .int .i64 x43, .int .i64 x44] =>
  cond (iltF x44 x43)
      (bnd (call F_world_World_begin [.pointer (some wv), .int .i64 x44] h) fun r hv => as0 r (run F_world_New 8028 [.pointer k, .pointer (some wv), .int .i64 x44, .slice none 0 0, .int .i64 x43, .int .i64 x44, .int .i64 0] hv))
      (some (.tuple ⟨[.pointer (some wv), .int .i64 0]⟩, h))
  | _ => none
noncomputable def LB_world_New_L1 : Lab := ⟨F_world_New, 3018, T_world_New_L1, [5, 7, 43, 44], X_world_New_L1⟩
noncomputable def X_world_New_L2 : XPoly := fun G _ call run a h => match a with
  | [.pointer k, .pointer (some wv), .int .i64 s, .slice l ln lc, .int .i64 x43, .int .i64 x44, .int .i64 x50] =>
  cond (iltF x50 8)
      (bnd (call F_host_New [.pointer k, .int .i64 (wrapF .i64 ((wrapF .i64 (9 * s)) + x50)), .int .i64 x50, .int .i64 s] h) fun r hv => as2 r fun r_1 r_2 => aPtr r_1 fun x => aInt .i64 r_2 fun _ => nw (.cells Y_p_host_Host false [.pointer x]) hv fun b hv_1 => gCells (some ⟨b, 0, none⟩) (1 * 1) hv_1 fun cs => ckB (fitsOpen l Y_p_host_Host hv_1) (apd Y_p_host_Host 1 l ln lc 1 cs hv_1 fun a an ac hv_2 => run F_world_New 8028 [.pointer k, .pointer (some wv), .int .i64 s, .slice a an ac, .int .i64 x43, .int .i64 x44, .int .i64 (wrapF .i64 (x50 + 1))] hv_2))
      (gSl (Addr.add wv 4) h fun x_2 xn xc => nw (.cells Y_s_p_host_Host false [.slice l ln lc]) h fun b_1 hv_3 => gCells (some ⟨b_1, 0, none⟩) (1 * 1) hv_3 fun cs_1 => ckB (fitsOpen x_2 Y_s_p_host_Host hv_3) (apd Y_s_p_host_Host 1 x_2 xn xc 1 cs_1 hv_3 fun a_1 an_1 ac_1 hv_4 => pV (Addr.add wv 4) (.slice a_1 an_1 ac_1) hv_4 fun hv_5 => run F_world_New 3018 [.pointer k, .pointer (some wv), .int .i64 x43, .int .i64 (wrapF .i64 (x44 + 1))] hv_5))
  | _ => none
noncomputable def LB_world_New_L2 : Lab := ⟨F_world_New, 8028, T_world_New_L2, [5, 7, 8, 9, 43, 44, 50], X_world_New_L2⟩
noncomputable def X_slices_Clone_s_api_Step_api_Step : XPoly := fun G _ call run a h => match a with
  | [.slice s sn sc] =>
  cond s.isNone
      (some (.slice none 0 0, h))
      (nw (.cells Y_api_Step false []) h fun b hv => gCells s (sn * 16) hv fun cs => ckB (fitsOpen (some ⟨b, 0, none⟩) Y_api_Step hv) (apd Y_api_Step 16 (some ⟨b, 0, none⟩) 0 0 sn cs hv fun a an ac hv_1 => some (.slice a an ac, hv_1)))
  | _ => none
noncomputable def X_world_Boot : XPoly := fun G _ call run a h => match a with
  | [.agg ⟨p⟩] =>
  nw (.cells Y_api_Plan false p) h fun b hv => nw (.cells Y_api_Boot false [.slice none 0 0, .slice none 0 0, .slice none 0 0, .int .i64 0, .slice none 0 0]) hv fun b_1 hv_1 => gAgg ⟨b, 0, none⟩ 3 hv_1 fun x => bnd (call F_world_Check [.agg ⟨x⟩] hv_1) fun r hv_2 => aInt .i64 r fun x_1 => cond (ineF x_1 0)
      (pAgg ⟨b_1, 0, none⟩ [.slice none 0 0, .slice none 0 0, .slice none 0 0, .int .i64 0, .slice none 0 0] hv_2 fun hv_3 => gAgg ⟨b_1, 0, none⟩ 5 hv_3 fun x_2 => some (.agg ⟨x_2⟩, hv_3))
      (gInt .i64 (Addr.add ⟨b, 0, none⟩ 2) hv_2 fun x_3 => nw (.cells Y_api_Boot false [.slice none 0 0, .slice none 0 0, .slice none 0 0, .int .i64 0, .slice none 0 0]) hv_2 fun b_2 hv_4 => pAgg ⟨b_2, 0, none⟩ [.slice none 0 0, .slice none 0 0, .slice none 0 0, .int .i64 x_3, .slice none 0 0] hv_4 fun hv_5 => gSl (Addr.add ⟨b, 0, none⟩ 0) hv_5 fun _ xn _ => run F_world_Boot 3010 [.pointer (some ⟨b, 0, none⟩), .pointer (some ⟨b_1, 0, none⟩), .pointer (some ⟨b_2, 0, none⟩), .int .i64 ((xn : Nat) : Int), .int .i64 0] hv_5)
  | _ => none
noncomputable def X_world_Boot_L1 : XPoly := fun G _ call run a h => match a with
  | [.pointer (some p), .pointer (some x2), .pointer (some c), .int .i64 x16, .int .i64 x17] =>
  cond (iltF x17 x16)
      (gSl (Addr.add c 0) h fun x xn xc => nw (.cells Y_int false [.int .i64 20]) h fun b hv => gCells (some ⟨b, 0, none⟩) (1 * 1) hv fun cs => ckB (fitsOpen x Y_int hv) (apd Y_int 1 x xn xc 1 cs hv fun a an ac hv_1 => pV (Addr.add c 0) (.slice a an ac) hv_1 fun hv_2 => run F_world_Boot 8018 [.pointer (some p), .pointer (some x2), .pointer (some c), .int .i64 x17, .int .i64 x16, .int .i64 x17, .int .i64 0] hv_2))
      (gSl (Addr.add p 1) h fun x_1 xn_1 xc_1 => run F_world_Boot 3032 [.pointer (some x2), .pointer (some c), .slice x_1 xn_1 xc_1, .int .i64 ((xn_1 : Nat) : Int), .int .i64 0] h)
  | _ => none
noncomputable def LB_world_Boot_L1 : Lab := ⟨F_world_Boot, 3010, T_world_Boot_L1, [1, 2, 3, 16, 17], X_world_Boot_L1⟩
noncomputable def X_world_Boot_L2 : XPoly := fun G _ call run a h => match a with
  | [.pointer (some p), .pointer (some x2), .pointer (some c), .int .i64 s, .int .i64 x16, .int .i64 x17, .int .i64 x25] =>
  cond (iltF x25 9)
      (gSl (Addr.add c 1) h fun x xn xc => nw (.cells Y_int false [.int .i64 s]) h fun b hv => gCells (some ⟨b, 0, none⟩) (1 * 1) hv fun cs => ckB (fitsOpen x Y_int hv) (apd Y_int 1 x xn xc 1 cs hv fun a an ac hv_1 => pV (Addr.add c 1) (.slice a an ac) hv_1 fun hv_2 => run F_world_Boot 8018 [.pointer (some p), .pointer (some x2), .pointer (some c), .int .i64 s, .int .i64 x16, .int .i64 x17, .int .i64 (wrapF .i64 (x25 + 1))] hv_2))
      (gSl (Addr.add c 2) h fun x_1 xn_1 xc_1 => nw (.cells Y_int false [.int .i64 s]) h fun b_1 hv_3 => nw (.cells Y_s_int false [.slice (some ⟨b_1, 0, none⟩) 1 1]) hv_3 fun b_2 hv_4 => gCells (some ⟨b_2, 0, none⟩) (1 * 1) hv_4 fun cs_1 => ckB (fitsOpen x_1 Y_s_int hv_4) (apd Y_s_int 1 x_1 xn_1 xc_1 1 cs_1 hv_4 fun a_1 an_1 ac_1 hv_5 => pV (Addr.add c 2) (.slice a_1 an_1 ac_1) hv_5 fun hv_6 => gSl (Addr.add c 4) hv_6 fun x_2 xn_2 xc_2 => nw (.cells Y_int false [.int .i64 s]) hv_6 fun b_3 hv_7 => nw (.cells Y_api_Share false [.int .i64 s, .int .i64 0, .int .i64 0, .int .i64 492, .slice (some ⟨b_3, 0, none⟩) 1 1]) hv_7 fun b_4 hv_8 => gCells (some ⟨b_4, 0, none⟩) (1 * 5) hv_8 fun cs_2 => ckB (fitsOpen x_2 Y_api_Share hv_8) (apd Y_api_Share 5 x_2 xn_2 xc_2 1 cs_2 hv_8 fun a_2 an_2 ac_2 hv_9 => pV (Addr.add c 4) (.slice a_2 an_2 ac_2) hv_9 fun hv_10 => run F_world_Boot 3010 [.pointer (some p), .pointer (some x2), .pointer (some c), .int .i64 x16, .int .i64 (wrapF .i64 (x17 + 1))] hv_10)))
  | _ => none
noncomputable def LB_world_Boot_L2 : Lab := ⟨F_world_Boot, 8018, T_world_Boot_L2, [1, 2, 3, 4, 16, 17, 25], X_world_Boot_L2⟩
noncomputable def X_world_Boot_L3 : XPoly := fun G _ call run a h => match a with
  | [.pointer (some x2), .pointer (some c), .slice x52 x52n x52c, .int .i64 x53, .int .i64 x54] =>
  cond (iltF x54 x53)
      (aSome x52 fun p => ckRF x54 x52n (gAgg (Addr.add (bare p) (Int.toNat x54 * 2)) 2 h fun x => nw (.cells Y_api_Bridge false [.int .i64 0, .int .i64 0]) h fun b hv => ck (List.length x = 2) (pAgg ⟨b, 0, none⟩ x hv fun hv_1 => gSl (Addr.add c 4) hv_1 fun x_1 xn xc => gInt .i64 (Addr.add ⟨b, 0, none⟩ 0) hv_1 fun x_2 => gInt .i64 (Addr.add ⟨b, 0, none⟩ 0) hv_1 fun x_3 => gInt .i64 (Addr.add ⟨b, 0, none⟩ 1) hv_1 fun x_4 => nw (.cells Y_int false [.int .i64 x_3, .int .i64 x_4]) hv_1 fun b_1 hv_2 => nw (.cells Y_api_Share false [.int .i64 x_2, .int .i64 (wrapF .i64 (8 + x54)), .int .i64 0, .int .i64 40, .slice (some ⟨b_1, 0, none⟩) 2 2]) hv_2 fun b_2 hv_3 => gCells (some ⟨b_2, 0, none⟩) (1 * 5) hv_3 fun cs => ckB (fitsOpen x_1 Y_api_Share hv_3) (apd Y_api_Share 5 x_1 xn xc 1 cs hv_3 fun a an ac hv_4 => pV (Addr.add c 4) (.slice a an ac) hv_4 fun hv_5 => run F_world_Boot 3032 [.pointer (some x2), .pointer (some c), .slice x52 x52n x52c, .int .i64 x53, .int .i64 (wrapF .i64 (x54 + 1))] hv_5))))
      (gAgg c 5 h fun x_5 => ck (List.length x_5 = 5) (pAgg x2 x_5 h fun hv_6 => gAgg x2 5 hv_6 fun x_6 => some (.agg ⟨x_6⟩, hv_6)))
  | _ => none
noncomputable def LB_world_Boot_L3 : Lab := ⟨F_world_Boot, 3032, T_world_Boot_L3, [2, 3, 52, 53, 54], X_world_Boot_L3⟩
noncomputable def X_world_World_begin : XPoly := fun G _ call run a h => match a with
  | [.pointer wv, .int .i64 s] =>
  aSome wv fun p => gPtr (Addr.add p 3) h fun x => bnd (call F_commons_New [.pointer x, .int .i64 (wrapF .i64 (9 * s))] h) fun r hv => as2 r fun r_1 r_2 => aPtr r_1 fun x_1 => aInt .i64 r_2 fun _ => bnd (call F_commons_Commons_SetTerm [.pointer x_1, .agg ⟨[.int .i64 0, .int .i64 0, .int .i64 1, .int .i64 1, .int .u8 0, .int .u8 0, .int .u8 0, .int .u8 0, .int .u8 0, .int .u8 0, .int .u8 0, .int .u8 0, .int .u8 0, .int .u8 0, .int .u8 0, .int .u8 0, .int .u8 0, .int .u8 0, .int .u8 0, .int .u8 0, .int .u8 0, .int .u8 0, .int .u8 0, .int .u8 0, .int .u8 0, .int .u8 0, .int .u8 0, .int .u8 0, .int .u8 0, .int .u8 0, .int .u8 0, .int .u8 0, .int .u8 0, .int .u8 0, .int .u8 0, .int .u8 0]⟩] hv) fun r_3 hv_1 => aBool r_3 fun _ => bnd (call F_commons_Commons_SetFront [.pointer x_1, .int .i64 0] hv_1) fun r_4 hv_2 => aBool r_4 fun _ => bnd (call F_commons_Commons_SetFile [.pointer x_1, .int .i64 0, .agg ⟨[.int .i64 3, .int .i64 0, .int .i64 1, .int .i64 0]⟩] hv_2) fun r_5 hv_3 => aBool r_5 fun _ => nw (.cells Y_api_Proc false [.int .i64 0, .int .i64 0, .int .i64 0, .int .i64 0, .int .i64 0, .int .i64 0, .int .i64 0, .int .i64 0, .int .i64 0, .int .i64 0, .int .i64 0, .int .i64 0, .int .i64 0, .int .i64 0, .int .i64 0, .int .i64 0]) hv_3 fun b hv_4 => pAgg ⟨b, 0, none⟩ [.int .i64 1, .int .i64 0, .int .i64 0, .int .i64 0, .int .i64 0, .int .i64 0, .int .i64 0, .int .i64 0, .int .i64 0, .int .i64 0, .int .i64 0, .int .i64 0, .int .i64 0, .int .i64 0, .int .i64 0, .int .i64 0] hv_4 fun hv_5 => ckRF 0 8 (pV (Addr.add (Addr.add ⟨b, 0, none⟩ 8) (Int.toNat 0 * 1)) (.int .i64 1) hv_5 fun hv_6 => aSome wv fun p_1 => gSl (Addr.add (Addr.add p_1 0) 1) hv_6 fun x_6 xn xc => run F_world_World_begin 3016 [.int .i64 s, .pointer x_1, .pointer (some ⟨b, 0, none⟩), .int .i64 0, .slice x_6 xn xc, .int .i64 ((xn : Nat) : Int), .int .i64 0] hv_6)
  | _ => none
noncomputable def X_world_World_begin_L1 : XPoly := fun G _ call run a h => match a with
  | [.int .i64 s, .pointer c, .pointer (some p), .int .i64 n, .slice x36 x36n x36c, .int .i64 x37, .int .i64 x38] =>
  cond (iltF x38 x37)
      (aSome x36 fun p_1 => ckRF x38 x36n (gAgg (Addr.add (bare p_1) (Int.toNat x38 * 2)) 2 h fun x => nw (.cells Y_api_Bridge false [.int .i64 0, .int .i64 0]) h fun b hv => ck (List.length x = 2) (pAgg ⟨b, 0, none⟩ x hv fun hv_1 => gInt .i64 (Addr.add ⟨b, 0, none⟩ 0) hv_1 fun x_1 => cond (ieqF s x_1)
      (run F_world_World_begin 7031 [.int .i64 s, .pointer c, .pointer (some p), .int .i64 n, .int .i64 2, .slice x36 x36n x36c, .int .i64 x37, .int .i64 x38] hv_1)
      (gInt .i64 (Addr.add ⟨b, 0, none⟩ 1) hv_1 fun x_2 => cond (ieqF s x_2)
      (run F_world_World_begin 7031 [.int .i64 s, .pointer c, .pointer (some p), .int .i64 n, .int .i64 1, .slice x36 x36n x36c, .int .i64 x37, .int .i64 x38] hv_1)
      (run F_world_World_begin 3016 [.int .i64 s, .pointer c, .pointer (some p), .int .i64 n, .slice x36 x36n x36c, .int .i64 x37, .int .i64 (wrapF .i64 (x38 + 1))] hv_1)))))
      (gAgg p 16 h fun x_3 => bnd (call F_commons_Commons_SetProc [.pointer c, .int .i64 0, .agg ⟨x_3⟩] h) fun r hv_2 => aBool r fun _ => some (.tuple ⟨[]⟩, hv_2))
  | _ => none
noncomputable def LB_world_World_begin_L1 : Lab := ⟨F_world_World_begin, 3016, T_world_World_begin_L1, [1, 4, 6, 7, 36, 37, 38], X_world_World_begin_L1⟩
noncomputable def X_world_World_begin_R1 : XPoly := fun G _ call run a h => match a with
  | [.int .i64 s, .pointer c, .pointer (some p), .int .i64 n, .int .i64 kind, .slice x36 x36n x36c, .int .i64 x37, .int .i64 x38] =>
  bnd (call F_commons_Commons_SetPipe [.pointer c, .int .i64 (wrapF .i64 ((wrapF .i64 (4 + (wrapF .i64 (n + 1)))) - 1)), .agg ⟨[.int .i64 0, .int .i64 0, .int .i64 1, .int .i64 1, .int .u8 0, .int .u8 0, .int .u8 0, .int .u8 0, .int .u8 0, .int .u8 0, .int .u8 0, .int .u8 0, .int .u8 0, .int .u8 0, .int .u8 0, .int .u8 0, .int .u8 0, .int .u8 0, .int .u8 0, .int .u8 0, .int .u8 0, .int .u8 0, .int .u8 0, .int .u8 0, .int .u8 0, .int .u8 0, .int .u8 0, .int .u8 0, .int .u8 0, .int .u8 0, .int .u8 0, .int .u8 0, .int .u8 0, .int .u8 0, .int .u8 0, .int .u8 0]⟩] h) fun r hv => aBool r fun _ => bnd (call F_commons_Commons_SetFile [.pointer c, .int .i64 (wrapF .i64 (n + 1)), .agg ⟨[.int .i64 kind, .int .i64 (wrapF .i64 ((wrapF .i64 (4 + (wrapF .i64 (n + 1)))) - 1)), .int .i64 1, .int .i64 0]⟩] hv) fun r_1 hv_1 => aBool r_1 fun _ => ckRF (wrapF .i64 (n + 1)) 8 (pV (Addr.add (Addr.add p 8) (Int.toNat (wrapF .i64 (n + 1)) * 1)) (.int .i64 (wrapF .i64 ((wrapF .i64 (n + 1)) + 1))) hv_1 fun hv_2 => run F_world_World_begin 3016 [.int .i64 s, .pointer c, .pointer (some p), .int .i64 (wrapF .i64 (n + 1)), .slice x36 x36n x36c, .int .i64 x37, .int .i64 (wrapF .i64 (x38 + 1))] hv_2)
  | _ => none
noncomputable def LB_world_World_begin_R1 : Lab := ⟨F_world_World_begin, 7031, T_world_World_begin_R1, [1, 4, 6, 7, 10, 36, 37, 38], X_world_World_begin_R1⟩
noncomputable def X_kern_frames : XPoly := fun G _ call run a h => match a with
  | [.int .i64 n] =>
  some (.int .i64 (mm2 false (mm2 true n 0) 64), h)
  | _ => none
noncomputable def X_slices_Clone_s_int_int : XPoly := fun G _ call run a h => match a with
  | [.slice s sn sc] =>
  cond s.isNone
      (some (.slice none 0 0, h))
      (nw (.cells Y_int false []) h fun b hv => gCells s (sn * 1) hv fun cs => ckB (fitsOpen (some ⟨b, 0, none⟩) Y_int hv) (apd Y_int 1 (some ⟨b, 0, none⟩) 0 0 sn cs hv fun a an ac hv_1 => some (.slice a an ac, hv_1)))
  | _ => none
noncomputable def X_mem_New : XPoly := fun G _ call run a h => match a with
  | [.int .i64 frames] =>
  ck ((0 : Int) ≤ wrapF .i64 (64 * (mm2 false (mm2 true frames 0) 256)) ∧ (wrapF .i64 (64 * (mm2 false (mm2 true frames 0) 256)) : Int) ≤ wrapF .i64 (64 * (mm2 false (mm2 true frames 0) 256)) ∧ wrapF .i64 (64 * (mm2 false (mm2 true frames 0) 256)) ≤ (most : Int)) (nw (.cells Y_uint8 false (manyN (Int.toNat (wrapF .i64 (64 * (mm2 false (mm2 true frames 0) 256)))) [.int .u8 0])) h fun b hv => nw (.cells Y_mem_Mem false [.slice (some ⟨b, 0, none⟩) (Int.toNat (wrapF .i64 (64 * (mm2 false (mm2 true frames 0) 256)))) (Int.toNat (wrapF .i64 (64 * (mm2 false (mm2 true frames 0) 256))))]) hv fun b_1 hv_1 => some (.pointer (some ⟨b_1, 0, none⟩), hv_1))
  | _ => none
noncomputable def X_caps_New : XPoly := fun G _ call run a h => match a with
  | [.int .i64 envs] =>
  nw (.cells Y_caps_Space false [.slice none 0 0]) h fun b hv => run F_caps_New 3006 [.pointer (some ⟨b, 0, none⟩), .int .i64 (mm2 false (mm2 true envs 0) 40), .int .i64 0] hv
  | _ => none
noncomputable def X_caps_New_L1 : XPoly := fun G _ call run a h => match a with
  | [.pointer (some s), .int .i64 x8, .int .i64 x9] =>
  cond (iltF x9 x8)
      (gSl (Addr.add s 0) h fun x xn xc => bnd (call F_table_New_api_Cap [.int .i64 32] h) fun r hv => aPtr r fun x_1 => gSl (Addr.add s 0) hv fun x_2 xn_1 xc_1 => same (.slice x xn xc) (.slice x_2 xn_1 xc_1) (nw (.cells Y_p_table_Table_api_Cap false [.pointer x_1]) hv fun b hv_1 => gCells (some ⟨b, 0, none⟩) (1 * 1) hv_1 fun cs => ckB (fitsOpen x Y_p_table_Table_api_Cap hv_1) (apd Y_p_table_Table_api_Cap 1 x xn xc 1 cs hv_1 fun a an ac hv_2 => pV (Addr.add s 0) (.slice a an ac) hv_2 fun hv_3 => run F_caps_New 3006 [.pointer (some s), .int .i64 x8, .int .i64 (wrapF .i64 (x9 + 1))] hv_3)))
      (some (.pointer (some s), h))
  | _ => none
noncomputable def LB_caps_New_L1 : Lab := ⟨F_caps_New, 3006, T_caps_New_L1, [3, 8, 9], X_caps_New_L1⟩
noncomputable def X_sect_New : XPoly := fun G _ call run a h => match a with
  | [.int .i64 lease] =>
  nw (.cells Y_sect_Sect false [.int .i64 (mm2 false (mm2 true lease 1) 1000), .bool false, .int .i64 0, .int .i64 0, .int .i64 0, .slice none 0 0, .int .i64 0, .int .i64 0, .int .i64 0]) h fun b hv => some (.pointer (some ⟨b, 0, none⟩), hv)
  | _ => none
noncomputable def X_region_Regions_Add : XPoly := fun G _ call run a h => match a with
  | [.pointer r, .int .i64 lo, .int .i64 n] =>
  bnd (cond (iltF lo 0) (some (true, h)) (some (iltF n 0, h))) fun c hv => bnd (cond c (some (true, hv)) (aSome r fun p => gPtr (Addr.add p 0) hv fun x => bnd (call F_mem_Mem_Size [.pointer x] hv) fun r_1 hv_1 => aInt .i64 r_1 fun x_1 => some (iltF x_1 lo, hv_1))) fun c_1 hv_2 => bnd (cond c_1 (some (true, hv_2)) (aSome r fun p_1 => gPtr (Addr.add p_1 0) hv_2 fun x_2 => bnd (call F_mem_Mem_Size [.pointer x_2] hv_2) fun r_2 hv_3 => aInt .i64 r_2 fun x_3 => some (iltF (wrapF .i64 (x_3 - lo)) n, hv_3))) fun c_2 hv_4 => cond c_2
      (some (.tuple ⟨[.int .i64 0, .int .i64 1]⟩, hv_4))
      (aSome r fun p_2 => gSl (Addr.add p_2 2) hv_4 fun _ xn _ => cond (ileF 32 ((xn : Nat) : Int))
      (some (.tuple ⟨[.int .i64 0, .int .i64 4]⟩, hv_4))
      (aSome r fun p_3 => gSl (Addr.add p_3 2) hv_4 fun x_5 xn_1 xc_1 => nw (.cells Y_region_span false [.int .i64 lo, .int .i64 n]) hv_4 fun b hv_5 => gCells (some ⟨b, 0, none⟩) (1 * 2) hv_5 fun cs => ckB (fitsOpen x_5 Y_region_span hv_5) (apd Y_region_span 2 x_5 xn_1 xc_1 1 cs hv_5 fun a an ac hv_6 => aSome r fun p_4 => pV (Addr.add p_4 2) (.slice a an ac) hv_6 fun hv_7 => aSome r fun p_5 => gSl (Addr.add p_5 2) hv_7 fun _ xn_2 _ => some (.tuple ⟨[.int .i64 (wrapF .i64 (((xn_2 : Nat) : Int) - 1)), .int .i64 0]⟩, hv_7))))
  | _ => none
noncomputable def X_caps_Space_Put : XPoly := fun G _ call run a h => match a with
  | [.pointer s, .int .i64 env, .agg ⟨c⟩] =>
  nw (.cells Y_api_Cap false c) h fun b hv => bnd (call F_caps_Space_is [.pointer s, .int .i64 env] hv) fun r hv_1 => aBool r fun x => bnd (cond (!x) (some (true, hv_1)) (gInt .i64 (Addr.add ⟨b, 0, none⟩ 1) hv_1 fun x_1 => some (ineF (bitN .i64 x_1 7) 0, hv_1))) fun c_1 hv_2 => bnd (cond c_1 (some (true, hv_2)) (gInt .i64 (Addr.add ⟨b, 0, none⟩ 2) hv_2 fun x_2 => bnd (call F_caps_Space_Put_1 [.int .i64 x_2] hv_2) fun r_1 hv_3 => aBool r_1 fun x_3 => some (!x_3, hv_3))) fun c_2 hv_4 => bnd (cond c_2 (some (true, hv_4)) (gInt .i64 (Addr.add ⟨b, 0, none⟩ 3) hv_4 fun x_4 => bnd (call F_caps_Space_Put_1 [.int .i64 x_4] hv_4) fun r_2 hv_5 => aBool r_2 fun x_5 => some (!x_5, hv_5))) fun c_3 hv_6 => cond c_3
      (some (.tuple ⟨[.int .i64 0, .int .i64 1]⟩, hv_6))
      (pAgg (Addr.add ⟨b, 0, none⟩ 4) [.int .i64 0, .int .i64 0] hv_6 fun hv_7 => gAgg ⟨b, 0, none⟩ 6 hv_7 fun x_6 => bnd (call F_caps_Space_add [.pointer s, .int .i64 env, .agg ⟨x_6⟩] hv_7) fun r_3 hv_8 => as2 r_3 fun r_4 r_5 => aInt .i64 r_4 fun x_7 => aInt .i64 r_5 fun x_8 => some (.tuple ⟨[.int .i64 x_7, .int .i64 x_8]⟩, hv_8))
  | _ => none
noncomputable def X_commons_Commons_SetProc : XPoly := fun G _ call run a h => match a with
  | [.pointer c, .int .i64 i, .agg ⟨p⟩] =>
  nw (.cells Y_api_Proc false p) h fun b hv => gAgg ⟨b, 0, none⟩ 16 hv fun x => bnd (call F_pslot_Encode [.agg ⟨x⟩] hv) fun r hv_1 => as2 r fun r_1 r_2 => aSl r_1 fun x_1 xn xc => aBool r_2 fun x_2 => bnd (call F_commons_proc [.int .i64 i] hv_1) fun r_3 hv_2 => aAgg r_3 fun x_3 => bnd (call F_commons_Commons_write [.pointer c, .agg ⟨x_3⟩, .slice x_1 xn xc, .bool x_2] hv_2) fun r_4 hv_3 => aBool r_4 fun x_4 => some (.bool x_4, hv_3)
  | _ => none
noncomputable def X_kern_Kern_Sect : XPoly := fun G _ call run a h => match a with
  | [.pointer k, .int .i64 n] =>
  bnd (cond (iltF n 0) (some (true, h)) (aSome k fun p => gSl (Addr.add p 6) h fun _ xn _ => some (ileF ((xn : Nat) : Int) n, h))) fun c hv => cond c
      (some (.pointer none, hv))
      (aSome k fun p_1 => gSl (Addr.add p_1 6) hv fun x_1 xn_1 _ => aSome x_1 fun p_2 => ckRF n xn_1 (gPtr (Addr.add (bare p_2) (Int.toNat n * 1)) hv fun x_2 => some (.pointer x_2, hv)))
  | _ => none
noncomputable def X_slices_ContainsFunc_s_int_int : XPoly := fun G _ call run a h => match a with
  | [.slice s sn sc, f] =>
  bnd (call F_slices_IndexFunc_s_int_int [.slice s sn sc, f] h) fun r hv => aInt .i64 r fun x => some (.bool (ileF 0 x), hv)
  | _ => none
noncomputable def X_kern_share : XPoly := fun G _ call run a h => match a with
  | [.agg ⟨c⟩, .agg ⟨x⟩] =>
  nw (.cells Y_api_Boot false c) h fun b hv => nw (.cells Y_api_Share false x) hv fun b_1 hv_1 => gInt .i64 (Addr.add ⟨b_1, 0, none⟩ 0) hv_1 fun x_1 => bnd (cond (iltF x_1 0) (some (true, hv_1)) (gInt .i64 (Addr.add ⟨b_1, 0, none⟩ 0) hv_1 fun x_2 => gSl (Addr.add ⟨b, 0, none⟩ 0) hv_1 fun _ xn _ => some (ileF ((xn : Nat) : Int) x_2, hv_1))) fun c_1 hv_2 => bnd (cond c_1 (some (true, hv_2)) (gInt .i64 (Addr.add ⟨b_1, 0, none⟩ 1) hv_2 fun x_4 => some (iltF x_4 0, hv_2))) fun c_2 hv_3 => bnd (cond c_2 (some (true, hv_3)) (gInt .i64 (Addr.add ⟨b_1, 0, none⟩ 2) hv_3 fun x_5 => some (iltF x_5 0, hv_3))) fun c_3 hv_4 => bnd (cond c_3 (some (true, hv_4)) (gInt .i64 (Addr.add ⟨b_1, 0, none⟩ 3) hv_4 fun x_6 => some (iltF x_6 0, hv_4))) fun c_4 hv_5 => cond c_4
      (some (.bool false, hv_5))
      (gSl (Addr.add ⟨b, 0, none⟩ 0) hv_5 fun x_7 xn_1 _ => gInt .i64 (Addr.add ⟨b_1, 0, none⟩ 0) hv_5 fun x_8 => aSome x_7 fun p => ckRF x_8 xn_1 (gInt .i64 (Addr.add (bare p) (Int.toNat x_8 * 1)) hv_5 fun x_9 => bnd (call F_kern_frames [.int .i64 x_9] hv_5) fun r hv_6 => aInt .i64 r fun x_10 => gInt .i64 (Addr.add ⟨b_1, 0, none⟩ 1) hv_6 fun x_11 => cond (iltF x_10 x_11)
      (some (.bool false, hv_6))
      (gInt .i64 (Addr.add ⟨b_1, 0, none⟩ 1) hv_6 fun x_12 => gInt .i64 (Addr.add ⟨b_1, 0, none⟩ 2) hv_6 fun x_13 => bnd (cond (ileF x_13 (wrapF .i64 ((wrapF .i64 (x_10 - x_12)) * 64))) (gInt .i64 (Addr.add ⟨b_1, 0, none⟩ 3) hv_6 fun x_14 => gInt .i64 (Addr.add ⟨b_1, 0, none⟩ 2) hv_6 fun x_15 => some (ileF x_14 (wrapF .i64 ((wrapF .i64 ((wrapF .i64 (x_10 - x_12)) * 64)) - x_15)), hv_6)) (some (false, hv_6))) fun c_5 hv_7 => some (.bool c_5, hv_7))))
  | _ => none
noncomputable def X_table_New_api_Cap : XPoly := fun G _ call run a h => match a with
  | [.int .i64 size] =>
  ck ((0 : Int) ≤ mm2 false (mm2 true size 0) 256 ∧ (mm2 false (mm2 true size 0) 256 : Int) ≤ mm2 false (mm2 true size 0) 256 ∧ mm2 false (mm2 true size 0) 256 ≤ (most : Int)) (nw (.cells Y_table_place_api_Cap false (manyN (Int.toNat (mm2 false (mm2 true size 0) 256)) [.int .i64 0, .int .i64 0, .int .i64 0, .int .i64 0, .int .i64 0, .int .i64 0, .int .i64 0, .bool false])) h fun b hv => nw (.cells Y_table_Table_api_Cap false [.slice (some ⟨b, 0, none⟩) (Int.toNat (mm2 false (mm2 true size 0) 256)) (Int.toNat (mm2 false (mm2 true size 0) 256))]) hv fun b_1 hv_1 => gSl (Addr.add ⟨b_1, 0, none⟩ 0) hv_1 fun _ xn _ => run F_table_New_api_Cap 3006 [.pointer (some ⟨b_1, 0, none⟩), .int .i64 ((xn : Nat) : Int), .int .i64 0] hv_1)
  | _ => none
noncomputable def X_table_New_api_Cap_L1 : XPoly := fun G _ call run a h => match a with
  | [.pointer (some t), .int .i64 x15, .int .i64 x16] =>
  cond (iltF x16 x15)
      (gSl (Addr.add t 0) h fun x xn _ => aSome x fun p => ckRF x16 xn (pV (Addr.add (Addr.add (bare p) (Int.toNat x16 * 8)) 6) (.int .i64 1) h fun hv => run F_table_New_api_Cap 3006 [.pointer (some t), .int .i64 x15, .int .i64 (wrapF .i64 (x16 + 1))] hv))
      (some (.pointer (some t), h))
  | _ => none
noncomputable def LB_table_New_api_Cap_L1 : Lab := ⟨F_table_New_api_Cap, 3006, T_table_New_api_Cap_L1, [3, 15, 16], X_table_New_api_Cap_L1⟩
noncomputable def X_slices_Index_s_int_int : XPoly := fun G _ call run a h => match a with
  | [.slice s sn sc, .int .i64 v] =>
  run F_slices_Index_s_int_int 3004 [.slice s sn sc, .int .i64 v, .int .i64 ((sn : Nat) : Int), .int .i64 0] h
  | _ => none
noncomputable def X_slices_Index_s_int_int_L1 : XPoly := fun G _ call run a h => match a with
  | [.slice s sn sc, .int .i64 v, .int .i64 x7, .int .i64 x8] =>
  cond (iltF x8 x7)
      (aSome s fun p => ckRF x8 sn (gInt .i64 (Addr.add (bare p) (Int.toNat x8 * 1)) h fun x => cond (ieqF v x)
      (some (.int .i64 x8, h))
      (run F_slices_Index_s_int_int 3004 [.slice s sn sc, .int .i64 v, .int .i64 x7, .int .i64 (wrapF .i64 (x8 + 1))] h)))
      (some (.int .i64 (-1), h))
  | _ => none
noncomputable def LB_slices_Index_s_int_int_L1 : Lab := ⟨F_slices_Index_s_int_int, 3004, T_slices_Index_s_int_int_L1, [0, 1, 7, 8], X_slices_Index_s_int_int_L1⟩
noncomputable def X_caps_Space_Names : XPoly := fun G _ call run a h => match a with
  | [.pointer s, .int .i64 env] =>
  bnd (call F_caps_Space_is [.pointer s, .int .i64 env] h) fun r hv => aBool r fun x => cond (!x)
      (some (.slice none 0 0, hv))
      (aSome s fun p => gSl (Addr.add p 0) hv fun x_1 xn _ => aSome x_1 fun p_1 => ckRF env xn (gPtr (Addr.add (bare p_1) (Int.toNat env * 1)) hv fun x_2 => bnd (call F_table_Table_api_Cap_Names [.pointer x_2] hv) fun r_1 hv_1 => aSl r_1 fun x_3 xn_1 xc_1 => some (.slice x_3 xn_1 xc_1, hv_1)))
  | _ => none
noncomputable def X_ofile_Encode : XPoly := fun G _ call run a h => match a with
  | [.agg ⟨f⟩] =>
  nw (.cells Y_api_File false f) h fun b hv => gAgg ⟨b, 0, none⟩ 4 hv fun x => bnd (call F_ofile_Codec [] hv) fun r hv_1 => aPtr r fun x_1 => gAgg ⟨b, 0, none⟩ 4 hv_1 fun x_2 => same (.agg ⟨x⟩) (.agg ⟨x_2⟩) (bnd (call F_codec_Codec_api_File_Encode [.pointer x_1, .agg ⟨x⟩] hv_1) fun r_1 hv_2 => as2 r_1 fun r_2 r_3 => aSl r_2 fun x_3 xn xc => aBool r_3 fun x_4 => some (.tuple ⟨[.slice x_3 xn xc, .bool x_4]⟩, hv_2))
  | _ => none
noncomputable def X_commons_file : XPoly := fun G _ call run a h => match a with
  | [.int .i64 i] =>
  nw (.cells Y_api_Rec false [.int .i64 0, .int .i64 0]) h fun b hv => pAgg ⟨b, 0, none⟩ [.int .i64 2, .int .i64 i] hv fun hv_1 => gAgg ⟨b, 0, none⟩ 2 hv_1 fun x => some (.agg ⟨x⟩, hv_1)
  | _ => none
noncomputable def X_pslot_Encode : XPoly := fun G _ call run a h => match a with
  | [.agg ⟨p⟩] =>
  nw (.cells Y_api_Proc false p) h fun b hv => gAgg ⟨b, 0, none⟩ 16 hv fun x => bnd (call F_pslot_Codec [] hv) fun r hv_1 => aPtr r fun x_1 => gAgg ⟨b, 0, none⟩ 16 hv_1 fun x_2 => same (.agg ⟨x⟩) (.agg ⟨x_2⟩) (bnd (call F_codec_Codec_api_Proc_Encode [.pointer x_1, .agg ⟨x⟩] hv_1) fun r_1 hv_2 => as2 r_1 fun r_2 r_3 => aSl r_2 fun x_3 xn xc => aBool r_3 fun x_4 => some (.tuple ⟨[.slice x_3 xn xc, .bool x_4]⟩, hv_2))
  | _ => none
noncomputable def X_commons_proc : XPoly := fun G _ call run a h => match a with
  | [.int .i64 i] =>
  nw (.cells Y_api_Rec false [.int .i64 0, .int .i64 0]) h fun b hv => pAgg ⟨b, 0, none⟩ [.int .i64 1, .int .i64 i] hv fun hv_1 => gAgg ⟨b, 0, none⟩ 2 hv_1 fun x => some (.agg ⟨x⟩, hv_1)
  | _ => none
noncomputable def X_region_Regions_Write : XPoly := fun G _ call run a h => match a with
  | [.pointer r, .int .i64 env, .int .i64 name, .int .i64 atv, .slice b bn bc] =>
  bnd (call F_region_Regions_place [.pointer r, .int .i64 env, .int .i64 name, .int .i64 2, .int .i64 atv, .int .i64 ((bn : Nat) : Int)] h) fun r_1 hv => as2 r_1 fun r_2 r_3 => aInt .i64 r_2 fun x => aInt .i64 r_3 fun x_1 => cond (ineF x_1 0)
      (some (.int .i64 x_1, hv))
      (aSome r fun p => gPtr (Addr.add p 0) hv fun x_2 => bnd (call F_mem_Mem_Store [.pointer x_2, .int .i64 x, .slice b bn bc] hv) fun r_4 hv_1 => aInt .i64 r_4 fun x_3 => some (.int .i64 x_3, hv_1))
  | _ => none
noncomputable def X_slices_IndexFunc_s_int_int : XPoly := fun G _ call run a h => match a with
  | [.slice s sn sc, f] =>
  run F_slices_IndexFunc_s_int_int 3004 [.slice s sn sc, f, .int .i64 ((sn : Nat) : Int), .int .i64 0] h
  | _ => none
noncomputable def X_slices_IndexFunc_s_int_int_L1 : XPoly := fun G _ call run a h => match a with
  | [.slice s sn sc, f, .int .i64 x7, .int .i64 x8] =>
  cond (iltF x8 x7)
      (aSome s fun p => ckRF x8 sn (gInt .i64 (Addr.add (bare p) (Int.toNat x8 * 1)) h fun x => aFn f fun g fi cp => bnd (call g (fi ++ ([.int .i64 x] ++ cp)) h) fun r hv => aBool r fun x_1 => cond x_1
      (some (.int .i64 x8, hv))
      (run F_slices_IndexFunc_s_int_int 3004 [.slice s sn sc, f, .int .i64 x7, .int .i64 (wrapF .i64 (x8 + 1))] hv)))
      (some (.int .i64 (-1), h))
  | _ => none
noncomputable def LB_slices_IndexFunc_s_int_int_L1 : Lab := ⟨F_slices_IndexFunc_s_int_int, 3004, T_slices_IndexFunc_s_int_int_L1, [0, 1, 7, 8], X_slices_IndexFunc_s_int_int_L1⟩
noncomputable def X_table_Table_api_Cap_Add : XPoly := fun G _ call run a h => match a with
  | [.pointer t, .agg ⟨v⟩] =>
  nw (.cells Y_api_Cap false v) h fun b hv => aSome t fun p => gSl (Addr.add p 0) hv fun x xn xc => run F_table_Table_api_Cap_Add 3004 [.pointer t, .pointer (some ⟨b, 0, none⟩), .slice x xn xc, .int .i64 ((xn : Nat) : Int), .int .i64 0] hv
  | _ => none
noncomputable def X_table_Table_api_Cap_Add_L1 : XPoly := fun G _ call run a h => match a with
  | [.pointer t, .pointer (some v), .slice x11 x11n x11c, .int .i64 x12, .int .i64 x13] =>
  cond (iltF x13 x12)
      (aSome x11 fun p => ckRF x13 x11n (gAgg (Addr.add (bare p) (Int.toNat x13 * 8)) 8 h fun x => nw (.cells Y_table_place_api_Cap false [.int .i64 0, .int .i64 0, .int .i64 0, .int .i64 0, .int .i64 0, .int .i64 0, .int .i64 0, .bool false]) h fun b hv => ck (List.length x = 8) (pAgg ⟨b, 0, none⟩ x hv fun hv_1 => gBool (Addr.add ⟨b, 0, none⟩ 7) hv_1 fun x_1 => bnd (cond (!x_1) (gInt .i64 (Addr.add ⟨b, 0, none⟩ 6) hv_1 fun x_2 => some (ileF x_2 1000000, hv_1)) (some (false, hv_1))) fun c hv_2 => cond c
      (aSome t fun p_1 => gSl (Addr.add p_1 0) hv_2 fun x_3 xn _ => aSome t fun p_2 => gSl (Addr.add p_2 0) hv_2 fun x_4 xn_1 _ => gAgg v 6 hv_2 fun x_5 => aSome x_3 fun p_3 => ckRF x13 xn (ck (List.length x_5 = 6) (pAgg (Addr.add (Addr.add (bare p_3) (Int.toNat x13 * 8)) 0) x_5 hv_2 fun hv_3 => aSome x_4 fun p_4 => ckRF x13 xn_1 (pV (Addr.add (Addr.add (bare p_4) (Int.toNat x13 * 8)) 7) (.bool true) hv_3 fun hv_4 => bnd (call F_table_Table_api_Cap_name [.pointer t, .int .i64 x13] hv_4) fun r hv_5 => aInt .i64 r fun x_6 => some (.tuple ⟨[.int .i64 x_6, .bool true]⟩, hv_5)))))
      (run F_table_Table_api_Cap_Add 3004 [.pointer t, .pointer (some v), .slice x11 x11n x11c, .int .i64 x12, .int .i64 (wrapF .i64 (x13 + 1))] hv_2))))
      (some (.tuple ⟨[.int .i64 0, .bool false]⟩, h))
  | _ => none
noncomputable def LB_table_Table_api_Cap_Add_L1 : Lab := ⟨F_table_Table_api_Cap_Add, 3004, T_table_Table_api_Cap_Add_L1, [0, 3, 11, 12, 13], X_table_Table_api_Cap_Add_L1⟩
noncomputable def X_codec_Codec_api_Pipe_Encode : XPoly := fun G _ call run a h => match a with
  | [.pointer c, .agg ⟨v⟩] =>
  nw (.cells Y_api_Pipe false v) h fun b hv => aSome c fun p => gInt .i64 (Addr.add p 0) hv fun x => ck ((0 : Int) ≤ x ∧ (x : Int) ≤ x ∧ x ≤ (most : Int)) (nw (.cells Y_uint8 false (manyN (Int.toNat x) [.int .u8 0])) hv fun b_1 hv_1 => aSome c fun p_1 => gFv (Addr.add p_1 1) hv_1 fun x_1 => isNilF x_1 fun b_2 => bnd (cond b_2 (some (true, hv_1)) (aSome c fun p_2 => gFv (Addr.add p_2 1) hv_1 fun x_2 => gAgg ⟨b, 0, none⟩ 36 hv_1 fun x_3 => aFn x_2 fun g fi cp => bnd (call g (fi ++ ([.agg ⟨x_3⟩, .slice (some ⟨b_1, 0, none⟩) (Int.toNat x) (Int.toNat x)] ++ cp)) hv_1) fun r hv_2 => aBool r fun x_4 => some (!x_4, hv_2))) fun c_1 hv_3 => cond c_1
      (some (.tuple ⟨[.slice none 0 0, .bool false]⟩, hv_3))
      (some (.tuple ⟨[.slice (some ⟨b_1, 0, none⟩) (Int.toNat x) (Int.toNat x), .bool true]⟩, hv_3)))
  | _ => none
noncomputable def X_commons_Commons_place : XPoly := fun G _ call run a h => match a with
  | [.pointer c, .agg ⟨r⟩] =>
  nw (.cells Y_api_Rec false r) h fun b hv => nw (.cells Y_commons_place false [.int .i64 0, .int .i64 0, .int .i64 0]) hv fun b_1 hv_1 => gInt .i64 (Addr.add ⟨b, 0, none⟩ 1) hv_1 fun x => bnd (cond (iltF x 0) (some (true, hv_1)) (gInt .i64 (Addr.add ⟨b, 0, none⟩ 0) hv_1 fun x_1 => bnd (call F_commons_Commons_most [.pointer c, .int .i64 x_1] hv_1) fun r_1 hv_2 => aInt .i64 r_1 fun x_2 => some (ileF x_2 x, hv_2))) fun c_1 hv_3 => cond c_1
      (pAgg ⟨b_1, 0, none⟩ [.int .i64 0, .int .i64 0, .int .i64 0] hv_3 fun hv_4 => gAgg ⟨b_1, 0, none⟩ 3 hv_4 fun x_3 => some (.tuple ⟨[.agg ⟨x_3⟩, .bool false]⟩, hv_4))
      (aSome c fun p => gSl (Addr.add p 2) hv_3 fun x_4 xn _ => aSome x_4 fun p_1 => ckRF 0 xn (gInt .i64 (Addr.add (bare p_1) (Int.toNat 0 * 1)) hv_3 fun x_5 => gInt .i64 (Addr.add ⟨b, 0, none⟩ 0) hv_3 fun x_6 => cond (ieqF x_6 1)
      (pAgg ⟨b_1, 0, none⟩ [.int .i64 x_5, .int .i64 (wrapF .i64 (24 * x)), .int .i64 24] hv_3 fun hv_5 => gAgg ⟨b_1, 0, none⟩ 3 hv_5 fun x_7 => some (.tuple ⟨[.agg ⟨x_7⟩, .bool true]⟩, hv_5))
      (gInt .i64 (Addr.add ⟨b, 0, none⟩ 0) hv_3 fun x_8 => cond (ieqF x_8 2)
      (pAgg ⟨b_1, 0, none⟩ [.int .i64 x_5, .int .i64 (wrapF .i64 (192 + (wrapF .i64 (8 * x)))), .int .i64 8] hv_3 fun hv_6 => gAgg ⟨b_1, 0, none⟩ 3 hv_6 fun x_9 => some (.tuple ⟨[.agg ⟨x_9⟩, .bool true]⟩, hv_6))
      (gInt .i64 (Addr.add ⟨b, 0, none⟩ 0) hv_3 fun x_10 => bnd (cond (ieqF x_10 3) (some (iltF x 4, hv_3)) (some (false, hv_3))) fun c_2 hv_7 => cond c_2
      (pAgg ⟨b_1, 0, none⟩ [.int .i64 x_5, .int .i64 (wrapF .i64 (288 + (wrapF .i64 (40 * x)))), .int .i64 40] hv_7 fun hv_8 => gAgg ⟨b_1, 0, none⟩ 3 hv_8 fun x_11 => some (.tuple ⟨[.agg ⟨x_11⟩, .bool true]⟩, hv_8))
      (gInt .i64 (Addr.add ⟨b, 0, none⟩ 0) hv_7 fun x_12 => cond (ieqF x_12 3)
      (aSome c fun p_2 => gSl (Addr.add p_2 2) hv_7 fun x_13 xn_1 _ => aSome x_13 fun p_3 => ckRF (wrapF .i64 ((wrapF .i64 (x - 4)) + 1)) xn_1 (gInt .i64 (Addr.add (bare p_3) (Int.toNat (wrapF .i64 ((wrapF .i64 (x - 4)) + 1)) * 1)) hv_7 fun x_14 => pAgg ⟨b_1, 0, none⟩ [.int .i64 x_14, .int .i64 0, .int .i64 40] hv_7 fun hv_9 => gAgg ⟨b_1, 0, none⟩ 3 hv_9 fun x_15 => some (.tuple ⟨[.agg ⟨x_15⟩, .bool true]⟩, hv_9)))
      (gInt .i64 (Addr.add ⟨b, 0, none⟩ 0) hv_7 fun x_16 => cond (ieqF x_16 4)
      (pAgg ⟨b_1, 0, none⟩ [.int .i64 x_5, .int .i64 448, .int .i64 40] hv_7 fun hv_10 => gAgg ⟨b_1, 0, none⟩ 3 hv_10 fun x_17 => some (.tuple ⟨[.agg ⟨x_17⟩, .bool true]⟩, hv_10))
      (pAgg ⟨b_1, 0, none⟩ [.int .i64 x_5, .int .i64 488, .int .i64 4] hv_7 fun hv_11 => gAgg ⟨b_1, 0, none⟩ 3 hv_11 fun x_18 => some (.tuple ⟨[.agg ⟨x_18⟩, .bool true]⟩, hv_11))))))))
  | _ => none
noncomputable def X_codec_Sum : XPoly := fun G _ call run a h => match a with
  | [.slice b bn bc] =>
  run F_codec_Sum 3006 [.int .u8 (wrapF .u8 (((bn : Nat) : Int))), .slice b bn bc, .int .i64 ((bn : Nat) : Int), .int .i64 0] h
  | _ => none
noncomputable def X_codec_Sum_L1 : XPoly := fun G _ call run a h => match a with
  | [.int .u8 n, .slice x9 x9n x9c, .int .i64 x10, .int .i64 x11] =>
  cond (iltF x11 x10)
      (aSome x9 fun p => ckRF x11 x9n (gInt .u8 (Addr.add (bare p) (Int.toNat x11 * 1)) h fun x => run F_codec_Sum 3006 [.int .u8 (wrapF .u8 (n + x)), .slice x9 x9n x9c, .int .i64 x10, .int .i64 (wrapF .i64 (x11 + 1))] h))
      (some (.int .u8 n, h))
  | _ => none
noncomputable def LB_codec_Sum_L1 : Lab := ⟨F_codec_Sum, 3006, T_codec_Sum_L1, [3, 9, 10, 11], X_codec_Sum_L1⟩
noncomputable def X_ofile_Codec : XPoly := fun G _ call run a h => match a with
  | [] =>
  bnd (call F_codec_New_api_File [.int .i64 8, .func (.func F_ofile_put) ⟨[]⟩ ⟨[]⟩, .func (.func F_ofile_get) ⟨[]⟩ ⟨[]⟩] h) fun r hv => aPtr r fun x => some (.pointer x, hv)
  | _ => none
noncomputable def X_codec_Codec_api_File_Encode : XPoly := fun G _ call run a h => match a with
  | [.pointer c, .agg ⟨v⟩] =>
  nw (.cells Y_api_File false v) h fun b hv => aSome c fun p => gInt .i64 (Addr.add p 0) hv fun x => ck ((0 : Int) ≤ x ∧ (x : Int) ≤ x ∧ x ≤ (most : Int)) (nw (.cells Y_uint8 false (manyN (Int.toNat x) [.int .u8 0])) hv fun b_1 hv_1 => aSome c fun p_1 => gFv (Addr.add p_1 1) hv_1 fun x_1 => isNilF x_1 fun b_2 => bnd (cond b_2 (some (true, hv_1)) (aSome c fun p_2 => gFv (Addr.add p_2 1) hv_1 fun x_2 => gAgg ⟨b, 0, none⟩ 4 hv_1 fun x_3 => aFn x_2 fun g fi cp => bnd (call g (fi ++ ([.agg ⟨x_3⟩, .slice (some ⟨b_1, 0, none⟩) (Int.toNat x) (Int.toNat x)] ++ cp)) hv_1) fun r hv_2 => aBool r fun x_4 => some (!x_4, hv_2))) fun c_1 hv_3 => cond c_1
      (some (.tuple ⟨[.slice none 0 0, .bool false]⟩, hv_3))
      (some (.tuple ⟨[.slice (some ⟨b_1, 0, none⟩) (Int.toNat x) (Int.toNat x), .bool true]⟩, hv_3)))
  | _ => none
noncomputable def X_pslot_Codec : XPoly := fun G _ call run a h => match a with
  | [] =>
  bnd (call F_codec_New_api_Proc [.int .i64 24, .func (.func F_pslot_put) ⟨[]⟩ ⟨[]⟩, .func (.func F_pslot_get) ⟨[]⟩ ⟨[]⟩] h) fun r hv => aPtr r fun x => some (.pointer x, hv)
  | _ => none
noncomputable def X_ring_Ok_1 : XPoly := fun G _ call run a h => match a with
  | [.int .i64 n, .int .i64 most] =>
  bnd (cond (ileF 0 n) (some (ileF n most, h)) (some (false, h))) fun c hv => some (.bool c, hv)
  | _ => none
noncomputable def X_mem_Mem_Store : XPoly := fun G _ call run a h => match a with
  | [.pointer m, .int .i64 atv, .slice b bn bc] =>
  bnd (call F_mem_Mem_in [.pointer m, .int .i64 atv, .int .i64 ((bn : Nat) : Int)] h) fun r hv => aBool r fun x => cond (!x)
      (some (.int .i64 1, hv))
      (aSome m fun p => gSl (Addr.add p 0) hv fun x_1 xn xc => ckB (fitsOpen x_1 Y_uint8 hv) (ckLF atv xn (gCells b (min bn (xn - (Int.toNat atv)) * 1) hv fun cs => pCells (moved x_1 (decide (Int.toNat atv < xc)) ((Int.toNat atv) * 1)) cs hv fun hv_1 => some (.int .i64 0, hv_1))))
  | _ => none
noncomputable def X_caps_Space_Get : XPoly := fun G _ call run a h => match a with
  | [.pointer s, .int .i64 env, .int .i64 name] =>
  nw (.cells Y_api_Cap false [.int .i64 0, .int .i64 0, .int .i64 0, .int .i64 0, .int .i64 0, .int .i64 0]) h fun b hv => bnd (call F_caps_Space_is [.pointer s, .int .i64 env] hv) fun r hv_1 => aBool r fun x => cond (!x)
      (pAgg ⟨b, 0, none⟩ [.int .i64 0, .int .i64 0, .int .i64 0, .int .i64 0, .int .i64 0, .int .i64 0] hv_1 fun hv_2 => gAgg ⟨b, 0, none⟩ 6 hv_2 fun x_1 => some (.tuple ⟨[.agg ⟨x_1⟩, .int .i64 2]⟩, hv_2))
      (aSome s fun p => gSl (Addr.add p 0) hv_1 fun x_2 xn _ => aSome x_2 fun p_1 => ckRF env xn (gPtr (Addr.add (bare p_1) (Int.toNat env * 1)) hv_1 fun x_3 => bnd (call F_table_Table_api_Cap_Get [.pointer x_3, .int .i64 name] hv_1) fun r_1 hv_3 => as2 r_1 fun r_2 r_3 => aAgg r_2 fun x_4 => aBool r_3 fun x_5 => nw (.cells Y_api_Cap false [.int .i64 0, .int .i64 0, .int .i64 0, .int .i64 0, .int .i64 0, .int .i64 0]) hv_3 fun b_1 hv_4 => ck (List.length x_4 = 6) (pAgg ⟨b_1, 0, none⟩ x_4 hv_4 fun hv_5 => cond (!x_5)
      (pAgg ⟨b, 0, none⟩ [.int .i64 0, .int .i64 0, .int .i64 0, .int .i64 0, .int .i64 0, .int .i64 0] hv_5 fun hv_6 => gAgg ⟨b, 0, none⟩ 6 hv_6 fun x_6 => some (.tuple ⟨[.agg ⟨x_6⟩, .int .i64 2]⟩, hv_6))
      (gAgg ⟨b_1, 0, none⟩ 6 hv_5 fun x_7 => ck (List.length x_7 = 6) (pAgg ⟨b, 0, none⟩ x_7 hv_5 fun hv_7 => gAgg ⟨b, 0, none⟩ 6 hv_7 fun x_8 => some (.tuple ⟨[.agg ⟨x_8⟩, .int .i64 0]⟩, hv_7))))))
  | _ => none
noncomputable def X_codec_New_api_File : XPoly := fun G _ call run a h => match a with
  | [.int .i64 size, put, get] =>
  one put (one get (nw (.cells Y_codec_Codec_api_File false [.int .i64 (mm2 false (mm2 true size 0) 64), put, get]) h fun b hv => some (.pointer (some ⟨b, 0, none⟩), hv)))
  | _ => none
noncomputable def X_table_Table_api_Cap_at : XPoly := fun G _ call run a h => match a with
  | [.pointer t, .int .i64 name] =>
  bnd (cond (iltF name 0) (some (true, h)) (aSome t fun p => gSl (Addr.add p 0) h fun _ xn _ => some (ileF ((xn : Nat) : Int) (bitAF .i64 name 255), h))) fun c hv => bnd (cond c (some (true, hv)) (aSome t fun p_1 => gSl (Addr.add p_1 0) hv fun x_1 xn_1 _ => aSome x_1 fun p_2 => ckRF (bitAF .i64 name 255) xn_1 (gBool (Addr.add (Addr.add (bare p_2) (Int.toNat (bitAF .i64 name 255) * 8)) 7) hv fun x_2 => some (!x_2, hv)))) fun c_1 hv_1 => bnd (cond c_1 (some (true, hv_1)) (bnd (call F_table_Table_api_Cap_name [.pointer t, .int .i64 (bitAF .i64 name 255)] hv_1) fun r hv_2 => aInt .i64 r fun x_3 => some (ineF x_3 name, hv_2))) fun c_2 hv_3 => cond c_2
      (some (.pointer none, hv_3))
      (aSome t fun p_3 => gSl (Addr.add p_3 0) hv_3 fun x_4 xn_2 _ => aSome x_4 fun p_4 => ckRF (bitAF .i64 name 255) xn_2 (some (.pointer (some (Addr.add (bare p_4) (Int.toNat (bitAF .i64 name 255) * 8))), hv_3)))
  | _ => none
noncomputable def X_pslot_bits : XPoly := fun G _ call run a h => match a with
  | [.int .i64 n, .int .i64 without] =>
  bnd (cond (ieqF (bitN .i64 n 65534) 0) (some (ieqF (bitAF .i64 n without) 0, h)) (some (false, h))) fun c hv => some (.bool c, hv)
  | _ => none
noncomputable def X_pslot_Ok_1 : XPoly := fun G _ call run a h => match a with
  | [.int .i64 f] =>
  bnd (cond (iltF f 0) (some (true, h)) (some (iltF 12 f, h))) fun c hv => some (.bool c, hv)
  | _ => none
end Go.EQ

set_option maxRecDepth 100000
set_option linter.unusedVariables false
namespace Go.EQ
open Go Go.Proofs
open Go.NN hiding bnd ld gInt gBool gStr gPtr gSl gMap gFv gAgg gCells nw pV pAgg pCells apd fitsOpen liveA mapAt
open Go.NP Go.NW
noncomputable def TABF : Tab XPoly := .node 70 X_caps_Space_add (.node 40 X_region_New (.node 23 X_kern_New (.node 17 X_world_Run (.node 12 X_taint_Differ (.node 10 X_taint_Closure (.node 5 X_law24_awake .leaf .leaf) .leaf) (.node 16 X_slices_Clone_s_bool_bool (.node 15 X_world_Check .leaf .leaf) .leaf)) (.node 20 X_world_New (.node 19 X_taint_Only (.node 18 X_taint_Clean .leaf .leaf) .leaf) (.node 22 X_slices_Clone_s_api_Step_api_Step .leaf .leaf))) (.node 35 X_kern_frames (.node 26 X_host_New (.node 25 X_world_World_begin (.node 24 X_world_Boot .leaf .leaf) .leaf) (.node 34 X_kern_check (.node 33 X_kern_Kern_Do .leaf .leaf) .leaf)) (.node 38 X_caps_New (.node 37 X_mem_New (.node 36 X_slices_Clone_s_int_int .leaf .leaf) .leaf) (.node 39 X_quota_New .leaf .leaf)))) (.node 52 X_kern_Kern_Sect (.node 46 X_commons_New (.node 43 X_quota_Quota_First (.node 42 X_region_Regions_Add (.node 41 X_sect_New .leaf .leaf) .leaf) (.node 45 X_caps_Space_Put (.node 44 X_slices_Contains_s_int_int .leaf .leaf) .leaf)) (.node 49 X_commons_Commons_SetFile (.node 48 X_commons_Commons_SetFront (.node 47 X_commons_Commons_SetTerm .leaf .leaf) .leaf) (.node 51 X_commons_Commons_SetProc .leaf .leaf))) (.node 65 X_table_New_api_Cap (.node 63 X_slices_ContainsFunc_s_int_int (.node 62 X_kern_check_1 (.node 60 X_kern_Kern_bytes .leaf .leaf) .leaf) (.node 64 X_kern_share .leaf .leaf)) (.node 68 X_caps_Space_Put_1 (.node 67 X_slices_Index_s_int_int (.node 66 X_mem_Mem_Size .leaf .leaf) .leaf) (.node 69 X_caps_Space_is .leaf .leaf))))) (.node 115 X_pslot_Codec (.node 96 X_ring_Ok (.node 76 X_ofile_Encode (.node 73 X_ring_Encode (.node 72 X_caps_Space_Names (.node 71 X_kern_Kern_Space .leaf .leaf) .leaf) (.node 75 X_commons_FrontBytes (.node 74 X_commons_Commons_write .leaf .leaf) .leaf)) (.node 80 X_commons_proc (.node 79 X_pslot_Encode (.node 77 X_commons_file .leaf .leaf) .leaf) (.node 89 X_commons_Commons_most .leaf .leaf))) (.node 110 X_codec_Codec_api_Pipe_Encode (.node 107 X_table_Table_api_Cap_Add (.node 106 X_slices_IndexFunc_s_int_int (.node 98 X_region_Regions_Write .leaf .leaf) .leaf) (.node 109 X_ring_Codec (.node 108 X_table_Table_api_Cap_Names .leaf .leaf) .leaf)) (.node 113 X_ofile_Codec (.node 112 X_codec_Sum (.node 111 X_commons_Commons_place .leaf .leaf) .leaf) (.node 114 X_codec_Codec_api_File_Encode .leaf .leaf)))) (.node 155 X_codec_New_api_Proc (.node 148 X_table_Table_api_Cap_name (.node 137 X_region_Regions_place (.node 136 X_ring_Ok_1 (.node 116 X_codec_Codec_api_Proc_Encode .leaf .leaf) .leaf) (.node 140 X_caps_Space_Get (.node 139 X_mem_Mem_Store .leaf .leaf) .leaf)) (.node 152 X_codec_New_api_File (.node 150 X_ring_put (.node 149 X_codec_New_api_Pipe .leaf .leaf) .leaf) (.node 153 X_ofile_put .leaf .leaf))) (.node 186 X_ofile_Ok (.node 182 X_table_Table_api_Cap_Get (.node 181 X_mem_Mem_in (.node 156 X_pslot_put .leaf .leaf) .leaf) (.node 185 X_table_Table_api_Cap_at .leaf .leaf)) (.node 223 X_pslot_bits (.node 188 X_codec_Put2 (.node 187 X_pslot_Ok .leaf .leaf) .leaf) (.node 224 X_pslot_Ok_1 .leaf .leaf)))))
noncomputable def TABL : Tab Lab := .node 25003016 LB_world_World_begin_L1 (.node 20008028 LB_world_New_L2 (.node 17003012 LB_world_Run_L1 (.node 12003014 LB_taint_Differ_L1 (.node 10007014 LB_taint_Closure_L2 (.node 10003010 LB_taint_Closure_L1 .leaf .leaf) .leaf) (.node 15003010 LB_world_Check_L1 .leaf .leaf)) (.node 19003008 LB_taint_Only_L1 (.node 18003006 LB_taint_Clean_L1 .leaf .leaf) (.node 20003018 LB_world_New_L1 .leaf .leaf))) (.node 23007044 LB_kern_New_L4 (.node 23003024 LB_kern_New_L2 (.node 23003010 LB_kern_New_L1 .leaf .leaf) (.node 23003036 LB_kern_New_L3 .leaf .leaf)) (.node 24003032 LB_world_Boot_L3 (.node 24003010 LB_world_Boot_L1 .leaf .leaf) (.node 24008018 LB_world_Boot_L2 .leaf .leaf)))) (.node 67003004 LB_slices_Index_s_int_int_L1 (.node 38003006 LB_caps_New_L1 (.node 34003014 LB_kern_check_L1 (.node 25007031 LB_world_World_begin_R1 .leaf .leaf) (.node 34003026 LB_kern_check_L2 .leaf .leaf)) (.node 43003006 LB_quota_Quota_First_L1 (.node 39003006 LB_quota_New_L1 .leaf .leaf) (.node 65003006 LB_table_New_api_Cap_L1 .leaf .leaf))) (.node 112003006 LB_codec_Sum_L1 (.node 107003004 LB_table_Table_api_Cap_Add_L1 (.node 106003004 LB_slices_IndexFunc_s_int_int_L1 .leaf .leaf) (.node 108003006 LB_table_Table_api_Cap_Names_L1 .leaf .leaf)) (.node 156003018 LB_pslot_put_L2 (.node 156003008 LB_pslot_put_L1 .leaf .leaf) (.node 156003028 LB_pslot_put_L3 .leaf .leaf))))
noncomputable def TABS : Tabs := ⟨TABF, TABL⟩
end Go.EQ

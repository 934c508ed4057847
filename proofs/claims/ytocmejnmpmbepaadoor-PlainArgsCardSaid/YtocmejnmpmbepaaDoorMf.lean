/- PlainArgs returns true whatever plan it is given, and the card ties the two tables that its code names to the program's text. No condition. -/
import Derived.Test.YtocmejnmpmbepaaDoorMe
set_option linter.unusedVariables false
set_option linter.unusedSimpArgs false
set_option linter.unusedSectionVars false
set_option maxRecDepth 100000
set_option linter.unusedVariables false
namespace Go.EQ
open Go Go.Proofs
open Go.NN hiding bnd ld gInt gBool gStr gPtr gSl gMap gFv gAgg gCells nw pV pAgg pCells apd fitsOpen liveA mapAt
open Go.NP Go.NW
noncomputable def X_plain_New : XPoly := fun G _ call run a h => match a with
  | [.agg ⟨p⟩] =>
  nw (.cells Y_api_Plan false p) h fun b hv => gAgg ⟨b, 0, none⟩ 3 hv fun x => bnd (call F_plain_check [.agg ⟨x⟩] hv) fun r hv_1 => aBool r fun x_1 => cond (!x_1)
      (some (.tuple ⟨[.pointer none, .int .i64 1]⟩, hv_1))
      (nw (.cells Y_plain_Plain false [.slice none 0 0, .int .i64 0]) hv_1 fun b_1 hv_2 => gSl (Addr.add ⟨b, 0, none⟩ 0) hv_2 fun _ xn _ => run F_plain_New 3010 [.pointer (some ⟨b, 0, none⟩), .pointer (some ⟨b_1, 0, none⟩), .int .i64 ((xn : Nat) : Int), .int .i64 0] hv_2)
  | _ => none
noncomputable def X_plain_New_L1 : XPoly := fun G _ call run a h => match a with
  | [.pointer (some p), .pointer (some u), .int .i64 x16, .int .i64 x17] =>
  cond (iltF x17 x16)
      (gInt .i64 (Addr.add p 2) h fun x => ck ((0 : Int) ≤ 4 ∧ (4 : Int) ≤ 4 ∧ 4 ≤ (most : Int)) (nw (.cells Y_p_api_Pipe false (manyN (Int.toNat 4) [.pointer none])) h fun b hv => nw (.cells Y_api_Pipe false [.int .i64 0, .int .i64 0, .int .i64 1, .int .i64 1, .int .u8 0, .int .u8 0, .int .u8 0, .int .u8 0, .int .u8 0, .int .u8 0, .int .u8 0, .int .u8 0, .int .u8 0, .int .u8 0, .int .u8 0, .int .u8 0, .int .u8 0, .int .u8 0, .int .u8 0, .int .u8 0, .int .u8 0, .int .u8 0, .int .u8 0, .int .u8 0, .int .u8 0, .int .u8 0, .int .u8 0, .int .u8 0, .int .u8 0, .int .u8 0, .int .u8 0, .int .u8 0, .int .u8 0, .int .u8 0, .int .u8 0, .int .u8 0]) hv fun b_1 hv_1 => bnd (call F_sect_New [.int .i64 x] hv_1) fun r hv_2 => aPtr r fun x_1 => nw (.cells Y_plain_unit false [.int .i64 0, .int .i64 0, .int .i64 0, .int .i64 0, .int .i64 0, .int .i64 0, .int .i64 0, .int .i64 0, .int .i64 0, .int .i64 0, .int .i64 0, .int .i64 0, .int .i64 0, .int .i64 0, .int .i64 0, .int .i64 0, .int .i64 0, .int .i64 0, .int .i64 0, .int .i64 0, .int .i64 0, .int .i64 0, .int .i64 0, .int .i64 0, .int .i64 0, .int .i64 0, .int .i64 0, .int .i64 0, .int .i64 0, .int .i64 0, .int .i64 0, .int .i64 0, .int .i64 0, .int .i64 0, .int .i64 0, .int .i64 0, .int .i64 0, .int .i64 0, .int .i64 0, .int .i64 0, .int .i64 0, .int .i64 0, .int .i64 0, .int .i64 0, .int .i64 0, .int .i64 0, .int .i64 0, .int .i64 0, .int .i64 0, .int .i64 0, .int .i64 0, .int .i64 0, .int .i64 0, .int .i64 0, .int .i64 0, .int .i64 0, .int .i64 0, .int .i64 0, .int .i64 0, .int .i64 0, .int .i64 0, .int .i64 0, .int .i64 0, .int .i64 0, .int .i64 0, .int .i64 0, .int .i64 0, .int .i64 0, .int .i64 0, .int .i64 0, .int .i64 0, .int .i64 0, .int .i64 0, .int .i64 0, .int .i64 0, .int .i64 0, .int .i64 0, .int .i64 0, .int .i64 0, .int .i64 0, .int .i64 0, .int .i64 0, .int .i64 0, .int .i64 0, .int .i64 0, .int .i64 0, .int .i64 0, .int .i64 0, .int .i64 0, .int .i64 0, .int .i64 0, .int .i64 0, .int .i64 0, .int .i64 0, .int .i64 0, .int .i64 0, .int .i64 0, .int .i64 0, .int .i64 0, .int .i64 0, .int .i64 0, .int .i64 0, .int .i64 0, .int .i64 0, .int .i64 0, .int .i64 0, .int .i64 0, .int .i64 0, .int .i64 0, .int .i64 0, .int .i64 0, .int .i64 0, .int .i64 0, .int .i64 0, .int .i64 0, .int .i64 0, .int .i64 0, .int .i64 0, .int .i64 0, .int .i64 0, .int .i64 0, .int .i64 0, .int .i64 0, .int .i64 0, .int .i64 0, .int .i64 0, .int .i64 0, .int .i64 0, .int .i64 0, .int .i64 0, .int .i64 0, .int .i64 0, .int .i64 0, .int .i64 0, .int .i64 0, .int .i64 0, .int .i64 0, .int .i64 0, .int .i64 0, .int .i64 0, .int .i64 0, .int .i64 0, .int .i64 0, .int .i64 0, .int .i64 0, .int .i64 0, .int .i64 0, .int .i64 0, .int .i64 0, .int .i64 0, .int .i64 0, .int .i64 0, .int .i64 0, .int .i64 0, .int .i64 0, .int .i64 0, .int .i64 0, .int .i64 0, .int .i64 0, .int .i64 0, .int .i64 0, .int .i64 0, .int .i64 0, .int .i64 0, .int .i64 0, .int .i64 0, .int .i64 0, .int .i64 0, .int .i64 0, .int .i64 0, .int .i64 0, .int .i64 0, .int .i64 0, .int .i64 0, .int .i64 0, .int .i64 0, .slice (some ⟨b, 0, none⟩) (Int.toNat 4) (Int.toNat 4), .pointer (some ⟨b_1, 0, none⟩), .int .i64 0, .pointer x_1, .int .i64 0, .int .i64 0, .int .i64 0, .int .i64 0, .int .i64 0, .slice none 0 0, .int .i64 0, .int .i64 0, .int .i64 0, .int .i64 0, .int .i64 0, .slice none 0 0, .int .i64 0, .int .i64 0, .int .i64 0, .int .i64 0, .int .i64 0, .slice none 0 0, .int .i64 0, .int .i64 0, .int .i64 0, .int .i64 0, .int .i64 0, .slice none 0 0, .int .i64 0, .int .i64 0, .int .i64 0, .int .i64 0, .int .i64 0, .slice none 0 0, .int .i64 0, .int .i64 0, .int .i64 0, .int .i64 0, .int .i64 0, .slice none 0 0, .int .i64 0, .int .i64 0, .int .i64 0, .int .i64 0, .int .i64 0, .slice none 0 0, .int .i64 0, .int .i64 0, .int .i64 0, .int .i64 0, .int .i64 0, .slice none 0 0]) hv_2 fun b_2 hv_3 => ckRF 0 8 (pAgg (Addr.add (Addr.add ⟨b_2, 0, none⟩ 0) (Int.toNat 0 * 16)) [.int .i64 1, .int .i64 0, .int .i64 0, .int .i64 0, .int .i64 0, .int .i64 0, .int .i64 0, .int .i64 0, .int .i64 0, .int .i64 0, .int .i64 0, .int .i64 0, .int .i64 0, .int .i64 0, .int .i64 0, .int .i64 0] hv_3 fun hv_4 => ckRF 0 8 (ckRF 0 8 (pV (Addr.add (Addr.add (Addr.add (Addr.add ⟨b_2, 0, none⟩ 0) (Int.toNat 0 * 16)) 8) (Int.toNat 0 * 1)) (.int .i64 1) hv_4 fun hv_5 => ckRF 0 12 (pAgg (Addr.add (Addr.add ⟨b_2, 0, none⟩ 128) (Int.toNat 0 * 4)) [.int .i64 3, .int .i64 0, .int .i64 1, .int .i64 0] hv_5 fun hv_6 => gSl (Addr.add u 0) hv_6 fun x_2 xn xc => nw (.cells Y_p_plain_unit false [.pointer (some ⟨b_2, 0, none⟩)]) hv_6 fun b_3 hv_7 => gCells (some ⟨b_3, 0, none⟩) (1 * 1) hv_7 fun cs => ckB (fitsOpen x_2 Y_p_plain_unit hv_7) (apd Y_p_plain_unit 1 x_2 xn xc 1 cs hv_7 fun a an ac hv_8 => pV (Addr.add u 0) (.slice a an ac) hv_8 fun hv_9 => run F_plain_New 3010 [.pointer (some p), .pointer (some u), .int .i64 x16, .int .i64 (wrapF .i64 (x17 + 1))] hv_9)))))))
      (gSl (Addr.add p 1) h fun x_3 xn_1 xc_1 => run F_plain_New 3026 [.pointer (some u), .slice x_3 xn_1 xc_1, .int .i64 ((xn_1 : Nat) : Int), .int .i64 0] h)
  | _ => none
noncomputable def LB_plain_New_L1 : Lab := ⟨F_plain_New, 3010, T_plain_New_L1, [1, 4, 16, 17], X_plain_New_L1⟩
noncomputable def X_plain_New_L2 : XPoly := fun G _ call run a h => match a with
  | [.pointer (some u), .slice x55 x55n x55c, .int .i64 x56, .int .i64 x57] =>
  cond (iltF x57 x56)
      (aSome x55 fun p => ckRF x57 x55n (gAgg (Addr.add (bare p) (Int.toNat x57 * 2)) 2 h fun x => nw (.cells Y_api_Bridge false [.int .i64 0, .int .i64 0]) h fun b hv => ck (List.length x = 2) (pAgg ⟨b, 0, none⟩ x hv fun hv_1 => nw (.cells Y_api_Pipe false [.int .i64 0, .int .i64 0, .int .i64 1, .int .i64 1, .int .u8 0, .int .u8 0, .int .u8 0, .int .u8 0, .int .u8 0, .int .u8 0, .int .u8 0, .int .u8 0, .int .u8 0, .int .u8 0, .int .u8 0, .int .u8 0, .int .u8 0, .int .u8 0, .int .u8 0, .int .u8 0, .int .u8 0, .int .u8 0, .int .u8 0, .int .u8 0, .int .u8 0, .int .u8 0, .int .u8 0, .int .u8 0, .int .u8 0, .int .u8 0, .int .u8 0, .int .u8 0, .int .u8 0, .int .u8 0, .int .u8 0, .int .u8 0]) hv_1 fun b_1 hv_2 => gSl (Addr.add u 0) hv_2 fun x_1 xn _ => gInt .i64 (Addr.add ⟨b, 0, none⟩ 0) hv_2 fun x_2 => aSome x_1 fun p_1 => ckRF x_2 xn (gPtr (Addr.add (bare p_1) (Int.toNat x_2 * 1)) hv_2 fun x_3 => bnd (call F_plain_unit_bridge [.pointer x_3, .int .i64 2, .pointer (some ⟨b_1, 0, none⟩)] hv_2) fun r hv_3 => as0 r (gSl (Addr.add u 0) hv_3 fun x_4 xn_1 _ => gInt .i64 (Addr.add ⟨b, 0, none⟩ 1) hv_3 fun x_5 => aSome x_4 fun p_2 => ckRF x_5 xn_1 (gPtr (Addr.add (bare p_2) (Int.toNat x_5 * 1)) hv_3 fun x_6 => bnd (call F_plain_unit_bridge [.pointer x_6, .int .i64 1, .pointer (some ⟨b_1, 0, none⟩)] hv_3) fun r_1 hv_4 => as0 r_1 (run F_plain_New 3026 [.pointer (some u), .slice x55 x55n x55c, .int .i64 x56, .int .i64 (wrapF .i64 (x57 + 1))] hv_4)))))))
      (some (.tuple ⟨[.pointer (some u), .int .i64 0]⟩, h))
  | _ => none
noncomputable def LB_plain_New_L2 : Lab := ⟨F_plain_New, 3026, T_plain_New_L2, [4, 55, 56, 57], X_plain_New_L2⟩
noncomputable def X_sect_New : XPoly := fun G _ call run a h => match a with
  | [.int .i64 lease] =>
  nw (.cells Y_sect_Sect false [.int .i64 (mm2 false (mm2 true lease 1) 1000), .bool false, .int .i64 0, .int .i64 0, .int .i64 0, .slice none 0 0, .int .i64 0, .int .i64 0, .int .i64 0]) h fun b hv => some (.pointer (some ⟨b, 0, none⟩), hv)
  | _ => none
noncomputable def X_plain_check_1 : XPoly := fun G _ call run a h => match a with
  | [.agg ⟨b⟩, .pointer (some fv0)] =>
  nw (.cells Y_api_Bridge false b) h fun b_1 hv => gInt .i64 (Addr.add ⟨b_1, 0, none⟩ 0) hv fun x => bnd (cond (iltF x 0) (some (true, hv)) (gInt .i64 (Addr.add ⟨b_1, 0, none⟩ 0) hv fun x_1 => gInt .i64 fv0 hv fun x_2 => some (ileF x_2 x_1, hv))) fun c hv_1 => bnd (cond c (some (true, hv_1)) (gInt .i64 (Addr.add ⟨b_1, 0, none⟩ 1) hv_1 fun x_3 => some (iltF x_3 0, hv_1))) fun c_1 hv_2 => bnd (cond c_1 (some (true, hv_2)) (gInt .i64 (Addr.add ⟨b_1, 0, none⟩ 1) hv_2 fun x_4 => gInt .i64 fv0 hv_2 fun x_5 => some (ileF x_5 x_4, hv_2))) fun c_2 hv_3 => bnd (cond c_2 (some (true, hv_3)) (gInt .i64 (Addr.add ⟨b_1, 0, none⟩ 0) hv_3 fun x_6 => gInt .i64 (Addr.add ⟨b_1, 0, none⟩ 1) hv_3 fun x_7 => some (ieqF x_6 x_7, hv_3))) fun c_3 hv_4 => some (.bool c_3, hv_4)
  | _ => none
noncomputable def X_plain_in : XPoly := fun G _ call run a h => match a with
  | [.int .i64 n, .int .i64 most] =>
  bnd (cond (ileF 0 n) (some (ileF n most, h)) (some (false, h))) fun c hv => some (.bool c, hv)
  | _ => none
noncomputable def X_plain_unit_start : XPoly := fun G _ call run a h => match a with
  | [.pointer x, .int .i64 i, .agg ⟨s⟩] =>
  nw (.cells Y_api_Sys false s) h fun b hv => aSome x fun p => ckRF i 8 (gInt .i64 (Addr.add (Addr.add (Addr.add p 180) (Int.toNat i * 6)) 0) hv fun x_1 => bnd (cond (ieqF x_1 0) (bnd (call F_plain_unit_lives [.pointer x, .int .i64 i] hv) fun r hv_1 => aBool r fun x_2 => some (x_2, hv_1)) (some (false, hv))) fun c hv_2 => cond c
      (gSl (Addr.add ⟨b, 0, none⟩ 3) hv_2 fun x_3 xn xc => bnd (call F_slices_Clone_s_byte_byte [.slice x_3 xn xc] hv_2) fun r_1 hv_3 => aSl r_1 fun x_4 xn_1 xc_1 => pV (Addr.add ⟨b, 0, none⟩ 3) (.slice x_4 xn_1 xc_1) hv_3 fun hv_4 => gAgg ⟨b, 0, none⟩ 4 hv_4 fun x_5 => ck (List.length x_5 = 4) (aSome x fun p_1 => ckRF i 8 (ck (List.length (.int .i64 1 :: (.int .i64 0 :: (x_5 ++ []))) = 6) (pAgg (Addr.add (Addr.add p_1 180) (Int.toNat i * 6)) (.int .i64 1 :: (.int .i64 0 :: (x_5 ++ []))) hv_4 fun hv_5 => some (.tuple ⟨[]⟩, hv_5)))))
      (some (.tuple ⟨[]⟩, hv_2)))
  | _ => none
noncomputable def X_slices_IndexFunc_s_api_Bridge_api_Bridge : XPoly := fun G _ call run a h => match a with
  | [.slice s sn sc, f] =>
  run F_slices_IndexFunc_s_api_Bridge_api_Bridge 3004 [.slice s sn sc, f, .int .i64 ((sn : Nat) : Int), .int .i64 0] h
  | _ => none
noncomputable def X_slices_IndexFunc_s_api_Bridge_api_Bridge_L1 : XPoly := fun G _ call run a h => match a with
  | [.slice s sn sc, f, .int .i64 x7, .int .i64 x8] =>
  cond (iltF x8 x7)
      (aSome s fun p => ckRF x8 sn (gAgg (Addr.add (bare p) (Int.toNat x8 * 2)) 2 h fun x => aFn f fun g fi cp => bnd (call g (fi ++ ([.agg ⟨x⟩] ++ cp)) h) fun r hv => aBool r fun x_1 => cond x_1
      (some (.int .i64 x8, hv))
      (run F_slices_IndexFunc_s_api_Bridge_api_Bridge 3004 [.slice s sn sc, f, .int .i64 x7, .int .i64 (wrapF .i64 (x8 + 1))] hv)))
      (some (.int .i64 (-1), h))
  | _ => none
noncomputable def LB_slices_IndexFunc_s_api_Bridge_api_Bridge_L1 : Lab := ⟨F_slices_IndexFunc_s_api_Bridge_api_Bridge, 3004, T_slices_IndexFunc_s_api_Bridge_api_Bridge_L1, [0, 1, 7, 8], X_slices_IndexFunc_s_api_Bridge_api_Bridge_L1⟩
noncomputable def X_plain_unit_inside : XPoly := fun G _ call run a h => match a with
  | [.pointer x, .int .i64 who, .int .i64 i] =>
  nw (.cells Y_api_Out false [.int .i64 0, .int .i64 0, .int .i64 0, .int .i64 0, .int .i64 0, .slice none 0 0, .int .i64 0, .int .i64 0, .slice none 0 0, .bool false, .slice none 0 0, .int .i64 0]) h fun b hv => aSome x fun p => ckRF i 8 (aSome x fun p_1 => gPtr (Addr.add p_1 179) hv fun x_1 => gInt .i64 (Addr.add (Addr.add (Addr.add p 180) (Int.toNat i * 6)) 1) hv fun x_2 => bnd (call F_sect_Sect_Holds [.pointer x_1, .int .i64 who, .int .i64 x_2] hv) fun r hv_1 => aBool r fun x_3 => cond (!x_3)
      (pV (Addr.add (Addr.add (Addr.add p 180) (Int.toNat i * 6)) 0) (.int .i64 1) hv_1 fun hv_2 => pAgg ⟨b, 0, none⟩ [.int .i64 0, .int .i64 0, .int .i64 0, .int .i64 0, .int .i64 0, .slice none 0 0, .int .i64 0, .int .i64 0, .slice none 0 0, .bool false, .slice none 0 0, .int .i64 0] hv_2 fun hv_3 => gAgg ⟨b, 0, none⟩ 12 hv_3 fun x_4 => some (.tuple ⟨[.agg ⟨x_4⟩, .bool false]⟩, hv_3))
      (gAgg (Addr.add (Addr.add (Addr.add p 180) (Int.toNat i * 6)) 2) 4 hv_1 fun x_5 => bnd (call F_plain_unit_do [.pointer x, .int .i64 i, .agg ⟨x_5⟩] hv_1) fun r_1 hv_4 => aAgg r_1 fun x_6 => nw (.cells Y_api_Ret false [.int .i64 0, .int .i64 0, .slice none 0 0, .bool false]) hv_4 fun b_1 hv_5 => ck (List.length x_6 = 4) (pAgg ⟨b_1, 0, none⟩ x_6 hv_5 fun hv_6 => gBool (Addr.add ⟨b_1, 0, none⟩ 3) hv_6 fun x_7 => cond x_7
      (bnd (call F_plain_unit_leave [.pointer x, .int .i64 who, .int .i64 i, .int .i64 3] hv_6) fun r_2 hv_7 => as0 r_2 (pAgg ⟨b, 0, none⟩ [.int .i64 0, .int .i64 0, .int .i64 0, .int .i64 0, .int .i64 0, .slice none 0 0, .int .i64 0, .int .i64 0, .slice none 0 0, .bool false, .slice none 0 0, .int .i64 0] hv_7 fun hv_8 => gAgg ⟨b, 0, none⟩ 12 hv_8 fun x_8 => some (.tuple ⟨[.agg ⟨x_8⟩, .bool false]⟩, hv_8)))
      (bnd (call F_plain_unit_leave [.pointer x, .int .i64 who, .int .i64 i, .int .i64 0] hv_6) fun r_3 hv_9 => as0 r_3 (gAgg (Addr.add (Addr.add (Addr.add p 180) (Int.toNat i * 6)) 2) 4 hv_9 fun x_9 => gInt .i64 (Addr.add ⟨b_1, 0, none⟩ 0) hv_9 fun x_10 => gInt .i64 (Addr.add ⟨b_1, 0, none⟩ 1) hv_9 fun x_11 => gSl (Addr.add ⟨b_1, 0, none⟩ 2) hv_9 fun x_12 xn xc => ck (List.length x_9 = 4) (nw (.cells Y_api_Out false [.int .i64 0, .int .i64 0, .int .i64 0, .int .i64 0, .int .i64 0, .slice none 0 0, .int .i64 0, .int .i64 0, .slice none 0 0, .bool false, .slice none 0 0, .int .i64 0]) hv_9 fun b_2 hv_10 => ck (List.length (.int .i64 0 :: (.int .i64 i :: (x_9 ++ (.int .i64 x_10 :: (.int .i64 x_11 :: (.slice x_12 xn xc :: (.bool true :: (.slice none 0 0 :: [.int .i64 0])))))))) = 12) (pAgg ⟨b_2, 0, none⟩ (.int .i64 0 :: (.int .i64 i :: (x_9 ++ (.int .i64 x_10 :: (.int .i64 x_11 :: (.slice x_12 xn xc :: (.bool true :: (.slice none 0 0 :: [.int .i64 0])))))))) hv_10 fun hv_11 => gInt .i64 (Addr.add (Addr.add (Addr.add (Addr.add p 180) (Int.toNat i * 6)) 2) 0) hv_11 fun x_13 => cond (ineF x_13 3)
      (gAgg ⟨b_2, 0, none⟩ 12 hv_11 fun x_14 => bnd (call F_plain_unit_signals [.pointer x, .int .i64 i, .agg ⟨x_14⟩] hv_11) fun r_4 hv_12 => aAgg r_4 fun x_15 => ck (List.length x_15 = 12) (pAgg ⟨b_2, 0, none⟩ x_15 hv_12 fun hv_13 => gAgg ⟨b_2, 0, none⟩ 12 hv_13 fun x_16 => ck (List.length x_16 = 12) (pAgg ⟨b, 0, none⟩ x_16 hv_13 fun hv_14 => gAgg ⟨b, 0, none⟩ 12 hv_14 fun x_17 => some (.tuple ⟨[.agg ⟨x_17⟩, .bool true]⟩, hv_14))))
      (gAgg ⟨b_2, 0, none⟩ 12 hv_11 fun x_18 => ck (List.length x_18 = 12) (pAgg ⟨b, 0, none⟩ x_18 hv_11 fun hv_15 => gAgg ⟨b, 0, none⟩ 12 hv_15 fun x_19 => some (.tuple ⟨[.agg ⟨x_19⟩, .bool true]⟩, hv_15))))))))))
  | _ => none
noncomputable def X_plain_unit_blocked : XPoly := fun G _ call run a h => match a with
  | [.pointer x, .int .i64 i] =>
  nw (.cells Y_api_Out false [.int .i64 0, .int .i64 0, .int .i64 0, .int .i64 0, .int .i64 0, .slice none 0 0, .int .i64 0, .int .i64 0, .slice none 0 0, .bool false, .slice none 0 0, .int .i64 0]) h fun b hv => aSome x fun p => ckRF i 8 (aSome x fun p_1 => ckRF i 8 (gAgg (Addr.add (Addr.add p_1 0) (Int.toNat i * 16)) 16 hv fun x_1 => bnd (call F_sig_Wakes [.agg ⟨x_1⟩] hv) fun r hv_1 => aBool r fun x_2 => cond x_2
      (pV (Addr.add (Addr.add (Addr.add p 180) (Int.toNat i * 6)) 0) (.int .i64 0) hv_1 fun hv_2 => gAgg (Addr.add (Addr.add (Addr.add p 180) (Int.toNat i * 6)) 2) 4 hv_2 fun x_3 => ck (List.length x_3 = 4) (bnd (call F_plain_unit_signals [.pointer x, .int .i64 i, .agg ⟨.int .i64 0 :: (.int .i64 i :: (x_3 ++ (.int .i64 0 :: (.int .i64 104 :: (.slice none 0 0 :: (.bool true :: (.slice none 0 0 :: [.int .i64 0])))))))⟩] hv_2) fun r_1 hv_3 => aAgg r_1 fun x_4 => ck (List.length x_4 = 12) (pAgg ⟨b, 0, none⟩ x_4 hv_3 fun hv_4 => gAgg ⟨b, 0, none⟩ 12 hv_4 fun x_5 => some (.tuple ⟨[.agg ⟨x_5⟩, .bool true]⟩, hv_4))))
      (gAgg (Addr.add (Addr.add (Addr.add p 180) (Int.toNat i * 6)) 2) 4 hv_1 fun x_6 => bnd (call F_plain_unit_wakes [.pointer x, .int .i64 i, .agg ⟨x_6⟩] hv_1) fun r_2 hv_5 => aBool r_2 fun x_7 => cond x_7
      (pV (Addr.add (Addr.add (Addr.add p 180) (Int.toNat i * 6)) 0) (.int .i64 1) hv_5 fun hv_6 => pAgg ⟨b, 0, none⟩ [.int .i64 0, .int .i64 0, .int .i64 0, .int .i64 0, .int .i64 0, .slice none 0 0, .int .i64 0, .int .i64 0, .slice none 0 0, .bool false, .slice none 0 0, .int .i64 0] hv_6 fun hv_7 => gAgg ⟨b, 0, none⟩ 12 hv_7 fun x_8 => some (.tuple ⟨[.agg ⟨x_8⟩, .bool false]⟩, hv_7))
      (pAgg ⟨b, 0, none⟩ [.int .i64 0, .int .i64 0, .int .i64 0, .int .i64 0, .int .i64 0, .slice none 0 0, .int .i64 0, .int .i64 0, .slice none 0 0, .bool false, .slice none 0 0, .int .i64 0] hv_5 fun hv_8 => gAgg ⟨b, 0, none⟩ 12 hv_8 fun x_9 => some (.tuple ⟨[.agg ⟨x_9⟩, .bool false]⟩, hv_8)))))
  | _ => none
noncomputable def X_sect_Sect_Quit : XPoly := fun G _ call run a h => match a with
  | [.pointer s, .int .i64 who] =>
  aSome s fun p => gBool (Addr.add p 1) h fun x => bnd (cond x (aSome s fun p_1 => gInt .i64 (Addr.add p_1 2) h fun x_1 => some (ieqF x_1 who, h)) (some (false, h))) fun c hv => cond c
      (aSome s fun p_2 => pV (Addr.add p_2 1) (.bool false) hv fun hv_1 => aSome s fun p_3 => gInt .i64 (Addr.add p_3 7) hv_1 fun x_2 => aSome s fun p_4 => pV (Addr.add p_4 6) (.int .i64 x_2) hv_1 fun hv_2 => run F_sect_Sect_Quit 2007 [.pointer s, .int .i64 who] hv_2)
      (run F_sect_Sect_Quit 2007 [.pointer s, .int .i64 who] hv)
  | _ => none
noncomputable def X_sect_Sect_Quit_R1 : XPoly := fun G _ call run a h => match a with
  | [.pointer s, .int .i64 who] =>
  aSome s fun p => gSl (Addr.add p 5) h fun x xn xc => bnd (call F_slices_Index_s_int_int [.slice x xn xc, .int .i64 who] h) fun r hv => aInt .i64 r fun x_1 => cond (iltF x_1 0)
      (some (.tuple ⟨[]⟩, hv))
      (aSome s fun p_1 => gSl (Addr.add p_1 5) hv fun x_2 xn_1 xc_1 => bnd (call F_slices_Clone_s_int_int [.slice x_2 xn_1 xc_1] hv) fun r_1 hv_1 => aSl r_1 fun x_3 xn_2 xc_2 => bnd (call F_slices_Delete_s_int_int [.slice x_3 xn_2 xc_2, .int .i64 x_1, .int .i64 (wrapF .i64 (x_1 + 1))] hv_1) fun r_2 hv_2 => aSl r_2 fun x_4 xn_3 xc_3 => aSome s fun p_2 => pV (Addr.add p_2 5) (.slice x_4 xn_3 xc_3) hv_2 fun hv_3 => cond (ieqF x_1 0)
      (aSome s fun p_3 => gInt .i64 (Addr.add p_3 7) hv_3 fun x_5 => aSome s fun p_4 => pV (Addr.add p_4 6) (.int .i64 x_5) hv_3 fun hv_4 => some (.tuple ⟨[]⟩, hv_4))
      (some (.tuple ⟨[]⟩, hv_3)))
  | _ => none
noncomputable def LB_sect_Sect_Quit_R1 : Lab := ⟨F_sect_Sect_Quit, 2007, T_sect_Sect_Quit_R1, [0, 1], X_sect_Sect_Quit_R1⟩
noncomputable def X_ring_Ok_1 : XPoly := fun G _ call run a h => match a with
  | [.int .i64 n, .int .i64 most] =>
  bnd (cond (ileF 0 n) (some (ileF n most, h)) (some (false, h))) fun c hv => some (.bool c, hv)
  | _ => none
noncomputable def X_sect_Sect_Holds : XPoly := fun G _ call run a h => match a with
  | [.pointer s, .int .i64 who, .int .i64 stamp] =>
  aSome s fun p => gBool (Addr.add p 1) h fun x => bnd (cond x (aSome s fun p_1 => gInt .i64 (Addr.add p_1 2) h fun x_1 => some (ieqF x_1 who, h)) (some (false, h))) fun c hv => bnd (cond c (aSome s fun p_2 => gInt .i64 (Addr.add p_2 3) hv fun x_2 => some (ieqF x_2 stamp, hv)) (some (false, hv))) fun c_1 hv_1 => some (.bool c_1, hv_1)
  | _ => none
noncomputable def X_plain_unit_do : XPoly := fun G _ call run a h => match a with
  | [.pointer x, .int .i64 i, .agg ⟨s⟩] =>
  nw (.cells Y_api_Sys false s) h fun b hv => nw (.cells Y_api_Ret false [.int .i64 0, .int .i64 0, .slice none 0 0, .bool false]) hv fun b_1 hv_1 => gAgg ⟨b, 0, none⟩ 4 hv_1 fun x_1 => bnd (call F_plain_unit_descriptors [.pointer x, .int .i64 i, .agg ⟨x_1⟩] hv_1) fun r hv_2 => as2 r fun r_1 r_2 => aAgg r_1 fun x_2 => aBool r_2 fun x_3 => nw (.cells Y_api_Ret false [.int .i64 0, .int .i64 0, .slice none 0 0, .bool false]) hv_2 fun b_2 hv_3 => ck (List.length x_2 = 4) (pAgg ⟨b_2, 0, none⟩ x_2 hv_3 fun hv_4 => cond x_3
      (gAgg ⟨b_2, 0, none⟩ 4 hv_4 fun x_4 => ck (List.length x_4 = 4) (pAgg ⟨b_1, 0, none⟩ x_4 hv_4 fun hv_5 => gAgg ⟨b_1, 0, none⟩ 4 hv_5 fun x_5 => some (.agg ⟨x_5⟩, hv_5)))
      (gInt .i64 (Addr.add ⟨b, 0, none⟩ 0) hv_4 fun x_6 => cond (ieqF x_6 1)
      (pAgg ⟨b_1, 0, none⟩ [.int .i64 i, .int .i64 0, .slice none 0 0, .bool false] hv_4 fun hv_6 => gAgg ⟨b_1, 0, none⟩ 4 hv_6 fun x_7 => some (.agg ⟨x_7⟩, hv_6))
      (cond (ieqF x_6 2)
      (bnd (call F_plain_unit_fork [.pointer x, .int .i64 i] hv_4) fun r_3 hv_7 => as2 r_3 fun r_4 r_5 => aInt .i64 r_4 fun x_8 => aInt .i64 r_5 fun x_9 => bnd (call F_plain_told [.int .i64 x_8, .int .i64 x_9] hv_7) fun r_6 hv_8 => aAgg r_6 fun x_10 => ck (List.length x_10 = 4) (pAgg ⟨b_1, 0, none⟩ x_10 hv_8 fun hv_9 => gAgg ⟨b_1, 0, none⟩ 4 hv_9 fun x_11 => some (.agg ⟨x_11⟩, hv_9)))
      (cond (ieqF x_6 3)
      (gInt .i64 (Addr.add ⟨b, 0, none⟩ 1) hv_4 fun x_12 => bnd (call F_plain_unit_exit [.pointer x, .int .i64 i, .int .i64 x_12] hv_4) fun r_7 hv_10 => as0 r_7 (pAgg ⟨b_1, 0, none⟩ [.int .i64 0, .int .i64 0, .slice none 0 0, .bool false] hv_10 fun hv_11 => gAgg ⟨b_1, 0, none⟩ 4 hv_11 fun x_13 => some (.agg ⟨x_13⟩, hv_11)))
      (cond (ieqF x_6 4)
      (bnd (call F_plain_unit_wait [.pointer x, .int .i64 i] hv_4) fun r_8 hv_12 => aAgg r_8 fun x_14 => ck (List.length x_14 = 4) (pAgg ⟨b_1, 0, none⟩ x_14 hv_12 fun hv_13 => gAgg ⟨b_1, 0, none⟩ 4 hv_13 fun x_15 => some (.agg ⟨x_15⟩, hv_13)))
      (cond (ieqF x_6 5)
      (gInt .i64 (Addr.add ⟨b, 0, none⟩ 1) hv_4 fun x_16 => gInt .i64 (Addr.add ⟨b, 0, none⟩ 2) hv_4 fun x_17 => bnd (call F_plain_unit_kill [.pointer x, .int .i64 x_16, .int .i64 x_17] hv_4) fun r_9 hv_14 => aInt .i64 r_9 fun x_18 => bnd (call F_plain_told [.int .i64 0, .int .i64 x_18] hv_14) fun r_10 hv_15 => aAgg r_10 fun x_19 => ck (List.length x_19 = 4) (pAgg ⟨b_1, 0, none⟩ x_19 hv_15 fun hv_16 => gAgg ⟨b_1, 0, none⟩ 4 hv_16 fun x_20 => some (.agg ⟨x_20⟩, hv_16)))
      (cond (ieqF x_6 6)
      (cond (ieqF x_6 6)
      (gAgg ⟨b, 0, none⟩ 4 hv_4 fun x_21 => bnd (call F_plain_unit_own [.pointer x, .int .i64 i, .agg ⟨x_21⟩] hv_4) fun r_11 hv_17 => aAgg r_11 fun x_22 => ck (List.length x_22 = 4) (pAgg ⟨b_1, 0, none⟩ x_22 hv_17 fun hv_18 => gAgg ⟨b_1, 0, none⟩ 4 hv_18 fun x_23 => some (.agg ⟨x_23⟩, hv_18)))
      (cond (ieqF x_6 8)
      (gInt .i64 (Addr.add ⟨b, 0, none⟩ 1) hv_4 fun x_24 => gInt .i64 (Addr.add ⟨b, 0, none⟩ 2) hv_4 fun x_25 => bnd (call F_plain_unit_group [.pointer x, .int .i64 i, .int .i64 x_24, .int .i64 x_25] hv_4) fun r_12 hv_19 => aInt .i64 r_12 fun x_26 => bnd (call F_plain_told [.int .i64 0, .int .i64 x_26] hv_19) fun r_13 hv_20 => aAgg r_13 fun x_27 => ck (List.length x_27 = 4) (pAgg ⟨b_1, 0, none⟩ x_27 hv_20 fun hv_21 => gAgg ⟨b_1, 0, none⟩ 4 hv_21 fun x_28 => some (.agg ⟨x_28⟩, hv_21)))
      (cond (ieqF x_6 17)
      (aSome x fun p => ckRF i 8 (gInt .i64 (Addr.add (Addr.add (Addr.add p 0) (Int.toNat i * 16)) 1) hv_4 fun x_29 => pAgg ⟨b_1, 0, none⟩ [.int .i64 (wrapF .i64 (x_29 - 1)), .int .i64 0, .slice none 0 0, .bool false] hv_4 fun hv_22 => gAgg ⟨b_1, 0, none⟩ 4 hv_22 fun x_30 => some (.agg ⟨x_30⟩, hv_22)))
      (cond (ieqF x_6 18)
      (aSome x fun p_1 => ckRF i 8 (gInt .i64 (Addr.add (Addr.add (Addr.add p_1 0) (Int.toNat i * 16)) 2) hv_4 fun x_31 => pAgg ⟨b_1, 0, none⟩ [.int .i64 x_31, .int .i64 0, .slice none 0 0, .bool false] hv_4 fun hv_23 => gAgg ⟨b_1, 0, none⟩ 4 hv_23 fun x_32 => some (.agg ⟨x_32⟩, hv_23)))
      (pAgg ⟨b_1, 0, none⟩ [.int .i64 0, .int .i64 122, .slice none 0 0, .bool false] hv_4 fun hv_24 => gAgg ⟨b_1, 0, none⟩ 4 hv_24 fun x_33 => some (.agg ⟨x_33⟩, hv_24))))))
      (cond (ieqF x_6 7)
      (gAgg ⟨b, 0, none⟩ 4 hv_4 fun x_34 => bnd (call F_plain_unit_own [.pointer x, .int .i64 i, .agg ⟨x_34⟩] hv_4) fun r_14 hv_25 => aAgg r_14 fun x_35 => ck (List.length x_35 = 4) (pAgg ⟨b_1, 0, none⟩ x_35 hv_25 fun hv_26 => gAgg ⟨b_1, 0, none⟩ 4 hv_26 fun x_36 => some (.agg ⟨x_36⟩, hv_26)))
      (cond (ieqF x_6 8)
      (gInt .i64 (Addr.add ⟨b, 0, none⟩ 1) hv_4 fun x_37 => gInt .i64 (Addr.add ⟨b, 0, none⟩ 2) hv_4 fun x_38 => bnd (call F_plain_unit_group [.pointer x, .int .i64 i, .int .i64 x_37, .int .i64 x_38] hv_4) fun r_15 hv_27 => aInt .i64 r_15 fun x_39 => bnd (call F_plain_told [.int .i64 0, .int .i64 x_39] hv_27) fun r_16 hv_28 => aAgg r_16 fun x_40 => ck (List.length x_40 = 4) (pAgg ⟨b_1, 0, none⟩ x_40 hv_28 fun hv_29 => gAgg ⟨b_1, 0, none⟩ 4 hv_29 fun x_41 => some (.agg ⟨x_41⟩, hv_29)))
      (cond (ieqF x_6 17)
      (aSome x fun p_2 => ckRF i 8 (gInt .i64 (Addr.add (Addr.add (Addr.add p_2 0) (Int.toNat i * 16)) 1) hv_4 fun x_42 => pAgg ⟨b_1, 0, none⟩ [.int .i64 (wrapF .i64 (x_42 - 1)), .int .i64 0, .slice none 0 0, .bool false] hv_4 fun hv_30 => gAgg ⟨b_1, 0, none⟩ 4 hv_30 fun x_43 => some (.agg ⟨x_43⟩, hv_30)))
      (cond (ieqF x_6 18)
      (aSome x fun p_3 => ckRF i 8 (gInt .i64 (Addr.add (Addr.add (Addr.add p_3 0) (Int.toNat i * 16)) 2) hv_4 fun x_44 => pAgg ⟨b_1, 0, none⟩ [.int .i64 x_44, .int .i64 0, .slice none 0 0, .bool false] hv_4 fun hv_31 => gAgg ⟨b_1, 0, none⟩ 4 hv_31 fun x_45 => some (.agg ⟨x_45⟩, hv_31)))
      (pAgg ⟨b_1, 0, none⟩ [.int .i64 0, .int .i64 122, .slice none 0 0, .bool false] hv_4 fun hv_32 => gAgg ⟨b_1, 0, none⟩ 4 hv_32 fun x_46 => some (.agg ⟨x_46⟩, hv_32)))))))))))))
  | _ => none
noncomputable def X_sig_Wakes : XPoly := fun G _ call run a h => match a with
  | [.agg ⟨p⟩] =>
  nw (.cells Y_api_Proc false p) h fun b hv => gAgg ⟨b, 0, none⟩ 16 hv fun x => bnd (call F_sig_Next [.agg ⟨x⟩] hv) fun r hv_1 => as2 r fun r_1 r_2 => aInt .i64 r_1 fun _ => aInt .i64 r_2 fun x_2 => some (.bool (iltF 1 x_2), hv_1)
  | _ => none
noncomputable def X_plain_unit_wakes : XPoly := fun G _ call run a h => match a with
  | [.pointer x, .int .i64 i, .agg ⟨s⟩] =>
  nw (.cells Y_api_Sys false s) h fun b hv => gInt .i64 (Addr.add ⟨b, 0, none⟩ 1) hv fun x_1 => bnd (call F_plain_unit_open [.pointer x, .int .i64 i, .int .i64 x_1] hv) fun r hv_1 => aPtr r fun x_2 => gInt .i64 (Addr.add ⟨b, 0, none⟩ 0) hv_1 fun x_3 => bnd (cond (ineF x_3 10) (some (true, hv_1)) (some (x_2.isNone, hv_1))) fun c hv_2 => cond c
      (some (.bool true, hv_2))
      (aSome x_2 fun p => gInt .i64 (Addr.add p 0) hv_2 fun x_4 => cond (ieqF x_4 3)
      (aSome x fun p_1 => gPtr (Addr.add p_1 177) hv_2 fun x_5 => aSome x_5 fun p_2 => gInt .i64 (Addr.add p_2 1) hv_2 fun x_6 => some (.bool (iltF 0 x_6), hv_2))
      (aSome x_2 fun p_3 => gInt .i64 (Addr.add p_3 0) hv_2 fun x_7 => bnd (cond (ineF x_7 1) (some (true, hv_2)) (aSome x_2 fun p_4 => gInt .i64 (Addr.add p_4 1) hv_2 fun x_8 => some (ileF 4 x_8, hv_2))) fun c_1 hv_3 => cond c_1
      (some (.bool true, hv_3))
      (aSome x fun p_5 => gSl (Addr.add p_5 176) hv_3 fun x_9 xn _ => aSome x_2 fun p_6 => gInt .i64 (Addr.add p_6 1) hv_3 fun x_10 => aSome x_9 fun p_7 => ckRF x_10 xn (gPtr (Addr.add (bare p_7) (Int.toNat x_10 * 1)) hv_3 fun x_11 => aSome x_11 fun p_8 => gInt .i64 (Addr.add p_8 1) hv_3 fun x_12 => bnd (cond (iltF 0 x_12) (some (true, hv_3)) (aSome x_11 fun p_9 => gInt .i64 (Addr.add p_9 3) hv_3 fun x_13 => some (ieqF x_13 0, hv_3))) fun c_2 hv_4 => some (.bool c_2, hv_4)))))
  | _ => none
noncomputable def X_slices_Clone_s_int_int : XPoly := fun G _ call run a h => match a with
  | [.slice s sn sc] =>
  cond s.isNone
      (some (.slice none 0 0, h))
      (nw (.cells Y_int false []) h fun b hv => gCells s (sn * 1) hv fun cs => ckB (fitsOpen (some ⟨b, 0, none⟩) Y_int hv) (apd Y_int 1 (some ⟨b, 0, none⟩) 0 0 sn cs hv fun a an ac hv_1 => some (.slice a an ac, hv_1)))
  | _ => none
noncomputable def X_plain_unit_descriptors : XPoly := fun G _ call run a h => match a with
  | [.pointer x, .int .i64 i, .agg ⟨s⟩] =>
  nw (.cells Y_api_Sys false s) h fun b hv => nw (.cells Y_api_Ret false [.int .i64 0, .int .i64 0, .slice none 0 0, .bool false]) hv fun b_1 hv_1 => gInt .i64 (Addr.add ⟨b, 0, none⟩ 0) hv_1 fun x_1 => cond (ieqF x_1 9)
      (bnd (call F_plain_unit_pipe [.pointer x, .int .i64 i] hv_1) fun r hv_2 => as2 r fun r_1 r_2 => aInt .i64 r_1 fun x_2 => aInt .i64 r_2 fun x_3 => bnd (call F_plain_told [.int .i64 x_2, .int .i64 x_3] hv_2) fun r_3 hv_3 => aAgg r_3 fun x_4 => ck (List.length x_4 = 4) (pAgg ⟨b_1, 0, none⟩ x_4 hv_3 fun hv_4 => gAgg ⟨b_1, 0, none⟩ 4 hv_4 fun x_5 => some (.tuple ⟨[.agg ⟨x_5⟩, .bool true]⟩, hv_4)))
      (cond (ieqF x_1 10)
      (gInt .i64 (Addr.add ⟨b, 0, none⟩ 1) hv_1 fun x_6 => gInt .i64 (Addr.add ⟨b, 0, none⟩ 2) hv_1 fun x_7 => bnd (call F_plain_unit_read [.pointer x, .int .i64 i, .int .i64 x_6, .int .i64 x_7] hv_1) fun r_4 hv_5 => aAgg r_4 fun x_8 => ck (List.length x_8 = 4) (pAgg ⟨b_1, 0, none⟩ x_8 hv_5 fun hv_6 => gAgg ⟨b_1, 0, none⟩ 4 hv_6 fun x_9 => some (.tuple ⟨[.agg ⟨x_9⟩, .bool true]⟩, hv_6)))
      (cond (ieqF x_1 11)
      (gInt .i64 (Addr.add ⟨b, 0, none⟩ 1) hv_1 fun x_10 => gSl (Addr.add ⟨b, 0, none⟩ 3) hv_1 fun x_11 xn xc => bnd (call F_plain_unit_write [.pointer x, .int .i64 i, .int .i64 x_10, .slice x_11 xn xc] hv_1) fun r_5 hv_7 => aAgg r_5 fun x_12 => ck (List.length x_12 = 4) (pAgg ⟨b_1, 0, none⟩ x_12 hv_7 fun hv_8 => gAgg ⟨b_1, 0, none⟩ 4 hv_8 fun x_13 => some (.tuple ⟨[.agg ⟨x_13⟩, .bool true]⟩, hv_8)))
      (cond (ieqF x_1 12)
      (gInt .i64 (Addr.add ⟨b, 0, none⟩ 1) hv_1 fun x_14 => bnd (call F_plain_unit_close [.pointer x, .int .i64 i, .int .i64 x_14] hv_1) fun r_6 hv_9 => aInt .i64 r_6 fun x_15 => bnd (call F_plain_told [.int .i64 0, .int .i64 x_15] hv_9) fun r_7 hv_10 => aAgg r_7 fun x_16 => ck (List.length x_16 = 4) (pAgg ⟨b_1, 0, none⟩ x_16 hv_10 fun hv_11 => gAgg ⟨b_1, 0, none⟩ 4 hv_11 fun x_17 => some (.tuple ⟨[.agg ⟨x_17⟩, .bool true]⟩, hv_11)))
      (cond (ieqF x_1 13)
      (gInt .i64 (Addr.add ⟨b, 0, none⟩ 1) hv_1 fun x_18 => bnd (call F_plain_unit_dup [.pointer x, .int .i64 i, .int .i64 x_18] hv_1) fun r_8 hv_12 => as2 r_8 fun r_9 r_10 => aInt .i64 r_9 fun x_19 => aInt .i64 r_10 fun x_20 => bnd (call F_plain_told [.int .i64 x_19, .int .i64 x_20] hv_12) fun r_11 hv_13 => aAgg r_11 fun x_21 => ck (List.length x_21 = 4) (pAgg ⟨b_1, 0, none⟩ x_21 hv_13 fun hv_14 => gAgg ⟨b_1, 0, none⟩ 4 hv_14 fun x_22 => some (.tuple ⟨[.agg ⟨x_22⟩, .bool true]⟩, hv_14)))
      (cond (ieqF x_1 14)
      (gInt .i64 (Addr.add ⟨b, 0, none⟩ 1) hv_1 fun x_23 => gInt .i64 (Addr.add ⟨b, 0, none⟩ 2) hv_1 fun x_24 => bnd (call F_plain_unit_dup2 [.pointer x, .int .i64 i, .int .i64 x_23, .int .i64 x_24] hv_1) fun r_12 hv_15 => as2 r_12 fun r_13 r_14 => aInt .i64 r_13 fun x_25 => aInt .i64 r_14 fun x_26 => bnd (call F_plain_told [.int .i64 x_25, .int .i64 x_26] hv_15) fun r_15 hv_16 => aAgg r_15 fun x_27 => ck (List.length x_27 = 4) (pAgg ⟨b_1, 0, none⟩ x_27 hv_16 fun hv_17 => gAgg ⟨b_1, 0, none⟩ 4 hv_17 fun x_28 => some (.tuple ⟨[.agg ⟨x_28⟩, .bool true]⟩, hv_17)))
      (cond (ieqF x_1 15)
      (gInt .i64 (Addr.add ⟨b, 0, none⟩ 1) hv_1 fun x_29 => gInt .i64 (Addr.add ⟨b, 0, none⟩ 2) hv_1 fun x_30 => bnd (call F_plain_unit_never [.pointer x, .int .i64 i, .int .i64 x_29, .int .i64 x_30] hv_1) fun r_16 hv_18 => aInt .i64 r_16 fun x_31 => bnd (call F_plain_told [.int .i64 0, .int .i64 x_31] hv_18) fun r_17 hv_19 => aAgg r_17 fun x_32 => ck (List.length x_32 = 4) (pAgg ⟨b_1, 0, none⟩ x_32 hv_19 fun hv_20 => gAgg ⟨b_1, 0, none⟩ 4 hv_20 fun x_33 => some (.tuple ⟨[.agg ⟨x_33⟩, .bool true]⟩, hv_20)))
      (cond (ieqF x_1 16)
      (gInt .i64 (Addr.add ⟨b, 0, none⟩ 1) hv_1 fun x_34 => bnd (call F_plain_unit_toFront [.pointer x, .int .i64 i, .int .i64 x_34] hv_1) fun r_18 hv_21 => aInt .i64 r_18 fun x_35 => bnd (call F_plain_told [.int .i64 0, .int .i64 x_35] hv_21) fun r_19 hv_22 => aAgg r_19 fun x_36 => ck (List.length x_36 = 4) (pAgg ⟨b_1, 0, none⟩ x_36 hv_22 fun hv_23 => gAgg ⟨b_1, 0, none⟩ 4 hv_23 fun x_37 => some (.tuple ⟨[.agg ⟨x_37⟩, .bool true]⟩, hv_23)))
      (pAgg ⟨b_1, 0, none⟩ [.int .i64 0, .int .i64 0, .slice none 0 0, .bool false] hv_1 fun hv_24 => gAgg ⟨b_1, 0, none⟩ 4 hv_24 fun x_38 => some (.tuple ⟨[.agg ⟨x_38⟩, .bool false]⟩, hv_24)))))))))
  | _ => none
noncomputable def X_plain_told : XPoly := fun G _ call run a h => match a with
  | [.int .i64 n, .int .i64 e] =>
  nw (.cells Y_api_Ret false [.int .i64 0, .int .i64 0, .slice none 0 0, .bool false]) h fun b hv => cond (ineF e 0)
      (pAgg ⟨b, 0, none⟩ [.int .i64 0, .int .i64 e, .slice none 0 0, .bool false] hv fun hv_1 => gAgg ⟨b, 0, none⟩ 4 hv_1 fun x => some (.agg ⟨x⟩, hv_1))
      (pAgg ⟨b, 0, none⟩ [.int .i64 n, .int .i64 0, .slice none 0 0, .bool false] hv fun hv_2 => gAgg ⟨b, 0, none⟩ 4 hv_2 fun x_1 => some (.agg ⟨x_1⟩, hv_2))
  | _ => none
noncomputable def X_plain_unit_fork : XPoly := fun G _ call run a h => match a with
  | [.pointer x, .int .i64 i] =>
  aSome x fun p => ckB (liveA (Addr.add p 0) h) (bnd (call F_slices_IndexFunc_s_api_Proc_api_Proc [.slice (moved (some (Addr.add p 0)) (decide (0 < 8)) (0 * 16)) (8 - 0) (8 - 0), .func (.func F_plain_unit_fork_1) ⟨[]⟩ ⟨[]⟩] h) fun r hv => aInt .i64 r fun x_1 => cond (iltF x_1 0)
      (some (.tuple ⟨[.int .i64 0, .int .i64 111]⟩, hv))
      (aSome x fun p_1 => ckRF i 8 (gAgg (Addr.add (Addr.add p_1 0) (Int.toNat i * 16)) 16 hv fun x_2 => nw (.cells Y_api_Proc false [.int .i64 0, .int .i64 0, .int .i64 0, .int .i64 0, .int .i64 0, .int .i64 0, .int .i64 0, .int .i64 0, .int .i64 0, .int .i64 0, .int .i64 0, .int .i64 0, .int .i64 0, .int .i64 0, .int .i64 0, .int .i64 0]) hv fun b hv_1 => ck (List.length x_2 = 16) (pAgg ⟨b, 0, none⟩ x_2 hv_1 fun hv_2 => nw (.cells Y_12_int false [.int .i64 0, .int .i64 0, .int .i64 0, .int .i64 0, .int .i64 0, .int .i64 0, .int .i64 0, .int .i64 0, .int .i64 0, .int .i64 0, .int .i64 0, .int .i64 0]) hv_2 fun b_1 hv_3 => gAgg (Addr.add ⟨b, 0, none⟩ 8) 8 hv_3 fun x_3 => run F_plain_unit_fork 3014 [.pointer x, .int .i64 i, .int .i64 x_1, .pointer (some ⟨b, 0, none⟩), .pointer (some ⟨b_1, 0, none⟩), .agg ⟨x_3⟩, .int .i64 0] hv_3))))
  | _ => none
noncomputable def X_plain_unit_fork_L1 : XPoly := fun G _ call run a h => match a with
  | [.pointer x, .int .i64 i, .int .i64 to, .pointer (some p), .pointer (some more), .agg ⟨x29⟩, .int .i64 x30] =>
  cond (iltF x30 8)
      (ckRF x30 8 (nth x29 (Int.toNat x30 * 1) fun x_1 => aInt .i64 x_1 fun x_2 => cond (iltF 0 x_2)
      (ckRF (wrapF .i64 (x_2 - 1)) 12 (gInt .i64 (Addr.add more (Int.toNat (wrapF .i64 (x_2 - 1)) * 1)) h fun x_3 => ckRF (wrapF .i64 (x_2 - 1)) 12 (pV (Addr.add more (Int.toNat (wrapF .i64 (x_2 - 1)) * 1)) (.int .i64 (wrapF .i64 (x_3 + 1))) h fun hv => run F_plain_unit_fork 3014 [.pointer x, .int .i64 i, .int .i64 to, .pointer (some p), .pointer (some more), .agg ⟨x29⟩, .int .i64 (wrapF .i64 (x30 + 1))] hv)))
      (run F_plain_unit_fork 3014 [.pointer x, .int .i64 i, .int .i64 to, .pointer (some p), .pointer (some more), .agg ⟨x29⟩, .int .i64 (wrapF .i64 (x30 + 1))] h)))
      (gAgg more 12 h fun x_4 => run F_plain_unit_fork 3026 [.pointer x, .int .i64 i, .int .i64 to, .pointer (some p), .pointer (some more), .agg ⟨x_4⟩, .int .i64 0] h)
  | _ => none
noncomputable def LB_plain_unit_fork_L1 : Lab := ⟨F_plain_unit_fork, 3014, T_plain_unit_fork_L1, [0, 1, 6, 7, 8, 29, 30], X_plain_unit_fork_L1⟩
noncomputable def X_plain_unit_fork_L2 : XPoly := fun G _ call run a h => match a with
  | [.pointer x, .int .i64 i, .int .i64 to, .pointer (some p), .pointer (some more), .agg ⟨x42⟩, .int .i64 x43] =>
  cond (iltF x43 12)
      (ckRF x43 12 (nth x42 (Int.toNat x43 * 1) fun x_1 => aInt .i64 x_1 fun x_2 => bnd (cond (iltF 0 x_2) (aSome x fun p_1 => ckRF x43 12 (gInt .i64 (Addr.add (Addr.add (Addr.add p_1 128) (Int.toNat x43 * 4)) 2) h fun x_3 => some (iltF 64 (wrapF .i64 (x_3 + x_2)), h))) (some (false, h))) fun c hv => cond c
      (some (.tuple ⟨[.int .i64 0, .int .i64 123]⟩, hv))
      (run F_plain_unit_fork 3026 [.pointer x, .int .i64 i, .int .i64 to, .pointer (some p), .pointer (some more), .agg ⟨x42⟩, .int .i64 (wrapF .i64 (x43 + 1))] hv)))
      (gAgg more 12 h fun x_4 => run F_plain_unit_fork 3038 [.pointer x, .int .i64 i, .int .i64 to, .pointer (some p), .agg ⟨x_4⟩, .int .i64 0] h)
  | _ => none
noncomputable def LB_plain_unit_fork_L2 : Lab := ⟨F_plain_unit_fork, 3026, T_plain_unit_fork_L2, [0, 1, 6, 7, 8, 42, 43], X_plain_unit_fork_L2⟩
noncomputable def X_plain_unit_fork_L3 : XPoly := fun G _ call run a h => match a with
  | [.pointer x, .int .i64 i, .int .i64 to, .pointer (some p), .agg ⟨x62⟩, .int .i64 x63] =>
  cond (iltF x63 12)
      (ckRF x63 12 (nth x62 (Int.toNat x63 * 1) fun x_1 => aInt .i64 x_1 fun x_2 => aSome x fun p_1 => ckRF x63 12 (gInt .i64 (Addr.add (Addr.add (Addr.add p_1 128) (Int.toNat x63 * 4)) 2) h fun x_3 => aSome x fun p_2 => ckRF x63 12 (pV (Addr.add (Addr.add (Addr.add p_2 128) (Int.toNat x63 * 4)) 2) (.int .i64 (wrapF .i64 (x_3 + x_2))) h fun hv => run F_plain_unit_fork 3038 [.pointer x, .int .i64 i, .int .i64 to, .pointer (some p), .agg ⟨x62⟩, .int .i64 (wrapF .i64 (x63 + 1))] hv))))
      (pV (Addr.add p 1) (.int .i64 (wrapF .i64 (i + 1))) h fun hv_1 => pV (Addr.add p 4) (.int .i64 0) hv_1 fun hv_2 => gAgg p 16 hv_2 fun x_4 => aSome x fun p_3 => ckRF to 8 (ck (List.length x_4 = 16) (pAgg (Addr.add (Addr.add p_3 0) (Int.toNat to * 16)) x_4 hv_2 fun hv_3 => some (.tuple ⟨[.int .i64 to, .int .i64 0]⟩, hv_3))))
  | _ => none
noncomputable def LB_plain_unit_fork_L3 : Lab := ⟨F_plain_unit_fork, 3038, T_plain_unit_fork_L3, [0, 1, 6, 7, 62, 63], X_plain_unit_fork_L3⟩
noncomputable def X_plain_unit_wait : XPoly := fun G _ call run a h => match a with
  | [.pointer x, .int .i64 i] =>
  nw (.cells Y_p_plain_unit false [.pointer x]) h fun b hv => nw (.cells Y_int false [.int .i64 i]) hv fun b_1 hv_1 => nw (.cells Y_api_Ret false [.int .i64 0, .int .i64 0, .slice none 0 0, .bool false]) hv_1 fun b_2 hv_2 => bnd (call F_plain_those [.func (.func F_plain_unit_wait_1) ⟨[]⟩ ⟨[.pointer (some ⟨b, 0, none⟩), .pointer (some ⟨b_1, 0, none⟩)]⟩] hv_2) fun r hv_3 => aSl r fun x_1 xn xc => run F_plain_unit_wait 3006 [.pointer (some ⟨b, 0, none⟩), .pointer (some ⟨b_2, 0, none⟩), .slice x_1 xn xc, .slice x_1 xn xc, .int .i64 ((xn : Nat) : Int), .int .i64 0] hv_3
  | _ => none
noncomputable def X_plain_unit_wait_L1 : XPoly := fun G _ call run a h => match a with
  | [.pointer (some x), .pointer (some x4), .slice l ln lc, .slice x11 x11n x11c, .int .i64 x12, .int .i64 x13] =>
  cond (iltF x13 x12)
      (aSome x11 fun p => ckRF x13 x11n (gInt .i64 (Addr.add (bare p) (Int.toNat x13 * 1)) h fun x_1 => gPtr x h fun x_2 => bnd (call F_plain_unit_lives [.pointer x_2, .int .i64 x_1] h) fun r hv => aBool r fun x_3 => cond (!x_3)
      (gPtr x hv fun x_4 => aSome x_4 fun p_1 => ckRF x_1 8 (gInt .i64 (Addr.add (Addr.add (Addr.add p_1 0) (Int.toNat x_1 * 16)) 3) hv fun x_5 => gPtr x hv fun x_6 => aSome x_6 fun p_2 => ckRF x_1 8 (pAgg (Addr.add (Addr.add p_2 0) (Int.toNat x_1 * 16)) [.int .i64 0, .int .i64 0, .int .i64 0, .int .i64 0, .int .i64 0, .int .i64 0, .int .i64 0, .int .i64 0, .int .i64 0, .int .i64 0, .int .i64 0, .int .i64 0, .int .i64 0, .int .i64 0, .int .i64 0, .int .i64 0] hv fun hv_1 => pAgg x4 [.int .i64 (wrapF .i64 ((wrapF .i64 (256 * x_1)) + x_5)), .int .i64 0, .slice none 0 0, .bool false] hv_1 fun hv_2 => gAgg x4 4 hv_2 fun x_7 => some (.agg ⟨x_7⟩, hv_2))))
      (run F_plain_unit_wait 3006 [.pointer (some x), .pointer (some x4), .slice l ln lc, .slice x11 x11n x11c, .int .i64 x12, .int .i64 (wrapF .i64 (x13 + 1))] hv)))
      (cond (ieqF ((ln : Nat) : Int) 0)
      (pAgg x4 [.int .i64 0, .int .i64 110, .slice none 0 0, .bool false] h fun hv_3 => gAgg x4 4 hv_3 fun x_8 => some (.agg ⟨x_8⟩, hv_3))
      (pAgg x4 [.int .i64 0, .int .i64 0, .slice none 0 0, .bool true] h fun hv_4 => gAgg x4 4 hv_4 fun x_9 => some (.agg ⟨x_9⟩, hv_4)))
  | _ => none
noncomputable def LB_plain_unit_wait_L1 : Lab := ⟨F_plain_unit_wait, 3006, T_plain_unit_wait_L1, [2, 4, 5, 11, 12, 13], X_plain_unit_wait_L1⟩
noncomputable def X_plain_unit_kill : XPoly := fun G _ call run a h => match a with
  | [.pointer x, .int .i64 target, .int .i64 n] =>
  nw (.cells Y_p_plain_unit false [.pointer x]) h fun b hv => nw (.cells Y_int false [.int .i64 target]) hv fun b_1 hv_1 => gInt .i64 ⟨b_1, 0, none⟩ hv_1 fun x_1 => bnd (call F_plain_in [.int .i64 x_1, .int .i64 15] hv_1) fun r hv_2 => aBool r fun x_2 => bnd (cond (!x_2) (some (true, hv_2)) (bnd (call F_plain_in [.int .i64 n, .int .i64 15] hv_2) fun r_1 hv_3 => aBool r_1 fun x_3 => some (!x_3, hv_3))) fun c hv_4 => cond c
      (some (.int .i64 122, hv_4))
      (bnd (call F_plain_those [.func (.func F_plain_unit_kill_1) ⟨[]⟩ ⟨[.pointer (some ⟨b_1, 0, none⟩), .pointer (some ⟨b, 0, none⟩)]⟩] hv_4) fun r_2 hv_5 => aSl r_2 fun x_4 xn xc => cond (ieqF ((xn : Nat) : Int) 0)
      (some (.int .i64 103, hv_5))
      (run F_plain_unit_kill 3014 [.int .i64 n, .pointer (some ⟨b, 0, none⟩), .slice x_4 xn xc, .int .i64 ((xn : Nat) : Int), .int .i64 0] hv_5))
  | _ => none
noncomputable def X_plain_unit_kill_L1 : XPoly := fun G _ call run a h => match a with
  | [.int .i64 n, .pointer (some x), .slice x23 x23n x23c, .int .i64 x24, .int .i64 x25] =>
  cond (iltF x25 x24)
      (aSome x23 fun p => ckRF x25 x23n (gInt .i64 (Addr.add (bare p) (Int.toNat x25 * 1)) h fun x_1 => gPtr x h fun x_2 => gPtr x h fun x_3 => aSome x_3 fun p_1 => ckRF x_1 8 (gAgg (Addr.add (Addr.add p_1 0) (Int.toNat x_1 * 16)) 16 h fun x_4 => aSome x_2 fun p_2 => bnd (call F_sig_Raise [.agg ⟨x_4⟩, .int .i64 n] h) fun r hv => as2 r fun r_1 r_2 => aAgg r_1 fun x_5 => aBool r_2 fun _ => gPtr x hv fun x_7 => same (.pointer x_2) (.pointer x_7) (ckRF x_1 8 (ck (List.length x_5 = 16) (pAgg (Addr.add (Addr.add p_2 0) (Int.toNat x_1 * 16)) x_5 hv fun hv_1 => run F_plain_unit_kill 3014 [.int .i64 n, .pointer (some x), .slice x23 x23n x23c, .int .i64 x24, .int .i64 (wrapF .i64 (x25 + 1))] hv_1))))))
      (some (.int .i64 0, h))
  | _ => none
noncomputable def LB_plain_unit_kill_L1 : Lab := ⟨F_plain_unit_kill, 3014, T_plain_unit_kill_L1, [2, 3, 23, 24, 25], X_plain_unit_kill_L1⟩
noncomputable def X_plain_unit_group : XPoly := fun G _ call run a h => match a with
  | [.pointer x, .int .i64 i, .int .i64 target, .int .i64 g] =>
  bnd (call F_plain_in [.int .i64 target, .int .i64 7] h) fun r hv => aBool r fun x_1 => bnd (cond (!x_1) (some (true, hv)) (bnd (call F_plain_in [.int .i64 g, .int .i64 7] hv) fun r_1 hv_1 => aBool r_1 fun x_2 => some (!x_2, hv_1))) fun c hv_2 => cond c
      (some (.int .i64 122, hv_2))
      (bnd (cond (ineF target i) (bnd (call F_plain_unit_lives [.pointer x, .int .i64 target] hv_2) fun r_2 hv_3 => aBool r_2 fun x_3 => bnd (cond (!x_3) (some (true, hv_3)) (aSome x fun p => ckRF target 8 (gInt .i64 (Addr.add (Addr.add (Addr.add p 0) (Int.toNat target * 16)) 1) hv_3 fun x_4 => some (ineF x_4 (wrapF .i64 (i + 1)), hv_3)))) fun c_1 hv_4 => some (c_1, hv_4)) (some (false, hv_2))) fun c_2 hv_5 => cond c_2
      (some (.int .i64 103, hv_5))
      (bnd (cond (ineF g target) (bnd (call F_plain_unit_has [.pointer x, .int .i64 g] hv_5) fun r_3 hv_6 => aBool r_3 fun x_5 => some (!x_5, hv_6)) (some (false, hv_5))) fun c_3 hv_7 => cond c_3
      (some (.int .i64 101, hv_7))
      (aSome x fun p_1 => ckRF target 8 (pV (Addr.add (Addr.add (Addr.add p_1 0) (Int.toNat target * 16)) 2) (.int .i64 g) hv_7 fun hv_8 => some (.int .i64 0, hv_8)))))
  | _ => none
noncomputable def X_plain_unit_open : XPoly := fun G _ call run a h => match a with
  | [.pointer x, .int .i64 i, .int .i64 fd] =>
  bnd (call F_plain_in [.int .i64 fd, .int .i64 7] h) fun r hv => aBool r fun x_1 => bnd (cond (!x_1) (some (true, hv)) (aSome x fun p => ckRF i 8 (ckRF fd 8 (gInt .i64 (Addr.add (Addr.add (Addr.add (Addr.add p 0) (Int.toNat i * 16)) 8) (Int.toNat fd * 1)) hv fun x_2 => some (ieqF x_2 0, hv))))) fun c hv_1 => cond c
      (some (.pointer none, hv_1))
      (aSome x fun p_1 => ckRF i 8 (ckRF fd 8 (gInt .i64 (Addr.add (Addr.add (Addr.add (Addr.add p_1 0) (Int.toNat i * 16)) 8) (Int.toNat fd * 1)) hv_1 fun x_3 => aSome x fun p_2 => ckRF (wrapF .i64 (x_3 - 1)) 12 (some (.pointer (some (Addr.add (Addr.add p_2 128) (Int.toNat (wrapF .i64 (x_3 - 1)) * 4))), hv_1)))))
  | _ => none
noncomputable def X_plain_unit_drop : XPoly := fun G _ call run a h => match a with
  | [.pointer x, .int .i64 f] =>
  aSome x fun p => ckRF f 12 (gInt .i64 (Addr.add (Addr.add (Addr.add p 128) (Int.toNat f * 4)) 2) h fun x_1 => pV (Addr.add (Addr.add (Addr.add p 128) (Int.toNat f * 4)) 2) (.int .i64 (wrapF .i64 (x_1 - 1))) h fun hv => gInt .i64 (Addr.add (Addr.add (Addr.add p 128) (Int.toNat f * 4)) 2) hv fun x_2 => cond (iltF 0 x_2)
      (some (.tuple ⟨[]⟩, hv))
      (gAgg (Addr.add (Addr.add p 128) (Int.toNat f * 4)) 4 hv fun x_3 => nw (.cells Y_api_File false [.int .i64 0, .int .i64 0, .int .i64 0, .int .i64 0]) hv fun b hv_1 => ck (List.length x_3 = 4) (pAgg ⟨b, 0, none⟩ x_3 hv_1 fun hv_2 => pAgg (Addr.add (Addr.add p 128) (Int.toNat f * 4)) [.int .i64 0, .int .i64 0, .int .i64 0, .int .i64 0] hv_2 fun hv_3 => gInt .i64 (Addr.add ⟨b, 0, none⟩ 0) hv_3 fun x_4 => cond (ieqF x_4 3)
      (some (.tuple ⟨[]⟩, hv_3))
      (aSome x fun p_1 => gSl (Addr.add p_1 176) hv_3 fun x_5 xn _ => gInt .i64 (Addr.add ⟨b, 0, none⟩ 1) hv_3 fun x_6 => aSome x_5 fun p_2 => ckRF x_6 xn (gPtr (Addr.add (bare p_2) (Int.toNat x_6 * 1)) hv_3 fun x_7 => gInt .i64 (Addr.add ⟨b, 0, none⟩ 0) hv_3 fun x_8 => cond (ieqF x_8 1)
      (aSome x_7 fun p_3 => gInt .i64 (Addr.add p_3 2) hv_3 fun x_9 => aSome x_7 fun p_4 => pV (Addr.add p_4 2) (.int .i64 (mm2 true (wrapF .i64 (x_9 - 1)) 0)) hv_3 fun hv_4 => run F_plain_unit_drop 2021 [.pointer x, .pointer (some ⟨b, 0, none⟩), .pointer x_7] hv_4)
      (aSome x_7 fun p_5 => gInt .i64 (Addr.add p_5 3) hv_3 fun x_10 => aSome x_7 fun p_6 => pV (Addr.add p_6 3) (.int .i64 (mm2 true (wrapF .i64 (x_10 - 1)) 0)) hv_3 fun hv_5 => run F_plain_unit_drop 2021 [.pointer x, .pointer (some ⟨b, 0, none⟩), .pointer x_7] hv_5))))))
  | _ => none
noncomputable def X_plain_unit_drop_R1 : XPoly := fun G _ call run a h => match a with
  | [.pointer x, .pointer (some was), .pointer r] =>
  aSome r fun p => gInt .i64 (Addr.add p 2) h fun x_1 => aSome r fun p_1 => gInt .i64 (Addr.add p_1 3) h fun x_2 => bnd (cond (ieqF (wrapF .i64 (x_1 + x_2)) 0) (gInt .i64 (Addr.add was 1) h fun x_3 => some (iltF x_3 4, h)) (some (false, h))) fun c hv => cond c
      (aSome x fun p_2 => gSl (Addr.add p_2 176) hv fun x_4 xn _ => gInt .i64 (Addr.add was 1) hv fun x_5 => aSome x_4 fun p_3 => ckRF x_5 xn (pV (Addr.add (bare p_3) (Int.toNat x_5 * 1)) (.pointer none) hv fun hv_1 => some (.tuple ⟨[]⟩, hv_1)))
      (some (.tuple ⟨[]⟩, hv))
  | _ => none
noncomputable def LB_plain_unit_drop_R1 : Lab := ⟨F_plain_unit_drop, 2021, T_plain_unit_drop_R1, [0, 5, 6], X_plain_unit_drop_R1⟩
noncomputable def X_plain_unit_dup2 : XPoly := fun G _ call run a h => match a with
  | [.pointer x, .int .i64 i, .int .i64 fd, .int .i64 to] =>
  bnd (call F_plain_unit_open [.pointer x, .int .i64 i, .int .i64 fd] h) fun r hv => aPtr r fun x_1 => bnd (cond x_1.isNone (some (true, hv)) (bnd (call F_plain_in [.int .i64 to, .int .i64 7] hv) fun r_1 hv_1 => aBool r_1 fun x_2 => some (!x_2, hv_1))) fun c hv_2 => cond c
      (some (.tuple ⟨[.int .i64 0, .int .i64 109]⟩, hv_2))
      (cond (ieqF to fd)
      (some (.tuple ⟨[.int .i64 to, .int .i64 0]⟩, hv_2))
      (aSome x_1 fun p => gInt .i64 (Addr.add p 2) hv_2 fun x_3 => cond (ileF 64 x_3)
      (some (.tuple ⟨[.int .i64 0, .int .i64 123]⟩, hv_2))
      (aSome x_1 fun p_1 => gInt .i64 (Addr.add p_1 2) hv_2 fun x_4 => aSome x_1 fun p_2 => pV (Addr.add p_2 2) (.int .i64 (wrapF .i64 (x_4 + 1))) hv_2 fun hv_3 => bnd (call F_plain_unit_close [.pointer x, .int .i64 i, .int .i64 to] hv_3) fun r_2 hv_4 => aInt .i64 r_2 fun _ => aSome x fun p_3 => ckRF i 8 (ckRF fd 8 (gInt .i64 (Addr.add (Addr.add (Addr.add (Addr.add p_3 0) (Int.toNat i * 16)) 8) (Int.toNat fd * 1)) hv_4 fun x_6 => aSome x fun p_4 => ckRF i 8 (ckRF to 8 (pV (Addr.add (Addr.add (Addr.add (Addr.add p_4 0) (Int.toNat i * 16)) 8) (Int.toNat to * 1)) (.int .i64 x_6) hv_4 fun hv_5 => some (.tuple ⟨[.int .i64 to, .int .i64 0]⟩, hv_5))))))))
  | _ => none
noncomputable def X_plain_unit_toFront : XPoly := fun G _ call run a h => match a with
  | [.pointer x, .int .i64 i, .int .i64 g] =>
  bnd (call F_plain_in [.int .i64 g, .int .i64 7] h) fun r hv => aBool r fun x_1 => cond (!x_1)
      (some (.int .i64 122, hv))
      (aSome x fun p => ckRF i 8 (gInt .i64 (Addr.add (Addr.add (Addr.add p 0) (Int.toNat i * 16)) 2) hv fun x_2 => aSome x fun p_1 => gInt .i64 (Addr.add p_1 178) hv fun x_3 => bnd (cond (ineF x_2 x_3) (some (true, hv)) (bnd (call F_plain_unit_has [.pointer x, .int .i64 g] hv) fun r_1 hv_1 => aBool r_1 fun x_4 => some (!x_4, hv_1))) fun c hv_2 => cond c
      (some (.int .i64 101, hv_2))
      (aSome x fun p_2 => pV (Addr.add p_2 178) (.int .i64 g) hv_2 fun hv_3 => some (.int .i64 0, hv_3))))
  | _ => none
noncomputable def X_plain_those : XPoly := fun G _ call run a h => match a with
  | [isv] =>
  run F_plain_those 3006 [isv, .slice none 0 0, .int .i64 0] h
  | _ => none
noncomputable def X_plain_those_L1 : XPoly := fun G _ call run a h => match a with
  | [isv, .slice out outn outc, .int .i64 x5] =>
  cond (iltF x5 8)
      (aFn isv fun g fi cp => bnd (call g (fi ++ ([.int .i64 x5] ++ cp)) h) fun r hv => aBool r fun x => cond x
      (nw (.cells Y_int false [.int .i64 x5]) hv fun b hv_1 => gCells (some ⟨b, 0, none⟩) (1 * 1) hv_1 fun cs => ckB (fitsOpen out Y_int hv_1) (apd Y_int 1 out outn outc 1 cs hv_1 fun a an ac hv_2 => run F_plain_those 3006 [isv, .slice a an ac, .int .i64 (wrapF .i64 (x5 + 1))] hv_2))
      (run F_plain_those 3006 [isv, .slice out outn outc, .int .i64 (wrapF .i64 (x5 + 1))] hv))
      (some (.slice out outn outc, h))
  | _ => none
noncomputable def LB_plain_those_L1 : Lab := ⟨F_plain_those, 3006, T_plain_those_L1, [0, 3, 5], X_plain_those_L1⟩
noncomputable def X_plain_unit_wait_1 : XPoly := fun G _ call run a h => match a with
  | [.int .i64 k, .pointer (some fv0), .pointer (some fv1)] =>
  gPtr fv0 h fun x => aSome x fun p => ckRF k 8 (gInt .i64 (Addr.add (Addr.add (Addr.add p 0) (Int.toNat k * 16)) 0) h fun x_1 => bnd (cond (iltF 0 x_1) (gPtr fv0 h fun x_2 => aSome x_2 fun p_1 => ckRF k 8 (gInt .i64 (Addr.add (Addr.add (Addr.add p_1 0) (Int.toNat k * 16)) 1) h fun x_3 => gInt .i64 fv1 h fun x_4 => some (ieqF x_3 (wrapF .i64 (x_4 + 1)), h))) (some (false, h))) fun c hv => some (.bool c, hv))
  | _ => none
noncomputable def X_plain_unit_kill_1 : XPoly := fun G _ call run a h => match a with
  | [.int .i64 k, .pointer (some fv0), .pointer (some fv1)] =>
  gInt .i64 fv0 h fun x => bnd (cond (iltF x 8) (gInt .i64 fv0 h fun x_1 => some (ieqF k x_1, h)) (some (false, h))) fun c hv => bnd (cond c (gPtr fv1 hv fun x_2 => aSome x_2 fun p => ckRF k 8 (gInt .i64 (Addr.add (Addr.add (Addr.add p 0) (Int.toNat k * 16)) 0) hv fun x_3 => some (iltF 0 x_3, hv))) (some (false, hv))) fun c_1 hv_1 => bnd (cond c_1 (some (true, hv_1)) (gInt .i64 fv0 hv_1 fun x_4 => bnd (cond (ileF 8 x_4) (gPtr fv1 hv_1 fun x_5 => bnd (call F_plain_unit_lives [.pointer x_5, .int .i64 k] hv_1) fun r hv_2 => aBool r fun x_6 => some (x_6, hv_2)) (some (false, hv_1))) fun c_2 hv_3 => bnd (cond c_2 (gPtr fv1 hv_3 fun x_7 => aSome x_7 fun p_1 => ckRF k 8 (gInt .i64 (Addr.add (Addr.add (Addr.add p_1 0) (Int.toNat k * 16)) 2) hv_3 fun x_8 => gInt .i64 fv0 hv_3 fun x_9 => some (ieqF x_8 (wrapF .i64 (x_9 - 8)), hv_3))) (some (false, hv_3))) fun c_3 hv_4 => some (c_3, hv_4))) fun c_4 hv_5 => some (.bool c_4, hv_5)
  | _ => none
noncomputable def X_sig_Raise : XPoly := fun G _ call run a h => match a with
  | [.agg ⟨p⟩, .int .i64 n] =>
  nw (.cells Y_api_Proc false p) h fun b hv => nw (.cells Y_api_Proc false [.int .i64 0, .int .i64 0, .int .i64 0, .int .i64 0, .int .i64 0, .int .i64 0, .int .i64 0, .int .i64 0, .int .i64 0, .int .i64 0, .int .i64 0, .int .i64 0, .int .i64 0, .int .i64 0, .int .i64 0, .int .i64 0]) hv fun b_1 hv_1 => bnd (call F_sig_is [.int .i64 n] hv_1) fun r hv_2 => aBool r fun x => bnd (cond (!x) (some (true, hv_2)) (gInt .i64 (Addr.add ⟨b, 0, none⟩ 0) hv_2 fun x_1 => bnd (cond (ineF x_1 1) (gInt .i64 (Addr.add ⟨b, 0, none⟩ 0) hv_2 fun x_2 => some (ineF x_2 3, hv_2)) (some (false, hv_2))) fun c hv_3 => some (c, hv_3))) fun c_1 hv_4 => cond c_1
      (gAgg ⟨b, 0, none⟩ 16 hv_4 fun x_3 => ck (List.length x_3 = 16) (pAgg ⟨b_1, 0, none⟩ x_3 hv_4 fun hv_5 => gAgg ⟨b_1, 0, none⟩ 16 hv_5 fun x_4 => some (.tuple ⟨[.agg ⟨x_4⟩, .bool false]⟩, hv_5)))
      (ck ((0 : Int) ≤ (wrapF .u64 (n))) (gInt .i64 (Addr.add ⟨b, 0, none⟩ 6) hv_4 fun x_5 => bnd (cond (ieqF (bitAF .i64 x_5 (wrapF .i64 (1 * 2 ^ (min (Int.toNat (wrapF .u64 (n))) 64)))) 0) (some (true, hv_4)) (some (ineF (bitAF .i64 (wrapF .i64 (1 * 2 ^ (min (Int.toNat (wrapF .u64 (n))) 64))) 16896) 0, hv_4))) fun c_2 hv_6 => cond c_2
      (gInt .i64 (Addr.add ⟨b, 0, none⟩ 4) hv_6 fun x_6 => pV (Addr.add ⟨b, 0, none⟩ 4) (.int .i64 (bitO .i64 x_6 (wrapF .i64 (1 * 2 ^ (min (Int.toNat (wrapF .u64 (n))) 64))))) hv_6 fun hv_7 => run F_sig_Raise 3013 [.pointer (some ⟨b, 0, none⟩), .pointer (some ⟨b_1, 0, none⟩), .int .i64 (wrapF .i64 (1 * 2 ^ (min (Int.toNat (wrapF .u64 (n))) 64)))] hv_7)
      (run F_sig_Raise 3013 [.pointer (some ⟨b, 0, none⟩), .pointer (some ⟨b_1, 0, none⟩), .int .i64 (wrapF .i64 (1 * 2 ^ (min (Int.toNat (wrapF .u64 (n))) 64)))] hv_6)))
  | _ => none
noncomputable def X_sig_Raise_R1 : XPoly := fun G _ call run a h => match a with
  | [.pointer (some p), .pointer (some x4), .int .i64 b] =>
  bnd (cond (ieqF b 512) (some (true, h)) (some (ieqF b 32768, h))) fun c hv => bnd (cond c (gInt .i64 (Addr.add p 0) hv fun x => some (ieqF x 3, hv)) (some (false, hv))) fun c_1 hv_1 => cond c_1
      (pV (Addr.add p 0) (.int .i64 1) hv_1 fun hv_2 => run F_sig_Raise 3017 [.pointer (some p), .pointer (some x4), .int .i64 b] hv_2)
      (run F_sig_Raise 3017 [.pointer (some p), .pointer (some x4), .int .i64 b] hv_1)
  | _ => none
noncomputable def LB_sig_Raise_R1 : Lab := ⟨F_sig_Raise, 3013, T_sig_Raise_R1, [2, 4, 6], X_sig_Raise_R1⟩
noncomputable def X_sig_Raise_R2 : XPoly := fun G _ call run a h => match a with
  | [.pointer (some p), .pointer (some x4), .int .i64 b] =>
  cond (ieqF b 32768)
      (gInt .i64 (Addr.add p 4) h fun x => pV (Addr.add p 4) (.int .i64 (bitN .i64 x 16384)) h fun hv => gAgg p 16 hv fun x_1 => ck (List.length x_1 = 16) (pAgg x4 x_1 hv fun hv_1 => gAgg x4 16 hv_1 fun x_2 => some (.tuple ⟨[.agg ⟨x_2⟩, .bool true]⟩, hv_1)))
      (cond (ieqF b 16384)
      (gInt .i64 (Addr.add p 4) h fun x_3 => pV (Addr.add p 4) (.int .i64 (bitN .i64 x_3 32768)) h fun hv_2 => gAgg p 16 hv_2 fun x_4 => ck (List.length x_4 = 16) (pAgg x4 x_4 hv_2 fun hv_3 => gAgg x4 16 hv_3 fun x_5 => some (.tuple ⟨[.agg ⟨x_5⟩, .bool true]⟩, hv_3)))
      (gAgg p 16 h fun x_6 => ck (List.length x_6 = 16) (pAgg x4 x_6 h fun hv_4 => gAgg x4 16 hv_4 fun x_7 => some (.tuple ⟨[.agg ⟨x_7⟩, .bool true]⟩, hv_4))))
  | _ => none
noncomputable def LB_sig_Raise_R2 : Lab := ⟨F_sig_Raise, 3017, T_sig_Raise_R2, [2, 4, 6], X_sig_Raise_R2⟩
noncomputable def X_sig_Mask : XPoly := fun G _ call run a h => match a with
  | [.agg ⟨p⟩, .int .i64 m] =>
  nw (.cells Y_api_Proc false p) h fun b hv => nw (.cells Y_api_Proc false [.int .i64 0, .int .i64 0, .int .i64 0, .int .i64 0, .int .i64 0, .int .i64 0, .int .i64 0, .int .i64 0, .int .i64 0, .int .i64 0, .int .i64 0, .int .i64 0, .int .i64 0, .int .i64 0, .int .i64 0, .int .i64 0]) hv fun b_1 hv_1 => bnd (cond (iltF m 0) (some (true, hv_1)) (some (iltF 65535 m, hv_1))) fun c hv_2 => cond c
      (pAgg ⟨b_1, 0, none⟩ [.int .i64 0, .int .i64 0, .int .i64 0, .int .i64 0, .int .i64 0, .int .i64 0, .int .i64 0, .int .i64 0, .int .i64 0, .int .i64 0, .int .i64 0, .int .i64 0, .int .i64 0, .int .i64 0, .int .i64 0, .int .i64 0] hv_2 fun hv_3 => gAgg ⟨b_1, 0, none⟩ 16 hv_3 fun x => some (.tuple ⟨[.agg ⟨x⟩, .int .i64 0, .int .i64 122]⟩, hv_3))
      (gInt .i64 (Addr.add ⟨b, 0, none⟩ 5) hv_2 fun x_1 => pV (Addr.add ⟨b, 0, none⟩ 5) (.int .i64 (bitN .i64 (bitAF .i64 m 65534) 16896)) hv_2 fun hv_4 => gAgg ⟨b, 0, none⟩ 16 hv_4 fun x_2 => ck (List.length x_2 = 16) (pAgg ⟨b_1, 0, none⟩ x_2 hv_4 fun hv_5 => gAgg ⟨b_1, 0, none⟩ 16 hv_5 fun x_3 => some (.tuple ⟨[.agg ⟨x_3⟩, .int .i64 x_1, .int .i64 0]⟩, hv_5)))
  | _ => none
noncomputable def X_sig_Handle : XPoly := fun G _ call run a h => match a with
  | [.agg ⟨p⟩, .int .i64 n, .int .i64 how] =>
  nw (.cells Y_api_Proc false p) h fun b hv => nw (.cells Y_api_Proc false [.int .i64 0, .int .i64 0, .int .i64 0, .int .i64 0, .int .i64 0, .int .i64 0, .int .i64 0, .int .i64 0, .int .i64 0, .int .i64 0, .int .i64 0, .int .i64 0, .int .i64 0, .int .i64 0, .int .i64 0, .int .i64 0]) hv fun b_1 hv_1 => bnd (call F_sig_is [.int .i64 n] hv_1) fun r hv_2 => aBool r fun x => bnd (cond (!x) (some (true, hv_2)) (ck ((0 : Int) ≤ (wrapF .u64 (n))) (some (ineF (bitAF .i64 (wrapF .i64 (1 * 2 ^ (min (Int.toNat (wrapF .u64 (n))) 64))) 16896) 0, hv_2)))) fun c hv_3 => bnd (cond c (some (true, hv_3)) (some (iltF how 0, hv_3))) fun c_1 hv_4 => bnd (cond c_1 (some (true, hv_4)) (some (iltF 2 how, hv_4))) fun c_2 hv_5 => cond c_2
      (pAgg ⟨b_1, 0, none⟩ [.int .i64 0, .int .i64 0, .int .i64 0, .int .i64 0, .int .i64 0, .int .i64 0, .int .i64 0, .int .i64 0, .int .i64 0, .int .i64 0, .int .i64 0, .int .i64 0, .int .i64 0, .int .i64 0, .int .i64 0, .int .i64 0] hv_5 fun hv_6 => gAgg ⟨b_1, 0, none⟩ 16 hv_6 fun x_1 => some (.tuple ⟨[.agg ⟨x_1⟩, .int .i64 122]⟩, hv_6))
      (ck ((0 : Int) ≤ (wrapF .u64 (n))) (gInt .i64 (Addr.add ⟨b, 0, none⟩ 6) hv_5 fun x_2 => pV (Addr.add ⟨b, 0, none⟩ 6) (.int .i64 (bitN .i64 x_2 (wrapF .i64 (1 * 2 ^ (min (Int.toNat (wrapF .u64 (n))) 64))))) hv_5 fun hv_7 => gInt .i64 (Addr.add ⟨b, 0, none⟩ 7) hv_7 fun x_3 => pV (Addr.add ⟨b, 0, none⟩ 7) (.int .i64 (bitN .i64 x_3 (wrapF .i64 (1 * 2 ^ (min (Int.toNat (wrapF .u64 (n))) 64))))) hv_7 fun hv_8 => cond (ieqF how 1)
      (gInt .i64 (Addr.add ⟨b, 0, none⟩ 6) hv_8 fun x_4 => pV (Addr.add ⟨b, 0, none⟩ 6) (.int .i64 (bitO .i64 x_4 (wrapF .i64 (1 * 2 ^ (min (Int.toNat (wrapF .u64 (n))) 64))))) hv_8 fun hv_9 => gInt .i64 (Addr.add ⟨b, 0, none⟩ 4) hv_9 fun x_5 => pV (Addr.add ⟨b, 0, none⟩ 4) (.int .i64 (bitN .i64 x_5 (wrapF .i64 (1 * 2 ^ (min (Int.toNat (wrapF .u64 (n))) 64))))) hv_9 fun hv_10 => gAgg ⟨b, 0, none⟩ 16 hv_10 fun x_6 => ck (List.length x_6 = 16) (pAgg ⟨b_1, 0, none⟩ x_6 hv_10 fun hv_11 => gAgg ⟨b_1, 0, none⟩ 16 hv_11 fun x_7 => some (.tuple ⟨[.agg ⟨x_7⟩, .int .i64 0]⟩, hv_11)))
      (cond (ieqF how 2)
      (gInt .i64 (Addr.add ⟨b, 0, none⟩ 7) hv_8 fun x_8 => pV (Addr.add ⟨b, 0, none⟩ 7) (.int .i64 (bitO .i64 x_8 (wrapF .i64 (1 * 2 ^ (min (Int.toNat (wrapF .u64 (n))) 64))))) hv_8 fun hv_12 => gAgg ⟨b, 0, none⟩ 16 hv_12 fun x_9 => ck (List.length x_9 = 16) (pAgg ⟨b_1, 0, none⟩ x_9 hv_12 fun hv_13 => gAgg ⟨b_1, 0, none⟩ 16 hv_13 fun x_10 => some (.tuple ⟨[.agg ⟨x_10⟩, .int .i64 0]⟩, hv_13)))
      (gAgg ⟨b, 0, none⟩ 16 hv_8 fun x_11 => ck (List.length x_11 = 16) (pAgg ⟨b_1, 0, none⟩ x_11 hv_8 fun hv_14 => gAgg ⟨b_1, 0, none⟩ 16 hv_14 fun x_12 => some (.tuple ⟨[.agg ⟨x_12⟩, .int .i64 0]⟩, hv_14))))))
  | _ => none
noncomputable def X_plain_unit_has : XPoly := fun G _ call run a h => match a with
  | [.pointer x, .int .i64 g] =>
  nw (.cells Y_p_plain_unit false [.pointer x]) h fun b hv => nw (.cells Y_int false [.int .i64 g]) hv fun b_1 hv_1 => bnd (call F_plain_those [.func (.func F_plain_unit_has_1) ⟨[]⟩ ⟨[.pointer (some ⟨b, 0, none⟩), .pointer (some ⟨b_1, 0, none⟩)]⟩] hv_1) fun r hv_2 => aSl r fun _ xn _ => some (.bool (iltF 0 ((xn : Nat) : Int)), hv_2)
  | _ => none
noncomputable def X_math_bits_TrailingZeros : XPoly := fun G _ call run a h => match a with
  | [.int .u64 x] =>
  bnd (call F_math_bits_TrailingZeros64 [.int .u64 x] h) fun r hv => aInt .i64 r fun x_1 => some (.int .i64 x_1, hv)
  | _ => none
noncomputable def X_plain_unit_fds : XPoly := fun G _ call run a h => match a with
  | [.pointer x, .int .i64 i] =>
  nw (.cells Y_p_plain_unit false [.pointer x]) h fun b hv => nw (.cells Y_int false [.int .i64 i]) hv fun b_1 hv_1 => bnd (call F_plain_those [.func (.func F_plain_unit_fds_1) ⟨[]⟩ ⟨[.pointer (some ⟨b, 0, none⟩), .pointer (some ⟨b_1, 0, none⟩)]⟩] hv_1) fun r hv_2 => aSl r fun x_1 xn xc => some (.slice x_1 xn xc, hv_2)
  | _ => none
noncomputable def X_plain_waits : XPoly := fun G _ call run a h => match a with
  | [.pointer f] =>
  nw (.cells Y_api_Ret false [.int .i64 0, .int .i64 0, .slice none 0 0, .bool false]) h fun b hv => aSome f fun p => gInt .i64 (Addr.add p 3) hv fun x => cond (ieqF x 1)
      (pAgg ⟨b, 0, none⟩ [.int .i64 0, .int .i64 111, .slice none 0 0, .bool false] hv fun hv_1 => gAgg ⟨b, 0, none⟩ 4 hv_1 fun x_1 => some (.agg ⟨x_1⟩, hv_1))
      (pAgg ⟨b, 0, none⟩ [.int .i64 0, .int .i64 0, .slice none 0 0, .bool true] hv fun hv_2 => gAgg ⟨b, 0, none⟩ 4 hv_2 fun x_2 => some (.agg ⟨x_2⟩, hv_2))
  | _ => none
noncomputable def X_ring_Take : XPoly := fun G _ call run a h => match a with
  | [.agg ⟨p⟩, .int .i64 n] =>
  nw (.cells Y_api_Pipe false p) h fun b hv => nw (.cells Y_api_Pipe false [.int .i64 0, .int .i64 0, .int .i64 0, .int .i64 0, .int .u8 0, .int .u8 0, .int .u8 0, .int .u8 0, .int .u8 0, .int .u8 0, .int .u8 0, .int .u8 0, .int .u8 0, .int .u8 0, .int .u8 0, .int .u8 0, .int .u8 0, .int .u8 0, .int .u8 0, .int .u8 0, .int .u8 0, .int .u8 0, .int .u8 0, .int .u8 0, .int .u8 0, .int .u8 0, .int .u8 0, .int .u8 0, .int .u8 0, .int .u8 0, .int .u8 0, .int .u8 0, .int .u8 0, .int .u8 0, .int .u8 0, .int .u8 0]) hv fun b_1 hv_1 => gAgg ⟨b, 0, none⟩ 36 hv_1 fun x => bnd (call F_ring_Bytes [.agg ⟨x⟩] hv_1) fun r hv_2 => aSl r fun x_1 xn xc => ckB (fitsOpen x_1 Y_uint8 hv_2) (ckLF (mm2 false (mm2 true n 0) ((xn : Nat) : Int)) xc (cond (iltF 0 (((Int.toNat (mm2 false (mm2 true n 0) ((xn : Nat) : Int))) - 0 : Nat) : Int))
      (gInt .i64 (Addr.add ⟨b, 0, none⟩ 0) hv_2 fun x_2 => pV (Addr.add ⟨b, 0, none⟩ 0) (.int .i64 (Int.tmod (wrapF .i64 (x_2 + (((Int.toNat (mm2 false (mm2 true n 0) ((xn : Nat) : Int))) - 0 : Nat) : Int))) 32)) hv_2 fun hv_3 => gInt .i64 (Addr.add ⟨b, 0, none⟩ 1) hv_3 fun x_3 => pV (Addr.add ⟨b, 0, none⟩ 1) (.int .i64 (wrapF .i64 (x_3 - (((Int.toNat (mm2 false (mm2 true n 0) ((xn : Nat) : Int))) - 0 : Nat) : Int)))) hv_3 fun hv_4 => gAgg ⟨b, 0, none⟩ 36 hv_4 fun x_4 => bnd (call F_slices_Clip_s_byte_byte [.slice (moved x_1 (decide (0 < xc)) (0 * 1)) ((Int.toNat (mm2 false (mm2 true n 0) ((xn : Nat) : Int))) - 0) (xc - 0)] hv_4) fun r_1 hv_5 => aSl r_1 fun x_5 xn_1 xc_1 => gAgg ⟨b, 0, none⟩ 36 hv_5 fun x_6 => same (.agg ⟨x_4⟩) (.agg ⟨x_6⟩) (ck (List.length x_4 = 36) (pAgg ⟨b_1, 0, none⟩ x_4 hv_5 fun hv_6 => gAgg ⟨b_1, 0, none⟩ 36 hv_6 fun x_7 => some (.tuple ⟨[.agg ⟨x_7⟩, .slice x_5 xn_1 xc_1]⟩, hv_6))))
      (gAgg ⟨b, 0, none⟩ 36 hv_2 fun x_8 => bnd (call F_slices_Clip_s_byte_byte [.slice (moved x_1 (decide (0 < xc)) (0 * 1)) ((Int.toNat (mm2 false (mm2 true n 0) ((xn : Nat) : Int))) - 0) (xc - 0)] hv_2) fun r_2 hv_7 => aSl r_2 fun x_9 xn_2 xc_2 => gAgg ⟨b, 0, none⟩ 36 hv_7 fun x_10 => same (.agg ⟨x_8⟩) (.agg ⟨x_10⟩) (ck (List.length x_8 = 36) (pAgg ⟨b_1, 0, none⟩ x_8 hv_7 fun hv_8 => gAgg ⟨b_1, 0, none⟩ 36 hv_8 fun x_11 => some (.tuple ⟨[.agg ⟨x_11⟩, .slice x_9 xn_2 xc_2]⟩, hv_8))))))
  | _ => none
end Go.EQ

set_option maxRecDepth 100000
set_option linter.unusedVariables false
namespace Go.EQ
open Go Go.Proofs
open Go.NN hiding bnd ld gInt gBool gStr gPtr gSl gMap gFv gAgg gCells nw pV pAgg pCells apd fitsOpen liveA mapAt
open Go.NP Go.NW
noncomputable def X_law23_awake : XPoly := fun G _ call run a h => match a with
  | [] =>
  nw (.cells Y_bool false [.bool false]) h fun b hv => nw (.cells Y_api_Step false [.int .i64 1, .int .i64 0, .int .i64 0, .int .i64 0, .slice none 0 0, .int .i64 1, .int .i64 0, .int .i64 0, .slice none 0 0, .int .i64 0, .int .i64 0, .int .i64 0, .int .i64 0, .int .i64 0, .int .i64 0, .slice none 0 0, .int .i64 2, .int .i64 0, .int .i64 0, .int .i64 0, .slice none 0 0, .int .i64 0, .int .i64 0, .int .i64 0, .slice none 0 0, .int .i64 0, .int .i64 0, .int .i64 0, .int .i64 0, .int .i64 0, .int .i64 0, .slice none 0 0, .int .i64 2, .int .i64 0, .int .i64 0, .int .i64 0, .slice none 0 0, .int .i64 0, .int .i64 0, .int .i64 0, .slice none 0 0, .int .i64 0, .int .i64 0, .int .i64 0, .int .i64 0, .int .i64 0, .int .i64 0, .slice none 0 0]) hv fun b_1 hv_1 => bnd (call F_plain_Run [.agg ⟨[.slice (some ⟨b, 0, none⟩) 1 1, .slice none 0 0, .int .i64 5]⟩, .slice (some ⟨b_1, 0, none⟩) 3 3] hv_1) fun r hv_2 => as2 r fun r_1 r_2 => aSl r_1 fun x xn _ => aInt .i64 r_2 fun x_1 => bnd (call F_plain_Run [.agg ⟨[.slice none 0 0, .slice none 0 0, .int .i64 0]⟩, .slice none 0 0] hv_2) fun r_3 hv_3 => as2 r_3 fun r_4 r_5 => aSl r_4 fun _ _ _ => aInt .i64 r_5 fun x_3 => bnd (cond (ieqF x_1 0) (some (ieqF ((xn : Nat) : Int) 1, hv_3)) (some (false, hv_3))) fun c hv_4 => bnd (cond c (aSome x fun p => ckRF 0 xn (gBool (Addr.add (Addr.add (bare p) (Int.toNat 0 * 12)) 9) hv_4 fun x_4 => some (x_4, hv_4))) (some (false, hv_4))) fun c_1 hv_5 => bnd (cond c_1 (aSome x fun p_1 => ckRF 0 xn (gInt .i64 (Addr.add (Addr.add (bare p_1) (Int.toNat 0 * 12)) 7) hv_5 fun x_5 => some (ieqF x_5 0, hv_5))) (some (false, hv_5))) fun c_2 hv_6 => bnd (cond c_2 (some (ieqF x_3 1, hv_6)) (some (false, hv_6))) fun c_3 hv_7 => some (.bool c_3, hv_7)
  | _ => none
noncomputable def X_plain_Run : XPoly := fun G _ call run a h => match a with
  | [.agg ⟨p⟩, .slice l ln lc] =>
  nw (.cells Y_api_Plan false p) h fun b hv => gAgg ⟨b, 0, none⟩ 3 hv fun x => bnd (call F_plain_New [.agg ⟨x⟩] hv) fun r hv_1 => as2 r fun r_1 r_2 => aPtr r_1 fun x_1 => aInt .i64 r_2 fun x_2 => cond (ineF x_2 0)
      (some (.tuple ⟨[.slice none 0 0, .int .i64 x_2]⟩, hv_1))
      (run F_plain_Run 3012 [.pointer x_1, .slice none 0 0, .slice l ln lc, .int .i64 ((ln : Nat) : Int), .int .i64 0] hv_1)
  | _ => none
noncomputable def X_plain_Run_L1 : XPoly := fun G _ call run a h => match a with
  | [.pointer u, .slice out outn outc, .slice x21 x21n x21c, .int .i64 x22, .int .i64 x23] =>
  cond (iltF x23 x22)
      (aSome x21 fun p => ckRF x23 x21n (gAgg (Addr.add (bare p) (Int.toNat x23 * 16)) 16 h fun x => nw (.cells Y_api_Step false [.int .i64 0, .int .i64 0, .int .i64 0, .int .i64 0, .slice none 0 0, .int .i64 0, .int .i64 0, .int .i64 0, .slice none 0 0, .int .i64 0, .int .i64 0, .int .i64 0, .int .i64 0, .int .i64 0, .int .i64 0, .slice none 0 0]) h fun b hv => ck (List.length x = 16) (pAgg ⟨b, 0, none⟩ x hv fun hv_1 => gAgg ⟨b, 0, none⟩ 16 hv_1 fun x_1 => bnd (call F_plain_Plain_Do [.pointer u, .agg ⟨x_1⟩] hv_1) fun r hv_2 => as2 r fun r_1 r_2 => aAgg r_1 fun x_2 => aBool r_2 fun x_3 => nw (.cells Y_api_Out false [.int .i64 0, .int .i64 0, .int .i64 0, .int .i64 0, .int .i64 0, .slice none 0 0, .int .i64 0, .int .i64 0, .slice none 0 0, .bool false, .slice none 0 0, .int .i64 0]) hv_2 fun b_1 hv_3 => ck (List.length x_2 = 12) (pAgg ⟨b_1, 0, none⟩ x_2 hv_3 fun hv_4 => cond x_3
      (gAgg ⟨b_1, 0, none⟩ 12 hv_4 fun x_4 => ck (List.length x_4 = 12) (nw (.cells Y_api_Out false (x_4 ++ [])) hv_4 fun b_2 hv_5 => gCells (some ⟨b_2, 0, none⟩) (1 * 12) hv_5 fun cs => ckB (fitsOpen out Y_api_Out hv_5) (apd Y_api_Out 12 out outn outc 1 cs hv_5 fun a an ac hv_6 => run F_plain_Run 3012 [.pointer u, .slice a an ac, .slice x21 x21n x21c, .int .i64 x22, .int .i64 (wrapF .i64 (x23 + 1))] hv_6)))
      (run F_plain_Run 3012 [.pointer u, .slice out outn outc, .slice x21 x21n x21c, .int .i64 x22, .int .i64 (wrapF .i64 (x23 + 1))] hv_4)))))
      (some (.tuple ⟨[.slice out outn outc, .int .i64 0]⟩, h))
  | _ => none
noncomputable def LB_plain_Run_L1 : Lab := ⟨F_plain_Run, 3012, T_plain_Run_L1, [6, 8, 21, 22, 23], X_plain_Run_L1⟩
noncomputable def X_plain_check : XPoly := fun G _ call run a h => match a with
  | [.agg ⟨p⟩] =>
  nw (.cells Y_api_Plan false p) h fun b hv => gSl (Addr.add ⟨b, 0, none⟩ 0) hv fun _ xn _ => nw (.cells Y_int false [.int .i64 0]) hv fun b_1 hv_1 => pV ⟨b_1, 0, none⟩ (.int .i64 ((xn : Nat) : Int)) hv_1 fun hv_2 => gInt .i64 ⟨b_1, 0, none⟩ hv_2 fun x_1 => bnd (cond (ileF 1 x_1) (gInt .i64 ⟨b_1, 0, none⟩ hv_2 fun x_2 => some (ileF x_2 4, hv_2)) (some (false, hv_2))) fun c hv_3 => bnd (cond c (gSl (Addr.add ⟨b, 0, none⟩ 1) hv_3 fun _ xn_1 _ => some (ileF ((xn_1 : Nat) : Int) 4, hv_3)) (some (false, hv_3))) fun c_1 hv_4 => bnd (cond c_1 (gInt .i64 (Addr.add ⟨b, 0, none⟩ 2) hv_4 fun x_4 => some (ileF 1 x_4, hv_4)) (some (false, hv_4))) fun c_2 hv_5 => bnd (cond c_2 (gInt .i64 (Addr.add ⟨b, 0, none⟩ 2) hv_5 fun x_5 => some (ileF x_5 1000, hv_5)) (some (false, hv_5))) fun c_3 hv_6 => bnd (cond c_3 (gSl (Addr.add ⟨b, 0, none⟩ 1) hv_6 fun x_6 xn_2 xc_2 => bnd (call F_slices_ContainsFunc_s_api_Bridge_api_Bridge [.slice x_6 xn_2 xc_2, .func (.func F_plain_check_1) ⟨[]⟩ ⟨[.pointer (some ⟨b_1, 0, none⟩)]⟩] hv_6) fun r hv_7 => aBool r fun x_7 => some (!x_7, hv_7)) (some (false, hv_6))) fun c_4 hv_8 => some (.bool c_4, hv_8)
  | _ => none
noncomputable def X_plain_unit_bridge : XPoly := fun G _ call run a h => match a with
  | [.pointer x, .int .i64 kind, .pointer r] =>
  aSome x fun p => gSl (Addr.add p 176) h fun x_1 xn xc => nw (.cells Y_p_api_Pipe false [.pointer r]) h fun b hv => gCells (some ⟨b, 0, none⟩) (1 * 1) hv fun cs => ckB (fitsOpen x_1 Y_p_api_Pipe hv) (apd Y_p_api_Pipe 1 x_1 xn xc 1 cs hv fun a an ac hv_1 => aSome x fun p_1 => pV (Addr.add p_1 176) (.slice a an ac) hv_1 fun hv_2 => aSome x fun p_2 => gSl (Addr.add p_2 176) hv_2 fun _ xn_1 _ => aSome x fun p_3 => gSl (Addr.add p_3 176) hv_2 fun _ xn_2 _ => aSome x fun p_4 => ckRF (wrapF .i64 (((xn_1 : Nat) : Int) - 4)) 12 (pAgg (Addr.add (Addr.add p_4 128) (Int.toNat (wrapF .i64 (((xn_1 : Nat) : Int) - 4)) * 4)) [.int .i64 kind, .int .i64 (wrapF .i64 (((xn_2 : Nat) : Int) - 1)), .int .i64 1, .int .i64 0] hv_2 fun hv_3 => aSome x fun p_5 => ckRF 0 8 (ckRF (wrapF .i64 (((xn_1 : Nat) : Int) - 4)) 8 (pV (Addr.add (Addr.add (Addr.add (Addr.add p_5 0) (Int.toNat 0 * 16)) 8) (Int.toNat (wrapF .i64 (((xn_1 : Nat) : Int) - 4)) * 1)) (.int .i64 (wrapF .i64 ((wrapF .i64 (((xn_1 : Nat) : Int) - 4)) + 1))) hv_3 fun hv_4 => some (.tuple ⟨[]⟩, hv_4)))))
  | _ => none
noncomputable def X_plain_Plain_Do : XPoly := fun G _ call run a h => match a with
  | [.pointer u, .agg ⟨s⟩] =>
  nw (.cells Y_api_Step false s) h fun b hv => nw (.cells Y_api_Out false [.int .i64 0, .int .i64 0, .int .i64 0, .int .i64 0, .int .i64 0, .slice none 0 0, .int .i64 0, .int .i64 0, .slice none 0 0, .bool false, .slice none 0 0, .int .i64 0]) hv fun b_1 hv_1 => gInt .i64 (Addr.add ⟨b, 0, none⟩ 0) hv_1 fun x => cond (ieqF x 3)
      (aSome u fun p => gInt .i64 (Addr.add p 1) hv_1 fun x_1 => gInt .i64 (Addr.add ⟨b, 0, none⟩ 3) hv_1 fun x_2 => aSome u fun p_1 => pV (Addr.add p_1 1) (.int .i64 (mm2 false (wrapF .i64 (x_1 + (mm2 false (mm2 true x_2 0) 1000))) 1073741824)) hv_1 fun hv_2 => run F_plain_Plain_Do 3007 [.pointer u, .pointer (some ⟨b, 0, none⟩), .pointer (some ⟨b_1, 0, none⟩)] hv_2)
      (run F_plain_Plain_Do 3007 [.pointer u, .pointer (some ⟨b, 0, none⟩), .pointer (some ⟨b_1, 0, none⟩)] hv_1)
  | _ => none
noncomputable def X_plain_Plain_Do_R1 : XPoly := fun G _ call run a h => match a with
  | [.pointer u, .pointer (some s), .pointer (some x4)] =>
  gInt .i64 (Addr.add s 1) h fun x => aSome u fun p => gSl (Addr.add p 0) h fun _ xn _ => bnd (call F_plain_in [.int .i64 x, .int .i64 (wrapF .i64 (((xn : Nat) : Int) - 1))] h) fun r hv => aBool r fun x_2 => bnd (cond (!x_2) (some (true, hv)) (gInt .i64 (Addr.add s 2) hv fun x_3 => bnd (call F_plain_in [.int .i64 x_3, .int .i64 7] hv) fun r_1 hv_1 => aBool r_1 fun x_4 => some (!x_4, hv_1))) fun c hv_2 => cond c
      (pAgg x4 [.int .i64 0, .int .i64 0, .int .i64 0, .int .i64 0, .int .i64 0, .slice none 0 0, .int .i64 0, .int .i64 0, .slice none 0 0, .bool false, .slice none 0 0, .int .i64 0] hv_2 fun hv_3 => gAgg x4 12 hv_3 fun x_5 => some (.tuple ⟨[.agg ⟨x_5⟩, .bool false]⟩, hv_3))
      (aSome u fun p_1 => gSl (Addr.add p_1 0) hv_2 fun x_6 xn_1 _ => gInt .i64 (Addr.add s 1) hv_2 fun x_7 => aSome x_6 fun p_2 => ckRF x_7 xn_1 (gPtr (Addr.add (bare p_2) (Int.toNat x_7 * 1)) hv_2 fun x_8 => gInt .i64 (Addr.add s 0) hv_2 fun x_9 => cond (ieqF x_9 1)
      (gInt .i64 (Addr.add s 2) hv_2 fun x_10 => gAgg (Addr.add s 5) 4 hv_2 fun x_11 => bnd (call F_plain_unit_start [.pointer x_8, .int .i64 x_10, .agg ⟨x_11⟩] hv_2) fun r_2 hv_4 => as0 r_2 (pAgg x4 [.int .i64 0, .int .i64 0, .int .i64 0, .int .i64 0, .int .i64 0, .slice none 0 0, .int .i64 0, .int .i64 0, .slice none 0 0, .bool false, .slice none 0 0, .int .i64 0] hv_4 fun hv_5 => gAgg x4 12 hv_5 fun x_12 => some (.tuple ⟨[.agg ⟨x_12⟩, .bool false]⟩, hv_5)))
      (cond (ieqF x_9 4)
      (gSl (Addr.add s 4) hv_2 fun _ xn_2 _ => cond (ileF ((xn_2 : Nat) : Int) 32)
      (aSome x_8 fun p_3 => gPtr (Addr.add p_3 177) hv_2 fun x_14 => aSome x_8 fun p_4 => gPtr (Addr.add p_4 177) hv_2 fun x_15 => aSome x_15 fun p_5 => gAgg p_5 36 hv_2 fun x_16 => gSl (Addr.add s 4) hv_2 fun x_17 xn_3 xc_3 => bnd (call F_ring_Put [.agg ⟨x_16⟩, .slice x_17 xn_3 xc_3] hv_2) fun r_3 hv_6 => as2 r_3 fun r_4 r_5 => aAgg r_4 fun x_18 => aInt .i64 r_5 fun _ => gPtr (Addr.add p_3 177) hv_6 fun x_20 => same (.pointer x_14) (.pointer x_20) (aSome x_14 fun p_6 => ck (List.length x_18 = 36) (pAgg p_6 x_18 hv_6 fun hv_7 => pAgg x4 [.int .i64 0, .int .i64 0, .int .i64 0, .int .i64 0, .int .i64 0, .slice none 0 0, .int .i64 0, .int .i64 0, .slice none 0 0, .bool false, .slice none 0 0, .int .i64 0] hv_7 fun hv_8 => gAgg x4 12 hv_8 fun x_21 => some (.tuple ⟨[.agg ⟨x_21⟩, .bool false]⟩, hv_8))))
      (pAgg x4 [.int .i64 0, .int .i64 0, .int .i64 0, .int .i64 0, .int .i64 0, .slice none 0 0, .int .i64 0, .int .i64 0, .slice none 0 0, .bool false, .slice none 0 0, .int .i64 0] hv_2 fun hv_9 => gAgg x4 12 hv_9 fun x_22 => some (.tuple ⟨[.agg ⟨x_22⟩, .bool false]⟩, hv_9)))
      (cond (ieqF x_9 2)
      (gInt .i64 (Addr.add s 1) hv_2 fun x_23 => gInt .i64 (Addr.add s 2) hv_2 fun x_24 => gInt .i64 (Addr.add s 2) hv_2 fun x_25 => aSome u fun p_7 => gInt .i64 (Addr.add p_7 1) hv_2 fun x_26 => nw (.cells Y_api_Out false [.int .i64 0, .int .i64 0, .int .i64 0, .int .i64 0, .int .i64 0, .slice none 0 0, .int .i64 0, .int .i64 0, .slice none 0 0, .bool false, .slice none 0 0, .int .i64 0]) hv_2 fun b hv_10 => bnd (call F_plain_unit_pick [.pointer x_8, .int .i64 (wrapF .i64 ((wrapF .i64 (9 * x_23)) + x_24)), .int .i64 x_25, .int .i64 x_26] hv_10) fun r_6 hv_11 => as2 r_6 fun r_7 r_8 => aAgg r_7 fun x_27 => aBool r_8 fun x_28 => ck (List.length x_27 = 12) (pAgg ⟨b, 0, none⟩ x_27 hv_11 fun hv_12 => cond (!x_28)
      (pAgg x4 [.int .i64 0, .int .i64 0, .int .i64 0, .int .i64 0, .int .i64 0, .slice none 0 0, .int .i64 0, .int .i64 0, .slice none 0 0, .bool false, .slice none 0 0, .int .i64 0] hv_12 fun hv_13 => gAgg x4 12 hv_13 fun x_29 => some (.tuple ⟨[.agg ⟨x_29⟩, .bool false]⟩, hv_13))
      (gInt .i64 (Addr.add s 1) hv_12 fun x_30 => pV (Addr.add ⟨b, 0, none⟩ 0) (.int .i64 x_30) hv_12 fun hv_14 => gBool (Addr.add ⟨b, 0, none⟩ 9) hv_14 fun x_31 => bnd (cond x_31 (gInt .i64 (Addr.add (Addr.add ⟨b, 0, none⟩ 2) 0) hv_14 fun x_32 => some (ieqF x_32 2, hv_14)) (some (false, hv_14))) fun c_1 hv_15 => bnd (cond c_1 (gInt .i64 (Addr.add ⟨b, 0, none⟩ 7) hv_15 fun x_33 => some (ieqF x_33 0, hv_15)) (some (false, hv_15))) fun c_2 hv_16 => cond c_2
      (gInt .i64 (Addr.add s 1) hv_16 fun x_34 => gInt .i64 (Addr.add ⟨b, 0, none⟩ 6) hv_16 fun x_35 => gInt .i64 (Addr.add ⟨b, 0, none⟩ 6) hv_16 fun x_36 => bnd (call F_plain_unit_idle [.pointer x_8, .int .i64 (wrapF .i64 ((wrapF .i64 (9 * x_34)) + x_35)), .int .i64 x_36] hv_16) fun r_9 hv_17 => as0 r_9 (gAgg ⟨b, 0, none⟩ 12 hv_17 fun x_37 => ck (List.length x_37 = 12) (pAgg x4 x_37 hv_17 fun hv_18 => gAgg x4 12 hv_18 fun x_38 => some (.tuple ⟨[.agg ⟨x_38⟩, .bool true]⟩, hv_18))))
      (gAgg ⟨b, 0, none⟩ 12 hv_16 fun x_39 => ck (List.length x_39 = 12) (pAgg x4 x_39 hv_16 fun hv_19 => gAgg x4 12 hv_19 fun x_40 => some (.tuple ⟨[.agg ⟨x_40⟩, .bool true]⟩, hv_19))))))
      (pAgg x4 [.int .i64 0, .int .i64 0, .int .i64 0, .int .i64 0, .int .i64 0, .slice none 0 0, .int .i64 0, .int .i64 0, .slice none 0 0, .bool false, .slice none 0 0, .int .i64 0] hv_2 fun hv_20 => gAgg x4 12 hv_20 fun x_41 => some (.tuple ⟨[.agg ⟨x_41⟩, .bool false]⟩, hv_20))))))
  | _ => none
noncomputable def LB_plain_Plain_Do_R1 : Lab := ⟨F_plain_Plain_Do, 3007, T_plain_Plain_Do_R1, [0, 3, 4], X_plain_Plain_Do_R1⟩
noncomputable def X_slices_ContainsFunc_s_api_Bridge_api_Bridge : XPoly := fun G _ call run a h => match a with
  | [.slice s sn sc, f] =>
  bnd (call F_slices_IndexFunc_s_api_Bridge_api_Bridge [.slice s sn sc, f] h) fun r hv => aInt .i64 r fun x => some (.bool (ileF 0 x), hv)
  | _ => none
noncomputable def X_ring_Put : XPoly := fun G _ call run a h => match a with
  | [.agg ⟨p⟩, .slice b bn bc] =>
  nw (.cells Y_api_Pipe false p) h fun b_1 hv => nw (.cells Y_api_Pipe false [.int .i64 0, .int .i64 0, .int .i64 0, .int .i64 0, .int .u8 0, .int .u8 0, .int .u8 0, .int .u8 0, .int .u8 0, .int .u8 0, .int .u8 0, .int .u8 0, .int .u8 0, .int .u8 0, .int .u8 0, .int .u8 0, .int .u8 0, .int .u8 0, .int .u8 0, .int .u8 0, .int .u8 0, .int .u8 0, .int .u8 0, .int .u8 0, .int .u8 0, .int .u8 0, .int .u8 0, .int .u8 0, .int .u8 0, .int .u8 0, .int .u8 0, .int .u8 0, .int .u8 0, .int .u8 0, .int .u8 0, .int .u8 0]) hv fun b_2 hv_1 => gAgg ⟨b_1, 0, none⟩ 36 hv_1 fun x => bnd (call F_ring_Ok [.agg ⟨x⟩] hv_1) fun r hv_2 => aBool r fun x_1 => cond (!x_1)
      (gAgg ⟨b_1, 0, none⟩ 36 hv_2 fun x_2 => ck (List.length x_2 = 36) (pAgg ⟨b_2, 0, none⟩ x_2 hv_2 fun hv_3 => gAgg ⟨b_2, 0, none⟩ 36 hv_3 fun x_3 => some (.tuple ⟨[.agg ⟨x_3⟩, .int .i64 0]⟩, hv_3)))
      (run F_ring_Put 3010 [.pointer (some ⟨b_1, 0, none⟩), .pointer (some ⟨b_2, 0, none⟩), .int .i64 0, .slice b bn bc, .int .i64 ((bn : Nat) : Int), .int .i64 0] hv_2)
  | _ => none
noncomputable def X_ring_Put_L1 : XPoly := fun G _ call run a h => match a with
  | [.pointer (some p), .pointer (some x4), .int .i64 n, .slice x13 x13n x13c, .int .i64 x14, .int .i64 x15] =>
  cond (iltF x15 x14)
      (aSome x13 fun p_1 => ckRF x15 x13n (gInt .u8 (Addr.add (bare p_1) (Int.toNat x15 * 1)) h fun x => gInt .i64 (Addr.add p 1) h fun x_1 => cond (ieqF x_1 32)
      (gAgg p 36 h fun x_2 => ck (List.length x_2 = 36) (pAgg x4 x_2 h fun hv => gAgg x4 36 hv fun x_3 => some (.tuple ⟨[.agg ⟨x_3⟩, .int .i64 n]⟩, hv)))
      (gInt .i64 (Addr.add p 0) h fun x_4 => gInt .i64 (Addr.add p 1) h fun x_5 => ckRF (Int.tmod (wrapF .i64 (x_4 + x_5)) 32) 32 (pV (Addr.add (Addr.add p 4) (Int.toNat (Int.tmod (wrapF .i64 (x_4 + x_5)) 32) * 1)) (.int .u8 x) h fun hv_1 => gInt .i64 (Addr.add p 1) hv_1 fun x_6 => pV (Addr.add p 1) (.int .i64 (wrapF .i64 (x_6 + 1))) hv_1 fun hv_2 => run F_ring_Put 3010 [.pointer (some p), .pointer (some x4), .int .i64 (wrapF .i64 (n + 1)), .slice x13 x13n x13c, .int .i64 x14, .int .i64 (wrapF .i64 (x15 + 1))] hv_2))))
      (gAgg p 36 h fun x_7 => ck (List.length x_7 = 36) (pAgg x4 x_7 h fun hv_3 => gAgg x4 36 hv_3 fun x_8 => some (.tuple ⟨[.agg ⟨x_8⟩, .int .i64 n]⟩, hv_3)))
  | _ => none
noncomputable def LB_ring_Put_L1 : Lab := ⟨F_ring_Put, 3010, T_ring_Put_L1, [2, 4, 6, 13, 14, 15], X_ring_Put_L1⟩
noncomputable def X_plain_unit_pick : XPoly := fun G _ call run a h => match a with
  | [.pointer x, .int .i64 who, .int .i64 i, .int .i64 now] =>
  nw (.cells Y_api_Out false [.int .i64 0, .int .i64 0, .int .i64 0, .int .i64 0, .int .i64 0, .slice none 0 0, .int .i64 0, .int .i64 0, .slice none 0 0, .bool false, .slice none 0 0, .int .i64 0]) h fun b hv => aSome x fun p => ckRF i 8 (bnd (call F_plain_unit_lives [.pointer x, .int .i64 i] hv) fun r hv_1 => aBool r fun x_1 => cond (!x_1)
      (bnd (call F_plain_unit_idle [.pointer x, .int .i64 who, .int .i64 i] hv_1) fun r_1 hv_2 => as0 r_1 (pAgg ⟨b, 0, none⟩ [.int .i64 0, .int .i64 0, .int .i64 0, .int .i64 0, .int .i64 0, .slice none 0 0, .int .i64 0, .int .i64 0, .slice none 0 0, .bool false, .slice none 0 0, .int .i64 0] hv_2 fun hv_3 => gAgg ⟨b, 0, none⟩ 12 hv_3 fun x_2 => some (.tuple ⟨[.agg ⟨x_2⟩, .bool false]⟩, hv_3)))
      (aSome x fun p_1 => ckRF i 8 (gInt .i64 (Addr.add (Addr.add (Addr.add p_1 0) (Int.toNat i * 16)) 0) hv_1 fun x_3 => cond (ieqF x_3 3)
      (gInt .i64 (Addr.add (Addr.add (Addr.add p 180) (Int.toNat i * 6)) 0) hv_1 fun x_4 => cond (ieqF x_4 2)
      (bnd (call F_plain_unit_leave [.pointer x, .int .i64 who, .int .i64 i, .int .i64 1] hv_1) fun r_2 hv_4 => as0 r_2 (run F_plain_unit_pick 4017 [.pointer (some ⟨b, 0, none⟩)] hv_4))
      (run F_plain_unit_pick 4017 [.pointer (some ⟨b, 0, none⟩)] hv_1))
      (gInt .i64 (Addr.add (Addr.add (Addr.add p 180) (Int.toNat i * 6)) 0) hv_1 fun x_5 => cond (ieqF x_5 1)
      (aSome x fun p_2 => gPtr (Addr.add p_2 179) hv_1 fun x_6 => bnd (call F_sect_Sect_Enter [.pointer x_6, .int .i64 who, .int .i64 now] hv_1) fun r_3 hv_5 => as2 r_3 fun r_4 r_5 => aInt .i64 r_4 fun x_7 => aBool r_5 fun x_8 => cond x_8
      (pV (Addr.add (Addr.add (Addr.add p 180) (Int.toNat i * 6)) 0) (.int .i64 2) hv_5 fun hv_6 => pV (Addr.add (Addr.add (Addr.add p 180) (Int.toNat i * 6)) 1) (.int .i64 x_7) hv_6 fun hv_7 => run F_plain_unit_pick 4029 [.pointer (some ⟨b, 0, none⟩)] hv_7)
      (run F_plain_unit_pick 4029 [.pointer (some ⟨b, 0, none⟩)] hv_5))
      (cond (ieqF x_5 2)
      (bnd (call F_plain_unit_inside [.pointer x, .int .i64 who, .int .i64 i] hv_1) fun r_6 hv_8 => as2 r_6 fun r_7 r_8 => aAgg r_7 fun x_9 => aBool r_8 fun x_10 => ck (List.length x_9 = 12) (pAgg ⟨b, 0, none⟩ x_9 hv_8 fun hv_9 => gAgg ⟨b, 0, none⟩ 12 hv_9 fun x_11 => some (.tuple ⟨[.agg ⟨x_11⟩, .bool x_10]⟩, hv_9)))
      (cond (ieqF x_5 3)
      (bnd (call F_plain_unit_blocked [.pointer x, .int .i64 i] hv_1) fun r_9 hv_10 => as2 r_9 fun r_10 r_11 => aAgg r_10 fun x_12 => aBool r_11 fun x_13 => ck (List.length x_12 = 12) (pAgg ⟨b, 0, none⟩ x_12 hv_10 fun hv_11 => gAgg ⟨b, 0, none⟩ 12 hv_11 fun x_14 => some (.tuple ⟨[.agg ⟨x_14⟩, .bool x_13]⟩, hv_11)))
      (bnd (call F_plain_unit_signals [.pointer x, .int .i64 i, .agg ⟨[.int .i64 0, .int .i64 i, .int .i64 0, .int .i64 0, .int .i64 0, .slice none 0 0, .int .i64 0, .int .i64 0, .slice none 0 0, .bool false, .slice none 0 0, .int .i64 0]⟩] hv_1) fun r_12 hv_12 => aAgg r_12 fun x_15 => nw (.cells Y_api_Out false [.int .i64 0, .int .i64 0, .int .i64 0, .int .i64 0, .int .i64 0, .slice none 0 0, .int .i64 0, .int .i64 0, .slice none 0 0, .bool false, .slice none 0 0, .int .i64 0]) hv_12 fun b_1 hv_13 => ck (List.length x_15 = 12) (pAgg ⟨b_1, 0, none⟩ x_15 hv_13 fun hv_14 => gSl (Addr.add ⟨b_1, 0, none⟩ 10) hv_14 fun _ xn _ => bnd (cond (ieqF ((xn : Nat) : Int) 0) (gInt .i64 (Addr.add ⟨b_1, 0, none⟩ 11) hv_14 fun x_17 => some (ieqF x_17 0, hv_14)) (some (false, hv_14))) fun c hv_15 => cond c
      (pAgg ⟨b, 0, none⟩ [.int .i64 0, .int .i64 0, .int .i64 0, .int .i64 0, .int .i64 0, .slice none 0 0, .int .i64 0, .int .i64 0, .slice none 0 0, .bool false, .slice none 0 0, .int .i64 0] hv_15 fun hv_16 => gAgg ⟨b, 0, none⟩ 12 hv_16 fun x_18 => some (.tuple ⟨[.agg ⟨x_18⟩, .bool false]⟩, hv_16))
      (gAgg ⟨b_1, 0, none⟩ 12 hv_15 fun x_19 => ck (List.length x_19 = 12) (pAgg ⟨b, 0, none⟩ x_19 hv_15 fun hv_17 => gAgg ⟨b, 0, none⟩ 12 hv_17 fun x_20 => some (.tuple ⟨[.agg ⟨x_20⟩, .bool true]⟩, hv_17)))))))))))
  | _ => none
noncomputable def X_plain_unit_pick_R1 : XPoly := fun G _ call run a h => match a with
  | [.pointer (some x8)] =>
  pAgg x8 [.int .i64 0, .int .i64 0, .int .i64 0, .int .i64 0, .int .i64 0, .slice none 0 0, .int .i64 0, .int .i64 0, .slice none 0 0, .bool false, .slice none 0 0, .int .i64 0] h fun hv => gAgg x8 12 hv fun x => some (.tuple ⟨[.agg ⟨x⟩, .bool false]⟩, hv)
  | _ => none
noncomputable def LB_plain_unit_pick_R1 : Lab := ⟨F_plain_unit_pick, 4017, T_plain_unit_pick_R1, [8], X_plain_unit_pick_R1⟩
noncomputable def X_plain_unit_pick_R2 : XPoly := fun G _ call run a h => match a with
  | [.pointer (some x8)] =>
  pAgg x8 [.int .i64 0, .int .i64 0, .int .i64 0, .int .i64 0, .int .i64 0, .slice none 0 0, .int .i64 0, .int .i64 0, .slice none 0 0, .bool false, .slice none 0 0, .int .i64 0] h fun hv => gAgg x8 12 hv fun x => some (.tuple ⟨[.agg ⟨x⟩, .bool false]⟩, hv)
  | _ => none
noncomputable def LB_plain_unit_pick_R2 : Lab := ⟨F_plain_unit_pick, 4029, T_plain_unit_pick_R2, [8], X_plain_unit_pick_R2⟩
noncomputable def X_plain_unit_idle : XPoly := fun G _ call run a h => match a with
  | [.pointer x, .int .i64 who, .int .i64 i] =>
  aSome x fun p => ckRF i 8 (gInt .i64 (Addr.add (Addr.add (Addr.add p 180) (Int.toNat i * 6)) 0) h fun x_1 => bnd (cond (ieqF x_1 1) (some (true, h)) (gInt .i64 (Addr.add (Addr.add (Addr.add p 180) (Int.toNat i * 6)) 0) h fun x_2 => some (ieqF x_2 2, h))) fun c hv => cond c
      (aSome x fun p_1 => gPtr (Addr.add p_1 179) hv fun x_3 => bnd (call F_sect_Sect_Quit [.pointer x_3, .int .i64 who] hv) fun r hv_1 => as0 r (aSome x fun p_2 => ckRF i 8 (pV (Addr.add (Addr.add (Addr.add p_2 180) (Int.toNat i * 6)) 0) (.int .i64 0) hv_1 fun hv_2 => some (.tuple ⟨[]⟩, hv_2))))
      (aSome x fun p_3 => ckRF i 8 (pV (Addr.add (Addr.add (Addr.add p_3 180) (Int.toNat i * 6)) 0) (.int .i64 0) hv fun hv_3 => some (.tuple ⟨[]⟩, hv_3))))
  | _ => none
noncomputable def X_plain_unit_lives : XPoly := fun G _ call run a h => match a with
  | [.pointer x, .int .i64 i] =>
  aSome x fun p => ckRF i 8 (gInt .i64 (Addr.add (Addr.add (Addr.add p 0) (Int.toNat i * 16)) 0) h fun x_1 => bnd (cond (ieqF x_1 1) (some (true, h)) (aSome x fun p_1 => ckRF i 8 (gInt .i64 (Addr.add (Addr.add (Addr.add p_1 0) (Int.toNat i * 16)) 0) h fun x_2 => some (ieqF x_2 3, h)))) fun c hv => some (.bool c, hv))
  | _ => none
noncomputable def X_slices_Clone_s_byte_byte : XPoly := fun G _ call run a h => match a with
  | [.slice s sn sc] =>
  cond s.isNone
      (some (.slice none 0 0, h))
      (nw (.cells Y_uint8 false []) h fun b hv => gCells s (sn * 1) hv fun cs => ckB (fitsOpen (some ⟨b, 0, none⟩) Y_uint8 hv) (apd Y_uint8 1 (some ⟨b, 0, none⟩) 0 0 sn cs hv fun a an ac hv_1 => some (.slice a an ac, hv_1)))
  | _ => none
noncomputable def X_ring_Ok : XPoly := fun G _ call run a h => match a with
  | [.agg ⟨p⟩] =>
  nw (.cells Y_api_Pipe false p) h fun b hv => gInt .i64 (Addr.add ⟨b, 0, none⟩ 0) hv fun x => bnd (call F_ring_Ok_1 [.int .i64 x, .int .i64 31] hv) fun r hv_1 => aBool r fun x_1 => bnd (cond x_1 (gInt .i64 (Addr.add ⟨b, 0, none⟩ 1) hv_1 fun x_2 => bnd (call F_ring_Ok_1 [.int .i64 x_2, .int .i64 32] hv_1) fun r_1 hv_2 => aBool r_1 fun x_3 => some (x_3, hv_2)) (some (false, hv_1))) fun c hv_3 => bnd (cond c (gInt .i64 (Addr.add ⟨b, 0, none⟩ 2) hv_3 fun x_4 => bnd (call F_ring_Ok_1 [.int .i64 x_4, .int .i64 8] hv_3) fun r_2 hv_4 => aBool r_2 fun x_5 => some (x_5, hv_4)) (some (false, hv_3))) fun c_1 hv_5 => bnd (cond c_1 (gInt .i64 (Addr.add ⟨b, 0, none⟩ 3) hv_5 fun x_6 => bnd (call F_ring_Ok_1 [.int .i64 x_6, .int .i64 8] hv_5) fun r_3 hv_6 => aBool r_3 fun x_7 => some (x_7, hv_6)) (some (false, hv_5))) fun c_2 hv_7 => some (.bool c_2, hv_7)
  | _ => none
noncomputable def X_plain_unit_leave : XPoly := fun G _ call run a h => match a with
  | [.pointer x, .int .i64 who, .int .i64 i, .int .i64 phase] =>
  aSome x fun p => gPtr (Addr.add p 179) h fun x_1 => aSome x fun p_1 => ckRF i 8 (gInt .i64 (Addr.add (Addr.add (Addr.add p_1 180) (Int.toNat i * 6)) 1) h fun x_2 => bnd (call F_sect_Sect_Leave [.pointer x_1, .int .i64 who, .int .i64 x_2] h) fun r hv => aBool r fun _ => aSome x fun p_2 => ckRF i 8 (pV (Addr.add (Addr.add (Addr.add p_2 180) (Int.toNat i * 6)) 0) (.int .i64 phase) hv fun hv_1 => some (.tuple ⟨[]⟩, hv_1)))
  | _ => none
noncomputable def X_sect_Sect_Enter : XPoly := fun G _ call run a h => match a with
  | [.pointer s, .int .i64 who, .int .i64 now] =>
  aSome s fun p => gInt .i64 (Addr.add p 7) h fun x => bnd (cond (iltF who 0) (some (true, h)) (some (iltF 99 who, h))) fun c hv => cond c
      (some (.tuple ⟨[.int .i64 0, .bool false]⟩, hv))
      (aSome s fun p_1 => pV (Addr.add p_1 7) (.int .i64 (mm2 true now x)) hv fun hv_1 => aSome s fun p_2 => gBool (Addr.add p_2 1) hv_1 fun x_1 => bnd (cond x_1 (aSome s fun p_3 => gInt .i64 (Addr.add p_3 2) hv_1 fun x_2 => some (ieqF x_2 who, hv_1)) (some (false, hv_1))) fun c_1 hv_2 => cond c_1
      (aSome s fun p_4 => gInt .i64 (Addr.add p_4 3) hv_2 fun x_3 => some (.tuple ⟨[.int .i64 x_3, .bool true]⟩, hv_2))
      (aSome s fun p_5 => gSl (Addr.add p_5 5) hv_2 fun x_4 xn xc => bnd (call F_slices_Contains_s_int_int [.slice x_4 xn xc, .int .i64 who] hv_2) fun r hv_3 => aBool r fun x_5 => cond (!x_5)
      (aSome s fun p_6 => gSl (Addr.add p_6 5) hv_3 fun _ xn_1 _ => cond (ieqF ((xn_1 : Nat) : Int) 0)
      (aSome s fun p_7 => pV (Addr.add p_7 6) (.int .i64 (mm2 true now x)) hv_3 fun hv_4 => run F_sect_Sect_Enter 2021 [.pointer s, .int .i64 who, .int .i64 (mm2 true now x)] hv_4)
      (run F_sect_Sect_Enter 2021 [.pointer s, .int .i64 who, .int .i64 (mm2 true now x)] hv_3))
      (run F_sect_Sect_Enter 3023 [.pointer s, .int .i64 who, .int .i64 (mm2 true now x)] hv_3)))
  | _ => none
noncomputable def X_sect_Sect_Enter_R1 : XPoly := fun G _ call run a h => match a with
  | [.pointer s, .int .i64 who, .int .i64 now] =>
  aSome s fun p => gSl (Addr.add p 5) h fun x xn xc => nw (.cells Y_int false [.int .i64 who]) h fun b hv => gCells (some ⟨b, 0, none⟩) (1 * 1) hv fun cs => ckB (fitsOpen x Y_int hv) (apd Y_int 1 x xn xc 1 cs hv fun a an ac hv_1 => aSome s fun p_1 => pV (Addr.add p_1 5) (.slice a an ac) hv_1 fun hv_2 => run F_sect_Sect_Enter 3023 [.pointer s, .int .i64 who, .int .i64 now] hv_2)
  | _ => none
noncomputable def LB_sect_Sect_Enter_R1 : Lab := ⟨F_sect_Sect_Enter, 2021, T_sect_Sect_Enter_R1, [0, 1, 2], X_sect_Sect_Enter_R1⟩
noncomputable def X_sect_Sect_Enter_R2 : XPoly := fun G _ call run a h => match a with
  | [.pointer s, .int .i64 who, .int .i64 now] =>
  aSome s fun p => gBool (Addr.add p 1) h fun x => bnd (cond x (aSome s fun p_1 => gInt .i64 (Addr.add p_1 4) h fun x_1 => aSome s fun p_2 => gInt .i64 (Addr.add p_2 0) h fun x_2 => some (ileF x_2 (wrapF .i64 (now - x_1)), h)) (some (false, h))) fun c hv => cond c
      (aSome s fun p_3 => pV (Addr.add p_3 1) (.bool false) hv fun hv_1 => aSome s fun p_4 => pV (Addr.add p_4 6) (.int .i64 now) hv_1 fun hv_2 => run F_sect_Sect_Enter 3029 [.pointer s, .int .i64 who, .int .i64 now] hv_2)
      (run F_sect_Sect_Enter 3029 [.pointer s, .int .i64 who, .int .i64 now] hv)
  | _ => none
noncomputable def LB_sect_Sect_Enter_R2 : Lab := ⟨F_sect_Sect_Enter, 3023, T_sect_Sect_Enter_R2, [0, 1, 2], X_sect_Sect_Enter_R2⟩
noncomputable def X_sect_Sect_Enter_R3 : XPoly := fun G _ call run a h => match a with
  | [.pointer s, .int .i64 who, .int .i64 now] =>
  aSome s fun p => gBool (Addr.add p 1) h fun x => cond x
      (aSome s fun p_1 => gSl (Addr.add p_1 5) h fun x_1 xn _ => aSome x_1 fun p_2 => ckRF 0 xn (gInt .i64 (Addr.add (bare p_2) (Int.toNat 0 * 1)) h fun x_2 => cond (ieqF x_2 who)
      (aSome s fun p_3 => pV (Addr.add p_3 6) (.int .i64 now) h fun hv => run F_sect_Sect_Enter 3035 [] hv)
      (run F_sect_Sect_Enter 3035 [] h)))
      (run F_sect_Sect_Enter 3036 [.pointer s, .int .i64 who, .int .i64 now] h)
  | _ => none
noncomputable def LB_sect_Sect_Enter_R3 : Lab := ⟨F_sect_Sect_Enter, 3029, T_sect_Sect_Enter_R3, [0, 1, 2], X_sect_Sect_Enter_R3⟩
noncomputable def X_sect_Sect_Enter_R4 : XPoly := fun G _ call run a h => match a with
  | [] =>
  some (.tuple ⟨[.int .i64 0, .bool false]⟩, h)
  | _ => none
noncomputable def LB_sect_Sect_Enter_R4 : Lab := ⟨F_sect_Sect_Enter, 3035, T_sect_Sect_Enter_R4, [], X_sect_Sect_Enter_R4⟩
noncomputable def X_sect_Sect_Enter_L1 : XPoly := fun G _ call run a h => match a with
  | [.pointer s, .int .i64 who, .int .i64 now] =>
  aSome s fun p => gSl (Addr.add p 5) h fun x xn _ => aSome x fun p_1 => ckRF 0 xn (gInt .i64 (Addr.add (bare p_1) (Int.toNat 0 * 1)) h fun x_1 => bnd (cond (ineF x_1 who) (aSome s fun p_2 => gInt .i64 (Addr.add p_2 6) h fun x_2 => aSome s fun p_3 => gInt .i64 (Addr.add p_3 0) h fun x_3 => some (ileF x_3 (wrapF .i64 (now - x_2)), h)) (some (false, h))) fun c hv => cond c
      (aSome s fun p_4 => gSl (Addr.add p_4 5) hv fun x_4 xn_1 xc_1 => ckB (fitsOpen x_4 Y_int hv) (ckLF 1 xn_1 (aSome s fun p_5 => pV (Addr.add p_5 5) (.slice (moved x_4 (decide (Int.toNat 1 < xc_1)) ((Int.toNat 1) * 1)) (xn_1 - (Int.toNat 1)) (xc_1 - (Int.toNat 1))) hv fun hv_1 => aSome s fun p_6 => pV (Addr.add p_6 6) (.int .i64 now) hv_1 fun hv_2 => run F_sect_Sect_Enter 3036 [.pointer s, .int .i64 who, .int .i64 now] hv_2)))
      (aSome s fun p_7 => gSl (Addr.add p_7 5) hv fun x_5 xn_2 _ => aSome x_5 fun p_8 => ckRF 0 xn_2 (gInt .i64 (Addr.add (bare p_8) (Int.toNat 0 * 1)) hv fun x_6 => cond (ineF x_6 who)
      (some (.tuple ⟨[.int .i64 0, .bool false]⟩, hv))
      (aSome s fun p_9 => gSl (Addr.add p_9 5) hv fun x_7 xn_3 xc_3 => ckB (fitsOpen x_7 Y_int hv) (ckLF 1 xn_3 (aSome s fun p_10 => pV (Addr.add p_10 5) (.slice (moved x_7 (decide (Int.toNat 1 < xc_3)) ((Int.toNat 1) * 1)) (xn_3 - (Int.toNat 1)) (xc_3 - (Int.toNat 1))) hv fun hv_3 => aSome s fun p_11 => pV (Addr.add p_11 6) (.int .i64 now) hv_3 fun hv_4 => aSome s fun p_12 => gInt .i64 (Addr.add p_12 8) hv_4 fun x_8 => aSome s fun p_13 => pV (Addr.add p_13 8) (.int .i64 (wrapF .i64 (x_8 + 1))) hv_4 fun hv_5 => aSome s fun p_14 => gInt .i64 (Addr.add p_14 8) hv_5 fun x_9 => aSome s fun p_15 => pV (Addr.add p_15 1) (.bool true) hv_5 fun hv_6 => aSome s fun p_16 => pV (Addr.add p_16 2) (.int .i64 who) hv_6 fun hv_7 => aSome s fun p_17 => pV (Addr.add p_17 3) (.int .i64 x_9) hv_7 fun hv_8 => aSome s fun p_18 => pV (Addr.add p_18 4) (.int .i64 now) hv_8 fun hv_9 => aSome s fun p_19 => gInt .i64 (Addr.add p_19 3) hv_9 fun x_10 => some (.tuple ⟨[.int .i64 x_10, .bool true]⟩, hv_9)))))))
  | _ => none
noncomputable def LB_sect_Sect_Enter_L1 : Lab := ⟨F_sect_Sect_Enter, 3036, T_sect_Sect_Enter_L1, [0, 1, 2], X_sect_Sect_Enter_L1⟩
noncomputable def X_plain_unit_signals : XPoly := fun G _ call run a h => match a with
  | [.pointer x, .int .i64 i, .agg ⟨o⟩] =>
  nw (.cells Y_api_Out false o) h fun b hv => nw (.cells Y_api_Out false [.int .i64 0, .int .i64 0, .int .i64 0, .int .i64 0, .int .i64 0, .slice none 0 0, .int .i64 0, .int .i64 0, .slice none 0 0, .bool false, .slice none 0 0, .int .i64 0]) hv fun b_1 hv_1 => aSome x fun p => ckRF i 8 (gInt .i64 (Addr.add (Addr.add (Addr.add p 0) (Int.toNat i * 16)) 0) hv_1 fun x_1 => cond (ineF x_1 1)
      (gAgg ⟨b, 0, none⟩ 12 hv_1 fun x_2 => ck (List.length x_2 = 12) (pAgg ⟨b_1, 0, none⟩ x_2 hv_1 fun hv_2 => gAgg ⟨b_1, 0, none⟩ 12 hv_2 fun x_3 => some (.agg ⟨x_3⟩, hv_2)))
      (aSome x fun p_1 => ckRF i 8 (gAgg (Addr.add (Addr.add p_1 0) (Int.toNat i * 16)) 16 hv_1 fun x_4 => aSome x fun p_2 => bnd (call F_sig_Deliver [.agg ⟨x_4⟩] hv_1) fun r hv_3 => as3 r fun r_1 r_2 r_3 => aAgg r_1 fun x_5 => aSl r_2 fun x_6 xn xc => aInt .i64 r_3 fun x_7 => ckRF i 8 (ck (List.length x_5 = 16) (pAgg (Addr.add (Addr.add p_2 0) (Int.toNat i * 16)) x_5 hv_3 fun hv_4 => pV (Addr.add ⟨b, 0, none⟩ 10) (.slice x_6 xn xc) hv_4 fun hv_5 => pV (Addr.add ⟨b, 0, none⟩ 11) (.int .i64 x_7) hv_5 fun hv_6 => gInt .i64 (Addr.add ⟨b, 0, none⟩ 11) hv_6 fun x_8 => cond (iltF 0 x_8)
      (gInt .i64 (Addr.add ⟨b, 0, none⟩ 11) hv_6 fun x_9 => bnd (call F_plain_unit_exit [.pointer x, .int .i64 i, .int .i64 (wrapF .i64 (128 + x_9))] hv_6) fun r_4 hv_7 => as0 r_4 (gAgg ⟨b, 0, none⟩ 12 hv_7 fun x_10 => ck (List.length x_10 = 12) (pAgg ⟨b_1, 0, none⟩ x_10 hv_7 fun hv_8 => gAgg ⟨b_1, 0, none⟩ 12 hv_8 fun x_11 => some (.agg ⟨x_11⟩, hv_8))))
      (gAgg ⟨b, 0, none⟩ 12 hv_6 fun x_12 => ck (List.length x_12 = 12) (pAgg ⟨b_1, 0, none⟩ x_12 hv_6 fun hv_9 => gAgg ⟨b_1, 0, none⟩ 12 hv_9 fun x_13 => some (.agg ⟨x_13⟩, hv_9))))))))
  | _ => none
noncomputable def X_sect_Sect_Leave : XPoly := fun G _ call run a h => match a with
  | [.pointer s, .int .i64 who, .int .i64 stamp] =>
  bnd (call F_sect_Sect_Holds [.pointer s, .int .i64 who, .int .i64 stamp] h) fun r hv => aBool r fun x => cond (!x)
      (some (.bool false, hv))
      (aSome s fun p => pV (Addr.add p 1) (.bool false) hv fun hv_1 => aSome s fun p_1 => gInt .i64 (Addr.add p_1 7) hv_1 fun x_1 => aSome s fun p_2 => pV (Addr.add p_2 6) (.int .i64 x_1) hv_1 fun hv_2 => some (.bool true, hv_2))
  | _ => none
noncomputable def X_slices_Contains_s_int_int : XPoly := fun G _ call run a h => match a with
  | [.slice s sn sc, .int .i64 v] =>
  bnd (call F_slices_Index_s_int_int [.slice s sn sc, .int .i64 v] h) fun r hv => aInt .i64 r fun x => some (.bool (ileF 0 x), hv)
  | _ => none
noncomputable def X_sig_Deliver : XPoly := fun G _ call run a h => match a with
  | [.agg ⟨p⟩] =>
  nw (.cells Y_api_Proc false p) h fun b hv => nw (.cells Y_api_Proc false [.int .i64 0, .int .i64 0, .int .i64 0, .int .i64 0, .int .i64 0, .int .i64 0, .int .i64 0, .int .i64 0, .int .i64 0, .int .i64 0, .int .i64 0, .int .i64 0, .int .i64 0, .int .i64 0, .int .i64 0, .int .i64 0]) hv fun b_1 hv_1 => run F_sig_Deliver 2002 [.pointer (some ⟨b, 0, none⟩), .pointer (some ⟨b_1, 0, none⟩), .slice none 0 0] hv_1
  | _ => none
noncomputable def X_sig_Deliver_L1 : XPoly := fun G _ call run a h => match a with
  | [.pointer (some p), .pointer (some q), .slice caught caughtn caughtc] =>
  gAgg p 16 h fun x => bnd (call F_sig_Next [.agg ⟨x⟩] h) fun r hv => as2 r fun r_1 r_2 => aInt .i64 r_1 fun x_1 => aInt .i64 r_2 fun x_2 => cond (ieqF x_2 0)
      (gAgg p 16 hv fun x_3 => ck (List.length x_3 = 16) (pAgg q x_3 hv fun hv_1 => gAgg q 16 hv_1 fun x_4 => some (.tuple ⟨[.agg ⟨x_4⟩, .slice caught caughtn caughtc, .int .i64 0]⟩, hv_1)))
      (gInt .i64 (Addr.add p 4) hv fun x_5 => ck ((0 : Int) ≤ (wrapF .u64 (x_1))) (pV (Addr.add p 4) (.int .i64 (bitN .i64 x_5 (wrapF .i64 (1 * 2 ^ (min (Int.toNat (wrapF .u64 (x_1))) 64))))) hv fun hv_2 => cond (ieqF x_2 2)
      (nw (.cells Y_int false [.int .i64 x_1]) hv_2 fun b hv_3 => gCells (some ⟨b, 0, none⟩) (1 * 1) hv_3 fun cs => ckB (fitsOpen caught Y_int hv_3) (apd Y_int 1 caught caughtn caughtc 1 cs hv_3 fun a an ac hv_4 => run F_sig_Deliver 2002 [.pointer (some p), .pointer (some q), .slice a an ac] hv_4))
      (cond (ieqF x_2 3)
      (pV (Addr.add p 0) (.int .i64 3) hv_2 fun hv_5 => run F_sig_Deliver 2002 [.pointer (some p), .pointer (some q), .slice caught caughtn caughtc] hv_5)
      (cond (ieqF x_2 4)
      (gAgg p 16 hv_2 fun x_6 => ck (List.length x_6 = 16) (pAgg q x_6 hv_2 fun hv_6 => gAgg q 16 hv_6 fun x_7 => some (.tuple ⟨[.agg ⟨x_7⟩, .slice caught caughtn caughtc, .int .i64 x_1]⟩, hv_6)))
      (run F_sig_Deliver 2002 [.pointer (some p), .pointer (some q), .slice caught caughtn caughtc] hv_2)))))
  | _ => none
noncomputable def LB_sig_Deliver_L1 : Lab := ⟨F_sig_Deliver, 2002, T_sig_Deliver_L1, [1, 2, 3], X_sig_Deliver_L1⟩
noncomputable def X_plain_unit_exit : XPoly := fun G _ call run a h => match a with
  | [.pointer x, .int .i64 i, .int .i64 code] =>
  aSome x fun p => ckRF i 8 (gAgg (Addr.add (Addr.add (Addr.add p 0) (Int.toNat i * 16)) 8) 8 h fun x_1 => run F_plain_unit_exit 3004 [.pointer x, .int .i64 i, .int .i64 code, .pointer (some (Addr.add (Addr.add p 0) (Int.toNat i * 16))), .agg ⟨x_1⟩, .int .i64 0] h)
  | _ => none
noncomputable def X_plain_unit_exit_L1 : XPoly := fun G _ call run a h => match a with
  | [.pointer x, .int .i64 i, .int .i64 code, .pointer (some p), .agg ⟨x19⟩, .int .i64 x20] =>
  cond (iltF x20 8)
      (ckRF x20 8 (nth x19 (Int.toNat x20 * 1) fun x_1 => aInt .i64 x_1 fun x_2 => cond (iltF 0 x_2)
      (bnd (call F_plain_unit_drop [.pointer x, .int .i64 (wrapF .i64 (x_2 - 1))] h) fun r hv => as0 r (run F_plain_unit_exit 3004 [.pointer x, .int .i64 i, .int .i64 code, .pointer (some p), .agg ⟨x19⟩, .int .i64 (wrapF .i64 (x20 + 1))] hv))
      (run F_plain_unit_exit 3004 [.pointer x, .int .i64 i, .int .i64 code, .pointer (some p), .agg ⟨x19⟩, .int .i64 (wrapF .i64 (x20 + 1))] h)))
      (pAgg (Addr.add p 8) [.int .i64 0, .int .i64 0, .int .i64 0, .int .i64 0, .int .i64 0, .int .i64 0, .int .i64 0, .int .i64 0] h fun hv_1 => run F_plain_unit_exit 3018 [.pointer x, .int .i64 i, .int .i64 code, .pointer (some p), .int .i64 0] hv_1)
  | _ => none
noncomputable def LB_plain_unit_exit_L1 : Lab := ⟨F_plain_unit_exit, 3004, T_plain_unit_exit_L1, [0, 1, 2, 6, 19, 20], X_plain_unit_exit_L1⟩
noncomputable def X_plain_unit_exit_L2 : XPoly := fun G _ call run a h => match a with
  | [.pointer x, .int .i64 i, .int .i64 code, .pointer (some p), .int .i64 x34] =>
  cond (iltF x34 8)
      (aSome x fun p_1 => ckRF x34 8 (bnd (cond (ieqF x34 i) (some (true, h)) (gInt .i64 (Addr.add (Addr.add (Addr.add p_1 0) (Int.toNat x34 * 16)) 1) h fun x_1 => some (ineF x_1 (wrapF .i64 (i + 1)), h))) fun c hv => cond c
      (run F_plain_unit_exit 3018 [.pointer x, .int .i64 i, .int .i64 code, .pointer (some p), .int .i64 (wrapF .i64 (x34 + 1))] hv)
      (gInt .i64 (Addr.add (Addr.add (Addr.add p_1 0) (Int.toNat x34 * 16)) 0) hv fun x_2 => cond (ieqF x_2 2)
      (pAgg (Addr.add (Addr.add p_1 0) (Int.toNat x34 * 16)) [.int .i64 0, .int .i64 0, .int .i64 0, .int .i64 0, .int .i64 0, .int .i64 0, .int .i64 0, .int .i64 0, .int .i64 0, .int .i64 0, .int .i64 0, .int .i64 0, .int .i64 0, .int .i64 0, .int .i64 0, .int .i64 0] hv fun hv_1 => run F_plain_unit_exit 3018 [.pointer x, .int .i64 i, .int .i64 code, .pointer (some p), .int .i64 (wrapF .i64 (x34 + 1))] hv_1)
      (pV (Addr.add (Addr.add (Addr.add p_1 0) (Int.toNat x34 * 16)) 1) (.int .i64 0) hv fun hv_2 => run F_plain_unit_exit 3018 [.pointer x, .int .i64 i, .int .i64 code, .pointer (some p), .int .i64 (wrapF .i64 (x34 + 1))] hv_2))))
      (gInt .i64 (Addr.add p 1) h fun x_3 => bnd (cond (ieqF x_3 0) (some (true, h)) (gInt .i64 (Addr.add p 1) h fun x_4 => bnd (call F_plain_unit_lives [.pointer x, .int .i64 (wrapF .i64 (x_4 - 1))] h) fun r hv_3 => aBool r fun x_5 => some (!x_5, hv_3))) fun c_1 hv_4 => cond c_1
      (pAgg p [.int .i64 0, .int .i64 0, .int .i64 0, .int .i64 0, .int .i64 0, .int .i64 0, .int .i64 0, .int .i64 0, .int .i64 0, .int .i64 0, .int .i64 0, .int .i64 0, .int .i64 0, .int .i64 0, .int .i64 0, .int .i64 0] hv_4 fun hv_5 => some (.tuple ⟨[]⟩, hv_5))
      (pV (Addr.add p 0) (.int .i64 2) hv_4 fun hv_6 => pV (Addr.add p 3) (.int .i64 (Int.tmod (wrapF .i64 ((Int.tmod code 256) + 256)) 256)) hv_6 fun hv_7 => pV (Addr.add p 4) (.int .i64 0) hv_7 fun hv_8 => some (.tuple ⟨[]⟩, hv_8)))
  | _ => none
noncomputable def LB_plain_unit_exit_L2 : Lab := ⟨F_plain_unit_exit, 3018, T_plain_unit_exit_L2, [0, 1, 2, 6, 34], X_plain_unit_exit_L2⟩
noncomputable def X_slices_Index_s_int_int : XPoly := fun G _ call run a h => match a with
  | [.slice s sn sc, .int .i64 v] =>
  run F_slices_Index_s_int_int 3004 [.slice s sn sc, .int .i64 v, .int .i64 ((sn : Nat) : Int), .int .i64 0] h
  | _ => none
noncomputable def X_slices_Index_s_int_int_L1 : XPoly := fun G _ call run a h => match a with
  | [.slice s sn sc, .int .i64 v, .int .i64 x7, .int .i64 x8] =>
  cond (iltF x8 x7)
      (aSome s fun p => ckRF x8 sn (gInt .i64 (Addr.add (bare p) (Int.toNat x8 * 1)) h fun x => cond (ieqF v x)
      (some (.int .i64 x8, h))
      (run F_slices_Index_s_int_int 3004 [.slice s sn sc, .int .i64 v, .int .i64 x7, .int .i64 (wrapF .i64 (x8 + 1))] h)))
      (some (.int .i64 (-1), h))
  | _ => none
noncomputable def LB_slices_Index_s_int_int_L1 : Lab := ⟨F_slices_Index_s_int_int, 3004, T_slices_Index_s_int_int_L1, [0, 1, 7, 8], X_slices_Index_s_int_int_L1⟩
noncomputable def X_slices_Delete_s_int_int : XPoly := fun G _ call run a h => match a with
  | [.slice s sn sc, .int .i64 i, .int .i64 j] =>
  ckB (fitsOpen s Y_int h) (ckLF ((sn : Nat) : Int) sc (ckLF j (Int.toNat ((sn : Nat) : Int)) (ckLF i (Int.toNat j) (cond (ieqF i j)
      (some (.slice s sn sc, h))
      (ckB (fitsOpen s Y_int h) (ckLF i sc (ckB (fitsOpen s Y_int h) (ckLF j sn (gCells (moved s (decide (Int.toNat j < sc)) ((Int.toNat j) * 1)) ((sn - (Int.toNat j)) * 1) h fun cs => ckB (fitsOpen (moved s (decide (0 < sc)) (0 * 1)) Y_int h) (apd Y_int 1 (moved s (decide (0 < sc)) (0 * 1)) ((Int.toNat i) - 0) (sc - 0) (sn - (Int.toNat j)) cs h fun a an ac hv => ckB (fitsOpen a Y_int hv) (ckLF ((sn : Nat) : Int) ac (ckLF ((an : Nat) : Int) (Int.toNat ((sn : Nat) : Int)) (pCells (moved a (decide (Int.toNat ((an : Nat) : Int) < ac)) ((Int.toNat ((an : Nat) : Int)) * 1)) (manyN ((Int.toNat ((sn : Nat) : Int)) - (Int.toNat ((an : Nat) : Int))) [.int .i64 0]) hv fun hv_1 => some (.slice a an ac, hv_1))))))))))))))
  | _ => none
noncomputable def X_plain_unit_own : XPoly := fun G _ call run a h => match a with
  | [.pointer x, .int .i64 i, .agg ⟨s⟩] =>
  nw (.cells Y_api_Sys false s) h fun b hv => nw (.cells Y_api_Ret false [.int .i64 0, .int .i64 0, .slice none 0 0, .bool false]) hv fun b_1 hv_1 => aSome x fun p => ckRF i 8 (gAgg (Addr.add (Addr.add p 0) (Int.toNat i * 16)) 16 hv_1 fun x_1 => nw (.cells Y_api_Proc false [.int .i64 0, .int .i64 0, .int .i64 0, .int .i64 0, .int .i64 0, .int .i64 0, .int .i64 0, .int .i64 0, .int .i64 0, .int .i64 0, .int .i64 0, .int .i64 0, .int .i64 0, .int .i64 0, .int .i64 0, .int .i64 0]) hv_1 fun b_2 hv_2 => ck (List.length x_1 = 16) (pAgg ⟨b_2, 0, none⟩ x_1 hv_2 fun hv_3 => gInt .i64 (Addr.add ⟨b, 0, none⟩ 0) hv_3 fun x_2 => cond (ieqF x_2 6)
      (gAgg ⟨b_2, 0, none⟩ 16 hv_3 fun x_3 => gInt .i64 (Addr.add ⟨b, 0, none⟩ 1) hv_3 fun x_4 => bnd (call F_sig_Mask [.agg ⟨x_3⟩, .int .i64 x_4] hv_3) fun r hv_4 => as3 r fun r_1 r_2 r_3 => aAgg r_1 fun x_5 => aInt .i64 r_2 fun x_6 => aInt .i64 r_3 fun x_7 => ck (List.length x_5 = 16) (pAgg ⟨b_2, 0, none⟩ x_5 hv_4 fun hv_5 => run F_plain_unit_own 3011 [.pointer x, .int .i64 i, .pointer (some ⟨b_1, 0, none⟩), .pointer (some ⟨b_2, 0, none⟩), .int .i64 x_6, .int .i64 x_7] hv_5))
      (gAgg ⟨b_2, 0, none⟩ 16 hv_3 fun x_8 => gInt .i64 (Addr.add ⟨b, 0, none⟩ 1) hv_3 fun x_9 => gInt .i64 (Addr.add ⟨b, 0, none⟩ 2) hv_3 fun x_10 => bnd (call F_sig_Handle [.agg ⟨x_8⟩, .int .i64 x_9, .int .i64 x_10] hv_3) fun r_4 hv_6 => as2 r_4 fun r_5 r_6 => aAgg r_5 fun x_11 => aInt .i64 r_6 fun x_12 => ck (List.length x_11 = 16) (pAgg ⟨b_2, 0, none⟩ x_11 hv_6 fun hv_7 => run F_plain_unit_own 3011 [.pointer x, .int .i64 i, .pointer (some ⟨b_1, 0, none⟩), .pointer (some ⟨b_2, 0, none⟩), .int .i64 0, .int .i64 x_12] hv_7))))
  | _ => none
noncomputable def X_plain_unit_own_R1 : XPoly := fun G _ call run a h => match a with
  | [.pointer x, .int .i64 i, .pointer (some x6), .pointer (some p), .int .i64 n, .int .i64 e] =>
  cond (ieqF e 0)
      (gAgg p 16 h fun x_1 => aSome x fun p_1 => ckRF i 8 (ck (List.length x_1 = 16) (pAgg (Addr.add (Addr.add p_1 0) (Int.toNat i * 16)) x_1 h fun hv => bnd (call F_plain_told [.int .i64 n, .int .i64 e] hv) fun r hv_1 => aAgg r fun x_2 => ck (List.length x_2 = 4) (pAgg x6 x_2 hv_1 fun hv_2 => gAgg x6 4 hv_2 fun x_3 => some (.agg ⟨x_3⟩, hv_2)))))
      (bnd (call F_plain_told [.int .i64 n, .int .i64 e] h) fun r_1 hv_3 => aAgg r_1 fun x_4 => ck (List.length x_4 = 4) (pAgg x6 x_4 hv_3 fun hv_4 => gAgg x6 4 hv_4 fun x_5 => some (.agg ⟨x_5⟩, hv_4)))
  | _ => none
noncomputable def LB_plain_unit_own_R1 : Lab := ⟨F_plain_unit_own, 3011, T_plain_unit_own_R1, [0, 1, 6, 7, 8, 9], X_plain_unit_own_R1⟩
noncomputable def X_sig_Next : XPoly := fun G _ call run a h => match a with
  | [.agg ⟨p⟩] =>
  nw (.cells Y_api_Proc false p) h fun b hv => gInt .i64 (Addr.add ⟨b, 0, none⟩ 4) hv fun x => gInt .i64 (Addr.add ⟨b, 0, none⟩ 5) hv fun x_1 => gInt .i64 (Addr.add ⟨b, 0, none⟩ 0) hv fun x_2 => bnd (cond (ineF x_2 1) (some (true, hv)) (some (ieqF (bitAF .i64 (bitN .i64 x x_1) 65534) 0, hv))) fun c hv_1 => cond c
      (some (.tuple ⟨[.int .i64 0, .int .i64 0]⟩, hv_1))
      (cond (ineF (bitAF .i64 (bitAF .i64 (bitN .i64 x x_1) 65534) 512) 0)
      (run F_sig_Next 2015 [.pointer (some ⟨b, 0, none⟩), .int .i64 9] hv_1)
      (bnd (call F_math_bits_TrailingZeros [.int .u64 (wrapF .u64 (bitAF .i64 (bitN .i64 x x_1) 65534))] hv_1) fun r hv_2 => aInt .i64 r fun x_3 => run F_sig_Next 2015 [.pointer (some ⟨b, 0, none⟩), .int .i64 x_3] hv_2))
  | _ => none
noncomputable def X_sig_Next_R1 : XPoly := fun G _ call run a h => match a with
  | [.pointer (some p), .int .i64 n] =>
  gInt .i64 (Addr.add p 7) h fun x => ck ((0 : Int) ≤ (wrapF .u64 (n))) (cond (ieqF (bitAF .i64 (Int.fdiv x (2 ^ (min (Int.toNat (wrapF .u64 (n))) 64))) 1) 1)
      (some (.tuple ⟨[.int .i64 n, .int .i64 2]⟩, h))
      (cond (ieqF n 15)
      (some (.tuple ⟨[.int .i64 n, .int .i64 1]⟩, h))
      (cond (ieqF n 14)
      (some (.tuple ⟨[.int .i64 n, .int .i64 3]⟩, h))
      (some (.tuple ⟨[.int .i64 n, .int .i64 4]⟩, h)))))
  | _ => none
noncomputable def LB_sig_Next_R1 : Lab := ⟨F_sig_Next, 2015, T_sig_Next_R1, [1, 2], X_sig_Next_R1⟩
noncomputable def X_plain_unit_pipe : XPoly := fun G _ call run a h => match a with
  | [.pointer x, .int .i64 i] =>
  bnd (call F_plain_unit_fds [.pointer x, .int .i64 i] h) fun r hv => aSl r fun x_1 xn xc => cond (iltF ((xn : Nat) : Int) 2)
      (some (.tuple ⟨[.int .i64 0, .int .i64 124]⟩, hv))
      (aSome x fun p => gAgg (Addr.add p 128) 48 hv fun x_2 => run F_plain_unit_pipe 3012 [.pointer x, .int .i64 i, .slice x_1 xn xc, .slice none 0 0, .agg ⟨x_2⟩, .int .i64 0] hv)
  | _ => none
noncomputable def X_plain_unit_pipe_L1 : XPoly := fun G _ call run a h => match a with
  | [.pointer x, .int .i64 i, .slice d dn dc, .slice f fnv fc, .agg ⟨x22⟩, .int .i64 x23] =>
  cond (iltF x23 12)
      (ckRF x23 12 (ck ((Int.toNat x23 * 4) + 4 ≤ List.length x22) (nw (.cells Y_api_File false [.int .i64 0, .int .i64 0, .int .i64 0, .int .i64 0]) h fun b hv => ck (List.length (List.take 4 (List.drop (Int.toNat x23 * 4) x22)) = 4) (pAgg ⟨b, 0, none⟩ (List.take 4 (List.drop (Int.toNat x23 * 4) x22)) hv fun hv_1 => gInt .i64 (Addr.add ⟨b, 0, none⟩ 0) hv_1 fun x_1 => cond (ieqF x_1 0)
      (nw (.cells Y_int false [.int .i64 x23]) hv_1 fun b_1 hv_2 => gCells (some ⟨b_1, 0, none⟩) (1 * 1) hv_2 fun cs => ckB (fitsOpen f Y_int hv_2) (apd Y_int 1 f fnv fc 1 cs hv_2 fun a an ac hv_3 => run F_plain_unit_pipe 3012 [.pointer x, .int .i64 i, .slice d dn dc, .slice a an ac, .agg ⟨x22⟩, .int .i64 (wrapF .i64 (x23 + 1))] hv_3))
      (run F_plain_unit_pipe 3012 [.pointer x, .int .i64 i, .slice d dn dc, .slice f fnv fc, .agg ⟨x22⟩, .int .i64 (wrapF .i64 (x23 + 1))] hv_1)))))
      (aSome x fun p => gSl (Addr.add p 176) h fun x_2 _ xc => ckB (fitsOpen x_2 Y_p_api_Pipe h) (ckLF 4 xc (bnd (call F_slices_Index_s_api_Pipe_api_Pipe [.slice (moved x_2 (decide (0 < xc)) (0 * 1)) ((Int.toNat 4) - 0) (xc - 0), .pointer none] h) fun r hv_4 => aInt .i64 r fun x_3 => bnd (cond (iltF ((fnv : Nat) : Int) 2) (some (true, hv_4)) (some (iltF x_3 0, hv_4))) fun c hv_5 => cond c
      (some (.tuple ⟨[.int .i64 0, .int .i64 123]⟩, hv_5))
      (aSome x fun p_1 => gSl (Addr.add p_1 176) hv_5 fun x_4 xn_1 _ => nw (.cells Y_api_Pipe false [.int .i64 0, .int .i64 0, .int .i64 1, .int .i64 1, .int .u8 0, .int .u8 0, .int .u8 0, .int .u8 0, .int .u8 0, .int .u8 0, .int .u8 0, .int .u8 0, .int .u8 0, .int .u8 0, .int .u8 0, .int .u8 0, .int .u8 0, .int .u8 0, .int .u8 0, .int .u8 0, .int .u8 0, .int .u8 0, .int .u8 0, .int .u8 0, .int .u8 0, .int .u8 0, .int .u8 0, .int .u8 0, .int .u8 0, .int .u8 0, .int .u8 0, .int .u8 0, .int .u8 0, .int .u8 0, .int .u8 0, .int .u8 0]) hv_5 fun b_2 hv_6 => aSome x_4 fun p_2 => ckRF x_3 xn_1 (pV (Addr.add (bare p_2) (Int.toNat x_3 * 1)) (.pointer (some ⟨b_2, 0, none⟩)) hv_6 fun hv_7 => nw (.cells Y_int false [.int .i64 1, .int .i64 2]) hv_7 fun b_3 hv_8 => run F_plain_unit_pipe 3032 [.pointer x, .int .i64 i, .slice d dn dc, .slice f fnv fc, .int .i64 x_3, .slice (some ⟨b_3, 0, none⟩) 2 2, .int .i64 2, .int .i64 0] hv_8)))))
  | _ => none
noncomputable def LB_plain_unit_pipe_L1 : Lab := ⟨F_plain_unit_pipe, 3012, T_plain_unit_pipe_L1, [0, 1, 6, 7, 22, 23], X_plain_unit_pipe_L1⟩
noncomputable def X_plain_unit_pipe_L2 : XPoly := fun G _ call run a h => match a with
  | [.pointer x, .int .i64 i, .slice d dn dc, .slice f fnv fc, .int .i64 r, .slice x56 x56n x56c, .int .i64 x57, .int .i64 x58] =>
  cond (iltF x58 x57)
      (aSome x56 fun p => ckRF x58 x56n (gInt .i64 (Addr.add (bare p) (Int.toNat x58 * 1)) h fun x_1 => aSome f fun p_1 => ckRF x58 fnv (gInt .i64 (Addr.add (bare p_1) (Int.toNat x58 * 1)) h fun x_2 => aSome x fun p_2 => ckRF x_2 12 (pAgg (Addr.add (Addr.add p_2 128) (Int.toNat x_2 * 4)) [.int .i64 x_1, .int .i64 r, .int .i64 1, .int .i64 0] h fun hv => aSome d fun p_3 => ckRF x58 dn (gInt .i64 (Addr.add (bare p_3) (Int.toNat x58 * 1)) hv fun x_3 => aSome f fun p_4 => ckRF x58 fnv (gInt .i64 (Addr.add (bare p_4) (Int.toNat x58 * 1)) hv fun x_4 => aSome x fun p_5 => ckRF i 8 (ckRF x_3 8 (pV (Addr.add (Addr.add (Addr.add (Addr.add p_5 0) (Int.toNat i * 16)) 8) (Int.toNat x_3 * 1)) (.int .i64 (wrapF .i64 (x_4 + 1))) hv fun hv_1 => run F_plain_unit_pipe 3032 [.pointer x, .int .i64 i, .slice d dn dc, .slice f fnv fc, .int .i64 r, .slice x56 x56n x56c, .int .i64 x57, .int .i64 (wrapF .i64 (x58 + 1))] hv_1))))))))
      (aSome d fun p_6 => ckRF 0 dn (gInt .i64 (Addr.add (bare p_6) (Int.toNat 0 * 1)) h fun x_5 => aSome d fun p_7 => ckRF 1 dn (gInt .i64 (Addr.add (bare p_7) (Int.toNat 1 * 1)) h fun x_6 => some (.tuple ⟨[.int .i64 (wrapF .i64 (x_5 + (wrapF .i64 (16 * x_6)))), .int .i64 0]⟩, h))))
  | _ => none
noncomputable def LB_plain_unit_pipe_L2 : Lab := ⟨F_plain_unit_pipe, 3032, T_plain_unit_pipe_L2, [0, 1, 6, 7, 10, 56, 57, 58], X_plain_unit_pipe_L2⟩
noncomputable def X_plain_unit_read : XPoly := fun G _ call run a h => match a with
  | [.pointer x, .int .i64 i, .int .i64 fd, .int .i64 n] =>
  nw (.cells Y_api_Ret false [.int .i64 0, .int .i64 0, .slice none 0 0, .bool false]) h fun b hv => bnd (call F_plain_unit_open [.pointer x, .int .i64 i, .int .i64 fd] hv) fun r hv_1 => aPtr r fun x_1 => bnd (cond x_1.isNone (some (true, hv_1)) (aSome x_1 fun p => gInt .i64 (Addr.add p 0) hv_1 fun x_2 => some (ieqF x_2 2, hv_1))) fun c hv_2 => cond c
      (pAgg ⟨b, 0, none⟩ [.int .i64 0, .int .i64 109, .slice none 0 0, .bool false] hv_2 fun hv_3 => gAgg ⟨b, 0, none⟩ 4 hv_3 fun x_3 => some (.agg ⟨x_3⟩, hv_3))
      (bnd (call F_plain_in [.int .i64 n, .int .i64 32] hv_2) fun r_1 hv_4 => aBool r_1 fun x_4 => cond (!x_4)
      (pAgg ⟨b, 0, none⟩ [.int .i64 0, .int .i64 122, .slice none 0 0, .bool false] hv_4 fun hv_5 => gAgg ⟨b, 0, none⟩ 4 hv_5 fun x_5 => some (.agg ⟨x_5⟩, hv_5))
      (aSome x_1 fun p_1 => gInt .i64 (Addr.add p_1 0) hv_4 fun x_6 => bnd (cond (ieqF x_6 3) (aSome x fun p_2 => gInt .i64 (Addr.add p_2 178) hv_4 fun x_7 => aSome x fun p_3 => ckRF i 8 (gInt .i64 (Addr.add (Addr.add (Addr.add p_3 0) (Int.toNat i * 16)) 2) hv_4 fun x_8 => some (ineF x_7 x_8, hv_4))) (some (false, hv_4))) fun c_1 hv_6 => cond c_1
      (pAgg ⟨b, 0, none⟩ [.int .i64 0, .int .i64 125, .slice none 0 0, .bool false] hv_6 fun hv_7 => gAgg ⟨b, 0, none⟩ 4 hv_7 fun x_9 => some (.agg ⟨x_9⟩, hv_7))
      (cond (ieqF n 0)
      (pAgg ⟨b, 0, none⟩ [.int .i64 0, .int .i64 0, .slice none 0 0, .bool false] hv_6 fun hv_8 => gAgg ⟨b, 0, none⟩ 4 hv_8 fun x_10 => some (.agg ⟨x_10⟩, hv_8))
      (aSome x fun p_4 => gPtr (Addr.add p_4 177) hv_6 fun x_11 => aSome x_1 fun p_5 => gInt .i64 (Addr.add p_5 0) hv_6 fun x_12 => cond (ieqF x_12 1)
      (aSome x fun p_6 => gSl (Addr.add p_6 176) hv_6 fun x_13 xn _ => aSome x_1 fun p_7 => gInt .i64 (Addr.add p_7 1) hv_6 fun x_14 => aSome x_13 fun p_8 => ckRF x_14 xn (gPtr (Addr.add (bare p_8) (Int.toNat x_14 * 1)) hv_6 fun x_15 => run F_plain_unit_read 4029 [.int .i64 n, .pointer (some ⟨b, 0, none⟩), .pointer x_1, .pointer x_15] hv_6))
      (run F_plain_unit_read 4029 [.int .i64 n, .pointer (some ⟨b, 0, none⟩), .pointer x_1, .pointer x_11] hv_6)))))
  | _ => none
noncomputable def X_plain_unit_read_R1 : XPoly := fun G _ call run a h => match a with
  | [.int .i64 n, .pointer (some x8), .pointer f, .pointer r] =>
  aSome r fun p => gInt .i64 (Addr.add p 1) h fun x => cond (iltF 0 x)
      (aSome r fun p_1 => gAgg p_1 36 h fun x_1 => bnd (call F_ring_Take [.agg ⟨x_1⟩, .int .i64 n] h) fun r_1 hv => as2 r_1 fun r_2 r_3 => aAgg r_2 fun x_2 => aSl r_3 fun x_3 xn xc => aSome r fun p_2 => ck (List.length x_2 = 36) (pAgg p_2 x_2 hv fun hv_1 => pAgg x8 [.int .i64 ((xn : Nat) : Int), .int .i64 0, .slice x_3 xn xc, .bool false] hv_1 fun hv_2 => gAgg x8 4 hv_2 fun x_4 => some (.agg ⟨x_4⟩, hv_2)))
      (aSome f fun p_3 => gInt .i64 (Addr.add p_3 0) h fun x_5 => bnd (cond (ieqF x_5 1) (aSome r fun p_4 => gInt .i64 (Addr.add p_4 3) h fun x_6 => some (ieqF x_6 0, h)) (some (false, h))) fun c hv_3 => cond c
      (pAgg x8 [.int .i64 0, .int .i64 0, .slice none 0 0, .bool false] hv_3 fun hv_4 => gAgg x8 4 hv_4 fun x_7 => some (.agg ⟨x_7⟩, hv_4))
      (bnd (call F_plain_waits [.pointer f] hv_3) fun r_4 hv_5 => aAgg r_4 fun x_8 => ck (List.length x_8 = 4) (pAgg x8 x_8 hv_5 fun hv_6 => gAgg x8 4 hv_6 fun x_9 => some (.agg ⟨x_9⟩, hv_6))))
  | _ => none
noncomputable def LB_plain_unit_read_R1 : Lab := ⟨F_plain_unit_read, 4029, T_plain_unit_read_R1, [3, 8, 9, 10], X_plain_unit_read_R1⟩
noncomputable def X_plain_unit_write : XPoly := fun G _ call run a h => match a with
  | [.pointer x, .int .i64 i, .int .i64 fd, .slice b bn bc] =>
  nw (.cells Y_api_Ret false [.int .i64 0, .int .i64 0, .slice none 0 0, .bool false]) h fun b_1 hv => bnd (call F_plain_unit_open [.pointer x, .int .i64 i, .int .i64 fd] hv) fun r hv_1 => aPtr r fun x_1 => bnd (cond x_1.isNone (some (true, hv_1)) (aSome x_1 fun p => gInt .i64 (Addr.add p 0) hv_1 fun x_2 => some (ineF x_2 2, hv_1))) fun c hv_2 => cond c
      (pAgg ⟨b_1, 0, none⟩ [.int .i64 0, .int .i64 109, .slice none 0 0, .bool false] hv_2 fun hv_3 => gAgg ⟨b_1, 0, none⟩ 4 hv_3 fun x_3 => some (.agg ⟨x_3⟩, hv_3))
      (cond (iltF 32 ((bn : Nat) : Int))
      (pAgg ⟨b_1, 0, none⟩ [.int .i64 0, .int .i64 122, .slice none 0 0, .bool false] hv_2 fun hv_4 => gAgg ⟨b_1, 0, none⟩ 4 hv_4 fun x_4 => some (.agg ⟨x_4⟩, hv_4))
      (cond (ieqF ((bn : Nat) : Int) 0)
      (pAgg ⟨b_1, 0, none⟩ [.int .i64 0, .int .i64 0, .slice none 0 0, .bool false] hv_2 fun hv_5 => gAgg ⟨b_1, 0, none⟩ 4 hv_5 fun x_5 => some (.agg ⟨x_5⟩, hv_5))
      (aSome x fun p_1 => gSl (Addr.add p_1 176) hv_2 fun x_6 xn _ => aSome x_1 fun p_2 => gInt .i64 (Addr.add p_2 1) hv_2 fun x_7 => aSome x_6 fun p_3 => ckRF x_7 xn (gPtr (Addr.add (bare p_3) (Int.toNat x_7 * 1)) hv_2 fun x_8 => aSome x_8 fun p_4 => gInt .i64 (Addr.add p_4 2) hv_2 fun x_9 => cond (ieqF x_9 0)
      (aSome x fun p_5 => ckRF i 8 (gAgg (Addr.add (Addr.add p_5 0) (Int.toNat i * 16)) 16 hv_2 fun x_10 => aSome x fun p_6 => bnd (call F_sig_Raise [.agg ⟨x_10⟩, .int .i64 13] hv_2) fun r_1 hv_6 => as2 r_1 fun r_2 r_3 => aAgg r_2 fun x_11 => aBool r_3 fun _ => ckRF i 8 (ck (List.length x_11 = 16) (pAgg (Addr.add (Addr.add p_6 0) (Int.toNat i * 16)) x_11 hv_6 fun hv_7 => pAgg ⟨b_1, 0, none⟩ [.int .i64 0, .int .i64 132, .slice none 0 0, .bool false] hv_7 fun hv_8 => gAgg ⟨b_1, 0, none⟩ 4 hv_8 fun x_13 => some (.agg ⟨x_13⟩, hv_8)))))
      (aSome x_8 fun p_7 => gInt .i64 (Addr.add p_7 1) hv_2 fun x_14 => bnd (cond (ieqF (wrapF .i64 (32 - x_14)) 0) (some (true, hv_2)) (bnd (cond (ileF ((bn : Nat) : Int) 8) (some (iltF (wrapF .i64 (32 - x_14)) ((bn : Nat) : Int), hv_2)) (some (false, hv_2))) fun c_1 hv_9 => some (c_1, hv_9))) fun c_2 hv_10 => cond c_2
      (bnd (call F_plain_waits [.pointer x_1] hv_10) fun r_4 hv_11 => aAgg r_4 fun x_15 => ck (List.length x_15 = 4) (pAgg ⟨b_1, 0, none⟩ x_15 hv_11 fun hv_12 => gAgg ⟨b_1, 0, none⟩ 4 hv_12 fun x_16 => some (.agg ⟨x_16⟩, hv_12)))
      (aSome x_8 fun p_8 => gAgg p_8 36 hv_10 fun x_17 => bnd (call F_ring_Put [.agg ⟨x_17⟩, .slice b bn bc] hv_10) fun r_5 hv_13 => as2 r_5 fun r_6 r_7 => aAgg r_6 fun x_18 => aInt .i64 r_7 fun x_19 => aSome x_8 fun p_9 => ck (List.length x_18 = 36) (pAgg p_9 x_18 hv_13 fun hv_14 => pAgg ⟨b_1, 0, none⟩ [.int .i64 x_19, .int .i64 0, .slice none 0 0, .bool false] hv_14 fun hv_15 => gAgg ⟨b_1, 0, none⟩ 4 hv_15 fun x_20 => some (.agg ⟨x_20⟩, hv_15))))))))
  | _ => none
noncomputable def X_plain_unit_close : XPoly := fun G _ call run a h => match a with
  | [.pointer x, .int .i64 i, .int .i64 fd] =>
  bnd (call F_plain_unit_open [.pointer x, .int .i64 i, .int .i64 fd] h) fun r hv => aPtr r fun x_1 => cond x_1.isNone
      (some (.int .i64 109, hv))
      (aSome x fun p => ckRF i 8 (ckRF fd 8 (gInt .i64 (Addr.add (Addr.add (Addr.add (Addr.add p 0) (Int.toNat i * 16)) 8) (Int.toNat fd * 1)) hv fun x_2 => aSome x fun p_1 => ckRF i 8 (ckRF fd 8 (pV (Addr.add (Addr.add (Addr.add (Addr.add p_1 0) (Int.toNat i * 16)) 8) (Int.toNat fd * 1)) (.int .i64 0) hv fun hv_1 => bnd (call F_plain_unit_drop [.pointer x, .int .i64 (wrapF .i64 (x_2 - 1))] hv_1) fun r_1 hv_2 => as0 r_1 (some (.int .i64 0, hv_2)))))))
  | _ => none
noncomputable def X_plain_unit_dup : XPoly := fun G _ call run a h => match a with
  | [.pointer x, .int .i64 i, .int .i64 fd] =>
  bnd (call F_plain_unit_open [.pointer x, .int .i64 i, .int .i64 fd] h) fun r hv => aPtr r fun x_1 => bnd (call F_plain_unit_fds [.pointer x, .int .i64 i] hv) fun r_1 hv_1 => aSl r_1 fun x_2 xn _ => cond x_1.isNone
      (some (.tuple ⟨[.int .i64 0, .int .i64 109]⟩, hv_1))
      (cond (ieqF ((xn : Nat) : Int) 0)
      (some (.tuple ⟨[.int .i64 0, .int .i64 124]⟩, hv_1))
      (aSome x_1 fun p => gInt .i64 (Addr.add p 2) hv_1 fun x_3 => cond (ileF 64 x_3)
      (some (.tuple ⟨[.int .i64 0, .int .i64 123]⟩, hv_1))
      (aSome x_1 fun p_1 => gInt .i64 (Addr.add p_1 2) hv_1 fun x_4 => aSome x_1 fun p_2 => pV (Addr.add p_2 2) (.int .i64 (wrapF .i64 (x_4 + 1))) hv_1 fun hv_2 => aSome x_2 fun p_3 => ckRF 0 xn (gInt .i64 (Addr.add (bare p_3) (Int.toNat 0 * 1)) hv_2 fun x_5 => aSome x fun p_4 => ckRF i 8 (ckRF fd 8 (gInt .i64 (Addr.add (Addr.add (Addr.add (Addr.add p_4 0) (Int.toNat i * 16)) 8) (Int.toNat fd * 1)) hv_2 fun x_6 => aSome x fun p_5 => ckRF i 8 (ckRF x_5 8 (pV (Addr.add (Addr.add (Addr.add (Addr.add p_5 0) (Int.toNat i * 16)) 8) (Int.toNat x_5 * 1)) (.int .i64 x_6) hv_2 fun hv_3 => aSome x_2 fun p_6 => ckRF 0 xn (gInt .i64 (Addr.add (bare p_6) (Int.toNat 0 * 1)) hv_3 fun x_7 => some (.tuple ⟨[.int .i64 x_7, .int .i64 0]⟩, hv_3))))))))))
  | _ => none
noncomputable def X_plain_unit_never : XPoly := fun G _ call run a h => match a with
  | [.pointer x, .int .i64 i, .int .i64 fd, .int .i64 on] =>
  bnd (call F_plain_unit_open [.pointer x, .int .i64 i, .int .i64 fd] h) fun r hv => aPtr r fun x_1 => cond x_1.isNone
      (some (.int .i64 109, hv))
      (bnd (call F_plain_in [.int .i64 on, .int .i64 1] hv) fun r_1 hv_1 => aBool r_1 fun x_2 => cond (!x_2)
      (some (.int .i64 122, hv_1))
      (aSome x_1 fun p => pV (Addr.add p 3) (.int .i64 on) hv_1 fun hv_2 => some (.int .i64 0, hv_2)))
  | _ => none
noncomputable def X_slices_IndexFunc_s_api_Proc_api_Proc : XPoly := fun G _ call run a h => match a with
  | [.slice s sn sc, f] =>
  run F_slices_IndexFunc_s_api_Proc_api_Proc 3004 [.slice s sn sc, f, .int .i64 ((sn : Nat) : Int), .int .i64 0] h
  | _ => none
noncomputable def X_slices_IndexFunc_s_api_Proc_api_Proc_L1 : XPoly := fun G _ call run a h => match a with
  | [.slice s sn sc, f, .int .i64 x7, .int .i64 x8] =>
  cond (iltF x8 x7)
      (aSome s fun p => ckRF x8 sn (gAgg (Addr.add (bare p) (Int.toNat x8 * 16)) 16 h fun x => aFn f fun g fi cp => bnd (call g (fi ++ ([.agg ⟨x⟩] ++ cp)) h) fun r hv => aBool r fun x_1 => cond x_1
      (some (.int .i64 x8, hv))
      (run F_slices_IndexFunc_s_api_Proc_api_Proc 3004 [.slice s sn sc, f, .int .i64 x7, .int .i64 (wrapF .i64 (x8 + 1))] hv)))
      (some (.int .i64 (-1), h))
  | _ => none
noncomputable def LB_slices_IndexFunc_s_api_Proc_api_Proc_L1 : Lab := ⟨F_slices_IndexFunc_s_api_Proc_api_Proc, 3004, T_slices_IndexFunc_s_api_Proc_api_Proc_L1, [0, 1, 7, 8], X_slices_IndexFunc_s_api_Proc_api_Proc_L1⟩
noncomputable def X_plain_unit_fork_1 : XPoly := fun G _ call run a h => match a with
  | [.agg ⟨p⟩] =>
  nw (.cells Y_api_Proc false p) h fun b hv => gInt .i64 (Addr.add ⟨b, 0, none⟩ 0) hv fun x => some (.bool (ieqF x 0), hv)
  | _ => none
noncomputable def X_sig_is : XPoly := fun G _ call run a h => match a with
  | [.int .i64 n] =>
  bnd (cond (ileF 1 n) (some (ileF n 15, h)) (some (false, h))) fun c hv => some (.bool c, hv)
  | _ => none
noncomputable def X_plain_unit_has_1 : XPoly := fun G _ call run a h => match a with
  | [.int .i64 k, .pointer (some fv0), .pointer (some fv1)] =>
  gPtr fv0 h fun x => bnd (call F_plain_unit_lives [.pointer x, .int .i64 k] h) fun r hv => aBool r fun x_1 => bnd (cond x_1 (gPtr fv0 hv fun x_2 => aSome x_2 fun p => ckRF k 8 (gInt .i64 (Addr.add (Addr.add (Addr.add p 0) (Int.toNat k * 16)) 2) hv fun x_3 => gInt .i64 fv1 hv fun x_4 => some (ieqF x_3 x_4, hv))) (some (false, hv))) fun c hv_1 => some (.bool c, hv_1)
  | _ => none
noncomputable def X_plain_unit_fds_1 : XPoly := fun G _ call run a h => match a with
  | [.int .i64 k, .pointer (some fv0), .pointer (some fv1)] =>
  gPtr fv0 h fun x => gInt .i64 fv1 h fun x_1 => aSome x fun p => ckRF x_1 8 (ckRF k 8 (gInt .i64 (Addr.add (Addr.add (Addr.add (Addr.add p 0) (Int.toNat x_1 * 16)) 8) (Int.toNat k * 1)) h fun x_2 => some (.bool (ieqF x_2 0), h)))
  | _ => none
noncomputable def X_ring_Bytes : XPoly := fun G _ call run a h => match a with
  | [.agg ⟨p⟩] =>
  nw (.cells Y_api_Pipe false p) h fun b hv => gAgg ⟨b, 0, none⟩ 36 hv fun x => bnd (call F_ring_Ok [.agg ⟨x⟩] hv) fun r hv_1 => aBool r fun x_1 => cond (!x_1)
      (some (.slice none 0 0, hv_1))
      (gInt .i64 (Addr.add ⟨b, 0, none⟩ 1) hv_1 fun x_2 => run F_ring_Bytes 3010 [.pointer (some ⟨b, 0, none⟩), .slice none 0 0, .int .i64 x_2, .int .i64 0] hv_1)
  | _ => none
noncomputable def X_ring_Bytes_L1 : XPoly := fun G _ call run a h => match a with
  | [.pointer (some p), .slice out outn outc, .int .i64 x9, .int .i64 x10] =>
  cond (iltF x10 x9)
      (gInt .i64 (Addr.add p 0) h fun x => ckRF (Int.tmod (wrapF .i64 (x + x10)) 32) 32 (gInt .u8 (Addr.add (Addr.add p 4) (Int.toNat (Int.tmod (wrapF .i64 (x + x10)) 32) * 1)) h fun x_1 => nw (.cells Y_uint8 false [.int .u8 x_1]) h fun b hv => gCells (some ⟨b, 0, none⟩) (1 * 1) hv fun cs => ckB (fitsOpen out Y_uint8 hv) (apd Y_uint8 1 out outn outc 1 cs hv fun a an ac hv_1 => run F_ring_Bytes 3010 [.pointer (some p), .slice a an ac, .int .i64 x9, .int .i64 (wrapF .i64 (x10 + 1))] hv_1)))
      (some (.slice out outn outc, h))
  | _ => none
noncomputable def LB_ring_Bytes_L1 : Lab := ⟨F_ring_Bytes, 3010, T_ring_Bytes_L1, [1, 3, 9, 10], X_ring_Bytes_L1⟩
noncomputable def X_slices_Clip_s_byte_byte : XPoly := fun G _ call run a h => match a with
  | [.slice s sn sc] =>
  ckB (fitsOpen s Y_uint8 h) (ckLF ((sn : Nat) : Int) sc (ckLF ((sn : Nat) : Int) (Int.toNat ((sn : Nat) : Int)) (some (.slice (bareO (moved s (decide (0 < Int.toNat ((sn : Nat) : Int))) (0 * 1))) ((Int.toNat ((sn : Nat) : Int)) - 0) ((Int.toNat ((sn : Nat) : Int)) - 0), h))))
  | _ => none
end Go.EQ

set_option maxRecDepth 100000
set_option linter.unusedVariables false
namespace Go.EQ
open Go Go.Proofs
open Go.NN hiding bnd ld gInt gBool gStr gPtr gSl gMap gFv gAgg gCells nw pV pAgg pCells apd fitsOpen liveA mapAt
open Go.NP Go.NW
noncomputable def TABF : Tab XPoly := .node 41 X_plain_unit_descriptors (.node 23 X_plain_unit_leave (.node 14 X_plain_in (.node 9 X_sect_New (.node 7 X_plain_Run (.node 5 X_plain_New (.node 4 X_law23_awake .leaf .leaf) .leaf) (.node 8 X_plain_check .leaf .leaf)) (.node 12 X_plain_check_1 (.node 11 X_plain_Plain_Do (.node 10 X_plain_unit_bridge .leaf .leaf) .leaf) (.node 13 X_slices_ContainsFunc_s_api_Bridge_api_Bridge .leaf .leaf))) (.node 19 X_slices_IndexFunc_s_api_Bridge_api_Bridge (.node 17 X_plain_unit_pick (.node 16 X_ring_Put (.node 15 X_plain_unit_start .leaf .leaf) .leaf) (.node 18 X_plain_unit_idle .leaf .leaf)) (.node 21 X_slices_Clone_s_byte_byte (.node 20 X_plain_unit_lives .leaf .leaf) (.node 22 X_ring_Ok .leaf .leaf)))) (.node 32 X_sect_Sect_Holds (.node 28 X_sect_Sect_Quit (.node 26 X_plain_unit_blocked (.node 25 X_plain_unit_inside (.node 24 X_sect_Sect_Enter .leaf .leaf) .leaf) (.node 27 X_plain_unit_signals .leaf .leaf)) (.node 30 X_sect_Sect_Leave (.node 29 X_ring_Ok_1 .leaf .leaf) (.node 31 X_slices_Contains_s_int_int .leaf .leaf))) (.node 37 X_plain_unit_exit (.node 35 X_plain_unit_wakes (.node 34 X_sig_Wakes (.node 33 X_plain_unit_do .leaf .leaf) .leaf) (.node 36 X_sig_Deliver .leaf .leaf)) (.node 39 X_slices_Delete_s_int_int (.node 38 X_slices_Index_s_int_int .leaf .leaf) (.node 40 X_slices_Clone_s_int_int .leaf .leaf))))) (.node 59 X_slices_IndexFunc_s_api_Proc_api_Proc (.node 50 X_plain_unit_drop (.node 46 X_plain_unit_own (.node 44 X_plain_unit_wait (.node 43 X_plain_unit_fork (.node 42 X_plain_told .leaf .leaf) .leaf) (.node 45 X_plain_unit_kill .leaf .leaf)) (.node 48 X_sig_Next (.node 47 X_plain_unit_group .leaf .leaf) (.node 49 X_plain_unit_open .leaf .leaf))) (.node 55 X_plain_unit_dup (.node 53 X_plain_unit_write (.node 52 X_plain_unit_read (.node 51 X_plain_unit_pipe .leaf .leaf) .leaf) (.node 54 X_plain_unit_close .leaf .leaf)) (.node 57 X_plain_unit_never (.node 56 X_plain_unit_dup2 .leaf .leaf) (.node 58 X_plain_unit_toFront .leaf .leaf)))) (.node 68 X_math_bits_TrailingZeros (.node 64 X_sig_Raise (.node 62 X_plain_unit_wait_1 (.node 61 X_plain_those (.node 60 X_plain_unit_fork_1 .leaf .leaf) .leaf) (.node 63 X_plain_unit_kill_1 .leaf .leaf)) (.node 66 X_sig_Handle (.node 65 X_sig_Mask .leaf .leaf) (.node 67 X_plain_unit_has .leaf .leaf))) (.node 74 X_plain_unit_has_1 (.node 72 X_ring_Take (.node 71 X_plain_waits (.node 69 X_plain_unit_fds .leaf .leaf) .leaf) (.node 73 X_sig_is .leaf .leaf)) (.node 78 X_ring_Bytes (.node 77 X_plain_unit_fds_1 .leaf .leaf) (.node 79 X_slices_Clip_s_byte_byte .leaf .leaf)))))
noncomputable def TABL : Tab Lab := .node 38003004 LB_slices_Index_s_int_int_L1 (.node 24002021 LB_sect_Sect_Enter_R1 (.node 16003010 LB_ring_Put_L1 (.node 7003012 LB_plain_Run_L1 (.node 5003026 LB_plain_New_L2 (.node 5003010 LB_plain_New_L1 .leaf .leaf) .leaf) (.node 11003007 LB_plain_Plain_Do_R1 .leaf .leaf)) (.node 17004029 LB_plain_unit_pick_R2 (.node 17004017 LB_plain_unit_pick_R1 .leaf .leaf) (.node 19003004 LB_slices_IndexFunc_s_api_Bridge_api_Bridge_L1 .leaf .leaf))) (.node 28002007 LB_sect_Sect_Quit_R1 (.node 24003035 LB_sect_Sect_Enter_R4 (.node 24003029 LB_sect_Sect_Enter_R3 (.node 24003023 LB_sect_Sect_Enter_R2 .leaf .leaf) .leaf) (.node 24003036 LB_sect_Sect_Enter_L1 .leaf .leaf)) (.node 37003004 LB_plain_unit_exit_L1 (.node 36002002 LB_sig_Deliver_L1 .leaf .leaf) (.node 37003018 LB_plain_unit_exit_L2 .leaf .leaf)))) (.node 51003012 LB_plain_unit_pipe_L1 (.node 45003014 LB_plain_unit_kill_L1 (.node 43003038 LB_plain_unit_fork_L3 (.node 43003026 LB_plain_unit_fork_L2 (.node 43003014 LB_plain_unit_fork_L1 .leaf .leaf) .leaf) (.node 44003006 LB_plain_unit_wait_L1 .leaf .leaf)) (.node 48002015 LB_sig_Next_R1 (.node 46003011 LB_plain_unit_own_R1 .leaf .leaf) (.node 50002021 LB_plain_unit_drop_R1 .leaf .leaf))) (.node 61003006 LB_plain_those_L1 (.node 52004029 LB_plain_unit_read_R1 (.node 51003032 LB_plain_unit_pipe_L2 .leaf .leaf) (.node 59003004 LB_slices_IndexFunc_s_api_Proc_api_Proc_L1 .leaf .leaf)) (.node 64003017 LB_sig_Raise_R2 (.node 64003013 LB_sig_Raise_R1 .leaf .leaf) (.node 78003010 LB_ring_Bytes_L1 .leaf .leaf))))
noncomputable def TABS : Tabs := ⟨TABF, TABL⟩
end Go.EQ

/- CommonsGone returns true whatever it is given: two whole numbers; its own run, by cases of the few bits that it reads of them. No condition. -/
import Derived.Test.YtocmejnmpmbepaaGreatMe
set_option linter.unusedVariables false
set_option linter.unusedSimpArgs false
set_option linter.unusedSectionVars false
set_option maxRecDepth 100000
set_option linter.unusedVariables false
namespace Go.EQ
open Go Go.Proofs
open Go.NN hiding bnd ld gInt gBool gStr gPtr gSl gMap gFv gAgg gCells nw pV pAgg pCells apd fitsOpen liveA mapAt
open Go.NP Go.NW
noncomputable def X_law15_CommonsGone : XPoly := fun G _ call run a h => match a with
  | [.int .i64 i, .int .i64 kind] =>
  bnd (call F_law15_Plan [] h) fun r hv => aAgg r fun x => bnd (call F_law15_Open [.agg ⟨x⟩] hv) fun r_1 hv_1 => as4 r_1 fun r_2 r_3 r_4 r_5 => aPtr r_2 fun x_1 => aPtr r_3 fun x_2 => aPtr r_4 fun _ => aPtr r_5 fun _ => bnd (cond x_2.isNone (some (true, hv_1)) (bnd (call F_kern_Kern_Space [.pointer x_1] hv_1) fun r_6 hv_2 => aPtr r_6 fun x_5 => some (x_5.isNone, hv_2))) fun c hv_3 => cond c
      (some (.bool false, hv_3))
      (bnd (call F_kern_Kern_Space [.pointer x_1] hv_3) fun r_7 hv_4 => aPtr r_7 fun x_6 => bnd (call F_caps_Space_Names [.pointer x_6, .int .i64 0] hv_4) fun r_8 hv_5 => aSl r_8 fun x_7 xn _ => cond (ieqF ((xn : Nat) : Int) 0)
      (some (.bool false, hv_5))
      (aSome x_7 fun p => ckRF 0 xn (gInt .i64 (Addr.add (bare p) (Int.toNat 0 * 1)) hv_5 fun x_8 => bnd (call F_kern_Kern_Do [.pointer x_1, .int .i64 0, .agg ⟨[.int .i64 5, .int .i64 x_8, .int .i64 0, .int .i64 0, .int .i64 0, .int .i64 0, .slice none 0 0]⟩] hv_5) fun r_9 hv_6 => aAgg r_9 fun x_9 => nw (.cells Y_api_Answer false [.int .i64 0, .int .i64 0, .slice none 0 0]) hv_6 fun b hv_7 => ck (List.length x_9 = 3) (pAgg ⟨b, 0, none⟩ x_9 hv_7 fun hv_8 => bnd (call F_commons_Commons_Proc [.pointer x_2, .int .i64 (bitAF .i64 i 3)] hv_8) fun r_10 hv_9 => as2 r_10 fun r_11 r_12 => aAgg r_11 fun x_10 => aInt .i64 r_12 fun x_11 => nw (.cells Y_api_Proc false [.int .i64 0, .int .i64 0, .int .i64 0, .int .i64 0, .int .i64 0, .int .i64 0, .int .i64 0, .int .i64 0, .int .i64 0, .int .i64 0, .int .i64 0, .int .i64 0, .int .i64 0, .int .i64 0, .int .i64 0, .int .i64 0]) hv_9 fun b_1 hv_10 => ck (List.length x_10 = 16) (pAgg ⟨b_1, 0, none⟩ x_10 hv_10 fun hv_11 => bnd (call F_commons_Commons_File [.pointer x_2, .int .i64 (bitAF .i64 i 3)] hv_11) fun r_13 hv_12 => as2 r_13 fun r_14 r_15 => aAgg r_14 fun x_12 => aInt .i64 r_15 fun x_13 => nw (.cells Y_api_File false [.int .i64 0, .int .i64 0, .int .i64 0, .int .i64 0]) hv_12 fun b_2 hv_13 => ck (List.length x_12 = 4) (pAgg ⟨b_2, 0, none⟩ x_12 hv_13 fun hv_14 => bnd (call F_commons_Commons_Pipe [.pointer x_2, .int .i64 (bitAF .i64 i 3)] hv_14) fun r_16 hv_15 => as2 r_16 fun r_17 r_18 => aAgg r_17 fun x_14 => aInt .i64 r_18 fun x_15 => nw (.cells Y_api_Pipe false [.int .i64 0, .int .i64 0, .int .i64 0, .int .i64 0, .int .u8 0, .int .u8 0, .int .u8 0, .int .u8 0, .int .u8 0, .int .u8 0, .int .u8 0, .int .u8 0, .int .u8 0, .int .u8 0, .int .u8 0, .int .u8 0, .int .u8 0, .int .u8 0, .int .u8 0, .int .u8 0, .int .u8 0, .int .u8 0, .int .u8 0, .int .u8 0, .int .u8 0, .int .u8 0, .int .u8 0, .int .u8 0, .int .u8 0, .int .u8 0, .int .u8 0, .int .u8 0, .int .u8 0, .int .u8 0, .int .u8 0, .int .u8 0]) hv_15 fun b_3 hv_16 => ck (List.length x_14 = 36) (pAgg ⟨b_3, 0, none⟩ x_14 hv_16 fun hv_17 => bnd (call F_commons_Commons_Term [.pointer x_2] hv_17) fun r_19 hv_18 => as2 r_19 fun r_20 r_21 => aAgg r_20 fun x_16 => aInt .i64 r_21 fun x_17 => nw (.cells Y_api_Pipe false [.int .i64 0, .int .i64 0, .int .i64 0, .int .i64 0, .int .u8 0, .int .u8 0, .int .u8 0, .int .u8 0, .int .u8 0, .int .u8 0, .int .u8 0, .int .u8 0, .int .u8 0, .int .u8 0, .int .u8 0, .int .u8 0, .int .u8 0, .int .u8 0, .int .u8 0, .int .u8 0, .int .u8 0, .int .u8 0, .int .u8 0, .int .u8 0, .int .u8 0, .int .u8 0, .int .u8 0, .int .u8 0, .int .u8 0, .int .u8 0, .int .u8 0, .int .u8 0, .int .u8 0, .int .u8 0, .int .u8 0, .int .u8 0]) hv_18 fun b_4 hv_19 => ck (List.length x_16 = 36) (pAgg ⟨b_4, 0, none⟩ x_16 hv_19 fun hv_20 => bnd (call F_commons_Commons_Front [.pointer x_2] hv_20) fun r_22 hv_21 => as2 r_22 fun r_23 r_24 => aInt .i64 r_23 fun _ => aBool r_24 fun x_19 => bnd (call F_law11_Proc [.slice none 0 0] hv_21) fun r_25 hv_22 => aAgg r_25 fun x_20 => bnd (call F_commons_Commons_SetProc [.pointer x_2, .int .i64 (bitAF .i64 i 3), .agg ⟨x_20⟩] hv_22) fun r_26 hv_23 => aBool r_26 fun x_21 => bnd (cond x_21 (some (true, hv_23)) (bnd (call F_commons_Commons_SetFront [.pointer x_2, .int .i64 0] hv_23) fun r_27 hv_24 => aBool r_27 fun x_22 => some (x_22, hv_24))) fun c_1 hv_25 => bnd (cond c_1 (some (true, hv_25)) (bnd (call F_commons_Commons_FreeFile [.pointer x_2, .int .i64 (bitAF .i64 i 3)] hv_25) fun r_28 hv_26 => aBool r_28 fun x_23 => some (x_23, hv_26))) fun c_2 hv_27 => bnd (call F_commons_New [.pointer x_1, .int .i64 0] hv_27) fun r_29 hv_28 => as2 r_29 fun r_30 r_31 => aPtr r_30 fun x_24 => aInt .i64 r_31 fun x_25 => cond x_24.isNone
      (some (.bool false, hv_28))
      (bnd (call F_commons_Commons_Proc [.pointer x_24, .int .i64 (bitO .i64 (bitAF .i64 kind 7) 1)] hv_28) fun r_32 hv_29 => as2 r_32 fun r_33 r_34 => aAgg r_33 fun x_26 => aInt .i64 r_34 fun x_27 => nw (.cells Y_api_Proc false [.int .i64 0, .int .i64 0, .int .i64 0, .int .i64 0, .int .i64 0, .int .i64 0, .int .i64 0, .int .i64 0, .int .i64 0, .int .i64 0, .int .i64 0, .int .i64 0, .int .i64 0, .int .i64 0, .int .i64 0, .int .i64 0]) hv_29 fun b_5 hv_30 => ck (List.length x_26 = 16) (pAgg ⟨b_5, 0, none⟩ x_26 hv_30 fun hv_31 => gInt .i64 (Addr.add ⟨b, 0, none⟩ 0) hv_31 fun x_28 => bnd (cond (ieqF x_28 0) (some (ieqF x_11 2, hv_31)) (some (false, hv_31))) fun c_3 hv_32 => bnd (cond c_3 (some (ieqF x_13 2, hv_32)) (some (false, hv_32))) fun c_4 hv_33 => bnd (cond c_4 (some (ieqF x_15 2, hv_33)) (some (false, hv_33))) fun c_5 hv_34 => bnd (cond c_5 (some (ieqF x_17 2, hv_34)) (some (false, hv_34))) fun c_6 hv_35 => bnd (cond c_6 (some (!x_19, hv_35)) (some (false, hv_35))) fun c_7 hv_36 => bnd (cond c_7 (some (!c_2, hv_36)) (some (false, hv_36))) fun c_8 hv_37 => bnd (cond c_8 (bnd (call F_commons_Commons_Bad [.pointer x_2] hv_37) fun r_35 hv_38 => aSl r_35 fun _ xn_1 _ => some (ieqF ((xn_1 : Nat) : Int) 5, hv_38)) (some (false, hv_37))) fun c_9 hv_39 => bnd (cond c_9 (bnd (call F_commons_Commons_View [.pointer x_2] hv_39) fun r_36 hv_40 => aSl r_36 fun _ xn_2 _ => some (ieqF ((xn_2 : Nat) : Int) 0, hv_40)) (some (false, hv_39))) fun c_10 hv_41 => bnd (cond c_10 (some (ieqF x_25 0, hv_41)) (some (false, hv_41))) fun c_11 hv_42 => bnd (cond c_11 (some (ieqF x_27 2, hv_42)) (some (false, hv_42))) fun c_12 hv_43 => bnd (cond c_12 (bnd (call F_law15_awake [] hv_43) fun r_37 hv_44 => aBool r_37 fun x_31 => some (x_31, hv_44)) (some (false, hv_43))) fun c_13 hv_45 => some (.bool c_13, hv_45)))))))))))
  | _ => none
noncomputable def X_law15_Plan : XPoly := fun G _ call run a h => match a with
  | [] =>
  nw (.cells Y_api_Plan false [.slice none 0 0, .slice none 0 0, .int .i64 0]) h fun b hv => nw (.cells Y_bool false [.bool false, .bool false]) hv fun b_1 hv_1 => nw (.cells Y_api_Bridge false [.int .i64 0, .int .i64 1, .int .i64 1, .int .i64 0]) hv_1 fun b_2 hv_2 => pAgg ⟨b, 0, none⟩ [.slice (some ⟨b_1, 0, none⟩) 2 2, .slice (some ⟨b_2, 0, none⟩) 2 2, .int .i64 5] hv_2 fun hv_3 => gAgg ⟨b, 0, none⟩ 3 hv_3 fun x => some (.agg ⟨x⟩, hv_3)
  | _ => none
noncomputable def X_commons_Commons_Proc : XPoly := fun G _ call run a h => match a with
  | [.pointer c, .int .i64 i] =>
  nw (.cells Y_api_Proc false [.int .i64 0, .int .i64 0, .int .i64 0, .int .i64 0, .int .i64 0, .int .i64 0, .int .i64 0, .int .i64 0, .int .i64 0, .int .i64 0, .int .i64 0, .int .i64 0, .int .i64 0, .int .i64 0, .int .i64 0, .int .i64 0]) h fun b hv => bnd (call F_commons_proc [.int .i64 i] hv) fun r hv_1 => aAgg r fun x => bnd (call F_commons_record_api_Proc [.pointer c, .agg ⟨x⟩, .func (.func F_pslot_Decode) ⟨[]⟩ ⟨[]⟩] hv_1) fun r_1 hv_2 => as2 r_1 fun r_2 r_3 => aAgg r_2 fun x_1 => aInt .i64 r_3 fun x_2 => ck (List.length x_1 = 16) (pAgg ⟨b, 0, none⟩ x_1 hv_2 fun hv_3 => gAgg ⟨b, 0, none⟩ 16 hv_3 fun x_3 => some (.tuple ⟨[.agg ⟨x_3⟩, .int .i64 x_2]⟩, hv_3))
  | _ => none
noncomputable def X_commons_Commons_Pipe : XPoly := fun G _ call run a h => match a with
  | [.pointer c, .int .i64 i] =>
  nw (.cells Y_api_Pipe false [.int .i64 0, .int .i64 0, .int .i64 0, .int .i64 0, .int .u8 0, .int .u8 0, .int .u8 0, .int .u8 0, .int .u8 0, .int .u8 0, .int .u8 0, .int .u8 0, .int .u8 0, .int .u8 0, .int .u8 0, .int .u8 0, .int .u8 0, .int .u8 0, .int .u8 0, .int .u8 0, .int .u8 0, .int .u8 0, .int .u8 0, .int .u8 0, .int .u8 0, .int .u8 0, .int .u8 0, .int .u8 0, .int .u8 0, .int .u8 0, .int .u8 0, .int .u8 0, .int .u8 0, .int .u8 0, .int .u8 0, .int .u8 0]) h fun b hv => bnd (call F_commons_pipe [.int .i64 i] hv) fun r hv_1 => aAgg r fun x => bnd (call F_commons_record_api_Pipe [.pointer c, .agg ⟨x⟩, .func (.func F_ring_Decode) ⟨[]⟩ ⟨[]⟩] hv_1) fun r_1 hv_2 => as2 r_1 fun r_2 r_3 => aAgg r_2 fun x_1 => aInt .i64 r_3 fun x_2 => ck (List.length x_1 = 36) (pAgg ⟨b, 0, none⟩ x_1 hv_2 fun hv_3 => gAgg ⟨b, 0, none⟩ 36 hv_3 fun x_3 => some (.tuple ⟨[.agg ⟨x_3⟩, .int .i64 x_2]⟩, hv_3))
  | _ => none
noncomputable def X_commons_Commons_SetProc : XPoly := fun G _ call run a h => match a with
  | [.pointer c, .int .i64 i, .agg ⟨p⟩] =>
  nw (.cells Y_api_Proc false p) h fun b hv => gAgg ⟨b, 0, none⟩ 16 hv fun x => bnd (call F_pslot_Encode [.agg ⟨x⟩] hv) fun r hv_1 => as2 r fun r_1 r_2 => aSl r_1 fun x_1 xn xc => aBool r_2 fun x_2 => bnd (call F_commons_proc [.int .i64 i] hv_1) fun r_3 hv_2 => aAgg r_3 fun x_3 => bnd (call F_commons_Commons_write [.pointer c, .agg ⟨x_3⟩, .slice x_1 xn xc, .bool x_2] hv_2) fun r_4 hv_3 => aBool r_4 fun x_4 => some (.bool x_4, hv_3)
  | _ => none
noncomputable def X_commons_Commons_FreeFile : XPoly := fun G _ call run a h => match a with
  | [.pointer c, .int .i64 i] =>
  bnd (call F_commons_file [.int .i64 i] h) fun r hv => aAgg r fun x => bnd (call F_commons_Commons_blank [.pointer c, .agg ⟨x⟩] hv) fun r_1 hv_1 => aBool r_1 fun x_1 => some (.bool x_1, hv_1)
  | _ => none
noncomputable def X_commons_New : XPoly := fun G _ call run a h => match a with
  | [.pointer k, .int .i64 env] =>
  bnd (cond k.isNone (some (true, h)) (bnd (call F_kern_Kern_Space [.pointer k] h) fun r hv => aPtr r fun x => bnd (call F_caps_Space_Names [.pointer x, .int .i64 env] hv) fun r_1 hv_1 => aSl r_1 fun _ xn _ => some (ieqF ((xn : Nat) : Int) 0, hv_1))) fun c hv_2 => cond c
      (some (.tuple ⟨[.pointer none, .int .i64 1]⟩, hv_2))
      (bnd (call F_kern_Kern_Space [.pointer k] hv_2) fun r_2 hv_3 => aPtr r_2 fun x_2 => bnd (call F_caps_Space_Names [.pointer x_2, .int .i64 env] hv_3) fun r_3 hv_4 => aSl r_3 fun x_3 xn_1 xc_1 => nw (.map [] 0) hv_4 fun b hv_5 => nw (.cells Y_commons_Commons false [.pointer k, .int .i64 env, .slice x_3 xn_1 xc_1, .map (some b)]) hv_5 fun b_1 hv_6 => some (.tuple ⟨[.pointer (some ⟨b_1, 0, none⟩), .int .i64 0]⟩, hv_6))
  | _ => none
noncomputable def X_commons_Commons_Bad : XPoly := fun G _ call run a h => match a with
  | [.pointer c] =>
  run F_commons_Commons_Bad 3006 [.pointer c, .slice none 0 0, .int .i64 1] h
  | _ => none
noncomputable def X_commons_Commons_Bad_L1 : XPoly := fun G _ call run a h => match a with
  | [.pointer c, .slice out outn outc, .int .i64 kind] =>
  cond (ileF kind 5)
      (bnd (call F_commons_Commons_most [.pointer c, .int .i64 kind] h) fun r hv => aInt .i64 r fun x => run F_commons_Commons_Bad 7012 [.pointer c, .slice out outn outc, .int .i64 kind, .int .i64 x, .int .i64 0] hv)
      (some (.slice out outn outc, h))
  | _ => none
noncomputable def LB_commons_Commons_Bad_L1 : Lab := ⟨F_commons_Commons_Bad, 3006, T_commons_Commons_Bad_L1, [0, 3, 4], X_commons_Commons_Bad_L1⟩
noncomputable def X_commons_Commons_Bad_L2 : XPoly := fun G _ call run a h => match a with
  | [.pointer c, .slice out outn outc, .int .i64 kind, .int .i64 x13, .int .i64 x14] =>
  cond (iltF x14 x13)
      (nw (.cells Y_api_Rec false [.int .i64 0, .int .i64 0]) h fun b hv => pAgg ⟨b, 0, none⟩ [.int .i64 kind, .int .i64 x14] hv fun hv_1 => aSome c fun p => gMap (Addr.add p 3) hv_1 fun x => gAgg ⟨b, 0, none⟩ 2 hv_1 fun x_1 => keyN PR Y_api_Rec (.agg ⟨x_1⟩) (opt x fun r => mapAt hv_1 r fun es _ => opt (lookM (.int .i64 0) (.agg ⟨x_1⟩) es) fun f => aInt .i64 f.1 fun x_2 => cond (iltF 0 x_2)
      (gAgg ⟨b, 0, none⟩ 2 hv_1 fun x_3 => ck (List.length x_3 = 2) (nw (.cells Y_api_Rec false (x_3 ++ [])) hv_1 fun b_1 hv_2 => gCells (some ⟨b_1, 0, none⟩) (1 * 2) hv_2 fun cs => ckB (fitsOpen out Y_api_Rec hv_2) (apd Y_api_Rec 2 out outn outc 1 cs hv_2 fun a an ac hv_3 => run F_commons_Commons_Bad 7012 [.pointer c, .slice a an ac, .int .i64 kind, .int .i64 x13, .int .i64 (wrapF .i64 (x14 + 1))] hv_3)))
      (run F_commons_Commons_Bad 7012 [.pointer c, .slice out outn outc, .int .i64 kind, .int .i64 x13, .int .i64 (wrapF .i64 (x14 + 1))] hv_1)))
      (run F_commons_Commons_Bad 3006 [.pointer c, .slice out outn outc, .int .i64 (wrapF .i64 (kind + 1))] h)
  | _ => none
noncomputable def LB_commons_Commons_Bad_L2 : Lab := ⟨F_commons_Commons_Bad, 7012, T_commons_Commons_Bad_L2, [0, 3, 4, 13, 14], X_commons_Commons_Bad_L2⟩
noncomputable def X_kern_Kern_Regions : XPoly := fun G _ call run a h => match a with
  | [.pointer k] =>
  aSome k fun p => gPtr (Addr.add p 5) h fun x => some (.pointer x, h)
  | _ => none
noncomputable def X_ref1_Kern_Do : XPoly := fun G _ call run a h => match a with
  | [.pointer k, .int .i64 e, .agg ⟨c⟩] =>
  nw (.cells Y_api_Call false c) h fun b hv => bnd (cond (iltF e 0) (some (true, hv)) (aSome k fun p => gSl (Addr.add (Addr.add p 0) 1) hv fun _ xn _ => some (ileF ((xn : Nat) : Int) e, hv))) fun c_1 hv_1 => cond c_1
      (some (.tuple ⟨[.int .i64 1, .int .i64 0, .string (ByteArray.mk ⟨[]⟩)]⟩, hv_1))
      (gInt .i64 (Addr.add ⟨b, 0, none⟩ 0) hv_1 fun x_1 => cond (ieqF x_1 1)
      (aSome k fun p_1 => gPtr (Addr.add p_1 6) hv_1 fun x_2 => gInt .i64 (Addr.add ⟨b, 0, none⟩ 1) hv_1 fun x_3 => gInt .i64 (Addr.add ⟨b, 0, none⟩ 2) hv_1 fun x_4 => gInt .i64 (Addr.add ⟨b, 0, none⟩ 3) hv_1 fun x_5 => bnd (call F_ref1_Regions_Read [.pointer x_2, .int .i64 e, .int .i64 x_3, .int .i64 x_4, .int .i64 x_5] hv_1) fun r hv_2 => as2 r fun r_1 r_2 => aStr r_1 fun x_6 => aInt .i64 r_2 fun x_7 => some (.tuple ⟨[.int .i64 x_7, .int .i64 0, .string x_6]⟩, hv_2))
      (cond (ieqF x_1 2)
      (aSome k fun p_2 => gPtr (Addr.add p_2 6) hv_1 fun x_8 => gInt .i64 (Addr.add ⟨b, 0, none⟩ 1) hv_1 fun x_9 => gInt .i64 (Addr.add ⟨b, 0, none⟩ 2) hv_1 fun x_10 => gSl (Addr.add ⟨b, 0, none⟩ 6) hv_1 fun x_11 xn_1 _ => gCells x_11 xn_1 hv_1 fun cs => asBytes cs fun l => bnd (call F_ref1_Regions_Write [.pointer x_8, .int .i64 e, .int .i64 x_9, .int .i64 x_10, .string (ByteArray.mk ⟨l⟩)] hv_1) fun r_3 hv_3 => aInt .i64 r_3 fun x_12 => some (.tuple ⟨[.int .i64 x_12, .int .i64 0, .string (ByteArray.mk ⟨[]⟩)]⟩, hv_3))
      (cond (ieqF x_1 3)
      (aSome k fun p_3 => gPtr (Addr.add p_3 6) hv_1 fun x_13 => gInt .i64 (Addr.add ⟨b, 0, none⟩ 1) hv_1 fun x_14 => gInt .i64 (Addr.add ⟨b, 0, none⟩ 2) hv_1 fun x_15 => gInt .i64 (Addr.add ⟨b, 0, none⟩ 4) hv_1 fun x_16 => gInt .i64 (Addr.add ⟨b, 0, none⟩ 5) hv_1 fun x_17 => gInt .i64 (Addr.add ⟨b, 0, none⟩ 3) hv_1 fun x_18 => bnd (call F_ref1_Regions_Copy [.pointer x_13, .int .i64 e, .int .i64 x_14, .int .i64 x_15, .int .i64 x_16, .int .i64 x_17, .int .i64 x_18] hv_1) fun r_4 hv_4 => aInt .i64 r_4 fun x_19 => some (.tuple ⟨[.int .i64 x_19, .int .i64 0, .string (ByteArray.mk ⟨[]⟩)]⟩, hv_4))
      (cond (ieqF x_1 4)
      (aSome k fun p_4 => gPtr (Addr.add p_4 6) hv_1 fun x_20 => aSome x_20 fun p_5 => gPtr (Addr.add p_5 3) hv_1 fun x_21 => gInt .i64 (Addr.add ⟨b, 0, none⟩ 1) hv_1 fun x_22 => gInt .i64 (Addr.add ⟨b, 0, none⟩ 4) hv_1 fun x_23 => gInt .i64 (Addr.add ⟨b, 0, none⟩ 5) hv_1 fun x_24 => gInt .i64 (Addr.add ⟨b, 0, none⟩ 2) hv_1 fun x_25 => gInt .i64 (Addr.add ⟨b, 0, none⟩ 3) hv_1 fun x_26 => bnd (call F_ref1_Space_Grant [.pointer x_21, .int .i64 e, .int .i64 x_22, .int .i64 x_23, .int .i64 x_24, .int .i64 x_25, .int .i64 x_26] hv_1) fun r_5 hv_5 => as2 r_5 fun r_6 r_7 => aInt .i64 r_6 fun x_27 => aInt .i64 r_7 fun x_28 => some (.tuple ⟨[.int .i64 x_28, .int .i64 x_27, .string (ByteArray.mk ⟨[]⟩)]⟩, hv_5))
      (cond (ieqF x_1 5)
      (aSome k fun p_6 => gPtr (Addr.add p_6 6) hv_1 fun x_29 => aSome x_29 fun p_7 => gPtr (Addr.add p_7 3) hv_1 fun x_30 => gInt .i64 (Addr.add ⟨b, 0, none⟩ 1) hv_1 fun x_31 => bnd (call F_ref1_Space_Revoke [.pointer x_30, .int .i64 e, .int .i64 x_31] hv_1) fun r_8 hv_6 => as2 r_8 fun r_9 r_10 => aInt .i64 r_9 fun x_32 => aInt .i64 r_10 fun x_33 => some (.tuple ⟨[.int .i64 x_33, .int .i64 x_32, .string (ByteArray.mk ⟨[]⟩)]⟩, hv_6))
      (cond (ieqF x_1 6)
      (aSome k fun p_8 => gPtr (Addr.add p_8 5) hv_1 fun x_34 => aSome k fun p_9 => gSl (Addr.add (Addr.add p_9 0) 1) hv_1 fun x_35 xn_2 _ => aSome x_35 fun p_10 => ckRF e xn_2 (gInt .i64 (Addr.add (bare p_10) (Int.toNat e * 1)) hv_1 fun x_36 => bnd (call F_ref1_Quota_Alloc [.pointer x_34, .int .i64 x_36] hv_1) fun r_11 hv_7 => as2 r_11 fun r_12 r_13 => aInt .i64 r_12 fun x_37 => aInt .i64 r_13 fun x_38 => some (.tuple ⟨[.int .i64 x_38, .int .i64 x_37, .string (ByteArray.mk ⟨[]⟩)]⟩, hv_7)))
      (cond (ieqF x_1 7)
      (aSome k fun p_11 => gPtr (Addr.add p_11 5) hv_1 fun x_39 => aSome k fun p_12 => gSl (Addr.add (Addr.add p_12 0) 1) hv_1 fun x_40 xn_3 _ => aSome x_40 fun p_13 => ckRF e xn_3 (gInt .i64 (Addr.add (bare p_13) (Int.toNat e * 1)) hv_1 fun x_41 => gInt .i64 (Addr.add ⟨b, 0, none⟩ 3) hv_1 fun x_42 => bnd (call F_ref1_Quota_Free [.pointer x_39, .int .i64 x_41, .int .i64 x_42] hv_1) fun r_14 hv_8 => aInt .i64 r_14 fun x_43 => some (.tuple ⟨[.int .i64 x_43, .int .i64 0, .string (ByteArray.mk ⟨[]⟩)]⟩, hv_8)))
      (cond (ieqF x_1 8)
      (gInt .i64 (Addr.add ⟨b, 0, none⟩ 3) hv_1 fun x_44 => bnd (call F_ref1_Kern_may [.pointer k, .int .i64 e, .int .i64 x_44] hv_1) fun r_15 hv_9 => aBool r_15 fun x_45 => cond x_45
      (aSome k fun p_14 => gSl (Addr.add p_14 7) hv_9 fun x_46 xn_4 _ => gInt .i64 (Addr.add ⟨b, 0, none⟩ 3) hv_9 fun x_47 => aSome x_46 fun p_15 => ckRF x_47 xn_4 (gPtr (Addr.add (bare p_15) (Int.toNat x_47 * 1)) hv_9 fun x_48 => aSome k fun p_16 => gInt .i64 (Addr.add p_16 8) hv_9 fun x_49 => bnd (call F_ref1_Sect_Enter [.pointer x_48, .int .i64 e, .int .i64 x_49] hv_9) fun r_16 hv_10 => as2 r_16 fun r_17 r_18 => aInt .i64 r_17 fun x_50 => aBool r_18 fun _ => some (.tuple ⟨[.int .i64 0, .int .i64 x_50, .string (ByteArray.mk ⟨[]⟩)]⟩, hv_10)))
      (some (.tuple ⟨[.int .i64 8, .int .i64 0, .string (ByteArray.mk ⟨[]⟩)]⟩, hv_9)))
      (cond (ieqF x_1 9)
      (gInt .i64 (Addr.add ⟨b, 0, none⟩ 3) hv_1 fun x_52 => bnd (call F_ref1_Kern_may [.pointer k, .int .i64 e, .int .i64 x_52] hv_1) fun r_19 hv_11 => aBool r_19 fun x_53 => bnd (cond x_53 (aSome k fun p_17 => gSl (Addr.add p_17 7) hv_11 fun x_54 xn_5 _ => gInt .i64 (Addr.add ⟨b, 0, none⟩ 3) hv_11 fun x_55 => aSome x_54 fun p_18 => ckRF x_55 xn_5 (gPtr (Addr.add (bare p_18) (Int.toNat x_55 * 1)) hv_11 fun x_56 => gInt .i64 (Addr.add ⟨b, 0, none⟩ 2) hv_11 fun x_57 => bnd (call F_ref1_Sect_Leave [.pointer x_56, .int .i64 e, .int .i64 x_57] hv_11) fun r_20 hv_12 => aBool r_20 fun x_58 => some (x_58, hv_12))) (some (false, hv_11))) fun c_2 hv_13 => cond c_2
      (some (.tuple ⟨[.int .i64 0, .int .i64 0, .string (ByteArray.mk ⟨[]⟩)]⟩, hv_13))
      (some (.tuple ⟨[.int .i64 8, .int .i64 0, .string (ByteArray.mk ⟨[]⟩)]⟩, hv_13)))
      (cond (ieqF x_1 10)
      (aSome k fun p_19 => gInt .i64 (Addr.add p_19 8) hv_1 fun x_59 => some (.tuple ⟨[.int .i64 0, .int .i64 x_59, .string (ByteArray.mk ⟨[]⟩)]⟩, hv_1))
      (some (.tuple ⟨[.int .i64 7, .int .i64 0, .string (ByteArray.mk ⟨[]⟩)]⟩, hv_1))))))))))))
  | _ => none
noncomputable def X_ref15_NewCommons : XPoly := fun G _ call run a h => match a with
  | [.pointer k, .int .i64 env] =>
  aSome k fun p => gPtr (Addr.add p 6) h fun x => aSome x fun p_1 => gPtr (Addr.add p_1 3) h fun x_1 => bnd (call F_ref1_Space_All [.pointer x_1, .int .i64 env] h) fun r hv => aSl r fun x_2 xn xc => cond (ieqF ((xn : Nat) : Int) 0)
      (some (.pointer none, hv))
      (nw (.cells Y_ref15_Commons false [.pointer k, .int .i64 env, .slice x_2 xn xc, .slice none 0 0]) hv fun b hv_1 => some (.pointer (some ⟨b, 0, none⟩), hv_1))
  | _ => none
noncomputable def X_table_Table_api_Cap_Names : XPoly := fun G _ call run a h => match a with
  | [.pointer t] =>
  aSome t fun p => gSl (Addr.add p 0) h fun x xn xc => run F_table_Table_api_Cap_Names 3006 [.pointer t, .slice none 0 0, .slice x xn xc, .int .i64 ((xn : Nat) : Int), .int .i64 0] h
  | _ => none
noncomputable def X_table_Table_api_Cap_Names_L1 : XPoly := fun G _ call run a h => match a with
  | [.pointer t, .slice out outn outc, .slice x9 x9n x9c, .int .i64 x10, .int .i64 x11] =>
  cond (iltF x11 x10)
      (aSome x9 fun p => ckRF x11 x9n (gAgg (Addr.add (bare p) (Int.toNat x11 * 8)) 8 h fun x => nw (.cells Y_table_place_api_Cap false [.int .i64 0, .int .i64 0, .int .i64 0, .int .i64 0, .int .i64 0, .int .i64 0, .int .i64 0, .bool false]) h fun b hv => ck (List.length x = 8) (pAgg ⟨b, 0, none⟩ x hv fun hv_1 => gBool (Addr.add ⟨b, 0, none⟩ 7) hv_1 fun x_1 => cond x_1
      (bnd (call F_table_Table_api_Cap_name [.pointer t, .int .i64 x11] hv_1) fun r hv_2 => aInt .i64 r fun x_2 => nw (.cells Y_int false [.int .i64 x_2]) hv_2 fun b_1 hv_3 => gCells (some ⟨b_1, 0, none⟩) (1 * 1) hv_3 fun cs => ckB (fitsOpen out Y_int hv_3) (apd Y_int 1 out outn outc 1 cs hv_3 fun a an ac hv_4 => run F_table_Table_api_Cap_Names 3006 [.pointer t, .slice a an ac, .slice x9 x9n x9c, .int .i64 x10, .int .i64 (wrapF .i64 (x11 + 1))] hv_4))
      (run F_table_Table_api_Cap_Names 3006 [.pointer t, .slice out outn outc, .slice x9 x9n x9c, .int .i64 x10, .int .i64 (wrapF .i64 (x11 + 1))] hv_1))))
      (some (.slice out outn outc, h))
  | _ => none
noncomputable def LB_table_Table_api_Cap_Names_L1 : Lab := ⟨F_table_Table_api_Cap_Names, 3006, T_table_Table_api_Cap_Names_L1, [0, 3, 9, 10, 11], X_table_Table_api_Cap_Names_L1⟩
noncomputable def X_pslot_Decode : XPoly := fun G _ call run a h => match a with
  | [.slice b bn bc] =>
  nw (.cells Y_api_Proc false [.int .i64 0, .int .i64 0, .int .i64 0, .int .i64 0, .int .i64 0, .int .i64 0, .int .i64 0, .int .i64 0, .int .i64 0, .int .i64 0, .int .i64 0, .int .i64 0, .int .i64 0, .int .i64 0, .int .i64 0, .int .i64 0]) h fun b_1 hv => bnd (cond (ieqF ((bn : Nat) : Int) 24) (bnd (call F_codec_Blank [.slice b bn bc] hv) fun r hv_1 => aBool r fun x => some (x, hv_1)) (some (false, hv))) fun c hv_2 => cond c
      (pAgg ⟨b_1, 0, none⟩ [.int .i64 0, .int .i64 0, .int .i64 0, .int .i64 0, .int .i64 0, .int .i64 0, .int .i64 0, .int .i64 0, .int .i64 0, .int .i64 0, .int .i64 0, .int .i64 0, .int .i64 0, .int .i64 0, .int .i64 0, .int .i64 0] hv_2 fun hv_3 => gAgg ⟨b_1, 0, none⟩ 16 hv_3 fun x_1 => some (.tuple ⟨[.agg ⟨x_1⟩, .int .i64 0]⟩, hv_3))
      (bnd (call F_pslot_Codec [] hv_2) fun r_1 hv_4 => aPtr r_1 fun x_2 => bnd (call F_codec_Codec_api_Proc_Decode [.pointer x_2, .slice b bn bc] hv_4) fun r_2 hv_5 => as2 r_2 fun r_3 r_4 => aAgg r_3 fun x_3 => aBool r_4 fun x_4 => nw (.cells Y_api_Proc false [.int .i64 0, .int .i64 0, .int .i64 0, .int .i64 0, .int .i64 0, .int .i64 0, .int .i64 0, .int .i64 0, .int .i64 0, .int .i64 0, .int .i64 0, .int .i64 0, .int .i64 0, .int .i64 0, .int .i64 0, .int .i64 0]) hv_5 fun b_2 hv_6 => ck (List.length x_3 = 16) (pAgg ⟨b_2, 0, none⟩ x_3 hv_6 fun hv_7 => cond (!x_4)
      (pAgg ⟨b_1, 0, none⟩ [.int .i64 0, .int .i64 0, .int .i64 0, .int .i64 0, .int .i64 0, .int .i64 0, .int .i64 0, .int .i64 0, .int .i64 0, .int .i64 0, .int .i64 0, .int .i64 0, .int .i64 0, .int .i64 0, .int .i64 0, .int .i64 0] hv_7 fun hv_8 => gAgg ⟨b_1, 0, none⟩ 16 hv_8 fun x_5 => some (.tuple ⟨[.agg ⟨x_5⟩, .int .i64 2]⟩, hv_8))
      (gAgg ⟨b_2, 0, none⟩ 16 hv_7 fun x_6 => ck (List.length x_6 = 16) (pAgg ⟨b_1, 0, none⟩ x_6 hv_7 fun hv_9 => gAgg ⟨b_1, 0, none⟩ 16 hv_9 fun x_7 => some (.tuple ⟨[.agg ⟨x_7⟩, .int .i64 1]⟩, hv_9)))))
  | _ => none
noncomputable def X_commons_record_api_File : XPoly := fun G _ call run a h => match a with
  | [.pointer c, .agg ⟨r⟩, decode] =>
  nw (.cells Y_api_Rec false r) h fun b hv => nw (.cells Y_api_File false [.int .i64 0, .int .i64 0, .int .i64 0, .int .i64 0]) hv fun b_1 hv_1 => nw (.cells Y_api_File false [.int .i64 0, .int .i64 0, .int .i64 0, .int .i64 0]) hv_1 fun b_2 hv_2 => gAgg ⟨b, 0, none⟩ 2 hv_2 fun x => bnd (call F_commons_Commons_read [.pointer c, .agg ⟨x⟩] hv_2) fun r_1 hv_3 => as2 r_1 fun r_2 r_3 => aSl r_2 fun x_1 xn xc => aBool r_3 fun x_2 => cond (!x_2)
      (gAgg ⟨b_2, 0, none⟩ 4 hv_3 fun x_3 => ck (List.length x_3 = 4) (pAgg ⟨b_1, 0, none⟩ x_3 hv_3 fun hv_4 => gAgg ⟨b_1, 0, none⟩ 4 hv_4 fun x_4 => some (.tuple ⟨[.agg ⟨x_4⟩, .int .i64 2]⟩, hv_4)))
      (aFn decode fun g fi cp => bnd (call g (fi ++ ([.slice x_1 xn xc] ++ cp)) hv_3) fun r_4 hv_5 => as2 r_4 fun r_5 r_6 => aAgg r_5 fun x_5 => aInt .i64 r_6 fun x_6 => nw (.cells Y_api_File false [.int .i64 0, .int .i64 0, .int .i64 0, .int .i64 0]) hv_5 fun b_3 hv_6 => ck (List.length x_5 = 4) (pAgg ⟨b_3, 0, none⟩ x_5 hv_6 fun hv_7 => cond (ieqF x_6 2)
      (aSome c fun p => gMap (Addr.add p 3) hv_7 fun x_7 => gAgg ⟨b, 0, none⟩ 2 hv_7 fun x_8 => keyN PR Y_api_Rec (.agg ⟨x_8⟩) (opt x_7 fun r_7 => mapAt hv_7 r_7 fun es _ => opt (lookM (.int .i64 0) (.agg ⟨x_8⟩) es) fun f => aInt .i64 f.1 fun x_9 => keyN PR Y_api_Rec (.agg ⟨x_8⟩) (opt x_7 fun r_8 => mapAt hv_7 r_8 fun es_1 cl_1 => opt (entM (.int .i64 0) (.agg ⟨x_8⟩) es_1 cl_1) fun f_1 => aInt .i64 f_1.1 fun _ => lt (hset hv_7 r_8 f_1.2.2) fun hv_8 => keyN PR Y_api_Rec (.agg ⟨x_8⟩) (opt x_7 fun r_9 => mapAt hv_8 r_9 fun es_2 _ => opt (lookM (.int .i64 0) (.agg ⟨x_8⟩) es_2) fun f_2 => aInt .i64 f_2.1 fun x_11 => same (.int .i64 x_9) (.int .i64 x_11) (opt x_7 fun r_10 => mapAt hv_8 r_10 fun es_3 cl_3 => opt (bornN (f_1.2.1 : Int) es_3 0) fun i => lt (hset hv_8 r_10 (.map (modN (fun e => { e with val := .int .i64 (wrapF .i64 (x_9 + 1)) }) i es_3) cl_3)) fun hv_9 => run F_commons_record_api_File 3017 [.pointer (some ⟨b_1, 0, none⟩), .pointer (some ⟨b_2, 0, none⟩), .pointer (some ⟨b_3, 0, none⟩), .int .i64 x_6] hv_9)))))
      (run F_commons_record_api_File 3017 [.pointer (some ⟨b_1, 0, none⟩), .pointer (some ⟨b_2, 0, none⟩), .pointer (some ⟨b_3, 0, none⟩), .int .i64 x_6] hv_7)))
  | _ => none
noncomputable def X_commons_record_api_File_R1 : XPoly := fun G _ call run a h => match a with
  | [.pointer (some x6), .pointer (some nonev), .pointer (some v), .int .i64 isv] =>
  cond (ineF isv 1)
      (gAgg nonev 4 h fun x => ck (List.length x = 4) (pAgg x6 x h fun hv => gAgg x6 4 hv fun x_1 => some (.tuple ⟨[.agg ⟨x_1⟩, .int .i64 isv]⟩, hv)))
      (gAgg v 4 h fun x_2 => ck (List.length x_2 = 4) (pAgg x6 x_2 h fun hv_1 => gAgg x6 4 hv_1 fun x_3 => some (.tuple ⟨[.agg ⟨x_3⟩, .int .i64 isv]⟩, hv_1)))
  | _ => none
noncomputable def LB_commons_record_api_File_R1 : Lab := ⟨F_commons_record_api_File, 3017, T_commons_record_api_File_R1, [6, 8, 11, 12], X_commons_record_api_File_R1⟩
noncomputable def X_commons_file : XPoly := fun G _ call run a h => match a with
  | [.int .i64 i] =>
  nw (.cells Y_api_Rec false [.int .i64 0, .int .i64 0]) h fun b hv => pAgg ⟨b, 0, none⟩ [.int .i64 2, .int .i64 i] hv fun hv_1 => gAgg ⟨b, 0, none⟩ 2 hv_1 fun x => some (.agg ⟨x⟩, hv_1)
  | _ => none
noncomputable def X_ref11_ProcBytes : XPoly := fun G _ call run a h => match a with
  | [.agg ⟨p⟩] =>
  nw (.cells Y_api_Proc false p) h fun b hv => gInt .i64 (Addr.add ⟨b, 0, none⟩ 0) hv fun x => gInt .i64 (Addr.add ⟨b, 0, none⟩ 1) hv fun x_1 => gInt .i64 (Addr.add ⟨b, 0, none⟩ 2) hv fun x_2 => gInt .i64 (Addr.add ⟨b, 0, none⟩ 3) hv fun x_3 => nw (.cells Y_uint8 false [.int .u8 (wrapF .u8 (x)), .int .u8 (wrapF .u8 (x_1)), .int .u8 (wrapF .u8 (x_2)), .int .u8 (wrapF .u8 (x_3))]) hv fun b_1 hv_1 => gCells (some ⟨b_1, 0, none⟩) 4 hv_1 fun cs => asBytes cs fun l => gInt .i64 (Addr.add ⟨b, 0, none⟩ 4) hv_1 fun x_4 => gInt .i64 (Addr.add ⟨b, 0, none⟩ 5) hv_1 fun x_5 => gInt .i64 (Addr.add ⟨b, 0, none⟩ 6) hv_1 fun x_6 => gInt .i64 (Addr.add ⟨b, 0, none⟩ 7) hv_1 fun x_7 => bnd (call F_ref1_Two [.int .i64 x_4] hv_1) fun r hv_2 => aStr r fun x_8 => gInt .i64 (Addr.add ⟨b, 0, none⟩ 5) hv_2 fun x_9 => same (.int .i64 x_5) (.int .i64 x_9) (gInt .i64 (Addr.add ⟨b, 0, none⟩ 6) hv_2 fun x_10 => same (.int .i64 x_6) (.int .i64 x_10) (gInt .i64 (Addr.add ⟨b, 0, none⟩ 7) hv_2 fun x_11 => same (.int .i64 x_7) (.int .i64 x_11) (ck (ByteArray.size (ByteArray.mk ⟨l⟩) + ByteArray.size x_8 ≤ most) (bnd (call F_ref1_Two [.int .i64 x_5] hv_2) fun r_1 hv_3 => aStr r_1 fun x_12 => gInt .i64 (Addr.add ⟨b, 0, none⟩ 6) hv_3 fun x_13 => same (.int .i64 x_6) (.int .i64 x_13) (gInt .i64 (Addr.add ⟨b, 0, none⟩ 7) hv_3 fun x_14 => same (.int .i64 x_7) (.int .i64 x_14) (ck (ByteArray.size ((ByteArray.mk ⟨l⟩) ++ x_8) + ByteArray.size x_12 ≤ most) (bnd (call F_ref1_Two [.int .i64 x_6] hv_3) fun r_2 hv_4 => aStr r_2 fun x_15 => gInt .i64 (Addr.add ⟨b, 0, none⟩ 7) hv_4 fun x_16 => same (.int .i64 x_7) (.int .i64 x_16) (ck (ByteArray.size (((ByteArray.mk ⟨l⟩) ++ x_8) ++ x_12) + ByteArray.size x_15 ≤ most) (bnd (call F_ref1_Two [.int .i64 x_7] hv_4) fun r_3 hv_5 => aStr r_3 fun x_17 => ck (ByteArray.size ((((ByteArray.mk ⟨l⟩) ++ x_8) ++ x_12) ++ x_15) + ByteArray.size x_17 ≤ most) (run F_ref11_ProcBytes 3008 [.pointer (some ⟨b, 0, none⟩), .string (((((ByteArray.mk ⟨l⟩) ++ x_8) ++ x_12) ++ x_15) ++ x_17), .int .i64 0] hv_5))))))))))
  | _ => none
noncomputable def X_ref11_ProcBytes_L1 : XPoly := fun G _ call run a h => match a with
  | [.pointer (some p), .string s, .int .i64 i] =>
  cond (iltF i 8)
      (ckRF i 8 (gInt .i64 (Addr.add (Addr.add p 8) (Int.toNat i * 1)) h fun x => nw (.cells Y_uint8 false [.int .u8 (wrapF .u8 (x))]) h fun b hv => gCells (some ⟨b, 0, none⟩) 1 hv fun cs => asBytes cs fun l => ck (ByteArray.size s + ByteArray.size (ByteArray.mk ⟨l⟩) ≤ most) (run F_ref11_ProcBytes 3008 [.pointer (some p), .string (s ++ (ByteArray.mk ⟨l⟩)), .int .i64 (wrapF .i64 (i + 1))] hv)))
      (ck (ByteArray.size s + ByteArray.size (ByteArray.mk ⟨[167]⟩) ≤ most) (bnd (call F_ref1_Sum [.string (s ++ (ByteArray.mk ⟨[167]⟩))] h) fun r hv_1 => aInt .u8 r fun x_1 => nw (.cells Y_uint8 false [.int .u8 x_1, .int .u8 0, .int .u8 0]) hv_1 fun b_1 hv_2 => gCells (some ⟨b_1, 0, none⟩) 3 hv_2 fun cs_1 => asBytes cs_1 fun l_1 => ck (ByteArray.size (s ++ (ByteArray.mk ⟨[167]⟩)) + ByteArray.size (ByteArray.mk ⟨l_1⟩) ≤ most) (some (.string ((s ++ (ByteArray.mk ⟨[167]⟩)) ++ (ByteArray.mk ⟨l_1⟩)), hv_2))))
  | _ => none
noncomputable def LB_ref11_ProcBytes_L1 : Lab := ⟨F_ref11_ProcBytes, 3008, T_ref11_ProcBytes_L1, [1, 3, 4], X_ref11_ProcBytes_L1⟩
noncomputable def X_proc_done : XPoly := fun G _ call run a h => match a with
  | [.bool ok, .int .i64 n] =>
  nw (.cells Y_api_Ret false [.int .i64 0, .int .i64 0, .slice none 0 0, .bool false]) h fun b hv => cond (!ok)
      (bnd (call F_proc_told [.int .i64 105] hv) fun r hv_1 => aAgg r fun x => ck (List.length x = 4) (pAgg ⟨b, 0, none⟩ x hv_1 fun hv_2 => gAgg ⟨b, 0, none⟩ 4 hv_2 fun x_1 => some (.agg ⟨x_1⟩, hv_2)))
      (pAgg ⟨b, 0, none⟩ [.int .i64 n, .int .i64 0, .slice none 0 0, .bool false] hv fun hv_3 => gAgg ⟨b, 0, none⟩ 4 hv_3 fun x_2 => some (.agg ⟨x_2⟩, hv_3))
  | _ => none
noncomputable def X_fds_told : XPoly := fun G _ call run a h => match a with
  | [.int .i64 e] =>
  nw (.cells Y_api_Ret false [.int .i64 0, .int .i64 0, .slice none 0 0, .bool false]) h fun b hv => pAgg ⟨b, 0, none⟩ [.int .i64 0, .int .i64 e, .slice none 0 0, .bool false] hv fun hv_1 => gAgg ⟨b, 0, none⟩ 4 hv_1 fun x => some (.agg ⟨x⟩, hv_1)
  | _ => none
noncomputable def X_fds_Pipe_1 : XPoly := fun G _ call run a h => match a with
  | [.int .i64 k, .pointer (some fv0)] =>
  gPtr fv0 h fun x => bnd (call F_commons_Commons_File [.pointer x, .int .i64 k] h) fun r hv => as2 r fun r_1 r_2 => aAgg r_1 fun x_1 => aInt .i64 r_2 fun x_2 => nw (.cells Y_api_File false [.int .i64 0, .int .i64 0, .int .i64 0, .int .i64 0]) hv fun b hv_1 => ck (List.length x_1 = 4) (pAgg ⟨b, 0, none⟩ x_1 hv_1 fun hv_2 => some (.bool (ieqF x_2 0), hv_2))
  | _ => none
noncomputable def X_kern_check : XPoly := fun G _ call run a h => match a with
  | [.agg ⟨c⟩] =>
  nw (.cells Y_api_Boot false c) h fun b hv => gSl (Addr.add ⟨b, 0, none⟩ 0) hv fun _ xn _ => bnd (cond (iltF ((xn : Nat) : Int) 1) (some (true, hv)) (gSl (Addr.add ⟨b, 0, none⟩ 0) hv fun _ xn_1 _ => some (iltF 4 ((xn_1 : Nat) : Int), hv))) fun c_1 hv_1 => bnd (cond c_1 (some (true, hv_1)) (gSl (Addr.add ⟨b, 0, none⟩ 1) hv_1 fun _ xn_2 _ => some (iltF 40 ((xn_2 : Nat) : Int), hv_1))) fun c_2 hv_2 => bnd (cond c_2 (some (true, hv_2)) (gSl (Addr.add ⟨b, 0, none⟩ 2) hv_2 fun _ xn_3 _ => some (iltF 8 ((xn_3 : Nat) : Int), hv_2))) fun c_3 hv_3 => bnd (cond c_3 (some (true, hv_3)) (gSl (Addr.add ⟨b, 0, none⟩ 4) hv_3 fun _ xn_4 _ => some (iltF 16 ((xn_4 : Nat) : Int), hv_3))) fun c_4 hv_4 => bnd (cond c_4 (some (true, hv_4)) (gInt .i64 (Addr.add ⟨b, 0, none⟩ 3) hv_4 fun x_5 => some (iltF x_5 1, hv_4))) fun c_5 hv_5 => bnd (cond c_5 (some (true, hv_5)) (gInt .i64 (Addr.add ⟨b, 0, none⟩ 3) hv_5 fun x_6 => some (iltF 1000 x_6, hv_5))) fun c_6 hv_6 => cond c_6
      (some (.bool false, hv_6))
      (gSl (Addr.add ⟨b, 0, none⟩ 1) hv_6 fun x_7 xn_5 xc_5 => bnd (call F_slices_ContainsFunc_s_int_int [.slice x_7 xn_5 xc_5, .func (.func F_kern_check_1) ⟨[]⟩ ⟨[.pointer (some ⟨b, 0, none⟩)]⟩] hv_6) fun r hv_7 => aBool r fun x_8 => cond x_8
      (some (.bool false, hv_7))
      (gSl (Addr.add ⟨b, 0, none⟩ 2) hv_7 fun x_9 xn_6 xc_6 => run F_kern_check 3014 [.pointer (some ⟨b, 0, none⟩), .func (.func F_kern_check_1) ⟨[]⟩ ⟨[.pointer (some ⟨b, 0, none⟩)]⟩, .slice x_9 xn_6 xc_6, .int .i64 ((xn_6 : Nat) : Int), .int .i64 0] hv_7))
  | _ => none
noncomputable def X_kern_check_L1 : XPoly := fun G _ call run a h => match a with
  | [.pointer (some c), .func (.func fN0) ⟨[]⟩ ⟨[.pointer (some nonev)]⟩, .slice x52 x52n x52c, .int .i64 x53, .int .i64 x54] =>
  cond (Nat.beq fN0 F_kern_check_1) (cond (iltF x54 x53)
      (aSome x52 fun p => ckRF x54 x52n (gSl (Addr.add (bare p) (Int.toNat x54 * 1)) h fun x xn xc => bnd (call F_slices_ContainsFunc_s_int_int [.slice x xn xc, .func (.func F_kern_check_1) ⟨[]⟩ ⟨[.pointer (some nonev)]⟩] h) fun r hv => aBool r fun x_1 => cond x_1
      (some (.bool false, hv))
      (run F_kern_check 3014 [.pointer (some c), .func (.func F_kern_check_1) ⟨[]⟩ ⟨[.pointer (some nonev)]⟩, .slice x52 x52n x52c, .int .i64 x53, .int .i64 (wrapF .i64 (x54 + 1))] hv)))
      (gSl (Addr.add c 4) h fun x_2 xn_1 xc_1 => run F_kern_check 3026 [.pointer (some c), .func (.func F_kern_check_1) ⟨[]⟩ ⟨[.pointer (some nonev)]⟩, .slice x_2 xn_1 xc_1, .int .i64 ((xn_1 : Nat) : Int), .int .i64 0] h)) none
  | _ => none
noncomputable def LB_kern_check_L1 : Lab := ⟨F_kern_check, 3014, T_kern_check_L1, [1, 3, 52, 53, 54], X_kern_check_L1⟩
noncomputable def X_kern_check_L2 : XPoly := fun G _ call run a h => match a with
  | [.pointer (some c), .func (.func fN0) ⟨[]⟩ ⟨[.pointer (some nonev)]⟩, .slice x63 x63n x63c, .int .i64 x64, .int .i64 x65] =>
  cond (Nat.beq fN0 F_kern_check_1) (cond (iltF x65 x64)
      (aSome x63 fun p => ckRF x65 x63n (gAgg (Addr.add (bare p) (Int.toNat x65 * 5)) 5 h fun x => nw (.cells Y_api_Share false [.int .i64 0, .int .i64 0, .int .i64 0, .int .i64 0, .slice none 0 0]) h fun b hv => ck (List.length x = 5) (pAgg ⟨b, 0, none⟩ x hv fun hv_1 => gAgg c 5 hv_1 fun x_1 => gAgg ⟨b, 0, none⟩ 5 hv_1 fun x_2 => bnd (call F_kern_share [.agg ⟨x_1⟩, .agg ⟨x_2⟩] hv_1) fun r hv_2 => aBool r fun x_3 => bnd (cond (!x_3) (some (true, hv_2)) (gSl (Addr.add ⟨b, 0, none⟩ 4) hv_2 fun x_4 xn xc => bnd (call F_slices_ContainsFunc_s_int_int [.slice x_4 xn xc, .func (.func F_kern_check_1) ⟨[]⟩ ⟨[.pointer (some nonev)]⟩] hv_2) fun r_1 hv_3 => aBool r_1 fun x_5 => some (x_5, hv_3))) fun c_1 hv_4 => cond c_1
      (some (.bool false, hv_4))
      (run F_kern_check 3026 [.pointer (some c), .func (.func F_kern_check_1) ⟨[]⟩ ⟨[.pointer (some nonev)]⟩, .slice x63 x63n x63c, .int .i64 x64, .int .i64 (wrapF .i64 (x65 + 1))] hv_4))))
      (some (.bool true, h))) none
  | _ => none
noncomputable def LB_kern_check_L2 : Lab := ⟨F_kern_check, 3026, T_kern_check_L2, [1, 3, 63, 64, 65], X_kern_check_L2⟩
noncomputable def X_mem_New : XPoly := fun G _ call run a h => match a with
  | [.int .i64 frames] =>
  ck ((0 : Int) ≤ wrapF .i64 (64 * (mm2 false (mm2 true frames 0) 256)) ∧ (wrapF .i64 (64 * (mm2 false (mm2 true frames 0) 256)) : Int) ≤ wrapF .i64 (64 * (mm2 false (mm2 true frames 0) 256)) ∧ wrapF .i64 (64 * (mm2 false (mm2 true frames 0) 256)) ≤ (most : Int)) (nw (.cells Y_uint8 false (manyN (Int.toNat (wrapF .i64 (64 * (mm2 false (mm2 true frames 0) 256)))) [.int .u8 0])) h fun b hv => nw (.cells Y_mem_Mem false [.slice (some ⟨b, 0, none⟩) (Int.toNat (wrapF .i64 (64 * (mm2 false (mm2 true frames 0) 256)))) (Int.toNat (wrapF .i64 (64 * (mm2 false (mm2 true frames 0) 256))))]) hv fun b_1 hv_1 => some (.pointer (some ⟨b_1, 0, none⟩), hv_1))
  | _ => none
noncomputable def X_quota_New : XPoly := fun G _ call run a h => match a with
  | [.slice frames framesn framesc] =>
  nw (.cells Y_quota_Quota false [.slice none 0 0]) h fun b hv => ckB (fitsOpen frames Y_int hv) (ckLF (mm2 false ((framesn : Nat) : Int) 4) framesc (run F_quota_New 3006 [.pointer (some ⟨b, 0, none⟩), .slice (moved frames (decide (0 < framesc)) (0 * 1)) ((Int.toNat (mm2 false ((framesn : Nat) : Int) 4)) - 0) (framesc - 0), .int .i64 (((Int.toNat (mm2 false ((framesn : Nat) : Int) 4)) - 0 : Nat) : Int), .int .i64 0] hv))
  | _ => none
noncomputable def X_quota_New_L1 : XPoly := fun G _ call run a h => match a with
  | [.pointer (some q), .slice x12 x12n x12c, .int .i64 x13, .int .i64 x14] =>
  cond (iltF x14 x13)
      (aSome x12 fun p => ckRF x14 x12n (gInt .i64 (Addr.add (bare p) (Int.toNat x14 * 1)) h fun x => gSl (Addr.add q 0) h fun x_1 xn xc => ck ((0 : Int) ≤ mm2 false (mm2 true x 0) 64 ∧ (mm2 false (mm2 true x 0) 64 : Int) ≤ mm2 false (mm2 true x 0) 64 ∧ mm2 false (mm2 true x 0) 64 ≤ (most : Int)) (nw (.cells Y_int false (manyN (Int.toNat (mm2 false (mm2 true x 0) 64)) [.int .i64 0])) h fun b hv => nw (.cells Y_s_int false [.slice (some ⟨b, 0, none⟩) (Int.toNat (mm2 false (mm2 true x 0) 64)) (Int.toNat (mm2 false (mm2 true x 0) 64))]) hv fun b_1 hv_1 => gCells (some ⟨b_1, 0, none⟩) (1 * 1) hv_1 fun cs => ckB (fitsOpen x_1 Y_s_int hv_1) (apd Y_s_int 1 x_1 xn xc 1 cs hv_1 fun a an ac hv_2 => pV (Addr.add q 0) (.slice a an ac) hv_2 fun hv_3 => run F_quota_New 3006 [.pointer (some q), .slice x12 x12n x12c, .int .i64 x13, .int .i64 (wrapF .i64 (x14 + 1))] hv_3))))
      (some (.pointer (some q), h))
  | _ => none
noncomputable def LB_quota_New_L1 : Lab := ⟨F_quota_New, 3006, T_quota_New_L1, [3, 12, 13, 14], X_quota_New_L1⟩
noncomputable def X_region_New : XPoly := fun G _ call run a h => match a with
  | [.pointer m, .pointer s] =>
  nw (.cells Y_region_Regions false [.pointer m, .pointer s, .slice none 0 0]) h fun b hv => some (.pointer (some ⟨b, 0, none⟩), hv)
  | _ => none
noncomputable def X_ref1_NewQuota : XPoly := fun G _ call run a h => match a with
  | [.slice l ln lc] =>
  nw (.cells Y_ref1_Quota false [.slice none 0 0]) h fun b hv => run F_ref1_NewQuota 3006 [.slice l ln lc, .pointer (some ⟨b, 0, none⟩), .int .i64 0] hv
  | _ => none
noncomputable def X_ref1_NewQuota_L1 : XPoly := fun G _ call run a h => match a with
  | [.slice l ln lc, .pointer (some q), .int .i64 i] =>
  bnd (cond (iltF i ((ln : Nat) : Int)) (some (iltF i 4, h)) (some (false, h))) fun c hv => cond c
      (gSl (Addr.add q 0) hv fun x xn xc => aSome l fun p => ckRF i ln (gInt .i64 (Addr.add (bare p) (Int.toNat i * 1)) hv fun x_1 => ck ((0 : Int) ≤ mm2 false (mm2 true x_1 0) 64 ∧ (mm2 false (mm2 true x_1 0) 64 : Int) ≤ mm2 false (mm2 true x_1 0) 64 ∧ mm2 false (mm2 true x_1 0) 64 ≤ (most : Int)) (nw (.cells Y_bool false (manyN (Int.toNat (mm2 false (mm2 true x_1 0) 64)) [.bool false])) hv fun b hv_1 => nw (.cells Y_s_bool false [.slice (some ⟨b, 0, none⟩) (Int.toNat (mm2 false (mm2 true x_1 0) 64)) (Int.toNat (mm2 false (mm2 true x_1 0) 64))]) hv_1 fun b_1 hv_2 => gCells (some ⟨b_1, 0, none⟩) (1 * 1) hv_2 fun cs => ckB (fitsOpen x Y_s_bool hv_2) (apd Y_s_bool 1 x xn xc 1 cs hv_2 fun a an ac hv_3 => pV (Addr.add q 0) (.slice a an ac) hv_3 fun hv_4 => run F_ref1_NewQuota 3006 [.slice l ln lc, .pointer (some q), .int .i64 (wrapF .i64 (i + 1))] hv_4))))
      (some (.pointer (some q), hv))
  | _ => none
noncomputable def LB_ref1_NewQuota_L1 : Lab := ⟨F_ref1_NewQuota, 3006, T_ref1_NewQuota_L1, [0, 3, 4], X_ref1_NewQuota_L1⟩
noncomputable def X_ref1_Regions_Add : XPoly := fun G _ call run a h => match a with
  | [.pointer r, .int .i64 lo, .int .i64 n] =>
  aSome r fun p => gSl (Addr.add p 0) h fun _ xn _ => bnd (call F_ref1_Within [.int .i64 lo, .int .i64 n, .int .i64 ((xn : Nat) : Int)] h) fun r_1 hv => aBool r_1 fun x_1 => cond (!x_1)
      (some (.tuple ⟨[.int .i64 0, .int .i64 1]⟩, hv))
      (aSome r fun p_1 => gSl (Addr.add p_1 1) hv fun _ xn_1 _ => cond (ileF 32 ((xn_1 : Nat) : Int))
      (some (.tuple ⟨[.int .i64 0, .int .i64 4]⟩, hv))
      (aSome r fun p_2 => gSl (Addr.add p_2 1) hv fun x_3 xn_2 xc_2 => nw (.cells Y_int false [.int .i64 lo]) hv fun b hv_1 => aSome r fun p_3 => gSl (Addr.add p_3 2) hv_1 fun x_4 xn_3 xc_3 => nw (.cells Y_int false [.int .i64 n]) hv_1 fun b_1 hv_2 => gCells (some ⟨b, 0, none⟩) (1 * 1) hv_2 fun cs => ckB (fitsOpen x_3 Y_int hv_2) (apd Y_int 1 x_3 xn_2 xc_2 1 cs hv_2 fun a an ac hv_3 => gSl (Addr.add p_3 2) hv_3 fun x_5 xn_4 xc_4 => same (.slice x_4 xn_3 xc_3) (.slice x_5 xn_4 xc_4) (gCells (some ⟨b_1, 0, none⟩) (1 * 1) hv_3 fun cs_1 => ckB (fitsOpen x_4 Y_int hv_3) (apd Y_int 1 x_4 xn_3 xc_3 1 cs_1 hv_3 fun a_1 an_1 ac_1 hv_4 => aSome r fun p_4 => pV (Addr.add p_4 1) (.slice a an ac) hv_4 fun hv_5 => aSome r fun p_5 => pV (Addr.add p_5 2) (.slice a_1 an_1 ac_1) hv_5 fun hv_6 => aSome r fun p_6 => gSl (Addr.add p_6 1) hv_6 fun _ xn_5 _ => some (.tuple ⟨[.int .i64 (wrapF .i64 (((xn_5 : Nat) : Int) - 1)), .int .i64 0]⟩, hv_6))))))
  | _ => none
noncomputable def X_ref1_in : XPoly := fun G _ call run a h => match a with
  | [.slice l ln lc, .int .i64 s] =>
  run F_ref1_in 3004 [.slice l ln lc, .int .i64 s, .int .i64 0] h
  | _ => none
noncomputable def X_ref1_in_L1 : XPoly := fun G _ call run a h => match a with
  | [.slice l ln lc, .int .i64 s, .int .i64 i] =>
  cond (iltF i ((ln : Nat) : Int))
      (aSome l fun p => ckRF i ln (gInt .i64 (Addr.add (bare p) (Int.toNat i * 1)) h fun x => cond (ieqF x s)
      (some (.bool true, h))
      (run F_ref1_in 3004 [.slice l ln lc, .int .i64 s, .int .i64 (wrapF .i64 (i + 1))] h)))
      (some (.bool false, h))
  | _ => none
noncomputable def LB_ref1_in_L1 : Lab := ⟨F_ref1_in, 3004, T_ref1_in_L1, [0, 1, 5], X_ref1_in_L1⟩
noncomputable def X_ref1_Space_Put : XPoly := fun G _ call run a h => match a with
  | [.pointer s, .int .i64 e, .agg ⟨c⟩] =>
  nw (.cells Y_api_Cap false c) h fun b hv => bnd (call F_ref1_Space_env [.pointer s, .int .i64 e] hv) fun r hv_1 => aBool r fun x => bnd (cond (!x) (some (true, hv_1)) (gInt .i64 (Addr.add ⟨b, 0, none⟩ 1) hv_1 fun x_1 => some (iltF x_1 0, hv_1))) fun c_1 hv_2 => bnd (cond c_1 (some (true, hv_2)) (gInt .i64 (Addr.add ⟨b, 0, none⟩ 1) hv_2 fun x_2 => some (iltF 7 x_2, hv_2))) fun c_2 hv_3 => bnd (cond c_2 (some (true, hv_3)) (gInt .i64 (Addr.add ⟨b, 0, none⟩ 2) hv_3 fun x_3 => some (iltF x_3 0, hv_3))) fun c_3 hv_4 => bnd (cond c_3 (some (true, hv_4)) (gInt .i64 (Addr.add ⟨b, 0, none⟩ 2) hv_4 fun x_4 => some (iltF 65536 x_4, hv_4))) fun c_4 hv_5 => bnd (cond c_4 (some (true, hv_5)) (gInt .i64 (Addr.add ⟨b, 0, none⟩ 3) hv_5 fun x_5 => some (iltF x_5 0, hv_5))) fun c_5 hv_6 => bnd (cond c_5 (some (true, hv_6)) (gInt .i64 (Addr.add ⟨b, 0, none⟩ 3) hv_6 fun x_6 => some (iltF 65536 x_6, hv_6))) fun c_6 hv_7 => cond c_6
      (some (.tuple ⟨[.int .i64 0, .int .i64 1]⟩, hv_7))
      (pAgg (Addr.add ⟨b, 0, none⟩ 4) [.int .i64 0, .int .i64 0] hv_7 fun hv_8 => gAgg ⟨b, 0, none⟩ 6 hv_8 fun x_7 => bnd (call F_ref1_Space_add [.pointer s, .int .i64 e, .agg ⟨x_7⟩] hv_8) fun r_1 hv_9 => as2 r_1 fun r_2 r_3 => aInt .i64 r_2 fun x_8 => aInt .i64 r_3 fun x_9 => some (.tuple ⟨[.int .i64 x_8, .int .i64 x_9]⟩, hv_9))
  | _ => none
noncomputable def X_ref1_Kern_may : XPoly := fun G _ call run a h => match a with
  | [.pointer k, .int .i64 e, .int .i64 n] =>
  bnd (cond (ileF 0 n) (aSome k fun p => gSl (Addr.add p 7) h fun _ xn _ => some (iltF n ((xn : Nat) : Int), h)) (some (false, h))) fun c hv => bnd (cond c (aSome k fun p_1 => gSl (Addr.add (Addr.add p_1 0) 2) hv fun x_1 xn_1 _ => aSome x_1 fun p_2 => ckRF n xn_1 (gSl (Addr.add (bare p_2) (Int.toNat n * 1)) hv fun x_2 xn_2 xc_2 => aSome k fun p_3 => gSl (Addr.add (Addr.add p_3 0) 1) hv fun x_3 xn_3 _ => aSome x_3 fun p_4 => ckRF e xn_3 (gInt .i64 (Addr.add (bare p_4) (Int.toNat e * 1)) hv fun x_4 => bnd (call F_ref1_in [.slice x_2 xn_2 xc_2, .int .i64 x_4] hv) fun r hv_1 => aBool r fun x_5 => some (x_5, hv_1)))) (some (false, hv))) fun c_1 hv_2 => some (.bool c_1, hv_2)
  | _ => none
noncomputable def X_ref1_Sect_Leave : XPoly := fun G _ call run a h => match a with
  | [.pointer s, .int .i64 who, .int .i64 stamp] =>
  bnd (call F_ref1_Sect_Holds [.pointer s, .int .i64 who, .int .i64 stamp] h) fun r hv => aBool r fun x => cond (!x)
      (some (.bool false, hv))
      (aSome s fun p => pV (Addr.add p 6) (.bool false) hv fun hv_1 => aSome s fun p_1 => gInt .i64 (Addr.add p_1 7) hv_1 fun x_1 => aSome s fun p_2 => pV (Addr.add p_2 5) (.int .i64 x_1) hv_1 fun hv_2 => some (.bool true, hv_2))
  | _ => none
noncomputable def X_quota_Quota_Alloc : XPoly := fun G _ call run a h => match a with
  | [.pointer q, .int .i64 s] =>
  bnd (call F_quota_Quota_is [.pointer q, .int .i64 s] h) fun r hv => aBool r fun x => cond (!x)
      (some (.tuple ⟨[.int .i64 0, .int .i64 1]⟩, hv))
      (aSome q fun p => gSl (Addr.add p 0) hv fun x_1 xn _ => aSome x_1 fun p_1 => ckRF s xn (gSl (Addr.add (bare p_1) (Int.toNat s * 1)) hv fun x_2 xn_1 xc_1 => bnd (call F_slices_Index_s_int_int [.slice x_2 xn_1 xc_1, .int .i64 0] hv) fun r_1 hv_1 => aInt .i64 r_1 fun x_3 => cond (iltF x_3 0)
      (some (.tuple ⟨[.int .i64 0, .int .i64 4]⟩, hv_1))
      (aSome q fun p_2 => gSl (Addr.add p_2 0) hv_1 fun x_4 xn_2 _ => aSome x_4 fun p_3 => ckRF s xn_2 (gSl (Addr.add (bare p_3) (Int.toNat s * 1)) hv_1 fun x_5 xn_3 _ => aSome x_5 fun p_4 => ckRF x_3 xn_3 (pV (Addr.add (bare p_4) (Int.toNat x_3 * 1)) (.int .i64 1) hv_1 fun hv_2 => some (.tuple ⟨[.int .i64 x_3, .int .i64 0]⟩, hv_2))))))
  | _ => none
noncomputable def X_kern_Kern_leave : XPoly := fun G _ call run a h => match a with
  | [.pointer k, .int .i64 env, .agg ⟨c⟩] =>
  nw (.cells Y_api_Call false c) h fun b hv => gInt .i64 (Addr.add ⟨b, 0, none⟩ 3) hv fun x => bnd (call F_kern_Kern_sect [.pointer k, .int .i64 env, .int .i64 x] hv) fun r hv_1 => as2 r fun r_1 r_2 => aPtr r_1 fun x_1 => aInt .i64 r_2 fun x_2 => bnd (cond (ieqF x_2 0) (gInt .i64 (Addr.add ⟨b, 0, none⟩ 2) hv_1 fun x_3 => bnd (call F_sect_Sect_Leave [.pointer x_1, .int .i64 env, .int .i64 x_3] hv_1) fun r_3 hv_2 => aBool r_3 fun x_4 => some (!x_4, hv_2)) (some (false, hv_1))) fun c_1 hv_3 => cond c_1
      (some (.int .i64 8, hv_3))
      (some (.int .i64 x_2, hv_3))
  | _ => none
noncomputable def X_codec_Blank : XPoly := fun G _ call run a h => match a with
  | [.slice b bn bc] =>
  bnd (call F_slices_ContainsFunc_s_byte_byte [.slice b bn bc, .func (.func F_codec_Blank_1) ⟨[]⟩ ⟨[]⟩] h) fun r hv => aBool r fun x => some (.bool (!x), hv)
  | _ => none
noncomputable def X_codec_Codec_api_Proc_Decode : XPoly := fun G _ call run a h => match a with
  | [.pointer c, .slice b bn bc] =>
  nw (.cells Y_api_Proc false [.int .i64 0, .int .i64 0, .int .i64 0, .int .i64 0, .int .i64 0, .int .i64 0, .int .i64 0, .int .i64 0, .int .i64 0, .int .i64 0, .int .i64 0, .int .i64 0, .int .i64 0, .int .i64 0, .int .i64 0, .int .i64 0]) h fun b_1 hv => nw (.cells Y_api_Proc false [.int .i64 0, .int .i64 0, .int .i64 0, .int .i64 0, .int .i64 0, .int .i64 0, .int .i64 0, .int .i64 0, .int .i64 0, .int .i64 0, .int .i64 0, .int .i64 0, .int .i64 0, .int .i64 0, .int .i64 0, .int .i64 0]) hv fun b_2 hv_1 => aSome c fun p => gFv (Addr.add p 2) hv_1 fun x => isNilF x fun b_3 => bnd (cond b_3 (some (true, hv_1)) (aSome c fun p_1 => gInt .i64 (Addr.add p_1 0) hv_1 fun x_1 => some (ineF ((bn : Nat) : Int) x_1, hv_1))) fun c_1 hv_2 => cond c_1
      (gAgg ⟨b_2, 0, none⟩ 16 hv_2 fun x_2 => ck (List.length x_2 = 16) (pAgg ⟨b_1, 0, none⟩ x_2 hv_2 fun hv_3 => gAgg ⟨b_1, 0, none⟩ 16 hv_3 fun x_3 => some (.tuple ⟨[.agg ⟨x_3⟩, .bool false]⟩, hv_3)))
      (aSome c fun p_2 => gFv (Addr.add p_2 2) hv_2 fun x_4 => nw (.cells Y_api_Proc false [.int .i64 0, .int .i64 0, .int .i64 0, .int .i64 0, .int .i64 0, .int .i64 0, .int .i64 0, .int .i64 0, .int .i64 0, .int .i64 0, .int .i64 0, .int .i64 0, .int .i64 0, .int .i64 0, .int .i64 0, .int .i64 0]) hv_2 fun b_4 hv_4 => bnd (call F_slices_Clone_s_byte_byte [.slice b bn bc] hv_4) fun r hv_5 => aSl r fun x_5 xn xc => gFv (Addr.add p_2 2) hv_5 fun x_6 => sameU (x_4) (x_6) (aFn x_4 fun g fi cp => bnd (call g (fi ++ ([.slice x_5 xn xc] ++ cp)) hv_5) fun r_1 hv_6 => as2 r_1 fun r_2 r_3 => aAgg r_2 fun x_7 => aBool r_3 fun x_8 => ck (List.length x_7 = 16) (pAgg ⟨b_4, 0, none⟩ x_7 hv_6 fun hv_7 => cond (!x_8)
      (gAgg ⟨b_2, 0, none⟩ 16 hv_7 fun x_9 => ck (List.length x_9 = 16) (pAgg ⟨b_1, 0, none⟩ x_9 hv_7 fun hv_8 => gAgg ⟨b_1, 0, none⟩ 16 hv_8 fun x_10 => some (.tuple ⟨[.agg ⟨x_10⟩, .bool false]⟩, hv_8)))
      (gAgg ⟨b_4, 0, none⟩ 16 hv_7 fun x_11 => ck (List.length x_11 = 16) (pAgg ⟨b_1, 0, none⟩ x_11 hv_7 fun hv_9 => gAgg ⟨b_1, 0, none⟩ 16 hv_9 fun x_12 => some (.tuple ⟨[.agg ⟨x_12⟩, .bool true]⟩, hv_9))))))
  | _ => none
noncomputable def X_codec_Codec_api_Proc_Encode : XPoly := fun G _ call run a h => match a with
  | [.pointer c, .agg ⟨v⟩] =>
  nw (.cells Y_api_Proc false v) h fun b hv => aSome c fun p => gInt .i64 (Addr.add p 0) hv fun x => ck ((0 : Int) ≤ x ∧ (x : Int) ≤ x ∧ x ≤ (most : Int)) (nw (.cells Y_uint8 false (manyN (Int.toNat x) [.int .u8 0])) hv fun b_1 hv_1 => aSome c fun p_1 => gFv (Addr.add p_1 1) hv_1 fun x_1 => isNilF x_1 fun b_2 => bnd (cond b_2 (some (true, hv_1)) (aSome c fun p_2 => gFv (Addr.add p_2 1) hv_1 fun x_2 => gAgg ⟨b, 0, none⟩ 16 hv_1 fun x_3 => aFn x_2 fun g fi cp => bnd (call g (fi ++ ([.agg ⟨x_3⟩, .slice (some ⟨b_1, 0, none⟩) (Int.toNat x) (Int.toNat x)] ++ cp)) hv_1) fun r hv_2 => aBool r fun x_4 => some (!x_4, hv_2))) fun c_1 hv_3 => cond c_1
      (some (.tuple ⟨[.slice none 0 0, .bool false]⟩, hv_3))
      (some (.tuple ⟨[.slice (some ⟨b_1, 0, none⟩) (Int.toNat x) (Int.toNat x), .bool true]⟩, hv_3)))
  | _ => none
noncomputable def X_ref1_Sum : XPoly := fun G _ call run a h => match a with
  | [.string b] =>
  run F_ref1_Sum 3006 [.string b, .int .i64 ((ByteArray.size b : Nat) : Int), .int .i64 0] h
  | _ => none
noncomputable def X_ref1_Sum_L1 : XPoly := fun G _ call run a h => match a with
  | [.string b, .int .i64 n, .int .i64 i] =>
  cond (iltF i ((ByteArray.size b : Nat) : Int))
      (ckRF i (ByteArray.size b) (run F_ref1_Sum 3006 [.string b, .int .i64 (wrapF .i64 (n + (wrapF .i64 (((List.getD (ByteArray.data b).toList (Int.toNat i) 0).toNat : Int))))), .int .i64 (wrapF .i64 (i + 1))] h))
      (some (.int .u8 (wrapF .u8 (n)), h))
  | _ => none
noncomputable def LB_ref1_Sum_L1 : Lab := ⟨F_ref1_Sum, 3006, T_ref1_Sum_L1, [0, 3, 4], X_ref1_Sum_L1⟩
noncomputable def X_ref1_Two : XPoly := fun G _ call run a h => match a with
  | [.int .i64 n] =>
  nw (.cells Y_uint8 false [.int .u8 (wrapF .u8 (Int.fdiv n (2 ^ 8))), .int .u8 (wrapF .u8 (n))]) h fun b hv => gCells (some ⟨b, 0, none⟩) 2 hv fun cs => asBytes cs fun l => some (.string (ByteArray.mk ⟨l⟩), hv)
  | _ => none
noncomputable def X_slices_Clone_s_byte_byte : XPoly := fun G _ call run a h => match a with
  | [.slice s sn sc] =>
  cond s.isNone
      (some (.slice none 0 0, h))
      (nw (.cells Y_uint8 false []) h fun b hv => gCells s (sn * 1) hv fun cs => ckB (fitsOpen (some ⟨b, 0, none⟩) Y_uint8 hv) (apd Y_uint8 1 (some ⟨b, 0, none⟩) 0 0 sn cs hv fun a an ac hv_1 => some (.slice a an ac, hv_1)))
  | _ => none
noncomputable def X_slices_ContainsFunc_s_int_int : XPoly := fun G _ call run a h => match a with
  | [.slice s sn sc, f] =>
  bnd (call F_slices_IndexFunc_s_int_int [.slice s sn sc, f] h) fun r hv => aInt .i64 r fun x => some (.bool (ileF 0 x), hv)
  | _ => none
noncomputable def X_slices_Index_s_int_int : XPoly := fun G _ call run a h => match a with
  | [.slice s sn sc, .int .i64 v] =>
  run F_slices_Index_s_int_int 3004 [.slice s sn sc, .int .i64 v, .int .i64 ((sn : Nat) : Int), .int .i64 0] h
  | _ => none
noncomputable def X_slices_Index_s_int_int_L1 : XPoly := fun G _ call run a h => match a with
  | [.slice s sn sc, .int .i64 v, .int .i64 x7, .int .i64 x8] =>
  cond (iltF x8 x7)
      (aSome s fun p => ckRF x8 sn (gInt .i64 (Addr.add (bare p) (Int.toNat x8 * 1)) h fun x => cond (ieqF v x)
      (some (.int .i64 x8, h))
      (run F_slices_Index_s_int_int 3004 [.slice s sn sc, .int .i64 v, .int .i64 x7, .int .i64 (wrapF .i64 (x8 + 1))] h)))
      (some (.int .i64 (-1), h))
  | _ => none
noncomputable def LB_slices_Index_s_int_int_L1 : Lab := ⟨F_slices_Index_s_int_int, 3004, T_slices_Index_s_int_int_L1, [0, 1, 7, 8], X_slices_Index_s_int_int_L1⟩
noncomputable def X_caps_Space_add : XPoly := fun G _ call run a h => match a with
  | [.pointer s, .int .i64 env, .agg ⟨c⟩] =>
  nw (.cells Y_api_Cap false c) h fun b hv => aSome s fun p => gSl (Addr.add p 0) hv fun x xn _ => aSome x fun p_1 => ckRF env xn (gPtr (Addr.add (bare p_1) (Int.toNat env * 1)) hv fun x_1 => gAgg ⟨b, 0, none⟩ 6 hv fun x_2 => bnd (call F_table_Table_api_Cap_Add [.pointer x_1, .agg ⟨x_2⟩] hv) fun r hv_1 => as2 r fun r_1 r_2 => aInt .i64 r_1 fun x_3 => aBool r_2 fun x_4 => cond (!x_4)
      (some (.tuple ⟨[.int .i64 0, .int .i64 4]⟩, hv_1))
      (some (.tuple ⟨[.int .i64 x_3, .int .i64 0]⟩, hv_1)))
  | _ => none
noncomputable def X_ref1_NewNames : XPoly := fun G _ call run a h => match a with
  | [.int .i64 size] =>
  nw (.cells Y_ref1_Names false [.slice none 0 0]) h fun b hv => run F_ref1_NewNames 3006 [.int .i64 size, .pointer (some ⟨b, 0, none⟩), .int .i64 0] hv
  | _ => none
noncomputable def X_ref1_NewNames_L1 : XPoly := fun G _ call run a h => match a with
  | [.int .i64 size, .pointer (some n), .int .i64 i] =>
  bnd (cond (iltF i size) (some (iltF i 256, h)) (some (false, h))) fun c hv => cond c
      (gSl (Addr.add n 0) hv fun x xn xc => nw (.cells Y_ref1_place false [.int .i64 1, .bool false]) hv fun b hv_1 => gCells (some ⟨b, 0, none⟩) (1 * 2) hv_1 fun cs => ckB (fitsOpen x Y_ref1_place hv_1) (apd Y_ref1_place 2 x xn xc 1 cs hv_1 fun a an ac hv_2 => pV (Addr.add n 0) (.slice a an ac) hv_2 fun hv_3 => run F_ref1_NewNames 3006 [.int .i64 size, .pointer (some n), .int .i64 (wrapF .i64 (i + 1))] hv_3))
      (some (.pointer (some n), hv))
  | _ => none
noncomputable def LB_ref1_NewNames_L1 : Lab := ⟨F_ref1_NewNames, 3006, T_ref1_NewNames_L1, [0, 3, 4], X_ref1_NewNames_L1⟩
noncomputable def X_ref1_Within : XPoly := fun G _ call run a h => match a with
  | [.int .i64 atv, .int .i64 n, .int .i64 size] =>
  bnd (cond (ileF 0 atv) (some (ileF 0 n, h)) (some (false, h))) fun c hv => bnd (cond c (some (ileF atv size, hv)) (some (false, hv))) fun c_1 hv_1 => bnd (cond c_1 (some (ileF n (wrapF .i64 (size - atv)), hv_1)) (some (false, hv_1))) fun c_2 hv_2 => some (.bool c_2, hv_2)
  | _ => none
noncomputable def X_ref1_Regions_place : XPoly := fun G _ call run a h => match a with
  | [.pointer r, .int .i64 e, .int .i64 name, .int .i64 right, .int .i64 atv, .int .i64 n] =>
  aSome r fun p => gPtr (Addr.add p 3) h fun x => bnd (call F_ref1_Space_Get [.pointer x, .int .i64 e, .int .i64 name] h) fun r_1 hv => as2 r_1 fun r_2 r_3 => aAgg r_2 fun x_1 => aInt .i64 r_3 fun x_2 => nw (.cells Y_api_Cap false [.int .i64 0, .int .i64 0, .int .i64 0, .int .i64 0, .int .i64 0, .int .i64 0]) hv fun b hv_1 => ck (List.length x_1 = 6) (pAgg ⟨b, 0, none⟩ x_1 hv_1 fun hv_2 => cond (ineF x_2 0)
      (some (.tuple ⟨[.int .i64 0, .int .i64 x_2]⟩, hv_2))
      (gInt .i64 (Addr.add ⟨b, 0, none⟩ 1) hv_2 fun x_3 => cond (ieqF (bitAF .i64 x_3 right) 0)
      (some (.tuple ⟨[.int .i64 0, .int .i64 3]⟩, hv_2))
      (gInt .i64 (Addr.add ⟨b, 0, none⟩ 3) hv_2 fun x_4 => bnd (call F_ref1_Within [.int .i64 atv, .int .i64 n, .int .i64 x_4] hv_2) fun r_4 hv_3 => aBool r_4 fun x_5 => bnd (cond (!x_5) (some (true, hv_3)) (gInt .i64 (Addr.add ⟨b, 0, none⟩ 0) hv_3 fun x_6 => some (iltF x_6 0, hv_3))) fun c hv_4 => bnd (cond c (some (true, hv_4)) (gInt .i64 (Addr.add ⟨b, 0, none⟩ 0) hv_4 fun x_7 => aSome r fun p_1 => gSl (Addr.add p_1 1) hv_4 fun _ xn _ => some (ileF ((xn : Nat) : Int) x_7, hv_4))) fun c_1 hv_5 => cond c_1
      (some (.tuple ⟨[.int .i64 0, .int .i64 1]⟩, hv_5))
      (gInt .i64 (Addr.add ⟨b, 0, none⟩ 2) hv_5 fun x_9 => aSome r fun p_2 => gSl (Addr.add p_2 2) hv_5 fun x_10 xn_1 _ => gInt .i64 (Addr.add ⟨b, 0, none⟩ 0) hv_5 fun x_11 => aSome x_10 fun p_3 => ckRF x_11 xn_1 (gInt .i64 (Addr.add (bare p_3) (Int.toNat x_11 * 1)) hv_5 fun x_12 => bnd (call F_ref1_Within [.int .i64 x_9, .int .i64 atv, .int .i64 x_12] hv_5) fun r_5 hv_6 => aBool r_5 fun x_13 => bnd (cond (!x_13) (some (true, hv_6)) (gInt .i64 (Addr.add ⟨b, 0, none⟩ 2) hv_6 fun x_14 => aSome r fun p_4 => gSl (Addr.add p_4 2) hv_6 fun x_15 xn_2 _ => gInt .i64 (Addr.add ⟨b, 0, none⟩ 0) hv_6 fun x_16 => aSome x_15 fun p_5 => ckRF x_16 xn_2 (gInt .i64 (Addr.add (bare p_5) (Int.toNat x_16 * 1)) hv_6 fun x_17 => bnd (call F_ref1_Within [.int .i64 (wrapF .i64 (x_14 + atv)), .int .i64 n, .int .i64 x_17] hv_6) fun r_6 hv_7 => aBool r_6 fun x_18 => some (!x_18, hv_7)))) fun c_2 hv_8 => cond c_2
      (some (.tuple ⟨[.int .i64 0, .int .i64 1]⟩, hv_8))
      (aSome r fun p_6 => gSl (Addr.add p_6 1) hv_8 fun x_19 xn_3 _ => gInt .i64 (Addr.add ⟨b, 0, none⟩ 0) hv_8 fun x_20 => aSome x_19 fun p_7 => ckRF x_20 xn_3 (gInt .i64 (Addr.add (bare p_7) (Int.toNat x_20 * 1)) hv_8 fun x_21 => gInt .i64 (Addr.add ⟨b, 0, none⟩ 2) hv_8 fun x_22 => some (.tuple ⟨[.int .i64 (wrapF .i64 ((wrapF .i64 (x_21 + x_22)) + atv)), .int .i64 0]⟩, hv_8))))))))
  | _ => none
noncomputable def X_ref1_Space_Get : XPoly := fun G _ call run a h => match a with
  | [.pointer s, .int .i64 e, .int .i64 name] =>
  nw (.cells Y_api_Cap false [.int .i64 0, .int .i64 0, .int .i64 0, .int .i64 0, .int .i64 0, .int .i64 0]) h fun b hv => bnd (call F_ref1_Space_env [.pointer s, .int .i64 e] hv) fun r hv_1 => aBool r fun x => bnd (cond (!x) (some (true, hv_1)) (aSome s fun p => gSl (Addr.add p 0) hv_1 fun x_1 xn _ => aSome x_1 fun p_1 => ckRF e xn (gPtr (Addr.add (bare p_1) (Int.toNat e * 1)) hv_1 fun x_2 => bnd (call F_ref1_Names_Has [.pointer x_2, .int .i64 name] hv_1) fun r_1 hv_2 => aBool r_1 fun x_3 => some (!x_3, hv_2)))) fun c hv_3 => cond c
      (pAgg ⟨b, 0, none⟩ [.int .i64 0, .int .i64 0, .int .i64 0, .int .i64 0, .int .i64 0, .int .i64 0] hv_3 fun hv_4 => gAgg ⟨b, 0, none⟩ 6 hv_4 fun x_4 => some (.tuple ⟨[.agg ⟨x_4⟩, .int .i64 2]⟩, hv_4))
      (aSome s fun p_2 => gSl (Addr.add p_2 1) hv_3 fun x_5 xn_1 _ => aSome x_5 fun p_3 => ckRF e xn_1 (gSl (Addr.add (bare p_3) (Int.toNat e * 1)) hv_3 fun x_6 xn_2 _ => aSome x_6 fun p_4 => ckRF (bitAF .i64 name 255) xn_2 (gAgg (Addr.add (bare p_4) (Int.toNat (bitAF .i64 name 255) * 6)) 6 hv_3 fun x_7 => ck (List.length x_7 = 6) (pAgg ⟨b, 0, none⟩ x_7 hv_3 fun hv_5 => gAgg ⟨b, 0, none⟩ 6 hv_5 fun x_8 => some (.tuple ⟨[.agg ⟨x_8⟩, .int .i64 0]⟩, hv_5)))))
  | _ => none
noncomputable def X_ref1_Names_All : XPoly := fun G _ call run a h => match a with
  | [.pointer n] =>
  run F_ref1_Names_All 3006 [.pointer n, .slice none 0 0, .int .i64 0] h
  | _ => none
noncomputable def X_ref1_Names_All_L1 : XPoly := fun G _ call run a h => match a with
  | [.pointer n, .slice out outn outc, .int .i64 i] =>
  aSome n fun p => gSl (Addr.add p 0) h fun _ xn _ => cond (iltF i ((xn : Nat) : Int))
      (aSome n fun p_1 => gSl (Addr.add p_1 0) h fun x_1 xn_1 _ => aSome x_1 fun p_2 => ckRF i xn_1 (gBool (Addr.add (Addr.add (bare p_2) (Int.toNat i * 2)) 1) h fun x_2 => cond x_2
      (aSome n fun p_3 => gSl (Addr.add p_3 0) h fun x_3 xn_2 _ => aSome x_3 fun p_4 => ckRF i xn_2 (gInt .i64 (Addr.add (Addr.add (bare p_4) (Int.toNat i * 2)) 0) h fun x_4 => nw (.cells Y_int false [.int .i64 (wrapF .i64 (i + (wrapF .i64 (256 * x_4))))]) h fun b hv => gCells (some ⟨b, 0, none⟩) (1 * 1) hv fun cs => ckB (fitsOpen out Y_int hv) (apd Y_int 1 out outn outc 1 cs hv fun a an ac hv_1 => run F_ref1_Names_All 3006 [.pointer n, .slice a an ac, .int .i64 (wrapF .i64 (i + 1))] hv_1)))
      (run F_ref1_Names_All 3006 [.pointer n, .slice out outn outc, .int .i64 (wrapF .i64 (i + 1))] h)))
      (some (.slice out outn outc, h))
  | _ => none
noncomputable def LB_ref1_Names_All_L1 : Lab := ⟨F_ref1_Names_All, 3006, T_ref1_Names_All_L1, [0, 3, 4], X_ref1_Names_All_L1⟩
noncomputable def X_caps_Space_Under : XPoly := fun G _ call run a h => match a with
  | [.pointer s, .int .i64 env, .int .i64 name] =>
  bnd (call F_caps_Space_Get [.pointer s, .int .i64 env, .int .i64 name] h) fun r hv => as2 r fun r_1 r_2 => aAgg r_1 fun x => aInt .i64 r_2 fun x_1 => nw (.cells Y_api_Cap false [.int .i64 0, .int .i64 0, .int .i64 0, .int .i64 0, .int .i64 0, .int .i64 0]) hv fun b hv_1 => ck (List.length x = 6) (pAgg ⟨b, 0, none⟩ x hv_1 fun hv_2 => cond (ineF x_1 0)
      (some (.tuple ⟨[.slice none 0 0, .int .i64 x_1]⟩, hv_2))
      (nw (.map [] 0) hv_2 fun b_1 hv_3 => mapAt hv_3 b_1 fun es cl => opt (updM (.agg ⟨[.int .i64 env, .int .i64 name]⟩) (.int .i64 1) es cl) fun m => lt (hset hv_3 b_1 m) fun hv_4 => run F_caps_Space_Under 3012 [.pointer s, .int .i64 env, .int .i64 name, .map (some b_1), .bool true] hv_4))
  | _ => none
noncomputable def X_caps_Space_Under_L1 : XPoly := fun G _ call run a h => match a with
  | [.pointer s, .int .i64 env, .int .i64 name, .map of, .bool grown] =>
  cond grown
      (aSome s fun p => gSl (Addr.add p 0) h fun x xn xc => run F_caps_Space_Under 6018 [.pointer s, .int .i64 env, .int .i64 name, .map of, .bool false, .slice x xn xc, .int .i64 ((xn : Nat) : Int), .int .i64 0] h)
      (aSome s fun p_1 => gSl (Addr.add p_1 0) h fun x_1 xn_1 xc_1 => run F_caps_Space_Under 3044 [.int .i64 env, .int .i64 name, .map of, .slice none 0 0, .slice x_1 xn_1 xc_1, .int .i64 ((xn_1 : Nat) : Int), .int .i64 0] h)
  | _ => none
noncomputable def LB_caps_Space_Under_L1 : Lab := ⟨F_caps_Space_Under, 3012, T_caps_Space_Under_L1, [0, 1, 2, 10, 11], X_caps_Space_Under_L1⟩
noncomputable def X_caps_Space_Under_L2 : XPoly := fun G _ call run a h => match a with
  | [.pointer s, .int .i64 env, .int .i64 name, .map of, .bool grown, .slice x44 x44n x44c, .int .i64 x45, .int .i64 x46] =>
  cond (iltF x46 x45)
      (aSome x44 fun p => ckRF x46 x44n (gPtr (Addr.add (bare p) (Int.toNat x46 * 1)) h fun x => bnd (call F_table_Table_api_Cap_Names [.pointer x] h) fun r hv => aSl r fun x_1 xn xc => run F_caps_Space_Under 10024 [.pointer s, .int .i64 env, .int .i64 name, .map of, .bool grown, .int .i64 x46, .pointer x, .slice x44 x44n x44c, .int .i64 x45, .int .i64 x46, .slice x_1 xn xc, .int .i64 ((xn : Nat) : Int), .int .i64 0] hv))
      (run F_caps_Space_Under 3012 [.pointer s, .int .i64 env, .int .i64 name, .map of, .bool grown] h)
  | _ => none
noncomputable def LB_caps_Space_Under_L2 : Lab := ⟨F_caps_Space_Under, 6018, T_caps_Space_Under_L2, [0, 1, 2, 10, 11, 44, 45, 46], X_caps_Space_Under_L2⟩
noncomputable def X_caps_Space_Under_L3 : XPoly := fun G _ call run a h => match a with
  | [.int .i64 env, .int .i64 name, .map of, .slice out outn outc, .slice x85 x85n x85c, .int .i64 x86, .int .i64 x87] =>
  cond (iltF x87 x86)
      (aSome x85 fun p => ckRF x87 x85n (gPtr (Addr.add (bare p) (Int.toNat x87 * 1)) h fun x => bnd (call F_table_Table_api_Cap_Names [.pointer x] h) fun r hv => aSl r fun x_1 xn xc => run F_caps_Space_Under 7050 [.int .i64 env, .int .i64 name, .map of, .slice out outn outc, .int .i64 x87, .slice x85 x85n x85c, .int .i64 x86, .int .i64 x87, .slice x_1 xn xc, .int .i64 ((xn : Nat) : Int), .int .i64 0] hv))
      (bnd (call F_slices_SortFunc_s_api_Ref_api_Ref [.slice out outn outc, .func (.func F_caps_Space_Under_1) ⟨[]⟩ ⟨[]⟩] h) fun r_1 hv_1 => as0 r_1 (some (.tuple ⟨[.slice out outn outc, .int .i64 0]⟩, hv_1)))
  | _ => none
noncomputable def LB_caps_Space_Under_L3 : Lab := ⟨F_caps_Space_Under, 3044, T_caps_Space_Under_L3, [1, 2, 10, 19, 85, 86, 87], X_caps_Space_Under_L3⟩
noncomputable def X_caps_Space_Under_L4 : XPoly := fun G _ call run a h => match a with
  | [.pointer s, .int .i64 env, .int .i64 name, .map of, .bool grown, .int .i64 i, .pointer t, .slice x44 x44n x44c, .int .i64 x45, .int .i64 x46, .slice x52 x52n x52c, .int .i64 x53, .int .i64 x54] =>
  cond (iltF x54 x53)
      (aSome x52 fun p => ckRF x54 x52n (gInt .i64 (Addr.add (bare p) (Int.toNat x54 * 1)) h fun x => bnd (call F_table_Table_api_Cap_Get [.pointer t, .int .i64 x] h) fun r hv => as2 r fun r_1 r_2 => aAgg r_1 fun x_1 => aBool r_2 fun _ => nw (.cells Y_api_Cap false [.int .i64 0, .int .i64 0, .int .i64 0, .int .i64 0, .int .i64 0, .int .i64 0]) hv fun b hv_1 => ck (List.length x_1 = 6) (pAgg ⟨b, 0, none⟩ x_1 hv_1 fun hv_2 => nw (.cells Y_api_Ref false [.int .i64 0, .int .i64 0]) hv_2 fun b_1 hv_3 => pAgg ⟨b_1, 0, none⟩ [.int .i64 i, .int .i64 x] hv_3 fun hv_4 => gAgg ⟨b_1, 0, none⟩ 2 hv_4 fun x_3 => keyN PR Y_api_Ref (.agg ⟨x_3⟩) (opt of fun r_3 => mapAt hv_4 r_3 fun es _ => opt (lookM (.int .i64 0) (.agg ⟨x_3⟩) es) fun f => aInt .i64 f.1 fun x_4 => bnd (cond (ieqF x_4 0) (gAgg (Addr.add ⟨b, 0, none⟩ 4) 2 hv_4 fun x_5 => keyN PR Y_api_Ref (.agg ⟨x_5⟩) (opt of fun r_4 => mapAt hv_4 r_4 fun es_1 _ => opt (lookM (.int .i64 0) (.agg ⟨x_5⟩) es_1) fun f_1 => aInt .i64 f_1.1 fun x_6 => some (iltF 0 x_6, hv_4))) (some (false, hv_4))) fun c hv_5 => cond c
      (gAgg ⟨b_1, 0, none⟩ 2 hv_5 fun x_7 => keyN PR Y_api_Ref (.agg ⟨x_7⟩) (opt of fun r_5 => mapAt hv_5 r_5 fun es_2 cl_2 => opt (updM (.agg ⟨x_7⟩) (.int .i64 1) es_2 cl_2) fun m => lt (hset hv_5 r_5 m) fun hv_6 => run F_caps_Space_Under 10024 [.pointer s, .int .i64 env, .int .i64 name, .map of, .bool true, .int .i64 i, .pointer t, .slice x44 x44n x44c, .int .i64 x45, .int .i64 x46, .slice x52 x52n x52c, .int .i64 x53, .int .i64 (wrapF .i64 (x54 + 1))] hv_6))
      (run F_caps_Space_Under 10024 [.pointer s, .int .i64 env, .int .i64 name, .map of, .bool grown, .int .i64 i, .pointer t, .slice x44 x44n x44c, .int .i64 x45, .int .i64 x46, .slice x52 x52n x52c, .int .i64 x53, .int .i64 (wrapF .i64 (x54 + 1))] hv_5)))))
      (run F_caps_Space_Under 6018 [.pointer s, .int .i64 env, .int .i64 name, .map of, .bool grown, .slice x44 x44n x44c, .int .i64 x45, .int .i64 (wrapF .i64 (x46 + 1))] h)
  | _ => none
noncomputable def LB_caps_Space_Under_L4 : Lab := ⟨F_caps_Space_Under, 10024, T_caps_Space_Under_L4, [0, 1, 2, 10, 11, 12, 13, 44, 45, 46, 52, 53, 54], X_caps_Space_Under_L4⟩
noncomputable def X_caps_Space_Under_L5 : XPoly := fun G _ call run a h => match a with
  | [.int .i64 env, .int .i64 name, .map of, .slice out outn outc, .int .i64 i, .slice x85 x85n x85c, .int .i64 x86, .int .i64 x87, .slice x93 x93n x93c, .int .i64 x94, .int .i64 x95] =>
  cond (iltF x95 x94)
      (aSome x93 fun p => ckRF x95 x93n (gInt .i64 (Addr.add (bare p) (Int.toNat x95 * 1)) h fun x => nw (.cells Y_api_Ref false [.int .i64 0, .int .i64 0]) h fun b hv => pAgg ⟨b, 0, none⟩ [.int .i64 i, .int .i64 x] hv fun hv_1 => gAgg ⟨b, 0, none⟩ 2 hv_1 fun x_1 => keyN PR Y_api_Ref (.agg ⟨x_1⟩) (opt of fun r => mapAt hv_1 r fun es _ => opt (lookM (.int .i64 0) (.agg ⟨x_1⟩) es) fun f => aInt .i64 f.1 fun x_2 => bnd (cond (iltF 0 x_2) (bnd (cond (ineF i env) (some (true, hv_1)) (some (ineF x name, hv_1))) fun c hv_2 => some (c, hv_2)) (some (false, hv_1))) fun c_1 hv_3 => cond c_1
      (gAgg ⟨b, 0, none⟩ 2 hv_3 fun x_3 => ck (List.length x_3 = 2) (nw (.cells Y_api_Ref false (x_3 ++ [])) hv_3 fun b_1 hv_4 => gCells (some ⟨b_1, 0, none⟩) (1 * 2) hv_4 fun cs => ckB (fitsOpen out Y_api_Ref hv_4) (apd Y_api_Ref 2 out outn outc 1 cs hv_4 fun a an ac hv_5 => run F_caps_Space_Under 7050 [.int .i64 env, .int .i64 name, .map of, .slice a an ac, .int .i64 i, .slice x85 x85n x85c, .int .i64 x86, .int .i64 x87, .slice x93 x93n x93c, .int .i64 x94, .int .i64 (wrapF .i64 (x95 + 1))] hv_5)))
      (run F_caps_Space_Under 7050 [.int .i64 env, .int .i64 name, .map of, .slice out outn outc, .int .i64 i, .slice x85 x85n x85c, .int .i64 x86, .int .i64 x87, .slice x93 x93n x93c, .int .i64 x94, .int .i64 (wrapF .i64 (x95 + 1))] hv_3))))
      (run F_caps_Space_Under 3044 [.int .i64 env, .int .i64 name, .map of, .slice out outn outc, .slice x85 x85n x85c, .int .i64 x86, .int .i64 (wrapF .i64 (x87 + 1))] h)
  | _ => none
noncomputable def LB_caps_Space_Under_L5 : Lab := ⟨F_caps_Space_Under, 7050, T_caps_Space_Under_L5, [1, 2, 10, 19, 20, 85, 86, 87, 93, 94, 95], X_caps_Space_Under_L5⟩
noncomputable def X_quota_Quota_is : XPoly := fun G _ call run a h => match a with
  | [.pointer q, .int .i64 s] =>
  bnd (cond (ileF 0 s) (aSome q fun p => gSl (Addr.add p 0) h fun _ xn _ => some (iltF s ((xn : Nat) : Int), h)) (some (false, h))) fun c hv => some (.bool c, hv)
  | _ => none
noncomputable def X_codec_Blank_1 : XPoly := fun G _ call run a h => match a with
  | [.int .u8 c] =>
  some (.bool (ineF c 0), h)
  | _ => none
noncomputable def X_codec_Codec_api_Pipe_Encode : XPoly := fun G _ call run a h => match a with
  | [.pointer c, .agg ⟨v⟩] =>
  nw (.cells Y_api_Pipe false v) h fun b hv => aSome c fun p => gInt .i64 (Addr.add p 0) hv fun x => ck ((0 : Int) ≤ x ∧ (x : Int) ≤ x ∧ x ≤ (most : Int)) (nw (.cells Y_uint8 false (manyN (Int.toNat x) [.int .u8 0])) hv fun b_1 hv_1 => aSome c fun p_1 => gFv (Addr.add p_1 1) hv_1 fun x_1 => isNilF x_1 fun b_2 => bnd (cond b_2 (some (true, hv_1)) (aSome c fun p_2 => gFv (Addr.add p_2 1) hv_1 fun x_2 => gAgg ⟨b, 0, none⟩ 36 hv_1 fun x_3 => aFn x_2 fun g fi cp => bnd (call g (fi ++ ([.agg ⟨x_3⟩, .slice (some ⟨b_1, 0, none⟩) (Int.toNat x) (Int.toNat x)] ++ cp)) hv_1) fun r hv_2 => aBool r fun x_4 => some (!x_4, hv_2))) fun c_1 hv_3 => cond c_1
      (some (.tuple ⟨[.slice none 0 0, .bool false]⟩, hv_3))
      (some (.tuple ⟨[.slice (some ⟨b_1, 0, none⟩) (Int.toNat x) (Int.toNat x), .bool true]⟩, hv_3)))
  | _ => none
noncomputable def X_table_Table_api_Cap_Add : XPoly := fun G _ call run a h => match a with
  | [.pointer t, .agg ⟨v⟩] =>
  nw (.cells Y_api_Cap false v) h fun b hv => aSome t fun p => gSl (Addr.add p 0) hv fun x xn xc => run F_table_Table_api_Cap_Add 3004 [.pointer t, .pointer (some ⟨b, 0, none⟩), .slice x xn xc, .int .i64 ((xn : Nat) : Int), .int .i64 0] hv
  | _ => none
noncomputable def X_table_Table_api_Cap_Add_L1 : XPoly := fun G _ call run a h => match a with
  | [.pointer t, .pointer (some v), .slice x11 x11n x11c, .int .i64 x12, .int .i64 x13] =>
  cond (iltF x13 x12)
      (aSome x11 fun p => ckRF x13 x11n (gAgg (Addr.add (bare p) (Int.toNat x13 * 8)) 8 h fun x => nw (.cells Y_table_place_api_Cap false [.int .i64 0, .int .i64 0, .int .i64 0, .int .i64 0, .int .i64 0, .int .i64 0, .int .i64 0, .bool false]) h fun b hv => ck (List.length x = 8) (pAgg ⟨b, 0, none⟩ x hv fun hv_1 => gBool (Addr.add ⟨b, 0, none⟩ 7) hv_1 fun x_1 => bnd (cond (!x_1) (gInt .i64 (Addr.add ⟨b, 0, none⟩ 6) hv_1 fun x_2 => some (ileF x_2 1000000, hv_1)) (some (false, hv_1))) fun c hv_2 => cond c
      (aSome t fun p_1 => gSl (Addr.add p_1 0) hv_2 fun x_3 xn _ => aSome t fun p_2 => gSl (Addr.add p_2 0) hv_2 fun x_4 xn_1 _ => gAgg v 6 hv_2 fun x_5 => aSome x_3 fun p_3 => ckRF x13 xn (ck (List.length x_5 = 6) (pAgg (Addr.add (Addr.add (bare p_3) (Int.toNat x13 * 8)) 0) x_5 hv_2 fun hv_3 => aSome x_4 fun p_4 => ckRF x13 xn_1 (pV (Addr.add (Addr.add (bare p_4) (Int.toNat x13 * 8)) 7) (.bool true) hv_3 fun hv_4 => bnd (call F_table_Table_api_Cap_name [.pointer t, .int .i64 x13] hv_4) fun r hv_5 => aInt .i64 r fun x_6 => some (.tuple ⟨[.int .i64 x_6, .bool true]⟩, hv_5)))))
      (run F_table_Table_api_Cap_Add 3004 [.pointer t, .pointer (some v), .slice x11 x11n x11c, .int .i64 x12, .int .i64 (wrapF .i64 (x13 + 1))] hv_2))))
      (some (.tuple ⟨[.int .i64 0, .bool false]⟩, h))
  | _ => none
noncomputable def LB_table_Table_api_Cap_Add_L1 : Lab := ⟨F_table_Table_api_Cap_Add, 3004, T_table_Table_api_Cap_Add_L1, [0, 3, 11, 12, 13], X_table_Table_api_Cap_Add_L1⟩
noncomputable def X_slices_Equal_s_byte_byte : XPoly := fun G _ call run a h => match a with
  | [.slice s1 s1n s1c, .slice s2 s2n s2c] =>
  cond (ineF ((s1n : Nat) : Int) ((s2n : Nat) : Int))
      (some (.bool false, h))
      (run F_slices_Equal_s_byte_byte 3008 [.slice s1 s1n s1c, .slice s2 s2n s2c, .int .i64 ((s1n : Nat) : Int), .int .i64 0] h)
  | _ => none
noncomputable def X_slices_Equal_s_byte_byte_L1 : XPoly := fun G _ call run a h => match a with
  | [.slice s1 s1n s1c, .slice s2 s2n s2c, .int .i64 x12, .int .i64 x13] =>
  cond (iltF x13 x12)
      (aSome s1 fun p => ckRF x13 s1n (gInt .u8 (Addr.add (bare p) (Int.toNat x13 * 1)) h fun x => aSome s2 fun p_1 => ckRF x13 s2n (gInt .u8 (Addr.add (bare p_1) (Int.toNat x13 * 1)) h fun x_1 => cond (ineF x x_1)
      (some (.bool false, h))
      (run F_slices_Equal_s_byte_byte 3008 [.slice s1 s1n s1c, .slice s2 s2n s2c, .int .i64 x12, .int .i64 (wrapF .i64 (x13 + 1))] h))))
      (some (.bool true, h))
  | _ => none
noncomputable def LB_slices_Equal_s_byte_byte_L1 : Lab := ⟨F_slices_Equal_s_byte_byte, 3008, T_slices_Equal_s_byte_byte_L1, [0, 1, 12, 13], X_slices_Equal_s_byte_byte_L1⟩
noncomputable def X_slices_insertionSortCmpFunc_api_Ref : XPoly := fun G _ call run a h => match a with
  | [.slice data datan datac, .int .i64 a, .int .i64 b, cmp] =>
  run F_slices_insertionSortCmpFunc_api_Ref 2002 [.slice data datan datac, .int .i64 a, .int .i64 b, cmp, .int .i64 (wrapF .i64 (a + 1))] h
  | _ => none
noncomputable def X_slices_insertionSortCmpFunc_api_Ref_L1 : XPoly := fun G _ call run a h => match a with
  | [.slice data datan datac, .int .i64 a, .int .i64 b, cmp, .int .i64 i] =>
  cond (iltF i b)
      (run F_slices_insertionSortCmpFunc_api_Ref 6008 [.slice data datan datac, .int .i64 a, .int .i64 b, cmp, .int .i64 i, .int .i64 i] h)
      (some (.tuple ⟨[]⟩, h))
  | _ => none
noncomputable def LB_slices_insertionSortCmpFunc_api_Ref_L1 : Lab := ⟨F_slices_insertionSortCmpFunc_api_Ref, 2002, T_slices_insertionSortCmpFunc_api_Ref_L1, [0, 1, 2, 3, 8], X_slices_insertionSortCmpFunc_api_Ref_L1⟩
noncomputable def X_slices_insertionSortCmpFunc_api_Ref_L2 : XPoly := fun G _ call run a h => match a with
  | [.slice data datan datac, .int .i64 a, .int .i64 b, cmp, .int .i64 i, .int .i64 j] =>
  bnd (cond (iltF a j) (aSome data fun p => ckRF j datan (gAgg (Addr.add (bare p) (Int.toNat j * 2)) 2 h fun x => aSome data fun p_1 => ckRF (wrapF .i64 (j - 1)) datan (gAgg (Addr.add (bare p_1) (Int.toNat (wrapF .i64 (j - 1)) * 2)) 2 h fun x_1 => aFn cmp fun g fi cp => bnd (call g (fi ++ ([.agg ⟨x⟩, .agg ⟨x_1⟩] ++ cp)) h) fun r hv => aInt .i64 r fun x_2 => some (iltF x_2 0, hv)))) (some (false, h))) fun c hv_1 => cond c
      (aSome data fun p_2 => ckRF (wrapF .i64 (j - 1)) datan (gAgg (Addr.add (bare p_2) (Int.toNat (wrapF .i64 (j - 1)) * 2)) 2 hv_1 fun x_3 => aSome data fun p_3 => ckRF j datan (gAgg (Addr.add (bare p_3) (Int.toNat j * 2)) 2 hv_1 fun x_4 => aSome data fun p_4 => ckRF j datan (ck (List.length x_3 = 2) (pAgg (Addr.add (bare p_4) (Int.toNat j * 2)) x_3 hv_1 fun hv_2 => aSome data fun p_5 => ckRF (wrapF .i64 (j - 1)) datan (ck (List.length x_4 = 2) (pAgg (Addr.add (bare p_5) (Int.toNat (wrapF .i64 (j - 1)) * 2)) x_4 hv_2 fun hv_3 => run F_slices_insertionSortCmpFunc_api_Ref 6008 [.slice data datan datac, .int .i64 a, .int .i64 b, cmp, .int .i64 i, .int .i64 (wrapF .i64 (j - 1))] hv_3)))))))
      (run F_slices_insertionSortCmpFunc_api_Ref 2002 [.slice data datan datac, .int .i64 a, .int .i64 b, cmp, .int .i64 (wrapF .i64 (i + 1))] hv_1)
  | _ => none
noncomputable def LB_slices_insertionSortCmpFunc_api_Ref_L2 : Lab := ⟨F_slices_insertionSortCmpFunc_api_Ref, 6008, T_slices_insertionSortCmpFunc_api_Ref_L2, [0, 1, 2, 3, 8, 9], X_slices_insertionSortCmpFunc_api_Ref_L2⟩
noncomputable def X_slices_choosePivotCmpFunc_api_Ref : XPoly := fun G _ call run a h => match a with
  | [.slice data datan datac, .int .i64 a, .int .i64 b, cmp] =>
  nw (.cells Y_int false [.int .i64 0]) h fun b_1 hv => cond (ileF 8 (wrapF .i64 (b - a)))
      (cond (ileF 50 (wrapF .i64 (b - a)))
      (bnd (call F_slices_medianAdjacentCmpFunc_api_Ref [.slice data datan datac, .int .i64 (wrapF .i64 (a + (wrapF .i64 ((wrapF .i64 (Int.tdiv (wrapF .i64 (b - a)) 4)) * 1)))), .pointer (some ⟨b_1, 0, none⟩), cmp] hv) fun r hv_1 => aInt .i64 r fun x => bnd (call F_slices_medianAdjacentCmpFunc_api_Ref [.slice data datan datac, .int .i64 (wrapF .i64 (a + (wrapF .i64 ((wrapF .i64 (Int.tdiv (wrapF .i64 (b - a)) 4)) * 2)))), .pointer (some ⟨b_1, 0, none⟩), cmp] hv_1) fun r_1 hv_2 => aInt .i64 r_1 fun x_1 => bnd (call F_slices_medianAdjacentCmpFunc_api_Ref [.slice data datan datac, .int .i64 (wrapF .i64 (a + (wrapF .i64 ((wrapF .i64 (Int.tdiv (wrapF .i64 (b - a)) 4)) * 3)))), .pointer (some ⟨b_1, 0, none⟩), cmp] hv_2) fun r_2 hv_3 => aInt .i64 r_2 fun x_2 => run F_slices_choosePivotCmpFunc_api_Ref 2023 [.slice data datan datac, cmp, .pointer (some ⟨b_1, 0, none⟩), .int .i64 x, .int .i64 x_1, .int .i64 x_2] hv_3)
      (run F_slices_choosePivotCmpFunc_api_Ref 2023 [.slice data datan datac, cmp, .pointer (some ⟨b_1, 0, none⟩), .int .i64 (wrapF .i64 (a + (wrapF .i64 ((wrapF .i64 (Int.tdiv (wrapF .i64 (b - a)) 4)) * 1)))), .int .i64 (wrapF .i64 (a + (wrapF .i64 ((wrapF .i64 (Int.tdiv (wrapF .i64 (b - a)) 4)) * 2)))), .int .i64 (wrapF .i64 (a + (wrapF .i64 ((wrapF .i64 (Int.tdiv (wrapF .i64 (b - a)) 4)) * 3))))] hv))
      (run F_slices_choosePivotCmpFunc_api_Ref 2025 [.pointer (some ⟨b_1, 0, none⟩), .int .i64 (wrapF .i64 (a + (wrapF .i64 ((wrapF .i64 (Int.tdiv (wrapF .i64 (b - a)) 4)) * 2))))] hv)
  | _ => none
noncomputable def X_slices_choosePivotCmpFunc_api_Ref_R1 : XPoly := fun G _ call run a h => match a with
  | [.slice data datan datac, cmp, .pointer (some swaps), .int .i64 i, .int .i64 j, .int .i64 k] =>
  bnd (call F_slices_medianCmpFunc_api_Ref [.slice data datan datac, .int .i64 i, .int .i64 j, .int .i64 k, .pointer (some swaps), cmp] h) fun r hv => aInt .i64 r fun x => run F_slices_choosePivotCmpFunc_api_Ref 2025 [.pointer (some swaps), .int .i64 x] hv
  | _ => none
noncomputable def LB_slices_choosePivotCmpFunc_api_Ref_R1 : Lab := ⟨F_slices_choosePivotCmpFunc_api_Ref, 2023, T_slices_choosePivotCmpFunc_api_Ref_R1, [0, 3, 11, 12, 13, 14], X_slices_choosePivotCmpFunc_api_Ref_R1⟩
noncomputable def X_slices_choosePivotCmpFunc_api_Ref_R2 : XPoly := fun G _ call run a h => match a with
  | [.pointer (some swaps), .int .i64 j] =>
  gInt .i64 swaps h fun x => cond (ieqF x 0)
      (some (.tuple ⟨[.int .i64 j, .int .i64 1]⟩, h))
      (cond (ieqF x 12)
      (some (.tuple ⟨[.int .i64 j, .int .i64 2]⟩, h))
      (some (.tuple ⟨[.int .i64 j, .int .i64 0]⟩, h)))
  | _ => none
noncomputable def LB_slices_choosePivotCmpFunc_api_Ref_R2 : Lab := ⟨F_slices_choosePivotCmpFunc_api_Ref, 2025, T_slices_choosePivotCmpFunc_api_Ref_R2, [11, 13], X_slices_choosePivotCmpFunc_api_Ref_R2⟩
noncomputable def X_slices_partitionEqualCmpFunc_api_Ref : XPoly := fun G _ call run a h => match a with
  | [.slice data datan datac, .int .i64 a, .int .i64 b, .int .i64 pivot, cmp] =>
  aSome data fun p => ckRF pivot datan (gAgg (Addr.add (bare p) (Int.toNat pivot * 2)) 2 h fun x => aSome data fun p_1 => ckRF a datan (gAgg (Addr.add (bare p_1) (Int.toNat a * 2)) 2 h fun x_1 => aSome data fun p_2 => ckRF a datan (ck (List.length x = 2) (pAgg (Addr.add (bare p_2) (Int.toNat a * 2)) x h fun hv => aSome data fun p_3 => ckRF pivot datan (ck (List.length x_1 = 2) (pAgg (Addr.add (bare p_3) (Int.toNat pivot * 2)) x_1 hv fun hv_1 => run F_slices_partitionEqualCmpFunc_api_Ref 3006 [.slice data datan datac, .int .i64 a, cmp, .int .i64 (wrapF .i64 (a + 1)), .int .i64 (wrapF .i64 (b - 1))] hv_1))))))
  | _ => none
noncomputable def X_slices_partitionEqualCmpFunc_api_Ref_L1 : XPoly := fun G _ call run a h => match a with
  | [.slice data datan datac, .int .i64 a, cmp, .int .i64 i, .int .i64 j] =>
  run F_slices_partitionEqualCmpFunc_api_Ref 7006 [.slice data datan datac, .int .i64 a, cmp, .int .i64 i, .int .i64 j] h
  | _ => none
noncomputable def LB_slices_partitionEqualCmpFunc_api_Ref_L1 : Lab := ⟨F_slices_partitionEqualCmpFunc_api_Ref, 3006, T_slices_partitionEqualCmpFunc_api_Ref_L1, [0, 1, 4, 11, 12], X_slices_partitionEqualCmpFunc_api_Ref_L1⟩
noncomputable def X_slices_partitionEqualCmpFunc_api_Ref_L2 : XPoly := fun G _ call run a h => match a with
  | [.slice data datan datac, .int .i64 a, cmp, .int .i64 i, .int .i64 j] =>
  bnd (cond (ileF i j) (aSome data fun p => ckRF a datan (gAgg (Addr.add (bare p) (Int.toNat a * 2)) 2 h fun x => aSome data fun p_1 => ckRF i datan (gAgg (Addr.add (bare p_1) (Int.toNat i * 2)) 2 h fun x_1 => aFn cmp fun g fi cp => bnd (call g (fi ++ ([.agg ⟨x⟩, .agg ⟨x_1⟩] ++ cp)) h) fun r hv => aInt .i64 r fun x_2 => some (!(iltF x_2 0), hv)))) (some (false, h))) fun c hv_1 => cond c
      (run F_slices_partitionEqualCmpFunc_api_Ref 7006 [.slice data datan datac, .int .i64 a, cmp, .int .i64 (wrapF .i64 (i + 1)), .int .i64 j] hv_1)
      (run F_slices_partitionEqualCmpFunc_api_Ref 7010 [.slice data datan datac, .int .i64 a, cmp, .int .i64 i, .int .i64 j] hv_1)
  | _ => none
noncomputable def LB_slices_partitionEqualCmpFunc_api_Ref_L2 : Lab := ⟨F_slices_partitionEqualCmpFunc_api_Ref, 7006, T_slices_partitionEqualCmpFunc_api_Ref_L2, [0, 1, 4, 11, 12], X_slices_partitionEqualCmpFunc_api_Ref_L2⟩
noncomputable def X_slices_partitionEqualCmpFunc_api_Ref_L3 : XPoly := fun G _ call run a h => match a with
  | [.slice data datan datac, .int .i64 a, cmp, .int .i64 i, .int .i64 j] =>
  bnd (cond (ileF i j) (aSome data fun p => ckRF a datan (gAgg (Addr.add (bare p) (Int.toNat a * 2)) 2 h fun x => aSome data fun p_1 => ckRF j datan (gAgg (Addr.add (bare p_1) (Int.toNat j * 2)) 2 h fun x_1 => aFn cmp fun g fi cp => bnd (call g (fi ++ ([.agg ⟨x⟩, .agg ⟨x_1⟩] ++ cp)) h) fun r hv => aInt .i64 r fun x_2 => some (iltF x_2 0, hv)))) (some (false, h))) fun c hv_1 => cond c
      (run F_slices_partitionEqualCmpFunc_api_Ref 7010 [.slice data datan datac, .int .i64 a, cmp, .int .i64 i, .int .i64 (wrapF .i64 (j - 1))] hv_1)
      (cond (iltF j i)
      (some (.int .i64 i, hv_1))
      (aSome data fun p_2 => ckRF j datan (gAgg (Addr.add (bare p_2) (Int.toNat j * 2)) 2 hv_1 fun x_3 => aSome data fun p_3 => ckRF i datan (gAgg (Addr.add (bare p_3) (Int.toNat i * 2)) 2 hv_1 fun x_4 => aSome data fun p_4 => ckRF i datan (ck (List.length x_3 = 2) (pAgg (Addr.add (bare p_4) (Int.toNat i * 2)) x_3 hv_1 fun hv_2 => aSome data fun p_5 => ckRF j datan (ck (List.length x_4 = 2) (pAgg (Addr.add (bare p_5) (Int.toNat j * 2)) x_4 hv_2 fun hv_3 => run F_slices_partitionEqualCmpFunc_api_Ref 3006 [.slice data datan datac, .int .i64 a, cmp, .int .i64 (wrapF .i64 (i + 1)), .int .i64 (wrapF .i64 (j - 1))] hv_3))))))))
  | _ => none
noncomputable def LB_slices_partitionEqualCmpFunc_api_Ref_L3 : Lab := ⟨F_slices_partitionEqualCmpFunc_api_Ref, 7010, T_slices_partitionEqualCmpFunc_api_Ref_L3, [0, 1, 4, 11, 12], X_slices_partitionEqualCmpFunc_api_Ref_L3⟩
noncomputable def X_math_bits_Len64 : XPoly := fun G _ call run a h => match a with
  | [.int .u64 x] =>
  cond (ileF 4294967296 x)
      (run F_math_bits_Len64 3009 [.int .u64 (Int.fdiv x (2 ^ 32)), .int .i64 32] h)
      (run F_math_bits_Len64 3009 [.int .u64 x, .int .i64 0] h)
  | _ => none
noncomputable def X_math_bits_Len64_R1 : XPoly := fun G _ call run a h => match a with
  | [.int .u64 x, .int .i64 n] =>
  cond (ileF 65536 x)
      (run F_math_bits_Len64 3015 [.int .u64 (Int.fdiv x (2 ^ 16)), .int .i64 (wrapF .i64 (n + 16))] h)
      (run F_math_bits_Len64 3015 [.int .u64 x, .int .i64 n] h)
  | _ => none
noncomputable def LB_math_bits_Len64_R1 : Lab := ⟨F_math_bits_Len64, 3009, T_math_bits_Len64_R1, [0, 2], X_math_bits_Len64_R1⟩
noncomputable def X_math_bits_Len64_R2 : XPoly := fun G _ call run a h => match a with
  | [.int .u64 x, .int .i64 n] =>
  cond (ileF 256 x)
      (ckRF (wrapF .u8 (Int.fdiv x (2 ^ 8))) (ByteArray.size (ByteArray.mk ⟨[0, 1, 2, 2, 3, 3, 3, 3, 4, 4, 4, 4, 4, 4, 4, 4, 5, 5, 5, 5, 5, 5, 5, 5, 5, 5, 5, 5, 5, 5, 5, 5, 6, 6, 6, 6, 6, 6, 6, 6, 6, 6, 6, 6, 6, 6, 6, 6, 6, 6, 6, 6, 6, 6, 6, 6, 6, 6, 6, 6, 6, 6, 6, 6, 7, 7, 7, 7, 7, 7, 7, 7, 7, 7, 7, 7, 7, 7, 7, 7, 7, 7, 7, 7, 7, 7, 7, 7, 7, 7, 7, 7, 7, 7, 7, 7, 7, 7, 7, 7, 7, 7, 7, 7, 7, 7, 7, 7, 7, 7, 7, 7, 7, 7, 7, 7, 7, 7, 7, 7, 7, 7, 7, 7, 7, 7, 7, 7, 8, 8, 8, 8, 8, 8, 8, 8, 8, 8, 8, 8, 8, 8, 8, 8, 8, 8, 8, 8, 8, 8, 8, 8, 8, 8, 8, 8, 8, 8, 8, 8, 8, 8, 8, 8, 8, 8, 8, 8, 8, 8, 8, 8, 8, 8, 8, 8, 8, 8, 8, 8, 8, 8, 8, 8, 8, 8, 8, 8, 8, 8, 8, 8, 8, 8, 8, 8, 8, 8, 8, 8, 8, 8, 8, 8, 8, 8, 8, 8, 8, 8, 8, 8, 8, 8, 8, 8, 8, 8, 8, 8, 8, 8, 8, 8, 8, 8, 8, 8, 8, 8, 8, 8, 8, 8, 8, 8, 8, 8, 8, 8, 8, 8, 8, 8, 8, 8, 8, 8, 8, 8, 8, 8, 8, 8, 8, 8]⟩)) (some (.int .i64 (wrapF .i64 ((wrapF .i64 (n + 8)) + (wrapF .i64 (((List.getD (ByteArray.data (ByteArray.mk ⟨[0, 1, 2, 2, 3, 3, 3, 3, 4, 4, 4, 4, 4, 4, 4, 4, 5, 5, 5, 5, 5, 5, 5, 5, 5, 5, 5, 5, 5, 5, 5, 5, 6, 6, 6, 6, 6, 6, 6, 6, 6, 6, 6, 6, 6, 6, 6, 6, 6, 6, 6, 6, 6, 6, 6, 6, 6, 6, 6, 6, 6, 6, 6, 6, 7, 7, 7, 7, 7, 7, 7, 7, 7, 7, 7, 7, 7, 7, 7, 7, 7, 7, 7, 7, 7, 7, 7, 7, 7, 7, 7, 7, 7, 7, 7, 7, 7, 7, 7, 7, 7, 7, 7, 7, 7, 7, 7, 7, 7, 7, 7, 7, 7, 7, 7, 7, 7, 7, 7, 7, 7, 7, 7, 7, 7, 7, 7, 7, 8, 8, 8, 8, 8, 8, 8, 8, 8, 8, 8, 8, 8, 8, 8, 8, 8, 8, 8, 8, 8, 8, 8, 8, 8, 8, 8, 8, 8, 8, 8, 8, 8, 8, 8, 8, 8, 8, 8, 8, 8, 8, 8, 8, 8, 8, 8, 8, 8, 8, 8, 8, 8, 8, 8, 8, 8, 8, 8, 8, 8, 8, 8, 8, 8, 8, 8, 8, 8, 8, 8, 8, 8, 8, 8, 8, 8, 8, 8, 8, 8, 8, 8, 8, 8, 8, 8, 8, 8, 8, 8, 8, 8, 8, 8, 8, 8, 8, 8, 8, 8, 8, 8, 8, 8, 8, 8, 8, 8, 8, 8, 8, 8, 8, 8, 8, 8, 8, 8, 8, 8, 8, 8, 8, 8, 8, 8, 8]⟩)).toList (Int.toNat (wrapF .u8 (Int.fdiv x (2 ^ 8)))) 0).toNat : Int))))), h)))
      (ckRF (wrapF .u8 (x)) (ByteArray.size (ByteArray.mk ⟨[0, 1, 2, 2, 3, 3, 3, 3, 4, 4, 4, 4, 4, 4, 4, 4, 5, 5, 5, 5, 5, 5, 5, 5, 5, 5, 5, 5, 5, 5, 5, 5, 6, 6, 6, 6, 6, 6, 6, 6, 6, 6, 6, 6, 6, 6, 6, 6, 6, 6, 6, 6, 6, 6, 6, 6, 6, 6, 6, 6, 6, 6, 6, 6, 7, 7, 7, 7, 7, 7, 7, 7, 7, 7, 7, 7, 7, 7, 7, 7, 7, 7, 7, 7, 7, 7, 7, 7, 7, 7, 7, 7, 7, 7, 7, 7, 7, 7, 7, 7, 7, 7, 7, 7, 7, 7, 7, 7, 7, 7, 7, 7, 7, 7, 7, 7, 7, 7, 7, 7, 7, 7, 7, 7, 7, 7, 7, 7, 8, 8, 8, 8, 8, 8, 8, 8, 8, 8, 8, 8, 8, 8, 8, 8, 8, 8, 8, 8, 8, 8, 8, 8, 8, 8, 8, 8, 8, 8, 8, 8, 8, 8, 8, 8, 8, 8, 8, 8, 8, 8, 8, 8, 8, 8, 8, 8, 8, 8, 8, 8, 8, 8, 8, 8, 8, 8, 8, 8, 8, 8, 8, 8, 8, 8, 8, 8, 8, 8, 8, 8, 8, 8, 8, 8, 8, 8, 8, 8, 8, 8, 8, 8, 8, 8, 8, 8, 8, 8, 8, 8, 8, 8, 8, 8, 8, 8, 8, 8, 8, 8, 8, 8, 8, 8, 8, 8, 8, 8, 8, 8, 8, 8, 8, 8, 8, 8, 8, 8, 8, 8, 8, 8, 8, 8, 8, 8]⟩)) (some (.int .i64 (wrapF .i64 (n + (wrapF .i64 (((List.getD (ByteArray.data (ByteArray.mk ⟨[0, 1, 2, 2, 3, 3, 3, 3, 4, 4, 4, 4, 4, 4, 4, 4, 5, 5, 5, 5, 5, 5, 5, 5, 5, 5, 5, 5, 5, 5, 5, 5, 6, 6, 6, 6, 6, 6, 6, 6, 6, 6, 6, 6, 6, 6, 6, 6, 6, 6, 6, 6, 6, 6, 6, 6, 6, 6, 6, 6, 6, 6, 6, 6, 7, 7, 7, 7, 7, 7, 7, 7, 7, 7, 7, 7, 7, 7, 7, 7, 7, 7, 7, 7, 7, 7, 7, 7, 7, 7, 7, 7, 7, 7, 7, 7, 7, 7, 7, 7, 7, 7, 7, 7, 7, 7, 7, 7, 7, 7, 7, 7, 7, 7, 7, 7, 7, 7, 7, 7, 7, 7, 7, 7, 7, 7, 7, 7, 8, 8, 8, 8, 8, 8, 8, 8, 8, 8, 8, 8, 8, 8, 8, 8, 8, 8, 8, 8, 8, 8, 8, 8, 8, 8, 8, 8, 8, 8, 8, 8, 8, 8, 8, 8, 8, 8, 8, 8, 8, 8, 8, 8, 8, 8, 8, 8, 8, 8, 8, 8, 8, 8, 8, 8, 8, 8, 8, 8, 8, 8, 8, 8, 8, 8, 8, 8, 8, 8, 8, 8, 8, 8, 8, 8, 8, 8, 8, 8, 8, 8, 8, 8, 8, 8, 8, 8, 8, 8, 8, 8, 8, 8, 8, 8, 8, 8, 8, 8, 8, 8, 8, 8, 8, 8, 8, 8, 8, 8, 8, 8, 8, 8, 8, 8, 8, 8, 8, 8, 8, 8, 8, 8, 8, 8, 8, 8]⟩)).toList (Int.toNat (wrapF .u8 (x))) 0).toNat : Int))))), h)))
  | _ => none
noncomputable def LB_math_bits_Len64_R2 : Lab := ⟨F_math_bits_Len64, 3015, T_math_bits_Len64_R2, [0, 2], X_math_bits_Len64_R2⟩
end Go.EQ

set_option maxRecDepth 100000
set_option linter.unusedVariables false
namespace Go.EQ
open Go Go.Proofs
open Go.NN hiding bnd ld gInt gBool gStr gPtr gSl gMap gFv gAgg gCells nw pV pAgg pCells apd fitsOpen liveA mapAt
open Go.NP Go.NW
noncomputable def X_law15_Open : XPoly := fun G _ call run a h => match a with
  | [.agg ⟨p⟩] =>
  nw (.cells Y_api_Plan false p) h fun b hv => gAgg ⟨b, 0, none⟩ 3 hv fun x => bnd (call F_ref15_Boot [.agg ⟨x⟩] hv) fun r hv_1 => aAgg r fun x_1 => nw (.cells Y_api_Boot false [.slice none 0 0, .slice none 0 0, .slice none 0 0, .int .i64 0, .slice none 0 0]) hv_1 fun b_1 hv_2 => ck (List.length x_1 = 5) (pAgg ⟨b_1, 0, none⟩ x_1 hv_2 fun hv_3 => gAgg ⟨b_1, 0, none⟩ 5 hv_3 fun x_2 => bnd (call F_kern_New [.agg ⟨x_2⟩] hv_3) fun r_1 hv_4 => as2 r_1 fun r_2 r_3 => aPtr r_2 fun x_3 => aInt .i64 r_3 fun x_4 => bnd (cond x_3.isNone (some (true, hv_4)) (some (ineF x_4 0, hv_4))) fun c hv_5 => cond c
      (some (.tuple ⟨[.pointer none, .pointer none, .pointer none, .pointer none]⟩, hv_5))
      (gAgg ⟨b_1, 0, none⟩ 5 hv_5 fun x_5 => bnd (call F_ref1_NewKern [.agg ⟨x_5⟩] hv_5) fun r_4 hv_6 => aPtr r_4 fun x_6 => bnd (call F_commons_New [.pointer x_3, .int .i64 0] hv_6) fun r_5 hv_7 => as2 r_5 fun r_6 r_7 => aPtr r_6 fun x_7 => aInt .i64 r_7 fun x_8 => bnd (cond x_7.isNone (some (true, hv_7)) (some (ineF x_8 0, hv_7))) fun c_1 hv_8 => cond c_1
      (some (.tuple ⟨[.pointer none, .pointer none, .pointer none, .pointer none]⟩, hv_8))
      (bnd (call F_ref15_Blank [] hv_8) fun r_8 hv_9 => aStr r_8 fun x_9 => ck (ByteArray.size x_9 ≤ most) (nw (.cells Y_uint8 false (byteCells (ByteArray.data x_9).toList)) hv_9 fun b_2 hv_10 => bnd (call F_kern_Kern_Do [.pointer x_3, .int .i64 0, .agg ⟨[.int .i64 2, .int .i64 256, .int .i64 0, .int .i64 0, .int .i64 0, .int .i64 0, .slice (some (openAt b_2)) (ByteArray.size x_9) (ByteArray.size x_9)]⟩] hv_10) fun r_9 hv_11 => aAgg r_9 fun x_10 => nth x_10 0 fun E => aInt .i64 E fun E_1 => cond (ineF E_1 0)
      (some (.tuple ⟨[.pointer none, .pointer none, .pointer none, .pointer none]⟩, hv_11))
      (ck (ByteArray.size x_9 ≤ most) (nw (.cells Y_uint8 false (byteCells (ByteArray.data x_9).toList)) hv_11 fun b_3 hv_12 => bnd (call F_ref1_Kern_Do [.pointer x_6, .int .i64 0, .agg ⟨[.int .i64 2, .int .i64 256, .int .i64 0, .int .i64 0, .int .i64 0, .int .i64 0, .slice (some (openAt b_3)) (ByteArray.size x_9) (ByteArray.size x_9)]⟩] hv_12) fun r_10 hv_13 => as3 r_10 fun r_11 r_12 r_13 => aInt .i64 r_11 fun _ => aInt .i64 r_12 fun _ => aStr r_13 fun _ => bnd (call F_ref15_NewCommons [.pointer x_6, .int .i64 0] hv_13) fun r_14 hv_14 => aPtr r_14 fun x_14 => some (.tuple ⟨[.pointer x_3, .pointer x_7, .pointer x_6, .pointer x_14]⟩, hv_14)))))))
  | _ => none
noncomputable def X_kern_Kern_Space : XPoly := fun G _ call run a h => match a with
  | [.pointer k] =>
  aSome k fun p => gPtr (Addr.add p 3) h fun x => some (.pointer x, h)
  | _ => none
noncomputable def X_commons_Commons_Term : XPoly := fun G _ call run a h => match a with
  | [.pointer c] =>
  nw (.cells Y_api_Pipe false [.int .i64 0, .int .i64 0, .int .i64 0, .int .i64 0, .int .u8 0, .int .u8 0, .int .u8 0, .int .u8 0, .int .u8 0, .int .u8 0, .int .u8 0, .int .u8 0, .int .u8 0, .int .u8 0, .int .u8 0, .int .u8 0, .int .u8 0, .int .u8 0, .int .u8 0, .int .u8 0, .int .u8 0, .int .u8 0, .int .u8 0, .int .u8 0, .int .u8 0, .int .u8 0, .int .u8 0, .int .u8 0, .int .u8 0, .int .u8 0, .int .u8 0, .int .u8 0, .int .u8 0, .int .u8 0, .int .u8 0, .int .u8 0]) h fun b hv => bnd (call F_commons_record_api_Pipe [.pointer c, .agg ⟨[.int .i64 4, .int .i64 0]⟩, .func (.func F_ring_Decode) ⟨[]⟩ ⟨[]⟩] hv) fun r hv_1 => as2 r fun r_1 r_2 => aAgg r_1 fun x => aInt .i64 r_2 fun x_1 => ck (List.length x = 36) (pAgg ⟨b, 0, none⟩ x hv_1 fun hv_2 => gAgg ⟨b, 0, none⟩ 36 hv_2 fun x_2 => some (.tuple ⟨[.agg ⟨x_2⟩, .int .i64 x_1]⟩, hv_2))
  | _ => none
noncomputable def X_commons_Commons_Front : XPoly := fun G _ call run a h => match a with
  | [.pointer c] =>
  bnd (call F_commons_record_int [.pointer c, .agg ⟨[.int .i64 5, .int .i64 0]⟩, .func (.func F_commons_FrontOf) ⟨[]⟩ ⟨[]⟩] h) fun r hv => as2 r fun r_1 r_2 => aInt .i64 r_1 fun x => aInt .i64 r_2 fun x_1 => some (.tuple ⟨[.int .i64 x, .bool (ieqF x_1 1)]⟩, hv)
  | _ => none
noncomputable def X_law15_awake : XPoly := fun G _ call run a h => match a with
  | [] =>
  bnd (call F_law15_Plan [] h) fun r hv => aAgg r fun x => bnd (call F_law15_Open [.agg ⟨x⟩] hv) fun r_1 hv_1 => as4 r_1 fun r_2 r_3 r_4 r_5 => aPtr r_2 fun _ => aPtr r_3 fun x_2 => aPtr r_4 fun _ => aPtr r_5 fun _ => cond x_2.isNone
      (some (.bool false, hv_1))
      (bnd (call F_commons_Commons_Proc [.pointer x_2, .int .i64 0] hv_1) fun r_6 hv_2 => as2 r_6 fun r_7 r_8 => aAgg r_7 fun x_5 => aInt .i64 r_8 fun x_6 => nw (.cells Y_api_Proc false [.int .i64 0, .int .i64 0, .int .i64 0, .int .i64 0, .int .i64 0, .int .i64 0, .int .i64 0, .int .i64 0, .int .i64 0, .int .i64 0, .int .i64 0, .int .i64 0, .int .i64 0, .int .i64 0, .int .i64 0, .int .i64 0]) hv_2 fun b hv_3 => ck (List.length x_5 = 16) (pAgg ⟨b, 0, none⟩ x_5 hv_3 fun hv_4 => bnd (call F_commons_Commons_Term [.pointer x_2] hv_4) fun r_9 hv_5 => as2 r_9 fun r_10 r_11 => aAgg r_10 fun x_7 => aInt .i64 r_11 fun x_8 => nw (.cells Y_api_Pipe false [.int .i64 0, .int .i64 0, .int .i64 0, .int .i64 0, .int .u8 0, .int .u8 0, .int .u8 0, .int .u8 0, .int .u8 0, .int .u8 0, .int .u8 0, .int .u8 0, .int .u8 0, .int .u8 0, .int .u8 0, .int .u8 0, .int .u8 0, .int .u8 0, .int .u8 0, .int .u8 0, .int .u8 0, .int .u8 0, .int .u8 0, .int .u8 0, .int .u8 0, .int .u8 0, .int .u8 0, .int .u8 0, .int .u8 0, .int .u8 0, .int .u8 0, .int .u8 0, .int .u8 0, .int .u8 0, .int .u8 0, .int .u8 0]) hv_5 fun b_1 hv_6 => ck (List.length x_7 = 36) (pAgg ⟨b_1, 0, none⟩ x_7 hv_6 fun hv_7 => bnd (call F_commons_Commons_Front [.pointer x_2] hv_7) fun r_12 hv_8 => as2 r_12 fun r_13 r_14 => aInt .i64 r_13 fun x_9 => aBool r_14 fun x_10 => bnd (call F_commons_New [.pointer none, .int .i64 0] hv_8) fun r_15 hv_9 => as2 r_15 fun r_16 r_17 => aPtr r_16 fun _ => aInt .i64 r_17 fun x_12 => bnd (cond (ieqF x_6 0) (some (ieqF x_8 1, hv_9)) (some (false, hv_9))) fun c hv_10 => bnd (cond c (some (ieqF x_9 0, hv_10)) (some (false, hv_10))) fun c_1 hv_11 => bnd (cond c_1 (some (x_10, hv_11)) (some (false, hv_11))) fun c_2 hv_12 => bnd (cond c_2 (some (ieqF x_12 1, hv_12)) (some (false, hv_12))) fun c_3 hv_13 => bnd (cond c_3 (bnd (call F_commons_Commons_Bad [.pointer x_2] hv_13) fun r_18 hv_14 => aSl r_18 fun _ xn _ => some (ieqF ((xn : Nat) : Int) 0, hv_14)) (some (false, hv_13))) fun c_4 hv_15 => bnd (cond c_4 (bnd (call F_commons_Commons_View [.pointer x_2] hv_15) fun r_19 hv_16 => aSl r_19 fun _ xn_1 _ => some (ieqF ((xn_1 : Nat) : Int) 492, hv_16)) (some (false, hv_15))) fun c_5 hv_17 => some (.bool c_5, hv_17))))
  | _ => none
noncomputable def X_law17_First : XPoly := fun G _ call run a h => match a with
  | [] =>
  bnd (call F_ref15_Blank [] h) fun r hv => aStr r fun x => ck (ByteArray.size x ≤ most) (nw (.cells Y_uint8 false (byteCells (ByteArray.data x).toList)) hv fun b hv_1 => nw (.cells Y_api_Proc false [.int .i64 0, .int .i64 0, .int .i64 0, .int .i64 0, .int .i64 0, .int .i64 0, .int .i64 0, .int .i64 0, .int .i64 0, .int .i64 0, .int .i64 0, .int .i64 0, .int .i64 0, .int .i64 0, .int .i64 0, .int .i64 0]) hv_1 fun b_1 hv_2 => pAgg ⟨b_1, 0, none⟩ [.int .i64 1, .int .i64 0, .int .i64 0, .int .i64 0, .int .i64 0, .int .i64 0, .int .i64 0, .int .i64 0, .int .i64 0, .int .i64 0, .int .i64 0, .int .i64 0, .int .i64 0, .int .i64 0, .int .i64 0, .int .i64 0] hv_2 fun hv_3 => ckRF 0 8 (pV (Addr.add (Addr.add ⟨b_1, 0, none⟩ 8) (Int.toNat 0 * 1)) (.int .i64 1) hv_3 fun hv_4 => gAgg ⟨b_1, 0, none⟩ 16 hv_4 fun x_1 => bnd (call F_ref11_ProcBytes [.agg ⟨x_1⟩] hv_4) fun r_1 hv_5 => aStr r_1 fun x_2 => pCells (some (openAt b)) (byteCells (List.take (min (ByteArray.size x_2) (ByteArray.size x)) (ByteArray.data x_2).toList)) hv_5 fun hv_6 => ckB (fitsOpen (some (openAt b)) Y_uint8 hv_6) (ckLF 192 (ByteArray.size x) (bnd (call F_ref11_FileBytes [.agg ⟨[.int .i64 3, .int .i64 0, .int .i64 1, .int .i64 0]⟩] hv_6) fun r_2 hv_7 => aStr r_2 fun x_3 => ckB (fitsOpen (some (openAt b)) Y_uint8 hv_7) (ckLF 192 (ByteArray.size x) (same (.slice (moved (some (openAt b)) (decide (Int.toNat 192 < ByteArray.size x)) ((Int.toNat 192) * 1)) ((ByteArray.size x) - (Int.toNat 192)) ((ByteArray.size x) - (Int.toNat 192))) (.slice (moved (some (openAt b)) (decide (Int.toNat 192 < ByteArray.size x)) ((Int.toNat 192) * 1)) ((ByteArray.size x) - (Int.toNat 192)) ((ByteArray.size x) - (Int.toNat 192))) (pCells (moved (some (openAt b)) (decide (Int.toNat 192 < ByteArray.size x)) ((Int.toNat 192) * 1)) (byteCells (List.take (min (ByteArray.size x_3) ((ByteArray.size x) - (Int.toNat 192))) (ByteArray.data x_3).toList)) hv_7 fun hv_8 => some (.slice (some (openAt b)) (ByteArray.size x) (ByteArray.size x), hv_8))))))))
  | _ => none
noncomputable def X_law18_awake : XPoly := fun G _ call run a h => match a with
  | [] =>
  bnd (call F_law17_First [] h) fun r hv => aSl r fun x xn xc => bnd (call F_law17_Fill [.slice x xn xc] hv) fun r_1 hv_1 => as4 r_1 fun r_2 r_3 r_4 r_5 => aPtr r_2 fun _ => aPtr r_3 fun x_2 => aPtr r_4 fun _ => aPtr r_5 fun _ => cond x_2.isNone
      (some (.bool false, hv_1))
      (bnd (call F_fds_Pipe [.pointer x_2, .int .i64 0] hv_1) fun r_6 hv_2 => aAgg r_6 fun x_5 => nw (.cells Y_api_Ret false [.int .i64 0, .int .i64 0, .slice none 0 0, .bool false]) hv_2 fun b hv_3 => ck (List.length x_5 = 4) (pAgg ⟨b, 0, none⟩ x_5 hv_3 fun hv_4 => bnd (call F_fds_Close [.pointer x_2, .int .i64 0, .int .i64 5] hv_4) fun r_7 hv_5 => aAgg r_7 fun x_6 => nw (.cells Y_api_Ret false [.int .i64 0, .int .i64 0, .slice none 0 0, .bool false]) hv_5 fun b_1 hv_6 => ck (List.length x_6 = 4) (pAgg ⟨b_1, 0, none⟩ x_6 hv_6 fun hv_7 => bnd (call F_fds_Of [.pointer x_2, .int .i64 0, .int .i64 1] hv_7) fun r_8 hv_8 => as3 r_8 fun r_9 r_10 r_11 => aInt .i64 r_9 fun x_7 => aAgg r_10 fun x_8 => aInt .i64 r_11 fun x_9 => nw (.cells Y_api_File false [.int .i64 0, .int .i64 0, .int .i64 0, .int .i64 0]) hv_8 fun b_2 hv_9 => ck (List.length x_8 = 4) (pAgg ⟨b_2, 0, none⟩ x_8 hv_9 fun hv_10 => gInt .i64 (Addr.add ⟨b, 0, none⟩ 1) hv_10 fun x_10 => bnd (cond (ieqF x_10 0) (gInt .i64 (Addr.add ⟨b, 0, none⟩ 0) hv_10 fun x_11 => some (ieqF x_11 33, hv_10)) (some (false, hv_10))) fun c hv_11 => bnd (cond c (gInt .i64 (Addr.add ⟨b_1, 0, none⟩ 1) hv_11 fun x_12 => some (ieqF x_12 109, hv_11)) (some (false, hv_11))) fun c_1 hv_12 => bnd (cond c_1 (some (ieqF x_7 1, hv_12)) (some (false, hv_12))) fun c_2 hv_13 => bnd (cond c_2 (gAgg ⟨b_2, 0, none⟩ 4 hv_13 fun x_13 => eqAgg PR Y_api_File x_13 [.int .i64 1, .int .i64 0, .int .i64 1, .int .i64 0] fun eq => some (eq, hv_13)) (some (false, hv_13))) fun c_3 hv_14 => bnd (cond c_3 (some (ieqF x_9 0, hv_14)) (some (false, hv_14))) fun c_4 hv_15 => some (.bool c_4, hv_15)))))
  | _ => none
noncomputable def X_ref15_Boot : XPoly := fun G _ call run a h => match a with
  | [.agg ⟨p⟩] =>
  nw (.cells Y_api_Plan false p) h fun b hv => nw (.cells Y_api_Boot false [.slice none 0 0, .slice none 0 0, .slice none 0 0, .int .i64 0, .slice none 0 0]) hv fun b_1 hv_1 => gInt .i64 (Addr.add ⟨b, 0, none⟩ 2) hv_1 fun x => nw (.cells Y_api_Boot false [.slice none 0 0, .slice none 0 0, .slice none 0 0, .int .i64 0, .slice none 0 0]) hv_1 fun b_2 hv_2 => pAgg ⟨b_2, 0, none⟩ [.slice none 0 0, .slice none 0 0, .slice none 0 0, .int .i64 x, .slice none 0 0] hv_2 fun hv_3 => run F_ref15_Boot 3006 [.pointer (some ⟨b, 0, none⟩), .pointer (some ⟨b_1, 0, none⟩), .pointer (some ⟨b_2, 0, none⟩), .int .i64 0] hv_3
  | _ => none
noncomputable def X_ref15_Boot_L1 : XPoly := fun G _ call run a h => match a with
  | [.pointer (some p), .pointer (some x2), .pointer (some b), .int .i64 s] =>
  gSl (Addr.add p 0) h fun _ xn _ => cond (iltF s ((xn : Nat) : Int))
      (gSl (Addr.add b 0) h fun x_1 xn_1 xc_1 => nw (.cells Y_int false [.int .i64 20]) h fun b_1 hv => gCells (some ⟨b_1, 0, none⟩) (1 * 1) hv fun cs => ckB (fitsOpen x_1 Y_int hv) (apd Y_int 1 x_1 xn_1 xc_1 1 cs hv fun a an ac hv_1 => pV (Addr.add b 0) (.slice a an ac) hv_1 fun hv_2 => run F_ref15_Boot 8014 [.pointer (some p), .pointer (some x2), .pointer (some b), .int .i64 s, .int .i64 0] hv_2))
      (run F_ref15_Boot 3026 [.pointer (some p), .pointer (some x2), .pointer (some b), .int .i64 0] h)
  | _ => none
noncomputable def LB_ref15_Boot_L1 : Lab := ⟨F_ref15_Boot, 3006, T_ref15_Boot_L1, [1, 2, 3, 4], X_ref15_Boot_L1⟩
noncomputable def X_ref15_Boot_L2 : XPoly := fun G _ call run a h => match a with
  | [.pointer (some p), .pointer (some x2), .pointer (some b), .int .i64 s, .int .i64 i] =>
  cond (iltF i 9)
      (gSl (Addr.add b 1) h fun x xn xc => nw (.cells Y_int false [.int .i64 s]) h fun b_1 hv => gCells (some ⟨b_1, 0, none⟩) (1 * 1) hv fun cs => ckB (fitsOpen x Y_int hv) (apd Y_int 1 x xn xc 1 cs hv fun a an ac hv_1 => pV (Addr.add b 1) (.slice a an ac) hv_1 fun hv_2 => run F_ref15_Boot 8014 [.pointer (some p), .pointer (some x2), .pointer (some b), .int .i64 s, .int .i64 (wrapF .i64 (i + 1))] hv_2))
      (gSl (Addr.add b 2) h fun x_1 xn_1 xc_1 => nw (.cells Y_int false [.int .i64 s]) h fun b_2 hv_3 => nw (.cells Y_s_int false [.slice (some ⟨b_2, 0, none⟩) 1 1]) hv_3 fun b_3 hv_4 => gCells (some ⟨b_3, 0, none⟩) (1 * 1) hv_4 fun cs_1 => ckB (fitsOpen x_1 Y_s_int hv_4) (apd Y_s_int 1 x_1 xn_1 xc_1 1 cs_1 hv_4 fun a_1 an_1 ac_1 hv_5 => pV (Addr.add b 2) (.slice a_1 an_1 ac_1) hv_5 fun hv_6 => gSl (Addr.add b 4) hv_6 fun x_2 xn_2 xc_2 => nw (.cells Y_int false [.int .i64 s]) hv_6 fun b_4 hv_7 => nw (.cells Y_api_Share false [.int .i64 s, .int .i64 0, .int .i64 0, .int .i64 492, .slice (some ⟨b_4, 0, none⟩) 1 1]) hv_7 fun b_5 hv_8 => gCells (some ⟨b_5, 0, none⟩) (1 * 5) hv_8 fun cs_2 => ckB (fitsOpen x_2 Y_api_Share hv_8) (apd Y_api_Share 5 x_2 xn_2 xc_2 1 cs_2 hv_8 fun a_2 an_2 ac_2 hv_9 => pV (Addr.add b 4) (.slice a_2 an_2 ac_2) hv_9 fun hv_10 => run F_ref15_Boot 3006 [.pointer (some p), .pointer (some x2), .pointer (some b), .int .i64 (wrapF .i64 (s + 1))] hv_10)))
  | _ => none
noncomputable def LB_ref15_Boot_L2 : Lab := ⟨F_ref15_Boot, 8014, T_ref15_Boot_L2, [1, 2, 3, 4, 5], X_ref15_Boot_L2⟩
noncomputable def X_ref15_Boot_L3 : XPoly := fun G _ call run a h => match a with
  | [.pointer (some p), .pointer (some x2), .pointer (some b), .int .i64 i] =>
  gSl (Addr.add p 1) h fun _ xn _ => cond (iltF i ((xn : Nat) : Int))
      (gSl (Addr.add p 1) h fun x_1 xn_1 _ => aSome x_1 fun p_1 => ckRF i xn_1 (gAgg (Addr.add (bare p_1) (Int.toNat i * 2)) 2 h fun x_2 => nw (.cells Y_api_Bridge false [.int .i64 0, .int .i64 0]) h fun b_1 hv => ck (List.length x_2 = 2) (pAgg ⟨b_1, 0, none⟩ x_2 hv fun hv_1 => gSl (Addr.add b 4) hv_1 fun x_3 xn_2 xc_2 => gInt .i64 (Addr.add ⟨b_1, 0, none⟩ 0) hv_1 fun x_4 => gInt .i64 (Addr.add ⟨b_1, 0, none⟩ 0) hv_1 fun x_5 => gInt .i64 (Addr.add ⟨b_1, 0, none⟩ 1) hv_1 fun x_6 => nw (.cells Y_int false [.int .i64 x_5, .int .i64 x_6]) hv_1 fun b_2 hv_2 => nw (.cells Y_api_Share false [.int .i64 x_4, .int .i64 (wrapF .i64 (8 + i)), .int .i64 0, .int .i64 40, .slice (some ⟨b_2, 0, none⟩) 2 2]) hv_2 fun b_3 hv_3 => gCells (some ⟨b_3, 0, none⟩) (1 * 5) hv_3 fun cs => ckB (fitsOpen x_3 Y_api_Share hv_3) (apd Y_api_Share 5 x_3 xn_2 xc_2 1 cs hv_3 fun a an ac hv_4 => pV (Addr.add b 4) (.slice a an ac) hv_4 fun hv_5 => run F_ref15_Boot 3026 [.pointer (some p), .pointer (some x2), .pointer (some b), .int .i64 (wrapF .i64 (i + 1))] hv_5))))
      (gAgg b 5 h fun x_7 => ck (List.length x_7 = 5) (pAgg x2 x_7 h fun hv_6 => gAgg x2 5 hv_6 fun x_8 => some (.agg ⟨x_8⟩, hv_6)))
  | _ => none
noncomputable def LB_ref15_Boot_L3 : Lab := ⟨F_ref15_Boot, 3026, T_ref15_Boot_L3, [1, 2, 3, 6], X_ref15_Boot_L3⟩
noncomputable def X_kern_New : XPoly := fun G _ call run a h => match a with
  | [.agg ⟨c⟩] =>
  nw (.cells Y_api_Boot false c) h fun b hv => gAgg ⟨b, 0, none⟩ 5 hv fun x => bnd (call F_kern_check [.agg ⟨x⟩] hv) fun r hv_1 => aBool r fun x_1 => cond (!x_1)
      (some (.tuple ⟨[.pointer none, .int .i64 1]⟩, hv_1))
      (gSl (Addr.add ⟨b, 0, none⟩ 0) hv_1 fun x_2 xn xc => run F_kern_New 3010 [.pointer (some ⟨b, 0, none⟩), .int .i64 0, .slice x_2 xn xc, .int .i64 ((xn : Nat) : Int), .int .i64 0] hv_1)
  | _ => none
noncomputable def X_kern_New_L1 : XPoly := fun G _ call run a h => match a with
  | [.pointer (some c), .int .i64 all, .slice x20 x20n x20c, .int .i64 x21, .int .i64 x22] =>
  cond (iltF x22 x21)
      (aSome x20 fun p => ckRF x22 x20n (gInt .i64 (Addr.add (bare p) (Int.toNat x22 * 1)) h fun x => bnd (call F_kern_frames [.int .i64 x] h) fun r hv => aInt .i64 r fun x_1 => run F_kern_New 3010 [.pointer (some c), .int .i64 (wrapF .i64 (all + x_1)), .slice x20 x20n x20c, .int .i64 x21, .int .i64 (wrapF .i64 (x22 + 1))] hv))
      (gSl (Addr.add c 1) h fun x_2 xn xc => gSl (Addr.add c 1) h fun x_3 xn_1 xc_1 => gSl (Addr.add c 0) h fun x_4 xn_2 xc_2 => bnd (call F_slices_Clone_s_int_int [.slice x_2 xn xc] h) fun r_1 hv_1 => aSl r_1 fun x_5 xn_3 xc_3 => gSl (Addr.add c 1) hv_1 fun x_6 xn_4 xc_4 => same (.slice x_3 xn_1 xc_1) (.slice x_6 xn_4 xc_4) (gSl (Addr.add c 0) hv_1 fun x_7 xn_5 xc_5 => same (.slice x_4 xn_2 xc_2) (.slice x_7 xn_5 xc_5) (bnd (call F_mem_New [.int .i64 all] hv_1) fun r_2 hv_2 => aPtr r_2 fun x_8 => gSl (Addr.add c 1) hv_2 fun x_9 xn_6 xc_6 => same (.slice x_3 xn_1 xc_1) (.slice x_9 xn_6 xc_6) (gSl (Addr.add c 0) hv_2 fun x_10 xn_7 xc_7 => same (.slice x_4 xn_2 xc_2) (.slice x_10 xn_7 xc_7) (bnd (call F_caps_New [.int .i64 ((xn_1 : Nat) : Int)] hv_2) fun r_3 hv_3 => aPtr r_3 fun x_11 => gSl (Addr.add c 0) hv_3 fun x_12 xn_8 xc_8 => same (.slice x_4 xn_2 xc_2) (.slice x_12 xn_8 xc_8) (bnd (call F_quota_New [.slice x_4 xn_2 xc_2] hv_3) fun r_4 hv_4 => aPtr r_4 fun x_13 => nw (.cells Y_kern_Kern false [.slice x_5 xn_3 xc_3, .slice none 0 0, .pointer x_8, .pointer x_11, .pointer x_13, .pointer none, .slice none 0 0, .int .i64 0]) hv_4 fun b hv_5 => gPtr (Addr.add ⟨b, 0, none⟩ 2) hv_5 fun x_14 => gPtr (Addr.add ⟨b, 0, none⟩ 3) hv_5 fun x_15 => bnd (call F_region_New [.pointer x_14, .pointer x_15] hv_5) fun r_5 hv_6 => aPtr r_5 fun x_16 => pV (Addr.add ⟨b, 0, none⟩ 5) (.pointer x_16) hv_6 fun hv_7 => gSl (Addr.add c 2) hv_7 fun x_17 xn_9 xc_9 => run F_kern_New 3024 [.pointer (some c), .pointer (some ⟨b, 0, none⟩), .slice x_17 xn_9 xc_9, .int .i64 ((xn_9 : Nat) : Int), .int .i64 0] hv_7))))))
  | _ => none
noncomputable def LB_kern_New_L1 : Lab := ⟨F_kern_New, 3010, T_kern_New_L1, [1, 4, 20, 21, 22], X_kern_New_L1⟩
noncomputable def X_kern_New_L2 : XPoly := fun G _ call run a h => match a with
  | [.pointer (some c), .pointer (some k), .slice x58 x58n x58c, .int .i64 x59, .int .i64 x60] =>
  cond (iltF x60 x59)
      (aSome x58 fun p => ckRF x60 x58n (gSl (Addr.add (bare p) (Int.toNat x60 * 1)) h fun x xn xc => gSl (Addr.add k 1) h fun x_1 xn_1 xc_1 => bnd (call F_slices_Clone_s_int_int [.slice x xn xc] h) fun r hv => aSl r fun x_2 xn_2 xc_2 => gSl (Addr.add k 1) hv fun x_3 xn_3 xc_3 => same (.slice x_1 xn_1 xc_1) (.slice x_3 xn_3 xc_3) (nw (.cells Y_s_int false [.slice x_2 xn_2 xc_2]) hv fun b hv_1 => gCells (some ⟨b, 0, none⟩) (1 * 1) hv_1 fun cs => ckB (fitsOpen x_1 Y_s_int hv_1) (apd Y_s_int 1 x_1 xn_1 xc_1 1 cs hv_1 fun a an ac hv_2 => pV (Addr.add k 1) (.slice a an ac) hv_2 fun hv_3 => gSl (Addr.add k 6) hv_3 fun x_4 xn_4 xc_4 => gInt .i64 (Addr.add c 3) hv_3 fun x_5 => bnd (call F_sect_New [.int .i64 x_5] hv_3) fun r_1 hv_4 => aPtr r_1 fun x_6 => gSl (Addr.add k 6) hv_4 fun x_7 xn_5 xc_5 => same (.slice x_4 xn_4 xc_4) (.slice x_7 xn_5 xc_5) (nw (.cells Y_p_sect_Sect false [.pointer x_6]) hv_4 fun b_1 hv_5 => gCells (some ⟨b_1, 0, none⟩) (1 * 1) hv_5 fun cs_1 => ckB (fitsOpen x_4 Y_p_sect_Sect hv_5) (apd Y_p_sect_Sect 1 x_4 xn_4 xc_4 1 cs_1 hv_5 fun a_1 an_1 ac_1 hv_6 => pV (Addr.add k 6) (.slice a_1 an_1 ac_1) hv_6 fun hv_7 => run F_kern_New 3024 [.pointer (some c), .pointer (some k), .slice x58 x58n x58c, .int .i64 x59, .int .i64 (wrapF .i64 (x60 + 1))] hv_7))))))
      (gSl (Addr.add c 4) h fun x_8 xn_6 xc_6 => run F_kern_New 3036 [.pointer (some k), .slice x_8 xn_6 xc_6, .int .i64 ((xn_6 : Nat) : Int), .int .i64 0] h)
  | _ => none
noncomputable def LB_kern_New_L2 : Lab := ⟨F_kern_New, 3024, T_kern_New_L2, [1, 7, 58, 59, 60], X_kern_New_L2⟩
noncomputable def X_kern_New_L3 : XPoly := fun G _ call run a h => match a with
  | [.pointer (some k), .slice x89 x89n x89c, .int .i64 x90, .int .i64 x91] =>
  cond (iltF x91 x90)
      (aSome x89 fun p => ckRF x91 x89n (gAgg (Addr.add (bare p) (Int.toNat x91 * 5)) 5 h fun x => nw (.cells Y_api_Share false [.int .i64 0, .int .i64 0, .int .i64 0, .int .i64 0, .slice none 0 0]) h fun b hv => ck (List.length x = 5) (pAgg ⟨b, 0, none⟩ x hv fun hv_1 => gPtr (Addr.add k 5) hv_1 fun x_1 => gPtr (Addr.add k 4) hv_1 fun x_2 => gInt .i64 (Addr.add ⟨b, 0, none⟩ 0) hv_1 fun x_3 => gInt .i64 (Addr.add ⟨b, 0, none⟩ 1) hv_1 fun x_4 => gInt .i64 (Addr.add ⟨b, 0, none⟩ 2) hv_1 fun x_5 => gInt .i64 (Addr.add ⟨b, 0, none⟩ 3) hv_1 fun x_6 => bnd (call F_quota_Quota_First [.pointer x_2, .int .i64 x_3] hv_1) fun r hv_2 => aInt .i64 r fun x_7 => gPtr (Addr.add k 5) hv_2 fun x_8 => same (.pointer x_1) (.pointer x_8) (gInt .i64 (Addr.add ⟨b, 0, none⟩ 1) hv_2 fun x_9 => same (.int .i64 x_4) (.int .i64 x_9) (gInt .i64 (Addr.add ⟨b, 0, none⟩ 2) hv_2 fun x_10 => same (.int .i64 x_5) (.int .i64 x_10) (gInt .i64 (Addr.add ⟨b, 0, none⟩ 3) hv_2 fun x_11 => same (.int .i64 x_6) (.int .i64 x_11) (bnd (call F_region_Regions_Add [.pointer x_1, .int .i64 (wrapF .i64 ((wrapF .i64 ((wrapF .i64 (x_7 + x_4)) * 64)) + x_5)), .int .i64 x_6] hv_2) fun r_1 hv_3 => as2 r_1 fun r_2 r_3 => aInt .i64 r_2 fun x_12 => aInt .i64 r_3 fun _ => gSl (Addr.add k 0) hv_3 fun x_14 xn xc => run F_kern_New 7044 [.pointer (some k), .pointer (some ⟨b, 0, none⟩), .int .i64 x_12, .slice x89 x89n x89c, .int .i64 x90, .int .i64 x91, .slice x_14 xn xc, .int .i64 ((xn : Nat) : Int), .int .i64 0] hv_3)))))))
      (some (.tuple ⟨[.pointer (some k), .int .i64 0]⟩, h))
  | _ => none
noncomputable def LB_kern_New_L3 : Lab := ⟨F_kern_New, 3036, T_kern_New_L3, [7, 89, 90, 91], X_kern_New_L3⟩
noncomputable def X_kern_New_L4 : XPoly := fun G _ call run a h => match a with
  | [.pointer (some k), .pointer (some x), .int .i64 obj, .slice x89 x89n x89c, .int .i64 x90, .int .i64 x91, .slice x122 x122n x122c, .int .i64 x123, .int .i64 x124] =>
  cond (iltF x124 x123)
      (aSome x122 fun p => ckRF x124 x122n (gInt .i64 (Addr.add (bare p) (Int.toNat x124 * 1)) h fun x_1 => gSl (Addr.add x 4) h fun x_2 xn xc => bnd (call F_slices_Contains_s_int_int [.slice x_2 xn xc, .int .i64 x_1] h) fun r hv => aBool r fun x_3 => cond x_3
      (gPtr (Addr.add k 3) hv fun x_4 => gInt .i64 (Addr.add x 3) hv fun x_5 => bnd (call F_caps_Space_Put [.pointer x_4, .int .i64 x124, .agg ⟨[.int .i64 obj, .int .i64 3, .int .i64 0, .int .i64 x_5, .int .i64 0, .int .i64 0]⟩] hv) fun r_1 hv_1 => as2 r_1 fun r_2 r_3 => aInt .i64 r_2 fun _ => aInt .i64 r_3 fun _ => run F_kern_New 7044 [.pointer (some k), .pointer (some x), .int .i64 obj, .slice x89 x89n x89c, .int .i64 x90, .int .i64 x91, .slice x122 x122n x122c, .int .i64 x123, .int .i64 (wrapF .i64 (x124 + 1))] hv_1)
      (run F_kern_New 7044 [.pointer (some k), .pointer (some x), .int .i64 obj, .slice x89 x89n x89c, .int .i64 x90, .int .i64 x91, .slice x122 x122n x122c, .int .i64 x123, .int .i64 (wrapF .i64 (x124 + 1))] hv)))
      (run F_kern_New 3036 [.pointer (some k), .slice x89 x89n x89c, .int .i64 x90, .int .i64 (wrapF .i64 (x91 + 1))] h)
  | _ => none
noncomputable def LB_kern_New_L4 : Lab := ⟨F_kern_New, 7044, T_kern_New_L4, [7, 11, 12, 89, 90, 91, 122, 123, 124], X_kern_New_L4⟩
noncomputable def X_ref1_NewKern : XPoly := fun G _ call run a h => match a with
  | [.agg ⟨b⟩] =>
  nw (.cells Y_api_Boot false b) h fun b_1 hv => gAgg ⟨b_1, 0, none⟩ 5 hv fun x => gSl (Addr.add ⟨b_1, 0, none⟩ 0) hv fun x_1 xn xc => bnd (call F_ref1_NewQuota [.slice x_1 xn xc] hv) fun r hv_1 => aPtr r fun x_2 => gAgg ⟨b_1, 0, none⟩ 5 hv_1 fun x_3 => same (.agg ⟨x⟩) (.agg ⟨x_3⟩) (ck (List.length x = 5) (nw (.cells Y_ref1_Kern false (x ++ (.pointer x_2 :: (.pointer none :: (.slice none 0 0 :: [.int .i64 0]))))) hv_1 fun b_2 hv_2 => gPtr (Addr.add ⟨b_2, 0, none⟩ 5) hv_2 fun x_4 => gSl (Addr.add ⟨b_1, 0, none⟩ 0) hv_2 fun _ xn_1 _ => gSl (Addr.add ⟨b_1, 0, none⟩ 1) hv_2 fun x_6 xn_2 xc_2 => bnd (call F_ref1_Quota_First [.pointer x_4, .int .i64 ((xn_1 : Nat) : Int)] hv_2) fun r_1 hv_3 => aInt .i64 r_1 fun x_7 => gSl (Addr.add ⟨b_1, 0, none⟩ 1) hv_3 fun x_8 xn_3 xc_3 => same (.slice x_6 xn_2 xc_2) (.slice x_8 xn_3 xc_3) (ck ((0 : Int) ≤ wrapF .i64 (64 * x_7) ∧ (wrapF .i64 (64 * x_7) : Int) ≤ wrapF .i64 (64 * x_7) ∧ wrapF .i64 (64 * x_7) ≤ (most : Int)) (nw (.cells Y_uint8 false (manyN (Int.toNat (wrapF .i64 (64 * x_7))) [.int .u8 0])) hv_3 fun b_3 hv_4 => bnd (call F_ref1_NewSpace [.int .i64 ((xn_2 : Nat) : Int)] hv_4) fun r_2 hv_5 => aPtr r_2 fun x_9 => nw (.cells Y_ref1_Regions false [.slice (some ⟨b_3, 0, none⟩) (Int.toNat (wrapF .i64 (64 * x_7))) (Int.toNat (wrapF .i64 (64 * x_7))), .slice none 0 0, .slice none 0 0, .pointer x_9]) hv_5 fun b_4 hv_6 => pV (Addr.add ⟨b_2, 0, none⟩ 6) (.pointer (some ⟨b_4, 0, none⟩)) hv_6 fun hv_7 => run F_ref1_NewKern 3008 [.pointer (some ⟨b_1, 0, none⟩), .pointer (some ⟨b_2, 0, none⟩), .int .i64 0] hv_7))))
  | _ => none
noncomputable def X_ref1_NewKern_L1 : XPoly := fun G _ call run a h => match a with
  | [.pointer (some b), .pointer (some k), .int .i64 i] =>
  gSl (Addr.add b 2) h fun _ xn _ => cond (iltF i ((xn : Nat) : Int))
      (gSl (Addr.add k 7) h fun x_1 xn_1 xc_1 => gInt .i64 (Addr.add b 3) h fun x_2 => bnd (call F_ref1_NewSect [.int .i64 x_2] h) fun r hv => aPtr r fun x_3 => gSl (Addr.add k 7) hv fun x_4 xn_2 xc_2 => same (.slice x_1 xn_1 xc_1) (.slice x_4 xn_2 xc_2) (nw (.cells Y_p_ref1_Sect false [.pointer x_3]) hv fun b_1 hv_1 => gCells (some ⟨b_1, 0, none⟩) (1 * 1) hv_1 fun cs => ckB (fitsOpen x_1 Y_p_ref1_Sect hv_1) (apd Y_p_ref1_Sect 1 x_1 xn_1 xc_1 1 cs hv_1 fun a an ac hv_2 => pV (Addr.add k 7) (.slice a an ac) hv_2 fun hv_3 => run F_ref1_NewKern 3008 [.pointer (some b), .pointer (some k), .int .i64 (wrapF .i64 (i + 1))] hv_3)))
      (run F_ref1_NewKern 3016 [.pointer (some b), .pointer (some k), .int .i64 0] h)
  | _ => none
noncomputable def LB_ref1_NewKern_L1 : Lab := ⟨F_ref1_NewKern, 3008, T_ref1_NewKern_L1, [1, 3, 4], X_ref1_NewKern_L1⟩
noncomputable def X_ref1_NewKern_L2 : XPoly := fun G _ call run a h => match a with
  | [.pointer (some b), .pointer (some k), .int .i64 i] =>
  gSl (Addr.add b 4) h fun _ xn _ => cond (iltF i ((xn : Nat) : Int))
      (gSl (Addr.add b 4) h fun x_1 xn_1 _ => aSome x_1 fun p => ckRF i xn_1 (gAgg (Addr.add (bare p) (Int.toNat i * 5)) 5 h fun x_2 => nw (.cells Y_api_Share false [.int .i64 0, .int .i64 0, .int .i64 0, .int .i64 0, .slice none 0 0]) h fun b_1 hv => ck (List.length x_2 = 5) (pAgg ⟨b_1, 0, none⟩ x_2 hv fun hv_1 => gPtr (Addr.add k 6) hv_1 fun x_3 => gPtr (Addr.add k 5) hv_1 fun x_4 => gInt .i64 (Addr.add ⟨b_1, 0, none⟩ 0) hv_1 fun x_5 => gInt .i64 (Addr.add ⟨b_1, 0, none⟩ 1) hv_1 fun x_6 => gInt .i64 (Addr.add ⟨b_1, 0, none⟩ 2) hv_1 fun x_7 => gInt .i64 (Addr.add ⟨b_1, 0, none⟩ 3) hv_1 fun x_8 => bnd (call F_ref1_Quota_First [.pointer x_4, .int .i64 x_5] hv_1) fun r hv_2 => aInt .i64 r fun x_9 => gPtr (Addr.add k 6) hv_2 fun x_10 => same (.pointer x_3) (.pointer x_10) (gInt .i64 (Addr.add ⟨b_1, 0, none⟩ 1) hv_2 fun x_11 => same (.int .i64 x_6) (.int .i64 x_11) (gInt .i64 (Addr.add ⟨b_1, 0, none⟩ 2) hv_2 fun x_12 => same (.int .i64 x_7) (.int .i64 x_12) (gInt .i64 (Addr.add ⟨b_1, 0, none⟩ 3) hv_2 fun x_13 => same (.int .i64 x_8) (.int .i64 x_13) (bnd (call F_ref1_Regions_Add [.pointer x_3, .int .i64 (wrapF .i64 ((wrapF .i64 (64 * (wrapF .i64 (x_9 + x_6)))) + x_7)), .int .i64 x_8] hv_2) fun r_1 hv_3 => as2 r_1 fun r_2 r_3 => aInt .i64 r_2 fun x_14 => aInt .i64 r_3 fun _ => run F_ref1_NewKern 7026 [.pointer (some b), .pointer (some k), .int .i64 i, .pointer (some ⟨b_1, 0, none⟩), .int .i64 x_14, .int .i64 0] hv_3)))))))
      (some (.pointer (some k), h))
  | _ => none
noncomputable def LB_ref1_NewKern_L2 : Lab := ⟨F_ref1_NewKern, 3016, T_ref1_NewKern_L2, [1, 3, 5], X_ref1_NewKern_L2⟩
noncomputable def X_ref1_NewKern_L3 : XPoly := fun G _ call run a h => match a with
  | [.pointer (some b), .pointer (some k), .int .i64 i, .pointer (some s), .int .i64 obj, .int .i64 e] =>
  gSl (Addr.add b 1) h fun _ xn _ => cond (iltF e ((xn : Nat) : Int))
      (gSl (Addr.add s 4) h fun x_1 xn_1 xc_1 => gSl (Addr.add b 1) h fun x_2 xn_2 _ => aSome x_2 fun p => ckRF e xn_2 (gInt .i64 (Addr.add (bare p) (Int.toNat e * 1)) h fun x_3 => bnd (call F_ref1_in [.slice x_1 xn_1 xc_1, .int .i64 x_3] h) fun r hv => aBool r fun x_4 => cond x_4
      (gPtr (Addr.add k 6) hv fun x_5 => aSome x_5 fun p_1 => gPtr (Addr.add p_1 3) hv fun x_6 => gInt .i64 (Addr.add s 3) hv fun x_7 => bnd (call F_ref1_Space_Put [.pointer x_6, .int .i64 e, .agg ⟨[.int .i64 obj, .int .i64 3, .int .i64 0, .int .i64 x_7, .int .i64 0, .int .i64 0]⟩] hv) fun r_1 hv_1 => as2 r_1 fun r_2 r_3 => aInt .i64 r_2 fun _ => aInt .i64 r_3 fun _ => run F_ref1_NewKern 7026 [.pointer (some b), .pointer (some k), .int .i64 i, .pointer (some s), .int .i64 obj, .int .i64 (wrapF .i64 (e + 1))] hv_1)
      (run F_ref1_NewKern 7026 [.pointer (some b), .pointer (some k), .int .i64 i, .pointer (some s), .int .i64 obj, .int .i64 (wrapF .i64 (e + 1))] hv)))
      (run F_ref1_NewKern 3016 [.pointer (some b), .pointer (some k), .int .i64 (wrapF .i64 (i + 1))] h)
  | _ => none
noncomputable def LB_ref1_NewKern_L3 : Lab := ⟨F_ref1_NewKern, 7026, T_ref1_NewKern_L3, [1, 3, 5, 6, 7, 9], X_ref1_NewKern_L3⟩
noncomputable def X_commons_pipe : XPoly := fun G _ call run a h => match a with
  | [.int .i64 i] =>
  nw (.cells Y_api_Rec false [.int .i64 0, .int .i64 0]) h fun b hv => pAgg ⟨b, 0, none⟩ [.int .i64 3, .int .i64 i] hv fun hv_1 => gAgg ⟨b, 0, none⟩ 2 hv_1 fun x => some (.agg ⟨x⟩, hv_1)
  | _ => none
noncomputable def X_commons_FrontOf : XPoly := fun G _ call run a h => match a with
  | [.slice b bn bc] =>
  cond (ineF ((bn : Nat) : Int) 4)
      (some (.tuple ⟨[.int .i64 0, .int .i64 2]⟩, h))
      (aSome b fun p => ckRF 0 bn (gInt .u8 (Addr.add (bare p) (Int.toNat 0 * 1)) h fun x => bnd (call F_commons_FrontBytes [.int .i64 (wrapF .i64 (x))] h) fun r hv => as2 r fun r_1 r_2 => aSl r_1 fun x_1 xn _ => aBool r_2 fun x_2 => bnd (cond (!x_2) (some (true, hv)) (gCells x_1 xn hv fun cs => asBytes cs fun l => gCells b bn hv fun cs_1 => asBytes cs_1 fun l_1 => some (!((ByteArray.mk ⟨l⟩).toList == (ByteArray.mk ⟨l_1⟩).toList), hv))) fun c hv_1 => cond c
      (some (.tuple ⟨[.int .i64 0, .int .i64 2]⟩, hv_1))
      (aSome b fun p_1 => ckRF 0 bn (gInt .u8 (Addr.add (bare p_1) (Int.toNat 0 * 1)) hv_1 fun x_3 => some (.tuple ⟨[.int .i64 (wrapF .i64 (x_3)), .int .i64 1]⟩, hv_1)))))
  | _ => none
noncomputable def X_commons_Commons_write : XPoly := fun G _ call run a h => match a with
  | [.pointer c, .agg ⟨r⟩, .slice b bn bc, .bool ok] =>
  nw (.cells Y_api_Rec false r) h fun b_1 hv => gAgg ⟨b_1, 0, none⟩ 2 hv fun x => bnd (call F_commons_Commons_place [.pointer c, .agg ⟨x⟩] hv) fun r_1 hv_1 => as2 r_1 fun r_2 r_3 => aAgg r_2 fun x_1 => aBool r_3 fun x_2 => nw (.cells Y_commons_place false [.int .i64 0, .int .i64 0, .int .i64 0]) hv_1 fun b_2 hv_2 => ck (List.length x_1 = 3) (pAgg ⟨b_2, 0, none⟩ x_1 hv_2 fun hv_3 => bnd (cond (!x_2) (some (true, hv_3)) (some (!ok, hv_3))) fun c_1 hv_4 => bnd (cond c_1 (some (true, hv_4)) (aSome c fun p => gMap (Addr.add p 3) hv_4 fun x_3 => gAgg ⟨b_1, 0, none⟩ 2 hv_4 fun x_4 => keyN PR Y_api_Rec (.agg ⟨x_4⟩) (opt x_3 fun r_4 => mapAt hv_4 r_4 fun es _ => opt (lookM (.int .i64 0) (.agg ⟨x_4⟩) es) fun f => aInt .i64 f.1 fun x_5 => some (iltF 0 x_5, hv_4)))) fun c_2 hv_5 => cond c_2
      (some (.bool false, hv_5))
      (aSome c fun p_1 => gPtr (Addr.add p_1 0) hv_5 fun x_6 => aSome c fun p_2 => gInt .i64 (Addr.add p_2 1) hv_5 fun x_7 => gInt .i64 (Addr.add ⟨b_2, 0, none⟩ 0) hv_5 fun x_8 => gInt .i64 (Addr.add ⟨b_2, 0, none⟩ 1) hv_5 fun x_9 => bnd (call F_kern_Kern_Do [.pointer x_6, .int .i64 x_7, .agg ⟨[.int .i64 2, .int .i64 x_8, .int .i64 x_9, .int .i64 0, .int .i64 0, .int .i64 0, .slice b bn bc]⟩] hv_5) fun r_5 hv_6 => aAgg r_5 fun x_10 => nth x_10 0 fun E => aInt .i64 E fun E_1 => some (.bool (ieqF E_1 0), hv_6)))
  | _ => none
noncomputable def X_commons_FrontBytes : XPoly := fun G _ call run a h => match a with
  | [.int .i64 g] =>
  bnd (cond (iltF g 0) (some (true, h)) (some (ileF 8 g, h))) fun c hv => cond c
      (some (.tuple ⟨[.slice none 0 0, .bool false]⟩, hv))
      (nw (.cells Y_uint8 false [.int .u8 (wrapF .u8 (g)), .int .u8 211]) hv fun b hv_1 => bnd (call F_codec_Sum [.slice (some ⟨b, 0, none⟩) 2 2] hv_1) fun r hv_2 => aInt .u8 r fun x => nw (.cells Y_uint8 false [.int .u8 x, .int .u8 0]) hv_2 fun b_1 hv_3 => gCells (some ⟨b_1, 0, none⟩) (2 * 1) hv_3 fun cs => ckB (fitsOpen (some ⟨b, 0, none⟩) Y_uint8 hv_3) (apd Y_uint8 1 (some ⟨b, 0, none⟩) 2 2 2 cs hv_3 fun a an ac hv_4 => some (.tuple ⟨[.slice a an ac, .bool true]⟩, hv_4)))
  | _ => none
noncomputable def X_ref11_PipeBytes : XPoly := fun G _ call run a h => match a with
  | [.agg ⟨p⟩] =>
  nw (.cells Y_api_Pipe false p) h fun b hv => gInt .i64 (Addr.add ⟨b, 0, none⟩ 0) hv fun x => gInt .i64 (Addr.add ⟨b, 0, none⟩ 1) hv fun x_1 => gInt .i64 (Addr.add ⟨b, 0, none⟩ 2) hv fun x_2 => gInt .i64 (Addr.add ⟨b, 0, none⟩ 3) hv fun x_3 => nw (.cells Y_uint8 false [.int .u8 1, .int .u8 (wrapF .u8 (x)), .int .u8 (wrapF .u8 (x_1)), .int .u8 (wrapF .u8 (x_2)), .int .u8 (wrapF .u8 (x_3)), .int .u8 197]) hv fun b_1 hv_1 => gCells (some ⟨b_1, 0, none⟩) 6 hv_1 fun cs => asBytes cs fun l => bnd (call F_ref1_Sum [.string (ByteArray.mk ⟨l⟩)] hv_1) fun r hv_2 => aInt .u8 r fun x_4 => nw (.cells Y_uint8 false [.int .u8 x_4, .int .u8 0]) hv_2 fun b_2 hv_3 => gCells (some ⟨b_2, 0, none⟩) 2 hv_3 fun cs_1 => asBytes cs_1 fun l_1 => ck (ByteArray.size (ByteArray.mk ⟨l⟩) + ByteArray.size (ByteArray.mk ⟨l_1⟩) ≤ most) (run F_ref11_PipeBytes 3008 [.pointer (some ⟨b, 0, none⟩), .string ((ByteArray.mk ⟨l⟩) ++ (ByteArray.mk ⟨l_1⟩)), .int .i64 0] hv_3)
  | _ => none
noncomputable def X_ref11_PipeBytes_L1 : XPoly := fun G _ call run a h => match a with
  | [.pointer (some p), .string s, .int .i64 i] =>
  cond (iltF i 32)
      (ckRF i 32 (gInt .u8 (Addr.add (Addr.add p 4) (Int.toNat i * 1)) h fun x => nw (.cells Y_uint8 false [.int .u8 x]) h fun b hv => gCells (some ⟨b, 0, none⟩) 1 hv fun cs => asBytes cs fun l => ck (ByteArray.size s + ByteArray.size (ByteArray.mk ⟨l⟩) ≤ most) (run F_ref11_PipeBytes 3008 [.pointer (some p), .string (s ++ (ByteArray.mk ⟨l⟩)), .int .i64 (wrapF .i64 (i + 1))] hv)))
      (some (.string s, h))
  | _ => none
noncomputable def LB_ref11_PipeBytes_L1 : Lab := ⟨F_ref11_PipeBytes, 3008, T_ref11_PipeBytes_L1, [1, 3, 4], X_ref11_PipeBytes_L1⟩
noncomputable def X_proc_share : XPoly := fun G _ call run a h => match a with
  | [.pointer c, .agg ⟨p⟩] =>
  nw (.cells Y_api_Proc false p) h fun b hv => nw (.cells Y_12_int false [.int .i64 0, .int .i64 0, .int .i64 0, .int .i64 0, .int .i64 0, .int .i64 0, .int .i64 0, .int .i64 0, .int .i64 0, .int .i64 0, .int .i64 0, .int .i64 0]) hv fun b_1 hv_1 => gAgg (Addr.add ⟨b, 0, none⟩ 8) 8 hv_1 fun x => run F_proc_share 3006 [.pointer c, .pointer (some ⟨b, 0, none⟩), .pointer (some ⟨b_1, 0, none⟩), .agg ⟨x⟩, .int .i64 0] hv_1
  | _ => none
noncomputable def X_proc_share_L1 : XPoly := fun G _ call run a h => match a with
  | [.pointer c, .pointer (some p), .pointer (some more), .agg ⟨x17⟩, .int .i64 x18] =>
  cond (iltF x18 8)
      (ckRF x18 8 (nth x17 (Int.toNat x18 * 1) fun x => aInt .i64 x fun x_1 => cond (iltF 0 x_1)
      (ckRF (wrapF .i64 (x_1 - 1)) 12 (gInt .i64 (Addr.add more (Int.toNat (wrapF .i64 (x_1 - 1)) * 1)) h fun x_2 => ckRF (wrapF .i64 (x_1 - 1)) 12 (pV (Addr.add more (Int.toNat (wrapF .i64 (x_1 - 1)) * 1)) (.int .i64 (wrapF .i64 (x_2 + 1))) h fun hv => run F_proc_share 3006 [.pointer c, .pointer (some p), .pointer (some more), .agg ⟨x17⟩, .int .i64 (wrapF .i64 (x18 + 1))] hv)))
      (run F_proc_share 3006 [.pointer c, .pointer (some p), .pointer (some more), .agg ⟨x17⟩, .int .i64 (wrapF .i64 (x18 + 1))] h)))
      (gAgg (Addr.add p 8) 8 h fun x_3 => run F_proc_share 3018 [.pointer c, .pointer (some more), .agg ⟨x_3⟩, .int .i64 0] h)
  | _ => none
noncomputable def LB_proc_share_L1 : Lab := ⟨F_proc_share, 3006, T_proc_share_L1, [0, 3, 5, 17, 18], X_proc_share_L1⟩
noncomputable def X_proc_share_L2 : XPoly := fun G _ call run a h => match a with
  | [.pointer c, .pointer (some more), .agg ⟨x31⟩, .int .i64 x32] =>
  cond (iltF x32 8)
      (ckRF x32 8 (nth x31 (Int.toNat x32 * 1) fun x => aInt .i64 x fun x_1 => cond (ieqF x_1 0)
      (run F_proc_share 3018 [.pointer c, .pointer (some more), .agg ⟨x31⟩, .int .i64 (wrapF .i64 (x32 + 1))] h)
      (bnd (call F_commons_Commons_File [.pointer c, .int .i64 (wrapF .i64 (x_1 - 1))] h) fun r hv => as2 r fun r_1 r_2 => aAgg r_1 fun x_2 => aInt .i64 r_2 fun x_3 => nw (.cells Y_api_File false [.int .i64 0, .int .i64 0, .int .i64 0, .int .i64 0]) hv fun b hv_1 => ck (List.length x_2 = 4) (pAgg ⟨b, 0, none⟩ x_2 hv_1 fun hv_2 => cond (ineF x_3 1)
      (some (.int .i64 105, hv_2))
      (gInt .i64 (Addr.add ⟨b, 0, none⟩ 2) hv_2 fun x_4 => ckRF (wrapF .i64 (x_1 - 1)) 12 (gInt .i64 (Addr.add more (Int.toNat (wrapF .i64 (x_1 - 1)) * 1)) hv_2 fun x_5 => cond (iltF 64 (wrapF .i64 (x_4 + x_5)))
      (some (.int .i64 123, hv_2))
      (run F_proc_share 3018 [.pointer c, .pointer (some more), .agg ⟨x31⟩, .int .i64 (wrapF .i64 (x32 + 1))] hv_2)))))))
      (gAgg more 12 h fun x_6 => run F_proc_share 3038 [.pointer c, .agg ⟨x_6⟩, .int .i64 0] h)
  | _ => none
noncomputable def LB_proc_share_L2 : Lab := ⟨F_proc_share, 3018, T_proc_share_L2, [0, 5, 31, 32], X_proc_share_L2⟩
noncomputable def X_proc_share_L3 : XPoly := fun G _ call run a h => match a with
  | [.pointer c, .agg ⟨x57⟩, .int .i64 x58] =>
  cond (iltF x58 12)
      (ckRF x58 12 (nth x57 (Int.toNat x58 * 1) fun x => aInt .i64 x fun x_1 => cond (ieqF x_1 0)
      (run F_proc_share 3038 [.pointer c, .agg ⟨x57⟩, .int .i64 (wrapF .i64 (x58 + 1))] h)
      (bnd (call F_commons_Commons_File [.pointer c, .int .i64 x58] h) fun r hv => as2 r fun r_1 r_2 => aAgg r_1 fun x_2 => aInt .i64 r_2 fun _ => nw (.cells Y_api_File false [.int .i64 0, .int .i64 0, .int .i64 0, .int .i64 0]) hv fun b hv_1 => ck (List.length x_2 = 4) (pAgg ⟨b, 0, none⟩ x_2 hv_1 fun hv_2 => gInt .i64 (Addr.add ⟨b, 0, none⟩ 2) hv_2 fun x_4 => pV (Addr.add ⟨b, 0, none⟩ 2) (.int .i64 (wrapF .i64 (x_4 + x_1))) hv_2 fun hv_3 => gAgg ⟨b, 0, none⟩ 4 hv_3 fun x_5 => bnd (call F_commons_Commons_SetFile [.pointer c, .int .i64 x58, .agg ⟨x_5⟩] hv_3) fun r_3 hv_4 => aBool r_3 fun x_6 => cond (!x_6)
      (some (.int .i64 105, hv_4))
      (run F_proc_share 3038 [.pointer c, .agg ⟨x57⟩, .int .i64 (wrapF .i64 (x58 + 1))] hv_4)))))
      (some (.int .i64 0, h))
  | _ => none
noncomputable def LB_proc_share_L3 : Lab := ⟨F_proc_share, 3038, T_proc_share_L3, [0, 57, 58], X_proc_share_L3⟩
noncomputable def X_mem_Mem_Load : XPoly := fun G _ call run a h => match a with
  | [.pointer m, .int .i64 atv, .int .i64 n] =>
  bnd (call F_mem_Mem_in [.pointer m, .int .i64 atv, .int .i64 n] h) fun r hv => aBool r fun x => cond (!x)
      (some (.tuple ⟨[.slice none 0 0, .int .i64 1]⟩, hv))
      (aSome m fun p => gSl (Addr.add p 0) hv fun x_1 _ xc => ckB (fitsOpen x_1 Y_uint8 hv) (ckLF (wrapF .i64 (atv + n)) xc (ckLF atv (Int.toNat (wrapF .i64 (atv + n))) (bnd (call F_slices_Clone_s_byte_byte [.slice (moved x_1 (decide (Int.toNat atv < xc)) ((Int.toNat atv) * 1)) ((Int.toNat (wrapF .i64 (atv + n))) - (Int.toNat atv)) (xc - (Int.toNat atv))] hv) fun r_1 hv_1 => aSl r_1 fun x_2 xn_1 xc_1 => some (.tuple ⟨[.slice x_2 xn_1 xc_1, .int .i64 0]⟩, hv_1)))))
  | _ => none
noncomputable def X_fds_Pipe_2 : XPoly := fun G _ call run a h => match a with
  | [.int .i64 k, .pointer (some fv0)] =>
  gPtr fv0 h fun x => bnd (call F_commons_Commons_Pipe [.pointer x, .int .i64 k] h) fun r hv => as2 r fun r_1 r_2 => aAgg r_1 fun x_1 => aInt .i64 r_2 fun x_2 => nw (.cells Y_api_Pipe false [.int .i64 0, .int .i64 0, .int .i64 0, .int .i64 0, .int .u8 0, .int .u8 0, .int .u8 0, .int .u8 0, .int .u8 0, .int .u8 0, .int .u8 0, .int .u8 0, .int .u8 0, .int .u8 0, .int .u8 0, .int .u8 0, .int .u8 0, .int .u8 0, .int .u8 0, .int .u8 0, .int .u8 0, .int .u8 0, .int .u8 0, .int .u8 0, .int .u8 0, .int .u8 0, .int .u8 0, .int .u8 0, .int .u8 0, .int .u8 0, .int .u8 0, .int .u8 0, .int .u8 0, .int .u8 0, .int .u8 0, .int .u8 0]) hv fun b hv_1 => ck (List.length x_1 = 36) (pAgg ⟨b, 0, none⟩ x_1 hv_1 fun hv_2 => some (.bool (ieqF x_2 0), hv_2))
  | _ => none
noncomputable def X_commons_Commons_SetPipe : XPoly := fun G _ call run a h => match a with
  | [.pointer c, .int .i64 i, .agg ⟨p⟩] =>
  nw (.cells Y_api_Pipe false p) h fun b hv => gAgg ⟨b, 0, none⟩ 36 hv fun x => bnd (call F_ring_Encode [.agg ⟨x⟩] hv) fun r hv_1 => as2 r fun r_1 r_2 => aSl r_1 fun x_1 xn xc => aBool r_2 fun x_2 => bnd (call F_commons_pipe [.int .i64 i] hv_1) fun r_3 hv_2 => aAgg r_3 fun x_3 => bnd (call F_commons_Commons_write [.pointer c, .agg ⟨x_3⟩, .slice x_1 xn xc, .bool x_2] hv_2) fun r_4 hv_3 => aBool r_4 fun x_4 => some (.bool x_4, hv_3)
  | _ => none
noncomputable def X_fds_named : XPoly := fun G _ call run a h => match a with
  | [.agg ⟨p⟩, .int .i64 fd] =>
  nw (.cells Y_api_Proc false p) h fun b hv => bnd (cond (ileF 0 fd) (some (iltF fd 8, hv)) (some (false, hv))) fun c hv_1 => bnd (cond c (ckRF fd 8 (gInt .i64 (Addr.add (Addr.add ⟨b, 0, none⟩ 8) (Int.toNat fd * 1)) hv_1 fun x => some (iltF 0 x, hv_1))) (some (false, hv_1))) fun c_1 hv_2 => some (.bool c_1, hv_2)
  | _ => none
noncomputable def X_caps_New : XPoly := fun G _ call run a h => match a with
  | [.int .i64 envs] =>
  nw (.cells Y_caps_Space false [.slice none 0 0]) h fun b hv => run F_caps_New 3006 [.pointer (some ⟨b, 0, none⟩), .int .i64 (mm2 false (mm2 true envs 0) 40), .int .i64 0] hv
  | _ => none
noncomputable def X_caps_New_L1 : XPoly := fun G _ call run a h => match a with
  | [.pointer (some s), .int .i64 x8, .int .i64 x9] =>
  cond (iltF x9 x8)
      (gSl (Addr.add s 0) h fun x xn xc => bnd (call F_table_New_api_Cap [.int .i64 32] h) fun r hv => aPtr r fun x_1 => gSl (Addr.add s 0) hv fun x_2 xn_1 xc_1 => same (.slice x xn xc) (.slice x_2 xn_1 xc_1) (nw (.cells Y_p_table_Table_api_Cap false [.pointer x_1]) hv fun b hv_1 => gCells (some ⟨b, 0, none⟩) (1 * 1) hv_1 fun cs => ckB (fitsOpen x Y_p_table_Table_api_Cap hv_1) (apd Y_p_table_Table_api_Cap 1 x xn xc 1 cs hv_1 fun a an ac hv_2 => pV (Addr.add s 0) (.slice a an ac) hv_2 fun hv_3 => run F_caps_New 3006 [.pointer (some s), .int .i64 x8, .int .i64 (wrapF .i64 (x9 + 1))] hv_3)))
      (some (.pointer (some s), h))
  | _ => none
noncomputable def LB_caps_New_L1 : Lab := ⟨F_caps_New, 3006, T_caps_New_L1, [3, 8, 9], X_caps_New_L1⟩
noncomputable def X_sect_New : XPoly := fun G _ call run a h => match a with
  | [.int .i64 lease] =>
  nw (.cells Y_sect_Sect false [.int .i64 (mm2 false (mm2 true lease 1) 1000), .bool false, .int .i64 0, .int .i64 0, .int .i64 0, .slice none 0 0, .int .i64 0, .int .i64 0, .int .i64 0]) h fun b hv => some (.pointer (some ⟨b, 0, none⟩), hv)
  | _ => none
noncomputable def X_ref1_NewSect : XPoly := fun G _ call run a h => match a with
  | [.int .i64 lease] =>
  nw (.cells Y_ref1_Sect false [.int .i64 (mm2 false (mm2 true lease 1) 1000), .int .i64 0, .int .i64 0, .int .i64 0, .int .i64 0, .int .i64 0, .bool false, .int .i64 0, .slice none 0 0]) h fun b hv => some (.pointer (some ⟨b, 0, none⟩), hv)
  | _ => none
noncomputable def X_ref15_FrontBytes : XPoly := fun G _ call run a h => match a with
  | [.int .i64 g] =>
  nw (.cells Y_uint8 false [.int .u8 (wrapF .u8 (g)), .int .u8 211]) h fun b hv => gCells (some ⟨b, 0, none⟩) 2 hv fun cs => asBytes cs fun l => bnd (call F_ref1_Sum [.string (ByteArray.mk ⟨l⟩)] hv) fun r hv_1 => aInt .u8 r fun x => nw (.cells Y_uint8 false [.int .u8 x, .int .u8 0]) hv_1 fun b_1 hv_2 => gCells (some ⟨b_1, 0, none⟩) 2 hv_2 fun cs_1 => asBytes cs_1 fun l_1 => ck (ByteArray.size (ByteArray.mk ⟨l⟩) + ByteArray.size (ByteArray.mk ⟨l_1⟩) ≤ most) (some (.string ((ByteArray.mk ⟨l⟩) ++ (ByteArray.mk ⟨l_1⟩)), hv_2))
  | _ => none
noncomputable def X_ref1_Space_Grant : XPoly := fun G _ call run a h => match a with
  | [.pointer s, .int .i64 e, .int .i64 name, .int .i64 to, .int .i64 rights, .int .i64 lo, .int .i64 n] =>
  bnd (call F_ref1_Space_Get [.pointer s, .int .i64 e, .int .i64 name] h) fun r hv => as2 r fun r_1 r_2 => aAgg r_1 fun x => aInt .i64 r_2 fun x_1 => nw (.cells Y_api_Cap false [.int .i64 0, .int .i64 0, .int .i64 0, .int .i64 0, .int .i64 0, .int .i64 0]) hv fun b hv_1 => ck (List.length x = 6) (pAgg ⟨b, 0, none⟩ x hv_1 fun hv_2 => cond (ineF x_1 0)
      (some (.tuple ⟨[.int .i64 0, .int .i64 x_1]⟩, hv_2))
      (gInt .i64 (Addr.add ⟨b, 0, none⟩ 1) hv_2 fun x_2 => bnd (cond (ieqF (bitAF .i64 x_2 4) 0) (some (true, hv_2)) (some (iltF rights 0, hv_2))) fun c hv_3 => bnd (cond c (some (true, hv_3)) (some (iltF 7 rights, hv_3))) fun c_1 hv_4 => bnd (cond c_1 (some (true, hv_4)) (gInt .i64 (Addr.add ⟨b, 0, none⟩ 1) hv_4 fun x_3 => some (ineF (bitN .i64 rights x_3) 0, hv_4))) fun c_2 hv_5 => cond c_2
      (some (.tuple ⟨[.int .i64 0, .int .i64 3]⟩, hv_5))
      (bnd (call F_ref1_Space_env [.pointer s, .int .i64 to] hv_5) fun r_3 hv_6 => aBool r_3 fun x_4 => bnd (cond (!x_4) (some (true, hv_6)) (gInt .i64 (Addr.add ⟨b, 0, none⟩ 3) hv_6 fun x_5 => bnd (call F_ref1_Within [.int .i64 lo, .int .i64 n, .int .i64 x_5] hv_6) fun r_4 hv_7 => aBool r_4 fun x_6 => some (!x_6, hv_7))) fun c_3 hv_8 => cond c_3
      (some (.tuple ⟨[.int .i64 0, .int .i64 1]⟩, hv_8))
      (gInt .i64 (Addr.add ⟨b, 0, none⟩ 0) hv_8 fun x_7 => gInt .i64 (Addr.add ⟨b, 0, none⟩ 2) hv_8 fun x_8 => bnd (call F_ref1_Space_add [.pointer s, .int .i64 to, .agg ⟨[.int .i64 x_7, .int .i64 rights, .int .i64 (wrapF .i64 (x_8 + lo)), .int .i64 n, .int .i64 e, .int .i64 name]⟩] hv_8) fun r_5 hv_9 => as2 r_5 fun r_6 r_7 => aInt .i64 r_6 fun x_9 => aInt .i64 r_7 fun x_10 => some (.tuple ⟨[.int .i64 x_9, .int .i64 x_10]⟩, hv_9)))))
  | _ => none
noncomputable def X_ref1_Space_All : XPoly := fun G _ call run a h => match a with
  | [.pointer s, .int .i64 e] =>
  bnd (call F_ref1_Space_env [.pointer s, .int .i64 e] h) fun r hv => aBool r fun x => cond (!x)
      (some (.slice none 0 0, hv))
      (aSome s fun p => gSl (Addr.add p 0) hv fun x_1 xn _ => aSome x_1 fun p_1 => ckRF e xn (gPtr (Addr.add (bare p_1) (Int.toNat e * 1)) hv fun x_2 => bnd (call F_ref1_Names_All [.pointer x_2] hv) fun r_1 hv_1 => aSl r_1 fun x_3 xn_1 xc_1 => some (.slice x_3 xn_1 xc_1, hv_1)))
  | _ => none
noncomputable def X_region_Regions_Write : XPoly := fun G _ call run a h => match a with
  | [.pointer r, .int .i64 env, .int .i64 name, .int .i64 atv, .slice b bn bc] =>
  bnd (call F_region_Regions_place [.pointer r, .int .i64 env, .int .i64 name, .int .i64 2, .int .i64 atv, .int .i64 ((bn : Nat) : Int)] h) fun r_1 hv => as2 r_1 fun r_2 r_3 => aInt .i64 r_2 fun x => aInt .i64 r_3 fun x_1 => cond (ineF x_1 0)
      (some (.int .i64 x_1, hv))
      (aSome r fun p => gPtr (Addr.add p 0) hv fun x_2 => bnd (call F_mem_Mem_Store [.pointer x_2, .int .i64 x, .slice b bn bc] hv) fun r_4 hv_1 => aInt .i64 r_4 fun x_3 => some (.int .i64 x_3, hv_1))
  | _ => none
noncomputable def X_region_Regions_Copy : XPoly := fun G _ call run a h => match a with
  | [.pointer r, .int .i64 env, .int .i64 fromv, .int .i64 atv, .int .i64 to, .int .i64 on, .int .i64 n] =>
  bnd (call F_region_Regions_Read [.pointer r, .int .i64 env, .int .i64 fromv, .int .i64 atv, .int .i64 n] h) fun r_1 hv => as2 r_1 fun r_2 r_3 => aSl r_2 fun x xn xc => aInt .i64 r_3 fun x_1 => cond (ineF x_1 0)
      (some (.int .i64 x_1, hv))
      (bnd (call F_region_Regions_Write [.pointer r, .int .i64 env, .int .i64 to, .int .i64 on, .slice x xn xc] hv) fun r_4 hv_1 => aInt .i64 r_4 fun x_2 => some (.int .i64 x_2, hv_1))
  | _ => none
noncomputable def X_kern_Kern_enter : XPoly := fun G _ call run a h => match a with
  | [.pointer k, .int .i64 env, .agg ⟨c⟩] =>
  nw (.cells Y_api_Call false c) h fun b hv => gInt .i64 (Addr.add ⟨b, 0, none⟩ 3) hv fun x => bnd (call F_kern_Kern_sect [.pointer k, .int .i64 env, .int .i64 x] hv) fun r hv_1 => as2 r fun r_1 r_2 => aPtr r_1 fun x_1 => aInt .i64 r_2 fun x_2 => cond (ineF x_2 0)
      (some (.tuple ⟨[.int .i64 0, .int .i64 x_2]⟩, hv_1))
      (aSome k fun p => gInt .i64 (Addr.add p 7) hv_1 fun x_3 => bnd (call F_sect_Sect_Enter [.pointer x_1, .int .i64 env, .int .i64 x_3] hv_1) fun r_3 hv_2 => as2 r_3 fun r_4 r_5 => aInt .i64 r_4 fun x_4 => aBool r_5 fun _ => some (.tuple ⟨[.int .i64 x_4, .int .i64 0]⟩, hv_2))
  | _ => none
noncomputable def X_pslot_Codec : XPoly := fun G _ call run a h => match a with
  | [] =>
  bnd (call F_codec_New_api_Proc [.int .i64 24, .func (.func F_pslot_put) ⟨[]⟩ ⟨[]⟩, .func (.func F_pslot_get) ⟨[]⟩ ⟨[]⟩] h) fun r hv => aPtr r fun x => some (.pointer x, hv)
  | _ => none
noncomputable def X_codec_Codec_api_File_Decode : XPoly := fun G _ call run a h => match a with
  | [.pointer c, .slice b bn bc] =>
  nw (.cells Y_api_File false [.int .i64 0, .int .i64 0, .int .i64 0, .int .i64 0]) h fun b_1 hv => nw (.cells Y_api_File false [.int .i64 0, .int .i64 0, .int .i64 0, .int .i64 0]) hv fun b_2 hv_1 => aSome c fun p => gFv (Addr.add p 2) hv_1 fun x => isNilF x fun b_3 => bnd (cond b_3 (some (true, hv_1)) (aSome c fun p_1 => gInt .i64 (Addr.add p_1 0) hv_1 fun x_1 => some (ineF ((bn : Nat) : Int) x_1, hv_1))) fun c_1 hv_2 => cond c_1
      (gAgg ⟨b_2, 0, none⟩ 4 hv_2 fun x_2 => ck (List.length x_2 = 4) (pAgg ⟨b_1, 0, none⟩ x_2 hv_2 fun hv_3 => gAgg ⟨b_1, 0, none⟩ 4 hv_3 fun x_3 => some (.tuple ⟨[.agg ⟨x_3⟩, .bool false]⟩, hv_3)))
      (aSome c fun p_2 => gFv (Addr.add p_2 2) hv_2 fun x_4 => nw (.cells Y_api_File false [.int .i64 0, .int .i64 0, .int .i64 0, .int .i64 0]) hv_2 fun b_4 hv_4 => bnd (call F_slices_Clone_s_byte_byte [.slice b bn bc] hv_4) fun r hv_5 => aSl r fun x_5 xn xc => gFv (Addr.add p_2 2) hv_5 fun x_6 => sameU (x_4) (x_6) (aFn x_4 fun g fi cp => bnd (call g (fi ++ ([.slice x_5 xn xc] ++ cp)) hv_5) fun r_1 hv_6 => as2 r_1 fun r_2 r_3 => aAgg r_2 fun x_7 => aBool r_3 fun x_8 => ck (List.length x_7 = 4) (pAgg ⟨b_4, 0, none⟩ x_7 hv_6 fun hv_7 => cond (!x_8)
      (gAgg ⟨b_2, 0, none⟩ 4 hv_7 fun x_9 => ck (List.length x_9 = 4) (pAgg ⟨b_1, 0, none⟩ x_9 hv_7 fun hv_8 => gAgg ⟨b_1, 0, none⟩ 4 hv_8 fun x_10 => some (.tuple ⟨[.agg ⟨x_10⟩, .bool false]⟩, hv_8)))
      (gAgg ⟨b_4, 0, none⟩ 4 hv_7 fun x_11 => ck (List.length x_11 = 4) (pAgg ⟨b_1, 0, none⟩ x_11 hv_7 fun hv_9 => gAgg ⟨b_1, 0, none⟩ 4 hv_9 fun x_12 => some (.tuple ⟨[.agg ⟨x_12⟩, .bool true]⟩, hv_9))))))
  | _ => none
noncomputable def X_ring_Codec : XPoly := fun G _ call run a h => match a with
  | [] =>
  bnd (call F_codec_New_api_Pipe [.int .i64 40, .func (.func F_ring_put) ⟨[]⟩ ⟨[]⟩, .func (.func F_ring_get) ⟨[]⟩ ⟨[]⟩] h) fun r hv => aPtr r fun x => some (.pointer x, hv)
  | _ => none
noncomputable def X_commons_Commons_place : XPoly := fun G _ call run a h => match a with
  | [.pointer c, .agg ⟨r⟩] =>
  nw (.cells Y_api_Rec false r) h fun b hv => nw (.cells Y_commons_place false [.int .i64 0, .int .i64 0, .int .i64 0]) hv fun b_1 hv_1 => gInt .i64 (Addr.add ⟨b, 0, none⟩ 1) hv_1 fun x => bnd (cond (iltF x 0) (some (true, hv_1)) (gInt .i64 (Addr.add ⟨b, 0, none⟩ 0) hv_1 fun x_1 => bnd (call F_commons_Commons_most [.pointer c, .int .i64 x_1] hv_1) fun r_1 hv_2 => aInt .i64 r_1 fun x_2 => some (ileF x_2 x, hv_2))) fun c_1 hv_3 => cond c_1
      (pAgg ⟨b_1, 0, none⟩ [.int .i64 0, .int .i64 0, .int .i64 0] hv_3 fun hv_4 => gAgg ⟨b_1, 0, none⟩ 3 hv_4 fun x_3 => some (.tuple ⟨[.agg ⟨x_3⟩, .bool false]⟩, hv_4))
      (aSome c fun p => gSl (Addr.add p 2) hv_3 fun x_4 xn _ => aSome x_4 fun p_1 => ckRF 0 xn (gInt .i64 (Addr.add (bare p_1) (Int.toNat 0 * 1)) hv_3 fun x_5 => gInt .i64 (Addr.add ⟨b, 0, none⟩ 0) hv_3 fun x_6 => cond (ieqF x_6 1)
      (pAgg ⟨b_1, 0, none⟩ [.int .i64 x_5, .int .i64 (wrapF .i64 (24 * x)), .int .i64 24] hv_3 fun hv_5 => gAgg ⟨b_1, 0, none⟩ 3 hv_5 fun x_7 => some (.tuple ⟨[.agg ⟨x_7⟩, .bool true]⟩, hv_5))
      (gInt .i64 (Addr.add ⟨b, 0, none⟩ 0) hv_3 fun x_8 => cond (ieqF x_8 2)
      (pAgg ⟨b_1, 0, none⟩ [.int .i64 x_5, .int .i64 (wrapF .i64 (192 + (wrapF .i64 (8 * x)))), .int .i64 8] hv_3 fun hv_6 => gAgg ⟨b_1, 0, none⟩ 3 hv_6 fun x_9 => some (.tuple ⟨[.agg ⟨x_9⟩, .bool true]⟩, hv_6))
      (gInt .i64 (Addr.add ⟨b, 0, none⟩ 0) hv_3 fun x_10 => bnd (cond (ieqF x_10 3) (some (iltF x 4, hv_3)) (some (false, hv_3))) fun c_2 hv_7 => cond c_2
      (pAgg ⟨b_1, 0, none⟩ [.int .i64 x_5, .int .i64 (wrapF .i64 (288 + (wrapF .i64 (40 * x)))), .int .i64 40] hv_7 fun hv_8 => gAgg ⟨b_1, 0, none⟩ 3 hv_8 fun x_11 => some (.tuple ⟨[.agg ⟨x_11⟩, .bool true]⟩, hv_8))
      (gInt .i64 (Addr.add ⟨b, 0, none⟩ 0) hv_7 fun x_12 => cond (ieqF x_12 3)
      (aSome c fun p_2 => gSl (Addr.add p_2 2) hv_7 fun x_13 xn_1 _ => aSome x_13 fun p_3 => ckRF (wrapF .i64 ((wrapF .i64 (x - 4)) + 1)) xn_1 (gInt .i64 (Addr.add (bare p_3) (Int.toNat (wrapF .i64 ((wrapF .i64 (x - 4)) + 1)) * 1)) hv_7 fun x_14 => pAgg ⟨b_1, 0, none⟩ [.int .i64 x_14, .int .i64 0, .int .i64 40] hv_7 fun hv_9 => gAgg ⟨b_1, 0, none⟩ 3 hv_9 fun x_15 => some (.tuple ⟨[.agg ⟨x_15⟩, .bool true]⟩, hv_9)))
      (gInt .i64 (Addr.add ⟨b, 0, none⟩ 0) hv_7 fun x_16 => cond (ieqF x_16 4)
      (pAgg ⟨b_1, 0, none⟩ [.int .i64 x_5, .int .i64 448, .int .i64 40] hv_7 fun hv_10 => gAgg ⟨b_1, 0, none⟩ 3 hv_10 fun x_17 => some (.tuple ⟨[.agg ⟨x_17⟩, .bool true]⟩, hv_10))
      (pAgg ⟨b_1, 0, none⟩ [.int .i64 x_5, .int .i64 488, .int .i64 4] hv_7 fun hv_11 => gAgg ⟨b_1, 0, none⟩ 3 hv_11 fun x_18 => some (.tuple ⟨[.agg ⟨x_18⟩, .bool true]⟩, hv_11))))))))
  | _ => none
noncomputable def X_mem_Mem_in : XPoly := fun G _ call run a h => match a with
  | [.pointer m, .int .i64 atv, .int .i64 n] =>
  bnd (cond (ileF 0 atv) (some (ileF 0 n, h)) (some (false, h))) fun c hv => bnd (cond c (aSome m fun p => gSl (Addr.add p 0) hv fun _ xn _ => some (ileF atv ((xn : Nat) : Int), hv)) (some (false, hv))) fun c_1 hv_1 => bnd (cond c_1 (aSome m fun p_1 => gSl (Addr.add p_1 0) hv_1 fun _ xn_1 _ => some (ileF n (wrapF .i64 (((xn_1 : Nat) : Int) - atv)), hv_1)) (some (false, hv_1))) fun c_2 hv_2 => some (.bool c_2, hv_2)
  | _ => none
noncomputable def X_ring_Encode : XPoly := fun G _ call run a h => match a with
  | [.agg ⟨p⟩] =>
  nw (.cells Y_api_Pipe false p) h fun b hv => gAgg ⟨b, 0, none⟩ 36 hv fun x => bnd (call F_ring_Codec [] hv) fun r hv_1 => aPtr r fun x_1 => gAgg ⟨b, 0, none⟩ 36 hv_1 fun x_2 => same (.agg ⟨x⟩) (.agg ⟨x_2⟩) (bnd (call F_codec_Codec_api_Pipe_Encode [.pointer x_1, .agg ⟨x⟩] hv_1) fun r_1 hv_2 => as2 r_1 fun r_2 r_3 => aSl r_2 fun x_3 xn xc => aBool r_3 fun x_4 => some (.tuple ⟨[.slice x_3 xn xc, .bool x_4]⟩, hv_2))
  | _ => none
noncomputable def X_kern_check_1 : XPoly := fun G _ call run a h => match a with
  | [.int .i64 s, .pointer (some fv0)] =>
  bnd (cond (iltF s 0) (some (true, h)) (gSl (Addr.add fv0 0) h fun _ xn _ => some (ileF ((xn : Nat) : Int) s, h))) fun c hv => some (.bool c, hv)
  | _ => none
noncomputable def X_mem_Mem_Size : XPoly := fun G _ call run a h => match a with
  | [.pointer m] =>
  aSome m fun p => gSl (Addr.add p 0) h fun _ xn _ => some (.int .i64 ((xn : Nat) : Int), h)
  | _ => none
noncomputable def X_ref1_Sect_Holds : XPoly := fun G _ call run a h => match a with
  | [.pointer s, .int .i64 who, .int .i64 stamp] =>
  aSome s fun p => gBool (Addr.add p 6) h fun x => bnd (cond x (aSome s fun p_1 => gInt .i64 (Addr.add p_1 1) h fun x_1 => some (ieqF x_1 who, h)) (some (false, h))) fun c hv => bnd (cond c (aSome s fun p_2 => gInt .i64 (Addr.add p_2 2) hv fun x_2 => some (ieqF x_2 stamp, hv)) (some (false, hv))) fun c_1 hv_1 => some (.bool c_1, hv_1)
  | _ => none
noncomputable def X_kern_Kern_sect : XPoly := fun G _ call run a h => match a with
  | [.pointer k, .int .i64 env, .int .i64 n] =>
  bnd (cond (iltF n 0) (some (true, h)) (aSome k fun p => gSl (Addr.add p 6) h fun _ xn _ => some (ileF ((xn : Nat) : Int) n, h))) fun c hv => bnd (cond c (some (true, hv)) (aSome k fun p_1 => gSl (Addr.add p_1 1) hv fun x_1 xn_1 _ => aSome x_1 fun p_2 => ckRF n xn_1 (gSl (Addr.add (bare p_2) (Int.toNat n * 1)) hv fun x_2 xn_2 xc_2 => aSome k fun p_3 => gSl (Addr.add p_3 0) hv fun x_3 xn_3 _ => aSome x_3 fun p_4 => ckRF env xn_3 (gInt .i64 (Addr.add (bare p_4) (Int.toNat env * 1)) hv fun x_4 => bnd (call F_slices_Contains_s_int_int [.slice x_2 xn_2 xc_2, .int .i64 x_4] hv) fun r hv_1 => aBool r fun x_5 => some (!x_5, hv_1))))) fun c_1 hv_2 => cond c_1
      (some (.tuple ⟨[.pointer none, .int .i64 8]⟩, hv_2))
      (aSome k fun p_5 => gSl (Addr.add p_5 6) hv_2 fun x_6 xn_4 _ => aSome x_6 fun p_6 => ckRF n xn_4 (gPtr (Addr.add (bare p_6) (Int.toNat n * 1)) hv_2 fun x_7 => some (.tuple ⟨[.pointer x_7, .int .i64 0]⟩, hv_2)))
  | _ => none
noncomputable def X_pslot_get : XPoly := fun G _ call run a h => match a with
  | [.slice b bn bc] =>
  nw (.cells Y_api_Proc false [.int .i64 0, .int .i64 0, .int .i64 0, .int .i64 0, .int .i64 0, .int .i64 0, .int .i64 0, .int .i64 0, .int .i64 0, .int .i64 0, .int .i64 0, .int .i64 0, .int .i64 0, .int .i64 0, .int .i64 0, .int .i64 0]) h fun b_1 hv => aSome b fun p => ckRF 0 bn (gInt .u8 (Addr.add (bare p) (Int.toNat 0 * 1)) hv fun x => aSome b fun p_1 => ckRF 1 bn (gInt .u8 (Addr.add (bare p_1) (Int.toNat 1 * 1)) hv fun x_1 => aSome b fun p_2 => ckRF 2 bn (gInt .u8 (Addr.add (bare p_2) (Int.toNat 2 * 1)) hv fun x_2 => aSome b fun p_3 => ckRF 3 bn (gInt .u8 (Addr.add (bare p_3) (Int.toNat 3 * 1)) hv fun x_3 => nw (.cells Y_api_Proc false [.int .i64 0, .int .i64 0, .int .i64 0, .int .i64 0, .int .i64 0, .int .i64 0, .int .i64 0, .int .i64 0, .int .i64 0, .int .i64 0, .int .i64 0, .int .i64 0, .int .i64 0, .int .i64 0, .int .i64 0, .int .i64 0]) hv fun b_2 hv_1 => pAgg ⟨b_2, 0, none⟩ [.int .i64 (wrapF .i64 (x)), .int .i64 (wrapF .i64 (x_1)), .int .i64 (wrapF .i64 (x_2)), .int .i64 (wrapF .i64 (x_3)), .int .i64 0, .int .i64 0, .int .i64 0, .int .i64 0, .int .i64 0, .int .i64 0, .int .i64 0, .int .i64 0, .int .i64 0, .int .i64 0, .int .i64 0, .int .i64 0] hv_1 fun hv_2 => nw (.cells Y_p_int false [.pointer (some (Addr.add ⟨b_2, 0, none⟩ 4)), .pointer (some (Addr.add ⟨b_2, 0, none⟩ 5)), .pointer (some (Addr.add ⟨b_2, 0, none⟩ 6)), .pointer (some (Addr.add ⟨b_2, 0, none⟩ 7))]) hv_2 fun b_3 hv_3 => run F_pslot_get 3006 [.slice b bn bc, .pointer (some ⟨b_1, 0, none⟩), .pointer (some ⟨b_2, 0, none⟩), .slice (some ⟨b_3, 0, none⟩) 4 4, .int .i64 4, .int .i64 0] hv_3))))
  | _ => none
noncomputable def X_pslot_get_L1 : XPoly := fun G _ call run a h => match a with
  | [.slice b bn bc, .pointer (some x2), .pointer (some p), .slice x31 x31n x31c, .int .i64 x32, .int .i64 x33] =>
  cond (iltF x33 x32)
      (aSome x31 fun p_1 => ckRF x33 x31n (gPtr (Addr.add (bare p_1) (Int.toNat x33 * 1)) h fun x => bnd (call F_codec_Get2 [.slice b bn bc, .int .i64 (wrapF .i64 (4 + (wrapF .i64 (2 * x33))))] h) fun r hv => as2 r fun r_1 r_2 => aInt .i64 r_1 fun x_1 => aBool r_2 fun _ => aSome x fun p_2 => pV p_2 (.int .i64 x_1) hv fun hv_1 => run F_pslot_get 3006 [.slice b bn bc, .pointer (some x2), .pointer (some p), .slice x31 x31n x31c, .int .i64 x32, .int .i64 (wrapF .i64 (x33 + 1))] hv_1))
      (run F_pslot_get 3016 [.slice b bn bc, .pointer (some x2), .pointer (some p), .int .i64 0] h)
  | _ => none
noncomputable def LB_pslot_get_L1 : Lab := ⟨F_pslot_get, 3006, T_pslot_get_L1, [0, 2, 4, 31, 32, 33], X_pslot_get_L1⟩
noncomputable def X_pslot_get_L2 : XPoly := fun G _ call run a h => match a with
  | [.slice b bn bc, .pointer (some x2), .pointer (some p), .int .i64 x49] =>
  cond (iltF x49 8)
      (aSome b fun p_1 => ckRF (wrapF .i64 (12 + x49)) bn (gInt .u8 (Addr.add (bare p_1) (Int.toNat (wrapF .i64 (12 + x49)) * 1)) h fun x => ckRF x49 8 (pV (Addr.add (Addr.add p 8) (Int.toNat x49 * 1)) (.int .i64 (wrapF .i64 (x))) h fun hv => run F_pslot_get 3016 [.slice b bn bc, .pointer (some x2), .pointer (some p), .int .i64 (wrapF .i64 (x49 + 1))] hv)))
      (gAgg p 16 h fun x_1 => bnd (call F_pslot_Encode [.agg ⟨x_1⟩] h) fun r hv_1 => as2 r fun r_1 r_2 => aSl r_1 fun x_2 xn xc => aBool r_2 fun x_3 => gAgg p 16 hv_1 fun x_4 => bnd (cond x_3 (bnd (call F_slices_Equal_s_byte_byte [.slice x_2 xn xc, .slice b bn bc] hv_1) fun r_3 hv_2 => aBool r_3 fun x_5 => gAgg p 16 hv_2 fun x_6 => same (.agg ⟨x_4⟩) (.agg ⟨x_6⟩) (some (x_5, hv_2))) (some (false, hv_1))) fun c hv_3 => ck (List.length x_4 = 16) (pAgg x2 x_4 hv_3 fun hv_4 => gAgg x2 16 hv_4 fun x_7 => some (.tuple ⟨[.agg ⟨x_7⟩, .bool c]⟩, hv_4)))
  | _ => none
noncomputable def LB_pslot_get_L2 : Lab := ⟨F_pslot_get, 3016, T_pslot_get_L2, [0, 2, 4, 49], X_pslot_get_L2⟩
noncomputable def X_codec_New_api_File : XPoly := fun G _ call run a h => match a with
  | [.int .i64 size, put, get] =>
  one put (one get (nw (.cells Y_codec_Codec_api_File false [.int .i64 (mm2 false (mm2 true size 0) 64), put, get]) h fun b hv => some (.pointer (some ⟨b, 0, none⟩), hv)))
  | _ => none
noncomputable def X_ring_put : XPoly := fun G _ call run a h => match a with
  | [.agg ⟨p⟩, .slice b bn bc] =>
  nw (.cells Y_api_Pipe false p) h fun b_1 hv => gAgg ⟨b_1, 0, none⟩ 36 hv fun x => bnd (call F_ring_Ok [.agg ⟨x⟩] hv) fun r hv_1 => aBool r fun x_1 => cond (!x_1)
      (some (.bool false, hv_1))
      (gInt .i64 (Addr.add ⟨b_1, 0, none⟩ 0) hv_1 fun x_2 => gInt .i64 (Addr.add ⟨b_1, 0, none⟩ 1) hv_1 fun x_3 => gInt .i64 (Addr.add ⟨b_1, 0, none⟩ 2) hv_1 fun x_4 => gInt .i64 (Addr.add ⟨b_1, 0, none⟩ 3) hv_1 fun x_5 => nw (.cells Y_uint8 false [.int .u8 1, .int .u8 (wrapF .u8 (x_2)), .int .u8 (wrapF .u8 (x_3)), .int .u8 (wrapF .u8 (x_4)), .int .u8 (wrapF .u8 (x_5)), .int .u8 197]) hv_1 fun b_2 hv_2 => gCells (some ⟨b_2, 0, none⟩) (min 6 bn * 1) hv_2 fun cs => pCells b cs hv_2 fun hv_3 => ckB (fitsOpen b Y_uint8 hv_3) (ckLF 6 bc (bnd (call F_codec_Sum [.slice (moved b (decide (0 < bc)) (0 * 1)) ((Int.toNat 6) - 0) (bc - 0)] hv_3) fun r_1 hv_4 => aInt .u8 r_1 fun x_6 => aSome b fun p_1 => ckRF 6 bn (pV (Addr.add (bare p_1) (Int.toNat 6 * 1)) (.int .u8 x_6) hv_4 fun hv_5 => ckB (fitsOpen b Y_uint8 hv_5) (ckLF 8 bn (ckB (liveA (Addr.add ⟨b_1, 0, none⟩ 4) hv_5) (gCells (moved (some (Addr.add ⟨b_1, 0, none⟩ 4)) (decide (0 < 32)) (0 * 1)) (min (32 - 0) (bn - (Int.toNat 8)) * 1) hv_5 fun cs_1 => pCells (moved b (decide (Int.toNat 8 < bc)) ((Int.toNat 8) * 1)) cs_1 hv_5 fun hv_6 => some (.bool true, hv_6))))))))
  | _ => none
noncomputable def X_ring_get : XPoly := fun G _ call run a h => match a with
  | [.slice b bn bc] =>
  nw (.cells Y_api_Pipe false [.int .i64 0, .int .i64 0, .int .i64 0, .int .i64 0, .int .u8 0, .int .u8 0, .int .u8 0, .int .u8 0, .int .u8 0, .int .u8 0, .int .u8 0, .int .u8 0, .int .u8 0, .int .u8 0, .int .u8 0, .int .u8 0, .int .u8 0, .int .u8 0, .int .u8 0, .int .u8 0, .int .u8 0, .int .u8 0, .int .u8 0, .int .u8 0, .int .u8 0, .int .u8 0, .int .u8 0, .int .u8 0, .int .u8 0, .int .u8 0, .int .u8 0, .int .u8 0, .int .u8 0, .int .u8 0, .int .u8 0, .int .u8 0]) h fun b_1 hv => aSome b fun p => ckRF 1 bn (gInt .u8 (Addr.add (bare p) (Int.toNat 1 * 1)) hv fun x => aSome b fun p_1 => ckRF 2 bn (gInt .u8 (Addr.add (bare p_1) (Int.toNat 2 * 1)) hv fun x_1 => aSome b fun p_2 => ckRF 3 bn (gInt .u8 (Addr.add (bare p_2) (Int.toNat 3 * 1)) hv fun x_2 => aSome b fun p_3 => ckRF 4 bn (gInt .u8 (Addr.add (bare p_3) (Int.toNat 4 * 1)) hv fun x_3 => nw (.cells Y_api_Pipe false [.int .i64 0, .int .i64 0, .int .i64 0, .int .i64 0, .int .u8 0, .int .u8 0, .int .u8 0, .int .u8 0, .int .u8 0, .int .u8 0, .int .u8 0, .int .u8 0, .int .u8 0, .int .u8 0, .int .u8 0, .int .u8 0, .int .u8 0, .int .u8 0, .int .u8 0, .int .u8 0, .int .u8 0, .int .u8 0, .int .u8 0, .int .u8 0, .int .u8 0, .int .u8 0, .int .u8 0, .int .u8 0, .int .u8 0, .int .u8 0, .int .u8 0, .int .u8 0, .int .u8 0, .int .u8 0, .int .u8 0, .int .u8 0]) hv fun b_2 hv_1 => pAgg ⟨b_2, 0, none⟩ [.int .i64 (wrapF .i64 (x)), .int .i64 (wrapF .i64 (x_1)), .int .i64 (wrapF .i64 (x_2)), .int .i64 (wrapF .i64 (x_3)), .int .u8 0, .int .u8 0, .int .u8 0, .int .u8 0, .int .u8 0, .int .u8 0, .int .u8 0, .int .u8 0, .int .u8 0, .int .u8 0, .int .u8 0, .int .u8 0, .int .u8 0, .int .u8 0, .int .u8 0, .int .u8 0, .int .u8 0, .int .u8 0, .int .u8 0, .int .u8 0, .int .u8 0, .int .u8 0, .int .u8 0, .int .u8 0, .int .u8 0, .int .u8 0, .int .u8 0, .int .u8 0, .int .u8 0, .int .u8 0, .int .u8 0, .int .u8 0] hv_1 fun hv_2 => ckB (liveA (Addr.add ⟨b_2, 0, none⟩ 4) hv_2) (ckB (fitsOpen b Y_uint8 hv_2) (ckLF 8 bn (gCells (moved b (decide (Int.toNat 8 < bc)) ((Int.toNat 8) * 1)) (min (bn - (Int.toNat 8)) (32 - 0) * 1) hv_2 fun cs => pCells (moved (some (Addr.add ⟨b_2, 0, none⟩ 4)) (decide (0 < 32)) (0 * 1)) cs hv_2 fun hv_3 => gAgg ⟨b_2, 0, none⟩ 36 hv_3 fun x_4 => bnd (call F_ring_Encode [.agg ⟨x_4⟩] hv_3) fun r hv_4 => as2 r fun r_1 r_2 => aSl r_1 fun x_5 xn xc => aBool r_2 fun x_6 => gAgg ⟨b_2, 0, none⟩ 36 hv_4 fun x_7 => bnd (cond x_6 (bnd (call F_slices_Equal_s_byte_byte [.slice x_5 xn xc, .slice b bn bc] hv_4) fun r_3 hv_5 => aBool r_3 fun x_8 => gAgg ⟨b_2, 0, none⟩ 36 hv_5 fun x_9 => same (.agg ⟨x_7⟩) (.agg ⟨x_9⟩) (some (x_8, hv_5))) (some (false, hv_4))) fun c hv_6 => ck (List.length x_7 = 36) (pAgg ⟨b_1, 0, none⟩ x_7 hv_6 fun hv_7 => gAgg ⟨b_1, 0, none⟩ 36 hv_7 fun x_10 => some (.tuple ⟨[.agg ⟨x_10⟩, .bool c]⟩, hv_7)))))))))
  | _ => none
noncomputable def X_codec_Codec_api_File_Encode : XPoly := fun G _ call run a h => match a with
  | [.pointer c, .agg ⟨v⟩] =>
  nw (.cells Y_api_File false v) h fun b hv => aSome c fun p => gInt .i64 (Addr.add p 0) hv fun x => ck ((0 : Int) ≤ x ∧ (x : Int) ≤ x ∧ x ≤ (most : Int)) (nw (.cells Y_uint8 false (manyN (Int.toNat x) [.int .u8 0])) hv fun b_1 hv_1 => aSome c fun p_1 => gFv (Addr.add p_1 1) hv_1 fun x_1 => isNilF x_1 fun b_2 => bnd (cond b_2 (some (true, hv_1)) (aSome c fun p_2 => gFv (Addr.add p_2 1) hv_1 fun x_2 => gAgg ⟨b, 0, none⟩ 4 hv_1 fun x_3 => aFn x_2 fun g fi cp => bnd (call g (fi ++ ([.agg ⟨x_3⟩, .slice (some ⟨b_1, 0, none⟩) (Int.toNat x) (Int.toNat x)] ++ cp)) hv_1) fun r hv_2 => aBool r fun x_4 => some (!x_4, hv_2))) fun c_1 hv_3 => cond c_1
      (some (.tuple ⟨[.slice none 0 0, .bool false]⟩, hv_3))
      (some (.tuple ⟨[.slice (some ⟨b_1, 0, none⟩) (Int.toNat x) (Int.toNat x), .bool true]⟩, hv_3)))
  | _ => none
noncomputable def X_slices_IndexFunc_s_int_int : XPoly := fun G _ call run a h => match a with
  | [.slice s sn sc, f] =>
  run F_slices_IndexFunc_s_int_int 3004 [.slice s sn sc, f, .int .i64 ((sn : Nat) : Int), .int .i64 0] h
  | _ => none
noncomputable def X_slices_IndexFunc_s_int_int_L1 : XPoly := fun G _ call run a h => match a with
  | [.slice s sn sc, f, .int .i64 x7, .int .i64 x8] =>
  cond (iltF x8 x7)
      (aSome s fun p => ckRF x8 sn (gInt .i64 (Addr.add (bare p) (Int.toNat x8 * 1)) h fun x => aFn f fun g fi cp => bnd (call g (fi ++ ([.int .i64 x] ++ cp)) h) fun r hv => aBool r fun x_1 => cond x_1
      (some (.int .i64 x8, hv))
      (run F_slices_IndexFunc_s_int_int 3004 [.slice s sn sc, f, .int .i64 x7, .int .i64 (wrapF .i64 (x8 + 1))] hv)))
      (some (.int .i64 (-1), h))
  | _ => none
noncomputable def LB_slices_IndexFunc_s_int_int_L1 : Lab := ⟨F_slices_IndexFunc_s_int_int, 3004, T_slices_IndexFunc_s_int_int_L1, [0, 1, 7, 8], X_slices_IndexFunc_s_int_int_L1⟩
noncomputable def X_ref1_Names_Add : XPoly := fun G _ call run a h => match a with
  | [.pointer n] =>
  run F_ref1_Names_Add 3004 [.pointer n, .int .i64 0] h
  | _ => none
noncomputable def X_ref1_Names_Add_L1 : XPoly := fun G _ call run a h => match a with
  | [.pointer n, .int .i64 i] =>
  aSome n fun p => gSl (Addr.add p 0) h fun _ xn _ => cond (iltF i ((xn : Nat) : Int))
      (aSome n fun p_1 => gSl (Addr.add p_1 0) h fun x_1 xn_1 _ => aSome x_1 fun p_2 => ckRF i xn_1 (gBool (Addr.add (Addr.add (bare p_2) (Int.toNat i * 2)) 1) h fun x_2 => bnd (cond (!x_2) (aSome n fun p_3 => gSl (Addr.add p_3 0) h fun x_3 xn_2 _ => aSome x_3 fun p_4 => ckRF i xn_2 (gInt .i64 (Addr.add (Addr.add (bare p_4) (Int.toNat i * 2)) 0) h fun x_4 => some (ileF x_4 1000000, h))) (some (false, h))) fun c hv => cond c
      (aSome n fun p_5 => gSl (Addr.add p_5 0) hv fun x_5 xn_3 _ => aSome x_5 fun p_6 => ckRF i xn_3 (pV (Addr.add (Addr.add (bare p_6) (Int.toNat i * 2)) 1) (.bool true) hv fun hv_1 => aSome n fun p_7 => gSl (Addr.add p_7 0) hv_1 fun x_6 xn_4 _ => aSome x_6 fun p_8 => ckRF i xn_4 (gInt .i64 (Addr.add (Addr.add (bare p_8) (Int.toNat i * 2)) 0) hv_1 fun x_7 => some (.tuple ⟨[.int .i64 (wrapF .i64 (i + (wrapF .i64 (256 * x_7)))), .bool true]⟩, hv_1))))
      (run F_ref1_Names_Add 3004 [.pointer n, .int .i64 (wrapF .i64 (i + 1))] hv)))
      (some (.tuple ⟨[.int .i64 0, .bool false]⟩, h))
  | _ => none
noncomputable def LB_ref1_Names_Add_L1 : Lab := ⟨F_ref1_Names_Add, 3004, T_ref1_Names_Add_L1, [0, 4], X_ref1_Names_Add_L1⟩
noncomputable def X_slices_IndexFunc_s_byte_byte : XPoly := fun G _ call run a h => match a with
  | [.slice s sn sc, f] =>
  run F_slices_IndexFunc_s_byte_byte 3004 [.slice s sn sc, f, .int .i64 ((sn : Nat) : Int), .int .i64 0] h
  | _ => none
noncomputable def X_slices_IndexFunc_s_byte_byte_L1 : XPoly := fun G _ call run a h => match a with
  | [.slice s sn sc, f, .int .i64 x7, .int .i64 x8] =>
  cond (iltF x8 x7)
      (aSome s fun p => ckRF x8 sn (gInt .u8 (Addr.add (bare p) (Int.toNat x8 * 1)) h fun x => aFn f fun g fi cp => bnd (call g (fi ++ ([.int .u8 x] ++ cp)) h) fun r hv => aBool r fun x_1 => cond x_1
      (some (.int .i64 x8, hv))
      (run F_slices_IndexFunc_s_byte_byte 3004 [.slice s sn sc, f, .int .i64 x7, .int .i64 (wrapF .i64 (x8 + 1))] hv)))
      (some (.int .i64 (-1), h))
  | _ => none
noncomputable def LB_slices_IndexFunc_s_byte_byte_L1 : Lab := ⟨F_slices_IndexFunc_s_byte_byte, 3004, T_slices_IndexFunc_s_byte_byte_L1, [0, 1, 7, 8], X_slices_IndexFunc_s_byte_byte_L1⟩
noncomputable def X_pslot_Ok : XPoly := fun G _ call run a h => match a with
  | [.agg ⟨p⟩] =>
  nw (.cells Y_api_Proc false p) h fun b hv => gInt .i64 (Addr.add ⟨b, 0, none⟩ 0) hv fun x => bnd (cond (iltF x 1) (some (true, hv)) (gInt .i64 (Addr.add ⟨b, 0, none⟩ 0) hv fun x_1 => some (iltF 3 x_1, hv))) fun c hv_1 => bnd (cond c (some (true, hv_1)) (gInt .i64 (Addr.add ⟨b, 0, none⟩ 1) hv_1 fun x_2 => some (iltF x_2 0, hv_1))) fun c_1 hv_2 => bnd (cond c_1 (some (true, hv_2)) (gInt .i64 (Addr.add ⟨b, 0, none⟩ 1) hv_2 fun x_3 => some (iltF 8 x_3, hv_2))) fun c_2 hv_3 => bnd (cond c_2 (some (true, hv_3)) (gInt .i64 (Addr.add ⟨b, 0, none⟩ 2) hv_3 fun x_4 => some (iltF x_4 0, hv_3))) fun c_3 hv_4 => bnd (cond c_3 (some (true, hv_4)) (gInt .i64 (Addr.add ⟨b, 0, none⟩ 2) hv_4 fun x_5 => some (ileF 8 x_5, hv_4))) fun c_4 hv_5 => bnd (cond c_4 (some (true, hv_5)) (gInt .i64 (Addr.add ⟨b, 0, none⟩ 3) hv_5 fun x_6 => some (iltF x_6 0, hv_5))) fun c_5 hv_6 => bnd (cond c_5 (some (true, hv_6)) (gInt .i64 (Addr.add ⟨b, 0, none⟩ 3) hv_6 fun x_7 => some (iltF 255 x_7, hv_6))) fun c_6 hv_7 => cond c_6
      (some (.bool false, hv_7))
      (gInt .i64 (Addr.add ⟨b, 0, none⟩ 4) hv_7 fun x_8 => bnd (call F_pslot_bits [.int .i64 x_8, .int .i64 0] hv_7) fun r hv_8 => aBool r fun x_9 => bnd (cond (!x_9) (some (true, hv_8)) (gInt .i64 (Addr.add ⟨b, 0, none⟩ 5) hv_8 fun x_10 => bnd (call F_pslot_bits [.int .i64 x_10, .int .i64 16896] hv_8) fun r_1 hv_9 => aBool r_1 fun x_11 => some (!x_11, hv_9))) fun c_7 hv_10 => bnd (cond c_7 (some (true, hv_10)) (gInt .i64 (Addr.add ⟨b, 0, none⟩ 6) hv_10 fun x_12 => bnd (call F_pslot_bits [.int .i64 x_12, .int .i64 16896] hv_10) fun r_2 hv_11 => aBool r_2 fun x_13 => some (!x_13, hv_11))) fun c_8 hv_12 => bnd (cond c_8 (some (true, hv_12)) (gInt .i64 (Addr.add ⟨b, 0, none⟩ 7) hv_12 fun x_14 => bnd (call F_pslot_bits [.int .i64 x_14, .int .i64 16896] hv_12) fun r_3 hv_13 => aBool r_3 fun x_15 => some (!x_15, hv_13))) fun c_9 hv_14 => bnd (cond c_9 (some (true, hv_14)) (gInt .i64 (Addr.add ⟨b, 0, none⟩ 6) hv_14 fun x_16 => gInt .i64 (Addr.add ⟨b, 0, none⟩ 7) hv_14 fun x_17 => some (ineF (bitAF .i64 x_16 x_17) 0, hv_14))) fun c_10 hv_15 => cond c_10
      (some (.bool false, hv_15))
      (ckB (liveA (Addr.add ⟨b, 0, none⟩ 8) hv_15) (bnd (call F_slices_ContainsFunc_s_int_int [.slice (moved (some (Addr.add ⟨b, 0, none⟩ 8)) (decide (0 < 8)) (0 * 1)) (8 - 0) (8 - 0), .func (.func F_pslot_Ok_1) ⟨[]⟩ ⟨[]⟩] hv_15) fun r_4 hv_16 => aBool r_4 fun x_18 => cond x_18
      (some (.bool false, hv_16))
      (gInt .i64 (Addr.add ⟨b, 0, none⟩ 0) hv_16 fun x_19 => cond (ieqF x_19 2)
      (gInt .i64 (Addr.add ⟨b, 0, none⟩ 4) hv_16 fun x_20 => bnd (cond (ieqF x_20 0) (gAgg (Addr.add ⟨b, 0, none⟩ 8) 8 hv_16 fun x_21 => eqAgg PR Y_8_int x_21 [.int .i64 0, .int .i64 0, .int .i64 0, .int .i64 0, .int .i64 0, .int .i64 0, .int .i64 0, .int .i64 0] fun eq => some (eq, hv_16)) (some (false, hv_16))) fun c_11 hv_17 => some (.bool c_11, hv_17))
      (gInt .i64 (Addr.add ⟨b, 0, none⟩ 3) hv_16 fun x_22 => some (.bool (ieqF x_22 0), hv_16))))))
  | _ => none
noncomputable def X_codec_Put2 : XPoly := fun G _ call run a h => match a with
  | [.slice b bn bc, .int .i64 atv, .int .i64 n] =>
  bnd (cond (iltF atv 0) (some (true, h)) (some (iltF (wrapF .i64 (((bn : Nat) : Int) - 2)) atv, h))) fun c hv => bnd (cond c (some (true, hv)) (some (iltF n 0, hv))) fun c_1 hv_1 => bnd (cond c_1 (some (true, hv_1)) (some (iltF 65535 n, hv_1))) fun c_2 hv_2 => cond c_2
      (some (.bool false, hv_2))
      (aSome b fun p => ckRF atv bn (pV (Addr.add (bare p) (Int.toNat atv * 1)) (.int .u8 (wrapF .u8 (Int.fdiv n (2 ^ 8)))) hv_2 fun hv_3 => aSome b fun p_1 => ckRF (wrapF .i64 (atv + 1)) bn (pV (Addr.add (bare p_1) (Int.toNat (wrapF .i64 (atv + 1)) * 1)) (.int .u8 (wrapF .u8 (n))) hv_3 fun hv_4 => some (.bool true, hv_4))))
  | _ => none
noncomputable def X_ofile_Ok : XPoly := fun G _ call run a h => match a with
  | [.agg ⟨f⟩] =>
  nw (.cells Y_api_File false f) h fun b hv => gInt .i64 (Addr.add ⟨b, 0, none⟩ 0) hv fun x => bnd (cond (ileF 1 x) (gInt .i64 (Addr.add ⟨b, 0, none⟩ 0) hv fun x_1 => some (ileF x_1 3, hv)) (some (false, hv))) fun c hv_1 => bnd (cond c (gInt .i64 (Addr.add ⟨b, 0, none⟩ 1) hv_1 fun x_2 => some (ileF 0 x_2, hv_1)) (some (false, hv_1))) fun c_1 hv_2 => bnd (cond c_1 (gInt .i64 (Addr.add ⟨b, 0, none⟩ 1) hv_2 fun x_3 => some (ileF x_3 7, hv_2)) (some (false, hv_2))) fun c_2 hv_3 => bnd (cond c_2 (gInt .i64 (Addr.add ⟨b, 0, none⟩ 0) hv_3 fun x_4 => bnd (cond (ineF x_4 3) (some (true, hv_3)) (gInt .i64 (Addr.add ⟨b, 0, none⟩ 1) hv_3 fun x_5 => some (ieqF x_5 0, hv_3))) fun c_3 hv_4 => some (c_3, hv_4)) (some (false, hv_3))) fun c_4 hv_5 => bnd (cond c_4 (gInt .i64 (Addr.add ⟨b, 0, none⟩ 2) hv_5 fun x_6 => some (ileF 1 x_6, hv_5)) (some (false, hv_5))) fun c_5 hv_6 => bnd (cond c_5 (gInt .i64 (Addr.add ⟨b, 0, none⟩ 2) hv_6 fun x_7 => some (ileF x_7 64, hv_6)) (some (false, hv_6))) fun c_6 hv_7 => bnd (cond c_6 (gInt .i64 (Addr.add ⟨b, 0, none⟩ 3) hv_7 fun x_8 => bnd (cond (ieqF x_8 0) (some (true, hv_7)) (gInt .i64 (Addr.add ⟨b, 0, none⟩ 3) hv_7 fun x_9 => some (ieqF x_9 1, hv_7))) fun c_7 hv_8 => some (c_7, hv_8)) (some (false, hv_7))) fun c_8 hv_9 => some (.bool c_8, hv_9)
  | _ => none
noncomputable def X_slices_pdqsortCmpFunc_api_Ref : XPoly := fun G _ call run a h => match a with
  | [.slice data datan datac, .int .i64 a, .int .i64 b, .int .i64 limit, cmp] =>
  run F_slices_pdqsortCmpFunc_api_Ref 2004 [.slice data datan datac, .int .i64 a, .int .i64 b, .int .i64 limit, cmp, .bool true, .bool true] h
  | _ => none
noncomputable def X_slices_pdqsortCmpFunc_api_Ref_L1 : XPoly := fun G _ call run a h => match a with
  | [.slice data datan datac, .int .i64 a, .int .i64 b, .int .i64 limit, cmp, .bool wasBalanced, .bool wasPartitioned] =>
  cond (ileF (wrapF .i64 (b - a)) 12)
      (bnd (call F_slices_insertionSortCmpFunc_api_Ref [.slice data datan datac, .int .i64 a, .int .i64 b, cmp] h) fun r hv => as0 r (some (.tuple ⟨[]⟩, hv)))
      (cond (ieqF limit 0)
      (bnd (call F_slices_heapSortCmpFunc_api_Ref [.slice data datan datac, .int .i64 a, .int .i64 b, cmp] h) fun r_1 hv_1 => as0 r_1 (some (.tuple ⟨[]⟩, hv_1)))
      (cond (!wasBalanced)
      (bnd (call F_slices_breakPatternsCmpFunc_api_Ref [.slice data datan datac, .int .i64 a, .int .i64 b, cmp] h) fun r_2 hv_2 => as0 r_2 (run F_slices_pdqsortCmpFunc_api_Ref 5021 [.slice data datan datac, .int .i64 a, .int .i64 b, .int .i64 (wrapF .i64 (limit - 1)), cmp, .bool wasBalanced, .bool wasPartitioned, .int .i64 (wrapF .i64 (b - a))] hv_2))
      (run F_slices_pdqsortCmpFunc_api_Ref 5021 [.slice data datan datac, .int .i64 a, .int .i64 b, .int .i64 limit, cmp, .bool wasBalanced, .bool wasPartitioned, .int .i64 (wrapF .i64 (b - a))] h)))
  | _ => none
noncomputable def LB_slices_pdqsortCmpFunc_api_Ref_L1 : Lab := ⟨F_slices_pdqsortCmpFunc_api_Ref, 2004, T_slices_pdqsortCmpFunc_api_Ref_L1, [0, 1, 2, 3, 4, 10, 11], X_slices_pdqsortCmpFunc_api_Ref_L1⟩
noncomputable def X_slices_pdqsortCmpFunc_api_Ref_R1 : XPoly := fun G _ call run a h => match a with
  | [.slice data datan datac, .int .i64 a, .int .i64 b, .int .i64 limit, cmp, .bool wasBalanced, .bool wasPartitioned, .int .i64 length] =>
  bnd (call F_slices_choosePivotCmpFunc_api_Ref [.slice data datan datac, .int .i64 a, .int .i64 b, cmp] h) fun r hv => as2 r fun r_1 r_2 => aInt .i64 r_1 fun x => aInt .i64 r_2 fun x_1 => cond (ieqF x_1 2)
      (bnd (call F_slices_reverseRangeCmpFunc_api_Ref [.slice data datan datac, .int .i64 a, .int .i64 b, cmp] hv) fun r_3 hv_1 => as0 r_3 (run F_slices_pdqsortCmpFunc_api_Ref 6031 [.slice data datan datac, .int .i64 a, .int .i64 b, .int .i64 limit, cmp, .bool wasBalanced, .bool wasPartitioned, .int .i64 length, .int .i64 (wrapF .i64 ((wrapF .i64 (b - 1)) - (wrapF .i64 (x - a)))), .int .i64 1] hv_1))
      (run F_slices_pdqsortCmpFunc_api_Ref 6031 [.slice data datan datac, .int .i64 a, .int .i64 b, .int .i64 limit, cmp, .bool wasBalanced, .bool wasPartitioned, .int .i64 length, .int .i64 x, .int .i64 x_1] hv)
  | _ => none
noncomputable def LB_slices_pdqsortCmpFunc_api_Ref_R1 : Lab := ⟨F_slices_pdqsortCmpFunc_api_Ref, 5021, T_slices_pdqsortCmpFunc_api_Ref_R1, [0, 1, 2, 3, 4, 10, 11, 12], X_slices_pdqsortCmpFunc_api_Ref_R1⟩
noncomputable def X_slices_pdqsortCmpFunc_api_Ref_R2 : XPoly := fun G _ call run a h => match a with
  | [.slice data datan datac, .int .i64 a, .int .i64 b, .int .i64 limit, cmp, .bool wasBalanced, .bool wasPartitioned, .int .i64 length, .int .i64 pivot, .int .i64 hint] =>
  bnd (cond wasBalanced (some (wasPartitioned, h)) (some (false, h))) fun c hv => bnd (cond c (some (ieqF hint 1, hv)) (some (false, hv))) fun c_1 hv_1 => cond c_1
      (bnd (call F_slices_partialInsertionSortCmpFunc_api_Ref [.slice data datan datac, .int .i64 a, .int .i64 b, cmp] hv_1) fun r hv_2 => aBool r fun x => cond x
      (some (.tuple ⟨[]⟩, hv_2))
      (run F_slices_pdqsortCmpFunc_api_Ref 6035 [.slice data datan datac, .int .i64 a, .int .i64 b, .int .i64 limit, cmp, .bool wasBalanced, .bool wasPartitioned, .int .i64 length, .int .i64 pivot] hv_2))
      (run F_slices_pdqsortCmpFunc_api_Ref 6035 [.slice data datan datac, .int .i64 a, .int .i64 b, .int .i64 limit, cmp, .bool wasBalanced, .bool wasPartitioned, .int .i64 length, .int .i64 pivot] hv_1)
  | _ => none
noncomputable def LB_slices_pdqsortCmpFunc_api_Ref_R2 : Lab := ⟨F_slices_pdqsortCmpFunc_api_Ref, 6031, T_slices_pdqsortCmpFunc_api_Ref_R2, [0, 1, 2, 3, 4, 10, 11, 12, 13, 14], X_slices_pdqsortCmpFunc_api_Ref_R2⟩
noncomputable def X_slices_pdqsortCmpFunc_api_Ref_R3 : XPoly := fun G _ call run a h => match a with
  | [.slice data datan datac, .int .i64 a, .int .i64 b, .int .i64 limit, cmp, .bool wasBalanced, .bool wasPartitioned, .int .i64 length, .int .i64 pivot] =>
  bnd (cond (iltF 0 a) (aSome data fun p => ckRF (wrapF .i64 (a - 1)) datan (gAgg (Addr.add (bare p) (Int.toNat (wrapF .i64 (a - 1)) * 2)) 2 h fun x => aSome data fun p_1 => ckRF pivot datan (gAgg (Addr.add (bare p_1) (Int.toNat pivot * 2)) 2 h fun x_1 => aFn cmp fun g fi cp => bnd (call g (fi ++ ([.agg ⟨x⟩, .agg ⟨x_1⟩] ++ cp)) h) fun r hv => aInt .i64 r fun x_2 => some (!(iltF x_2 0), hv)))) (some (false, h))) fun c hv_1 => cond c
      (bnd (call F_slices_partitionEqualCmpFunc_api_Ref [.slice data datan datac, .int .i64 a, .int .i64 b, .int .i64 pivot, cmp] hv_1) fun r_1 hv_2 => aInt .i64 r_1 fun x_3 => run F_slices_pdqsortCmpFunc_api_Ref 2004 [.slice data datan datac, .int .i64 x_3, .int .i64 b, .int .i64 limit, cmp, .bool wasBalanced, .bool wasPartitioned] hv_2)
      (bnd (call F_slices_partitionCmpFunc_api_Ref [.slice data datan datac, .int .i64 a, .int .i64 b, .int .i64 pivot, cmp] hv_1) fun r_2 hv_3 => as2 r_2 fun r_3 r_4 => aInt .i64 r_3 fun x_4 => aBool r_4 fun x_5 => cond (iltF (wrapF .i64 (x_4 - a)) (wrapF .i64 (b - x_4)))
      (bnd (call F_slices_pdqsortCmpFunc_api_Ref [.slice data datan datac, .int .i64 a, .int .i64 x_4, .int .i64 limit, cmp] hv_3) fun r_5 hv_4 => as0 r_5 (run F_slices_pdqsortCmpFunc_api_Ref 2004 [.slice data datan datac, .int .i64 (wrapF .i64 (x_4 + 1)), .int .i64 b, .int .i64 limit, cmp, .bool (ileF (wrapF .i64 (Int.tdiv length 8)) (wrapF .i64 (x_4 - a))), .bool x_5] hv_4))
      (bnd (call F_slices_pdqsortCmpFunc_api_Ref [.slice data datan datac, .int .i64 (wrapF .i64 (x_4 + 1)), .int .i64 b, .int .i64 limit, cmp] hv_3) fun r_6 hv_5 => as0 r_6 (run F_slices_pdqsortCmpFunc_api_Ref 2004 [.slice data datan datac, .int .i64 a, .int .i64 x_4, .int .i64 limit, cmp, .bool (ileF (wrapF .i64 (Int.tdiv length 8)) (wrapF .i64 (b - x_4))), .bool x_5] hv_5)))
  | _ => none
noncomputable def LB_slices_pdqsortCmpFunc_api_Ref_R3 : Lab := ⟨F_slices_pdqsortCmpFunc_api_Ref, 6035, T_slices_pdqsortCmpFunc_api_Ref_R3, [0, 1, 2, 3, 4, 10, 11, 12, 13], X_slices_pdqsortCmpFunc_api_Ref_R3⟩
noncomputable def X_math_bits_Len : XPoly := fun G _ call run a h => match a with
  | [.int .u64 x] =>
  bnd (call F_math_bits_Len64 [.int .u64 x] h) fun r hv => aInt .i64 r fun x_1 => some (.int .i64 x_1, hv)
  | _ => none
noncomputable def X_slices_reverseRangeCmpFunc_api_Ref : XPoly := fun G _ call run a h => match a with
  | [.slice data datan datac, .int .i64 a, .int .i64 b, cmp] =>
  run F_slices_reverseRangeCmpFunc_api_Ref 2004 [.slice data datan datac, .int .i64 a, .int .i64 (wrapF .i64 (b - 1))] h
  | _ => none
noncomputable def X_slices_reverseRangeCmpFunc_api_Ref_L1 : XPoly := fun G _ call run a h => match a with
  | [.slice data datan datac, .int .i64 i, .int .i64 j] =>
  cond (iltF i j)
      (aSome data fun p => ckRF j datan (gAgg (Addr.add (bare p) (Int.toNat j * 2)) 2 h fun x => aSome data fun p_1 => ckRF i datan (gAgg (Addr.add (bare p_1) (Int.toNat i * 2)) 2 h fun x_1 => aSome data fun p_2 => ckRF i datan (ck (List.length x = 2) (pAgg (Addr.add (bare p_2) (Int.toNat i * 2)) x h fun hv => aSome data fun p_3 => ckRF j datan (ck (List.length x_1 = 2) (pAgg (Addr.add (bare p_3) (Int.toNat j * 2)) x_1 hv fun hv_1 => run F_slices_reverseRangeCmpFunc_api_Ref 2004 [.slice data datan datac, .int .i64 (wrapF .i64 (i + 1)), .int .i64 (wrapF .i64 (j - 1))] hv_1)))))))
      (some (.tuple ⟨[]⟩, h))
  | _ => none
noncomputable def LB_slices_reverseRangeCmpFunc_api_Ref_L1 : Lab := ⟨F_slices_reverseRangeCmpFunc_api_Ref, 2004, T_slices_reverseRangeCmpFunc_api_Ref_L1, [0, 8, 9], X_slices_reverseRangeCmpFunc_api_Ref_L1⟩
noncomputable def X_slices_siftDownCmpFunc_api_Ref : XPoly := fun G _ call run a h => match a with
  | [.slice data datan datac, .int .i64 lo, .int .i64 hi, .int .i64 first, cmp] =>
  run F_slices_siftDownCmpFunc_api_Ref 2002 [.slice data datan datac, .int .i64 hi, .int .i64 first, cmp, .int .i64 lo] h
  | _ => none
noncomputable def X_slices_siftDownCmpFunc_api_Ref_L1 : XPoly := fun G _ call run a h => match a with
  | [.slice data datan datac, .int .i64 hi, .int .i64 first, cmp, .int .i64 root] =>
  cond (ileF hi (wrapF .i64 ((wrapF .i64 (2 * root)) + 1)))
      (some (.tuple ⟨[]⟩, h))
      (bnd (cond (iltF (wrapF .i64 ((wrapF .i64 ((wrapF .i64 (2 * root)) + 1)) + 1)) hi) (aSome data fun p => ckRF (wrapF .i64 (first + (wrapF .i64 ((wrapF .i64 (2 * root)) + 1)))) datan (gAgg (Addr.add (bare p) (Int.toNat (wrapF .i64 (first + (wrapF .i64 ((wrapF .i64 (2 * root)) + 1)))) * 2)) 2 h fun x => aSome data fun p_1 => ckRF (wrapF .i64 ((wrapF .i64 (first + (wrapF .i64 ((wrapF .i64 (2 * root)) + 1)))) + 1)) datan (gAgg (Addr.add (bare p_1) (Int.toNat (wrapF .i64 ((wrapF .i64 (first + (wrapF .i64 ((wrapF .i64 (2 * root)) + 1)))) + 1)) * 2)) 2 h fun x_1 => aFn cmp fun g fi cp => bnd (call g (fi ++ ([.agg ⟨x⟩, .agg ⟨x_1⟩] ++ cp)) h) fun r hv => aInt .i64 r fun x_2 => some (iltF x_2 0, hv)))) (some (false, h))) fun c hv_1 => cond c
      (run F_slices_siftDownCmpFunc_api_Ref 6011 [.slice data datan datac, .int .i64 hi, .int .i64 first, cmp, .int .i64 root, .int .i64 (wrapF .i64 ((wrapF .i64 ((wrapF .i64 (2 * root)) + 1)) + 1))] hv_1)
      (run F_slices_siftDownCmpFunc_api_Ref 6011 [.slice data datan datac, .int .i64 hi, .int .i64 first, cmp, .int .i64 root, .int .i64 (wrapF .i64 ((wrapF .i64 (2 * root)) + 1))] hv_1))
  | _ => none
noncomputable def LB_slices_siftDownCmpFunc_api_Ref_L1 : Lab := ⟨F_slices_siftDownCmpFunc_api_Ref, 2002, T_slices_siftDownCmpFunc_api_Ref_L1, [0, 2, 3, 4, 10], X_slices_siftDownCmpFunc_api_Ref_L1⟩
noncomputable def X_slices_siftDownCmpFunc_api_Ref_R1 : XPoly := fun G _ call run a h => match a with
  | [.slice data datan datac, .int .i64 hi, .int .i64 first, cmp, .int .i64 root, .int .i64 child] =>
  aSome data fun p => ckRF (wrapF .i64 (first + root)) datan (gAgg (Addr.add (bare p) (Int.toNat (wrapF .i64 (first + root)) * 2)) 2 h fun x => aSome data fun p_1 => ckRF (wrapF .i64 (first + child)) datan (gAgg (Addr.add (bare p_1) (Int.toNat (wrapF .i64 (first + child)) * 2)) 2 h fun x_1 => aFn cmp fun g fi cp => bnd (call g (fi ++ ([.agg ⟨x⟩, .agg ⟨x_1⟩] ++ cp)) h) fun r hv => aInt .i64 r fun x_2 => cond (!(iltF x_2 0))
      (some (.tuple ⟨[]⟩, hv))
      (aSome data fun p_2 => ckRF (wrapF .i64 (first + child)) datan (gAgg (Addr.add (bare p_2) (Int.toNat (wrapF .i64 (first + child)) * 2)) 2 hv fun x_3 => aSome data fun p_3 => ckRF (wrapF .i64 (first + root)) datan (gAgg (Addr.add (bare p_3) (Int.toNat (wrapF .i64 (first + root)) * 2)) 2 hv fun x_4 => aSome data fun p_4 => ckRF (wrapF .i64 (first + root)) datan (ck (List.length x_3 = 2) (pAgg (Addr.add (bare p_4) (Int.toNat (wrapF .i64 (first + root)) * 2)) x_3 hv fun hv_1 => aSome data fun p_5 => ckRF (wrapF .i64 (first + child)) datan (ck (List.length x_4 = 2) (pAgg (Addr.add (bare p_5) (Int.toNat (wrapF .i64 (first + child)) * 2)) x_4 hv_1 fun hv_2 => run F_slices_siftDownCmpFunc_api_Ref 2002 [.slice data datan datac, .int .i64 hi, .int .i64 first, cmp, .int .i64 child] hv_2)))))))))
  | _ => none
noncomputable def LB_slices_siftDownCmpFunc_api_Ref_R1 : Lab := ⟨F_slices_siftDownCmpFunc_api_Ref, 6011, T_slices_siftDownCmpFunc_api_Ref_R1, [0, 2, 3, 4, 10, 11], X_slices_siftDownCmpFunc_api_Ref_R1⟩
noncomputable def X_slices_medianCmpFunc_api_Ref : XPoly := fun G _ call run a h => match a with
  | [.slice data datan datac, .int .i64 a, .int .i64 b, .int .i64 c, .pointer swaps, cmp] =>
  bnd (call F_slices_order2CmpFunc_api_Ref [.slice data datan datac, .int .i64 a, .int .i64 b, .pointer swaps, cmp] h) fun r hv => as2 r fun r_1 r_2 => aInt .i64 r_1 fun x => aInt .i64 r_2 fun x_1 => bnd (call F_slices_order2CmpFunc_api_Ref [.slice data datan datac, .int .i64 x_1, .int .i64 c, .pointer swaps, cmp] hv) fun r_3 hv_1 => as2 r_3 fun r_4 r_5 => aInt .i64 r_4 fun x_2 => aInt .i64 r_5 fun _ => bnd (call F_slices_order2CmpFunc_api_Ref [.slice data datan datac, .int .i64 x, .int .i64 x_2, .pointer swaps, cmp] hv_1) fun r_6 hv_2 => as2 r_6 fun r_7 r_8 => aInt .i64 r_7 fun _ => aInt .i64 r_8 fun x_5 => some (.int .i64 x_5, hv_2)
  | _ => none
end Go.EQ

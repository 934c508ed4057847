/- CommonsGone returns true whatever it is given: two whole numbers; its own run, by cases of the few bits that it reads of them. No condition. -/
import Derived.Test.YtocmejnmpmbepaaGreatMf
set_option linter.unusedVariables false
set_option linter.unusedSimpArgs false
set_option linter.unusedSectionVars false
set_option maxRecDepth 100000
set_option linter.unusedVariables false
namespace Go.EQ
open Go Go.Proofs
open Go.NN hiding bnd ld gInt gBool gStr gPtr gSl gMap gFv gAgg gCells nw pV pAgg pCells apd fitsOpen liveA mapAt
open Go.NP Go.NW
noncomputable def X_caps_Space_Names : XPoly := fun G _ call run a h => match a with
  | [.pointer s, .int .i64 env] =>
  bnd (call F_caps_Space_is [.pointer s, .int .i64 env] h) fun r hv => aBool r fun x => cond (!x)
      (some (.slice none 0 0, hv))
      (aSome s fun p => gSl (Addr.add p 0) hv fun x_1 xn _ => aSome x_1 fun p_1 => ckRF env xn (gPtr (Addr.add (bare p_1) (Int.toNat env * 1)) hv fun x_2 => bnd (call F_table_Table_api_Cap_Names [.pointer x_2] hv) fun r_1 hv_1 => aSl r_1 fun x_3 xn_1 xc_1 => some (.slice x_3 xn_1 xc_1, hv_1)))
  | _ => none
noncomputable def X_kern_Kern_Do : XPoly := fun G _ call run a h => match a with
  | [.pointer k, .int .i64 env, .agg ⟨c⟩] =>
  nw (.cells Y_api_Call false c) h fun b hv => nw (.cells Y_api_Answer false [.int .i64 0, .int .i64 0, .slice none 0 0]) hv fun b_1 hv_1 => bnd (cond (iltF env 0) (some (true, hv_1)) (aSome k fun p => gSl (Addr.add p 0) hv_1 fun _ xn _ => some (ileF ((xn : Nat) : Int) env, hv_1))) fun c_1 hv_2 => cond c_1
      (pAgg ⟨b_1, 0, none⟩ [.int .i64 1, .int .i64 0, .slice none 0 0] hv_2 fun hv_3 => gAgg ⟨b_1, 0, none⟩ 3 hv_3 fun x_1 => some (.agg ⟨x_1⟩, hv_3))
      (gAgg ⟨b, 0, none⟩ 7 hv_2 fun x_2 => bnd (call F_kern_Kern_bytes [.pointer k, .int .i64 env, .agg ⟨x_2⟩] hv_2) fun r hv_4 => as3 r fun r_1 r_2 r_3 => aSl r_1 fun x_3 xn_1 xc_1 => aInt .i64 r_2 fun x_4 => aBool r_3 fun x_5 => cond x_5
      (pAgg ⟨b_1, 0, none⟩ [.int .i64 x_4, .int .i64 0, .slice x_3 xn_1 xc_1] hv_4 fun hv_5 => gAgg ⟨b_1, 0, none⟩ 3 hv_5 fun x_6 => some (.agg ⟨x_6⟩, hv_5))
      (gAgg ⟨b, 0, none⟩ 7 hv_4 fun x_7 => bnd (call F_kern_Kern_number [.pointer k, .int .i64 env, .agg ⟨x_7⟩] hv_4) fun r_4 hv_6 => as2 r_4 fun r_5 r_6 => aInt .i64 r_5 fun x_8 => aInt .i64 r_6 fun x_9 => pAgg ⟨b_1, 0, none⟩ [.int .i64 x_9, .int .i64 x_8, .slice none 0 0] hv_6 fun hv_7 => gAgg ⟨b_1, 0, none⟩ 3 hv_7 fun x_10 => some (.agg ⟨x_10⟩, hv_7)))
  | _ => none
noncomputable def X_commons_Commons_View : XPoly := fun G _ call run a h => match a with
  | [.pointer c] =>
  aSome c fun p => gPtr (Addr.add p 0) h fun x => aSome c fun p_1 => gInt .i64 (Addr.add p_1 1) h fun x_1 => aSome c fun p_2 => gSl (Addr.add p_2 2) h fun x_2 xn _ => aSome x_2 fun p_3 => ckRF 0 xn (gInt .i64 (Addr.add (bare p_3) (Int.toNat 0 * 1)) h fun x_3 => bnd (call F_kern_Kern_Do [.pointer x, .int .i64 x_1, .agg ⟨[.int .i64 1, .int .i64 x_3, .int .i64 0, .int .i64 492, .int .i64 0, .int .i64 0, .slice none 0 0]⟩] h) fun r hv => aAgg r fun x_4 => nth x_4 2 fun B => aSl B fun B_1 Bn Bc => some (.slice B_1 Bn Bc, hv))
  | _ => none
noncomputable def X_fds_Pipe : XPoly := fun G _ call run a h => match a with
  | [.pointer c, .int .i64 i] =>
  nw (.cells Y_p_commons_Commons false [.pointer c]) h fun b hv => nw (.cells Y_api_Ret false [.int .i64 0, .int .i64 0, .slice none 0 0, .bool false]) hv fun b_1 hv_1 => gPtr ⟨b, 0, none⟩ hv_1 fun x => bnd (call F_proc_Self [.pointer x, .int .i64 i] hv_1) fun r hv_2 => as2 r fun r_1 r_2 => aAgg r_1 fun x_1 => aInt .i64 r_2 fun x_2 => nw (.cells Y_api_Proc false [.int .i64 0, .int .i64 0, .int .i64 0, .int .i64 0, .int .i64 0, .int .i64 0, .int .i64 0, .int .i64 0, .int .i64 0, .int .i64 0, .int .i64 0, .int .i64 0, .int .i64 0, .int .i64 0, .int .i64 0, .int .i64 0]) hv_2 fun b_2 hv_3 => ck (List.length x_1 = 16) (pAgg ⟨b_2, 0, none⟩ x_1 hv_3 fun hv_4 => cond (ineF x_2 0)
      (bnd (call F_fds_told [.int .i64 x_2] hv_4) fun r_3 hv_5 => aAgg r_3 fun x_3 => ck (List.length x_3 = 4) (pAgg ⟨b_1, 0, none⟩ x_3 hv_5 fun hv_6 => gAgg ⟨b_1, 0, none⟩ 4 hv_6 fun x_4 => some (.agg ⟨x_4⟩, hv_6)))
      (gAgg ⟨b_2, 0, none⟩ 16 hv_4 fun x_5 => bnd (call F_fds_fdsOf [.agg ⟨x_5⟩, .int .i64 2] hv_4) fun r_4 hv_7 => aSl r_4 fun x_6 xn _ => cond (iltF ((xn : Nat) : Int) 2)
      (bnd (call F_fds_told [.int .i64 124] hv_7) fun r_5 hv_8 => aAgg r_5 fun x_7 => ck (List.length x_7 = 4) (pAgg ⟨b_1, 0, none⟩ x_7 hv_8 fun hv_9 => gAgg ⟨b_1, 0, none⟩ 4 hv_9 fun x_8 => some (.agg ⟨x_8⟩, hv_9)))
      (bnd (call F_fds_free [.int .i64 12, .int .i64 2, .func (.func F_fds_Pipe_1) ⟨[]⟩ ⟨[.pointer (some ⟨b, 0, none⟩)]⟩] hv_7) fun r_6 hv_10 => aSl r_6 fun x_9 xn_1 _ => bnd (call F_fds_free [.int .i64 4, .int .i64 1, .func (.func F_fds_Pipe_2) ⟨[]⟩ ⟨[.pointer (some ⟨b, 0, none⟩)]⟩] hv_10) fun r_7 hv_11 => aSl r_7 fun x_10 xn_2 _ => bnd (cond (iltF ((xn_1 : Nat) : Int) 2) (some (true, hv_11)) (some (ieqF ((xn_2 : Nat) : Int) 0, hv_11))) fun c_1 hv_12 => cond c_1
      (bnd (call F_fds_told [.int .i64 123] hv_12) fun r_8 hv_13 => aAgg r_8 fun x_11 => ck (List.length x_11 = 4) (pAgg ⟨b_1, 0, none⟩ x_11 hv_13 fun hv_14 => gAgg ⟨b_1, 0, none⟩ 4 hv_14 fun x_12 => some (.agg ⟨x_12⟩, hv_14)))
      (gPtr ⟨b, 0, none⟩ hv_12 fun x_13 => aSome x_10 fun p => ckRF 0 xn_2 (gInt .i64 (Addr.add (bare p) (Int.toNat 0 * 1)) hv_12 fun x_14 => bnd (call F_commons_Commons_SetPipe [.pointer x_13, .int .i64 x_14, .agg ⟨[.int .i64 0, .int .i64 0, .int .i64 1, .int .i64 1, .int .u8 0, .int .u8 0, .int .u8 0, .int .u8 0, .int .u8 0, .int .u8 0, .int .u8 0, .int .u8 0, .int .u8 0, .int .u8 0, .int .u8 0, .int .u8 0, .int .u8 0, .int .u8 0, .int .u8 0, .int .u8 0, .int .u8 0, .int .u8 0, .int .u8 0, .int .u8 0, .int .u8 0, .int .u8 0, .int .u8 0, .int .u8 0, .int .u8 0, .int .u8 0, .int .u8 0, .int .u8 0, .int .u8 0, .int .u8 0, .int .u8 0, .int .u8 0]⟩] hv_12) fun r_9 hv_15 => aBool r_9 fun x_15 => bnd (cond x_15 (gPtr ⟨b, 0, none⟩ hv_15 fun x_16 => aSome x_9 fun p_1 => ckRF 0 xn_1 (gInt .i64 (Addr.add (bare p_1) (Int.toNat 0 * 1)) hv_15 fun x_17 => aSome x_10 fun p_2 => ckRF 0 xn_2 (gInt .i64 (Addr.add (bare p_2) (Int.toNat 0 * 1)) hv_15 fun x_18 => bnd (call F_commons_Commons_SetFile [.pointer x_16, .int .i64 x_17, .agg ⟨[.int .i64 1, .int .i64 x_18, .int .i64 1, .int .i64 0]⟩] hv_15) fun r_10 hv_16 => aBool r_10 fun x_19 => some (x_19, hv_16)))) (some (false, hv_15))) fun c_2 hv_17 => bnd (cond c_2 (gPtr ⟨b, 0, none⟩ hv_17 fun x_20 => aSome x_9 fun p_3 => ckRF 1 xn_1 (gInt .i64 (Addr.add (bare p_3) (Int.toNat 1 * 1)) hv_17 fun x_21 => aSome x_10 fun p_4 => ckRF 0 xn_2 (gInt .i64 (Addr.add (bare p_4) (Int.toNat 0 * 1)) hv_17 fun x_22 => bnd (call F_commons_Commons_SetFile [.pointer x_20, .int .i64 x_21, .agg ⟨[.int .i64 2, .int .i64 x_22, .int .i64 1, .int .i64 0]⟩] hv_17) fun r_11 hv_18 => aBool r_11 fun x_23 => some (x_23, hv_18)))) (some (false, hv_17))) fun c_3 hv_19 => aSome x_6 fun p_5 => ckRF 0 xn (gInt .i64 (Addr.add (bare p_5) (Int.toNat 0 * 1)) hv_19 fun x_24 => aSome x_6 fun p_6 => ckRF 1 xn (gInt .i64 (Addr.add (bare p_6) (Int.toNat 1 * 1)) hv_19 fun x_25 => aSome x_9 fun p_7 => ckRF 0 xn_1 (gInt .i64 (Addr.add (bare p_7) (Int.toNat 0 * 1)) hv_19 fun x_26 => aSome x_9 fun p_8 => ckRF 1 xn_1 (gInt .i64 (Addr.add (bare p_8) (Int.toNat 1 * 1)) hv_19 fun x_27 => ckRF x_24 8 (pV (Addr.add (Addr.add ⟨b_2, 0, none⟩ 8) (Int.toNat x_24 * 1)) (.int .i64 (wrapF .i64 (x_26 + 1))) hv_19 fun hv_20 => gInt .i64 (Addr.add (bare p_6) (Int.toNat 1 * 1)) hv_20 fun x_28 => same (.int .i64 x_25) (.int .i64 x_28) (gInt .i64 (Addr.add (bare p_8) (Int.toNat 1 * 1)) hv_20 fun x_29 => same (.int .i64 x_27) (.int .i64 x_29) (ckRF x_25 8 (pV (Addr.add (Addr.add ⟨b_2, 0, none⟩ 8) (Int.toNat x_25 * 1)) (.int .i64 (wrapF .i64 (x_27 + 1))) hv_20 fun hv_21 => aSome x_6 fun p_9 => ckRF 0 xn (gInt .i64 (Addr.add (bare p_9) (Int.toNat 0 * 1)) hv_21 fun x_30 => aSome x_6 fun p_10 => ckRF 1 xn (gInt .i64 (Addr.add (bare p_10) (Int.toNat 1 * 1)) hv_21 fun x_31 => bnd (cond c_3 (gPtr ⟨b, 0, none⟩ hv_21 fun x_32 => gAgg ⟨b_2, 0, none⟩ 16 hv_21 fun x_33 => bnd (call F_commons_Commons_SetProc [.pointer x_32, .int .i64 i, .agg ⟨x_33⟩] hv_21) fun r_12 hv_22 => aBool r_12 fun x_34 => gInt .i64 (Addr.add (bare p_9) (Int.toNat 0 * 1)) hv_22 fun x_35 => same (.int .i64 x_30) (.int .i64 x_35) (gInt .i64 (Addr.add (bare p_10) (Int.toNat 1 * 1)) hv_22 fun x_36 => same (.int .i64 x_31) (.int .i64 x_36) (some (x_34, hv_22)))) (some (false, hv_21))) fun c_4 hv_23 => bnd (call F_fds_done [.bool c_4, .int .i64 (wrapF .i64 (x_30 + (wrapF .i64 (16 * x_31))))] hv_23) fun r_13 hv_24 => aAgg r_13 fun x_37 => ck (List.length x_37 = 4) (pAgg ⟨b_1, 0, none⟩ x_37 hv_24 fun hv_25 => gAgg ⟨b_1, 0, none⟩ 4 hv_25 fun x_38 => some (.agg ⟨x_38⟩, hv_25)))))))))))))))))
  | _ => none
noncomputable def X_fds_Close : XPoly := fun G _ call run a h => match a with
  | [.pointer c, .int .i64 i, .int .i64 fd] =>
  nw (.cells Y_api_Ret false [.int .i64 0, .int .i64 0, .slice none 0 0, .bool false]) h fun b hv => bnd (call F_proc_Self [.pointer c, .int .i64 i] hv) fun r hv_1 => as2 r fun r_1 r_2 => aAgg r_1 fun x => aInt .i64 r_2 fun x_1 => nw (.cells Y_api_Proc false [.int .i64 0, .int .i64 0, .int .i64 0, .int .i64 0, .int .i64 0, .int .i64 0, .int .i64 0, .int .i64 0, .int .i64 0, .int .i64 0, .int .i64 0, .int .i64 0, .int .i64 0, .int .i64 0, .int .i64 0, .int .i64 0]) hv_1 fun b_1 hv_2 => ck (List.length x = 16) (pAgg ⟨b_1, 0, none⟩ x hv_2 fun hv_3 => cond (ineF x_1 0)
      (bnd (call F_fds_told [.int .i64 x_1] hv_3) fun r_3 hv_4 => aAgg r_3 fun x_2 => ck (List.length x_2 = 4) (pAgg ⟨b, 0, none⟩ x_2 hv_4 fun hv_5 => gAgg ⟨b, 0, none⟩ 4 hv_5 fun x_3 => some (.agg ⟨x_3⟩, hv_5)))
      (gAgg ⟨b_1, 0, none⟩ 16 hv_3 fun x_4 => bnd (call F_fds_named [.agg ⟨x_4⟩, .int .i64 fd] hv_3) fun r_4 hv_6 => aBool r_4 fun x_5 => cond (!x_5)
      (bnd (call F_fds_told [.int .i64 109] hv_6) fun r_5 hv_7 => aAgg r_5 fun x_6 => ck (List.length x_6 = 4) (pAgg ⟨b, 0, none⟩ x_6 hv_7 fun hv_8 => gAgg ⟨b, 0, none⟩ 4 hv_8 fun x_7 => some (.agg ⟨x_7⟩, hv_8)))
      (ckRF fd 8 (gInt .i64 (Addr.add (Addr.add ⟨b_1, 0, none⟩ 8) (Int.toNat fd * 1)) hv_6 fun x_8 => ckRF fd 8 (pV (Addr.add (Addr.add ⟨b_1, 0, none⟩ 8) (Int.toNat fd * 1)) (.int .i64 0) hv_6 fun hv_9 => gAgg ⟨b_1, 0, none⟩ 16 hv_9 fun x_9 => bnd (call F_commons_Commons_SetProc [.pointer c, .int .i64 i, .agg ⟨x_9⟩] hv_9) fun r_6 hv_10 => aBool r_6 fun x_10 => cond (!x_10)
      (bnd (call F_fds_told [.int .i64 105] hv_10) fun r_7 hv_11 => aAgg r_7 fun x_11 => ck (List.length x_11 = 4) (pAgg ⟨b, 0, none⟩ x_11 hv_11 fun hv_12 => gAgg ⟨b, 0, none⟩ 4 hv_12 fun x_12 => some (.agg ⟨x_12⟩, hv_12)))
      (bnd (call F_proc_CloseFile [.pointer c, .int .i64 (wrapF .i64 (x_8 - 1))] hv_10) fun r_8 hv_13 => aInt .i64 r_8 fun x_13 => bnd (call F_fds_told [.int .i64 x_13] hv_13) fun r_9 hv_14 => aAgg r_9 fun x_14 => ck (List.length x_14 = 4) (pAgg ⟨b, 0, none⟩ x_14 hv_14 fun hv_15 => gAgg ⟨b, 0, none⟩ 4 hv_15 fun x_15 => some (.agg ⟨x_15⟩, hv_15))))))))
  | _ => none
noncomputable def X_ofile_Decode : XPoly := fun G _ call run a h => match a with
  | [.slice b bn bc] =>
  nw (.cells Y_api_File false [.int .i64 0, .int .i64 0, .int .i64 0, .int .i64 0]) h fun b_1 hv => bnd (cond (ieqF ((bn : Nat) : Int) 8) (bnd (call F_codec_Blank [.slice b bn bc] hv) fun r hv_1 => aBool r fun x => some (x, hv_1)) (some (false, hv))) fun c hv_2 => cond c
      (pAgg ⟨b_1, 0, none⟩ [.int .i64 0, .int .i64 0, .int .i64 0, .int .i64 0] hv_2 fun hv_3 => gAgg ⟨b_1, 0, none⟩ 4 hv_3 fun x_1 => some (.tuple ⟨[.agg ⟨x_1⟩, .int .i64 0]⟩, hv_3))
      (bnd (call F_ofile_Codec [] hv_2) fun r_1 hv_4 => aPtr r_1 fun x_2 => bnd (call F_codec_Codec_api_File_Decode [.pointer x_2, .slice b bn bc] hv_4) fun r_2 hv_5 => as2 r_2 fun r_3 r_4 => aAgg r_3 fun x_3 => aBool r_4 fun x_4 => nw (.cells Y_api_File false [.int .i64 0, .int .i64 0, .int .i64 0, .int .i64 0]) hv_5 fun b_2 hv_6 => ck (List.length x_3 = 4) (pAgg ⟨b_2, 0, none⟩ x_3 hv_6 fun hv_7 => cond (!x_4)
      (pAgg ⟨b_1, 0, none⟩ [.int .i64 0, .int .i64 0, .int .i64 0, .int .i64 0] hv_7 fun hv_8 => gAgg ⟨b_1, 0, none⟩ 4 hv_8 fun x_5 => some (.tuple ⟨[.agg ⟨x_5⟩, .int .i64 2]⟩, hv_8))
      (gAgg ⟨b_2, 0, none⟩ 4 hv_7 fun x_6 => ck (List.length x_6 = 4) (pAgg ⟨b_1, 0, none⟩ x_6 hv_7 fun hv_9 => gAgg ⟨b_1, 0, none⟩ 4 hv_9 fun x_7 => some (.tuple ⟨[.agg ⟨x_7⟩, .int .i64 1]⟩, hv_9)))))
  | _ => none
noncomputable def X_commons_record_int : XPoly := fun G _ call run a h => match a with
  | [.pointer c, .agg ⟨r⟩, decode] =>
  nw (.cells Y_api_Rec false r) h fun b hv => gAgg ⟨b, 0, none⟩ 2 hv fun x => bnd (call F_commons_Commons_read [.pointer c, .agg ⟨x⟩] hv) fun r_1 hv_1 => as2 r_1 fun r_2 r_3 => aSl r_2 fun x_1 xn xc => aBool r_3 fun x_2 => cond (!x_2)
      (some (.tuple ⟨[.int .i64 0, .int .i64 2]⟩, hv_1))
      (aFn decode fun g fi cp => bnd (call g (fi ++ ([.slice x_1 xn xc] ++ cp)) hv_1) fun r_4 hv_2 => as2 r_4 fun r_5 r_6 => aInt .i64 r_5 fun x_3 => aInt .i64 r_6 fun x_4 => cond (ieqF x_4 2)
      (aSome c fun p => gMap (Addr.add p 3) hv_2 fun x_5 => gAgg ⟨b, 0, none⟩ 2 hv_2 fun x_6 => keyN PR Y_api_Rec (.agg ⟨x_6⟩) (opt x_5 fun r_7 => mapAt hv_2 r_7 fun es _ => opt (lookM (.int .i64 0) (.agg ⟨x_6⟩) es) fun f => aInt .i64 f.1 fun x_7 => keyN PR Y_api_Rec (.agg ⟨x_6⟩) (opt x_5 fun r_8 => mapAt hv_2 r_8 fun es_1 cl_1 => opt (entM (.int .i64 0) (.agg ⟨x_6⟩) es_1 cl_1) fun f_1 => aInt .i64 f_1.1 fun _ => lt (hset hv_2 r_8 f_1.2.2) fun hv_3 => keyN PR Y_api_Rec (.agg ⟨x_6⟩) (opt x_5 fun r_9 => mapAt hv_3 r_9 fun es_2 _ => opt (lookM (.int .i64 0) (.agg ⟨x_6⟩) es_2) fun f_2 => aInt .i64 f_2.1 fun x_9 => same (.int .i64 x_7) (.int .i64 x_9) (opt x_5 fun r_10 => mapAt hv_3 r_10 fun es_3 cl_3 => opt (bornN (f_1.2.1 : Int) es_3 0) fun i => lt (hset hv_3 r_10 (.map (modN (fun e => { e with val := .int .i64 (wrapF .i64 (x_7 + 1)) }) i es_3) cl_3)) fun hv_4 => run F_commons_record_int 3017 [.int .i64 0, .int .i64 x_3, .int .i64 x_4] hv_4)))))
      (run F_commons_record_int 3017 [.int .i64 0, .int .i64 x_3, .int .i64 x_4] hv_2))
  | _ => none
noncomputable def X_commons_record_int_R1 : XPoly := fun G _ call run a h => match a with
  | [.int .i64 nonev, .int .i64 v, .int .i64 isv] =>
  cond (ineF isv 1)
      (some (.tuple ⟨[.int .i64 nonev, .int .i64 isv]⟩, h))
      (some (.tuple ⟨[.int .i64 v, .int .i64 isv]⟩, h))
  | _ => none
noncomputable def LB_commons_record_int_R1 : Lab := ⟨F_commons_record_int, 3017, T_commons_record_int_R1, [8, 11, 12], X_commons_record_int_R1⟩
noncomputable def X_law11_Proc_1 : XPoly := fun G _ call run a h => match a with
  | [.pointer (some fv0), .pointer (some fv1)] =>
  gInt .i64 fv0 h fun x => pV fv0 (.int .i64 (wrapF .i64 (x + 1))) h fun hv => gInt .i64 fv0 hv fun x_1 => gSl fv1 hv fun _ xn _ => cond (iltF ((xn : Nat) : Int) x_1)
      (gInt .i64 fv0 hv fun x_3 => some (.int .i64 (wrapF .i64 (x_3 * 7)), hv))
      (gSl fv1 hv fun x_4 xn_1 _ => gInt .i64 fv0 hv fun x_5 => aSome x_4 fun p => ckRF (wrapF .i64 (x_5 - 1)) xn_1 (gInt .i64 (Addr.add (bare p) (Int.toNat (wrapF .i64 (x_5 - 1)) * 1)) hv fun x_6 => some (.int .i64 (bitAF .i64 x_6 16777215), hv)))
  | _ => none
noncomputable def X_commons_Commons_blank : XPoly := fun G _ call run a h => match a with
  | [.pointer c, .agg ⟨r⟩] =>
  nw (.cells Y_api_Rec false r) h fun b hv => gAgg ⟨b, 0, none⟩ 2 hv fun x => bnd (call F_commons_Commons_place [.pointer c, .agg ⟨x⟩] hv) fun r_1 hv_1 => as2 r_1 fun r_2 r_3 => aAgg r_2 fun x_1 => aBool r_3 fun x_2 => nw (.cells Y_commons_place false [.int .i64 0, .int .i64 0, .int .i64 0]) hv_1 fun b_1 hv_2 => ck (List.length x_1 = 3) (pAgg ⟨b_1, 0, none⟩ x_1 hv_2 fun hv_3 => gAgg ⟨b, 0, none⟩ 2 hv_3 fun x_3 => gInt .i64 (Addr.add ⟨b_1, 0, none⟩ 2) hv_3 fun x_4 => ck ((0 : Int) ≤ x_4 ∧ (x_4 : Int) ≤ x_4 ∧ x_4 ≤ (most : Int)) (nw (.cells Y_uint8 false (manyN (Int.toNat x_4) [.int .u8 0])) hv_3 fun b_2 hv_4 => bnd (call F_commons_Commons_write [.pointer c, .agg ⟨x_3⟩, .slice (some ⟨b_2, 0, none⟩) (Int.toNat x_4) (Int.toNat x_4), .bool x_2] hv_4) fun r_4 hv_5 => aBool r_4 fun x_5 => some (.bool x_5, hv_5)))
  | _ => none
noncomputable def X_proc_told : XPoly := fun G _ call run a h => match a with
  | [.int .i64 e] =>
  nw (.cells Y_api_Ret false [.int .i64 0, .int .i64 0, .slice none 0 0, .bool false]) h fun b hv => pAgg ⟨b, 0, none⟩ [.int .i64 0, .int .i64 e, .slice none 0 0, .bool false] hv fun hv_1 => gAgg ⟨b, 0, none⟩ 4 hv_1 fun x => some (.agg ⟨x⟩, hv_1)
  | _ => none
noncomputable def X_proc_free : XPoly := fun G _ call run a h => match a with
  | [.pointer c] =>
  run F_proc_free 3004 [.pointer c, .int .i64 0] h
  | _ => none
noncomputable def X_proc_free_L1 : XPoly := fun G _ call run a h => match a with
  | [.pointer c, .int .i64 x6] =>
  cond (iltF x6 8)
      (bnd (call F_commons_Commons_Proc [.pointer c, .int .i64 x6] h) fun r hv => as2 r fun r_1 r_2 => aAgg r_1 fun x => aInt .i64 r_2 fun x_1 => nw (.cells Y_api_Proc false [.int .i64 0, .int .i64 0, .int .i64 0, .int .i64 0, .int .i64 0, .int .i64 0, .int .i64 0, .int .i64 0, .int .i64 0, .int .i64 0, .int .i64 0, .int .i64 0, .int .i64 0, .int .i64 0, .int .i64 0, .int .i64 0]) hv fun b hv_1 => ck (List.length x = 16) (pAgg ⟨b, 0, none⟩ x hv_1 fun hv_2 => cond (ieqF x_1 0)
      (some (.int .i64 x6, hv_2))
      (run F_proc_free 3004 [.pointer c, .int .i64 (wrapF .i64 (x6 + 1))] hv_2)))
      (some (.int .i64 (-1), h))
  | _ => none
noncomputable def LB_proc_free_L1 : Lab := ⟨F_proc_free, 3004, T_proc_free_L1, [0, 6], X_proc_free_L1⟩
noncomputable def X_fds_free : XPoly := fun G _ call run a h => match a with
  | [.int .i64 n, .int .i64 want, isv] =>
  run F_fds_free 3006 [.int .i64 n, .int .i64 want, isv, .slice none 0 0, .int .i64 0] h
  | _ => none
noncomputable def X_fds_free_L1 : XPoly := fun G _ call run a h => match a with
  | [.int .i64 n, .int .i64 want, isv, .slice out outn outc, .int .i64 i] =>
  bnd (cond (iltF i n) (some (iltF ((outn : Nat) : Int) want, h)) (some (false, h))) fun c hv => cond c
      (aFn isv fun g fi cp => bnd (call g (fi ++ ([.int .i64 i] ++ cp)) hv) fun r hv_1 => aBool r fun x => cond x
      (nw (.cells Y_int false [.int .i64 i]) hv_1 fun b hv_2 => gCells (some ⟨b, 0, none⟩) (1 * 1) hv_2 fun cs => ckB (fitsOpen out Y_int hv_2) (apd Y_int 1 out outn outc 1 cs hv_2 fun a an ac hv_3 => run F_fds_free 3006 [.int .i64 n, .int .i64 want, isv, .slice a an ac, .int .i64 (wrapF .i64 (i + 1))] hv_3))
      (run F_fds_free 3006 [.int .i64 n, .int .i64 want, isv, .slice out outn outc, .int .i64 (wrapF .i64 (i + 1))] hv_1))
      (some (.slice out outn outc, hv))
  | _ => none
noncomputable def LB_fds_free_L1 : Lab := ⟨F_fds_free, 3006, T_fds_free_L1, [0, 1, 2, 7, 8], X_fds_free_L1⟩
noncomputable def X_fds_Of : XPoly := fun G _ call run a h => match a with
  | [.pointer c, .int .i64 i, .int .i64 fd] =>
  nw (.cells Y_api_File false [.int .i64 0, .int .i64 0, .int .i64 0, .int .i64 0]) h fun b hv => bnd (call F_proc_Self [.pointer c, .int .i64 i] hv) fun r hv_1 => as2 r fun r_1 r_2 => aAgg r_1 fun x => aInt .i64 r_2 fun x_1 => nw (.cells Y_api_Proc false [.int .i64 0, .int .i64 0, .int .i64 0, .int .i64 0, .int .i64 0, .int .i64 0, .int .i64 0, .int .i64 0, .int .i64 0, .int .i64 0, .int .i64 0, .int .i64 0, .int .i64 0, .int .i64 0, .int .i64 0, .int .i64 0]) hv_1 fun b_1 hv_2 => ck (List.length x = 16) (pAgg ⟨b_1, 0, none⟩ x hv_2 fun hv_3 => cond (ineF x_1 0)
      (gAgg ⟨b, 0, none⟩ 4 hv_3 fun x_2 => ck (List.length x_2 = 4) (pAgg ⟨b, 0, none⟩ x_2 hv_3 fun hv_4 => gAgg ⟨b, 0, none⟩ 4 hv_4 fun x_3 => some (.tuple ⟨[.int .i64 0, .agg ⟨x_3⟩, .int .i64 x_1]⟩, hv_4)))
      (gAgg ⟨b_1, 0, none⟩ 16 hv_3 fun x_4 => bnd (call F_fds_named [.agg ⟨x_4⟩, .int .i64 fd] hv_3) fun r_3 hv_5 => aBool r_3 fun x_5 => cond (!x_5)
      (gAgg ⟨b, 0, none⟩ 4 hv_5 fun x_6 => ck (List.length x_6 = 4) (pAgg ⟨b, 0, none⟩ x_6 hv_5 fun hv_6 => gAgg ⟨b, 0, none⟩ 4 hv_6 fun x_7 => some (.tuple ⟨[.int .i64 0, .agg ⟨x_7⟩, .int .i64 109]⟩, hv_6)))
      (ckRF fd 8 (gInt .i64 (Addr.add (Addr.add ⟨b_1, 0, none⟩ 8) (Int.toNat fd * 1)) hv_5 fun x_8 => bnd (call F_commons_Commons_File [.pointer c, .int .i64 (wrapF .i64 (x_8 - 1))] hv_5) fun r_4 hv_7 => as2 r_4 fun r_5 r_6 => aAgg r_5 fun x_9 => aInt .i64 r_6 fun x_10 => ck (List.length x_9 = 4) (pAgg ⟨b, 0, none⟩ x_9 hv_7 fun hv_8 => cond (ineF x_10 1)
      (pAgg ⟨b, 0, none⟩ [.int .i64 0, .int .i64 0, .int .i64 0, .int .i64 0] hv_8 fun hv_9 => gAgg ⟨b, 0, none⟩ 4 hv_9 fun x_11 => some (.tuple ⟨[.int .i64 0, .agg ⟨x_11⟩, .int .i64 105]⟩, hv_9))
      (ckRF fd 8 (gInt .i64 (Addr.add (Addr.add ⟨b_1, 0, none⟩ 8) (Int.toNat fd * 1)) hv_8 fun x_12 => gAgg ⟨b, 0, none⟩ 4 hv_8 fun x_13 => ck (List.length x_13 = 4) (pAgg ⟨b, 0, none⟩ x_13 hv_8 fun hv_10 => gAgg ⟨b, 0, none⟩ 4 hv_10 fun x_14 => some (.tuple ⟨[.int .i64 (wrapF .i64 (x_12 - 1)), .agg ⟨x_14⟩, .int .i64 0]⟩, hv_10)))))))))
  | _ => none
noncomputable def X_kern_frames : XPoly := fun G _ call run a h => match a with
  | [.int .i64 n] =>
  some (.int .i64 (mm2 false (mm2 true n 0) 64), h)
  | _ => none
noncomputable def X_slices_Clone_s_int_int : XPoly := fun G _ call run a h => match a with
  | [.slice s sn sc] =>
  cond s.isNone
      (some (.slice none 0 0, h))
      (nw (.cells Y_int false []) h fun b hv => gCells s (sn * 1) hv fun cs => ckB (fitsOpen (some ⟨b, 0, none⟩) Y_int hv) (apd Y_int 1 (some ⟨b, 0, none⟩) 0 0 sn cs hv fun a an ac hv_1 => some (.slice a an ac, hv_1)))
  | _ => none
noncomputable def X_ref1_Quota_First : XPoly := fun G _ call run a h => match a with
  | [.pointer q, .int .i64 s] =>
  run F_ref1_Quota_First 3006 [.pointer q, .int .i64 s, .int .i64 0, .int .i64 0] h
  | _ => none
noncomputable def X_ref1_Quota_First_L1 : XPoly := fun G _ call run a h => match a with
  | [.pointer q, .int .i64 s, .int .i64 n, .int .i64 i] =>
  cond (iltF i s)
      (aSome q fun p => gSl (Addr.add p 0) h fun x xn _ => aSome x fun p_1 => ckRF i xn (gSl (Addr.add (bare p_1) (Int.toNat i * 1)) h fun _ xn_1 _ => run F_ref1_Quota_First 3006 [.pointer q, .int .i64 s, .int .i64 (wrapF .i64 (n + ((xn_1 : Nat) : Int))), .int .i64 (wrapF .i64 (i + 1))] h))
      (some (.int .i64 n, h))
  | _ => none
noncomputable def LB_ref1_Quota_First_L1 : Lab := ⟨F_ref1_Quota_First, 3006, T_ref1_Quota_First_L1, [0, 1, 5, 6], X_ref1_Quota_First_L1⟩
noncomputable def X_ref1_NewSpace : XPoly := fun G _ call run a h => match a with
  | [.int .i64 envs] =>
  nw (.cells Y_ref1_Space false [.slice none 0 0, .slice none 0 0]) h fun b hv => run F_ref1_NewSpace 3006 [.int .i64 envs, .pointer (some ⟨b, 0, none⟩), .int .i64 0] hv
  | _ => none
noncomputable def X_ref1_NewSpace_L1 : XPoly := fun G _ call run a h => match a with
  | [.int .i64 envs, .pointer (some s), .int .i64 i] =>
  bnd (cond (iltF i envs) (some (iltF i 40, h)) (some (false, h))) fun c hv => cond c
      (gSl (Addr.add s 0) hv fun x xn xc => bnd (call F_ref1_NewNames [.int .i64 32] hv) fun r hv_1 => aPtr r fun x_1 => gSl (Addr.add s 0) hv_1 fun x_2 xn_1 xc_1 => same (.slice x xn xc) (.slice x_2 xn_1 xc_1) (nw (.cells Y_p_ref1_Names false [.pointer x_1]) hv_1 fun b hv_2 => gCells (some ⟨b, 0, none⟩) (1 * 1) hv_2 fun cs => ckB (fitsOpen x Y_p_ref1_Names hv_2) (apd Y_p_ref1_Names 1 x xn xc 1 cs hv_2 fun a an ac hv_3 => pV (Addr.add s 0) (.slice a an ac) hv_3 fun hv_4 => gSl (Addr.add s 1) hv_4 fun x_3 xn_2 xc_2 => ck ((0 : Int) ≤ 32 ∧ (32 : Int) ≤ 32 ∧ 32 ≤ (most : Int)) (nw (.cells Y_api_Cap false (manyN (Int.toNat 32) [.int .i64 0, .int .i64 0, .int .i64 0, .int .i64 0, .int .i64 0, .int .i64 0])) hv_4 fun b_1 hv_5 => nw (.cells Y_s_api_Cap false [.slice (some ⟨b_1, 0, none⟩) (Int.toNat 32) (Int.toNat 32)]) hv_5 fun b_2 hv_6 => gCells (some ⟨b_2, 0, none⟩) (1 * 1) hv_6 fun cs_1 => ckB (fitsOpen x_3 Y_s_api_Cap hv_6) (apd Y_s_api_Cap 1 x_3 xn_2 xc_2 1 cs_1 hv_6 fun a_1 an_1 ac_1 hv_7 => pV (Addr.add s 1) (.slice a_1 an_1 ac_1) hv_7 fun hv_8 => run F_ref1_NewSpace 3006 [.int .i64 envs, .pointer (some s), .int .i64 (wrapF .i64 (i + 1))] hv_8)))))
      (some (.pointer (some s), hv))
  | _ => none
noncomputable def LB_ref1_NewSpace_L1 : Lab := ⟨F_ref1_NewSpace, 3006, T_ref1_NewSpace_L1, [0, 3, 4], X_ref1_NewSpace_L1⟩
noncomputable def X_ref1_Regions_Write : XPoly := fun G _ call run a h => match a with
  | [.pointer r, .int .i64 e, .int .i64 name, .int .i64 atv, .string b] =>
  bnd (call F_ref1_Regions_place [.pointer r, .int .i64 e, .int .i64 name, .int .i64 2, .int .i64 atv, .int .i64 ((ByteArray.size b : Nat) : Int)] h) fun r_1 hv => as2 r_1 fun r_2 r_3 => aInt .i64 r_2 fun x => aInt .i64 r_3 fun x_1 => cond (ineF x_1 0)
      (some (.int .i64 x_1, hv))
      (aSome r fun p => gSl (Addr.add p 0) hv fun x_2 xn xc => ckB (fitsOpen x_2 Y_uint8 hv) (ckLF x xn (pCells (moved x_2 (decide (Int.toNat x < xc)) ((Int.toNat x) * 1)) (byteCells (List.take (min (ByteArray.size b) (xn - (Int.toNat x))) (ByteArray.data b).toList)) hv fun hv_1 => some (.int .i64 0, hv_1))))
  | _ => none
noncomputable def X_ref1_Space_Revoke : XPoly := fun G _ call run a h => match a with
  | [.pointer s, .int .i64 e, .int .i64 name] =>
  bnd (call F_ref1_Space_Under [.pointer s, .int .i64 e, .int .i64 name] h) fun r hv => as2 r fun r_1 r_2 => aSl r_1 fun x xn xc => aInt .i64 r_2 fun x_1 => cond (ineF x_1 0)
      (some (.tuple ⟨[.int .i64 0, .int .i64 x_1]⟩, hv))
      (nw (.cells Y_api_Ref false [.int .i64 e, .int .i64 name]) hv fun b hv_1 => gCells (some ⟨b, 0, none⟩) (1 * 2) hv_1 fun cs => ckB (fitsOpen x Y_api_Ref hv_1) (apd Y_api_Ref 2 x xn xc 1 cs hv_1 fun a an ac hv_2 => run F_ref1_Space_Revoke 3012 [.pointer s, .slice a an ac, .int .i64 0] hv_2))
  | _ => none
noncomputable def X_ref1_Space_Revoke_L1 : XPoly := fun G _ call run a h => match a with
  | [.pointer s, .slice l ln lc, .int .i64 i] =>
  cond (iltF i ((ln : Nat) : Int))
      (aSome s fun p => gSl (Addr.add p 0) h fun x xn _ => aSome l fun p_1 => ckRF i ln (gInt .i64 (Addr.add (Addr.add (bare p_1) (Int.toNat i * 2)) 0) h fun x_1 => aSome x fun p_2 => ckRF x_1 xn (gPtr (Addr.add (bare p_2) (Int.toNat x_1 * 1)) h fun x_2 => aSome l fun p_3 => ckRF i ln (gInt .i64 (Addr.add (Addr.add (bare p_3) (Int.toNat i * 2)) 1) h fun x_3 => bnd (call F_ref1_Names_Drop [.pointer x_2, .int .i64 x_3] h) fun r hv => aBool r fun _ => run F_ref1_Space_Revoke 3012 [.pointer s, .slice l ln lc, .int .i64 (wrapF .i64 (i + 1))] hv))))
      (some (.tuple ⟨[.int .i64 ((ln : Nat) : Int), .int .i64 0]⟩, h))
  | _ => none
noncomputable def LB_ref1_Space_Revoke_L1 : Lab := ⟨F_ref1_Space_Revoke, 3012, T_ref1_Space_Revoke_L1, [0, 8, 10], X_ref1_Space_Revoke_L1⟩
noncomputable def X_ref1_Quota_Alloc : XPoly := fun G _ call run a h => match a with
  | [.pointer q, .int .i64 s] =>
  bnd (cond (iltF s 0) (some (true, h)) (aSome q fun p => gSl (Addr.add p 0) h fun _ xn _ => some (ileF ((xn : Nat) : Int) s, h))) fun c hv => cond c
      (some (.tuple ⟨[.int .i64 0, .int .i64 1]⟩, hv))
      (run F_ref1_Quota_Alloc 3008 [.pointer q, .int .i64 s, .int .i64 0] hv)
  | _ => none
noncomputable def X_ref1_Quota_Alloc_L1 : XPoly := fun G _ call run a h => match a with
  | [.pointer q, .int .i64 s, .int .i64 i] =>
  aSome q fun p => gSl (Addr.add p 0) h fun x xn _ => aSome x fun p_1 => ckRF s xn (gSl (Addr.add (bare p_1) (Int.toNat s * 1)) h fun _ xn_1 _ => cond (iltF i ((xn_1 : Nat) : Int))
      (aSome q fun p_2 => gSl (Addr.add p_2 0) h fun x_2 xn_2 _ => aSome x_2 fun p_3 => ckRF s xn_2 (gSl (Addr.add (bare p_3) (Int.toNat s * 1)) h fun x_3 xn_3 _ => aSome x_3 fun p_4 => ckRF i xn_3 (gBool (Addr.add (bare p_4) (Int.toNat i * 1)) h fun x_4 => cond (!x_4)
      (aSome q fun p_5 => gSl (Addr.add p_5 0) h fun x_5 xn_4 _ => aSome x_5 fun p_6 => ckRF s xn_4 (gSl (Addr.add (bare p_6) (Int.toNat s * 1)) h fun x_6 xn_5 _ => aSome x_6 fun p_7 => ckRF i xn_5 (pV (Addr.add (bare p_7) (Int.toNat i * 1)) (.bool true) h fun hv => some (.tuple ⟨[.int .i64 i, .int .i64 0]⟩, hv))))
      (run F_ref1_Quota_Alloc 3008 [.pointer q, .int .i64 s, .int .i64 (wrapF .i64 (i + 1))] h))))
      (some (.tuple ⟨[.int .i64 0, .int .i64 4]⟩, h)))
  | _ => none
noncomputable def LB_ref1_Quota_Alloc_L1 : Lab := ⟨F_ref1_Quota_Alloc, 3008, T_ref1_Quota_Alloc_L1, [0, 1, 6], X_ref1_Quota_Alloc_L1⟩
noncomputable def X_ref1_Sect_Enter : XPoly := fun G _ call run a h => match a with
  | [.pointer s, .int .i64 who, .int .i64 now] =>
  bnd (cond (iltF who 0) (some (true, h)) (some (iltF 99 who, h))) fun c hv => cond c
      (some (.tuple ⟨[.int .i64 0, .bool false]⟩, hv))
      (aSome s fun p => gInt .i64 (Addr.add p 7) hv fun x => aSome s fun p_1 => pV (Addr.add p_1 7) (.int .i64 (mm2 true x now)) hv fun hv_1 => aSome s fun p_2 => gBool (Addr.add p_2 6) hv_1 fun x_1 => bnd (cond x_1 (aSome s fun p_3 => gInt .i64 (Addr.add p_3 1) hv_1 fun x_2 => some (ieqF x_2 who, hv_1)) (some (false, hv_1))) fun c_1 hv_2 => cond c_1
      (aSome s fun p_4 => gInt .i64 (Addr.add p_4 2) hv_2 fun x_3 => some (.tuple ⟨[.int .i64 x_3, .bool true]⟩, hv_2))
      (bnd (call F_ref1_Sect_at [.pointer s, .int .i64 who] hv_2) fun r hv_3 => aInt .i64 r fun x_4 => cond (iltF x_4 0)
      (aSome s fun p_5 => gSl (Addr.add p_5 8) hv_3 fun _ xn _ => cond (ieqF ((xn : Nat) : Int) 0)
      (aSome s fun p_6 => gInt .i64 (Addr.add p_6 7) hv_3 fun x_6 => aSome s fun p_7 => pV (Addr.add p_7 5) (.int .i64 x_6) hv_3 fun hv_4 => run F_ref1_Sect_Enter 2019 [.pointer s, .int .i64 who] hv_4)
      (run F_ref1_Sect_Enter 2019 [.pointer s, .int .i64 who] hv_3))
      (run F_ref1_Sect_Enter 3021 [.pointer s, .int .i64 who] hv_3)))
  | _ => none
noncomputable def X_ref1_Sect_Enter_R1 : XPoly := fun G _ call run a h => match a with
  | [.pointer s, .int .i64 who] =>
  aSome s fun p => gSl (Addr.add p 8) h fun x xn xc => nw (.cells Y_int false [.int .i64 who]) h fun b hv => gCells (some ⟨b, 0, none⟩) (1 * 1) hv fun cs => ckB (fitsOpen x Y_int hv) (apd Y_int 1 x xn xc 1 cs hv fun a an ac hv_1 => aSome s fun p_1 => pV (Addr.add p_1 8) (.slice a an ac) hv_1 fun hv_2 => run F_ref1_Sect_Enter 3021 [.pointer s, .int .i64 who] hv_2)
  | _ => none
noncomputable def LB_ref1_Sect_Enter_R1 : Lab := ⟨F_ref1_Sect_Enter, 2019, T_ref1_Sect_Enter_R1, [0, 1], X_ref1_Sect_Enter_R1⟩
noncomputable def X_ref1_Sect_Enter_R2 : XPoly := fun G _ call run a h => match a with
  | [.pointer s, .int .i64 who] =>
  aSome s fun p => gBool (Addr.add p 6) h fun x => bnd (cond x (aSome s fun p_1 => gInt .i64 (Addr.add p_1 7) h fun x_1 => aSome s fun p_2 => gInt .i64 (Addr.add p_2 3) h fun x_2 => aSome s fun p_3 => gInt .i64 (Addr.add p_3 0) h fun x_3 => some (ileF x_3 (wrapF .i64 (x_1 - x_2)), h)) (some (false, h))) fun c hv => cond c
      (aSome s fun p_4 => pV (Addr.add p_4 6) (.bool false) hv fun hv_1 => aSome s fun p_5 => gInt .i64 (Addr.add p_5 7) hv_1 fun x_4 => aSome s fun p_6 => pV (Addr.add p_6 5) (.int .i64 x_4) hv_1 fun hv_2 => run F_ref1_Sect_Enter 3027 [.pointer s, .int .i64 who] hv_2)
      (run F_ref1_Sect_Enter 3027 [.pointer s, .int .i64 who] hv)
  | _ => none
noncomputable def LB_ref1_Sect_Enter_R2 : Lab := ⟨F_ref1_Sect_Enter, 3021, T_ref1_Sect_Enter_R2, [0, 1], X_ref1_Sect_Enter_R2⟩
noncomputable def X_ref1_Sect_Enter_R3 : XPoly := fun G _ call run a h => match a with
  | [.pointer s, .int .i64 who] =>
  aSome s fun p => gBool (Addr.add p 6) h fun x => cond x
      (aSome s fun p_1 => gSl (Addr.add p_1 8) h fun x_1 xn _ => aSome x_1 fun p_2 => ckRF 0 xn (gInt .i64 (Addr.add (bare p_2) (Int.toNat 0 * 1)) h fun x_2 => cond (ieqF x_2 who)
      (aSome s fun p_3 => gInt .i64 (Addr.add p_3 7) h fun x_3 => aSome s fun p_4 => pV (Addr.add p_4 5) (.int .i64 x_3) h fun hv => run F_ref1_Sect_Enter 3033 [] hv)
      (run F_ref1_Sect_Enter 3033 [] h)))
      (run F_ref1_Sect_Enter 3034 [.pointer s, .int .i64 who] h)
  | _ => none
noncomputable def LB_ref1_Sect_Enter_R3 : Lab := ⟨F_ref1_Sect_Enter, 3027, T_ref1_Sect_Enter_R3, [0, 1], X_ref1_Sect_Enter_R3⟩
noncomputable def X_ref1_Sect_Enter_R4 : XPoly := fun G _ call run a h => match a with
  | [] =>
  some (.tuple ⟨[.int .i64 0, .bool false]⟩, h)
  | _ => none
noncomputable def LB_ref1_Sect_Enter_R4 : Lab := ⟨F_ref1_Sect_Enter, 3033, T_ref1_Sect_Enter_R4, [], X_ref1_Sect_Enter_R4⟩
noncomputable def X_ref1_Sect_Enter_L1 : XPoly := fun G _ call run a h => match a with
  | [.pointer s, .int .i64 who] =>
  aSome s fun p => gSl (Addr.add p 8) h fun x xn _ => aSome x fun p_1 => ckRF 0 xn (gInt .i64 (Addr.add (bare p_1) (Int.toNat 0 * 1)) h fun x_1 => bnd (cond (ineF x_1 who) (aSome s fun p_2 => gInt .i64 (Addr.add p_2 7) h fun x_2 => aSome s fun p_3 => gInt .i64 (Addr.add p_3 5) h fun x_3 => aSome s fun p_4 => gInt .i64 (Addr.add p_4 0) h fun x_4 => some (ileF x_4 (wrapF .i64 (x_2 - x_3)), h)) (some (false, h))) fun c hv => cond c
      (bnd (call F_ref1_Sect_drop [.pointer s, .int .i64 0] hv) fun r hv_1 => as0 r (run F_ref1_Sect_Enter 3034 [.pointer s, .int .i64 who] hv_1))
      (aSome s fun p_5 => gSl (Addr.add p_5 8) hv fun x_5 xn_1 _ => aSome x_5 fun p_6 => ckRF 0 xn_1 (gInt .i64 (Addr.add (bare p_6) (Int.toNat 0 * 1)) hv fun x_6 => cond (ineF x_6 who)
      (some (.tuple ⟨[.int .i64 0, .bool false]⟩, hv))
      (bnd (call F_ref1_Sect_drop [.pointer s, .int .i64 0] hv) fun r_1 hv_2 => as0 r_1 (aSome s fun p_7 => gInt .i64 (Addr.add p_7 4) hv_2 fun x_7 => aSome s fun p_8 => pV (Addr.add p_8 4) (.int .i64 (wrapF .i64 (x_7 + 1))) hv_2 fun hv_3 => aSome s fun p_9 => gInt .i64 (Addr.add p_9 4) hv_3 fun x_8 => aSome s fun p_10 => gInt .i64 (Addr.add p_10 7) hv_3 fun x_9 => aSome s fun p_11 => pV (Addr.add p_11 6) (.bool true) hv_3 fun hv_4 => aSome s fun p_12 => pV (Addr.add p_12 1) (.int .i64 who) hv_4 fun hv_5 => aSome s fun p_13 => pV (Addr.add p_13 2) (.int .i64 x_8) hv_5 fun hv_6 => aSome s fun p_14 => pV (Addr.add p_14 3) (.int .i64 x_9) hv_6 fun hv_7 => aSome s fun p_15 => gInt .i64 (Addr.add p_15 2) hv_7 fun x_10 => some (.tuple ⟨[.int .i64 x_10, .bool true]⟩, hv_7))))))
  | _ => none
noncomputable def LB_ref1_Sect_Enter_L1 : Lab := ⟨F_ref1_Sect_Enter, 3034, T_ref1_Sect_Enter_L1, [0, 1], X_ref1_Sect_Enter_L1⟩
noncomputable def X_region_Regions_Read : XPoly := fun G _ call run a h => match a with
  | [.pointer r, .int .i64 env, .int .i64 name, .int .i64 atv, .int .i64 n] =>
  bnd (call F_region_Regions_place [.pointer r, .int .i64 env, .int .i64 name, .int .i64 1, .int .i64 atv, .int .i64 n] h) fun r_1 hv => as2 r_1 fun r_2 r_3 => aInt .i64 r_2 fun x => aInt .i64 r_3 fun x_1 => cond (ineF x_1 0)
      (some (.tuple ⟨[.slice none 0 0, .int .i64 x_1]⟩, hv))
      (aSome r fun p => gPtr (Addr.add p 0) hv fun x_2 => bnd (call F_mem_Mem_Load [.pointer x_2, .int .i64 x, .int .i64 n] hv) fun r_4 hv_1 => as2 r_4 fun r_5 r_6 => aSl r_5 fun x_3 xn xc => aInt .i64 r_6 fun x_4 => some (.tuple ⟨[.slice x_3 xn xc, .int .i64 x_4]⟩, hv_1))
  | _ => none
noncomputable def X_caps_Space_Grant : XPoly := fun G _ call run a h => match a with
  | [.pointer s, .int .i64 env, .int .i64 name, .int .i64 to, .int .i64 give, .int .i64 lo, .int .i64 n] =>
  bnd (call F_caps_Space_Get [.pointer s, .int .i64 env, .int .i64 name] h) fun r hv => as2 r fun r_1 r_2 => aAgg r_1 fun x => aInt .i64 r_2 fun x_1 => nw (.cells Y_api_Cap false [.int .i64 0, .int .i64 0, .int .i64 0, .int .i64 0, .int .i64 0, .int .i64 0]) hv fun b hv_1 => ck (List.length x = 6) (pAgg ⟨b, 0, none⟩ x hv_1 fun hv_2 => cond (ineF x_1 0)
      (some (.tuple ⟨[.int .i64 0, .int .i64 x_1]⟩, hv_2))
      (gInt .i64 (Addr.add ⟨b, 0, none⟩ 1) hv_2 fun x_2 => bnd (cond (ieqF (bitAF .i64 x_2 4) 0) (some (true, hv_2)) (gInt .i64 (Addr.add ⟨b, 0, none⟩ 1) hv_2 fun x_3 => some (ineF (bitN .i64 give x_3) 0, hv_2))) fun c hv_3 => cond c
      (some (.tuple ⟨[.int .i64 0, .int .i64 3]⟩, hv_3))
      (bnd (call F_caps_Space_is [.pointer s, .int .i64 to] hv_3) fun r_3 hv_4 => aBool r_3 fun x_4 => bnd (cond (!x_4) (some (true, hv_4)) (some (iltF lo 0, hv_4))) fun c_1 hv_5 => bnd (cond c_1 (some (true, hv_5)) (some (iltF n 0, hv_5))) fun c_2 hv_6 => bnd (cond c_2 (some (true, hv_6)) (gInt .i64 (Addr.add ⟨b, 0, none⟩ 3) hv_6 fun x_5 => some (iltF x_5 lo, hv_6))) fun c_3 hv_7 => bnd (cond c_3 (some (true, hv_7)) (gInt .i64 (Addr.add ⟨b, 0, none⟩ 3) hv_7 fun x_6 => some (iltF (wrapF .i64 (x_6 - lo)) n, hv_7))) fun c_4 hv_8 => cond c_4
      (some (.tuple ⟨[.int .i64 0, .int .i64 1]⟩, hv_8))
      (gInt .i64 (Addr.add ⟨b, 0, none⟩ 0) hv_8 fun x_7 => gInt .i64 (Addr.add ⟨b, 0, none⟩ 2) hv_8 fun x_8 => bnd (call F_caps_Space_add [.pointer s, .int .i64 to, .agg ⟨[.int .i64 x_7, .int .i64 give, .int .i64 (wrapF .i64 (x_8 + lo)), .int .i64 n, .int .i64 env, .int .i64 name]⟩] hv_8) fun r_4 hv_9 => as2 r_4 fun r_5 r_6 => aInt .i64 r_5 fun x_9 => aInt .i64 r_6 fun x_10 => some (.tuple ⟨[.int .i64 x_9, .int .i64 x_10]⟩, hv_9)))))
  | _ => none
noncomputable def X_commons_Commons_read : XPoly := fun G _ call run a h => match a with
  | [.pointer c, .agg ⟨r⟩] =>
  nw (.cells Y_api_Rec false r) h fun b hv => gAgg ⟨b, 0, none⟩ 2 hv fun x => bnd (call F_commons_Commons_place [.pointer c, .agg ⟨x⟩] hv) fun r_1 hv_1 => as2 r_1 fun r_2 r_3 => aAgg r_2 fun x_1 => aBool r_3 fun x_2 => nw (.cells Y_commons_place false [.int .i64 0, .int .i64 0, .int .i64 0]) hv_1 fun b_1 hv_2 => ck (List.length x_1 = 3) (pAgg ⟨b_1, 0, none⟩ x_1 hv_2 fun hv_3 => bnd (cond (!x_2) (some (true, hv_3)) (aSome c fun p => gMap (Addr.add p 3) hv_3 fun x_3 => gAgg ⟨b, 0, none⟩ 2 hv_3 fun x_4 => keyN PR Y_api_Rec (.agg ⟨x_4⟩) (opt x_3 fun r_4 => mapAt hv_3 r_4 fun es _ => opt (lookM (.int .i64 0) (.agg ⟨x_4⟩) es) fun f => aInt .i64 f.1 fun x_5 => some (iltF 0 x_5, hv_3)))) fun c_1 hv_4 => cond c_1
      (some (.tuple ⟨[.slice none 0 0, .bool false]⟩, hv_4))
      (aSome c fun p_1 => gPtr (Addr.add p_1 0) hv_4 fun x_6 => aSome c fun p_2 => gInt .i64 (Addr.add p_2 1) hv_4 fun x_7 => gInt .i64 (Addr.add ⟨b_1, 0, none⟩ 0) hv_4 fun x_8 => gInt .i64 (Addr.add ⟨b_1, 0, none⟩ 1) hv_4 fun x_9 => gInt .i64 (Addr.add ⟨b_1, 0, none⟩ 2) hv_4 fun x_10 => nw (.cells Y_api_Answer false [.int .i64 0, .int .i64 0, .slice none 0 0]) hv_4 fun b_2 hv_5 => bnd (call F_kern_Kern_Do [.pointer x_6, .int .i64 x_7, .agg ⟨[.int .i64 1, .int .i64 x_8, .int .i64 x_9, .int .i64 x_10, .int .i64 0, .int .i64 0, .slice none 0 0]⟩] hv_5) fun r_5 hv_6 => aAgg r_5 fun x_11 => ck (List.length x_11 = 3) (pAgg ⟨b_2, 0, none⟩ x_11 hv_6 fun hv_7 => gInt .i64 (Addr.add ⟨b_2, 0, none⟩ 0) hv_7 fun x_12 => cond (ineF x_12 0)
      (aSome c fun p_3 => gMap (Addr.add p_3 3) hv_7 fun x_13 => gAgg ⟨b, 0, none⟩ 2 hv_7 fun x_14 => keyN PR Y_api_Rec (.agg ⟨x_14⟩) (opt x_13 fun r_6 => mapAt hv_7 r_6 fun es_1 _ => opt (lookM (.int .i64 0) (.agg ⟨x_14⟩) es_1) fun f_1 => aInt .i64 f_1.1 fun x_15 => keyN PR Y_api_Rec (.agg ⟨x_14⟩) (opt x_13 fun r_7 => mapAt hv_7 r_7 fun es_2 cl_2 => opt (entM (.int .i64 0) (.agg ⟨x_14⟩) es_2 cl_2) fun f_2 => aInt .i64 f_2.1 fun _ => lt (hset hv_7 r_7 f_2.2.2) fun hv_8 => keyN PR Y_api_Rec (.agg ⟨x_14⟩) (opt x_13 fun r_8 => mapAt hv_8 r_8 fun es_3 _ => opt (lookM (.int .i64 0) (.agg ⟨x_14⟩) es_3) fun f_3 => aInt .i64 f_3.1 fun x_17 => same (.int .i64 x_15) (.int .i64 x_17) (opt x_13 fun r_9 => mapAt hv_8 r_9 fun es_4 cl_4 => opt (bornN (f_2.2.1 : Int) es_4 0) fun i => lt (hset hv_8 r_9 (.map (modN (fun e => { e with val := .int .i64 (wrapF .i64 (x_15 + 1)) }) i es_4) cl_4)) fun hv_9 => some (.tuple ⟨[.slice none 0 0, .bool false]⟩, hv_9))))))
      (gSl (Addr.add ⟨b_2, 0, none⟩ 2) hv_7 fun x_18 xn xc => some (.tuple ⟨[.slice x_18 xn xc, .bool true]⟩, hv_7)))))
  | _ => none
noncomputable def X_ofile_Codec : XPoly := fun G _ call run a h => match a with
  | [] =>
  bnd (call F_codec_New_api_File [.int .i64 8, .func (.func F_ofile_put) ⟨[]⟩ ⟨[]⟩, .func (.func F_ofile_get) ⟨[]⟩ ⟨[]⟩] h) fun r hv => aPtr r fun x => some (.pointer x, hv)
  | _ => none
noncomputable def X_codec_Codec_api_Pipe_Decode : XPoly := fun G _ call run a h => match a with
  | [.pointer c, .slice b bn bc] =>
  nw (.cells Y_api_Pipe false [.int .i64 0, .int .i64 0, .int .i64 0, .int .i64 0, .int .u8 0, .int .u8 0, .int .u8 0, .int .u8 0, .int .u8 0, .int .u8 0, .int .u8 0, .int .u8 0, .int .u8 0, .int .u8 0, .int .u8 0, .int .u8 0, .int .u8 0, .int .u8 0, .int .u8 0, .int .u8 0, .int .u8 0, .int .u8 0, .int .u8 0, .int .u8 0, .int .u8 0, .int .u8 0, .int .u8 0, .int .u8 0, .int .u8 0, .int .u8 0, .int .u8 0, .int .u8 0, .int .u8 0, .int .u8 0, .int .u8 0, .int .u8 0]) h fun b_1 hv => nw (.cells Y_api_Pipe false [.int .i64 0, .int .i64 0, .int .i64 0, .int .i64 0, .int .u8 0, .int .u8 0, .int .u8 0, .int .u8 0, .int .u8 0, .int .u8 0, .int .u8 0, .int .u8 0, .int .u8 0, .int .u8 0, .int .u8 0, .int .u8 0, .int .u8 0, .int .u8 0, .int .u8 0, .int .u8 0, .int .u8 0, .int .u8 0, .int .u8 0, .int .u8 0, .int .u8 0, .int .u8 0, .int .u8 0, .int .u8 0, .int .u8 0, .int .u8 0, .int .u8 0, .int .u8 0, .int .u8 0, .int .u8 0, .int .u8 0, .int .u8 0]) hv fun b_2 hv_1 => aSome c fun p => gFv (Addr.add p 2) hv_1 fun x => isNilF x fun b_3 => bnd (cond b_3 (some (true, hv_1)) (aSome c fun p_1 => gInt .i64 (Addr.add p_1 0) hv_1 fun x_1 => some (ineF ((bn : Nat) : Int) x_1, hv_1))) fun c_1 hv_2 => cond c_1
      (gAgg ⟨b_2, 0, none⟩ 36 hv_2 fun x_2 => ck (List.length x_2 = 36) (pAgg ⟨b_1, 0, none⟩ x_2 hv_2 fun hv_3 => gAgg ⟨b_1, 0, none⟩ 36 hv_3 fun x_3 => some (.tuple ⟨[.agg ⟨x_3⟩, .bool false]⟩, hv_3)))
      (aSome c fun p_2 => gFv (Addr.add p_2 2) hv_2 fun x_4 => nw (.cells Y_api_Pipe false [.int .i64 0, .int .i64 0, .int .i64 0, .int .i64 0, .int .u8 0, .int .u8 0, .int .u8 0, .int .u8 0, .int .u8 0, .int .u8 0, .int .u8 0, .int .u8 0, .int .u8 0, .int .u8 0, .int .u8 0, .int .u8 0, .int .u8 0, .int .u8 0, .int .u8 0, .int .u8 0, .int .u8 0, .int .u8 0, .int .u8 0, .int .u8 0, .int .u8 0, .int .u8 0, .int .u8 0, .int .u8 0, .int .u8 0, .int .u8 0, .int .u8 0, .int .u8 0, .int .u8 0, .int .u8 0, .int .u8 0, .int .u8 0]) hv_2 fun b_4 hv_4 => bnd (call F_slices_Clone_s_byte_byte [.slice b bn bc] hv_4) fun r hv_5 => aSl r fun x_5 xn xc => gFv (Addr.add p_2 2) hv_5 fun x_6 => sameU (x_4) (x_6) (aFn x_4 fun g fi cp => bnd (call g (fi ++ ([.slice x_5 xn xc] ++ cp)) hv_5) fun r_1 hv_6 => as2 r_1 fun r_2 r_3 => aAgg r_2 fun x_7 => aBool r_3 fun x_8 => ck (List.length x_7 = 36) (pAgg ⟨b_4, 0, none⟩ x_7 hv_6 fun hv_7 => cond (!x_8)
      (gAgg ⟨b_2, 0, none⟩ 36 hv_7 fun x_9 => ck (List.length x_9 = 36) (pAgg ⟨b_1, 0, none⟩ x_9 hv_7 fun hv_8 => gAgg ⟨b_1, 0, none⟩ 36 hv_8 fun x_10 => some (.tuple ⟨[.agg ⟨x_10⟩, .bool false]⟩, hv_8)))
      (gAgg ⟨b_4, 0, none⟩ 36 hv_7 fun x_11 => ck (List.length x_11 = 36) (pAgg ⟨b_1, 0, none⟩ x_11 hv_7 fun hv_9 => gAgg ⟨b_1, 0, none⟩ 36 hv_9 fun x_12 => some (.tuple ⟨[.agg ⟨x_12⟩, .bool true]⟩, hv_9))))))
  | _ => none
noncomputable def X_codec_Sum : XPoly := fun G _ call run a h => match a with
  | [.slice b bn bc] =>
  run F_codec_Sum 3006 [.int .u8 (wrapF .u8 (((bn : Nat) : Int))), .slice b bn bc, .int .i64 ((bn : Nat) : Int), .int .i64 0] h
  | _ => none
noncomputable def X_codec_Sum_L1 : XPoly := fun G _ call run a h => match a with
  | [.int .u8 n, .slice x9 x9n x9c, .int .i64 x10, .int .i64 x11] =>
  cond (iltF x11 x10)
      (aSome x9 fun p => ckRF x11 x9n (gInt .u8 (Addr.add (bare p) (Int.toNat x11 * 1)) h fun x => run F_codec_Sum 3006 [.int .u8 (wrapF .u8 (n + x)), .slice x9 x9n x9c, .int .i64 x10, .int .i64 (wrapF .i64 (x11 + 1))] h))
      (some (.int .u8 n, h))
  | _ => none
noncomputable def LB_codec_Sum_L1 : Lab := ⟨F_codec_Sum, 3006, T_codec_Sum_L1, [3, 9, 10, 11], X_codec_Sum_L1⟩
noncomputable def X_ofile_Encode : XPoly := fun G _ call run a h => match a with
  | [.agg ⟨f⟩] =>
  nw (.cells Y_api_File false f) h fun b hv => gAgg ⟨b, 0, none⟩ 4 hv fun x => bnd (call F_ofile_Codec [] hv) fun r hv_1 => aPtr r fun x_1 => gAgg ⟨b, 0, none⟩ 4 hv_1 fun x_2 => same (.agg ⟨x⟩) (.agg ⟨x_2⟩) (bnd (call F_codec_Codec_api_File_Encode [.pointer x_1, .agg ⟨x⟩] hv_1) fun r_1 hv_2 => as2 r_1 fun r_2 r_3 => aSl r_2 fun x_3 xn xc => aBool r_3 fun x_4 => some (.tuple ⟨[.slice x_3 xn xc, .bool x_4]⟩, hv_2))
  | _ => none
noncomputable def X_commons_Commons_FreePipe : XPoly := fun G _ call run a h => match a with
  | [.pointer c, .int .i64 i] =>
  bnd (call F_commons_pipe [.int .i64 i] h) fun r hv => aAgg r fun x => bnd (call F_commons_Commons_blank [.pointer c, .agg ⟨x⟩] hv) fun r_1 hv_1 => aBool r_1 fun x_1 => some (.bool x_1, hv_1)
  | _ => none
noncomputable def X_caps_Space_Put_1 : XPoly := fun G _ call run a h => match a with
  | [.int .i64 n] =>
  bnd (cond (ileF 0 n) (some (ileF n 65536, h)) (some (false, h))) fun c hv => some (.bool c, hv)
  | _ => none
noncomputable def X_ref1_Space_env : XPoly := fun G _ call run a h => match a with
  | [.pointer s, .int .i64 e] =>
  bnd (cond (ileF 0 e) (aSome s fun p => gSl (Addr.add p 0) h fun _ xn _ => some (iltF e ((xn : Nat) : Int), h)) (some (false, h))) fun c hv => some (.bool c, hv)
  | _ => none
noncomputable def X_ref1_Space_add : XPoly := fun G _ call run a h => match a with
  | [.pointer s, .int .i64 e, .agg ⟨c⟩] =>
  nw (.cells Y_api_Cap false c) h fun b hv => aSome s fun p => gSl (Addr.add p 0) hv fun x xn _ => aSome x fun p_1 => ckRF e xn (gPtr (Addr.add (bare p_1) (Int.toNat e * 1)) hv fun x_1 => bnd (call F_ref1_Names_Add [.pointer x_1] hv) fun r hv_1 => as2 r fun r_1 r_2 => aInt .i64 r_1 fun x_2 => aBool r_2 fun x_3 => cond (!x_3)
      (some (.tuple ⟨[.int .i64 0, .int .i64 4]⟩, hv_1))
      (aSome s fun p_2 => gSl (Addr.add p_2 1) hv_1 fun x_4 xn_1 _ => aSome x_4 fun p_3 => ckRF e xn_1 (gSl (Addr.add (bare p_3) (Int.toNat e * 1)) hv_1 fun x_5 xn_2 _ => gAgg ⟨b, 0, none⟩ 6 hv_1 fun x_6 => aSome x_5 fun p_4 => ckRF (bitAF .i64 x_2 255) xn_2 (ck (List.length x_6 = 6) (pAgg (Addr.add (bare p_4) (Int.toNat (bitAF .i64 x_2 255) * 6)) x_6 hv_1 fun hv_2 => some (.tuple ⟨[.int .i64 x_2, .int .i64 0]⟩, hv_2))))))
  | _ => none
noncomputable def X_ref1_Space_Under : XPoly := fun G _ call run a h => match a with
  | [.pointer s, .int .i64 e, .int .i64 name] =>
  bnd (call F_ref1_Space_Get [.pointer s, .int .i64 e, .int .i64 name] h) fun r hv => as2 r fun r_1 r_2 => aAgg r_1 fun x => aInt .i64 r_2 fun x_1 => nw (.cells Y_api_Cap false [.int .i64 0, .int .i64 0, .int .i64 0, .int .i64 0, .int .i64 0, .int .i64 0]) hv fun b hv_1 => ck (List.length x = 6) (pAgg ⟨b, 0, none⟩ x hv_1 fun hv_2 => cond (ineF x_1 0)
      (some (.tuple ⟨[.slice none 0 0, .int .i64 x_1]⟩, hv_2))
      (nw (.cells Y_api_Ref false [.int .i64 e, .int .i64 name]) hv_2 fun b_1 hv_3 => run F_ref1_Space_Under 3012 [.pointer s, .slice (some ⟨b_1, 0, none⟩) 1 1, .bool true] hv_3))
  | _ => none
noncomputable def X_ref1_Space_Under_L1 : XPoly := fun G _ call run a h => match a with
  | [.pointer s, .slice found foundn foundc, .bool more] =>
  cond more
      (run F_ref1_Space_Under 6018 [.pointer s, .slice found foundn foundc, .bool false, .int .i64 0] h)
      (run F_ref1_Space_Under 3042 [.pointer s, .slice found foundn foundc, .slice none 0 0, .int .i64 0] h)
  | _ => none
noncomputable def LB_ref1_Space_Under_L1 : Lab := ⟨F_ref1_Space_Under, 3012, T_ref1_Space_Under_L1, [0, 10, 11], X_ref1_Space_Under_L1⟩
noncomputable def X_ref1_Space_Under_L2 : XPoly := fun G _ call run a h => match a with
  | [.pointer s, .slice found foundn foundc, .bool more, .int .i64 i] =>
  aSome s fun p => gSl (Addr.add p 0) h fun _ xn _ => cond (iltF i ((xn : Nat) : Int))
      (aSome s fun p_1 => gSl (Addr.add p_1 0) h fun x_1 xn_1 _ => aSome x_1 fun p_2 => ckRF i xn_1 (gPtr (Addr.add (bare p_2) (Int.toNat i * 1)) h fun x_2 => bnd (call F_ref1_Names_All [.pointer x_2] h) fun r hv => aSl r fun x_3 xn_2 xc_2 => run F_ref1_Space_Under 10026 [.pointer s, .slice found foundn foundc, .bool more, .int .i64 i, .slice x_3 xn_2 xc_2, .int .i64 0] hv))
      (run F_ref1_Space_Under 3012 [.pointer s, .slice found foundn foundc, .bool more] h)
  | _ => none
noncomputable def LB_ref1_Space_Under_L2 : Lab := ⟨F_ref1_Space_Under, 6018, T_ref1_Space_Under_L2, [0, 10, 11, 12], X_ref1_Space_Under_L2⟩
noncomputable def X_ref1_Space_Under_L3 : XPoly := fun G _ call run a h => match a with
  | [.pointer s, .slice found foundn foundc, .slice out outn outc, .int .i64 i] =>
  aSome s fun p => gSl (Addr.add p 0) h fun _ xn _ => cond (iltF i ((xn : Nat) : Int))
      (aSome s fun p_1 => gSl (Addr.add p_1 0) h fun x_1 xn_1 _ => aSome x_1 fun p_2 => ckRF i xn_1 (gPtr (Addr.add (bare p_2) (Int.toNat i * 1)) h fun x_2 => bnd (call F_ref1_Names_All [.pointer x_2] h) fun r hv => aSl r fun x_3 xn_2 xc_2 => bnd (call F_ref1_rising [.slice x_3 xn_2 xc_2] hv) fun r_1 hv_1 => aSl r_1 fun x_4 xn_3 xc_3 => run F_ref1_Space_Under 7050 [.pointer s, .slice found foundn foundc, .slice out outn outc, .int .i64 i, .slice x_4 xn_3 xc_3, .int .i64 0] hv_1))
      (some (.tuple ⟨[.slice out outn outc, .int .i64 0]⟩, h))
  | _ => none
noncomputable def LB_ref1_Space_Under_L3 : Lab := ⟨F_ref1_Space_Under, 3042, T_ref1_Space_Under_L3, [0, 10, 16, 17], X_ref1_Space_Under_L3⟩
noncomputable def X_ref1_Space_Under_L4 : XPoly := fun G _ call run a h => match a with
  | [.pointer s, .slice found foundn foundc, .bool more, .int .i64 i, .slice l ln lc, .int .i64 k] =>
  cond (iltF k ((ln : Nat) : Int))
      (aSome l fun p => ckRF k ln (gInt .i64 (Addr.add (bare p) (Int.toNat k * 1)) h fun x => nw (.cells Y_api_Ref false [.int .i64 0, .int .i64 0]) h fun b hv => pAgg ⟨b, 0, none⟩ [.int .i64 i, .int .i64 x] hv fun hv_1 => aSome s fun p_1 => gSl (Addr.add p_1 1) hv_1 fun x_1 xn _ => aSome x_1 fun p_2 => ckRF i xn (gSl (Addr.add (bare p_2) (Int.toNat i * 1)) hv_1 fun x_2 xn_1 _ => aSome l fun p_3 => ckRF k ln (gInt .i64 (Addr.add (bare p_3) (Int.toNat k * 1)) hv_1 fun x_3 => aSome x_2 fun p_4 => ckRF (bitAF .i64 x_3 255) xn_1 (gAgg (Addr.add (Addr.add (bare p_4) (Int.toNat (bitAF .i64 x_3 255) * 6)) 4) 2 hv_1 fun x_4 => bnd (call F_ref1_has [.slice found foundn foundc, .agg ⟨x_4⟩] hv_1) fun r hv_2 => aBool r fun x_5 => bnd (cond x_5 (gAgg ⟨b, 0, none⟩ 2 hv_2 fun x_6 => bnd (call F_ref1_has [.slice found foundn foundc, .agg ⟨x_6⟩] hv_2) fun r_1 hv_3 => aBool r_1 fun x_7 => some (!x_7, hv_3)) (some (false, hv_2))) fun c hv_4 => cond c
      (gAgg ⟨b, 0, none⟩ 2 hv_4 fun x_8 => ck (List.length x_8 = 2) (nw (.cells Y_api_Ref false (x_8 ++ [])) hv_4 fun b_1 hv_5 => gCells (some ⟨b_1, 0, none⟩) (1 * 2) hv_5 fun cs => ckB (fitsOpen found Y_api_Ref hv_5) (apd Y_api_Ref 2 found foundn foundc 1 cs hv_5 fun a an ac hv_6 => run F_ref1_Space_Under 10026 [.pointer s, .slice a an ac, .bool true, .int .i64 i, .slice l ln lc, .int .i64 (wrapF .i64 (k + 1))] hv_6)))
      (run F_ref1_Space_Under 10026 [.pointer s, .slice found foundn foundc, .bool more, .int .i64 i, .slice l ln lc, .int .i64 (wrapF .i64 (k + 1))] hv_4))))))
      (run F_ref1_Space_Under 6018 [.pointer s, .slice found foundn foundc, .bool more, .int .i64 (wrapF .i64 (i + 1))] h)
  | _ => none
noncomputable def LB_ref1_Space_Under_L4 : Lab := ⟨F_ref1_Space_Under, 10026, T_ref1_Space_Under_L4, [0, 10, 11, 12, 13, 14], X_ref1_Space_Under_L4⟩
noncomputable def X_ref1_Space_Under_L5 : XPoly := fun G _ call run a h => match a with
  | [.pointer s, .slice found foundn foundc, .slice out outn outc, .int .i64 i, .slice l ln lc, .int .i64 k] =>
  cond (iltF k ((ln : Nat) : Int))
      (aSome l fun p => ckRF k ln (gInt .i64 (Addr.add (bare p) (Int.toNat k * 1)) h fun x => nw (.cells Y_api_Ref false [.int .i64 0, .int .i64 0]) h fun b hv => pAgg ⟨b, 0, none⟩ [.int .i64 i, .int .i64 x] hv fun hv_1 => ckB (fitsOpen found Y_api_Ref hv_1) (ckLF 1 foundn (gAgg ⟨b, 0, none⟩ 2 hv_1 fun x_1 => bnd (call F_ref1_has [.slice (moved found (decide (Int.toNat 1 < foundc)) ((Int.toNat 1) * 2)) (foundn - (Int.toNat 1)) (foundc - (Int.toNat 1)), .agg ⟨x_1⟩] hv_1) fun r hv_2 => aBool r fun x_2 => cond x_2
      (gAgg ⟨b, 0, none⟩ 2 hv_2 fun x_3 => ck (List.length x_3 = 2) (nw (.cells Y_api_Ref false (x_3 ++ [])) hv_2 fun b_1 hv_3 => gCells (some ⟨b_1, 0, none⟩) (1 * 2) hv_3 fun cs => ckB (fitsOpen out Y_api_Ref hv_3) (apd Y_api_Ref 2 out outn outc 1 cs hv_3 fun a an ac hv_4 => run F_ref1_Space_Under 7050 [.pointer s, .slice found foundn foundc, .slice a an ac, .int .i64 i, .slice l ln lc, .int .i64 (wrapF .i64 (k + 1))] hv_4)))
      (run F_ref1_Space_Under 7050 [.pointer s, .slice found foundn foundc, .slice out outn outc, .int .i64 i, .slice l ln lc, .int .i64 (wrapF .i64 (k + 1))] hv_2)))))
      (run F_ref1_Space_Under 3042 [.pointer s, .slice found foundn foundc, .slice out outn outc, .int .i64 (wrapF .i64 (i + 1))] h)
  | _ => none
noncomputable def LB_ref1_Space_Under_L5 : Lab := ⟨F_ref1_Space_Under, 7050, T_ref1_Space_Under_L5, [0, 10, 16, 17, 18, 19], X_ref1_Space_Under_L5⟩
noncomputable def X_ref1_Names_Drop : XPoly := fun G _ call run a h => match a with
  | [.pointer n, .int .i64 name] =>
  bnd (call F_ref1_Names_Has [.pointer n, .int .i64 name] h) fun r hv => aBool r fun x => cond (!x)
      (some (.bool false, hv))
      (aSome n fun p => gSl (Addr.add p 0) hv fun x_1 xn _ => aSome n fun p_1 => gSl (Addr.add p_1 0) hv fun x_2 xn_1 _ => aSome x_2 fun p_2 => ckRF (bitAF .i64 name 255) xn_1 (gInt .i64 (Addr.add (Addr.add (bare p_2) (Int.toNat (bitAF .i64 name 255) * 2)) 0) hv fun x_3 => aSome x_1 fun p_3 => ckRF (bitAF .i64 name 255) xn (pAgg (Addr.add (bare p_3) (Int.toNat (bitAF .i64 name 255) * 2)) [.int .i64 (wrapF .i64 (x_3 + 1)), .bool false] hv fun hv_1 => some (.bool true, hv_1))))
  | _ => none
noncomputable def X_ref1_Quota_Owns : XPoly := fun G _ call run a h => match a with
  | [.pointer q, .int .i64 s, .int .i64 k] =>
  bnd (cond (ileF 0 s) (aSome q fun p => gSl (Addr.add p 0) h fun _ xn _ => some (iltF s ((xn : Nat) : Int), h)) (some (false, h))) fun c hv => bnd (cond c (some (ileF 0 k, hv)) (some (false, hv))) fun c_1 hv_1 => bnd (cond c_1 (aSome q fun p_1 => gSl (Addr.add p_1 0) hv_1 fun x_1 xn_1 _ => aSome x_1 fun p_2 => ckRF s xn_1 (gSl (Addr.add (bare p_2) (Int.toNat s * 1)) hv_1 fun _ xn_2 _ => some (iltF k ((xn_2 : Nat) : Int), hv_1))) (some (false, hv_1))) fun c_2 hv_2 => bnd (cond c_2 (aSome q fun p_3 => gSl (Addr.add p_3 0) hv_2 fun x_3 xn_3 _ => aSome x_3 fun p_4 => ckRF s xn_3 (gSl (Addr.add (bare p_4) (Int.toNat s * 1)) hv_2 fun x_4 xn_4 _ => aSome x_4 fun p_5 => ckRF k xn_4 (gBool (Addr.add (bare p_5) (Int.toNat k * 1)) hv_2 fun x_5 => some (x_5, hv_2)))) (some (false, hv_2))) fun c_3 hv_3 => some (.bool c_3, hv_3)
  | _ => none
noncomputable def X_region_Regions_place : XPoly := fun G _ call run a h => match a with
  | [.pointer r, .int .i64 env, .int .i64 name, .int .i64 right, .int .i64 atv, .int .i64 n] =>
  aSome r fun p => gPtr (Addr.add p 1) h fun x => bnd (call F_caps_Space_Get [.pointer x, .int .i64 env, .int .i64 name] h) fun r_1 hv => as2 r_1 fun r_2 r_3 => aAgg r_2 fun x_1 => aInt .i64 r_3 fun x_2 => nw (.cells Y_api_Cap false [.int .i64 0, .int .i64 0, .int .i64 0, .int .i64 0, .int .i64 0, .int .i64 0]) hv fun b hv_1 => ck (List.length x_1 = 6) (pAgg ⟨b, 0, none⟩ x_1 hv_1 fun hv_2 => cond (ineF x_2 0)
      (some (.tuple ⟨[.int .i64 0, .int .i64 x_2]⟩, hv_2))
      (gInt .i64 (Addr.add ⟨b, 0, none⟩ 1) hv_2 fun x_3 => cond (ieqF (bitAF .i64 x_3 right) 0)
      (some (.tuple ⟨[.int .i64 0, .int .i64 3]⟩, hv_2))
      (bnd (cond (iltF atv 0) (some (true, hv_2)) (some (iltF n 0, hv_2))) fun c hv_3 => bnd (cond c (some (true, hv_3)) (gInt .i64 (Addr.add ⟨b, 0, none⟩ 3) hv_3 fun x_4 => some (iltF x_4 atv, hv_3))) fun c_1 hv_4 => bnd (cond c_1 (some (true, hv_4)) (gInt .i64 (Addr.add ⟨b, 0, none⟩ 3) hv_4 fun x_5 => some (iltF (wrapF .i64 (x_5 - atv)) n, hv_4))) fun c_2 hv_5 => bnd (cond c_2 (some (true, hv_5)) (gInt .i64 (Addr.add ⟨b, 0, none⟩ 0) hv_5 fun x_6 => some (iltF x_6 0, hv_5))) fun c_3 hv_6 => bnd (cond c_3 (some (true, hv_6)) (gInt .i64 (Addr.add ⟨b, 0, none⟩ 0) hv_6 fun x_7 => aSome r fun p_1 => gSl (Addr.add p_1 2) hv_6 fun _ xn _ => some (ileF ((xn : Nat) : Int) x_7, hv_6))) fun c_4 hv_7 => cond c_4
      (some (.tuple ⟨[.int .i64 0, .int .i64 1]⟩, hv_7))
      (aSome r fun p_2 => gSl (Addr.add p_2 2) hv_7 fun x_9 xn_1 _ => gInt .i64 (Addr.add ⟨b, 0, none⟩ 0) hv_7 fun x_10 => aSome x_9 fun p_3 => ckRF x_10 xn_1 (gAgg (Addr.add (bare p_3) (Int.toNat x_10 * 2)) 2 hv_7 fun x_11 => nw (.cells Y_region_span false [.int .i64 0, .int .i64 0]) hv_7 fun b_1 hv_8 => ck (List.length x_11 = 2) (pAgg ⟨b_1, 0, none⟩ x_11 hv_8 fun hv_9 => gInt .i64 (Addr.add ⟨b, 0, none⟩ 2) hv_9 fun x_12 => gInt .i64 (Addr.add ⟨b_1, 0, none⟩ 1) hv_9 fun x_13 => bnd (cond (iltF x_13 (wrapF .i64 (x_12 + atv))) (some (true, hv_9)) (gInt .i64 (Addr.add ⟨b_1, 0, none⟩ 1) hv_9 fun x_14 => gInt .i64 (Addr.add ⟨b, 0, none⟩ 2) hv_9 fun x_15 => some (iltF (wrapF .i64 ((wrapF .i64 (x_14 - x_15)) - atv)) n, hv_9))) fun c_5 hv_10 => cond c_5
      (some (.tuple ⟨[.int .i64 0, .int .i64 1]⟩, hv_10))
      (gInt .i64 (Addr.add ⟨b_1, 0, none⟩ 0) hv_10 fun x_16 => gInt .i64 (Addr.add ⟨b, 0, none⟩ 2) hv_10 fun x_17 => some (.tuple ⟨[.int .i64 (wrapF .i64 ((wrapF .i64 (x_16 + x_17)) + atv)), .int .i64 0]⟩, hv_10))))))))
  | _ => none
noncomputable def X_mem_Mem_Store : XPoly := fun G _ call run a h => match a with
  | [.pointer m, .int .i64 atv, .slice b bn bc] =>
  bnd (call F_mem_Mem_in [.pointer m, .int .i64 atv, .int .i64 ((bn : Nat) : Int)] h) fun r hv => aBool r fun x => cond (!x)
      (some (.int .i64 1, hv))
      (aSome m fun p => gSl (Addr.add p 0) hv fun x_1 xn xc => ckB (fitsOpen x_1 Y_uint8 hv) (ckLF atv xn (gCells b (min bn (xn - (Int.toNat atv)) * 1) hv fun cs => pCells (moved x_1 (decide (Int.toNat atv < xc)) ((Int.toNat atv) * 1)) cs hv fun hv_1 => some (.int .i64 0, hv_1))))
  | _ => none
noncomputable def X_caps_Space_Get : XPoly := fun G _ call run a h => match a with
  | [.pointer s, .int .i64 env, .int .i64 name] =>
  nw (.cells Y_api_Cap false [.int .i64 0, .int .i64 0, .int .i64 0, .int .i64 0, .int .i64 0, .int .i64 0]) h fun b hv => bnd (call F_caps_Space_is [.pointer s, .int .i64 env] hv) fun r hv_1 => aBool r fun x => cond (!x)
      (pAgg ⟨b, 0, none⟩ [.int .i64 0, .int .i64 0, .int .i64 0, .int .i64 0, .int .i64 0, .int .i64 0] hv_1 fun hv_2 => gAgg ⟨b, 0, none⟩ 6 hv_2 fun x_1 => some (.tuple ⟨[.agg ⟨x_1⟩, .int .i64 2]⟩, hv_2))
      (aSome s fun p => gSl (Addr.add p 0) hv_1 fun x_2 xn _ => aSome x_2 fun p_1 => ckRF env xn (gPtr (Addr.add (bare p_1) (Int.toNat env * 1)) hv_1 fun x_3 => bnd (call F_table_Table_api_Cap_Get [.pointer x_3, .int .i64 name] hv_1) fun r_1 hv_3 => as2 r_1 fun r_2 r_3 => aAgg r_2 fun x_4 => aBool r_3 fun x_5 => nw (.cells Y_api_Cap false [.int .i64 0, .int .i64 0, .int .i64 0, .int .i64 0, .int .i64 0, .int .i64 0]) hv_3 fun b_1 hv_4 => ck (List.length x_4 = 6) (pAgg ⟨b_1, 0, none⟩ x_4 hv_4 fun hv_5 => cond (!x_5)
      (pAgg ⟨b, 0, none⟩ [.int .i64 0, .int .i64 0, .int .i64 0, .int .i64 0, .int .i64 0, .int .i64 0] hv_5 fun hv_6 => gAgg ⟨b, 0, none⟩ 6 hv_6 fun x_6 => some (.tuple ⟨[.agg ⟨x_6⟩, .int .i64 2]⟩, hv_6))
      (gAgg ⟨b_1, 0, none⟩ 6 hv_5 fun x_7 => ck (List.length x_7 = 6) (pAgg ⟨b, 0, none⟩ x_7 hv_5 fun hv_7 => gAgg ⟨b, 0, none⟩ 6 hv_7 fun x_8 => some (.tuple ⟨[.agg ⟨x_8⟩, .int .i64 0]⟩, hv_7))))))
  | _ => none
noncomputable def X_table_Table_api_Cap_Drop : XPoly := fun G _ call run a h => match a with
  | [.pointer t, .int .i64 name] =>
  bnd (call F_table_Table_api_Cap_at [.pointer t, .int .i64 name] h) fun r hv => aPtr r fun x => cond x.isNone
      (some (.bool false, hv))
      (aSome x fun p => gInt .i64 (Addr.add p 6) hv fun x_1 => aSome x fun p_1 => pAgg p_1 [.int .i64 0, .int .i64 0, .int .i64 0, .int .i64 0, .int .i64 0, .int .i64 0, .int .i64 (wrapF .i64 (x_1 + 1)), .bool false] hv fun hv_1 => some (.bool true, hv_1))
  | _ => none
noncomputable def X_slices_ContainsFunc_s_byte_byte : XPoly := fun G _ call run a h => match a with
  | [.slice s sn sc, f] =>
  bnd (call F_slices_IndexFunc_s_byte_byte [.slice s sn sc, f] h) fun r hv => aInt .i64 r fun x => some (.bool (ileF 0 x), hv)
  | _ => none
noncomputable def X_pslot_put : XPoly := fun G _ call run a h => match a with
  | [.agg ⟨p⟩, .slice b bn bc] =>
  nw (.cells Y_api_Proc false p) h fun b_1 hv => gAgg ⟨b_1, 0, none⟩ 16 hv fun x => bnd (call F_pslot_Ok [.agg ⟨x⟩] hv) fun r hv_1 => aBool r fun x_1 => cond (!x_1)
      (some (.bool false, hv_1))
      (gInt .i64 (Addr.add ⟨b_1, 0, none⟩ 0) hv_1 fun x_2 => gInt .i64 (Addr.add ⟨b_1, 0, none⟩ 1) hv_1 fun x_3 => gInt .i64 (Addr.add ⟨b_1, 0, none⟩ 2) hv_1 fun x_4 => gInt .i64 (Addr.add ⟨b_1, 0, none⟩ 3) hv_1 fun x_5 => nw (.cells Y_int false [.int .i64 x_2, .int .i64 x_3, .int .i64 x_4, .int .i64 x_5]) hv_1 fun b_2 hv_2 => run F_pslot_put 3008 [.slice b bn bc, .pointer (some ⟨b_1, 0, none⟩), .slice (some ⟨b_2, 0, none⟩) 4 4, .int .i64 4, .int .i64 0] hv_2)
  | _ => none
noncomputable def X_pslot_put_L1 : XPoly := fun G _ call run a h => match a with
  | [.slice b bn bc, .pointer (some p), .slice x22 x22n x22c, .int .i64 x23, .int .i64 x24] =>
  cond (iltF x24 x23)
      (aSome x22 fun p_1 => ckRF x24 x22n (gInt .i64 (Addr.add (bare p_1) (Int.toNat x24 * 1)) h fun x => aSome b fun p_2 => ckRF x24 bn (pV (Addr.add (bare p_2) (Int.toNat x24 * 1)) (.int .u8 (wrapF .u8 (x))) h fun hv => run F_pslot_put 3008 [.slice b bn bc, .pointer (some p), .slice x22 x22n x22c, .int .i64 x23, .int .i64 (wrapF .i64 (x24 + 1))] hv)))
      (gInt .i64 (Addr.add p 4) h fun x_1 => gInt .i64 (Addr.add p 5) h fun x_2 => gInt .i64 (Addr.add p 6) h fun x_3 => gInt .i64 (Addr.add p 7) h fun x_4 => nw (.cells Y_int false [.int .i64 x_1, .int .i64 x_2, .int .i64 x_3, .int .i64 x_4]) h fun b_1 hv_1 => run F_pslot_put 3018 [.slice b bn bc, .pointer (some p), .slice (some ⟨b_1, 0, none⟩) 4 4, .int .i64 4, .int .i64 0] hv_1)
  | _ => none
noncomputable def LB_pslot_put_L1 : Lab := ⟨F_pslot_put, 3008, T_pslot_put_L1, [1, 2, 22, 23, 24], X_pslot_put_L1⟩
noncomputable def X_pslot_put_L2 : XPoly := fun G _ call run a h => match a with
  | [.slice b bn bc, .pointer (some p), .slice x43 x43n x43c, .int .i64 x44, .int .i64 x45] =>
  cond (iltF x45 x44)
      (aSome x43 fun p_1 => ckRF x45 x43n (gInt .i64 (Addr.add (bare p_1) (Int.toNat x45 * 1)) h fun x => bnd (call F_codec_Put2 [.slice b bn bc, .int .i64 (wrapF .i64 (4 + (wrapF .i64 (2 * x45)))), .int .i64 x] h) fun r hv => aBool r fun _ => run F_pslot_put 3018 [.slice b bn bc, .pointer (some p), .slice x43 x43n x43c, .int .i64 x44, .int .i64 (wrapF .i64 (x45 + 1))] hv))
      (gAgg (Addr.add p 8) 8 h fun x_2 => run F_pslot_put 3028 [.slice b bn bc, .agg ⟨x_2⟩, .int .i64 0] h)
  | _ => none
noncomputable def LB_pslot_put_L2 : Lab := ⟨F_pslot_put, 3018, T_pslot_put_L2, [1, 2, 43, 44, 45], X_pslot_put_L2⟩
noncomputable def X_pslot_put_L3 : XPoly := fun G _ call run a h => match a with
  | [.slice b bn bc, .agg ⟨x58⟩, .int .i64 x59] =>
  cond (iltF x59 8)
      (ckRF x59 8 (nth x58 (Int.toNat x59 * 1) fun x => aInt .i64 x fun x_1 => aSome b fun p => ckRF (wrapF .i64 (12 + x59)) bn (pV (Addr.add (bare p) (Int.toNat (wrapF .i64 (12 + x59)) * 1)) (.int .u8 (wrapF .u8 (x_1))) h fun hv => run F_pslot_put 3028 [.slice b bn bc, .agg ⟨x58⟩, .int .i64 (wrapF .i64 (x59 + 1))] hv)))
      (aSome b fun p_1 => ckRF 20 bn (pV (Addr.add (bare p_1) (Int.toNat 20 * 1)) (.int .u8 167) h fun hv_1 => ckB (fitsOpen b Y_uint8 hv_1) (ckLF 21 bc (bnd (call F_codec_Sum [.slice (moved b (decide (0 < bc)) (0 * 1)) ((Int.toNat 21) - 0) (bc - 0)] hv_1) fun r hv_2 => aInt .u8 r fun x_2 => aSome b fun p_2 => ckRF 21 bn (pV (Addr.add (bare p_2) (Int.toNat 21 * 1)) (.int .u8 x_2) hv_2 fun hv_3 => some (.bool true, hv_3))))))
  | _ => none
noncomputable def LB_pslot_put_L3 : Lab := ⟨F_pslot_put, 3028, T_pslot_put_L3, [1, 58, 59], X_pslot_put_L3⟩
noncomputable def X_ofile_get : XPoly := fun G _ call run a h => match a with
  | [.slice b bn bc] =>
  nw (.cells Y_api_File false [.int .i64 0, .int .i64 0, .int .i64 0, .int .i64 0]) h fun b_1 hv => aSome b fun p => ckRF 0 bn (gInt .u8 (Addr.add (bare p) (Int.toNat 0 * 1)) hv fun x => aSome b fun p_1 => ckRF 1 bn (gInt .u8 (Addr.add (bare p_1) (Int.toNat 1 * 1)) hv fun x_1 => aSome b fun p_2 => ckRF 2 bn (gInt .u8 (Addr.add (bare p_2) (Int.toNat 2 * 1)) hv fun x_2 => aSome b fun p_3 => ckRF 3 bn (gInt .u8 (Addr.add (bare p_3) (Int.toNat 3 * 1)) hv fun x_3 => nw (.cells Y_api_File false [.int .i64 0, .int .i64 0, .int .i64 0, .int .i64 0]) hv fun b_2 hv_1 => pAgg ⟨b_2, 0, none⟩ [.int .i64 (wrapF .i64 (x)), .int .i64 (wrapF .i64 (x_1)), .int .i64 (wrapF .i64 (x_2)), .int .i64 (wrapF .i64 (x_3))] hv_1 fun hv_2 => gAgg ⟨b_2, 0, none⟩ 4 hv_2 fun x_4 => bnd (call F_ofile_Encode [.agg ⟨x_4⟩] hv_2) fun r hv_3 => as2 r fun r_1 r_2 => aSl r_1 fun x_5 xn xc => aBool r_2 fun x_6 => gAgg ⟨b_2, 0, none⟩ 4 hv_3 fun x_7 => bnd (cond x_6 (bnd (call F_slices_Equal_s_byte_byte [.slice x_5 xn xc, .slice b bn bc] hv_3) fun r_3 hv_4 => aBool r_3 fun x_8 => gAgg ⟨b_2, 0, none⟩ 4 hv_4 fun x_9 => same (.agg ⟨x_7⟩) (.agg ⟨x_9⟩) (some (x_8, hv_4))) (some (false, hv_3))) fun c hv_5 => ck (List.length x_7 = 4) (pAgg ⟨b_1, 0, none⟩ x_7 hv_5 fun hv_6 => gAgg ⟨b_1, 0, none⟩ 4 hv_6 fun x_10 => some (.tuple ⟨[.agg ⟨x_10⟩, .bool c]⟩, hv_6))))))
  | _ => none
noncomputable def X_codec_New_api_Pipe : XPoly := fun G _ call run a h => match a with
  | [.int .i64 size, put, get] =>
  one put (one get (nw (.cells Y_codec_Codec_api_Pipe false [.int .i64 (mm2 false (mm2 true size 0) 64), put, get]) h fun b hv => some (.pointer (some ⟨b, 0, none⟩), hv)))
  | _ => none
noncomputable def X_ref1_has : XPoly := fun G _ call run a h => match a with
  | [.slice l ln lc, .agg ⟨r⟩] =>
  nw (.cells Y_api_Ref false r) h fun b hv => run F_ref1_has 3004 [.slice l ln lc, .pointer (some ⟨b, 0, none⟩), .int .i64 0] hv
  | _ => none
noncomputable def X_ref1_has_L1 : XPoly := fun G _ call run a h => match a with
  | [.slice l ln lc, .pointer (some r), .int .i64 i] =>
  cond (iltF i ((ln : Nat) : Int))
      (aSome l fun p => ckRF i ln (gAgg (Addr.add (bare p) (Int.toNat i * 2)) 2 h fun x => gAgg r 2 h fun x_1 => eqAgg PR Y_api_Ref x x_1 fun eq => cond eq
      (some (.bool true, h))
      (run F_ref1_has 3004 [.slice l ln lc, .pointer (some r), .int .i64 (wrapF .i64 (i + 1))] h)))
      (some (.bool false, h))
  | _ => none
noncomputable def LB_ref1_has_L1 : Lab := ⟨F_ref1_has, 3004, T_ref1_has_L1, [0, 3, 5], X_ref1_has_L1⟩
noncomputable def X_ref1_rising : XPoly := fun G _ call run a h => match a with
  | [.slice l ln lc] =>
  run F_ref1_rising 3006 [.slice l ln lc, .slice none 0 0, .int .i64 0] h
  | _ => none
noncomputable def X_ref1_rising_L1 : XPoly := fun G _ call run a h => match a with
  | [.slice l ln lc, .slice out outn outc, .int .i64 i] =>
  cond (iltF i ((ln : Nat) : Int))
      (run F_ref1_rising 8012 [.slice l ln lc, .slice out outn outc, .int .i64 i, .int .i64 ((outn : Nat) : Int)] h)
      (some (.slice out outn outc, h))
  | _ => none
noncomputable def LB_ref1_rising_L1 : Lab := ⟨F_ref1_rising, 3006, T_ref1_rising_L1, [0, 3, 4], X_ref1_rising_L1⟩
noncomputable def X_ref1_rising_L2 : XPoly := fun G _ call run a h => match a with
  | [.slice l ln lc, .slice out outn outc, .int .i64 i, .int .i64 k] =>
  bnd (cond (iltF 0 k) (aSome out fun p => ckRF (wrapF .i64 (k - 1)) outn (gInt .i64 (Addr.add (bare p) (Int.toNat (wrapF .i64 (k - 1)) * 1)) h fun x => aSome l fun p_1 => ckRF i ln (gInt .i64 (Addr.add (bare p_1) (Int.toNat i * 1)) h fun x_1 => some (iltF x_1 x, h)))) (some (false, h))) fun c hv => cond c
      (run F_ref1_rising 8012 [.slice l ln lc, .slice out outn outc, .int .i64 i, .int .i64 (wrapF .i64 (k - 1))] hv)
      (nw (.cells Y_int false []) hv fun b hv_1 => ckB (fitsOpen out Y_int hv_1) (ckLF k outc (aSome l fun p_2 => ckRF i ln (gInt .i64 (Addr.add (bare p_2) (Int.toNat i * 1)) hv_1 fun x_2 => nw (.cells Y_int false [.int .i64 x_2]) hv_1 fun b_1 hv_2 => ckB (fitsOpen out Y_int hv_2) (ckLF k outn (gCells (moved out (decide (0 < outc)) (0 * 1)) (((Int.toNat k) - 0) * 1) hv_2 fun cs => ckB (fitsOpen (some ⟨b, 0, none⟩) Y_int hv_2) (apd Y_int 1 (some ⟨b, 0, none⟩) 0 0 ((Int.toNat k) - 0) cs hv_2 fun a an ac hv_3 => gInt .i64 (Addr.add (bare p_2) (Int.toNat i * 1)) hv_3 fun x_3 => same (.int .i64 x_2) (.int .i64 x_3) (ckB (fitsOpen out Y_int hv_3) (ckLF k outn (same (.slice (moved out (decide (Int.toNat k < outc)) ((Int.toNat k) * 1)) (outn - (Int.toNat k)) (outc - (Int.toNat k))) (.slice (moved out (decide (Int.toNat k < outc)) ((Int.toNat k) * 1)) (outn - (Int.toNat k)) (outc - (Int.toNat k))) (gCells (some ⟨b_1, 0, none⟩) (1 * 1) hv_3 fun cs_1 => ckB (fitsOpen a Y_int hv_3) (apd Y_int 1 a an ac 1 cs_1 hv_3 fun a_1 an_1 ac_1 hv_4 => ckB (fitsOpen out Y_int hv_4) (ckLF k outn (same (.slice (moved out (decide (Int.toNat k < outc)) ((Int.toNat k) * 1)) (outn - (Int.toNat k)) (outc - (Int.toNat k))) (.slice (moved out (decide (Int.toNat k < outc)) ((Int.toNat k) * 1)) (outn - (Int.toNat k)) (outc - (Int.toNat k))) (gCells (moved out (decide (Int.toNat k < outc)) ((Int.toNat k) * 1)) ((outn - (Int.toNat k)) * 1) hv_4 fun cs_2 => ckB (fitsOpen a_1 Y_int hv_4) (apd Y_int 1 a_1 an_1 ac_1 (outn - (Int.toNat k)) cs_2 hv_4 fun a_2 an_2 ac_2 hv_5 => run F_ref1_rising 3006 [.slice l ln lc, .slice a_2 an_2 ac_2, .int .i64 (wrapF .i64 (i + 1))] hv_5))))))))))))))))
  | _ => none
noncomputable def LB_ref1_rising_L2 : Lab := ⟨F_ref1_rising, 8012, T_ref1_rising_L2, [0, 3, 4, 5], X_ref1_rising_L2⟩
noncomputable def X_table_Table_api_Cap_Get : XPoly := fun G _ call run a h => match a with
  | [.pointer t, .int .i64 name] =>
  nw (.cells Y_api_Cap false [.int .i64 0, .int .i64 0, .int .i64 0, .int .i64 0, .int .i64 0, .int .i64 0]) h fun b hv => bnd (call F_table_Table_api_Cap_at [.pointer t, .int .i64 name] hv) fun r hv_1 => aPtr r fun x => cond x.isNone
      (nw (.cells Y_api_Cap false [.int .i64 0, .int .i64 0, .int .i64 0, .int .i64 0, .int .i64 0, .int .i64 0]) hv_1 fun b_1 hv_2 => gAgg ⟨b_1, 0, none⟩ 6 hv_2 fun x_1 => ck (List.length x_1 = 6) (pAgg ⟨b, 0, none⟩ x_1 hv_2 fun hv_3 => gAgg ⟨b, 0, none⟩ 6 hv_3 fun x_2 => some (.tuple ⟨[.agg ⟨x_2⟩, .bool false]⟩, hv_3)))
      (aSome x fun p => gAgg (Addr.add p 0) 6 hv_1 fun x_3 => ck (List.length x_3 = 6) (pAgg ⟨b, 0, none⟩ x_3 hv_1 fun hv_4 => gAgg ⟨b, 0, none⟩ 6 hv_4 fun x_4 => some (.tuple ⟨[.agg ⟨x_4⟩, .bool true]⟩, hv_4)))
  | _ => none
noncomputable def X_slices_SortFunc_s_api_Ref_api_Ref : XPoly := fun G _ call run a h => match a with
  | [.slice x xn xc, cmp] =>
  bnd (call F_math_bits_Len [.int .u64 (wrapF .u64 (((xn : Nat) : Int)))] h) fun r hv => aInt .i64 r fun x_1 => bnd (call F_slices_pdqsortCmpFunc_api_Ref [.slice x xn xc, .int .i64 0, .int .i64 ((xn : Nat) : Int), .int .i64 x_1, cmp] hv) fun r_1 hv_1 => as0 r_1 (some (.tuple ⟨[]⟩, hv_1))
  | _ => none
noncomputable def X_table_Table_api_Cap_at : XPoly := fun G _ call run a h => match a with
  | [.pointer t, .int .i64 name] =>
  bnd (cond (iltF name 0) (some (true, h)) (aSome t fun p => gSl (Addr.add p 0) h fun _ xn _ => some (ileF ((xn : Nat) : Int) (bitAF .i64 name 255), h))) fun c hv => bnd (cond c (some (true, hv)) (aSome t fun p_1 => gSl (Addr.add p_1 0) hv fun x_1 xn_1 _ => aSome x_1 fun p_2 => ckRF (bitAF .i64 name 255) xn_1 (gBool (Addr.add (Addr.add (bare p_2) (Int.toNat (bitAF .i64 name 255) * 8)) 7) hv fun x_2 => some (!x_2, hv)))) fun c_1 hv_1 => bnd (cond c_1 (some (true, hv_1)) (bnd (call F_table_Table_api_Cap_name [.pointer t, .int .i64 (bitAF .i64 name 255)] hv_1) fun r hv_2 => aInt .i64 r fun x_3 => some (ineF x_3 name, hv_2))) fun c_2 hv_3 => cond c_2
      (some (.pointer none, hv_3))
      (aSome t fun p_3 => gSl (Addr.add p_3 0) hv_3 fun x_4 xn_2 _ => aSome x_4 fun p_4 => ckRF (bitAF .i64 name 255) xn_2 (some (.pointer (some (Addr.add (bare p_4) (Int.toNat (bitAF .i64 name 255) * 8))), hv_3)))
  | _ => none
noncomputable def X_sect_Sect_Holds : XPoly := fun G _ call run a h => match a with
  | [.pointer s, .int .i64 who, .int .i64 stamp] =>
  aSome s fun p => gBool (Addr.add p 1) h fun x => bnd (cond x (aSome s fun p_1 => gInt .i64 (Addr.add p_1 2) h fun x_1 => some (ieqF x_1 who, h)) (some (false, h))) fun c hv => bnd (cond c (aSome s fun p_2 => gInt .i64 (Addr.add p_2 3) hv fun x_2 => some (ieqF x_2 stamp, hv)) (some (false, hv))) fun c_1 hv_1 => some (.bool c_1, hv_1)
  | _ => none
noncomputable def X_codec_Get2 : XPoly := fun G _ call run a h => match a with
  | [.slice b bn bc, .int .i64 atv] =>
  bnd (cond (iltF atv 0) (some (true, h)) (some (iltF (wrapF .i64 (((bn : Nat) : Int) - 2)) atv, h))) fun c hv => cond c
      (some (.tuple ⟨[.int .i64 0, .bool false]⟩, hv))
      (aSome b fun p => ckRF atv bn (gInt .u8 (Addr.add (bare p) (Int.toNat atv * 1)) hv fun x => aSome b fun p_1 => ckRF (wrapF .i64 (atv + 1)) bn (gInt .u8 (Addr.add (bare p_1) (Int.toNat (wrapF .i64 (atv + 1)) * 1)) hv fun x_1 => some (.tuple ⟨[.int .i64 (bitO .i64 (wrapF .i64 ((wrapF .i64 (x)) * 2 ^ 8)) (wrapF .i64 (x_1))), .bool true]⟩, hv))))
  | _ => none
noncomputable def X_ring_Ok_1 : XPoly := fun G _ call run a h => match a with
  | [.int .i64 n, .int .i64 most] =>
  bnd (cond (ileF 0 n) (some (ileF n most, h)) (some (false, h))) fun c hv => some (.bool c, hv)
  | _ => none
noncomputable def X_slices_breakPatternsCmpFunc_api_Ref : XPoly := fun G _ call run a h => match a with
  | [.slice data datan datac, .int .i64 a, .int .i64 b, cmp] =>
  cond (ileF 8 (wrapF .i64 (b - a)))
      (nw (.cells Y_slices_xorshift false [.int .u64 0]) h fun b_1 hv => pV ⟨b_1, 0, none⟩ (.int .u64 (wrapF .u64 (wrapF .i64 (b - a)))) hv fun hv_1 => bnd (call F_slices_nextPowerOfTwo [.int .i64 (wrapF .i64 (b - a))] hv_1) fun r hv_2 => aInt .u64 r fun x => run F_slices_breakPatternsCmpFunc_api_Ref 2010 [.slice data datan datac, .int .i64 a, .int .i64 (wrapF .i64 (b - a)), .pointer (some ⟨b_1, 0, none⟩), .int .u64 x, .int .i64 (wrapF .i64 ((wrapF .i64 (a + (wrapF .i64 ((wrapF .i64 (Int.tdiv (wrapF .i64 (b - a)) 4)) * 2)))) - 1))] hv_2)
      (some (.tuple ⟨[]⟩, h))
  | _ => none
noncomputable def X_slices_breakPatternsCmpFunc_api_Ref_L1 : XPoly := fun G _ call run a h => match a with
  | [.slice data datan datac, .int .i64 a, .int .i64 length, .pointer (some random), .int .u64 modulus, .int .i64 idx] =>
  cond (ileF idx (wrapF .i64 ((wrapF .i64 (a + (wrapF .i64 ((wrapF .i64 (Int.tdiv length 4)) * 2)))) + 1)))
      (bnd (call F_slices_xorshift_Next [.pointer (some random)] h) fun r hv => aInt .u64 r fun x => cond (ileF length (wrapF .i64 (bitAF .u64 x (wrapF .u64 (modulus - 1)))))
      (run F_slices_breakPatternsCmpFunc_api_Ref 5021 [.slice data datan datac, .int .i64 a, .int .i64 length, .pointer (some random), .int .u64 modulus, .int .i64 idx, .int .i64 (wrapF .i64 ((wrapF .i64 (bitAF .u64 x (wrapF .u64 (modulus - 1)))) - length))] hv)
      (run F_slices_breakPatternsCmpFunc_api_Ref 5021 [.slice data datan datac, .int .i64 a, .int .i64 length, .pointer (some random), .int .u64 modulus, .int .i64 idx, .int .i64 (wrapF .i64 (bitAF .u64 x (wrapF .u64 (modulus - 1))))] hv))
      (some (.tuple ⟨[]⟩, h))
  | _ => none
noncomputable def LB_slices_breakPatternsCmpFunc_api_Ref_L1 : Lab := ⟨F_slices_breakPatternsCmpFunc_api_Ref, 2010, T_slices_breakPatternsCmpFunc_api_Ref_L1, [0, 1, 8, 9, 10, 11], X_slices_breakPatternsCmpFunc_api_Ref_L1⟩
noncomputable def X_slices_breakPatternsCmpFunc_api_Ref_R1 : XPoly := fun G _ call run a h => match a with
  | [.slice data datan datac, .int .i64 a, .int .i64 length, .pointer (some random), .int .u64 modulus, .int .i64 idx, .int .i64 other] =>
  aSome data fun p => ckRF (wrapF .i64 (a + other)) datan (gAgg (Addr.add (bare p) (Int.toNat (wrapF .i64 (a + other)) * 2)) 2 h fun x => aSome data fun p_1 => ckRF idx datan (gAgg (Addr.add (bare p_1) (Int.toNat idx * 2)) 2 h fun x_1 => aSome data fun p_2 => ckRF idx datan (ck (List.length x = 2) (pAgg (Addr.add (bare p_2) (Int.toNat idx * 2)) x h fun hv => aSome data fun p_3 => ckRF (wrapF .i64 (a + other)) datan (ck (List.length x_1 = 2) (pAgg (Addr.add (bare p_3) (Int.toNat (wrapF .i64 (a + other)) * 2)) x_1 hv fun hv_1 => run F_slices_breakPatternsCmpFunc_api_Ref 2010 [.slice data datan datac, .int .i64 a, .int .i64 length, .pointer (some random), .int .u64 modulus, .int .i64 (wrapF .i64 (idx + 1))] hv_1))))))
  | _ => none
noncomputable def LB_slices_breakPatternsCmpFunc_api_Ref_R1 : Lab := ⟨F_slices_breakPatternsCmpFunc_api_Ref, 5021, T_slices_breakPatternsCmpFunc_api_Ref_R1, [0, 1, 8, 9, 10, 11, 12], X_slices_breakPatternsCmpFunc_api_Ref_R1⟩
noncomputable def X_slices_partialInsertionSortCmpFunc_api_Ref : XPoly := fun G _ call run a h => match a with
  | [.slice data datan datac, .int .i64 a, .int .i64 b, cmp] =>
  run F_slices_partialInsertionSortCmpFunc_api_Ref 3006 [.slice data datan datac, .int .i64 a, .int .i64 b, cmp, .int .i64 (wrapF .i64 (a + 1)), .int .i64 0] h
  | _ => none
noncomputable def X_slices_partialInsertionSortCmpFunc_api_Ref_L1 : XPoly := fun G _ call run a h => match a with
  | [.slice data datan datac, .int .i64 a, .int .i64 b, cmp, .int .i64 i, .int .i64 j] =>
  cond (iltF j 5)
      (run F_slices_partialInsertionSortCmpFunc_api_Ref 8010 [.slice data datan datac, .int .i64 a, .int .i64 b, cmp, .int .i64 i, .int .i64 j] h)
      (some (.bool false, h))
  | _ => none
noncomputable def LB_slices_partialInsertionSortCmpFunc_api_Ref_L1 : Lab := ⟨F_slices_partialInsertionSortCmpFunc_api_Ref, 3006, T_slices_partialInsertionSortCmpFunc_api_Ref_L1, [0, 1, 2, 3, 9, 10], X_slices_partialInsertionSortCmpFunc_api_Ref_L1⟩
noncomputable def X_slices_partialInsertionSortCmpFunc_api_Ref_L2 : XPoly := fun G _ call run a h => match a with
  | [.slice data datan datac, .int .i64 a, .int .i64 b, cmp, .int .i64 i, .int .i64 j] =>
  bnd (cond (iltF i b) (aSome data fun p => ckRF i datan (gAgg (Addr.add (bare p) (Int.toNat i * 2)) 2 h fun x => aSome data fun p_1 => ckRF (wrapF .i64 (i - 1)) datan (gAgg (Addr.add (bare p_1) (Int.toNat (wrapF .i64 (i - 1)) * 2)) 2 h fun x_1 => aFn cmp fun g fi cp => bnd (call g (fi ++ ([.agg ⟨x⟩, .agg ⟨x_1⟩] ++ cp)) h) fun r hv => aInt .i64 r fun x_2 => some (!(iltF x_2 0), hv)))) (some (false, h))) fun c hv_1 => cond c
      (run F_slices_partialInsertionSortCmpFunc_api_Ref 8010 [.slice data datan datac, .int .i64 a, .int .i64 b, cmp, .int .i64 (wrapF .i64 (i + 1)), .int .i64 j] hv_1)
      (cond (ieqF i b)
      (some (.bool true, hv_1))
      (cond (iltF (wrapF .i64 (b - a)) 50)
      (some (.bool false, hv_1))
      (aSome data fun p_2 => ckRF (wrapF .i64 (i - 1)) datan (gAgg (Addr.add (bare p_2) (Int.toNat (wrapF .i64 (i - 1)) * 2)) 2 hv_1 fun x_3 => aSome data fun p_3 => ckRF i datan (gAgg (Addr.add (bare p_3) (Int.toNat i * 2)) 2 hv_1 fun x_4 => aSome data fun p_4 => ckRF i datan (ck (List.length x_3 = 2) (pAgg (Addr.add (bare p_4) (Int.toNat i * 2)) x_3 hv_1 fun hv_2 => aSome data fun p_5 => ckRF (wrapF .i64 (i - 1)) datan (ck (List.length x_4 = 2) (pAgg (Addr.add (bare p_5) (Int.toNat (wrapF .i64 (i - 1)) * 2)) x_4 hv_2 fun hv_3 => cond (ileF 2 (wrapF .i64 (i - a)))
      (run F_slices_partialInsertionSortCmpFunc_api_Ref 8028 [.slice data datan datac, .int .i64 a, .int .i64 b, cmp, .int .i64 i, .int .i64 j, .int .i64 (wrapF .i64 (i - 1))] hv_3)
      (run F_slices_partialInsertionSortCmpFunc_api_Ref 7037 [.slice data datan datac, .int .i64 a, .int .i64 b, cmp, .int .i64 i, .int .i64 j] hv_3))))))))))
  | _ => none
noncomputable def LB_slices_partialInsertionSortCmpFunc_api_Ref_L2 : Lab := ⟨F_slices_partialInsertionSortCmpFunc_api_Ref, 8010, T_slices_partialInsertionSortCmpFunc_api_Ref_L2, [0, 1, 2, 3, 9, 10], X_slices_partialInsertionSortCmpFunc_api_Ref_L2⟩
noncomputable def X_slices_partialInsertionSortCmpFunc_api_Ref_L3 : XPoly := fun G _ call run a h => match a with
  | [.slice data datan datac, .int .i64 a, .int .i64 b, cmp, .int .i64 i, .int .i64 j, .int .i64 j_1] =>
  cond (ileF 1 j_1)
      (aSome data fun p => ckRF j_1 datan (gAgg (Addr.add (bare p) (Int.toNat j_1 * 2)) 2 h fun x => aSome data fun p_1 => ckRF (wrapF .i64 (j_1 - 1)) datan (gAgg (Addr.add (bare p_1) (Int.toNat (wrapF .i64 (j_1 - 1)) * 2)) 2 h fun x_1 => aFn cmp fun g fi cp => bnd (call g (fi ++ ([.agg ⟨x⟩, .agg ⟨x_1⟩] ++ cp)) h) fun r hv => aInt .i64 r fun x_2 => cond (!(iltF x_2 0))
      (run F_slices_partialInsertionSortCmpFunc_api_Ref 7037 [.slice data datan datac, .int .i64 a, .int .i64 b, cmp, .int .i64 i, .int .i64 j] hv)
      (aSome data fun p_2 => ckRF (wrapF .i64 (j_1 - 1)) datan (gAgg (Addr.add (bare p_2) (Int.toNat (wrapF .i64 (j_1 - 1)) * 2)) 2 hv fun x_3 => aSome data fun p_3 => ckRF j_1 datan (gAgg (Addr.add (bare p_3) (Int.toNat j_1 * 2)) 2 hv fun x_4 => aSome data fun p_4 => ckRF j_1 datan (ck (List.length x_3 = 2) (pAgg (Addr.add (bare p_4) (Int.toNat j_1 * 2)) x_3 hv fun hv_1 => aSome data fun p_5 => ckRF (wrapF .i64 (j_1 - 1)) datan (ck (List.length x_4 = 2) (pAgg (Addr.add (bare p_5) (Int.toNat (wrapF .i64 (j_1 - 1)) * 2)) x_4 hv_1 fun hv_2 => run F_slices_partialInsertionSortCmpFunc_api_Ref 8028 [.slice data datan datac, .int .i64 a, .int .i64 b, cmp, .int .i64 i, .int .i64 j, .int .i64 (wrapF .i64 (j_1 - 1))] hv_2))))))))))
      (run F_slices_partialInsertionSortCmpFunc_api_Ref 7037 [.slice data datan datac, .int .i64 a, .int .i64 b, cmp, .int .i64 i, .int .i64 j] h)
  | _ => none
noncomputable def LB_slices_partialInsertionSortCmpFunc_api_Ref_L3 : Lab := ⟨F_slices_partialInsertionSortCmpFunc_api_Ref, 8028, T_slices_partialInsertionSortCmpFunc_api_Ref_L3, [0, 1, 2, 3, 9, 10, 11], X_slices_partialInsertionSortCmpFunc_api_Ref_L3⟩
noncomputable def X_slices_partialInsertionSortCmpFunc_api_Ref_R1 : XPoly := fun G _ call run a h => match a with
  | [.slice data datan datac, .int .i64 a, .int .i64 b, cmp, .int .i64 i, .int .i64 j] =>
  cond (ileF 2 (wrapF .i64 (b - i)))
      (run F_slices_partialInsertionSortCmpFunc_api_Ref 7040 [.slice data datan datac, .int .i64 a, .int .i64 b, cmp, .int .i64 i, .int .i64 j, .int .i64 (wrapF .i64 (i + 1))] h)
      (run F_slices_partialInsertionSortCmpFunc_api_Ref 3006 [.slice data datan datac, .int .i64 a, .int .i64 b, cmp, .int .i64 i, .int .i64 (wrapF .i64 (j + 1))] h)
  | _ => none
noncomputable def LB_slices_partialInsertionSortCmpFunc_api_Ref_R1 : Lab := ⟨F_slices_partialInsertionSortCmpFunc_api_Ref, 7037, T_slices_partialInsertionSortCmpFunc_api_Ref_R1, [0, 1, 2, 3, 9, 10], X_slices_partialInsertionSortCmpFunc_api_Ref_R1⟩
noncomputable def X_slices_partialInsertionSortCmpFunc_api_Ref_L4 : XPoly := fun G _ call run a h => match a with
  | [.slice data datan datac, .int .i64 a, .int .i64 b, cmp, .int .i64 i, .int .i64 j, .int .i64 j_1] =>
  cond (iltF j_1 b)
      (aSome data fun p => ckRF j_1 datan (gAgg (Addr.add (bare p) (Int.toNat j_1 * 2)) 2 h fun x => aSome data fun p_1 => ckRF (wrapF .i64 (j_1 - 1)) datan (gAgg (Addr.add (bare p_1) (Int.toNat (wrapF .i64 (j_1 - 1)) * 2)) 2 h fun x_1 => aFn cmp fun g fi cp => bnd (call g (fi ++ ([.agg ⟨x⟩, .agg ⟨x_1⟩] ++ cp)) h) fun r hv => aInt .i64 r fun x_2 => cond (!(iltF x_2 0))
      (run F_slices_partialInsertionSortCmpFunc_api_Ref 3006 [.slice data datan datac, .int .i64 a, .int .i64 b, cmp, .int .i64 i, .int .i64 (wrapF .i64 (j + 1))] hv)
      (aSome data fun p_2 => ckRF (wrapF .i64 (j_1 - 1)) datan (gAgg (Addr.add (bare p_2) (Int.toNat (wrapF .i64 (j_1 - 1)) * 2)) 2 hv fun x_3 => aSome data fun p_3 => ckRF j_1 datan (gAgg (Addr.add (bare p_3) (Int.toNat j_1 * 2)) 2 hv fun x_4 => aSome data fun p_4 => ckRF j_1 datan (ck (List.length x_3 = 2) (pAgg (Addr.add (bare p_4) (Int.toNat j_1 * 2)) x_3 hv fun hv_1 => aSome data fun p_5 => ckRF (wrapF .i64 (j_1 - 1)) datan (ck (List.length x_4 = 2) (pAgg (Addr.add (bare p_5) (Int.toNat (wrapF .i64 (j_1 - 1)) * 2)) x_4 hv_1 fun hv_2 => run F_slices_partialInsertionSortCmpFunc_api_Ref 7040 [.slice data datan datac, .int .i64 a, .int .i64 b, cmp, .int .i64 i, .int .i64 j, .int .i64 (wrapF .i64 (j_1 + 1))] hv_2))))))))))
      (run F_slices_partialInsertionSortCmpFunc_api_Ref 3006 [.slice data datan datac, .int .i64 a, .int .i64 b, cmp, .int .i64 i, .int .i64 (wrapF .i64 (j + 1))] h)
  | _ => none
noncomputable def LB_slices_partialInsertionSortCmpFunc_api_Ref_L4 : Lab := ⟨F_slices_partialInsertionSortCmpFunc_api_Ref, 7040, T_slices_partialInsertionSortCmpFunc_api_Ref_L4, [0, 1, 2, 3, 9, 10, 12], X_slices_partialInsertionSortCmpFunc_api_Ref_L4⟩
noncomputable def X_math_bits_Len32 : XPoly := fun G _ call run a h => match a with
  | [.int .u32 x] =>
  cond (ileF 65536 x)
      (run F_math_bits_Len32 3009 [.int .u32 (Int.fdiv x (2 ^ 16)), .int .i64 16] h)
      (run F_math_bits_Len32 3009 [.int .u32 x, .int .i64 0] h)
  | _ => none
noncomputable def X_math_bits_Len32_R1 : XPoly := fun G _ call run a h => match a with
  | [.int .u32 x, .int .i64 n] =>
  cond (ileF 256 x)
      (ckRF (wrapF .u8 (Int.fdiv x (2 ^ 8))) (ByteArray.size (ByteArray.mk ⟨[0, 1, 2, 2, 3, 3, 3, 3, 4, 4, 4, 4, 4, 4, 4, 4, 5, 5, 5, 5, 5, 5, 5, 5, 5, 5, 5, 5, 5, 5, 5, 5, 6, 6, 6, 6, 6, 6, 6, 6, 6, 6, 6, 6, 6, 6, 6, 6, 6, 6, 6, 6, 6, 6, 6, 6, 6, 6, 6, 6, 6, 6, 6, 6, 7, 7, 7, 7, 7, 7, 7, 7, 7, 7, 7, 7, 7, 7, 7, 7, 7, 7, 7, 7, 7, 7, 7, 7, 7, 7, 7, 7, 7, 7, 7, 7, 7, 7, 7, 7, 7, 7, 7, 7, 7, 7, 7, 7, 7, 7, 7, 7, 7, 7, 7, 7, 7, 7, 7, 7, 7, 7, 7, 7, 7, 7, 7, 7, 8, 8, 8, 8, 8, 8, 8, 8, 8, 8, 8, 8, 8, 8, 8, 8, 8, 8, 8, 8, 8, 8, 8, 8, 8, 8, 8, 8, 8, 8, 8, 8, 8, 8, 8, 8, 8, 8, 8, 8, 8, 8, 8, 8, 8, 8, 8, 8, 8, 8, 8, 8, 8, 8, 8, 8, 8, 8, 8, 8, 8, 8, 8, 8, 8, 8, 8, 8, 8, 8, 8, 8, 8, 8, 8, 8, 8, 8, 8, 8, 8, 8, 8, 8, 8, 8, 8, 8, 8, 8, 8, 8, 8, 8, 8, 8, 8, 8, 8, 8, 8, 8, 8, 8, 8, 8, 8, 8, 8, 8, 8, 8, 8, 8, 8, 8, 8, 8, 8, 8, 8, 8, 8, 8, 8, 8, 8, 8]⟩)) (some (.int .i64 (wrapF .i64 ((wrapF .i64 (n + 8)) + (wrapF .i64 (((List.getD (ByteArray.data (ByteArray.mk ⟨[0, 1, 2, 2, 3, 3, 3, 3, 4, 4, 4, 4, 4, 4, 4, 4, 5, 5, 5, 5, 5, 5, 5, 5, 5, 5, 5, 5, 5, 5, 5, 5, 6, 6, 6, 6, 6, 6, 6, 6, 6, 6, 6, 6, 6, 6, 6, 6, 6, 6, 6, 6, 6, 6, 6, 6, 6, 6, 6, 6, 6, 6, 6, 6, 7, 7, 7, 7, 7, 7, 7, 7, 7, 7, 7, 7, 7, 7, 7, 7, 7, 7, 7, 7, 7, 7, 7, 7, 7, 7, 7, 7, 7, 7, 7, 7, 7, 7, 7, 7, 7, 7, 7, 7, 7, 7, 7, 7, 7, 7, 7, 7, 7, 7, 7, 7, 7, 7, 7, 7, 7, 7, 7, 7, 7, 7, 7, 7, 8, 8, 8, 8, 8, 8, 8, 8, 8, 8, 8, 8, 8, 8, 8, 8, 8, 8, 8, 8, 8, 8, 8, 8, 8, 8, 8, 8, 8, 8, 8, 8, 8, 8, 8, 8, 8, 8, 8, 8, 8, 8, 8, 8, 8, 8, 8, 8, 8, 8, 8, 8, 8, 8, 8, 8, 8, 8, 8, 8, 8, 8, 8, 8, 8, 8, 8, 8, 8, 8, 8, 8, 8, 8, 8, 8, 8, 8, 8, 8, 8, 8, 8, 8, 8, 8, 8, 8, 8, 8, 8, 8, 8, 8, 8, 8, 8, 8, 8, 8, 8, 8, 8, 8, 8, 8, 8, 8, 8, 8, 8, 8, 8, 8, 8, 8, 8, 8, 8, 8, 8, 8, 8, 8, 8, 8, 8, 8]⟩)).toList (Int.toNat (wrapF .u8 (Int.fdiv x (2 ^ 8)))) 0).toNat : Int))))), h)))
      (ckRF (wrapF .u8 (x)) (ByteArray.size (ByteArray.mk ⟨[0, 1, 2, 2, 3, 3, 3, 3, 4, 4, 4, 4, 4, 4, 4, 4, 5, 5, 5, 5, 5, 5, 5, 5, 5, 5, 5, 5, 5, 5, 5, 5, 6, 6, 6, 6, 6, 6, 6, 6, 6, 6, 6, 6, 6, 6, 6, 6, 6, 6, 6, 6, 6, 6, 6, 6, 6, 6, 6, 6, 6, 6, 6, 6, 7, 7, 7, 7, 7, 7, 7, 7, 7, 7, 7, 7, 7, 7, 7, 7, 7, 7, 7, 7, 7, 7, 7, 7, 7, 7, 7, 7, 7, 7, 7, 7, 7, 7, 7, 7, 7, 7, 7, 7, 7, 7, 7, 7, 7, 7, 7, 7, 7, 7, 7, 7, 7, 7, 7, 7, 7, 7, 7, 7, 7, 7, 7, 7, 8, 8, 8, 8, 8, 8, 8, 8, 8, 8, 8, 8, 8, 8, 8, 8, 8, 8, 8, 8, 8, 8, 8, 8, 8, 8, 8, 8, 8, 8, 8, 8, 8, 8, 8, 8, 8, 8, 8, 8, 8, 8, 8, 8, 8, 8, 8, 8, 8, 8, 8, 8, 8, 8, 8, 8, 8, 8, 8, 8, 8, 8, 8, 8, 8, 8, 8, 8, 8, 8, 8, 8, 8, 8, 8, 8, 8, 8, 8, 8, 8, 8, 8, 8, 8, 8, 8, 8, 8, 8, 8, 8, 8, 8, 8, 8, 8, 8, 8, 8, 8, 8, 8, 8, 8, 8, 8, 8, 8, 8, 8, 8, 8, 8, 8, 8, 8, 8, 8, 8, 8, 8, 8, 8, 8, 8, 8, 8]⟩)) (some (.int .i64 (wrapF .i64 (n + (wrapF .i64 (((List.getD (ByteArray.data (ByteArray.mk ⟨[0, 1, 2, 2, 3, 3, 3, 3, 4, 4, 4, 4, 4, 4, 4, 4, 5, 5, 5, 5, 5, 5, 5, 5, 5, 5, 5, 5, 5, 5, 5, 5, 6, 6, 6, 6, 6, 6, 6, 6, 6, 6, 6, 6, 6, 6, 6, 6, 6, 6, 6, 6, 6, 6, 6, 6, 6, 6, 6, 6, 6, 6, 6, 6, 7, 7, 7, 7, 7, 7, 7, 7, 7, 7, 7, 7, 7, 7, 7, 7, 7, 7, 7, 7, 7, 7, 7, 7, 7, 7, 7, 7, 7, 7, 7, 7, 7, 7, 7, 7, 7, 7, 7, 7, 7, 7, 7, 7, 7, 7, 7, 7, 7, 7, 7, 7, 7, 7, 7, 7, 7, 7, 7, 7, 7, 7, 7, 7, 8, 8, 8, 8, 8, 8, 8, 8, 8, 8, 8, 8, 8, 8, 8, 8, 8, 8, 8, 8, 8, 8, 8, 8, 8, 8, 8, 8, 8, 8, 8, 8, 8, 8, 8, 8, 8, 8, 8, 8, 8, 8, 8, 8, 8, 8, 8, 8, 8, 8, 8, 8, 8, 8, 8, 8, 8, 8, 8, 8, 8, 8, 8, 8, 8, 8, 8, 8, 8, 8, 8, 8, 8, 8, 8, 8, 8, 8, 8, 8, 8, 8, 8, 8, 8, 8, 8, 8, 8, 8, 8, 8, 8, 8, 8, 8, 8, 8, 8, 8, 8, 8, 8, 8, 8, 8, 8, 8, 8, 8, 8, 8, 8, 8, 8, 8, 8, 8, 8, 8, 8, 8, 8, 8, 8, 8, 8, 8]⟩)).toList (Int.toNat (wrapF .u8 (x))) 0).toNat : Int))))), h)))
  | _ => none
noncomputable def LB_math_bits_Len32_R1 : Lab := ⟨F_math_bits_Len32, 3009, T_math_bits_Len32_R1, [0, 2], X_math_bits_Len32_R1⟩
noncomputable def X_slices_nextPowerOfTwo : XPoly := fun G _ call run a h => match a with
  | [.int .i64 length] =>
  bnd (call F_math_bits_Len [.int .u64 (wrapF .u64 (length))] h) fun r hv => aInt .i64 r fun x => ck ((0 : Int) ≤ x) (some (.int .u64 (wrapF .u64 (1 * 2 ^ (min (Int.toNat x) 64))), hv))
  | _ => none
end Go.EQ

set_option maxRecDepth 100000
set_option linter.unusedVariables false
namespace Go.EQ
open Go Go.Proofs
open Go.NN hiding bnd ld gInt gBool gStr gPtr gSl gMap gFv gAgg gCells nw pV pAgg pCells apd fitsOpen liveA mapAt
open Go.NP Go.NW
noncomputable def X_law18_FdsLimits : XPoly := fun G _ call run a h => match a with
  | [.int .i64 forks] =>
  bnd (call F_law17_First [] h) fun r hv => aSl r fun x xn xc => bnd (call F_law17_Fill [.slice x xn xc] hv) fun r_1 hv_1 => as4 r_1 fun r_2 r_3 r_4 r_5 => aPtr r_2 fun x_1 => aPtr r_3 fun x_2 => aPtr r_4 fun _ => aPtr r_5 fun _ => bnd (cond x_2.isNone (some (true, hv_1)) (bnd (call F_kern_Kern_Regions [.pointer x_1] hv_1) fun r_6 hv_2 => aPtr r_6 fun x_5 => some (x_5.isNone, hv_2))) fun c hv_3 => cond c
      (some (.bool false, hv_3))
      (run F_law18_FdsLimits 3012 [.int .i64 (bitAF .i64 forks 3), .pointer x_1, .pointer x_2, .int .i64 0] hv_3)
  | _ => none
noncomputable def X_law18_FdsLimits_L1 : XPoly := fun G _ call run a h => match a with
  | [.int .i64 forks, .pointer k, .pointer c, .int .i64 i] =>
  cond (iltF i forks)
      (bnd (call F_proc_Fork [.pointer c, .int .i64 0] h) fun r hv => aAgg r fun x => nth x 0 fun N => aInt .i64 N fun N_1 => cond (ineF N_1 (wrapF .i64 (i + 1)))
      (some (.bool false, hv))
      (run F_law18_FdsLimits 3012 [.int .i64 forks, .pointer k, .pointer c, .int .i64 (wrapF .i64 (i + 1))] hv))
      (nw (.cells Y_4_int false [.int .i64 0, .int .i64 0, .int .i64 0, .int .i64 0]) h fun b hv_1 => run F_law18_FdsLimits 3026 [.int .i64 forks, .pointer k, .pointer c, .int .i64 0, .pointer (some ⟨b, 0, none⟩), .int .i64 0] hv_1)
  | _ => none
noncomputable def LB_law18_FdsLimits_L1 : Lab := ⟨F_law18_FdsLimits, 3012, T_law18_FdsLimits_L1, [0, 3, 4, 7], X_law18_FdsLimits_L1⟩
noncomputable def X_law18_FdsLimits_L2 : XPoly := fun G _ call run a h => match a with
  | [.int .i64 forks, .pointer k, .pointer c, .int .i64 made, .pointer (some own), .int .i64 i] =>
  cond (iltF i 8)
      (bnd (call F_kern_Kern_Regions [.pointer k] h) fun r hv => aPtr r fun x => bnd (call F_region_Regions_Raw [.pointer x, .int .i64 0] hv) fun r_1 hv_1 => as2 r_1 fun r_2 r_3 => aSl r_2 fun x_1 xn xc => aInt .i64 r_3 fun _ => ck ((wrapF .i64 (forks + 1)) ≠ (0 : Int)) (bnd (call F_fds_Pipe [.pointer c, .int .i64 (Int.tmod i (wrapF .i64 (forks + 1)))] hv_1) fun r_4 hv_2 => aAgg r_4 fun x_3 => nw (.cells Y_api_Ret false [.int .i64 0, .int .i64 0, .slice none 0 0, .bool false]) hv_2 fun b hv_3 => ck (List.length x_3 = 4) (pAgg ⟨b, 0, none⟩ x_3 hv_3 fun hv_4 => bnd (call F_kern_Kern_Regions [.pointer k] hv_4) fun r_5 hv_5 => aPtr r_5 fun x_4 => bnd (call F_region_Regions_Raw [.pointer x_4, .int .i64 0] hv_5) fun r_6 hv_6 => as2 r_6 fun r_7 r_8 => aSl r_7 fun x_5 xn_1 xc_1 => aInt .i64 r_8 fun _ => ckRF (Int.tmod i (wrapF .i64 (forks + 1))) 4 (gInt .i64 (Addr.add own (Int.toNat (Int.tmod i (wrapF .i64 (forks + 1))) * 1)) hv_6 fun x_7 => cond (ileF 3 x_7)
      (run F_law18_FdsLimits 8049 [.int .i64 forks, .pointer k, .pointer c, .int .i64 made, .pointer (some own), .int .i64 i, .slice x_1 xn xc, .int .i64 (Int.tmod i (wrapF .i64 (forks + 1))), .pointer (some ⟨b, 0, none⟩), .slice x_5 xn_1 xc_1, .int .i64 124] hv_6)
      (cond (ileF 4 made)
      (run F_law18_FdsLimits 8049 [.int .i64 forks, .pointer k, .pointer c, .int .i64 made, .pointer (some own), .int .i64 i, .slice x_1 xn xc, .int .i64 (Int.tmod i (wrapF .i64 (forks + 1))), .pointer (some ⟨b, 0, none⟩), .slice x_5 xn_1 xc_1, .int .i64 123] hv_6)
      (run F_law18_FdsLimits 8049 [.int .i64 forks, .pointer k, .pointer c, .int .i64 made, .pointer (some own), .int .i64 i, .slice x_1 xn xc, .int .i64 (Int.tmod i (wrapF .i64 (forks + 1))), .pointer (some ⟨b, 0, none⟩), .slice x_5 xn_1 xc_1, .int .i64 0] hv_6))))))
      (cond (ieqF forks 0)
      (bnd (cond (ieqF made 3) (bnd (call F_law18_awake [] h) fun r_9 hv_7 => aBool r_9 fun x_8 => some (x_8, hv_7)) (some (false, h))) fun c_1 hv_8 => some (.bool c_1, hv_8))
      (bnd (call F_fds_Close [.pointer c, .int .i64 0, .int .i64 1] h) fun r_10 hv_9 => aAgg r_10 fun x_9 => bnd (call F_fds_Close [.pointer c, .int .i64 0, .int .i64 2] hv_9) fun r_11 hv_10 => aAgg r_11 fun x_10 => nw (.cells Y_api_Ret false [.int .i64 0, .int .i64 0, .slice none 0 0, .bool false]) hv_10 fun b_1 hv_11 => nw (.cells Y_api_Ret false [.int .i64 0, .int .i64 0, .slice none 0 0, .bool false]) hv_11 fun b_2 hv_12 => ck (List.length x_9 = 4) (pAgg ⟨b_1, 0, none⟩ x_9 hv_12 fun hv_13 => ck (List.length x_10 = 4) (pAgg ⟨b_2, 0, none⟩ x_10 hv_13 fun hv_14 => bnd (call F_fds_Pipe [.pointer c, .int .i64 0] hv_14) fun r_12 hv_15 => aAgg r_12 fun x_11 => nw (.cells Y_api_Ret false [.int .i64 0, .int .i64 0, .slice none 0 0, .bool false]) hv_15 fun b_3 hv_16 => ck (List.length x_11 = 4) (pAgg ⟨b_3, 0, none⟩ x_11 hv_16 fun hv_17 => bnd (cond (ieqF made 4) (gInt .i64 (Addr.add ⟨b_1, 0, none⟩ 1) hv_17 fun x_12 => some (ieqF x_12 0, hv_17)) (some (false, hv_17))) fun c_2 hv_18 => bnd (cond c_2 (gInt .i64 (Addr.add ⟨b_2, 0, none⟩ 1) hv_18 fun x_13 => some (ieqF x_13 0, hv_18)) (some (false, hv_18))) fun c_3 hv_19 => bnd (cond c_3 (gInt .i64 (Addr.add ⟨b_3, 0, none⟩ 1) hv_19 fun x_14 => some (ieqF x_14 0, hv_19)) (some (false, hv_19))) fun c_4 hv_20 => bnd (cond c_4 (gInt .i64 (Addr.add ⟨b_3, 0, none⟩ 0) hv_20 fun x_15 => some (ieqF x_15 33, hv_20)) (some (false, hv_20))) fun c_5 hv_21 => bnd (cond c_5 (bnd (call F_law18_awake [] hv_21) fun r_13 hv_22 => aBool r_13 fun x_16 => some (x_16, hv_22)) (some (false, hv_21))) fun c_6 hv_23 => some (.bool c_6, hv_23))))))
  | _ => none
noncomputable def LB_law18_FdsLimits_L2 : Lab := ⟨F_law18_FdsLimits, 3026, T_law18_FdsLimits_L2, [0, 3, 4, 8, 9, 10], X_law18_FdsLimits_L2⟩
noncomputable def X_law18_FdsLimits_R1 : XPoly := fun G _ call run a h => match a with
  | [.int .i64 forks, .pointer k, .pointer c, .int .i64 made, .pointer (some own), .int .i64 i, .slice was wasn wasc, .int .i64 who, .pointer (some r), .slice now nown nowc, .int .i64 want] =>
  gInt .i64 (Addr.add r 1) h fun x => bnd (cond (ineF x want) (some (true, h)) (bnd (cond (ineF want 0) (gCells was wasn h fun cs => asBytes cs fun l => gCells now nown h fun cs_1 => asBytes cs_1 fun l_1 => some (!((ByteArray.mk ⟨l⟩).toList == (ByteArray.mk ⟨l_1⟩).toList), h)) (some (false, h))) fun c_1 hv => some (c_1, hv))) fun c_2 hv_1 => cond c_2
      (some (.bool false, hv_1))
      (cond (ieqF want 0)
      (ckRF who 4 (gInt .i64 (Addr.add own (Int.toNat who * 1)) hv_1 fun x_1 => ckRF who 4 (pV (Addr.add own (Int.toNat who * 1)) (.int .i64 (wrapF .i64 (x_1 + 1))) hv_1 fun hv_2 => run F_law18_FdsLimits 3026 [.int .i64 forks, .pointer k, .pointer c, .int .i64 (wrapF .i64 (made + 1)), .pointer (some own), .int .i64 (wrapF .i64 (i + 1))] hv_2)))
      (run F_law18_FdsLimits 3026 [.int .i64 forks, .pointer k, .pointer c, .int .i64 made, .pointer (some own), .int .i64 (wrapF .i64 (i + 1))] hv_1))
  | _ => none
noncomputable def LB_law18_FdsLimits_R1 : Lab := ⟨F_law18_FdsLimits, 8049, T_law18_FdsLimits_R1, [0, 3, 4, 8, 9, 10, 11, 13, 14, 15, 17], X_law18_FdsLimits_R1⟩
noncomputable def X_commons_Commons_File : XPoly := fun G _ call run a h => match a with
  | [.pointer c, .int .i64 i] =>
  nw (.cells Y_api_File false [.int .i64 0, .int .i64 0, .int .i64 0, .int .i64 0]) h fun b hv => bnd (call F_commons_file [.int .i64 i] hv) fun r hv_1 => aAgg r fun x => bnd (call F_commons_record_api_File [.pointer c, .agg ⟨x⟩, .func (.func F_ofile_Decode) ⟨[]⟩ ⟨[]⟩] hv_1) fun r_1 hv_2 => as2 r_1 fun r_2 r_3 => aAgg r_2 fun x_1 => aInt .i64 r_3 fun x_2 => ck (List.length x_1 = 4) (pAgg ⟨b, 0, none⟩ x_1 hv_2 fun hv_3 => gAgg ⟨b, 0, none⟩ 4 hv_3 fun x_3 => some (.tuple ⟨[.agg ⟨x_3⟩, .int .i64 x_2]⟩, hv_3))
  | _ => none
noncomputable def X_law11_Proc : XPoly := fun G _ call run a h => match a with
  | [.slice l ln lc] =>
  nw (.cells Y_s_int false [.slice l ln lc]) h fun b hv => nw (.cells Y_api_Proc false [.int .i64 0, .int .i64 0, .int .i64 0, .int .i64 0, .int .i64 0, .int .i64 0, .int .i64 0, .int .i64 0, .int .i64 0, .int .i64 0, .int .i64 0, .int .i64 0, .int .i64 0, .int .i64 0, .int .i64 0, .int .i64 0]) hv fun b_1 hv_1 => nw (.cells Y_int false [.int .i64 0]) hv_1 fun b_2 hv_2 => pV ⟨b_2, 0, none⟩ (.int .i64 0) hv_2 fun hv_3 => bnd (call F_law11_Proc_1 [.pointer (some ⟨b_2, 0, none⟩), .pointer (some ⟨b, 0, none⟩)] hv_3) fun r hv_4 => aInt .i64 r fun x => nw (.cells Y_int false [.int .i64 1, .int .i64 1, .int .i64 3, .int .i64 2]) hv_4 fun b_3 hv_5 => ckRF (bitAF .i64 x 3) 4 (gInt .i64 (Addr.add (bare ⟨b_3, 0, none⟩) (Int.toNat (bitAF .i64 x 3) * 1)) hv_5 fun x_1 => nw (.cells Y_api_Proc false [.int .i64 0, .int .i64 0, .int .i64 0, .int .i64 0, .int .i64 0, .int .i64 0, .int .i64 0, .int .i64 0, .int .i64 0, .int .i64 0, .int .i64 0, .int .i64 0, .int .i64 0, .int .i64 0, .int .i64 0, .int .i64 0]) hv_5 fun b_4 hv_6 => pAgg ⟨b_4, 0, none⟩ [.int .i64 x_1, .int .i64 (Int.tmod (bitAF .i64 (Int.fdiv x (2 ^ 2)) 15) 9), .int .i64 (bitAF .i64 (Int.fdiv x (2 ^ 6)) 7), .int .i64 0, .int .i64 0, .int .i64 0, .int .i64 0, .int .i64 0, .int .i64 0, .int .i64 0, .int .i64 0, .int .i64 0, .int .i64 0, .int .i64 0, .int .i64 0, .int .i64 0] hv_6 fun hv_7 => bnd (call F_law11_Proc_1 [.pointer (some ⟨b_2, 0, none⟩), .pointer (some ⟨b, 0, none⟩)] hv_7) fun r_1 hv_8 => aInt .i64 r_1 fun x_2 => pV (Addr.add ⟨b_4, 0, none⟩ 5) (.int .i64 (bitN .i64 (bitAF .i64 x_2 65534) 16896)) hv_8 fun hv_9 => bnd (call F_law11_Proc_1 [.pointer (some ⟨b_2, 0, none⟩), .pointer (some ⟨b, 0, none⟩)] hv_9) fun r_2 hv_10 => aInt .i64 r_2 fun x_3 => bnd (call F_law11_Proc_1 [.pointer (some ⟨b_2, 0, none⟩), .pointer (some ⟨b, 0, none⟩)] hv_10) fun r_3 hv_11 => aInt .i64 r_3 fun x_4 => pV (Addr.add ⟨b_4, 0, none⟩ 6) (.int .i64 (bitN .i64 (bitAF .i64 (bitAF .i64 x_3 x_4) 65534) 16896)) hv_11 fun hv_12 => gInt .i64 (Addr.add ⟨b_4, 0, none⟩ 6) hv_12 fun x_5 => bnd (call F_law11_Proc_1 [.pointer (some ⟨b_2, 0, none⟩), .pointer (some ⟨b, 0, none⟩)] hv_12) fun r_4 hv_13 => aInt .i64 r_4 fun x_6 => gInt .i64 (Addr.add ⟨b_4, 0, none⟩ 6) hv_13 fun x_7 => same (.int .i64 x_5) (.int .i64 x_7) (pV (Addr.add ⟨b_4, 0, none⟩ 7) (.int .i64 (bitN .i64 (bitN .i64 (bitAF .i64 x_6 65534) 16896) x_5)) hv_13 fun hv_14 => gInt .i64 (Addr.add ⟨b_4, 0, none⟩ 0) hv_14 fun x_8 => cond (ieqF x_8 2)
      (pV (Addr.add ⟨b_4, 0, none⟩ 3) (.int .i64 (bitAF .i64 (Int.fdiv x (2 ^ 9)) 255)) hv_14 fun hv_15 => gAgg ⟨b_4, 0, none⟩ 16 hv_15 fun x_9 => ck (List.length x_9 = 16) (pAgg ⟨b_1, 0, none⟩ x_9 hv_15 fun hv_16 => gAgg ⟨b_1, 0, none⟩ 16 hv_16 fun x_10 => some (.agg ⟨x_10⟩, hv_16)))
      (bnd (call F_law11_Proc_1 [.pointer (some ⟨b_2, 0, none⟩), .pointer (some ⟨b, 0, none⟩)] hv_14) fun r_5 hv_17 => aInt .i64 r_5 fun x_11 => bnd (call F_law11_Proc_1 [.pointer (some ⟨b_2, 0, none⟩), .pointer (some ⟨b, 0, none⟩)] hv_17) fun r_6 hv_18 => aInt .i64 r_6 fun x_12 => pV (Addr.add ⟨b_4, 0, none⟩ 4) (.int .i64 (bitAF .i64 (bitAF .i64 x_11 x_12) 65534)) hv_18 fun hv_19 => run F_law11_Proc 3026 [.pointer (some ⟨b_1, 0, none⟩), .func (.func F_law11_Proc_1) ⟨[]⟩ ⟨[.pointer (some ⟨b_2, 0, none⟩), .pointer (some ⟨b, 0, none⟩)]⟩, .pointer (some ⟨b_4, 0, none⟩), .int .i64 0] hv_19)))
  | _ => none
noncomputable def X_law11_Proc_L1 : XPoly := fun G _ call run a h => match a with
  | [.pointer (some x2), .func (.func fN0) ⟨[]⟩ ⟨[.pointer (some next), .pointer (some next_1)]⟩, .pointer (some p), .int .i64 i] =>
  cond (Nat.beq fN0 F_law11_Proc_1) (cond (iltF i 8)
      (bnd (call F_law11_Proc_1 [.pointer (some next), .pointer (some next_1)] h) fun r hv => aInt .i64 r fun x => cond (ineF (bitAF .i64 x 3) 0)
      (ckRF i 8 (pV (Addr.add (Addr.add p 8) (Int.toNat i * 1)) (.int .i64 (Int.tmod (Int.fdiv x (2 ^ 2)) 13)) hv fun hv_1 => run F_law11_Proc 3026 [.pointer (some x2), .func (.func F_law11_Proc_1) ⟨[]⟩ ⟨[.pointer (some next), .pointer (some next_1)]⟩, .pointer (some p), .int .i64 (wrapF .i64 (i + 1))] hv_1))
      (run F_law11_Proc 3026 [.pointer (some x2), .func (.func F_law11_Proc_1) ⟨[]⟩ ⟨[.pointer (some next), .pointer (some next_1)]⟩, .pointer (some p), .int .i64 (wrapF .i64 (i + 1))] hv))
      (gAgg p 16 h fun x_1 => ck (List.length x_1 = 16) (pAgg x2 x_1 h fun hv_2 => gAgg x2 16 hv_2 fun x_2 => some (.agg ⟨x_2⟩, hv_2)))) none
  | _ => none
noncomputable def LB_law11_Proc_L1 : Lab := ⟨F_law11_Proc, 3026, T_law11_Proc_L1, [2, 4, 6, 7], X_law11_Proc_L1⟩
noncomputable def X_commons_Commons_SetFront : XPoly := fun G _ call run a h => match a with
  | [.pointer c, .int .i64 g] =>
  bnd (call F_commons_FrontBytes [.int .i64 g] h) fun r hv => as2 r fun r_1 r_2 => aSl r_1 fun x xn xc => aBool r_2 fun x_1 => bnd (call F_commons_Commons_write [.pointer c, .agg ⟨[.int .i64 5, .int .i64 0]⟩, .slice x xn xc, .bool x_1] hv) fun r_3 hv_1 => aBool r_3 fun x_2 => some (.bool x_2, hv_1)
  | _ => none
noncomputable def X_law17_Fill : XPoly := fun G _ call run a h => match a with
  | [.slice b bn bc] =>
  bnd (call F_law15_Plan [] h) fun r hv => aAgg r fun x => bnd (call F_law15_Open [.agg ⟨x⟩] hv) fun r_1 hv_1 => as4 r_1 fun r_2 r_3 r_4 r_5 => aPtr r_2 fun x_1 => aPtr r_3 fun x_2 => aPtr r_4 fun x_3 => aPtr r_5 fun x_4 => bnd (cond x_2.isNone (some (true, hv_1)) (some (ineF ((bn : Nat) : Int) 492, hv_1))) fun c hv_2 => cond c
      (some (.tuple ⟨[.pointer none, .pointer none, .pointer none, .pointer none]⟩, hv_2))
      (nw (.cells Y_api_Call false [.int .i64 0, .int .i64 0, .int .i64 0, .int .i64 0, .int .i64 0, .int .i64 0, .slice none 0 0]) hv_2 fun b_1 hv_3 => pAgg ⟨b_1, 0, none⟩ [.int .i64 2, .int .i64 256, .int .i64 0, .int .i64 0, .int .i64 0, .int .i64 0, .slice b bn bc] hv_3 fun hv_4 => bnd (call F_ref11_PipeBytes [.agg ⟨[.int .i64 0, .int .i64 0, .int .i64 1, .int .i64 1, .int .u8 0, .int .u8 0, .int .u8 0, .int .u8 0, .int .u8 0, .int .u8 0, .int .u8 0, .int .u8 0, .int .u8 0, .int .u8 0, .int .u8 0, .int .u8 0, .int .u8 0, .int .u8 0, .int .u8 0, .int .u8 0, .int .u8 0, .int .u8 0, .int .u8 0, .int .u8 0, .int .u8 0, .int .u8 0, .int .u8 0, .int .u8 0, .int .u8 0, .int .u8 0, .int .u8 0, .int .u8 0, .int .u8 0, .int .u8 0, .int .u8 0, .int .u8 0]⟩] hv_4) fun r_6 hv_5 => aStr r_6 fun x_5 => gAgg ⟨b_1, 0, none⟩ 7 hv_5 fun x_6 => bnd (call F_kern_Kern_Do [.pointer x_1, .int .i64 0, .agg ⟨x_6⟩] hv_5) fun r_7 hv_6 => aAgg r_7 fun _ => gAgg ⟨b_1, 0, none⟩ 7 hv_6 fun x_8 => bnd (call F_ref1_Kern_Do [.pointer x_3, .int .i64 0, .agg ⟨x_8⟩] hv_6) fun r_8 hv_7 => as3 r_8 fun r_9 r_10 r_11 => aInt .i64 r_9 fun _ => aInt .i64 r_10 fun _ => aStr r_11 fun _ => run F_law17_Fill 3018 [.pointer x_1, .pointer x_2, .pointer x_3, .pointer x_4, .pointer (some ⟨b_1, 0, none⟩), .string x_5, .int .i64 1] hv_7)
  | _ => none
noncomputable def X_law17_Fill_L1 : XPoly := fun G _ call run a h => match a with
  | [.pointer k, .pointer c, .pointer wv, .pointer m, .pointer (some x), .string pipe, .int .i64 i] =>
  cond (iltF i 3)
      (ck (ByteArray.size pipe ≤ most) (nw (.cells Y_uint8 false (byteCells (ByteArray.data pipe).toList)) h fun b hv => pAgg x [.int .i64 2, .int .i64 (wrapF .i64 (256 + i)), .int .i64 0, .int .i64 0, .int .i64 0, .int .i64 0, .slice (some (openAt b)) (ByteArray.size pipe) (ByteArray.size pipe)] hv fun hv_1 => gAgg x 7 hv_1 fun x_1 => bnd (call F_kern_Kern_Do [.pointer k, .int .i64 0, .agg ⟨x_1⟩] hv_1) fun r hv_2 => aAgg r fun _ => gAgg x 7 hv_2 fun x_3 => bnd (call F_ref1_Kern_Do [.pointer wv, .int .i64 0, .agg ⟨x_3⟩] hv_2) fun r_1 hv_3 => as3 r_1 fun r_2 r_3 r_4 => aInt .i64 r_2 fun _ => aInt .i64 r_3 fun _ => aStr r_4 fun _ => run F_law17_Fill 3018 [.pointer k, .pointer c, .pointer wv, .pointer m, .pointer (some x), .string pipe, .int .i64 (wrapF .i64 (i + 1))] hv_3))
      (some (.tuple ⟨[.pointer k, .pointer c, .pointer wv, .pointer m]⟩, h))
  | _ => none
noncomputable def LB_law17_Fill_L1 : Lab := ⟨F_law17_Fill, 3018, T_law17_Fill_L1, [6, 7, 8, 9, 10, 11, 12], X_law17_Fill_L1⟩
noncomputable def X_proc_Fork : XPoly := fun G _ call run a h => match a with
  | [.pointer c, .int .i64 i] =>
  nw (.cells Y_api_Ret false [.int .i64 0, .int .i64 0, .slice none 0 0, .bool false]) h fun b hv => bnd (call F_proc_Self [.pointer c, .int .i64 i] hv) fun r hv_1 => as2 r fun r_1 r_2 => aAgg r_1 fun x => aInt .i64 r_2 fun x_1 => nw (.cells Y_api_Proc false [.int .i64 0, .int .i64 0, .int .i64 0, .int .i64 0, .int .i64 0, .int .i64 0, .int .i64 0, .int .i64 0, .int .i64 0, .int .i64 0, .int .i64 0, .int .i64 0, .int .i64 0, .int .i64 0, .int .i64 0, .int .i64 0]) hv_1 fun b_1 hv_2 => ck (List.length x = 16) (pAgg ⟨b_1, 0, none⟩ x hv_2 fun hv_3 => cond (ineF x_1 0)
      (bnd (call F_proc_told [.int .i64 x_1] hv_3) fun r_3 hv_4 => aAgg r_3 fun x_2 => ck (List.length x_2 = 4) (pAgg ⟨b, 0, none⟩ x_2 hv_4 fun hv_5 => gAgg ⟨b, 0, none⟩ 4 hv_5 fun x_3 => some (.agg ⟨x_3⟩, hv_5)))
      (bnd (call F_proc_free [.pointer c] hv_3) fun r_4 hv_6 => aInt .i64 r_4 fun x_4 => cond (iltF x_4 0)
      (bnd (call F_proc_told [.int .i64 111] hv_6) fun r_5 hv_7 => aAgg r_5 fun x_5 => ck (List.length x_5 = 4) (pAgg ⟨b, 0, none⟩ x_5 hv_7 fun hv_8 => gAgg ⟨b, 0, none⟩ 4 hv_8 fun x_6 => some (.agg ⟨x_6⟩, hv_8)))
      (gAgg ⟨b_1, 0, none⟩ 16 hv_6 fun x_7 => bnd (call F_proc_share [.pointer c, .agg ⟨x_7⟩] hv_6) fun r_6 hv_9 => aInt .i64 r_6 fun x_8 => cond (ineF x_8 0)
      (bnd (call F_proc_told [.int .i64 x_8] hv_9) fun r_7 hv_10 => aAgg r_7 fun x_9 => ck (List.length x_9 = 4) (pAgg ⟨b, 0, none⟩ x_9 hv_10 fun hv_11 => gAgg ⟨b, 0, none⟩ 4 hv_11 fun x_10 => some (.agg ⟨x_10⟩, hv_11)))
      (pV (Addr.add ⟨b_1, 0, none⟩ 1) (.int .i64 (wrapF .i64 (i + 1))) hv_9 fun hv_12 => pV (Addr.add ⟨b_1, 0, none⟩ 4) (.int .i64 0) hv_12 fun hv_13 => gAgg ⟨b_1, 0, none⟩ 16 hv_13 fun x_11 => bnd (call F_commons_Commons_SetProc [.pointer c, .int .i64 x_4, .agg ⟨x_11⟩] hv_13) fun r_8 hv_14 => aBool r_8 fun x_12 => bnd (call F_proc_done [.bool x_12, .int .i64 x_4] hv_14) fun r_9 hv_15 => aAgg r_9 fun x_13 => ck (List.length x_13 = 4) (pAgg ⟨b, 0, none⟩ x_13 hv_15 fun hv_16 => gAgg ⟨b, 0, none⟩ 4 hv_16 fun x_14 => some (.agg ⟨x_14⟩, hv_16))))))
  | _ => none
noncomputable def X_region_Regions_Raw : XPoly := fun G _ call run a h => match a with
  | [.pointer r, .int .i64 obj] =>
  bnd (cond (iltF obj 0) (some (true, h)) (aSome r fun p => gSl (Addr.add p 2) h fun _ xn _ => some (ileF ((xn : Nat) : Int) obj, h))) fun c hv => cond c
      (some (.tuple ⟨[.slice none 0 0, .int .i64 1]⟩, hv))
      (aSome r fun p_1 => gPtr (Addr.add p_1 0) hv fun x_1 => aSome r fun p_2 => gSl (Addr.add p_2 2) hv fun x_2 xn_1 _ => aSome x_2 fun p_3 => ckRF obj xn_1 (gInt .i64 (Addr.add (Addr.add (bare p_3) (Int.toNat obj * 2)) 0) hv fun x_3 => aSome r fun p_4 => gSl (Addr.add p_4 2) hv fun x_4 xn_2 _ => aSome x_4 fun p_5 => ckRF obj xn_2 (gInt .i64 (Addr.add (Addr.add (bare p_5) (Int.toNat obj * 2)) 1) hv fun x_5 => bnd (call F_mem_Mem_Load [.pointer x_1, .int .i64 x_3, .int .i64 x_5] hv) fun r_1 hv_1 => as2 r_1 fun r_2 r_3 => aSl r_2 fun x_6 xn_3 xc_3 => aInt .i64 r_3 fun x_7 => some (.tuple ⟨[.slice x_6 xn_3 xc_3, .int .i64 x_7]⟩, hv_1))))
  | _ => none
noncomputable def X_ref15_Blank : XPoly := fun G _ call run a h => match a with
  | [] =>
  ck ((0 : Int) ≤ 448 ∧ (448 : Int) ≤ 448 ∧ 448 ≤ (most : Int)) (nw (.cells Y_uint8 false (manyN (Int.toNat 448) [.int .u8 0])) h fun b hv => gCells (some ⟨b, 0, none⟩) (Int.toNat 448) hv fun cs => asBytes cs fun l => bnd (call F_ref11_PipeBytes [.agg ⟨[.int .i64 0, .int .i64 0, .int .i64 1, .int .i64 1, .int .u8 0, .int .u8 0, .int .u8 0, .int .u8 0, .int .u8 0, .int .u8 0, .int .u8 0, .int .u8 0, .int .u8 0, .int .u8 0, .int .u8 0, .int .u8 0, .int .u8 0, .int .u8 0, .int .u8 0, .int .u8 0, .int .u8 0, .int .u8 0, .int .u8 0, .int .u8 0, .int .u8 0, .int .u8 0, .int .u8 0, .int .u8 0, .int .u8 0, .int .u8 0, .int .u8 0, .int .u8 0, .int .u8 0, .int .u8 0, .int .u8 0, .int .u8 0]⟩] hv) fun r hv_1 => aStr r fun x => gCells (some ⟨b, 0, none⟩) (Int.toNat 448) hv_1 fun cs_1 => asBytes cs_1 fun l_1 => same (.string (ByteArray.mk ⟨l⟩)) (.string (ByteArray.mk ⟨l_1⟩)) (ck (ByteArray.size (ByteArray.mk ⟨l⟩) + ByteArray.size x ≤ most) (bnd (call F_ref15_FrontBytes [.int .i64 0] hv_1) fun r_1 hv_2 => aStr r_1 fun x_1 => gCells (some ⟨b, 0, none⟩) (Int.toNat 448) hv_2 fun cs_2 => asBytes cs_2 fun l_2 => same (.string (ByteArray.mk ⟨l⟩)) (.string (ByteArray.mk ⟨l_2⟩)) (ck (ByteArray.size ((ByteArray.mk ⟨l⟩) ++ x) + ByteArray.size x_1 ≤ most) (some (.string (((ByteArray.mk ⟨l⟩) ++ x) ++ x_1), hv_2))))))
  | _ => none
noncomputable def X_caps_Space_is : XPoly := fun G _ call run a h => match a with
  | [.pointer s, .int .i64 env] =>
  bnd (cond (ileF 0 env) (aSome s fun p => gSl (Addr.add p 0) h fun _ xn _ => some (iltF env ((xn : Nat) : Int), h)) (some (false, h))) fun c hv => some (.bool c, hv)
  | _ => none
noncomputable def X_kern_Kern_bytes : XPoly := fun G _ call run a h => match a with
  | [.pointer k, .int .i64 env, .agg ⟨c⟩] =>
  nw (.cells Y_api_Call false c) h fun b hv => gInt .i64 (Addr.add ⟨b, 0, none⟩ 0) hv fun x => cond (ieqF x 1)
      (aSome k fun p => gPtr (Addr.add p 5) hv fun x_1 => gInt .i64 (Addr.add ⟨b, 0, none⟩ 1) hv fun x_2 => gInt .i64 (Addr.add ⟨b, 0, none⟩ 2) hv fun x_3 => gInt .i64 (Addr.add ⟨b, 0, none⟩ 3) hv fun x_4 => bnd (call F_region_Regions_Read [.pointer x_1, .int .i64 env, .int .i64 x_2, .int .i64 x_3, .int .i64 x_4] hv) fun r hv_1 => as2 r fun r_1 r_2 => aSl r_1 fun x_5 xn xc => aInt .i64 r_2 fun x_6 => some (.tuple ⟨[.slice x_5 xn xc, .int .i64 x_6, .bool true]⟩, hv_1))
      (cond (ieqF x 2)
      (aSome k fun p_1 => gPtr (Addr.add p_1 5) hv fun x_7 => gInt .i64 (Addr.add ⟨b, 0, none⟩ 1) hv fun x_8 => gInt .i64 (Addr.add ⟨b, 0, none⟩ 2) hv fun x_9 => gSl (Addr.add ⟨b, 0, none⟩ 6) hv fun x_10 xn_1 xc_1 => bnd (call F_region_Regions_Write [.pointer x_7, .int .i64 env, .int .i64 x_8, .int .i64 x_9, .slice x_10 xn_1 xc_1] hv) fun r_3 hv_2 => aInt .i64 r_3 fun x_11 => some (.tuple ⟨[.slice none 0 0, .int .i64 x_11, .bool true]⟩, hv_2))
      (cond (ieqF x 3)
      (aSome k fun p_2 => gPtr (Addr.add p_2 5) hv fun x_12 => gInt .i64 (Addr.add ⟨b, 0, none⟩ 1) hv fun x_13 => gInt .i64 (Addr.add ⟨b, 0, none⟩ 2) hv fun x_14 => gInt .i64 (Addr.add ⟨b, 0, none⟩ 4) hv fun x_15 => gInt .i64 (Addr.add ⟨b, 0, none⟩ 5) hv fun x_16 => gInt .i64 (Addr.add ⟨b, 0, none⟩ 3) hv fun x_17 => bnd (call F_region_Regions_Copy [.pointer x_12, .int .i64 env, .int .i64 x_13, .int .i64 x_14, .int .i64 x_15, .int .i64 x_16, .int .i64 x_17] hv) fun r_4 hv_3 => aInt .i64 r_4 fun x_18 => some (.tuple ⟨[.slice none 0 0, .int .i64 x_18, .bool true]⟩, hv_3))
      (some (.tuple ⟨[.slice none 0 0, .int .i64 0, .bool false]⟩, hv))))
  | _ => none
noncomputable def X_kern_Kern_number : XPoly := fun G _ call run a h => match a with
  | [.pointer k, .int .i64 env, .agg ⟨c⟩] =>
  nw (.cells Y_api_Call false c) h fun b hv => gInt .i64 (Addr.add ⟨b, 0, none⟩ 0) hv fun x => cond (ieqF x 4)
      (aSome k fun p => gPtr (Addr.add p 3) hv fun x_1 => gInt .i64 (Addr.add ⟨b, 0, none⟩ 1) hv fun x_2 => gInt .i64 (Addr.add ⟨b, 0, none⟩ 4) hv fun x_3 => gInt .i64 (Addr.add ⟨b, 0, none⟩ 5) hv fun x_4 => gInt .i64 (Addr.add ⟨b, 0, none⟩ 2) hv fun x_5 => gInt .i64 (Addr.add ⟨b, 0, none⟩ 3) hv fun x_6 => bnd (call F_caps_Space_Grant [.pointer x_1, .int .i64 env, .int .i64 x_2, .int .i64 x_3, .int .i64 x_4, .int .i64 x_5, .int .i64 x_6] hv) fun r hv_1 => as2 r fun r_1 r_2 => aInt .i64 r_1 fun x_7 => aInt .i64 r_2 fun x_8 => some (.tuple ⟨[.int .i64 x_7, .int .i64 x_8]⟩, hv_1))
      (cond (ieqF x 5)
      (aSome k fun p_1 => gPtr (Addr.add p_1 3) hv fun x_9 => gInt .i64 (Addr.add ⟨b, 0, none⟩ 1) hv fun x_10 => bnd (call F_caps_Space_Revoke [.pointer x_9, .int .i64 env, .int .i64 x_10] hv) fun r_3 hv_2 => as2 r_3 fun r_4 r_5 => aInt .i64 r_4 fun x_11 => aInt .i64 r_5 fun x_12 => some (.tuple ⟨[.int .i64 x_11, .int .i64 x_12]⟩, hv_2))
      (cond (ieqF x 6)
      (aSome k fun p_2 => gPtr (Addr.add p_2 4) hv fun x_13 => aSome k fun p_3 => gSl (Addr.add p_3 0) hv fun x_14 xn _ => aSome x_14 fun p_4 => ckRF env xn (gInt .i64 (Addr.add (bare p_4) (Int.toNat env * 1)) hv fun x_15 => bnd (call F_quota_Quota_Alloc [.pointer x_13, .int .i64 x_15] hv) fun r_6 hv_3 => as2 r_6 fun r_7 r_8 => aInt .i64 r_7 fun x_16 => aInt .i64 r_8 fun x_17 => some (.tuple ⟨[.int .i64 x_16, .int .i64 x_17]⟩, hv_3)))
      (cond (ieqF x 7)
      (aSome k fun p_5 => gPtr (Addr.add p_5 4) hv fun x_18 => aSome k fun p_6 => gSl (Addr.add p_6 0) hv fun x_19 xn_1 _ => aSome x_19 fun p_7 => ckRF env xn_1 (gInt .i64 (Addr.add (bare p_7) (Int.toNat env * 1)) hv fun x_20 => gInt .i64 (Addr.add ⟨b, 0, none⟩ 3) hv fun x_21 => bnd (call F_quota_Quota_Free [.pointer x_18, .int .i64 x_20, .int .i64 x_21] hv) fun r_9 hv_4 => aInt .i64 r_9 fun x_22 => some (.tuple ⟨[.int .i64 0, .int .i64 x_22]⟩, hv_4)))
      (cond (ieqF x 8)
      (gAgg ⟨b, 0, none⟩ 7 hv fun x_23 => bnd (call F_kern_Kern_enter [.pointer k, .int .i64 env, .agg ⟨x_23⟩] hv) fun r_10 hv_5 => as2 r_10 fun r_11 r_12 => aInt .i64 r_11 fun x_24 => aInt .i64 r_12 fun x_25 => some (.tuple ⟨[.int .i64 x_24, .int .i64 x_25]⟩, hv_5))
      (cond (ieqF x 9)
      (gAgg ⟨b, 0, none⟩ 7 hv fun x_26 => bnd (call F_kern_Kern_leave [.pointer k, .int .i64 env, .agg ⟨x_26⟩] hv) fun r_13 hv_6 => aInt .i64 r_13 fun x_27 => some (.tuple ⟨[.int .i64 0, .int .i64 x_27]⟩, hv_6))
      (cond (ieqF x 10)
      (aSome k fun p_8 => gInt .i64 (Addr.add p_8 7) hv fun x_28 => some (.tuple ⟨[.int .i64 x_28, .int .i64 0]⟩, hv))
      (some (.tuple ⟨[.int .i64 0, .int .i64 7]⟩, hv))))))))
  | _ => none
noncomputable def X_commons_record_api_Proc : XPoly := fun G _ call run a h => match a with
  | [.pointer c, .agg ⟨r⟩, decode] =>
  nw (.cells Y_api_Rec false r) h fun b hv => nw (.cells Y_api_Proc false [.int .i64 0, .int .i64 0, .int .i64 0, .int .i64 0, .int .i64 0, .int .i64 0, .int .i64 0, .int .i64 0, .int .i64 0, .int .i64 0, .int .i64 0, .int .i64 0, .int .i64 0, .int .i64 0, .int .i64 0, .int .i64 0]) hv fun b_1 hv_1 => nw (.cells Y_api_Proc false [.int .i64 0, .int .i64 0, .int .i64 0, .int .i64 0, .int .i64 0, .int .i64 0, .int .i64 0, .int .i64 0, .int .i64 0, .int .i64 0, .int .i64 0, .int .i64 0, .int .i64 0, .int .i64 0, .int .i64 0, .int .i64 0]) hv_1 fun b_2 hv_2 => gAgg ⟨b, 0, none⟩ 2 hv_2 fun x => bnd (call F_commons_Commons_read [.pointer c, .agg ⟨x⟩] hv_2) fun r_1 hv_3 => as2 r_1 fun r_2 r_3 => aSl r_2 fun x_1 xn xc => aBool r_3 fun x_2 => cond (!x_2)
      (gAgg ⟨b_2, 0, none⟩ 16 hv_3 fun x_3 => ck (List.length x_3 = 16) (pAgg ⟨b_1, 0, none⟩ x_3 hv_3 fun hv_4 => gAgg ⟨b_1, 0, none⟩ 16 hv_4 fun x_4 => some (.tuple ⟨[.agg ⟨x_4⟩, .int .i64 2]⟩, hv_4)))
      (aFn decode fun g fi cp => bnd (call g (fi ++ ([.slice x_1 xn xc] ++ cp)) hv_3) fun r_4 hv_5 => as2 r_4 fun r_5 r_6 => aAgg r_5 fun x_5 => aInt .i64 r_6 fun x_6 => nw (.cells Y_api_Proc false [.int .i64 0, .int .i64 0, .int .i64 0, .int .i64 0, .int .i64 0, .int .i64 0, .int .i64 0, .int .i64 0, .int .i64 0, .int .i64 0, .int .i64 0, .int .i64 0, .int .i64 0, .int .i64 0, .int .i64 0, .int .i64 0]) hv_5 fun b_3 hv_6 => ck (List.length x_5 = 16) (pAgg ⟨b_3, 0, none⟩ x_5 hv_6 fun hv_7 => cond (ieqF x_6 2)
      (aSome c fun p => gMap (Addr.add p 3) hv_7 fun x_7 => gAgg ⟨b, 0, none⟩ 2 hv_7 fun x_8 => keyN PR Y_api_Rec (.agg ⟨x_8⟩) (opt x_7 fun r_7 => mapAt hv_7 r_7 fun es _ => opt (lookM (.int .i64 0) (.agg ⟨x_8⟩) es) fun f => aInt .i64 f.1 fun x_9 => keyN PR Y_api_Rec (.agg ⟨x_8⟩) (opt x_7 fun r_8 => mapAt hv_7 r_8 fun es_1 cl_1 => opt (entM (.int .i64 0) (.agg ⟨x_8⟩) es_1 cl_1) fun f_1 => aInt .i64 f_1.1 fun _ => lt (hset hv_7 r_8 f_1.2.2) fun hv_8 => keyN PR Y_api_Rec (.agg ⟨x_8⟩) (opt x_7 fun r_9 => mapAt hv_8 r_9 fun es_2 _ => opt (lookM (.int .i64 0) (.agg ⟨x_8⟩) es_2) fun f_2 => aInt .i64 f_2.1 fun x_11 => same (.int .i64 x_9) (.int .i64 x_11) (opt x_7 fun r_10 => mapAt hv_8 r_10 fun es_3 cl_3 => opt (bornN (f_1.2.1 : Int) es_3 0) fun i => lt (hset hv_8 r_10 (.map (modN (fun e => { e with val := .int .i64 (wrapF .i64 (x_9 + 1)) }) i es_3) cl_3)) fun hv_9 => run F_commons_record_api_Proc 3017 [.pointer (some ⟨b_1, 0, none⟩), .pointer (some ⟨b_2, 0, none⟩), .pointer (some ⟨b_3, 0, none⟩), .int .i64 x_6] hv_9)))))
      (run F_commons_record_api_Proc 3017 [.pointer (some ⟨b_1, 0, none⟩), .pointer (some ⟨b_2, 0, none⟩), .pointer (some ⟨b_3, 0, none⟩), .int .i64 x_6] hv_7)))
  | _ => none
noncomputable def X_commons_record_api_Proc_R1 : XPoly := fun G _ call run a h => match a with
  | [.pointer (some x6), .pointer (some nonev), .pointer (some v), .int .i64 isv] =>
  cond (ineF isv 1)
      (gAgg nonev 16 h fun x => ck (List.length x = 16) (pAgg x6 x h fun hv => gAgg x6 16 hv fun x_1 => some (.tuple ⟨[.agg ⟨x_1⟩, .int .i64 isv]⟩, hv)))
      (gAgg v 16 h fun x_2 => ck (List.length x_2 = 16) (pAgg x6 x_2 h fun hv_1 => gAgg x6 16 hv_1 fun x_3 => some (.tuple ⟨[.agg ⟨x_3⟩, .int .i64 isv]⟩, hv_1)))
  | _ => none
noncomputable def LB_commons_record_api_Proc_R1 : Lab := ⟨F_commons_record_api_Proc, 3017, T_commons_record_api_Proc_R1, [6, 8, 11, 12], X_commons_record_api_Proc_R1⟩
noncomputable def X_commons_proc : XPoly := fun G _ call run a h => match a with
  | [.int .i64 i] =>
  nw (.cells Y_api_Rec false [.int .i64 0, .int .i64 0]) h fun b hv => pAgg ⟨b, 0, none⟩ [.int .i64 1, .int .i64 i] hv fun hv_1 => gAgg ⟨b, 0, none⟩ 2 hv_1 fun x => some (.agg ⟨x⟩, hv_1)
  | _ => none
noncomputable def X_commons_record_api_Pipe : XPoly := fun G _ call run a h => match a with
  | [.pointer c, .agg ⟨r⟩, decode] =>
  nw (.cells Y_api_Rec false r) h fun b hv => nw (.cells Y_api_Pipe false [.int .i64 0, .int .i64 0, .int .i64 0, .int .i64 0, .int .u8 0, .int .u8 0, .int .u8 0, .int .u8 0, .int .u8 0, .int .u8 0, .int .u8 0, .int .u8 0, .int .u8 0, .int .u8 0, .int .u8 0, .int .u8 0, .int .u8 0, .int .u8 0, .int .u8 0, .int .u8 0, .int .u8 0, .int .u8 0, .int .u8 0, .int .u8 0, .int .u8 0, .int .u8 0, .int .u8 0, .int .u8 0, .int .u8 0, .int .u8 0, .int .u8 0, .int .u8 0, .int .u8 0, .int .u8 0, .int .u8 0, .int .u8 0]) hv fun b_1 hv_1 => nw (.cells Y_api_Pipe false [.int .i64 0, .int .i64 0, .int .i64 0, .int .i64 0, .int .u8 0, .int .u8 0, .int .u8 0, .int .u8 0, .int .u8 0, .int .u8 0, .int .u8 0, .int .u8 0, .int .u8 0, .int .u8 0, .int .u8 0, .int .u8 0, .int .u8 0, .int .u8 0, .int .u8 0, .int .u8 0, .int .u8 0, .int .u8 0, .int .u8 0, .int .u8 0, .int .u8 0, .int .u8 0, .int .u8 0, .int .u8 0, .int .u8 0, .int .u8 0, .int .u8 0, .int .u8 0, .int .u8 0, .int .u8 0, .int .u8 0, .int .u8 0]) hv_1 fun b_2 hv_2 => gAgg ⟨b, 0, none⟩ 2 hv_2 fun x => bnd (call F_commons_Commons_read [.pointer c, .agg ⟨x⟩] hv_2) fun r_1 hv_3 => as2 r_1 fun r_2 r_3 => aSl r_2 fun x_1 xn xc => aBool r_3 fun x_2 => cond (!x_2)
      (gAgg ⟨b_2, 0, none⟩ 36 hv_3 fun x_3 => ck (List.length x_3 = 36) (pAgg ⟨b_1, 0, none⟩ x_3 hv_3 fun hv_4 => gAgg ⟨b_1, 0, none⟩ 36 hv_4 fun x_4 => some (.tuple ⟨[.agg ⟨x_4⟩, .int .i64 2]⟩, hv_4)))
      (aFn decode fun g fi cp => bnd (call g (fi ++ ([.slice x_1 xn xc] ++ cp)) hv_3) fun r_4 hv_5 => as2 r_4 fun r_5 r_6 => aAgg r_5 fun x_5 => aInt .i64 r_6 fun x_6 => nw (.cells Y_api_Pipe false [.int .i64 0, .int .i64 0, .int .i64 0, .int .i64 0, .int .u8 0, .int .u8 0, .int .u8 0, .int .u8 0, .int .u8 0, .int .u8 0, .int .u8 0, .int .u8 0, .int .u8 0, .int .u8 0, .int .u8 0, .int .u8 0, .int .u8 0, .int .u8 0, .int .u8 0, .int .u8 0, .int .u8 0, .int .u8 0, .int .u8 0, .int .u8 0, .int .u8 0, .int .u8 0, .int .u8 0, .int .u8 0, .int .u8 0, .int .u8 0, .int .u8 0, .int .u8 0, .int .u8 0, .int .u8 0, .int .u8 0, .int .u8 0]) hv_5 fun b_3 hv_6 => ck (List.length x_5 = 36) (pAgg ⟨b_3, 0, none⟩ x_5 hv_6 fun hv_7 => cond (ieqF x_6 2)
      (aSome c fun p => gMap (Addr.add p 3) hv_7 fun x_7 => gAgg ⟨b, 0, none⟩ 2 hv_7 fun x_8 => keyN PR Y_api_Rec (.agg ⟨x_8⟩) (opt x_7 fun r_7 => mapAt hv_7 r_7 fun es _ => opt (lookM (.int .i64 0) (.agg ⟨x_8⟩) es) fun f => aInt .i64 f.1 fun x_9 => keyN PR Y_api_Rec (.agg ⟨x_8⟩) (opt x_7 fun r_8 => mapAt hv_7 r_8 fun es_1 cl_1 => opt (entM (.int .i64 0) (.agg ⟨x_8⟩) es_1 cl_1) fun f_1 => aInt .i64 f_1.1 fun _ => lt (hset hv_7 r_8 f_1.2.2) fun hv_8 => keyN PR Y_api_Rec (.agg ⟨x_8⟩) (opt x_7 fun r_9 => mapAt hv_8 r_9 fun es_2 _ => opt (lookM (.int .i64 0) (.agg ⟨x_8⟩) es_2) fun f_2 => aInt .i64 f_2.1 fun x_11 => same (.int .i64 x_9) (.int .i64 x_11) (opt x_7 fun r_10 => mapAt hv_8 r_10 fun es_3 cl_3 => opt (bornN (f_1.2.1 : Int) es_3 0) fun i => lt (hset hv_8 r_10 (.map (modN (fun e => { e with val := .int .i64 (wrapF .i64 (x_9 + 1)) }) i es_3) cl_3)) fun hv_9 => run F_commons_record_api_Pipe 3017 [.pointer (some ⟨b_1, 0, none⟩), .pointer (some ⟨b_2, 0, none⟩), .pointer (some ⟨b_3, 0, none⟩), .int .i64 x_6] hv_9)))))
      (run F_commons_record_api_Pipe 3017 [.pointer (some ⟨b_1, 0, none⟩), .pointer (some ⟨b_2, 0, none⟩), .pointer (some ⟨b_3, 0, none⟩), .int .i64 x_6] hv_7)))
  | _ => none
noncomputable def X_commons_record_api_Pipe_R1 : XPoly := fun G _ call run a h => match a with
  | [.pointer (some x6), .pointer (some nonev), .pointer (some v), .int .i64 isv] =>
  cond (ineF isv 1)
      (gAgg nonev 36 h fun x => ck (List.length x = 36) (pAgg x6 x h fun hv => gAgg x6 36 hv fun x_1 => some (.tuple ⟨[.agg ⟨x_1⟩, .int .i64 isv]⟩, hv)))
      (gAgg v 36 h fun x_2 => ck (List.length x_2 = 36) (pAgg x6 x_2 h fun hv_1 => gAgg x6 36 hv_1 fun x_3 => some (.tuple ⟨[.agg ⟨x_3⟩, .int .i64 isv]⟩, hv_1)))
  | _ => none
noncomputable def LB_commons_record_api_Pipe_R1 : Lab := ⟨F_commons_record_api_Pipe, 3017, T_commons_record_api_Pipe_R1, [6, 8, 11, 12], X_commons_record_api_Pipe_R1⟩
noncomputable def X_ring_Decode : XPoly := fun G _ call run a h => match a with
  | [.slice b bn bc] =>
  nw (.cells Y_api_Pipe false [.int .i64 0, .int .i64 0, .int .i64 0, .int .i64 0, .int .u8 0, .int .u8 0, .int .u8 0, .int .u8 0, .int .u8 0, .int .u8 0, .int .u8 0, .int .u8 0, .int .u8 0, .int .u8 0, .int .u8 0, .int .u8 0, .int .u8 0, .int .u8 0, .int .u8 0, .int .u8 0, .int .u8 0, .int .u8 0, .int .u8 0, .int .u8 0, .int .u8 0, .int .u8 0, .int .u8 0, .int .u8 0, .int .u8 0, .int .u8 0, .int .u8 0, .int .u8 0, .int .u8 0, .int .u8 0, .int .u8 0, .int .u8 0]) h fun b_1 hv => bnd (cond (ieqF ((bn : Nat) : Int) 40) (bnd (call F_codec_Blank [.slice b bn bc] hv) fun r hv_1 => aBool r fun x => some (x, hv_1)) (some (false, hv))) fun c hv_2 => cond c
      (pAgg ⟨b_1, 0, none⟩ [.int .i64 0, .int .i64 0, .int .i64 0, .int .i64 0, .int .u8 0, .int .u8 0, .int .u8 0, .int .u8 0, .int .u8 0, .int .u8 0, .int .u8 0, .int .u8 0, .int .u8 0, .int .u8 0, .int .u8 0, .int .u8 0, .int .u8 0, .int .u8 0, .int .u8 0, .int .u8 0, .int .u8 0, .int .u8 0, .int .u8 0, .int .u8 0, .int .u8 0, .int .u8 0, .int .u8 0, .int .u8 0, .int .u8 0, .int .u8 0, .int .u8 0, .int .u8 0, .int .u8 0, .int .u8 0, .int .u8 0, .int .u8 0] hv_2 fun hv_3 => gAgg ⟨b_1, 0, none⟩ 36 hv_3 fun x_1 => some (.tuple ⟨[.agg ⟨x_1⟩, .int .i64 0]⟩, hv_3))
      (bnd (call F_ring_Codec [] hv_2) fun r_1 hv_4 => aPtr r_1 fun x_2 => bnd (call F_codec_Codec_api_Pipe_Decode [.pointer x_2, .slice b bn bc] hv_4) fun r_2 hv_5 => as2 r_2 fun r_3 r_4 => aAgg r_3 fun x_3 => aBool r_4 fun x_4 => nw (.cells Y_api_Pipe false [.int .i64 0, .int .i64 0, .int .i64 0, .int .i64 0, .int .u8 0, .int .u8 0, .int .u8 0, .int .u8 0, .int .u8 0, .int .u8 0, .int .u8 0, .int .u8 0, .int .u8 0, .int .u8 0, .int .u8 0, .int .u8 0, .int .u8 0, .int .u8 0, .int .u8 0, .int .u8 0, .int .u8 0, .int .u8 0, .int .u8 0, .int .u8 0, .int .u8 0, .int .u8 0, .int .u8 0, .int .u8 0, .int .u8 0, .int .u8 0, .int .u8 0, .int .u8 0, .int .u8 0, .int .u8 0, .int .u8 0, .int .u8 0]) hv_5 fun b_2 hv_6 => ck (List.length x_3 = 36) (pAgg ⟨b_2, 0, none⟩ x_3 hv_6 fun hv_7 => cond (!x_4)
      (pAgg ⟨b_1, 0, none⟩ [.int .i64 0, .int .i64 0, .int .i64 0, .int .i64 0, .int .u8 0, .int .u8 0, .int .u8 0, .int .u8 0, .int .u8 0, .int .u8 0, .int .u8 0, .int .u8 0, .int .u8 0, .int .u8 0, .int .u8 0, .int .u8 0, .int .u8 0, .int .u8 0, .int .u8 0, .int .u8 0, .int .u8 0, .int .u8 0, .int .u8 0, .int .u8 0, .int .u8 0, .int .u8 0, .int .u8 0, .int .u8 0, .int .u8 0, .int .u8 0, .int .u8 0, .int .u8 0, .int .u8 0, .int .u8 0, .int .u8 0, .int .u8 0] hv_7 fun hv_8 => gAgg ⟨b_1, 0, none⟩ 36 hv_8 fun x_5 => some (.tuple ⟨[.agg ⟨x_5⟩, .int .i64 2]⟩, hv_8))
      (gAgg ⟨b_2, 0, none⟩ 36 hv_7 fun x_6 => ck (List.length x_6 = 36) (pAgg ⟨b_1, 0, none⟩ x_6 hv_7 fun hv_9 => gAgg ⟨b_1, 0, none⟩ 36 hv_9 fun x_7 => some (.tuple ⟨[.agg ⟨x_7⟩, .int .i64 1]⟩, hv_9)))))
  | _ => none
noncomputable def X_pslot_Encode : XPoly := fun G _ call run a h => match a with
  | [.agg ⟨p⟩] =>
  nw (.cells Y_api_Proc false p) h fun b hv => gAgg ⟨b, 0, none⟩ 16 hv fun x => bnd (call F_pslot_Codec [] hv) fun r hv_1 => aPtr r fun x_1 => gAgg ⟨b, 0, none⟩ 16 hv_1 fun x_2 => same (.agg ⟨x⟩) (.agg ⟨x_2⟩) (bnd (call F_codec_Codec_api_Proc_Encode [.pointer x_1, .agg ⟨x⟩] hv_1) fun r_1 hv_2 => as2 r_1 fun r_2 r_3 => aSl r_2 fun x_3 xn xc => aBool r_3 fun x_4 => some (.tuple ⟨[.slice x_3 xn xc, .bool x_4]⟩, hv_2))
  | _ => none
noncomputable def X_commons_Commons_most : XPoly := fun G _ call run a h => match a with
  | [.pointer c, .int .i64 kind] =>
  cond (ieqF kind 1)
      (some (.int .i64 8, h))
      (cond (ieqF kind 2)
      (some (.int .i64 12, h))
      (cond (ieqF kind 3)
      (aSome c fun p => gSl (Addr.add p 2) h fun _ xn _ => some (.int .i64 (wrapF .i64 ((wrapF .i64 (4 + ((xn : Nat) : Int))) - 1)), h))
      (some (.int .i64 1, h))))
  | _ => none
noncomputable def X_ref11_FileBytes : XPoly := fun G _ call run a h => match a with
  | [.agg ⟨f⟩] =>
  nw (.cells Y_api_File false f) h fun b hv => gInt .i64 (Addr.add ⟨b, 0, none⟩ 0) hv fun x => gInt .i64 (Addr.add ⟨b, 0, none⟩ 1) hv fun x_1 => gInt .i64 (Addr.add ⟨b, 0, none⟩ 2) hv fun x_2 => gInt .i64 (Addr.add ⟨b, 0, none⟩ 3) hv fun x_3 => nw (.cells Y_uint8 false [.int .u8 (wrapF .u8 (x)), .int .u8 (wrapF .u8 (x_1)), .int .u8 (wrapF .u8 (x_2)), .int .u8 (wrapF .u8 (x_3)), .int .u8 179]) hv fun b_1 hv_1 => gCells (some ⟨b_1, 0, none⟩) 5 hv_1 fun cs => asBytes cs fun l => bnd (call F_ref1_Sum [.string (ByteArray.mk ⟨l⟩)] hv_1) fun r hv_2 => aInt .u8 r fun x_4 => nw (.cells Y_uint8 false [.int .u8 x_4, .int .u8 0, .int .u8 0]) hv_2 fun b_2 hv_3 => gCells (some ⟨b_2, 0, none⟩) 3 hv_3 fun cs_1 => asBytes cs_1 fun l_1 => ck (ByteArray.size (ByteArray.mk ⟨l⟩) + ByteArray.size (ByteArray.mk ⟨l_1⟩) ≤ most) (some (.string ((ByteArray.mk ⟨l⟩) ++ (ByteArray.mk ⟨l_1⟩)), hv_3))
  | _ => none
noncomputable def X_proc_Self : XPoly := fun G _ call run a h => match a with
  | [.pointer c, .int .i64 i] =>
  nw (.cells Y_api_Proc false [.int .i64 0, .int .i64 0, .int .i64 0, .int .i64 0, .int .i64 0, .int .i64 0, .int .i64 0, .int .i64 0, .int .i64 0, .int .i64 0, .int .i64 0, .int .i64 0, .int .i64 0, .int .i64 0, .int .i64 0, .int .i64 0]) h fun b hv => bnd (call F_commons_Commons_Look [.pointer c] hv) fun r hv_1 => as0 r (bnd (call F_commons_Commons_Proc [.pointer c, .int .i64 i] hv_1) fun r_1 hv_2 => as2 r_1 fun r_2 r_3 => aAgg r_2 fun x => aInt .i64 r_3 fun x_1 => nw (.cells Y_api_Proc false [.int .i64 0, .int .i64 0, .int .i64 0, .int .i64 0, .int .i64 0, .int .i64 0, .int .i64 0, .int .i64 0, .int .i64 0, .int .i64 0, .int .i64 0, .int .i64 0, .int .i64 0, .int .i64 0, .int .i64 0, .int .i64 0]) hv_2 fun b_1 hv_3 => ck (List.length x = 16) (pAgg ⟨b_1, 0, none⟩ x hv_3 fun hv_4 => bnd (cond (ineF x_1 1) (some (true, hv_4)) (gInt .i64 (Addr.add ⟨b_1, 0, none⟩ 0) hv_4 fun x_2 => some (ineF x_2 1, hv_4))) fun c_1 hv_5 => cond c_1
      (pAgg ⟨b, 0, none⟩ [.int .i64 0, .int .i64 0, .int .i64 0, .int .i64 0, .int .i64 0, .int .i64 0, .int .i64 0, .int .i64 0, .int .i64 0, .int .i64 0, .int .i64 0, .int .i64 0, .int .i64 0, .int .i64 0, .int .i64 0, .int .i64 0] hv_5 fun hv_6 => gAgg ⟨b, 0, none⟩ 16 hv_6 fun x_3 => some (.tuple ⟨[.agg ⟨x_3⟩, .int .i64 105]⟩, hv_6))
      (gAgg ⟨b_1, 0, none⟩ 16 hv_5 fun x_4 => ck (List.length x_4 = 16) (pAgg ⟨b, 0, none⟩ x_4 hv_5 fun hv_7 => gAgg ⟨b, 0, none⟩ 16 hv_7 fun x_5 => some (.tuple ⟨[.agg ⟨x_5⟩, .int .i64 0]⟩, hv_7)))))
  | _ => none
noncomputable def X_fds_fdsOf : XPoly := fun G _ call run a h => match a with
  | [.agg ⟨p⟩, .int .i64 want] =>
  nw (.cells Y_api_Proc false p) h fun b hv => bnd (call F_fds_free [.int .i64 8, .int .i64 want, .func (.func F_fds_fdsOf_1) ⟨[]⟩ ⟨[.pointer (some ⟨b, 0, none⟩)]⟩] hv) fun r hv_1 => aSl r fun x xn xc => some (.slice x xn xc, hv_1)
  | _ => none
noncomputable def X_commons_Commons_SetFile : XPoly := fun G _ call run a h => match a with
  | [.pointer c, .int .i64 i, .agg ⟨f⟩] =>
  nw (.cells Y_api_File false f) h fun b hv => gAgg ⟨b, 0, none⟩ 4 hv fun x => bnd (call F_ofile_Encode [.agg ⟨x⟩] hv) fun r hv_1 => as2 r fun r_1 r_2 => aSl r_1 fun x_1 xn xc => aBool r_2 fun x_2 => bnd (call F_commons_file [.int .i64 i] hv_1) fun r_3 hv_2 => aAgg r_3 fun x_3 => bnd (call F_commons_Commons_write [.pointer c, .agg ⟨x_3⟩, .slice x_1 xn xc, .bool x_2] hv_2) fun r_4 hv_3 => aBool r_4 fun x_4 => some (.bool x_4, hv_3)
  | _ => none
noncomputable def X_fds_done : XPoly := fun G _ call run a h => match a with
  | [.bool ok, .int .i64 n] =>
  nw (.cells Y_api_Ret false [.int .i64 0, .int .i64 0, .slice none 0 0, .bool false]) h fun b hv => cond (!ok)
      (bnd (call F_fds_told [.int .i64 105] hv) fun r hv_1 => aAgg r fun x => ck (List.length x = 4) (pAgg ⟨b, 0, none⟩ x hv_1 fun hv_2 => gAgg ⟨b, 0, none⟩ 4 hv_2 fun x_1 => some (.agg ⟨x_1⟩, hv_2)))
      (pAgg ⟨b, 0, none⟩ [.int .i64 n, .int .i64 0, .slice none 0 0, .bool false] hv fun hv_3 => gAgg ⟨b, 0, none⟩ 4 hv_3 fun x_2 => some (.agg ⟨x_2⟩, hv_3))
  | _ => none
noncomputable def X_proc_CloseFile : XPoly := fun G _ call run a h => match a with
  | [.pointer c, .int .i64 f] =>
  bnd (call F_commons_Commons_Look [.pointer c] h) fun r hv => as0 r (bnd (call F_commons_Commons_File [.pointer c, .int .i64 f] hv) fun r_1 hv_1 => as2 r_1 fun r_2 r_3 => aAgg r_2 fun x => aInt .i64 r_3 fun x_1 => nw (.cells Y_api_File false [.int .i64 0, .int .i64 0, .int .i64 0, .int .i64 0]) hv_1 fun b hv_2 => ck (List.length x = 4) (pAgg ⟨b, 0, none⟩ x hv_2 fun hv_3 => cond (ineF x_1 1)
      (some (.int .i64 105, hv_3))
      (gInt .i64 (Addr.add ⟨b, 0, none⟩ 2) hv_3 fun x_2 => pV (Addr.add ⟨b, 0, none⟩ 2) (.int .i64 (wrapF .i64 (x_2 - 1))) hv_3 fun hv_4 => gInt .i64 (Addr.add ⟨b, 0, none⟩ 2) hv_4 fun x_3 => cond (iltF 0 x_3)
      (gAgg ⟨b, 0, none⟩ 4 hv_4 fun x_4 => bnd (call F_commons_Commons_SetFile [.pointer c, .int .i64 f, .agg ⟨x_4⟩] hv_4) fun r_4 hv_5 => aBool r_4 fun x_5 => bnd (call F_proc_done [.bool x_5, .int .i64 0] hv_5) fun r_5 hv_6 => aAgg r_5 fun x_6 => nth x_6 1 fun E => aInt .i64 E fun E_1 => some (.int .i64 E_1, hv_6))
      (bnd (call F_commons_Commons_FreeFile [.pointer c, .int .i64 f] hv_4) fun r_6 hv_7 => aBool r_6 fun x_7 => cond (!x_7)
      (some (.int .i64 105, hv_7))
      (gInt .i64 (Addr.add ⟨b, 0, none⟩ 0) hv_7 fun x_8 => cond (ieqF x_8 3)
      (some (.int .i64 0, hv_7))
      (gInt .i64 (Addr.add ⟨b, 0, none⟩ 1) hv_7 fun x_9 => bnd (call F_commons_Commons_Pipe [.pointer c, .int .i64 x_9] hv_7) fun r_7 hv_8 => as2 r_7 fun r_8 r_9 => aAgg r_8 fun x_10 => aInt .i64 r_9 fun x_11 => nw (.cells Y_api_Pipe false [.int .i64 0, .int .i64 0, .int .i64 0, .int .i64 0, .int .u8 0, .int .u8 0, .int .u8 0, .int .u8 0, .int .u8 0, .int .u8 0, .int .u8 0, .int .u8 0, .int .u8 0, .int .u8 0, .int .u8 0, .int .u8 0, .int .u8 0, .int .u8 0, .int .u8 0, .int .u8 0, .int .u8 0, .int .u8 0, .int .u8 0, .int .u8 0, .int .u8 0, .int .u8 0, .int .u8 0, .int .u8 0, .int .u8 0, .int .u8 0, .int .u8 0, .int .u8 0, .int .u8 0, .int .u8 0, .int .u8 0, .int .u8 0]) hv_8 fun b_1 hv_9 => ck (List.length x_10 = 36) (pAgg ⟨b_1, 0, none⟩ x_10 hv_9 fun hv_10 => cond (ineF x_11 1)
      (some (.int .i64 105, hv_10))
      (gInt .i64 (Addr.add ⟨b, 0, none⟩ 0) hv_10 fun x_12 => cond (ieqF x_12 1)
      (gInt .i64 (Addr.add ⟨b_1, 0, none⟩ 2) hv_10 fun x_13 => pV (Addr.add ⟨b_1, 0, none⟩ 2) (.int .i64 (mm2 true (wrapF .i64 (x_13 - 1)) 0)) hv_10 fun hv_11 => run F_proc_CloseFile 3037 [.pointer c, .pointer (some ⟨b, 0, none⟩), .pointer (some ⟨b_1, 0, none⟩)] hv_11)
      (gInt .i64 (Addr.add ⟨b_1, 0, none⟩ 3) hv_10 fun x_14 => pV (Addr.add ⟨b_1, 0, none⟩ 3) (.int .i64 (mm2 true (wrapF .i64 (x_14 - 1)) 0)) hv_10 fun hv_12 => run F_proc_CloseFile 3037 [.pointer c, .pointer (some ⟨b, 0, none⟩), .pointer (some ⟨b_1, 0, none⟩)] hv_12)))))))))
  | _ => none
noncomputable def X_proc_CloseFile_R1 : XPoly := fun G _ call run a h => match a with
  | [.pointer c, .pointer (some x), .pointer (some p)] =>
  gInt .i64 (Addr.add p 2) h fun x_1 => gInt .i64 (Addr.add p 3) h fun x_2 => bnd (cond (ieqF (wrapF .i64 (x_1 + x_2)) 0) (gInt .i64 (Addr.add x 1) h fun x_3 => some (iltF x_3 4, h)) (some (false, h))) fun c_1 hv => cond c_1
      (gInt .i64 (Addr.add x 1) hv fun x_4 => bnd (call F_commons_Commons_FreePipe [.pointer c, .int .i64 x_4] hv) fun r hv_1 => aBool r fun x_5 => bnd (call F_proc_done [.bool x_5, .int .i64 0] hv_1) fun r_1 hv_2 => aAgg r_1 fun x_6 => nth x_6 1 fun E => aInt .i64 E fun E_1 => some (.int .i64 E_1, hv_2))
      (gInt .i64 (Addr.add x 1) hv fun x_7 => gAgg p 36 hv fun x_8 => bnd (call F_commons_Commons_SetPipe [.pointer c, .int .i64 x_7, .agg ⟨x_8⟩] hv) fun r_2 hv_3 => aBool r_2 fun x_9 => bnd (call F_proc_done [.bool x_9, .int .i64 0] hv_3) fun r_3 hv_4 => aAgg r_3 fun x_10 => nth x_10 1 fun E_2 => aInt .i64 E_2 fun E_3 => some (.int .i64 E_3, hv_4))
  | _ => none
noncomputable def LB_proc_CloseFile_R1 : Lab := ⟨F_proc_CloseFile, 3037, T_proc_CloseFile_R1, [0, 5, 7], X_proc_CloseFile_R1⟩
noncomputable def X_region_Regions_Add : XPoly := fun G _ call run a h => match a with
  | [.pointer r, .int .i64 lo, .int .i64 n] =>
  bnd (cond (iltF lo 0) (some (true, h)) (some (iltF n 0, h))) fun c hv => bnd (cond c (some (true, hv)) (aSome r fun p => gPtr (Addr.add p 0) hv fun x => bnd (call F_mem_Mem_Size [.pointer x] hv) fun r_1 hv_1 => aInt .i64 r_1 fun x_1 => some (iltF x_1 lo, hv_1))) fun c_1 hv_2 => bnd (cond c_1 (some (true, hv_2)) (aSome r fun p_1 => gPtr (Addr.add p_1 0) hv_2 fun x_2 => bnd (call F_mem_Mem_Size [.pointer x_2] hv_2) fun r_2 hv_3 => aInt .i64 r_2 fun x_3 => some (iltF (wrapF .i64 (x_3 - lo)) n, hv_3))) fun c_2 hv_4 => cond c_2
      (some (.tuple ⟨[.int .i64 0, .int .i64 1]⟩, hv_4))
      (aSome r fun p_2 => gSl (Addr.add p_2 2) hv_4 fun _ xn _ => cond (ileF 32 ((xn : Nat) : Int))
      (some (.tuple ⟨[.int .i64 0, .int .i64 4]⟩, hv_4))
      (aSome r fun p_3 => gSl (Addr.add p_3 2) hv_4 fun x_5 xn_1 xc_1 => nw (.cells Y_region_span false [.int .i64 lo, .int .i64 n]) hv_4 fun b hv_5 => gCells (some ⟨b, 0, none⟩) (1 * 2) hv_5 fun cs => ckB (fitsOpen x_5 Y_region_span hv_5) (apd Y_region_span 2 x_5 xn_1 xc_1 1 cs hv_5 fun a an ac hv_6 => aSome r fun p_4 => pV (Addr.add p_4 2) (.slice a an ac) hv_6 fun hv_7 => aSome r fun p_5 => gSl (Addr.add p_5 2) hv_7 fun _ xn_2 _ => some (.tuple ⟨[.int .i64 (wrapF .i64 (((xn_2 : Nat) : Int) - 1)), .int .i64 0]⟩, hv_7))))
  | _ => none
noncomputable def X_quota_Quota_First : XPoly := fun G _ call run a h => match a with
  | [.pointer q, .int .i64 s] =>
  aSome q fun p => gSl (Addr.add p 0) h fun x _ xc => aSome q fun p_1 => gSl (Addr.add p_1 0) h fun _ xn_1 _ => ckB (fitsOpen x Y_s_int h) (ckLF (mm2 false (mm2 true s 0) ((xn_1 : Nat) : Int)) xc (run F_quota_Quota_First 3006 [.int .i64 0, .slice (moved x (decide (0 < xc)) (0 * 1)) ((Int.toNat (mm2 false (mm2 true s 0) ((xn_1 : Nat) : Int))) - 0) (xc - 0), .int .i64 (((Int.toNat (mm2 false (mm2 true s 0) ((xn_1 : Nat) : Int))) - 0 : Nat) : Int), .int .i64 0] h))
  | _ => none
noncomputable def X_quota_Quota_First_L1 : XPoly := fun G _ call run a h => match a with
  | [.int .i64 n, .slice x20 x20n x20c, .int .i64 x21, .int .i64 x22] =>
  cond (iltF x22 x21)
      (aSome x20 fun p => ckRF x22 x20n (gSl (Addr.add (bare p) (Int.toNat x22 * 1)) h fun _ xn _ => run F_quota_Quota_First 3006 [.int .i64 (wrapF .i64 (n + ((xn : Nat) : Int))), .slice x20 x20n x20c, .int .i64 x21, .int .i64 (wrapF .i64 (x22 + 1))] h))
      (some (.int .i64 n, h))
  | _ => none
noncomputable def LB_quota_Quota_First_L1 : Lab := ⟨F_quota_Quota_First, 3006, T_quota_Quota_First_L1, [5, 20, 21, 22], X_quota_Quota_First_L1⟩
noncomputable def X_slices_Contains_s_int_int : XPoly := fun G _ call run a h => match a with
  | [.slice s sn sc, .int .i64 v] =>
  bnd (call F_slices_Index_s_int_int [.slice s sn sc, .int .i64 v] h) fun r hv => aInt .i64 r fun x => some (.bool (ileF 0 x), hv)
  | _ => none
noncomputable def X_caps_Space_Put : XPoly := fun G _ call run a h => match a with
  | [.pointer s, .int .i64 env, .agg ⟨c⟩] =>
  nw (.cells Y_api_Cap false c) h fun b hv => bnd (call F_caps_Space_is [.pointer s, .int .i64 env] hv) fun r hv_1 => aBool r fun x => bnd (cond (!x) (some (true, hv_1)) (gInt .i64 (Addr.add ⟨b, 0, none⟩ 1) hv_1 fun x_1 => some (ineF (bitN .i64 x_1 7) 0, hv_1))) fun c_1 hv_2 => bnd (cond c_1 (some (true, hv_2)) (gInt .i64 (Addr.add ⟨b, 0, none⟩ 2) hv_2 fun x_2 => bnd (call F_caps_Space_Put_1 [.int .i64 x_2] hv_2) fun r_1 hv_3 => aBool r_1 fun x_3 => some (!x_3, hv_3))) fun c_2 hv_4 => bnd (cond c_2 (some (true, hv_4)) (gInt .i64 (Addr.add ⟨b, 0, none⟩ 3) hv_4 fun x_4 => bnd (call F_caps_Space_Put_1 [.int .i64 x_4] hv_4) fun r_2 hv_5 => aBool r_2 fun x_5 => some (!x_5, hv_5))) fun c_3 hv_6 => cond c_3
      (some (.tuple ⟨[.int .i64 0, .int .i64 1]⟩, hv_6))
      (pAgg (Addr.add ⟨b, 0, none⟩ 4) [.int .i64 0, .int .i64 0] hv_6 fun hv_7 => gAgg ⟨b, 0, none⟩ 6 hv_7 fun x_6 => bnd (call F_caps_Space_add [.pointer s, .int .i64 env, .agg ⟨x_6⟩] hv_7) fun r_3 hv_8 => as2 r_3 fun r_4 r_5 => aInt .i64 r_4 fun x_7 => aInt .i64 r_5 fun x_8 => some (.tuple ⟨[.int .i64 x_7, .int .i64 x_8]⟩, hv_8))
  | _ => none
noncomputable def X_ref1_Regions_Read : XPoly := fun G _ call run a h => match a with
  | [.pointer r, .int .i64 e, .int .i64 name, .int .i64 atv, .int .i64 n] =>
  bnd (call F_ref1_Regions_place [.pointer r, .int .i64 e, .int .i64 name, .int .i64 1, .int .i64 atv, .int .i64 n] h) fun r_1 hv => as2 r_1 fun r_2 r_3 => aInt .i64 r_2 fun x => aInt .i64 r_3 fun x_1 => cond (ineF x_1 0)
      (some (.tuple ⟨[.string (ByteArray.mk ⟨[]⟩), .int .i64 x_1]⟩, hv))
      (aSome r fun p => gSl (Addr.add p 0) hv fun x_2 _ xc => ckB (fitsOpen x_2 Y_uint8 hv) (ckLF (wrapF .i64 (x + n)) xc (ckLF x (Int.toNat (wrapF .i64 (x + n))) (gCells (moved x_2 (decide (Int.toNat x < xc)) ((Int.toNat x) * 1)) ((Int.toNat (wrapF .i64 (x + n))) - (Int.toNat x)) hv fun cs => asBytes cs fun l => some (.tuple ⟨[.string (ByteArray.mk ⟨l⟩), .int .i64 0]⟩, hv)))))
  | _ => none
noncomputable def X_ref1_Regions_Copy : XPoly := fun G _ call run a h => match a with
  | [.pointer r, .int .i64 e, .int .i64 fromv, .int .i64 atv, .int .i64 to, .int .i64 on, .int .i64 n] =>
  bnd (call F_ref1_Regions_Read [.pointer r, .int .i64 e, .int .i64 fromv, .int .i64 atv, .int .i64 n] h) fun r_1 hv => as2 r_1 fun r_2 r_3 => aStr r_2 fun x => aInt .i64 r_3 fun x_1 => cond (ineF x_1 0)
      (some (.int .i64 x_1, hv))
      (bnd (call F_ref1_Regions_Write [.pointer r, .int .i64 e, .int .i64 to, .int .i64 on, .string x] hv) fun r_4 hv_1 => aInt .i64 r_4 fun x_2 => some (.int .i64 x_2, hv_1))
  | _ => none
noncomputable def X_ref1_Quota_Free : XPoly := fun G _ call run a h => match a with
  | [.pointer q, .int .i64 s, .int .i64 k] =>
  bnd (cond (iltF s 0) (some (true, h)) (aSome q fun p => gSl (Addr.add p 0) h fun _ xn _ => some (ileF ((xn : Nat) : Int) s, h))) fun c hv => cond c
      (some (.int .i64 1, hv))
      (bnd (call F_ref1_Quota_Owns [.pointer q, .int .i64 s, .int .i64 k] hv) fun r hv_1 => aBool r fun x_1 => cond (!x_1)
      (some (.int .i64 5, hv_1))
      (aSome q fun p_1 => gSl (Addr.add p_1 0) hv_1 fun x_2 xn_1 _ => aSome x_2 fun p_2 => ckRF s xn_1 (gSl (Addr.add (bare p_2) (Int.toNat s * 1)) hv_1 fun x_3 xn_2 _ => aSome x_3 fun p_3 => ckRF k xn_2 (pV (Addr.add (bare p_3) (Int.toNat k * 1)) (.bool false) hv_1 fun hv_2 => some (.int .i64 0, hv_2)))))
  | _ => none
noncomputable def X_table_Table_api_Cap_name : XPoly := fun G _ call run a h => match a with
  | [.pointer t, .int .i64 i] =>
  aSome t fun p => gSl (Addr.add p 0) h fun x xn _ => aSome x fun p_1 => ckRF i xn (gInt .i64 (Addr.add (Addr.add (bare p_1) (Int.toNat i * 8)) 6) h fun x_1 => some (.int .i64 (wrapF .i64 (i + (wrapF .i64 (256 * x_1)))), h))
  | _ => none
noncomputable def X_caps_Space_Revoke : XPoly := fun G _ call run a h => match a with
  | [.pointer s, .int .i64 env, .int .i64 name] =>
  bnd (call F_caps_Space_Under [.pointer s, .int .i64 env, .int .i64 name] h) fun r hv => as2 r fun r_1 r_2 => aSl r_1 fun x xn xc => aInt .i64 r_2 fun x_1 => cond (ineF x_1 0)
      (some (.tuple ⟨[.int .i64 0, .int .i64 x_1]⟩, hv))
      (run F_caps_Space_Revoke 3010 [.pointer s, .int .i64 env, .int .i64 name, .slice x xn xc, .slice x xn xc, .int .i64 ((xn : Nat) : Int), .int .i64 0] hv)
  | _ => none
noncomputable def X_caps_Space_Revoke_L1 : XPoly := fun G _ call run a h => match a with
  | [.pointer s, .int .i64 env, .int .i64 name, .slice l ln lc, .slice x22 x22n x22c, .int .i64 x23, .int .i64 x24] =>
  cond (iltF x24 x23)
      (aSome x22 fun p => ckRF x24 x22n (gAgg (Addr.add (bare p) (Int.toNat x24 * 2)) 2 h fun x => nw (.cells Y_api_Ref false [.int .i64 0, .int .i64 0]) h fun b hv => ck (List.length x = 2) (pAgg ⟨b, 0, none⟩ x hv fun hv_1 => aSome s fun p_1 => gSl (Addr.add p_1 0) hv_1 fun x_1 xn _ => gInt .i64 (Addr.add ⟨b, 0, none⟩ 0) hv_1 fun x_2 => aSome x_1 fun p_2 => ckRF x_2 xn (gPtr (Addr.add (bare p_2) (Int.toNat x_2 * 1)) hv_1 fun x_3 => gInt .i64 (Addr.add ⟨b, 0, none⟩ 1) hv_1 fun x_4 => bnd (call F_table_Table_api_Cap_Drop [.pointer x_3, .int .i64 x_4] hv_1) fun r hv_2 => aBool r fun _ => run F_caps_Space_Revoke 3010 [.pointer s, .int .i64 env, .int .i64 name, .slice l ln lc, .slice x22 x22n x22c, .int .i64 x23, .int .i64 (wrapF .i64 (x24 + 1))] hv_2))))
      (aSome s fun p_3 => gSl (Addr.add p_3 0) h fun x_6 xn_1 _ => aSome x_6 fun p_4 => ckRF env xn_1 (gPtr (Addr.add (bare p_4) (Int.toNat env * 1)) h fun x_7 => bnd (call F_table_Table_api_Cap_Drop [.pointer x_7, .int .i64 name] h) fun r_1 hv_3 => aBool r_1 fun _ => some (.tuple ⟨[.int .i64 (wrapF .i64 (((ln : Nat) : Int) + 1)), .int .i64 0]⟩, hv_3)))
  | _ => none
noncomputable def LB_caps_Space_Revoke_L1 : Lab := ⟨F_caps_Space_Revoke, 3010, T_caps_Space_Revoke_L1, [0, 1, 2, 8, 22, 23, 24], X_caps_Space_Revoke_L1⟩
noncomputable def X_quota_Quota_Free : XPoly := fun G _ call run a h => match a with
  | [.pointer q, .int .i64 s, .int .i64 k] =>
  bnd (call F_quota_Quota_is [.pointer q, .int .i64 s] h) fun r hv => aBool r fun x => cond (!x)
      (some (.int .i64 1, hv))
      (bnd (call F_quota_Quota_Owns [.pointer q, .int .i64 s, .int .i64 k] hv) fun r_1 hv_1 => aBool r_1 fun x_1 => cond (!x_1)
      (some (.int .i64 5, hv_1))
      (aSome q fun p => gSl (Addr.add p 0) hv_1 fun x_2 xn _ => aSome x_2 fun p_1 => ckRF s xn (gSl (Addr.add (bare p_1) (Int.toNat s * 1)) hv_1 fun x_3 xn_1 _ => aSome x_3 fun p_2 => ckRF k xn_1 (pV (Addr.add (bare p_2) (Int.toNat k * 1)) (.int .i64 0) hv_1 fun hv_2 => some (.int .i64 0, hv_2)))))
  | _ => none
noncomputable def X_commons_Commons_Look : XPoly := fun G _ call run a h => match a with
  | [.pointer c] =>
  run F_commons_Commons_Look 3002 [.pointer c, .int .i64 0] h
  | _ => none
noncomputable def X_commons_Commons_Look_L1 : XPoly := fun G _ call run a h => match a with
  | [.pointer c, .int .i64 x5] =>
  cond (iltF x5 8)
      (bnd (call F_commons_Commons_Proc [.pointer c, .int .i64 x5] h) fun r hv => as2 r fun r_1 r_2 => aAgg r_1 fun _ => aInt .i64 r_2 fun _ => run F_commons_Commons_Look 3002 [.pointer c, .int .i64 (wrapF .i64 (x5 + 1))] hv)
      (run F_commons_Commons_Look 3012 [.pointer c, .int .i64 0] h)
  | _ => none
noncomputable def LB_commons_Commons_Look_L1 : Lab := ⟨F_commons_Commons_Look, 3002, T_commons_Commons_Look_L1, [0, 5], X_commons_Commons_Look_L1⟩
noncomputable def X_commons_Commons_Look_L2 : XPoly := fun G _ call run a h => match a with
  | [.pointer c, .int .i64 x12] =>
  cond (iltF x12 12)
      (bnd (call F_commons_Commons_File [.pointer c, .int .i64 x12] h) fun r hv => as2 r fun r_1 r_2 => aAgg r_1 fun _ => aInt .i64 r_2 fun _ => run F_commons_Commons_Look 3012 [.pointer c, .int .i64 (wrapF .i64 (x12 + 1))] hv)
      (bnd (call F_commons_Commons_most [.pointer c, .int .i64 3] h) fun r_3 hv_1 => aInt .i64 r_3 fun x_2 => run F_commons_Commons_Look 3022 [.pointer c, .int .i64 x_2, .int .i64 0] hv_1)
  | _ => none
noncomputable def LB_commons_Commons_Look_L2 : Lab := ⟨F_commons_Commons_Look, 3012, T_commons_Commons_Look_L2, [0, 12], X_commons_Commons_Look_L2⟩
noncomputable def X_commons_Commons_Look_L3 : XPoly := fun G _ call run a h => match a with
  | [.pointer c, .int .i64 x20, .int .i64 x21] =>
  cond (iltF x21 x20)
      (bnd (call F_commons_Commons_Pipe [.pointer c, .int .i64 x21] h) fun r hv => as2 r fun r_1 r_2 => aAgg r_1 fun _ => aInt .i64 r_2 fun _ => run F_commons_Commons_Look 3022 [.pointer c, .int .i64 x20, .int .i64 (wrapF .i64 (x21 + 1))] hv)
      (bnd (call F_commons_Commons_Term [.pointer c] h) fun r_3 hv_1 => as2 r_3 fun r_4 r_5 => aAgg r_4 fun _ => aInt .i64 r_5 fun _ => bnd (call F_commons_Commons_Front [.pointer c] hv_1) fun r_6 hv_2 => as2 r_6 fun r_7 r_8 => aInt .i64 r_7 fun _ => aBool r_8 fun _ => some (.tuple ⟨[]⟩, hv_2))
  | _ => none
noncomputable def LB_commons_Commons_Look_L3 : Lab := ⟨F_commons_Commons_Look, 3022, T_commons_Commons_Look_L3, [0, 20, 21], X_commons_Commons_Look_L3⟩
noncomputable def X_fds_fdsOf_1 : XPoly := fun G _ call run a h => match a with
  | [.int .i64 i, .pointer (some fv0)] =>
  ckRF i 8 (gInt .i64 (Addr.add (Addr.add fv0 8) (Int.toNat i * 1)) h fun x => some (.bool (ieqF x 0), h))
  | _ => none
noncomputable def X_kern_share : XPoly := fun G _ call run a h => match a with
  | [.agg ⟨c⟩, .agg ⟨x⟩] =>
  nw (.cells Y_api_Boot false c) h fun b hv => nw (.cells Y_api_Share false x) hv fun b_1 hv_1 => gInt .i64 (Addr.add ⟨b_1, 0, none⟩ 0) hv_1 fun x_1 => bnd (cond (iltF x_1 0) (some (true, hv_1)) (gInt .i64 (Addr.add ⟨b_1, 0, none⟩ 0) hv_1 fun x_2 => gSl (Addr.add ⟨b, 0, none⟩ 0) hv_1 fun _ xn _ => some (ileF ((xn : Nat) : Int) x_2, hv_1))) fun c_1 hv_2 => bnd (cond c_1 (some (true, hv_2)) (gInt .i64 (Addr.add ⟨b_1, 0, none⟩ 1) hv_2 fun x_4 => some (iltF x_4 0, hv_2))) fun c_2 hv_3 => bnd (cond c_2 (some (true, hv_3)) (gInt .i64 (Addr.add ⟨b_1, 0, none⟩ 2) hv_3 fun x_5 => some (iltF x_5 0, hv_3))) fun c_3 hv_4 => bnd (cond c_3 (some (true, hv_4)) (gInt .i64 (Addr.add ⟨b_1, 0, none⟩ 3) hv_4 fun x_6 => some (iltF x_6 0, hv_4))) fun c_4 hv_5 => cond c_4
      (some (.bool false, hv_5))
      (gSl (Addr.add ⟨b, 0, none⟩ 0) hv_5 fun x_7 xn_1 _ => gInt .i64 (Addr.add ⟨b_1, 0, none⟩ 0) hv_5 fun x_8 => aSome x_7 fun p => ckRF x_8 xn_1 (gInt .i64 (Addr.add (bare p) (Int.toNat x_8 * 1)) hv_5 fun x_9 => bnd (call F_kern_frames [.int .i64 x_9] hv_5) fun r hv_6 => aInt .i64 r fun x_10 => gInt .i64 (Addr.add ⟨b_1, 0, none⟩ 1) hv_6 fun x_11 => cond (iltF x_10 x_11)
      (some (.bool false, hv_6))
      (gInt .i64 (Addr.add ⟨b_1, 0, none⟩ 1) hv_6 fun x_12 => gInt .i64 (Addr.add ⟨b_1, 0, none⟩ 2) hv_6 fun x_13 => bnd (cond (ileF x_13 (wrapF .i64 ((wrapF .i64 (x_10 - x_12)) * 64))) (gInt .i64 (Addr.add ⟨b_1, 0, none⟩ 3) hv_6 fun x_14 => gInt .i64 (Addr.add ⟨b_1, 0, none⟩ 2) hv_6 fun x_15 => some (ileF x_14 (wrapF .i64 ((wrapF .i64 ((wrapF .i64 (x_10 - x_12)) * 64)) - x_15)), hv_6)) (some (false, hv_6))) fun c_5 hv_7 => some (.bool c_5, hv_7))))
  | _ => none
noncomputable def X_table_New_api_Cap : XPoly := fun G _ call run a h => match a with
  | [.int .i64 size] =>
  ck ((0 : Int) ≤ mm2 false (mm2 true size 0) 256 ∧ (mm2 false (mm2 true size 0) 256 : Int) ≤ mm2 false (mm2 true size 0) 256 ∧ mm2 false (mm2 true size 0) 256 ≤ (most : Int)) (nw (.cells Y_table_place_api_Cap false (manyN (Int.toNat (mm2 false (mm2 true size 0) 256)) [.int .i64 0, .int .i64 0, .int .i64 0, .int .i64 0, .int .i64 0, .int .i64 0, .int .i64 0, .bool false])) h fun b hv => nw (.cells Y_table_Table_api_Cap false [.slice (some ⟨b, 0, none⟩) (Int.toNat (mm2 false (mm2 true size 0) 256)) (Int.toNat (mm2 false (mm2 true size 0) 256))]) hv fun b_1 hv_1 => gSl (Addr.add ⟨b_1, 0, none⟩ 0) hv_1 fun _ xn _ => run F_table_New_api_Cap 3006 [.pointer (some ⟨b_1, 0, none⟩), .int .i64 ((xn : Nat) : Int), .int .i64 0] hv_1)
  | _ => none
noncomputable def X_table_New_api_Cap_L1 : XPoly := fun G _ call run a h => match a with
  | [.pointer (some t), .int .i64 x15, .int .i64 x16] =>
  cond (iltF x16 x15)
      (gSl (Addr.add t 0) h fun x xn _ => aSome x fun p => ckRF x16 xn (pV (Addr.add (Addr.add (bare p) (Int.toNat x16 * 8)) 6) (.int .i64 1) h fun hv => run F_table_New_api_Cap 3006 [.pointer (some t), .int .i64 x15, .int .i64 (wrapF .i64 (x16 + 1))] hv))
      (some (.pointer (some t), h))
  | _ => none
noncomputable def LB_table_New_api_Cap_L1 : Lab := ⟨F_table_New_api_Cap, 3006, T_table_New_api_Cap_L1, [3, 15, 16], X_table_New_api_Cap_L1⟩
noncomputable def X_ref1_Sect_at : XPoly := fun G _ call run a h => match a with
  | [.pointer s, .int .i64 who] =>
  run F_ref1_Sect_at 3004 [.pointer s, .int .i64 who, .int .i64 0] h
  | _ => none
noncomputable def X_ref1_Sect_at_L1 : XPoly := fun G _ call run a h => match a with
  | [.pointer s, .int .i64 who, .int .i64 i] =>
  aSome s fun p => gSl (Addr.add p 8) h fun _ xn _ => cond (iltF i ((xn : Nat) : Int))
      (aSome s fun p_1 => gSl (Addr.add p_1 8) h fun x_1 xn_1 _ => aSome x_1 fun p_2 => ckRF i xn_1 (gInt .i64 (Addr.add (bare p_2) (Int.toNat i * 1)) h fun x_2 => cond (ieqF x_2 who)
      (some (.int .i64 i, h))
      (run F_ref1_Sect_at 3004 [.pointer s, .int .i64 who, .int .i64 (wrapF .i64 (i + 1))] h)))
      (some (.int .i64 (-1), h))
  | _ => none
noncomputable def LB_ref1_Sect_at_L1 : Lab := ⟨F_ref1_Sect_at, 3004, T_ref1_Sect_at_L1, [0, 1, 5], X_ref1_Sect_at_L1⟩
noncomputable def X_ref1_Sect_drop : XPoly := fun G _ call run a h => match a with
  | [.pointer s, .int .i64 i] =>
  nw (.cells Y_int false []) h fun b hv => aSome s fun p => gSl (Addr.add p 8) hv fun x _ xc => ckB (fitsOpen x Y_int hv) (ckLF i xc (aSome s fun p_1 => gSl (Addr.add p_1 8) hv fun x_1 xn_1 xc_1 => ckB (fitsOpen x_1 Y_int hv) (ckLF (wrapF .i64 (i + 1)) xn_1 (gCells (moved x (decide (0 < xc)) (0 * 1)) (((Int.toNat i) - 0) * 1) hv fun cs => ckB (fitsOpen (some ⟨b, 0, none⟩) Y_int hv) (apd Y_int 1 (some ⟨b, 0, none⟩) 0 0 ((Int.toNat i) - 0) cs hv fun a an ac hv_1 => gSl (Addr.add p_1 8) hv_1 fun x_2 xn_2 xc_2 => same (.slice x_1 xn_1 xc_1) (.slice x_2 xn_2 xc_2) (ckB (fitsOpen x_1 Y_int hv_1) (ckLF (wrapF .i64 (i + 1)) xn_1 (same (.slice (moved x_1 (decide (Int.toNat (wrapF .i64 (i + 1)) < xc_1)) ((Int.toNat (wrapF .i64 (i + 1))) * 1)) (xn_1 - (Int.toNat (wrapF .i64 (i + 1)))) (xc_1 - (Int.toNat (wrapF .i64 (i + 1))))) (.slice (moved x_1 (decide (Int.toNat (wrapF .i64 (i + 1)) < xc_1)) ((Int.toNat (wrapF .i64 (i + 1))) * 1)) (xn_1 - (Int.toNat (wrapF .i64 (i + 1)))) (xc_1 - (Int.toNat (wrapF .i64 (i + 1))))) (gCells (moved x_1 (decide (Int.toNat (wrapF .i64 (i + 1)) < xc_1)) ((Int.toNat (wrapF .i64 (i + 1))) * 1)) ((xn_1 - (Int.toNat (wrapF .i64 (i + 1)))) * 1) hv_1 fun cs_1 => ckB (fitsOpen a Y_int hv_1) (apd Y_int 1 a an ac (xn_1 - (Int.toNat (wrapF .i64 (i + 1)))) cs_1 hv_1 fun a_1 an_1 ac_1 hv_2 => aSome s fun p_2 => pV (Addr.add p_2 8) (.slice a_1 an_1 ac_1) hv_2 fun hv_3 => cond (ieqF i 0)
      (aSome s fun p_3 => gInt .i64 (Addr.add p_3 7) hv_3 fun x_3 => aSome s fun p_4 => pV (Addr.add p_4 5) (.int .i64 x_3) hv_3 fun hv_4 => some (.tuple ⟨[]⟩, hv_4))
      (some (.tuple ⟨[]⟩, hv_3))))))))))))
  | _ => none
noncomputable def X_quota_Quota_Owns : XPoly := fun G _ call run a h => match a with
  | [.pointer q, .int .i64 s, .int .i64 k] =>
  bnd (call F_quota_Quota_is [.pointer q, .int .i64 s] h) fun r hv => aBool r fun x => bnd (cond x (some (ileF 0 k, hv)) (some (false, hv))) fun c hv_1 => bnd (cond c (aSome q fun p => gSl (Addr.add p 0) hv_1 fun x_1 xn _ => aSome x_1 fun p_1 => ckRF s xn (gSl (Addr.add (bare p_1) (Int.toNat s * 1)) hv_1 fun _ xn_1 _ => some (iltF k ((xn_1 : Nat) : Int), hv_1))) (some (false, hv_1))) fun c_1 hv_2 => bnd (cond c_1 (aSome q fun p_2 => gSl (Addr.add p_2 0) hv_2 fun x_3 xn_2 _ => aSome x_3 fun p_3 => ckRF s xn_2 (gSl (Addr.add (bare p_3) (Int.toNat s * 1)) hv_2 fun x_4 xn_3 _ => aSome x_4 fun p_4 => ckRF k xn_3 (gInt .i64 (Addr.add (bare p_4) (Int.toNat k * 1)) hv_2 fun x_5 => some (iltF 0 x_5, hv_2)))) (some (false, hv_2))) fun c_2 hv_3 => some (.bool c_2, hv_3)
  | _ => none
noncomputable def X_sect_Sect_Enter : XPoly := fun G _ call run a h => match a with
  | [.pointer s, .int .i64 who, .int .i64 now] =>
  aSome s fun p => gInt .i64 (Addr.add p 7) h fun x => bnd (cond (iltF who 0) (some (true, h)) (some (iltF 99 who, h))) fun c hv => cond c
      (some (.tuple ⟨[.int .i64 0, .bool false]⟩, hv))
      (aSome s fun p_1 => pV (Addr.add p_1 7) (.int .i64 (mm2 true now x)) hv fun hv_1 => aSome s fun p_2 => gBool (Addr.add p_2 1) hv_1 fun x_1 => bnd (cond x_1 (aSome s fun p_3 => gInt .i64 (Addr.add p_3 2) hv_1 fun x_2 => some (ieqF x_2 who, hv_1)) (some (false, hv_1))) fun c_1 hv_2 => cond c_1
      (aSome s fun p_4 => gInt .i64 (Addr.add p_4 3) hv_2 fun x_3 => some (.tuple ⟨[.int .i64 x_3, .bool true]⟩, hv_2))
      (aSome s fun p_5 => gSl (Addr.add p_5 5) hv_2 fun x_4 xn xc => bnd (call F_slices_Contains_s_int_int [.slice x_4 xn xc, .int .i64 who] hv_2) fun r hv_3 => aBool r fun x_5 => cond (!x_5)
      (aSome s fun p_6 => gSl (Addr.add p_6 5) hv_3 fun _ xn_1 _ => cond (ieqF ((xn_1 : Nat) : Int) 0)
      (aSome s fun p_7 => pV (Addr.add p_7 6) (.int .i64 (mm2 true now x)) hv_3 fun hv_4 => run F_sect_Sect_Enter 2021 [.pointer s, .int .i64 who, .int .i64 (mm2 true now x)] hv_4)
      (run F_sect_Sect_Enter 2021 [.pointer s, .int .i64 who, .int .i64 (mm2 true now x)] hv_3))
      (run F_sect_Sect_Enter 3023 [.pointer s, .int .i64 who, .int .i64 (mm2 true now x)] hv_3)))
  | _ => none
noncomputable def X_sect_Sect_Enter_R1 : XPoly := fun G _ call run a h => match a with
  | [.pointer s, .int .i64 who, .int .i64 now] =>
  aSome s fun p => gSl (Addr.add p 5) h fun x xn xc => nw (.cells Y_int false [.int .i64 who]) h fun b hv => gCells (some ⟨b, 0, none⟩) (1 * 1) hv fun cs => ckB (fitsOpen x Y_int hv) (apd Y_int 1 x xn xc 1 cs hv fun a an ac hv_1 => aSome s fun p_1 => pV (Addr.add p_1 5) (.slice a an ac) hv_1 fun hv_2 => run F_sect_Sect_Enter 3023 [.pointer s, .int .i64 who, .int .i64 now] hv_2)
  | _ => none
noncomputable def LB_sect_Sect_Enter_R1 : Lab := ⟨F_sect_Sect_Enter, 2021, T_sect_Sect_Enter_R1, [0, 1, 2], X_sect_Sect_Enter_R1⟩
noncomputable def X_sect_Sect_Enter_R2 : XPoly := fun G _ call run a h => match a with
  | [.pointer s, .int .i64 who, .int .i64 now] =>
  aSome s fun p => gBool (Addr.add p 1) h fun x => bnd (cond x (aSome s fun p_1 => gInt .i64 (Addr.add p_1 4) h fun x_1 => aSome s fun p_2 => gInt .i64 (Addr.add p_2 0) h fun x_2 => some (ileF x_2 (wrapF .i64 (now - x_1)), h)) (some (false, h))) fun c hv => cond c
      (aSome s fun p_3 => pV (Addr.add p_3 1) (.bool false) hv fun hv_1 => aSome s fun p_4 => pV (Addr.add p_4 6) (.int .i64 now) hv_1 fun hv_2 => run F_sect_Sect_Enter 3029 [.pointer s, .int .i64 who, .int .i64 now] hv_2)
      (run F_sect_Sect_Enter 3029 [.pointer s, .int .i64 who, .int .i64 now] hv)
  | _ => none
noncomputable def LB_sect_Sect_Enter_R2 : Lab := ⟨F_sect_Sect_Enter, 3023, T_sect_Sect_Enter_R2, [0, 1, 2], X_sect_Sect_Enter_R2⟩
noncomputable def X_sect_Sect_Enter_R3 : XPoly := fun G _ call run a h => match a with
  | [.pointer s, .int .i64 who, .int .i64 now] =>
  aSome s fun p => gBool (Addr.add p 1) h fun x => cond x
      (aSome s fun p_1 => gSl (Addr.add p_1 5) h fun x_1 xn _ => aSome x_1 fun p_2 => ckRF 0 xn (gInt .i64 (Addr.add (bare p_2) (Int.toNat 0 * 1)) h fun x_2 => cond (ieqF x_2 who)
      (aSome s fun p_3 => pV (Addr.add p_3 6) (.int .i64 now) h fun hv => run F_sect_Sect_Enter 3035 [] hv)
      (run F_sect_Sect_Enter 3035 [] h)))
      (run F_sect_Sect_Enter 3036 [.pointer s, .int .i64 who, .int .i64 now] h)
  | _ => none
noncomputable def LB_sect_Sect_Enter_R3 : Lab := ⟨F_sect_Sect_Enter, 3029, T_sect_Sect_Enter_R3, [0, 1, 2], X_sect_Sect_Enter_R3⟩
noncomputable def X_sect_Sect_Enter_R4 : XPoly := fun G _ call run a h => match a with
  | [] =>
  some (.tuple ⟨[.int .i64 0, .bool false]⟩, h)
  | _ => none
noncomputable def LB_sect_Sect_Enter_R4 : Lab := ⟨F_sect_Sect_Enter, 3035, T_sect_Sect_Enter_R4, [], X_sect_Sect_Enter_R4⟩
noncomputable def X_sect_Sect_Enter_L1 : XPoly := fun G _ call run a h => match a with
  | [.pointer s, .int .i64 who, .int .i64 now] =>
  aSome s fun p => gSl (Addr.add p 5) h fun x xn _ => aSome x fun p_1 => ckRF 0 xn (gInt .i64 (Addr.add (bare p_1) (Int.toNat 0 * 1)) h fun x_1 => bnd (cond (ineF x_1 who) (aSome s fun p_2 => gInt .i64 (Addr.add p_2 6) h fun x_2 => aSome s fun p_3 => gInt .i64 (Addr.add p_3 0) h fun x_3 => some (ileF x_3 (wrapF .i64 (now - x_2)), h)) (some (false, h))) fun c hv => cond c
      (aSome s fun p_4 => gSl (Addr.add p_4 5) hv fun x_4 xn_1 xc_1 => ckB (fitsOpen x_4 Y_int hv) (ckLF 1 xn_1 (aSome s fun p_5 => pV (Addr.add p_5 5) (.slice (moved x_4 (decide (Int.toNat 1 < xc_1)) ((Int.toNat 1) * 1)) (xn_1 - (Int.toNat 1)) (xc_1 - (Int.toNat 1))) hv fun hv_1 => aSome s fun p_6 => pV (Addr.add p_6 6) (.int .i64 now) hv_1 fun hv_2 => run F_sect_Sect_Enter 3036 [.pointer s, .int .i64 who, .int .i64 now] hv_2)))
      (aSome s fun p_7 => gSl (Addr.add p_7 5) hv fun x_5 xn_2 _ => aSome x_5 fun p_8 => ckRF 0 xn_2 (gInt .i64 (Addr.add (bare p_8) (Int.toNat 0 * 1)) hv fun x_6 => cond (ineF x_6 who)
      (some (.tuple ⟨[.int .i64 0, .bool false]⟩, hv))
      (aSome s fun p_9 => gSl (Addr.add p_9 5) hv fun x_7 xn_3 xc_3 => ckB (fitsOpen x_7 Y_int hv) (ckLF 1 xn_3 (aSome s fun p_10 => pV (Addr.add p_10 5) (.slice (moved x_7 (decide (Int.toNat 1 < xc_3)) ((Int.toNat 1) * 1)) (xn_3 - (Int.toNat 1)) (xc_3 - (Int.toNat 1))) hv fun hv_3 => aSome s fun p_11 => pV (Addr.add p_11 6) (.int .i64 now) hv_3 fun hv_4 => aSome s fun p_12 => gInt .i64 (Addr.add p_12 8) hv_4 fun x_8 => aSome s fun p_13 => pV (Addr.add p_13 8) (.int .i64 (wrapF .i64 (x_8 + 1))) hv_4 fun hv_5 => aSome s fun p_14 => gInt .i64 (Addr.add p_14 8) hv_5 fun x_9 => aSome s fun p_15 => pV (Addr.add p_15 1) (.bool true) hv_5 fun hv_6 => aSome s fun p_16 => pV (Addr.add p_16 2) (.int .i64 who) hv_6 fun hv_7 => aSome s fun p_17 => pV (Addr.add p_17 3) (.int .i64 x_9) hv_7 fun hv_8 => aSome s fun p_18 => pV (Addr.add p_18 4) (.int .i64 now) hv_8 fun hv_9 => aSome s fun p_19 => gInt .i64 (Addr.add p_19 3) hv_9 fun x_10 => some (.tuple ⟨[.int .i64 x_10, .bool true]⟩, hv_9)))))))
  | _ => none
noncomputable def LB_sect_Sect_Enter_L1 : Lab := ⟨F_sect_Sect_Enter, 3036, T_sect_Sect_Enter_L1, [0, 1, 2], X_sect_Sect_Enter_L1⟩
noncomputable def X_sect_Sect_Leave : XPoly := fun G _ call run a h => match a with
  | [.pointer s, .int .i64 who, .int .i64 stamp] =>
  bnd (call F_sect_Sect_Holds [.pointer s, .int .i64 who, .int .i64 stamp] h) fun r hv => aBool r fun x => cond (!x)
      (some (.bool false, hv))
      (aSome s fun p => pV (Addr.add p 1) (.bool false) hv fun hv_1 => aSome s fun p_1 => gInt .i64 (Addr.add p_1 7) hv_1 fun x_1 => aSome s fun p_2 => pV (Addr.add p_2 6) (.int .i64 x_1) hv_1 fun hv_2 => some (.bool true, hv_2))
  | _ => none
noncomputable def X_codec_New_api_Proc : XPoly := fun G _ call run a h => match a with
  | [.int .i64 size, put, get] =>
  one put (one get (nw (.cells Y_codec_Codec_api_Proc false [.int .i64 (mm2 false (mm2 true size 0) 64), put, get]) h fun b hv => some (.pointer (some ⟨b, 0, none⟩), hv)))
  | _ => none
noncomputable def X_ofile_put : XPoly := fun G _ call run a h => match a with
  | [.agg ⟨f⟩, .slice b bn bc] =>
  nw (.cells Y_api_File false f) h fun b_1 hv => gAgg ⟨b_1, 0, none⟩ 4 hv fun x => bnd (call F_ofile_Ok [.agg ⟨x⟩] hv) fun r hv_1 => aBool r fun x_1 => cond (!x_1)
      (some (.bool false, hv_1))
      (gInt .i64 (Addr.add ⟨b_1, 0, none⟩ 0) hv_1 fun x_2 => gInt .i64 (Addr.add ⟨b_1, 0, none⟩ 1) hv_1 fun x_3 => gInt .i64 (Addr.add ⟨b_1, 0, none⟩ 2) hv_1 fun x_4 => gInt .i64 (Addr.add ⟨b_1, 0, none⟩ 3) hv_1 fun x_5 => nw (.cells Y_uint8 false [.int .u8 (wrapF .u8 (x_2)), .int .u8 (wrapF .u8 (x_3)), .int .u8 (wrapF .u8 (x_4)), .int .u8 (wrapF .u8 (x_5)), .int .u8 179]) hv_1 fun b_2 hv_2 => gCells (some ⟨b_2, 0, none⟩) (min 5 bn * 1) hv_2 fun cs => pCells b cs hv_2 fun hv_3 => ckB (fitsOpen b Y_uint8 hv_3) (ckLF 5 bc (bnd (call F_codec_Sum [.slice (moved b (decide (0 < bc)) (0 * 1)) ((Int.toNat 5) - 0) (bc - 0)] hv_3) fun r_1 hv_4 => aInt .u8 r_1 fun x_6 => aSome b fun p => ckRF 5 bn (pV (Addr.add (bare p) (Int.toNat 5 * 1)) (.int .u8 x_6) hv_4 fun hv_5 => some (.bool true, hv_5)))))
  | _ => none
noncomputable def X_ref1_Names_Has : XPoly := fun G _ call run a h => match a with
  | [.pointer n, .int .i64 name] =>
  bnd (cond (ileF 0 name) (aSome n fun p => gSl (Addr.add p 0) h fun _ xn _ => some (iltF (bitAF .i64 name 255) ((xn : Nat) : Int), h)) (some (false, h))) fun c hv => bnd (cond c (aSome n fun p_1 => gSl (Addr.add p_1 0) hv fun x_1 xn_1 _ => aSome x_1 fun p_2 => ckRF (bitAF .i64 name 255) xn_1 (gBool (Addr.add (Addr.add (bare p_2) (Int.toNat (bitAF .i64 name 255) * 2)) 1) hv fun x_2 => some (x_2, hv))) (some (false, hv))) fun c_1 hv_1 => bnd (cond c_1 (aSome n fun p_3 => gSl (Addr.add p_3 0) hv_1 fun x_3 xn_2 _ => aSome x_3 fun p_4 => ckRF (bitAF .i64 name 255) xn_2 (gInt .i64 (Addr.add (Addr.add (bare p_4) (Int.toNat (bitAF .i64 name 255) * 2)) 0) hv_1 fun x_4 => some (ieqF x_4 (Int.fdiv name (2 ^ 8)), hv_1))) (some (false, hv_1))) fun c_2 hv_2 => some (.bool c_2, hv_2)
  | _ => none
noncomputable def X_caps_Space_Under_1 : XPoly := fun G _ call run a h => match a with
  | [.agg ⟨a⟩, .agg ⟨b⟩] =>
  nw (.cells Y_api_Ref false a) h fun b_1 hv => nw (.cells Y_api_Ref false b) hv fun b_2 hv_1 => gInt .i64 (Addr.add ⟨b_1, 0, none⟩ 0) hv_1 fun x => gInt .i64 (Addr.add ⟨b_2, 0, none⟩ 0) hv_1 fun x_1 => cond (ineF x x_1)
      (gInt .i64 (Addr.add ⟨b_1, 0, none⟩ 0) hv_1 fun x_2 => gInt .i64 (Addr.add ⟨b_2, 0, none⟩ 0) hv_1 fun x_3 => some (.int .i64 (wrapF .i64 (x_2 - x_3)), hv_1))
      (gInt .i64 (Addr.add ⟨b_1, 0, none⟩ 1) hv_1 fun x_4 => gInt .i64 (Addr.add ⟨b_2, 0, none⟩ 1) hv_1 fun x_5 => some (.int .i64 (wrapF .i64 (x_4 - x_5)), hv_1))
  | _ => none
noncomputable def X_ring_Ok : XPoly := fun G _ call run a h => match a with
  | [.agg ⟨p⟩] =>
  nw (.cells Y_api_Pipe false p) h fun b hv => gInt .i64 (Addr.add ⟨b, 0, none⟩ 0) hv fun x => bnd (call F_ring_Ok_1 [.int .i64 x, .int .i64 31] hv) fun r hv_1 => aBool r fun x_1 => bnd (cond x_1 (gInt .i64 (Addr.add ⟨b, 0, none⟩ 1) hv_1 fun x_2 => bnd (call F_ring_Ok_1 [.int .i64 x_2, .int .i64 32] hv_1) fun r_1 hv_2 => aBool r_1 fun x_3 => some (x_3, hv_2)) (some (false, hv_1))) fun c hv_3 => bnd (cond c (gInt .i64 (Addr.add ⟨b, 0, none⟩ 2) hv_3 fun x_4 => bnd (call F_ring_Ok_1 [.int .i64 x_4, .int .i64 8] hv_3) fun r_2 hv_4 => aBool r_2 fun x_5 => some (x_5, hv_4)) (some (false, hv_3))) fun c_1 hv_5 => bnd (cond c_1 (gInt .i64 (Addr.add ⟨b, 0, none⟩ 3) hv_5 fun x_6 => bnd (call F_ring_Ok_1 [.int .i64 x_6, .int .i64 8] hv_5) fun r_3 hv_6 => aBool r_3 fun x_7 => some (x_7, hv_6)) (some (false, hv_5))) fun c_2 hv_7 => some (.bool c_2, hv_7)
  | _ => none
noncomputable def X_pslot_bits : XPoly := fun G _ call run a h => match a with
  | [.int .i64 n, .int .i64 without] =>
  bnd (cond (ieqF (bitN .i64 n 65534) 0) (some (ieqF (bitAF .i64 n without) 0, h)) (some (false, h))) fun c hv => some (.bool c, hv)
  | _ => none
noncomputable def X_pslot_Ok_1 : XPoly := fun G _ call run a h => match a with
  | [.int .i64 f] =>
  bnd (cond (iltF f 0) (some (true, h)) (some (iltF 12 f, h))) fun c hv => some (.bool c, hv)
  | _ => none
noncomputable def X_slices_heapSortCmpFunc_api_Ref : XPoly := fun G _ call run a h => match a with
  | [.slice data datan datac, .int .i64 a, .int .i64 b, cmp] =>
  run F_slices_heapSortCmpFunc_api_Ref 3008 [.slice data datan datac, cmp, .int .i64 a, .int .i64 0, .int .i64 (wrapF .i64 (b - a)), .int .i64 (wrapF .i64 (Int.tdiv (wrapF .i64 ((wrapF .i64 (b - a)) - 1)) 2))] h
  | _ => none
noncomputable def X_slices_heapSortCmpFunc_api_Ref_L1 : XPoly := fun G _ call run a h => match a with
  | [.slice data datan datac, cmp, .int .i64 first, .int .i64 lo, .int .i64 hi, .int .i64 i] =>
  cond (ileF 0 i)
      (bnd (call F_slices_siftDownCmpFunc_api_Ref [.slice data datan datac, .int .i64 i, .int .i64 hi, .int .i64 first, cmp] h) fun r hv => as0 r (run F_slices_heapSortCmpFunc_api_Ref 3008 [.slice data datan datac, cmp, .int .i64 first, .int .i64 lo, .int .i64 hi, .int .i64 (wrapF .i64 (i - 1))] hv))
      (run F_slices_heapSortCmpFunc_api_Ref 2016 [.slice data datan datac, cmp, .int .i64 first, .int .i64 lo, .int .i64 (wrapF .i64 (hi - 1))] h)
  | _ => none
noncomputable def LB_slices_heapSortCmpFunc_api_Ref_L1 : Lab := ⟨F_slices_heapSortCmpFunc_api_Ref, 3008, T_slices_heapSortCmpFunc_api_Ref_L1, [0, 3, 8, 9, 10, 11], X_slices_heapSortCmpFunc_api_Ref_L1⟩
noncomputable def X_slices_heapSortCmpFunc_api_Ref_L2 : XPoly := fun G _ call run a h => match a with
  | [.slice data datan datac, cmp, .int .i64 first, .int .i64 lo, .int .i64 i] =>
  cond (ileF 0 i)
      (aSome data fun p => ckRF (wrapF .i64 (first + i)) datan (gAgg (Addr.add (bare p) (Int.toNat (wrapF .i64 (first + i)) * 2)) 2 h fun x => aSome data fun p_1 => ckRF first datan (gAgg (Addr.add (bare p_1) (Int.toNat first * 2)) 2 h fun x_1 => aSome data fun p_2 => ckRF first datan (ck (List.length x = 2) (pAgg (Addr.add (bare p_2) (Int.toNat first * 2)) x h fun hv => aSome data fun p_3 => ckRF (wrapF .i64 (first + i)) datan (ck (List.length x_1 = 2) (pAgg (Addr.add (bare p_3) (Int.toNat (wrapF .i64 (first + i)) * 2)) x_1 hv fun hv_1 => bnd (call F_slices_siftDownCmpFunc_api_Ref [.slice data datan datac, .int .i64 lo, .int .i64 i, .int .i64 first, cmp] hv_1) fun r hv_2 => as0 r (run F_slices_heapSortCmpFunc_api_Ref 2016 [.slice data datan datac, cmp, .int .i64 first, .int .i64 lo, .int .i64 (wrapF .i64 (i - 1))] hv_2))))))))
      (some (.tuple ⟨[]⟩, h))
  | _ => none
noncomputable def LB_slices_heapSortCmpFunc_api_Ref_L2 : Lab := ⟨F_slices_heapSortCmpFunc_api_Ref, 2016, T_slices_heapSortCmpFunc_api_Ref_L2, [0, 3, 8, 9, 12], X_slices_heapSortCmpFunc_api_Ref_L2⟩
noncomputable def X_slices_partitionCmpFunc_api_Ref : XPoly := fun G _ call run a h => match a with
  | [.slice data datan datac, .int .i64 a, .int .i64 b, .int .i64 pivot, cmp] =>
  aSome data fun p => ckRF pivot datan (gAgg (Addr.add (bare p) (Int.toNat pivot * 2)) 2 h fun x => aSome data fun p_1 => ckRF a datan (gAgg (Addr.add (bare p_1) (Int.toNat a * 2)) 2 h fun x_1 => aSome data fun p_2 => ckRF a datan (ck (List.length x = 2) (pAgg (Addr.add (bare p_2) (Int.toNat a * 2)) x h fun hv => aSome data fun p_3 => ckRF pivot datan (ck (List.length x_1 = 2) (pAgg (Addr.add (bare p_3) (Int.toNat pivot * 2)) x_1 hv fun hv_1 => run F_slices_partitionCmpFunc_api_Ref 3006 [.slice data datan datac, .int .i64 a, cmp, .int .i64 (wrapF .i64 (a + 1)), .int .i64 (wrapF .i64 (b - 1))] hv_1))))))
  | _ => none
noncomputable def X_slices_partitionCmpFunc_api_Ref_L1 : XPoly := fun G _ call run a h => match a with
  | [.slice data datan datac, .int .i64 a, cmp, .int .i64 i, .int .i64 j] =>
  bnd (cond (ileF i j) (aSome data fun p => ckRF i datan (gAgg (Addr.add (bare p) (Int.toNat i * 2)) 2 h fun x => aSome data fun p_1 => ckRF a datan (gAgg (Addr.add (bare p_1) (Int.toNat a * 2)) 2 h fun x_1 => aFn cmp fun g fi cp => bnd (call g (fi ++ ([.agg ⟨x⟩, .agg ⟨x_1⟩] ++ cp)) h) fun r hv => aInt .i64 r fun x_2 => some (iltF x_2 0, hv)))) (some (false, h))) fun c hv_1 => cond c
      (run F_slices_partitionCmpFunc_api_Ref 3006 [.slice data datan datac, .int .i64 a, cmp, .int .i64 (wrapF .i64 (i + 1)), .int .i64 j] hv_1)
      (run F_slices_partitionCmpFunc_api_Ref 3010 [.slice data datan datac, .int .i64 a, cmp, .int .i64 i, .int .i64 j] hv_1)
  | _ => none
noncomputable def LB_slices_partitionCmpFunc_api_Ref_L1 : Lab := ⟨F_slices_partitionCmpFunc_api_Ref, 3006, T_slices_partitionCmpFunc_api_Ref_L1, [0, 1, 4, 12, 13], X_slices_partitionCmpFunc_api_Ref_L1⟩
noncomputable def X_slices_partitionCmpFunc_api_Ref_L2 : XPoly := fun G _ call run a h => match a with
  | [.slice data datan datac, .int .i64 a, cmp, .int .i64 i, .int .i64 j] =>
  bnd (cond (ileF i j) (aSome data fun p => ckRF j datan (gAgg (Addr.add (bare p) (Int.toNat j * 2)) 2 h fun x => aSome data fun p_1 => ckRF a datan (gAgg (Addr.add (bare p_1) (Int.toNat a * 2)) 2 h fun x_1 => aFn cmp fun g fi cp => bnd (call g (fi ++ ([.agg ⟨x⟩, .agg ⟨x_1⟩] ++ cp)) h) fun r hv => aInt .i64 r fun x_2 => some (!(iltF x_2 0), hv)))) (some (false, h))) fun c hv_1 => cond c
      (run F_slices_partitionCmpFunc_api_Ref 3010 [.slice data datan datac, .int .i64 a, cmp, .int .i64 i, .int .i64 (wrapF .i64 (j - 1))] hv_1)
      (cond (iltF j i)
      (aSome data fun p_2 => ckRF a datan (gAgg (Addr.add (bare p_2) (Int.toNat a * 2)) 2 hv_1 fun x_3 => aSome data fun p_3 => ckRF j datan (gAgg (Addr.add (bare p_3) (Int.toNat j * 2)) 2 hv_1 fun x_4 => aSome data fun p_4 => ckRF j datan (ck (List.length x_3 = 2) (pAgg (Addr.add (bare p_4) (Int.toNat j * 2)) x_3 hv_1 fun hv_2 => aSome data fun p_5 => ckRF a datan (ck (List.length x_4 = 2) (pAgg (Addr.add (bare p_5) (Int.toNat a * 2)) x_4 hv_2 fun hv_3 => some (.tuple ⟨[.int .i64 j, .bool true]⟩, hv_3))))))))
      (aSome data fun p_6 => ckRF j datan (gAgg (Addr.add (bare p_6) (Int.toNat j * 2)) 2 hv_1 fun x_5 => aSome data fun p_7 => ckRF i datan (gAgg (Addr.add (bare p_7) (Int.toNat i * 2)) 2 hv_1 fun x_6 => aSome data fun p_8 => ckRF i datan (ck (List.length x_5 = 2) (pAgg (Addr.add (bare p_8) (Int.toNat i * 2)) x_5 hv_1 fun hv_4 => aSome data fun p_9 => ckRF j datan (ck (List.length x_6 = 2) (pAgg (Addr.add (bare p_9) (Int.toNat j * 2)) x_6 hv_4 fun hv_5 => run F_slices_partitionCmpFunc_api_Ref 3026 [.slice data datan datac, .int .i64 a, cmp, .int .i64 (wrapF .i64 (i + 1)), .int .i64 (wrapF .i64 (j - 1))] hv_5))))))))
  | _ => none
noncomputable def LB_slices_partitionCmpFunc_api_Ref_L2 : Lab := ⟨F_slices_partitionCmpFunc_api_Ref, 3010, T_slices_partitionCmpFunc_api_Ref_L2, [0, 1, 4, 12, 13], X_slices_partitionCmpFunc_api_Ref_L2⟩
noncomputable def X_slices_partitionCmpFunc_api_Ref_L3 : XPoly := fun G _ call run a h => match a with
  | [.slice data datan datac, .int .i64 a, cmp, .int .i64 i, .int .i64 j] =>
  run F_slices_partitionCmpFunc_api_Ref 7026 [.slice data datan datac, .int .i64 a, cmp, .int .i64 i, .int .i64 j] h
  | _ => none
noncomputable def LB_slices_partitionCmpFunc_api_Ref_L3 : Lab := ⟨F_slices_partitionCmpFunc_api_Ref, 3026, T_slices_partitionCmpFunc_api_Ref_L3, [0, 1, 4, 12, 13], X_slices_partitionCmpFunc_api_Ref_L3⟩
noncomputable def X_slices_partitionCmpFunc_api_Ref_L4 : XPoly := fun G _ call run a h => match a with
  | [.slice data datan datac, .int .i64 a, cmp, .int .i64 i, .int .i64 j] =>
  bnd (cond (ileF i j) (aSome data fun p => ckRF i datan (gAgg (Addr.add (bare p) (Int.toNat i * 2)) 2 h fun x => aSome data fun p_1 => ckRF a datan (gAgg (Addr.add (bare p_1) (Int.toNat a * 2)) 2 h fun x_1 => aFn cmp fun g fi cp => bnd (call g (fi ++ ([.agg ⟨x⟩, .agg ⟨x_1⟩] ++ cp)) h) fun r hv => aInt .i64 r fun x_2 => some (iltF x_2 0, hv)))) (some (false, h))) fun c hv_1 => cond c
      (run F_slices_partitionCmpFunc_api_Ref 7026 [.slice data datan datac, .int .i64 a, cmp, .int .i64 (wrapF .i64 (i + 1)), .int .i64 j] hv_1)
      (run F_slices_partitionCmpFunc_api_Ref 7030 [.slice data datan datac, .int .i64 a, cmp, .int .i64 i, .int .i64 j] hv_1)
  | _ => none
noncomputable def LB_slices_partitionCmpFunc_api_Ref_L4 : Lab := ⟨F_slices_partitionCmpFunc_api_Ref, 7026, T_slices_partitionCmpFunc_api_Ref_L4, [0, 1, 4, 12, 13], X_slices_partitionCmpFunc_api_Ref_L4⟩
noncomputable def X_slices_partitionCmpFunc_api_Ref_L5 : XPoly := fun G _ call run a h => match a with
  | [.slice data datan datac, .int .i64 a, cmp, .int .i64 i, .int .i64 j] =>
  bnd (cond (ileF i j) (aSome data fun p => ckRF j datan (gAgg (Addr.add (bare p) (Int.toNat j * 2)) 2 h fun x => aSome data fun p_1 => ckRF a datan (gAgg (Addr.add (bare p_1) (Int.toNat a * 2)) 2 h fun x_1 => aFn cmp fun g fi cp => bnd (call g (fi ++ ([.agg ⟨x⟩, .agg ⟨x_1⟩] ++ cp)) h) fun r hv => aInt .i64 r fun x_2 => some (!(iltF x_2 0), hv)))) (some (false, h))) fun c hv_1 => cond c
      (run F_slices_partitionCmpFunc_api_Ref 7030 [.slice data datan datac, .int .i64 a, cmp, .int .i64 i, .int .i64 (wrapF .i64 (j - 1))] hv_1)
      (cond (iltF j i)
      (aSome data fun p_2 => ckRF a datan (gAgg (Addr.add (bare p_2) (Int.toNat a * 2)) 2 hv_1 fun x_3 => aSome data fun p_3 => ckRF j datan (gAgg (Addr.add (bare p_3) (Int.toNat j * 2)) 2 hv_1 fun x_4 => aSome data fun p_4 => ckRF j datan (ck (List.length x_3 = 2) (pAgg (Addr.add (bare p_4) (Int.toNat j * 2)) x_3 hv_1 fun hv_2 => aSome data fun p_5 => ckRF a datan (ck (List.length x_4 = 2) (pAgg (Addr.add (bare p_5) (Int.toNat a * 2)) x_4 hv_2 fun hv_3 => some (.tuple ⟨[.int .i64 j, .bool false]⟩, hv_3))))))))
      (aSome data fun p_6 => ckRF j datan (gAgg (Addr.add (bare p_6) (Int.toNat j * 2)) 2 hv_1 fun x_5 => aSome data fun p_7 => ckRF i datan (gAgg (Addr.add (bare p_7) (Int.toNat i * 2)) 2 hv_1 fun x_6 => aSome data fun p_8 => ckRF i datan (ck (List.length x_5 = 2) (pAgg (Addr.add (bare p_8) (Int.toNat i * 2)) x_5 hv_1 fun hv_4 => aSome data fun p_9 => ckRF j datan (ck (List.length x_6 = 2) (pAgg (Addr.add (bare p_9) (Int.toNat j * 2)) x_6 hv_4 fun hv_5 => run F_slices_partitionCmpFunc_api_Ref 3026 [.slice data datan datac, .int .i64 a, cmp, .int .i64 (wrapF .i64 (i + 1)), .int .i64 (wrapF .i64 (j - 1))] hv_5))))))))
  | _ => none
noncomputable def LB_slices_partitionCmpFunc_api_Ref_L5 : Lab := ⟨F_slices_partitionCmpFunc_api_Ref, 7030, T_slices_partitionCmpFunc_api_Ref_L5, [0, 1, 4, 12, 13], X_slices_partitionCmpFunc_api_Ref_L5⟩
noncomputable def X_slices_xorshift_Next : XPoly := fun G _ call run a h => match a with
  | [.pointer r] =>
  aSome r fun p => gInt .u64 p h fun x => aSome r fun p_1 => gInt .u64 p_1 h fun x_1 => aSome r fun p_2 => pV p_2 (.int .u64 (bitX .u64 x (wrapF .u64 (x_1 * 2 ^ 13)))) h fun hv => aSome r fun p_3 => gInt .u64 p_3 hv fun x_2 => aSome r fun p_4 => gInt .u64 p_4 hv fun x_3 => aSome r fun p_5 => pV p_5 (.int .u64 (bitX .u64 x_2 (Int.fdiv x_3 (2 ^ 7)))) hv fun hv_1 => aSome r fun p_6 => gInt .u64 p_6 hv_1 fun x_4 => aSome r fun p_7 => gInt .u64 p_7 hv_1 fun x_5 => aSome r fun p_8 => pV p_8 (.int .u64 (bitX .u64 x_4 (wrapF .u64 (x_5 * 2 ^ 17)))) hv_1 fun hv_2 => aSome r fun p_9 => gInt .u64 p_9 hv_2 fun x_6 => some (.int .u64 x_6, hv_2)
  | _ => none
noncomputable def X_slices_medianAdjacentCmpFunc_api_Ref : XPoly := fun G _ call run a h => match a with
  | [.slice data datan datac, .int .i64 a, .pointer swaps, cmp] =>
  bnd (call F_slices_medianCmpFunc_api_Ref [.slice data datan datac, .int .i64 (wrapF .i64 (a - 1)), .int .i64 a, .int .i64 (wrapF .i64 (a + 1)), .pointer swaps, cmp] h) fun r hv => aInt .i64 r fun x => some (.int .i64 x, hv)
  | _ => none
noncomputable def X_slices_order2CmpFunc_api_Ref : XPoly := fun G _ call run a h => match a with
  | [.slice data datan datac, .int .i64 a, .int .i64 b, .pointer swaps, cmp] =>
  aSome data fun p => ckRF b datan (gAgg (Addr.add (bare p) (Int.toNat b * 2)) 2 h fun x => aSome data fun p_1 => ckRF a datan (gAgg (Addr.add (bare p_1) (Int.toNat a * 2)) 2 h fun x_1 => aFn cmp fun g fi cp => bnd (call g (fi ++ ([.agg ⟨x⟩, .agg ⟨x_1⟩] ++ cp)) h) fun r hv => aInt .i64 r fun x_2 => cond (iltF x_2 0)
      (aSome swaps fun p_2 => gInt .i64 p_2 hv fun x_3 => aSome swaps fun p_3 => pV p_3 (.int .i64 (wrapF .i64 (x_3 + 1))) hv fun hv_1 => some (.tuple ⟨[.int .i64 b, .int .i64 a]⟩, hv_1))
      (some (.tuple ⟨[.int .i64 a, .int .i64 b]⟩, hv))))
  | _ => none
end Go.EQ

set_option maxRecDepth 100000
set_option linter.unusedVariables false
namespace Go.EQ
open Go Go.Proofs
open Go.NN hiding bnd ld gInt gBool gStr gPtr gSl gMap gFv gAgg gCells nw pV pAgg pCells apd fitsOpen liveA mapAt
open Go.NP Go.NW
noncomputable def TABF : Tab XPoly := .node 112 X_region_Regions_Copy (.node 57 X_commons_Commons_most (.node 30 X_fds_Close (.node 16 X_law11_Proc (.node 9 X_kern_Kern_Do (.node 6 X_law15_Plan (.node 4 X_law18_FdsLimits (.node 3 X_law15_CommonsGone .leaf .leaf) (.node 5 X_law15_Open .leaf .leaf)) (.node 8 X_caps_Space_Names (.node 7 X_kern_Kern_Space .leaf .leaf) .leaf)) (.node 13 X_commons_Commons_Term (.node 11 X_commons_Commons_File (.node 10 X_commons_Commons_Proc .leaf .leaf) (.node 12 X_commons_Commons_Pipe .leaf .leaf)) (.node 15 X_commons_Commons_SetProc (.node 14 X_commons_Commons_Front .leaf .leaf) .leaf))) (.node 23 X_law17_Fill (.node 20 X_commons_Commons_Bad (.node 18 X_commons_Commons_FreeFile (.node 17 X_commons_Commons_SetFront .leaf .leaf) (.node 19 X_commons_New .leaf .leaf)) (.node 22 X_law15_awake (.node 21 X_commons_Commons_View .leaf .leaf) .leaf)) (.node 27 X_region_Regions_Raw (.node 25 X_kern_Kern_Regions (.node 24 X_law17_First .leaf .leaf) (.node 26 X_proc_Fork .leaf .leaf)) (.node 29 X_law18_awake (.node 28 X_fds_Pipe .leaf .leaf) .leaf)))) (.node 44 X_commons_record_api_File (.node 37 X_caps_Space_is (.node 34 X_ref15_Blank (.node 32 X_kern_New (.node 31 X_ref15_Boot .leaf .leaf) (.node 33 X_ref1_NewKern .leaf .leaf)) (.node 36 X_ref15_NewCommons (.node 35 X_ref1_Kern_Do .leaf .leaf) .leaf)) (.node 41 X_commons_record_api_Proc (.node 39 X_kern_Kern_bytes (.node 38 X_table_Table_api_Cap_Names .leaf .leaf) (.node 40 X_kern_Kern_number .leaf .leaf)) (.node 43 X_pslot_Decode (.node 42 X_commons_proc .leaf .leaf) .leaf))) (.node 51 X_commons_FrontOf (.node 48 X_commons_pipe (.node 46 X_ofile_Decode (.node 45 X_commons_file .leaf .leaf) (.node 47 X_commons_record_api_Pipe .leaf .leaf)) (.node 50 X_commons_record_int (.node 49 X_ring_Decode .leaf .leaf) .leaf)) (.node 54 X_law11_Proc_1 (.node 53 X_commons_Commons_write (.node 52 X_pslot_Encode .leaf .leaf) .leaf) (.node 56 X_commons_Commons_blank (.node 55 X_commons_FrontBytes .leaf .leaf) .leaf))))) (.node 85 X_sect_New (.node 71 X_fds_Pipe_2 (.node 64 X_proc_share (.node 61 X_proc_Self (.node 59 X_ref11_ProcBytes (.node 58 X_ref11_PipeBytes .leaf .leaf) (.node 60 X_ref11_FileBytes .leaf .leaf)) (.node 63 X_proc_free (.node 62 X_proc_told .leaf .leaf) .leaf)) (.node 68 X_fds_fdsOf (.node 66 X_mem_Mem_Load (.node 65 X_proc_done .leaf .leaf) (.node 67 X_fds_told .leaf .leaf)) (.node 70 X_fds_Pipe_1 (.node 69 X_fds_free .leaf .leaf) .leaf))) (.node 78 X_kern_check (.node 75 X_fds_Of (.node 73 X_commons_Commons_SetFile (.node 72 X_commons_Commons_SetPipe .leaf .leaf) (.node 74 X_fds_done .leaf .leaf)) (.node 77 X_proc_CloseFile (.node 76 X_fds_named .leaf .leaf) .leaf)) (.node 82 X_caps_New (.node 80 X_slices_Clone_s_int_int (.node 79 X_kern_frames .leaf .leaf) (.node 81 X_mem_New .leaf .leaf)) (.node 84 X_region_New (.node 83 X_quota_New .leaf .leaf) .leaf)))) (.node 99 X_ref1_Regions_Write (.node 92 X_ref1_NewSpace (.node 89 X_caps_Space_Put (.node 87 X_quota_Quota_First (.node 86 X_region_Regions_Add .leaf .leaf) (.node 88 X_slices_Contains_s_int_int .leaf .leaf)) (.node 91 X_ref1_Quota_First (.node 90 X_ref1_NewQuota .leaf .leaf) .leaf)) (.node 96 X_ref1_Space_Put (.node 94 X_ref1_Regions_Add (.node 93 X_ref1_NewSect .leaf .leaf) (.node 95 X_ref1_in .leaf .leaf)) (.node 98 X_ref1_Regions_Read (.node 97 X_ref15_FrontBytes .leaf .leaf) .leaf))) (.node 106 X_ref1_Sect_Enter (.node 103 X_ref1_Quota_Alloc (.node 101 X_ref1_Space_Grant (.node 100 X_ref1_Regions_Copy .leaf .leaf) (.node 102 X_ref1_Space_Revoke .leaf .leaf)) (.node 105 X_ref1_Kern_may (.node 104 X_ref1_Quota_Free .leaf .leaf) .leaf)) (.node 109 X_table_Table_api_Cap_name (.node 108 X_ref1_Space_All (.node 107 X_ref1_Sect_Leave .leaf .leaf) .leaf) (.node 111 X_region_Regions_Write (.node 110 X_region_Regions_Read .leaf .leaf) .leaf)))))) (.node 167 X_kern_Kern_sect (.node 140 X_slices_ContainsFunc_s_int_int (.node 126 X_codec_Codec_api_Pipe_Decode (.node 119 X_commons_Commons_read (.node 116 X_quota_Quota_Free (.node 114 X_caps_Space_Revoke (.node 113 X_caps_Space_Grant .leaf .leaf) (.node 115 X_quota_Quota_Alloc .leaf .leaf)) (.node 118 X_kern_Kern_leave (.node 117 X_kern_Kern_enter .leaf .leaf) .leaf)) (.node 123 X_ofile_Codec (.node 121 X_pslot_Codec (.node 120 X_codec_Blank .leaf .leaf) (.node 122 X_codec_Codec_api_Proc_Decode .leaf .leaf)) (.node 125 X_ring_Codec (.node 124 X_codec_Codec_api_File_Decode .leaf .leaf) .leaf))) (.node 133 X_mem_Mem_in (.node 130 X_ref1_Sum (.node 128 X_commons_Commons_place (.node 127 X_codec_Codec_api_Proc_Encode .leaf .leaf) (.node 129 X_codec_Sum .leaf .leaf)) (.node 132 X_commons_Commons_Look (.node 131 X_ref1_Two .leaf .leaf) .leaf)) (.node 137 X_ofile_Encode (.node 135 X_fds_fdsOf_1 (.node 134 X_slices_Clone_s_byte_byte .leaf .leaf) (.node 136 X_ring_Encode .leaf .leaf)) (.node 139 X_kern_check_1 (.node 138 X_commons_Commons_FreePipe .leaf .leaf) .leaf)))) (.node 154 X_ref1_Names_Drop (.node 147 X_ref1_NewNames (.node 144 X_slices_Index_s_int_int (.node 142 X_table_New_api_Cap (.node 141 X_kern_share .leaf .leaf) (.node 143 X_mem_Mem_Size .leaf .leaf)) (.node 146 X_caps_Space_add (.node 145 X_caps_Space_Put_1 .leaf .leaf) .leaf)) (.node 151 X_ref1_Regions_place (.node 149 X_ref1_Space_env (.node 148 X_ref1_Within .leaf .leaf) (.node 150 X_ref1_Space_add .leaf .leaf)) (.node 153 X_ref1_Space_Under (.node 152 X_ref1_Space_Get .leaf .leaf) .leaf))) (.node 161 X_mem_Mem_Store (.node 158 X_ref1_Sect_Holds (.node 156 X_ref1_Sect_at (.node 155 X_ref1_Quota_Owns .leaf .leaf) (.node 157 X_ref1_Sect_drop .leaf .leaf)) (.node 160 X_region_Regions_place (.node 159 X_ref1_Names_All .leaf .leaf) .leaf)) (.node 164 X_table_Table_api_Cap_Drop (.node 163 X_caps_Space_Under (.node 162 X_caps_Space_Get .leaf .leaf) .leaf) (.node 166 X_quota_Quota_Owns (.node 165 X_quota_Quota_is .leaf .leaf) .leaf))))) (.node 195 X_pslot_Ok (.node 181 X_codec_Codec_api_Pipe_Encode (.node 174 X_pslot_get (.node 171 X_codec_Blank_1 (.node 169 X_sect_Sect_Leave (.node 168 X_sect_Sect_Enter .leaf .leaf) (.node 170 X_slices_ContainsFunc_s_byte_byte .leaf .leaf)) (.node 173 X_pslot_put (.node 172 X_codec_New_api_Proc .leaf .leaf) .leaf)) (.node 178 X_codec_New_api_Pipe (.node 176 X_ofile_put (.node 175 X_codec_New_api_File .leaf .leaf) (.node 177 X_ofile_get .leaf .leaf)) (.node 180 X_ring_get (.node 179 X_ring_put .leaf .leaf) .leaf))) (.node 188 X_ref1_rising (.node 185 X_ref1_Names_Add (.node 183 X_slices_IndexFunc_s_int_int (.node 182 X_codec_Codec_api_File_Encode .leaf .leaf) (.node 184 X_table_Table_api_Cap_Add .leaf .leaf)) (.node 187 X_ref1_has (.node 186 X_ref1_Names_Has .leaf .leaf) .leaf)) (.node 192 X_table_Table_api_Cap_at (.node 190 X_slices_SortFunc_s_api_Ref_api_Ref (.node 189 X_table_Table_api_Cap_Get .leaf .leaf) (.node 191 X_caps_Space_Under_1 .leaf .leaf)) (.node 194 X_slices_IndexFunc_s_byte_byte (.node 193 X_sect_Sect_Holds .leaf .leaf) .leaf)))) (.node 209 X_slices_choosePivotCmpFunc_api_Ref (.node 202 X_math_bits_Len (.node 199 X_ofile_Ok (.node 197 X_codec_Get2 (.node 196 X_codec_Put2 .leaf .leaf) (.node 198 X_slices_Equal_s_byte_byte .leaf .leaf)) (.node 201 X_slices_pdqsortCmpFunc_api_Ref (.node 200 X_ring_Ok .leaf .leaf) .leaf)) (.node 206 X_slices_insertionSortCmpFunc_api_Ref (.node 204 X_pslot_Ok_1 (.node 203 X_pslot_bits .leaf .leaf) (.node 205 X_ring_Ok_1 .leaf .leaf)) (.node 208 X_slices_breakPatternsCmpFunc_api_Ref (.node 207 X_slices_heapSortCmpFunc_api_Ref .leaf .leaf) .leaf))) (.node 216 X_slices_siftDownCmpFunc_api_Ref (.node 213 X_slices_partitionCmpFunc_api_Ref (.node 211 X_slices_partialInsertionSortCmpFunc_api_Ref (.node 210 X_slices_reverseRangeCmpFunc_api_Ref .leaf .leaf) (.node 212 X_slices_partitionEqualCmpFunc_api_Ref .leaf .leaf)) (.node 215 X_math_bits_Len64 (.node 214 X_math_bits_Len32 .leaf .leaf) .leaf)) (.node 219 X_slices_medianAdjacentCmpFunc_api_Ref (.node 218 X_slices_xorshift_Next (.node 217 X_slices_nextPowerOfTwo .leaf .leaf) .leaf) (.node 221 X_slices_order2CmpFunc_api_Ref (.node 220 X_slices_medianCmpFunc_api_Ref .leaf .leaf) .leaf))))))
noncomputable def TABL : Tab Lab := .node 153007050 LB_ref1_Space_Under_L5 (.node 77003037 LB_proc_CloseFile_R1 (.node 33003008 LB_ref1_NewKern_L1 (.node 31003006 LB_ref15_Boot_L1 (.node 16003026 LB_law11_Proc_L1 (.node 4003026 LB_law18_FdsLimits_L2 (.node 4003012 LB_law18_FdsLimits_L1 .leaf .leaf) (.node 4008049 LB_law18_FdsLimits_R1 .leaf .leaf)) (.node 20007012 LB_commons_Commons_Bad_L2 (.node 20003006 LB_commons_Commons_Bad_L1 .leaf .leaf) (.node 23003018 LB_law17_Fill_L1 .leaf .leaf))) (.node 32003024 LB_kern_New_L2 (.node 31008014 LB_ref15_Boot_L2 (.node 31003026 LB_ref15_Boot_L3 .leaf .leaf) (.node 32003010 LB_kern_New_L1 .leaf .leaf)) (.node 32007044 LB_kern_New_L4 (.node 32003036 LB_kern_New_L3 .leaf .leaf) .leaf))) (.node 58003008 LB_ref11_PipeBytes_L1 (.node 41003017 LB_commons_record_api_Proc_R1 (.node 33007026 LB_ref1_NewKern_L3 (.node 33003016 LB_ref1_NewKern_L2 .leaf .leaf) (.node 38003006 LB_table_Table_api_Cap_Names_L1 .leaf .leaf)) (.node 47003017 LB_commons_record_api_Pipe_R1 (.node 44003017 LB_commons_record_api_File_R1 .leaf .leaf) (.node 50003017 LB_commons_record_int_R1 .leaf .leaf))) (.node 64003018 LB_proc_share_L2 (.node 63003004 LB_proc_free_L1 (.node 59003008 LB_ref11_ProcBytes_L1 .leaf .leaf) (.node 64003006 LB_proc_share_L1 .leaf .leaf)) (.node 69003006 LB_fds_free_L1 (.node 64003038 LB_proc_share_L3 .leaf .leaf) .leaf)))) (.node 106003033 LB_ref1_Sect_Enter_R4 (.node 92003006 LB_ref1_NewSpace_L1 (.node 83003006 LB_quota_New_L1 (.node 78003026 LB_kern_check_L2 (.node 78003014 LB_kern_check_L1 .leaf .leaf) (.node 82003006 LB_caps_New_L1 .leaf .leaf)) (.node 90003006 LB_ref1_NewQuota_L1 (.node 87003006 LB_quota_Quota_First_L1 .leaf .leaf) (.node 91003006 LB_ref1_Quota_First_L1 .leaf .leaf))) (.node 106002019 LB_ref1_Sect_Enter_R1 (.node 102003012 LB_ref1_Space_Revoke_L1 (.node 95003004 LB_ref1_in_L1 .leaf .leaf) (.node 103003008 LB_ref1_Quota_Alloc_L1 .leaf .leaf)) (.node 106003027 LB_ref1_Sect_Enter_R3 (.node 106003021 LB_ref1_Sect_Enter_R2 .leaf .leaf) .leaf))) (.node 132003022 LB_commons_Commons_Look_L3 (.node 130003006 LB_ref1_Sum_L1 (.node 114003010 LB_caps_Space_Revoke_L1 (.node 106003034 LB_ref1_Sect_Enter_L1 .leaf .leaf) (.node 129003006 LB_codec_Sum_L1 .leaf .leaf)) (.node 132003012 LB_commons_Commons_Look_L2 (.node 132003002 LB_commons_Commons_Look_L1 .leaf .leaf) .leaf)) (.node 153003012 LB_ref1_Space_Under_L1 (.node 144003004 LB_slices_Index_s_int_int_L1 (.node 142003006 LB_table_New_api_Cap_L1 .leaf .leaf) (.node 147003006 LB_ref1_NewNames_L1 .leaf .leaf)) (.node 153006018 LB_ref1_Space_Under_L2 (.node 153003042 LB_ref1_Space_Under_L3 .leaf .leaf) .leaf))))) (.node 201006031 LB_slices_pdqsortCmpFunc_api_Ref_R2 (.node 173003018 LB_pslot_put_L2 (.node 163010024 LB_caps_Space_Under_L4 (.node 163003012 LB_caps_Space_Under_L1 (.node 156003004 LB_ref1_Sect_at_L1 (.node 153010026 LB_ref1_Space_Under_L4 .leaf .leaf) (.node 159003006 LB_ref1_Names_All_L1 .leaf .leaf)) (.node 163006018 LB_caps_Space_Under_L2 (.node 163003044 LB_caps_Space_Under_L3 .leaf .leaf) (.node 163007050 LB_caps_Space_Under_L5 .leaf .leaf))) (.node 168003035 LB_sect_Sect_Enter_R4 (.node 168003023 LB_sect_Sect_Enter_R2 (.node 168002021 LB_sect_Sect_Enter_R1 .leaf .leaf) (.node 168003029 LB_sect_Sect_Enter_R3 .leaf .leaf)) (.node 173003008 LB_pslot_put_L1 (.node 168003036 LB_sect_Sect_Enter_L1 .leaf .leaf) .leaf))) (.node 187003004 LB_ref1_has_L1 (.node 183003004 LB_slices_IndexFunc_s_int_int_L1 (.node 174003006 LB_pslot_get_L1 (.node 173003028 LB_pslot_put_L3 .leaf .leaf) (.node 174003016 LB_pslot_get_L2 .leaf .leaf)) (.node 185003004 LB_ref1_Names_Add_L1 (.node 184003004 LB_table_Table_api_Cap_Add_L1 .leaf .leaf) .leaf)) (.node 198003008 LB_slices_Equal_s_byte_byte_L1 (.node 188008012 LB_ref1_rising_L2 (.node 188003006 LB_ref1_rising_L1 .leaf .leaf) (.node 194003004 LB_slices_IndexFunc_s_byte_byte_L1 .leaf .leaf)) (.node 201005021 LB_slices_pdqsortCmpFunc_api_Ref_R1 (.node 201002004 LB_slices_pdqsortCmpFunc_api_Ref_L1 .leaf .leaf) .leaf)))) (.node 211008028 LB_slices_partialInsertionSortCmpFunc_api_Ref_L3 (.node 209002023 LB_slices_choosePivotCmpFunc_api_Ref_R1 (.node 207002016 LB_slices_heapSortCmpFunc_api_Ref_L2 (.node 206002002 LB_slices_insertionSortCmpFunc_api_Ref_L1 (.node 201006035 LB_slices_pdqsortCmpFunc_api_Ref_R3 .leaf .leaf) (.node 206006008 LB_slices_insertionSortCmpFunc_api_Ref_L2 .leaf .leaf)) (.node 208002010 LB_slices_breakPatternsCmpFunc_api_Ref_L1 (.node 207003008 LB_slices_heapSortCmpFunc_api_Ref_L1 .leaf .leaf) (.node 208005021 LB_slices_breakPatternsCmpFunc_api_Ref_R1 .leaf .leaf))) (.node 211007037 LB_slices_partialInsertionSortCmpFunc_api_Ref_R1 (.node 210002004 LB_slices_reverseRangeCmpFunc_api_Ref_L1 (.node 209002025 LB_slices_choosePivotCmpFunc_api_Ref_R2 .leaf .leaf) (.node 211003006 LB_slices_partialInsertionSortCmpFunc_api_Ref_L1 .leaf .leaf)) (.node 211008010 LB_slices_partialInsertionSortCmpFunc_api_Ref_L2 (.node 211007040 LB_slices_partialInsertionSortCmpFunc_api_Ref_L4 .leaf .leaf) .leaf))) (.node 213007026 LB_slices_partitionCmpFunc_api_Ref_L4 (.node 213003006 LB_slices_partitionCmpFunc_api_Ref_L1 (.node 212007006 LB_slices_partitionEqualCmpFunc_api_Ref_L2 (.node 212003006 LB_slices_partitionEqualCmpFunc_api_Ref_L1 .leaf .leaf) (.node 212007010 LB_slices_partitionEqualCmpFunc_api_Ref_L3 .leaf .leaf)) (.node 213003026 LB_slices_partitionCmpFunc_api_Ref_L3 (.node 213003010 LB_slices_partitionCmpFunc_api_Ref_L2 .leaf .leaf) .leaf)) (.node 215003015 LB_math_bits_Len64_R2 (.node 214003009 LB_math_bits_Len32_R1 (.node 213007030 LB_slices_partitionCmpFunc_api_Ref_L5 .leaf .leaf) (.node 215003009 LB_math_bits_Len64_R1 .leaf .leaf)) (.node 216006011 LB_slices_siftDownCmpFunc_api_Ref_R1 (.node 216002002 LB_slices_siftDownCmpFunc_api_Ref_L1 .leaf .leaf) .leaf)))))
noncomputable def TABS : Tabs := ⟨TABF, TABL⟩
end Go.EQ

/- TaintCloses returns true whatever it is given: a plan, whole numbers, a whole number; and the card ties the two tables that its code names to the program's text. No condition. -/
import Derived.Test.YtnkokamjidjnpaaGreatDoorMf
import Derived.KernelRfl
set_option linter.unusedVariables false
set_option linter.unusedSimpArgs false
set_option linter.unusedSectionVars false
set_option maxRecDepth 100000
set_option linter.unusedVariables false
namespace Go.EQ
open Go Go.Proofs
open Go.NN hiding bnd ld gInt gBool gStr gPtr gSl gMap gFv gAgg gCells nw pV pAgg pCells apd fitsOpen liveA mapAt
open Go.NP Go.NW
theorem x_law24_awake : FunOk PR cutsOf TABS F_law24_awake X_law24_awake := fun call R a h r hh => by
  unfold X_law24_awake at hh
  rw [ieq_eq, ckR_eq] at hh
  split at hh
  · refine ⟨_, _, _, _, k_law24_awake, rfl, ?_⟩
    refine Eq.trans ?_ hh; kernel_rfl
  · cases hh
theorem x_taint_Closure : FunOk PR cutsOf TABS F_taint_Closure X_taint_Closure := fun call R a h r hh => by
  unfold X_taint_Closure at hh
  rw [ine_eq] at hh
  split at hh
  · refine ⟨_, _, _, _, k_taint_Closure, rfl, ?_⟩
    refine Eq.trans ?_ hh; kernel_rfl
  · cases hh
theorem x_taint_Closure_L1 : LabOk PR cutsOf TABS (labKey F_taint_Closure 3010) LB_taint_Closure_L1 := ⟨rfl, by decide, by kernel_rfl, fun call R a h r hh => by
  change X_taint_Closure_L1 H call (lr TABS R) a h = some r at hh
  unfold X_taint_Closure_L1 at hh
  rw [ilt_eq] at hh
  split at hh
  · refine ⟨_, _, _, _, k_taint_Closure, ?_⟩
    refine Eq.trans ?_ hh; kernel_rfl
  · cases hh⟩
theorem x_taint_Closure_L2 : LabOk PR cutsOf TABS (labKey F_taint_Closure 7014) LB_taint_Closure_L2 := ⟨rfl, by decide, by kernel_rfl, fun call R a h r hh => by
  change X_taint_Closure_L2 H call (lr TABS R) a h = some r at hh
  unfold X_taint_Closure_L2 at hh
  rw [wrapF_eq, ilt_eq, ckR_eq] at hh
  split at hh
  · refine ⟨_, _, _, _, k_taint_Closure, ?_⟩
    refine Eq.trans ?_ hh; kernel_rfl
  · cases hh⟩
theorem x_taint_Differ : FunOk PR cutsOf TABS F_taint_Differ X_taint_Differ := fun call R a h r hh => by
  unfold X_taint_Differ at hh
  rw [ine_eq] at hh
  split at hh
  · refine ⟨_, _, _, _, k_taint_Differ, rfl, ?_⟩
    refine Eq.trans ?_ hh; kernel_rfl
  · cases hh
theorem x_taint_Differ_L1 : LabOk PR cutsOf TABS (labKey F_taint_Differ 3014) LB_taint_Differ_L1 := ⟨rfl, by decide, by kernel_rfl, fun call R a h r hh => by
  change X_taint_Differ_L1 H call (lr TABS R) a h = some r at hh
  unfold X_taint_Differ_L1 at hh
  rw [wrapF_eq, ilt_eq, ile_eq, ckR_eq] at hh
  split at hh
  · refine ⟨_, _, _, _, k_taint_Differ, ?_⟩
    refine Eq.trans ?_ hh; kernel_rfl
  · cases hh⟩
theorem x_world_Check : FunOk PR cutsOf TABS F_world_Check X_world_Check := fun call R a h r hh => by
  unfold X_world_Check at hh
  rw [ilt_eq] at hh
  split at hh
  · refine ⟨_, _, _, _, k_world_Check, rfl, ?_⟩
    refine Eq.trans ?_ hh; kernel_rfl
  · cases hh
theorem x_world_Check_L1 : LabOk PR cutsOf TABS (labKey F_world_Check 3010) LB_world_Check_L1 := ⟨rfl, by decide, by kernel_rfl, fun call R a h r hh => by
  change X_world_Check_L1 H call (lr TABS R) a h = some r at hh
  unfold X_world_Check_L1 at hh
  rw [wrapF_eq, ieq_eq, ilt_eq, ile_eq, ckR_eq] at hh
  split at hh
  · refine ⟨_, _, _, _, k_world_Check, ?_⟩
    refine Eq.trans ?_ hh; kernel_rfl
  · cases hh⟩
theorem x_world_Run : FunOk PR cutsOf TABS F_world_Run X_world_Run := fun call R a h r hh => by
  unfold X_world_Run at hh
  rw [ine_eq] at hh
  split at hh
  · refine ⟨_, _, _, _, k_world_Run, rfl, ?_⟩
    refine Eq.trans ?_ hh; kernel_rfl
  · cases hh
theorem x_world_Run_L1 : LabOk PR cutsOf TABS (labKey F_world_Run 3012) LB_world_Run_L1 := ⟨rfl, by decide, by kernel_rfl, fun call R a h r hh => by
  change X_world_Run_L1 H call (lr TABS R) a h = some r at hh
  unfold X_world_Run_L1 at hh
  rw [wrapF_eq, ilt_eq, ckR_eq] at hh
  split at hh
  · refine ⟨_, _, _, _, k_world_Run, ?_⟩
    refine Eq.trans ?_ hh; kernel_rfl
  · cases hh⟩
theorem x_slices_Clone_s_api_Step_api_Step : FunOk PR cutsOf TABS F_slices_Clone_s_api_Step_api_Step X_slices_Clone_s_api_Step_api_Step := fun call R a h r hh => by
  unfold X_slices_Clone_s_api_Step_api_Step at hh
  split at hh
  · refine ⟨_, _, _, _, k_slices_Clone_s_api_Step_api_Step, rfl, ?_⟩
    refine Eq.trans ?_ hh; kernel_rfl
  · cases hh
theorem x_kern_New : FunOk PR cutsOf TABS F_kern_New X_kern_New := fun call R a h r hh => by
  unfold X_kern_New at hh
  split at hh
  · refine ⟨_, _, _, _, k_kern_New, rfl, ?_⟩
    refine Eq.trans ?_ hh; kernel_rfl
  · cases hh
theorem x_kern_New_L1 : LabOk PR cutsOf TABS (labKey F_kern_New 3010) LB_kern_New_L1 := ⟨rfl, by decide, by kernel_rfl, fun call R a h r hh => by
  change X_kern_New_L1 H call (lr TABS R) a h = some r at hh
  unfold X_kern_New_L1 at hh
  rw [wrapF_eq, ilt_eq, ckR_eq] at hh
  split at hh
  · refine ⟨_, _, _, _, k_kern_New, ?_⟩
    refine Eq.trans ?_ hh; kernel_rfl
  · cases hh⟩
theorem x_kern_New_L2 : LabOk PR cutsOf TABS (labKey F_kern_New 3024) LB_kern_New_L2 := ⟨rfl, by decide, by kernel_rfl, fun call R a h r hh => by
  change X_kern_New_L2 H call (lr TABS R) a h = some r at hh
  unfold X_kern_New_L2 at hh
  rw [wrapF_eq, ilt_eq, ckR_eq] at hh
  split at hh
  · refine ⟨_, _, _, _, k_kern_New, ?_⟩
    refine Eq.trans ?_ hh; kernel_rfl
  · cases hh⟩
theorem x_kern_New_L3 : LabOk PR cutsOf TABS (labKey F_kern_New 3036) LB_kern_New_L3 := ⟨rfl, by decide, by kernel_rfl, fun call R a h r hh => by
  change X_kern_New_L3 H call (lr TABS R) a h = some r at hh
  unfold X_kern_New_L3 at hh
  rw [wrapF_eq, ilt_eq, ckR_eq] at hh
  split at hh
  · refine ⟨_, _, _, _, k_kern_New, ?_⟩
    refine Eq.trans ?_ hh; kernel_rfl
  · cases hh⟩
theorem x_kern_New_L4 : LabOk PR cutsOf TABS (labKey F_kern_New 7044) LB_kern_New_L4 := ⟨rfl, by decide, by kernel_rfl, fun call R a h r hh => by
  change X_kern_New_L4 H call (lr TABS R) a h = some r at hh
  unfold X_kern_New_L4 at hh
  rw [wrapF_eq, ilt_eq, ckR_eq] at hh
  split at hh
  · refine ⟨_, _, _, _, k_kern_New, ?_⟩
    refine Eq.trans ?_ hh; kernel_rfl
  · cases hh⟩
theorem x_kern_Kern_Do : FunOk PR cutsOf TABS F_kern_Kern_Do X_kern_Kern_Do := fun call R a h r hh => by
  unfold X_kern_Kern_Do at hh
  rw [ilt_eq, ile_eq] at hh
  split at hh
  · refine ⟨_, _, _, _, k_kern_Kern_Do, rfl, ?_⟩
    refine Eq.trans ?_ hh; kernel_rfl
  · cases hh
theorem x_kern_check : FunOk PR cutsOf TABS F_kern_check X_kern_check := fun call R a h r hh => by
  unfold X_kern_check at hh
  rw [ilt_eq] at hh
  split at hh
  · refine ⟨_, _, _, _, k_kern_check, rfl, ?_⟩
    refine Eq.trans ?_ hh; kernel_rfl
  · cases hh
theorem x_kern_check_L1 : LabOk PR cutsOf TABS (labKey F_kern_check 3014) LB_kern_check_L1 := ⟨rfl, by decide, by kernel_rfl, fun call R a h r hh => by
  change X_kern_check_L1 H call (lr TABS R) a h = some r at hh
  unfold X_kern_check_L1 at hh
  rw [wrapF_eq, ilt_eq, ckR_eq] at hh
  split at hh
  · cases hbfN0 : Nat.beq _ F_kern_check_1 <;> rw [hbfN0] at hh
    · cases hh
    obtain rfl := Nat.eq_of_beq_eq_true hbfN0
    refine ⟨_, _, _, _, k_kern_check, ?_⟩
    refine Eq.trans ?_ hh; kernel_rfl
  · cases hh⟩
theorem x_kern_check_L2 : LabOk PR cutsOf TABS (labKey F_kern_check 3026) LB_kern_check_L2 := ⟨rfl, by decide, by kernel_rfl, fun call R a h r hh => by
  change X_kern_check_L2 H call (lr TABS R) a h = some r at hh
  unfold X_kern_check_L2 at hh
  rw [wrapF_eq, ilt_eq, ckR_eq] at hh
  split at hh
  · cases hbfN0 : Nat.beq _ F_kern_check_1 <;> rw [hbfN0] at hh
    · cases hh
    obtain rfl := Nat.eq_of_beq_eq_true hbfN0
    refine ⟨_, _, _, _, k_kern_check, ?_⟩
    refine Eq.trans ?_ hh; kernel_rfl
  · cases hh⟩
theorem x_slices_Clone_s_int_int : FunOk PR cutsOf TABS F_slices_Clone_s_int_int X_slices_Clone_s_int_int := fun call R a h r hh => by
  unfold X_slices_Clone_s_int_int at hh
  split at hh
  · refine ⟨_, _, _, _, k_slices_Clone_s_int_int, rfl, ?_⟩
    refine Eq.trans ?_ hh; kernel_rfl
  · cases hh
theorem x_mem_New : FunOk PR cutsOf TABS F_mem_New X_mem_New := fun call R a h r hh => by
  unfold X_mem_New at hh
  rw [wrapF_eq] at hh
  split at hh
  · refine ⟨_, _, _, _, k_mem_New, rfl, ?_⟩
    refine Eq.trans ?_ hh; kernel_rfl
  · cases hh
theorem x_quota_New : FunOk PR cutsOf TABS F_quota_New X_quota_New := fun call R a h r hh => by
  unfold X_quota_New at hh
  rw [ckL_eq] at hh
  split at hh
  · refine ⟨_, _, _, _, k_quota_New, rfl, ?_⟩
    refine Eq.trans ?_ hh; kernel_rfl
  · cases hh
theorem x_quota_New_L1 : LabOk PR cutsOf TABS (labKey F_quota_New 3006) LB_quota_New_L1 := ⟨rfl, by decide, by kernel_rfl, fun call R a h r hh => by
  change X_quota_New_L1 H call (lr TABS R) a h = some r at hh
  unfold X_quota_New_L1 at hh
  rw [wrapF_eq, ilt_eq, ckR_eq] at hh
  split at hh
  · refine ⟨_, _, _, _, k_quota_New, ?_⟩
    refine Eq.trans ?_ hh; kernel_rfl
  · cases hh⟩
theorem x_caps_Space_Put : FunOk PR cutsOf TABS F_caps_Space_Put X_caps_Space_Put := fun call R a h r hh => by
  unfold X_caps_Space_Put at hh
  rw [ine_eq] at hh
  split at hh
  · refine ⟨_, _, _, _, k_caps_Space_Put, rfl, ?_⟩
    refine Eq.trans ?_ hh; kernel_rfl
  · cases hh
theorem x_commons_Commons_SetTerm : FunOk PR cutsOf TABS F_commons_Commons_SetTerm X_commons_Commons_SetTerm := fun call R a h r hh => by
  unfold X_commons_Commons_SetTerm at hh
  split at hh
  · refine ⟨_, _, _, _, k_commons_Commons_SetTerm, rfl, ?_⟩
    refine Eq.trans ?_ hh; kernel_rfl
  · cases hh
theorem x_commons_Commons_SetFront : FunOk PR cutsOf TABS F_commons_Commons_SetFront X_commons_Commons_SetFront := fun call R a h r hh => by
  unfold X_commons_Commons_SetFront at hh
  split at hh
  · refine ⟨_, _, _, _, k_commons_Commons_SetFront, rfl, ?_⟩
    refine Eq.trans ?_ hh; kernel_rfl
  · cases hh
theorem x_commons_Commons_SetProc : FunOk PR cutsOf TABS F_commons_Commons_SetProc X_commons_Commons_SetProc := fun call R a h r hh => by
  unfold X_commons_Commons_SetProc at hh
  split at hh
  · refine ⟨_, _, _, _, k_commons_Commons_SetProc, rfl, ?_⟩
    refine Eq.trans ?_ hh; kernel_rfl
  · cases hh
theorem x_slices_ContainsFunc_s_int_int : FunOk PR cutsOf TABS F_slices_ContainsFunc_s_int_int X_slices_ContainsFunc_s_int_int := fun call R a h r hh => by
  unfold X_slices_ContainsFunc_s_int_int at hh
  rw [ile_eq] at hh
  split at hh
  · refine ⟨_, _, _, _, k_slices_ContainsFunc_s_int_int, rfl, ?_⟩
    refine Eq.trans ?_ hh; kernel_rfl
  · cases hh
theorem x_kern_share : FunOk PR cutsOf TABS F_kern_share X_kern_share := fun call R a h r hh => by
  unfold X_kern_share at hh
  rw [wrapF_eq, ilt_eq, ile_eq, ckR_eq] at hh
  split at hh
  · refine ⟨_, _, _, _, k_kern_share, rfl, ?_⟩
    refine Eq.trans ?_ hh; kernel_rfl
  · cases hh
theorem x_slices_Index_s_int_int : FunOk PR cutsOf TABS F_slices_Index_s_int_int X_slices_Index_s_int_int := fun call R a h r hh => by
  unfold X_slices_Index_s_int_int at hh
  split at hh
  · refine ⟨_, _, _, _, k_slices_Index_s_int_int, rfl, ?_⟩
    refine Eq.trans ?_ hh; kernel_rfl
  · cases hh
theorem x_slices_Index_s_int_int_L1 : LabOk PR cutsOf TABS (labKey F_slices_Index_s_int_int 3004) LB_slices_Index_s_int_int_L1 := ⟨rfl, by decide, by kernel_rfl, fun call R a h r hh => by
  change X_slices_Index_s_int_int_L1 H call (lr TABS R) a h = some r at hh
  unfold X_slices_Index_s_int_int_L1 at hh
  rw [wrapF_eq, ieq_eq, ilt_eq, ckR_eq] at hh
  split at hh
  · refine ⟨_, _, _, _, k_slices_Index_s_int_int, ?_⟩
    refine Eq.trans ?_ hh; kernel_rfl
  · cases hh⟩
theorem x_caps_Space_Put_1 : FunOk PR cutsOf TABS F_caps_Space_Put_1 X_caps_Space_Put_1 := fun call R a h r hh => by
  unfold X_caps_Space_Put_1 at hh
  rw [ile_eq] at hh
  split at hh
  · refine ⟨_, _, _, _, k_caps_Space_Put_1, rfl, ?_⟩
    refine Eq.trans ?_ hh; kernel_rfl
  · cases hh
theorem x_caps_Space_is : FunOk PR cutsOf TABS F_caps_Space_is X_caps_Space_is := fun call R a h r hh => by
  unfold X_caps_Space_is at hh
  rw [ilt_eq, ile_eq] at hh
  split at hh
  · refine ⟨_, _, _, _, k_caps_Space_is, rfl, ?_⟩
    refine Eq.trans ?_ hh; kernel_rfl
  · cases hh
theorem x_kern_Kern_Space : FunOk PR cutsOf TABS F_kern_Kern_Space X_kern_Kern_Space := fun call R a h r hh => by
  unfold X_kern_Kern_Space at hh
  split at hh
  · refine ⟨_, _, _, _, k_kern_Kern_Space, rfl, ?_⟩
    refine Eq.trans ?_ hh; kernel_rfl
  · cases hh
theorem x_ring_Encode : FunOk PR cutsOf TABS F_ring_Encode X_ring_Encode := fun call R a h r hh => by
  unfold X_ring_Encode at hh
  split at hh
  · refine ⟨_, _, _, _, k_ring_Encode, rfl, ?_⟩
    refine Eq.trans ?_ hh; kernel_rfl
  · cases hh
theorem x_commons_FrontBytes : FunOk PR cutsOf TABS F_commons_FrontBytes X_commons_FrontBytes := fun call R a h r hh => by
  unfold X_commons_FrontBytes at hh
  rw [wrapF_eq, ilt_eq, ile_eq] at hh
  split at hh
  · refine ⟨_, _, _, _, k_commons_FrontBytes, rfl, ?_⟩
    refine Eq.trans ?_ hh; kernel_rfl
  · cases hh
theorem x_ofile_Encode : FunOk PR cutsOf TABS F_ofile_Encode X_ofile_Encode := fun call R a h r hh => by
  unfold X_ofile_Encode at hh
  split at hh
  · refine ⟨_, _, _, _, k_ofile_Encode, rfl, ?_⟩
    refine Eq.trans ?_ hh; kernel_rfl
  · cases hh
theorem x_pslot_Encode : FunOk PR cutsOf TABS F_pslot_Encode X_pslot_Encode := fun call R a h r hh => by
  unfold X_pslot_Encode at hh
  split at hh
  · refine ⟨_, _, _, _, k_pslot_Encode, rfl, ?_⟩
    refine Eq.trans ?_ hh; kernel_rfl
  · cases hh
theorem x_commons_Commons_most : FunOk PR cutsOf TABS F_commons_Commons_most X_commons_Commons_most := fun call R a h r hh => by
  unfold X_commons_Commons_most at hh
  rw [wrapF_eq, ieq_eq] at hh
  split at hh
  · refine ⟨_, _, _, _, k_commons_Commons_most, rfl, ?_⟩
    refine Eq.trans ?_ hh; kernel_rfl
  · cases hh
theorem x_ring_Ok : FunOk PR cutsOf TABS F_ring_Ok X_ring_Ok := fun call R a h r hh => by
  unfold X_ring_Ok at hh
  split at hh
  · refine ⟨_, _, _, _, k_ring_Ok, rfl, ?_⟩
    refine Eq.trans ?_ hh; kernel_rfl
  · cases hh
theorem x_slices_IndexFunc_s_int_int : FunOk PR cutsOf TABS F_slices_IndexFunc_s_int_int X_slices_IndexFunc_s_int_int := fun call R a h r hh => by
  unfold X_slices_IndexFunc_s_int_int at hh
  split at hh
  · refine ⟨_, _, _, _, k_slices_IndexFunc_s_int_int, rfl, ?_⟩
    refine Eq.trans ?_ hh; kernel_rfl
  · cases hh
theorem x_slices_IndexFunc_s_int_int_L1 : LabOk PR cutsOf TABS (labKey F_slices_IndexFunc_s_int_int 3004) LB_slices_IndexFunc_s_int_int_L1 := ⟨rfl, by decide, by kernel_rfl, fun call R a h r hh => by
  change X_slices_IndexFunc_s_int_int_L1 H call (lr TABS R) a h = some r at hh
  unfold X_slices_IndexFunc_s_int_int_L1 at hh
  rw [wrapF_eq, ilt_eq, ckR_eq] at hh
  split at hh
  · refine ⟨_, _, _, _, k_slices_IndexFunc_s_int_int, ?_⟩
    refine Eq.trans ?_ hh; kernel_rfl
  · cases hh⟩
theorem x_table_Table_api_Cap_Names : FunOk PR cutsOf TABS F_table_Table_api_Cap_Names X_table_Table_api_Cap_Names := fun call R a h r hh => by
  unfold X_table_Table_api_Cap_Names at hh
  split at hh
  · refine ⟨_, _, _, _, k_table_Table_api_Cap_Names, rfl, ?_⟩
    refine Eq.trans ?_ hh; kernel_rfl
  · cases hh
theorem x_table_Table_api_Cap_Names_L1 : LabOk PR cutsOf TABS (labKey F_table_Table_api_Cap_Names 3006) LB_table_Table_api_Cap_Names_L1 := ⟨rfl, by decide, by kernel_rfl, fun call R a h r hh => by
  change X_table_Table_api_Cap_Names_L1 H call (lr TABS R) a h = some r at hh
  unfold X_table_Table_api_Cap_Names_L1 at hh
  rw [wrapF_eq, ilt_eq, ckR_eq] at hh
  split at hh
  · refine ⟨_, _, _, _, k_table_Table_api_Cap_Names, ?_⟩
    refine Eq.trans ?_ hh; kernel_rfl
  · cases hh⟩
theorem x_ring_Codec : FunOk PR cutsOf TABS F_ring_Codec X_ring_Codec := fun call R a h r hh => by
  unfold X_ring_Codec at hh
  split at hh
  · refine ⟨_, _, _, _, k_ring_Codec, rfl, ?_⟩
    refine Eq.trans ?_ hh; kernel_rfl
  · cases hh
theorem x_codec_Codec_api_Pipe_Encode : FunOk PR cutsOf TABS F_codec_Codec_api_Pipe_Encode X_codec_Codec_api_Pipe_Encode := fun call R a h r hh => by
  unfold X_codec_Codec_api_Pipe_Encode at hh
  split at hh
  · refine ⟨_, _, _, _, k_codec_Codec_api_Pipe_Encode, rfl, ?_⟩
    refine Eq.trans ?_ hh; kernel_rfl
  · cases hh
theorem x_pslot_Codec : FunOk PR cutsOf TABS F_pslot_Codec X_pslot_Codec := fun call R a h r hh => by
  unfold X_pslot_Codec at hh
  split at hh
  · refine ⟨_, _, _, _, k_pslot_Codec, rfl, ?_⟩
    refine Eq.trans ?_ hh; kernel_rfl
  · cases hh
theorem x_codec_Codec_api_Proc_Encode : FunOk PR cutsOf TABS F_codec_Codec_api_Proc_Encode X_codec_Codec_api_Proc_Encode := fun call R a h r hh => by
  unfold X_codec_Codec_api_Proc_Encode at hh
  split at hh
  · refine ⟨_, _, _, _, k_codec_Codec_api_Proc_Encode, rfl, ?_⟩
    refine Eq.trans ?_ hh; kernel_rfl
  · cases hh
theorem x_ring_Ok_1 : FunOk PR cutsOf TABS F_ring_Ok_1 X_ring_Ok_1 := fun call R a h r hh => by
  unfold X_ring_Ok_1 at hh
  rw [ile_eq] at hh
  split at hh
  · refine ⟨_, _, _, _, k_ring_Ok_1, rfl, ?_⟩
    refine Eq.trans ?_ hh; kernel_rfl
  · cases hh
theorem x_region_Regions_place : FunOk PR cutsOf TABS F_region_Regions_place X_region_Regions_place := fun call R a h r hh => by
  unfold X_region_Regions_place at hh
  rw [wrapF_eq, bitA_eq, ine_eq, ieq_eq, ilt_eq, ile_eq, ckR_eq] at hh
  split at hh
  · refine ⟨_, _, _, _, k_region_Regions_place, rfl, ?_⟩
    refine Eq.trans ?_ hh; kernel_rfl
  · cases hh
theorem x_caps_Space_Get : FunOk PR cutsOf TABS F_caps_Space_Get X_caps_Space_Get := fun call R a h r hh => by
  unfold X_caps_Space_Get at hh
  rw [ckR_eq] at hh
  split at hh
  · refine ⟨_, _, _, _, k_caps_Space_Get, rfl, ?_⟩
    refine Eq.trans ?_ hh; kernel_rfl
  · cases hh
theorem x_table_Table_api_Cap_name : FunOk PR cutsOf TABS F_table_Table_api_Cap_name X_table_Table_api_Cap_name := fun call R a h r hh => by
  unfold X_table_Table_api_Cap_name at hh
  rw [wrapF_eq, ckR_eq] at hh
  split at hh
  · refine ⟨_, _, _, _, k_table_Table_api_Cap_name, rfl, ?_⟩
    refine Eq.trans ?_ hh; kernel_rfl
  · cases hh
theorem x_ring_put : FunOk PR cutsOf TABS F_ring_put X_ring_put := fun call R a h r hh => by
  unfold X_ring_put at hh
  rw [wrapF_eq, ckR_eq, ckL_eq] at hh
  split at hh
  · refine ⟨_, _, _, _, k_ring_put, rfl, ?_⟩
    refine Eq.trans ?_ hh; kernel_rfl
  · cases hh
theorem x_codec_New_api_File : FunOk PR cutsOf TABS F_codec_New_api_File X_codec_New_api_File := fun call R a h r hh => by
  unfold X_codec_New_api_File at hh
  split at hh
  · refine ⟨_, _, _, _, k_codec_New_api_File, rfl, ?_⟩
    refine Eq.trans ?_ hh; kernel_rfl
  · cases hh
theorem x_mem_Mem_in : FunOk PR cutsOf TABS F_mem_Mem_in X_mem_Mem_in := fun call R a h r hh => by
  unfold X_mem_Mem_in at hh
  rw [wrapF_eq, ile_eq] at hh
  split at hh
  · refine ⟨_, _, _, _, k_mem_Mem_in, rfl, ?_⟩
    refine Eq.trans ?_ hh; kernel_rfl
  · cases hh
theorem x_ofile_Ok : FunOk PR cutsOf TABS F_ofile_Ok X_ofile_Ok := fun call R a h r hh => by
  unfold X_ofile_Ok at hh
  rw [ine_eq, ieq_eq, ile_eq] at hh
  split at hh
  · refine ⟨_, _, _, _, k_ofile_Ok, rfl, ?_⟩
    refine Eq.trans ?_ hh; kernel_rfl
  · cases hh
theorem x_codec_Put2 : FunOk PR cutsOf TABS F_codec_Put2 X_codec_Put2 := fun call R a h r hh => by
  unfold X_codec_Put2 at hh
  rw [wrapF_eq, ilt_eq, ckR_eq] at hh
  split at hh
  · refine ⟨_, _, _, _, k_codec_Put2, rfl, ?_⟩
    refine Eq.trans ?_ hh; kernel_rfl
  · cases hh
end Go.EQ

set_option maxRecDepth 100000
set_option linter.unusedVariables false
namespace Go.EQ
open Go Go.Proofs
open Go.NN hiding bnd ld gInt gBool gStr gPtr gSl gMap gFv gAgg gCells nw pV pAgg pCells apd fitsOpen liveA mapAt
open Go.NP Go.NW
theorem x_slices_Clone_s_bool_bool : FunOk PR cutsOf TABS F_slices_Clone_s_bool_bool X_slices_Clone_s_bool_bool := fun call R a h r hh => by
  unfold X_slices_Clone_s_bool_bool at hh
  split at hh
  · refine ⟨_, _, _, _, k_slices_Clone_s_bool_bool, rfl, ?_⟩
    refine Eq.trans ?_ hh; kernel_rfl
  · cases hh
theorem x_taint_Clean : FunOk PR cutsOf TABS F_taint_Clean X_taint_Clean := fun call R a h r hh => by
  unfold X_taint_Clean at hh
  split at hh
  · refine ⟨_, _, _, _, k_taint_Clean, rfl, ?_⟩
    refine Eq.trans ?_ hh; kernel_rfl
  · cases hh
theorem x_taint_Clean_L1 : LabOk PR cutsOf TABS (labKey F_taint_Clean 3006) LB_taint_Clean_L1 := ⟨rfl, by decide, by kernel_rfl, fun call R a h r hh => by
  change X_taint_Clean_L1 H call (lr TABS R) a h = some r at hh
  unfold X_taint_Clean_L1 at hh
  rw [wrapF_eq, ieq_eq, ilt_eq, ckR_eq] at hh
  split at hh
  · refine ⟨_, _, _, _, k_taint_Clean, ?_⟩
    refine Eq.trans ?_ hh; kernel_rfl
  · cases hh⟩
theorem x_taint_Only : FunOk PR cutsOf TABS F_taint_Only X_taint_Only := fun call R a h r hh => by
  unfold X_taint_Only at hh
  split at hh
  · refine ⟨_, _, _, _, k_taint_Only, rfl, ?_⟩
    refine Eq.trans ?_ hh; kernel_rfl
  · cases hh
theorem x_taint_Only_L1 : LabOk PR cutsOf TABS (labKey F_taint_Only 3008) LB_taint_Only_L1 := ⟨rfl, by decide, by kernel_rfl, fun call R a h r hh => by
  change X_taint_Only_L1 H call (lr TABS R) a h = some r at hh
  unfold X_taint_Only_L1 at hh
  rw [wrapF_eq, ilt_eq, ile_eq, ckR_eq] at hh
  split at hh
  · refine ⟨_, _, _, _, k_taint_Only, ?_⟩
    refine Eq.trans ?_ hh; kernel_rfl
  · cases hh⟩
theorem x_world_New : FunOk PR cutsOf TABS F_world_New X_world_New := fun call R a h r hh => by
  unfold X_world_New at hh
  rw [ine_eq] at hh
  split at hh
  · refine ⟨_, _, _, _, k_world_New, rfl, ?_⟩
    refine Eq.trans ?_ hh; kernel_rfl
  · cases hh
theorem x_world_New_L1 : LabOk PR cutsOf TABS (labKey F_world_New 3018) LB_world_New_L1 := ⟨rfl, by decide, by kernel_rfl, fun call R a h r hh => by
  change X_world_New_L1 H call (lr TABS R) a h = some r at hh
  unfold X_world_New_L1 at hh
  rw [ilt_eq] at hh
  split at hh
  · refine ⟨_, _, _, _, k_world_New, ?_⟩
    refine Eq.trans ?_ hh; kernel_rfl
  · cases hh⟩
theorem x_world_New_L2 : LabOk PR cutsOf TABS (labKey F_world_New 8028) LB_world_New_L2 := ⟨rfl, by decide, by kernel_rfl, fun call R a h r hh => by
  change X_world_New_L2 H call (lr TABS R) a h = some r at hh
  unfold X_world_New_L2 at hh
  rw [wrapF_eq, ilt_eq] at hh
  split at hh
  · refine ⟨_, _, _, _, k_world_New, ?_⟩
    refine Eq.trans ?_ hh; kernel_rfl
  · cases hh⟩
theorem x_world_Boot : FunOk PR cutsOf TABS F_world_Boot X_world_Boot := fun call R a h r hh => by
  unfold X_world_Boot at hh
  rw [ine_eq] at hh
  split at hh
  · refine ⟨_, _, _, _, k_world_Boot, rfl, ?_⟩
    refine Eq.trans ?_ hh; kernel_rfl
  · cases hh
theorem x_world_Boot_L1 : LabOk PR cutsOf TABS (labKey F_world_Boot 3010) LB_world_Boot_L1 := ⟨rfl, by decide, by kernel_rfl, fun call R a h r hh => by
  change X_world_Boot_L1 H call (lr TABS R) a h = some r at hh
  unfold X_world_Boot_L1 at hh
  rw [ilt_eq] at hh
  split at hh
  · refine ⟨_, _, _, _, k_world_Boot, ?_⟩
    refine Eq.trans ?_ hh; kernel_rfl
  · cases hh⟩
theorem x_world_Boot_L2 : LabOk PR cutsOf TABS (labKey F_world_Boot 8018) LB_world_Boot_L2 := ⟨rfl, by decide, by kernel_rfl, fun call R a h r hh => by
  change X_world_Boot_L2 H call (lr TABS R) a h = some r at hh
  unfold X_world_Boot_L2 at hh
  rw [wrapF_eq, ilt_eq] at hh
  split at hh
  · refine ⟨_, _, _, _, k_world_Boot, ?_⟩
    refine Eq.trans ?_ hh; kernel_rfl
  · cases hh⟩
theorem x_world_Boot_L3 : LabOk PR cutsOf TABS (labKey F_world_Boot 3032) LB_world_Boot_L3 := ⟨rfl, by decide, by kernel_rfl, fun call R a h r hh => by
  change X_world_Boot_L3 H call (lr TABS R) a h = some r at hh
  unfold X_world_Boot_L3 at hh
  rw [wrapF_eq, ilt_eq, ckR_eq] at hh
  split at hh
  · refine ⟨_, _, _, _, k_world_Boot, ?_⟩
    refine Eq.trans ?_ hh; kernel_rfl
  · cases hh⟩
theorem x_world_World_begin : FunOk PR cutsOf TABS F_world_World_begin X_world_World_begin := fun call R a h r hh => by
  unfold X_world_World_begin at hh
  rw [wrapF_eq, ckR_eq] at hh
  split at hh
  · refine ⟨_, _, _, _, k_world_World_begin, rfl, ?_⟩
    refine Eq.trans ?_ hh; kernel_rfl
  · cases hh
theorem x_world_World_begin_L1 : LabOk PR cutsOf TABS (labKey F_world_World_begin 3016) LB_world_World_begin_L1 := ⟨rfl, by decide, by kernel_rfl, fun call R a h r hh => by
  change X_world_World_begin_L1 H call (lr TABS R) a h = some r at hh
  unfold X_world_World_begin_L1 at hh
  rw [wrapF_eq, ieq_eq, ilt_eq, ckR_eq] at hh
  split at hh
  · refine ⟨_, _, _, _, k_world_World_begin, ?_⟩
    refine Eq.trans ?_ hh; kernel_rfl
  · cases hh⟩
theorem x_world_World_begin_R1 : LabOk PR cutsOf TABS (labKey F_world_World_begin 7031) LB_world_World_begin_R1 := ⟨rfl, by decide, by kernel_rfl, fun call R a h r hh => by
  change X_world_World_begin_R1 H call (lr TABS R) a h = some r at hh
  unfold X_world_World_begin_R1 at hh
  rw [wrapF_eq, ckR_eq] at hh
  split at hh
  · refine ⟨_, _, _, _, k_world_World_begin, ?_⟩
    refine Eq.trans ?_ hh; kernel_rfl
  · cases hh⟩
theorem x_host_New : FunOk PR cutsOf TABS F_host_New X_host_New := fun call R a h r hh => by
  unfold X_host_New at hh
  rw [ine_eq, ilt_eq, ile_eq] at hh
  split at hh
  · refine ⟨_, _, _, _, k_host_New, rfl, ?_⟩
    refine Eq.trans ?_ hh; kernel_rfl
  · cases hh
theorem x_kern_frames : FunOk PR cutsOf TABS F_kern_frames X_kern_frames := fun call R a h r hh => by
  unfold X_kern_frames at hh
  split at hh
  · refine ⟨_, _, _, _, k_kern_frames, rfl, ?_⟩
    refine Eq.trans ?_ hh; kernel_rfl
  · cases hh
theorem x_caps_New : FunOk PR cutsOf TABS F_caps_New X_caps_New := fun call R a h r hh => by
  unfold X_caps_New at hh
  split at hh
  · refine ⟨_, _, _, _, k_caps_New, rfl, ?_⟩
    refine Eq.trans ?_ hh; kernel_rfl
  · cases hh
theorem x_caps_New_L1 : LabOk PR cutsOf TABS (labKey F_caps_New 3006) LB_caps_New_L1 := ⟨rfl, by decide, by kernel_rfl, fun call R a h r hh => by
  change X_caps_New_L1 H call (lr TABS R) a h = some r at hh
  unfold X_caps_New_L1 at hh
  rw [wrapF_eq, ilt_eq] at hh
  split at hh
  · refine ⟨_, _, _, _, k_caps_New, ?_⟩
    refine Eq.trans ?_ hh; kernel_rfl
  · cases hh⟩
theorem x_region_New : FunOk PR cutsOf TABS F_region_New X_region_New := fun call R a h r hh => by
  unfold X_region_New at hh
  split at hh
  · refine ⟨_, _, _, _, k_region_New, rfl, ?_⟩
    refine Eq.trans ?_ hh; kernel_rfl
  · cases hh
theorem x_sect_New : FunOk PR cutsOf TABS F_sect_New X_sect_New := fun call R a h r hh => by
  unfold X_sect_New at hh
  split at hh
  · refine ⟨_, _, _, _, k_sect_New, rfl, ?_⟩
    refine Eq.trans ?_ hh; kernel_rfl
  · cases hh
theorem x_region_Regions_Add : FunOk PR cutsOf TABS F_region_Regions_Add X_region_Regions_Add := fun call R a h r hh => by
  unfold X_region_Regions_Add at hh
  rw [wrapF_eq, ilt_eq, ile_eq] at hh
  split at hh
  · refine ⟨_, _, _, _, k_region_Regions_Add, rfl, ?_⟩
    refine Eq.trans ?_ hh; kernel_rfl
  · cases hh
theorem x_quota_Quota_First : FunOk PR cutsOf TABS F_quota_Quota_First X_quota_Quota_First := fun call R a h r hh => by
  unfold X_quota_Quota_First at hh
  rw [ckL_eq] at hh
  split at hh
  · refine ⟨_, _, _, _, k_quota_Quota_First, rfl, ?_⟩
    refine Eq.trans ?_ hh; kernel_rfl
  · cases hh
theorem x_quota_Quota_First_L1 : LabOk PR cutsOf TABS (labKey F_quota_Quota_First 3006) LB_quota_Quota_First_L1 := ⟨rfl, by decide, by kernel_rfl, fun call R a h r hh => by
  change X_quota_Quota_First_L1 H call (lr TABS R) a h = some r at hh
  unfold X_quota_Quota_First_L1 at hh
  rw [wrapF_eq, ilt_eq, ckR_eq] at hh
  split at hh
  · refine ⟨_, _, _, _, k_quota_Quota_First, ?_⟩
    refine Eq.trans ?_ hh; kernel_rfl
  · cases hh⟩
theorem x_slices_Contains_s_int_int : FunOk PR cutsOf TABS F_slices_Contains_s_int_int X_slices_Contains_s_int_int := fun call R a h r hh => by
  unfold X_slices_Contains_s_int_int at hh
  rw [ile_eq] at hh
  split at hh
  · refine ⟨_, _, _, _, k_slices_Contains_s_int_int, rfl, ?_⟩
    refine Eq.trans ?_ hh; kernel_rfl
  · cases hh
theorem x_commons_New : FunOk PR cutsOf TABS F_commons_New X_commons_New := fun call R a h r hh => by
  unfold X_commons_New at hh
  rw [ieq_eq] at hh
  split at hh
  · refine ⟨_, _, _, _, k_commons_New, rfl, ?_⟩
    refine Eq.trans ?_ hh; kernel_rfl
  · cases hh
theorem x_commons_Commons_SetFile : FunOk PR cutsOf TABS F_commons_Commons_SetFile X_commons_Commons_SetFile := fun call R a h r hh => by
  unfold X_commons_Commons_SetFile at hh
  split at hh
  · refine ⟨_, _, _, _, k_commons_Commons_SetFile, rfl, ?_⟩
    refine Eq.trans ?_ hh; kernel_rfl
  · cases hh
theorem x_kern_Kern_Sect : FunOk PR cutsOf TABS F_kern_Kern_Sect X_kern_Kern_Sect := fun call R a h r hh => by
  unfold X_kern_Kern_Sect at hh
  rw [ilt_eq, ile_eq, ckR_eq] at hh
  split at hh
  · refine ⟨_, _, _, _, k_kern_Kern_Sect, rfl, ?_⟩
    refine Eq.trans ?_ hh; kernel_rfl
  · cases hh
theorem x_kern_Kern_bytes : FunOk PR cutsOf TABS F_kern_Kern_bytes X_kern_Kern_bytes := fun call R a h r hh => by
  unfold X_kern_Kern_bytes at hh
  rw [ieq_eq] at hh
  split at hh
  · refine ⟨_, _, _, _, k_kern_Kern_bytes, rfl, ?_⟩
    refine Eq.trans ?_ hh; kernel_rfl
  · cases hh
theorem x_kern_check_1 : FunOk PR cutsOf TABS F_kern_check_1 X_kern_check_1 := fun call R a h r hh => by
  unfold X_kern_check_1 at hh
  rw [ilt_eq, ile_eq] at hh
  split at hh
  · refine ⟨_, _, _, _, k_kern_check_1, rfl, ?_⟩
    refine Eq.trans ?_ hh; kernel_rfl
  · cases hh
theorem x_table_New_api_Cap : FunOk PR cutsOf TABS F_table_New_api_Cap X_table_New_api_Cap := fun call R a h r hh => by
  unfold X_table_New_api_Cap at hh
  split at hh
  · refine ⟨_, _, _, _, k_table_New_api_Cap, rfl, ?_⟩
    refine Eq.trans ?_ hh; kernel_rfl
  · cases hh
theorem x_table_New_api_Cap_L1 : LabOk PR cutsOf TABS (labKey F_table_New_api_Cap 3006) LB_table_New_api_Cap_L1 := ⟨rfl, by decide, by kernel_rfl, fun call R a h r hh => by
  change X_table_New_api_Cap_L1 H call (lr TABS R) a h = some r at hh
  unfold X_table_New_api_Cap_L1 at hh
  rw [wrapF_eq, ilt_eq, ckR_eq] at hh
  split at hh
  · refine ⟨_, _, _, _, k_table_New_api_Cap, ?_⟩
    refine Eq.trans ?_ hh; kernel_rfl
  · cases hh⟩
theorem x_mem_Mem_Size : FunOk PR cutsOf TABS F_mem_Mem_Size X_mem_Mem_Size := fun call R a h r hh => by
  unfold X_mem_Mem_Size at hh
  split at hh
  · refine ⟨_, _, _, _, k_mem_Mem_Size, rfl, ?_⟩
    refine Eq.trans ?_ hh; kernel_rfl
  · cases hh
theorem x_caps_Space_add : FunOk PR cutsOf TABS F_caps_Space_add X_caps_Space_add := fun call R a h r hh => by
  unfold X_caps_Space_add at hh
  rw [ckR_eq] at hh
  split at hh
  · refine ⟨_, _, _, _, k_caps_Space_add, rfl, ?_⟩
    refine Eq.trans ?_ hh; kernel_rfl
  · cases hh
theorem x_caps_Space_Names : FunOk PR cutsOf TABS F_caps_Space_Names X_caps_Space_Names := fun call R a h r hh => by
  unfold X_caps_Space_Names at hh
  rw [ckR_eq] at hh
  split at hh
  · refine ⟨_, _, _, _, k_caps_Space_Names, rfl, ?_⟩
    refine Eq.trans ?_ hh; kernel_rfl
  · cases hh
theorem x_commons_Commons_write : FunOk PR cutsOf TABS F_commons_Commons_write X_commons_Commons_write := fun call R a h r hh => by
  unfold X_commons_Commons_write at hh
  rw [ieq_eq, ilt_eq] at hh
  split at hh
  · refine ⟨_, _, _, _, k_commons_Commons_write, rfl, ?_⟩
    refine Eq.trans ?_ hh; kernel_rfl
  · cases hh
theorem x_commons_file : FunOk PR cutsOf TABS F_commons_file X_commons_file := fun call R a h r hh => by
  unfold X_commons_file at hh
  split at hh
  · refine ⟨_, _, _, _, k_commons_file, rfl, ?_⟩
    refine Eq.trans ?_ hh; kernel_rfl
  · cases hh
theorem x_commons_proc : FunOk PR cutsOf TABS F_commons_proc X_commons_proc := fun call R a h r hh => by
  unfold X_commons_proc at hh
  split at hh
  · refine ⟨_, _, _, _, k_commons_proc, rfl, ?_⟩
    refine Eq.trans ?_ hh; kernel_rfl
  · cases hh
theorem x_region_Regions_Write : FunOk PR cutsOf TABS F_region_Regions_Write X_region_Regions_Write := fun call R a h r hh => by
  unfold X_region_Regions_Write at hh
  rw [ine_eq] at hh
  split at hh
  · refine ⟨_, _, _, _, k_region_Regions_Write, rfl, ?_⟩
    refine Eq.trans ?_ hh; kernel_rfl
  · cases hh
theorem x_table_Table_api_Cap_Add : FunOk PR cutsOf TABS F_table_Table_api_Cap_Add X_table_Table_api_Cap_Add := fun call R a h r hh => by
  unfold X_table_Table_api_Cap_Add at hh
  split at hh
  · refine ⟨_, _, _, _, k_table_Table_api_Cap_Add, rfl, ?_⟩
    refine Eq.trans ?_ hh; kernel_rfl
  · cases hh
theorem x_table_Table_api_Cap_Add_L1 : LabOk PR cutsOf TABS (labKey F_table_Table_api_Cap_Add 3004) LB_table_Table_api_Cap_Add_L1 := ⟨rfl, by decide, by kernel_rfl, fun call R a h r hh => by
  change X_table_Table_api_Cap_Add_L1 H call (lr TABS R) a h = some r at hh
  unfold X_table_Table_api_Cap_Add_L1 at hh
  rw [wrapF_eq, ilt_eq, ile_eq, ckR_eq] at hh
  split at hh
  · refine ⟨_, _, _, _, k_table_Table_api_Cap_Add, ?_⟩
    refine Eq.trans ?_ hh; kernel_rfl
  · cases hh⟩
theorem x_commons_Commons_place : FunOk PR cutsOf TABS F_commons_Commons_place X_commons_Commons_place := fun call R a h r hh => by
  unfold X_commons_Commons_place at hh
  rw [wrapF_eq, ieq_eq, ilt_eq, ile_eq, ckR_eq] at hh
  split at hh
  · refine ⟨_, _, _, _, k_commons_Commons_place, rfl, ?_⟩
    refine Eq.trans ?_ hh; kernel_rfl
  · cases hh
theorem x_codec_Sum : FunOk PR cutsOf TABS F_codec_Sum X_codec_Sum := fun call R a h r hh => by
  unfold X_codec_Sum at hh
  rw [wrapF_eq] at hh
  split at hh
  · refine ⟨_, _, _, _, k_codec_Sum, rfl, ?_⟩
    refine Eq.trans ?_ hh; kernel_rfl
  · cases hh
theorem x_codec_Sum_L1 : LabOk PR cutsOf TABS (labKey F_codec_Sum 3006) LB_codec_Sum_L1 := ⟨rfl, by decide, by kernel_rfl, fun call R a h r hh => by
  change X_codec_Sum_L1 H call (lr TABS R) a h = some r at hh
  unfold X_codec_Sum_L1 at hh
  rw [wrapF_eq, ilt_eq, ckR_eq] at hh
  split at hh
  · refine ⟨_, _, _, _, k_codec_Sum, ?_⟩
    refine Eq.trans ?_ hh; kernel_rfl
  · cases hh⟩
theorem x_ofile_Codec : FunOk PR cutsOf TABS F_ofile_Codec X_ofile_Codec := fun call R a h r hh => by
  unfold X_ofile_Codec at hh
  split at hh
  · refine ⟨_, _, _, _, k_ofile_Codec, rfl, ?_⟩
    refine Eq.trans ?_ hh; kernel_rfl
  · cases hh
theorem x_codec_Codec_api_File_Encode : FunOk PR cutsOf TABS F_codec_Codec_api_File_Encode X_codec_Codec_api_File_Encode := fun call R a h r hh => by
  unfold X_codec_Codec_api_File_Encode at hh
  split at hh
  · refine ⟨_, _, _, _, k_codec_Codec_api_File_Encode, rfl, ?_⟩
    refine Eq.trans ?_ hh; kernel_rfl
  · cases hh
theorem x_mem_Mem_Store : FunOk PR cutsOf TABS F_mem_Mem_Store X_mem_Mem_Store := fun call R a h r hh => by
  unfold X_mem_Mem_Store at hh
  rw [ckL_eq] at hh
  split at hh
  · refine ⟨_, _, _, _, k_mem_Mem_Store, rfl, ?_⟩
    refine Eq.trans ?_ hh; kernel_rfl
  · cases hh
theorem x_codec_New_api_Pipe : FunOk PR cutsOf TABS F_codec_New_api_Pipe X_codec_New_api_Pipe := fun call R a h r hh => by
  unfold X_codec_New_api_Pipe at hh
  split at hh
  · refine ⟨_, _, _, _, k_codec_New_api_Pipe, rfl, ?_⟩
    refine Eq.trans ?_ hh; kernel_rfl
  · cases hh
theorem x_ofile_put : FunOk PR cutsOf TABS F_ofile_put X_ofile_put := fun call R a h r hh => by
  unfold X_ofile_put at hh
  rw [wrapF_eq, ckR_eq, ckL_eq] at hh
  split at hh
  · refine ⟨_, _, _, _, k_ofile_put, rfl, ?_⟩
    refine Eq.trans ?_ hh; kernel_rfl
  · cases hh
theorem x_codec_New_api_Proc : FunOk PR cutsOf TABS F_codec_New_api_Proc X_codec_New_api_Proc := fun call R a h r hh => by
  unfold X_codec_New_api_Proc at hh
  split at hh
  · refine ⟨_, _, _, _, k_codec_New_api_Proc, rfl, ?_⟩
    refine Eq.trans ?_ hh; kernel_rfl
  · cases hh
theorem x_pslot_put : FunOk PR cutsOf TABS F_pslot_put X_pslot_put := fun call R a h r hh => by
  unfold X_pslot_put at hh
  split at hh
  · refine ⟨_, _, _, _, k_pslot_put, rfl, ?_⟩
    refine Eq.trans ?_ hh; kernel_rfl
  · cases hh
theorem x_pslot_put_L1 : LabOk PR cutsOf TABS (labKey F_pslot_put 3008) LB_pslot_put_L1 := ⟨rfl, by decide, by kernel_rfl, fun call R a h r hh => by
  change X_pslot_put_L1 H call (lr TABS R) a h = some r at hh
  unfold X_pslot_put_L1 at hh
  rw [wrapF_eq, ilt_eq, ckR_eq] at hh
  split at hh
  · refine ⟨_, _, _, _, k_pslot_put, ?_⟩
    refine Eq.trans ?_ hh; kernel_rfl
  · cases hh⟩
theorem x_pslot_put_L2 : LabOk PR cutsOf TABS (labKey F_pslot_put 3018) LB_pslot_put_L2 := ⟨rfl, by decide, by kernel_rfl, fun call R a h r hh => by
  change X_pslot_put_L2 H call (lr TABS R) a h = some r at hh
  unfold X_pslot_put_L2 at hh
  rw [wrapF_eq, ilt_eq, ckR_eq] at hh
  split at hh
  · refine ⟨_, _, _, _, k_pslot_put, ?_⟩
    refine Eq.trans ?_ hh; kernel_rfl
  · cases hh⟩
theorem x_pslot_put_L3 : LabOk PR cutsOf TABS (labKey F_pslot_put 3028) LB_pslot_put_L3 := ⟨rfl, by decide, by kernel_rfl, fun call R a h r hh => by
  change X_pslot_put_L3 H call (lr TABS R) a h = some r at hh
  unfold X_pslot_put_L3 at hh
  rw [wrapF_eq, ilt_eq, ckR_eq, ckL_eq] at hh
  split at hh
  · refine ⟨_, _, _, _, k_pslot_put, ?_⟩
    refine Eq.trans ?_ hh; kernel_rfl
  · cases hh⟩
theorem x_table_Table_api_Cap_Get : FunOk PR cutsOf TABS F_table_Table_api_Cap_Get X_table_Table_api_Cap_Get := fun call R a h r hh => by
  unfold X_table_Table_api_Cap_Get at hh
  split at hh
  · refine ⟨_, _, _, _, k_table_Table_api_Cap_Get, rfl, ?_⟩
    refine Eq.trans ?_ hh; kernel_rfl
  · cases hh
theorem x_table_Table_api_Cap_at : FunOk PR cutsOf TABS F_table_Table_api_Cap_at X_table_Table_api_Cap_at := fun call R a h r hh => by
  unfold X_table_Table_api_Cap_at at hh
  rw [bitA_eq, ine_eq, ilt_eq, ile_eq, ckR_eq] at hh
  split at hh
  · refine ⟨_, _, _, _, k_table_Table_api_Cap_at, rfl, ?_⟩
    refine Eq.trans ?_ hh; kernel_rfl
  · cases hh
theorem x_pslot_Ok : FunOk PR cutsOf TABS F_pslot_Ok X_pslot_Ok := fun call R a h r hh => by
  unfold X_pslot_Ok at hh
  rw [bitA_eq, ine_eq, ieq_eq, ilt_eq, ile_eq] at hh
  split at hh
  · refine ⟨_, _, _, _, k_pslot_Ok, rfl, ?_⟩
    refine Eq.trans ?_ hh; kernel_rfl
  · cases hh
theorem x_pslot_bits : FunOk PR cutsOf TABS F_pslot_bits X_pslot_bits := fun call R a h r hh => by
  unfold X_pslot_bits at hh
  rw [bitA_eq, ieq_eq] at hh
  split at hh
  · refine ⟨_, _, _, _, k_pslot_bits, rfl, ?_⟩
    refine Eq.trans ?_ hh; kernel_rfl
  · cases hh
theorem x_pslot_Ok_1 : FunOk PR cutsOf TABS F_pslot_Ok_1 X_pslot_Ok_1 := fun call R a h r hh => by
  unfold X_pslot_Ok_1 at hh
  rw [ilt_eq] at hh
  split at hh
  · refine ⟨_, _, _, _, k_pslot_Ok_1, rfl, ?_⟩
    refine Eq.trans ?_ hh; kernel_rfl
  · cases hh
end Go.EQ

set_option synthInstance.maxHeartbeats 0
set_option synthInstance.maxSize 1000000000000000000000000000000000000000000000000000000000000
set_option maxHeartbeats 0
set_option maxRecDepth 100000
set_option linter.unusedVariables false
namespace Go.EQ
open Go Go.Proofs
open Go.NN hiding bnd ld gInt gBool gStr gPtr gSl gMap gFv gAgg gCells nw pV pAgg pCells apd fitsOpen liveA mapAt
open Go.NP Go.NW
open Go.NF
theorem r_taint_Differ : RX X_taint_Differ := fun call2 call run2 run hc hr a p => by unfold X_taint_Differ; split <;> infer_instance
theorem r_taint_Differ_L1 : RX X_taint_Differ_L1 := fun call2 call run2 run hc hr a p => by unfold X_taint_Differ_L1; split <;> infer_instance
theorem r_world_Check : RX X_world_Check := fun call2 call run2 run hc hr a p => by unfold X_world_Check; split <;> infer_instance
theorem r_world_Check_L1 : RX X_world_Check_L1 := fun call2 call run2 run hc hr a p => by unfold X_world_Check_L1; split <;> infer_instance
theorem r_taint_Only : RX X_taint_Only := fun call2 call run2 run hc hr a p => by unfold X_taint_Only; split <;> infer_instance
theorem r_taint_Only_L1 : RX X_taint_Only_L1 := fun call2 call run2 run hc hr a p => by unfold X_taint_Only_L1; split <;> infer_instance
theorem r_slices_Clone_s_api_Step_api_Step : RX X_slices_Clone_s_api_Step_api_Step := fun call2 call run2 run hc hr a p => by unfold X_slices_Clone_s_api_Step_api_Step; split <;> infer_instance
theorem r_kern_New : RX X_kern_New := fun call2 call run2 run hc hr a p => by unfold X_kern_New; split <;> infer_instance
theorem r_kern_New_L1 : RX X_kern_New_L1 := fun call2 call run2 run hc hr a p => by unfold X_kern_New_L1; split <;> infer_instance
theorem r_kern_New_L2 : RX X_kern_New_L2 := fun call2 call run2 run hc hr a p => by unfold X_kern_New_L2; split <;> infer_instance
theorem r_kern_New_L3 : RX X_kern_New_L3 := fun call2 call run2 run hc hr a p => by unfold X_kern_New_L3; split <;> infer_instance
theorem r_kern_New_L4 : RX X_kern_New_L4 := fun call2 call run2 run hc hr a p => by unfold X_kern_New_L4; split <;> infer_instance
theorem r_world_World_begin : RX X_world_World_begin := fun call2 call run2 run hc hr a p => by unfold X_world_World_begin; split <;> infer_instance
theorem r_world_World_begin_L1 : RX X_world_World_begin_L1 := fun call2 call run2 run hc hr a p => by unfold X_world_World_begin_L1; split <;> infer_instance
theorem r_world_World_begin_R1 : RX X_world_World_begin_R1 := fun call2 call run2 run hc hr a p => by unfold X_world_World_begin_R1; split <;> infer_instance
theorem r_host_New : RX X_host_New := fun call2 call run2 run hc hr a p => by unfold X_host_New; split <;> infer_instance
theorem r_kern_Kern_Do : RX X_kern_Kern_Do := fun call2 call run2 run hc hr a p => by unfold X_kern_Kern_Do; split <;> infer_instance
theorem r_kern_check : RX X_kern_check := fun call2 call run2 run hc hr a p => by unfold X_kern_check; split <;> infer_instance
theorem r_kern_check_L1 : RX X_kern_check_L1 := fun call2 call run2 run hc hr a p => by unfold X_kern_check_L1; split <;> infer_instance
theorem r_kern_check_L2 : RX X_kern_check_L2 := fun call2 call run2 run hc hr a p => by unfold X_kern_check_L2; split <;> infer_instance
theorem r_kern_frames : RX X_kern_frames := fun call2 call run2 run hc hr a p => by unfold X_kern_frames; split <;> infer_instance
theorem r_slices_Clone_s_int_int : RX X_slices_Clone_s_int_int := fun call2 call run2 run hc hr a p => by unfold X_slices_Clone_s_int_int; split <;> infer_instance
theorem r_slices_Contains_s_int_int : RX X_slices_Contains_s_int_int := fun call2 call run2 run hc hr a p => by unfold X_slices_Contains_s_int_int; split <;> infer_instance
theorem r_caps_Space_Put : RX X_caps_Space_Put := fun call2 call run2 run hc hr a p => by unfold X_caps_Space_Put; split <;> infer_instance
theorem r_commons_Commons_SetTerm : RX X_commons_Commons_SetTerm := fun call2 call run2 run hc hr a p => by unfold X_commons_Commons_SetTerm; split <;> infer_instance
theorem r_commons_Commons_SetFront : RX X_commons_Commons_SetFront := fun call2 call run2 run hc hr a p => by unfold X_commons_Commons_SetFront; split <;> infer_instance
theorem r_commons_Commons_SetProc : RX X_commons_Commons_SetProc := fun call2 call run2 run hc hr a p => by unfold X_commons_Commons_SetProc; split <;> infer_instance
theorem r_kern_Kern_bytes : RX X_kern_Kern_bytes := fun call2 call run2 run hc hr a p => by unfold X_kern_Kern_bytes; split <;> infer_instance
theorem r_slices_ContainsFunc_s_int_int : RX X_slices_ContainsFunc_s_int_int := fun call2 call run2 run hc hr a p => by unfold X_slices_ContainsFunc_s_int_int; split <;> infer_instance
theorem r_kern_share : RX X_kern_share := fun call2 call run2 run hc hr a p => by unfold X_kern_share; split <;> infer_instance
theorem r_mem_Mem_Size : RX X_mem_Mem_Size := fun call2 call run2 run hc hr a p => by unfold X_mem_Mem_Size; split <;> infer_instance
theorem r_slices_Index_s_int_int : RX X_slices_Index_s_int_int := fun call2 call run2 run hc hr a p => by unfold X_slices_Index_s_int_int; split <;> infer_instance
theorem r_slices_Index_s_int_int_L1 : RX X_slices_Index_s_int_int_L1 := fun call2 call run2 run hc hr a p => by unfold X_slices_Index_s_int_int_L1; split <;> infer_instance
theorem r_caps_Space_Put_1 : RX X_caps_Space_Put_1 := fun call2 call run2 run hc hr a p => by unfold X_caps_Space_Put_1; split <;> infer_instance
theorem r_caps_Space_is : RX X_caps_Space_is := fun call2 call run2 run hc hr a p => by unfold X_caps_Space_is; split <;> infer_instance
theorem r_caps_Space_add : RX X_caps_Space_add := fun call2 call run2 run hc hr a p => by unfold X_caps_Space_add; split <;> infer_instance
theorem r_ring_Encode : RX X_ring_Encode := fun call2 call run2 run hc hr a p => by unfold X_ring_Encode; split <;> infer_instance
theorem r_commons_Commons_write : RX X_commons_Commons_write := fun call2 call run2 run hc hr a p => by unfold X_commons_Commons_write; split <;> infer_instance
theorem r_commons_FrontBytes : RX X_commons_FrontBytes := fun call2 call run2 run hc hr a p => by unfold X_commons_FrontBytes; split <;> infer_instance
theorem r_commons_file : RX X_commons_file := fun call2 call run2 run hc hr a p => by unfold X_commons_file; split <;> infer_instance
theorem r_commons_proc : RX X_commons_proc := fun call2 call run2 run hc hr a p => by unfold X_commons_proc; split <;> infer_instance
theorem r_commons_Commons_most : RX X_commons_Commons_most := fun call2 call run2 run hc hr a p => by unfold X_commons_Commons_most; split <;> infer_instance
theorem r_ring_Ok : RX X_ring_Ok := fun call2 call run2 run hc hr a p => by unfold X_ring_Ok; split <;> infer_instance
theorem r_slices_IndexFunc_s_int_int : RX X_slices_IndexFunc_s_int_int := fun call2 call run2 run hc hr a p => by unfold X_slices_IndexFunc_s_int_int; split <;> infer_instance
theorem r_slices_IndexFunc_s_int_int_L1 : RX X_slices_IndexFunc_s_int_int_L1 := fun call2 call run2 run hc hr a p => by unfold X_slices_IndexFunc_s_int_int_L1; split <;> infer_instance
theorem r_table_Table_api_Cap_Names : RX X_table_Table_api_Cap_Names := fun call2 call run2 run hc hr a p => by unfold X_table_Table_api_Cap_Names; split <;> infer_instance
theorem r_table_Table_api_Cap_Names_L1 : RX X_table_Table_api_Cap_Names_L1 := fun call2 call run2 run hc hr a p => by unfold X_table_Table_api_Cap_Names_L1; split <;> infer_instance
theorem r_codec_Sum : RX X_codec_Sum := fun call2 call run2 run hc hr a p => by unfold X_codec_Sum; split <;> infer_instance
theorem r_codec_Sum_L1 : RX X_codec_Sum_L1 := fun call2 call run2 run hc hr a p => by unfold X_codec_Sum_L1; split <;> infer_instance
theorem r_codec_Codec_api_File_Encode : RX X_codec_Codec_api_File_Encode := fun call2 call run2 run hc hr a p => by unfold X_codec_Codec_api_File_Encode; split <;> infer_instance
theorem r_pslot_Codec : RX X_pslot_Codec := fun call2 call run2 run hc hr a p => by unfold X_pslot_Codec; split <;> infer_instance
theorem r_ring_Ok_1 : RX X_ring_Ok_1 := fun call2 call run2 run hc hr a p => by unfold X_ring_Ok_1; split <;> infer_instance
theorem r_region_Regions_place : RX X_region_Regions_place := fun call2 call run2 run hc hr a p => by unfold X_region_Regions_place; split <;> infer_instance
theorem r_ring_put : RX X_ring_put := fun call2 call run2 run hc hr a p => by unfold X_ring_put; split <;> infer_instance
theorem r_codec_New_api_File : RX X_codec_New_api_File := fun call2 call run2 run hc hr a p => by unfold X_codec_New_api_File; split <;> infer_instance
theorem r_mem_Mem_in : RX X_mem_Mem_in := fun call2 call run2 run hc hr a p => by unfold X_mem_Mem_in; split <;> infer_instance
theorem r_pslot_Ok : RX X_pslot_Ok := fun call2 call run2 run hc hr a p => by unfold X_pslot_Ok; split <;> infer_instance
theorem r_pslot_bits : RX X_pslot_bits := fun call2 call run2 run hc hr a p => by unfold X_pslot_bits; split <;> infer_instance
end Go.EQ

set_option synthInstance.maxHeartbeats 0
set_option synthInstance.maxSize 1000000000000000000000000000000000000000000000000000000000000
set_option maxHeartbeats 0
set_option maxRecDepth 100000
set_option linter.unusedVariables false
namespace Go.EQ
open Go Go.Proofs
open Go.NN hiding bnd ld gInt gBool gStr gPtr gSl gMap gFv gAgg gCells nw pV pAgg pCells apd fitsOpen liveA mapAt
open Go.NP Go.NW
open Go.NF
theorem r_law24_awake : RX X_law24_awake := fun call2 call run2 run hc hr a p => by unfold X_law24_awake; split <;> infer_instance
theorem r_taint_Closure : RX X_taint_Closure := fun call2 call run2 run hc hr a p => by unfold X_taint_Closure; split <;> infer_instance
theorem r_taint_Closure_L1 : RX X_taint_Closure_L1 := fun call2 call run2 run hc hr a p => by unfold X_taint_Closure_L1; split <;> infer_instance
theorem r_taint_Closure_L2 : RX X_taint_Closure_L2 := fun call2 call run2 run hc hr a p => by unfold X_taint_Closure_L2; split <;> infer_instance
theorem r_slices_Clone_s_bool_bool : RX X_slices_Clone_s_bool_bool := fun call2 call run2 run hc hr a p => by unfold X_slices_Clone_s_bool_bool; split <;> infer_instance
theorem r_world_Run : RX X_world_Run := fun call2 call run2 run hc hr a p => by unfold X_world_Run; split <;> infer_instance
theorem r_world_Run_L1 : RX X_world_Run_L1 := fun call2 call run2 run hc hr a p => by unfold X_world_Run_L1; split <;> infer_instance
theorem r_taint_Clean : RX X_taint_Clean := fun call2 call run2 run hc hr a p => by unfold X_taint_Clean; split <;> infer_instance
theorem r_taint_Clean_L1 : RX X_taint_Clean_L1 := fun call2 call run2 run hc hr a p => by unfold X_taint_Clean_L1; split <;> infer_instance
theorem r_world_New : RX X_world_New := fun call2 call run2 run hc hr a p => by unfold X_world_New; split <;> infer_instance
theorem r_world_New_L1 : RX X_world_New_L1 := fun call2 call run2 run hc hr a p => by unfold X_world_New_L1; split <;> infer_instance
theorem r_world_New_L2 : RX X_world_New_L2 := fun call2 call run2 run hc hr a p => by unfold X_world_New_L2; split <;> infer_instance
theorem r_world_Boot : RX X_world_Boot := fun call2 call run2 run hc hr a p => by unfold X_world_Boot; split <;> infer_instance
theorem r_world_Boot_L1 : RX X_world_Boot_L1 := fun call2 call run2 run hc hr a p => by unfold X_world_Boot_L1; split <;> infer_instance
theorem r_world_Boot_L2 : RX X_world_Boot_L2 := fun call2 call run2 run hc hr a p => by unfold X_world_Boot_L2; split <;> infer_instance
theorem r_world_Boot_L3 : RX X_world_Boot_L3 := fun call2 call run2 run hc hr a p => by unfold X_world_Boot_L3; split <;> infer_instance
theorem r_mem_New : RX X_mem_New := fun call2 call run2 run hc hr a p => by unfold X_mem_New; split <;> infer_instance
theorem r_caps_New : RX X_caps_New := fun call2 call run2 run hc hr a p => by unfold X_caps_New; split <;> infer_instance
theorem r_caps_New_L1 : RX X_caps_New_L1 := fun call2 call run2 run hc hr a p => by unfold X_caps_New_L1; split <;> infer_instance
theorem r_quota_New : RX X_quota_New := fun call2 call run2 run hc hr a p => by unfold X_quota_New; split <;> infer_instance
theorem r_quota_New_L1 : RX X_quota_New_L1 := fun call2 call run2 run hc hr a p => by unfold X_quota_New_L1; split <;> infer_instance
theorem r_region_New : RX X_region_New := fun call2 call run2 run hc hr a p => by unfold X_region_New; split <;> infer_instance
theorem r_sect_New : RX X_sect_New := fun call2 call run2 run hc hr a p => by unfold X_sect_New; split <;> infer_instance
theorem r_region_Regions_Add : RX X_region_Regions_Add := fun call2 call run2 run hc hr a p => by unfold X_region_Regions_Add; split <;> infer_instance
theorem r_quota_Quota_First : RX X_quota_Quota_First := fun call2 call run2 run hc hr a p => by unfold X_quota_Quota_First; split <;> infer_instance
theorem r_quota_Quota_First_L1 : RX X_quota_Quota_First_L1 := fun call2 call run2 run hc hr a p => by unfold X_quota_Quota_First_L1; split <;> infer_instance
theorem r_commons_New : RX X_commons_New := fun call2 call run2 run hc hr a p => by unfold X_commons_New; split <;> infer_instance
theorem r_commons_Commons_SetFile : RX X_commons_Commons_SetFile := fun call2 call run2 run hc hr a p => by unfold X_commons_Commons_SetFile; split <;> infer_instance
theorem r_kern_Kern_Sect : RX X_kern_Kern_Sect := fun call2 call run2 run hc hr a p => by unfold X_kern_Kern_Sect; split <;> infer_instance
theorem r_kern_check_1 : RX X_kern_check_1 := fun call2 call run2 run hc hr a p => by unfold X_kern_check_1; split <;> infer_instance
theorem r_table_New_api_Cap : RX X_table_New_api_Cap := fun call2 call run2 run hc hr a p => by unfold X_table_New_api_Cap; split <;> infer_instance
theorem r_table_New_api_Cap_L1 : RX X_table_New_api_Cap_L1 := fun call2 call run2 run hc hr a p => by unfold X_table_New_api_Cap_L1; split <;> infer_instance
theorem r_kern_Kern_Space : RX X_kern_Kern_Space := fun call2 call run2 run hc hr a p => by unfold X_kern_Kern_Space; split <;> infer_instance
theorem r_caps_Space_Names : RX X_caps_Space_Names := fun call2 call run2 run hc hr a p => by unfold X_caps_Space_Names; split <;> infer_instance
theorem r_ofile_Encode : RX X_ofile_Encode := fun call2 call run2 run hc hr a p => by unfold X_ofile_Encode; split <;> infer_instance
theorem r_pslot_Encode : RX X_pslot_Encode := fun call2 call run2 run hc hr a p => by unfold X_pslot_Encode; split <;> infer_instance
theorem r_region_Regions_Write : RX X_region_Regions_Write := fun call2 call run2 run hc hr a p => by unfold X_region_Regions_Write; split <;> infer_instance
theorem r_table_Table_api_Cap_Add : RX X_table_Table_api_Cap_Add := fun call2 call run2 run hc hr a p => by unfold X_table_Table_api_Cap_Add; split <;> infer_instance
theorem r_table_Table_api_Cap_Add_L1 : RX X_table_Table_api_Cap_Add_L1 := fun call2 call run2 run hc hr a p => by unfold X_table_Table_api_Cap_Add_L1; split <;> infer_instance
theorem r_ring_Codec : RX X_ring_Codec := fun call2 call run2 run hc hr a p => by unfold X_ring_Codec; split <;> infer_instance
theorem r_codec_Codec_api_Pipe_Encode : RX X_codec_Codec_api_Pipe_Encode := fun call2 call run2 run hc hr a p => by unfold X_codec_Codec_api_Pipe_Encode; split <;> infer_instance
theorem r_commons_Commons_place : RX X_commons_Commons_place := fun call2 call run2 run hc hr a p => by unfold X_commons_Commons_place; split <;> infer_instance
theorem r_ofile_Codec : RX X_ofile_Codec := fun call2 call run2 run hc hr a p => by unfold X_ofile_Codec; split <;> infer_instance
theorem r_codec_Codec_api_Proc_Encode : RX X_codec_Codec_api_Proc_Encode := fun call2 call run2 run hc hr a p => by unfold X_codec_Codec_api_Proc_Encode; split <;> infer_instance
theorem r_mem_Mem_Store : RX X_mem_Mem_Store := fun call2 call run2 run hc hr a p => by unfold X_mem_Mem_Store; split <;> infer_instance
theorem r_caps_Space_Get : RX X_caps_Space_Get := fun call2 call run2 run hc hr a p => by unfold X_caps_Space_Get; split <;> infer_instance
theorem r_table_Table_api_Cap_name : RX X_table_Table_api_Cap_name := fun call2 call run2 run hc hr a p => by unfold X_table_Table_api_Cap_name; split <;> infer_instance
theorem r_codec_New_api_Pipe : RX X_codec_New_api_Pipe := fun call2 call run2 run hc hr a p => by unfold X_codec_New_api_Pipe; split <;> infer_instance
theorem r_ofile_put : RX X_ofile_put := fun call2 call run2 run hc hr a p => by unfold X_ofile_put; split <;> infer_instance
theorem r_codec_New_api_Proc : RX X_codec_New_api_Proc := fun call2 call run2 run hc hr a p => by unfold X_codec_New_api_Proc; split <;> infer_instance
theorem r_pslot_put : RX X_pslot_put := fun call2 call run2 run hc hr a p => by unfold X_pslot_put; split <;> infer_instance
theorem r_pslot_put_L1 : RX X_pslot_put_L1 := fun call2 call run2 run hc hr a p => by unfold X_pslot_put_L1; split <;> infer_instance
theorem r_pslot_put_L2 : RX X_pslot_put_L2 := fun call2 call run2 run hc hr a p => by unfold X_pslot_put_L2; split <;> infer_instance
theorem r_pslot_put_L3 : RX X_pslot_put_L3 := fun call2 call run2 run hc hr a p => by unfold X_pslot_put_L3; split <;> infer_instance
theorem r_table_Table_api_Cap_Get : RX X_table_Table_api_Cap_Get := fun call2 call run2 run hc hr a p => by unfold X_table_Table_api_Cap_Get; split <;> infer_instance
theorem r_table_Table_api_Cap_at : RX X_table_Table_api_Cap_at := fun call2 call run2 run hc hr a p => by unfold X_table_Table_api_Cap_at; split <;> infer_instance
theorem r_ofile_Ok : RX X_ofile_Ok := fun call2 call run2 run hc hr a p => by unfold X_ofile_Ok; split <;> infer_instance
theorem r_codec_Put2 : RX X_codec_Put2 := fun call2 call run2 run hc hr a p => by unfold X_codec_Put2; split <;> infer_instance
theorem r_pslot_Ok_1 : RX X_pslot_Ok_1 := fun call2 call run2 run hc hr a p => by unfold X_pslot_Ok_1; split <;> infer_instance
end Go.EQ

set_option maxRecDepth 100000
set_option linter.unusedVariables false
namespace Go.EQ
open Go Go.Proofs
open Go.NN hiding bnd ld gInt gBool gStr gPtr gSl gMap gFv gAgg gCells nw pV pAgg pCells apd fitsOpen liveA mapAt
open Go.NP Go.NW
theorem tabs_ok : TABS.Ok PR cutsOf := ⟨⟨x_caps_Space_add, ⟨x_region_New, ⟨x_kern_New, ⟨x_world_Run, ⟨x_taint_Differ, ⟨x_taint_Closure, ⟨x_law24_awake, trivial, trivial⟩, trivial⟩, ⟨x_slices_Clone_s_bool_bool, ⟨x_world_Check, trivial, trivial⟩, trivial⟩⟩, ⟨x_world_New, ⟨x_taint_Only, ⟨x_taint_Clean, trivial, trivial⟩, trivial⟩, ⟨x_slices_Clone_s_api_Step_api_Step, trivial, trivial⟩⟩⟩, ⟨x_kern_frames, ⟨x_host_New, ⟨x_world_World_begin, ⟨x_world_Boot, trivial, trivial⟩, trivial⟩, ⟨x_kern_check, ⟨x_kern_Kern_Do, trivial, trivial⟩, trivial⟩⟩, ⟨x_caps_New, ⟨x_mem_New, ⟨x_slices_Clone_s_int_int, trivial, trivial⟩, trivial⟩, ⟨x_quota_New, trivial, trivial⟩⟩⟩⟩, ⟨x_kern_Kern_Sect, ⟨x_commons_New, ⟨x_quota_Quota_First, ⟨x_region_Regions_Add, ⟨x_sect_New, trivial, trivial⟩, trivial⟩, ⟨x_caps_Space_Put, ⟨x_slices_Contains_s_int_int, trivial, trivial⟩, trivial⟩⟩, ⟨x_commons_Commons_SetFile, ⟨x_commons_Commons_SetFront, ⟨x_commons_Commons_SetTerm, trivial, trivial⟩, trivial⟩, ⟨x_commons_Commons_SetProc, trivial, trivial⟩⟩⟩, ⟨x_table_New_api_Cap, ⟨x_slices_ContainsFunc_s_int_int, ⟨x_kern_check_1, ⟨x_kern_Kern_bytes, trivial, trivial⟩, trivial⟩, ⟨x_kern_share, trivial, trivial⟩⟩, ⟨x_caps_Space_Put_1, ⟨x_slices_Index_s_int_int, ⟨x_mem_Mem_Size, trivial, trivial⟩, trivial⟩, ⟨x_caps_Space_is, trivial, trivial⟩⟩⟩⟩⟩, ⟨x_pslot_Codec, ⟨x_ring_Ok, ⟨x_ofile_Encode, ⟨x_ring_Encode, ⟨x_caps_Space_Names, ⟨x_kern_Kern_Space, trivial, trivial⟩, trivial⟩, ⟨x_commons_FrontBytes, ⟨x_commons_Commons_write, trivial, trivial⟩, trivial⟩⟩, ⟨x_commons_proc, ⟨x_pslot_Encode, ⟨x_commons_file, trivial, trivial⟩, trivial⟩, ⟨x_commons_Commons_most, trivial, trivial⟩⟩⟩, ⟨x_codec_Codec_api_Pipe_Encode, ⟨x_table_Table_api_Cap_Add, ⟨x_slices_IndexFunc_s_int_int, ⟨x_region_Regions_Write, trivial, trivial⟩, trivial⟩, ⟨x_ring_Codec, ⟨x_table_Table_api_Cap_Names, trivial, trivial⟩, trivial⟩⟩, ⟨x_ofile_Codec, ⟨x_codec_Sum, ⟨x_commons_Commons_place, trivial, trivial⟩, trivial⟩, ⟨x_codec_Codec_api_File_Encode, trivial, trivial⟩⟩⟩⟩, ⟨x_codec_New_api_Proc, ⟨x_table_Table_api_Cap_name, ⟨x_region_Regions_place, ⟨x_ring_Ok_1, ⟨x_codec_Codec_api_Proc_Encode, trivial, trivial⟩, trivial⟩, ⟨x_caps_Space_Get, ⟨x_mem_Mem_Store, trivial, trivial⟩, trivial⟩⟩, ⟨x_codec_New_api_File, ⟨x_ring_put, ⟨x_codec_New_api_Pipe, trivial, trivial⟩, trivial⟩, ⟨x_ofile_put, trivial, trivial⟩⟩⟩, ⟨x_ofile_Ok, ⟨x_table_Table_api_Cap_Get, ⟨x_mem_Mem_in, ⟨x_pslot_put, trivial, trivial⟩, trivial⟩, ⟨x_table_Table_api_Cap_at, trivial, trivial⟩⟩, ⟨x_pslot_bits, ⟨x_codec_Put2, ⟨x_pslot_Ok, trivial, trivial⟩, trivial⟩, ⟨x_pslot_Ok_1, trivial, trivial⟩⟩⟩⟩⟩⟩, ⟨x_world_World_begin_L1, ⟨x_world_New_L2, ⟨x_world_Run_L1, ⟨x_taint_Differ_L1, ⟨x_taint_Closure_L2, ⟨x_taint_Closure_L1, trivial, trivial⟩, trivial⟩, ⟨x_world_Check_L1, trivial, trivial⟩⟩, ⟨x_taint_Only_L1, ⟨x_taint_Clean_L1, trivial, trivial⟩, ⟨x_world_New_L1, trivial, trivial⟩⟩⟩, ⟨x_kern_New_L4, ⟨x_kern_New_L2, ⟨x_kern_New_L1, trivial, trivial⟩, ⟨x_kern_New_L3, trivial, trivial⟩⟩, ⟨x_world_Boot_L3, ⟨x_world_Boot_L1, trivial, trivial⟩, ⟨x_world_Boot_L2, trivial, trivial⟩⟩⟩⟩, ⟨x_slices_Index_s_int_int_L1, ⟨x_caps_New_L1, ⟨x_kern_check_L1, ⟨x_world_World_begin_R1, trivial, trivial⟩, ⟨x_kern_check_L2, trivial, trivial⟩⟩, ⟨x_quota_Quota_First_L1, ⟨x_quota_New_L1, trivial, trivial⟩, ⟨x_table_New_api_Cap_L1, trivial, trivial⟩⟩⟩, ⟨x_codec_Sum_L1, ⟨x_table_Table_api_Cap_Add_L1, ⟨x_slices_IndexFunc_s_int_int_L1, trivial, trivial⟩, ⟨x_table_Table_api_Cap_Names_L1, trivial, trivial⟩⟩, ⟨x_pslot_put_L2, ⟨x_pslot_put_L1, trivial, trivial⟩, ⟨x_pslot_put_L3, trivial, trivial⟩⟩⟩⟩⟩⟩
theorem tabs_rx : Go.NF.Rx TABS := ⟨⟨r_caps_Space_add, ⟨r_region_New, ⟨r_kern_New, ⟨r_world_Run, ⟨r_taint_Differ, ⟨r_taint_Closure, ⟨r_law24_awake, trivial, trivial⟩, trivial⟩, ⟨r_slices_Clone_s_bool_bool, ⟨r_world_Check, trivial, trivial⟩, trivial⟩⟩, ⟨r_world_New, ⟨r_taint_Only, ⟨r_taint_Clean, trivial, trivial⟩, trivial⟩, ⟨r_slices_Clone_s_api_Step_api_Step, trivial, trivial⟩⟩⟩, ⟨r_kern_frames, ⟨r_host_New, ⟨r_world_World_begin, ⟨r_world_Boot, trivial, trivial⟩, trivial⟩, ⟨r_kern_check, ⟨r_kern_Kern_Do, trivial, trivial⟩, trivial⟩⟩, ⟨r_caps_New, ⟨r_mem_New, ⟨r_slices_Clone_s_int_int, trivial, trivial⟩, trivial⟩, ⟨r_quota_New, trivial, trivial⟩⟩⟩⟩, ⟨r_kern_Kern_Sect, ⟨r_commons_New, ⟨r_quota_Quota_First, ⟨r_region_Regions_Add, ⟨r_sect_New, trivial, trivial⟩, trivial⟩, ⟨r_caps_Space_Put, ⟨r_slices_Contains_s_int_int, trivial, trivial⟩, trivial⟩⟩, ⟨r_commons_Commons_SetFile, ⟨r_commons_Commons_SetFront, ⟨r_commons_Commons_SetTerm, trivial, trivial⟩, trivial⟩, ⟨r_commons_Commons_SetProc, trivial, trivial⟩⟩⟩, ⟨r_table_New_api_Cap, ⟨r_slices_ContainsFunc_s_int_int, ⟨r_kern_check_1, ⟨r_kern_Kern_bytes, trivial, trivial⟩, trivial⟩, ⟨r_kern_share, trivial, trivial⟩⟩, ⟨r_caps_Space_Put_1, ⟨r_slices_Index_s_int_int, ⟨r_mem_Mem_Size, trivial, trivial⟩, trivial⟩, ⟨r_caps_Space_is, trivial, trivial⟩⟩⟩⟩⟩, ⟨r_pslot_Codec, ⟨r_ring_Ok, ⟨r_ofile_Encode, ⟨r_ring_Encode, ⟨r_caps_Space_Names, ⟨r_kern_Kern_Space, trivial, trivial⟩, trivial⟩, ⟨r_commons_FrontBytes, ⟨r_commons_Commons_write, trivial, trivial⟩, trivial⟩⟩, ⟨r_commons_proc, ⟨r_pslot_Encode, ⟨r_commons_file, trivial, trivial⟩, trivial⟩, ⟨r_commons_Commons_most, trivial, trivial⟩⟩⟩, ⟨r_codec_Codec_api_Pipe_Encode, ⟨r_table_Table_api_Cap_Add, ⟨r_slices_IndexFunc_s_int_int, ⟨r_region_Regions_Write, trivial, trivial⟩, trivial⟩, ⟨r_ring_Codec, ⟨r_table_Table_api_Cap_Names, trivial, trivial⟩, trivial⟩⟩, ⟨r_ofile_Codec, ⟨r_codec_Sum, ⟨r_commons_Commons_place, trivial, trivial⟩, trivial⟩, ⟨r_codec_Codec_api_File_Encode, trivial, trivial⟩⟩⟩⟩, ⟨r_codec_New_api_Proc, ⟨r_table_Table_api_Cap_name, ⟨r_region_Regions_place, ⟨r_ring_Ok_1, ⟨r_codec_Codec_api_Proc_Encode, trivial, trivial⟩, trivial⟩, ⟨r_caps_Space_Get, ⟨r_mem_Mem_Store, trivial, trivial⟩, trivial⟩⟩, ⟨r_codec_New_api_File, ⟨r_ring_put, ⟨r_codec_New_api_Pipe, trivial, trivial⟩, trivial⟩, ⟨r_ofile_put, trivial, trivial⟩⟩⟩, ⟨r_ofile_Ok, ⟨r_table_Table_api_Cap_Get, ⟨r_mem_Mem_in, ⟨r_pslot_put, trivial, trivial⟩, trivial⟩, ⟨r_table_Table_api_Cap_at, trivial, trivial⟩⟩, ⟨r_pslot_bits, ⟨r_codec_Put2, ⟨r_pslot_Ok, trivial, trivial⟩, trivial⟩, ⟨r_pslot_Ok_1, trivial, trivial⟩⟩⟩⟩⟩⟩, ⟨r_world_World_begin_L1, ⟨r_world_New_L2, ⟨r_world_Run_L1, ⟨r_taint_Differ_L1, ⟨r_taint_Closure_L2, ⟨r_taint_Closure_L1, trivial, trivial⟩, trivial⟩, ⟨r_world_Check_L1, trivial, trivial⟩⟩, ⟨r_taint_Only_L1, ⟨r_taint_Clean_L1, trivial, trivial⟩, ⟨r_world_New_L1, trivial, trivial⟩⟩⟩, ⟨r_kern_New_L4, ⟨r_kern_New_L2, ⟨r_kern_New_L1, trivial, trivial⟩, ⟨r_kern_New_L3, trivial, trivial⟩⟩, ⟨r_world_Boot_L3, ⟨r_world_Boot_L1, trivial, trivial⟩, ⟨r_world_Boot_L2, trivial, trivial⟩⟩⟩⟩, ⟨r_slices_Index_s_int_int_L1, ⟨r_caps_New_L1, ⟨r_kern_check_L1, ⟨r_world_World_begin_R1, trivial, trivial⟩, ⟨r_kern_check_L2, trivial, trivial⟩⟩, ⟨r_quota_Quota_First_L1, ⟨r_quota_New_L1, trivial, trivial⟩, ⟨r_table_New_api_Cap_L1, trivial, trivial⟩⟩⟩, ⟨r_codec_Sum_L1, ⟨r_table_Table_api_Cap_Add_L1, ⟨r_slices_IndexFunc_s_int_int_L1, trivial, trivial⟩, ⟨r_table_Table_api_Cap_Names_L1, trivial, trivial⟩⟩, ⟨r_pslot_put_L2, ⟨r_pslot_put_L1, trivial, trivial⟩, ⟨r_pslot_put_L3, trivial, trivial⟩⟩⟩⟩⟩⟩
end Go.EQ

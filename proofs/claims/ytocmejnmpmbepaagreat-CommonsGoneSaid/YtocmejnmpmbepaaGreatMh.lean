/- CommonsGone returns true whatever it is given: two whole numbers; its own run, by cases of the few bits that it reads of them. No condition. -/
import Derived.Test.YtocmejnmpmbepaaGreatMg
import Derived.KernelRfl
set_option linter.unusedVariables false
set_option linter.unusedSimpArgs false
set_option linter.unusedSectionVars false
set_option maxRecDepth 100000
set_option linter.unusedVariables false
namespace Go.EQ
open Go Go.Proofs
open Go.NN hiding bnd ld gInt gBool gStr gPtr gSl gMap gFv gAgg gCells nw pV pAgg pCells apd fitsOpen liveA mapAt
open Go.NP Go.NW
theorem x_law15_CommonsGone : FunOk PR cutsOf TABS F_law15_CommonsGone X_law15_CommonsGone := fun call R a h r hh => by
  unfold X_law15_CommonsGone at hh
  rw [bitA_eq, ieq_eq, ckR_eq] at hh
  split at hh
  · refine ⟨_, _, _, _, k_law15_CommonsGone, rfl, ?_⟩
    refine Eq.trans ?_ hh; kernel_rfl
  · cases hh
theorem x_law15_Plan : FunOk PR cutsOf TABS F_law15_Plan X_law15_Plan := fun call R a h r hh => by
  unfold X_law15_Plan at hh
  split at hh
  · refine ⟨_, _, _, _, k_law15_Plan, rfl, ?_⟩
    refine Eq.trans ?_ hh; kernel_rfl
  · cases hh
theorem x_kern_Kern_Do : FunOk PR cutsOf TABS F_kern_Kern_Do X_kern_Kern_Do := fun call R a h r hh => by
  unfold X_kern_Kern_Do at hh
  rw [ilt_eq, ile_eq] at hh
  split at hh
  · refine ⟨_, _, _, _, k_kern_Kern_Do, rfl, ?_⟩
    refine Eq.trans ?_ hh; kernel_rfl
  · cases hh
theorem x_commons_Commons_File : FunOk PR cutsOf TABS F_commons_Commons_File X_commons_Commons_File := fun call R a h r hh => by
  unfold X_commons_Commons_File at hh
  split at hh
  · refine ⟨_, _, _, _, k_commons_Commons_File, rfl, ?_⟩
    refine Eq.trans ?_ hh; kernel_rfl
  · cases hh
theorem x_commons_Commons_View : FunOk PR cutsOf TABS F_commons_Commons_View X_commons_Commons_View := fun call R a h r hh => by
  unfold X_commons_Commons_View at hh
  rw [ckR_eq] at hh
  split at hh
  · refine ⟨_, _, _, _, k_commons_Commons_View, rfl, ?_⟩
    refine Eq.trans ?_ hh; kernel_rfl
  · cases hh
theorem x_law17_First : FunOk PR cutsOf TABS F_law17_First X_law17_First := fun call R a h r hh => by
  unfold X_law17_First at hh
  rw [ckR_eq, ckL_eq] at hh
  split at hh
  · refine ⟨_, _, _, _, k_law17_First, rfl, ?_⟩
    refine Eq.trans ?_ hh; kernel_rfl
  · cases hh
theorem x_region_Regions_Raw : FunOk PR cutsOf TABS F_region_Regions_Raw X_region_Regions_Raw := fun call R a h r hh => by
  unfold X_region_Regions_Raw at hh
  rw [ilt_eq, ile_eq, ckR_eq] at hh
  split at hh
  · refine ⟨_, _, _, _, k_region_Regions_Raw, rfl, ?_⟩
    refine Eq.trans ?_ hh; kernel_rfl
  · cases hh
theorem x_law18_awake : FunOk PR cutsOf TABS F_law18_awake X_law18_awake := fun call R a h r hh => by
  unfold X_law18_awake at hh
  rw [ieq_eq] at hh
  split at hh
  · refine ⟨_, _, _, _, k_law18_awake, rfl, ?_⟩
    refine Eq.trans ?_ hh; kernel_rfl
  · cases hh
theorem x_ref1_NewKern : FunOk PR cutsOf TABS F_ref1_NewKern X_ref1_NewKern := fun call R a h r hh => by
  unfold X_ref1_NewKern at hh
  rw [wrapF_eq] at hh
  split at hh
  · refine ⟨_, _, _, _, k_ref1_NewKern, rfl, ?_⟩
    refine Eq.trans ?_ hh; kernel_rfl
  · cases hh
theorem x_ref1_NewKern_L1 : LabOk PR cutsOf TABS (labKey F_ref1_NewKern 3008) LB_ref1_NewKern_L1 := ⟨rfl, by decide, by kernel_rfl, fun call R a h r hh => by
  change X_ref1_NewKern_L1 H call (lr TABS R) a h = some r at hh
  unfold X_ref1_NewKern_L1 at hh
  rw [wrapF_eq, ilt_eq] at hh
  split at hh
  · refine ⟨_, _, _, _, k_ref1_NewKern, ?_⟩
    refine Eq.trans ?_ hh; kernel_rfl
  · cases hh⟩
theorem x_ref1_NewKern_L2 : LabOk PR cutsOf TABS (labKey F_ref1_NewKern 3016) LB_ref1_NewKern_L2 := ⟨rfl, by decide, by kernel_rfl, fun call R a h r hh => by
  change X_ref1_NewKern_L2 H call (lr TABS R) a h = some r at hh
  unfold X_ref1_NewKern_L2 at hh
  rw [wrapF_eq, ilt_eq, ckR_eq] at hh
  split at hh
  · refine ⟨_, _, _, _, k_ref1_NewKern, ?_⟩
    refine Eq.trans ?_ hh; kernel_rfl
  · cases hh⟩
theorem x_ref1_NewKern_L3 : LabOk PR cutsOf TABS (labKey F_ref1_NewKern 7026) LB_ref1_NewKern_L3 := ⟨rfl, by decide, by kernel_rfl, fun call R a h r hh => by
  change X_ref1_NewKern_L3 H call (lr TABS R) a h = some r at hh
  unfold X_ref1_NewKern_L3 at hh
  rw [wrapF_eq, ilt_eq, ckR_eq] at hh
  split at hh
  · refine ⟨_, _, _, _, k_ref1_NewKern, ?_⟩
    refine Eq.trans ?_ hh; kernel_rfl
  · cases hh⟩
theorem x_table_Table_api_Cap_Names : FunOk PR cutsOf TABS F_table_Table_api_Cap_Names X_table_Table_api_Cap_Names := fun call R a h r hh => by
  unfold X_table_Table_api_Cap_Names at hh
  split at hh
  · refine ⟨_, _, _, _, k_table_Table_api_Cap_Names, rfl, ?_⟩
    refine Eq.trans ?_ hh; kernel_rfl
  · cases hh
theorem x_table_Table_api_Cap_Names_L1 : LabOk PR cutsOf TABS (labKey F_table_Table_api_Cap_Names 3006) LB_table_Table_api_Cap_Names_L1 := ⟨rfl, by decide, by kernel_rfl, fun call R a h r hh => by
  change X_table_Table_api_Cap_Names_L1 H call (lr TABS R) a h = some r at hh
  unfold X_table_Table_api_Cap_Names_L1 at hh
  rw [wrapF_eq, ilt_eq, ckR_eq] at hh
  split at hh
  · refine ⟨_, _, _, _, k_table_Table_api_Cap_Names, ?_⟩
    refine Eq.trans ?_ hh; kernel_rfl
  · cases hh⟩
theorem x_kern_Kern_bytes : FunOk PR cutsOf TABS F_kern_Kern_bytes X_kern_Kern_bytes := fun call R a h r hh => by
  unfold X_kern_Kern_bytes at hh
  rw [ieq_eq] at hh
  split at hh
  · refine ⟨_, _, _, _, k_kern_Kern_bytes, rfl, ?_⟩
    refine Eq.trans ?_ hh; kernel_rfl
  · cases hh
theorem x_ofile_Decode : FunOk PR cutsOf TABS F_ofile_Decode X_ofile_Decode := fun call R a h r hh => by
  unfold X_ofile_Decode at hh
  rw [ieq_eq] at hh
  split at hh
  · refine ⟨_, _, _, _, k_ofile_Decode, rfl, ?_⟩
    refine Eq.trans ?_ hh; kernel_rfl
  · cases hh
theorem x_commons_pipe : FunOk PR cutsOf TABS F_commons_pipe X_commons_pipe := fun call R a h r hh => by
  unfold X_commons_pipe at hh
  split at hh
  · refine ⟨_, _, _, _, k_commons_pipe, rfl, ?_⟩
    refine Eq.trans ?_ hh; kernel_rfl
  · cases hh
theorem x_commons_Commons_blank : FunOk PR cutsOf TABS F_commons_Commons_blank X_commons_Commons_blank := fun call R a h r hh => by
  unfold X_commons_Commons_blank at hh
  split at hh
  · refine ⟨_, _, _, _, k_commons_Commons_blank, rfl, ?_⟩
    refine Eq.trans ?_ hh; kernel_rfl
  · cases hh
theorem x_commons_Commons_most : FunOk PR cutsOf TABS F_commons_Commons_most X_commons_Commons_most := fun call R a h r hh => by
  unfold X_commons_Commons_most at hh
  rw [wrapF_eq, ieq_eq] at hh
  split at hh
  · refine ⟨_, _, _, _, k_commons_Commons_most, rfl, ?_⟩
    refine Eq.trans ?_ hh; kernel_rfl
  · cases hh
theorem x_ref11_PipeBytes : FunOk PR cutsOf TABS F_ref11_PipeBytes X_ref11_PipeBytes := fun call R a h r hh => by
  unfold X_ref11_PipeBytes at hh
  rw [wrapF_eq] at hh
  split at hh
  · refine ⟨_, _, _, _, k_ref11_PipeBytes, rfl, ?_⟩
    refine Eq.trans ?_ hh; kernel_rfl
  · cases hh
theorem x_ref11_PipeBytes_L1 : LabOk PR cutsOf TABS (labKey F_ref11_PipeBytes 3008) LB_ref11_PipeBytes_L1 := ⟨rfl, by decide, by kernel_rfl, fun call R a h r hh => by
  change X_ref11_PipeBytes_L1 H call (lr TABS R) a h = some r at hh
  unfold X_ref11_PipeBytes_L1 at hh
  rw [wrapF_eq, ilt_eq, ckR_eq] at hh
  split at hh
  · refine ⟨_, _, _, _, k_ref11_PipeBytes, ?_⟩
    refine Eq.trans ?_ hh; kernel_rfl
  · cases hh⟩
theorem x_proc_told : FunOk PR cutsOf TABS F_proc_told X_proc_told := fun call R a h r hh => by
  unfold X_proc_told at hh
  split at hh
  · refine ⟨_, _, _, _, k_proc_told, rfl, ?_⟩
    refine Eq.trans ?_ hh; kernel_rfl
  · cases hh
theorem x_proc_share : FunOk PR cutsOf TABS F_proc_share X_proc_share := fun call R a h r hh => by
  unfold X_proc_share at hh
  split at hh
  · refine ⟨_, _, _, _, k_proc_share, rfl, ?_⟩
    refine Eq.trans ?_ hh; kernel_rfl
  · cases hh
theorem x_proc_share_L1 : LabOk PR cutsOf TABS (labKey F_proc_share 3006) LB_proc_share_L1 := ⟨rfl, by decide, by kernel_rfl, fun call R a h r hh => by
  change X_proc_share_L1 H call (lr TABS R) a h = some r at hh
  unfold X_proc_share_L1 at hh
  rw [wrapF_eq, ilt_eq, ckR_eq] at hh
  split at hh
  · refine ⟨_, _, _, _, k_proc_share, ?_⟩
    refine Eq.trans ?_ hh; kernel_rfl
  · cases hh⟩
theorem x_proc_share_L2 : LabOk PR cutsOf TABS (labKey F_proc_share 3018) LB_proc_share_L2 := ⟨rfl, by decide, by kernel_rfl, fun call R a h r hh => by
  change X_proc_share_L2 H call (lr TABS R) a h = some r at hh
  unfold X_proc_share_L2 at hh
  rw [wrapF_eq, ine_eq, ieq_eq, ilt_eq, ckR_eq] at hh
  split at hh
  · refine ⟨_, _, _, _, k_proc_share, ?_⟩
    refine Eq.trans ?_ hh; kernel_rfl
  · cases hh⟩
theorem x_proc_share_L3 : LabOk PR cutsOf TABS (labKey F_proc_share 3038) LB_proc_share_L3 := ⟨rfl, by decide, by kernel_rfl, fun call R a h r hh => by
  change X_proc_share_L3 H call (lr TABS R) a h = some r at hh
  unfold X_proc_share_L3 at hh
  rw [wrapF_eq, ieq_eq, ilt_eq, ckR_eq] at hh
  split at hh
  · refine ⟨_, _, _, _, k_proc_share, ?_⟩
    refine Eq.trans ?_ hh; kernel_rfl
  · cases hh⟩
theorem x_commons_Commons_SetPipe : FunOk PR cutsOf TABS F_commons_Commons_SetPipe X_commons_Commons_SetPipe := fun call R a h r hh => by
  unfold X_commons_Commons_SetPipe at hh
  split at hh
  · refine ⟨_, _, _, _, k_commons_Commons_SetPipe, rfl, ?_⟩
    refine Eq.trans ?_ hh; kernel_rfl
  · cases hh
theorem x_fds_done : FunOk PR cutsOf TABS F_fds_done X_fds_done := fun call R a h r hh => by
  unfold X_fds_done at hh
  split at hh
  · refine ⟨_, _, _, _, k_fds_done, rfl, ?_⟩
    refine Eq.trans ?_ hh; kernel_rfl
  · cases hh
theorem x_caps_Space_Put : FunOk PR cutsOf TABS F_caps_Space_Put X_caps_Space_Put := fun call R a h r hh => by
  unfold X_caps_Space_Put at hh
  rw [ine_eq] at hh
  split at hh
  · refine ⟨_, _, _, _, k_caps_Space_Put, rfl, ?_⟩
    refine Eq.trans ?_ hh; kernel_rfl
  · cases hh
theorem x_ref1_Regions_Add : FunOk PR cutsOf TABS F_ref1_Regions_Add X_ref1_Regions_Add := fun call R a h r hh => by
  unfold X_ref1_Regions_Add at hh
  rw [wrapF_eq, ile_eq] at hh
  split at hh
  · refine ⟨_, _, _, _, k_ref1_Regions_Add, rfl, ?_⟩
    refine Eq.trans ?_ hh; kernel_rfl
  · cases hh
theorem x_ref1_in : FunOk PR cutsOf TABS F_ref1_in X_ref1_in := fun call R a h r hh => by
  unfold X_ref1_in at hh
  split at hh
  · refine ⟨_, _, _, _, k_ref1_in, rfl, ?_⟩
    refine Eq.trans ?_ hh; kernel_rfl
  · cases hh
theorem x_ref1_in_L1 : LabOk PR cutsOf TABS (labKey F_ref1_in 3004) LB_ref1_in_L1 := ⟨rfl, by decide, by kernel_rfl, fun call R a h r hh => by
  change X_ref1_in_L1 H call (lr TABS R) a h = some r at hh
  unfold X_ref1_in_L1 at hh
  rw [wrapF_eq, ieq_eq, ilt_eq, ckR_eq] at hh
  split at hh
  · refine ⟨_, _, _, _, k_ref1_in, ?_⟩
    refine Eq.trans ?_ hh; kernel_rfl
  · cases hh⟩
theorem x_ref1_Space_Revoke : FunOk PR cutsOf TABS F_ref1_Space_Revoke X_ref1_Space_Revoke := fun call R a h r hh => by
  unfold X_ref1_Space_Revoke at hh
  rw [ine_eq] at hh
  split at hh
  · refine ⟨_, _, _, _, k_ref1_Space_Revoke, rfl, ?_⟩
    refine Eq.trans ?_ hh; kernel_rfl
  · cases hh
theorem x_ref1_Space_Revoke_L1 : LabOk PR cutsOf TABS (labKey F_ref1_Space_Revoke 3012) LB_ref1_Space_Revoke_L1 := ⟨rfl, by decide, by kernel_rfl, fun call R a h r hh => by
  change X_ref1_Space_Revoke_L1 H call (lr TABS R) a h = some r at hh
  unfold X_ref1_Space_Revoke_L1 at hh
  rw [wrapF_eq, ilt_eq, ckR_eq] at hh
  split at hh
  · refine ⟨_, _, _, _, k_ref1_Space_Revoke, ?_⟩
    refine Eq.trans ?_ hh; kernel_rfl
  · cases hh⟩
theorem x_ref1_Quota_Free : FunOk PR cutsOf TABS F_ref1_Quota_Free X_ref1_Quota_Free := fun call R a h r hh => by
  unfold X_ref1_Quota_Free at hh
  rw [ilt_eq, ile_eq, ckR_eq] at hh
  split at hh
  · refine ⟨_, _, _, _, k_ref1_Quota_Free, rfl, ?_⟩
    refine Eq.trans ?_ hh; kernel_rfl
  · cases hh
theorem x_ref1_Kern_may : FunOk PR cutsOf TABS F_ref1_Kern_may X_ref1_Kern_may := fun call R a h r hh => by
  unfold X_ref1_Kern_may at hh
  rw [ilt_eq, ile_eq, ckR_eq] at hh
  split at hh
  · refine ⟨_, _, _, _, k_ref1_Kern_may, rfl, ?_⟩
    refine Eq.trans ?_ hh; kernel_rfl
  · cases hh
theorem x_quota_Quota_Free : FunOk PR cutsOf TABS F_quota_Quota_Free X_quota_Quota_Free := fun call R a h r hh => by
  unfold X_quota_Quota_Free at hh
  rw [ckR_eq] at hh
  split at hh
  · refine ⟨_, _, _, _, k_quota_Quota_Free, rfl, ?_⟩
    refine Eq.trans ?_ hh; kernel_rfl
  · cases hh
theorem x_codec_Blank : FunOk PR cutsOf TABS F_codec_Blank X_codec_Blank := fun call R a h r hh => by
  unfold X_codec_Blank at hh
  split at hh
  · refine ⟨_, _, _, _, k_codec_Blank, rfl, ?_⟩
    refine Eq.trans ?_ hh; kernel_rfl
  · cases hh
theorem x_codec_Codec_api_Pipe_Decode : FunOk PR cutsOf TABS F_codec_Codec_api_Pipe_Decode X_codec_Codec_api_Pipe_Decode := fun call R a h r hh => by
  unfold X_codec_Codec_api_Pipe_Decode at hh
  rw [ine_eq] at hh
  split at hh
  · refine ⟨_, _, _, _, k_codec_Codec_api_Pipe_Decode, rfl, ?_⟩
    refine Eq.trans ?_ hh; kernel_rfl
  · cases hh
theorem x_codec_Codec_api_Proc_Encode : FunOk PR cutsOf TABS F_codec_Codec_api_Proc_Encode X_codec_Codec_api_Proc_Encode := fun call R a h r hh => by
  unfold X_codec_Codec_api_Proc_Encode at hh
  split at hh
  · refine ⟨_, _, _, _, k_codec_Codec_api_Proc_Encode, rfl, ?_⟩
    refine Eq.trans ?_ hh; kernel_rfl
  · cases hh
theorem x_codec_Sum : FunOk PR cutsOf TABS F_codec_Sum X_codec_Sum := fun call R a h r hh => by
  unfold X_codec_Sum at hh
  rw [wrapF_eq] at hh
  split at hh
  · refine ⟨_, _, _, _, k_codec_Sum, rfl, ?_⟩
    refine Eq.trans ?_ hh; kernel_rfl
  · cases hh
theorem x_codec_Sum_L1 : LabOk PR cutsOf TABS (labKey F_codec_Sum 3006) LB_codec_Sum_L1 := ⟨rfl, by decide, by kernel_rfl, fun call R a h r hh => by
  change X_codec_Sum_L1 H call (lr TABS R) a h = some r at hh
  unfold X_codec_Sum_L1 at hh
  rw [wrapF_eq, ilt_eq, ckR_eq] at hh
  split at hh
  · refine ⟨_, _, _, _, k_codec_Sum, ?_⟩
    refine Eq.trans ?_ hh; kernel_rfl
  · cases hh⟩
theorem x_fds_fdsOf_1 : FunOk PR cutsOf TABS F_fds_fdsOf_1 X_fds_fdsOf_1 := fun call R a h r hh => by
  unfold X_fds_fdsOf_1 at hh
  rw [ieq_eq, ckR_eq] at hh
  split at hh
  · refine ⟨_, _, _, _, k_fds_fdsOf_1, rfl, ?_⟩
    refine Eq.trans ?_ hh; kernel_rfl
  · cases hh
theorem x_mem_Mem_Size : FunOk PR cutsOf TABS F_mem_Mem_Size X_mem_Mem_Size := fun call R a h r hh => by
  unfold X_mem_Mem_Size at hh
  split at hh
  · refine ⟨_, _, _, _, k_mem_Mem_Size, rfl, ?_⟩
    refine Eq.trans ?_ hh; kernel_rfl
  · cases hh
theorem x_ref1_Space_env : FunOk PR cutsOf TABS F_ref1_Space_env X_ref1_Space_env := fun call R a h r hh => by
  unfold X_ref1_Space_env at hh
  rw [ilt_eq, ile_eq] at hh
  split at hh
  · refine ⟨_, _, _, _, k_ref1_Space_env, rfl, ?_⟩
    refine Eq.trans ?_ hh; kernel_rfl
  · cases hh
theorem x_ref1_Regions_place : FunOk PR cutsOf TABS F_ref1_Regions_place X_ref1_Regions_place := fun call R a h r hh => by
  unfold X_ref1_Regions_place at hh
  rw [wrapF_eq, bitA_eq, ine_eq, ieq_eq, ilt_eq, ile_eq, ckR_eq] at hh
  split at hh
  · refine ⟨_, _, _, _, k_ref1_Regions_place, rfl, ?_⟩
    refine Eq.trans ?_ hh; kernel_rfl
  · cases hh
theorem x_ref1_Sect_at : FunOk PR cutsOf TABS F_ref1_Sect_at X_ref1_Sect_at := fun call R a h r hh => by
  unfold X_ref1_Sect_at at hh
  split at hh
  · refine ⟨_, _, _, _, k_ref1_Sect_at, rfl, ?_⟩
    refine Eq.trans ?_ hh; kernel_rfl
  · cases hh
theorem x_ref1_Sect_at_L1 : LabOk PR cutsOf TABS (labKey F_ref1_Sect_at 3004) LB_ref1_Sect_at_L1 := ⟨rfl, by decide, by kernel_rfl, fun call R a h r hh => by
  change X_ref1_Sect_at_L1 H call (lr TABS R) a h = some r at hh
  unfold X_ref1_Sect_at_L1 at hh
  rw [wrapF_eq, ieq_eq, ilt_eq, ckR_eq] at hh
  split at hh
  · refine ⟨_, _, _, _, k_ref1_Sect_at, ?_⟩
    refine Eq.trans ?_ hh; kernel_rfl
  · cases hh⟩
theorem x_caps_Space_Get : FunOk PR cutsOf TABS F_caps_Space_Get X_caps_Space_Get := fun call R a h r hh => by
  unfold X_caps_Space_Get at hh
  rw [ckR_eq] at hh
  split at hh
  · refine ⟨_, _, _, _, k_caps_Space_Get, rfl, ?_⟩
    refine Eq.trans ?_ hh; kernel_rfl
  · cases hh
theorem x_slices_ContainsFunc_s_byte_byte : FunOk PR cutsOf TABS F_slices_ContainsFunc_s_byte_byte X_slices_ContainsFunc_s_byte_byte := fun call R a h r hh => by
  unfold X_slices_ContainsFunc_s_byte_byte at hh
  rw [ile_eq] at hh
  split at hh
  · refine ⟨_, _, _, _, k_slices_ContainsFunc_s_byte_byte, rfl, ?_⟩
    refine Eq.trans ?_ hh; kernel_rfl
  · cases hh
theorem x_pslot_get : FunOk PR cutsOf TABS F_pslot_get X_pslot_get := fun call R a h r hh => by
  unfold X_pslot_get at hh
  rw [wrapF_eq, ckR_eq] at hh
  split at hh
  · refine ⟨_, _, _, _, k_pslot_get, rfl, ?_⟩
    refine Eq.trans ?_ hh; kernel_rfl
  · cases hh
theorem x_pslot_get_L1 : LabOk PR cutsOf TABS (labKey F_pslot_get 3006) LB_pslot_get_L1 := ⟨rfl, by decide, by kernel_rfl, fun call R a h r hh => by
  change X_pslot_get_L1 H call (lr TABS R) a h = some r at hh
  unfold X_pslot_get_L1 at hh
  rw [wrapF_eq, ilt_eq, ckR_eq] at hh
  split at hh
  · refine ⟨_, _, _, _, k_pslot_get, ?_⟩
    refine Eq.trans ?_ hh; kernel_rfl
  · cases hh⟩
theorem x_pslot_get_L2 : LabOk PR cutsOf TABS (labKey F_pslot_get 3016) LB_pslot_get_L2 := ⟨rfl, by decide, by kernel_rfl, fun call R a h r hh => by
  change X_pslot_get_L2 H call (lr TABS R) a h = some r at hh
  unfold X_pslot_get_L2 at hh
  rw [wrapF_eq, ilt_eq, ckR_eq] at hh
  split at hh
  · refine ⟨_, _, _, _, k_pslot_get, ?_⟩
    refine Eq.trans ?_ hh; kernel_rfl
  · cases hh⟩
theorem x_ofile_get : FunOk PR cutsOf TABS F_ofile_get X_ofile_get := fun call R a h r hh => by
  unfold X_ofile_get at hh
  rw [wrapF_eq, ckR_eq] at hh
  split at hh
  · refine ⟨_, _, _, _, k_ofile_get, rfl, ?_⟩
    refine Eq.trans ?_ hh; kernel_rfl
  · cases hh
theorem x_ring_get : FunOk PR cutsOf TABS F_ring_get X_ring_get := fun call R a h r hh => by
  unfold X_ring_get at hh
  rw [wrapF_eq, ckR_eq, ckL_eq] at hh
  split at hh
  · refine ⟨_, _, _, _, k_ring_get, rfl, ?_⟩
    refine Eq.trans ?_ hh; kernel_rfl
  · cases hh
theorem x_table_Table_api_Cap_Add : FunOk PR cutsOf TABS F_table_Table_api_Cap_Add X_table_Table_api_Cap_Add := fun call R a h r hh => by
  unfold X_table_Table_api_Cap_Add at hh
  split at hh
  · refine ⟨_, _, _, _, k_table_Table_api_Cap_Add, rfl, ?_⟩
    refine Eq.trans ?_ hh; kernel_rfl
  · cases hh
theorem x_table_Table_api_Cap_Add_L1 : LabOk PR cutsOf TABS (labKey F_table_Table_api_Cap_Add 3004) LB_table_Table_api_Cap_Add_L1 := ⟨rfl, by decide, by kernel_rfl, fun call R a h r hh => by
  change X_table_Table_api_Cap_Add_L1 H call (lr TABS R) a h = some r at hh
  unfold X_table_Table_api_Cap_Add_L1 at hh
  rw [wrapF_eq, ilt_eq, ile_eq, ckR_eq] at hh
  split at hh
  · refine ⟨_, _, _, _, k_table_Table_api_Cap_Add, ?_⟩
    refine Eq.trans ?_ hh; kernel_rfl
  · cases hh⟩
theorem x_table_Table_api_Cap_Get : FunOk PR cutsOf TABS F_table_Table_api_Cap_Get X_table_Table_api_Cap_Get := fun call R a h r hh => by
  unfold X_table_Table_api_Cap_Get at hh
  split at hh
  · refine ⟨_, _, _, _, k_table_Table_api_Cap_Get, rfl, ?_⟩
    refine Eq.trans ?_ hh; kernel_rfl
  · cases hh
theorem x_caps_Space_Under_1 : FunOk PR cutsOf TABS F_caps_Space_Under_1 X_caps_Space_Under_1 := fun call R a h r hh => by
  unfold X_caps_Space_Under_1 at hh
  rw [wrapF_eq, ine_eq] at hh
  split at hh
  · refine ⟨_, _, _, _, k_caps_Space_Under_1, rfl, ?_⟩
    refine Eq.trans ?_ hh; kernel_rfl
  · cases hh
theorem x_sect_Sect_Holds : FunOk PR cutsOf TABS F_sect_Sect_Holds X_sect_Sect_Holds := fun call R a h r hh => by
  unfold X_sect_Sect_Holds at hh
  rw [ieq_eq] at hh
  split at hh
  · refine ⟨_, _, _, _, k_sect_Sect_Holds, rfl, ?_⟩
    refine Eq.trans ?_ hh; kernel_rfl
  · cases hh
theorem x_slices_IndexFunc_s_byte_byte : FunOk PR cutsOf TABS F_slices_IndexFunc_s_byte_byte X_slices_IndexFunc_s_byte_byte := fun call R a h r hh => by
  unfold X_slices_IndexFunc_s_byte_byte at hh
  split at hh
  · refine ⟨_, _, _, _, k_slices_IndexFunc_s_byte_byte, rfl, ?_⟩
    refine Eq.trans ?_ hh; kernel_rfl
  · cases hh
theorem x_slices_IndexFunc_s_byte_byte_L1 : LabOk PR cutsOf TABS (labKey F_slices_IndexFunc_s_byte_byte 3004) LB_slices_IndexFunc_s_byte_byte_L1 := ⟨rfl, by decide, by kernel_rfl, fun call R a h r hh => by
  change X_slices_IndexFunc_s_byte_byte_L1 H call (lr TABS R) a h = some r at hh
  unfold X_slices_IndexFunc_s_byte_byte_L1 at hh
  rw [wrapF_eq, ilt_eq, ckR_eq] at hh
  split at hh
  · refine ⟨_, _, _, _, k_slices_IndexFunc_s_byte_byte, ?_⟩
    refine Eq.trans ?_ hh; kernel_rfl
  · cases hh⟩
theorem x_codec_Get2 : FunOk PR cutsOf TABS F_codec_Get2 X_codec_Get2 := fun call R a h r hh => by
  unfold X_codec_Get2 at hh
  rw [wrapF_eq, ilt_eq, ckR_eq] at hh
  split at hh
  · refine ⟨_, _, _, _, k_codec_Get2, rfl, ?_⟩
    refine Eq.trans ?_ hh; kernel_rfl
  · cases hh
theorem x_pslot_Ok_1 : FunOk PR cutsOf TABS F_pslot_Ok_1 X_pslot_Ok_1 := fun call R a h r hh => by
  unfold X_pslot_Ok_1 at hh
  rw [ilt_eq] at hh
  split at hh
  · refine ⟨_, _, _, _, k_pslot_Ok_1, rfl, ?_⟩
    refine Eq.trans ?_ hh; kernel_rfl
  · cases hh
theorem x_ring_Ok_1 : FunOk PR cutsOf TABS F_ring_Ok_1 X_ring_Ok_1 := fun call R a h r hh => by
  unfold X_ring_Ok_1 at hh
  rw [ile_eq] at hh
  split at hh
  · refine ⟨_, _, _, _, k_ring_Ok_1, rfl, ?_⟩
    refine Eq.trans ?_ hh; kernel_rfl
  · cases hh
theorem x_slices_partialInsertionSortCmpFunc_api_Ref : FunOk PR cutsOf TABS F_slices_partialInsertionSortCmpFunc_api_Ref X_slices_partialInsertionSortCmpFunc_api_Ref := fun call R a h r hh => by
  unfold X_slices_partialInsertionSortCmpFunc_api_Ref at hh
  rw [wrapF_eq] at hh
  split at hh
  · refine ⟨_, _, _, _, k_slices_partialInsertionSortCmpFunc_api_Ref, rfl, ?_⟩
    refine Eq.trans ?_ hh; kernel_rfl
  · cases hh
theorem x_slices_partialInsertionSortCmpFunc_api_Ref_L1 : LabOk PR cutsOf TABS (labKey F_slices_partialInsertionSortCmpFunc_api_Ref 3006) LB_slices_partialInsertionSortCmpFunc_api_Ref_L1 := ⟨rfl, by decide, by kernel_rfl, fun call R a h r hh => by
  change X_slices_partialInsertionSortCmpFunc_api_Ref_L1 H call (lr TABS R) a h = some r at hh
  unfold X_slices_partialInsertionSortCmpFunc_api_Ref_L1 at hh
  rw [ilt_eq] at hh
  split at hh
  · refine ⟨_, _, _, _, k_slices_partialInsertionSortCmpFunc_api_Ref, ?_⟩
    refine Eq.trans ?_ hh; kernel_rfl
  · cases hh⟩
theorem x_slices_partialInsertionSortCmpFunc_api_Ref_L2 : LabOk PR cutsOf TABS (labKey F_slices_partialInsertionSortCmpFunc_api_Ref 8010) LB_slices_partialInsertionSortCmpFunc_api_Ref_L2 := ⟨rfl, by decide, by kernel_rfl, fun call R a h r hh => by
  change X_slices_partialInsertionSortCmpFunc_api_Ref_L2 H call (lr TABS R) a h = some r at hh
  unfold X_slices_partialInsertionSortCmpFunc_api_Ref_L2 at hh
  rw [wrapF_eq, ieq_eq, ilt_eq, ile_eq, ckR_eq] at hh
  split at hh
  · refine ⟨_, _, _, _, k_slices_partialInsertionSortCmpFunc_api_Ref, ?_⟩
    refine Eq.trans ?_ hh; kernel_rfl
  · cases hh⟩
theorem x_slices_partialInsertionSortCmpFunc_api_Ref_L3 : LabOk PR cutsOf TABS (labKey F_slices_partialInsertionSortCmpFunc_api_Ref 8028) LB_slices_partialInsertionSortCmpFunc_api_Ref_L3 := ⟨rfl, by decide, by kernel_rfl, fun call R a h r hh => by
  change X_slices_partialInsertionSortCmpFunc_api_Ref_L3 H call (lr TABS R) a h = some r at hh
  unfold X_slices_partialInsertionSortCmpFunc_api_Ref_L3 at hh
  rw [wrapF_eq, ilt_eq, ile_eq, ckR_eq] at hh
  split at hh
  · refine ⟨_, _, _, _, k_slices_partialInsertionSortCmpFunc_api_Ref, ?_⟩
    refine Eq.trans ?_ hh; kernel_rfl
  · cases hh⟩
theorem x_slices_partialInsertionSortCmpFunc_api_Ref_R1 : LabOk PR cutsOf TABS (labKey F_slices_partialInsertionSortCmpFunc_api_Ref 7037) LB_slices_partialInsertionSortCmpFunc_api_Ref_R1 := ⟨rfl, by decide, by kernel_rfl, fun call R a h r hh => by
  change X_slices_partialInsertionSortCmpFunc_api_Ref_R1 H call (lr TABS R) a h = some r at hh
  unfold X_slices_partialInsertionSortCmpFunc_api_Ref_R1 at hh
  rw [wrapF_eq, ile_eq] at hh
  split at hh
  · refine ⟨_, _, _, _, k_slices_partialInsertionSortCmpFunc_api_Ref, ?_⟩
    refine Eq.trans ?_ hh; kernel_rfl
  · cases hh⟩
theorem x_slices_partialInsertionSortCmpFunc_api_Ref_L4 : LabOk PR cutsOf TABS (labKey F_slices_partialInsertionSortCmpFunc_api_Ref 7040) LB_slices_partialInsertionSortCmpFunc_api_Ref_L4 := ⟨rfl, by decide, by kernel_rfl, fun call R a h r hh => by
  change X_slices_partialInsertionSortCmpFunc_api_Ref_L4 H call (lr TABS R) a h = some r at hh
  unfold X_slices_partialInsertionSortCmpFunc_api_Ref_L4 at hh
  rw [wrapF_eq, ilt_eq, ckR_eq] at hh
  split at hh
  · refine ⟨_, _, _, _, k_slices_partialInsertionSortCmpFunc_api_Ref, ?_⟩
    refine Eq.trans ?_ hh; kernel_rfl
  · cases hh⟩
theorem x_slices_partitionEqualCmpFunc_api_Ref : FunOk PR cutsOf TABS F_slices_partitionEqualCmpFunc_api_Ref X_slices_partitionEqualCmpFunc_api_Ref := fun call R a h r hh => by
  unfold X_slices_partitionEqualCmpFunc_api_Ref at hh
  rw [wrapF_eq, ckR_eq] at hh
  split at hh
  · refine ⟨_, _, _, _, k_slices_partitionEqualCmpFunc_api_Ref, rfl, ?_⟩
    refine Eq.trans ?_ hh; kernel_rfl
  · cases hh
theorem x_slices_partitionEqualCmpFunc_api_Ref_L1 : LabOk PR cutsOf TABS (labKey F_slices_partitionEqualCmpFunc_api_Ref 3006) LB_slices_partitionEqualCmpFunc_api_Ref_L1 := ⟨rfl, by decide, by kernel_rfl, fun call R a h r hh => by
  change X_slices_partitionEqualCmpFunc_api_Ref_L1 H call (lr TABS R) a h = some r at hh
  unfold X_slices_partitionEqualCmpFunc_api_Ref_L1 at hh
  split at hh
  · refine ⟨_, _, _, _, k_slices_partitionEqualCmpFunc_api_Ref, ?_⟩
    refine Eq.trans ?_ hh; kernel_rfl
  · cases hh⟩
theorem x_slices_partitionEqualCmpFunc_api_Ref_L2 : LabOk PR cutsOf TABS (labKey F_slices_partitionEqualCmpFunc_api_Ref 7006) LB_slices_partitionEqualCmpFunc_api_Ref_L2 := ⟨rfl, by decide, by kernel_rfl, fun call R a h r hh => by
  change X_slices_partitionEqualCmpFunc_api_Ref_L2 H call (lr TABS R) a h = some r at hh
  unfold X_slices_partitionEqualCmpFunc_api_Ref_L2 at hh
  rw [wrapF_eq, ilt_eq, ile_eq, ckR_eq] at hh
  split at hh
  · refine ⟨_, _, _, _, k_slices_partitionEqualCmpFunc_api_Ref, ?_⟩
    refine Eq.trans ?_ hh; kernel_rfl
  · cases hh⟩
theorem x_slices_partitionEqualCmpFunc_api_Ref_L3 : LabOk PR cutsOf TABS (labKey F_slices_partitionEqualCmpFunc_api_Ref 7010) LB_slices_partitionEqualCmpFunc_api_Ref_L3 := ⟨rfl, by decide, by kernel_rfl, fun call R a h r hh => by
  change X_slices_partitionEqualCmpFunc_api_Ref_L3 H call (lr TABS R) a h = some r at hh
  unfold X_slices_partitionEqualCmpFunc_api_Ref_L3 at hh
  rw [wrapF_eq, ilt_eq, ile_eq, ckR_eq] at hh
  split at hh
  · refine ⟨_, _, _, _, k_slices_partitionEqualCmpFunc_api_Ref, ?_⟩
    refine Eq.trans ?_ hh; kernel_rfl
  · cases hh⟩
theorem x_math_bits_Len32 : FunOk PR cutsOf TABS F_math_bits_Len32 X_math_bits_Len32 := fun call R a h r hh => by
  unfold X_math_bits_Len32 at hh
  rw [ile_eq] at hh
  split at hh
  · refine ⟨_, _, _, _, k_math_bits_Len32, rfl, ?_⟩
    refine Eq.trans ?_ hh; kernel_rfl
  · cases hh
theorem x_math_bits_Len32_R1 : LabOk PR cutsOf TABS (labKey F_math_bits_Len32 3009) LB_math_bits_Len32_R1 := ⟨rfl, by decide, by kernel_rfl, fun call R a h r hh => by
  change X_math_bits_Len32_R1 H call (lr TABS R) a h = some r at hh
  unfold X_math_bits_Len32_R1 at hh
  rw [wrapF_eq, ile_eq, ckR_eq] at hh
  split at hh
  · refine ⟨_, _, _, _, k_math_bits_Len32, ?_⟩
    refine Eq.trans ?_ hh; kernel_rfl
  · cases hh⟩
theorem x_slices_siftDownCmpFunc_api_Ref : FunOk PR cutsOf TABS F_slices_siftDownCmpFunc_api_Ref X_slices_siftDownCmpFunc_api_Ref := fun call R a h r hh => by
  unfold X_slices_siftDownCmpFunc_api_Ref at hh
  split at hh
  · refine ⟨_, _, _, _, k_slices_siftDownCmpFunc_api_Ref, rfl, ?_⟩
    refine Eq.trans ?_ hh; kernel_rfl
  · cases hh
theorem x_slices_siftDownCmpFunc_api_Ref_L1 : LabOk PR cutsOf TABS (labKey F_slices_siftDownCmpFunc_api_Ref 2002) LB_slices_siftDownCmpFunc_api_Ref_L1 := ⟨rfl, by decide, by kernel_rfl, fun call R a h r hh => by
  change X_slices_siftDownCmpFunc_api_Ref_L1 H call (lr TABS R) a h = some r at hh
  unfold X_slices_siftDownCmpFunc_api_Ref_L1 at hh
  rw [wrapF_eq, ilt_eq, ile_eq, ckR_eq] at hh
  split at hh
  · refine ⟨_, _, _, _, k_slices_siftDownCmpFunc_api_Ref, ?_⟩
    refine Eq.trans ?_ hh; kernel_rfl
  · cases hh⟩
theorem x_slices_siftDownCmpFunc_api_Ref_R1 : LabOk PR cutsOf TABS (labKey F_slices_siftDownCmpFunc_api_Ref 6011) LB_slices_siftDownCmpFunc_api_Ref_R1 := ⟨rfl, by decide, by kernel_rfl, fun call R a h r hh => by
  change X_slices_siftDownCmpFunc_api_Ref_R1 H call (lr TABS R) a h = some r at hh
  unfold X_slices_siftDownCmpFunc_api_Ref_R1 at hh
  rw [wrapF_eq, ilt_eq, ckR_eq] at hh
  split at hh
  · refine ⟨_, _, _, _, k_slices_siftDownCmpFunc_api_Ref, ?_⟩
    refine Eq.trans ?_ hh; kernel_rfl
  · cases hh⟩
theorem x_slices_medianAdjacentCmpFunc_api_Ref : FunOk PR cutsOf TABS F_slices_medianAdjacentCmpFunc_api_Ref X_slices_medianAdjacentCmpFunc_api_Ref := fun call R a h r hh => by
  unfold X_slices_medianAdjacentCmpFunc_api_Ref at hh
  rw [wrapF_eq] at hh
  split at hh
  · refine ⟨_, _, _, _, k_slices_medianAdjacentCmpFunc_api_Ref, rfl, ?_⟩
    refine Eq.trans ?_ hh; kernel_rfl
  · cases hh
theorem x_slices_medianCmpFunc_api_Ref : FunOk PR cutsOf TABS F_slices_medianCmpFunc_api_Ref X_slices_medianCmpFunc_api_Ref := fun call R a h r hh => by
  unfold X_slices_medianCmpFunc_api_Ref at hh
  split at hh
  · refine ⟨_, _, _, _, k_slices_medianCmpFunc_api_Ref, rfl, ?_⟩
    refine Eq.trans ?_ hh; kernel_rfl
  · cases hh
end Go.EQ

set_option maxRecDepth 100000
set_option linter.unusedVariables false
namespace Go.EQ
open Go Go.Proofs
open Go.NN hiding bnd ld gInt gBool gStr gPtr gSl gMap gFv gAgg gCells nw pV pAgg pCells apd fitsOpen liveA mapAt
open Go.NP Go.NW
theorem x_law18_FdsLimits : FunOk PR cutsOf TABS F_law18_FdsLimits X_law18_FdsLimits := fun call R a h r hh => by
  unfold X_law18_FdsLimits at hh
  rw [bitA_eq] at hh
  split at hh
  · refine ⟨_, _, _, _, k_law18_FdsLimits, rfl, ?_⟩
    refine Eq.trans ?_ hh; kernel_rfl
  · cases hh
theorem x_law18_FdsLimits_L1 : LabOk PR cutsOf TABS (labKey F_law18_FdsLimits 3012) LB_law18_FdsLimits_L1 := ⟨rfl, by decide, by kernel_rfl, fun call R a h r hh => by
  change X_law18_FdsLimits_L1 H call (lr TABS R) a h = some r at hh
  unfold X_law18_FdsLimits_L1 at hh
  rw [wrapF_eq, ine_eq, ilt_eq] at hh
  split at hh
  · refine ⟨_, _, _, _, k_law18_FdsLimits, ?_⟩
    refine Eq.trans ?_ hh; kernel_rfl
  · cases hh⟩
theorem x_law18_FdsLimits_L2 : LabOk PR cutsOf TABS (labKey F_law18_FdsLimits 3026) LB_law18_FdsLimits_L2 := ⟨rfl, by decide, by kernel_rfl, fun call R a h r hh => by
  change X_law18_FdsLimits_L2 H call (lr TABS R) a h = some r at hh
  unfold X_law18_FdsLimits_L2 at hh
  rw [wrapF_eq, ieq_eq, ilt_eq, ile_eq, ckR_eq] at hh
  split at hh
  · refine ⟨_, _, _, _, k_law18_FdsLimits, ?_⟩
    refine Eq.trans ?_ hh; kernel_rfl
  · cases hh⟩
theorem x_law18_FdsLimits_R1 : LabOk PR cutsOf TABS (labKey F_law18_FdsLimits 8049) LB_law18_FdsLimits_R1 := ⟨rfl, by decide, by kernel_rfl, fun call R a h r hh => by
  change X_law18_FdsLimits_R1 H call (lr TABS R) a h = some r at hh
  unfold X_law18_FdsLimits_R1 at hh
  rw [wrapF_eq, ine_eq, ieq_eq, ckR_eq] at hh
  split at hh
  · refine ⟨_, _, _, _, k_law18_FdsLimits, ?_⟩
    refine Eq.trans ?_ hh; kernel_rfl
  · cases hh⟩
theorem x_commons_Commons_Pipe : FunOk PR cutsOf TABS F_commons_Commons_Pipe X_commons_Commons_Pipe := fun call R a h r hh => by
  unfold X_commons_Commons_Pipe at hh
  split at hh
  · refine ⟨_, _, _, _, k_commons_Commons_Pipe, rfl, ?_⟩
    refine Eq.trans ?_ hh; kernel_rfl
  · cases hh
theorem x_commons_Commons_SetProc : FunOk PR cutsOf TABS F_commons_Commons_SetProc X_commons_Commons_SetProc := fun call R a h r hh => by
  unfold X_commons_Commons_SetProc at hh
  split at hh
  · refine ⟨_, _, _, _, k_commons_Commons_SetProc, rfl, ?_⟩
    refine Eq.trans ?_ hh; kernel_rfl
  · cases hh
theorem x_commons_Commons_FreeFile : FunOk PR cutsOf TABS F_commons_Commons_FreeFile X_commons_Commons_FreeFile := fun call R a h r hh => by
  unfold X_commons_Commons_FreeFile at hh
  split at hh
  · refine ⟨_, _, _, _, k_commons_Commons_FreeFile, rfl, ?_⟩
    refine Eq.trans ?_ hh; kernel_rfl
  · cases hh
theorem x_law15_awake : FunOk PR cutsOf TABS F_law15_awake X_law15_awake := fun call R a h r hh => by
  unfold X_law15_awake at hh
  rw [ieq_eq] at hh
  split at hh
  · refine ⟨_, _, _, _, k_law15_awake, rfl, ?_⟩
    refine Eq.trans ?_ hh; kernel_rfl
  · cases hh
theorem x_kern_Kern_Regions : FunOk PR cutsOf TABS F_kern_Kern_Regions X_kern_Kern_Regions := fun call R a h r hh => by
  unfold X_kern_Kern_Regions at hh
  split at hh
  · refine ⟨_, _, _, _, k_kern_Kern_Regions, rfl, ?_⟩
    refine Eq.trans ?_ hh; kernel_rfl
  · cases hh
theorem x_fds_Pipe : FunOk PR cutsOf TABS F_fds_Pipe X_fds_Pipe := fun call R a h r hh => by
  unfold X_fds_Pipe at hh
  rw [wrapF_eq, ine_eq, ieq_eq, ilt_eq, ckR_eq] at hh
  split at hh
  · refine ⟨_, _, _, _, k_fds_Pipe, rfl, ?_⟩
    refine Eq.trans ?_ hh; kernel_rfl
  · cases hh
theorem x_kern_Kern_number : FunOk PR cutsOf TABS F_kern_Kern_number X_kern_Kern_number := fun call R a h r hh => by
  unfold X_kern_Kern_number at hh
  rw [ieq_eq, ckR_eq] at hh
  split at hh
  · refine ⟨_, _, _, _, k_kern_Kern_number, rfl, ?_⟩
    refine Eq.trans ?_ hh; kernel_rfl
  · cases hh
theorem x_commons_record_api_Proc : FunOk PR cutsOf TABS F_commons_record_api_Proc X_commons_record_api_Proc := fun call R a h r hh => by
  unfold X_commons_record_api_Proc at hh
  rw [wrapF_eq, ieq_eq] at hh
  split at hh
  · refine ⟨_, _, _, _, k_commons_record_api_Proc, rfl, ?_⟩
    refine Eq.trans ?_ hh; kernel_rfl
  · cases hh
theorem x_commons_record_api_Proc_R1 : LabOk PR cutsOf TABS (labKey F_commons_record_api_Proc 3017) LB_commons_record_api_Proc_R1 := ⟨rfl, by decide, by kernel_rfl, fun call R a h r hh => by
  change X_commons_record_api_Proc_R1 H call (lr TABS R) a h = some r at hh
  unfold X_commons_record_api_Proc_R1 at hh
  rw [ine_eq] at hh
  split at hh
  · refine ⟨_, _, _, _, k_commons_record_api_Proc, ?_⟩
    refine Eq.trans ?_ hh; kernel_rfl
  · cases hh⟩
theorem x_commons_file : FunOk PR cutsOf TABS F_commons_file X_commons_file := fun call R a h r hh => by
  unfold X_commons_file at hh
  split at hh
  · refine ⟨_, _, _, _, k_commons_file, rfl, ?_⟩
    refine Eq.trans ?_ hh; kernel_rfl
  · cases hh
theorem x_commons_Commons_write : FunOk PR cutsOf TABS F_commons_Commons_write X_commons_Commons_write := fun call R a h r hh => by
  unfold X_commons_Commons_write at hh
  rw [ieq_eq, ilt_eq] at hh
  split at hh
  · refine ⟨_, _, _, _, k_commons_Commons_write, rfl, ?_⟩
    refine Eq.trans ?_ hh; kernel_rfl
  · cases hh
theorem x_ref11_ProcBytes : FunOk PR cutsOf TABS F_ref11_ProcBytes X_ref11_ProcBytes := fun call R a h r hh => by
  unfold X_ref11_ProcBytes at hh
  rw [wrapF_eq] at hh
  split at hh
  · refine ⟨_, _, _, _, k_ref11_ProcBytes, rfl, ?_⟩
    refine Eq.trans ?_ hh; kernel_rfl
  · cases hh
theorem x_ref11_ProcBytes_L1 : LabOk PR cutsOf TABS (labKey F_ref11_ProcBytes 3008) LB_ref11_ProcBytes_L1 := ⟨rfl, by decide, by kernel_rfl, fun call R a h r hh => by
  change X_ref11_ProcBytes_L1 H call (lr TABS R) a h = some r at hh
  unfold X_ref11_ProcBytes_L1 at hh
  rw [wrapF_eq, ilt_eq, ckR_eq] at hh
  split at hh
  · refine ⟨_, _, _, _, k_ref11_ProcBytes, ?_⟩
    refine Eq.trans ?_ hh; kernel_rfl
  · cases hh⟩
theorem x_proc_done : FunOk PR cutsOf TABS F_proc_done X_proc_done := fun call R a h r hh => by
  unfold X_proc_done at hh
  split at hh
  · refine ⟨_, _, _, _, k_proc_done, rfl, ?_⟩
    refine Eq.trans ?_ hh; kernel_rfl
  · cases hh
theorem x_mem_Mem_Load : FunOk PR cutsOf TABS F_mem_Mem_Load X_mem_Mem_Load := fun call R a h r hh => by
  unfold X_mem_Mem_Load at hh
  rw [wrapF_eq, ckL_eq] at hh
  split at hh
  · refine ⟨_, _, _, _, k_mem_Mem_Load, rfl, ?_⟩
    refine Eq.trans ?_ hh; kernel_rfl
  · cases hh
theorem x_fds_Pipe_2 : FunOk PR cutsOf TABS F_fds_Pipe_2 X_fds_Pipe_2 := fun call R a h r hh => by
  unfold X_fds_Pipe_2 at hh
  rw [ieq_eq] at hh
  split at hh
  · refine ⟨_, _, _, _, k_fds_Pipe_2, rfl, ?_⟩
    refine Eq.trans ?_ hh; kernel_rfl
  · cases hh
theorem x_kern_frames : FunOk PR cutsOf TABS F_kern_frames X_kern_frames := fun call R a h r hh => by
  unfold X_kern_frames at hh
  split at hh
  · refine ⟨_, _, _, _, k_kern_frames, rfl, ?_⟩
    refine Eq.trans ?_ hh; kernel_rfl
  · cases hh
theorem x_quota_New : FunOk PR cutsOf TABS F_quota_New X_quota_New := fun call R a h r hh => by
  unfold X_quota_New at hh
  rw [ckL_eq] at hh
  split at hh
  · refine ⟨_, _, _, _, k_quota_New, rfl, ?_⟩
    refine Eq.trans ?_ hh; kernel_rfl
  · cases hh
theorem x_quota_New_L1 : LabOk PR cutsOf TABS (labKey F_quota_New 3006) LB_quota_New_L1 := ⟨rfl, by decide, by kernel_rfl, fun call R a h r hh => by
  change X_quota_New_L1 H call (lr TABS R) a h = some r at hh
  unfold X_quota_New_L1 at hh
  rw [wrapF_eq, ilt_eq, ckR_eq] at hh
  split at hh
  · refine ⟨_, _, _, _, k_quota_New, ?_⟩
    refine Eq.trans ?_ hh; kernel_rfl
  · cases hh⟩
theorem x_sect_New : FunOk PR cutsOf TABS F_sect_New X_sect_New := fun call R a h r hh => by
  unfold X_sect_New at hh
  split at hh
  · refine ⟨_, _, _, _, k_sect_New, rfl, ?_⟩
    refine Eq.trans ?_ hh; kernel_rfl
  · cases hh
theorem x_ref1_NewSpace : FunOk PR cutsOf TABS F_ref1_NewSpace X_ref1_NewSpace := fun call R a h r hh => by
  unfold X_ref1_NewSpace at hh
  split at hh
  · refine ⟨_, _, _, _, k_ref1_NewSpace, rfl, ?_⟩
    refine Eq.trans ?_ hh; kernel_rfl
  · cases hh
theorem x_ref1_NewSpace_L1 : LabOk PR cutsOf TABS (labKey F_ref1_NewSpace 3006) LB_ref1_NewSpace_L1 := ⟨rfl, by decide, by kernel_rfl, fun call R a h r hh => by
  change X_ref1_NewSpace_L1 H call (lr TABS R) a h = some r at hh
  unfold X_ref1_NewSpace_L1 at hh
  rw [wrapF_eq, ilt_eq] at hh
  split at hh
  · refine ⟨_, _, _, _, k_ref1_NewSpace, ?_⟩
    refine Eq.trans ?_ hh; kernel_rfl
  · cases hh⟩
theorem x_ref15_FrontBytes : FunOk PR cutsOf TABS F_ref15_FrontBytes X_ref15_FrontBytes := fun call R a h r hh => by
  unfold X_ref15_FrontBytes at hh
  rw [wrapF_eq] at hh
  split at hh
  · refine ⟨_, _, _, _, k_ref15_FrontBytes, rfl, ?_⟩
    refine Eq.trans ?_ hh; kernel_rfl
  · cases hh
theorem x_ref1_Sect_Enter : FunOk PR cutsOf TABS F_ref1_Sect_Enter X_ref1_Sect_Enter := fun call R a h r hh => by
  unfold X_ref1_Sect_Enter at hh
  rw [ieq_eq, ilt_eq] at hh
  split at hh
  · refine ⟨_, _, _, _, k_ref1_Sect_Enter, rfl, ?_⟩
    refine Eq.trans ?_ hh; kernel_rfl
  · cases hh
theorem x_ref1_Sect_Enter_R1 : LabOk PR cutsOf TABS (labKey F_ref1_Sect_Enter 2019) LB_ref1_Sect_Enter_R1 := ⟨rfl, by decide, by kernel_rfl, fun call R a h r hh => by
  change X_ref1_Sect_Enter_R1 H call (lr TABS R) a h = some r at hh
  unfold X_ref1_Sect_Enter_R1 at hh
  split at hh
  · refine ⟨_, _, _, _, k_ref1_Sect_Enter, ?_⟩
    refine Eq.trans ?_ hh; kernel_rfl
  · cases hh⟩
theorem x_ref1_Sect_Enter_R2 : LabOk PR cutsOf TABS (labKey F_ref1_Sect_Enter 3021) LB_ref1_Sect_Enter_R2 := ⟨rfl, by decide, by kernel_rfl, fun call R a h r hh => by
  change X_ref1_Sect_Enter_R2 H call (lr TABS R) a h = some r at hh
  unfold X_ref1_Sect_Enter_R2 at hh
  rw [wrapF_eq, ile_eq] at hh
  split at hh
  · refine ⟨_, _, _, _, k_ref1_Sect_Enter, ?_⟩
    refine Eq.trans ?_ hh; kernel_rfl
  · cases hh⟩
theorem x_ref1_Sect_Enter_R3 : LabOk PR cutsOf TABS (labKey F_ref1_Sect_Enter 3027) LB_ref1_Sect_Enter_R3 := ⟨rfl, by decide, by kernel_rfl, fun call R a h r hh => by
  change X_ref1_Sect_Enter_R3 H call (lr TABS R) a h = some r at hh
  unfold X_ref1_Sect_Enter_R3 at hh
  rw [ieq_eq, ckR_eq] at hh
  split at hh
  · refine ⟨_, _, _, _, k_ref1_Sect_Enter, ?_⟩
    refine Eq.trans ?_ hh; kernel_rfl
  · cases hh⟩
theorem x_ref1_Sect_Enter_R4 : LabOk PR cutsOf TABS (labKey F_ref1_Sect_Enter 3033) LB_ref1_Sect_Enter_R4 := ⟨rfl, by decide, by kernel_rfl, fun call R a h r hh => by
  change X_ref1_Sect_Enter_R4 H call (lr TABS R) a h = some r at hh
  unfold X_ref1_Sect_Enter_R4 at hh
  split at hh
  · refine ⟨_, _, _, _, k_ref1_Sect_Enter, ?_⟩
    refine Eq.trans ?_ hh; kernel_rfl
  · cases hh⟩
theorem x_ref1_Sect_Enter_L1 : LabOk PR cutsOf TABS (labKey F_ref1_Sect_Enter 3034) LB_ref1_Sect_Enter_L1 := ⟨rfl, by decide, by kernel_rfl, fun call R a h r hh => by
  change X_ref1_Sect_Enter_L1 H call (lr TABS R) a h = some r at hh
  unfold X_ref1_Sect_Enter_L1 at hh
  rw [wrapF_eq, ine_eq, ile_eq, ckR_eq] at hh
  split at hh
  · refine ⟨_, _, _, _, k_ref1_Sect_Enter, ?_⟩
    refine Eq.trans ?_ hh; kernel_rfl
  · cases hh⟩
theorem x_region_Regions_Copy : FunOk PR cutsOf TABS F_region_Regions_Copy X_region_Regions_Copy := fun call R a h r hh => by
  unfold X_region_Regions_Copy at hh
  rw [ine_eq] at hh
  split at hh
  · refine ⟨_, _, _, _, k_region_Regions_Copy, rfl, ?_⟩
    refine Eq.trans ?_ hh; kernel_rfl
  · cases hh
theorem x_caps_Space_Grant : FunOk PR cutsOf TABS F_caps_Space_Grant X_caps_Space_Grant := fun call R a h r hh => by
  unfold X_caps_Space_Grant at hh
  rw [wrapF_eq, bitA_eq, ine_eq, ieq_eq, ilt_eq] at hh
  split at hh
  · refine ⟨_, _, _, _, k_caps_Space_Grant, rfl, ?_⟩
    refine Eq.trans ?_ hh; kernel_rfl
  · cases hh
theorem x_caps_Space_Revoke : FunOk PR cutsOf TABS F_caps_Space_Revoke X_caps_Space_Revoke := fun call R a h r hh => by
  unfold X_caps_Space_Revoke at hh
  rw [ine_eq] at hh
  split at hh
  · refine ⟨_, _, _, _, k_caps_Space_Revoke, rfl, ?_⟩
    refine Eq.trans ?_ hh; kernel_rfl
  · cases hh
theorem x_caps_Space_Revoke_L1 : LabOk PR cutsOf TABS (labKey F_caps_Space_Revoke 3010) LB_caps_Space_Revoke_L1 := ⟨rfl, by decide, by kernel_rfl, fun call R a h r hh => by
  change X_caps_Space_Revoke_L1 H call (lr TABS R) a h = some r at hh
  unfold X_caps_Space_Revoke_L1 at hh
  rw [wrapF_eq, ilt_eq, ckR_eq] at hh
  split at hh
  · refine ⟨_, _, _, _, k_caps_Space_Revoke, ?_⟩
    refine Eq.trans ?_ hh; kernel_rfl
  · cases hh⟩
theorem x_quota_Quota_Alloc : FunOk PR cutsOf TABS F_quota_Quota_Alloc X_quota_Quota_Alloc := fun call R a h r hh => by
  unfold X_quota_Quota_Alloc at hh
  rw [ilt_eq, ckR_eq] at hh
  split at hh
  · refine ⟨_, _, _, _, k_quota_Quota_Alloc, rfl, ?_⟩
    refine Eq.trans ?_ hh; kernel_rfl
  · cases hh
theorem x_kern_Kern_enter : FunOk PR cutsOf TABS F_kern_Kern_enter X_kern_Kern_enter := fun call R a h r hh => by
  unfold X_kern_Kern_enter at hh
  rw [ine_eq] at hh
  split at hh
  · refine ⟨_, _, _, _, k_kern_Kern_enter, rfl, ?_⟩
    refine Eq.trans ?_ hh; kernel_rfl
  · cases hh
theorem x_codec_Codec_api_File_Decode : FunOk PR cutsOf TABS F_codec_Codec_api_File_Decode X_codec_Codec_api_File_Decode := fun call R a h r hh => by
  unfold X_codec_Codec_api_File_Decode at hh
  rw [ine_eq] at hh
  split at hh
  · refine ⟨_, _, _, _, k_codec_Codec_api_File_Decode, rfl, ?_⟩
    refine Eq.trans ?_ hh; kernel_rfl
  · cases hh
theorem x_mem_Mem_in : FunOk PR cutsOf TABS F_mem_Mem_in X_mem_Mem_in := fun call R a h r hh => by
  unfold X_mem_Mem_in at hh
  rw [wrapF_eq, ile_eq] at hh
  split at hh
  · refine ⟨_, _, _, _, k_mem_Mem_in, rfl, ?_⟩
    refine Eq.trans ?_ hh; kernel_rfl
  · cases hh
theorem x_ring_Encode : FunOk PR cutsOf TABS F_ring_Encode X_ring_Encode := fun call R a h r hh => by
  unfold X_ring_Encode at hh
  split at hh
  · refine ⟨_, _, _, _, k_ring_Encode, rfl, ?_⟩
    refine Eq.trans ?_ hh; kernel_rfl
  · cases hh
theorem x_ofile_Encode : FunOk PR cutsOf TABS F_ofile_Encode X_ofile_Encode := fun call R a h r hh => by
  unfold X_ofile_Encode at hh
  split at hh
  · refine ⟨_, _, _, _, k_ofile_Encode, rfl, ?_⟩
    refine Eq.trans ?_ hh; kernel_rfl
  · cases hh
theorem x_commons_Commons_FreePipe : FunOk PR cutsOf TABS F_commons_Commons_FreePipe X_commons_Commons_FreePipe := fun call R a h r hh => by
  unfold X_commons_Commons_FreePipe at hh
  split at hh
  · refine ⟨_, _, _, _, k_commons_Commons_FreePipe, rfl, ?_⟩
    refine Eq.trans ?_ hh; kernel_rfl
  · cases hh
theorem x_slices_Index_s_int_int : FunOk PR cutsOf TABS F_slices_Index_s_int_int X_slices_Index_s_int_int := fun call R a h r hh => by
  unfold X_slices_Index_s_int_int at hh
  split at hh
  · refine ⟨_, _, _, _, k_slices_Index_s_int_int, rfl, ?_⟩
    refine Eq.trans ?_ hh; kernel_rfl
  · cases hh
theorem x_slices_Index_s_int_int_L1 : LabOk PR cutsOf TABS (labKey F_slices_Index_s_int_int 3004) LB_slices_Index_s_int_int_L1 := ⟨rfl, by decide, by kernel_rfl, fun call R a h r hh => by
  change X_slices_Index_s_int_int_L1 H call (lr TABS R) a h = some r at hh
  unfold X_slices_Index_s_int_int_L1 at hh
  rw [wrapF_eq, ieq_eq, ilt_eq, ckR_eq] at hh
  split at hh
  · refine ⟨_, _, _, _, k_slices_Index_s_int_int, ?_⟩
    refine Eq.trans ?_ hh; kernel_rfl
  · cases hh⟩
theorem x_caps_Space_Put_1 : FunOk PR cutsOf TABS F_caps_Space_Put_1 X_caps_Space_Put_1 := fun call R a h r hh => by
  unfold X_caps_Space_Put_1 at hh
  rw [ile_eq] at hh
  split at hh
  · refine ⟨_, _, _, _, k_caps_Space_Put_1, rfl, ?_⟩
    refine Eq.trans ?_ hh; kernel_rfl
  · cases hh
theorem x_caps_Space_add : FunOk PR cutsOf TABS F_caps_Space_add X_caps_Space_add := fun call R a h r hh => by
  unfold X_caps_Space_add at hh
  rw [ckR_eq] at hh
  split at hh
  · refine ⟨_, _, _, _, k_caps_Space_add, rfl, ?_⟩
    refine Eq.trans ?_ hh; kernel_rfl
  · cases hh
theorem x_table_Table_api_Cap_Drop : FunOk PR cutsOf TABS F_table_Table_api_Cap_Drop X_table_Table_api_Cap_Drop := fun call R a h r hh => by
  unfold X_table_Table_api_Cap_Drop at hh
  rw [wrapF_eq] at hh
  split at hh
  · refine ⟨_, _, _, _, k_table_Table_api_Cap_Drop, rfl, ?_⟩
    refine Eq.trans ?_ hh; kernel_rfl
  · cases hh
theorem x_quota_Quota_is : FunOk PR cutsOf TABS F_quota_Quota_is X_quota_Quota_is := fun call R a h r hh => by
  unfold X_quota_Quota_is at hh
  rw [ilt_eq, ile_eq] at hh
  split at hh
  · refine ⟨_, _, _, _, k_quota_Quota_is, rfl, ?_⟩
    refine Eq.trans ?_ hh; kernel_rfl
  · cases hh
theorem x_kern_Kern_sect : FunOk PR cutsOf TABS F_kern_Kern_sect X_kern_Kern_sect := fun call R a h r hh => by
  unfold X_kern_Kern_sect at hh
  rw [ilt_eq, ile_eq, ckR_eq] at hh
  split at hh
  · refine ⟨_, _, _, _, k_kern_Kern_sect, rfl, ?_⟩
    refine Eq.trans ?_ hh; kernel_rfl
  · cases hh
theorem x_sect_Sect_Leave : FunOk PR cutsOf TABS F_sect_Sect_Leave X_sect_Sect_Leave := fun call R a h r hh => by
  unfold X_sect_Sect_Leave at hh
  split at hh
  · refine ⟨_, _, _, _, k_sect_Sect_Leave, rfl, ?_⟩
    refine Eq.trans ?_ hh; kernel_rfl
  · cases hh
theorem x_codec_Blank_1 : FunOk PR cutsOf TABS F_codec_Blank_1 X_codec_Blank_1 := fun call R a h r hh => by
  unfold X_codec_Blank_1 at hh
  rw [ine_eq] at hh
  split at hh
  · refine ⟨_, _, _, _, k_codec_Blank_1, rfl, ?_⟩
    refine Eq.trans ?_ hh; kernel_rfl
  · cases hh
theorem x_pslot_put : FunOk PR cutsOf TABS F_pslot_put X_pslot_put := fun call R a h r hh => by
  unfold X_pslot_put at hh
  split at hh
  · refine ⟨_, _, _, _, k_pslot_put, rfl, ?_⟩
    refine Eq.trans ?_ hh; kernel_rfl
  · cases hh
theorem x_pslot_put_L1 : LabOk PR cutsOf TABS (labKey F_pslot_put 3008) LB_pslot_put_L1 := ⟨rfl, by decide, by kernel_rfl, fun call R a h r hh => by
  change X_pslot_put_L1 H call (lr TABS R) a h = some r at hh
  unfold X_pslot_put_L1 at hh
  rw [wrapF_eq, ilt_eq, ckR_eq] at hh
  split at hh
  · refine ⟨_, _, _, _, k_pslot_put, ?_⟩
    refine Eq.trans ?_ hh; kernel_rfl
  · cases hh⟩
theorem x_pslot_put_L2 : LabOk PR cutsOf TABS (labKey F_pslot_put 3018) LB_pslot_put_L2 := ⟨rfl, by decide, by kernel_rfl, fun call R a h r hh => by
  change X_pslot_put_L2 H call (lr TABS R) a h = some r at hh
  unfold X_pslot_put_L2 at hh
  rw [wrapF_eq, ilt_eq, ckR_eq] at hh
  split at hh
  · refine ⟨_, _, _, _, k_pslot_put, ?_⟩
    refine Eq.trans ?_ hh; kernel_rfl
  · cases hh⟩
theorem x_pslot_put_L3 : LabOk PR cutsOf TABS (labKey F_pslot_put 3028) LB_pslot_put_L3 := ⟨rfl, by decide, by kernel_rfl, fun call R a h r hh => by
  change X_pslot_put_L3 H call (lr TABS R) a h = some r at hh
  unfold X_pslot_put_L3 at hh
  rw [wrapF_eq, ilt_eq, ckR_eq, ckL_eq] at hh
  split at hh
  · refine ⟨_, _, _, _, k_pslot_put, ?_⟩
    refine Eq.trans ?_ hh; kernel_rfl
  · cases hh⟩
theorem x_ofile_put : FunOk PR cutsOf TABS F_ofile_put X_ofile_put := fun call R a h r hh => by
  unfold X_ofile_put at hh
  rw [wrapF_eq, ckR_eq, ckL_eq] at hh
  split at hh
  · refine ⟨_, _, _, _, k_ofile_put, rfl, ?_⟩
    refine Eq.trans ?_ hh; kernel_rfl
  · cases hh
theorem x_codec_New_api_Pipe : FunOk PR cutsOf TABS F_codec_New_api_Pipe X_codec_New_api_Pipe := fun call R a h r hh => by
  unfold X_codec_New_api_Pipe at hh
  split at hh
  · refine ⟨_, _, _, _, k_codec_New_api_Pipe, rfl, ?_⟩
    refine Eq.trans ?_ hh; kernel_rfl
  · cases hh
theorem x_ref1_Names_Add : FunOk PR cutsOf TABS F_ref1_Names_Add X_ref1_Names_Add := fun call R a h r hh => by
  unfold X_ref1_Names_Add at hh
  split at hh
  · refine ⟨_, _, _, _, k_ref1_Names_Add, rfl, ?_⟩
    refine Eq.trans ?_ hh; kernel_rfl
  · cases hh
theorem x_ref1_Names_Add_L1 : LabOk PR cutsOf TABS (labKey F_ref1_Names_Add 3004) LB_ref1_Names_Add_L1 := ⟨rfl, by decide, by kernel_rfl, fun call R a h r hh => by
  change X_ref1_Names_Add_L1 H call (lr TABS R) a h = some r at hh
  unfold X_ref1_Names_Add_L1 at hh
  rw [wrapF_eq, ilt_eq, ile_eq, ckR_eq] at hh
  split at hh
  · refine ⟨_, _, _, _, k_ref1_Names_Add, ?_⟩
    refine Eq.trans ?_ hh; kernel_rfl
  · cases hh⟩
theorem x_ref1_Names_Has : FunOk PR cutsOf TABS F_ref1_Names_Has X_ref1_Names_Has := fun call R a h r hh => by
  unfold X_ref1_Names_Has at hh
  rw [bitA_eq, ieq_eq, ilt_eq, ile_eq, ckR_eq] at hh
  split at hh
  · refine ⟨_, _, _, _, k_ref1_Names_Has, rfl, ?_⟩
    refine Eq.trans ?_ hh; kernel_rfl
  · cases hh
theorem x_ref1_has : FunOk PR cutsOf TABS F_ref1_has X_ref1_has := fun call R a h r hh => by
  unfold X_ref1_has at hh
  split at hh
  · refine ⟨_, _, _, _, k_ref1_has, rfl, ?_⟩
    refine Eq.trans ?_ hh; kernel_rfl
  · cases hh
theorem x_ref1_has_L1 : LabOk PR cutsOf TABS (labKey F_ref1_has 3004) LB_ref1_has_L1 := ⟨rfl, by decide, by kernel_rfl, fun call R a h r hh => by
  change X_ref1_has_L1 H call (lr TABS R) a h = some r at hh
  unfold X_ref1_has_L1 at hh
  rw [wrapF_eq, ilt_eq, ckR_eq] at hh
  split at hh
  · refine ⟨_, _, _, _, k_ref1_has, ?_⟩
    refine Eq.trans ?_ hh; kernel_rfl
  · cases hh⟩
theorem x_slices_SortFunc_s_api_Ref_api_Ref : FunOk PR cutsOf TABS F_slices_SortFunc_s_api_Ref_api_Ref X_slices_SortFunc_s_api_Ref_api_Ref := fun call R a h r hh => by
  unfold X_slices_SortFunc_s_api_Ref_api_Ref at hh
  rw [wrapF_eq] at hh
  split at hh
  · refine ⟨_, _, _, _, k_slices_SortFunc_s_api_Ref_api_Ref, rfl, ?_⟩
    refine Eq.trans ?_ hh; kernel_rfl
  · cases hh
theorem x_table_Table_api_Cap_at : FunOk PR cutsOf TABS F_table_Table_api_Cap_at X_table_Table_api_Cap_at := fun call R a h r hh => by
  unfold X_table_Table_api_Cap_at at hh
  rw [bitA_eq, ine_eq, ilt_eq, ile_eq, ckR_eq] at hh
  split at hh
  · refine ⟨_, _, _, _, k_table_Table_api_Cap_at, rfl, ?_⟩
    refine Eq.trans ?_ hh; kernel_rfl
  · cases hh
theorem x_slices_Equal_s_byte_byte : FunOk PR cutsOf TABS F_slices_Equal_s_byte_byte X_slices_Equal_s_byte_byte := fun call R a h r hh => by
  unfold X_slices_Equal_s_byte_byte at hh
  rw [ine_eq] at hh
  split at hh
  · refine ⟨_, _, _, _, k_slices_Equal_s_byte_byte, rfl, ?_⟩
    refine Eq.trans ?_ hh; kernel_rfl
  · cases hh
theorem x_slices_Equal_s_byte_byte_L1 : LabOk PR cutsOf TABS (labKey F_slices_Equal_s_byte_byte 3008) LB_slices_Equal_s_byte_byte_L1 := ⟨rfl, by decide, by kernel_rfl, fun call R a h r hh => by
  change X_slices_Equal_s_byte_byte_L1 H call (lr TABS R) a h = some r at hh
  unfold X_slices_Equal_s_byte_byte_L1 at hh
  rw [wrapF_eq, ine_eq, ilt_eq, ckR_eq] at hh
  split at hh
  · refine ⟨_, _, _, _, k_slices_Equal_s_byte_byte, ?_⟩
    refine Eq.trans ?_ hh; kernel_rfl
  · cases hh⟩
theorem x_ofile_Ok : FunOk PR cutsOf TABS F_ofile_Ok X_ofile_Ok := fun call R a h r hh => by
  unfold X_ofile_Ok at hh
  rw [ine_eq, ieq_eq, ile_eq] at hh
  split at hh
  · refine ⟨_, _, _, _, k_ofile_Ok, rfl, ?_⟩
    refine Eq.trans ?_ hh; kernel_rfl
  · cases hh
theorem x_math_bits_Len : FunOk PR cutsOf TABS F_math_bits_Len X_math_bits_Len := fun call R a h r hh => by
  unfold X_math_bits_Len at hh
  split at hh
  · refine ⟨_, _, _, _, k_math_bits_Len, rfl, ?_⟩
    refine Eq.trans ?_ hh; kernel_rfl
  · cases hh
theorem x_slices_heapSortCmpFunc_api_Ref : FunOk PR cutsOf TABS F_slices_heapSortCmpFunc_api_Ref X_slices_heapSortCmpFunc_api_Ref := fun call R a h r hh => by
  unfold X_slices_heapSortCmpFunc_api_Ref at hh
  rw [wrapF_eq] at hh
  split at hh
  · refine ⟨_, _, _, _, k_slices_heapSortCmpFunc_api_Ref, rfl, ?_⟩
    refine Eq.trans ?_ hh; kernel_rfl
  · cases hh
theorem x_slices_heapSortCmpFunc_api_Ref_L1 : LabOk PR cutsOf TABS (labKey F_slices_heapSortCmpFunc_api_Ref 3008) LB_slices_heapSortCmpFunc_api_Ref_L1 := ⟨rfl, by decide, by kernel_rfl, fun call R a h r hh => by
  change X_slices_heapSortCmpFunc_api_Ref_L1 H call (lr TABS R) a h = some r at hh
  unfold X_slices_heapSortCmpFunc_api_Ref_L1 at hh
  rw [wrapF_eq, ile_eq] at hh
  split at hh
  · refine ⟨_, _, _, _, k_slices_heapSortCmpFunc_api_Ref, ?_⟩
    refine Eq.trans ?_ hh; kernel_rfl
  · cases hh⟩
theorem x_slices_heapSortCmpFunc_api_Ref_L2 : LabOk PR cutsOf TABS (labKey F_slices_heapSortCmpFunc_api_Ref 2016) LB_slices_heapSortCmpFunc_api_Ref_L2 := ⟨rfl, by decide, by kernel_rfl, fun call R a h r hh => by
  change X_slices_heapSortCmpFunc_api_Ref_L2 H call (lr TABS R) a h = some r at hh
  unfold X_slices_heapSortCmpFunc_api_Ref_L2 at hh
  rw [wrapF_eq, ile_eq, ckR_eq] at hh
  split at hh
  · refine ⟨_, _, _, _, k_slices_heapSortCmpFunc_api_Ref, ?_⟩
    refine Eq.trans ?_ hh; kernel_rfl
  · cases hh⟩
theorem x_slices_partitionCmpFunc_api_Ref : FunOk PR cutsOf TABS F_slices_partitionCmpFunc_api_Ref X_slices_partitionCmpFunc_api_Ref := fun call R a h r hh => by
  unfold X_slices_partitionCmpFunc_api_Ref at hh
  rw [wrapF_eq, ckR_eq] at hh
  split at hh
  · refine ⟨_, _, _, _, k_slices_partitionCmpFunc_api_Ref, rfl, ?_⟩
    refine Eq.trans ?_ hh; kernel_rfl
  · cases hh
theorem x_slices_partitionCmpFunc_api_Ref_L1 : LabOk PR cutsOf TABS (labKey F_slices_partitionCmpFunc_api_Ref 3006) LB_slices_partitionCmpFunc_api_Ref_L1 := ⟨rfl, by decide, by kernel_rfl, fun call R a h r hh => by
  change X_slices_partitionCmpFunc_api_Ref_L1 H call (lr TABS R) a h = some r at hh
  unfold X_slices_partitionCmpFunc_api_Ref_L1 at hh
  rw [wrapF_eq, ilt_eq, ile_eq, ckR_eq] at hh
  split at hh
  · refine ⟨_, _, _, _, k_slices_partitionCmpFunc_api_Ref, ?_⟩
    refine Eq.trans ?_ hh; kernel_rfl
  · cases hh⟩
theorem x_slices_partitionCmpFunc_api_Ref_L2 : LabOk PR cutsOf TABS (labKey F_slices_partitionCmpFunc_api_Ref 3010) LB_slices_partitionCmpFunc_api_Ref_L2 := ⟨rfl, by decide, by kernel_rfl, fun call R a h r hh => by
  change X_slices_partitionCmpFunc_api_Ref_L2 H call (lr TABS R) a h = some r at hh
  unfold X_slices_partitionCmpFunc_api_Ref_L2 at hh
  rw [wrapF_eq, ilt_eq, ile_eq, ckR_eq] at hh
  split at hh
  · refine ⟨_, _, _, _, k_slices_partitionCmpFunc_api_Ref, ?_⟩
    refine Eq.trans ?_ hh; kernel_rfl
  · cases hh⟩
theorem x_slices_partitionCmpFunc_api_Ref_L3 : LabOk PR cutsOf TABS (labKey F_slices_partitionCmpFunc_api_Ref 3026) LB_slices_partitionCmpFunc_api_Ref_L3 := ⟨rfl, by decide, by kernel_rfl, fun call R a h r hh => by
  change X_slices_partitionCmpFunc_api_Ref_L3 H call (lr TABS R) a h = some r at hh
  unfold X_slices_partitionCmpFunc_api_Ref_L3 at hh
  split at hh
  · refine ⟨_, _, _, _, k_slices_partitionCmpFunc_api_Ref, ?_⟩
    refine Eq.trans ?_ hh; kernel_rfl
  · cases hh⟩
theorem x_slices_partitionCmpFunc_api_Ref_L4 : LabOk PR cutsOf TABS (labKey F_slices_partitionCmpFunc_api_Ref 7026) LB_slices_partitionCmpFunc_api_Ref_L4 := ⟨rfl, by decide, by kernel_rfl, fun call R a h r hh => by
  change X_slices_partitionCmpFunc_api_Ref_L4 H call (lr TABS R) a h = some r at hh
  unfold X_slices_partitionCmpFunc_api_Ref_L4 at hh
  rw [wrapF_eq, ilt_eq, ile_eq, ckR_eq] at hh
  split at hh
  · refine ⟨_, _, _, _, k_slices_partitionCmpFunc_api_Ref, ?_⟩
    refine Eq.trans ?_ hh; kernel_rfl
  · cases hh⟩
theorem x_slices_partitionCmpFunc_api_Ref_L5 : LabOk PR cutsOf TABS (labKey F_slices_partitionCmpFunc_api_Ref 7030) LB_slices_partitionCmpFunc_api_Ref_L5 := ⟨rfl, by decide, by kernel_rfl, fun call R a h r hh => by
  change X_slices_partitionCmpFunc_api_Ref_L5 H call (lr TABS R) a h = some r at hh
  unfold X_slices_partitionCmpFunc_api_Ref_L5 at hh
  rw [wrapF_eq, ilt_eq, ile_eq, ckR_eq] at hh
  split at hh
  · refine ⟨_, _, _, _, k_slices_partitionCmpFunc_api_Ref, ?_⟩
    refine Eq.trans ?_ hh; kernel_rfl
  · cases hh⟩
theorem x_math_bits_Len64 : FunOk PR cutsOf TABS F_math_bits_Len64 X_math_bits_Len64 := fun call R a h r hh => by
  unfold X_math_bits_Len64 at hh
  rw [ile_eq] at hh
  split at hh
  · refine ⟨_, _, _, _, k_math_bits_Len64, rfl, ?_⟩
    refine Eq.trans ?_ hh; kernel_rfl
  · cases hh
theorem x_math_bits_Len64_R1 : LabOk PR cutsOf TABS (labKey F_math_bits_Len64 3009) LB_math_bits_Len64_R1 := ⟨rfl, by decide, by kernel_rfl, fun call R a h r hh => by
  change X_math_bits_Len64_R1 H call (lr TABS R) a h = some r at hh
  unfold X_math_bits_Len64_R1 at hh
  rw [wrapF_eq, ile_eq] at hh
  split at hh
  · refine ⟨_, _, _, _, k_math_bits_Len64, ?_⟩
    refine Eq.trans ?_ hh; kernel_rfl
  · cases hh⟩
theorem x_math_bits_Len64_R2 : LabOk PR cutsOf TABS (labKey F_math_bits_Len64 3015) LB_math_bits_Len64_R2 := ⟨rfl, by decide, by kernel_rfl, fun call R a h r hh => by
  change X_math_bits_Len64_R2 H call (lr TABS R) a h = some r at hh
  unfold X_math_bits_Len64_R2 at hh
  rw [wrapF_eq, ile_eq, ckR_eq] at hh
  split at hh
  · refine ⟨_, _, _, _, k_math_bits_Len64, ?_⟩
    refine Eq.trans ?_ hh; kernel_rfl
  · cases hh⟩
theorem x_slices_nextPowerOfTwo : FunOk PR cutsOf TABS F_slices_nextPowerOfTwo X_slices_nextPowerOfTwo := fun call R a h r hh => by
  unfold X_slices_nextPowerOfTwo at hh
  rw [wrapF_eq] at hh
  split at hh
  · refine ⟨_, _, _, _, k_slices_nextPowerOfTwo, rfl, ?_⟩
    refine Eq.trans ?_ hh; kernel_rfl
  · cases hh
theorem x_slices_order2CmpFunc_api_Ref : FunOk PR cutsOf TABS F_slices_order2CmpFunc_api_Ref X_slices_order2CmpFunc_api_Ref := fun call R a h r hh => by
  unfold X_slices_order2CmpFunc_api_Ref at hh
  rw [wrapF_eq, ilt_eq, ckR_eq] at hh
  split at hh
  · refine ⟨_, _, _, _, k_slices_order2CmpFunc_api_Ref, rfl, ?_⟩
    refine Eq.trans ?_ hh; kernel_rfl
  · cases hh
end Go.EQ

set_option maxRecDepth 100000
set_option linter.unusedVariables false
namespace Go.EQ
open Go Go.Proofs
open Go.NN hiding bnd ld gInt gBool gStr gPtr gSl gMap gFv gAgg gCells nw pV pAgg pCells apd fitsOpen liveA mapAt
open Go.NP Go.NW
theorem x_law15_Open : FunOk PR cutsOf TABS F_law15_Open X_law15_Open := fun call R a h r hh => by
  unfold X_law15_Open at hh
  rw [ine_eq] at hh
  split at hh
  · refine ⟨_, _, _, _, k_law15_Open, rfl, ?_⟩
    refine Eq.trans ?_ hh; kernel_rfl
  · cases hh
theorem x_kern_Kern_Space : FunOk PR cutsOf TABS F_kern_Kern_Space X_kern_Kern_Space := fun call R a h r hh => by
  unfold X_kern_Kern_Space at hh
  split at hh
  · refine ⟨_, _, _, _, k_kern_Kern_Space, rfl, ?_⟩
    refine Eq.trans ?_ hh; kernel_rfl
  · cases hh
theorem x_commons_Commons_Proc : FunOk PR cutsOf TABS F_commons_Commons_Proc X_commons_Commons_Proc := fun call R a h r hh => by
  unfold X_commons_Commons_Proc at hh
  split at hh
  · refine ⟨_, _, _, _, k_commons_Commons_Proc, rfl, ?_⟩
    refine Eq.trans ?_ hh; kernel_rfl
  · cases hh
theorem x_commons_Commons_Front : FunOk PR cutsOf TABS F_commons_Commons_Front X_commons_Commons_Front := fun call R a h r hh => by
  unfold X_commons_Commons_Front at hh
  rw [ieq_eq] at hh
  split at hh
  · refine ⟨_, _, _, _, k_commons_Commons_Front, rfl, ?_⟩
    refine Eq.trans ?_ hh; kernel_rfl
  · cases hh
theorem x_commons_Commons_SetFront : FunOk PR cutsOf TABS F_commons_Commons_SetFront X_commons_Commons_SetFront := fun call R a h r hh => by
  unfold X_commons_Commons_SetFront at hh
  split at hh
  · refine ⟨_, _, _, _, k_commons_Commons_SetFront, rfl, ?_⟩
    refine Eq.trans ?_ hh; kernel_rfl
  · cases hh
theorem x_commons_Commons_Bad : FunOk PR cutsOf TABS F_commons_Commons_Bad X_commons_Commons_Bad := fun call R a h r hh => by
  unfold X_commons_Commons_Bad at hh
  split at hh
  · refine ⟨_, _, _, _, k_commons_Commons_Bad, rfl, ?_⟩
    refine Eq.trans ?_ hh; kernel_rfl
  · cases hh
theorem x_commons_Commons_Bad_L1 : LabOk PR cutsOf TABS (labKey F_commons_Commons_Bad 3006) LB_commons_Commons_Bad_L1 := ⟨rfl, by decide, by kernel_rfl, fun call R a h r hh => by
  change X_commons_Commons_Bad_L1 H call (lr TABS R) a h = some r at hh
  unfold X_commons_Commons_Bad_L1 at hh
  rw [ile_eq] at hh
  split at hh
  · refine ⟨_, _, _, _, k_commons_Commons_Bad, ?_⟩
    refine Eq.trans ?_ hh; kernel_rfl
  · cases hh⟩
theorem x_commons_Commons_Bad_L2 : LabOk PR cutsOf TABS (labKey F_commons_Commons_Bad 7012) LB_commons_Commons_Bad_L2 := ⟨rfl, by decide, by kernel_rfl, fun call R a h r hh => by
  change X_commons_Commons_Bad_L2 H call (lr TABS R) a h = some r at hh
  unfold X_commons_Commons_Bad_L2 at hh
  rw [wrapF_eq, ilt_eq] at hh
  split at hh
  · refine ⟨_, _, _, _, k_commons_Commons_Bad, ?_⟩
    refine Eq.trans ?_ hh; kernel_rfl
  · cases hh⟩
theorem x_law17_Fill : FunOk PR cutsOf TABS F_law17_Fill X_law17_Fill := fun call R a h r hh => by
  unfold X_law17_Fill at hh
  rw [ine_eq] at hh
  split at hh
  · refine ⟨_, _, _, _, k_law17_Fill, rfl, ?_⟩
    refine Eq.trans ?_ hh; kernel_rfl
  · cases hh
theorem x_law17_Fill_L1 : LabOk PR cutsOf TABS (labKey F_law17_Fill 3018) LB_law17_Fill_L1 := ⟨rfl, by decide, by kernel_rfl, fun call R a h r hh => by
  change X_law17_Fill_L1 H call (lr TABS R) a h = some r at hh
  unfold X_law17_Fill_L1 at hh
  rw [wrapF_eq, ilt_eq] at hh
  split at hh
  · refine ⟨_, _, _, _, k_law17_Fill, ?_⟩
    refine Eq.trans ?_ hh; kernel_rfl
  · cases hh⟩
theorem x_proc_Fork : FunOk PR cutsOf TABS F_proc_Fork X_proc_Fork := fun call R a h r hh => by
  unfold X_proc_Fork at hh
  rw [wrapF_eq, ine_eq, ilt_eq] at hh
  split at hh
  · refine ⟨_, _, _, _, k_proc_Fork, rfl, ?_⟩
    refine Eq.trans ?_ hh; kernel_rfl
  · cases hh
theorem x_kern_New : FunOk PR cutsOf TABS F_kern_New X_kern_New := fun call R a h r hh => by
  unfold X_kern_New at hh
  split at hh
  · refine ⟨_, _, _, _, k_kern_New, rfl, ?_⟩
    refine Eq.trans ?_ hh; kernel_rfl
  · cases hh
theorem x_kern_New_L1 : LabOk PR cutsOf TABS (labKey F_kern_New 3010) LB_kern_New_L1 := ⟨rfl, by decide, by kernel_rfl, fun call R a h r hh => by
  change X_kern_New_L1 H call (lr TABS R) a h = some r at hh
  unfold X_kern_New_L1 at hh
  rw [wrapF_eq, ilt_eq, ckR_eq] at hh
  split at hh
  · refine ⟨_, _, _, _, k_kern_New, ?_⟩
    refine Eq.trans ?_ hh; kernel_rfl
  · cases hh⟩
theorem x_kern_New_L2 : LabOk PR cutsOf TABS (labKey F_kern_New 3024) LB_kern_New_L2 := ⟨rfl, by decide, by kernel_rfl, fun call R a h r hh => by
  change X_kern_New_L2 H call (lr TABS R) a h = some r at hh
  unfold X_kern_New_L2 at hh
  rw [wrapF_eq, ilt_eq, ckR_eq] at hh
  split at hh
  · refine ⟨_, _, _, _, k_kern_New, ?_⟩
    refine Eq.trans ?_ hh; kernel_rfl
  · cases hh⟩
theorem x_kern_New_L3 : LabOk PR cutsOf TABS (labKey F_kern_New 3036) LB_kern_New_L3 := ⟨rfl, by decide, by kernel_rfl, fun call R a h r hh => by
  change X_kern_New_L3 H call (lr TABS R) a h = some r at hh
  unfold X_kern_New_L3 at hh
  rw [wrapF_eq, ilt_eq, ckR_eq] at hh
  split at hh
  · refine ⟨_, _, _, _, k_kern_New, ?_⟩
    refine Eq.trans ?_ hh; kernel_rfl
  · cases hh⟩
theorem x_kern_New_L4 : LabOk PR cutsOf TABS (labKey F_kern_New 7044) LB_kern_New_L4 := ⟨rfl, by decide, by kernel_rfl, fun call R a h r hh => by
  change X_kern_New_L4 H call (lr TABS R) a h = some r at hh
  unfold X_kern_New_L4 at hh
  rw [wrapF_eq, ilt_eq, ckR_eq] at hh
  split at hh
  · refine ⟨_, _, _, _, k_kern_New, ?_⟩
    refine Eq.trans ?_ hh; kernel_rfl
  · cases hh⟩
theorem x_ref15_Blank : FunOk PR cutsOf TABS F_ref15_Blank X_ref15_Blank := fun call R a h r hh => by
  unfold X_ref15_Blank at hh
  split at hh
  · refine ⟨_, _, _, _, k_ref15_Blank, rfl, ?_⟩
    refine Eq.trans ?_ hh; kernel_rfl
  · cases hh
theorem x_ref15_NewCommons : FunOk PR cutsOf TABS F_ref15_NewCommons X_ref15_NewCommons := fun call R a h r hh => by
  unfold X_ref15_NewCommons at hh
  rw [ieq_eq] at hh
  split at hh
  · refine ⟨_, _, _, _, k_ref15_NewCommons, rfl, ?_⟩
    refine Eq.trans ?_ hh; kernel_rfl
  · cases hh
theorem x_caps_Space_is : FunOk PR cutsOf TABS F_caps_Space_is X_caps_Space_is := fun call R a h r hh => by
  unfold X_caps_Space_is at hh
  rw [ilt_eq, ile_eq] at hh
  split at hh
  · refine ⟨_, _, _, _, k_caps_Space_is, rfl, ?_⟩
    refine Eq.trans ?_ hh; kernel_rfl
  · cases hh
theorem x_commons_proc : FunOk PR cutsOf TABS F_commons_proc X_commons_proc := fun call R a h r hh => by
  unfold X_commons_proc at hh
  split at hh
  · refine ⟨_, _, _, _, k_commons_proc, rfl, ?_⟩
    refine Eq.trans ?_ hh; kernel_rfl
  · cases hh
theorem x_commons_record_api_Pipe : FunOk PR cutsOf TABS F_commons_record_api_Pipe X_commons_record_api_Pipe := fun call R a h r hh => by
  unfold X_commons_record_api_Pipe at hh
  rw [wrapF_eq, ieq_eq] at hh
  split at hh
  · refine ⟨_, _, _, _, k_commons_record_api_Pipe, rfl, ?_⟩
    refine Eq.trans ?_ hh; kernel_rfl
  · cases hh
theorem x_commons_record_api_Pipe_R1 : LabOk PR cutsOf TABS (labKey F_commons_record_api_Pipe 3017) LB_commons_record_api_Pipe_R1 := ⟨rfl, by decide, by kernel_rfl, fun call R a h r hh => by
  change X_commons_record_api_Pipe_R1 H call (lr TABS R) a h = some r at hh
  unfold X_commons_record_api_Pipe_R1 at hh
  rw [ine_eq] at hh
  split at hh
  · refine ⟨_, _, _, _, k_commons_record_api_Pipe, ?_⟩
    refine Eq.trans ?_ hh; kernel_rfl
  · cases hh⟩
theorem x_ring_Decode : FunOk PR cutsOf TABS F_ring_Decode X_ring_Decode := fun call R a h r hh => by
  unfold X_ring_Decode at hh
  rw [ieq_eq] at hh
  split at hh
  · refine ⟨_, _, _, _, k_ring_Decode, rfl, ?_⟩
    refine Eq.trans ?_ hh; kernel_rfl
  · cases hh
theorem x_commons_FrontOf : FunOk PR cutsOf TABS F_commons_FrontOf X_commons_FrontOf := fun call R a h r hh => by
  unfold X_commons_FrontOf at hh
  rw [wrapF_eq, ine_eq, ckR_eq] at hh
  split at hh
  · refine ⟨_, _, _, _, k_commons_FrontOf, rfl, ?_⟩
    refine Eq.trans ?_ hh; kernel_rfl
  · cases hh
theorem x_law11_Proc_1 : FunOk PR cutsOf TABS F_law11_Proc_1 X_law11_Proc_1 := fun call R a h r hh => by
  unfold X_law11_Proc_1 at hh
  rw [wrapF_eq, bitA_eq, ilt_eq, ckR_eq] at hh
  split at hh
  · refine ⟨_, _, _, _, k_law11_Proc_1, rfl, ?_⟩
    refine Eq.trans ?_ hh; kernel_rfl
  · cases hh
theorem x_commons_FrontBytes : FunOk PR cutsOf TABS F_commons_FrontBytes X_commons_FrontBytes := fun call R a h r hh => by
  unfold X_commons_FrontBytes at hh
  rw [wrapF_eq, ilt_eq, ile_eq] at hh
  split at hh
  · refine ⟨_, _, _, _, k_commons_FrontBytes, rfl, ?_⟩
    refine Eq.trans ?_ hh; kernel_rfl
  · cases hh
theorem x_fds_fdsOf : FunOk PR cutsOf TABS F_fds_fdsOf X_fds_fdsOf := fun call R a h r hh => by
  unfold X_fds_fdsOf at hh
  split at hh
  · refine ⟨_, _, _, _, k_fds_fdsOf, rfl, ?_⟩
    refine Eq.trans ?_ hh; kernel_rfl
  · cases hh
theorem x_fds_Of : FunOk PR cutsOf TABS F_fds_Of X_fds_Of := fun call R a h r hh => by
  unfold X_fds_Of at hh
  rw [wrapF_eq, ine_eq, ckR_eq] at hh
  split at hh
  · refine ⟨_, _, _, _, k_fds_Of, rfl, ?_⟩
    refine Eq.trans ?_ hh; kernel_rfl
  · cases hh
theorem x_fds_named : FunOk PR cutsOf TABS F_fds_named X_fds_named := fun call R a h r hh => by
  unfold X_fds_named at hh
  rw [ilt_eq, ile_eq, ckR_eq] at hh
  split at hh
  · refine ⟨_, _, _, _, k_fds_named, rfl, ?_⟩
    refine Eq.trans ?_ hh; kernel_rfl
  · cases hh
theorem x_proc_CloseFile : FunOk PR cutsOf TABS F_proc_CloseFile X_proc_CloseFile := fun call R a h r hh => by
  unfold X_proc_CloseFile at hh
  rw [wrapF_eq, ine_eq, ieq_eq, ilt_eq] at hh
  split at hh
  · refine ⟨_, _, _, _, k_proc_CloseFile, rfl, ?_⟩
    refine Eq.trans ?_ hh; kernel_rfl
  · cases hh
theorem x_proc_CloseFile_R1 : LabOk PR cutsOf TABS (labKey F_proc_CloseFile 3037) LB_proc_CloseFile_R1 := ⟨rfl, by decide, by kernel_rfl, fun call R a h r hh => by
  change X_proc_CloseFile_R1 H call (lr TABS R) a h = some r at hh
  unfold X_proc_CloseFile_R1 at hh
  rw [wrapF_eq, ieq_eq, ilt_eq] at hh
  split at hh
  · refine ⟨_, _, _, _, k_proc_CloseFile, ?_⟩
    refine Eq.trans ?_ hh; kernel_rfl
  · cases hh⟩
theorem x_caps_New : FunOk PR cutsOf TABS F_caps_New X_caps_New := fun call R a h r hh => by
  unfold X_caps_New at hh
  split at hh
  · refine ⟨_, _, _, _, k_caps_New, rfl, ?_⟩
    refine Eq.trans ?_ hh; kernel_rfl
  · cases hh
theorem x_caps_New_L1 : LabOk PR cutsOf TABS (labKey F_caps_New 3006) LB_caps_New_L1 := ⟨rfl, by decide, by kernel_rfl, fun call R a h r hh => by
  change X_caps_New_L1 H call (lr TABS R) a h = some r at hh
  unfold X_caps_New_L1 at hh
  rw [wrapF_eq, ilt_eq] at hh
  split at hh
  · refine ⟨_, _, _, _, k_caps_New, ?_⟩
    refine Eq.trans ?_ hh; kernel_rfl
  · cases hh⟩
theorem x_region_New : FunOk PR cutsOf TABS F_region_New X_region_New := fun call R a h r hh => by
  unfold X_region_New at hh
  split at hh
  · refine ⟨_, _, _, _, k_region_New, rfl, ?_⟩
    refine Eq.trans ?_ hh; kernel_rfl
  · cases hh
theorem x_quota_Quota_First : FunOk PR cutsOf TABS F_quota_Quota_First X_quota_Quota_First := fun call R a h r hh => by
  unfold X_quota_Quota_First at hh
  rw [ckL_eq] at hh
  split at hh
  · refine ⟨_, _, _, _, k_quota_Quota_First, rfl, ?_⟩
    refine Eq.trans ?_ hh; kernel_rfl
  · cases hh
theorem x_quota_Quota_First_L1 : LabOk PR cutsOf TABS (labKey F_quota_Quota_First 3006) LB_quota_Quota_First_L1 := ⟨rfl, by decide, by kernel_rfl, fun call R a h r hh => by
  change X_quota_Quota_First_L1 H call (lr TABS R) a h = some r at hh
  unfold X_quota_Quota_First_L1 at hh
  rw [wrapF_eq, ilt_eq, ckR_eq] at hh
  split at hh
  · refine ⟨_, _, _, _, k_quota_Quota_First, ?_⟩
    refine Eq.trans ?_ hh; kernel_rfl
  · cases hh⟩
theorem x_ref1_NewQuota : FunOk PR cutsOf TABS F_ref1_NewQuota X_ref1_NewQuota := fun call R a h r hh => by
  unfold X_ref1_NewQuota at hh
  split at hh
  · refine ⟨_, _, _, _, k_ref1_NewQuota, rfl, ?_⟩
    refine Eq.trans ?_ hh; kernel_rfl
  · cases hh
theorem x_ref1_NewQuota_L1 : LabOk PR cutsOf TABS (labKey F_ref1_NewQuota 3006) LB_ref1_NewQuota_L1 := ⟨rfl, by decide, by kernel_rfl, fun call R a h r hh => by
  change X_ref1_NewQuota_L1 H call (lr TABS R) a h = some r at hh
  unfold X_ref1_NewQuota_L1 at hh
  rw [wrapF_eq, ilt_eq, ckR_eq] at hh
  split at hh
  · refine ⟨_, _, _, _, k_ref1_NewQuota, ?_⟩
    refine Eq.trans ?_ hh; kernel_rfl
  · cases hh⟩
theorem x_ref1_Quota_First : FunOk PR cutsOf TABS F_ref1_Quota_First X_ref1_Quota_First := fun call R a h r hh => by
  unfold X_ref1_Quota_First at hh
  split at hh
  · refine ⟨_, _, _, _, k_ref1_Quota_First, rfl, ?_⟩
    refine Eq.trans ?_ hh; kernel_rfl
  · cases hh
theorem x_ref1_Quota_First_L1 : LabOk PR cutsOf TABS (labKey F_ref1_Quota_First 3006) LB_ref1_Quota_First_L1 := ⟨rfl, by decide, by kernel_rfl, fun call R a h r hh => by
  change X_ref1_Quota_First_L1 H call (lr TABS R) a h = some r at hh
  unfold X_ref1_Quota_First_L1 at hh
  rw [wrapF_eq, ilt_eq, ckR_eq] at hh
  split at hh
  · refine ⟨_, _, _, _, k_ref1_Quota_First, ?_⟩
    refine Eq.trans ?_ hh; kernel_rfl
  · cases hh⟩
theorem x_ref1_NewSect : FunOk PR cutsOf TABS F_ref1_NewSect X_ref1_NewSect := fun call R a h r hh => by
  unfold X_ref1_NewSect at hh
  split at hh
  · refine ⟨_, _, _, _, k_ref1_NewSect, rfl, ?_⟩
    refine Eq.trans ?_ hh; kernel_rfl
  · cases hh
theorem x_ref1_Space_Put : FunOk PR cutsOf TABS F_ref1_Space_Put X_ref1_Space_Put := fun call R a h r hh => by
  unfold X_ref1_Space_Put at hh
  rw [ilt_eq] at hh
  split at hh
  · refine ⟨_, _, _, _, k_ref1_Space_Put, rfl, ?_⟩
    refine Eq.trans ?_ hh; kernel_rfl
  · cases hh
theorem x_ref1_Regions_Write : FunOk PR cutsOf TABS F_ref1_Regions_Write X_ref1_Regions_Write := fun call R a h r hh => by
  unfold X_ref1_Regions_Write at hh
  rw [ine_eq, ckL_eq] at hh
  split at hh
  · refine ⟨_, _, _, _, k_ref1_Regions_Write, rfl, ?_⟩
    refine Eq.trans ?_ hh; kernel_rfl
  · cases hh
theorem x_ref1_Regions_Copy : FunOk PR cutsOf TABS F_ref1_Regions_Copy X_ref1_Regions_Copy := fun call R a h r hh => by
  unfold X_ref1_Regions_Copy at hh
  rw [ine_eq] at hh
  split at hh
  · refine ⟨_, _, _, _, k_ref1_Regions_Copy, rfl, ?_⟩
    refine Eq.trans ?_ hh; kernel_rfl
  · cases hh
theorem x_ref1_Space_Grant : FunOk PR cutsOf TABS F_ref1_Space_Grant X_ref1_Space_Grant := fun call R a h r hh => by
  unfold X_ref1_Space_Grant at hh
  rw [wrapF_eq, bitA_eq, ine_eq, ieq_eq, ilt_eq] at hh
  split at hh
  · refine ⟨_, _, _, _, k_ref1_Space_Grant, rfl, ?_⟩
    refine Eq.trans ?_ hh; kernel_rfl
  · cases hh
theorem x_table_Table_api_Cap_name : FunOk PR cutsOf TABS F_table_Table_api_Cap_name X_table_Table_api_Cap_name := fun call R a h r hh => by
  unfold X_table_Table_api_Cap_name at hh
  rw [wrapF_eq, ckR_eq] at hh
  split at hh
  · refine ⟨_, _, _, _, k_table_Table_api_Cap_name, rfl, ?_⟩
    refine Eq.trans ?_ hh; kernel_rfl
  · cases hh
theorem x_region_Regions_Read : FunOk PR cutsOf TABS F_region_Regions_Read X_region_Regions_Read := fun call R a h r hh => by
  unfold X_region_Regions_Read at hh
  rw [ine_eq] at hh
  split at hh
  · refine ⟨_, _, _, _, k_region_Regions_Read, rfl, ?_⟩
    refine Eq.trans ?_ hh; kernel_rfl
  · cases hh
theorem x_region_Regions_Write : FunOk PR cutsOf TABS F_region_Regions_Write X_region_Regions_Write := fun call R a h r hh => by
  unfold X_region_Regions_Write at hh
  rw [ine_eq] at hh
  split at hh
  · refine ⟨_, _, _, _, k_region_Regions_Write, rfl, ?_⟩
    refine Eq.trans ?_ hh; kernel_rfl
  · cases hh
theorem x_kern_Kern_leave : FunOk PR cutsOf TABS F_kern_Kern_leave X_kern_Kern_leave := fun call R a h r hh => by
  unfold X_kern_Kern_leave at hh
  rw [ieq_eq] at hh
  split at hh
  · refine ⟨_, _, _, _, k_kern_Kern_leave, rfl, ?_⟩
    refine Eq.trans ?_ hh; kernel_rfl
  · cases hh
theorem x_pslot_Codec : FunOk PR cutsOf TABS F_pslot_Codec X_pslot_Codec := fun call R a h r hh => by
  unfold X_pslot_Codec at hh
  split at hh
  · refine ⟨_, _, _, _, k_pslot_Codec, rfl, ?_⟩
    refine Eq.trans ?_ hh; kernel_rfl
  · cases hh
theorem x_codec_Codec_api_Proc_Decode : FunOk PR cutsOf TABS F_codec_Codec_api_Proc_Decode X_codec_Codec_api_Proc_Decode := fun call R a h r hh => by
  unfold X_codec_Codec_api_Proc_Decode at hh
  rw [ine_eq] at hh
  split at hh
  · refine ⟨_, _, _, _, k_codec_Codec_api_Proc_Decode, rfl, ?_⟩
    refine Eq.trans ?_ hh; kernel_rfl
  · cases hh
theorem x_ref1_Sum : FunOk PR cutsOf TABS F_ref1_Sum X_ref1_Sum := fun call R a h r hh => by
  unfold X_ref1_Sum at hh
  split at hh
  · refine ⟨_, _, _, _, k_ref1_Sum, rfl, ?_⟩
    refine Eq.trans ?_ hh; kernel_rfl
  · cases hh
theorem x_ref1_Sum_L1 : LabOk PR cutsOf TABS (labKey F_ref1_Sum 3006) LB_ref1_Sum_L1 := ⟨rfl, by decide, by kernel_rfl, fun call R a h r hh => by
  change X_ref1_Sum_L1 H call (lr TABS R) a h = some r at hh
  unfold X_ref1_Sum_L1 at hh
  rw [wrapF_eq, ilt_eq, ckR_eq] at hh
  split at hh
  · refine ⟨_, _, _, _, k_ref1_Sum, ?_⟩
    refine Eq.trans ?_ hh; kernel_rfl
  · cases hh⟩
theorem x_kern_check_1 : FunOk PR cutsOf TABS F_kern_check_1 X_kern_check_1 := fun call R a h r hh => by
  unfold X_kern_check_1 at hh
  rw [ilt_eq, ile_eq] at hh
  split at hh
  · refine ⟨_, _, _, _, k_kern_check_1, rfl, ?_⟩
    refine Eq.trans ?_ hh; kernel_rfl
  · cases hh
theorem x_slices_ContainsFunc_s_int_int : FunOk PR cutsOf TABS F_slices_ContainsFunc_s_int_int X_slices_ContainsFunc_s_int_int := fun call R a h r hh => by
  unfold X_slices_ContainsFunc_s_int_int at hh
  rw [ile_eq] at hh
  split at hh
  · refine ⟨_, _, _, _, k_slices_ContainsFunc_s_int_int, rfl, ?_⟩
    refine Eq.trans ?_ hh; kernel_rfl
  · cases hh
theorem x_kern_share : FunOk PR cutsOf TABS F_kern_share X_kern_share := fun call R a h r hh => by
  unfold X_kern_share at hh
  rw [wrapF_eq, ilt_eq, ile_eq, ckR_eq] at hh
  split at hh
  · refine ⟨_, _, _, _, k_kern_share, rfl, ?_⟩
    refine Eq.trans ?_ hh; kernel_rfl
  · cases hh
theorem x_ref1_Within : FunOk PR cutsOf TABS F_ref1_Within X_ref1_Within := fun call R a h r hh => by
  unfold X_ref1_Within at hh
  rw [wrapF_eq, ile_eq] at hh
  split at hh
  · refine ⟨_, _, _, _, k_ref1_Within, rfl, ?_⟩
    refine Eq.trans ?_ hh; kernel_rfl
  · cases hh
theorem x_ref1_Space_Get : FunOk PR cutsOf TABS F_ref1_Space_Get X_ref1_Space_Get := fun call R a h r hh => by
  unfold X_ref1_Space_Get at hh
  rw [bitA_eq, ckR_eq] at hh
  split at hh
  · refine ⟨_, _, _, _, k_ref1_Space_Get, rfl, ?_⟩
    refine Eq.trans ?_ hh; kernel_rfl
  · cases hh
theorem x_ref1_Space_Under : FunOk PR cutsOf TABS F_ref1_Space_Under X_ref1_Space_Under := fun call R a h r hh => by
  unfold X_ref1_Space_Under at hh
  rw [ine_eq] at hh
  split at hh
  · refine ⟨_, _, _, _, k_ref1_Space_Under, rfl, ?_⟩
    refine Eq.trans ?_ hh; kernel_rfl
  · cases hh
theorem x_ref1_Space_Under_L1 : LabOk PR cutsOf TABS (labKey F_ref1_Space_Under 3012) LB_ref1_Space_Under_L1 := ⟨rfl, by decide, by kernel_rfl, fun call R a h r hh => by
  change X_ref1_Space_Under_L1 H call (lr TABS R) a h = some r at hh
  unfold X_ref1_Space_Under_L1 at hh
  split at hh
  · refine ⟨_, _, _, _, k_ref1_Space_Under, ?_⟩
    refine Eq.trans ?_ hh; kernel_rfl
  · cases hh⟩
theorem x_ref1_Space_Under_L2 : LabOk PR cutsOf TABS (labKey F_ref1_Space_Under 6018) LB_ref1_Space_Under_L2 := ⟨rfl, by decide, by kernel_rfl, fun call R a h r hh => by
  change X_ref1_Space_Under_L2 H call (lr TABS R) a h = some r at hh
  unfold X_ref1_Space_Under_L2 at hh
  rw [ilt_eq, ckR_eq] at hh
  split at hh
  · refine ⟨_, _, _, _, k_ref1_Space_Under, ?_⟩
    refine Eq.trans ?_ hh; kernel_rfl
  · cases hh⟩
theorem x_ref1_Space_Under_L3 : LabOk PR cutsOf TABS (labKey F_ref1_Space_Under 3042) LB_ref1_Space_Under_L3 := ⟨rfl, by decide, by kernel_rfl, fun call R a h r hh => by
  change X_ref1_Space_Under_L3 H call (lr TABS R) a h = some r at hh
  unfold X_ref1_Space_Under_L3 at hh
  rw [ilt_eq, ckR_eq] at hh
  split at hh
  · refine ⟨_, _, _, _, k_ref1_Space_Under, ?_⟩
    refine Eq.trans ?_ hh; kernel_rfl
  · cases hh⟩
theorem x_ref1_Space_Under_L4 : LabOk PR cutsOf TABS (labKey F_ref1_Space_Under 10026) LB_ref1_Space_Under_L4 := ⟨rfl, by decide, by kernel_rfl, fun call R a h r hh => by
  change X_ref1_Space_Under_L4 H call (lr TABS R) a h = some r at hh
  unfold X_ref1_Space_Under_L4 at hh
  rw [wrapF_eq, bitA_eq, ilt_eq, ckR_eq] at hh
  split at hh
  · refine ⟨_, _, _, _, k_ref1_Space_Under, ?_⟩
    refine Eq.trans ?_ hh; kernel_rfl
  · cases hh⟩
theorem x_ref1_Space_Under_L5 : LabOk PR cutsOf TABS (labKey F_ref1_Space_Under 7050) LB_ref1_Space_Under_L5 := ⟨rfl, by decide, by kernel_rfl, fun call R a h r hh => by
  change X_ref1_Space_Under_L5 H call (lr TABS R) a h = some r at hh
  unfold X_ref1_Space_Under_L5 at hh
  rw [wrapF_eq, ilt_eq, ckR_eq, ckL_eq] at hh
  split at hh
  · refine ⟨_, _, _, _, k_ref1_Space_Under, ?_⟩
    refine Eq.trans ?_ hh; kernel_rfl
  · cases hh⟩
theorem x_ref1_Quota_Owns : FunOk PR cutsOf TABS F_ref1_Quota_Owns X_ref1_Quota_Owns := fun call R a h r hh => by
  unfold X_ref1_Quota_Owns at hh
  rw [ilt_eq, ile_eq, ckR_eq] at hh
  split at hh
  · refine ⟨_, _, _, _, k_ref1_Quota_Owns, rfl, ?_⟩
    refine Eq.trans ?_ hh; kernel_rfl
  · cases hh
theorem x_sect_Sect_Enter : FunOk PR cutsOf TABS F_sect_Sect_Enter X_sect_Sect_Enter := fun call R a h r hh => by
  unfold X_sect_Sect_Enter at hh
  rw [ieq_eq, ilt_eq] at hh
  split at hh
  · refine ⟨_, _, _, _, k_sect_Sect_Enter, rfl, ?_⟩
    refine Eq.trans ?_ hh; kernel_rfl
  · cases hh
theorem x_sect_Sect_Enter_R1 : LabOk PR cutsOf TABS (labKey F_sect_Sect_Enter 2021) LB_sect_Sect_Enter_R1 := ⟨rfl, by decide, by kernel_rfl, fun call R a h r hh => by
  change X_sect_Sect_Enter_R1 H call (lr TABS R) a h = some r at hh
  unfold X_sect_Sect_Enter_R1 at hh
  split at hh
  · refine ⟨_, _, _, _, k_sect_Sect_Enter, ?_⟩
    refine Eq.trans ?_ hh; kernel_rfl
  · cases hh⟩
theorem x_sect_Sect_Enter_R2 : LabOk PR cutsOf TABS (labKey F_sect_Sect_Enter 3023) LB_sect_Sect_Enter_R2 := ⟨rfl, by decide, by kernel_rfl, fun call R a h r hh => by
  change X_sect_Sect_Enter_R2 H call (lr TABS R) a h = some r at hh
  unfold X_sect_Sect_Enter_R2 at hh
  rw [wrapF_eq, ile_eq] at hh
  split at hh
  · refine ⟨_, _, _, _, k_sect_Sect_Enter, ?_⟩
    refine Eq.trans ?_ hh; kernel_rfl
  · cases hh⟩
theorem x_sect_Sect_Enter_R3 : LabOk PR cutsOf TABS (labKey F_sect_Sect_Enter 3029) LB_sect_Sect_Enter_R3 := ⟨rfl, by decide, by kernel_rfl, fun call R a h r hh => by
  change X_sect_Sect_Enter_R3 H call (lr TABS R) a h = some r at hh
  unfold X_sect_Sect_Enter_R3 at hh
  rw [ieq_eq, ckR_eq] at hh
  split at hh
  · refine ⟨_, _, _, _, k_sect_Sect_Enter, ?_⟩
    refine Eq.trans ?_ hh; kernel_rfl
  · cases hh⟩
theorem x_sect_Sect_Enter_R4 : LabOk PR cutsOf TABS (labKey F_sect_Sect_Enter 3035) LB_sect_Sect_Enter_R4 := ⟨rfl, by decide, by kernel_rfl, fun call R a h r hh => by
  change X_sect_Sect_Enter_R4 H call (lr TABS R) a h = some r at hh
  unfold X_sect_Sect_Enter_R4 at hh
  split at hh
  · refine ⟨_, _, _, _, k_sect_Sect_Enter, ?_⟩
    refine Eq.trans ?_ hh; kernel_rfl
  · cases hh⟩
theorem x_sect_Sect_Enter_L1 : LabOk PR cutsOf TABS (labKey F_sect_Sect_Enter 3036) LB_sect_Sect_Enter_L1 := ⟨rfl, by decide, by kernel_rfl, fun call R a h r hh => by
  change X_sect_Sect_Enter_L1 H call (lr TABS R) a h = some r at hh
  unfold X_sect_Sect_Enter_L1 at hh
  rw [wrapF_eq, ine_eq, ile_eq, ckR_eq, ckL_eq] at hh
  split at hh
  · refine ⟨_, _, _, _, k_sect_Sect_Enter, ?_⟩
    refine Eq.trans ?_ hh; kernel_rfl
  · cases hh⟩
theorem x_codec_New_api_Proc : FunOk PR cutsOf TABS F_codec_New_api_Proc X_codec_New_api_Proc := fun call R a h r hh => by
  unfold X_codec_New_api_Proc at hh
  split at hh
  · refine ⟨_, _, _, _, k_codec_New_api_Proc, rfl, ?_⟩
    refine Eq.trans ?_ hh; kernel_rfl
  · cases hh
theorem x_ring_put : FunOk PR cutsOf TABS F_ring_put X_ring_put := fun call R a h r hh => by
  unfold X_ring_put at hh
  rw [wrapF_eq, ckR_eq, ckL_eq] at hh
  split at hh
  · refine ⟨_, _, _, _, k_ring_put, rfl, ?_⟩
    refine Eq.trans ?_ hh; kernel_rfl
  · cases hh
theorem x_codec_Codec_api_Pipe_Encode : FunOk PR cutsOf TABS F_codec_Codec_api_Pipe_Encode X_codec_Codec_api_Pipe_Encode := fun call R a h r hh => by
  unfold X_codec_Codec_api_Pipe_Encode at hh
  split at hh
  · refine ⟨_, _, _, _, k_codec_Codec_api_Pipe_Encode, rfl, ?_⟩
    refine Eq.trans ?_ hh; kernel_rfl
  · cases hh
theorem x_slices_IndexFunc_s_int_int : FunOk PR cutsOf TABS F_slices_IndexFunc_s_int_int X_slices_IndexFunc_s_int_int := fun call R a h r hh => by
  unfold X_slices_IndexFunc_s_int_int at hh
  split at hh
  · refine ⟨_, _, _, _, k_slices_IndexFunc_s_int_int, rfl, ?_⟩
    refine Eq.trans ?_ hh; kernel_rfl
  · cases hh
theorem x_slices_IndexFunc_s_int_int_L1 : LabOk PR cutsOf TABS (labKey F_slices_IndexFunc_s_int_int 3004) LB_slices_IndexFunc_s_int_int_L1 := ⟨rfl, by decide, by kernel_rfl, fun call R a h r hh => by
  change X_slices_IndexFunc_s_int_int_L1 H call (lr TABS R) a h = some r at hh
  unfold X_slices_IndexFunc_s_int_int_L1 at hh
  rw [wrapF_eq, ilt_eq, ckR_eq] at hh
  split at hh
  · refine ⟨_, _, _, _, k_slices_IndexFunc_s_int_int, ?_⟩
    refine Eq.trans ?_ hh; kernel_rfl
  · cases hh⟩
theorem x_ref1_rising : FunOk PR cutsOf TABS F_ref1_rising X_ref1_rising := fun call R a h r hh => by
  unfold X_ref1_rising at hh
  split at hh
  · refine ⟨_, _, _, _, k_ref1_rising, rfl, ?_⟩
    refine Eq.trans ?_ hh; kernel_rfl
  · cases hh
theorem x_ref1_rising_L1 : LabOk PR cutsOf TABS (labKey F_ref1_rising 3006) LB_ref1_rising_L1 := ⟨rfl, by decide, by kernel_rfl, fun call R a h r hh => by
  change X_ref1_rising_L1 H call (lr TABS R) a h = some r at hh
  unfold X_ref1_rising_L1 at hh
  rw [ilt_eq] at hh
  split at hh
  · refine ⟨_, _, _, _, k_ref1_rising, ?_⟩
    refine Eq.trans ?_ hh; kernel_rfl
  · cases hh⟩
theorem x_ref1_rising_L2 : LabOk PR cutsOf TABS (labKey F_ref1_rising 8012) LB_ref1_rising_L2 := ⟨rfl, by decide, by kernel_rfl, fun call R a h r hh => by
  change X_ref1_rising_L2 H call (lr TABS R) a h = some r at hh
  unfold X_ref1_rising_L2 at hh
  rw [wrapF_eq, ilt_eq, ckR_eq, ckL_eq] at hh
  split at hh
  · refine ⟨_, _, _, _, k_ref1_rising, ?_⟩
    refine Eq.trans ?_ hh; kernel_rfl
  · cases hh⟩
theorem x_slices_insertionSortCmpFunc_api_Ref : FunOk PR cutsOf TABS F_slices_insertionSortCmpFunc_api_Ref X_slices_insertionSortCmpFunc_api_Ref := fun call R a h r hh => by
  unfold X_slices_insertionSortCmpFunc_api_Ref at hh
  rw [wrapF_eq] at hh
  split at hh
  · refine ⟨_, _, _, _, k_slices_insertionSortCmpFunc_api_Ref, rfl, ?_⟩
    refine Eq.trans ?_ hh; kernel_rfl
  · cases hh
theorem x_slices_insertionSortCmpFunc_api_Ref_L1 : LabOk PR cutsOf TABS (labKey F_slices_insertionSortCmpFunc_api_Ref 2002) LB_slices_insertionSortCmpFunc_api_Ref_L1 := ⟨rfl, by decide, by kernel_rfl, fun call R a h r hh => by
  change X_slices_insertionSortCmpFunc_api_Ref_L1 H call (lr TABS R) a h = some r at hh
  unfold X_slices_insertionSortCmpFunc_api_Ref_L1 at hh
  rw [ilt_eq] at hh
  split at hh
  · refine ⟨_, _, _, _, k_slices_insertionSortCmpFunc_api_Ref, ?_⟩
    refine Eq.trans ?_ hh; kernel_rfl
  · cases hh⟩
theorem x_slices_insertionSortCmpFunc_api_Ref_L2 : LabOk PR cutsOf TABS (labKey F_slices_insertionSortCmpFunc_api_Ref 6008) LB_slices_insertionSortCmpFunc_api_Ref_L2 := ⟨rfl, by decide, by kernel_rfl, fun call R a h r hh => by
  change X_slices_insertionSortCmpFunc_api_Ref_L2 H call (lr TABS R) a h = some r at hh
  unfold X_slices_insertionSortCmpFunc_api_Ref_L2 at hh
  rw [wrapF_eq, ilt_eq, ckR_eq] at hh
  split at hh
  · refine ⟨_, _, _, _, k_slices_insertionSortCmpFunc_api_Ref, ?_⟩
    refine Eq.trans ?_ hh; kernel_rfl
  · cases hh⟩
theorem x_slices_choosePivotCmpFunc_api_Ref : FunOk PR cutsOf TABS F_slices_choosePivotCmpFunc_api_Ref X_slices_choosePivotCmpFunc_api_Ref := fun call R a h r hh => by
  unfold X_slices_choosePivotCmpFunc_api_Ref at hh
  rw [wrapF_eq, ile_eq] at hh
  split at hh
  · refine ⟨_, _, _, _, k_slices_choosePivotCmpFunc_api_Ref, rfl, ?_⟩
    refine Eq.trans ?_ hh; kernel_rfl
  · cases hh
theorem x_slices_choosePivotCmpFunc_api_Ref_R1 : LabOk PR cutsOf TABS (labKey F_slices_choosePivotCmpFunc_api_Ref 2023) LB_slices_choosePivotCmpFunc_api_Ref_R1 := ⟨rfl, by decide, by kernel_rfl, fun call R a h r hh => by
  change X_slices_choosePivotCmpFunc_api_Ref_R1 H call (lr TABS R) a h = some r at hh
  unfold X_slices_choosePivotCmpFunc_api_Ref_R1 at hh
  split at hh
  · refine ⟨_, _, _, _, k_slices_choosePivotCmpFunc_api_Ref, ?_⟩
    refine Eq.trans ?_ hh; kernel_rfl
  · cases hh⟩
theorem x_slices_choosePivotCmpFunc_api_Ref_R2 : LabOk PR cutsOf TABS (labKey F_slices_choosePivotCmpFunc_api_Ref 2025) LB_slices_choosePivotCmpFunc_api_Ref_R2 := ⟨rfl, by decide, by kernel_rfl, fun call R a h r hh => by
  change X_slices_choosePivotCmpFunc_api_Ref_R2 H call (lr TABS R) a h = some r at hh
  unfold X_slices_choosePivotCmpFunc_api_Ref_R2 at hh
  rw [ieq_eq] at hh
  split at hh
  · refine ⟨_, _, _, _, k_slices_choosePivotCmpFunc_api_Ref, ?_⟩
    refine Eq.trans ?_ hh; kernel_rfl
  · cases hh⟩
end Go.EQ

set_option maxRecDepth 100000
set_option linter.unusedVariables false
namespace Go.EQ
open Go Go.Proofs
open Go.NN hiding bnd ld gInt gBool gStr gPtr gSl gMap gFv gAgg gCells nw pV pAgg pCells apd fitsOpen liveA mapAt
open Go.NP Go.NW
theorem x_caps_Space_Names : FunOk PR cutsOf TABS F_caps_Space_Names X_caps_Space_Names := fun call R a h r hh => by
  unfold X_caps_Space_Names at hh
  rw [ckR_eq] at hh
  split at hh
  · refine ⟨_, _, _, _, k_caps_Space_Names, rfl, ?_⟩
    refine Eq.trans ?_ hh; kernel_rfl
  · cases hh
theorem x_commons_Commons_Term : FunOk PR cutsOf TABS F_commons_Commons_Term X_commons_Commons_Term := fun call R a h r hh => by
  unfold X_commons_Commons_Term at hh
  split at hh
  · refine ⟨_, _, _, _, k_commons_Commons_Term, rfl, ?_⟩
    refine Eq.trans ?_ hh; kernel_rfl
  · cases hh
theorem x_law11_Proc : FunOk PR cutsOf TABS F_law11_Proc X_law11_Proc := fun call R a h r hh => by
  unfold X_law11_Proc at hh
  rw [bitA_eq, ieq_eq, ckR_eq] at hh
  split at hh
  · refine ⟨_, _, _, _, k_law11_Proc, rfl, ?_⟩
    refine Eq.trans ?_ hh; kernel_rfl
  · cases hh
theorem x_law11_Proc_L1 : LabOk PR cutsOf TABS (labKey F_law11_Proc 3026) LB_law11_Proc_L1 := ⟨rfl, by decide, by kernel_rfl, fun call R a h r hh => by
  change X_law11_Proc_L1 H call (lr TABS R) a h = some r at hh
  unfold X_law11_Proc_L1 at hh
  rw [wrapF_eq, bitA_eq, ine_eq, ilt_eq, ckR_eq] at hh
  split at hh
  · cases hbfN0 : Nat.beq _ F_law11_Proc_1 <;> rw [hbfN0] at hh
    · cases hh
    obtain rfl := Nat.eq_of_beq_eq_true hbfN0
    refine ⟨_, _, _, _, k_law11_Proc, ?_⟩
    refine Eq.trans ?_ hh; kernel_rfl
  · cases hh⟩
theorem x_commons_New : FunOk PR cutsOf TABS F_commons_New X_commons_New := fun call R a h r hh => by
  unfold X_commons_New at hh
  rw [ieq_eq] at hh
  split at hh
  · refine ⟨_, _, _, _, k_commons_New, rfl, ?_⟩
    refine Eq.trans ?_ hh; kernel_rfl
  · cases hh
theorem x_fds_Close : FunOk PR cutsOf TABS F_fds_Close X_fds_Close := fun call R a h r hh => by
  unfold X_fds_Close at hh
  rw [wrapF_eq, ine_eq, ckR_eq] at hh
  split at hh
  · refine ⟨_, _, _, _, k_fds_Close, rfl, ?_⟩
    refine Eq.trans ?_ hh; kernel_rfl
  · cases hh
theorem x_ref15_Boot : FunOk PR cutsOf TABS F_ref15_Boot X_ref15_Boot := fun call R a h r hh => by
  unfold X_ref15_Boot at hh
  split at hh
  · refine ⟨_, _, _, _, k_ref15_Boot, rfl, ?_⟩
    refine Eq.trans ?_ hh; kernel_rfl
  · cases hh
theorem x_ref15_Boot_L1 : LabOk PR cutsOf TABS (labKey F_ref15_Boot 3006) LB_ref15_Boot_L1 := ⟨rfl, by decide, by kernel_rfl, fun call R a h r hh => by
  change X_ref15_Boot_L1 H call (lr TABS R) a h = some r at hh
  unfold X_ref15_Boot_L1 at hh
  rw [ilt_eq] at hh
  split at hh
  · refine ⟨_, _, _, _, k_ref15_Boot, ?_⟩
    refine Eq.trans ?_ hh; kernel_rfl
  · cases hh⟩
theorem x_ref15_Boot_L2 : LabOk PR cutsOf TABS (labKey F_ref15_Boot 8014) LB_ref15_Boot_L2 := ⟨rfl, by decide, by kernel_rfl, fun call R a h r hh => by
  change X_ref15_Boot_L2 H call (lr TABS R) a h = some r at hh
  unfold X_ref15_Boot_L2 at hh
  rw [wrapF_eq, ilt_eq] at hh
  split at hh
  · refine ⟨_, _, _, _, k_ref15_Boot, ?_⟩
    refine Eq.trans ?_ hh; kernel_rfl
  · cases hh⟩
theorem x_ref15_Boot_L3 : LabOk PR cutsOf TABS (labKey F_ref15_Boot 3026) LB_ref15_Boot_L3 := ⟨rfl, by decide, by kernel_rfl, fun call R a h r hh => by
  change X_ref15_Boot_L3 H call (lr TABS R) a h = some r at hh
  unfold X_ref15_Boot_L3 at hh
  rw [wrapF_eq, ilt_eq, ckR_eq] at hh
  split at hh
  · refine ⟨_, _, _, _, k_ref15_Boot, ?_⟩
    refine Eq.trans ?_ hh; kernel_rfl
  · cases hh⟩
theorem x_ref1_Kern_Do : FunOk PR cutsOf TABS F_ref1_Kern_Do X_ref1_Kern_Do := fun call R a h r hh => by
  unfold X_ref1_Kern_Do at hh
  rw [ieq_eq, ilt_eq, ile_eq, ckR_eq] at hh
  split at hh
  · refine ⟨_, _, _, _, k_ref1_Kern_Do, rfl, ?_⟩
    refine Eq.trans ?_ hh; kernel_rfl
  · cases hh
theorem x_pslot_Decode : FunOk PR cutsOf TABS F_pslot_Decode X_pslot_Decode := fun call R a h r hh => by
  unfold X_pslot_Decode at hh
  rw [ieq_eq] at hh
  split at hh
  · refine ⟨_, _, _, _, k_pslot_Decode, rfl, ?_⟩
    refine Eq.trans ?_ hh; kernel_rfl
  · cases hh
theorem x_commons_record_api_File : FunOk PR cutsOf TABS F_commons_record_api_File X_commons_record_api_File := fun call R a h r hh => by
  unfold X_commons_record_api_File at hh
  rw [wrapF_eq, ieq_eq] at hh
  split at hh
  · refine ⟨_, _, _, _, k_commons_record_api_File, rfl, ?_⟩
    refine Eq.trans ?_ hh; kernel_rfl
  · cases hh
theorem x_commons_record_api_File_R1 : LabOk PR cutsOf TABS (labKey F_commons_record_api_File 3017) LB_commons_record_api_File_R1 := ⟨rfl, by decide, by kernel_rfl, fun call R a h r hh => by
  change X_commons_record_api_File_R1 H call (lr TABS R) a h = some r at hh
  unfold X_commons_record_api_File_R1 at hh
  rw [ine_eq] at hh
  split at hh
  · refine ⟨_, _, _, _, k_commons_record_api_File, ?_⟩
    refine Eq.trans ?_ hh; kernel_rfl
  · cases hh⟩
theorem x_commons_record_int : FunOk PR cutsOf TABS F_commons_record_int X_commons_record_int := fun call R a h r hh => by
  unfold X_commons_record_int at hh
  rw [wrapF_eq, ieq_eq] at hh
  split at hh
  · refine ⟨_, _, _, _, k_commons_record_int, rfl, ?_⟩
    refine Eq.trans ?_ hh; kernel_rfl
  · cases hh
theorem x_commons_record_int_R1 : LabOk PR cutsOf TABS (labKey F_commons_record_int 3017) LB_commons_record_int_R1 := ⟨rfl, by decide, by kernel_rfl, fun call R a h r hh => by
  change X_commons_record_int_R1 H call (lr TABS R) a h = some r at hh
  unfold X_commons_record_int_R1 at hh
  rw [ine_eq] at hh
  split at hh
  · refine ⟨_, _, _, _, k_commons_record_int, ?_⟩
    refine Eq.trans ?_ hh; kernel_rfl
  · cases hh⟩
theorem x_pslot_Encode : FunOk PR cutsOf TABS F_pslot_Encode X_pslot_Encode := fun call R a h r hh => by
  unfold X_pslot_Encode at hh
  split at hh
  · refine ⟨_, _, _, _, k_pslot_Encode, rfl, ?_⟩
    refine Eq.trans ?_ hh; kernel_rfl
  · cases hh
theorem x_ref11_FileBytes : FunOk PR cutsOf TABS F_ref11_FileBytes X_ref11_FileBytes := fun call R a h r hh => by
  unfold X_ref11_FileBytes at hh
  rw [wrapF_eq] at hh
  split at hh
  · refine ⟨_, _, _, _, k_ref11_FileBytes, rfl, ?_⟩
    refine Eq.trans ?_ hh; kernel_rfl
  · cases hh
theorem x_proc_Self : FunOk PR cutsOf TABS F_proc_Self X_proc_Self := fun call R a h r hh => by
  unfold X_proc_Self at hh
  rw [ine_eq] at hh
  split at hh
  · refine ⟨_, _, _, _, k_proc_Self, rfl, ?_⟩
    refine Eq.trans ?_ hh; kernel_rfl
  · cases hh
theorem x_proc_free : FunOk PR cutsOf TABS F_proc_free X_proc_free := fun call R a h r hh => by
  unfold X_proc_free at hh
  split at hh
  · refine ⟨_, _, _, _, k_proc_free, rfl, ?_⟩
    refine Eq.trans ?_ hh; kernel_rfl
  · cases hh
theorem x_proc_free_L1 : LabOk PR cutsOf TABS (labKey F_proc_free 3004) LB_proc_free_L1 := ⟨rfl, by decide, by kernel_rfl, fun call R a h r hh => by
  change X_proc_free_L1 H call (lr TABS R) a h = some r at hh
  unfold X_proc_free_L1 at hh
  rw [wrapF_eq, ieq_eq, ilt_eq] at hh
  split at hh
  · refine ⟨_, _, _, _, k_proc_free, ?_⟩
    refine Eq.trans ?_ hh; kernel_rfl
  · cases hh⟩
theorem x_fds_told : FunOk PR cutsOf TABS F_fds_told X_fds_told := fun call R a h r hh => by
  unfold X_fds_told at hh
  split at hh
  · refine ⟨_, _, _, _, k_fds_told, rfl, ?_⟩
    refine Eq.trans ?_ hh; kernel_rfl
  · cases hh
theorem x_fds_free : FunOk PR cutsOf TABS F_fds_free X_fds_free := fun call R a h r hh => by
  unfold X_fds_free at hh
  split at hh
  · refine ⟨_, _, _, _, k_fds_free, rfl, ?_⟩
    refine Eq.trans ?_ hh; kernel_rfl
  · cases hh
theorem x_fds_free_L1 : LabOk PR cutsOf TABS (labKey F_fds_free 3006) LB_fds_free_L1 := ⟨rfl, by decide, by kernel_rfl, fun call R a h r hh => by
  change X_fds_free_L1 H call (lr TABS R) a h = some r at hh
  unfold X_fds_free_L1 at hh
  rw [wrapF_eq, ilt_eq] at hh
  split at hh
  · refine ⟨_, _, _, _, k_fds_free, ?_⟩
    refine Eq.trans ?_ hh; kernel_rfl
  · cases hh⟩
theorem x_fds_Pipe_1 : FunOk PR cutsOf TABS F_fds_Pipe_1 X_fds_Pipe_1 := fun call R a h r hh => by
  unfold X_fds_Pipe_1 at hh
  rw [ieq_eq] at hh
  split at hh
  · refine ⟨_, _, _, _, k_fds_Pipe_1, rfl, ?_⟩
    refine Eq.trans ?_ hh; kernel_rfl
  · cases hh
theorem x_commons_Commons_SetFile : FunOk PR cutsOf TABS F_commons_Commons_SetFile X_commons_Commons_SetFile := fun call R a h r hh => by
  unfold X_commons_Commons_SetFile at hh
  split at hh
  · refine ⟨_, _, _, _, k_commons_Commons_SetFile, rfl, ?_⟩
    refine Eq.trans ?_ hh; kernel_rfl
  · cases hh
theorem x_kern_check : FunOk PR cutsOf TABS F_kern_check X_kern_check := fun call R a h r hh => by
  unfold X_kern_check at hh
  rw [ilt_eq] at hh
  split at hh
  · refine ⟨_, _, _, _, k_kern_check, rfl, ?_⟩
    refine Eq.trans ?_ hh; kernel_rfl
  · cases hh
theorem x_kern_check_L1 : LabOk PR cutsOf TABS (labKey F_kern_check 3014) LB_kern_check_L1 := ⟨rfl, by decide, by kernel_rfl, fun call R a h r hh => by
  change X_kern_check_L1 H call (lr TABS R) a h = some r at hh
  unfold X_kern_check_L1 at hh
  rw [wrapF_eq, ilt_eq, ckR_eq] at hh
  split at hh
  · cases hbfN0 : Nat.beq _ F_kern_check_1 <;> rw [hbfN0] at hh
    · cases hh
    obtain rfl := Nat.eq_of_beq_eq_true hbfN0
    refine ⟨_, _, _, _, k_kern_check, ?_⟩
    refine Eq.trans ?_ hh; kernel_rfl
  · cases hh⟩
theorem x_kern_check_L2 : LabOk PR cutsOf TABS (labKey F_kern_check 3026) LB_kern_check_L2 := ⟨rfl, by decide, by kernel_rfl, fun call R a h r hh => by
  change X_kern_check_L2 H call (lr TABS R) a h = some r at hh
  unfold X_kern_check_L2 at hh
  rw [wrapF_eq, ilt_eq, ckR_eq] at hh
  split at hh
  · cases hbfN0 : Nat.beq _ F_kern_check_1 <;> rw [hbfN0] at hh
    · cases hh
    obtain rfl := Nat.eq_of_beq_eq_true hbfN0
    refine ⟨_, _, _, _, k_kern_check, ?_⟩
    refine Eq.trans ?_ hh; kernel_rfl
  · cases hh⟩
theorem x_slices_Clone_s_int_int : FunOk PR cutsOf TABS F_slices_Clone_s_int_int X_slices_Clone_s_int_int := fun call R a h r hh => by
  unfold X_slices_Clone_s_int_int at hh
  split at hh
  · refine ⟨_, _, _, _, k_slices_Clone_s_int_int, rfl, ?_⟩
    refine Eq.trans ?_ hh; kernel_rfl
  · cases hh
theorem x_mem_New : FunOk PR cutsOf TABS F_mem_New X_mem_New := fun call R a h r hh => by
  unfold X_mem_New at hh
  rw [wrapF_eq] at hh
  split at hh
  · refine ⟨_, _, _, _, k_mem_New, rfl, ?_⟩
    refine Eq.trans ?_ hh; kernel_rfl
  · cases hh
theorem x_region_Regions_Add : FunOk PR cutsOf TABS F_region_Regions_Add X_region_Regions_Add := fun call R a h r hh => by
  unfold X_region_Regions_Add at hh
  rw [wrapF_eq, ilt_eq, ile_eq] at hh
  split at hh
  · refine ⟨_, _, _, _, k_region_Regions_Add, rfl, ?_⟩
    refine Eq.trans ?_ hh; kernel_rfl
  · cases hh
theorem x_slices_Contains_s_int_int : FunOk PR cutsOf TABS F_slices_Contains_s_int_int X_slices_Contains_s_int_int := fun call R a h r hh => by
  unfold X_slices_Contains_s_int_int at hh
  rw [ile_eq] at hh
  split at hh
  · refine ⟨_, _, _, _, k_slices_Contains_s_int_int, rfl, ?_⟩
    refine Eq.trans ?_ hh; kernel_rfl
  · cases hh
theorem x_ref1_Regions_Read : FunOk PR cutsOf TABS F_ref1_Regions_Read X_ref1_Regions_Read := fun call R a h r hh => by
  unfold X_ref1_Regions_Read at hh
  rw [wrapF_eq, ine_eq, ckL_eq] at hh
  split at hh
  · refine ⟨_, _, _, _, k_ref1_Regions_Read, rfl, ?_⟩
    refine Eq.trans ?_ hh; kernel_rfl
  · cases hh
theorem x_ref1_Quota_Alloc : FunOk PR cutsOf TABS F_ref1_Quota_Alloc X_ref1_Quota_Alloc := fun call R a h r hh => by
  unfold X_ref1_Quota_Alloc at hh
  rw [ilt_eq, ile_eq] at hh
  split at hh
  · refine ⟨_, _, _, _, k_ref1_Quota_Alloc, rfl, ?_⟩
    refine Eq.trans ?_ hh; kernel_rfl
  · cases hh
theorem x_ref1_Quota_Alloc_L1 : LabOk PR cutsOf TABS (labKey F_ref1_Quota_Alloc 3008) LB_ref1_Quota_Alloc_L1 := ⟨rfl, by decide, by kernel_rfl, fun call R a h r hh => by
  change X_ref1_Quota_Alloc_L1 H call (lr TABS R) a h = some r at hh
  unfold X_ref1_Quota_Alloc_L1 at hh
  rw [wrapF_eq, ilt_eq, ckR_eq] at hh
  split at hh
  · refine ⟨_, _, _, _, k_ref1_Quota_Alloc, ?_⟩
    refine Eq.trans ?_ hh; kernel_rfl
  · cases hh⟩
theorem x_ref1_Sect_Leave : FunOk PR cutsOf TABS F_ref1_Sect_Leave X_ref1_Sect_Leave := fun call R a h r hh => by
  unfold X_ref1_Sect_Leave at hh
  split at hh
  · refine ⟨_, _, _, _, k_ref1_Sect_Leave, rfl, ?_⟩
    refine Eq.trans ?_ hh; kernel_rfl
  · cases hh
theorem x_ref1_Space_All : FunOk PR cutsOf TABS F_ref1_Space_All X_ref1_Space_All := fun call R a h r hh => by
  unfold X_ref1_Space_All at hh
  rw [ckR_eq] at hh
  split at hh
  · refine ⟨_, _, _, _, k_ref1_Space_All, rfl, ?_⟩
    refine Eq.trans ?_ hh; kernel_rfl
  · cases hh
theorem x_commons_Commons_read : FunOk PR cutsOf TABS F_commons_Commons_read X_commons_Commons_read := fun call R a h r hh => by
  unfold X_commons_Commons_read at hh
  rw [wrapF_eq, ine_eq, ilt_eq] at hh
  split at hh
  · refine ⟨_, _, _, _, k_commons_Commons_read, rfl, ?_⟩
    refine Eq.trans ?_ hh; kernel_rfl
  · cases hh
theorem x_ofile_Codec : FunOk PR cutsOf TABS F_ofile_Codec X_ofile_Codec := fun call R a h r hh => by
  unfold X_ofile_Codec at hh
  split at hh
  · refine ⟨_, _, _, _, k_ofile_Codec, rfl, ?_⟩
    refine Eq.trans ?_ hh; kernel_rfl
  · cases hh
theorem x_ring_Codec : FunOk PR cutsOf TABS F_ring_Codec X_ring_Codec := fun call R a h r hh => by
  unfold X_ring_Codec at hh
  split at hh
  · refine ⟨_, _, _, _, k_ring_Codec, rfl, ?_⟩
    refine Eq.trans ?_ hh; kernel_rfl
  · cases hh
theorem x_commons_Commons_place : FunOk PR cutsOf TABS F_commons_Commons_place X_commons_Commons_place := fun call R a h r hh => by
  unfold X_commons_Commons_place at hh
  rw [wrapF_eq, ieq_eq, ilt_eq, ile_eq, ckR_eq] at hh
  split at hh
  · refine ⟨_, _, _, _, k_commons_Commons_place, rfl, ?_⟩
    refine Eq.trans ?_ hh; kernel_rfl
  · cases hh
theorem x_ref1_Two : FunOk PR cutsOf TABS F_ref1_Two X_ref1_Two := fun call R a h r hh => by
  unfold X_ref1_Two at hh
  rw [wrapF_eq] at hh
  split at hh
  · refine ⟨_, _, _, _, k_ref1_Two, rfl, ?_⟩
    refine Eq.trans ?_ hh; kernel_rfl
  · cases hh
theorem x_commons_Commons_Look : FunOk PR cutsOf TABS F_commons_Commons_Look X_commons_Commons_Look := fun call R a h r hh => by
  unfold X_commons_Commons_Look at hh
  split at hh
  · refine ⟨_, _, _, _, k_commons_Commons_Look, rfl, ?_⟩
    refine Eq.trans ?_ hh; kernel_rfl
  · cases hh
theorem x_commons_Commons_Look_L1 : LabOk PR cutsOf TABS (labKey F_commons_Commons_Look 3002) LB_commons_Commons_Look_L1 := ⟨rfl, by decide, by kernel_rfl, fun call R a h r hh => by
  change X_commons_Commons_Look_L1 H call (lr TABS R) a h = some r at hh
  unfold X_commons_Commons_Look_L1 at hh
  rw [wrapF_eq, ilt_eq] at hh
  split at hh
  · refine ⟨_, _, _, _, k_commons_Commons_Look, ?_⟩
    refine Eq.trans ?_ hh; kernel_rfl
  · cases hh⟩
theorem x_commons_Commons_Look_L2 : LabOk PR cutsOf TABS (labKey F_commons_Commons_Look 3012) LB_commons_Commons_Look_L2 := ⟨rfl, by decide, by kernel_rfl, fun call R a h r hh => by
  change X_commons_Commons_Look_L2 H call (lr TABS R) a h = some r at hh
  unfold X_commons_Commons_Look_L2 at hh
  rw [wrapF_eq, ilt_eq] at hh
  split at hh
  · refine ⟨_, _, _, _, k_commons_Commons_Look, ?_⟩
    refine Eq.trans ?_ hh; kernel_rfl
  · cases hh⟩
theorem x_commons_Commons_Look_L3 : LabOk PR cutsOf TABS (labKey F_commons_Commons_Look 3022) LB_commons_Commons_Look_L3 := ⟨rfl, by decide, by kernel_rfl, fun call R a h r hh => by
  change X_commons_Commons_Look_L3 H call (lr TABS R) a h = some r at hh
  unfold X_commons_Commons_Look_L3 at hh
  rw [wrapF_eq, ilt_eq] at hh
  split at hh
  · refine ⟨_, _, _, _, k_commons_Commons_Look, ?_⟩
    refine Eq.trans ?_ hh; kernel_rfl
  · cases hh⟩
theorem x_slices_Clone_s_byte_byte : FunOk PR cutsOf TABS F_slices_Clone_s_byte_byte X_slices_Clone_s_byte_byte := fun call R a h r hh => by
  unfold X_slices_Clone_s_byte_byte at hh
  split at hh
  · refine ⟨_, _, _, _, k_slices_Clone_s_byte_byte, rfl, ?_⟩
    refine Eq.trans ?_ hh; kernel_rfl
  · cases hh
theorem x_table_New_api_Cap : FunOk PR cutsOf TABS F_table_New_api_Cap X_table_New_api_Cap := fun call R a h r hh => by
  unfold X_table_New_api_Cap at hh
  split at hh
  · refine ⟨_, _, _, _, k_table_New_api_Cap, rfl, ?_⟩
    refine Eq.trans ?_ hh; kernel_rfl
  · cases hh
theorem x_table_New_api_Cap_L1 : LabOk PR cutsOf TABS (labKey F_table_New_api_Cap 3006) LB_table_New_api_Cap_L1 := ⟨rfl, by decide, by kernel_rfl, fun call R a h r hh => by
  change X_table_New_api_Cap_L1 H call (lr TABS R) a h = some r at hh
  unfold X_table_New_api_Cap_L1 at hh
  rw [wrapF_eq, ilt_eq, ckR_eq] at hh
  split at hh
  · refine ⟨_, _, _, _, k_table_New_api_Cap, ?_⟩
    refine Eq.trans ?_ hh; kernel_rfl
  · cases hh⟩
theorem x_ref1_NewNames : FunOk PR cutsOf TABS F_ref1_NewNames X_ref1_NewNames := fun call R a h r hh => by
  unfold X_ref1_NewNames at hh
  split at hh
  · refine ⟨_, _, _, _, k_ref1_NewNames, rfl, ?_⟩
    refine Eq.trans ?_ hh; kernel_rfl
  · cases hh
theorem x_ref1_NewNames_L1 : LabOk PR cutsOf TABS (labKey F_ref1_NewNames 3006) LB_ref1_NewNames_L1 := ⟨rfl, by decide, by kernel_rfl, fun call R a h r hh => by
  change X_ref1_NewNames_L1 H call (lr TABS R) a h = some r at hh
  unfold X_ref1_NewNames_L1 at hh
  rw [wrapF_eq, ilt_eq] at hh
  split at hh
  · refine ⟨_, _, _, _, k_ref1_NewNames, ?_⟩
    refine Eq.trans ?_ hh; kernel_rfl
  · cases hh⟩
theorem x_ref1_Space_add : FunOk PR cutsOf TABS F_ref1_Space_add X_ref1_Space_add := fun call R a h r hh => by
  unfold X_ref1_Space_add at hh
  rw [bitA_eq, ckR_eq] at hh
  split at hh
  · refine ⟨_, _, _, _, k_ref1_Space_add, rfl, ?_⟩
    refine Eq.trans ?_ hh; kernel_rfl
  · cases hh
theorem x_ref1_Names_Drop : FunOk PR cutsOf TABS F_ref1_Names_Drop X_ref1_Names_Drop := fun call R a h r hh => by
  unfold X_ref1_Names_Drop at hh
  rw [wrapF_eq, bitA_eq, ckR_eq] at hh
  split at hh
  · refine ⟨_, _, _, _, k_ref1_Names_Drop, rfl, ?_⟩
    refine Eq.trans ?_ hh; kernel_rfl
  · cases hh
theorem x_ref1_Sect_drop : FunOk PR cutsOf TABS F_ref1_Sect_drop X_ref1_Sect_drop := fun call R a h r hh => by
  unfold X_ref1_Sect_drop at hh
  rw [wrapF_eq, ieq_eq, ckL_eq] at hh
  split at hh
  · refine ⟨_, _, _, _, k_ref1_Sect_drop, rfl, ?_⟩
    refine Eq.trans ?_ hh; kernel_rfl
  · cases hh
theorem x_ref1_Sect_Holds : FunOk PR cutsOf TABS F_ref1_Sect_Holds X_ref1_Sect_Holds := fun call R a h r hh => by
  unfold X_ref1_Sect_Holds at hh
  rw [ieq_eq] at hh
  split at hh
  · refine ⟨_, _, _, _, k_ref1_Sect_Holds, rfl, ?_⟩
    refine Eq.trans ?_ hh; kernel_rfl
  · cases hh
theorem x_ref1_Names_All : FunOk PR cutsOf TABS F_ref1_Names_All X_ref1_Names_All := fun call R a h r hh => by
  unfold X_ref1_Names_All at hh
  split at hh
  · refine ⟨_, _, _, _, k_ref1_Names_All, rfl, ?_⟩
    refine Eq.trans ?_ hh; kernel_rfl
  · cases hh
theorem x_ref1_Names_All_L1 : LabOk PR cutsOf TABS (labKey F_ref1_Names_All 3006) LB_ref1_Names_All_L1 := ⟨rfl, by decide, by kernel_rfl, fun call R a h r hh => by
  change X_ref1_Names_All_L1 H call (lr TABS R) a h = some r at hh
  unfold X_ref1_Names_All_L1 at hh
  rw [wrapF_eq, ilt_eq, ckR_eq] at hh
  split at hh
  · refine ⟨_, _, _, _, k_ref1_Names_All, ?_⟩
    refine Eq.trans ?_ hh; kernel_rfl
  · cases hh⟩
theorem x_region_Regions_place : FunOk PR cutsOf TABS F_region_Regions_place X_region_Regions_place := fun call R a h r hh => by
  unfold X_region_Regions_place at hh
  rw [wrapF_eq, bitA_eq, ine_eq, ieq_eq, ilt_eq, ile_eq, ckR_eq] at hh
  split at hh
  · refine ⟨_, _, _, _, k_region_Regions_place, rfl, ?_⟩
    refine Eq.trans ?_ hh; kernel_rfl
  · cases hh
theorem x_mem_Mem_Store : FunOk PR cutsOf TABS F_mem_Mem_Store X_mem_Mem_Store := fun call R a h r hh => by
  unfold X_mem_Mem_Store at hh
  rw [ckL_eq] at hh
  split at hh
  · refine ⟨_, _, _, _, k_mem_Mem_Store, rfl, ?_⟩
    refine Eq.trans ?_ hh; kernel_rfl
  · cases hh
theorem x_caps_Space_Under : FunOk PR cutsOf TABS F_caps_Space_Under X_caps_Space_Under := fun call R a h r hh => by
  unfold X_caps_Space_Under at hh
  rw [ine_eq] at hh
  split at hh
  · refine ⟨_, _, _, _, k_caps_Space_Under, rfl, ?_⟩
    refine Eq.trans ?_ hh; kernel_rfl
  · cases hh
theorem x_caps_Space_Under_L1 : LabOk PR cutsOf TABS (labKey F_caps_Space_Under 3012) LB_caps_Space_Under_L1 := ⟨rfl, by decide, by kernel_rfl, fun call R a h r hh => by
  change X_caps_Space_Under_L1 H call (lr TABS R) a h = some r at hh
  unfold X_caps_Space_Under_L1 at hh
  split at hh
  · refine ⟨_, _, _, _, k_caps_Space_Under, ?_⟩
    refine Eq.trans ?_ hh; kernel_rfl
  · cases hh⟩
theorem x_caps_Space_Under_L2 : LabOk PR cutsOf TABS (labKey F_caps_Space_Under 6018) LB_caps_Space_Under_L2 := ⟨rfl, by decide, by kernel_rfl, fun call R a h r hh => by
  change X_caps_Space_Under_L2 H call (lr TABS R) a h = some r at hh
  unfold X_caps_Space_Under_L2 at hh
  rw [ilt_eq, ckR_eq] at hh
  split at hh
  · refine ⟨_, _, _, _, k_caps_Space_Under, ?_⟩
    refine Eq.trans ?_ hh; kernel_rfl
  · cases hh⟩
theorem x_caps_Space_Under_L3 : LabOk PR cutsOf TABS (labKey F_caps_Space_Under 3044) LB_caps_Space_Under_L3 := ⟨rfl, by decide, by kernel_rfl, fun call R a h r hh => by
  change X_caps_Space_Under_L3 H call (lr TABS R) a h = some r at hh
  unfold X_caps_Space_Under_L3 at hh
  rw [ilt_eq, ckR_eq] at hh
  split at hh
  · refine ⟨_, _, _, _, k_caps_Space_Under, ?_⟩
    refine Eq.trans ?_ hh; kernel_rfl
  · cases hh⟩
theorem x_caps_Space_Under_L4 : LabOk PR cutsOf TABS (labKey F_caps_Space_Under 10024) LB_caps_Space_Under_L4 := ⟨rfl, by decide, by kernel_rfl, fun call R a h r hh => by
  change X_caps_Space_Under_L4 H call (lr TABS R) a h = some r at hh
  unfold X_caps_Space_Under_L4 at hh
  rw [wrapF_eq, ieq_eq, ilt_eq, ckR_eq] at hh
  split at hh
  · refine ⟨_, _, _, _, k_caps_Space_Under, ?_⟩
    refine Eq.trans ?_ hh; kernel_rfl
  · cases hh⟩
theorem x_caps_Space_Under_L5 : LabOk PR cutsOf TABS (labKey F_caps_Space_Under 7050) LB_caps_Space_Under_L5 := ⟨rfl, by decide, by kernel_rfl, fun call R a h r hh => by
  change X_caps_Space_Under_L5 H call (lr TABS R) a h = some r at hh
  unfold X_caps_Space_Under_L5 at hh
  rw [wrapF_eq, ine_eq, ilt_eq, ckR_eq] at hh
  split at hh
  · refine ⟨_, _, _, _, k_caps_Space_Under, ?_⟩
    refine Eq.trans ?_ hh; kernel_rfl
  · cases hh⟩
theorem x_quota_Quota_Owns : FunOk PR cutsOf TABS F_quota_Quota_Owns X_quota_Quota_Owns := fun call R a h r hh => by
  unfold X_quota_Quota_Owns at hh
  rw [ilt_eq, ile_eq, ckR_eq] at hh
  split at hh
  · refine ⟨_, _, _, _, k_quota_Quota_Owns, rfl, ?_⟩
    refine Eq.trans ?_ hh; kernel_rfl
  · cases hh
theorem x_codec_New_api_File : FunOk PR cutsOf TABS F_codec_New_api_File X_codec_New_api_File := fun call R a h r hh => by
  unfold X_codec_New_api_File at hh
  split at hh
  · refine ⟨_, _, _, _, k_codec_New_api_File, rfl, ?_⟩
    refine Eq.trans ?_ hh; kernel_rfl
  · cases hh
theorem x_codec_Codec_api_File_Encode : FunOk PR cutsOf TABS F_codec_Codec_api_File_Encode X_codec_Codec_api_File_Encode := fun call R a h r hh => by
  unfold X_codec_Codec_api_File_Encode at hh
  split at hh
  · refine ⟨_, _, _, _, k_codec_Codec_api_File_Encode, rfl, ?_⟩
    refine Eq.trans ?_ hh; kernel_rfl
  · cases hh
theorem x_pslot_Ok : FunOk PR cutsOf TABS F_pslot_Ok X_pslot_Ok := fun call R a h r hh => by
  unfold X_pslot_Ok at hh
  rw [bitA_eq, ine_eq, ieq_eq, ilt_eq, ile_eq] at hh
  split at hh
  · refine ⟨_, _, _, _, k_pslot_Ok, rfl, ?_⟩
    refine Eq.trans ?_ hh; kernel_rfl
  · cases hh
theorem x_codec_Put2 : FunOk PR cutsOf TABS F_codec_Put2 X_codec_Put2 := fun call R a h r hh => by
  unfold X_codec_Put2 at hh
  rw [wrapF_eq, ilt_eq, ckR_eq] at hh
  split at hh
  · refine ⟨_, _, _, _, k_codec_Put2, rfl, ?_⟩
    refine Eq.trans ?_ hh; kernel_rfl
  · cases hh
theorem x_ring_Ok : FunOk PR cutsOf TABS F_ring_Ok X_ring_Ok := fun call R a h r hh => by
  unfold X_ring_Ok at hh
  split at hh
  · refine ⟨_, _, _, _, k_ring_Ok, rfl, ?_⟩
    refine Eq.trans ?_ hh; kernel_rfl
  · cases hh
theorem x_slices_pdqsortCmpFunc_api_Ref : FunOk PR cutsOf TABS F_slices_pdqsortCmpFunc_api_Ref X_slices_pdqsortCmpFunc_api_Ref := fun call R a h r hh => by
  unfold X_slices_pdqsortCmpFunc_api_Ref at hh
  split at hh
  · refine ⟨_, _, _, _, k_slices_pdqsortCmpFunc_api_Ref, rfl, ?_⟩
    refine Eq.trans ?_ hh; kernel_rfl
  · cases hh
theorem x_slices_pdqsortCmpFunc_api_Ref_L1 : LabOk PR cutsOf TABS (labKey F_slices_pdqsortCmpFunc_api_Ref 2004) LB_slices_pdqsortCmpFunc_api_Ref_L1 := ⟨rfl, by decide, by kernel_rfl, fun call R a h r hh => by
  change X_slices_pdqsortCmpFunc_api_Ref_L1 H call (lr TABS R) a h = some r at hh
  unfold X_slices_pdqsortCmpFunc_api_Ref_L1 at hh
  rw [wrapF_eq, ieq_eq, ile_eq] at hh
  split at hh
  · refine ⟨_, _, _, _, k_slices_pdqsortCmpFunc_api_Ref, ?_⟩
    refine Eq.trans ?_ hh; kernel_rfl
  · cases hh⟩
theorem x_slices_pdqsortCmpFunc_api_Ref_R1 : LabOk PR cutsOf TABS (labKey F_slices_pdqsortCmpFunc_api_Ref 5021) LB_slices_pdqsortCmpFunc_api_Ref_R1 := ⟨rfl, by decide, by kernel_rfl, fun call R a h r hh => by
  change X_slices_pdqsortCmpFunc_api_Ref_R1 H call (lr TABS R) a h = some r at hh
  unfold X_slices_pdqsortCmpFunc_api_Ref_R1 at hh
  rw [wrapF_eq, ieq_eq] at hh
  split at hh
  · refine ⟨_, _, _, _, k_slices_pdqsortCmpFunc_api_Ref, ?_⟩
    refine Eq.trans ?_ hh; kernel_rfl
  · cases hh⟩
theorem x_slices_pdqsortCmpFunc_api_Ref_R2 : LabOk PR cutsOf TABS (labKey F_slices_pdqsortCmpFunc_api_Ref 6031) LB_slices_pdqsortCmpFunc_api_Ref_R2 := ⟨rfl, by decide, by kernel_rfl, fun call R a h r hh => by
  change X_slices_pdqsortCmpFunc_api_Ref_R2 H call (lr TABS R) a h = some r at hh
  unfold X_slices_pdqsortCmpFunc_api_Ref_R2 at hh
  rw [ieq_eq] at hh
  split at hh
  · refine ⟨_, _, _, _, k_slices_pdqsortCmpFunc_api_Ref, ?_⟩
    refine Eq.trans ?_ hh; kernel_rfl
  · cases hh⟩
theorem x_slices_pdqsortCmpFunc_api_Ref_R3 : LabOk PR cutsOf TABS (labKey F_slices_pdqsortCmpFunc_api_Ref 6035) LB_slices_pdqsortCmpFunc_api_Ref_R3 := ⟨rfl, by decide, by kernel_rfl, fun call R a h r hh => by
  change X_slices_pdqsortCmpFunc_api_Ref_R3 H call (lr TABS R) a h = some r at hh
  unfold X_slices_pdqsortCmpFunc_api_Ref_R3 at hh
  rw [wrapF_eq, ilt_eq, ile_eq, ckR_eq] at hh
  split at hh
  · refine ⟨_, _, _, _, k_slices_pdqsortCmpFunc_api_Ref, ?_⟩
    refine Eq.trans ?_ hh; kernel_rfl
  · cases hh⟩
theorem x_pslot_bits : FunOk PR cutsOf TABS F_pslot_bits X_pslot_bits := fun call R a h r hh => by
  unfold X_pslot_bits at hh
  rw [bitA_eq, ieq_eq] at hh
  split at hh
  · refine ⟨_, _, _, _, k_pslot_bits, rfl, ?_⟩
    refine Eq.trans ?_ hh; kernel_rfl
  · cases hh
theorem x_slices_breakPatternsCmpFunc_api_Ref : FunOk PR cutsOf TABS F_slices_breakPatternsCmpFunc_api_Ref X_slices_breakPatternsCmpFunc_api_Ref := fun call R a h r hh => by
  unfold X_slices_breakPatternsCmpFunc_api_Ref at hh
  rw [wrapF_eq, ile_eq] at hh
  split at hh
  · refine ⟨_, _, _, _, k_slices_breakPatternsCmpFunc_api_Ref, rfl, ?_⟩
    refine Eq.trans ?_ hh; kernel_rfl
  · cases hh
theorem x_slices_breakPatternsCmpFunc_api_Ref_L1 : LabOk PR cutsOf TABS (labKey F_slices_breakPatternsCmpFunc_api_Ref 2010) LB_slices_breakPatternsCmpFunc_api_Ref_L1 := ⟨rfl, by decide, by kernel_rfl, fun call R a h r hh => by
  change X_slices_breakPatternsCmpFunc_api_Ref_L1 H call (lr TABS R) a h = some r at hh
  unfold X_slices_breakPatternsCmpFunc_api_Ref_L1 at hh
  rw [wrapF_eq, bitA_eq, ile_eq] at hh
  split at hh
  · refine ⟨_, _, _, _, k_slices_breakPatternsCmpFunc_api_Ref, ?_⟩
    refine Eq.trans ?_ hh; kernel_rfl
  · cases hh⟩
theorem x_slices_breakPatternsCmpFunc_api_Ref_R1 : LabOk PR cutsOf TABS (labKey F_slices_breakPatternsCmpFunc_api_Ref 5021) LB_slices_breakPatternsCmpFunc_api_Ref_R1 := ⟨rfl, by decide, by kernel_rfl, fun call R a h r hh => by
  change X_slices_breakPatternsCmpFunc_api_Ref_R1 H call (lr TABS R) a h = some r at hh
  unfold X_slices_breakPatternsCmpFunc_api_Ref_R1 at hh
  rw [wrapF_eq, ckR_eq] at hh
  split at hh
  · refine ⟨_, _, _, _, k_slices_breakPatternsCmpFunc_api_Ref, ?_⟩
    refine Eq.trans ?_ hh; kernel_rfl
  · cases hh⟩
theorem x_slices_reverseRangeCmpFunc_api_Ref : FunOk PR cutsOf TABS F_slices_reverseRangeCmpFunc_api_Ref X_slices_reverseRangeCmpFunc_api_Ref := fun call R a h r hh => by
  unfold X_slices_reverseRangeCmpFunc_api_Ref at hh
  rw [wrapF_eq] at hh
  split at hh
  · refine ⟨_, _, _, _, k_slices_reverseRangeCmpFunc_api_Ref, rfl, ?_⟩
    refine Eq.trans ?_ hh; kernel_rfl
  · cases hh
theorem x_slices_reverseRangeCmpFunc_api_Ref_L1 : LabOk PR cutsOf TABS (labKey F_slices_reverseRangeCmpFunc_api_Ref 2004) LB_slices_reverseRangeCmpFunc_api_Ref_L1 := ⟨rfl, by decide, by kernel_rfl, fun call R a h r hh => by
  change X_slices_reverseRangeCmpFunc_api_Ref_L1 H call (lr TABS R) a h = some r at hh
  unfold X_slices_reverseRangeCmpFunc_api_Ref_L1 at hh
  rw [wrapF_eq, ilt_eq, ckR_eq] at hh
  split at hh
  · refine ⟨_, _, _, _, k_slices_reverseRangeCmpFunc_api_Ref, ?_⟩
    refine Eq.trans ?_ hh; kernel_rfl
  · cases hh⟩
theorem x_slices_xorshift_Next : FunOk PR cutsOf TABS F_slices_xorshift_Next X_slices_xorshift_Next := fun call R a h r hh => by
  unfold X_slices_xorshift_Next at hh
  rw [wrapF_eq] at hh
  split at hh
  · refine ⟨_, _, _, _, k_slices_xorshift_Next, rfl, ?_⟩
    refine Eq.trans ?_ hh; kernel_rfl
  · cases hh
end Go.EQ

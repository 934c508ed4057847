/- What one slot was told is picked out in its order; returns are counted by their calls; one row of bytes is the beginning of another one, or not. -/
import Derived.Test.YtffngggpkaibkaaGreatDoorMf
import Derived.KernelRfl
set_option linter.unusedVariables false
set_option linter.unusedSimpArgs false
set_option linter.unusedSectionVars false
set_option maxRecDepth 100000
set_option linter.unusedVariables false
namespace Go.EQ
open Go Go.Proofs
open Go.NN hiding bnd ld gInt gBool gStr gPtr gSl gMap gFv gAgg gCells nw pV pAgg pCells apd fitsOpen liveA mapAt
open Go.NP Go.NW
theorem x_bytes_HasPrefix : FunOk PR cutsOf TABS F_bytes_HasPrefix X_bytes_HasPrefix := fun call R a h r hh => by
  unfold X_bytes_HasPrefix at hh
  rw [ile_eq, ckL_eq] at hh
  split at hh
  · refine ⟨_, _, _, _, k_bytes_HasPrefix, rfl, ?_⟩
    refine Eq.trans ?_ hh; kernel_rfl
  · cases hh
theorem x_trace_look : FunOk PR cutsOf TABS F_trace_look X_trace_look := fun call R a h r hh => by
  unfold X_trace_look at hh
  rw [ieq_eq] at hh
  split at hh
  · refine ⟨_, _, _, _, k_trace_look, rfl, ?_⟩
    refine Eq.trans ?_ hh; kernel_rfl
  · cases hh
theorem x_world_Boot : FunOk PR cutsOf TABS F_world_Boot X_world_Boot := fun call R a h r hh => by
  unfold X_world_Boot at hh
  rw [ine_eq] at hh
  split at hh
  · refine ⟨_, _, _, _, k_world_Boot, rfl, ?_⟩
    refine Eq.trans ?_ hh; kernel_rfl
  · cases hh
theorem x_world_Boot_L1 : LabOk PR cutsOf TABS (labKey F_world_Boot 3010) LB_world_Boot_L1 := ⟨rfl, by decide, by kernel_rfl, fun call R a h r hh => by
  change X_world_Boot_L1 H call (lr TABS R) a h = some r at hh
  unfold X_world_Boot_L1 at hh
  rw [ilt_eq] at hh
  split at hh
  · refine ⟨_, _, _, _, k_world_Boot, ?_⟩
    refine Eq.trans ?_ hh; kernel_rfl
  · cases hh⟩
theorem x_world_Boot_L2 : LabOk PR cutsOf TABS (labKey F_world_Boot 8018) LB_world_Boot_L2 := ⟨rfl, by decide, by kernel_rfl, fun call R a h r hh => by
  change X_world_Boot_L2 H call (lr TABS R) a h = some r at hh
  unfold X_world_Boot_L2 at hh
  rw [wrapF_eq, ilt_eq] at hh
  split at hh
  · refine ⟨_, _, _, _, k_world_Boot, ?_⟩
    refine Eq.trans ?_ hh; kernel_rfl
  · cases hh⟩
theorem x_world_Boot_L3 : LabOk PR cutsOf TABS (labKey F_world_Boot 3032) LB_world_Boot_L3 := ⟨rfl, by decide, by kernel_rfl, fun call R a h r hh => by
  change X_world_Boot_L3 H call (lr TABS R) a h = some r at hh
  unfold X_world_Boot_L3 at hh
  rw [wrapF_eq, ilt_eq, ckR_eq] at hh
  split at hh
  · refine ⟨_, _, _, _, k_world_Boot, ?_⟩
    refine Eq.trans ?_ hh; kernel_rfl
  · cases hh⟩
theorem x_host_New : FunOk PR cutsOf TABS F_host_New X_host_New := fun call R a h r hh => by
  unfold X_host_New at hh
  rw [ine_eq, ilt_eq, ile_eq] at hh
  split at hh
  · refine ⟨_, _, _, _, k_host_New, rfl, ?_⟩
    refine Eq.trans ?_ hh; kernel_rfl
  · cases hh
theorem x_ring_Decode : FunOk PR cutsOf TABS F_ring_Decode X_ring_Decode := fun call R a h r hh => by
  unfold X_ring_Decode at hh
  rw [ieq_eq] at hh
  split at hh
  · refine ⟨_, _, _, _, k_ring_Decode, rfl, ?_⟩
    refine Eq.trans ?_ hh; kernel_rfl
  · cases hh
theorem x_ring_Bytes : FunOk PR cutsOf TABS F_ring_Bytes X_ring_Bytes := fun call R a h r hh => by
  unfold X_ring_Bytes at hh
  split at hh
  · refine ⟨_, _, _, _, k_ring_Bytes, rfl, ?_⟩
    refine Eq.trans ?_ hh; kernel_rfl
  · cases hh
theorem x_ring_Bytes_L1 : LabOk PR cutsOf TABS (labKey F_ring_Bytes 3010) LB_ring_Bytes_L1 := ⟨rfl, by decide, by kernel_rfl, fun call R a h r hh => by
  change X_ring_Bytes_L1 H call (lr TABS R) a h = some r at hh
  unfold X_ring_Bytes_L1 at hh
  rw [wrapF_eq, ilt_eq, ckR_eq] at hh
  split at hh
  · refine ⟨_, _, _, _, k_ring_Bytes, ?_⟩
    refine Eq.trans ?_ hh; kernel_rfl
  · cases hh⟩
theorem x_kern_check : FunOk PR cutsOf TABS F_kern_check X_kern_check := fun call R a h r hh => by
  unfold X_kern_check at hh
  rw [ilt_eq] at hh
  split at hh
  · refine ⟨_, _, _, _, k_kern_check, rfl, ?_⟩
    refine Eq.trans ?_ hh; kernel_rfl
  · cases hh
theorem x_kern_check_L1 : LabOk PR cutsOf TABS (labKey F_kern_check 3014) LB_kern_check_L1 := ⟨rfl, by decide, by kernel_rfl, fun call R a h r hh => by
  change X_kern_check_L1 H call (lr TABS R) a h = some r at hh
  unfold X_kern_check_L1 at hh
  rw [wrapF_eq, ilt_eq, ckR_eq] at hh
  split at hh
  · cases hbfN0 : Nat.beq _ F_kern_check_1 <;> rw [hbfN0] at hh
    · cases hh
    obtain rfl := Nat.eq_of_beq_eq_true hbfN0
    refine ⟨_, _, _, _, k_kern_check, ?_⟩
    refine Eq.trans ?_ hh; kernel_rfl
  · cases hh⟩
theorem x_kern_check_L2 : LabOk PR cutsOf TABS (labKey F_kern_check 3026) LB_kern_check_L2 := ⟨rfl, by decide, by kernel_rfl, fun call R a h r hh => by
  change X_kern_check_L2 H call (lr TABS R) a h = some r at hh
  unfold X_kern_check_L2 at hh
  rw [wrapF_eq, ilt_eq, ckR_eq] at hh
  split at hh
  · cases hbfN0 : Nat.beq _ F_kern_check_1 <;> rw [hbfN0] at hh
    · cases hh
    obtain rfl := Nat.eq_of_beq_eq_true hbfN0
    refine ⟨_, _, _, _, k_kern_check, ?_⟩
    refine Eq.trans ?_ hh; kernel_rfl
  · cases hh⟩
theorem x_kern_frames : FunOk PR cutsOf TABS F_kern_frames X_kern_frames := fun call R a h r hh => by
  unfold X_kern_frames at hh
  split at hh
  · refine ⟨_, _, _, _, k_kern_frames, rfl, ?_⟩
    refine Eq.trans ?_ hh; kernel_rfl
  · cases hh
theorem x_slices_Clone_s_int_int : FunOk PR cutsOf TABS F_slices_Clone_s_int_int X_slices_Clone_s_int_int := fun call R a h r hh => by
  unfold X_slices_Clone_s_int_int at hh
  split at hh
  · refine ⟨_, _, _, _, k_slices_Clone_s_int_int, rfl, ?_⟩
    refine Eq.trans ?_ hh; kernel_rfl
  · cases hh
theorem x_caps_New : FunOk PR cutsOf TABS F_caps_New X_caps_New := fun call R a h r hh => by
  unfold X_caps_New at hh
  split at hh
  · refine ⟨_, _, _, _, k_caps_New, rfl, ?_⟩
    refine Eq.trans ?_ hh; kernel_rfl
  · cases hh
theorem x_caps_New_L1 : LabOk PR cutsOf TABS (labKey F_caps_New 3006) LB_caps_New_L1 := ⟨rfl, by decide, by kernel_rfl, fun call R a h r hh => by
  change X_caps_New_L1 H call (lr TABS R) a h = some r at hh
  unfold X_caps_New_L1 at hh
  rw [wrapF_eq, ilt_eq] at hh
  split at hh
  · refine ⟨_, _, _, _, k_caps_New, ?_⟩
    refine Eq.trans ?_ hh; kernel_rfl
  · cases hh⟩
theorem x_quota_New : FunOk PR cutsOf TABS F_quota_New X_quota_New := fun call R a h r hh => by
  unfold X_quota_New at hh
  rw [ckL_eq] at hh
  split at hh
  · refine ⟨_, _, _, _, k_quota_New, rfl, ?_⟩
    refine Eq.trans ?_ hh; kernel_rfl
  · cases hh
theorem x_quota_New_L1 : LabOk PR cutsOf TABS (labKey F_quota_New 3006) LB_quota_New_L1 := ⟨rfl, by decide, by kernel_rfl, fun call R a h r hh => by
  change X_quota_New_L1 H call (lr TABS R) a h = some r at hh
  unfold X_quota_New_L1 at hh
  rw [wrapF_eq, ilt_eq, ckR_eq] at hh
  split at hh
  · refine ⟨_, _, _, _, k_quota_New, ?_⟩
    refine Eq.trans ?_ hh; kernel_rfl
  · cases hh⟩
theorem x_region_New : FunOk PR cutsOf TABS F_region_New X_region_New := fun call R a h r hh => by
  unfold X_region_New at hh
  split at hh
  · refine ⟨_, _, _, _, k_region_New, rfl, ?_⟩
    refine Eq.trans ?_ hh; kernel_rfl
  · cases hh
theorem x_sect_New : FunOk PR cutsOf TABS F_sect_New X_sect_New := fun call R a h r hh => by
  unfold X_sect_New at hh
  split at hh
  · refine ⟨_, _, _, _, k_sect_New, rfl, ?_⟩
    refine Eq.trans ?_ hh; kernel_rfl
  · cases hh
theorem x_region_Regions_Add : FunOk PR cutsOf TABS F_region_Regions_Add X_region_Regions_Add := fun call R a h r hh => by
  unfold X_region_Regions_Add at hh
  rw [wrapF_eq, ilt_eq, ile_eq] at hh
  split at hh
  · refine ⟨_, _, _, _, k_region_Regions_Add, rfl, ?_⟩
    refine Eq.trans ?_ hh; kernel_rfl
  · cases hh
theorem x_commons_Commons_SetFront : FunOk PR cutsOf TABS F_commons_Commons_SetFront X_commons_Commons_SetFront := fun call R a h r hh => by
  unfold X_commons_Commons_SetFront at hh
  split at hh
  · refine ⟨_, _, _, _, k_commons_Commons_SetFront, rfl, ?_⟩
    refine Eq.trans ?_ hh; kernel_rfl
  · cases hh
theorem x_commons_Commons_SetFile : FunOk PR cutsOf TABS F_commons_Commons_SetFile X_commons_Commons_SetFile := fun call R a h r hh => by
  unfold X_commons_Commons_SetFile at hh
  split at hh
  · refine ⟨_, _, _, _, k_commons_Commons_SetFile, rfl, ?_⟩
    refine Eq.trans ?_ hh; kernel_rfl
  · cases hh
theorem x_commons_Commons_SetProc : FunOk PR cutsOf TABS F_commons_Commons_SetProc X_commons_Commons_SetProc := fun call R a h r hh => by
  unfold X_commons_Commons_SetProc at hh
  split at hh
  · refine ⟨_, _, _, _, k_commons_Commons_SetProc, rfl, ?_⟩
    refine Eq.trans ?_ hh; kernel_rfl
  · cases hh
theorem x_kern_Kern_Sect : FunOk PR cutsOf TABS F_kern_Kern_Sect X_kern_Kern_Sect := fun call R a h r hh => by
  unfold X_kern_Kern_Sect at hh
  rw [ilt_eq, ile_eq, ckR_eq] at hh
  split at hh
  · refine ⟨_, _, _, _, k_kern_Kern_Sect, rfl, ?_⟩
    refine Eq.trans ?_ hh; kernel_rfl
  · cases hh
theorem x_kern_Kern_Regions : FunOk PR cutsOf TABS F_kern_Kern_Regions X_kern_Kern_Regions := fun call R a h r hh => by
  unfold X_kern_Kern_Regions at hh
  split at hh
  · refine ⟨_, _, _, _, k_kern_Kern_Regions, rfl, ?_⟩
    refine Eq.trans ?_ hh; kernel_rfl
  · cases hh
theorem x_region_Regions_Raw : FunOk PR cutsOf TABS F_region_Regions_Raw X_region_Regions_Raw := fun call R a h r hh => by
  unfold X_region_Regions_Raw at hh
  rw [ilt_eq, ile_eq, ckR_eq] at hh
  split at hh
  · refine ⟨_, _, _, _, k_region_Regions_Raw, rfl, ?_⟩
    refine Eq.trans ?_ hh; kernel_rfl
  · cases hh
theorem x_host_Host_Pick : FunOk PR cutsOf TABS F_host_Host_Pick X_host_Host_Pick := fun call R a h r hh => by
  unfold X_host_Host_Pick at hh
  rw [ieq_eq, ilt_eq] at hh
  split at hh
  · refine ⟨_, _, _, _, k_host_Host_Pick, rfl, ?_⟩
    refine Eq.trans ?_ hh; kernel_rfl
  · cases hh
theorem x_host_Host_Pick_R1 : LabOk PR cutsOf TABS (labKey F_host_Host_Pick 4023) LB_host_Host_Pick_R1 := ⟨rfl, by decide, by kernel_rfl, fun call R a h r hh => by
  change X_host_Host_Pick_R1 H call (lr TABS R) a h = some r at hh
  unfold X_host_Host_Pick_R1 at hh
  split at hh
  · refine ⟨_, _, _, _, k_host_Host_Pick, ?_⟩
    refine Eq.trans ?_ hh; kernel_rfl
  · cases hh⟩
theorem x_host_Host_Fresh : FunOk PR cutsOf TABS F_host_Host_Fresh X_host_Host_Fresh := fun call R a h r hh => by
  unfold X_host_Host_Fresh at hh
  split at hh
  · refine ⟨_, _, _, _, k_host_Host_Fresh, rfl, ?_⟩
    refine Eq.trans ?_ hh; kernel_rfl
  · cases hh
theorem x_commons_Commons_Term : FunOk PR cutsOf TABS F_commons_Commons_Term X_commons_Commons_Term := fun call R a h r hh => by
  unfold X_commons_Commons_Term at hh
  split at hh
  · refine ⟨_, _, _, _, k_commons_Commons_Term, rfl, ?_⟩
    refine Eq.trans ?_ hh; kernel_rfl
  · cases hh
theorem x_kern_Kern_bytes : FunOk PR cutsOf TABS F_kern_Kern_bytes X_kern_Kern_bytes := fun call R a h r hh => by
  unfold X_kern_Kern_bytes at hh
  rw [ieq_eq] at hh
  split at hh
  · refine ⟨_, _, _, _, k_kern_Kern_bytes, rfl, ?_⟩
    refine Eq.trans ?_ hh; kernel_rfl
  · cases hh
theorem x_kern_Kern_number : FunOk PR cutsOf TABS F_kern_Kern_number X_kern_Kern_number := fun call R a h r hh => by
  unfold X_kern_Kern_number at hh
  rw [ieq_eq, ckR_eq] at hh
  split at hh
  · refine ⟨_, _, _, _, k_kern_Kern_number, rfl, ?_⟩
    refine Eq.trans ?_ hh; kernel_rfl
  · cases hh
theorem x_kern_check_1 : FunOk PR cutsOf TABS F_kern_check_1 X_kern_check_1 := fun call R a h r hh => by
  unfold X_kern_check_1 at hh
  rw [ilt_eq, ile_eq] at hh
  split at hh
  · refine ⟨_, _, _, _, k_kern_check_1, rfl, ?_⟩
    refine Eq.trans ?_ hh; kernel_rfl
  · cases hh
theorem x_slices_ContainsFunc_s_int_int : FunOk PR cutsOf TABS F_slices_ContainsFunc_s_int_int X_slices_ContainsFunc_s_int_int := fun call R a h r hh => by
  unfold X_slices_ContainsFunc_s_int_int at hh
  rw [ile_eq] at hh
  split at hh
  · refine ⟨_, _, _, _, k_slices_ContainsFunc_s_int_int, rfl, ?_⟩
    refine Eq.trans ?_ hh; kernel_rfl
  · cases hh
theorem x_mem_Mem_Size : FunOk PR cutsOf TABS F_mem_Mem_Size X_mem_Mem_Size := fun call R a h r hh => by
  unfold X_mem_Mem_Size at hh
  split at hh
  · refine ⟨_, _, _, _, k_mem_Mem_Size, rfl, ?_⟩
    refine Eq.trans ?_ hh; kernel_rfl
  · cases hh
theorem x_caps_Space_is : FunOk PR cutsOf TABS F_caps_Space_is X_caps_Space_is := fun call R a h r hh => by
  unfold X_caps_Space_is at hh
  rw [ilt_eq, ile_eq] at hh
  split at hh
  · refine ⟨_, _, _, _, k_caps_Space_is, rfl, ?_⟩
    refine Eq.trans ?_ hh; kernel_rfl
  · cases hh
theorem x_caps_Space_add : FunOk PR cutsOf TABS F_caps_Space_add X_caps_Space_add := fun call R a h r hh => by
  unfold X_caps_Space_add at hh
  rw [ckR_eq] at hh
  split at hh
  · refine ⟨_, _, _, _, k_caps_Space_add, rfl, ?_⟩
    refine Eq.trans ?_ hh; kernel_rfl
  · cases hh
theorem x_caps_Space_Names : FunOk PR cutsOf TABS F_caps_Space_Names X_caps_Space_Names := fun call R a h r hh => by
  unfold X_caps_Space_Names at hh
  rw [ckR_eq] at hh
  split at hh
  · refine ⟨_, _, _, _, k_caps_Space_Names, rfl, ?_⟩
    refine Eq.trans ?_ hh; kernel_rfl
  · cases hh
theorem x_ring_Encode : FunOk PR cutsOf TABS F_ring_Encode X_ring_Encode := fun call R a h r hh => by
  unfold X_ring_Encode at hh
  split at hh
  · refine ⟨_, _, _, _, k_ring_Encode, rfl, ?_⟩
    refine Eq.trans ?_ hh; kernel_rfl
  · cases hh
theorem x_commons_Commons_write : FunOk PR cutsOf TABS F_commons_Commons_write X_commons_Commons_write := fun call R a h r hh => by
  unfold X_commons_Commons_write at hh
  rw [ieq_eq, ilt_eq] at hh
  split at hh
  · refine ⟨_, _, _, _, k_commons_Commons_write, rfl, ?_⟩
    refine Eq.trans ?_ hh; kernel_rfl
  · cases hh
theorem x_ofile_Encode : FunOk PR cutsOf TABS F_ofile_Encode X_ofile_Encode := fun call R a h r hh => by
  unfold X_ofile_Encode at hh
  split at hh
  · refine ⟨_, _, _, _, k_ofile_Encode, rfl, ?_⟩
    refine Eq.trans ?_ hh; kernel_rfl
  · cases hh
theorem x_commons_pipe : FunOk PR cutsOf TABS F_commons_pipe X_commons_pipe := fun call R a h r hh => by
  unfold X_commons_pipe at hh
  split at hh
  · refine ⟨_, _, _, _, k_commons_pipe, rfl, ?_⟩
    refine Eq.trans ?_ hh; kernel_rfl
  · cases hh
theorem x_commons_proc : FunOk PR cutsOf TABS F_commons_proc X_commons_proc := fun call R a h r hh => by
  unfold X_commons_proc at hh
  split at hh
  · refine ⟨_, _, _, _, k_commons_proc, rfl, ?_⟩
    refine Eq.trans ?_ hh; kernel_rfl
  · cases hh
theorem x_slices_ContainsFunc_s_byte_byte : FunOk PR cutsOf TABS F_slices_ContainsFunc_s_byte_byte X_slices_ContainsFunc_s_byte_byte := fun call R a h r hh => by
  unfold X_slices_ContainsFunc_s_byte_byte at hh
  rw [ile_eq] at hh
  split at hh
  · refine ⟨_, _, _, _, k_slices_ContainsFunc_s_byte_byte, rfl, ?_⟩
    refine Eq.trans ?_ hh; kernel_rfl
  · cases hh
theorem x_codec_New_api_Pipe : FunOk PR cutsOf TABS F_codec_New_api_Pipe X_codec_New_api_Pipe := fun call R a h r hh => by
  unfold X_codec_New_api_Pipe at hh
  split at hh
  · refine ⟨_, _, _, _, k_codec_New_api_Pipe, rfl, ?_⟩
    refine Eq.trans ?_ hh; kernel_rfl
  · cases hh
theorem x_host_Host_leave : FunOk PR cutsOf TABS F_host_Host_leave X_host_Host_leave := fun call R a h r hh => by
  unfold X_host_Host_leave at hh
  split at hh
  · refine ⟨_, _, _, _, k_host_Host_leave, rfl, ?_⟩
    refine Eq.trans ?_ hh; kernel_rfl
  · cases hh
theorem x_host_Host_in : FunOk PR cutsOf TABS F_host_Host_in X_host_Host_in := fun call R a h r hh => by
  unfold X_host_Host_in at hh
  rw [ine_eq] at hh
  split at hh
  · refine ⟨_, _, _, _, k_host_Host_in, rfl, ?_⟩
    refine Eq.trans ?_ hh; kernel_rfl
  · cases hh
theorem x_host_Host_end : FunOk PR cutsOf TABS F_host_Host_end X_host_Host_end := fun call R a h r hh => by
  unfold X_host_Host_end at hh
  rw [wrapF_eq, ine_eq, ilt_eq] at hh
  split at hh
  · refine ⟨_, _, _, _, k_host_Host_end, rfl, ?_⟩
    refine Eq.trans ?_ hh; kernel_rfl
  · cases hh
theorem x_commons_Commons_Pipe : FunOk PR cutsOf TABS F_commons_Commons_Pipe X_commons_Commons_Pipe := fun call R a h r hh => by
  unfold X_commons_Commons_Pipe at hh
  split at hh
  · refine ⟨_, _, _, _, k_commons_Commons_Pipe, rfl, ?_⟩
    refine Eq.trans ?_ hh; kernel_rfl
  · cases hh
theorem x_commons_Commons_Front : FunOk PR cutsOf TABS F_commons_Commons_Front X_commons_Commons_Front := fun call R a h r hh => by
  unfold X_commons_Commons_Front at hh
  rw [ieq_eq] at hh
  split at hh
  · refine ⟨_, _, _, _, k_commons_Commons_Front, rfl, ?_⟩
    refine Eq.trans ?_ hh; kernel_rfl
  · cases hh
theorem x_commons_record_api_Pipe : FunOk PR cutsOf TABS F_commons_record_api_Pipe X_commons_record_api_Pipe := fun call R a h r hh => by
  unfold X_commons_record_api_Pipe at hh
  rw [wrapF_eq, ieq_eq] at hh
  split at hh
  · refine ⟨_, _, _, _, k_commons_record_api_Pipe, rfl, ?_⟩
    refine Eq.trans ?_ hh; kernel_rfl
  · cases hh
theorem x_commons_record_api_Pipe_R1 : LabOk PR cutsOf TABS (labKey F_commons_record_api_Pipe 3017) LB_commons_record_api_Pipe_R1 := ⟨rfl, by decide, by kernel_rfl, fun call R a h r hh => by
  change X_commons_record_api_Pipe_R1 H call (lr TABS R) a h = some r at hh
  unfold X_commons_record_api_Pipe_R1 at hh
  rw [ine_eq] at hh
  split at hh
  · refine ⟨_, _, _, _, k_commons_record_api_Pipe, ?_⟩
    refine Eq.trans ?_ hh; kernel_rfl
  · cases hh⟩
theorem x_region_Regions_Write : FunOk PR cutsOf TABS F_region_Regions_Write X_region_Regions_Write := fun call R a h r hh => by
  unfold X_region_Regions_Write at hh
  rw [ine_eq] at hh
  split at hh
  · refine ⟨_, _, _, _, k_region_Regions_Write, rfl, ?_⟩
    refine Eq.trans ?_ hh; kernel_rfl
  · cases hh
theorem x_caps_Space_Revoke : FunOk PR cutsOf TABS F_caps_Space_Revoke X_caps_Space_Revoke := fun call R a h r hh => by
  unfold X_caps_Space_Revoke at hh
  rw [ine_eq] at hh
  split at hh
  · refine ⟨_, _, _, _, k_caps_Space_Revoke, rfl, ?_⟩
    refine Eq.trans ?_ hh; kernel_rfl
  · cases hh
theorem x_caps_Space_Revoke_L1 : LabOk PR cutsOf TABS (labKey F_caps_Space_Revoke 3010) LB_caps_Space_Revoke_L1 := ⟨rfl, by decide, by kernel_rfl, fun call R a h r hh => by
  change X_caps_Space_Revoke_L1 H call (lr TABS R) a h = some r at hh
  unfold X_caps_Space_Revoke_L1 at hh
  rw [wrapF_eq, ilt_eq, ckR_eq] at hh
  split at hh
  · refine ⟨_, _, _, _, k_caps_Space_Revoke, ?_⟩
    refine Eq.trans ?_ hh; kernel_rfl
  · cases hh⟩
theorem x_kern_Kern_leave : FunOk PR cutsOf TABS F_kern_Kern_leave X_kern_Kern_leave := fun call R a h r hh => by
  unfold X_kern_Kern_leave at hh
  rw [ieq_eq] at hh
  split at hh
  · refine ⟨_, _, _, _, k_kern_Kern_leave, rfl, ?_⟩
    refine Eq.trans ?_ hh; kernel_rfl
  · cases hh
theorem x_table_Table_api_Cap_Add : FunOk PR cutsOf TABS F_table_Table_api_Cap_Add X_table_Table_api_Cap_Add := fun call R a h r hh => by
  unfold X_table_Table_api_Cap_Add at hh
  split at hh
  · refine ⟨_, _, _, _, k_table_Table_api_Cap_Add, rfl, ?_⟩
    refine Eq.trans ?_ hh; kernel_rfl
  · cases hh
theorem x_table_Table_api_Cap_Add_L1 : LabOk PR cutsOf TABS (labKey F_table_Table_api_Cap_Add 3004) LB_table_Table_api_Cap_Add_L1 := ⟨rfl, by decide, by kernel_rfl, fun call R a h r hh => by
  change X_table_Table_api_Cap_Add_L1 H call (lr TABS R) a h = some r at hh
  unfold X_table_Table_api_Cap_Add_L1 at hh
  rw [wrapF_eq, ilt_eq, ile_eq, ckR_eq] at hh
  split at hh
  · refine ⟨_, _, _, _, k_table_Table_api_Cap_Add, ?_⟩
    refine Eq.trans ?_ hh; kernel_rfl
  · cases hh⟩
theorem x_table_Table_api_Cap_Names : FunOk PR cutsOf TABS F_table_Table_api_Cap_Names X_table_Table_api_Cap_Names := fun call R a h r hh => by
  unfold X_table_Table_api_Cap_Names at hh
  split at hh
  · refine ⟨_, _, _, _, k_table_Table_api_Cap_Names, rfl, ?_⟩
    refine Eq.trans ?_ hh; kernel_rfl
  · cases hh
theorem x_table_Table_api_Cap_Names_L1 : LabOk PR cutsOf TABS (labKey F_table_Table_api_Cap_Names 3006) LB_table_Table_api_Cap_Names_L1 := ⟨rfl, by decide, by kernel_rfl, fun call R a h r hh => by
  change X_table_Table_api_Cap_Names_L1 H call (lr TABS R) a h = some r at hh
  unfold X_table_Table_api_Cap_Names_L1 at hh
  rw [wrapF_eq, ilt_eq, ckR_eq] at hh
  split at hh
  · refine ⟨_, _, _, _, k_table_Table_api_Cap_Names, ?_⟩
    refine Eq.trans ?_ hh; kernel_rfl
  · cases hh⟩
theorem x_codec_Codec_api_Pipe_Encode : FunOk PR cutsOf TABS F_codec_Codec_api_Pipe_Encode X_codec_Codec_api_Pipe_Encode := fun call R a h r hh => by
  unfold X_codec_Codec_api_Pipe_Encode at hh
  split at hh
  · refine ⟨_, _, _, _, k_codec_Codec_api_Pipe_Encode, rfl, ?_⟩
    refine Eq.trans ?_ hh; kernel_rfl
  · cases hh
theorem x_commons_Commons_place : FunOk PR cutsOf TABS F_commons_Commons_place X_commons_Commons_place := fun call R a h r hh => by
  unfold X_commons_Commons_place at hh
  rw [wrapF_eq, ieq_eq, ilt_eq, ile_eq, ckR_eq] at hh
  split at hh
  · refine ⟨_, _, _, _, k_commons_Commons_place, rfl, ?_⟩
    refine Eq.trans ?_ hh; kernel_rfl
  · cases hh
theorem x_codec_Codec_api_File_Encode : FunOk PR cutsOf TABS F_codec_Codec_api_File_Encode X_codec_Codec_api_File_Encode := fun call R a h r hh => by
  unfold X_codec_Codec_api_File_Encode at hh
  split at hh
  · refine ⟨_, _, _, _, k_codec_Codec_api_File_Encode, rfl, ?_⟩
    refine Eq.trans ?_ hh; kernel_rfl
  · cases hh
theorem x_pslot_Codec : FunOk PR cutsOf TABS F_pslot_Codec X_pslot_Codec := fun call R a h r hh => by
  unfold X_pslot_Codec at hh
  split at hh
  · refine ⟨_, _, _, _, k_pslot_Codec, rfl, ?_⟩
    refine Eq.trans ?_ hh; kernel_rfl
  · cases hh
theorem x_mem_Mem_in : FunOk PR cutsOf TABS F_mem_Mem_in X_mem_Mem_in := fun call R a h r hh => by
  unfold X_mem_Mem_in at hh
  rw [wrapF_eq, ile_eq] at hh
  split at hh
  · refine ⟨_, _, _, _, k_mem_Mem_in, rfl, ?_⟩
    refine Eq.trans ?_ hh; kernel_rfl
  · cases hh
theorem x_slices_IndexFunc_s_byte_byte : FunOk PR cutsOf TABS F_slices_IndexFunc_s_byte_byte X_slices_IndexFunc_s_byte_byte := fun call R a h r hh => by
  unfold X_slices_IndexFunc_s_byte_byte at hh
  split at hh
  · refine ⟨_, _, _, _, k_slices_IndexFunc_s_byte_byte, rfl, ?_⟩
    refine Eq.trans ?_ hh; kernel_rfl
  · cases hh
theorem x_slices_IndexFunc_s_byte_byte_L1 : LabOk PR cutsOf TABS (labKey F_slices_IndexFunc_s_byte_byte 3004) LB_slices_IndexFunc_s_byte_byte_L1 := ⟨rfl, by decide, by kernel_rfl, fun call R a h r hh => by
  change X_slices_IndexFunc_s_byte_byte_L1 H call (lr TABS R) a h = some r at hh
  unfold X_slices_IndexFunc_s_byte_byte_L1 at hh
  rw [wrapF_eq, ilt_eq, ckR_eq] at hh
  split at hh
  · refine ⟨_, _, _, _, k_slices_IndexFunc_s_byte_byte, ?_⟩
    refine Eq.trans ?_ hh; kernel_rfl
  · cases hh⟩
theorem x_slices_Equal_s_byte_byte : FunOk PR cutsOf TABS F_slices_Equal_s_byte_byte X_slices_Equal_s_byte_byte := fun call R a h r hh => by
  unfold X_slices_Equal_s_byte_byte at hh
  rw [ine_eq] at hh
  split at hh
  · refine ⟨_, _, _, _, k_slices_Equal_s_byte_byte, rfl, ?_⟩
    refine Eq.trans ?_ hh; kernel_rfl
  · cases hh
theorem x_slices_Equal_s_byte_byte_L1 : LabOk PR cutsOf TABS (labKey F_slices_Equal_s_byte_byte 3008) LB_slices_Equal_s_byte_byte_L1 := ⟨rfl, by decide, by kernel_rfl, fun call R a h r hh => by
  change X_slices_Equal_s_byte_byte_L1 H call (lr TABS R) a h = some r at hh
  unfold X_slices_Equal_s_byte_byte_L1 at hh
  rw [wrapF_eq, ine_eq, ilt_eq, ckR_eq] at hh
  split at hh
  · refine ⟨_, _, _, _, k_slices_Equal_s_byte_byte, ?_⟩
    refine Eq.trans ?_ hh; kernel_rfl
  · cases hh⟩
theorem x_host_Host_back : FunOk PR cutsOf TABS F_host_Host_back X_host_Host_back := fun call R a h r hh => by
  unfold X_host_Host_back at hh
  split at hh
  · refine ⟨_, _, _, _, k_host_Host_back, rfl, ?_⟩
    refine Eq.trans ?_ hh; kernel_rfl
  · cases hh
theorem x_sect_Sect_Quit : FunOk PR cutsOf TABS F_sect_Sect_Quit X_sect_Sect_Quit := fun call R a h r hh => by
  unfold X_sect_Sect_Quit at hh
  rw [ieq_eq] at hh
  split at hh
  · refine ⟨_, _, _, _, k_sect_Sect_Quit, rfl, ?_⟩
    refine Eq.trans ?_ hh; kernel_rfl
  · cases hh
theorem x_sect_Sect_Quit_R1 : LabOk PR cutsOf TABS (labKey F_sect_Sect_Quit 2007) LB_sect_Sect_Quit_R1 := ⟨rfl, by decide, by kernel_rfl, fun call R a h r hh => by
  change X_sect_Sect_Quit_R1 H call (lr TABS R) a h = some r at hh
  unfold X_sect_Sect_Quit_R1 at hh
  rw [wrapF_eq, ieq_eq, ilt_eq] at hh
  split at hh
  · refine ⟨_, _, _, _, k_sect_Sect_Quit, ?_⟩
    refine Eq.trans ?_ hh; kernel_rfl
  · cases hh⟩
theorem x_commons_record_int : FunOk PR cutsOf TABS F_commons_record_int X_commons_record_int := fun call R a h r hh => by
  unfold X_commons_record_int at hh
  rw [wrapF_eq, ieq_eq] at hh
  split at hh
  · refine ⟨_, _, _, _, k_commons_record_int, rfl, ?_⟩
    refine Eq.trans ?_ hh; kernel_rfl
  · cases hh
theorem x_commons_record_int_R1 : LabOk PR cutsOf TABS (labKey F_commons_record_int 3017) LB_commons_record_int_R1 := ⟨rfl, by decide, by kernel_rfl, fun call R a h r hh => by
  change X_commons_record_int_R1 H call (lr TABS R) a h = some r at hh
  unfold X_commons_record_int_R1 at hh
  rw [ine_eq] at hh
  split at hh
  · refine ⟨_, _, _, _, k_commons_record_int, ?_⟩
    refine Eq.trans ?_ hh; kernel_rfl
  · cases hh⟩
theorem x_codec_Codec_api_Proc_Decode : FunOk PR cutsOf TABS F_codec_Codec_api_Proc_Decode X_codec_Codec_api_Proc_Decode := fun call R a h r hh => by
  unfold X_codec_Codec_api_Proc_Decode at hh
  rw [ine_eq] at hh
  split at hh
  · refine ⟨_, _, _, _, k_codec_Codec_api_Proc_Decode, rfl, ?_⟩
    refine Eq.trans ?_ hh; kernel_rfl
  · cases hh
theorem x_mem_Mem_Store : FunOk PR cutsOf TABS F_mem_Mem_Store X_mem_Mem_Store := fun call R a h r hh => by
  unfold X_mem_Mem_Store at hh
  rw [ckL_eq] at hh
  split at hh
  · refine ⟨_, _, _, _, k_mem_Mem_Store, rfl, ?_⟩
    refine Eq.trans ?_ hh; kernel_rfl
  · cases hh
theorem x_caps_Space_Get : FunOk PR cutsOf TABS F_caps_Space_Get X_caps_Space_Get := fun call R a h r hh => by
  unfold X_caps_Space_Get at hh
  rw [ckR_eq] at hh
  split at hh
  · refine ⟨_, _, _, _, k_caps_Space_Get, rfl, ?_⟩
    refine Eq.trans ?_ hh; kernel_rfl
  · cases hh
theorem x_sect_Sect_Enter : FunOk PR cutsOf TABS F_sect_Sect_Enter X_sect_Sect_Enter := fun call R a h r hh => by
  unfold X_sect_Sect_Enter at hh
  rw [ieq_eq, ilt_eq] at hh
  split at hh
  · refine ⟨_, _, _, _, k_sect_Sect_Enter, rfl, ?_⟩
    refine Eq.trans ?_ hh; kernel_rfl
  · cases hh
theorem x_sect_Sect_Enter_R1 : LabOk PR cutsOf TABS (labKey F_sect_Sect_Enter 2021) LB_sect_Sect_Enter_R1 := ⟨rfl, by decide, by kernel_rfl, fun call R a h r hh => by
  change X_sect_Sect_Enter_R1 H call (lr TABS R) a h = some r at hh
  unfold X_sect_Sect_Enter_R1 at hh
  split at hh
  · refine ⟨_, _, _, _, k_sect_Sect_Enter, ?_⟩
    refine Eq.trans ?_ hh; kernel_rfl
  · cases hh⟩
theorem x_sect_Sect_Enter_R2 : LabOk PR cutsOf TABS (labKey F_sect_Sect_Enter 3023) LB_sect_Sect_Enter_R2 := ⟨rfl, by decide, by kernel_rfl, fun call R a h r hh => by
  change X_sect_Sect_Enter_R2 H call (lr TABS R) a h = some r at hh
  unfold X_sect_Sect_Enter_R2 at hh
  rw [wrapF_eq, ile_eq] at hh
  split at hh
  · refine ⟨_, _, _, _, k_sect_Sect_Enter, ?_⟩
    refine Eq.trans ?_ hh; kernel_rfl
  · cases hh⟩
theorem x_sect_Sect_Enter_R3 : LabOk PR cutsOf TABS (labKey F_sect_Sect_Enter 3029) LB_sect_Sect_Enter_R3 := ⟨rfl, by decide, by kernel_rfl, fun call R a h r hh => by
  change X_sect_Sect_Enter_R3 H call (lr TABS R) a h = some r at hh
  unfold X_sect_Sect_Enter_R3 at hh
  rw [ieq_eq, ckR_eq] at hh
  split at hh
  · refine ⟨_, _, _, _, k_sect_Sect_Enter, ?_⟩
    refine Eq.trans ?_ hh; kernel_rfl
  · cases hh⟩
theorem x_sect_Sect_Enter_R4 : LabOk PR cutsOf TABS (labKey F_sect_Sect_Enter 3035) LB_sect_Sect_Enter_R4 := ⟨rfl, by decide, by kernel_rfl, fun call R a h r hh => by
  change X_sect_Sect_Enter_R4 H call (lr TABS R) a h = some r at hh
  unfold X_sect_Sect_Enter_R4 at hh
  split at hh
  · refine ⟨_, _, _, _, k_sect_Sect_Enter, ?_⟩
    refine Eq.trans ?_ hh; kernel_rfl
  · cases hh⟩
theorem x_sect_Sect_Enter_L1 : LabOk PR cutsOf TABS (labKey F_sect_Sect_Enter 3036) LB_sect_Sect_Enter_L1 := ⟨rfl, by decide, by kernel_rfl, fun call R a h r hh => by
  change X_sect_Sect_Enter_L1 H call (lr TABS R) a h = some r at hh
  unfold X_sect_Sect_Enter_L1 at hh
  rw [wrapF_eq, ine_eq, ile_eq, ckR_eq, ckL_eq] at hh
  split at hh
  · refine ⟨_, _, _, _, k_sect_Sect_Enter, ?_⟩
    refine Eq.trans ?_ hh; kernel_rfl
  · cases hh⟩
theorem x_table_Table_api_Cap_name : FunOk PR cutsOf TABS F_table_Table_api_Cap_name X_table_Table_api_Cap_name := fun call R a h r hh => by
  unfold X_table_Table_api_Cap_name at hh
  rw [wrapF_eq, ckR_eq] at hh
  split at hh
  · refine ⟨_, _, _, _, k_table_Table_api_Cap_name, rfl, ?_⟩
    refine Eq.trans ?_ hh; kernel_rfl
  · cases hh
theorem x_ofile_get : FunOk PR cutsOf TABS F_ofile_get X_ofile_get := fun call R a h r hh => by
  unfold X_ofile_get at hh
  rw [wrapF_eq, ckR_eq] at hh
  split at hh
  · refine ⟨_, _, _, _, k_ofile_get, rfl, ?_⟩
    refine Eq.trans ?_ hh; kernel_rfl
  · cases hh
theorem x_codec_New_api_Proc : FunOk PR cutsOf TABS F_codec_New_api_Proc X_codec_New_api_Proc := fun call R a h r hh => by
  unfold X_codec_New_api_Proc at hh
  split at hh
  · refine ⟨_, _, _, _, k_codec_New_api_Proc, rfl, ?_⟩
    refine Eq.trans ?_ hh; kernel_rfl
  · cases hh
theorem x_pslot_get : FunOk PR cutsOf TABS F_pslot_get X_pslot_get := fun call R a h r hh => by
  unfold X_pslot_get at hh
  rw [wrapF_eq, ckR_eq] at hh
  split at hh
  · refine ⟨_, _, _, _, k_pslot_get, rfl, ?_⟩
    refine Eq.trans ?_ hh; kernel_rfl
  · cases hh
theorem x_pslot_get_L1 : LabOk PR cutsOf TABS (labKey F_pslot_get 3006) LB_pslot_get_L1 := ⟨rfl, by decide, by kernel_rfl, fun call R a h r hh => by
  change X_pslot_get_L1 H call (lr TABS R) a h = some r at hh
  unfold X_pslot_get_L1 at hh
  rw [wrapF_eq, ilt_eq, ckR_eq] at hh
  split at hh
  · refine ⟨_, _, _, _, k_pslot_get, ?_⟩
    refine Eq.trans ?_ hh; kernel_rfl
  · cases hh⟩
theorem x_pslot_get_L2 : LabOk PR cutsOf TABS (labKey F_pslot_get 3016) LB_pslot_get_L2 := ⟨rfl, by decide, by kernel_rfl, fun call R a h r hh => by
  change X_pslot_get_L2 H call (lr TABS R) a h = some r at hh
  unfold X_pslot_get_L2 at hh
  rw [wrapF_eq, ilt_eq, ckR_eq] at hh
  split at hh
  · refine ⟨_, _, _, _, k_pslot_get, ?_⟩
    refine Eq.trans ?_ hh; kernel_rfl
  · cases hh⟩
theorem x_calls_told : FunOk PR cutsOf TABS F_calls_told X_calls_told := fun call R a h r hh => by
  unfold X_calls_told at hh
  split at hh
  · refine ⟨_, _, _, _, k_calls_told, rfl, ?_⟩
    refine Eq.trans ?_ hh; kernel_rfl
  · cases hh
theorem x_sig_Next : FunOk PR cutsOf TABS F_sig_Next X_sig_Next := fun call R a h r hh => by
  unfold X_sig_Next at hh
  rw [wrapF_eq, bitA_eq, ine_eq, ieq_eq] at hh
  split at hh
  · refine ⟨_, _, _, _, k_sig_Next, rfl, ?_⟩
    refine Eq.trans ?_ hh; kernel_rfl
  · cases hh
theorem x_sig_Next_R1 : LabOk PR cutsOf TABS (labKey F_sig_Next 2015) LB_sig_Next_R1 := ⟨rfl, by decide, by kernel_rfl, fun call R a h r hh => by
  change X_sig_Next_R1 H call (lr TABS R) a h = some r at hh
  unfold X_sig_Next_R1 at hh
  rw [wrapF_eq, bitA_eq, ieq_eq] at hh
  split at hh
  · refine ⟨_, _, _, _, k_sig_Next, ?_⟩
    refine Eq.trans ?_ hh; kernel_rfl
  · cases hh⟩
theorem x_fds_Of : FunOk PR cutsOf TABS F_fds_Of X_fds_Of := fun call R a h r hh => by
  unfold X_fds_Of at hh
  rw [wrapF_eq, ine_eq, ckR_eq] at hh
  split at hh
  · refine ⟨_, _, _, _, k_fds_Of, rfl, ?_⟩
    refine Eq.trans ?_ hh; kernel_rfl
  · cases hh
theorem x_pred_Any : FunOk PR cutsOf TABS F_pred_Any X_pred_Any := fun call R a h r hh => by
  unfold X_pred_Any at hh
  split at hh
  · refine ⟨_, _, _, _, k_pred_Any, rfl, ?_⟩
    refine Eq.trans ?_ hh; kernel_rfl
  · cases hh
theorem x_table_Table_api_Cap_Get : FunOk PR cutsOf TABS F_table_Table_api_Cap_Get X_table_Table_api_Cap_Get := fun call R a h r hh => by
  unfold X_table_Table_api_Cap_Get at hh
  split at hh
  · refine ⟨_, _, _, _, k_table_Table_api_Cap_Get, rfl, ?_⟩
    refine Eq.trans ?_ hh; kernel_rfl
  · cases hh
theorem x_ofile_Ok : FunOk PR cutsOf TABS F_ofile_Ok X_ofile_Ok := fun call R a h r hh => by
  unfold X_ofile_Ok at hh
  rw [ine_eq, ieq_eq, ile_eq] at hh
  split at hh
  · refine ⟨_, _, _, _, k_ofile_Ok, rfl, ?_⟩
    refine Eq.trans ?_ hh; kernel_rfl
  · cases hh
theorem x_pslot_Ok : FunOk PR cutsOf TABS F_pslot_Ok X_pslot_Ok := fun call R a h r hh => by
  unfold X_pslot_Ok at hh
  rw [bitA_eq, ine_eq, ieq_eq, ilt_eq, ile_eq] at hh
  split at hh
  · refine ⟨_, _, _, _, k_pslot_Ok, rfl, ?_⟩
    refine Eq.trans ?_ hh; kernel_rfl
  · cases hh
theorem x_codec_Get2 : FunOk PR cutsOf TABS F_codec_Get2 X_codec_Get2 := fun call R a h r hh => by
  unfold X_codec_Get2 at hh
  rw [wrapF_eq, ilt_eq, ckR_eq] at hh
  split at hh
  · refine ⟨_, _, _, _, k_codec_Get2, rfl, ?_⟩
    refine Eq.trans ?_ hh; kernel_rfl
  · cases hh
theorem x_fds_named : FunOk PR cutsOf TABS F_fds_named X_fds_named := fun call R a h r hh => by
  unfold X_fds_named at hh
  rw [ilt_eq, ile_eq, ckR_eq] at hh
  split at hh
  · refine ⟨_, _, _, _, k_fds_named, rfl, ?_⟩
    refine Eq.trans ?_ hh; kernel_rfl
  · cases hh
theorem x_pslot_bits : FunOk PR cutsOf TABS F_pslot_bits X_pslot_bits := fun call R a h r hh => by
  unfold X_pslot_bits at hh
  rw [bitA_eq, ieq_eq] at hh
  split at hh
  · refine ⟨_, _, _, _, k_pslot_bits, rfl, ?_⟩
    refine Eq.trans ?_ hh; kernel_rfl
  · cases hh
theorem x_pipes_of : FunOk PR cutsOf TABS F_pipes_of X_pipes_of := fun call R a h r hh => by
  unfold X_pipes_of at hh
  rw [ieq_eq] at hh
  split at hh
  · refine ⟨_, _, _, _, k_pipes_of, rfl, ?_⟩
    refine Eq.trans ?_ hh; kernel_rfl
  · cases hh
end Go.EQ

set_option maxRecDepth 100000
set_option linter.unusedVariables false
namespace Go.EQ
open Go Go.Proofs
open Go.NN hiding bnd ld gInt gBool gStr gPtr gSl gMap gFv gAgg gCells nw pV pAgg pCells apd fitsOpen liveA mapAt
open Go.NP Go.NW
theorem x_law25_awake : FunOk PR cutsOf TABS F_law25_awake X_law25_awake := fun call R a h r hh => by
  unfold X_law25_awake at hh
  rw [ieq_eq] at hh
  split at hh
  · refine ⟨_, _, _, _, k_law25_awake, rfl, ?_⟩
    refine Eq.trans ?_ hh; kernel_rfl
  · cases hh
theorem x_trace_Fifo : FunOk PR cutsOf TABS F_trace_Fifo X_trace_Fifo := fun call R a h r hh => by
  unfold X_trace_Fifo at hh
  split at hh
  · refine ⟨_, _, _, _, k_trace_Fifo, rfl, ?_⟩
    refine Eq.trans ?_ hh; kernel_rfl
  · cases hh
theorem x_trace_Flow : FunOk PR cutsOf TABS F_trace_Flow X_trace_Flow := fun call R a h r hh => by
  unfold X_trace_Flow at hh
  rw [ine_eq, ilt_eq, ile_eq] at hh
  split at hh
  · refine ⟨_, _, _, _, k_trace_Flow, rfl, ?_⟩
    refine Eq.trans ?_ hh; kernel_rfl
  · cases hh
theorem x_trace_Flow_L1 : LabOk PR cutsOf TABS (labKey F_trace_Flow 3016) LB_trace_Flow_L1 := ⟨rfl, by decide, by kernel_rfl, fun call R a h r hh => by
  change X_trace_Flow_L1 H call (lr TABS R) a h = some r at hh
  unfold X_trace_Flow_L1 at hh
  rw [wrapF_eq, ine_eq, ilt_eq, ckR_eq, ckL_eq] at hh
  split at hh
  · refine ⟨_, _, _, _, k_trace_Flow, ?_⟩
    refine Eq.trans ?_ hh; kernel_rfl
  · cases hh⟩
theorem x_world_New : FunOk PR cutsOf TABS F_world_New X_world_New := fun call R a h r hh => by
  unfold X_world_New at hh
  rw [ine_eq] at hh
  split at hh
  · refine ⟨_, _, _, _, k_world_New, rfl, ?_⟩
    refine Eq.trans ?_ hh; kernel_rfl
  · cases hh
theorem x_world_New_L1 : LabOk PR cutsOf TABS (labKey F_world_New 3018) LB_world_New_L1 := ⟨rfl, by decide, by kernel_rfl, fun call R a h r hh => by
  change X_world_New_L1 H call (lr TABS R) a h = some r at hh
  unfold X_world_New_L1 at hh
  rw [ilt_eq] at hh
  split at hh
  · refine ⟨_, _, _, _, k_world_New, ?_⟩
    refine Eq.trans ?_ hh; kernel_rfl
  · cases hh⟩
theorem x_world_New_L2 : LabOk PR cutsOf TABS (labKey F_world_New 8028) LB_world_New_L2 := ⟨rfl, by decide, by kernel_rfl, fun call R a h r hh => by
  change X_world_New_L2 H call (lr TABS R) a h = some r at hh
  unfold X_world_New_L2 at hh
  rw [wrapF_eq, ilt_eq] at hh
  split at hh
  · refine ⟨_, _, _, _, k_world_New, ?_⟩
    refine Eq.trans ?_ hh; kernel_rfl
  · cases hh⟩
theorem x_world_World_Do : FunOk PR cutsOf TABS F_world_World_Do X_world_World_Do := fun call R a h r hh => by
  unfold X_world_World_Do at hh
  rw [wrapF_eq, ieq_eq, ilt_eq, ile_eq, ckR_eq] at hh
  split at hh
  · refine ⟨_, _, _, _, k_world_World_Do, rfl, ?_⟩
    refine Eq.trans ?_ hh; kernel_rfl
  · cases hh
theorem x_bytes_Equal : FunOk PR cutsOf TABS F_bytes_Equal X_bytes_Equal := fun call R a h r hh => by
  unfold X_bytes_Equal at hh
  split at hh
  · refine ⟨_, _, _, _, k_bytes_Equal, rfl, ?_⟩
    refine Eq.trans ?_ hh; kernel_rfl
  · cases hh
theorem x_world_Check : FunOk PR cutsOf TABS F_world_Check X_world_Check := fun call R a h r hh => by
  unfold X_world_Check at hh
  rw [ilt_eq] at hh
  split at hh
  · refine ⟨_, _, _, _, k_world_Check, rfl, ?_⟩
    refine Eq.trans ?_ hh; kernel_rfl
  · cases hh
theorem x_world_Check_L1 : LabOk PR cutsOf TABS (labKey F_world_Check 3010) LB_world_Check_L1 := ⟨rfl, by decide, by kernel_rfl, fun call R a h r hh => by
  change X_world_Check_L1 H call (lr TABS R) a h = some r at hh
  unfold X_world_Check_L1 at hh
  rw [wrapF_eq, ieq_eq, ilt_eq, ile_eq, ckR_eq] at hh
  split at hh
  · refine ⟨_, _, _, _, k_world_Check, ?_⟩
    refine Eq.trans ?_ hh; kernel_rfl
  · cases hh⟩
theorem x_kern_New : FunOk PR cutsOf TABS F_kern_New X_kern_New := fun call R a h r hh => by
  unfold X_kern_New at hh
  split at hh
  · refine ⟨_, _, _, _, k_kern_New, rfl, ?_⟩
    refine Eq.trans ?_ hh; kernel_rfl
  · cases hh
theorem x_kern_New_L1 : LabOk PR cutsOf TABS (labKey F_kern_New 3010) LB_kern_New_L1 := ⟨rfl, by decide, by kernel_rfl, fun call R a h r hh => by
  change X_kern_New_L1 H call (lr TABS R) a h = some r at hh
  unfold X_kern_New_L1 at hh
  rw [wrapF_eq, ilt_eq, ckR_eq] at hh
  split at hh
  · refine ⟨_, _, _, _, k_kern_New, ?_⟩
    refine Eq.trans ?_ hh; kernel_rfl
  · cases hh⟩
theorem x_kern_New_L2 : LabOk PR cutsOf TABS (labKey F_kern_New 3024) LB_kern_New_L2 := ⟨rfl, by decide, by kernel_rfl, fun call R a h r hh => by
  change X_kern_New_L2 H call (lr TABS R) a h = some r at hh
  unfold X_kern_New_L2 at hh
  rw [wrapF_eq, ilt_eq, ckR_eq] at hh
  split at hh
  · refine ⟨_, _, _, _, k_kern_New, ?_⟩
    refine Eq.trans ?_ hh; kernel_rfl
  · cases hh⟩
theorem x_kern_New_L3 : LabOk PR cutsOf TABS (labKey F_kern_New 3036) LB_kern_New_L3 := ⟨rfl, by decide, by kernel_rfl, fun call R a h r hh => by
  change X_kern_New_L3 H call (lr TABS R) a h = some r at hh
  unfold X_kern_New_L3 at hh
  rw [wrapF_eq, ilt_eq, ckR_eq] at hh
  split at hh
  · refine ⟨_, _, _, _, k_kern_New, ?_⟩
    refine Eq.trans ?_ hh; kernel_rfl
  · cases hh⟩
theorem x_kern_New_L4 : LabOk PR cutsOf TABS (labKey F_kern_New 7044) LB_kern_New_L4 := ⟨rfl, by decide, by kernel_rfl, fun call R a h r hh => by
  change X_kern_New_L4 H call (lr TABS R) a h = some r at hh
  unfold X_kern_New_L4 at hh
  rw [wrapF_eq, ilt_eq, ckR_eq] at hh
  split at hh
  · refine ⟨_, _, _, _, k_kern_New, ?_⟩
    refine Eq.trans ?_ hh; kernel_rfl
  · cases hh⟩
theorem x_world_World_begin : FunOk PR cutsOf TABS F_world_World_begin X_world_World_begin := fun call R a h r hh => by
  unfold X_world_World_begin at hh
  rw [wrapF_eq, ckR_eq] at hh
  split at hh
  · refine ⟨_, _, _, _, k_world_World_begin, rfl, ?_⟩
    refine Eq.trans ?_ hh; kernel_rfl
  · cases hh
theorem x_world_World_begin_L1 : LabOk PR cutsOf TABS (labKey F_world_World_begin 3016) LB_world_World_begin_L1 := ⟨rfl, by decide, by kernel_rfl, fun call R a h r hh => by
  change X_world_World_begin_L1 H call (lr TABS R) a h = some r at hh
  unfold X_world_World_begin_L1 at hh
  rw [wrapF_eq, ieq_eq, ilt_eq, ckR_eq] at hh
  split at hh
  · refine ⟨_, _, _, _, k_world_World_begin, ?_⟩
    refine Eq.trans ?_ hh; kernel_rfl
  · cases hh⟩
theorem x_world_World_begin_R1 : LabOk PR cutsOf TABS (labKey F_world_World_begin 7031) LB_world_World_begin_R1 := ⟨rfl, by decide, by kernel_rfl, fun call R a h r hh => by
  change X_world_World_begin_R1 H call (lr TABS R) a h = some r at hh
  unfold X_world_World_begin_R1 at hh
  rw [wrapF_eq, ckR_eq] at hh
  split at hh
  · refine ⟨_, _, _, _, k_world_World_begin, ?_⟩
    refine Eq.trans ?_ hh; kernel_rfl
  · cases hh⟩
theorem x_world_World_Bridge : FunOk PR cutsOf TABS F_world_World_Bridge X_world_World_Bridge := fun call R a h r hh => by
  unfold X_world_World_Bridge at hh
  rw [wrapF_eq, ilt_eq, ile_eq] at hh
  split at hh
  · refine ⟨_, _, _, _, k_world_World_Bridge, rfl, ?_⟩
    refine Eq.trans ?_ hh; kernel_rfl
  · cases hh
theorem x_world_World_Host : FunOk PR cutsOf TABS F_world_World_Host X_world_World_Host := fun call R a h r hh => by
  unfold X_world_World_Host at hh
  rw [ilt_eq, ile_eq, ckR_eq] at hh
  split at hh
  · refine ⟨_, _, _, _, k_world_World_Host, rfl, ?_⟩
    refine Eq.trans ?_ hh; kernel_rfl
  · cases hh
theorem x_world_World_pick : FunOk PR cutsOf TABS F_world_World_pick X_world_World_pick := fun call R a h r hh => by
  unfold X_world_World_pick at hh
  rw [ieq_eq] at hh
  split at hh
  · refine ⟨_, _, _, _, k_world_World_pick, rfl, ?_⟩
    refine Eq.trans ?_ hh; kernel_rfl
  · cases hh
theorem x_host_Host_Start : FunOk PR cutsOf TABS F_host_Host_Start X_host_Host_Start := fun call R a h r hh => by
  unfold X_host_Host_Start at hh
  rw [ine_eq, ieq_eq] at hh
  split at hh
  · refine ⟨_, _, _, _, k_host_Host_Start, rfl, ?_⟩
    refine Eq.trans ?_ hh; kernel_rfl
  · cases hh
theorem x_pipes_Type : FunOk PR cutsOf TABS F_pipes_Type X_pipes_Type := fun call R a h r hh => by
  unfold X_pipes_Type at hh
  rw [ine_eq] at hh
  split at hh
  · refine ⟨_, _, _, _, k_pipes_Type, rfl, ?_⟩
    refine Eq.trans ?_ hh; kernel_rfl
  · cases hh
theorem x_host_Host_Commons : FunOk PR cutsOf TABS F_host_Host_Commons X_host_Host_Commons := fun call R a h r hh => by
  unfold X_host_Host_Commons at hh
  split at hh
  · refine ⟨_, _, _, _, k_host_Host_Commons, rfl, ?_⟩
    refine Eq.trans ?_ hh; kernel_rfl
  · cases hh
theorem x_kern_Kern_Do : FunOk PR cutsOf TABS F_kern_Kern_Do X_kern_Kern_Do := fun call R a h r hh => by
  unfold X_kern_Kern_Do at hh
  rw [ilt_eq, ile_eq] at hh
  split at hh
  · refine ⟨_, _, _, _, k_kern_Kern_Do, rfl, ?_⟩
    refine Eq.trans ?_ hh; kernel_rfl
  · cases hh
theorem x_mem_New : FunOk PR cutsOf TABS F_mem_New X_mem_New := fun call R a h r hh => by
  unfold X_mem_New at hh
  rw [wrapF_eq] at hh
  split at hh
  · refine ⟨_, _, _, _, k_mem_New, rfl, ?_⟩
    refine Eq.trans ?_ hh; kernel_rfl
  · cases hh
theorem x_quota_Quota_First : FunOk PR cutsOf TABS F_quota_Quota_First X_quota_Quota_First := fun call R a h r hh => by
  unfold X_quota_Quota_First at hh
  rw [ckL_eq] at hh
  split at hh
  · refine ⟨_, _, _, _, k_quota_Quota_First, rfl, ?_⟩
    refine Eq.trans ?_ hh; kernel_rfl
  · cases hh
theorem x_quota_Quota_First_L1 : LabOk PR cutsOf TABS (labKey F_quota_Quota_First 3006) LB_quota_Quota_First_L1 := ⟨rfl, by decide, by kernel_rfl, fun call R a h r hh => by
  change X_quota_Quota_First_L1 H call (lr TABS R) a h = some r at hh
  unfold X_quota_Quota_First_L1 at hh
  rw [wrapF_eq, ilt_eq, ckR_eq] at hh
  split at hh
  · refine ⟨_, _, _, _, k_quota_Quota_First, ?_⟩
    refine Eq.trans ?_ hh; kernel_rfl
  · cases hh⟩
theorem x_slices_Contains_s_int_int : FunOk PR cutsOf TABS F_slices_Contains_s_int_int X_slices_Contains_s_int_int := fun call R a h r hh => by
  unfold X_slices_Contains_s_int_int at hh
  rw [ile_eq] at hh
  split at hh
  · refine ⟨_, _, _, _, k_slices_Contains_s_int_int, rfl, ?_⟩
    refine Eq.trans ?_ hh; kernel_rfl
  · cases hh
theorem x_caps_Space_Put : FunOk PR cutsOf TABS F_caps_Space_Put X_caps_Space_Put := fun call R a h r hh => by
  unfold X_caps_Space_Put at hh
  rw [ine_eq] at hh
  split at hh
  · refine ⟨_, _, _, _, k_caps_Space_Put, rfl, ?_⟩
    refine Eq.trans ?_ hh; kernel_rfl
  · cases hh
theorem x_commons_New : FunOk PR cutsOf TABS F_commons_New X_commons_New := fun call R a h r hh => by
  unfold X_commons_New at hh
  rw [ieq_eq] at hh
  split at hh
  · refine ⟨_, _, _, _, k_commons_New, rfl, ?_⟩
    refine Eq.trans ?_ hh; kernel_rfl
  · cases hh
theorem x_commons_Commons_SetTerm : FunOk PR cutsOf TABS F_commons_Commons_SetTerm X_commons_Commons_SetTerm := fun call R a h r hh => by
  unfold X_commons_Commons_SetTerm at hh
  split at hh
  · refine ⟨_, _, _, _, k_commons_Commons_SetTerm, rfl, ?_⟩
    refine Eq.trans ?_ hh; kernel_rfl
  · cases hh
theorem x_commons_Commons_SetPipe : FunOk PR cutsOf TABS F_commons_Commons_SetPipe X_commons_Commons_SetPipe := fun call R a h r hh => by
  unfold X_commons_Commons_SetPipe at hh
  split at hh
  · refine ⟨_, _, _, _, k_commons_Commons_SetPipe, rfl, ?_⟩
    refine Eq.trans ?_ hh; kernel_rfl
  · cases hh
theorem x_codec_Blank : FunOk PR cutsOf TABS F_codec_Blank X_codec_Blank := fun call R a h r hh => by
  unfold X_codec_Blank at hh
  split at hh
  · refine ⟨_, _, _, _, k_codec_Blank, rfl, ?_⟩
    refine Eq.trans ?_ hh; kernel_rfl
  · cases hh
theorem x_ring_Codec : FunOk PR cutsOf TABS F_ring_Codec X_ring_Codec := fun call R a h r hh => by
  unfold X_ring_Codec at hh
  split at hh
  · refine ⟨_, _, _, _, k_ring_Codec, rfl, ?_⟩
    refine Eq.trans ?_ hh; kernel_rfl
  · cases hh
theorem x_codec_Codec_api_Pipe_Decode : FunOk PR cutsOf TABS F_codec_Codec_api_Pipe_Decode X_codec_Codec_api_Pipe_Decode := fun call R a h r hh => by
  unfold X_codec_Codec_api_Pipe_Decode at hh
  rw [ine_eq] at hh
  split at hh
  · refine ⟨_, _, _, _, k_codec_Codec_api_Pipe_Decode, rfl, ?_⟩
    refine Eq.trans ?_ hh; kernel_rfl
  · cases hh
theorem x_ring_Ok : FunOk PR cutsOf TABS F_ring_Ok X_ring_Ok := fun call R a h r hh => by
  unfold X_ring_Ok at hh
  split at hh
  · refine ⟨_, _, _, _, k_ring_Ok, rfl, ?_⟩
    refine Eq.trans ?_ hh; kernel_rfl
  · cases hh
theorem x_commons_Commons_Look : FunOk PR cutsOf TABS F_commons_Commons_Look X_commons_Commons_Look := fun call R a h r hh => by
  unfold X_commons_Commons_Look at hh
  split at hh
  · refine ⟨_, _, _, _, k_commons_Commons_Look, rfl, ?_⟩
    refine Eq.trans ?_ hh; kernel_rfl
  · cases hh
theorem x_commons_Commons_Look_L1 : LabOk PR cutsOf TABS (labKey F_commons_Commons_Look 3002) LB_commons_Commons_Look_L1 := ⟨rfl, by decide, by kernel_rfl, fun call R a h r hh => by
  change X_commons_Commons_Look_L1 H call (lr TABS R) a h = some r at hh
  unfold X_commons_Commons_Look_L1 at hh
  rw [wrapF_eq, ilt_eq] at hh
  split at hh
  · refine ⟨_, _, _, _, k_commons_Commons_Look, ?_⟩
    refine Eq.trans ?_ hh; kernel_rfl
  · cases hh⟩
theorem x_commons_Commons_Look_L2 : LabOk PR cutsOf TABS (labKey F_commons_Commons_Look 3012) LB_commons_Commons_Look_L2 := ⟨rfl, by decide, by kernel_rfl, fun call R a h r hh => by
  change X_commons_Commons_Look_L2 H call (lr TABS R) a h = some r at hh
  unfold X_commons_Commons_Look_L2 at hh
  rw [wrapF_eq, ilt_eq] at hh
  split at hh
  · refine ⟨_, _, _, _, k_commons_Commons_Look, ?_⟩
    refine Eq.trans ?_ hh; kernel_rfl
  · cases hh⟩
theorem x_commons_Commons_Look_L3 : LabOk PR cutsOf TABS (labKey F_commons_Commons_Look 3022) LB_commons_Commons_Look_L3 := ⟨rfl, by decide, by kernel_rfl, fun call R a h r hh => by
  change X_commons_Commons_Look_L3 H call (lr TABS R) a h = some r at hh
  unfold X_commons_Commons_Look_L3 at hh
  rw [wrapF_eq, ilt_eq] at hh
  split at hh
  · refine ⟨_, _, _, _, k_commons_Commons_Look, ?_⟩
    refine Eq.trans ?_ hh; kernel_rfl
  · cases hh⟩
theorem x_commons_Commons_Proc : FunOk PR cutsOf TABS F_commons_Commons_Proc X_commons_Commons_Proc := fun call R a h r hh => by
  unfold X_commons_Commons_Proc at hh
  split at hh
  · refine ⟨_, _, _, _, k_commons_Commons_Proc, rfl, ?_⟩
    refine Eq.trans ?_ hh; kernel_rfl
  · cases hh
theorem x_slices_Clone_s_byte_byte : FunOk PR cutsOf TABS F_slices_Clone_s_byte_byte X_slices_Clone_s_byte_byte := fun call R a h r hh => by
  unfold X_slices_Clone_s_byte_byte at hh
  split at hh
  · refine ⟨_, _, _, _, k_slices_Clone_s_byte_byte, rfl, ?_⟩
    refine Eq.trans ?_ hh; kernel_rfl
  · cases hh
theorem x_ring_Put : FunOk PR cutsOf TABS F_ring_Put X_ring_Put := fun call R a h r hh => by
  unfold X_ring_Put at hh
  split at hh
  · refine ⟨_, _, _, _, k_ring_Put, rfl, ?_⟩
    refine Eq.trans ?_ hh; kernel_rfl
  · cases hh
theorem x_ring_Put_L1 : LabOk PR cutsOf TABS (labKey F_ring_Put 3010) LB_ring_Put_L1 := ⟨rfl, by decide, by kernel_rfl, fun call R a h r hh => by
  change X_ring_Put_L1 H call (lr TABS R) a h = some r at hh
  unfold X_ring_Put_L1 at hh
  rw [wrapF_eq, ieq_eq, ilt_eq, ckR_eq] at hh
  split at hh
  · refine ⟨_, _, _, _, k_ring_Put, ?_⟩
    refine Eq.trans ?_ hh; kernel_rfl
  · cases hh⟩
theorem x_kern_share : FunOk PR cutsOf TABS F_kern_share X_kern_share := fun call R a h r hh => by
  unfold X_kern_share at hh
  rw [wrapF_eq, ilt_eq, ile_eq, ckR_eq] at hh
  split at hh
  · refine ⟨_, _, _, _, k_kern_share, rfl, ?_⟩
    refine Eq.trans ?_ hh; kernel_rfl
  · cases hh
theorem x_table_New_api_Cap : FunOk PR cutsOf TABS F_table_New_api_Cap X_table_New_api_Cap := fun call R a h r hh => by
  unfold X_table_New_api_Cap at hh
  split at hh
  · refine ⟨_, _, _, _, k_table_New_api_Cap, rfl, ?_⟩
    refine Eq.trans ?_ hh; kernel_rfl
  · cases hh
theorem x_table_New_api_Cap_L1 : LabOk PR cutsOf TABS (labKey F_table_New_api_Cap 3006) LB_table_New_api_Cap_L1 := ⟨rfl, by decide, by kernel_rfl, fun call R a h r hh => by
  change X_table_New_api_Cap_L1 H call (lr TABS R) a h = some r at hh
  unfold X_table_New_api_Cap_L1 at hh
  rw [wrapF_eq, ilt_eq, ckR_eq] at hh
  split at hh
  · refine ⟨_, _, _, _, k_table_New_api_Cap, ?_⟩
    refine Eq.trans ?_ hh; kernel_rfl
  · cases hh⟩
theorem x_slices_Index_s_int_int : FunOk PR cutsOf TABS F_slices_Index_s_int_int X_slices_Index_s_int_int := fun call R a h r hh => by
  unfold X_slices_Index_s_int_int at hh
  split at hh
  · refine ⟨_, _, _, _, k_slices_Index_s_int_int, rfl, ?_⟩
    refine Eq.trans ?_ hh; kernel_rfl
  · cases hh
theorem x_slices_Index_s_int_int_L1 : LabOk PR cutsOf TABS (labKey F_slices_Index_s_int_int 3004) LB_slices_Index_s_int_int_L1 := ⟨rfl, by decide, by kernel_rfl, fun call R a h r hh => by
  change X_slices_Index_s_int_int_L1 H call (lr TABS R) a h = some r at hh
  unfold X_slices_Index_s_int_int_L1 at hh
  rw [wrapF_eq, ieq_eq, ilt_eq, ckR_eq] at hh
  split at hh
  · refine ⟨_, _, _, _, k_slices_Index_s_int_int, ?_⟩
    refine Eq.trans ?_ hh; kernel_rfl
  · cases hh⟩
theorem x_caps_Space_Put_1 : FunOk PR cutsOf TABS F_caps_Space_Put_1 X_caps_Space_Put_1 := fun call R a h r hh => by
  unfold X_caps_Space_Put_1 at hh
  rw [ile_eq] at hh
  split at hh
  · refine ⟨_, _, _, _, k_caps_Space_Put_1, rfl, ?_⟩
    refine Eq.trans ?_ hh; kernel_rfl
  · cases hh
theorem x_kern_Kern_Space : FunOk PR cutsOf TABS F_kern_Kern_Space X_kern_Kern_Space := fun call R a h r hh => by
  unfold X_kern_Kern_Space at hh
  split at hh
  · refine ⟨_, _, _, _, k_kern_Kern_Space, rfl, ?_⟩
    refine Eq.trans ?_ hh; kernel_rfl
  · cases hh
theorem x_commons_FrontBytes : FunOk PR cutsOf TABS F_commons_FrontBytes X_commons_FrontBytes := fun call R a h r hh => by
  unfold X_commons_FrontBytes at hh
  rw [wrapF_eq, ilt_eq, ile_eq] at hh
  split at hh
  · refine ⟨_, _, _, _, k_commons_FrontBytes, rfl, ?_⟩
    refine Eq.trans ?_ hh; kernel_rfl
  · cases hh
theorem x_commons_file : FunOk PR cutsOf TABS F_commons_file X_commons_file := fun call R a h r hh => by
  unfold X_commons_file at hh
  split at hh
  · refine ⟨_, _, _, _, k_commons_file, rfl, ?_⟩
    refine Eq.trans ?_ hh; kernel_rfl
  · cases hh
theorem x_pslot_Encode : FunOk PR cutsOf TABS F_pslot_Encode X_pslot_Encode := fun call R a h r hh => by
  unfold X_pslot_Encode at hh
  split at hh
  · refine ⟨_, _, _, _, k_pslot_Encode, rfl, ?_⟩
    refine Eq.trans ?_ hh; kernel_rfl
  · cases hh
theorem x_mem_Mem_Load : FunOk PR cutsOf TABS F_mem_Mem_Load X_mem_Mem_Load := fun call R a h r hh => by
  unfold X_mem_Mem_Load at hh
  rw [wrapF_eq, ckL_eq] at hh
  split at hh
  · refine ⟨_, _, _, _, k_mem_Mem_Load, rfl, ?_⟩
    refine Eq.trans ?_ hh; kernel_rfl
  · cases hh
theorem x_codec_Blank_1 : FunOk PR cutsOf TABS F_codec_Blank_1 X_codec_Blank_1 := fun call R a h r hh => by
  unfold X_codec_Blank_1 at hh
  rw [ine_eq] at hh
  split at hh
  · refine ⟨_, _, _, _, k_codec_Blank_1, rfl, ?_⟩
    refine Eq.trans ?_ hh; kernel_rfl
  · cases hh
theorem x_ring_put : FunOk PR cutsOf TABS F_ring_put X_ring_put := fun call R a h r hh => by
  unfold X_ring_put at hh
  rw [wrapF_eq, ckR_eq, ckL_eq] at hh
  split at hh
  · refine ⟨_, _, _, _, k_ring_put, rfl, ?_⟩
    refine Eq.trans ?_ hh; kernel_rfl
  · cases hh
theorem x_ring_get : FunOk PR cutsOf TABS F_ring_get X_ring_get := fun call R a h r hh => by
  unfold X_ring_get at hh
  rw [wrapF_eq, ckR_eq, ckL_eq] at hh
  split at hh
  · refine ⟨_, _, _, _, k_ring_get, rfl, ?_⟩
    refine Eq.trans ?_ hh; kernel_rfl
  · cases hh
theorem x_ring_Ok_1 : FunOk PR cutsOf TABS F_ring_Ok_1 X_ring_Ok_1 := fun call R a h r hh => by
  unfold X_ring_Ok_1 at hh
  rw [ile_eq] at hh
  split at hh
  · refine ⟨_, _, _, _, k_ring_Ok_1, rfl, ?_⟩
    refine Eq.trans ?_ hh; kernel_rfl
  · cases hh
theorem x_host_Host_want : FunOk PR cutsOf TABS F_host_Host_want X_host_Host_want := fun call R a h r hh => by
  unfold X_host_Host_want at hh
  rw [ilt_eq] at hh
  split at hh
  · refine ⟨_, _, _, _, k_host_Host_want, rfl, ?_⟩
    refine Eq.trans ?_ hh; kernel_rfl
  · cases hh
theorem x_commons_Commons_File : FunOk PR cutsOf TABS F_commons_Commons_File X_commons_Commons_File := fun call R a h r hh => by
  unfold X_commons_Commons_File at hh
  split at hh
  · refine ⟨_, _, _, _, k_commons_Commons_File, rfl, ?_⟩
    refine Eq.trans ?_ hh; kernel_rfl
  · cases hh
theorem x_commons_Commons_most : FunOk PR cutsOf TABS F_commons_Commons_most X_commons_Commons_most := fun call R a h r hh => by
  unfold X_commons_Commons_most at hh
  rw [wrapF_eq, ieq_eq] at hh
  split at hh
  · refine ⟨_, _, _, _, k_commons_Commons_most, rfl, ?_⟩
    refine Eq.trans ?_ hh; kernel_rfl
  · cases hh
theorem x_commons_record_api_Proc : FunOk PR cutsOf TABS F_commons_record_api_Proc X_commons_record_api_Proc := fun call R a h r hh => by
  unfold X_commons_record_api_Proc at hh
  rw [wrapF_eq, ieq_eq] at hh
  split at hh
  · refine ⟨_, _, _, _, k_commons_record_api_Proc, rfl, ?_⟩
    refine Eq.trans ?_ hh; kernel_rfl
  · cases hh
theorem x_commons_record_api_Proc_R1 : LabOk PR cutsOf TABS (labKey F_commons_record_api_Proc 3017) LB_commons_record_api_Proc_R1 := ⟨rfl, by decide, by kernel_rfl, fun call R a h r hh => by
  change X_commons_record_api_Proc_R1 H call (lr TABS R) a h = some r at hh
  unfold X_commons_record_api_Proc_R1 at hh
  rw [ine_eq] at hh
  split at hh
  · refine ⟨_, _, _, _, k_commons_record_api_Proc, ?_⟩
    refine Eq.trans ?_ hh; kernel_rfl
  · cases hh⟩
theorem x_pslot_Decode : FunOk PR cutsOf TABS F_pslot_Decode X_pslot_Decode := fun call R a h r hh => by
  unfold X_pslot_Decode at hh
  rw [ieq_eq] at hh
  split at hh
  · refine ⟨_, _, _, _, k_pslot_Decode, rfl, ?_⟩
    refine Eq.trans ?_ hh; kernel_rfl
  · cases hh
theorem x_region_Regions_Read : FunOk PR cutsOf TABS F_region_Regions_Read X_region_Regions_Read := fun call R a h r hh => by
  unfold X_region_Regions_Read at hh
  rw [ine_eq] at hh
  split at hh
  · refine ⟨_, _, _, _, k_region_Regions_Read, rfl, ?_⟩
    refine Eq.trans ?_ hh; kernel_rfl
  · cases hh
theorem x_kern_Kern_enter : FunOk PR cutsOf TABS F_kern_Kern_enter X_kern_Kern_enter := fun call R a h r hh => by
  unfold X_kern_Kern_enter at hh
  rw [ine_eq] at hh
  split at hh
  · refine ⟨_, _, _, _, k_kern_Kern_enter, rfl, ?_⟩
    refine Eq.trans ?_ hh; kernel_rfl
  · cases hh
theorem x_slices_IndexFunc_s_int_int : FunOk PR cutsOf TABS F_slices_IndexFunc_s_int_int X_slices_IndexFunc_s_int_int := fun call R a h r hh => by
  unfold X_slices_IndexFunc_s_int_int at hh
  split at hh
  · refine ⟨_, _, _, _, k_slices_IndexFunc_s_int_int, rfl, ?_⟩
    refine Eq.trans ?_ hh; kernel_rfl
  · cases hh
theorem x_slices_IndexFunc_s_int_int_L1 : LabOk PR cutsOf TABS (labKey F_slices_IndexFunc_s_int_int 3004) LB_slices_IndexFunc_s_int_int_L1 := ⟨rfl, by decide, by kernel_rfl, fun call R a h r hh => by
  change X_slices_IndexFunc_s_int_int_L1 H call (lr TABS R) a h = some r at hh
  unfold X_slices_IndexFunc_s_int_int_L1 at hh
  rw [wrapF_eq, ilt_eq, ckR_eq] at hh
  split at hh
  · refine ⟨_, _, _, _, k_slices_IndexFunc_s_int_int, ?_⟩
    refine Eq.trans ?_ hh; kernel_rfl
  · cases hh⟩
theorem x_codec_Sum : FunOk PR cutsOf TABS F_codec_Sum X_codec_Sum := fun call R a h r hh => by
  unfold X_codec_Sum at hh
  rw [wrapF_eq] at hh
  split at hh
  · refine ⟨_, _, _, _, k_codec_Sum, rfl, ?_⟩
    refine Eq.trans ?_ hh; kernel_rfl
  · cases hh
theorem x_codec_Sum_L1 : LabOk PR cutsOf TABS (labKey F_codec_Sum 3006) LB_codec_Sum_L1 := ⟨rfl, by decide, by kernel_rfl, fun call R a h r hh => by
  change X_codec_Sum_L1 H call (lr TABS R) a h = some r at hh
  unfold X_codec_Sum_L1 at hh
  rw [wrapF_eq, ilt_eq, ckR_eq] at hh
  split at hh
  · refine ⟨_, _, _, _, k_codec_Sum, ?_⟩
    refine Eq.trans ?_ hh; kernel_rfl
  · cases hh⟩
theorem x_ofile_Codec : FunOk PR cutsOf TABS F_ofile_Codec X_ofile_Codec := fun call R a h r hh => by
  unfold X_ofile_Codec at hh
  split at hh
  · refine ⟨_, _, _, _, k_ofile_Codec, rfl, ?_⟩
    refine Eq.trans ?_ hh; kernel_rfl
  · cases hh
theorem x_codec_Codec_api_Proc_Encode : FunOk PR cutsOf TABS F_codec_Codec_api_Proc_Encode X_codec_Codec_api_Proc_Encode := fun call R a h r hh => by
  unfold X_codec_Codec_api_Proc_Encode at hh
  split at hh
  · refine ⟨_, _, _, _, k_codec_Codec_api_Proc_Encode, rfl, ?_⟩
    refine Eq.trans ?_ hh; kernel_rfl
  · cases hh
theorem x_sect_Sect_Holds : FunOk PR cutsOf TABS F_sect_Sect_Holds X_sect_Sect_Holds := fun call R a h r hh => by
  unfold X_sect_Sect_Holds at hh
  rw [ieq_eq] at hh
  split at hh
  · refine ⟨_, _, _, _, k_sect_Sect_Holds, rfl, ?_⟩
    refine Eq.trans ?_ hh; kernel_rfl
  · cases hh
theorem x_calls_Do : FunOk PR cutsOf TABS F_calls_Do X_calls_Do := fun call R a h r hh => by
  unfold X_calls_Do at hh
  rw [ieq_eq] at hh
  split at hh
  · refine ⟨_, _, _, _, k_calls_Do, rfl, ?_⟩
    refine Eq.trans ?_ hh; kernel_rfl
  · cases hh
theorem x_sig_Deliver : FunOk PR cutsOf TABS F_sig_Deliver X_sig_Deliver := fun call R a h r hh => by
  unfold X_sig_Deliver at hh
  split at hh
  · refine ⟨_, _, _, _, k_sig_Deliver, rfl, ?_⟩
    refine Eq.trans ?_ hh; kernel_rfl
  · cases hh
theorem x_sig_Deliver_L1 : LabOk PR cutsOf TABS (labKey F_sig_Deliver 2002) LB_sig_Deliver_L1 := ⟨rfl, by decide, by kernel_rfl, fun call R a h r hh => by
  change X_sig_Deliver_L1 H call (lr TABS R) a h = some r at hh
  unfold X_sig_Deliver_L1 at hh
  rw [wrapF_eq, ieq_eq] at hh
  split at hh
  · refine ⟨_, _, _, _, k_sig_Deliver, ?_⟩
    refine Eq.trans ?_ hh; kernel_rfl
  · cases hh⟩
theorem x_proc_Exit : FunOk PR cutsOf TABS F_proc_Exit X_proc_Exit := fun call R a h r hh => by
  unfold X_proc_Exit at hh
  rw [wrapF_eq, ine_eq, ieq_eq, ilt_eq] at hh
  split at hh
  · refine ⟨_, _, _, _, k_proc_Exit, rfl, ?_⟩
    refine Eq.trans ?_ hh; kernel_rfl
  · cases hh
theorem x_commons_record_api_File : FunOk PR cutsOf TABS F_commons_record_api_File X_commons_record_api_File := fun call R a h r hh => by
  unfold X_commons_record_api_File at hh
  rw [wrapF_eq, ieq_eq] at hh
  split at hh
  · refine ⟨_, _, _, _, k_commons_record_api_File, rfl, ?_⟩
    refine Eq.trans ?_ hh; kernel_rfl
  · cases hh
theorem x_commons_record_api_File_R1 : LabOk PR cutsOf TABS (labKey F_commons_record_api_File 3017) LB_commons_record_api_File_R1 := ⟨rfl, by decide, by kernel_rfl, fun call R a h r hh => by
  change X_commons_record_api_File_R1 H call (lr TABS R) a h = some r at hh
  unfold X_commons_record_api_File_R1 at hh
  rw [ine_eq] at hh
  split at hh
  · refine ⟨_, _, _, _, k_commons_record_api_File, ?_⟩
    refine Eq.trans ?_ hh; kernel_rfl
  · cases hh⟩
theorem x_ofile_Decode : FunOk PR cutsOf TABS F_ofile_Decode X_ofile_Decode := fun call R a h r hh => by
  unfold X_ofile_Decode at hh
  rw [ieq_eq] at hh
  split at hh
  · refine ⟨_, _, _, _, k_ofile_Decode, rfl, ?_⟩
    refine Eq.trans ?_ hh; kernel_rfl
  · cases hh
theorem x_commons_FrontOf : FunOk PR cutsOf TABS F_commons_FrontOf X_commons_FrontOf := fun call R a h r hh => by
  unfold X_commons_FrontOf at hh
  rw [wrapF_eq, ine_eq, ckR_eq] at hh
  split at hh
  · refine ⟨_, _, _, _, k_commons_FrontOf, rfl, ?_⟩
    refine Eq.trans ?_ hh; kernel_rfl
  · cases hh
theorem x_commons_Commons_read : FunOk PR cutsOf TABS F_commons_Commons_read X_commons_Commons_read := fun call R a h r hh => by
  unfold X_commons_Commons_read at hh
  rw [wrapF_eq, ine_eq, ilt_eq] at hh
  split at hh
  · refine ⟨_, _, _, _, k_commons_Commons_read, rfl, ?_⟩
    refine Eq.trans ?_ hh; kernel_rfl
  · cases hh
theorem x_region_Regions_place : FunOk PR cutsOf TABS F_region_Regions_place X_region_Regions_place := fun call R a h r hh => by
  unfold X_region_Regions_place at hh
  rw [wrapF_eq, bitA_eq, ine_eq, ieq_eq, ilt_eq, ile_eq, ckR_eq] at hh
  split at hh
  · refine ⟨_, _, _, _, k_region_Regions_place, rfl, ?_⟩
    refine Eq.trans ?_ hh; kernel_rfl
  · cases hh
theorem x_kern_Kern_sect : FunOk PR cutsOf TABS F_kern_Kern_sect X_kern_Kern_sect := fun call R a h r hh => by
  unfold X_kern_Kern_sect at hh
  rw [ilt_eq, ile_eq, ckR_eq] at hh
  split at hh
  · refine ⟨_, _, _, _, k_kern_Kern_sect, rfl, ?_⟩
    refine Eq.trans ?_ hh; kernel_rfl
  · cases hh
theorem x_sect_Sect_Leave : FunOk PR cutsOf TABS F_sect_Sect_Leave X_sect_Sect_Leave := fun call R a h r hh => by
  unfold X_sect_Sect_Leave at hh
  split at hh
  · refine ⟨_, _, _, _, k_sect_Sect_Leave, rfl, ?_⟩
    refine Eq.trans ?_ hh; kernel_rfl
  · cases hh
theorem x_codec_New_api_File : FunOk PR cutsOf TABS F_codec_New_api_File X_codec_New_api_File := fun call R a h r hh => by
  unfold X_codec_New_api_File at hh
  split at hh
  · refine ⟨_, _, _, _, k_codec_New_api_File, rfl, ?_⟩
    refine Eq.trans ?_ hh; kernel_rfl
  · cases hh
theorem x_ofile_put : FunOk PR cutsOf TABS F_ofile_put X_ofile_put := fun call R a h r hh => by
  unfold X_ofile_put at hh
  rw [wrapF_eq, ckR_eq, ckL_eq] at hh
  split at hh
  · refine ⟨_, _, _, _, k_ofile_put, rfl, ?_⟩
    refine Eq.trans ?_ hh; kernel_rfl
  · cases hh
theorem x_pslot_put : FunOk PR cutsOf TABS F_pslot_put X_pslot_put := fun call R a h r hh => by
  unfold X_pslot_put at hh
  split at hh
  · refine ⟨_, _, _, _, k_pslot_put, rfl, ?_⟩
    refine Eq.trans ?_ hh; kernel_rfl
  · cases hh
theorem x_pslot_put_L1 : LabOk PR cutsOf TABS (labKey F_pslot_put 3008) LB_pslot_put_L1 := ⟨rfl, by decide, by kernel_rfl, fun call R a h r hh => by
  change X_pslot_put_L1 H call (lr TABS R) a h = some r at hh
  unfold X_pslot_put_L1 at hh
  rw [wrapF_eq, ilt_eq, ckR_eq] at hh
  split at hh
  · refine ⟨_, _, _, _, k_pslot_put, ?_⟩
    refine Eq.trans ?_ hh; kernel_rfl
  · cases hh⟩
theorem x_pslot_put_L2 : LabOk PR cutsOf TABS (labKey F_pslot_put 3018) LB_pslot_put_L2 := ⟨rfl, by decide, by kernel_rfl, fun call R a h r hh => by
  change X_pslot_put_L2 H call (lr TABS R) a h = some r at hh
  unfold X_pslot_put_L2 at hh
  rw [wrapF_eq, ilt_eq, ckR_eq] at hh
  split at hh
  · refine ⟨_, _, _, _, k_pslot_put, ?_⟩
    refine Eq.trans ?_ hh; kernel_rfl
  · cases hh⟩
theorem x_pslot_put_L3 : LabOk PR cutsOf TABS (labKey F_pslot_put 3028) LB_pslot_put_L3 := ⟨rfl, by decide, by kernel_rfl, fun call R a h r hh => by
  change X_pslot_put_L3 H call (lr TABS R) a h = some r at hh
  unfold X_pslot_put_L3 at hh
  rw [wrapF_eq, ilt_eq, ckR_eq, ckL_eq] at hh
  split at hh
  · refine ⟨_, _, _, _, k_pslot_put, ?_⟩
    refine Eq.trans ?_ hh; kernel_rfl
  · cases hh⟩
theorem x_calls_files : FunOk PR cutsOf TABS F_calls_files X_calls_files := fun call R a h r hh => by
  unfold X_calls_files at hh
  rw [ieq_eq] at hh
  split at hh
  · refine ⟨_, _, _, _, k_calls_files, rfl, ?_⟩
    refine Eq.trans ?_ hh; kernel_rfl
  · cases hh
theorem x_proc_Wait : FunOk PR cutsOf TABS F_proc_Wait X_proc_Wait := fun call R a h r hh => by
  unfold X_proc_Wait at hh
  rw [ine_eq] at hh
  split at hh
  · refine ⟨_, _, _, _, k_proc_Wait, rfl, ?_⟩
    refine Eq.trans ?_ hh; kernel_rfl
  · cases hh
theorem x_proc_Wait_L1 : LabOk PR cutsOf TABS (labKey F_proc_Wait 3012) LB_proc_Wait_L1 := ⟨rfl, by decide, by kernel_rfl, fun call R a h r hh => by
  change X_proc_Wait_L1 H call (lr TABS R) a h = some r at hh
  unfold X_proc_Wait_L1 at hh
  rw [wrapF_eq, ieq_eq, ilt_eq, ckR_eq] at hh
  split at hh
  · refine ⟨_, _, _, _, k_proc_Wait, ?_⟩
    refine Eq.trans ?_ hh; kernel_rfl
  · cases hh⟩
theorem x_proc_Self : FunOk PR cutsOf TABS F_proc_Self X_proc_Self := fun call R a h r hh => by
  unfold X_proc_Self at hh
  rw [ine_eq] at hh
  split at hh
  · refine ⟨_, _, _, _, k_proc_Self, rfl, ?_⟩
    refine Eq.trans ?_ hh; kernel_rfl
  · cases hh
theorem x_codec_Codec_api_File_Decode : FunOk PR cutsOf TABS F_codec_Codec_api_File_Decode X_codec_Codec_api_File_Decode := fun call R a h r hh => by
  unfold X_codec_Codec_api_File_Decode at hh
  rw [ine_eq] at hh
  split at hh
  · refine ⟨_, _, _, _, k_codec_Codec_api_File_Decode, rfl, ?_⟩
    refine Eq.trans ?_ hh; kernel_rfl
  · cases hh
theorem x_table_Table_api_Cap_at : FunOk PR cutsOf TABS F_table_Table_api_Cap_at X_table_Table_api_Cap_at := fun call R a h r hh => by
  unfold X_table_Table_api_Cap_at at hh
  rw [bitA_eq, ine_eq, ilt_eq, ile_eq, ckR_eq] at hh
  split at hh
  · refine ⟨_, _, _, _, k_table_Table_api_Cap_at, rfl, ?_⟩
    refine Eq.trans ?_ hh; kernel_rfl
  · cases hh
theorem x_codec_Put2 : FunOk PR cutsOf TABS F_codec_Put2 X_codec_Put2 := fun call R a h r hh => by
  unfold X_codec_Put2 at hh
  rw [wrapF_eq, ilt_eq, ckR_eq] at hh
  split at hh
  · refine ⟨_, _, _, _, k_codec_Put2, rfl, ?_⟩
    refine Eq.trans ?_ hh; kernel_rfl
  · cases hh
theorem x_pipes_Write : FunOk PR cutsOf TABS F_pipes_Write X_pipes_Write := fun call R a h r hh => by
  unfold X_pipes_Write at hh
  rw [wrapF_eq, ine_eq, ieq_eq, ilt_eq, ile_eq] at hh
  split at hh
  · refine ⟨_, _, _, _, k_pipes_Write, rfl, ?_⟩
    refine Eq.trans ?_ hh; kernel_rfl
  · cases hh
theorem x_pslot_Ok_1 : FunOk PR cutsOf TABS F_pslot_Ok_1 X_pslot_Ok_1 := fun call R a h r hh => by
  unfold X_pslot_Ok_1 at hh
  rw [ilt_eq] at hh
  split at hh
  · refine ⟨_, _, _, _, k_pslot_Ok_1, rfl, ?_⟩
    refine Eq.trans ?_ hh; kernel_rfl
  · cases hh
theorem x_pipes_of_1 : FunOk PR cutsOf TABS F_pipes_of_1 X_pipes_of_1 := fun call R a h r hh => by
  unfold X_pipes_of_1 at hh
  split at hh
  · refine ⟨_, _, _, _, k_pipes_of_1, rfl, ?_⟩
    refine Eq.trans ?_ hh; kernel_rfl
  · cases hh
end Go.EQ

set_option synthInstance.maxHeartbeats 0
set_option synthInstance.maxSize 1000000000000000000000000000000000000000000000000000000000000
set_option maxHeartbeats 0
set_option maxRecDepth 100000
set_option linter.unusedVariables false
namespace Go.EQ
open Go Go.Proofs
open Go.NN hiding bnd ld gInt gBool gStr gPtr gSl gMap gFv gAgg gCells nw pV pAgg pCells apd fitsOpen liveA mapAt
open Go.NP Go.NW
open Go.NF
theorem r_trace_Fifo : RX X_trace_Fifo := fun call2 call run2 run hc hr a p => by unfold X_trace_Fifo; split <;> infer_instance
theorem r_world_New : RX X_world_New := fun call2 call run2 run hc hr a p => by unfold X_world_New; split <;> infer_instance
theorem r_world_New_L1 : RX X_world_New_L1 := fun call2 call run2 run hc hr a p => by unfold X_world_New_L1; split <;> infer_instance
theorem r_world_New_L2 : RX X_world_New_L2 := fun call2 call run2 run hc hr a p => by unfold X_world_New_L2; split <;> infer_instance
theorem r_trace_look : RX X_trace_look := fun call2 call run2 run hc hr a p => by unfold X_trace_look; split <;> infer_instance
theorem r_bytes_Equal : RX X_bytes_Equal := fun call2 call run2 run hc hr a p => by unfold X_bytes_Equal; split <;> infer_instance
theorem r_world_Boot : RX X_world_Boot := fun call2 call run2 run hc hr a p => by unfold X_world_Boot; split <;> infer_instance
theorem r_world_Boot_L1 : RX X_world_Boot_L1 := fun call2 call run2 run hc hr a p => by unfold X_world_Boot_L1; split <;> infer_instance
theorem r_world_Boot_L2 : RX X_world_Boot_L2 := fun call2 call run2 run hc hr a p => by unfold X_world_Boot_L2; split <;> infer_instance
theorem r_world_Boot_L3 : RX X_world_Boot_L3 := fun call2 call run2 run hc hr a p => by unfold X_world_Boot_L3; split <;> infer_instance
theorem r_world_World_begin : RX X_world_World_begin := fun call2 call run2 run hc hr a p => by unfold X_world_World_begin; split <;> infer_instance
theorem r_world_World_begin_L1 : RX X_world_World_begin_L1 := fun call2 call run2 run hc hr a p => by unfold X_world_World_begin_L1; split <;> infer_instance
theorem r_world_World_begin_R1 : RX X_world_World_begin_R1 := fun call2 call run2 run hc hr a p => by unfold X_world_World_begin_R1; split <;> infer_instance
theorem r_host_New : RX X_host_New := fun call2 call run2 run hc hr a p => by unfold X_host_New; split <;> infer_instance
theorem r_world_World_Bridge : RX X_world_World_Bridge := fun call2 call run2 run hc hr a p => by unfold X_world_World_Bridge; split <;> infer_instance
theorem r_ring_Bytes : RX X_ring_Bytes := fun call2 call run2 run hc hr a p => by unfold X_ring_Bytes; split <;> infer_instance
theorem r_ring_Bytes_L1 : RX X_ring_Bytes_L1 := fun call2 call run2 run hc hr a p => by unfold X_ring_Bytes_L1; split <;> infer_instance
theorem r_world_World_Host : RX X_world_World_Host := fun call2 call run2 run hc hr a p => by unfold X_world_World_Host; split <;> infer_instance
theorem r_host_Host_Commons : RX X_host_Host_Commons := fun call2 call run2 run hc hr a p => by unfold X_host_Host_Commons; split <;> infer_instance
theorem r_kern_frames : RX X_kern_frames := fun call2 call run2 run hc hr a p => by unfold X_kern_frames; split <;> infer_instance
theorem r_slices_Clone_s_int_int : RX X_slices_Clone_s_int_int := fun call2 call run2 run hc hr a p => by unfold X_slices_Clone_s_int_int; split <;> infer_instance
theorem r_caps_New : RX X_caps_New := fun call2 call run2 run hc hr a p => by unfold X_caps_New; split <;> infer_instance
theorem r_caps_New_L1 : RX X_caps_New_L1 := fun call2 call run2 run hc hr a p => by unfold X_caps_New_L1; split <;> infer_instance
theorem r_region_New : RX X_region_New := fun call2 call run2 run hc hr a p => by unfold X_region_New; split <;> infer_instance
theorem r_region_Regions_Add : RX X_region_Regions_Add := fun call2 call run2 run hc hr a p => by unfold X_region_Regions_Add; split <;> infer_instance
theorem r_quota_Quota_First : RX X_quota_Quota_First := fun call2 call run2 run hc hr a p => by unfold X_quota_Quota_First; split <;> infer_instance
theorem r_quota_Quota_First_L1 : RX X_quota_Quota_First_L1 := fun call2 call run2 run hc hr a p => by unfold X_quota_Quota_First_L1; split <;> infer_instance
theorem r_caps_Space_Put : RX X_caps_Space_Put := fun call2 call run2 run hc hr a p => by unfold X_caps_Space_Put; split <;> infer_instance
theorem r_commons_Commons_SetFront : RX X_commons_Commons_SetFront := fun call2 call run2 run hc hr a p => by unfold X_commons_Commons_SetFront; split <;> infer_instance
theorem r_commons_Commons_SetFile : RX X_commons_Commons_SetFile := fun call2 call run2 run hc hr a p => by unfold X_commons_Commons_SetFile; split <;> infer_instance
theorem r_commons_Commons_SetProc : RX X_commons_Commons_SetProc := fun call2 call run2 run hc hr a p => by unfold X_commons_Commons_SetProc; split <;> infer_instance
theorem r_codec_Blank : RX X_codec_Blank := fun call2 call run2 run hc hr a p => by unfold X_codec_Blank; split <;> infer_instance
theorem r_host_Host_Fresh : RX X_host_Host_Fresh := fun call2 call run2 run hc hr a p => by unfold X_host_Host_Fresh; split <;> infer_instance
theorem r_commons_Commons_Term : RX X_commons_Commons_Term := fun call2 call run2 run hc hr a p => by unfold X_commons_Commons_Term; split <;> infer_instance
theorem r_kern_Kern_number : RX X_kern_Kern_number := fun call2 call run2 run hc hr a p => by unfold X_kern_Kern_number; split <;> infer_instance
theorem r_kern_check_1 : RX X_kern_check_1 := fun call2 call run2 run hc hr a p => by unfold X_kern_check_1; split <;> infer_instance
theorem r_slices_ContainsFunc_s_int_int : RX X_slices_ContainsFunc_s_int_int := fun call2 call run2 run hc hr a p => by unfold X_slices_ContainsFunc_s_int_int; split <;> infer_instance
theorem r_kern_share : RX X_kern_share := fun call2 call run2 run hc hr a p => by unfold X_kern_share; split <;> infer_instance
theorem r_slices_Index_s_int_int : RX X_slices_Index_s_int_int := fun call2 call run2 run hc hr a p => by unfold X_slices_Index_s_int_int; split <;> infer_instance
theorem r_slices_Index_s_int_int_L1 : RX X_slices_Index_s_int_int_L1 := fun call2 call run2 run hc hr a p => by unfold X_slices_Index_s_int_int_L1; split <;> infer_instance
theorem r_caps_Space_add : RX X_caps_Space_add := fun call2 call run2 run hc hr a p => by unfold X_caps_Space_add; split <;> infer_instance
theorem r_kern_Kern_Space : RX X_kern_Kern_Space := fun call2 call run2 run hc hr a p => by unfold X_kern_Kern_Space; split <;> infer_instance
theorem r_caps_Space_Names : RX X_caps_Space_Names := fun call2 call run2 run hc hr a p => by unfold X_caps_Space_Names; split <;> infer_instance
theorem r_commons_Commons_write : RX X_commons_Commons_write := fun call2 call run2 run hc hr a p => by unfold X_commons_Commons_write; split <;> infer_instance
theorem r_commons_FrontBytes : RX X_commons_FrontBytes := fun call2 call run2 run hc hr a p => by unfold X_commons_FrontBytes; split <;> infer_instance
theorem r_ofile_Encode : RX X_ofile_Encode := fun call2 call run2 run hc hr a p => by unfold X_ofile_Encode; split <;> infer_instance
theorem r_commons_pipe : RX X_commons_pipe := fun call2 call run2 run hc hr a p => by unfold X_commons_pipe; split <;> infer_instance
theorem r_commons_proc : RX X_commons_proc := fun call2 call run2 run hc hr a p => by unfold X_commons_proc; split <;> infer_instance
theorem r_codec_Blank_1 : RX X_codec_Blank_1 := fun call2 call run2 run hc hr a p => by unfold X_codec_Blank_1; split <;> infer_instance
theorem r_ring_put : RX X_ring_put := fun call2 call run2 run hc hr a p => by unfold X_ring_put; split <;> infer_instance
theorem r_ring_Ok_1 : RX X_ring_Ok_1 := fun call2 call run2 run hc hr a p => by unfold X_ring_Ok_1; split <;> infer_instance
theorem r_host_Host_in : RX X_host_Host_in := fun call2 call run2 run hc hr a p => by unfold X_host_Host_in; split <;> infer_instance
theorem r_commons_Commons_most : RX X_commons_Commons_most := fun call2 call run2 run hc hr a p => by unfold X_commons_Commons_most; split <;> infer_instance
theorem r_commons_record_api_Proc : RX X_commons_record_api_Proc := fun call2 call run2 run hc hr a p => by unfold X_commons_record_api_Proc; split <;> infer_instance
theorem r_commons_record_api_Proc_R1 : RX X_commons_record_api_Proc_R1 := fun call2 call run2 run hc hr a p => by unfold X_commons_record_api_Proc_R1; split <;> infer_instance
theorem r_region_Regions_Write : RX X_region_Regions_Write := fun call2 call run2 run hc hr a p => by unfold X_region_Regions_Write; split <;> infer_instance
theorem r_caps_Space_Revoke : RX X_caps_Space_Revoke := fun call2 call run2 run hc hr a p => by unfold X_caps_Space_Revoke; split <;> infer_instance
theorem r_caps_Space_Revoke_L1 : RX X_caps_Space_Revoke_L1 := fun call2 call run2 run hc hr a p => by unfold X_caps_Space_Revoke_L1; split <;> infer_instance
theorem r_kern_Kern_enter : RX X_kern_Kern_enter := fun call2 call run2 run hc hr a p => by unfold X_kern_Kern_enter; split <;> infer_instance
theorem r_table_Table_api_Cap_Add : RX X_table_Table_api_Cap_Add := fun call2 call run2 run hc hr a p => by unfold X_table_Table_api_Cap_Add; split <;> infer_instance
theorem r_table_Table_api_Cap_Add_L1 : RX X_table_Table_api_Cap_Add_L1 := fun call2 call run2 run hc hr a p => by unfold X_table_Table_api_Cap_Add_L1; split <;> infer_instance
theorem r_table_Table_api_Cap_Names : RX X_table_Table_api_Cap_Names := fun call2 call run2 run hc hr a p => by unfold X_table_Table_api_Cap_Names; split <;> infer_instance
theorem r_table_Table_api_Cap_Names_L1 : RX X_table_Table_api_Cap_Names_L1 := fun call2 call run2 run hc hr a p => by unfold X_table_Table_api_Cap_Names_L1; split <;> infer_instance
theorem r_codec_Codec_api_Pipe_Encode : RX X_codec_Codec_api_Pipe_Encode := fun call2 call run2 run hc hr a p => by unfold X_codec_Codec_api_Pipe_Encode; split <;> infer_instance
theorem r_commons_Commons_place : RX X_commons_Commons_place := fun call2 call run2 run hc hr a p => by unfold X_commons_Commons_place; split <;> infer_instance
theorem r_codec_Sum : RX X_codec_Sum := fun call2 call run2 run hc hr a p => by unfold X_codec_Sum; split <;> infer_instance
theorem r_codec_Sum_L1 : RX X_codec_Sum_L1 := fun call2 call run2 run hc hr a p => by unfold X_codec_Sum_L1; split <;> infer_instance
theorem r_ofile_Codec : RX X_ofile_Codec := fun call2 call run2 run hc hr a p => by unfold X_ofile_Codec; split <;> infer_instance
theorem r_codec_Codec_api_Proc_Encode : RX X_codec_Codec_api_Proc_Encode := fun call2 call run2 run hc hr a p => by unfold X_codec_Codec_api_Proc_Encode; split <;> infer_instance
theorem r_slices_IndexFunc_s_byte_byte : RX X_slices_IndexFunc_s_byte_byte := fun call2 call run2 run hc hr a p => by unfold X_slices_IndexFunc_s_byte_byte; split <;> infer_instance
theorem r_slices_IndexFunc_s_byte_byte_L1 : RX X_slices_IndexFunc_s_byte_byte_L1 := fun call2 call run2 run hc hr a p => by unfold X_slices_IndexFunc_s_byte_byte_L1; split <;> infer_instance
theorem r_host_Host_back : RX X_host_Host_back := fun call2 call run2 run hc hr a p => by unfold X_host_Host_back; split <;> infer_instance
theorem r_sect_Sect_Quit : RX X_sect_Sect_Quit := fun call2 call run2 run hc hr a p => by unfold X_sect_Sect_Quit; split <;> infer_instance
theorem r_sect_Sect_Quit_R1 : RX X_sect_Sect_Quit_R1 := fun call2 call run2 run hc hr a p => by unfold X_sect_Sect_Quit_R1; split <;> infer_instance
theorem r_sect_Sect_Holds : RX X_sect_Sect_Holds := fun call2 call run2 run hc hr a p => by unfold X_sect_Sect_Holds; split <;> infer_instance
theorem r_calls_Do : RX X_calls_Do := fun call2 call run2 run hc hr a p => by unfold X_calls_Do; split <;> infer_instance
theorem r_sig_Deliver : RX X_sig_Deliver := fun call2 call run2 run hc hr a p => by unfold X_sig_Deliver; split <;> infer_instance
theorem r_sig_Deliver_L1 : RX X_sig_Deliver_L1 := fun call2 call run2 run hc hr a p => by unfold X_sig_Deliver_L1; split <;> infer_instance
theorem r_ofile_Decode : RX X_ofile_Decode := fun call2 call run2 run hc hr a p => by unfold X_ofile_Decode; split <;> infer_instance
theorem r_region_Regions_place : RX X_region_Regions_place := fun call2 call run2 run hc hr a p => by unfold X_region_Regions_place; split <;> infer_instance
theorem r_mem_Mem_Store : RX X_mem_Mem_Store := fun call2 call run2 run hc hr a p => by unfold X_mem_Mem_Store; split <;> infer_instance
theorem r_kern_Kern_sect : RX X_kern_Kern_sect := fun call2 call run2 run hc hr a p => by unfold X_kern_Kern_sect; split <;> infer_instance
theorem r_sect_Sect_Enter : RX X_sect_Sect_Enter := fun call2 call run2 run hc hr a p => by unfold X_sect_Sect_Enter; split <;> infer_instance
theorem r_sect_Sect_Enter_R1 : RX X_sect_Sect_Enter_R1 := fun call2 call run2 run hc hr a p => by unfold X_sect_Sect_Enter_R1; split <;> infer_instance
theorem r_sect_Sect_Enter_R2 : RX X_sect_Sect_Enter_R2 := fun call2 call run2 run hc hr a p => by unfold X_sect_Sect_Enter_R2; split <;> infer_instance
theorem r_sect_Sect_Enter_R3 : RX X_sect_Sect_Enter_R3 := fun call2 call run2 run hc hr a p => by unfold X_sect_Sect_Enter_R3; split <;> infer_instance
theorem r_sect_Sect_Enter_R4 : RX X_sect_Sect_Enter_R4 := fun call2 call run2 run hc hr a p => by unfold X_sect_Sect_Enter_R4; split <;> infer_instance
theorem r_sect_Sect_Enter_L1 : RX X_sect_Sect_Enter_L1 := fun call2 call run2 run hc hr a p => by unfold X_sect_Sect_Enter_L1; split <;> infer_instance
theorem r_sect_Sect_Leave : RX X_sect_Sect_Leave := fun call2 call run2 run hc hr a p => by unfold X_sect_Sect_Leave; split <;> infer_instance
theorem r_table_Table_api_Cap_name : RX X_table_Table_api_Cap_name := fun call2 call run2 run hc hr a p => by unfold X_table_Table_api_Cap_name; split <;> infer_instance
theorem r_codec_New_api_File : RX X_codec_New_api_File := fun call2 call run2 run hc hr a p => by unfold X_codec_New_api_File; split <;> infer_instance
theorem r_ofile_put : RX X_ofile_put := fun call2 call run2 run hc hr a p => by unfold X_ofile_put; split <;> infer_instance
theorem r_calls_files : RX X_calls_files := fun call2 call run2 run hc hr a p => by unfold X_calls_files; split <;> infer_instance
theorem r_calls_told : RX X_calls_told := fun call2 call run2 run hc hr a p => by unfold X_calls_told; split <;> infer_instance
theorem r_sig_Next : RX X_sig_Next := fun call2 call run2 run hc hr a p => by unfold X_sig_Next; split <;> infer_instance
theorem r_sig_Next_R1 : RX X_sig_Next_R1 := fun call2 call run2 run hc hr a p => by unfold X_sig_Next_R1; split <;> infer_instance
theorem r_fds_Of : RX X_fds_Of := fun call2 call run2 run hc hr a p => by unfold X_fds_Of; split <;> infer_instance
theorem r_proc_Self : RX X_proc_Self := fun call2 call run2 run hc hr a p => by unfold X_proc_Self; split <;> infer_instance
theorem r_codec_Codec_api_File_Decode : RX X_codec_Codec_api_File_Decode := fun call2 call run2 run hc hr a p => by unfold X_codec_Codec_api_File_Decode; split <;> infer_instance
theorem r_ofile_Ok : RX X_ofile_Ok := fun call2 call run2 run hc hr a p => by unfold X_ofile_Ok; split <;> infer_instance
theorem r_codec_Get2 : RX X_codec_Get2 := fun call2 call run2 run hc hr a p => by unfold X_codec_Get2; split <;> infer_instance
theorem r_pslot_Ok_1 : RX X_pslot_Ok_1 := fun call2 call run2 run hc hr a p => by unfold X_pslot_Ok_1; split <;> infer_instance
theorem r_pipes_of : RX X_pipes_of := fun call2 call run2 run hc hr a p => by unfold X_pipes_of; split <;> infer_instance
end Go.EQ

set_option synthInstance.maxHeartbeats 0
set_option synthInstance.maxSize 1000000000000000000000000000000000000000000000000000000000000
set_option maxHeartbeats 0
set_option maxRecDepth 100000
set_option linter.unusedVariables false
namespace Go.EQ
open Go Go.Proofs
open Go.NN hiding bnd ld gInt gBool gStr gPtr gSl gMap gFv gAgg gCells nw pV pAgg pCells apd fitsOpen liveA mapAt
open Go.NP Go.NW
open Go.NF
theorem r_law25_awake : RX X_law25_awake := fun call2 call run2 run hc hr a p => by unfold X_law25_awake; split <;> infer_instance
theorem r_trace_Flow : RX X_trace_Flow := fun call2 call run2 run hc hr a p => by unfold X_trace_Flow; split <;> infer_instance
theorem r_trace_Flow_L1 : RX X_trace_Flow_L1 := fun call2 call run2 run hc hr a p => by unfold X_trace_Flow_L1; split <;> infer_instance
theorem r_bytes_HasPrefix : RX X_bytes_HasPrefix := fun call2 call run2 run hc hr a p => by unfold X_bytes_HasPrefix; split <;> infer_instance
theorem r_world_World_Do : RX X_world_World_Do := fun call2 call run2 run hc hr a p => by unfold X_world_World_Do; split <;> infer_instance
theorem r_world_Check : RX X_world_Check := fun call2 call run2 run hc hr a p => by unfold X_world_Check; split <;> infer_instance
theorem r_world_Check_L1 : RX X_world_Check_L1 := fun call2 call run2 run hc hr a p => by unfold X_world_Check_L1; split <;> infer_instance
theorem r_kern_New : RX X_kern_New := fun call2 call run2 run hc hr a p => by unfold X_kern_New; split <;> infer_instance
theorem r_kern_New_L1 : RX X_kern_New_L1 := fun call2 call run2 run hc hr a p => by unfold X_kern_New_L1; split <;> infer_instance
theorem r_kern_New_L2 : RX X_kern_New_L2 := fun call2 call run2 run hc hr a p => by unfold X_kern_New_L2; split <;> infer_instance
theorem r_kern_New_L3 : RX X_kern_New_L3 := fun call2 call run2 run hc hr a p => by unfold X_kern_New_L3; split <;> infer_instance
theorem r_kern_New_L4 : RX X_kern_New_L4 := fun call2 call run2 run hc hr a p => by unfold X_kern_New_L4; split <;> infer_instance
theorem r_ring_Decode : RX X_ring_Decode := fun call2 call run2 run hc hr a p => by unfold X_ring_Decode; split <;> infer_instance
theorem r_world_World_pick : RX X_world_World_pick := fun call2 call run2 run hc hr a p => by unfold X_world_World_pick; split <;> infer_instance
theorem r_host_Host_Start : RX X_host_Host_Start := fun call2 call run2 run hc hr a p => by unfold X_host_Host_Start; split <;> infer_instance
theorem r_pipes_Type : RX X_pipes_Type := fun call2 call run2 run hc hr a p => by unfold X_pipes_Type; split <;> infer_instance
theorem r_kern_Kern_Do : RX X_kern_Kern_Do := fun call2 call run2 run hc hr a p => by unfold X_kern_Kern_Do; split <;> infer_instance
theorem r_kern_check : RX X_kern_check := fun call2 call run2 run hc hr a p => by unfold X_kern_check; split <;> infer_instance
theorem r_kern_check_L1 : RX X_kern_check_L1 := fun call2 call run2 run hc hr a p => by unfold X_kern_check_L1; split <;> infer_instance
theorem r_kern_check_L2 : RX X_kern_check_L2 := fun call2 call run2 run hc hr a p => by unfold X_kern_check_L2; split <;> infer_instance
theorem r_mem_New : RX X_mem_New := fun call2 call run2 run hc hr a p => by unfold X_mem_New; split <;> infer_instance
theorem r_quota_New : RX X_quota_New := fun call2 call run2 run hc hr a p => by unfold X_quota_New; split <;> infer_instance
theorem r_quota_New_L1 : RX X_quota_New_L1 := fun call2 call run2 run hc hr a p => by unfold X_quota_New_L1; split <;> infer_instance
theorem r_sect_New : RX X_sect_New := fun call2 call run2 run hc hr a p => by unfold X_sect_New; split <;> infer_instance
theorem r_slices_Contains_s_int_int : RX X_slices_Contains_s_int_int := fun call2 call run2 run hc hr a p => by unfold X_slices_Contains_s_int_int; split <;> infer_instance
theorem r_commons_New : RX X_commons_New := fun call2 call run2 run hc hr a p => by unfold X_commons_New; split <;> infer_instance
theorem r_commons_Commons_SetTerm : RX X_commons_Commons_SetTerm := fun call2 call run2 run hc hr a p => by unfold X_commons_Commons_SetTerm; split <;> infer_instance
theorem r_commons_Commons_SetPipe : RX X_commons_Commons_SetPipe := fun call2 call run2 run hc hr a p => by unfold X_commons_Commons_SetPipe; split <;> infer_instance
theorem r_kern_Kern_Sect : RX X_kern_Kern_Sect := fun call2 call run2 run hc hr a p => by unfold X_kern_Kern_Sect; split <;> infer_instance
theorem r_kern_Kern_Regions : RX X_kern_Kern_Regions := fun call2 call run2 run hc hr a p => by unfold X_kern_Kern_Regions; split <;> infer_instance
theorem r_region_Regions_Raw : RX X_region_Regions_Raw := fun call2 call run2 run hc hr a p => by unfold X_region_Regions_Raw; split <;> infer_instance
theorem r_ring_Codec : RX X_ring_Codec := fun call2 call run2 run hc hr a p => by unfold X_ring_Codec; split <;> infer_instance
theorem r_codec_Codec_api_Pipe_Decode : RX X_codec_Codec_api_Pipe_Decode := fun call2 call run2 run hc hr a p => by unfold X_codec_Codec_api_Pipe_Decode; split <;> infer_instance
theorem r_ring_Ok : RX X_ring_Ok := fun call2 call run2 run hc hr a p => by unfold X_ring_Ok; split <;> infer_instance
theorem r_host_Host_Pick : RX X_host_Host_Pick := fun call2 call run2 run hc hr a p => by unfold X_host_Host_Pick; split <;> infer_instance
theorem r_host_Host_Pick_R1 : RX X_host_Host_Pick_R1 := fun call2 call run2 run hc hr a p => by unfold X_host_Host_Pick_R1; split <;> infer_instance
theorem r_commons_Commons_Look : RX X_commons_Commons_Look := fun call2 call run2 run hc hr a p => by unfold X_commons_Commons_Look; split <;> infer_instance
theorem r_commons_Commons_Look_L1 : RX X_commons_Commons_Look_L1 := fun call2 call run2 run hc hr a p => by unfold X_commons_Commons_Look_L1; split <;> infer_instance
theorem r_commons_Commons_Look_L2 : RX X_commons_Commons_Look_L2 := fun call2 call run2 run hc hr a p => by unfold X_commons_Commons_Look_L2; split <;> infer_instance
theorem r_commons_Commons_Look_L3 : RX X_commons_Commons_Look_L3 := fun call2 call run2 run hc hr a p => by unfold X_commons_Commons_Look_L3; split <;> infer_instance
theorem r_commons_Commons_Proc : RX X_commons_Commons_Proc := fun call2 call run2 run hc hr a p => by unfold X_commons_Commons_Proc; split <;> infer_instance
theorem r_slices_Clone_s_byte_byte : RX X_slices_Clone_s_byte_byte := fun call2 call run2 run hc hr a p => by unfold X_slices_Clone_s_byte_byte; split <;> infer_instance
theorem r_ring_Put : RX X_ring_Put := fun call2 call run2 run hc hr a p => by unfold X_ring_Put; split <;> infer_instance
theorem r_ring_Put_L1 : RX X_ring_Put_L1 := fun call2 call run2 run hc hr a p => by unfold X_ring_Put_L1; split <;> infer_instance
theorem r_kern_Kern_bytes : RX X_kern_Kern_bytes := fun call2 call run2 run hc hr a p => by unfold X_kern_Kern_bytes; split <;> infer_instance
theorem r_table_New_api_Cap : RX X_table_New_api_Cap := fun call2 call run2 run hc hr a p => by unfold X_table_New_api_Cap; split <;> infer_instance
theorem r_table_New_api_Cap_L1 : RX X_table_New_api_Cap_L1 := fun call2 call run2 run hc hr a p => by unfold X_table_New_api_Cap_L1; split <;> infer_instance
theorem r_mem_Mem_Size : RX X_mem_Mem_Size := fun call2 call run2 run hc hr a p => by unfold X_mem_Mem_Size; split <;> infer_instance
theorem r_caps_Space_Put_1 : RX X_caps_Space_Put_1 := fun call2 call run2 run hc hr a p => by unfold X_caps_Space_Put_1; split <;> infer_instance
theorem r_caps_Space_is : RX X_caps_Space_is := fun call2 call run2 run hc hr a p => by unfold X_caps_Space_is; split <;> infer_instance
theorem r_ring_Encode : RX X_ring_Encode := fun call2 call run2 run hc hr a p => by unfold X_ring_Encode; split <;> infer_instance
theorem r_commons_file : RX X_commons_file := fun call2 call run2 run hc hr a p => by unfold X_commons_file; split <;> infer_instance
theorem r_pslot_Encode : RX X_pslot_Encode := fun call2 call run2 run hc hr a p => by unfold X_pslot_Encode; split <;> infer_instance
theorem r_mem_Mem_Load : RX X_mem_Mem_Load := fun call2 call run2 run hc hr a p => by unfold X_mem_Mem_Load; split <;> infer_instance
theorem r_slices_ContainsFunc_s_byte_byte : RX X_slices_ContainsFunc_s_byte_byte := fun call2 call run2 run hc hr a p => by unfold X_slices_ContainsFunc_s_byte_byte; split <;> infer_instance
theorem r_codec_New_api_Pipe : RX X_codec_New_api_Pipe := fun call2 call run2 run hc hr a p => by unfold X_codec_New_api_Pipe; split <;> infer_instance
theorem r_ring_get : RX X_ring_get := fun call2 call run2 run hc hr a p => by unfold X_ring_get; split <;> infer_instance
theorem r_host_Host_leave : RX X_host_Host_leave := fun call2 call run2 run hc hr a p => by unfold X_host_Host_leave; split <;> infer_instance
theorem r_host_Host_want : RX X_host_Host_want := fun call2 call run2 run hc hr a p => by unfold X_host_Host_want; split <;> infer_instance
theorem r_host_Host_end : RX X_host_Host_end := fun call2 call run2 run hc hr a p => by unfold X_host_Host_end; split <;> infer_instance
theorem r_commons_Commons_File : RX X_commons_Commons_File := fun call2 call run2 run hc hr a p => by unfold X_commons_Commons_File; split <;> infer_instance
theorem r_commons_Commons_Pipe : RX X_commons_Commons_Pipe := fun call2 call run2 run hc hr a p => by unfold X_commons_Commons_Pipe; split <;> infer_instance
theorem r_commons_Commons_Front : RX X_commons_Commons_Front := fun call2 call run2 run hc hr a p => by unfold X_commons_Commons_Front; split <;> infer_instance
theorem r_pslot_Decode : RX X_pslot_Decode := fun call2 call run2 run hc hr a p => by unfold X_pslot_Decode; split <;> infer_instance
theorem r_commons_record_api_Pipe : RX X_commons_record_api_Pipe := fun call2 call run2 run hc hr a p => by unfold X_commons_record_api_Pipe; split <;> infer_instance
theorem r_commons_record_api_Pipe_R1 : RX X_commons_record_api_Pipe_R1 := fun call2 call run2 run hc hr a p => by unfold X_commons_record_api_Pipe_R1; split <;> infer_instance
theorem r_region_Regions_Read : RX X_region_Regions_Read := fun call2 call run2 run hc hr a p => by unfold X_region_Regions_Read; split <;> infer_instance
theorem r_kern_Kern_leave : RX X_kern_Kern_leave := fun call2 call run2 run hc hr a p => by unfold X_kern_Kern_leave; split <;> infer_instance
theorem r_slices_IndexFunc_s_int_int : RX X_slices_IndexFunc_s_int_int := fun call2 call run2 run hc hr a p => by unfold X_slices_IndexFunc_s_int_int; split <;> infer_instance
theorem r_slices_IndexFunc_s_int_int_L1 : RX X_slices_IndexFunc_s_int_int_L1 := fun call2 call run2 run hc hr a p => by unfold X_slices_IndexFunc_s_int_int_L1; split <;> infer_instance
theorem r_codec_Codec_api_File_Encode : RX X_codec_Codec_api_File_Encode := fun call2 call run2 run hc hr a p => by unfold X_codec_Codec_api_File_Encode; split <;> infer_instance
theorem r_pslot_Codec : RX X_pslot_Codec := fun call2 call run2 run hc hr a p => by unfold X_pslot_Codec; split <;> infer_instance
theorem r_mem_Mem_in : RX X_mem_Mem_in := fun call2 call run2 run hc hr a p => by unfold X_mem_Mem_in; split <;> infer_instance
theorem r_slices_Equal_s_byte_byte : RX X_slices_Equal_s_byte_byte := fun call2 call run2 run hc hr a p => by unfold X_slices_Equal_s_byte_byte; split <;> infer_instance
theorem r_slices_Equal_s_byte_byte_L1 : RX X_slices_Equal_s_byte_byte_L1 := fun call2 call run2 run hc hr a p => by unfold X_slices_Equal_s_byte_byte_L1; split <;> infer_instance
theorem r_proc_Exit : RX X_proc_Exit := fun call2 call run2 run hc hr a p => by unfold X_proc_Exit; split <;> infer_instance
theorem r_commons_record_api_File : RX X_commons_record_api_File := fun call2 call run2 run hc hr a p => by unfold X_commons_record_api_File; split <;> infer_instance
theorem r_commons_record_api_File_R1 : RX X_commons_record_api_File_R1 := fun call2 call run2 run hc hr a p => by unfold X_commons_record_api_File_R1; split <;> infer_instance
theorem r_commons_record_int : RX X_commons_record_int := fun call2 call run2 run hc hr a p => by unfold X_commons_record_int; split <;> infer_instance
theorem r_commons_record_int_R1 : RX X_commons_record_int_R1 := fun call2 call run2 run hc hr a p => by unfold X_commons_record_int_R1; split <;> infer_instance
theorem r_commons_FrontOf : RX X_commons_FrontOf := fun call2 call run2 run hc hr a p => by unfold X_commons_FrontOf; split <;> infer_instance
theorem r_commons_Commons_read : RX X_commons_Commons_read := fun call2 call run2 run hc hr a p => by unfold X_commons_Commons_read; split <;> infer_instance
theorem r_codec_Codec_api_Proc_Decode : RX X_codec_Codec_api_Proc_Decode := fun call2 call run2 run hc hr a p => by unfold X_codec_Codec_api_Proc_Decode; split <;> infer_instance
theorem r_caps_Space_Get : RX X_caps_Space_Get := fun call2 call run2 run hc hr a p => by unfold X_caps_Space_Get; split <;> infer_instance
theorem r_ofile_get : RX X_ofile_get := fun call2 call run2 run hc hr a p => by unfold X_ofile_get; split <;> infer_instance
theorem r_codec_New_api_Proc : RX X_codec_New_api_Proc := fun call2 call run2 run hc hr a p => by unfold X_codec_New_api_Proc; split <;> infer_instance
theorem r_pslot_put : RX X_pslot_put := fun call2 call run2 run hc hr a p => by unfold X_pslot_put; split <;> infer_instance
theorem r_pslot_put_L1 : RX X_pslot_put_L1 := fun call2 call run2 run hc hr a p => by unfold X_pslot_put_L1; split <;> infer_instance
theorem r_pslot_put_L2 : RX X_pslot_put_L2 := fun call2 call run2 run hc hr a p => by unfold X_pslot_put_L2; split <;> infer_instance
theorem r_pslot_put_L3 : RX X_pslot_put_L3 := fun call2 call run2 run hc hr a p => by unfold X_pslot_put_L3; split <;> infer_instance
theorem r_pslot_get : RX X_pslot_get := fun call2 call run2 run hc hr a p => by unfold X_pslot_get; split <;> infer_instance
theorem r_pslot_get_L1 : RX X_pslot_get_L1 := fun call2 call run2 run hc hr a p => by unfold X_pslot_get_L1; split <;> infer_instance
theorem r_pslot_get_L2 : RX X_pslot_get_L2 := fun call2 call run2 run hc hr a p => by unfold X_pslot_get_L2; split <;> infer_instance
theorem r_proc_Wait : RX X_proc_Wait := fun call2 call run2 run hc hr a p => by unfold X_proc_Wait; split <;> infer_instance
theorem r_proc_Wait_L1 : RX X_proc_Wait_L1 := fun call2 call run2 run hc hr a p => by unfold X_proc_Wait_L1; split <;> infer_instance
theorem r_pred_Any : RX X_pred_Any := fun call2 call run2 run hc hr a p => by unfold X_pred_Any; split <;> infer_instance
theorem r_table_Table_api_Cap_Get : RX X_table_Table_api_Cap_Get := fun call2 call run2 run hc hr a p => by unfold X_table_Table_api_Cap_Get; split <;> infer_instance
theorem r_table_Table_api_Cap_at : RX X_table_Table_api_Cap_at := fun call2 call run2 run hc hr a p => by unfold X_table_Table_api_Cap_at; split <;> infer_instance
theorem r_pslot_Ok : RX X_pslot_Ok := fun call2 call run2 run hc hr a p => by unfold X_pslot_Ok; split <;> infer_instance
theorem r_codec_Put2 : RX X_codec_Put2 := fun call2 call run2 run hc hr a p => by unfold X_codec_Put2; split <;> infer_instance
theorem r_pipes_Write : RX X_pipes_Write := fun call2 call run2 run hc hr a p => by unfold X_pipes_Write; split <;> infer_instance
theorem r_fds_named : RX X_fds_named := fun call2 call run2 run hc hr a p => by unfold X_fds_named; split <;> infer_instance
theorem r_pslot_bits : RX X_pslot_bits := fun call2 call run2 run hc hr a p => by unfold X_pslot_bits; split <;> infer_instance
theorem r_pipes_of_1 : RX X_pipes_of_1 := fun call2 call run2 run hc hr a p => by unfold X_pipes_of_1; split <;> infer_instance
end Go.EQ

set_option maxRecDepth 100000
set_option linter.unusedVariables false
namespace Go.EQ
open Go Go.Proofs
open Go.NN hiding bnd ld gInt gBool gStr gPtr gSl gMap gFv gAgg gCells nw pV pAgg pCells apd fitsOpen liveA mapAt
open Go.NP Go.NW
theorem tabs_ok : TABS.Ok PR cutsOf := ⟨⟨x_codec_New_api_Pipe, ⟨x_commons_Commons_SetProc, ⟨x_pipes_Type, ⟨x_kern_New, ⟨x_world_New, ⟨x_trace_Flow, ⟨x_trace_Fifo, ⟨x_law25_awake, trivial, trivial⟩, trivial⟩, ⟨x_bytes_HasPrefix, trivial, trivial⟩⟩, ⟨x_bytes_Equal, ⟨x_world_World_Do, ⟨x_trace_look, trivial, trivial⟩, trivial⟩, ⟨x_world_Check, trivial, trivial⟩⟩⟩, ⟨x_ring_Decode, ⟨x_host_New, ⟨x_world_World_begin, ⟨x_world_Boot, trivial, trivial⟩, trivial⟩, ⟨x_world_World_Bridge, trivial, trivial⟩⟩, ⟨x_world_World_pick, ⟨x_world_World_Host, ⟨x_ring_Bytes, trivial, trivial⟩, trivial⟩, ⟨x_host_Host_Start, trivial, trivial⟩⟩⟩⟩, ⟨x_sect_New, ⟨x_slices_Clone_s_int_int, ⟨x_kern_check, ⟨x_kern_Kern_Do, ⟨x_host_Host_Commons, trivial, trivial⟩, trivial⟩, ⟨x_kern_frames, trivial, trivial⟩⟩, ⟨x_quota_New, ⟨x_caps_New, ⟨x_mem_New, trivial, trivial⟩, trivial⟩, ⟨x_region_New, trivial, trivial⟩⟩⟩, ⟨x_commons_New, ⟨x_slices_Contains_s_int_int, ⟨x_quota_Quota_First, ⟨x_region_Regions_Add, trivial, trivial⟩, trivial⟩, ⟨x_caps_Space_Put, trivial, trivial⟩⟩, ⟨x_commons_Commons_SetFile, ⟨x_commons_Commons_SetFront, ⟨x_commons_Commons_SetTerm, trivial, trivial⟩, trivial⟩, ⟨x_commons_Commons_SetPipe, trivial, trivial⟩⟩⟩⟩⟩, ⟨x_table_New_api_Cap, ⟨x_commons_Commons_Look, ⟨x_ring_Codec, ⟨x_region_Regions_Raw, ⟨x_kern_Kern_Regions, ⟨x_kern_Kern_Sect, trivial, trivial⟩, trivial⟩, ⟨x_codec_Blank, trivial, trivial⟩⟩, ⟨x_host_Host_Pick, ⟨x_ring_Ok, ⟨x_codec_Codec_api_Pipe_Decode, trivial, trivial⟩, trivial⟩, ⟨x_host_Host_Fresh, trivial, trivial⟩⟩⟩, ⟨x_kern_Kern_bytes, ⟨x_commons_Commons_Term, ⟨x_slices_Clone_s_byte_byte, ⟨x_commons_Commons_Proc, trivial, trivial⟩, trivial⟩, ⟨x_ring_Put, trivial, trivial⟩⟩, ⟨x_slices_ContainsFunc_s_int_int, ⟨x_kern_check_1, ⟨x_kern_Kern_number, trivial, trivial⟩, trivial⟩, ⟨x_kern_share, trivial, trivial⟩⟩⟩⟩, ⟨x_commons_FrontBytes, ⟨x_caps_Space_add, ⟨x_caps_Space_Put_1, ⟨x_slices_Index_s_int_int, ⟨x_mem_Mem_Size, trivial, trivial⟩, trivial⟩, ⟨x_caps_Space_is, trivial, trivial⟩⟩, ⟨x_ring_Encode, ⟨x_caps_Space_Names, ⟨x_kern_Kern_Space, trivial, trivial⟩, trivial⟩, ⟨x_commons_Commons_write, trivial, trivial⟩⟩⟩, ⟨x_commons_proc, ⟨x_commons_pipe, ⟨x_commons_file, ⟨x_ofile_Encode, trivial, trivial⟩, trivial⟩, ⟨x_pslot_Encode, trivial, trivial⟩⟩, ⟨x_slices_ContainsFunc_s_byte_byte, ⟨x_mem_Mem_Load, trivial, trivial⟩, ⟨x_codec_Blank_1, trivial, trivial⟩⟩⟩⟩⟩⟩, ⟨x_commons_record_api_File, ⟨x_slices_IndexFunc_s_int_int, ⟨x_commons_Commons_Pipe, ⟨x_host_Host_want, ⟨x_ring_Ok_1, ⟨x_ring_get, ⟨x_ring_put, trivial, trivial⟩, trivial⟩, ⟨x_host_Host_leave, trivial, trivial⟩⟩, ⟨x_commons_Commons_File, ⟨x_host_Host_end, ⟨x_host_Host_in, trivial, trivial⟩, trivial⟩, ⟨x_commons_Commons_most, trivial, trivial⟩⟩⟩, ⟨x_region_Regions_Read, ⟨x_pslot_Decode, ⟨x_commons_record_api_Proc, ⟨x_commons_Commons_Front, trivial, trivial⟩, trivial⟩, ⟨x_commons_record_api_Pipe, trivial, trivial⟩⟩, ⟨x_kern_Kern_enter, ⟨x_caps_Space_Revoke, ⟨x_region_Regions_Write, trivial, trivial⟩, trivial⟩, ⟨x_kern_Kern_leave, trivial, trivial⟩⟩⟩⟩, ⟨x_mem_Mem_in, ⟨x_codec_Sum, ⟨x_codec_Codec_api_Pipe_Encode, ⟨x_table_Table_api_Cap_Names, ⟨x_table_Table_api_Cap_Add, trivial, trivial⟩, trivial⟩, ⟨x_commons_Commons_place, trivial, trivial⟩⟩, ⟨x_pslot_Codec, ⟨x_codec_Codec_api_File_Encode, ⟨x_ofile_Codec, trivial, trivial⟩, trivial⟩, ⟨x_codec_Codec_api_Proc_Encode, trivial, trivial⟩⟩⟩, ⟨x_sect_Sect_Holds, ⟨x_host_Host_back, ⟨x_slices_Equal_s_byte_byte, ⟨x_slices_IndexFunc_s_byte_byte, trivial, trivial⟩, trivial⟩, ⟨x_sect_Sect_Quit, trivial, trivial⟩⟩, ⟨x_sig_Deliver, ⟨x_calls_Do, trivial, trivial⟩, ⟨x_proc_Exit, trivial, trivial⟩⟩⟩⟩⟩, ⟨x_proc_Wait, ⟨x_sect_Sect_Enter, ⟨x_codec_Codec_api_Proc_Decode, ⟨x_commons_FrontOf, ⟨x_commons_record_int, ⟨x_ofile_Decode, trivial, trivial⟩, trivial⟩, ⟨x_commons_Commons_read, trivial, trivial⟩⟩, ⟨x_caps_Space_Get, ⟨x_mem_Mem_Store, ⟨x_region_Regions_place, trivial, trivial⟩, trivial⟩, ⟨x_kern_Kern_sect, trivial, trivial⟩⟩⟩, ⟨x_ofile_get, ⟨x_codec_New_api_File, ⟨x_table_Table_api_Cap_name, ⟨x_sect_Sect_Leave, trivial, trivial⟩, trivial⟩, ⟨x_ofile_put, trivial, trivial⟩⟩, ⟨x_pslot_get, ⟨x_pslot_put, ⟨x_codec_New_api_Proc, trivial, trivial⟩, trivial⟩, ⟨x_calls_files, trivial, trivial⟩⟩⟩⟩, ⟨x_pslot_Ok, ⟨x_proc_Self, ⟨x_fds_Of, ⟨x_sig_Next, ⟨x_calls_told, trivial, trivial⟩, trivial⟩, ⟨x_pred_Any, trivial, trivial⟩⟩, ⟨x_table_Table_api_Cap_at, ⟨x_table_Table_api_Cap_Get, ⟨x_codec_Codec_api_File_Decode, trivial, trivial⟩, trivial⟩, ⟨x_ofile_Ok, trivial, trivial⟩⟩⟩, ⟨x_pslot_bits, ⟨x_pipes_Write, ⟨x_codec_Get2, ⟨x_codec_Put2, trivial, trivial⟩, trivial⟩, ⟨x_fds_named, trivial, trivial⟩⟩, ⟨x_pipes_of, ⟨x_pslot_Ok_1, trivial, trivial⟩, ⟨x_pipes_of_1, trivial, trivial⟩⟩⟩⟩⟩⟩⟩, ⟨x_slices_Index_s_int_int_L1, ⟨x_world_World_begin_R1, ⟨x_kern_New_L3, ⟨x_world_Check_L1, ⟨x_world_New_L1, ⟨x_trace_Flow_L1, trivial, trivial⟩, ⟨x_world_New_L2, trivial, trivial⟩⟩, ⟨x_kern_New_L2, ⟨x_kern_New_L1, trivial, trivial⟩, trivial⟩⟩, ⟨x_world_Boot_L3, ⟨x_world_Boot_L1, ⟨x_kern_New_L4, trivial, trivial⟩, trivial⟩, ⟨x_world_World_begin_L1, ⟨x_world_Boot_L2, trivial, trivial⟩, trivial⟩⟩⟩, ⟨x_host_Host_Pick_R1, ⟨x_caps_New_L1, ⟨x_kern_check_L1, ⟨x_ring_Bytes_L1, trivial, trivial⟩, ⟨x_kern_check_L2, trivial, trivial⟩⟩, ⟨x_quota_Quota_First_L1, ⟨x_quota_New_L1, trivial, trivial⟩, trivial⟩⟩, ⟨x_commons_Commons_Look_L3, ⟨x_commons_Commons_Look_L2, ⟨x_commons_Commons_Look_L1, trivial, trivial⟩, trivial⟩, ⟨x_table_New_api_Cap_L1, ⟨x_ring_Put_L1, trivial, trivial⟩, trivial⟩⟩⟩⟩, ⟨x_commons_record_int_R1, ⟨x_codec_Sum_L1, ⟨x_slices_IndexFunc_s_int_int_L1, ⟨x_commons_record_api_Pipe_R1, ⟨x_commons_record_api_Proc_R1, trivial, trivial⟩, ⟨x_caps_Space_Revoke_L1, trivial, trivial⟩⟩, ⟨x_table_Table_api_Cap_Names_L1, ⟨x_table_Table_api_Cap_Add_L1, trivial, trivial⟩, trivial⟩⟩, ⟨x_sect_Sect_Quit_R1, ⟨x_slices_Equal_s_byte_byte_L1, ⟨x_slices_IndexFunc_s_byte_byte_L1, trivial, trivial⟩, trivial⟩, ⟨x_commons_record_api_File_R1, ⟨x_sig_Deliver_L1, trivial, trivial⟩, trivial⟩⟩⟩, ⟨x_pslot_put_L2, ⟨x_sect_Sect_Enter_R4, ⟨x_sect_Sect_Enter_R2, ⟨x_sect_Sect_Enter_R1, trivial, trivial⟩, ⟨x_sect_Sect_Enter_R3, trivial, trivial⟩⟩, ⟨x_pslot_put_L1, ⟨x_sect_Sect_Enter_L1, trivial, trivial⟩, trivial⟩⟩, ⟨x_pslot_get_L2, ⟨x_pslot_get_L1, ⟨x_pslot_put_L3, trivial, trivial⟩, trivial⟩, ⟨x_sig_Next_R1, ⟨x_proc_Wait_L1, trivial, trivial⟩, trivial⟩⟩⟩⟩⟩⟩
theorem tabs_rx : Go.NF.Rx TABS := ⟨⟨r_codec_New_api_Pipe, ⟨r_commons_Commons_SetProc, ⟨r_pipes_Type, ⟨r_kern_New, ⟨r_world_New, ⟨r_trace_Flow, ⟨r_trace_Fifo, ⟨r_law25_awake, trivial, trivial⟩, trivial⟩, ⟨r_bytes_HasPrefix, trivial, trivial⟩⟩, ⟨r_bytes_Equal, ⟨r_world_World_Do, ⟨r_trace_look, trivial, trivial⟩, trivial⟩, ⟨r_world_Check, trivial, trivial⟩⟩⟩, ⟨r_ring_Decode, ⟨r_host_New, ⟨r_world_World_begin, ⟨r_world_Boot, trivial, trivial⟩, trivial⟩, ⟨r_world_World_Bridge, trivial, trivial⟩⟩, ⟨r_world_World_pick, ⟨r_world_World_Host, ⟨r_ring_Bytes, trivial, trivial⟩, trivial⟩, ⟨r_host_Host_Start, trivial, trivial⟩⟩⟩⟩, ⟨r_sect_New, ⟨r_slices_Clone_s_int_int, ⟨r_kern_check, ⟨r_kern_Kern_Do, ⟨r_host_Host_Commons, trivial, trivial⟩, trivial⟩, ⟨r_kern_frames, trivial, trivial⟩⟩, ⟨r_quota_New, ⟨r_caps_New, ⟨r_mem_New, trivial, trivial⟩, trivial⟩, ⟨r_region_New, trivial, trivial⟩⟩⟩, ⟨r_commons_New, ⟨r_slices_Contains_s_int_int, ⟨r_quota_Quota_First, ⟨r_region_Regions_Add, trivial, trivial⟩, trivial⟩, ⟨r_caps_Space_Put, trivial, trivial⟩⟩, ⟨r_commons_Commons_SetFile, ⟨r_commons_Commons_SetFront, ⟨r_commons_Commons_SetTerm, trivial, trivial⟩, trivial⟩, ⟨r_commons_Commons_SetPipe, trivial, trivial⟩⟩⟩⟩⟩, ⟨r_table_New_api_Cap, ⟨r_commons_Commons_Look, ⟨r_ring_Codec, ⟨r_region_Regions_Raw, ⟨r_kern_Kern_Regions, ⟨r_kern_Kern_Sect, trivial, trivial⟩, trivial⟩, ⟨r_codec_Blank, trivial, trivial⟩⟩, ⟨r_host_Host_Pick, ⟨r_ring_Ok, ⟨r_codec_Codec_api_Pipe_Decode, trivial, trivial⟩, trivial⟩, ⟨r_host_Host_Fresh, trivial, trivial⟩⟩⟩, ⟨r_kern_Kern_bytes, ⟨r_commons_Commons_Term, ⟨r_slices_Clone_s_byte_byte, ⟨r_commons_Commons_Proc, trivial, trivial⟩, trivial⟩, ⟨r_ring_Put, trivial, trivial⟩⟩, ⟨r_slices_ContainsFunc_s_int_int, ⟨r_kern_check_1, ⟨r_kern_Kern_number, trivial, trivial⟩, trivial⟩, ⟨r_kern_share, trivial, trivial⟩⟩⟩⟩, ⟨r_commons_FrontBytes, ⟨r_caps_Space_add, ⟨r_caps_Space_Put_1, ⟨r_slices_Index_s_int_int, ⟨r_mem_Mem_Size, trivial, trivial⟩, trivial⟩, ⟨r_caps_Space_is, trivial, trivial⟩⟩, ⟨r_ring_Encode, ⟨r_caps_Space_Names, ⟨r_kern_Kern_Space, trivial, trivial⟩, trivial⟩, ⟨r_commons_Commons_write, trivial, trivial⟩⟩⟩, ⟨r_commons_proc, ⟨r_commons_pipe, ⟨r_commons_file, ⟨r_ofile_Encode, trivial, trivial⟩, trivial⟩, ⟨r_pslot_Encode, trivial, trivial⟩⟩, ⟨r_slices_ContainsFunc_s_byte_byte, ⟨r_mem_Mem_Load, trivial, trivial⟩, ⟨r_codec_Blank_1, trivial, trivial⟩⟩⟩⟩⟩⟩, ⟨r_commons_record_api_File, ⟨r_slices_IndexFunc_s_int_int, ⟨r_commons_Commons_Pipe, ⟨r_host_Host_want, ⟨r_ring_Ok_1, ⟨r_ring_get, ⟨r_ring_put, trivial, trivial⟩, trivial⟩, ⟨r_host_Host_leave, trivial, trivial⟩⟩, ⟨r_commons_Commons_File, ⟨r_host_Host_end, ⟨r_host_Host_in, trivial, trivial⟩, trivial⟩, ⟨r_commons_Commons_most, trivial, trivial⟩⟩⟩, ⟨r_region_Regions_Read, ⟨r_pslot_Decode, ⟨r_commons_record_api_Proc, ⟨r_commons_Commons_Front, trivial, trivial⟩, trivial⟩, ⟨r_commons_record_api_Pipe, trivial, trivial⟩⟩, ⟨r_kern_Kern_enter, ⟨r_caps_Space_Revoke, ⟨r_region_Regions_Write, trivial, trivial⟩, trivial⟩, ⟨r_kern_Kern_leave, trivial, trivial⟩⟩⟩⟩, ⟨r_mem_Mem_in, ⟨r_codec_Sum, ⟨r_codec_Codec_api_Pipe_Encode, ⟨r_table_Table_api_Cap_Names, ⟨r_table_Table_api_Cap_Add, trivial, trivial⟩, trivial⟩, ⟨r_commons_Commons_place, trivial, trivial⟩⟩, ⟨r_pslot_Codec, ⟨r_codec_Codec_api_File_Encode, ⟨r_ofile_Codec, trivial, trivial⟩, trivial⟩, ⟨r_codec_Codec_api_Proc_Encode, trivial, trivial⟩⟩⟩, ⟨r_sect_Sect_Holds, ⟨r_host_Host_back, ⟨r_slices_Equal_s_byte_byte, ⟨r_slices_IndexFunc_s_byte_byte, trivial, trivial⟩, trivial⟩, ⟨r_sect_Sect_Quit, trivial, trivial⟩⟩, ⟨r_sig_Deliver, ⟨r_calls_Do, trivial, trivial⟩, ⟨r_proc_Exit, trivial, trivial⟩⟩⟩⟩⟩, ⟨r_proc_Wait, ⟨r_sect_Sect_Enter, ⟨r_codec_Codec_api_Proc_Decode, ⟨r_commons_FrontOf, ⟨r_commons_record_int, ⟨r_ofile_Decode, trivial, trivial⟩, trivial⟩, ⟨r_commons_Commons_read, trivial, trivial⟩⟩, ⟨r_caps_Space_Get, ⟨r_mem_Mem_Store, ⟨r_region_Regions_place, trivial, trivial⟩, trivial⟩, ⟨r_kern_Kern_sect, trivial, trivial⟩⟩⟩, ⟨r_ofile_get, ⟨r_codec_New_api_File, ⟨r_table_Table_api_Cap_name, ⟨r_sect_Sect_Leave, trivial, trivial⟩, trivial⟩, ⟨r_ofile_put, trivial, trivial⟩⟩, ⟨r_pslot_get, ⟨r_pslot_put, ⟨r_codec_New_api_Proc, trivial, trivial⟩, trivial⟩, ⟨r_calls_files, trivial, trivial⟩⟩⟩⟩, ⟨r_pslot_Ok, ⟨r_proc_Self, ⟨r_fds_Of, ⟨r_sig_Next, ⟨r_calls_told, trivial, trivial⟩, trivial⟩, ⟨r_pred_Any, trivial, trivial⟩⟩, ⟨r_table_Table_api_Cap_at, ⟨r_table_Table_api_Cap_Get, ⟨r_codec_Codec_api_File_Decode, trivial, trivial⟩, trivial⟩, ⟨r_ofile_Ok, trivial, trivial⟩⟩⟩, ⟨r_pslot_bits, ⟨r_pipes_Write, ⟨r_codec_Get2, ⟨r_codec_Put2, trivial, trivial⟩, trivial⟩, ⟨r_fds_named, trivial, trivial⟩⟩, ⟨r_pipes_of, ⟨r_pslot_Ok_1, trivial, trivial⟩, ⟨r_pipes_of_1, trivial, trivial⟩⟩⟩⟩⟩⟩⟩, ⟨r_slices_Index_s_int_int_L1, ⟨r_world_World_begin_R1, ⟨r_kern_New_L3, ⟨r_world_Check_L1, ⟨r_world_New_L1, ⟨r_trace_Flow_L1, trivial, trivial⟩, ⟨r_world_New_L2, trivial, trivial⟩⟩, ⟨r_kern_New_L2, ⟨r_kern_New_L1, trivial, trivial⟩, trivial⟩⟩, ⟨r_world_Boot_L3, ⟨r_world_Boot_L1, ⟨r_kern_New_L4, trivial, trivial⟩, trivial⟩, ⟨r_world_World_begin_L1, ⟨r_world_Boot_L2, trivial, trivial⟩, trivial⟩⟩⟩, ⟨r_host_Host_Pick_R1, ⟨r_caps_New_L1, ⟨r_kern_check_L1, ⟨r_ring_Bytes_L1, trivial, trivial⟩, ⟨r_kern_check_L2, trivial, trivial⟩⟩, ⟨r_quota_Quota_First_L1, ⟨r_quota_New_L1, trivial, trivial⟩, trivial⟩⟩, ⟨r_commons_Commons_Look_L3, ⟨r_commons_Commons_Look_L2, ⟨r_commons_Commons_Look_L1, trivial, trivial⟩, trivial⟩, ⟨r_table_New_api_Cap_L1, ⟨r_ring_Put_L1, trivial, trivial⟩, trivial⟩⟩⟩⟩, ⟨r_commons_record_int_R1, ⟨r_codec_Sum_L1, ⟨r_slices_IndexFunc_s_int_int_L1, ⟨r_commons_record_api_Pipe_R1, ⟨r_commons_record_api_Proc_R1, trivial, trivial⟩, ⟨r_caps_Space_Revoke_L1, trivial, trivial⟩⟩, ⟨r_table_Table_api_Cap_Names_L1, ⟨r_table_Table_api_Cap_Add_L1, trivial, trivial⟩, trivial⟩⟩, ⟨r_sect_Sect_Quit_R1, ⟨r_slices_Equal_s_byte_byte_L1, ⟨r_slices_IndexFunc_s_byte_byte_L1, trivial, trivial⟩, trivial⟩, ⟨r_commons_record_api_File_R1, ⟨r_sig_Deliver_L1, trivial, trivial⟩, trivial⟩⟩⟩, ⟨r_pslot_put_L2, ⟨r_sect_Sect_Enter_R4, ⟨r_sect_Sect_Enter_R2, ⟨r_sect_Sect_Enter_R1, trivial, trivial⟩, ⟨r_sect_Sect_Enter_R3, trivial, trivial⟩⟩, ⟨r_pslot_put_L1, ⟨r_sect_Sect_Enter_L1, trivial, trivial⟩, trivial⟩⟩, ⟨r_pslot_get_L2, ⟨r_pslot_get_L1, ⟨r_pslot_put_L3, trivial, trivial⟩, trivial⟩, ⟨r_sig_Next_R1, ⟨r_proc_Wait_L1, trivial, trivial⟩, trivial⟩⟩⟩⟩⟩⟩
end Go.EQ

/- CommonsGone returns true whatever it is given: two whole numbers; its own run, by cases of the few bits that it reads of them. No condition. -/
import Derived.Test.YtocmejnmpmbepaaGreatMh
set_option linter.unusedVariables false
set_option linter.unusedSimpArgs false
set_option linter.unusedSectionVars false
set_option synthInstance.maxHeartbeats 0
set_option synthInstance.maxSize 1000000000000000000000000000000000000000000000000000000000000
set_option maxHeartbeats 0
set_option maxRecDepth 100000
set_option linter.unusedVariables false
namespace Go.EQ
open Go Go.Proofs
open Go.NN hiding bnd ld gInt gBool gStr gPtr gSl gMap gFv gAgg gCells nw pV pAgg pCells apd fitsOpen liveA mapAt
open Go.NP Go.NW
open Go.NF
theorem r_commons_Commons_Term : RX X_commons_Commons_Term := fun call2 call run2 run hc hr a p => by unfold X_commons_Commons_Term; split <;> infer_instance
theorem r_commons_Commons_Front : RX X_commons_Commons_Front := fun call2 call run2 run hc hr a p => by unfold X_commons_Commons_Front; split <;> infer_instance
theorem r_commons_Commons_SetFront : RX X_commons_Commons_SetFront := fun call2 call run2 run hc hr a p => by unfold X_commons_Commons_SetFront; split <;> infer_instance
theorem r_fds_Pipe : RX X_fds_Pipe := fun call2 call run2 run hc hr a p => by unfold X_fds_Pipe; split <;> infer_instance
theorem r_law18_awake : RX X_law18_awake := fun call2 call run2 run hc hr a p => by unfold X_law18_awake; split <;> infer_instance
theorem r_ref1_Kern_Do : RX X_ref1_Kern_Do := fun call2 call run2 run hc hr a p => by unfold X_ref1_Kern_Do; split <;> infer_instance
theorem r_ref15_NewCommons : RX X_ref15_NewCommons := fun call2 call run2 run hc hr a p => by unfold X_ref15_NewCommons; split <;> infer_instance
theorem r_commons_record_api_File : RX X_commons_record_api_File := fun call2 call run2 run hc hr a p => by unfold X_commons_record_api_File; split <;> infer_instance
theorem r_commons_record_api_File_R1 : RX X_commons_record_api_File_R1 := fun call2 call run2 run hc hr a p => by unfold X_commons_record_api_File_R1; split <;> infer_instance
theorem r_ofile_Decode : RX X_ofile_Decode := fun call2 call run2 run hc hr a p => by unfold X_ofile_Decode; split <;> infer_instance
theorem r_commons_record_int : RX X_commons_record_int := fun call2 call run2 run hc hr a p => by unfold X_commons_record_int; split <;> infer_instance
theorem r_commons_record_int_R1 : RX X_commons_record_int_R1 := fun call2 call run2 run hc hr a p => by unfold X_commons_record_int_R1; split <;> infer_instance
theorem r_ref11_ProcBytes : RX X_ref11_ProcBytes := fun call2 call run2 run hc hr a p => by unfold X_ref11_ProcBytes; split <;> infer_instance
theorem r_ref11_ProcBytes_L1 : RX X_ref11_ProcBytes_L1 := fun call2 call run2 run hc hr a p => by unfold X_ref11_ProcBytes_L1; split <;> infer_instance
theorem r_ref11_FileBytes : RX X_ref11_FileBytes := fun call2 call run2 run hc hr a p => by unfold X_ref11_FileBytes; split <;> infer_instance
theorem r_proc_Self : RX X_proc_Self := fun call2 call run2 run hc hr a p => by unfold X_proc_Self; split <;> infer_instance
theorem r_mem_Mem_Load : RX X_mem_Mem_Load := fun call2 call run2 run hc hr a p => by unfold X_mem_Mem_Load; split <;> infer_instance
theorem r_fds_Pipe_1 : RX X_fds_Pipe_1 := fun call2 call run2 run hc hr a p => by unfold X_fds_Pipe_1; split <;> infer_instance
theorem r_commons_Commons_SetFile : RX X_commons_Commons_SetFile := fun call2 call run2 run hc hr a p => by unfold X_commons_Commons_SetFile; split <;> infer_instance
theorem r_fds_named : RX X_fds_named := fun call2 call run2 run hc hr a p => by unfold X_fds_named; split <;> infer_instance
theorem r_quota_New : RX X_quota_New := fun call2 call run2 run hc hr a p => by unfold X_quota_New; split <;> infer_instance
theorem r_quota_New_L1 : RX X_quota_New_L1 := fun call2 call run2 run hc hr a p => by unfold X_quota_New_L1; split <;> infer_instance
theorem r_ref1_Regions_Read : RX X_ref1_Regions_Read := fun call2 call run2 run hc hr a p => by unfold X_ref1_Regions_Read; split <;> infer_instance
theorem r_ref1_Regions_Write : RX X_ref1_Regions_Write := fun call2 call run2 run hc hr a p => by unfold X_ref1_Regions_Write; split <;> infer_instance
theorem r_ref1_Space_Grant : RX X_ref1_Space_Grant := fun call2 call run2 run hc hr a p => by unfold X_ref1_Space_Grant; split <;> infer_instance
theorem r_ref1_Space_All : RX X_ref1_Space_All := fun call2 call run2 run hc hr a p => by unfold X_ref1_Space_All; split <;> infer_instance
theorem r_region_Regions_Copy : RX X_region_Regions_Copy := fun call2 call run2 run hc hr a p => by unfold X_region_Regions_Copy; split <;> infer_instance
theorem r_kern_Kern_leave : RX X_kern_Kern_leave := fun call2 call run2 run hc hr a p => by unfold X_kern_Kern_leave; split <;> infer_instance
theorem r_commons_Commons_read : RX X_commons_Commons_read := fun call2 call run2 run hc hr a p => by unfold X_commons_Commons_read; split <;> infer_instance
theorem r_codec_Blank : RX X_codec_Blank := fun call2 call run2 run hc hr a p => by unfold X_codec_Blank; split <;> infer_instance
theorem r_codec_Codec_api_Proc_Encode : RX X_codec_Codec_api_Proc_Encode := fun call2 call run2 run hc hr a p => by unfold X_codec_Codec_api_Proc_Encode; split <;> infer_instance
theorem r_ref1_Sum : RX X_ref1_Sum := fun call2 call run2 run hc hr a p => by unfold X_ref1_Sum; split <;> infer_instance
theorem r_ref1_Sum_L1 : RX X_ref1_Sum_L1 := fun call2 call run2 run hc hr a p => by unfold X_ref1_Sum_L1; split <;> infer_instance
theorem r_ref1_Two : RX X_ref1_Two := fun call2 call run2 run hc hr a p => by unfold X_ref1_Two; split <;> infer_instance
theorem r_mem_Mem_in : RX X_mem_Mem_in := fun call2 call run2 run hc hr a p => by unfold X_mem_Mem_in; split <;> infer_instance
theorem r_ring_Encode : RX X_ring_Encode := fun call2 call run2 run hc hr a p => by unfold X_ring_Encode; split <;> infer_instance
theorem r_commons_Commons_FreePipe : RX X_commons_Commons_FreePipe := fun call2 call run2 run hc hr a p => by unfold X_commons_Commons_FreePipe; split <;> infer_instance
theorem r_table_New_api_Cap : RX X_table_New_api_Cap := fun call2 call run2 run hc hr a p => by unfold X_table_New_api_Cap; split <;> infer_instance
theorem r_table_New_api_Cap_L1 : RX X_table_New_api_Cap_L1 := fun call2 call run2 run hc hr a p => by unfold X_table_New_api_Cap_L1; split <;> infer_instance
theorem r_mem_Mem_Size : RX X_mem_Mem_Size := fun call2 call run2 run hc hr a p => by unfold X_mem_Mem_Size; split <;> infer_instance
theorem r_ref1_Space_Get : RX X_ref1_Space_Get := fun call2 call run2 run hc hr a p => by unfold X_ref1_Space_Get; split <;> infer_instance
theorem r_ref1_Sect_at : RX X_ref1_Sect_at := fun call2 call run2 run hc hr a p => by unfold X_ref1_Sect_at; split <;> infer_instance
theorem r_ref1_Sect_at_L1 : RX X_ref1_Sect_at_L1 := fun call2 call run2 run hc hr a p => by unfold X_ref1_Sect_at_L1; split <;> infer_instance
theorem r_mem_Mem_Store : RX X_mem_Mem_Store := fun call2 call run2 run hc hr a p => by unfold X_mem_Mem_Store; split <;> infer_instance
theorem r_quota_Quota_Owns : RX X_quota_Quota_Owns := fun call2 call run2 run hc hr a p => by unfold X_quota_Quota_Owns; split <;> infer_instance
theorem r_kern_Kern_sect : RX X_kern_Kern_sect := fun call2 call run2 run hc hr a p => by unfold X_kern_Kern_sect; split <;> infer_instance
theorem r_sect_Sect_Leave : RX X_sect_Sect_Leave := fun call2 call run2 run hc hr a p => by unfold X_sect_Sect_Leave; split <;> infer_instance
theorem r_pslot_put : RX X_pslot_put := fun call2 call run2 run hc hr a p => by unfold X_pslot_put; split <;> infer_instance
theorem r_pslot_put_L1 : RX X_pslot_put_L1 := fun call2 call run2 run hc hr a p => by unfold X_pslot_put_L1; split <;> infer_instance
theorem r_pslot_put_L2 : RX X_pslot_put_L2 := fun call2 call run2 run hc hr a p => by unfold X_pslot_put_L2; split <;> infer_instance
theorem r_pslot_put_L3 : RX X_pslot_put_L3 := fun call2 call run2 run hc hr a p => by unfold X_pslot_put_L3; split <;> infer_instance
theorem r_codec_New_api_Pipe : RX X_codec_New_api_Pipe := fun call2 call run2 run hc hr a p => by unfold X_codec_New_api_Pipe; split <;> infer_instance
theorem r_slices_IndexFunc_s_int_int : RX X_slices_IndexFunc_s_int_int := fun call2 call run2 run hc hr a p => by unfold X_slices_IndexFunc_s_int_int; split <;> infer_instance
theorem r_slices_IndexFunc_s_int_int_L1 : RX X_slices_IndexFunc_s_int_int_L1 := fun call2 call run2 run hc hr a p => by unfold X_slices_IndexFunc_s_int_int_L1; split <;> infer_instance
theorem r_ref1_Names_Add : RX X_ref1_Names_Add := fun call2 call run2 run hc hr a p => by unfold X_ref1_Names_Add; split <;> infer_instance
theorem r_ref1_Names_Add_L1 : RX X_ref1_Names_Add_L1 := fun call2 call run2 run hc hr a p => by unfold X_ref1_Names_Add_L1; split <;> infer_instance
theorem r_slices_SortFunc_s_api_Ref_api_Ref : RX X_slices_SortFunc_s_api_Ref_api_Ref := fun call2 call run2 run hc hr a p => by unfold X_slices_SortFunc_s_api_Ref_api_Ref; split <;> infer_instance
theorem r_ofile_Ok : RX X_ofile_Ok := fun call2 call run2 run hc hr a p => by unfold X_ofile_Ok; split <;> infer_instance
theorem r_pslot_bits : RX X_pslot_bits := fun call2 call run2 run hc hr a p => by unfold X_pslot_bits; split <;> infer_instance
theorem r_slices_breakPatternsCmpFunc_api_Ref : RX X_slices_breakPatternsCmpFunc_api_Ref := fun call2 call run2 run hc hr a p => by unfold X_slices_breakPatternsCmpFunc_api_Ref; split <;> infer_instance
theorem r_slices_breakPatternsCmpFunc_api_Ref_L1 : RX X_slices_breakPatternsCmpFunc_api_Ref_L1 := fun call2 call run2 run hc hr a p => by unfold X_slices_breakPatternsCmpFunc_api_Ref_L1; split <;> infer_instance
theorem r_slices_breakPatternsCmpFunc_api_Ref_R1 : RX X_slices_breakPatternsCmpFunc_api_Ref_R1 := fun call2 call run2 run hc hr a p => by unfold X_slices_breakPatternsCmpFunc_api_Ref_R1; split <;> infer_instance
theorem r_slices_reverseRangeCmpFunc_api_Ref : RX X_slices_reverseRangeCmpFunc_api_Ref := fun call2 call run2 run hc hr a p => by unfold X_slices_reverseRangeCmpFunc_api_Ref; split <;> infer_instance
theorem r_slices_reverseRangeCmpFunc_api_Ref_L1 : RX X_slices_reverseRangeCmpFunc_api_Ref_L1 := fun call2 call run2 run hc hr a p => by unfold X_slices_reverseRangeCmpFunc_api_Ref_L1; split <;> infer_instance
theorem r_slices_partialInsertionSortCmpFunc_api_Ref : RX X_slices_partialInsertionSortCmpFunc_api_Ref := fun call2 call run2 run hc hr a p => by unfold X_slices_partialInsertionSortCmpFunc_api_Ref; split <;> infer_instance
theorem r_slices_partialInsertionSortCmpFunc_api_Ref_L1 : RX X_slices_partialInsertionSortCmpFunc_api_Ref_L1 := fun call2 call run2 run hc hr a p => by unfold X_slices_partialInsertionSortCmpFunc_api_Ref_L1; split <;> infer_instance
theorem r_slices_partialInsertionSortCmpFunc_api_Ref_L2 : RX X_slices_partialInsertionSortCmpFunc_api_Ref_L2 := fun call2 call run2 run hc hr a p => by unfold X_slices_partialInsertionSortCmpFunc_api_Ref_L2; split <;> infer_instance
theorem r_slices_partialInsertionSortCmpFunc_api_Ref_L3 : RX X_slices_partialInsertionSortCmpFunc_api_Ref_L3 := fun call2 call run2 run hc hr a p => by unfold X_slices_partialInsertionSortCmpFunc_api_Ref_L3; split <;> infer_instance
theorem r_slices_partialInsertionSortCmpFunc_api_Ref_R1 : RX X_slices_partialInsertionSortCmpFunc_api_Ref_R1 := fun call2 call run2 run hc hr a p => by unfold X_slices_partialInsertionSortCmpFunc_api_Ref_R1; split <;> infer_instance
theorem r_slices_partialInsertionSortCmpFunc_api_Ref_L4 : RX X_slices_partialInsertionSortCmpFunc_api_Ref_L4 := fun call2 call run2 run hc hr a p => by unfold X_slices_partialInsertionSortCmpFunc_api_Ref_L4; split <;> infer_instance
theorem r_slices_partitionEqualCmpFunc_api_Ref : RX X_slices_partitionEqualCmpFunc_api_Ref := fun call2 call run2 run hc hr a p => by unfold X_slices_partitionEqualCmpFunc_api_Ref; split <;> infer_instance
theorem r_slices_partitionEqualCmpFunc_api_Ref_L1 : RX X_slices_partitionEqualCmpFunc_api_Ref_L1 := fun call2 call run2 run hc hr a p => by unfold X_slices_partitionEqualCmpFunc_api_Ref_L1; split <;> infer_instance
theorem r_slices_partitionEqualCmpFunc_api_Ref_L2 : RX X_slices_partitionEqualCmpFunc_api_Ref_L2 := fun call2 call run2 run hc hr a p => by unfold X_slices_partitionEqualCmpFunc_api_Ref_L2; split <;> infer_instance
theorem r_slices_partitionEqualCmpFunc_api_Ref_L3 : RX X_slices_partitionEqualCmpFunc_api_Ref_L3 := fun call2 call run2 run hc hr a p => by unfold X_slices_partitionEqualCmpFunc_api_Ref_L3; split <;> infer_instance
theorem r_slices_siftDownCmpFunc_api_Ref : RX X_slices_siftDownCmpFunc_api_Ref := fun call2 call run2 run hc hr a p => by unfold X_slices_siftDownCmpFunc_api_Ref; split <;> infer_instance
theorem r_slices_siftDownCmpFunc_api_Ref_L1 : RX X_slices_siftDownCmpFunc_api_Ref_L1 := fun call2 call run2 run hc hr a p => by unfold X_slices_siftDownCmpFunc_api_Ref_L1; split <;> infer_instance
theorem r_slices_siftDownCmpFunc_api_Ref_R1 : RX X_slices_siftDownCmpFunc_api_Ref_R1 := fun call2 call run2 run hc hr a p => by unfold X_slices_siftDownCmpFunc_api_Ref_R1; split <;> infer_instance
theorem r_slices_nextPowerOfTwo : RX X_slices_nextPowerOfTwo := fun call2 call run2 run hc hr a p => by unfold X_slices_nextPowerOfTwo; split <;> infer_instance
theorem r_slices_order2CmpFunc_api_Ref : RX X_slices_order2CmpFunc_api_Ref := fun call2 call run2 run hc hr a p => by unfold X_slices_order2CmpFunc_api_Ref; split <;> infer_instance
end Go.EQ

set_option synthInstance.maxHeartbeats 0
set_option synthInstance.maxSize 1000000000000000000000000000000000000000000000000000000000000
set_option maxHeartbeats 0
set_option maxRecDepth 100000
set_option linter.unusedVariables false
namespace Go.EQ
open Go Go.Proofs
open Go.NN hiding bnd ld gInt gBool gStr gPtr gSl gMap gFv gAgg gCells nw pV pAgg pCells apd fitsOpen liveA mapAt
open Go.NP Go.NW
open Go.NF
theorem r_law15_Plan : RX X_law15_Plan := fun call2 call run2 run hc hr a p => by unfold X_law15_Plan; split <;> infer_instance
theorem r_caps_Space_Names : RX X_caps_Space_Names := fun call2 call run2 run hc hr a p => by unfold X_caps_Space_Names; split <;> infer_instance
theorem r_commons_Commons_Pipe : RX X_commons_Commons_Pipe := fun call2 call run2 run hc hr a p => by unfold X_commons_Commons_Pipe; split <;> infer_instance
theorem r_law17_First : RX X_law17_First := fun call2 call run2 run hc hr a p => by unfold X_law17_First; split <;> infer_instance
theorem r_kern_Kern_Regions : RX X_kern_Kern_Regions := fun call2 call run2 run hc hr a p => by unfold X_kern_Kern_Regions; split <;> infer_instance
theorem r_proc_Fork : RX X_proc_Fork := fun call2 call run2 run hc hr a p => by unfold X_proc_Fork; split <;> infer_instance
theorem r_commons_record_api_Proc : RX X_commons_record_api_Proc := fun call2 call run2 run hc hr a p => by unfold X_commons_record_api_Proc; split <;> infer_instance
theorem r_commons_record_api_Proc_R1 : RX X_commons_record_api_Proc_R1 := fun call2 call run2 run hc hr a p => by unfold X_commons_record_api_Proc_R1; split <;> infer_instance
theorem r_commons_file : RX X_commons_file := fun call2 call run2 run hc hr a p => by unfold X_commons_file; split <;> infer_instance
theorem r_commons_FrontOf : RX X_commons_FrontOf := fun call2 call run2 run hc hr a p => by unfold X_commons_FrontOf; split <;> infer_instance
theorem r_law11_Proc_1 : RX X_law11_Proc_1 := fun call2 call run2 run hc hr a p => by unfold X_law11_Proc_1; split <;> infer_instance
theorem r_ref11_PipeBytes : RX X_ref11_PipeBytes := fun call2 call run2 run hc hr a p => by unfold X_ref11_PipeBytes; split <;> infer_instance
theorem r_ref11_PipeBytes_L1 : RX X_ref11_PipeBytes_L1 := fun call2 call run2 run hc hr a p => by unfold X_ref11_PipeBytes_L1; split <;> infer_instance
theorem r_proc_told : RX X_proc_told := fun call2 call run2 run hc hr a p => by unfold X_proc_told; split <;> infer_instance
theorem r_proc_free : RX X_proc_free := fun call2 call run2 run hc hr a p => by unfold X_proc_free; split <;> infer_instance
theorem r_proc_free_L1 : RX X_proc_free_L1 := fun call2 call run2 run hc hr a p => by unfold X_proc_free_L1; split <;> infer_instance
theorem r_proc_share : RX X_proc_share := fun call2 call run2 run hc hr a p => by unfold X_proc_share; split <;> infer_instance
theorem r_proc_share_L1 : RX X_proc_share_L1 := fun call2 call run2 run hc hr a p => by unfold X_proc_share_L1; split <;> infer_instance
theorem r_proc_share_L2 : RX X_proc_share_L2 := fun call2 call run2 run hc hr a p => by unfold X_proc_share_L2; split <;> infer_instance
theorem r_proc_share_L3 : RX X_proc_share_L3 := fun call2 call run2 run hc hr a p => by unfold X_proc_share_L3; split <;> infer_instance
theorem r_fds_told : RX X_fds_told := fun call2 call run2 run hc hr a p => by unfold X_fds_told; split <;> infer_instance
theorem r_commons_Commons_SetPipe : RX X_commons_Commons_SetPipe := fun call2 call run2 run hc hr a p => by unfold X_commons_Commons_SetPipe; split <;> infer_instance
theorem r_kern_frames : RX X_kern_frames := fun call2 call run2 run hc hr a p => by unfold X_kern_frames; split <;> infer_instance
theorem r_mem_New : RX X_mem_New := fun call2 call run2 run hc hr a p => by unfold X_mem_New; split <;> infer_instance
theorem r_caps_New : RX X_caps_New := fun call2 call run2 run hc hr a p => by unfold X_caps_New; split <;> infer_instance
theorem r_caps_New_L1 : RX X_caps_New_L1 := fun call2 call run2 run hc hr a p => by unfold X_caps_New_L1; split <;> infer_instance
theorem r_region_New : RX X_region_New := fun call2 call run2 run hc hr a p => by unfold X_region_New; split <;> infer_instance
theorem r_region_Regions_Add : RX X_region_Regions_Add := fun call2 call run2 run hc hr a p => by unfold X_region_Regions_Add; split <;> infer_instance
theorem r_slices_Contains_s_int_int : RX X_slices_Contains_s_int_int := fun call2 call run2 run hc hr a p => by unfold X_slices_Contains_s_int_int; split <;> infer_instance
theorem r_ref1_Space_Put : RX X_ref1_Space_Put := fun call2 call run2 run hc hr a p => by unfold X_ref1_Space_Put; split <;> infer_instance
theorem r_ref15_FrontBytes : RX X_ref15_FrontBytes := fun call2 call run2 run hc hr a p => by unfold X_ref15_FrontBytes; split <;> infer_instance
theorem r_ref1_Kern_may : RX X_ref1_Kern_may := fun call2 call run2 run hc hr a p => by unfold X_ref1_Kern_may; split <;> infer_instance
theorem r_region_Regions_Read : RX X_region_Regions_Read := fun call2 call run2 run hc hr a p => by unfold X_region_Regions_Read; split <;> infer_instance
theorem r_region_Regions_Write : RX X_region_Regions_Write := fun call2 call run2 run hc hr a p => by unfold X_region_Regions_Write; split <;> infer_instance
theorem r_caps_Space_Revoke : RX X_caps_Space_Revoke := fun call2 call run2 run hc hr a p => by unfold X_caps_Space_Revoke; split <;> infer_instance
theorem r_caps_Space_Revoke_L1 : RX X_caps_Space_Revoke_L1 := fun call2 call run2 run hc hr a p => by unfold X_caps_Space_Revoke_L1; split <;> infer_instance
theorem r_kern_Kern_enter : RX X_kern_Kern_enter := fun call2 call run2 run hc hr a p => by unfold X_kern_Kern_enter; split <;> infer_instance
theorem r_codec_Codec_api_Pipe_Decode : RX X_codec_Codec_api_Pipe_Decode := fun call2 call run2 run hc hr a p => by unfold X_codec_Codec_api_Pipe_Decode; split <;> infer_instance
theorem r_commons_Commons_place : RX X_commons_Commons_place := fun call2 call run2 run hc hr a p => by unfold X_commons_Commons_place; split <;> infer_instance
theorem r_slices_Clone_s_byte_byte : RX X_slices_Clone_s_byte_byte := fun call2 call run2 run hc hr a p => by unfold X_slices_Clone_s_byte_byte; split <;> infer_instance
theorem r_fds_fdsOf_1 : RX X_fds_fdsOf_1 := fun call2 call run2 run hc hr a p => by unfold X_fds_fdsOf_1; split <;> infer_instance
theorem r_kern_check_1 : RX X_kern_check_1 := fun call2 call run2 run hc hr a p => by unfold X_kern_check_1; split <;> infer_instance
theorem r_slices_Index_s_int_int : RX X_slices_Index_s_int_int := fun call2 call run2 run hc hr a p => by unfold X_slices_Index_s_int_int; split <;> infer_instance
theorem r_slices_Index_s_int_int_L1 : RX X_slices_Index_s_int_int_L1 := fun call2 call run2 run hc hr a p => by unfold X_slices_Index_s_int_int_L1; split <;> infer_instance
theorem r_caps_Space_Put_1 : RX X_caps_Space_Put_1 := fun call2 call run2 run hc hr a p => by unfold X_caps_Space_Put_1; split <;> infer_instance
theorem r_ref1_NewNames : RX X_ref1_NewNames := fun call2 call run2 run hc hr a p => by unfold X_ref1_NewNames; split <;> infer_instance
theorem r_ref1_NewNames_L1 : RX X_ref1_NewNames_L1 := fun call2 call run2 run hc hr a p => by unfold X_ref1_NewNames_L1; split <;> infer_instance
theorem r_ref1_Space_add : RX X_ref1_Space_add := fun call2 call run2 run hc hr a p => by unfold X_ref1_Space_add; split <;> infer_instance
theorem r_ref1_Sect_Holds : RX X_ref1_Sect_Holds := fun call2 call run2 run hc hr a p => by unfold X_ref1_Sect_Holds; split <;> infer_instance
theorem r_ref1_Names_All : RX X_ref1_Names_All := fun call2 call run2 run hc hr a p => by unfold X_ref1_Names_All; split <;> infer_instance
theorem r_ref1_Names_All_L1 : RX X_ref1_Names_All_L1 := fun call2 call run2 run hc hr a p => by unfold X_ref1_Names_All_L1; split <;> infer_instance
theorem r_quota_Quota_is : RX X_quota_Quota_is := fun call2 call run2 run hc hr a p => by unfold X_quota_Quota_is; split <;> infer_instance
theorem r_sect_Sect_Enter : RX X_sect_Sect_Enter := fun call2 call run2 run hc hr a p => by unfold X_sect_Sect_Enter; split <;> infer_instance
theorem r_sect_Sect_Enter_R1 : RX X_sect_Sect_Enter_R1 := fun call2 call run2 run hc hr a p => by unfold X_sect_Sect_Enter_R1; split <;> infer_instance
theorem r_sect_Sect_Enter_R2 : RX X_sect_Sect_Enter_R2 := fun call2 call run2 run hc hr a p => by unfold X_sect_Sect_Enter_R2; split <;> infer_instance
theorem r_sect_Sect_Enter_R3 : RX X_sect_Sect_Enter_R3 := fun call2 call run2 run hc hr a p => by unfold X_sect_Sect_Enter_R3; split <;> infer_instance
theorem r_sect_Sect_Enter_R4 : RX X_sect_Sect_Enter_R4 := fun call2 call run2 run hc hr a p => by unfold X_sect_Sect_Enter_R4; split <;> infer_instance
theorem r_sect_Sect_Enter_L1 : RX X_sect_Sect_Enter_L1 := fun call2 call run2 run hc hr a p => by unfold X_sect_Sect_Enter_L1; split <;> infer_instance
theorem r_codec_New_api_File : RX X_codec_New_api_File := fun call2 call run2 run hc hr a p => by unfold X_codec_New_api_File; split <;> infer_instance
theorem r_ofile_put : RX X_ofile_put := fun call2 call run2 run hc hr a p => by unfold X_ofile_put; split <;> infer_instance
theorem r_ring_put : RX X_ring_put := fun call2 call run2 run hc hr a p => by unfold X_ring_put; split <;> infer_instance
theorem r_ref1_rising : RX X_ref1_rising := fun call2 call run2 run hc hr a p => by unfold X_ref1_rising; split <;> infer_instance
theorem r_ref1_rising_L1 : RX X_ref1_rising_L1 := fun call2 call run2 run hc hr a p => by unfold X_ref1_rising_L1; split <;> infer_instance
theorem r_ref1_rising_L2 : RX X_ref1_rising_L2 := fun call2 call run2 run hc hr a p => by unfold X_ref1_rising_L2; split <;> infer_instance
theorem r_table_Table_api_Cap_at : RX X_table_Table_api_Cap_at := fun call2 call run2 run hc hr a p => by unfold X_table_Table_api_Cap_at; split <;> infer_instance
theorem r_slices_IndexFunc_s_byte_byte : RX X_slices_IndexFunc_s_byte_byte := fun call2 call run2 run hc hr a p => by unfold X_slices_IndexFunc_s_byte_byte; split <;> infer_instance
theorem r_slices_IndexFunc_s_byte_byte_L1 : RX X_slices_IndexFunc_s_byte_byte_L1 := fun call2 call run2 run hc hr a p => by unfold X_slices_IndexFunc_s_byte_byte_L1; split <;> infer_instance
theorem r_codec_Put2 : RX X_codec_Put2 := fun call2 call run2 run hc hr a p => by unfold X_codec_Put2; split <;> infer_instance
theorem r_math_bits_Len : RX X_math_bits_Len := fun call2 call run2 run hc hr a p => by unfold X_math_bits_Len; split <;> infer_instance
theorem r_slices_insertionSortCmpFunc_api_Ref : RX X_slices_insertionSortCmpFunc_api_Ref := fun call2 call run2 run hc hr a p => by unfold X_slices_insertionSortCmpFunc_api_Ref; split <;> infer_instance
theorem r_slices_insertionSortCmpFunc_api_Ref_L1 : RX X_slices_insertionSortCmpFunc_api_Ref_L1 := fun call2 call run2 run hc hr a p => by unfold X_slices_insertionSortCmpFunc_api_Ref_L1; split <;> infer_instance
theorem r_slices_insertionSortCmpFunc_api_Ref_L2 : RX X_slices_insertionSortCmpFunc_api_Ref_L2 := fun call2 call run2 run hc hr a p => by unfold X_slices_insertionSortCmpFunc_api_Ref_L2; split <;> infer_instance
theorem r_slices_heapSortCmpFunc_api_Ref : RX X_slices_heapSortCmpFunc_api_Ref := fun call2 call run2 run hc hr a p => by unfold X_slices_heapSortCmpFunc_api_Ref; split <;> infer_instance
theorem r_slices_heapSortCmpFunc_api_Ref_L1 : RX X_slices_heapSortCmpFunc_api_Ref_L1 := fun call2 call run2 run hc hr a p => by unfold X_slices_heapSortCmpFunc_api_Ref_L1; split <;> infer_instance
theorem r_slices_heapSortCmpFunc_api_Ref_L2 : RX X_slices_heapSortCmpFunc_api_Ref_L2 := fun call2 call run2 run hc hr a p => by unfold X_slices_heapSortCmpFunc_api_Ref_L2; split <;> infer_instance
theorem r_slices_partitionCmpFunc_api_Ref : RX X_slices_partitionCmpFunc_api_Ref := fun call2 call run2 run hc hr a p => by unfold X_slices_partitionCmpFunc_api_Ref; split <;> infer_instance
theorem r_slices_partitionCmpFunc_api_Ref_L1 : RX X_slices_partitionCmpFunc_api_Ref_L1 := fun call2 call run2 run hc hr a p => by unfold X_slices_partitionCmpFunc_api_Ref_L1; split <;> infer_instance
theorem r_slices_partitionCmpFunc_api_Ref_L2 : RX X_slices_partitionCmpFunc_api_Ref_L2 := fun call2 call run2 run hc hr a p => by unfold X_slices_partitionCmpFunc_api_Ref_L2; split <;> infer_instance
theorem r_slices_partitionCmpFunc_api_Ref_L3 : RX X_slices_partitionCmpFunc_api_Ref_L3 := fun call2 call run2 run hc hr a p => by unfold X_slices_partitionCmpFunc_api_Ref_L3; split <;> infer_instance
theorem r_slices_partitionCmpFunc_api_Ref_L4 : RX X_slices_partitionCmpFunc_api_Ref_L4 := fun call2 call run2 run hc hr a p => by unfold X_slices_partitionCmpFunc_api_Ref_L4; split <;> infer_instance
theorem r_slices_partitionCmpFunc_api_Ref_L5 : RX X_slices_partitionCmpFunc_api_Ref_L5 := fun call2 call run2 run hc hr a p => by unfold X_slices_partitionCmpFunc_api_Ref_L5; split <;> infer_instance
theorem r_slices_medianAdjacentCmpFunc_api_Ref : RX X_slices_medianAdjacentCmpFunc_api_Ref := fun call2 call run2 run hc hr a p => by unfold X_slices_medianAdjacentCmpFunc_api_Ref; split <;> infer_instance
theorem r_slices_medianCmpFunc_api_Ref : RX X_slices_medianCmpFunc_api_Ref := fun call2 call run2 run hc hr a p => by unfold X_slices_medianCmpFunc_api_Ref; split <;> infer_instance
end Go.EQ

set_option synthInstance.maxHeartbeats 0
set_option synthInstance.maxSize 1000000000000000000000000000000000000000000000000000000000000
set_option maxHeartbeats 0
set_option maxRecDepth 100000
set_option linter.unusedVariables false
namespace Go.EQ
open Go Go.Proofs
open Go.NN hiding bnd ld gInt gBool gStr gPtr gSl gMap gFv gAgg gCells nw pV pAgg pCells apd fitsOpen liveA mapAt
open Go.NP Go.NW
open Go.NF
theorem r_law15_CommonsGone : RX X_law15_CommonsGone := fun call2 call run2 run hc hr a p => by unfold X_law15_CommonsGone; split <;> infer_instance
theorem r_law18_FdsLimits : RX X_law18_FdsLimits := fun call2 call run2 run hc hr a p => by unfold X_law18_FdsLimits; split <;> infer_instance
theorem r_law18_FdsLimits_L1 : RX X_law18_FdsLimits_L1 := fun call2 call run2 run hc hr a p => by unfold X_law18_FdsLimits_L1; split <;> infer_instance
theorem r_law18_FdsLimits_L2 : RX X_law18_FdsLimits_L2 := fun call2 call run2 run hc hr a p => by unfold X_law18_FdsLimits_L2; split <;> infer_instance
theorem r_law18_FdsLimits_R1 : RX X_law18_FdsLimits_R1 := fun call2 call run2 run hc hr a p => by unfold X_law18_FdsLimits_R1; split <;> infer_instance
theorem r_law15_Open : RX X_law15_Open := fun call2 call run2 run hc hr a p => by unfold X_law15_Open; split <;> infer_instance
theorem r_kern_Kern_Space : RX X_kern_Kern_Space := fun call2 call run2 run hc hr a p => by unfold X_kern_Kern_Space; split <;> infer_instance
theorem r_commons_Commons_File : RX X_commons_Commons_File := fun call2 call run2 run hc hr a p => by unfold X_commons_Commons_File; split <;> infer_instance
theorem r_commons_Commons_SetProc : RX X_commons_Commons_SetProc := fun call2 call run2 run hc hr a p => by unfold X_commons_Commons_SetProc; split <;> infer_instance
theorem r_law11_Proc : RX X_law11_Proc := fun call2 call run2 run hc hr a p => by unfold X_law11_Proc; split <;> infer_instance
theorem r_law11_Proc_L1 : RX X_law11_Proc_L1 := fun call2 call run2 run hc hr a p => by unfold X_law11_Proc_L1; split <;> infer_instance
theorem r_law15_awake : RX X_law15_awake := fun call2 call run2 run hc hr a p => by unfold X_law15_awake; split <;> infer_instance
theorem r_kern_New : RX X_kern_New := fun call2 call run2 run hc hr a p => by unfold X_kern_New; split <;> infer_instance
theorem r_kern_New_L1 : RX X_kern_New_L1 := fun call2 call run2 run hc hr a p => by unfold X_kern_New_L1; split <;> infer_instance
theorem r_kern_New_L2 : RX X_kern_New_L2 := fun call2 call run2 run hc hr a p => by unfold X_kern_New_L2; split <;> infer_instance
theorem r_kern_New_L3 : RX X_kern_New_L3 := fun call2 call run2 run hc hr a p => by unfold X_kern_New_L3; split <;> infer_instance
theorem r_kern_New_L4 : RX X_kern_New_L4 := fun call2 call run2 run hc hr a p => by unfold X_kern_New_L4; split <;> infer_instance
theorem r_ref1_NewKern : RX X_ref1_NewKern := fun call2 call run2 run hc hr a p => by unfold X_ref1_NewKern; split <;> infer_instance
theorem r_ref1_NewKern_L1 : RX X_ref1_NewKern_L1 := fun call2 call run2 run hc hr a p => by unfold X_ref1_NewKern_L1; split <;> infer_instance
theorem r_ref1_NewKern_L2 : RX X_ref1_NewKern_L2 := fun call2 call run2 run hc hr a p => by unfold X_ref1_NewKern_L2; split <;> infer_instance
theorem r_ref1_NewKern_L3 : RX X_ref1_NewKern_L3 := fun call2 call run2 run hc hr a p => by unfold X_ref1_NewKern_L3; split <;> infer_instance
theorem r_caps_Space_is : RX X_caps_Space_is := fun call2 call run2 run hc hr a p => by unfold X_caps_Space_is; split <;> infer_instance
theorem r_table_Table_api_Cap_Names : RX X_table_Table_api_Cap_Names := fun call2 call run2 run hc hr a p => by unfold X_table_Table_api_Cap_Names; split <;> infer_instance
theorem r_table_Table_api_Cap_Names_L1 : RX X_table_Table_api_Cap_Names_L1 := fun call2 call run2 run hc hr a p => by unfold X_table_Table_api_Cap_Names_L1; split <;> infer_instance
theorem r_kern_Kern_number : RX X_kern_Kern_number := fun call2 call run2 run hc hr a p => by unfold X_kern_Kern_number; split <;> infer_instance
theorem r_pslot_Decode : RX X_pslot_Decode := fun call2 call run2 run hc hr a p => by unfold X_pslot_Decode; split <;> infer_instance
theorem r_ring_Decode : RX X_ring_Decode := fun call2 call run2 run hc hr a p => by unfold X_ring_Decode; split <;> infer_instance
theorem r_pslot_Encode : RX X_pslot_Encode := fun call2 call run2 run hc hr a p => by unfold X_pslot_Encode; split <;> infer_instance
theorem r_commons_FrontBytes : RX X_commons_FrontBytes := fun call2 call run2 run hc hr a p => by unfold X_commons_FrontBytes; split <;> infer_instance
theorem r_commons_Commons_blank : RX X_commons_Commons_blank := fun call2 call run2 run hc hr a p => by unfold X_commons_Commons_blank; split <;> infer_instance
theorem r_commons_Commons_most : RX X_commons_Commons_most := fun call2 call run2 run hc hr a p => by unfold X_commons_Commons_most; split <;> infer_instance
theorem r_fds_fdsOf : RX X_fds_fdsOf := fun call2 call run2 run hc hr a p => by unfold X_fds_fdsOf; split <;> infer_instance
theorem r_fds_Pipe_2 : RX X_fds_Pipe_2 := fun call2 call run2 run hc hr a p => by unfold X_fds_Pipe_2; split <;> infer_instance
theorem r_fds_Of : RX X_fds_Of := fun call2 call run2 run hc hr a p => by unfold X_fds_Of; split <;> infer_instance
theorem r_proc_CloseFile : RX X_proc_CloseFile := fun call2 call run2 run hc hr a p => by unfold X_proc_CloseFile; split <;> infer_instance
theorem r_proc_CloseFile_R1 : RX X_proc_CloseFile_R1 := fun call2 call run2 run hc hr a p => by unfold X_proc_CloseFile_R1; split <;> infer_instance
theorem r_kern_check : RX X_kern_check := fun call2 call run2 run hc hr a p => by unfold X_kern_check; split <;> infer_instance
theorem r_kern_check_L1 : RX X_kern_check_L1 := fun call2 call run2 run hc hr a p => by unfold X_kern_check_L1; split <;> infer_instance
theorem r_kern_check_L2 : RX X_kern_check_L2 := fun call2 call run2 run hc hr a p => by unfold X_kern_check_L2; split <;> infer_instance
theorem r_sect_New : RX X_sect_New := fun call2 call run2 run hc hr a p => by unfold X_sect_New; split <;> infer_instance
theorem r_ref1_NewQuota : RX X_ref1_NewQuota := fun call2 call run2 run hc hr a p => by unfold X_ref1_NewQuota; split <;> infer_instance
theorem r_ref1_NewQuota_L1 : RX X_ref1_NewQuota_L1 := fun call2 call run2 run hc hr a p => by unfold X_ref1_NewQuota_L1; split <;> infer_instance
theorem r_ref1_in : RX X_ref1_in := fun call2 call run2 run hc hr a p => by unfold X_ref1_in; split <;> infer_instance
theorem r_ref1_in_L1 : RX X_ref1_in_L1 := fun call2 call run2 run hc hr a p => by unfold X_ref1_in_L1; split <;> infer_instance
theorem r_ref1_Regions_Copy : RX X_ref1_Regions_Copy := fun call2 call run2 run hc hr a p => by unfold X_ref1_Regions_Copy; split <;> infer_instance
theorem r_ref1_Space_Revoke : RX X_ref1_Space_Revoke := fun call2 call run2 run hc hr a p => by unfold X_ref1_Space_Revoke; split <;> infer_instance
theorem r_ref1_Space_Revoke_L1 : RX X_ref1_Space_Revoke_L1 := fun call2 call run2 run hc hr a p => by unfold X_ref1_Space_Revoke_L1; split <;> infer_instance
theorem r_ref1_Quota_Alloc : RX X_ref1_Quota_Alloc := fun call2 call run2 run hc hr a p => by unfold X_ref1_Quota_Alloc; split <;> infer_instance
theorem r_ref1_Quota_Alloc_L1 : RX X_ref1_Quota_Alloc_L1 := fun call2 call run2 run hc hr a p => by unfold X_ref1_Quota_Alloc_L1; split <;> infer_instance
theorem r_ref1_Quota_Free : RX X_ref1_Quota_Free := fun call2 call run2 run hc hr a p => by unfold X_ref1_Quota_Free; split <;> infer_instance
theorem r_ref1_Sect_Enter : RX X_ref1_Sect_Enter := fun call2 call run2 run hc hr a p => by unfold X_ref1_Sect_Enter; split <;> infer_instance
theorem r_ref1_Sect_Enter_R1 : RX X_ref1_Sect_Enter_R1 := fun call2 call run2 run hc hr a p => by unfold X_ref1_Sect_Enter_R1; split <;> infer_instance
theorem r_ref1_Sect_Enter_R2 : RX X_ref1_Sect_Enter_R2 := fun call2 call run2 run hc hr a p => by unfold X_ref1_Sect_Enter_R2; split <;> infer_instance
theorem r_ref1_Sect_Enter_R3 : RX X_ref1_Sect_Enter_R3 := fun call2 call run2 run hc hr a p => by unfold X_ref1_Sect_Enter_R3; split <;> infer_instance
theorem r_ref1_Sect_Enter_R4 : RX X_ref1_Sect_Enter_R4 := fun call2 call run2 run hc hr a p => by unfold X_ref1_Sect_Enter_R4; split <;> infer_instance
theorem r_ref1_Sect_Enter_L1 : RX X_ref1_Sect_Enter_L1 := fun call2 call run2 run hc hr a p => by unfold X_ref1_Sect_Enter_L1; split <;> infer_instance
theorem r_table_Table_api_Cap_name : RX X_table_Table_api_Cap_name := fun call2 call run2 run hc hr a p => by unfold X_table_Table_api_Cap_name; split <;> infer_instance
theorem r_caps_Space_Grant : RX X_caps_Space_Grant := fun call2 call run2 run hc hr a p => by unfold X_caps_Space_Grant; split <;> infer_instance
theorem r_ofile_Codec : RX X_ofile_Codec := fun call2 call run2 run hc hr a p => by unfold X_ofile_Codec; split <;> infer_instance
theorem r_codec_Codec_api_File_Decode : RX X_codec_Codec_api_File_Decode := fun call2 call run2 run hc hr a p => by unfold X_codec_Codec_api_File_Decode; split <;> infer_instance
theorem r_codec_Sum : RX X_codec_Sum := fun call2 call run2 run hc hr a p => by unfold X_codec_Sum; split <;> infer_instance
theorem r_codec_Sum_L1 : RX X_codec_Sum_L1 := fun call2 call run2 run hc hr a p => by unfold X_codec_Sum_L1; split <;> infer_instance
theorem r_ofile_Encode : RX X_ofile_Encode := fun call2 call run2 run hc hr a p => by unfold X_ofile_Encode; split <;> infer_instance
theorem r_kern_share : RX X_kern_share := fun call2 call run2 run hc hr a p => by unfold X_kern_share; split <;> infer_instance
theorem r_ref1_Space_env : RX X_ref1_Space_env := fun call2 call run2 run hc hr a p => by unfold X_ref1_Space_env; split <;> infer_instance
theorem r_ref1_Names_Drop : RX X_ref1_Names_Drop := fun call2 call run2 run hc hr a p => by unfold X_ref1_Names_Drop; split <;> infer_instance
theorem r_caps_Space_Get : RX X_caps_Space_Get := fun call2 call run2 run hc hr a p => by unfold X_caps_Space_Get; split <;> infer_instance
theorem r_slices_ContainsFunc_s_byte_byte : RX X_slices_ContainsFunc_s_byte_byte := fun call2 call run2 run hc hr a p => by unfold X_slices_ContainsFunc_s_byte_byte; split <;> infer_instance
theorem r_codec_Blank_1 : RX X_codec_Blank_1 := fun call2 call run2 run hc hr a p => by unfold X_codec_Blank_1; split <;> infer_instance
theorem r_codec_New_api_Proc : RX X_codec_New_api_Proc := fun call2 call run2 run hc hr a p => by unfold X_codec_New_api_Proc; split <;> infer_instance
theorem r_codec_Codec_api_File_Encode : RX X_codec_Codec_api_File_Encode := fun call2 call run2 run hc hr a p => by unfold X_codec_Codec_api_File_Encode; split <;> infer_instance
theorem r_table_Table_api_Cap_Add : RX X_table_Table_api_Cap_Add := fun call2 call run2 run hc hr a p => by unfold X_table_Table_api_Cap_Add; split <;> infer_instance
theorem r_table_Table_api_Cap_Add_L1 : RX X_table_Table_api_Cap_Add_L1 := fun call2 call run2 run hc hr a p => by unfold X_table_Table_api_Cap_Add_L1; split <;> infer_instance
theorem r_table_Table_api_Cap_Get : RX X_table_Table_api_Cap_Get := fun call2 call run2 run hc hr a p => by unfold X_table_Table_api_Cap_Get; split <;> infer_instance
theorem r_sect_Sect_Holds : RX X_sect_Sect_Holds := fun call2 call run2 run hc hr a p => by unfold X_sect_Sect_Holds; split <;> infer_instance
theorem r_pslot_Ok : RX X_pslot_Ok := fun call2 call run2 run hc hr a p => by unfold X_pslot_Ok; split <;> infer_instance
theorem r_slices_pdqsortCmpFunc_api_Ref : RX X_slices_pdqsortCmpFunc_api_Ref := fun call2 call run2 run hc hr a p => by unfold X_slices_pdqsortCmpFunc_api_Ref; split <;> infer_instance
theorem r_slices_pdqsortCmpFunc_api_Ref_L1 : RX X_slices_pdqsortCmpFunc_api_Ref_L1 := fun call2 call run2 run hc hr a p => by unfold X_slices_pdqsortCmpFunc_api_Ref_L1; split <;> infer_instance
theorem r_slices_pdqsortCmpFunc_api_Ref_R1 : RX X_slices_pdqsortCmpFunc_api_Ref_R1 := fun call2 call run2 run hc hr a p => by unfold X_slices_pdqsortCmpFunc_api_Ref_R1; split <;> infer_instance
theorem r_slices_pdqsortCmpFunc_api_Ref_R2 : RX X_slices_pdqsortCmpFunc_api_Ref_R2 := fun call2 call run2 run hc hr a p => by unfold X_slices_pdqsortCmpFunc_api_Ref_R2; split <;> infer_instance
theorem r_slices_pdqsortCmpFunc_api_Ref_R3 : RX X_slices_pdqsortCmpFunc_api_Ref_R3 := fun call2 call run2 run hc hr a p => by unfold X_slices_pdqsortCmpFunc_api_Ref_R3; split <;> infer_instance
theorem r_pslot_Ok_1 : RX X_pslot_Ok_1 := fun call2 call run2 run hc hr a p => by unfold X_pslot_Ok_1; split <;> infer_instance
theorem r_ring_Ok_1 : RX X_ring_Ok_1 := fun call2 call run2 run hc hr a p => by unfold X_ring_Ok_1; split <;> infer_instance
theorem r_math_bits_Len64 : RX X_math_bits_Len64 := fun call2 call run2 run hc hr a p => by unfold X_math_bits_Len64; split <;> infer_instance
theorem r_math_bits_Len64_R1 : RX X_math_bits_Len64_R1 := fun call2 call run2 run hc hr a p => by unfold X_math_bits_Len64_R1; split <;> infer_instance
theorem r_math_bits_Len64_R2 : RX X_math_bits_Len64_R2 := fun call2 call run2 run hc hr a p => by unfold X_math_bits_Len64_R2; split <;> infer_instance
theorem r_slices_xorshift_Next : RX X_slices_xorshift_Next := fun call2 call run2 run hc hr a p => by unfold X_slices_xorshift_Next; split <;> infer_instance
end Go.EQ

set_option synthInstance.maxHeartbeats 0
set_option synthInstance.maxSize 1000000000000000000000000000000000000000000000000000000000000
set_option maxHeartbeats 0
set_option maxRecDepth 100000
set_option linter.unusedVariables false
namespace Go.EQ
open Go Go.Proofs
open Go.NN hiding bnd ld gInt gBool gStr gPtr gSl gMap gFv gAgg gCells nw pV pAgg pCells apd fitsOpen liveA mapAt
open Go.NP Go.NW
open Go.NF
theorem r_kern_Kern_Do : RX X_kern_Kern_Do := fun call2 call run2 run hc hr a p => by unfold X_kern_Kern_Do; split <;> infer_instance
theorem r_commons_Commons_Proc : RX X_commons_Commons_Proc := fun call2 call run2 run hc hr a p => by unfold X_commons_Commons_Proc; split <;> infer_instance
theorem r_commons_Commons_FreeFile : RX X_commons_Commons_FreeFile := fun call2 call run2 run hc hr a p => by unfold X_commons_Commons_FreeFile; split <;> infer_instance
theorem r_commons_New : RX X_commons_New := fun call2 call run2 run hc hr a p => by unfold X_commons_New; split <;> infer_instance
theorem r_commons_Commons_Bad : RX X_commons_Commons_Bad := fun call2 call run2 run hc hr a p => by unfold X_commons_Commons_Bad; split <;> infer_instance
theorem r_commons_Commons_Bad_L1 : RX X_commons_Commons_Bad_L1 := fun call2 call run2 run hc hr a p => by unfold X_commons_Commons_Bad_L1; split <;> infer_instance
theorem r_commons_Commons_Bad_L2 : RX X_commons_Commons_Bad_L2 := fun call2 call run2 run hc hr a p => by unfold X_commons_Commons_Bad_L2; split <;> infer_instance
theorem r_commons_Commons_View : RX X_commons_Commons_View := fun call2 call run2 run hc hr a p => by unfold X_commons_Commons_View; split <;> infer_instance
theorem r_law17_Fill : RX X_law17_Fill := fun call2 call run2 run hc hr a p => by unfold X_law17_Fill; split <;> infer_instance
theorem r_law17_Fill_L1 : RX X_law17_Fill_L1 := fun call2 call run2 run hc hr a p => by unfold X_law17_Fill_L1; split <;> infer_instance
theorem r_region_Regions_Raw : RX X_region_Regions_Raw := fun call2 call run2 run hc hr a p => by unfold X_region_Regions_Raw; split <;> infer_instance
theorem r_fds_Close : RX X_fds_Close := fun call2 call run2 run hc hr a p => by unfold X_fds_Close; split <;> infer_instance
theorem r_ref15_Boot : RX X_ref15_Boot := fun call2 call run2 run hc hr a p => by unfold X_ref15_Boot; split <;> infer_instance
theorem r_ref15_Boot_L1 : RX X_ref15_Boot_L1 := fun call2 call run2 run hc hr a p => by unfold X_ref15_Boot_L1; split <;> infer_instance
theorem r_ref15_Boot_L2 : RX X_ref15_Boot_L2 := fun call2 call run2 run hc hr a p => by unfold X_ref15_Boot_L2; split <;> infer_instance
theorem r_ref15_Boot_L3 : RX X_ref15_Boot_L3 := fun call2 call run2 run hc hr a p => by unfold X_ref15_Boot_L3; split <;> infer_instance
theorem r_ref15_Blank : RX X_ref15_Blank := fun call2 call run2 run hc hr a p => by unfold X_ref15_Blank; split <;> infer_instance
theorem r_kern_Kern_bytes : RX X_kern_Kern_bytes := fun call2 call run2 run hc hr a p => by unfold X_kern_Kern_bytes; split <;> infer_instance
theorem r_commons_proc : RX X_commons_proc := fun call2 call run2 run hc hr a p => by unfold X_commons_proc; split <;> infer_instance
theorem r_commons_record_api_Pipe : RX X_commons_record_api_Pipe := fun call2 call run2 run hc hr a p => by unfold X_commons_record_api_Pipe; split <;> infer_instance
theorem r_commons_record_api_Pipe_R1 : RX X_commons_record_api_Pipe_R1 := fun call2 call run2 run hc hr a p => by unfold X_commons_record_api_Pipe_R1; split <;> infer_instance
theorem r_commons_pipe : RX X_commons_pipe := fun call2 call run2 run hc hr a p => by unfold X_commons_pipe; split <;> infer_instance
theorem r_commons_Commons_write : RX X_commons_Commons_write := fun call2 call run2 run hc hr a p => by unfold X_commons_Commons_write; split <;> infer_instance
theorem r_proc_done : RX X_proc_done := fun call2 call run2 run hc hr a p => by unfold X_proc_done; split <;> infer_instance
theorem r_fds_free : RX X_fds_free := fun call2 call run2 run hc hr a p => by unfold X_fds_free; split <;> infer_instance
theorem r_fds_free_L1 : RX X_fds_free_L1 := fun call2 call run2 run hc hr a p => by unfold X_fds_free_L1; split <;> infer_instance
theorem r_fds_done : RX X_fds_done := fun call2 call run2 run hc hr a p => by unfold X_fds_done; split <;> infer_instance
theorem r_slices_Clone_s_int_int : RX X_slices_Clone_s_int_int := fun call2 call run2 run hc hr a p => by unfold X_slices_Clone_s_int_int; split <;> infer_instance
theorem r_quota_Quota_First : RX X_quota_Quota_First := fun call2 call run2 run hc hr a p => by unfold X_quota_Quota_First; split <;> infer_instance
theorem r_quota_Quota_First_L1 : RX X_quota_Quota_First_L1 := fun call2 call run2 run hc hr a p => by unfold X_quota_Quota_First_L1; split <;> infer_instance
theorem r_caps_Space_Put : RX X_caps_Space_Put := fun call2 call run2 run hc hr a p => by unfold X_caps_Space_Put; split <;> infer_instance
theorem r_ref1_Quota_First : RX X_ref1_Quota_First := fun call2 call run2 run hc hr a p => by unfold X_ref1_Quota_First; split <;> infer_instance
theorem r_ref1_Quota_First_L1 : RX X_ref1_Quota_First_L1 := fun call2 call run2 run hc hr a p => by unfold X_ref1_Quota_First_L1; split <;> infer_instance
theorem r_ref1_NewSpace : RX X_ref1_NewSpace := fun call2 call run2 run hc hr a p => by unfold X_ref1_NewSpace; split <;> infer_instance
theorem r_ref1_NewSpace_L1 : RX X_ref1_NewSpace_L1 := fun call2 call run2 run hc hr a p => by unfold X_ref1_NewSpace_L1; split <;> infer_instance
theorem r_ref1_NewSect : RX X_ref1_NewSect := fun call2 call run2 run hc hr a p => by unfold X_ref1_NewSect; split <;> infer_instance
theorem r_ref1_Regions_Add : RX X_ref1_Regions_Add := fun call2 call run2 run hc hr a p => by unfold X_ref1_Regions_Add; split <;> infer_instance
theorem r_ref1_Sect_Leave : RX X_ref1_Sect_Leave := fun call2 call run2 run hc hr a p => by unfold X_ref1_Sect_Leave; split <;> infer_instance
theorem r_quota_Quota_Alloc : RX X_quota_Quota_Alloc := fun call2 call run2 run hc hr a p => by unfold X_quota_Quota_Alloc; split <;> infer_instance
theorem r_quota_Quota_Free : RX X_quota_Quota_Free := fun call2 call run2 run hc hr a p => by unfold X_quota_Quota_Free; split <;> infer_instance
theorem r_pslot_Codec : RX X_pslot_Codec := fun call2 call run2 run hc hr a p => by unfold X_pslot_Codec; split <;> infer_instance
theorem r_codec_Codec_api_Proc_Decode : RX X_codec_Codec_api_Proc_Decode := fun call2 call run2 run hc hr a p => by unfold X_codec_Codec_api_Proc_Decode; split <;> infer_instance
theorem r_ring_Codec : RX X_ring_Codec := fun call2 call run2 run hc hr a p => by unfold X_ring_Codec; split <;> infer_instance
theorem r_commons_Commons_Look : RX X_commons_Commons_Look := fun call2 call run2 run hc hr a p => by unfold X_commons_Commons_Look; split <;> infer_instance
theorem r_commons_Commons_Look_L1 : RX X_commons_Commons_Look_L1 := fun call2 call run2 run hc hr a p => by unfold X_commons_Commons_Look_L1; split <;> infer_instance
theorem r_commons_Commons_Look_L2 : RX X_commons_Commons_Look_L2 := fun call2 call run2 run hc hr a p => by unfold X_commons_Commons_Look_L2; split <;> infer_instance
theorem r_commons_Commons_Look_L3 : RX X_commons_Commons_Look_L3 := fun call2 call run2 run hc hr a p => by unfold X_commons_Commons_Look_L3; split <;> infer_instance
theorem r_slices_ContainsFunc_s_int_int : RX X_slices_ContainsFunc_s_int_int := fun call2 call run2 run hc hr a p => by unfold X_slices_ContainsFunc_s_int_int; split <;> infer_instance
theorem r_caps_Space_add : RX X_caps_Space_add := fun call2 call run2 run hc hr a p => by unfold X_caps_Space_add; split <;> infer_instance
theorem r_ref1_Within : RX X_ref1_Within := fun call2 call run2 run hc hr a p => by unfold X_ref1_Within; split <;> infer_instance
theorem r_ref1_Regions_place : RX X_ref1_Regions_place := fun call2 call run2 run hc hr a p => by unfold X_ref1_Regions_place; split <;> infer_instance
theorem r_ref1_Space_Under : RX X_ref1_Space_Under := fun call2 call run2 run hc hr a p => by unfold X_ref1_Space_Under; split <;> infer_instance
theorem r_ref1_Space_Under_L1 : RX X_ref1_Space_Under_L1 := fun call2 call run2 run hc hr a p => by unfold X_ref1_Space_Under_L1; split <;> infer_instance
theorem r_ref1_Space_Under_L2 : RX X_ref1_Space_Under_L2 := fun call2 call run2 run hc hr a p => by unfold X_ref1_Space_Under_L2; split <;> infer_instance
theorem r_ref1_Space_Under_L3 : RX X_ref1_Space_Under_L3 := fun call2 call run2 run hc hr a p => by unfold X_ref1_Space_Under_L3; split <;> infer_instance
theorem r_ref1_Space_Under_L4 : RX X_ref1_Space_Under_L4 := fun call2 call run2 run hc hr a p => by unfold X_ref1_Space_Under_L4; split <;> infer_instance
theorem r_ref1_Space_Under_L5 : RX X_ref1_Space_Under_L5 := fun call2 call run2 run hc hr a p => by unfold X_ref1_Space_Under_L5; split <;> infer_instance
theorem r_ref1_Quota_Owns : RX X_ref1_Quota_Owns := fun call2 call run2 run hc hr a p => by unfold X_ref1_Quota_Owns; split <;> infer_instance
theorem r_ref1_Sect_drop : RX X_ref1_Sect_drop := fun call2 call run2 run hc hr a p => by unfold X_ref1_Sect_drop; split <;> infer_instance
theorem r_region_Regions_place : RX X_region_Regions_place := fun call2 call run2 run hc hr a p => by unfold X_region_Regions_place; split <;> infer_instance
theorem r_caps_Space_Under : RX X_caps_Space_Under := fun call2 call run2 run hc hr a p => by unfold X_caps_Space_Under; split <;> infer_instance
theorem r_caps_Space_Under_L1 : RX X_caps_Space_Under_L1 := fun call2 call run2 run hc hr a p => by unfold X_caps_Space_Under_L1; split <;> infer_instance
theorem r_caps_Space_Under_L2 : RX X_caps_Space_Under_L2 := fun call2 call run2 run hc hr a p => by unfold X_caps_Space_Under_L2; split <;> infer_instance
theorem r_caps_Space_Under_L3 : RX X_caps_Space_Under_L3 := fun call2 call run2 run hc hr a p => by unfold X_caps_Space_Under_L3; split <;> infer_instance
theorem r_caps_Space_Under_L4 : RX X_caps_Space_Under_L4 := fun call2 call run2 run hc hr a p => by unfold X_caps_Space_Under_L4; split <;> infer_instance
theorem r_caps_Space_Under_L5 : RX X_caps_Space_Under_L5 := fun call2 call run2 run hc hr a p => by unfold X_caps_Space_Under_L5; split <;> infer_instance
theorem r_table_Table_api_Cap_Drop : RX X_table_Table_api_Cap_Drop := fun call2 call run2 run hc hr a p => by unfold X_table_Table_api_Cap_Drop; split <;> infer_instance
theorem r_pslot_get : RX X_pslot_get := fun call2 call run2 run hc hr a p => by unfold X_pslot_get; split <;> infer_instance
theorem r_pslot_get_L1 : RX X_pslot_get_L1 := fun call2 call run2 run hc hr a p => by unfold X_pslot_get_L1; split <;> infer_instance
theorem r_pslot_get_L2 : RX X_pslot_get_L2 := fun call2 call run2 run hc hr a p => by unfold X_pslot_get_L2; split <;> infer_instance
theorem r_ofile_get : RX X_ofile_get := fun call2 call run2 run hc hr a p => by unfold X_ofile_get; split <;> infer_instance
theorem r_ring_get : RX X_ring_get := fun call2 call run2 run hc hr a p => by unfold X_ring_get; split <;> infer_instance
theorem r_codec_Codec_api_Pipe_Encode : RX X_codec_Codec_api_Pipe_Encode := fun call2 call run2 run hc hr a p => by unfold X_codec_Codec_api_Pipe_Encode; split <;> infer_instance
theorem r_ref1_Names_Has : RX X_ref1_Names_Has := fun call2 call run2 run hc hr a p => by unfold X_ref1_Names_Has; split <;> infer_instance
theorem r_ref1_has : RX X_ref1_has := fun call2 call run2 run hc hr a p => by unfold X_ref1_has; split <;> infer_instance
theorem r_ref1_has_L1 : RX X_ref1_has_L1 := fun call2 call run2 run hc hr a p => by unfold X_ref1_has_L1; split <;> infer_instance
theorem r_caps_Space_Under_1 : RX X_caps_Space_Under_1 := fun call2 call run2 run hc hr a p => by unfold X_caps_Space_Under_1; split <;> infer_instance
theorem r_codec_Get2 : RX X_codec_Get2 := fun call2 call run2 run hc hr a p => by unfold X_codec_Get2; split <;> infer_instance
theorem r_slices_Equal_s_byte_byte : RX X_slices_Equal_s_byte_byte := fun call2 call run2 run hc hr a p => by unfold X_slices_Equal_s_byte_byte; split <;> infer_instance
theorem r_slices_Equal_s_byte_byte_L1 : RX X_slices_Equal_s_byte_byte_L1 := fun call2 call run2 run hc hr a p => by unfold X_slices_Equal_s_byte_byte_L1; split <;> infer_instance
theorem r_ring_Ok : RX X_ring_Ok := fun call2 call run2 run hc hr a p => by unfold X_ring_Ok; split <;> infer_instance
theorem r_slices_choosePivotCmpFunc_api_Ref : RX X_slices_choosePivotCmpFunc_api_Ref := fun call2 call run2 run hc hr a p => by unfold X_slices_choosePivotCmpFunc_api_Ref; split <;> infer_instance
theorem r_slices_choosePivotCmpFunc_api_Ref_R1 : RX X_slices_choosePivotCmpFunc_api_Ref_R1 := fun call2 call run2 run hc hr a p => by unfold X_slices_choosePivotCmpFunc_api_Ref_R1; split <;> infer_instance
theorem r_slices_choosePivotCmpFunc_api_Ref_R2 : RX X_slices_choosePivotCmpFunc_api_Ref_R2 := fun call2 call run2 run hc hr a p => by unfold X_slices_choosePivotCmpFunc_api_Ref_R2; split <;> infer_instance
theorem r_math_bits_Len32 : RX X_math_bits_Len32 := fun call2 call run2 run hc hr a p => by unfold X_math_bits_Len32; split <;> infer_instance
theorem r_math_bits_Len32_R1 : RX X_math_bits_Len32_R1 := fun call2 call run2 run hc hr a p => by unfold X_math_bits_Len32_R1; split <;> infer_instance
end Go.EQ

set_option maxRecDepth 100000
set_option linter.unusedVariables false
namespace Go.EQ
open Go Go.Proofs
open Go.NN hiding bnd ld gInt gBool gStr gPtr gSl gMap gFv gAgg gCells nw pV pAgg pCells apd fitsOpen liveA mapAt
open Go.NP Go.NW
theorem tabs_ok : TABS.Ok PR cutsOf := ⟨⟨x_region_Regions_Copy, ⟨x_commons_Commons_most, ⟨x_fds_Close, ⟨x_law11_Proc, ⟨x_kern_Kern_Do, ⟨x_law15_Plan, ⟨x_law18_FdsLimits, ⟨x_law15_CommonsGone, trivial, trivial⟩, ⟨x_law15_Open, trivial, trivial⟩⟩, ⟨x_caps_Space_Names, ⟨x_kern_Kern_Space, trivial, trivial⟩, trivial⟩⟩, ⟨x_commons_Commons_Term, ⟨x_commons_Commons_File, ⟨x_commons_Commons_Proc, trivial, trivial⟩, ⟨x_commons_Commons_Pipe, trivial, trivial⟩⟩, ⟨x_commons_Commons_SetProc, ⟨x_commons_Commons_Front, trivial, trivial⟩, trivial⟩⟩⟩, ⟨x_law17_Fill, ⟨x_commons_Commons_Bad, ⟨x_commons_Commons_FreeFile, ⟨x_commons_Commons_SetFront, trivial, trivial⟩, ⟨x_commons_New, trivial, trivial⟩⟩, ⟨x_law15_awake, ⟨x_commons_Commons_View, trivial, trivial⟩, trivial⟩⟩, ⟨x_region_Regions_Raw, ⟨x_kern_Kern_Regions, ⟨x_law17_First, trivial, trivial⟩, ⟨x_proc_Fork, trivial, trivial⟩⟩, ⟨x_law18_awake, ⟨x_fds_Pipe, trivial, trivial⟩, trivial⟩⟩⟩⟩, ⟨x_commons_record_api_File, ⟨x_caps_Space_is, ⟨x_ref15_Blank, ⟨x_kern_New, ⟨x_ref15_Boot, trivial, trivial⟩, ⟨x_ref1_NewKern, trivial, trivial⟩⟩, ⟨x_ref15_NewCommons, ⟨x_ref1_Kern_Do, trivial, trivial⟩, trivial⟩⟩, ⟨x_commons_record_api_Proc, ⟨x_kern_Kern_bytes, ⟨x_table_Table_api_Cap_Names, trivial, trivial⟩, ⟨x_kern_Kern_number, trivial, trivial⟩⟩, ⟨x_pslot_Decode, ⟨x_commons_proc, trivial, trivial⟩, trivial⟩⟩⟩, ⟨x_commons_FrontOf, ⟨x_commons_pipe, ⟨x_ofile_Decode, ⟨x_commons_file, trivial, trivial⟩, ⟨x_commons_record_api_Pipe, trivial, trivial⟩⟩, ⟨x_commons_record_int, ⟨x_ring_Decode, trivial, trivial⟩, trivial⟩⟩, ⟨x_law11_Proc_1, ⟨x_commons_Commons_write, ⟨x_pslot_Encode, trivial, trivial⟩, trivial⟩, ⟨x_commons_Commons_blank, ⟨x_commons_FrontBytes, trivial, trivial⟩, trivial⟩⟩⟩⟩⟩, ⟨x_sect_New, ⟨x_fds_Pipe_2, ⟨x_proc_share, ⟨x_proc_Self, ⟨x_ref11_ProcBytes, ⟨x_ref11_PipeBytes, trivial, trivial⟩, ⟨x_ref11_FileBytes, trivial, trivial⟩⟩, ⟨x_proc_free, ⟨x_proc_told, trivial, trivial⟩, trivial⟩⟩, ⟨x_fds_fdsOf, ⟨x_mem_Mem_Load, ⟨x_proc_done, trivial, trivial⟩, ⟨x_fds_told, trivial, trivial⟩⟩, ⟨x_fds_Pipe_1, ⟨x_fds_free, trivial, trivial⟩, trivial⟩⟩⟩, ⟨x_kern_check, ⟨x_fds_Of, ⟨x_commons_Commons_SetFile, ⟨x_commons_Commons_SetPipe, trivial, trivial⟩, ⟨x_fds_done, trivial, trivial⟩⟩, ⟨x_proc_CloseFile, ⟨x_fds_named, trivial, trivial⟩, trivial⟩⟩, ⟨x_caps_New, ⟨x_slices_Clone_s_int_int, ⟨x_kern_frames, trivial, trivial⟩, ⟨x_mem_New, trivial, trivial⟩⟩, ⟨x_region_New, ⟨x_quota_New, trivial, trivial⟩, trivial⟩⟩⟩⟩, ⟨x_ref1_Regions_Write, ⟨x_ref1_NewSpace, ⟨x_caps_Space_Put, ⟨x_quota_Quota_First, ⟨x_region_Regions_Add, trivial, trivial⟩, ⟨x_slices_Contains_s_int_int, trivial, trivial⟩⟩, ⟨x_ref1_Quota_First, ⟨x_ref1_NewQuota, trivial, trivial⟩, trivial⟩⟩, ⟨x_ref1_Space_Put, ⟨x_ref1_Regions_Add, ⟨x_ref1_NewSect, trivial, trivial⟩, ⟨x_ref1_in, trivial, trivial⟩⟩, ⟨x_ref1_Regions_Read, ⟨x_ref15_FrontBytes, trivial, trivial⟩, trivial⟩⟩⟩, ⟨x_ref1_Sect_Enter, ⟨x_ref1_Quota_Alloc, ⟨x_ref1_Space_Grant, ⟨x_ref1_Regions_Copy, trivial, trivial⟩, ⟨x_ref1_Space_Revoke, trivial, trivial⟩⟩, ⟨x_ref1_Kern_may, ⟨x_ref1_Quota_Free, trivial, trivial⟩, trivial⟩⟩, ⟨x_table_Table_api_Cap_name, ⟨x_ref1_Space_All, ⟨x_ref1_Sect_Leave, trivial, trivial⟩, trivial⟩, ⟨x_region_Regions_Write, ⟨x_region_Regions_Read, trivial, trivial⟩, trivial⟩⟩⟩⟩⟩⟩, ⟨x_kern_Kern_sect, ⟨x_slices_ContainsFunc_s_int_int, ⟨x_codec_Codec_api_Pipe_Decode, ⟨x_commons_Commons_read, ⟨x_quota_Quota_Free, ⟨x_caps_Space_Revoke, ⟨x_caps_Space_Grant, trivial, trivial⟩, ⟨x_quota_Quota_Alloc, trivial, trivial⟩⟩, ⟨x_kern_Kern_leave, ⟨x_kern_Kern_enter, trivial, trivial⟩, trivial⟩⟩, ⟨x_ofile_Codec, ⟨x_pslot_Codec, ⟨x_codec_Blank, trivial, trivial⟩, ⟨x_codec_Codec_api_Proc_Decode, trivial, trivial⟩⟩, ⟨x_ring_Codec, ⟨x_codec_Codec_api_File_Decode, trivial, trivial⟩, trivial⟩⟩⟩, ⟨x_mem_Mem_in, ⟨x_ref1_Sum, ⟨x_commons_Commons_place, ⟨x_codec_Codec_api_Proc_Encode, trivial, trivial⟩, ⟨x_codec_Sum, trivial, trivial⟩⟩, ⟨x_commons_Commons_Look, ⟨x_ref1_Two, trivial, trivial⟩, trivial⟩⟩, ⟨x_ofile_Encode, ⟨x_fds_fdsOf_1, ⟨x_slices_Clone_s_byte_byte, trivial, trivial⟩, ⟨x_ring_Encode, trivial, trivial⟩⟩, ⟨x_kern_check_1, ⟨x_commons_Commons_FreePipe, trivial, trivial⟩, trivial⟩⟩⟩⟩, ⟨x_ref1_Names_Drop, ⟨x_ref1_NewNames, ⟨x_slices_Index_s_int_int, ⟨x_table_New_api_Cap, ⟨x_kern_share, trivial, trivial⟩, ⟨x_mem_Mem_Size, trivial, trivial⟩⟩, ⟨x_caps_Space_add, ⟨x_caps_Space_Put_1, trivial, trivial⟩, trivial⟩⟩, ⟨x_ref1_Regions_place, ⟨x_ref1_Space_env, ⟨x_ref1_Within, trivial, trivial⟩, ⟨x_ref1_Space_add, trivial, trivial⟩⟩, ⟨x_ref1_Space_Under, ⟨x_ref1_Space_Get, trivial, trivial⟩, trivial⟩⟩⟩, ⟨x_mem_Mem_Store, ⟨x_ref1_Sect_Holds, ⟨x_ref1_Sect_at, ⟨x_ref1_Quota_Owns, trivial, trivial⟩, ⟨x_ref1_Sect_drop, trivial, trivial⟩⟩, ⟨x_region_Regions_place, ⟨x_ref1_Names_All, trivial, trivial⟩, trivial⟩⟩, ⟨x_table_Table_api_Cap_Drop, ⟨x_caps_Space_Under, ⟨x_caps_Space_Get, trivial, trivial⟩, trivial⟩, ⟨x_quota_Quota_Owns, ⟨x_quota_Quota_is, trivial, trivial⟩, trivial⟩⟩⟩⟩⟩, ⟨x_pslot_Ok, ⟨x_codec_Codec_api_Pipe_Encode, ⟨x_pslot_get, ⟨x_codec_Blank_1, ⟨x_sect_Sect_Leave, ⟨x_sect_Sect_Enter, trivial, trivial⟩, ⟨x_slices_ContainsFunc_s_byte_byte, trivial, trivial⟩⟩, ⟨x_pslot_put, ⟨x_codec_New_api_Proc, trivial, trivial⟩, trivial⟩⟩, ⟨x_codec_New_api_Pipe, ⟨x_ofile_put, ⟨x_codec_New_api_File, trivial, trivial⟩, ⟨x_ofile_get, trivial, trivial⟩⟩, ⟨x_ring_get, ⟨x_ring_put, trivial, trivial⟩, trivial⟩⟩⟩, ⟨x_ref1_rising, ⟨x_ref1_Names_Add, ⟨x_slices_IndexFunc_s_int_int, ⟨x_codec_Codec_api_File_Encode, trivial, trivial⟩, ⟨x_table_Table_api_Cap_Add, trivial, trivial⟩⟩, ⟨x_ref1_has, ⟨x_ref1_Names_Has, trivial, trivial⟩, trivial⟩⟩, ⟨x_table_Table_api_Cap_at, ⟨x_slices_SortFunc_s_api_Ref_api_Ref, ⟨x_table_Table_api_Cap_Get, trivial, trivial⟩, ⟨x_caps_Space_Under_1, trivial, trivial⟩⟩, ⟨x_slices_IndexFunc_s_byte_byte, ⟨x_sect_Sect_Holds, trivial, trivial⟩, trivial⟩⟩⟩⟩, ⟨x_slices_choosePivotCmpFunc_api_Ref, ⟨x_math_bits_Len, ⟨x_ofile_Ok, ⟨x_codec_Get2, ⟨x_codec_Put2, trivial, trivial⟩, ⟨x_slices_Equal_s_byte_byte, trivial, trivial⟩⟩, ⟨x_slices_pdqsortCmpFunc_api_Ref, ⟨x_ring_Ok, trivial, trivial⟩, trivial⟩⟩, ⟨x_slices_insertionSortCmpFunc_api_Ref, ⟨x_pslot_Ok_1, ⟨x_pslot_bits, trivial, trivial⟩, ⟨x_ring_Ok_1, trivial, trivial⟩⟩, ⟨x_slices_breakPatternsCmpFunc_api_Ref, ⟨x_slices_heapSortCmpFunc_api_Ref, trivial, trivial⟩, trivial⟩⟩⟩, ⟨x_slices_siftDownCmpFunc_api_Ref, ⟨x_slices_partitionCmpFunc_api_Ref, ⟨x_slices_partialInsertionSortCmpFunc_api_Ref, ⟨x_slices_reverseRangeCmpFunc_api_Ref, trivial, trivial⟩, ⟨x_slices_partitionEqualCmpFunc_api_Ref, trivial, trivial⟩⟩, ⟨x_math_bits_Len64, ⟨x_math_bits_Len32, trivial, trivial⟩, trivial⟩⟩, ⟨x_slices_medianAdjacentCmpFunc_api_Ref, ⟨x_slices_xorshift_Next, ⟨x_slices_nextPowerOfTwo, trivial, trivial⟩, trivial⟩, ⟨x_slices_order2CmpFunc_api_Ref, ⟨x_slices_medianCmpFunc_api_Ref, trivial, trivial⟩, trivial⟩⟩⟩⟩⟩⟩⟩, ⟨x_ref1_Space_Under_L5, ⟨x_proc_CloseFile_R1, ⟨x_ref1_NewKern_L1, ⟨x_ref15_Boot_L1, ⟨x_law11_Proc_L1, ⟨x_law18_FdsLimits_L2, ⟨x_law18_FdsLimits_L1, trivial, trivial⟩, ⟨x_law18_FdsLimits_R1, trivial, trivial⟩⟩, ⟨x_commons_Commons_Bad_L2, ⟨x_commons_Commons_Bad_L1, trivial, trivial⟩, ⟨x_law17_Fill_L1, trivial, trivial⟩⟩⟩, ⟨x_kern_New_L2, ⟨x_ref15_Boot_L2, ⟨x_ref15_Boot_L3, trivial, trivial⟩, ⟨x_kern_New_L1, trivial, trivial⟩⟩, ⟨x_kern_New_L4, ⟨x_kern_New_L3, trivial, trivial⟩, trivial⟩⟩⟩, ⟨x_ref11_PipeBytes_L1, ⟨x_commons_record_api_Proc_R1, ⟨x_ref1_NewKern_L3, ⟨x_ref1_NewKern_L2, trivial, trivial⟩, ⟨x_table_Table_api_Cap_Names_L1, trivial, trivial⟩⟩, ⟨x_commons_record_api_Pipe_R1, ⟨x_commons_record_api_File_R1, trivial, trivial⟩, ⟨x_commons_record_int_R1, trivial, trivial⟩⟩⟩, ⟨x_proc_share_L2, ⟨x_proc_free_L1, ⟨x_ref11_ProcBytes_L1, trivial, trivial⟩, ⟨x_proc_share_L1, trivial, trivial⟩⟩, ⟨x_fds_free_L1, ⟨x_proc_share_L3, trivial, trivial⟩, trivial⟩⟩⟩⟩, ⟨x_ref1_Sect_Enter_R4, ⟨x_ref1_NewSpace_L1, ⟨x_quota_New_L1, ⟨x_kern_check_L2, ⟨x_kern_check_L1, trivial, trivial⟩, ⟨x_caps_New_L1, trivial, trivial⟩⟩, ⟨x_ref1_NewQuota_L1, ⟨x_quota_Quota_First_L1, trivial, trivial⟩, ⟨x_ref1_Quota_First_L1, trivial, trivial⟩⟩⟩, ⟨x_ref1_Sect_Enter_R1, ⟨x_ref1_Space_Revoke_L1, ⟨x_ref1_in_L1, trivial, trivial⟩, ⟨x_ref1_Quota_Alloc_L1, trivial, trivial⟩⟩, ⟨x_ref1_Sect_Enter_R3, ⟨x_ref1_Sect_Enter_R2, trivial, trivial⟩, trivial⟩⟩⟩, ⟨x_commons_Commons_Look_L3, ⟨x_ref1_Sum_L1, ⟨x_caps_Space_Revoke_L1, ⟨x_ref1_Sect_Enter_L1, trivial, trivial⟩, ⟨x_codec_Sum_L1, trivial, trivial⟩⟩, ⟨x_commons_Commons_Look_L2, ⟨x_commons_Commons_Look_L1, trivial, trivial⟩, trivial⟩⟩, ⟨x_ref1_Space_Under_L1, ⟨x_slices_Index_s_int_int_L1, ⟨x_table_New_api_Cap_L1, trivial, trivial⟩, ⟨x_ref1_NewNames_L1, trivial, trivial⟩⟩, ⟨x_ref1_Space_Under_L2, ⟨x_ref1_Space_Under_L3, trivial, trivial⟩, trivial⟩⟩⟩⟩⟩, ⟨x_slices_pdqsortCmpFunc_api_Ref_R2, ⟨x_pslot_put_L2, ⟨x_caps_Space_Under_L4, ⟨x_caps_Space_Under_L1, ⟨x_ref1_Sect_at_L1, ⟨x_ref1_Space_Under_L4, trivial, trivial⟩, ⟨x_ref1_Names_All_L1, trivial, trivial⟩⟩, ⟨x_caps_Space_Under_L2, ⟨x_caps_Space_Under_L3, trivial, trivial⟩, ⟨x_caps_Space_Under_L5, trivial, trivial⟩⟩⟩, ⟨x_sect_Sect_Enter_R4, ⟨x_sect_Sect_Enter_R2, ⟨x_sect_Sect_Enter_R1, trivial, trivial⟩, ⟨x_sect_Sect_Enter_R3, trivial, trivial⟩⟩, ⟨x_pslot_put_L1, ⟨x_sect_Sect_Enter_L1, trivial, trivial⟩, trivial⟩⟩⟩, ⟨x_ref1_has_L1, ⟨x_slices_IndexFunc_s_int_int_L1, ⟨x_pslot_get_L1, ⟨x_pslot_put_L3, trivial, trivial⟩, ⟨x_pslot_get_L2, trivial, trivial⟩⟩, ⟨x_ref1_Names_Add_L1, ⟨x_table_Table_api_Cap_Add_L1, trivial, trivial⟩, trivial⟩⟩, ⟨x_slices_Equal_s_byte_byte_L1, ⟨x_ref1_rising_L2, ⟨x_ref1_rising_L1, trivial, trivial⟩, ⟨x_slices_IndexFunc_s_byte_byte_L1, trivial, trivial⟩⟩, ⟨x_slices_pdqsortCmpFunc_api_Ref_R1, ⟨x_slices_pdqsortCmpFunc_api_Ref_L1, trivial, trivial⟩, trivial⟩⟩⟩⟩, ⟨x_slices_partialInsertionSortCmpFunc_api_Ref_L3, ⟨x_slices_choosePivotCmpFunc_api_Ref_R1, ⟨x_slices_heapSortCmpFunc_api_Ref_L2, ⟨x_slices_insertionSortCmpFunc_api_Ref_L1, ⟨x_slices_pdqsortCmpFunc_api_Ref_R3, trivial, trivial⟩, ⟨x_slices_insertionSortCmpFunc_api_Ref_L2, trivial, trivial⟩⟩, ⟨x_slices_breakPatternsCmpFunc_api_Ref_L1, ⟨x_slices_heapSortCmpFunc_api_Ref_L1, trivial, trivial⟩, ⟨x_slices_breakPatternsCmpFunc_api_Ref_R1, trivial, trivial⟩⟩⟩, ⟨x_slices_partialInsertionSortCmpFunc_api_Ref_R1, ⟨x_slices_reverseRangeCmpFunc_api_Ref_L1, ⟨x_slices_choosePivotCmpFunc_api_Ref_R2, trivial, trivial⟩, ⟨x_slices_partialInsertionSortCmpFunc_api_Ref_L1, trivial, trivial⟩⟩, ⟨x_slices_partialInsertionSortCmpFunc_api_Ref_L2, ⟨x_slices_partialInsertionSortCmpFunc_api_Ref_L4, trivial, trivial⟩, trivial⟩⟩⟩, ⟨x_slices_partitionCmpFunc_api_Ref_L4, ⟨x_slices_partitionCmpFunc_api_Ref_L1, ⟨x_slices_partitionEqualCmpFunc_api_Ref_L2, ⟨x_slices_partitionEqualCmpFunc_api_Ref_L1, trivial, trivial⟩, ⟨x_slices_partitionEqualCmpFunc_api_Ref_L3, trivial, trivial⟩⟩, ⟨x_slices_partitionCmpFunc_api_Ref_L3, ⟨x_slices_partitionCmpFunc_api_Ref_L2, trivial, trivial⟩, trivial⟩⟩, ⟨x_math_bits_Len64_R2, ⟨x_math_bits_Len32_R1, ⟨x_slices_partitionCmpFunc_api_Ref_L5, trivial, trivial⟩, ⟨x_math_bits_Len64_R1, trivial, trivial⟩⟩, ⟨x_slices_siftDownCmpFunc_api_Ref_R1, ⟨x_slices_siftDownCmpFunc_api_Ref_L1, trivial, trivial⟩, trivial⟩⟩⟩⟩⟩⟩⟩
theorem tabs_rx : Go.NF.Rx TABS := ⟨⟨r_region_Regions_Copy, ⟨r_commons_Commons_most, ⟨r_fds_Close, ⟨r_law11_Proc, ⟨r_kern_Kern_Do, ⟨r_law15_Plan, ⟨r_law18_FdsLimits, ⟨r_law15_CommonsGone, trivial, trivial⟩, ⟨r_law15_Open, trivial, trivial⟩⟩, ⟨r_caps_Space_Names, ⟨r_kern_Kern_Space, trivial, trivial⟩, trivial⟩⟩, ⟨r_commons_Commons_Term, ⟨r_commons_Commons_File, ⟨r_commons_Commons_Proc, trivial, trivial⟩, ⟨r_commons_Commons_Pipe, trivial, trivial⟩⟩, ⟨r_commons_Commons_SetProc, ⟨r_commons_Commons_Front, trivial, trivial⟩, trivial⟩⟩⟩, ⟨r_law17_Fill, ⟨r_commons_Commons_Bad, ⟨r_commons_Commons_FreeFile, ⟨r_commons_Commons_SetFront, trivial, trivial⟩, ⟨r_commons_New, trivial, trivial⟩⟩, ⟨r_law15_awake, ⟨r_commons_Commons_View, trivial, trivial⟩, trivial⟩⟩, ⟨r_region_Regions_Raw, ⟨r_kern_Kern_Regions, ⟨r_law17_First, trivial, trivial⟩, ⟨r_proc_Fork, trivial, trivial⟩⟩, ⟨r_law18_awake, ⟨r_fds_Pipe, trivial, trivial⟩, trivial⟩⟩⟩⟩, ⟨r_commons_record_api_File, ⟨r_caps_Space_is, ⟨r_ref15_Blank, ⟨r_kern_New, ⟨r_ref15_Boot, trivial, trivial⟩, ⟨r_ref1_NewKern, trivial, trivial⟩⟩, ⟨r_ref15_NewCommons, ⟨r_ref1_Kern_Do, trivial, trivial⟩, trivial⟩⟩, ⟨r_commons_record_api_Proc, ⟨r_kern_Kern_bytes, ⟨r_table_Table_api_Cap_Names, trivial, trivial⟩, ⟨r_kern_Kern_number, trivial, trivial⟩⟩, ⟨r_pslot_Decode, ⟨r_commons_proc, trivial, trivial⟩, trivial⟩⟩⟩, ⟨r_commons_FrontOf, ⟨r_commons_pipe, ⟨r_ofile_Decode, ⟨r_commons_file, trivial, trivial⟩, ⟨r_commons_record_api_Pipe, trivial, trivial⟩⟩, ⟨r_commons_record_int, ⟨r_ring_Decode, trivial, trivial⟩, trivial⟩⟩, ⟨r_law11_Proc_1, ⟨r_commons_Commons_write, ⟨r_pslot_Encode, trivial, trivial⟩, trivial⟩, ⟨r_commons_Commons_blank, ⟨r_commons_FrontBytes, trivial, trivial⟩, trivial⟩⟩⟩⟩⟩, ⟨r_sect_New, ⟨r_fds_Pipe_2, ⟨r_proc_share, ⟨r_proc_Self, ⟨r_ref11_ProcBytes, ⟨r_ref11_PipeBytes, trivial, trivial⟩, ⟨r_ref11_FileBytes, trivial, trivial⟩⟩, ⟨r_proc_free, ⟨r_proc_told, trivial, trivial⟩, trivial⟩⟩, ⟨r_fds_fdsOf, ⟨r_mem_Mem_Load, ⟨r_proc_done, trivial, trivial⟩, ⟨r_fds_told, trivial, trivial⟩⟩, ⟨r_fds_Pipe_1, ⟨r_fds_free, trivial, trivial⟩, trivial⟩⟩⟩, ⟨r_kern_check, ⟨r_fds_Of, ⟨r_commons_Commons_SetFile, ⟨r_commons_Commons_SetPipe, trivial, trivial⟩, ⟨r_fds_done, trivial, trivial⟩⟩, ⟨r_proc_CloseFile, ⟨r_fds_named, trivial, trivial⟩, trivial⟩⟩, ⟨r_caps_New, ⟨r_slices_Clone_s_int_int, ⟨r_kern_frames, trivial, trivial⟩, ⟨r_mem_New, trivial, trivial⟩⟩, ⟨r_region_New, ⟨r_quota_New, trivial, trivial⟩, trivial⟩⟩⟩⟩, ⟨r_ref1_Regions_Write, ⟨r_ref1_NewSpace, ⟨r_caps_Space_Put, ⟨r_quota_Quota_First, ⟨r_region_Regions_Add, trivial, trivial⟩, ⟨r_slices_Contains_s_int_int, trivial, trivial⟩⟩, ⟨r_ref1_Quota_First, ⟨r_ref1_NewQuota, trivial, trivial⟩, trivial⟩⟩, ⟨r_ref1_Space_Put, ⟨r_ref1_Regions_Add, ⟨r_ref1_NewSect, trivial, trivial⟩, ⟨r_ref1_in, trivial, trivial⟩⟩, ⟨r_ref1_Regions_Read, ⟨r_ref15_FrontBytes, trivial, trivial⟩, trivial⟩⟩⟩, ⟨r_ref1_Sect_Enter, ⟨r_ref1_Quota_Alloc, ⟨r_ref1_Space_Grant, ⟨r_ref1_Regions_Copy, trivial, trivial⟩, ⟨r_ref1_Space_Revoke, trivial, trivial⟩⟩, ⟨r_ref1_Kern_may, ⟨r_ref1_Quota_Free, trivial, trivial⟩, trivial⟩⟩, ⟨r_table_Table_api_Cap_name, ⟨r_ref1_Space_All, ⟨r_ref1_Sect_Leave, trivial, trivial⟩, trivial⟩, ⟨r_region_Regions_Write, ⟨r_region_Regions_Read, trivial, trivial⟩, trivial⟩⟩⟩⟩⟩⟩, ⟨r_kern_Kern_sect, ⟨r_slices_ContainsFunc_s_int_int, ⟨r_codec_Codec_api_Pipe_Decode, ⟨r_commons_Commons_read, ⟨r_quota_Quota_Free, ⟨r_caps_Space_Revoke, ⟨r_caps_Space_Grant, trivial, trivial⟩, ⟨r_quota_Quota_Alloc, trivial, trivial⟩⟩, ⟨r_kern_Kern_leave, ⟨r_kern_Kern_enter, trivial, trivial⟩, trivial⟩⟩, ⟨r_ofile_Codec, ⟨r_pslot_Codec, ⟨r_codec_Blank, trivial, trivial⟩, ⟨r_codec_Codec_api_Proc_Decode, trivial, trivial⟩⟩, ⟨r_ring_Codec, ⟨r_codec_Codec_api_File_Decode, trivial, trivial⟩, trivial⟩⟩⟩, ⟨r_mem_Mem_in, ⟨r_ref1_Sum, ⟨r_commons_Commons_place, ⟨r_codec_Codec_api_Proc_Encode, trivial, trivial⟩, ⟨r_codec_Sum, trivial, trivial⟩⟩, ⟨r_commons_Commons_Look, ⟨r_ref1_Two, trivial, trivial⟩, trivial⟩⟩, ⟨r_ofile_Encode, ⟨r_fds_fdsOf_1, ⟨r_slices_Clone_s_byte_byte, trivial, trivial⟩, ⟨r_ring_Encode, trivial, trivial⟩⟩, ⟨r_kern_check_1, ⟨r_commons_Commons_FreePipe, trivial, trivial⟩, trivial⟩⟩⟩⟩, ⟨r_ref1_Names_Drop, ⟨r_ref1_NewNames, ⟨r_slices_Index_s_int_int, ⟨r_table_New_api_Cap, ⟨r_kern_share, trivial, trivial⟩, ⟨r_mem_Mem_Size, trivial, trivial⟩⟩, ⟨r_caps_Space_add, ⟨r_caps_Space_Put_1, trivial, trivial⟩, trivial⟩⟩, ⟨r_ref1_Regions_place, ⟨r_ref1_Space_env, ⟨r_ref1_Within, trivial, trivial⟩, ⟨r_ref1_Space_add, trivial, trivial⟩⟩, ⟨r_ref1_Space_Under, ⟨r_ref1_Space_Get, trivial, trivial⟩, trivial⟩⟩⟩, ⟨r_mem_Mem_Store, ⟨r_ref1_Sect_Holds, ⟨r_ref1_Sect_at, ⟨r_ref1_Quota_Owns, trivial, trivial⟩, ⟨r_ref1_Sect_drop, trivial, trivial⟩⟩, ⟨r_region_Regions_place, ⟨r_ref1_Names_All, trivial, trivial⟩, trivial⟩⟩, ⟨r_table_Table_api_Cap_Drop, ⟨r_caps_Space_Under, ⟨r_caps_Space_Get, trivial, trivial⟩, trivial⟩, ⟨r_quota_Quota_Owns, ⟨r_quota_Quota_is, trivial, trivial⟩, trivial⟩⟩⟩⟩⟩, ⟨r_pslot_Ok, ⟨r_codec_Codec_api_Pipe_Encode, ⟨r_pslot_get, ⟨r_codec_Blank_1, ⟨r_sect_Sect_Leave, ⟨r_sect_Sect_Enter, trivial, trivial⟩, ⟨r_slices_ContainsFunc_s_byte_byte, trivial, trivial⟩⟩, ⟨r_pslot_put, ⟨r_codec_New_api_Proc, trivial, trivial⟩, trivial⟩⟩, ⟨r_codec_New_api_Pipe, ⟨r_ofile_put, ⟨r_codec_New_api_File, trivial, trivial⟩, ⟨r_ofile_get, trivial, trivial⟩⟩, ⟨r_ring_get, ⟨r_ring_put, trivial, trivial⟩, trivial⟩⟩⟩, ⟨r_ref1_rising, ⟨r_ref1_Names_Add, ⟨r_slices_IndexFunc_s_int_int, ⟨r_codec_Codec_api_File_Encode, trivial, trivial⟩, ⟨r_table_Table_api_Cap_Add, trivial, trivial⟩⟩, ⟨r_ref1_has, ⟨r_ref1_Names_Has, trivial, trivial⟩, trivial⟩⟩, ⟨r_table_Table_api_Cap_at, ⟨r_slices_SortFunc_s_api_Ref_api_Ref, ⟨r_table_Table_api_Cap_Get, trivial, trivial⟩, ⟨r_caps_Space_Under_1, trivial, trivial⟩⟩, ⟨r_slices_IndexFunc_s_byte_byte, ⟨r_sect_Sect_Holds, trivial, trivial⟩, trivial⟩⟩⟩⟩, ⟨r_slices_choosePivotCmpFunc_api_Ref, ⟨r_math_bits_Len, ⟨r_ofile_Ok, ⟨r_codec_Get2, ⟨r_codec_Put2, trivial, trivial⟩, ⟨r_slices_Equal_s_byte_byte, trivial, trivial⟩⟩, ⟨r_slices_pdqsortCmpFunc_api_Ref, ⟨r_ring_Ok, trivial, trivial⟩, trivial⟩⟩, ⟨r_slices_insertionSortCmpFunc_api_Ref, ⟨r_pslot_Ok_1, ⟨r_pslot_bits, trivial, trivial⟩, ⟨r_ring_Ok_1, trivial, trivial⟩⟩, ⟨r_slices_breakPatternsCmpFunc_api_Ref, ⟨r_slices_heapSortCmpFunc_api_Ref, trivial, trivial⟩, trivial⟩⟩⟩, ⟨r_slices_siftDownCmpFunc_api_Ref, ⟨r_slices_partitionCmpFunc_api_Ref, ⟨r_slices_partialInsertionSortCmpFunc_api_Ref, ⟨r_slices_reverseRangeCmpFunc_api_Ref, trivial, trivial⟩, ⟨r_slices_partitionEqualCmpFunc_api_Ref, trivial, trivial⟩⟩, ⟨r_math_bits_Len64, ⟨r_math_bits_Len32, trivial, trivial⟩, trivial⟩⟩, ⟨r_slices_medianAdjacentCmpFunc_api_Ref, ⟨r_slices_xorshift_Next, ⟨r_slices_nextPowerOfTwo, trivial, trivial⟩, trivial⟩, ⟨r_slices_order2CmpFunc_api_Ref, ⟨r_slices_medianCmpFunc_api_Ref, trivial, trivial⟩, trivial⟩⟩⟩⟩⟩⟩⟩, ⟨r_ref1_Space_Under_L5, ⟨r_proc_CloseFile_R1, ⟨r_ref1_NewKern_L1, ⟨r_ref15_Boot_L1, ⟨r_law11_Proc_L1, ⟨r_law18_FdsLimits_L2, ⟨r_law18_FdsLimits_L1, trivial, trivial⟩, ⟨r_law18_FdsLimits_R1, trivial, trivial⟩⟩, ⟨r_commons_Commons_Bad_L2, ⟨r_commons_Commons_Bad_L1, trivial, trivial⟩, ⟨r_law17_Fill_L1, trivial, trivial⟩⟩⟩, ⟨r_kern_New_L2, ⟨r_ref15_Boot_L2, ⟨r_ref15_Boot_L3, trivial, trivial⟩, ⟨r_kern_New_L1, trivial, trivial⟩⟩, ⟨r_kern_New_L4, ⟨r_kern_New_L3, trivial, trivial⟩, trivial⟩⟩⟩, ⟨r_ref11_PipeBytes_L1, ⟨r_commons_record_api_Proc_R1, ⟨r_ref1_NewKern_L3, ⟨r_ref1_NewKern_L2, trivial, trivial⟩, ⟨r_table_Table_api_Cap_Names_L1, trivial, trivial⟩⟩, ⟨r_commons_record_api_Pipe_R1, ⟨r_commons_record_api_File_R1, trivial, trivial⟩, ⟨r_commons_record_int_R1, trivial, trivial⟩⟩⟩, ⟨r_proc_share_L2, ⟨r_proc_free_L1, ⟨r_ref11_ProcBytes_L1, trivial, trivial⟩, ⟨r_proc_share_L1, trivial, trivial⟩⟩, ⟨r_fds_free_L1, ⟨r_proc_share_L3, trivial, trivial⟩, trivial⟩⟩⟩⟩, ⟨r_ref1_Sect_Enter_R4, ⟨r_ref1_NewSpace_L1, ⟨r_quota_New_L1, ⟨r_kern_check_L2, ⟨r_kern_check_L1, trivial, trivial⟩, ⟨r_caps_New_L1, trivial, trivial⟩⟩, ⟨r_ref1_NewQuota_L1, ⟨r_quota_Quota_First_L1, trivial, trivial⟩, ⟨r_ref1_Quota_First_L1, trivial, trivial⟩⟩⟩, ⟨r_ref1_Sect_Enter_R1, ⟨r_ref1_Space_Revoke_L1, ⟨r_ref1_in_L1, trivial, trivial⟩, ⟨r_ref1_Quota_Alloc_L1, trivial, trivial⟩⟩, ⟨r_ref1_Sect_Enter_R3, ⟨r_ref1_Sect_Enter_R2, trivial, trivial⟩, trivial⟩⟩⟩, ⟨r_commons_Commons_Look_L3, ⟨r_ref1_Sum_L1, ⟨r_caps_Space_Revoke_L1, ⟨r_ref1_Sect_Enter_L1, trivial, trivial⟩, ⟨r_codec_Sum_L1, trivial, trivial⟩⟩, ⟨r_commons_Commons_Look_L2, ⟨r_commons_Commons_Look_L1, trivial, trivial⟩, trivial⟩⟩, ⟨r_ref1_Space_Under_L1, ⟨r_slices_Index_s_int_int_L1, ⟨r_table_New_api_Cap_L1, trivial, trivial⟩, ⟨r_ref1_NewNames_L1, trivial, trivial⟩⟩, ⟨r_ref1_Space_Under_L2, ⟨r_ref1_Space_Under_L3, trivial, trivial⟩, trivial⟩⟩⟩⟩⟩, ⟨r_slices_pdqsortCmpFunc_api_Ref_R2, ⟨r_pslot_put_L2, ⟨r_caps_Space_Under_L4, ⟨r_caps_Space_Under_L1, ⟨r_ref1_Sect_at_L1, ⟨r_ref1_Space_Under_L4, trivial, trivial⟩, ⟨r_ref1_Names_All_L1, trivial, trivial⟩⟩, ⟨r_caps_Space_Under_L2, ⟨r_caps_Space_Under_L3, trivial, trivial⟩, ⟨r_caps_Space_Under_L5, trivial, trivial⟩⟩⟩, ⟨r_sect_Sect_Enter_R4, ⟨r_sect_Sect_Enter_R2, ⟨r_sect_Sect_Enter_R1, trivial, trivial⟩, ⟨r_sect_Sect_Enter_R3, trivial, trivial⟩⟩, ⟨r_pslot_put_L1, ⟨r_sect_Sect_Enter_L1, trivial, trivial⟩, trivial⟩⟩⟩, ⟨r_ref1_has_L1, ⟨r_slices_IndexFunc_s_int_int_L1, ⟨r_pslot_get_L1, ⟨r_pslot_put_L3, trivial, trivial⟩, ⟨r_pslot_get_L2, trivial, trivial⟩⟩, ⟨r_ref1_Names_Add_L1, ⟨r_table_Table_api_Cap_Add_L1, trivial, trivial⟩, trivial⟩⟩, ⟨r_slices_Equal_s_byte_byte_L1, ⟨r_ref1_rising_L2, ⟨r_ref1_rising_L1, trivial, trivial⟩, ⟨r_slices_IndexFunc_s_byte_byte_L1, trivial, trivial⟩⟩, ⟨r_slices_pdqsortCmpFunc_api_Ref_R1, ⟨r_slices_pdqsortCmpFunc_api_Ref_L1, trivial, trivial⟩, trivial⟩⟩⟩⟩, ⟨r_slices_partialInsertionSortCmpFunc_api_Ref_L3, ⟨r_slices_choosePivotCmpFunc_api_Ref_R1, ⟨r_slices_heapSortCmpFunc_api_Ref_L2, ⟨r_slices_insertionSortCmpFunc_api_Ref_L1, ⟨r_slices_pdqsortCmpFunc_api_Ref_R3, trivial, trivial⟩, ⟨r_slices_insertionSortCmpFunc_api_Ref_L2, trivial, trivial⟩⟩, ⟨r_slices_breakPatternsCmpFunc_api_Ref_L1, ⟨r_slices_heapSortCmpFunc_api_Ref_L1, trivial, trivial⟩, ⟨r_slices_breakPatternsCmpFunc_api_Ref_R1, trivial, trivial⟩⟩⟩, ⟨r_slices_partialInsertionSortCmpFunc_api_Ref_R1, ⟨r_slices_reverseRangeCmpFunc_api_Ref_L1, ⟨r_slices_choosePivotCmpFunc_api_Ref_R2, trivial, trivial⟩, ⟨r_slices_partialInsertionSortCmpFunc_api_Ref_L1, trivial, trivial⟩⟩, ⟨r_slices_partialInsertionSortCmpFunc_api_Ref_L2, ⟨r_slices_partialInsertionSortCmpFunc_api_Ref_L4, trivial, trivial⟩, trivial⟩⟩⟩, ⟨r_slices_partitionCmpFunc_api_Ref_L4, ⟨r_slices_partitionCmpFunc_api_Ref_L1, ⟨r_slices_partitionEqualCmpFunc_api_Ref_L2, ⟨r_slices_partitionEqualCmpFunc_api_Ref_L1, trivial, trivial⟩, ⟨r_slices_partitionEqualCmpFunc_api_Ref_L3, trivial, trivial⟩⟩, ⟨r_slices_partitionCmpFunc_api_Ref_L3, ⟨r_slices_partitionCmpFunc_api_Ref_L2, trivial, trivial⟩, trivial⟩⟩, ⟨r_math_bits_Len64_R2, ⟨r_math_bits_Len32_R1, ⟨r_slices_partitionCmpFunc_api_Ref_L5, trivial, trivial⟩, ⟨r_math_bits_Len64_R1, trivial, trivial⟩⟩, ⟨r_slices_siftDownCmpFunc_api_Ref_R1, ⟨r_slices_siftDownCmpFunc_api_Ref_L1, trivial, trivial⟩, trivial⟩⟩⟩⟩⟩⟩⟩
end Go.EQ

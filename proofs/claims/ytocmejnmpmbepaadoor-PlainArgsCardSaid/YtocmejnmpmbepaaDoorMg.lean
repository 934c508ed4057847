/- PlainArgs returns true whatever plan it is given, and the card ties the two tables that its code names to the program's text. No condition. -/
import Derived.Test.YtocmejnmpmbepaaDoorMf
import Derived.KernelRfl
set_option linter.unusedVariables false
set_option linter.unusedSimpArgs false
set_option linter.unusedSectionVars false
set_option maxRecDepth 100000
set_option linter.unusedVariables false
namespace Go.EQ
open Go Go.Proofs
open Go.NN hiding bnd ld gInt gBool gStr gPtr gSl gMap gFv gAgg gCells nw pV pAgg pCells apd fitsOpen liveA mapAt
open Go.NP Go.NW
theorem x_law23_awake : FunOk PR cutsOf TABS F_law23_awake X_law23_awake := fun call R a h r hh => by
  unfold X_law23_awake at hh
  rw [ieq_eq, ckR_eq] at hh
  split at hh
  · refine ⟨_, _, _, _, k_law23_awake, rfl, ?_⟩
    refine Eq.trans ?_ hh; kernel_rfl
  · cases hh
theorem x_plain_Plain_Do : FunOk PR cutsOf TABS F_plain_Plain_Do X_plain_Plain_Do := fun call R a h r hh => by
  unfold X_plain_Plain_Do at hh
  rw [wrapF_eq, ieq_eq] at hh
  split at hh
  · refine ⟨_, _, _, _, k_plain_Plain_Do, rfl, ?_⟩
    refine Eq.trans ?_ hh; kernel_rfl
  · cases hh
theorem x_plain_Plain_Do_R1 : LabOk PR cutsOf TABS (labKey F_plain_Plain_Do 3007) LB_plain_Plain_Do_R1 := ⟨rfl, by decide, by kernel_rfl, fun call R a h r hh => by
  change X_plain_Plain_Do_R1 H call (lr TABS R) a h = some r at hh
  unfold X_plain_Plain_Do_R1 at hh
  rw [wrapF_eq, ieq_eq, ile_eq, ckR_eq] at hh
  split at hh
  · refine ⟨_, _, _, _, k_plain_Plain_Do, ?_⟩
    refine Eq.trans ?_ hh; kernel_rfl
  · cases hh⟩
theorem x_plain_check_1 : FunOk PR cutsOf TABS F_plain_check_1 X_plain_check_1 := fun call R a h r hh => by
  unfold X_plain_check_1 at hh
  rw [ieq_eq, ilt_eq, ile_eq] at hh
  split at hh
  · refine ⟨_, _, _, _, k_plain_check_1, rfl, ?_⟩
    refine Eq.trans ?_ hh; kernel_rfl
  · cases hh
theorem x_slices_ContainsFunc_s_api_Bridge_api_Bridge : FunOk PR cutsOf TABS F_slices_ContainsFunc_s_api_Bridge_api_Bridge X_slices_ContainsFunc_s_api_Bridge_api_Bridge := fun call R a h r hh => by
  unfold X_slices_ContainsFunc_s_api_Bridge_api_Bridge at hh
  rw [ile_eq] at hh
  split at hh
  · refine ⟨_, _, _, _, k_slices_ContainsFunc_s_api_Bridge_api_Bridge, rfl, ?_⟩
    refine Eq.trans ?_ hh; kernel_rfl
  · cases hh
theorem x_plain_unit_start : FunOk PR cutsOf TABS F_plain_unit_start X_plain_unit_start := fun call R a h r hh => by
  unfold X_plain_unit_start at hh
  rw [ieq_eq, ckR_eq] at hh
  split at hh
  · refine ⟨_, _, _, _, k_plain_unit_start, rfl, ?_⟩
    refine Eq.trans ?_ hh; kernel_rfl
  · cases hh
theorem x_plain_unit_idle : FunOk PR cutsOf TABS F_plain_unit_idle X_plain_unit_idle := fun call R a h r hh => by
  unfold X_plain_unit_idle at hh
  rw [ieq_eq, ckR_eq] at hh
  split at hh
  · refine ⟨_, _, _, _, k_plain_unit_idle, rfl, ?_⟩
    refine Eq.trans ?_ hh; kernel_rfl
  · cases hh
theorem x_slices_IndexFunc_s_api_Bridge_api_Bridge : FunOk PR cutsOf TABS F_slices_IndexFunc_s_api_Bridge_api_Bridge X_slices_IndexFunc_s_api_Bridge_api_Bridge := fun call R a h r hh => by
  unfold X_slices_IndexFunc_s_api_Bridge_api_Bridge at hh
  split at hh
  · refine ⟨_, _, _, _, k_slices_IndexFunc_s_api_Bridge_api_Bridge, rfl, ?_⟩
    refine Eq.trans ?_ hh; kernel_rfl
  · cases hh
theorem x_slices_IndexFunc_s_api_Bridge_api_Bridge_L1 : LabOk PR cutsOf TABS (labKey F_slices_IndexFunc_s_api_Bridge_api_Bridge 3004) LB_slices_IndexFunc_s_api_Bridge_api_Bridge_L1 := ⟨rfl, by decide, by kernel_rfl, fun call R a h r hh => by
  change X_slices_IndexFunc_s_api_Bridge_api_Bridge_L1 H call (lr TABS R) a h = some r at hh
  unfold X_slices_IndexFunc_s_api_Bridge_api_Bridge_L1 at hh
  rw [wrapF_eq, ilt_eq, ckR_eq] at hh
  split at hh
  · refine ⟨_, _, _, _, k_slices_IndexFunc_s_api_Bridge_api_Bridge, ?_⟩
    refine Eq.trans ?_ hh; kernel_rfl
  · cases hh⟩
theorem x_ring_Ok : FunOk PR cutsOf TABS F_ring_Ok X_ring_Ok := fun call R a h r hh => by
  unfold X_ring_Ok at hh
  split at hh
  · refine ⟨_, _, _, _, k_ring_Ok, rfl, ?_⟩
    refine Eq.trans ?_ hh; kernel_rfl
  · cases hh
theorem x_sect_Sect_Enter : FunOk PR cutsOf TABS F_sect_Sect_Enter X_sect_Sect_Enter := fun call R a h r hh => by
  unfold X_sect_Sect_Enter at hh
  rw [ieq_eq, ilt_eq] at hh
  split at hh
  · refine ⟨_, _, _, _, k_sect_Sect_Enter, rfl, ?_⟩
    refine Eq.trans ?_ hh; kernel_rfl
  · cases hh
theorem x_sect_Sect_Enter_R1 : LabOk PR cutsOf TABS (labKey F_sect_Sect_Enter 2021) LB_sect_Sect_Enter_R1 := ⟨rfl, by decide, by kernel_rfl, fun call R a h r hh => by
  change X_sect_Sect_Enter_R1 H call (lr TABS R) a h = some r at hh
  unfold X_sect_Sect_Enter_R1 at hh
  split at hh
  · refine ⟨_, _, _, _, k_sect_Sect_Enter, ?_⟩
    refine Eq.trans ?_ hh; kernel_rfl
  · cases hh⟩
theorem x_sect_Sect_Enter_R2 : LabOk PR cutsOf TABS (labKey F_sect_Sect_Enter 3023) LB_sect_Sect_Enter_R2 := ⟨rfl, by decide, by kernel_rfl, fun call R a h r hh => by
  change X_sect_Sect_Enter_R2 H call (lr TABS R) a h = some r at hh
  unfold X_sect_Sect_Enter_R2 at hh
  rw [wrapF_eq, ile_eq] at hh
  split at hh
  · refine ⟨_, _, _, _, k_sect_Sect_Enter, ?_⟩
    refine Eq.trans ?_ hh; kernel_rfl
  · cases hh⟩
theorem x_sect_Sect_Enter_R3 : LabOk PR cutsOf TABS (labKey F_sect_Sect_Enter 3029) LB_sect_Sect_Enter_R3 := ⟨rfl, by decide, by kernel_rfl, fun call R a h r hh => by
  change X_sect_Sect_Enter_R3 H call (lr TABS R) a h = some r at hh
  unfold X_sect_Sect_Enter_R3 at hh
  rw [ieq_eq, ckR_eq] at hh
  split at hh
  · refine ⟨_, _, _, _, k_sect_Sect_Enter, ?_⟩
    refine Eq.trans ?_ hh; kernel_rfl
  · cases hh⟩
theorem x_sect_Sect_Enter_R4 : LabOk PR cutsOf TABS (labKey F_sect_Sect_Enter 3035) LB_sect_Sect_Enter_R4 := ⟨rfl, by decide, by kernel_rfl, fun call R a h r hh => by
  change X_sect_Sect_Enter_R4 H call (lr TABS R) a h = some r at hh
  unfold X_sect_Sect_Enter_R4 at hh
  split at hh
  · refine ⟨_, _, _, _, k_sect_Sect_Enter, ?_⟩
    refine Eq.trans ?_ hh; kernel_rfl
  · cases hh⟩
theorem x_sect_Sect_Enter_L1 : LabOk PR cutsOf TABS (labKey F_sect_Sect_Enter 3036) LB_sect_Sect_Enter_L1 := ⟨rfl, by decide, by kernel_rfl, fun call R a h r hh => by
  change X_sect_Sect_Enter_L1 H call (lr TABS R) a h = some r at hh
  unfold X_sect_Sect_Enter_L1 at hh
  rw [wrapF_eq, ine_eq, ile_eq, ckR_eq, ckL_eq] at hh
  split at hh
  · refine ⟨_, _, _, _, k_sect_Sect_Enter, ?_⟩
    refine Eq.trans ?_ hh; kernel_rfl
  · cases hh⟩
theorem x_sect_Sect_Leave : FunOk PR cutsOf TABS F_sect_Sect_Leave X_sect_Sect_Leave := fun call R a h r hh => by
  unfold X_sect_Sect_Leave at hh
  split at hh
  · refine ⟨_, _, _, _, k_sect_Sect_Leave, rfl, ?_⟩
    refine Eq.trans ?_ hh; kernel_rfl
  · cases hh
theorem x_sect_Sect_Holds : FunOk PR cutsOf TABS F_sect_Sect_Holds X_sect_Sect_Holds := fun call R a h r hh => by
  unfold X_sect_Sect_Holds at hh
  rw [ieq_eq] at hh
  split at hh
  · refine ⟨_, _, _, _, k_sect_Sect_Holds, rfl, ?_⟩
    refine Eq.trans ?_ hh; kernel_rfl
  · cases hh
theorem x_sig_Wakes : FunOk PR cutsOf TABS F_sig_Wakes X_sig_Wakes := fun call R a h r hh => by
  unfold X_sig_Wakes at hh
  rw [ilt_eq] at hh
  split at hh
  · refine ⟨_, _, _, _, k_sig_Wakes, rfl, ?_⟩
    refine Eq.trans ?_ hh; kernel_rfl
  · cases hh
theorem x_sig_Deliver : FunOk PR cutsOf TABS F_sig_Deliver X_sig_Deliver := fun call R a h r hh => by
  unfold X_sig_Deliver at hh
  split at hh
  · refine ⟨_, _, _, _, k_sig_Deliver, rfl, ?_⟩
    refine Eq.trans ?_ hh; kernel_rfl
  · cases hh
theorem x_sig_Deliver_L1 : LabOk PR cutsOf TABS (labKey F_sig_Deliver 2002) LB_sig_Deliver_L1 := ⟨rfl, by decide, by kernel_rfl, fun call R a h r hh => by
  change X_sig_Deliver_L1 H call (lr TABS R) a h = some r at hh
  unfold X_sig_Deliver_L1 at hh
  rw [wrapF_eq, ieq_eq] at hh
  split at hh
  · refine ⟨_, _, _, _, k_sig_Deliver, ?_⟩
    refine Eq.trans ?_ hh; kernel_rfl
  · cases hh⟩
theorem x_slices_Index_s_int_int : FunOk PR cutsOf TABS F_slices_Index_s_int_int X_slices_Index_s_int_int := fun call R a h r hh => by
  unfold X_slices_Index_s_int_int at hh
  split at hh
  · refine ⟨_, _, _, _, k_slices_Index_s_int_int, rfl, ?_⟩
    refine Eq.trans ?_ hh; kernel_rfl
  · cases hh
theorem x_slices_Index_s_int_int_L1 : LabOk PR cutsOf TABS (labKey F_slices_Index_s_int_int 3004) LB_slices_Index_s_int_int_L1 := ⟨rfl, by decide, by kernel_rfl, fun call R a h r hh => by
  change X_slices_Index_s_int_int_L1 H call (lr TABS R) a h = some r at hh
  unfold X_slices_Index_s_int_int_L1 at hh
  rw [wrapF_eq, ieq_eq, ilt_eq, ckR_eq] at hh
  split at hh
  · refine ⟨_, _, _, _, k_slices_Index_s_int_int, ?_⟩
    refine Eq.trans ?_ hh; kernel_rfl
  · cases hh⟩
theorem x_slices_Delete_s_int_int : FunOk PR cutsOf TABS F_slices_Delete_s_int_int X_slices_Delete_s_int_int := fun call R a h r hh => by
  unfold X_slices_Delete_s_int_int at hh
  rw [ieq_eq, ckL_eq] at hh
  split at hh
  · refine ⟨_, _, _, _, k_slices_Delete_s_int_int, rfl, ?_⟩
    refine Eq.trans ?_ hh; kernel_rfl
  · cases hh
theorem x_slices_Clone_s_int_int : FunOk PR cutsOf TABS F_slices_Clone_s_int_int X_slices_Clone_s_int_int := fun call R a h r hh => by
  unfold X_slices_Clone_s_int_int at hh
  split at hh
  · refine ⟨_, _, _, _, k_slices_Clone_s_int_int, rfl, ?_⟩
    refine Eq.trans ?_ hh; kernel_rfl
  · cases hh
theorem x_plain_told : FunOk PR cutsOf TABS F_plain_told X_plain_told := fun call R a h r hh => by
  unfold X_plain_told at hh
  rw [ine_eq] at hh
  split at hh
  · refine ⟨_, _, _, _, k_plain_told, rfl, ?_⟩
    refine Eq.trans ?_ hh; kernel_rfl
  · cases hh
theorem x_plain_unit_wait : FunOk PR cutsOf TABS F_plain_unit_wait X_plain_unit_wait := fun call R a h r hh => by
  unfold X_plain_unit_wait at hh
  split at hh
  · refine ⟨_, _, _, _, k_plain_unit_wait, rfl, ?_⟩
    refine Eq.trans ?_ hh; kernel_rfl
  · cases hh
theorem x_plain_unit_wait_L1 : LabOk PR cutsOf TABS (labKey F_plain_unit_wait 3006) LB_plain_unit_wait_L1 := ⟨rfl, by decide, by kernel_rfl, fun call R a h r hh => by
  change X_plain_unit_wait_L1 H call (lr TABS R) a h = some r at hh
  unfold X_plain_unit_wait_L1 at hh
  rw [wrapF_eq, ieq_eq, ilt_eq, ckR_eq] at hh
  split at hh
  · refine ⟨_, _, _, _, k_plain_unit_wait, ?_⟩
    refine Eq.trans ?_ hh; kernel_rfl
  · cases hh⟩
theorem x_plain_unit_kill : FunOk PR cutsOf TABS F_plain_unit_kill X_plain_unit_kill := fun call R a h r hh => by
  unfold X_plain_unit_kill at hh
  rw [ieq_eq] at hh
  split at hh
  · refine ⟨_, _, _, _, k_plain_unit_kill, rfl, ?_⟩
    refine Eq.trans ?_ hh; kernel_rfl
  · cases hh
theorem x_plain_unit_kill_L1 : LabOk PR cutsOf TABS (labKey F_plain_unit_kill 3014) LB_plain_unit_kill_L1 := ⟨rfl, by decide, by kernel_rfl, fun call R a h r hh => by
  change X_plain_unit_kill_L1 H call (lr TABS R) a h = some r at hh
  unfold X_plain_unit_kill_L1 at hh
  rw [wrapF_eq, ilt_eq, ckR_eq] at hh
  split at hh
  · refine ⟨_, _, _, _, k_plain_unit_kill, ?_⟩
    refine Eq.trans ?_ hh; kernel_rfl
  · cases hh⟩
theorem x_plain_unit_group : FunOk PR cutsOf TABS F_plain_unit_group X_plain_unit_group := fun call R a h r hh => by
  unfold X_plain_unit_group at hh
  rw [wrapF_eq, ine_eq, ckR_eq] at hh
  split at hh
  · refine ⟨_, _, _, _, k_plain_unit_group, rfl, ?_⟩
    refine Eq.trans ?_ hh; kernel_rfl
  · cases hh
theorem x_sig_Next : FunOk PR cutsOf TABS F_sig_Next X_sig_Next := fun call R a h r hh => by
  unfold X_sig_Next at hh
  rw [wrapF_eq, bitA_eq, ine_eq, ieq_eq] at hh
  split at hh
  · refine ⟨_, _, _, _, k_sig_Next, rfl, ?_⟩
    refine Eq.trans ?_ hh; kernel_rfl
  · cases hh
theorem x_sig_Next_R1 : LabOk PR cutsOf TABS (labKey F_sig_Next 2015) LB_sig_Next_R1 := ⟨rfl, by decide, by kernel_rfl, fun call R a h r hh => by
  change X_sig_Next_R1 H call (lr TABS R) a h = some r at hh
  unfold X_sig_Next_R1 at hh
  rw [wrapF_eq, bitA_eq, ieq_eq] at hh
  split at hh
  · refine ⟨_, _, _, _, k_sig_Next, ?_⟩
    refine Eq.trans ?_ hh; kernel_rfl
  · cases hh⟩
theorem x_plain_unit_open : FunOk PR cutsOf TABS F_plain_unit_open X_plain_unit_open := fun call R a h r hh => by
  unfold X_plain_unit_open at hh
  rw [wrapF_eq, ieq_eq, ckR_eq] at hh
  split at hh
  · refine ⟨_, _, _, _, k_plain_unit_open, rfl, ?_⟩
    refine Eq.trans ?_ hh; kernel_rfl
  · cases hh
theorem x_plain_unit_pipe : FunOk PR cutsOf TABS F_plain_unit_pipe X_plain_unit_pipe := fun call R a h r hh => by
  unfold X_plain_unit_pipe at hh
  rw [ilt_eq] at hh
  split at hh
  · refine ⟨_, _, _, _, k_plain_unit_pipe, rfl, ?_⟩
    refine Eq.trans ?_ hh; kernel_rfl
  · cases hh
theorem x_plain_unit_pipe_L1 : LabOk PR cutsOf TABS (labKey F_plain_unit_pipe 3012) LB_plain_unit_pipe_L1 := ⟨rfl, by decide, by kernel_rfl, fun call R a h r hh => by
  change X_plain_unit_pipe_L1 H call (lr TABS R) a h = some r at hh
  unfold X_plain_unit_pipe_L1 at hh
  rw [wrapF_eq, ieq_eq, ilt_eq, ckR_eq, ckL_eq] at hh
  split at hh
  · refine ⟨_, _, _, _, k_plain_unit_pipe, ?_⟩
    refine Eq.trans ?_ hh; kernel_rfl
  · cases hh⟩
theorem x_plain_unit_pipe_L2 : LabOk PR cutsOf TABS (labKey F_plain_unit_pipe 3032) LB_plain_unit_pipe_L2 := ⟨rfl, by decide, by kernel_rfl, fun call R a h r hh => by
  change X_plain_unit_pipe_L2 H call (lr TABS R) a h = some r at hh
  unfold X_plain_unit_pipe_L2 at hh
  rw [wrapF_eq, ilt_eq, ckR_eq] at hh
  split at hh
  · refine ⟨_, _, _, _, k_plain_unit_pipe, ?_⟩
    refine Eq.trans ?_ hh; kernel_rfl
  · cases hh⟩
theorem x_plain_unit_dup : FunOk PR cutsOf TABS F_plain_unit_dup X_plain_unit_dup := fun call R a h r hh => by
  unfold X_plain_unit_dup at hh
  rw [wrapF_eq, ieq_eq, ile_eq, ckR_eq] at hh
  split at hh
  · refine ⟨_, _, _, _, k_plain_unit_dup, rfl, ?_⟩
    refine Eq.trans ?_ hh; kernel_rfl
  · cases hh
theorem x_plain_unit_dup2 : FunOk PR cutsOf TABS F_plain_unit_dup2 X_plain_unit_dup2 := fun call R a h r hh => by
  unfold X_plain_unit_dup2 at hh
  rw [wrapF_eq, ieq_eq, ile_eq, ckR_eq] at hh
  split at hh
  · refine ⟨_, _, _, _, k_plain_unit_dup2, rfl, ?_⟩
    refine Eq.trans ?_ hh; kernel_rfl
  · cases hh
theorem x_plain_unit_never : FunOk PR cutsOf TABS F_plain_unit_never X_plain_unit_never := fun call R a h r hh => by
  unfold X_plain_unit_never at hh
  split at hh
  · refine ⟨_, _, _, _, k_plain_unit_never, rfl, ?_⟩
    refine Eq.trans ?_ hh; kernel_rfl
  · cases hh
theorem x_plain_unit_fork_1 : FunOk PR cutsOf TABS F_plain_unit_fork_1 X_plain_unit_fork_1 := fun call R a h r hh => by
  unfold X_plain_unit_fork_1 at hh
  rw [ieq_eq] at hh
  split at hh
  · refine ⟨_, _, _, _, k_plain_unit_fork_1, rfl, ?_⟩
    refine Eq.trans ?_ hh; kernel_rfl
  · cases hh
theorem x_plain_unit_wait_1 : FunOk PR cutsOf TABS F_plain_unit_wait_1 X_plain_unit_wait_1 := fun call R a h r hh => by
  unfold X_plain_unit_wait_1 at hh
  rw [wrapF_eq, ieq_eq, ilt_eq, ckR_eq] at hh
  split at hh
  · refine ⟨_, _, _, _, k_plain_unit_wait_1, rfl, ?_⟩
    refine Eq.trans ?_ hh; kernel_rfl
  · cases hh
theorem x_plain_unit_kill_1 : FunOk PR cutsOf TABS F_plain_unit_kill_1 X_plain_unit_kill_1 := fun call R a h r hh => by
  unfold X_plain_unit_kill_1 at hh
  rw [wrapF_eq, ieq_eq, ilt_eq, ile_eq, ckR_eq] at hh
  split at hh
  · refine ⟨_, _, _, _, k_plain_unit_kill_1, rfl, ?_⟩
    refine Eq.trans ?_ hh; kernel_rfl
  · cases hh
theorem x_sig_Raise : FunOk PR cutsOf TABS F_sig_Raise X_sig_Raise := fun call R a h r hh => by
  unfold X_sig_Raise at hh
  rw [wrapF_eq, bitA_eq, ine_eq, ieq_eq] at hh
  split at hh
  · refine ⟨_, _, _, _, k_sig_Raise, rfl, ?_⟩
    refine Eq.trans ?_ hh; kernel_rfl
  · cases hh
theorem x_sig_Raise_R1 : LabOk PR cutsOf TABS (labKey F_sig_Raise 3013) LB_sig_Raise_R1 := ⟨rfl, by decide, by kernel_rfl, fun call R a h r hh => by
  change X_sig_Raise_R1 H call (lr TABS R) a h = some r at hh
  unfold X_sig_Raise_R1 at hh
  rw [ieq_eq] at hh
  split at hh
  · refine ⟨_, _, _, _, k_sig_Raise, ?_⟩
    refine Eq.trans ?_ hh; kernel_rfl
  · cases hh⟩
theorem x_sig_Raise_R2 : LabOk PR cutsOf TABS (labKey F_sig_Raise 3017) LB_sig_Raise_R2 := ⟨rfl, by decide, by kernel_rfl, fun call R a h r hh => by
  change X_sig_Raise_R2 H call (lr TABS R) a h = some r at hh
  unfold X_sig_Raise_R2 at hh
  rw [ieq_eq] at hh
  split at hh
  · refine ⟨_, _, _, _, k_sig_Raise, ?_⟩
    refine Eq.trans ?_ hh; kernel_rfl
  · cases hh⟩
theorem x_sig_Mask : FunOk PR cutsOf TABS F_sig_Mask X_sig_Mask := fun call R a h r hh => by
  unfold X_sig_Mask at hh
  rw [bitA_eq, ilt_eq] at hh
  split at hh
  · refine ⟨_, _, _, _, k_sig_Mask, rfl, ?_⟩
    refine Eq.trans ?_ hh; kernel_rfl
  · cases hh
theorem x_math_bits_TrailingZeros : FunOk PR cutsOf TABS F_math_bits_TrailingZeros X_math_bits_TrailingZeros := fun call R a h r hh => by
  unfold X_math_bits_TrailingZeros at hh
  split at hh
  · refine ⟨_, _, _, _, k_math_bits_TrailingZeros, rfl, ?_⟩
    refine Eq.trans ?_ hh; kernel_rfl
  · cases hh
theorem x_sig_is : FunOk PR cutsOf TABS F_sig_is X_sig_is := fun call R a h r hh => by
  unfold X_sig_is at hh
  rw [ile_eq] at hh
  split at hh
  · refine ⟨_, _, _, _, k_sig_is, rfl, ?_⟩
    refine Eq.trans ?_ hh; kernel_rfl
  · cases hh
theorem x_plain_unit_has_1 : FunOk PR cutsOf TABS F_plain_unit_has_1 X_plain_unit_has_1 := fun call R a h r hh => by
  unfold X_plain_unit_has_1 at hh
  rw [ieq_eq, ckR_eq] at hh
  split at hh
  · refine ⟨_, _, _, _, k_plain_unit_has_1, rfl, ?_⟩
    refine Eq.trans ?_ hh; kernel_rfl
  · cases hh
theorem x_ring_Bytes : FunOk PR cutsOf TABS F_ring_Bytes X_ring_Bytes := fun call R a h r hh => by
  unfold X_ring_Bytes at hh
  split at hh
  · refine ⟨_, _, _, _, k_ring_Bytes, rfl, ?_⟩
    refine Eq.trans ?_ hh; kernel_rfl
  · cases hh
theorem x_ring_Bytes_L1 : LabOk PR cutsOf TABS (labKey F_ring_Bytes 3010) LB_ring_Bytes_L1 := ⟨rfl, by decide, by kernel_rfl, fun call R a h r hh => by
  change X_ring_Bytes_L1 H call (lr TABS R) a h = some r at hh
  unfold X_ring_Bytes_L1 at hh
  rw [wrapF_eq, ilt_eq, ckR_eq] at hh
  split at hh
  · refine ⟨_, _, _, _, k_ring_Bytes, ?_⟩
    refine Eq.trans ?_ hh; kernel_rfl
  · cases hh⟩
theorem x_slices_Clip_s_byte_byte : FunOk PR cutsOf TABS F_slices_Clip_s_byte_byte X_slices_Clip_s_byte_byte := fun call R a h r hh => by
  unfold X_slices_Clip_s_byte_byte at hh
  rw [ckL_eq] at hh
  split at hh
  · refine ⟨_, _, _, _, k_slices_Clip_s_byte_byte, rfl, ?_⟩
    refine Eq.trans ?_ hh; kernel_rfl
  · cases hh
end Go.EQ

set_option maxRecDepth 100000
set_option linter.unusedVariables false
namespace Go.EQ
open Go Go.Proofs
open Go.NN hiding bnd ld gInt gBool gStr gPtr gSl gMap gFv gAgg gCells nw pV pAgg pCells apd fitsOpen liveA mapAt
open Go.NP Go.NW
theorem x_plain_New : FunOk PR cutsOf TABS F_plain_New X_plain_New := fun call R a h r hh => by
  unfold X_plain_New at hh
  split at hh
  · refine ⟨_, _, _, _, k_plain_New, rfl, ?_⟩
    refine Eq.trans ?_ hh; kernel_rfl
  · cases hh
theorem x_plain_New_L1 : LabOk PR cutsOf TABS (labKey F_plain_New 3010) LB_plain_New_L1 := ⟨rfl, by decide, by kernel_rfl, fun call R a h r hh => by
  change X_plain_New_L1 H call (lr TABS R) a h = some r at hh
  unfold X_plain_New_L1 at hh
  rw [wrapF_eq, ilt_eq, ckR_eq] at hh
  split at hh
  · refine ⟨_, _, _, _, k_plain_New, ?_⟩
    refine Eq.trans ?_ hh; kernel_rfl
  · cases hh⟩
theorem x_plain_New_L2 : LabOk PR cutsOf TABS (labKey F_plain_New 3026) LB_plain_New_L2 := ⟨rfl, by decide, by kernel_rfl, fun call R a h r hh => by
  change X_plain_New_L2 H call (lr TABS R) a h = some r at hh
  unfold X_plain_New_L2 at hh
  rw [wrapF_eq, ilt_eq, ckR_eq] at hh
  split at hh
  · refine ⟨_, _, _, _, k_plain_New, ?_⟩
    refine Eq.trans ?_ hh; kernel_rfl
  · cases hh⟩
theorem x_plain_Run : FunOk PR cutsOf TABS F_plain_Run X_plain_Run := fun call R a h r hh => by
  unfold X_plain_Run at hh
  rw [ine_eq] at hh
  split at hh
  · refine ⟨_, _, _, _, k_plain_Run, rfl, ?_⟩
    refine Eq.trans ?_ hh; kernel_rfl
  · cases hh
theorem x_plain_Run_L1 : LabOk PR cutsOf TABS (labKey F_plain_Run 3012) LB_plain_Run_L1 := ⟨rfl, by decide, by kernel_rfl, fun call R a h r hh => by
  change X_plain_Run_L1 H call (lr TABS R) a h = some r at hh
  unfold X_plain_Run_L1 at hh
  rw [wrapF_eq, ilt_eq, ckR_eq] at hh
  split at hh
  · refine ⟨_, _, _, _, k_plain_Run, ?_⟩
    refine Eq.trans ?_ hh; kernel_rfl
  · cases hh⟩
theorem x_plain_check : FunOk PR cutsOf TABS F_plain_check X_plain_check := fun call R a h r hh => by
  unfold X_plain_check at hh
  rw [ile_eq] at hh
  split at hh
  · refine ⟨_, _, _, _, k_plain_check, rfl, ?_⟩
    refine Eq.trans ?_ hh; kernel_rfl
  · cases hh
theorem x_sect_New : FunOk PR cutsOf TABS F_sect_New X_sect_New := fun call R a h r hh => by
  unfold X_sect_New at hh
  split at hh
  · refine ⟨_, _, _, _, k_sect_New, rfl, ?_⟩
    refine Eq.trans ?_ hh; kernel_rfl
  · cases hh
theorem x_plain_unit_bridge : FunOk PR cutsOf TABS F_plain_unit_bridge X_plain_unit_bridge := fun call R a h r hh => by
  unfold X_plain_unit_bridge at hh
  rw [wrapF_eq, ckR_eq] at hh
  split at hh
  · refine ⟨_, _, _, _, k_plain_unit_bridge, rfl, ?_⟩
    refine Eq.trans ?_ hh; kernel_rfl
  · cases hh
theorem x_plain_in : FunOk PR cutsOf TABS F_plain_in X_plain_in := fun call R a h r hh => by
  unfold X_plain_in at hh
  rw [ile_eq] at hh
  split at hh
  · refine ⟨_, _, _, _, k_plain_in, rfl, ?_⟩
    refine Eq.trans ?_ hh; kernel_rfl
  · cases hh
theorem x_ring_Put : FunOk PR cutsOf TABS F_ring_Put X_ring_Put := fun call R a h r hh => by
  unfold X_ring_Put at hh
  split at hh
  · refine ⟨_, _, _, _, k_ring_Put, rfl, ?_⟩
    refine Eq.trans ?_ hh; kernel_rfl
  · cases hh
theorem x_ring_Put_L1 : LabOk PR cutsOf TABS (labKey F_ring_Put 3010) LB_ring_Put_L1 := ⟨rfl, by decide, by kernel_rfl, fun call R a h r hh => by
  change X_ring_Put_L1 H call (lr TABS R) a h = some r at hh
  unfold X_ring_Put_L1 at hh
  rw [wrapF_eq, ieq_eq, ilt_eq, ckR_eq] at hh
  split at hh
  · refine ⟨_, _, _, _, k_ring_Put, ?_⟩
    refine Eq.trans ?_ hh; kernel_rfl
  · cases hh⟩
theorem x_plain_unit_pick : FunOk PR cutsOf TABS F_plain_unit_pick X_plain_unit_pick := fun call R a h r hh => by
  unfold X_plain_unit_pick at hh
  rw [ieq_eq, ckR_eq] at hh
  split at hh
  · refine ⟨_, _, _, _, k_plain_unit_pick, rfl, ?_⟩
    refine Eq.trans ?_ hh; kernel_rfl
  · cases hh
theorem x_plain_unit_pick_R1 : LabOk PR cutsOf TABS (labKey F_plain_unit_pick 4017) LB_plain_unit_pick_R1 := ⟨rfl, by decide, by kernel_rfl, fun call R a h r hh => by
  change X_plain_unit_pick_R1 H call (lr TABS R) a h = some r at hh
  unfold X_plain_unit_pick_R1 at hh
  split at hh
  · refine ⟨_, _, _, _, k_plain_unit_pick, ?_⟩
    refine Eq.trans ?_ hh; kernel_rfl
  · cases hh⟩
theorem x_plain_unit_pick_R2 : LabOk PR cutsOf TABS (labKey F_plain_unit_pick 4029) LB_plain_unit_pick_R2 := ⟨rfl, by decide, by kernel_rfl, fun call R a h r hh => by
  change X_plain_unit_pick_R2 H call (lr TABS R) a h = some r at hh
  unfold X_plain_unit_pick_R2 at hh
  split at hh
  · refine ⟨_, _, _, _, k_plain_unit_pick, ?_⟩
    refine Eq.trans ?_ hh; kernel_rfl
  · cases hh⟩
theorem x_plain_unit_lives : FunOk PR cutsOf TABS F_plain_unit_lives X_plain_unit_lives := fun call R a h r hh => by
  unfold X_plain_unit_lives at hh
  rw [ieq_eq, ckR_eq] at hh
  split at hh
  · refine ⟨_, _, _, _, k_plain_unit_lives, rfl, ?_⟩
    refine Eq.trans ?_ hh; kernel_rfl
  · cases hh
theorem x_slices_Clone_s_byte_byte : FunOk PR cutsOf TABS F_slices_Clone_s_byte_byte X_slices_Clone_s_byte_byte := fun call R a h r hh => by
  unfold X_slices_Clone_s_byte_byte at hh
  split at hh
  · refine ⟨_, _, _, _, k_slices_Clone_s_byte_byte, rfl, ?_⟩
    refine Eq.trans ?_ hh; kernel_rfl
  · cases hh
theorem x_plain_unit_leave : FunOk PR cutsOf TABS F_plain_unit_leave X_plain_unit_leave := fun call R a h r hh => by
  unfold X_plain_unit_leave at hh
  rw [ckR_eq] at hh
  split at hh
  · refine ⟨_, _, _, _, k_plain_unit_leave, rfl, ?_⟩
    refine Eq.trans ?_ hh; kernel_rfl
  · cases hh
theorem x_plain_unit_inside : FunOk PR cutsOf TABS F_plain_unit_inside X_plain_unit_inside := fun call R a h r hh => by
  unfold X_plain_unit_inside at hh
  rw [ine_eq, ckR_eq] at hh
  split at hh
  · refine ⟨_, _, _, _, k_plain_unit_inside, rfl, ?_⟩
    refine Eq.trans ?_ hh; kernel_rfl
  · cases hh
theorem x_plain_unit_blocked : FunOk PR cutsOf TABS F_plain_unit_blocked X_plain_unit_blocked := fun call R a h r hh => by
  unfold X_plain_unit_blocked at hh
  rw [ckR_eq] at hh
  split at hh
  · refine ⟨_, _, _, _, k_plain_unit_blocked, rfl, ?_⟩
    refine Eq.trans ?_ hh; kernel_rfl
  · cases hh
theorem x_plain_unit_signals : FunOk PR cutsOf TABS F_plain_unit_signals X_plain_unit_signals := fun call R a h r hh => by
  unfold X_plain_unit_signals at hh
  rw [wrapF_eq, ine_eq, ilt_eq, ckR_eq] at hh
  split at hh
  · refine ⟨_, _, _, _, k_plain_unit_signals, rfl, ?_⟩
    refine Eq.trans ?_ hh; kernel_rfl
  · cases hh
theorem x_sect_Sect_Quit : FunOk PR cutsOf TABS F_sect_Sect_Quit X_sect_Sect_Quit := fun call R a h r hh => by
  unfold X_sect_Sect_Quit at hh
  rw [ieq_eq] at hh
  split at hh
  · refine ⟨_, _, _, _, k_sect_Sect_Quit, rfl, ?_⟩
    refine Eq.trans ?_ hh; kernel_rfl
  · cases hh
theorem x_sect_Sect_Quit_R1 : LabOk PR cutsOf TABS (labKey F_sect_Sect_Quit 2007) LB_sect_Sect_Quit_R1 := ⟨rfl, by decide, by kernel_rfl, fun call R a h r hh => by
  change X_sect_Sect_Quit_R1 H call (lr TABS R) a h = some r at hh
  unfold X_sect_Sect_Quit_R1 at hh
  rw [wrapF_eq, ieq_eq, ilt_eq] at hh
  split at hh
  · refine ⟨_, _, _, _, k_sect_Sect_Quit, ?_⟩
    refine Eq.trans ?_ hh; kernel_rfl
  · cases hh⟩
theorem x_ring_Ok_1 : FunOk PR cutsOf TABS F_ring_Ok_1 X_ring_Ok_1 := fun call R a h r hh => by
  unfold X_ring_Ok_1 at hh
  rw [ile_eq] at hh
  split at hh
  · refine ⟨_, _, _, _, k_ring_Ok_1, rfl, ?_⟩
    refine Eq.trans ?_ hh; kernel_rfl
  · cases hh
theorem x_slices_Contains_s_int_int : FunOk PR cutsOf TABS F_slices_Contains_s_int_int X_slices_Contains_s_int_int := fun call R a h r hh => by
  unfold X_slices_Contains_s_int_int at hh
  rw [ile_eq] at hh
  split at hh
  · refine ⟨_, _, _, _, k_slices_Contains_s_int_int, rfl, ?_⟩
    refine Eq.trans ?_ hh; kernel_rfl
  · cases hh
theorem x_plain_unit_do : FunOk PR cutsOf TABS F_plain_unit_do X_plain_unit_do := fun call R a h r hh => by
  unfold X_plain_unit_do at hh
  rw [wrapF_eq, ieq_eq, ckR_eq] at hh
  split at hh
  · refine ⟨_, _, _, _, k_plain_unit_do, rfl, ?_⟩
    refine Eq.trans ?_ hh; kernel_rfl
  · cases hh
theorem x_plain_unit_wakes : FunOk PR cutsOf TABS F_plain_unit_wakes X_plain_unit_wakes := fun call R a h r hh => by
  unfold X_plain_unit_wakes at hh
  rw [ine_eq, ieq_eq, ilt_eq, ile_eq, ckR_eq] at hh
  split at hh
  · refine ⟨_, _, _, _, k_plain_unit_wakes, rfl, ?_⟩
    refine Eq.trans ?_ hh; kernel_rfl
  · cases hh
theorem x_plain_unit_exit : FunOk PR cutsOf TABS F_plain_unit_exit X_plain_unit_exit := fun call R a h r hh => by
  unfold X_plain_unit_exit at hh
  rw [ckR_eq] at hh
  split at hh
  · refine ⟨_, _, _, _, k_plain_unit_exit, rfl, ?_⟩
    refine Eq.trans ?_ hh; kernel_rfl
  · cases hh
theorem x_plain_unit_exit_L1 : LabOk PR cutsOf TABS (labKey F_plain_unit_exit 3004) LB_plain_unit_exit_L1 := ⟨rfl, by decide, by kernel_rfl, fun call R a h r hh => by
  change X_plain_unit_exit_L1 H call (lr TABS R) a h = some r at hh
  unfold X_plain_unit_exit_L1 at hh
  rw [wrapF_eq, ilt_eq, ckR_eq] at hh
  split at hh
  · refine ⟨_, _, _, _, k_plain_unit_exit, ?_⟩
    refine Eq.trans ?_ hh; kernel_rfl
  · cases hh⟩
theorem x_plain_unit_exit_L2 : LabOk PR cutsOf TABS (labKey F_plain_unit_exit 3018) LB_plain_unit_exit_L2 := ⟨rfl, by decide, by kernel_rfl, fun call R a h r hh => by
  change X_plain_unit_exit_L2 H call (lr TABS R) a h = some r at hh
  unfold X_plain_unit_exit_L2 at hh
  rw [wrapF_eq, ine_eq, ieq_eq, ilt_eq, ckR_eq] at hh
  split at hh
  · refine ⟨_, _, _, _, k_plain_unit_exit, ?_⟩
    refine Eq.trans ?_ hh; kernel_rfl
  · cases hh⟩
theorem x_plain_unit_descriptors : FunOk PR cutsOf TABS F_plain_unit_descriptors X_plain_unit_descriptors := fun call R a h r hh => by
  unfold X_plain_unit_descriptors at hh
  rw [ieq_eq] at hh
  split at hh
  · refine ⟨_, _, _, _, k_plain_unit_descriptors, rfl, ?_⟩
    refine Eq.trans ?_ hh; kernel_rfl
  · cases hh
theorem x_plain_unit_fork : FunOk PR cutsOf TABS F_plain_unit_fork X_plain_unit_fork := fun call R a h r hh => by
  unfold X_plain_unit_fork at hh
  rw [ilt_eq, ckR_eq] at hh
  split at hh
  · refine ⟨_, _, _, _, k_plain_unit_fork, rfl, ?_⟩
    refine Eq.trans ?_ hh; kernel_rfl
  · cases hh
theorem x_plain_unit_fork_L1 : LabOk PR cutsOf TABS (labKey F_plain_unit_fork 3014) LB_plain_unit_fork_L1 := ⟨rfl, by decide, by kernel_rfl, fun call R a h r hh => by
  change X_plain_unit_fork_L1 H call (lr TABS R) a h = some r at hh
  unfold X_plain_unit_fork_L1 at hh
  rw [wrapF_eq, ilt_eq, ckR_eq] at hh
  split at hh
  · refine ⟨_, _, _, _, k_plain_unit_fork, ?_⟩
    refine Eq.trans ?_ hh; kernel_rfl
  · cases hh⟩
theorem x_plain_unit_fork_L2 : LabOk PR cutsOf TABS (labKey F_plain_unit_fork 3026) LB_plain_unit_fork_L2 := ⟨rfl, by decide, by kernel_rfl, fun call R a h r hh => by
  change X_plain_unit_fork_L2 H call (lr TABS R) a h = some r at hh
  unfold X_plain_unit_fork_L2 at hh
  rw [wrapF_eq, ilt_eq, ckR_eq] at hh
  split at hh
  · refine ⟨_, _, _, _, k_plain_unit_fork, ?_⟩
    refine Eq.trans ?_ hh; kernel_rfl
  · cases hh⟩
theorem x_plain_unit_fork_L3 : LabOk PR cutsOf TABS (labKey F_plain_unit_fork 3038) LB_plain_unit_fork_L3 := ⟨rfl, by decide, by kernel_rfl, fun call R a h r hh => by
  change X_plain_unit_fork_L3 H call (lr TABS R) a h = some r at hh
  unfold X_plain_unit_fork_L3 at hh
  rw [wrapF_eq, ilt_eq, ckR_eq] at hh
  split at hh
  · refine ⟨_, _, _, _, k_plain_unit_fork, ?_⟩
    refine Eq.trans ?_ hh; kernel_rfl
  · cases hh⟩
theorem x_plain_unit_own : FunOk PR cutsOf TABS F_plain_unit_own X_plain_unit_own := fun call R a h r hh => by
  unfold X_plain_unit_own at hh
  rw [ieq_eq, ckR_eq] at hh
  split at hh
  · refine ⟨_, _, _, _, k_plain_unit_own, rfl, ?_⟩
    refine Eq.trans ?_ hh; kernel_rfl
  · cases hh
theorem x_plain_unit_own_R1 : LabOk PR cutsOf TABS (labKey F_plain_unit_own 3011) LB_plain_unit_own_R1 := ⟨rfl, by decide, by kernel_rfl, fun call R a h r hh => by
  change X_plain_unit_own_R1 H call (lr TABS R) a h = some r at hh
  unfold X_plain_unit_own_R1 at hh
  rw [ieq_eq, ckR_eq] at hh
  split at hh
  · refine ⟨_, _, _, _, k_plain_unit_own, ?_⟩
    refine Eq.trans ?_ hh; kernel_rfl
  · cases hh⟩
theorem x_plain_unit_drop : FunOk PR cutsOf TABS F_plain_unit_drop X_plain_unit_drop := fun call R a h r hh => by
  unfold X_plain_unit_drop at hh
  rw [wrapF_eq, ieq_eq, ilt_eq, ckR_eq] at hh
  split at hh
  · refine ⟨_, _, _, _, k_plain_unit_drop, rfl, ?_⟩
    refine Eq.trans ?_ hh; kernel_rfl
  · cases hh
theorem x_plain_unit_drop_R1 : LabOk PR cutsOf TABS (labKey F_plain_unit_drop 2021) LB_plain_unit_drop_R1 := ⟨rfl, by decide, by kernel_rfl, fun call R a h r hh => by
  change X_plain_unit_drop_R1 H call (lr TABS R) a h = some r at hh
  unfold X_plain_unit_drop_R1 at hh
  rw [wrapF_eq, ieq_eq, ilt_eq, ckR_eq] at hh
  split at hh
  · refine ⟨_, _, _, _, k_plain_unit_drop, ?_⟩
    refine Eq.trans ?_ hh; kernel_rfl
  · cases hh⟩
theorem x_plain_unit_read : FunOk PR cutsOf TABS F_plain_unit_read X_plain_unit_read := fun call R a h r hh => by
  unfold X_plain_unit_read at hh
  rw [ine_eq, ieq_eq, ckR_eq] at hh
  split at hh
  · refine ⟨_, _, _, _, k_plain_unit_read, rfl, ?_⟩
    refine Eq.trans ?_ hh; kernel_rfl
  · cases hh
theorem x_plain_unit_read_R1 : LabOk PR cutsOf TABS (labKey F_plain_unit_read 4029) LB_plain_unit_read_R1 := ⟨rfl, by decide, by kernel_rfl, fun call R a h r hh => by
  change X_plain_unit_read_R1 H call (lr TABS R) a h = some r at hh
  unfold X_plain_unit_read_R1 at hh
  rw [ieq_eq, ilt_eq] at hh
  split at hh
  · refine ⟨_, _, _, _, k_plain_unit_read, ?_⟩
    refine Eq.trans ?_ hh; kernel_rfl
  · cases hh⟩
theorem x_plain_unit_write : FunOk PR cutsOf TABS F_plain_unit_write X_plain_unit_write := fun call R a h r hh => by
  unfold X_plain_unit_write at hh
  rw [wrapF_eq, ine_eq, ieq_eq, ilt_eq, ile_eq, ckR_eq] at hh
  split at hh
  · refine ⟨_, _, _, _, k_plain_unit_write, rfl, ?_⟩
    refine Eq.trans ?_ hh; kernel_rfl
  · cases hh
theorem x_plain_unit_close : FunOk PR cutsOf TABS F_plain_unit_close X_plain_unit_close := fun call R a h r hh => by
  unfold X_plain_unit_close at hh
  rw [wrapF_eq, ckR_eq] at hh
  split at hh
  · refine ⟨_, _, _, _, k_plain_unit_close, rfl, ?_⟩
    refine Eq.trans ?_ hh; kernel_rfl
  · cases hh
theorem x_plain_unit_toFront : FunOk PR cutsOf TABS F_plain_unit_toFront X_plain_unit_toFront := fun call R a h r hh => by
  unfold X_plain_unit_toFront at hh
  rw [ine_eq, ckR_eq] at hh
  split at hh
  · refine ⟨_, _, _, _, k_plain_unit_toFront, rfl, ?_⟩
    refine Eq.trans ?_ hh; kernel_rfl
  · cases hh
theorem x_slices_IndexFunc_s_api_Proc_api_Proc : FunOk PR cutsOf TABS F_slices_IndexFunc_s_api_Proc_api_Proc X_slices_IndexFunc_s_api_Proc_api_Proc := fun call R a h r hh => by
  unfold X_slices_IndexFunc_s_api_Proc_api_Proc at hh
  split at hh
  · refine ⟨_, _, _, _, k_slices_IndexFunc_s_api_Proc_api_Proc, rfl, ?_⟩
    refine Eq.trans ?_ hh; kernel_rfl
  · cases hh
theorem x_slices_IndexFunc_s_api_Proc_api_Proc_L1 : LabOk PR cutsOf TABS (labKey F_slices_IndexFunc_s_api_Proc_api_Proc 3004) LB_slices_IndexFunc_s_api_Proc_api_Proc_L1 := ⟨rfl, by decide, by kernel_rfl, fun call R a h r hh => by
  change X_slices_IndexFunc_s_api_Proc_api_Proc_L1 H call (lr TABS R) a h = some r at hh
  unfold X_slices_IndexFunc_s_api_Proc_api_Proc_L1 at hh
  rw [wrapF_eq, ilt_eq, ckR_eq] at hh
  split at hh
  · refine ⟨_, _, _, _, k_slices_IndexFunc_s_api_Proc_api_Proc, ?_⟩
    refine Eq.trans ?_ hh; kernel_rfl
  · cases hh⟩
theorem x_plain_those : FunOk PR cutsOf TABS F_plain_those X_plain_those := fun call R a h r hh => by
  unfold X_plain_those at hh
  split at hh
  · refine ⟨_, _, _, _, k_plain_those, rfl, ?_⟩
    refine Eq.trans ?_ hh; kernel_rfl
  · cases hh
theorem x_plain_those_L1 : LabOk PR cutsOf TABS (labKey F_plain_those 3006) LB_plain_those_L1 := ⟨rfl, by decide, by kernel_rfl, fun call R a h r hh => by
  change X_plain_those_L1 H call (lr TABS R) a h = some r at hh
  unfold X_plain_those_L1 at hh
  rw [wrapF_eq, ilt_eq] at hh
  split at hh
  · refine ⟨_, _, _, _, k_plain_those, ?_⟩
    refine Eq.trans ?_ hh; kernel_rfl
  · cases hh⟩
theorem x_sig_Handle : FunOk PR cutsOf TABS F_sig_Handle X_sig_Handle := fun call R a h r hh => by
  unfold X_sig_Handle at hh
  rw [wrapF_eq, bitA_eq, ine_eq, ieq_eq, ilt_eq] at hh
  split at hh
  · refine ⟨_, _, _, _, k_sig_Handle, rfl, ?_⟩
    refine Eq.trans ?_ hh; kernel_rfl
  · cases hh
theorem x_plain_unit_has : FunOk PR cutsOf TABS F_plain_unit_has X_plain_unit_has := fun call R a h r hh => by
  unfold X_plain_unit_has at hh
  rw [ilt_eq] at hh
  split at hh
  · refine ⟨_, _, _, _, k_plain_unit_has, rfl, ?_⟩
    refine Eq.trans ?_ hh; kernel_rfl
  · cases hh
theorem x_plain_unit_fds : FunOk PR cutsOf TABS F_plain_unit_fds X_plain_unit_fds := fun call R a h r hh => by
  unfold X_plain_unit_fds at hh
  split at hh
  · refine ⟨_, _, _, _, k_plain_unit_fds, rfl, ?_⟩
    refine Eq.trans ?_ hh; kernel_rfl
  · cases hh
theorem x_plain_waits : FunOk PR cutsOf TABS F_plain_waits X_plain_waits := fun call R a h r hh => by
  unfold X_plain_waits at hh
  rw [ieq_eq] at hh
  split at hh
  · refine ⟨_, _, _, _, k_plain_waits, rfl, ?_⟩
    refine Eq.trans ?_ hh; kernel_rfl
  · cases hh
theorem x_ring_Take : FunOk PR cutsOf TABS F_ring_Take X_ring_Take := fun call R a h r hh => by
  unfold X_ring_Take at hh
  rw [wrapF_eq, ilt_eq, ckL_eq] at hh
  split at hh
  · refine ⟨_, _, _, _, k_ring_Take, rfl, ?_⟩
    refine Eq.trans ?_ hh; kernel_rfl
  · cases hh
theorem x_plain_unit_fds_1 : FunOk PR cutsOf TABS F_plain_unit_fds_1 X_plain_unit_fds_1 := fun call R a h r hh => by
  unfold X_plain_unit_fds_1 at hh
  rw [ieq_eq, ckR_eq] at hh
  split at hh
  · refine ⟨_, _, _, _, k_plain_unit_fds_1, rfl, ?_⟩
    refine Eq.trans ?_ hh; kernel_rfl
  · cases hh
end Go.EQ

set_option synthInstance.maxHeartbeats 0
set_option synthInstance.maxSize 1000000000000000000000000000000000000000000000000000000000000
set_option maxHeartbeats 0
set_option maxRecDepth 100000
set_option linter.unusedVariables false
namespace Go.EQ
open Go Go.Proofs
open Go.NN hiding bnd ld gInt gBool gStr gPtr gSl gMap gFv gAgg gCells nw pV pAgg pCells apd fitsOpen liveA mapAt
open Go.NP Go.NW
open Go.NF
theorem r_law23_awake : RX X_law23_awake := fun call2 call run2 run hc hr a p => by unfold X_law23_awake; split <;> infer_instance
theorem r_plain_New : RX X_plain_New := fun call2 call run2 run hc hr a p => by unfold X_plain_New; split <;> infer_instance
theorem r_plain_New_L1 : RX X_plain_New_L1 := fun call2 call run2 run hc hr a p => by unfold X_plain_New_L1; split <;> infer_instance
theorem r_plain_New_L2 : RX X_plain_New_L2 := fun call2 call run2 run hc hr a p => by unfold X_plain_New_L2; split <;> infer_instance
theorem r_sect_New : RX X_sect_New := fun call2 call run2 run hc hr a p => by unfold X_sect_New; split <;> infer_instance
theorem r_plain_check_1 : RX X_plain_check_1 := fun call2 call run2 run hc hr a p => by unfold X_plain_check_1; split <;> infer_instance
theorem r_slices_ContainsFunc_s_api_Bridge_api_Bridge : RX X_slices_ContainsFunc_s_api_Bridge_api_Bridge := fun call2 call run2 run hc hr a p => by unfold X_slices_ContainsFunc_s_api_Bridge_api_Bridge; split <;> infer_instance
theorem r_plain_unit_start : RX X_plain_unit_start := fun call2 call run2 run hc hr a p => by unfold X_plain_unit_start; split <;> infer_instance
theorem r_ring_Put : RX X_ring_Put := fun call2 call run2 run hc hr a p => by unfold X_ring_Put; split <;> infer_instance
theorem r_ring_Put_L1 : RX X_ring_Put_L1 := fun call2 call run2 run hc hr a p => by unfold X_ring_Put_L1; split <;> infer_instance
theorem r_plain_unit_idle : RX X_plain_unit_idle := fun call2 call run2 run hc hr a p => by unfold X_plain_unit_idle; split <;> infer_instance
theorem r_slices_IndexFunc_s_api_Bridge_api_Bridge : RX X_slices_IndexFunc_s_api_Bridge_api_Bridge := fun call2 call run2 run hc hr a p => by unfold X_slices_IndexFunc_s_api_Bridge_api_Bridge; split <;> infer_instance
theorem r_slices_IndexFunc_s_api_Bridge_api_Bridge_L1 : RX X_slices_IndexFunc_s_api_Bridge_api_Bridge_L1 := fun call2 call run2 run hc hr a p => by unfold X_slices_IndexFunc_s_api_Bridge_api_Bridge_L1; split <;> infer_instance
theorem r_slices_Clone_s_byte_byte : RX X_slices_Clone_s_byte_byte := fun call2 call run2 run hc hr a p => by unfold X_slices_Clone_s_byte_byte; split <;> infer_instance
theorem r_plain_unit_leave : RX X_plain_unit_leave := fun call2 call run2 run hc hr a p => by unfold X_plain_unit_leave; split <;> infer_instance
theorem r_sect_Sect_Enter : RX X_sect_Sect_Enter := fun call2 call run2 run hc hr a p => by unfold X_sect_Sect_Enter; split <;> infer_instance
theorem r_sect_Sect_Enter_R1 : RX X_sect_Sect_Enter_R1 := fun call2 call run2 run hc hr a p => by unfold X_sect_Sect_Enter_R1; split <;> infer_instance
theorem r_sect_Sect_Enter_R2 : RX X_sect_Sect_Enter_R2 := fun call2 call run2 run hc hr a p => by unfold X_sect_Sect_Enter_R2; split <;> infer_instance
theorem r_sect_Sect_Enter_R3 : RX X_sect_Sect_Enter_R3 := fun call2 call run2 run hc hr a p => by unfold X_sect_Sect_Enter_R3; split <;> infer_instance
theorem r_sect_Sect_Enter_R4 : RX X_sect_Sect_Enter_R4 := fun call2 call run2 run hc hr a p => by unfold X_sect_Sect_Enter_R4; split <;> infer_instance
theorem r_sect_Sect_Enter_L1 : RX X_sect_Sect_Enter_L1 := fun call2 call run2 run hc hr a p => by unfold X_sect_Sect_Enter_L1; split <;> infer_instance
theorem r_plain_unit_inside : RX X_plain_unit_inside := fun call2 call run2 run hc hr a p => by unfold X_plain_unit_inside; split <;> infer_instance
theorem r_plain_unit_blocked : RX X_plain_unit_blocked := fun call2 call run2 run hc hr a p => by unfold X_plain_unit_blocked; split <;> infer_instance
theorem r_sect_Sect_Quit : RX X_sect_Sect_Quit := fun call2 call run2 run hc hr a p => by unfold X_sect_Sect_Quit; split <;> infer_instance
theorem r_sect_Sect_Quit_R1 : RX X_sect_Sect_Quit_R1 := fun call2 call run2 run hc hr a p => by unfold X_sect_Sect_Quit_R1; split <;> infer_instance
theorem r_ring_Ok_1 : RX X_ring_Ok_1 := fun call2 call run2 run hc hr a p => by unfold X_ring_Ok_1; split <;> infer_instance
theorem r_sect_Sect_Holds : RX X_sect_Sect_Holds := fun call2 call run2 run hc hr a p => by unfold X_sect_Sect_Holds; split <;> infer_instance
theorem r_sig_Wakes : RX X_sig_Wakes := fun call2 call run2 run hc hr a p => by unfold X_sig_Wakes; split <;> infer_instance
theorem r_sig_Deliver : RX X_sig_Deliver := fun call2 call run2 run hc hr a p => by unfold X_sig_Deliver; split <;> infer_instance
theorem r_sig_Deliver_L1 : RX X_sig_Deliver_L1 := fun call2 call run2 run hc hr a p => by unfold X_sig_Deliver_L1; split <;> infer_instance
theorem r_plain_unit_exit : RX X_plain_unit_exit := fun call2 call run2 run hc hr a p => by unfold X_plain_unit_exit; split <;> infer_instance
theorem r_plain_unit_exit_L1 : RX X_plain_unit_exit_L1 := fun call2 call run2 run hc hr a p => by unfold X_plain_unit_exit_L1; split <;> infer_instance
theorem r_plain_unit_exit_L2 : RX X_plain_unit_exit_L2 := fun call2 call run2 run hc hr a p => by unfold X_plain_unit_exit_L2; split <;> infer_instance
theorem r_slices_Index_s_int_int : RX X_slices_Index_s_int_int := fun call2 call run2 run hc hr a p => by unfold X_slices_Index_s_int_int; split <;> infer_instance
theorem r_slices_Index_s_int_int_L1 : RX X_slices_Index_s_int_int_L1 := fun call2 call run2 run hc hr a p => by unfold X_slices_Index_s_int_int_L1; split <;> infer_instance
theorem r_slices_Clone_s_int_int : RX X_slices_Clone_s_int_int := fun call2 call run2 run hc hr a p => by unfold X_slices_Clone_s_int_int; split <;> infer_instance
theorem r_plain_unit_kill : RX X_plain_unit_kill := fun call2 call run2 run hc hr a p => by unfold X_plain_unit_kill; split <;> infer_instance
theorem r_plain_unit_kill_L1 : RX X_plain_unit_kill_L1 := fun call2 call run2 run hc hr a p => by unfold X_plain_unit_kill_L1; split <;> infer_instance
theorem r_plain_unit_group : RX X_plain_unit_group := fun call2 call run2 run hc hr a p => by unfold X_plain_unit_group; split <;> infer_instance
theorem r_plain_unit_read : RX X_plain_unit_read := fun call2 call run2 run hc hr a p => by unfold X_plain_unit_read; split <;> infer_instance
theorem r_plain_unit_read_R1 : RX X_plain_unit_read_R1 := fun call2 call run2 run hc hr a p => by unfold X_plain_unit_read_R1; split <;> infer_instance
theorem r_plain_unit_close : RX X_plain_unit_close := fun call2 call run2 run hc hr a p => by unfold X_plain_unit_close; split <;> infer_instance
theorem r_plain_unit_dup2 : RX X_plain_unit_dup2 := fun call2 call run2 run hc hr a p => by unfold X_plain_unit_dup2; split <;> infer_instance
theorem r_plain_unit_toFront : RX X_plain_unit_toFront := fun call2 call run2 run hc hr a p => by unfold X_plain_unit_toFront; split <;> infer_instance
theorem r_plain_unit_wait_1 : RX X_plain_unit_wait_1 := fun call2 call run2 run hc hr a p => by unfold X_plain_unit_wait_1; split <;> infer_instance
theorem r_sig_Mask : RX X_sig_Mask := fun call2 call run2 run hc hr a p => by unfold X_sig_Mask; split <;> infer_instance
theorem r_plain_unit_has : RX X_plain_unit_has := fun call2 call run2 run hc hr a p => by unfold X_plain_unit_has; split <;> infer_instance
theorem r_math_bits_TrailingZeros : RX X_math_bits_TrailingZeros := fun call2 call run2 run hc hr a p => by unfold X_math_bits_TrailingZeros; split <;> infer_instance
theorem r_plain_waits : RX X_plain_waits := fun call2 call run2 run hc hr a p => by unfold X_plain_waits; split <;> infer_instance
theorem r_plain_unit_has_1 : RX X_plain_unit_has_1 := fun call2 call run2 run hc hr a p => by unfold X_plain_unit_has_1; split <;> infer_instance
theorem r_ring_Bytes : RX X_ring_Bytes := fun call2 call run2 run hc hr a p => by unfold X_ring_Bytes; split <;> infer_instance
theorem r_ring_Bytes_L1 : RX X_ring_Bytes_L1 := fun call2 call run2 run hc hr a p => by unfold X_ring_Bytes_L1; split <;> infer_instance
end Go.EQ

set_option synthInstance.maxHeartbeats 0
set_option synthInstance.maxSize 1000000000000000000000000000000000000000000000000000000000000
set_option maxHeartbeats 0
set_option maxRecDepth 100000
set_option linter.unusedVariables false
namespace Go.EQ
open Go Go.Proofs
open Go.NN hiding bnd ld gInt gBool gStr gPtr gSl gMap gFv gAgg gCells nw pV pAgg pCells apd fitsOpen liveA mapAt
open Go.NP Go.NW
open Go.NF
theorem r_plain_Run : RX X_plain_Run := fun call2 call run2 run hc hr a p => by unfold X_plain_Run; split <;> infer_instance
theorem r_plain_Run_L1 : RX X_plain_Run_L1 := fun call2 call run2 run hc hr a p => by unfold X_plain_Run_L1; split <;> infer_instance
theorem r_plain_check : RX X_plain_check := fun call2 call run2 run hc hr a p => by unfold X_plain_check; split <;> infer_instance
theorem r_plain_unit_bridge : RX X_plain_unit_bridge := fun call2 call run2 run hc hr a p => by unfold X_plain_unit_bridge; split <;> infer_instance
theorem r_plain_Plain_Do : RX X_plain_Plain_Do := fun call2 call run2 run hc hr a p => by unfold X_plain_Plain_Do; split <;> infer_instance
theorem r_plain_Plain_Do_R1 : RX X_plain_Plain_Do_R1 := fun call2 call run2 run hc hr a p => by unfold X_plain_Plain_Do_R1; split <;> infer_instance
theorem r_plain_in : RX X_plain_in := fun call2 call run2 run hc hr a p => by unfold X_plain_in; split <;> infer_instance
theorem r_plain_unit_pick : RX X_plain_unit_pick := fun call2 call run2 run hc hr a p => by unfold X_plain_unit_pick; split <;> infer_instance
theorem r_plain_unit_pick_R1 : RX X_plain_unit_pick_R1 := fun call2 call run2 run hc hr a p => by unfold X_plain_unit_pick_R1; split <;> infer_instance
theorem r_plain_unit_pick_R2 : RX X_plain_unit_pick_R2 := fun call2 call run2 run hc hr a p => by unfold X_plain_unit_pick_R2; split <;> infer_instance
theorem r_plain_unit_lives : RX X_plain_unit_lives := fun call2 call run2 run hc hr a p => by unfold X_plain_unit_lives; split <;> infer_instance
theorem r_ring_Ok : RX X_ring_Ok := fun call2 call run2 run hc hr a p => by unfold X_ring_Ok; split <;> infer_instance
theorem r_plain_unit_signals : RX X_plain_unit_signals := fun call2 call run2 run hc hr a p => by unfold X_plain_unit_signals; split <;> infer_instance
theorem r_sect_Sect_Leave : RX X_sect_Sect_Leave := fun call2 call run2 run hc hr a p => by unfold X_sect_Sect_Leave; split <;> infer_instance
theorem r_slices_Contains_s_int_int : RX X_slices_Contains_s_int_int := fun call2 call run2 run hc hr a p => by unfold X_slices_Contains_s_int_int; split <;> infer_instance
theorem r_plain_unit_do : RX X_plain_unit_do := fun call2 call run2 run hc hr a p => by unfold X_plain_unit_do; split <;> infer_instance
theorem r_plain_unit_wakes : RX X_plain_unit_wakes := fun call2 call run2 run hc hr a p => by unfold X_plain_unit_wakes; split <;> infer_instance
theorem r_slices_Delete_s_int_int : RX X_slices_Delete_s_int_int := fun call2 call run2 run hc hr a p => by unfold X_slices_Delete_s_int_int; split <;> infer_instance
theorem r_plain_unit_descriptors : RX X_plain_unit_descriptors := fun call2 call run2 run hc hr a p => by unfold X_plain_unit_descriptors; split <;> infer_instance
theorem r_plain_told : RX X_plain_told := fun call2 call run2 run hc hr a p => by unfold X_plain_told; split <;> infer_instance
theorem r_plain_unit_fork : RX X_plain_unit_fork := fun call2 call run2 run hc hr a p => by unfold X_plain_unit_fork; split <;> infer_instance
theorem r_plain_unit_fork_L1 : RX X_plain_unit_fork_L1 := fun call2 call run2 run hc hr a p => by unfold X_plain_unit_fork_L1; split <;> infer_instance
theorem r_plain_unit_fork_L2 : RX X_plain_unit_fork_L2 := fun call2 call run2 run hc hr a p => by unfold X_plain_unit_fork_L2; split <;> infer_instance
theorem r_plain_unit_fork_L3 : RX X_plain_unit_fork_L3 := fun call2 call run2 run hc hr a p => by unfold X_plain_unit_fork_L3; split <;> infer_instance
theorem r_plain_unit_wait : RX X_plain_unit_wait := fun call2 call run2 run hc hr a p => by unfold X_plain_unit_wait; split <;> infer_instance
theorem r_plain_unit_wait_L1 : RX X_plain_unit_wait_L1 := fun call2 call run2 run hc hr a p => by unfold X_plain_unit_wait_L1; split <;> infer_instance
theorem r_plain_unit_own : RX X_plain_unit_own := fun call2 call run2 run hc hr a p => by unfold X_plain_unit_own; split <;> infer_instance
theorem r_plain_unit_own_R1 : RX X_plain_unit_own_R1 := fun call2 call run2 run hc hr a p => by unfold X_plain_unit_own_R1; split <;> infer_instance
theorem r_sig_Next : RX X_sig_Next := fun call2 call run2 run hc hr a p => by unfold X_sig_Next; split <;> infer_instance
theorem r_sig_Next_R1 : RX X_sig_Next_R1 := fun call2 call run2 run hc hr a p => by unfold X_sig_Next_R1; split <;> infer_instance
theorem r_plain_unit_open : RX X_plain_unit_open := fun call2 call run2 run hc hr a p => by unfold X_plain_unit_open; split <;> infer_instance
theorem r_plain_unit_drop : RX X_plain_unit_drop := fun call2 call run2 run hc hr a p => by unfold X_plain_unit_drop; split <;> infer_instance
theorem r_plain_unit_drop_R1 : RX X_plain_unit_drop_R1 := fun call2 call run2 run hc hr a p => by unfold X_plain_unit_drop_R1; split <;> infer_instance
theorem r_plain_unit_pipe : RX X_plain_unit_pipe := fun call2 call run2 run hc hr a p => by unfold X_plain_unit_pipe; split <;> infer_instance
theorem r_plain_unit_pipe_L1 : RX X_plain_unit_pipe_L1 := fun call2 call run2 run hc hr a p => by unfold X_plain_unit_pipe_L1; split <;> infer_instance
theorem r_plain_unit_pipe_L2 : RX X_plain_unit_pipe_L2 := fun call2 call run2 run hc hr a p => by unfold X_plain_unit_pipe_L2; split <;> infer_instance
theorem r_plain_unit_write : RX X_plain_unit_write := fun call2 call run2 run hc hr a p => by unfold X_plain_unit_write; split <;> infer_instance
theorem r_plain_unit_dup : RX X_plain_unit_dup := fun call2 call run2 run hc hr a p => by unfold X_plain_unit_dup; split <;> infer_instance
theorem r_plain_unit_never : RX X_plain_unit_never := fun call2 call run2 run hc hr a p => by unfold X_plain_unit_never; split <;> infer_instance
theorem r_slices_IndexFunc_s_api_Proc_api_Proc : RX X_slices_IndexFunc_s_api_Proc_api_Proc := fun call2 call run2 run hc hr a p => by unfold X_slices_IndexFunc_s_api_Proc_api_Proc; split <;> infer_instance
theorem r_slices_IndexFunc_s_api_Proc_api_Proc_L1 : RX X_slices_IndexFunc_s_api_Proc_api_Proc_L1 := fun call2 call run2 run hc hr a p => by unfold X_slices_IndexFunc_s_api_Proc_api_Proc_L1; split <;> infer_instance
theorem r_plain_unit_fork_1 : RX X_plain_unit_fork_1 := fun call2 call run2 run hc hr a p => by unfold X_plain_unit_fork_1; split <;> infer_instance
theorem r_plain_those : RX X_plain_those := fun call2 call run2 run hc hr a p => by unfold X_plain_those; split <;> infer_instance
theorem r_plain_those_L1 : RX X_plain_those_L1 := fun call2 call run2 run hc hr a p => by unfold X_plain_those_L1; split <;> infer_instance
theorem r_plain_unit_kill_1 : RX X_plain_unit_kill_1 := fun call2 call run2 run hc hr a p => by unfold X_plain_unit_kill_1; split <;> infer_instance
theorem r_sig_Raise : RX X_sig_Raise := fun call2 call run2 run hc hr a p => by unfold X_sig_Raise; split <;> infer_instance
theorem r_sig_Raise_R1 : RX X_sig_Raise_R1 := fun call2 call run2 run hc hr a p => by unfold X_sig_Raise_R1; split <;> infer_instance
theorem r_sig_Raise_R2 : RX X_sig_Raise_R2 := fun call2 call run2 run hc hr a p => by unfold X_sig_Raise_R2; split <;> infer_instance
theorem r_sig_Handle : RX X_sig_Handle := fun call2 call run2 run hc hr a p => by unfold X_sig_Handle; split <;> infer_instance
theorem r_plain_unit_fds : RX X_plain_unit_fds := fun call2 call run2 run hc hr a p => by unfold X_plain_unit_fds; split <;> infer_instance
theorem r_ring_Take : RX X_ring_Take := fun call2 call run2 run hc hr a p => by unfold X_ring_Take; split <;> infer_instance
theorem r_sig_is : RX X_sig_is := fun call2 call run2 run hc hr a p => by unfold X_sig_is; split <;> infer_instance
theorem r_plain_unit_fds_1 : RX X_plain_unit_fds_1 := fun call2 call run2 run hc hr a p => by unfold X_plain_unit_fds_1; split <;> infer_instance
theorem r_slices_Clip_s_byte_byte : RX X_slices_Clip_s_byte_byte := fun call2 call run2 run hc hr a p => by unfold X_slices_Clip_s_byte_byte; split <;> infer_instance
end Go.EQ

set_option maxRecDepth 100000
set_option linter.unusedVariables false
namespace Go.EQ
open Go Go.Proofs
open Go.NN hiding bnd ld gInt gBool gStr gPtr gSl gMap gFv gAgg gCells nw pV pAgg pCells apd fitsOpen liveA mapAt
open Go.NP Go.NW
theorem tabs_ok : TABS.Ok PR cutsOf := ⟨⟨x_plain_unit_descriptors, ⟨x_plain_unit_leave, ⟨x_plain_in, ⟨x_sect_New, ⟨x_plain_Run, ⟨x_plain_New, ⟨x_law23_awake, trivial, trivial⟩, trivial⟩, ⟨x_plain_check, trivial, trivial⟩⟩, ⟨x_plain_check_1, ⟨x_plain_Plain_Do, ⟨x_plain_unit_bridge, trivial, trivial⟩, trivial⟩, ⟨x_slices_ContainsFunc_s_api_Bridge_api_Bridge, trivial, trivial⟩⟩⟩, ⟨x_slices_IndexFunc_s_api_Bridge_api_Bridge, ⟨x_plain_unit_pick, ⟨x_ring_Put, ⟨x_plain_unit_start, trivial, trivial⟩, trivial⟩, ⟨x_plain_unit_idle, trivial, trivial⟩⟩, ⟨x_slices_Clone_s_byte_byte, ⟨x_plain_unit_lives, trivial, trivial⟩, ⟨x_ring_Ok, trivial, trivial⟩⟩⟩⟩, ⟨x_sect_Sect_Holds, ⟨x_sect_Sect_Quit, ⟨x_plain_unit_blocked, ⟨x_plain_unit_inside, ⟨x_sect_Sect_Enter, trivial, trivial⟩, trivial⟩, ⟨x_plain_unit_signals, trivial, trivial⟩⟩, ⟨x_sect_Sect_Leave, ⟨x_ring_Ok_1, trivial, trivial⟩, ⟨x_slices_Contains_s_int_int, trivial, trivial⟩⟩⟩, ⟨x_plain_unit_exit, ⟨x_plain_unit_wakes, ⟨x_sig_Wakes, ⟨x_plain_unit_do, trivial, trivial⟩, trivial⟩, ⟨x_sig_Deliver, trivial, trivial⟩⟩, ⟨x_slices_Delete_s_int_int, ⟨x_slices_Index_s_int_int, trivial, trivial⟩, ⟨x_slices_Clone_s_int_int, trivial, trivial⟩⟩⟩⟩⟩, ⟨x_slices_IndexFunc_s_api_Proc_api_Proc, ⟨x_plain_unit_drop, ⟨x_plain_unit_own, ⟨x_plain_unit_wait, ⟨x_plain_unit_fork, ⟨x_plain_told, trivial, trivial⟩, trivial⟩, ⟨x_plain_unit_kill, trivial, trivial⟩⟩, ⟨x_sig_Next, ⟨x_plain_unit_group, trivial, trivial⟩, ⟨x_plain_unit_open, trivial, trivial⟩⟩⟩, ⟨x_plain_unit_dup, ⟨x_plain_unit_write, ⟨x_plain_unit_read, ⟨x_plain_unit_pipe, trivial, trivial⟩, trivial⟩, ⟨x_plain_unit_close, trivial, trivial⟩⟩, ⟨x_plain_unit_never, ⟨x_plain_unit_dup2, trivial, trivial⟩, ⟨x_plain_unit_toFront, trivial, trivial⟩⟩⟩⟩, ⟨x_math_bits_TrailingZeros, ⟨x_sig_Raise, ⟨x_plain_unit_wait_1, ⟨x_plain_those, ⟨x_plain_unit_fork_1, trivial, trivial⟩, trivial⟩, ⟨x_plain_unit_kill_1, trivial, trivial⟩⟩, ⟨x_sig_Handle, ⟨x_sig_Mask, trivial, trivial⟩, ⟨x_plain_unit_has, trivial, trivial⟩⟩⟩, ⟨x_plain_unit_has_1, ⟨x_ring_Take, ⟨x_plain_waits, ⟨x_plain_unit_fds, trivial, trivial⟩, trivial⟩, ⟨x_sig_is, trivial, trivial⟩⟩, ⟨x_ring_Bytes, ⟨x_plain_unit_fds_1, trivial, trivial⟩, ⟨x_slices_Clip_s_byte_byte, trivial, trivial⟩⟩⟩⟩⟩⟩, ⟨x_slices_Index_s_int_int_L1, ⟨x_sect_Sect_Enter_R1, ⟨x_ring_Put_L1, ⟨x_plain_Run_L1, ⟨x_plain_New_L2, ⟨x_plain_New_L1, trivial, trivial⟩, trivial⟩, ⟨x_plain_Plain_Do_R1, trivial, trivial⟩⟩, ⟨x_plain_unit_pick_R2, ⟨x_plain_unit_pick_R1, trivial, trivial⟩, ⟨x_slices_IndexFunc_s_api_Bridge_api_Bridge_L1, trivial, trivial⟩⟩⟩, ⟨x_sect_Sect_Quit_R1, ⟨x_sect_Sect_Enter_R4, ⟨x_sect_Sect_Enter_R3, ⟨x_sect_Sect_Enter_R2, trivial, trivial⟩, trivial⟩, ⟨x_sect_Sect_Enter_L1, trivial, trivial⟩⟩, ⟨x_plain_unit_exit_L1, ⟨x_sig_Deliver_L1, trivial, trivial⟩, ⟨x_plain_unit_exit_L2, trivial, trivial⟩⟩⟩⟩, ⟨x_plain_unit_pipe_L1, ⟨x_plain_unit_kill_L1, ⟨x_plain_unit_fork_L3, ⟨x_plain_unit_fork_L2, ⟨x_plain_unit_fork_L1, trivial, trivial⟩, trivial⟩, ⟨x_plain_unit_wait_L1, trivial, trivial⟩⟩, ⟨x_sig_Next_R1, ⟨x_plain_unit_own_R1, trivial, trivial⟩, ⟨x_plain_unit_drop_R1, trivial, trivial⟩⟩⟩, ⟨x_plain_those_L1, ⟨x_plain_unit_read_R1, ⟨x_plain_unit_pipe_L2, trivial, trivial⟩, ⟨x_slices_IndexFunc_s_api_Proc_api_Proc_L1, trivial, trivial⟩⟩, ⟨x_sig_Raise_R2, ⟨x_sig_Raise_R1, trivial, trivial⟩, ⟨x_ring_Bytes_L1, trivial, trivial⟩⟩⟩⟩⟩⟩
theorem tabs_rx : Go.NF.Rx TABS := ⟨⟨r_plain_unit_descriptors, ⟨r_plain_unit_leave, ⟨r_plain_in, ⟨r_sect_New, ⟨r_plain_Run, ⟨r_plain_New, ⟨r_law23_awake, trivial, trivial⟩, trivial⟩, ⟨r_plain_check, trivial, trivial⟩⟩, ⟨r_plain_check_1, ⟨r_plain_Plain_Do, ⟨r_plain_unit_bridge, trivial, trivial⟩, trivial⟩, ⟨r_slices_ContainsFunc_s_api_Bridge_api_Bridge, trivial, trivial⟩⟩⟩, ⟨r_slices_IndexFunc_s_api_Bridge_api_Bridge, ⟨r_plain_unit_pick, ⟨r_ring_Put, ⟨r_plain_unit_start, trivial, trivial⟩, trivial⟩, ⟨r_plain_unit_idle, trivial, trivial⟩⟩, ⟨r_slices_Clone_s_byte_byte, ⟨r_plain_unit_lives, trivial, trivial⟩, ⟨r_ring_Ok, trivial, trivial⟩⟩⟩⟩, ⟨r_sect_Sect_Holds, ⟨r_sect_Sect_Quit, ⟨r_plain_unit_blocked, ⟨r_plain_unit_inside, ⟨r_sect_Sect_Enter, trivial, trivial⟩, trivial⟩, ⟨r_plain_unit_signals, trivial, trivial⟩⟩, ⟨r_sect_Sect_Leave, ⟨r_ring_Ok_1, trivial, trivial⟩, ⟨r_slices_Contains_s_int_int, trivial, trivial⟩⟩⟩, ⟨r_plain_unit_exit, ⟨r_plain_unit_wakes, ⟨r_sig_Wakes, ⟨r_plain_unit_do, trivial, trivial⟩, trivial⟩, ⟨r_sig_Deliver, trivial, trivial⟩⟩, ⟨r_slices_Delete_s_int_int, ⟨r_slices_Index_s_int_int, trivial, trivial⟩, ⟨r_slices_Clone_s_int_int, trivial, trivial⟩⟩⟩⟩⟩, ⟨r_slices_IndexFunc_s_api_Proc_api_Proc, ⟨r_plain_unit_drop, ⟨r_plain_unit_own, ⟨r_plain_unit_wait, ⟨r_plain_unit_fork, ⟨r_plain_told, trivial, trivial⟩, trivial⟩, ⟨r_plain_unit_kill, trivial, trivial⟩⟩, ⟨r_sig_Next, ⟨r_plain_unit_group, trivial, trivial⟩, ⟨r_plain_unit_open, trivial, trivial⟩⟩⟩, ⟨r_plain_unit_dup, ⟨r_plain_unit_write, ⟨r_plain_unit_read, ⟨r_plain_unit_pipe, trivial, trivial⟩, trivial⟩, ⟨r_plain_unit_close, trivial, trivial⟩⟩, ⟨r_plain_unit_never, ⟨r_plain_unit_dup2, trivial, trivial⟩, ⟨r_plain_unit_toFront, trivial, trivial⟩⟩⟩⟩, ⟨r_math_bits_TrailingZeros, ⟨r_sig_Raise, ⟨r_plain_unit_wait_1, ⟨r_plain_those, ⟨r_plain_unit_fork_1, trivial, trivial⟩, trivial⟩, ⟨r_plain_unit_kill_1, trivial, trivial⟩⟩, ⟨r_sig_Handle, ⟨r_sig_Mask, trivial, trivial⟩, ⟨r_plain_unit_has, trivial, trivial⟩⟩⟩, ⟨r_plain_unit_has_1, ⟨r_ring_Take, ⟨r_plain_waits, ⟨r_plain_unit_fds, trivial, trivial⟩, trivial⟩, ⟨r_sig_is, trivial, trivial⟩⟩, ⟨r_ring_Bytes, ⟨r_plain_unit_fds_1, trivial, trivial⟩, ⟨r_slices_Clip_s_byte_byte, trivial, trivial⟩⟩⟩⟩⟩⟩, ⟨r_slices_Index_s_int_int_L1, ⟨r_sect_Sect_Enter_R1, ⟨r_ring_Put_L1, ⟨r_plain_Run_L1, ⟨r_plain_New_L2, ⟨r_plain_New_L1, trivial, trivial⟩, trivial⟩, ⟨r_plain_Plain_Do_R1, trivial, trivial⟩⟩, ⟨r_plain_unit_pick_R2, ⟨r_plain_unit_pick_R1, trivial, trivial⟩, ⟨r_slices_IndexFunc_s_api_Bridge_api_Bridge_L1, trivial, trivial⟩⟩⟩, ⟨r_sect_Sect_Quit_R1, ⟨r_sect_Sect_Enter_R4, ⟨r_sect_Sect_Enter_R3, ⟨r_sect_Sect_Enter_R2, trivial, trivial⟩, trivial⟩, ⟨r_sect_Sect_Enter_L1, trivial, trivial⟩⟩, ⟨r_plain_unit_exit_L1, ⟨r_sig_Deliver_L1, trivial, trivial⟩, ⟨r_plain_unit_exit_L2, trivial, trivial⟩⟩⟩⟩, ⟨r_plain_unit_pipe_L1, ⟨r_plain_unit_kill_L1, ⟨r_plain_unit_fork_L3, ⟨r_plain_unit_fork_L2, ⟨r_plain_unit_fork_L1, trivial, trivial⟩, trivial⟩, ⟨r_plain_unit_wait_L1, trivial, trivial⟩⟩, ⟨r_sig_Next_R1, ⟨r_plain_unit_own_R1, trivial, trivial⟩, ⟨r_plain_unit_drop_R1, trivial, trivial⟩⟩⟩, ⟨r_plain_those_L1, ⟨r_plain_unit_read_R1, ⟨r_plain_unit_pipe_L2, trivial, trivial⟩, ⟨r_slices_IndexFunc_s_api_Proc_api_Proc_L1, trivial, trivial⟩⟩, ⟨r_sig_Raise_R2, ⟨r_sig_Raise_R1, trivial, trivial⟩, ⟨r_ring_Bytes_L1, trivial, trivial⟩⟩⟩⟩⟩⟩
end Go.EQ

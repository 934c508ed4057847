/- The commons: what one session writes to a bridge the other reads -/
import Derived.Test.YthhmplobccgeiaaGreatMg
import Derived.KernelRfl
import Derived.Test.YthhmplobccgeiaaGreatRows
set_option linter.unusedVariables false
set_option linter.unusedSimpArgs false
set_option linter.unusedSectionVars false
set_option maxRecDepth 10000
namespace Go.EQ
open Go Go.NN
theorem ct_kSpaceP (k : Nat) (S : KS) (A : KA) : CtP CALL F_kern_Kern_Space [P0 k] [pt k (.cells Y_kern_Kern false (kernL S A))] (P0 A.s) := by
 refine CtP.of k_kern_Kern_Space rfl fun h r=>Tr.eq (e_kern_Kern_Space ..) ?_; (try simp only[Nr,Nl,Nat.reduceAdd,Nat.reduceMul,Int.reduceToNat])
 (repeat' first|refine Gu ?_|(with_reducible first|refine Gn fun b h=>?_|apply Gx|apply Gy|rintro px rfl|refine fun(h:H)=>?_|intro hb)|refine Gs ?_|refine Gt ?_|exact Gz rfl|fail)
theorem ct_cNew (k : Nat) (S : KS) (N : Nat) (ok : KOk N S) (env : Int) : Ct CALL F_commons_New [P0 k,int env] [kernC k S] fun v own =>
  (spNames S.tabs env ≠ [] ∧ ∃ c,v = .tuple ⟨[P0 c,int 0]⟩ ∧ own [comC c k env (spNames S.tabs env) [],kernC k S]) ∨ (spNames S.tabs env = [] ∧ v = .tuple ⟨[.pointer none,int 1]⟩ ∧ own [kernC k S]) := by
 refine Ct.of k_commons_New rfl fun h r=>Tr.eq (e_commons_New ..) ?_; (try simp only[Nr,Nl,Nat.reduceAdd,Nat.reduceMul,Int.reduceToNat])
 refine tr_open (kernC k S) fun ⟨m,s,q,rg,ea,ec,ma,mc,ms,sa,sc,ss⟩=>?_; (try simp only[Nr,Nl,Nat.reduceAdd,Nat.reduceMul,Int.reduceToNat])
 (repeat' first|refine Gu ?_|(with_reducible first|refine Gn fun b h=>?_|rintro px rfl|refine fun(h:H)=>?_|intro hb)|refine Gs ?_|refine Gt ?_|exact Gz rfl|fail)
 refine Tr.bnd (Tr.condF rfl ?_)
 refine Tr.pcall (ct_kSpaceP k S ⟨m,s,q,rg,ea,ec,ma,mc,ms,sa,sc,ss⟩) ?_; (try simp only[Nr,Nl,Nat.reduceAdd,Nat.reduceMul,Int.reduceToNat]); (repeat' first|refine Gu ?_|(with_reducible first|refine Gn fun b h=>?_|apply Gx|apply Gy|rintro px rfl|refine fun(h:H)=>?_|intro hb)|refine Gs ?_|refine Gt ?_|exact Gz rfl|fail)
 try dsimp only
 refine Tr.xCall (ct_spNames s S.tabs env ok.space) ?_; rintro _ h ⟨a0,c0,rfl,o⟩ <;> (refine (?_ : Tr _ _ _ _) o; (try simp only[Nr,Nl,Nat.reduceAdd,Nat.reduceMul,Int.reduceToNat]))
 (repeat' first|refine Gu ?_|(with_reducible first|refine Gn fun b h=>?_|apply Gx|apply Gy|rintro px rfl|refine fun(h:H)=>?_|intro hb)|refine Gs ?_|refine Gt ?_|exact Gz rfl|fail)
 refine Tr.some fun o=>(?_ : Tr _ _ _ _) o; (try simp only[Nr,Nl,Nat.reduceAdd,Nat.reduceMul,Int.reduceToNat])
 by_cases hz : spNames S.tabs env = []
 ·refine Tr.condT (by simp [hz]) ?_
  refine tr_fold (kernC k S) ⟨m,s,q,rg,ea,ec,ma,mc,ms,sa,sc,ss⟩ ?_; (try simp only[Nr,Nl,Nat.reduceAdd,Nat.reduceMul,Int.reduceToNat])
  refine Tr.some fun o=>?_
  exact .inr ⟨hz,rfl,o.sub⟩
 ·refine Tr.condF ?_ ?_
  ·rw [beq_eq_false_iff_ne]
   intro h0
   exact hz (List.eq_nil_of_length_eq_zero (by omega))
  refine Tr.pcall (ct_kSpaceP k S ⟨m,s,q,rg,ea,ec,ma,mc,ms,sa,sc,ss⟩) ?_; (try simp only[Nr,Nl,Nat.reduceAdd,Nat.reduceMul,Int.reduceToNat]); (repeat' first|refine Gu ?_|(with_reducible first|refine Gn fun b h=>?_|apply Gx|apply Gy|rintro px rfl|refine fun(h:H)=>?_|intro hb)|refine Gs ?_|refine Gt ?_|exact Gz rfl|fail)
  try dsimp only
  refine Tr.xCall (ct_spNames s S.tabs env ok.space) ?_; rintro _ h ⟨a1,c1,rfl,o⟩ <;> (refine (?_ : Tr _ _ _ _) o; (try simp only[Nr,Nl,Nat.reduceAdd,Nat.reduceMul,Int.reduceToNat]))
  (repeat' first|refine Gu ?_|(with_reducible first|apply Gx|apply Gy|rintro px rfl|refine fun(h:H)=>?_|intro hb)|refine Gs ?_|refine Gt ?_|exact Gz rfl|fail)
  refine Tr.nw fun mb h=>?_
  refine Tr.nw fun c h=>?_
  refine tr_fold (kernC k S) ⟨m,s,q,rg,ea,ec,ma,mc,ms,sa,sc,ss⟩ ?_; (try simp only[Nr,Nl,Nat.reduceAdd,Nat.reduceMul,Int.reduceToNat])
  refine tr_foldI (comC c k env (spNames S.tabs env) []) (a1,c1,mb) [1,2,1] rfl ?_; (try simp only[Nr,Nl,Nat.reduceAdd,Nat.reduceMul,Int.reduceToNat])
  refine Tr.some fun o=>?_
  exact .inl ⟨hz,c,rfl,o.sub⟩
theorem ct_cNew0 (env : Int) : Ct CALL F_commons_New [.pointer none,int env] [] fun v own=>v = .tuple ⟨[.pointer none,int 1]⟩ ∧ own [] := by
 refine Ct.of k_commons_New rfl fun h r=>Tr.eq (e_commons_New ..) ?_; (try simp only[Nr,Nl,Nat.reduceAdd,Nat.reduceMul,Int.reduceToNat])
 (repeat' first|refine Gu ?_|(with_reducible first|refine Gn fun b h=>?_|rintro px rfl|refine fun(h:H)=>?_|intro hb)|refine Gs ?_|refine Gt ?_|exact Gz rfl|fail)
 refine Tr.bnd (Tr.condT rfl ?_)
 refine Tr.some fun o=>(?_ : Tr _ _ _ _) o; (try simp only[Nr,Nl,Nat.reduceAdd,Nat.reduceMul,Int.reduceToNat])
 (repeat' first|refine Gu ?_|(with_reducible first|refine Gn fun b h=>?_|apply Gx|apply Gy|rintro px rfl|refine fun(h:H)=>?_|intro hb)|refine Gs ?_|refine Gt ?_|exact Gz rfl|fail)
 refine Tr.some fun o=>?_
 exact ⟨rfl,o.sub⟩
def planP : PlanS := ⟨[false,false],[(0,1),(1,0)],5⟩
theorem ct_lPlan : Ct CALL F_law15_Plan [] [] fun v own=>∃ A,v = .agg ⟨planL planP A⟩ ∧ own (planF planP A) := by
 refine Ct.of k_law15_Plan rfl fun h r=>Tr.eq (e_law15_Plan ..) ?_; (try simp only[Nr,Nl,Nat.reduceAdd,Nat.reduceMul,Int.reduceToNat])
 (repeat' first|refine Gu ?_|(with_reducible first|apply Gx|apply Gy|rintro px rfl|refine fun(h:H)=>?_|intro hb)|refine Gs ?_|refine Gt ?_|exact Gz rfl|fail)
 refine Tr.nw fun b h=>?_
 refine Tr.nw fun b1 h=>?_
 refine Tr.nw fun b2 h=>?_
 (repeat' first|refine Gu ?_|(with_reducible first|refine Gn fun b h=>?_|apply Gx|apply Gy|rintro px rfl|refine fun(h:H)=>?_|intro hb)|refine Gs ?_|refine Gt ?_|exact Gz rfl|fail)
 refine tr_asSl 0 rfl 2 2 rfl (by omega) ?_
 refine tr_asSl 1 rfl 1 2 rfl (by omega) ?_
 (try simp only[Nr,Nl,Nat.reduceAdd,Nat.reduceMul,Int.reduceToNat])
 refine Tr.some fun o=>?_
 exact ⟨⟨some ⟨b1,0,none⟩,2,some ⟨b2,0,none⟩,2⟩,rfl,(show Own h (slC false Y_api_Bridge 2 (some ⟨b2,0,none⟩) planP.brs.length 2 (planP.brs.flatMap brL) :: slC false Y_bool 1 (some ⟨b1,0,none⟩) planP.bad.length 2 (planP.bad.map Value.bool) :: _) from o).sub⟩
def bootP : BootS := bootOf planP
theorem bootP_ok : bootOk bootP = true := by kernel_rfl
theorem bootP_small : Small bootP := by
 have e : bootP = ⟨[20,20],[0,0,0,0,0,0,0,0,0,1,1,1,1,1,1,1,1,1],[[0],[1]],5,[⟨0,0,0,492,[0]⟩,⟨1,0,0,492,[1]⟩,⟨0,8,0,40,[0,1]⟩,⟨1,9,0,40,[1,0]⟩]⟩ := by kernel_rfl
 rw [e]
 exact ⟨by simp [most],by simp [most],by simp [most]⟩
theorem bootP_eq : bootP = ⟨[20,20],[0,0,0,0,0,0,0,0,0,1,1,1,1,1,1,1,1,1],[[0],[1]],5,[⟨0,0,0,492,[0]⟩,⟨1,0,0,492,[1]⟩,⟨0,8,0,40,[0,1]⟩,⟨1,9,0,40,[1,0]⟩]⟩ := by kernel_rfl
theorem bootP_r : RBoot bootP (qNew bootP.frames) := by
 rw [bootP_eq]
 refine ⟨by simp,by simp,by simp,fun x hx=>?_,fun x hx=>?_⟩
 ·simp only [List.mem_cons,List.not_mem_nil,or_false] at hx
  rcases hx with rfl | rfl | rfl | rfl <;> simp [most]
 ·simp only [List.mem_cons,List.not_mem_nil,or_false] at hx
  rcases hx with rfl | rfl | rfl | rfl <;> simp [qNew]
def S00 : KS := kNew bootP
theorem S00_ok : KOk 0 S00 := kNew_ok bootP_ok bootP_small
def wrS (S : KS) (cap : Int) (b : List UInt8) : KS := (kAns S 0 ⟨2,cap,0,0,0,0,b⟩).2
def S0 : KS := wrS S00 256 blankB
theorem S0_e : (kAns S00 0 ⟨2,256,0,0,0,0,blankB⟩).1.1 = 0 := by kernel_rfl
theorem caps0 : spNames S00.tabs 0 = [256,257,258] := by kernel_rfl
def wrR (K : RKS) (cap : Int) (b : List UInt8) : RKS := { K with R := (rWrite K.R 0 cap 0 b).2 }
def K0 : RKS := wrR (rNew bootP) 256 blankB
end Go.EQ

set_option maxRecDepth 10000
namespace Go.EQ
open Go Go.NN
theorem rk0_ok : RKOk (rNew bootP) ∧ (rNew bootP).B = bootP := rNew_ok (by rw [bootP_eq]; simp) (by rw [bootP_eq]; simp)
theorem wrR_ok {K : RKS} (k : RKOk K) (cap : Int) (b : List UInt8) : RKOk (wrR K cap b) := rDoW_ok k 0 cap 0 b
theorem rcaps_ne : rCaps K0 0 ≠ [] := by
 have : rCaps K0 0 = [256,257,258] := by kernel_rfl
 rw [this]; simp
theorem blankB_len : blankB.length = 492 := by kernel_rfl
theorem tr_open1 {l : List HP} {h : H} {α : Type} {Q : α → H → Prop} {x : Option (α × H)} (i : Nat) {b n : Nat} {cs : List Value} (hi : l[i]? = some (pt b (.cells Y_uint8 false cs))) (hn : cs.length = n) (t : Tr (l.set i (slC false Y_uint8 1 (some (openAt b)) n n cs)) h x Q) : Tr l h x Q := fun o=>by
 refine t (Own.back (h := h) hi ?_)
 have o1 := o.front hi
 refine Own.slShut (pre := []) (post := []) (by simpa using o1) ⟨by omega,Nat.le_refl _,by simp,by simp,by simp,by omega,by simp⟩
theorem ct_Open (A : PlA) : Ct CALL F_law15_Open [.agg ⟨planL planP A⟩] (planF planP A) fun v own =>
  ∃ k c w m,v = .tuple ⟨[P0 k,P0 c,P0 w,P0 m]⟩ ∧ own [kernC k S0,comC c k 0 [256,257,258] [],rkC w K0,rcC m w 0 (rCaps K0 0) []] := by
 have hB : bootOf planP = bootP := rfl
 obtain ⟨ba,bc,ra,rc⟩ := A
 refine Ct.of k_law15_Open rfl fun h r=>Tr.eq (e_law15_Open ..) ?_; (try simp only[Nr,Nl,Nat.reduceAdd,Nat.reduceMul,Int.reduceToNat])
 refine Tr.nw fun b0 h=>?_
 (repeat' first|refine Gu ?_|(with_reducible first|refine Gn fun b h=>?_|apply Gx|apply Gy|rintro px rfl|refine fun(h:H)=>?_|intro hb)|refine Gs ?_|refine Gt ?_|exact Gz rfl|fail)
 refine Tr.xCall (ct_Boot planP ⟨ba,bc,ra,rc⟩ (by simp [planP]) (by simp [planP])) ?_; rintro _ h ⟨A,kA,rfl,o⟩ <;> (refine (?_ : Tr _ _ _ _) o; (try simp only[Nr,Nl,Nat.reduceAdd,Nat.reduceMul,Int.reduceToNat]))
 rw [hB] at kA ⊢
 obtain ⟨fa,fc,ea,ec,sa,sc,ss,ha,hc,hs⟩ := A
 (repeat' first|refine Gu ?_|(with_reducible first|apply Gx|apply Gy|rintro px rfl|refine fun(h:H)=>?_|intro hb)|refine Gs ?_|refine Gt ?_|exact Gz rfl|fail)
 refine Tr.nw fun b1 h=>?_
 (repeat' first|refine Gu ?_|(with_reducible first|refine Gn fun b h=>?_|apply Gx|apply Gy|rintro px rfl|refine fun(h:H)=>?_|intro hb)|refine Gs ?_|refine Gt ?_|exact Gz rfl|fail)
 have J := ct_New false bootP ⟨fa,fc,ea,ec,sa,sc,ss,ha,hc,hs⟩ kA bootP_small
 simp only [bootP_ok,if_true] at J
 refine Tr.xCall (J) ?_; rintro _ h ⟨k,rfl,o⟩ <;> (refine (?_ : Tr _ _ _ _) o; (try simp only[Nr,Nl,Nat.reduceAdd,Nat.reduceMul,Int.reduceToNat]))
 (repeat' first|refine Gu ?_|(with_reducible first|refine Gn fun b h=>?_|rintro px rfl|refine fun(h:H)=>?_|intro hb)|refine Gs ?_|refine Gt ?_|exact Gz rfl|fail)
 refine Tr.bnd (Tr.condF rfl ?_)
 refine Tr.some fun o=>(?_ : Tr _ _ _ _) o; (try simp only[Nr,Nl,Nat.reduceAdd,Nat.reduceMul,Int.reduceToNat])
 refine Tr.condF rfl ?_
 (repeat' first|refine Gu ?_|(with_reducible first|refine Gn fun b h=>?_|apply Gx|apply Gy|rintro px rfl|refine fun(h:H)=>?_|intro hb)|refine Gs ?_|refine Gt ?_|exact Gz rfl|fail)
 refine Tr.xCall (ct_rNewKern bootP ⟨fa,fc,ea,ec,sa,sc,ss,ha,hc,hs⟩ kA (by rw [bootP_eq]; simp) bootP_r) ?_; rintro _ h ⟨w,rfl,o⟩ <;> (refine (?_ : Tr _ _ _ _) o; (try simp only[Nr,Nl,Nat.reduceAdd,Nat.reduceMul,Int.reduceToNat]))
 (repeat' first|refine Gu ?_|(with_reducible first|refine Gn fun b h=>?_|apply Gx|apply Gy|rintro px rfl|refine fun(h:H)=>?_|intro hb)|refine Gs ?_|refine Gt ?_|exact Gz rfl|fail)
 refine Tr.xCall (ct_cNew k (kNew bootP) 0 S00_ok 0) ?_
 rintro v h (⟨hz,c,rfl,o⟩ | ⟨hz,rfl,o⟩)
 case inr=>exact absurd hz (by rw [show kNew bootP = S00 from rfl,caps0]; simp)
 rw [show kNew bootP = S00 from rfl,caps0] at o
 refine (?_ : Tr _ _ _ _) o
 (try simp only[Nr,Nl,Nat.reduceAdd,Nat.reduceMul,Int.reduceToNat])
 (repeat' first|refine Gu ?_|(with_reducible first|refine Gn fun b h=>?_|rintro px rfl|refine fun(h:H)=>?_|intro hb)|refine Gs ?_|refine Gt ?_|exact Gz rfl|fail)
 refine Tr.bnd (Tr.condF rfl ?_)
 refine Tr.some fun o=>(?_ : Tr _ _ _ _) o; (try simp only[Nr,Nl,Nat.reduceAdd,Nat.reduceMul,Int.reduceToNat])
 refine Tr.condF rfl ?_
 refine Tr.xCall (ct_rBlank) ?_; rintro _ h ⟨rfl,o⟩ <;> (refine (?_ : Tr _ _ _ _) o; (try simp only[Nr,Nl,Nat.reduceAdd,Nat.reduceMul,Int.reduceToNat]))
 (repeat' first|refine Gu ?_|(with_reducible first|apply Gx|apply Gy|rintro px rfl|refine fun(h:H)=>?_|intro hb)|refine Gs ?_|refine Gt ?_|exact Gz rfl|fail)
 refine Tr.ck (by rw [bs_size,blankB_len]; simp [most]) ?_
 rw [bs_size,blankB_len]
 refine Tr.nw fun b2 h=>?_
 refine tr_open1 (n := 492) 0 rfl (by rw [bc_len,show (bs blankB).data.toList = blankB from rfl,blankB_len]) ?_
 (try simp only[Nr,Nl,Nat.reduceAdd,Nat.reduceMul,Int.reduceToNat])
 have J2 := ct_kDoC k S00 0 S00_ok (by omega) 0 ⟨2,256,0,0,0,0,blankB⟩ (some (openAt b2)) 492 false (show ((2 : Int) ≠ 5) by decide)
 simp only [blankB_len] at J2
 refine tr_callI J2 [2,0] rfl ?_
 rintro _ h ⟨y,d,rfl,o⟩
 rw [S0_e]
 rw [show (kAns S00 0 ⟨2,256,0,0,0,0,blankB⟩).2 = S0 from rfl] at o
 refine (?_ : Tr _ _ _ _) o
 (try simp only[Nr,Nl,Nat.reduceAdd,Nat.reduceMul,Int.reduceToNat])
 (repeat' first|refine Gu ?_|(with_reducible first|apply Gx|apply Gy|rintro px rfl|refine fun(h:H)=>?_|intro hb)|refine Gs ?_|refine Gt ?_|exact Gz rfl|fail)
 refine Tr.condF rfl ?_
 refine Tr.ck (by simp [most]) ?_
 refine Tr.nw fun b3 h=>?_
 refine tr_open1 (n := 492) 0 rfl (by rw [bc_len,blankB_len]) ?_
 (try simp only[Nr,Nl,Nat.reduceAdd,Nat.reduceMul,Int.reduceToNat])
 have J3 := ct_rDoW w (rNew bootP) rk0_ok.1 0 (by rw [rk0_ok.2,bootP_eq]; simp) ⟨2,256,0,0,0,0,blankB⟩ rfl (by rw [blankB_len]; simp [most]) (slC false Y_uint8 1 (some (openAt b3)) blankB.length 492 (byteCells blankB)) (some (openAt b3)) 492 false
 simp only [blankB_len] at J3
 refine Tr.xCall J3 ?_
 rintro _ h ⟨rfl,o⟩
 rw [show ({ rNew bootP with R := (rWrite (rNew bootP).R ((0 : Nat) : Int) 256 0 blankB).2 } : RKS) = K0 from rfl] at o
 refine (?_ : Tr _ _ _ _) o
 (try simp only[Nr,Nl,Nat.reduceAdd,Nat.reduceMul,Int.reduceToNat])
 (repeat' first|refine Gu ?_|(with_reducible first|refine Gn fun b h=>?_|apply Gx|apply Gy|rintro px rfl|refine fun(h:H)=>?_|intro hb)|refine Gs ?_|refine Gt ?_|exact Gz rfl|fail)
 refine Tr.xCall (ct_rNewCommons w K0 (wrR_ok rk0_ok.1 256 blankB) 0 (by show (0 : Nat) < (rNew bootP).B.envs.length; rw [rk0_ok.2,bootP_eq]; simp)) ?_
 rintro v h (⟨_,m,rfl,o⟩ | ⟨hn,rfl,o⟩)
 case inr=>exact absurd hn rcaps_ne
 refine (?_ : Tr _ _ _ _) o
 (try simp only[Nr,Nl,Nat.reduceAdd,Nat.reduceMul,Int.reduceToNat])
 (repeat' first|refine Gu ?_|(with_reducible first|refine Gn fun b h=>?_|apply Gx|apply Gy|rintro px rfl|refine fun(h:H)=>?_|intro hb)|refine Gs ?_|refine Gt ?_|exact Gz rfl|fail)
 refine Tr.some fun o=>?_
 exact ⟨k,c,w,m,rfl,o.sub⟩
end Go.EQ

set_option maxRecDepth 10000
namespace Go.EQ
open Go Go.NN
def cutM (mem : List UInt8) (rg : Rg) : List (List UInt8) := rg.map fun p=>slice mem p.1 p.2
theorem cutM_get {mem : List UInt8} {rg : Rg} {j lo n : Nat} (h : rg[j]? = some (lo,n)) : (cutM mem rg)[j]? = some (slice mem lo n) := by unfold cutM; rw [List.getElem?_map,h]; rfl
theorem cutM_fit {mem : List UInt8} {rg : Rg} (h : ∀ (j lo n : Nat),rg[j]? = some (lo,n) → lo + n ≤ mem.length) : Fit mem.length rg (cutM mem rg) := ⟨by simp [cutM],fun j lo n hj=>⟨h j lo n hj,slice mem lo n,cutM_get hj,slice_len (h j lo n hj)⟩⟩
theorem pour_cut {mem : List UInt8} {rg : Rg} (k : RgOk rg) (h : ∀ (j lo n : Nat),rg[j]? = some (lo,n) → lo + n ≤ mem.length) : pour mem rg (cutM mem rg) = mem := by
 have f := cutM_fit h
 refine List.ext_getElem? fun i=>?_
 by_cases ho : ∃ (j lo n : Nat),rg[j]? = some (lo,n) ∧ lo ≤ i ∧ i < lo + n
 ·obtain ⟨j,lo,n,hj,h1,h2⟩ := ho
  obtain ⟨i',rfl⟩ : ∃ i',i = lo + i' := ⟨i - lo,by omega⟩
  rw [pour_in f k j lo n _ hj (cutM_get hj) i' (by omega),slice_get,if_pos (by omega)]
 ·exact pour_out f i fun j lo n hj=>by
   by_cases hh : lo ≤ i ∧ i < lo + n
   ·exact absurd ⟨j,lo,n,hj,hh.1,hh.2⟩ ho
   ·omega
theorem FrOk.room {F : Fr} {j lo n : Nat} (f : Fit F.S.mem.length F.rg (cutM F.S.mem F.rg)) (h : F.rg[j]? = some (lo,n)) : lo + n ≤ F.S.mem.length := (f.each j lo n h).1
theorem Fr.at_cut {F : Fr} (k : FrOk F) (h : ∀ (j lo n : Nat),F.rg[j]? = some (lo,n) → lo + n ≤ F.S.mem.length) : F.at (cutM F.S.mem F.rg) = F.S := by
 unfold Fr.at; rw [pour_cut k.dj h]; rfl
theorem Own.cmTake {r : List HP} {h : H} (c k : Nat) (F : Fr) (bad : List RecS) (ok : FrOk F) (hr : ∀ (j lo n : Nat),F.rg[j]? = some (lo,n) → lo + n ≤ F.S.mem.length) (o1 : Own h (kernC k F.S :: comC c k F.env F.caps bad :: r)) : Own h (cmC c k F ⟨cutM F.S.mem F.rg,bad⟩ :: r) := by
 refine Own.inex (f := fun u : Unit=>sl (cmF c k F ⟨cutM F.S.mem F.rg,bad⟩)) () (Own.group (l := cmF c k F ⟨cutM F.S.mem F.rg,bad⟩) ?_)
 show Own h (kernC k (F.at (cutM F.S.mem F.rg)) :: comC c k F.env F.caps bad :: pu _ :: r)
 rw [Fr.at_cut ok hr]
 have o2 := Own.inpure (show Fit F.S.mem.length F.rg (cutM F.S.mem F.rg) from cutM_fit hr) o1
 exact o2.picks [1,1,0] rfl
theorem tr_lay {l r : List HP} {h : H} {α : Type} {Q : α → H → Prop} {x : Option (α × H)} (c k : Nat) (F : Fr) (X : CX) [tk : Take (cmC c k F X) l r]
  (t : Fit F.S.mem.length F.rg X.m → Tr (kernC k (F.at X.m) :: comC c k F.env F.caps X.bad :: r) h x Q) : Tr l h x Q := fun o=>by
 have o1 : Own h (cmC c k F X :: r) := o.perm tk.pm
 obtain ⟨u,o2⟩ := Own.ex (f := fun u : Unit=>sl (cmF c k F X)) o1
 have o3 : Own h (kernC k (F.at X.m) :: comC c k F.env F.caps X.bad :: pu (Fit F.S.mem.length F.rg X.m) :: r) := Own.join o2
 have f := (o3.front (i := 2) rfl).pure
 exact t f (o3.front (i := 2) rfl).tail
theorem pl_of {S : KS} {env cap obj : Int} {lo n : Nat} {e1 e2 : Int} (hg : spGet S.tabs env cap = some ⟨obj,3,0,(n : Int),e1,e2⟩) (h0 : 0 ≤ obj) (hr : S.regs[obj.toNat]? = some ((lo : Int),(n : Int))) (hl : lo + n ≤ 65536) :
  ∀ (a m : Nat) (right : Int),right = 1 ∨ right = 2 → a + m ≤ n → placeV S.tabs S.regs env cap right a m = (((lo + a : Nat) : Int),0) := by
 intro a m right hri ha
 have hlt := (List.getElem?_eq_some_iff.1 hr).1
 unfold placeV
 rw [hg]
 have b1 : (bitA .i64 3 1 == 0) = false := by kernel_rfl
 have b2 : (bitA .i64 3 2 == 0) = false := by kernel_rfl
 have hb : ¬ ((bitA .i64 3 right == 0) = true) := by rcases hri with rfl | rfl <;> simp [b1,b2]
 simp only
 have h2 : (decide ((a : Int) < 0) || decide ((m : Int) < 0) || decide ((a : Int) > (n : Int)) || decide ((m : Int) > IntKind.wrap .i64 ((n : Int) - a)) || decide (obj < 0) || decide (obj ≥ S.regs.length)) = false := by
  simp only [Bool.or_eq_false_iff,decide_eq_false_iff_not,wrap_eq]; omega
 have h3 : (decide (IntKind.wrap .i64 (0 + (a : Int)) > (n : Int)) || decide ((m : Int) > IntKind.wrap .i64 (IntKind.wrap .i64 ((n : Int) - 0) - a))) = false := by
  simp only [Bool.or_eq_false_iff,decide_eq_false_iff_not,wrap_eq]; omega
 have h4 : IntKind.wrap .i64 (IntKind.wrap .i64 ((lo : Int) + 0) + a) = ((lo + a : Nat) : Int) := by simp only [wrap_eq]; omega
 rw [if_neg hb]
 simp only [h2,hr,h3,h4,Bool.false_eq_true,if_false]
structure Like (S : KS) : Prop where
 ok : KOk 0 S
 tabs : S.tabs = S00.tabs
 regs : S.regs = S00.regs
 envs : S.envs = S00.envs
 mem : S.mem.length = 2560
theorem like_put {S : KS} (k : Like S) {m : List UInt8} (h : m.length = 2560) : Like (putMem S m) :=
 ⟨⟨k.ok.envs,k.ok.tabs,k.ok.space,k.ok.quota,by show m.length ≤ 65536; omega,k.ok.regs,k.ok.may,k.ok.mayl,k.ok.nsect,k.ok.sects,k.ok.now⟩,k.tabs,k.regs,k.envs,h⟩
theorem like00 : Like S00 := ⟨S00_ok,rfl,rfl,rfl,by kernel_rfl⟩
theorem wrS_put (S : KS) (k : Like S) (cap : Int) (b : List UInt8) : Like (wrS S cap b) := by
 unfold wrS kAns
 split
 ·exact k
 ·exact like_put k (by rw [writeV_len]; exact k.mem)
theorem like0 : Like S0 := wrS_put S00 like00 256 blankB
def rgP (s : Nat) : Rg := [(1280 * s,492),(512,40),(1856,40)]
def frP (S : KS) (s : Nat) (env : Int) : Fr := ⟨S,0,env,[256,257,258],rgP s⟩
theorem regs00 : S00.regs = [(0,492),(1280,492),(512,40),(1856,40)] := by kernel_rfl
theorem envs00 : S00.envs.length = 18 := by kernel_rfl
structure EnvP (s : Nat) (env : Int) : Prop where
 hs : s < 2
 he : 0 ≤ env ∧ env < 18
 a : spGet S00.tabs env 256 = some ⟨s,3,0,492,0,0⟩
 b : spGet S00.tabs env 257 = some ⟨2,3,0,40,0,0⟩
 c : spGet S00.tabs env 258 = some ⟨3,3,0,40,0,0⟩
theorem env0 : EnvP 0 0 := ⟨by omega,by omega,by kernel_rfl,by kernel_rfl,by kernel_rfl⟩
theorem env9 : EnvP 1 9 := ⟨by omega,by omega,by kernel_rfl,by kernel_rfl,by kernel_rfl⟩
theorem rgP_get {s j lo n : Nat} (h : (rgP s)[j]? = some (lo,n)) : (j = 0 ∧ lo = 1280 * s ∧ n = 492) ∨ (j = 1 ∧ lo = 512 ∧ n = 40) ∨ (j = 2 ∧ lo = 1856 ∧ n = 40) := by
 unfold rgP at h
 match j,h with
 | 0,h=>simp at h; omega
 | 1,h=>simp at h; omega
 | 2,h=>simp at h; omega
 | j + 3,h=>simp at h
theorem frP_room {S : KS} (k : Like S) {s : Nat} (hs : s < 2) (env : Int) : ∀ (j lo n : Nat),(frP S s env).rg[j]? = some (lo,n) → lo + n ≤ (frP S s env).S.mem.length := by
 intro j lo n h
 have hm := k.mem
 have := rgP_get h
 show lo + n ≤ S.mem.length
 omega
theorem frP_ok {S : KS} (k : Like S) {s : Nat} {env : Int} (e : EnvP s env) : FrOk (frP S s env) := by
 have hs := e.hs; have he := e.he
 refine ⟨k.ok,by simp [frP],by simp [frP],by simp [frP],by simp [frP,rgP],?_,?_,?_,⟨1280 * s,rfl⟩,?_⟩
 ·show ¬ (env < 0 ∨ env ≥ (S.envs.length : Int))
  rw [k.envs,envs00]; omega
 ·intro j cap lo n hc hr
  show ∀ (a m : Nat) (right : Int),right = 1 ∨ right = 2 → a + m ≤ n → placeV S.tabs S.regs env cap right a m = _
  have hg := rgP_get hr
  rcases hg with ⟨rfl,rfl,rfl⟩ | ⟨rfl,rfl,rfl⟩ | ⟨rfl,rfl,rfl⟩
  ·cases hc
   refine pl_of (obj := s) (e1 := 0) (e2 := 0) (by rw [k.tabs]; exact e.a) (by omega) ?_ (by omega)
   rw [k.regs,regs00,Int.toNat_natCast]
   match s,hs with
   | 0,_=>rfl
   | 1,_=>rfl
  ·cases hc
   exact pl_of (obj := 2) (e1 := 0) (e2 := 0) (by rw [k.tabs]; exact e.b) (by omega) (by rw [k.regs,regs00]; rfl) (by omega)
  ·cases hc
   exact pl_of (obj := 3) (e1 := 0) (e2 := 0) (by rw [k.tabs]; exact e.c) (by omega) (by rw [k.regs,regs00]; rfl) (by omega)
 ·intro i j lo n lo' n' hij hi hj
  have h1 := rgP_get hi; have h2 := rgP_get hj
  omega
 ·intro j lo n h0 h
  have := rgP_get h; omega
end Go.EQ

set_option maxRecDepth 10000
namespace Go.EQ
open Go Go.NN
def badK (bad : List RecS) (kind : Int) : Nat → Int → List RecS
 | 0,_=>[]
 | m + 1,i=>if (⟨kind,i⟩ : RecS) ∈ bad then ⟨kind,i⟩ :: badK bad kind m (i + 1) else badK bad kind m (i + 1)
def badL (nc : Nat) (bad : List RecS) : Nat → Int → List RecS
 | 0,_=>[]
 | m + 1,kind=>badK bad kind (mostX nc kind).toNat 0 ++ badL nc bad m (kind + 1)
def badOf (nc : Nat) (bad : List RecS) : List RecS := badL nc bad 5 1
theorem ct_Bad_L2 (c k : Nat) (env : Int) (caps : List Int) (bad : List RecS) (hs : caps.length ≤ 40) (kind : Int) (hk : 1 ≤ kind ∧ kind ≤ 5) (Φ : List RecS → Value → (List HP → Prop) → Prop)
  (next : ∀ (acc : List RecS) (a : Option Addr) (cp : Nat),acc.length ≤ 50 * kind → CtJ JUMP F_commons_Commons_Bad T_commons_Commons_Bad_L1 [(0,P0 c),(3,.slice a acc.length cp),(4,int (kind + 1))] [slC false Y_api_Rec 2 a acc.length cp (acc.flatMap recL),comC c k env caps bad] (Φ acc)) :
  ∀ (m : Nat) (i : Int) (acc : List RecS) (a : Option Addr) (cp : Nat),0 ≤ i → i + m = mostX caps.length kind → acc.length ≤ 50 * (kind - 1) + i →
  CtJ JUMP F_commons_Commons_Bad T_commons_Commons_Bad_L2 [(0,P0 c),(3,.slice a acc.length cp),(4,int kind),(13,int (mostX caps.length kind)),(14,int i)] [slC false Y_api_Rec 2 a acc.length cp (acc.flatMap recL),comC c k env caps bad] (Φ (acc ++ badK bad kind m i)) := by
 have hmost : mostX caps.length kind ≤ 43 := by unfold mostX; (repeat' split) <;> omega
 have e5 : IntKind.wrap .i64 (kind + 1) = kind + 1 := by rw [wrap_eq]; omega
 intro m
 induction m with
 | zero =>
  intro i acc a cp h0 hi ha
  refine CtJ.of k_commons_Commons_Bad fun h r=>Tr.eq (e_commons_Commons_Bad_L2 ..) ?_; (try simp only[Nr,Nl,Nat.reduceAdd,Nat.reduceMul,Int.reduceToNat])
  refine Tr.condF (by simp; omega) ?_
  rw [e5]
  refine Tr.xRun (next acc a cp (by omega)) ?_
  intro v h q
  rw [show badK bad kind 0 i = [] from rfl,List.append_nil]
  exact q
 | succ m ih =>
  intro i acc a cp h0 hi ha
  have e1 : IntKind.wrap .i64 (i + 1) = i + 1 := by rw [wrap_eq]; omega
  refine CtJ.of k_commons_Commons_Bad fun h r=>Tr.eq (e_commons_Commons_Bad_L2 ..) ?_; (try simp only[Nr,Nl,Nat.reduceAdd,Nat.reduceMul,Int.reduceToNat])
  refine Tr.condT (by simp; omega) ?_
  refine tr_open (comC c k env caps bad) fun ⟨ca,cn,mb⟩=>?_; (try simp only[Nr,Nl,Nat.reduceAdd,Nat.reduceMul,Int.reduceToNat])
  (repeat' first|refine Gu ?_|(with_reducible first|refine Gn fun b h=>?_|apply Gx|apply Gy|rintro px rfl|refine fun(h:H)=>?_|intro hb)|refine Gs ?_|refine Gt ?_|exact Gz rfl|fail)
  have hl := lookM_bad ⟨kind,i⟩ bad
  simp only [recL] at hl
  rw [hl]
  rw [show badK bad kind (m + 1) i = if (⟨kind,i⟩ : RecS) ∈ bad then ⟨kind,i⟩ :: badK bad kind m (i + 1) else badK bad kind m (i + 1) from rfl]
  by_cases hb : (⟨kind,i⟩ : RecS) ∈ bad
  ·simp only [if_pos hb]
   (repeat' first|refine Gu ?_|(with_reducible first|refine Gn fun b h=>?_|apply Gx|apply Gy|rintro px rfl|refine fun(h:H)=>?_|intro hb)|refine Gs ?_|refine Gt ?_|exact Gz rfl|fail)
   refine Tr.condT rfl ?_
   (repeat' first|refine Gu ?_|(with_reducible first|refine Gn fun b h=>?_|apply Gx|apply Gy|rintro px rfl|refine fun(h:H)=>?_|intro hb)|refine Gs ?_|refine Gt ?_|exact Gz rfl|fail)
   refine tr_fold (comC c k env caps bad) ⟨ca,cn,mb⟩ ?_; (try simp only[Nr,Nl,Nat.reduceAdd,Nat.reduceMul,Int.reduceToNat])
   refine Tr.xApd ?_ (fun a' c' h=>?_)
   ·exact ⟨by first | rfl | simp,by first | rfl | simp,by simp only [most]; omega⟩
   (try simp only[Nr,Nl,Nat.reduceAdd,Nat.reduceMul,Int.reduceToNat])
   rw [e1]
   rw [show acc.flatMap recL ++ [Value.int IntKind.i64 kind,Value.int IntKind.i64 i] = (acc ++ [(⟨kind,i⟩ : RecS)]).flatMap recL by simp [recL],show acc.length + 1 = (acc ++ [(⟨kind,i⟩ : RecS)]).length by simp]
   refine tr_order [3,0] 2 rfl rfl ?_
   refine Tr.xRun (ih (i + 1) (acc ++ [⟨kind,i⟩]) a' c' (by omega) (by omega) (by simp; omega)) ?_
   intro v h q
   rw [List.append_assoc] at q
   exact q
  ·simp only [if_neg hb]
   (repeat' first|refine Gu ?_|(with_reducible first|refine Gn fun b h=>?_|apply Gx|apply Gy|rintro px rfl|refine fun(h:H)=>?_|intro hb)|refine Gs ?_|refine Gt ?_|exact Gz rfl|fail)
   refine Tr.condF rfl ?_
   refine tr_fold (comC c k env caps bad) ⟨ca,cn,mb⟩ ?_; (try simp only[Nr,Nl,Nat.reduceAdd,Nat.reduceMul,Int.reduceToNat])
   rw [e1]
   refine tr_order [2,0] 1 rfl rfl ?_
   refine Tr.xRun (ih (i + 1) acc a cp (by omega) (by omega) (by omega)) ?_
   intro v h q
   exact q
theorem ct_Bad_L1 (c k : Nat) (env : Int) (caps : List Int) (bad : List RecS) (hs : caps.length ≤ 40) : ∀ (m : Nat) (kind : Int) (acc : List RecS) (a : Option Addr) (cp : Nat),1 ≤ kind → kind + m = 6 → acc.length ≤ 50 * (kind - 1) →
  CtJ JUMP F_commons_Commons_Bad T_commons_Commons_Bad_L1 [(0,P0 c),(3,.slice a acc.length cp),(4,int kind)] [slC false Y_api_Rec 2 a acc.length cp (acc.flatMap recL),comC c k env caps bad] fun v own =>
   ∃ a' cp',v = .slice a' (acc ++ badL caps.length bad m kind).length cp' ∧ own [slC false Y_api_Rec 2 a' (acc ++ badL caps.length bad m kind).length cp' ((acc ++ badL caps.length bad m kind).flatMap recL),comC c k env caps bad] := by
 intro m
 induction m with
 | zero =>
  intro kind acc a cp hk hi ha
  refine CtJ.of k_commons_Commons_Bad fun h r=>Tr.eq (e_commons_Commons_Bad_L1 ..) ?_; (try simp only[Nr,Nl,Nat.reduceAdd,Nat.reduceMul,Int.reduceToNat])
  refine Tr.condF (by simp; omega) ?_
  refine Tr.some fun o=>?_
  rw [show badL caps.length bad 0 kind = [] from rfl,List.append_nil]
  exact ⟨a,cp,rfl,o.sub⟩
 | succ m ih =>
  intro kind acc a cp hk hi ha
  have hm0 : 0 ≤ mostX caps.length kind := by unfold mostX; (repeat' split) <;> omega
  have L2 := ct_Bad_L2 c k env caps bad hs kind (by omega) (fun acc v own=>∃ a' cp',v = .slice a' (acc ++ badL caps.length bad m (kind + 1)).length cp' ∧ own [slC false Y_api_Rec 2 a' (acc ++ badL caps.length bad m (kind + 1)).length cp' ((acc ++ badL caps.length bad m (kind + 1)).flatMap recL),comC c k env caps bad])
   (fun acc a cp ha=>ih (kind + 1) acc a cp (by omega) (by omega) (by omega)) (mostX caps.length kind).toNat 0 acc a cp (by omega) (by omega) (by omega)
  refine CtJ.of k_commons_Commons_Bad fun h r=>Tr.eq (e_commons_Commons_Bad_L1 ..) ?_; (try simp only[Nr,Nl,Nat.reduceAdd,Nat.reduceMul,Int.reduceToNat])
  refine Tr.condT (by simp; omega) ?_
  refine Tr.pcall (ct_cmost c k env caps bad kind hs) ?_; (try simp only[Nr,Nl,Nat.reduceAdd,Nat.reduceMul,Int.reduceToNat]); (repeat' first|refine Gu ?_|(with_reducible first|refine Gn fun b h=>?_|apply Gx|apply Gy|rintro px rfl|refine fun(h:H)=>?_|intro hb)|refine Gs ?_|refine Gt ?_|exact Gz rfl|fail)
  refine Tr.xRun L2 ?_
  intro v h q
  rw [List.append_assoc] at q
  exact q
theorem ct_cBad (c k : Nat) (env : Int) (caps : List Int) (bad : List RecS) (hs : caps.length ≤ 40) : Ct CALL F_commons_Commons_Bad [P0 c] [comC c k env caps bad] fun v own =>
  ∃ a' cp',v = .slice a' (badOf caps.length bad).length cp' ∧ own [slC false Y_api_Rec 2 a' (badOf caps.length bad).length cp' ((badOf caps.length bad).flatMap recL),comC c k env caps bad] := by
 refine Ct.of k_commons_Commons_Bad rfl fun h r=>Tr.eq (e_commons_Commons_Bad ..) ?_; (try simp only[Nr,Nl,Nat.reduceAdd,Nat.reduceMul,Int.reduceToNat])
 refine tr_nilSl false Y_api_Rec 2 (by omega) ?_
 have J := ct_Bad_L1 c k env caps bad hs 5 1 [] none 0 (by omega) (by omega) (by simp)
 simp only [List.nil_append,List.length_nil,List.flatMap_nil] at J
 refine Tr.xRun J ?_
 intro v h q
 exact q
theorem badOf_nil (nc : Nat) : badOf nc [] = [] := by
 have h1 : ∀ (kind : Int) (m : Nat) (i : Int),badK [] kind m i = [] := by
  intro kind m
  induction m with
  | zero=>intro i; rfl
  | succ m ih=>intro i; unfold badK; rw [if_neg (by simp),ih]
 have h2 : ∀ (m : Nat) (kind : Int),badL nc [] m kind = [] := by
  intro m
  induction m with
  | zero=>intro k; rfl
  | succ m ih=>intro k; unfold badL; rw [h1,ih]; rfl
 exact h2 5 1
theorem ct_cBadX (c k : Nat) (F : Fr) (X : CX) (ok : FrOk F) : Ct CALL F_commons_Commons_Bad [P0 c] [cmC c k F X] fun v own =>
  ∃ a' cp',v = .slice a' (badOf F.caps.length X.bad).length cp' ∧ own [slC false Y_api_Rec 2 a' (badOf F.caps.length X.bad).length cp' ((badOf F.caps.length X.bad).flatMap recL),cmC c k F X] := by
 intro h r o
 obtain ⟨u,o2⟩ := Own.unfold (cmC c k F X) o
 obtain ⟨v,h',e,a',cp',hv,o3⟩ := ct_cBad c k F.env F.caps X.bad ok.small h _ (o2.picks [1] rfl)
 refine ⟨v,h',e,a',cp',hv,?_⟩
 have o4 := o3.picks [2,1,1] rfl
 exact (Own.shut (f := fun _ : Unit=>cmF c k F X) () o4).picks [1,0] rfl
theorem ct_cView (c k : Nat) (F : Fr) (X : CX) (ok : FrOk F) : Ct CALL F_commons_Commons_View [P0 c] [cmC c k F X] fun v own =>
  ∃ a' cp',v = .slice a' (X.m.getD 0 []).length cp' ∧ own [slC false Y_uint8 1 a' (X.m.getD 0 []).length cp' (byteCells (X.m.getD 0 [])),cmC c k F X] := by
 have hn := ok.ne
 have hg : (F.caps.map int)[0]? = some (int (F.caps.getD 0 0)) := by rw [List.getElem?_map,getD_get 0 hn]; rfl
 refine Ct.of k_commons_Commons_View rfl fun h r=>Tr.eq (e_commons_Commons_View ..) ?_; (try simp only[Nr,Nl,Nat.reduceAdd,Nat.reduceMul,Int.reduceToNat])
 refine tr_open (cmC c k F X) fun u=>?_; (try simp only[Nr,Nl,Nat.reduceAdd,Nat.reduceMul,Int.reduceToNat])
 refine tr_pureAt 2 rfl fun f=>?_
 refine tr_open (comC c k F.env F.caps X.bad) fun ⟨ca,cn,mb⟩=>?_; (try simp only[Nr,Nl,Nat.reduceAdd,Nat.reduceMul,Int.reduceToNat])
 (repeat' first|refine Gu ?_|(with_reducible first|refine Gn fun b h=>?_|apply Gx|apply Gy|rintro px rfl|refine fun(h:H)=>?_|intro hb)|refine Gs ?_|refine Gt ?_|exact Gz rfl|fail)
 refine tr_fold (comC c k F.env F.caps X.bad) ⟨some px,cn,mb⟩ ?_; (try simp only[Nr,Nl,Nat.reduceAdd,Nat.reduceMul,Int.reduceToNat])
 obtain ⟨lo,h0⟩ := ok.own
 obtain ⟨_,x,hx,hxl⟩ := f.each 0 lo 492 h0
 have e0 : X.m.getD 0 [] = x := by rw [List.getD_eq_getElem?_getD,hx]; rfl
 have hp := ok.pl 0 _ lo 492 (getD_get 0 hn) h0 0 492 1 (.inl rfl) (by omega)
 have lp := pour_len f
 have hb : loadV (pour F.S.mem F.rg X.m) ((lo + 0 : Nat) : Int) (492 : Int) = some x := by
  have := f.each 0 lo 492 h0
  unfold loadV
  rw [if_pos (by rw [lp]; omega),Int.toNat_natCast]
  have hs := pour_slice f ok.dj h0 hx (a := 0) (c := 492) (by omega)
  show some (slice (pour F.S.mem F.rg X.m) (lo + 0) 492) = some x
  rw [hs]
  unfold slice
  rw [List.drop_zero,List.take_of_length_le (by omega)]
 have e : kAns (F.at X.m) F.env ⟨1,F.caps.getD 0 0,0,492,0,0,[]⟩ = ((0,0,x),F.at X.m) := by
  unfold kAns
  rw [if_neg (show ¬ (F.env < 0 ∨ F.env ≥ ((F.at X.m).envs.length : Int)) from ok.env)]
  unfold kDo
  rw [if_pos rfl]
  have er : readV (F.at X.m).tabs (F.at X.m).regs (F.at X.m).mem F.env (F.caps.getD 0 0) 0 492 = (x,0) := by
   unfold readV
   rw [show placeV (F.at X.m).tabs (F.at X.m).regs F.env (F.caps.getD 0 0) 1 0 492 = (((lo + 0 : Nat) : Int),0) from hp]
   rw [if_neg (by simp),show loadV (F.at X.m).mem _ _ = _ from hb]
  simp only [er]
 have J := ct_kDo0 k (F.at X.m) F.N (F.at_ok ok f) ok.hN F.env 1 (F.caps.getD 0 0) 0 492 0 0 (by decide)
 rw [e] at J
 refine Tr.xCall (J) ?_; rintro _ h ⟨y,d,rfl,o⟩ <;> (refine (?_ : Tr _ _ _ _) o; (try simp only[Nr,Nl,Nat.reduceAdd,Nat.reduceMul,Int.reduceToNat]); (repeat' first|refine Gu ?_|(with_reducible first|refine Gn fun b h=>?_|apply Gx|apply Gy|rintro px rfl|refine fun(h:H)=>?_|intro hb)|refine Gs ?_|refine Gt ?_|exact Gz rfl|fail))
 refine tr_fold (cmC c k F X) () ?_; (try simp only[Nr,Nl,Nat.reduceAdd,Nat.reduceMul,Int.reduceToNat])
 refine Tr.some fun o=>?_
 rw [e0]
 exact ⟨y,d,rfl,o.sub⟩
end Go.EQ

set_option maxRecDepth 10000
namespace Go.EQ
open Go Go.NN
abbrev F0 : Fr := frP S0 0 0
def X0 : CX := ⟨cutM S0.mem (rgP 0),[]⟩
theorem F0_ok : FrOk F0 := frP_ok like0 env0
theorem x0_p : (procX X0 0).1.2 = 0 := by kernel_rfl
theorem x0_p2 : (procX X0 0).2 = X0 := by kernel_rfl
theorem x0_t : (termX X0).1.2 = 1 := by kernel_rfl
theorem x0_t2 : (termX X0).2 = X0 := by kernel_rfl
theorem x0_f : (frontX X0).1 = (0,1) := by kernel_rfl
theorem x0_f2 : (frontX X0).2 = X0 := by kernel_rfl
theorem x0_v : (X0.m.getD 0 []).length = 492 := by kernel_rfl
theorem ct_OpenX (A : PlA) : Ct CALL F_law15_Open [.agg ⟨planL planP A⟩] (planF planP A) fun v own =>
  ∃ k c w m,v = .tuple ⟨[P0 k,P0 c,P0 w,P0 m]⟩ ∧ own [cmC c k F0 X0,rkC w K0,rcC m w 0 (rCaps K0 0) []] := by
 intro h r o
 obtain ⟨v,h',e,k,c,w,m,hv,o2⟩ := ct_Open A h r o
 refine ⟨v,h',e,k,c,w,m,hv,?_⟩
 exact Own.cmTake c k F0 [] F0_ok (frP_room like0 (by omega) 0) o2
theorem ct_awake15 : Ct CALL F_law15_awake [] [] fun v own=>v = .bool true ∧ own [] := by
 refine Ct.of k_law15_awake rfl fun h r=>Tr.eq (e_law15_awake ..) ?_; (try simp only[Nr,Nl,Nat.reduceAdd,Nat.reduceMul,Int.reduceToNat])
 refine Tr.xCall (ct_lPlan) ?_; rintro _ h ⟨A,rfl,o⟩ <;> (refine (?_ : Tr _ _ _ _) o; (try simp only[Nr,Nl,Nat.reduceAdd,Nat.reduceMul,Int.reduceToNat]))
 (repeat' first|refine Gu ?_|(with_reducible first|refine Gn fun b h=>?_|apply Gx|apply Gy|rintro px rfl|refine fun(h:H)=>?_|intro hb)|refine Gs ?_|refine Gt ?_|exact Gz rfl|fail)
 refine Tr.xCall (ct_OpenX A) ?_
 rintro _ h ⟨k,c,w,m,rfl,o⟩
 refine (?_ : Tr _ _ _ _) o
 (try simp only[Nr,Nl,Nat.reduceAdd,Nat.reduceMul,Int.reduceToNat])
 (repeat' first|refine Gu ?_|(with_reducible first|refine Gn fun b h=>?_|apply Gx|apply Gy|rintro px rfl|refine fun(h:H)=>?_|intro hb)|refine Gs ?_|refine Gt ?_|exact Gz rfl|fail)
 refine Tr.xCall (ct_cProc c k F0 X0 F0_ok 0) ?_; rintro _ h ⟨rfl,o⟩ <;> (refine (?_ : Tr _ _ _ _) o; (try simp only[Nr,Nl,Nat.reduceAdd,Nat.reduceMul,Int.reduceToNat]))
 rw [x0_p,x0_p2]
 (repeat' first|refine Gu ?_|(with_reducible first|refine Gn fun b h=>?_|apply Gx|apply Gy|rintro px rfl|refine fun(h:H)=>?_|intro hb)|refine Gs ?_|refine Gt ?_|exact Gz rfl|fail)
 refine Tr.xCall (ct_cTerm c k F0 X0 F0_ok) ?_; rintro _ h ⟨rfl,o⟩ <;> (refine (?_ : Tr _ _ _ _) o; (try simp only[Nr,Nl,Nat.reduceAdd,Nat.reduceMul,Int.reduceToNat]))
 rw [x0_t,x0_t2]
 (repeat' first|refine Gu ?_|(with_reducible first|refine Gn fun b h=>?_|apply Gx|apply Gy|rintro px rfl|refine fun(h:H)=>?_|intro hb)|refine Gs ?_|refine Gt ?_|exact Gz rfl|fail)
 refine Tr.xCall (ct_cFront c k F0 X0 F0_ok) ?_; rintro _ h ⟨rfl,o⟩ <;> (refine (?_ : Tr _ _ _ _) o; (try simp only[Nr,Nl,Nat.reduceAdd,Nat.reduceMul,Int.reduceToNat]))
 rw [x0_f,x0_f2]
 (repeat' first|refine Gu ?_|(with_reducible first|refine Gn fun b h=>?_|apply Gx|apply Gy|rintro px rfl|refine fun(h:H)=>?_|intro hb)|refine Gs ?_|refine Gt ?_|exact Gz rfl|fail)
 refine Tr.xCall (ct_cNew0 0) ?_; rintro _ h ⟨rfl,o⟩ <;> (refine (?_ : Tr _ _ _ _) o; (try simp only[Nr,Nl,Nat.reduceAdd,Nat.reduceMul,Int.reduceToNat]))
 (repeat' first|refine Gu ?_|(with_reducible first|refine Gn fun b h=>?_|rintro px rfl|refine fun(h:H)=>?_|intro hb)|refine Gs ?_|refine Gt ?_|exact Gz rfl|fail)
 refine Tr.bnd (Tr.condT rfl ?_)
 refine Tr.some fun o=>(?_ : Tr _ _ _ _) o; (try simp only[Nr,Nl,Nat.reduceAdd,Nat.reduceMul,Int.reduceToNat])
 refine Tr.bnd (Tr.condT rfl ?_)
 refine Tr.some fun o=>(?_ : Tr _ _ _ _) o; (try simp only[Nr,Nl,Nat.reduceAdd,Nat.reduceMul,Int.reduceToNat])
 refine Tr.bnd (Tr.condT rfl ?_)
 refine Tr.some fun o=>(?_ : Tr _ _ _ _) o; (try simp only[Nr,Nl,Nat.reduceAdd,Nat.reduceMul,Int.reduceToNat])
 refine Tr.bnd (Tr.condT rfl ?_)
 refine Tr.some fun o=>(?_ : Tr _ _ _ _) o; (try simp only[Nr,Nl,Nat.reduceAdd,Nat.reduceMul,Int.reduceToNat])
 refine Tr.bnd (Tr.condT rfl ?_)
 refine Tr.xCall (ct_cBadX c k F0 X0 F0_ok) ?_; rintro _ h ⟨a1,c1,rfl,o⟩ <;> (refine (?_ : Tr _ _ _ _) o; (try simp only[Nr,Nl,Nat.reduceAdd,Nat.reduceMul,Int.reduceToNat]))
 (repeat' first|refine Gu ?_|(with_reducible first|refine Gn fun b h=>?_|rintro px rfl|refine fun(h:H)=>?_|intro hb)|refine Gs ?_|refine Gt ?_|exact Gz rfl|fail)
 refine Tr.some fun o=>(?_ : Tr _ _ _ _) o; (try simp only[Nr,Nl,Nat.reduceAdd,Nat.reduceMul,Int.reduceToNat])
 rw [show badOf F0.caps.length X0.bad = [] from badOf_nil _]
 refine Tr.bnd (Tr.condT rfl ?_)
 refine Tr.xCall (ct_cView c k F0 X0 F0_ok) ?_; rintro _ h ⟨a2,c2,rfl,o⟩ <;> (refine (?_ : Tr _ _ _ _) o; (try simp only[Nr,Nl,Nat.reduceAdd,Nat.reduceMul,Int.reduceToNat]))
 rw [x0_v]
 (repeat' first|refine Gu ?_|(with_reducible first|refine Gn fun b h=>?_|rintro px rfl|refine fun(h:H)=>?_|intro hb)|refine Gs ?_|refine Gt ?_|exact Gz rfl|fail)
 refine Tr.some fun o=>(?_ : Tr _ _ _ _) o; (try simp only[Nr,Nl,Nat.reduceAdd,Nat.reduceMul,Int.reduceToNat])
 refine Tr.some fun o=>?_
 exact ⟨rfl,o.sub⟩
end Go.EQ

set_option maxRecDepth 10000
namespace Go.EQ
open Go Go.NN
theorem bitA_24 (a : Int) : bitA .i64 a 16777215 = a % 16777216 := bitA_mask a 24 (by omega)
theorem bitA_63 (a : Int) : bitA .i64 a 63 = a % 64 := bitA_mask a 6 (by omega)
theorem fdivP : (∀ y : Int,Int.fdiv y 4 = y / 4) ∧ (∀ y : Int,Int.fdiv y 16 = y / 16) ∧ (∀ y : Int,Int.fdiv y 32 = y / 32) ∧ (∀ y : Int,Int.fdiv y 64 = y / 64) ∧ (∀ y : Int,Int.fdiv y 256 = y / 256) ∧ (∀ y : Int,Int.fdiv y 512 = y / 512) ∧ (∀ y : Int,Int.fdiv y 2048 = y / 2048) ∧ (∀ y : Int,Int.fdiv y 32768 = y / 32768) := by
 refine ⟨?_,?_,?_,?_,?_,?_,?_,?_⟩ <;> exact fun y=>Int.fdiv_eq_ediv_of_nonneg _ (by decide)
theorem tmodP {y m : Int} (h : 0 ≤ y) : Int.tmod y m = y % m := Int.tmod_eq_emod_of_nonneg h
theorem pw : ((2 : Int) ^ 4 = 16) ∧ ((2 : Int) ^ 5 = 32) ∧ ((2 : Int) ^ 8 = 256) ∧ ((2 : Int) ^ 11 = 2048) ∧ ((2 : Int) ^ 15 = 32768) ∧ ((2 : Int) ^ 2 = 4) ∧ ((2 : Int) ^ 6 = 64) ∧ ((2 : Int) ^ 9 = 512) := by decide
theorem pipe_fill (a b c d : Value) {t : List UInt8} (h : t.length ≤ 32) : a :: b :: c :: d :: (byteCells t ++ List.drop (4 + (byteCells t).length) (a :: b :: c :: d :: byteCells (List.replicate 32 0))) = a :: b :: c :: d :: byteCells (pad32 t) := by
 rw [bc_len,Nat.add_comm]
 simp [pad32,List.take_append,bc_app,List.take_of_length_le h,byteCells,List.drop_replicate,List.take_replicate]
 show List.drop _ (List.replicate 32 (Value.int .u8 0)) = List.take _ (List.replicate 32 (Value.int .u8 0))
 rw [List.drop_replicate,List.take_replicate]; congr 1; omega
theorem ct_aPipe (x : Int) (p : HP) (a : Option Addr) (ro : Bool) (n c : Nat) (l : List UInt8) [ks : IsSl p a ro Y_uint8 1 n c (byteCells l)] (hl : l.length = n) : Ct CALL F_law13_Pipe [int x,.slice a n c] [p] fun v own=>(∃ f,okP f = true ∧ v = .agg ⟨pipeL f⟩) ∧ own [p] := by
 refine Ct.of k_law13_Pipe rfl fun h r=>Tr.eq (e_law13_Pipe ..) ?_; (try simp only[Nr,Nl,Nat.reduceAdd,Nat.reduceMul,Int.reduceToNat])
 simp only [bitA_24,bitA_63,bitA_15,bitA_31,fdivP,pw]
 have hy : 0 ≤ x % 16777216 := by omega
 generalize x % 16777216 = y at hy
 rw [tmodP (show 0 ≤ y / 32 % 64 by omega),tmodP (show 0 ≤ y / 2048 % 16 by omega),tmodP (show 0 ≤ y / 32768 % 16 by omega)]
 refine Tr.nw fun b1 h=>?_
 refine Tr.nw fun b2 h=>?_
 (repeat' first|refine Gu ?_|(with_reducible first|refine Gn fun b h=>?_|apply Gx|apply Gy|rintro px rfl|refine fun(h:H)=>?_|intro hb)|refine Gs ?_|refine Gt ?_|exact Gz rfl|fail)
 refine Tr.xCellsP (xs := byteCells (l.take 32)) ⟨by omega,by
  rw [bc_take]; congr 1; rw [List.take_eq_take_iff]; omega⟩ ?_
 rw [show pCells (some (⟨b2,4,none⟩ : Addr)) = pAgg ⟨b2,4,none⟩ from rfl]
 obtain ⟨f,hf,e⟩ : ∃ f,okP f = true ∧ int (y % 32) :: int (y / 32 % 64 % 33) :: int (y / 2048 % 16 % 9) :: int (y / 32768 % 16 % 9) :: byteCells (pad32 (l.take 32)) = pipeL f := ⟨⟨y % 32,y / 32 % 64 % 33,y / 2048 % 16 % 9,y / 32768 % 16 % 9,pad32 (l.take 32),pad32_len _⟩,by
  simp only [okP,Bool.and_eq_true,decide_eq_true_eq]; omega,rfl⟩
 have h32 : (l.take 32).length ≤ 32 := by simp; omega
 have hb : (byteCells (l.take 32)).length ≤ 32 := by rw [bc_len]; exact h32
 refine Tr.xPAgg (cs' := pipeL f) ⟨by simp only [List.length_cons,List.length_nil]; omega,byteCells_one _,?_⟩ fun h=>?_
 ·rw [← e,← pipe_fill (int (y % 32)) (int (y / 32 % 64 % 33)) (int (y / 2048 % 16 % 9)) (int (y / 32768 % 16 % 9)) h32]
  rfl
 (repeat' first|refine Gu ?_|(with_reducible first|refine Gn fun b h=>?_|apply Gx|apply Gy|rintro px rfl|refine fun(h:H)=>?_|intro hb)|refine Gs ?_|refine Gt ?_|exact Gz rfl|fail)
 refine Tr.some fun o=>?_
 exact ⟨⟨f,hf,rfl⟩,o.sub⟩
end Go.EQ

set_option maxRecDepth 10000
namespace Go.EQ
open Go Go.NN
theorem b8_nat {x : Int} (h : 0 ≤ x ∧ x < 256) : ((b8 x).toNat : Int) = x := by rw [← b8_val,wrap8]; omega
theorem eqs_self : ∀ {xs : List Value},xs.all (fun v=>match v with | .int _ _=>true | _=>false) = true → eqs xs xs = some true
 | [],_=>rfl
 | .int k n :: xs,h=>by
  simp only [List.all_cons,Bool.true_and] at h
  simp [eqs,eq1,eqs_self h]
 | .bool _ :: _,h | .string _ :: _,h | .pointer _ :: _,h | .slice _ _ _ :: _,h | .map _ :: _,h | .agg _ :: _,h | .tuple _ :: _,h=>by simp at h
theorem fit_bytes : ∀ (l : List UInt8),fitL (List.replicate l.length (TypeDesc.int .u8)) (byteCells l) = true
 | []=>rfl
 | a :: l=>by
  have := fit_bytes l
  simp only [byteCells] at this ⊢
  simp only [List.length_cons,List.replicate_succ,List.map_cons,fitL,decide_true,this,Bool.and_self]
theorem eqP {α : Type} (p : PipeS) (k : Bool → Option α) : eqAgg PR Y_api_Pipe (pipeL p) (pipeL p) k = k true := by
 have e : leafs PR 8 Y_api_Pipe = some (.int .i64 :: .int .i64 :: .int .i64 :: .int .i64 :: List.replicate 32 (TypeDesc.int .u8)) := by kernel_rfl
 have f := fit_bytes p.data
 rw [p.len] at f
 have f2 : fitL (.int .i64 :: .int .i64 :: .int .i64 :: .int .i64 :: List.replicate 32 (TypeDesc.int .u8)) (pipeL p) = true := by
  simp only [pipeL,fitL,decide_true,f,Bool.and_self]
 have q : eqs (pipeL p) (pipeL p) = some true := eqs_self (by simp [pipeL,byteCells])
 rw [eqAgg,e]
 simp only [f2,q,Bool.and_self,ckB,cond_true,eqK]
theorem decP_enc {p : PipeS} (h : okP p = true) : decP (encP p) = (p,1) := by
 have hk := h
 simp only [okP,Bool.and_eq_true,decide_eq_true_eq] at h
 have e : getP (encP p) = p := by
  obtain ⟨a,b,c,d,l,hl⟩ := p
  simp only at h
  have h1 := b8_nat (x := a) (by omega); have h2 := b8_nat (x := b) (by omega); have h3 := b8_nat (x := c) (by omega); have h4 := b8_nat (x := d) (by omega)
  simp [getP,encP,headP,pad32_id hl]
  exact ⟨h1,h2,h3,h4⟩
 have hz : (encP p).all (· == 0) = false := by simp [encP,headP]
 unfold decP isP
 rw [hz,e,hk]
 simp
theorem Own.cmLay {r : List HP} {h : H} {c k : Nat} {F : Fr} {X : CX} (o1 : Own h (cmC c k F X :: r)) : Fit F.S.mem.length F.rg X.m ∧ Own h (kernC k (F.at X.m) :: comC c k F.env F.caps X.bad :: r) := by
 obtain ⟨u,o2⟩ := Own.ex (f := fun u : Unit=>sl (cmF c k F X)) o1
 have o3 : Own h (kernC k (F.at X.m) :: comC c k F.env F.caps X.bad :: pu (Fit F.S.mem.length F.rg X.m) :: r) := Own.join o2
 exact ⟨(o3.front (i := 2) rfl).pure,(o3.front (i := 2) rfl).tail⟩
theorem slice_splice_out {l b : List UInt8} {a c n : Nat} (h : a + b.length ≤ l.length) (hd : c + n ≤ a ∨ a + b.length ≤ c) : slice (splice l a b) c n = slice l c n := by
 refine List.ext_getElem? fun i=>?_
 rw [slice_get,slice_get]
 split
 ·rw [splice_get h,if_neg (by omega)]
 ·rfl
theorem slice_splice_in {l b : List UInt8} {a : Nat} (h : a + b.length ≤ l.length) : slice (splice l a b) a b.length = b := by
 refine List.ext_getElem? fun i=>?_
 rw [slice_get]
 split
 ·rw [splice_get h,if_pos (by omega)]; congr 1; omega
 ·rw [List.getElem?_eq_none (by omega)]
theorem slice_slice {l : List UInt8} {a n c m : Nat} (h : c + m ≤ n) : slice (slice l a n) c m = slice l (a + c) m := by
 refine List.ext_getElem? fun i=>?_
 rw [slice_get,slice_get l (a + c)]
 split
 ·rw [slice_get,if_pos (by omega),Nat.add_assoc]
 ·rfl
def loB (i : Int) : Nat := if i = 4 then 512 else 1856
abbrev memB (S : KS) (i : Int) (p : PipeS) : KS := putMem S (splice S.mem (loB i) (encP p))
theorem memB_like {S : KS} (k : Like S) (i : Int) (p : PipeS) : Like (memB S i p) := like_put k (by
 rw [splice_len]; exact k.mem
 rw [encP_len p.len,k.mem]; unfold loB; split <;> omega)
theorem cutM_getD {mem : List UInt8} {rg : Rg} {j lo n : Nat} (h : rg[j]? = some (lo,n)) : (cutM mem rg).getD j [] = slice mem lo n := by rw [List.getD_eq_getElem?_getD,cutM_get h]; rfl
theorem bridge_set {S : KS} (k : Like S) {s : Nat} {env : Int} (e : EnvP s env) {j lo : Nat} (h : (rgP s)[j]? = some (lo,40)) {b : List UInt8} (hb : b.length = 40) :
  (frP S s env).at ((cutM S.mem (rgP s)).set j (splice ((cutM S.mem (rgP s)).getD j []) 0 b)) = putMem S (splice S.mem lo b) := by
 have F := frP_ok k e
 have hr := frP_room k e.hs env
 have f := cutM_fit (mem := S.mem) (rg := rgP s) hr
 have hx : (cutM S.mem (rgP s))[j]? = some ((cutM S.mem (rgP s)).getD j []) := by rw [cutM_getD h,cutM_get h]
 have q := pour_splice f F.dj h hx (a := 0) (b := b) (by omega)
 unfold Fr.at
 show putMem S (pour S.mem (rgP s) _) = _
 have pc : pour S.mem (rgP s) (cutM S.mem (rgP s)) = S.mem := pour_cut F.dj hr
 rw [← q,pc]; rfl
theorem placeB {i : Int} (hi : i = 4 ∨ i = 5) : placeX 3 ⟨3,i⟩ = some (i.toNat - 3,0,40) := by rcases hi with rfl | rfl <;> rfl
theorem rgB {i : Int} (hi : i = 4 ∨ i = 5) (s : Nat) : (rgP s)[i.toNat - 3]? = some (loB i,40) := by rcases hi with rfl | rfl <;> rfl
abbrev capsP : List Int := [256,257,258]
theorem ct_putB (c k : Nat) {S : KS} (kS : Like S) {s : Nat} {env : Int} (e : EnvP s env) {i : Int} (hi : i = 4 ∨ i = 5) {p : PipeS} (hp : okP p = true) :
  Ct CALL F_commons_Commons_SetPipe [P0 c,int i,.agg ⟨pipeL p⟩] [kernC k S,comC c k env capsP []] fun v own=>v = .bool true ∧ own [kernC k (memB S i p),comC c k env capsP []] := by
 intro h r o
 have o1 := Own.cmTake c k (frP S s env) [] (frP_ok kS e) (frP_room kS e.hs env) o
 obtain ⟨v,h',e1,hv,o2⟩ := ct_cSetPipe c k (frP S s env) ⟨cutM S.mem (rgP s),[]⟩ (frP_ok kS e) i p h r o1
 have ew : setPipeX ⟨cutM S.mem (rgP s),[]⟩ i p = (true,⟨(cutM S.mem (rgP s)).set (i.toNat - 3) (splice ((cutM S.mem (rgP s)).getD (i.toNat - 3) []) 0 (encP p)),[]⟩) := by
  unfold setPipeX wrX
  rw [show (cutM S.mem (rgP s)).length = 3 from rfl,placeB hi,hp]
  rfl
 rw [ew] at hv o2
 obtain ⟨_,o3⟩ := Own.cmLay o2
 have eb := bridge_set kS e (rgB hi s) (b := encP p) (encP_len p.len)
 refine ⟨v,h',e1,hv,?_⟩
 have o4 : Own h' (kernC k ((frP S s env).at ((cutM S.mem (rgP s)).set (i.toNat - 3) (splice ((cutM S.mem (rgP s)).getD (i.toNat - 3) []) 0 (encP p)))) :: comC c k env capsP [] :: r) := o3
 rw [eb] at o4
 exact o4
theorem ct_seeB (c k : Nat) {S : KS} (kS : Like S) {s : Nat} {env : Int} (e : EnvP s env) {i : Int} {v0 : PipeS × Int} (hr : pipeX ⟨cutM S.mem (rgP s),[]⟩ i = (v0,⟨cutM S.mem (rgP s),[]⟩)) :
  Ct CALL F_commons_Commons_Pipe [P0 c,int i] [kernC k S,comC c k env capsP []] fun v own=>v = .tuple ⟨[.agg ⟨pipeL v0.1⟩,int v0.2]⟩ ∧ own [kernC k S,comC c k env capsP []] := by
 intro h r o
 have o1 := Own.cmTake c k (frP S s env) [] (frP_ok kS e) (frP_room kS e.hs env) o
 obtain ⟨v,h',e1,hv,o2⟩ := ct_cPipe c k (frP S s env) ⟨cutM S.mem (rgP s),[]⟩ (frP_ok kS e) i h r o1
 rw [hr] at hv o2
 obtain ⟨_,o3⟩ := Own.cmLay o2
 refine ⟨v,h',e1,hv,?_⟩
 have o4 : Own h' (kernC k ((frP S s env).at (cutM (frP S s env).S.mem (frP S s env).rg)) :: comC c k env capsP [] :: r) := o3
 rw [Fr.at_cut (frP_ok kS e) (frP_room kS e.hs env)] at o4
 exact o4
theorem pipeB {mem : List UInt8} {s : Nat} {i : Int} (hi : i = 4 ∨ i = 5) {p : PipeS} (hp : okP p = true) (hm : slice mem (loB i) 40 = encP p) : pipeX ⟨cutM mem (rgP s),[]⟩ i = ((p,1),⟨cutM mem (rgP s),[]⟩) := by
 have hrd : rdX ⟨cutM mem (rgP s),[]⟩ ⟨3,i⟩ = some (encP p) := by
  unfold rdX
  rw [show (cutM mem (rgP s)).length = 3 from rfl,placeB hi]
  simp only [List.not_mem_nil,if_false]
  rw [cutM_getD (rgB hi s),slice_slice (by omega),Nat.add_zero,hm]
 unfold pipeX recX
 rw [hrd]
 simp only [decP_enc hp]
 rfl
theorem pipe6 (mem : List UInt8) (s : Nat) : pipeX ⟨cutM mem (rgP s),[]⟩ 6 = ((.zero,2),⟨cutM mem (rgP s),[]⟩) := rfl
theorem pipe0 {mem : List UInt8} (hm : slice mem 1568 40 = List.replicate 40 0) : pipeX ⟨cutM mem (rgP 1),[]⟩ 0 = ((.zero,0),⟨cutM mem (rgP 1),[]⟩) := by
 have hrd : rdX ⟨cutM mem (rgP 1),[]⟩ ⟨3,0⟩ = some (List.replicate 40 0) := by
  show some (slice ((cutM mem (rgP 1)).getD 0 []) 288 40) = _
  rw [cutM_getD (lo := 1280) (n := 492) rfl,slice_slice (by omega),hm]
 unfold pipeX recX
 rw [hrd]
 rfl
theorem cb_R1 (k bp cs cg c o : Nat) {S : KS} (kS : Like S) {s1 s2 : Nat} {env1 env2 : Int} (es : EnvP s1 env1) (eg : EnvP s2 env2) (first : Bool) {p : PipeS} (hp : okP p = true) {i : Int} (hi : i = 4 ∨ i = 5) (Φ : Value → (List HP → Prop) → Prop)
  (next : CtJ JUMP F_law15_CommonsBridges T_law15_CommonsBridges_L1 [(2,.bool first),(8,P0 c),(11,P0 o),(13,P0 bp),(14,int (i + 1))] [pt bp (.cells Y_api_Pipe false (pipeL p)),kernC k (memB S i p),comC cs k env1 capsP [],comC cg k env2 capsP []] Φ) :
  CtJ JUMP F_law15_CommonsBridges T_law15_CommonsBridges_R1 [(2,.bool first),(8,P0 c),(11,P0 o),(13,P0 bp),(14,int i),(15,P0 cs),(16,P0 cg)] [pt bp (.cells Y_api_Pipe false (pipeL p)),kernC k S,comC cs k env1 capsP [],comC cg k env2 capsP []] Φ := by
 have e1 : IntKind.wrap .i64 (i + 1) = i + 1 := by rw [wrap_eq]; omega
 have hm : slice (memB S i p).mem (loB i) 40 = encP p := by
  have := slice_splice_in (l := S.mem) (b := encP p) (a := loB i) (by rw [encP_len p.len,kS.mem]; unfold loB; split <;> omega)
  rwa [encP_len p.len] at this
 refine CtJ.of k_law15_CommonsBridges fun h r=>Tr.eq (e_law15_CommonsBridges_R1 ..) ?_; (try simp only[Nr,Nl,Nat.reduceAdd,Nat.reduceMul,Int.reduceToNat])
 (repeat' first|refine Gu ?_|(with_reducible first|refine Gn fun b h=>?_|apply Gx|apply Gy|rintro px rfl|refine fun(h:H)=>?_|intro hb)|refine Gs ?_|refine Gt ?_|exact Gz rfl|fail)
 refine Tr.xCall (ct_putB cs k kS es hi hp) ?_; rintro _ h ⟨rfl,o⟩ <;> (refine (?_ : Tr _ _ _ _) o; (try simp only[Nr,Nl,Nat.reduceAdd,Nat.reduceMul,Int.reduceToNat]); (repeat' first|refine Gu ?_|(with_reducible first|refine Gn fun b h=>?_|apply Gx|apply Gy|rintro px rfl|refine fun(h:H)=>?_|intro hb)|refine Gs ?_|refine Gt ?_|exact Gz rfl|fail))
 refine Tr.xCall (ct_seeB cg k (memB_like kS i p) eg (pipeB hi hp hm)) ?_; rintro _ h ⟨rfl,o⟩ <;> (refine (?_ : Tr _ _ _ _) o; (try simp only[Nr,Nl,Nat.reduceAdd,Nat.reduceMul,Int.reduceToNat]))
 (repeat' first|refine Gu ?_|(with_reducible first|refine Gn fun b h=>?_|rintro px rfl|refine fun(h:H)=>?_|intro hb)|refine Gs ?_|refine Gt ?_|exact Gz rfl|fail)
 refine Tr.bnd (Tr.condF rfl ?_)
 (repeat' first|refine Gu ?_|(with_reducible first|refine Gn fun b h=>?_|rintro px rfl|refine fun(h:H)=>?_|intro hb)|refine Gs ?_|refine Gt ?_|exact Gz rfl|fail)
 rw [eqP]
 refine Tr.some fun o=>(?_ : Tr _ _ _ _) o; (try simp only[Nr,Nl,Nat.reduceAdd,Nat.reduceMul,Int.reduceToNat])
 refine Tr.condF rfl ?_
 rw [e1]
 refine tr_order [4,1,2,1] 1 rfl rfl ?_
 refine Tr.xRun next ?_
 intro v h q
 exact q
theorem mem0_own : slice S0.mem 1568 40 = List.replicate 40 0 := by kernel_rfl
theorem pub_mem (S : KS) (i : Int) (p : PipeS) (k : Like S) (hm : slice S.mem 1568 40 = List.replicate 40 0) : slice (memB S i p).mem 1568 40 = List.replicate 40 0 := by
 rw [← hm]
 exact slice_splice_out (by rw [encP_len p.len,k.mem]; unfold loB; split <;> omega) (by rw [encP_len p.len]; unfold loB; split <;> omega)
theorem cb_end (k bp c d : Nat) {S : KS} (kS : Like S) (hm : slice S.mem 1568 40 = List.replicate 40 0) (first : Bool) (p : PipeS) :
  CtJ JUMP F_law15_CommonsBridges T_law15_CommonsBridges_L1 [(2,.bool first),(8,P0 c),(11,P0 d),(13,P0 bp),(14,int 6)] [pt bp (.cells Y_api_Pipe false (pipeL p)),kernC k S,comC c k 0 capsP [],comC d k 9 capsP []] fun v own=>v = .bool true ∧ own [] := by
 refine CtJ.of k_law15_CommonsBridges fun h r=>Tr.eq (e_law15_CommonsBridges_L1 ..) ?_; (try simp only[Nr,Nl,Nat.reduceAdd,Nat.reduceMul,Int.reduceToNat])
 refine Tr.condF (by simp) ?_
 refine Tr.xCall (ct_seeB c k kS env0 (pipe6 S.mem 0)) ?_; rintro _ h ⟨rfl,o⟩ <;> (refine (?_ : Tr _ _ _ _) o; (try simp only[Nr,Nl,Nat.reduceAdd,Nat.reduceMul,Int.reduceToNat]))
 (repeat' first|refine Gu ?_|(with_reducible first|refine Gn fun b h=>?_|rintro px rfl|refine fun(h:H)=>?_|intro hb)|refine Gs ?_|refine Gt ?_|exact Gz rfl|fail)
 refine Tr.xCall (ct_seeB d k kS env9 (pipe0 hm)) ?_; rintro _ h ⟨rfl,o⟩ <;> (refine (?_ : Tr _ _ _ _) o; (try simp only[Nr,Nl,Nat.reduceAdd,Nat.reduceMul,Int.reduceToNat]))
 (repeat' first|refine Gu ?_|(with_reducible first|refine Gn fun b h=>?_|rintro px rfl|refine fun(h:H)=>?_|intro hb)|refine Gs ?_|refine Gt ?_|exact Gz rfl|fail)
 refine Tr.bnd (Tr.condT rfl ?_)
 refine Tr.some fun o=>(?_ : Tr _ _ _ _) o; (try simp only[Nr,Nl,Nat.reduceAdd,Nat.reduceMul,Int.reduceToNat])
 refine Tr.bnd (Tr.condT rfl ?_)
 refine Tr.xCall (ct_cBad c k 0 capsP [] (by simp)) ?_; rintro _ h ⟨a1,c1,rfl,o⟩ <;> (refine (?_ : Tr _ _ _ _) o; (try simp only[Nr,Nl,Nat.reduceAdd,Nat.reduceMul,Int.reduceToNat]))
 (repeat' first|refine Gu ?_|(with_reducible first|refine Gn fun b h=>?_|rintro px rfl|refine fun(h:H)=>?_|intro hb)|refine Gs ?_|refine Gt ?_|exact Gz rfl|fail)
 refine Tr.some fun o=>(?_ : Tr _ _ _ _) o; (try simp only[Nr,Nl,Nat.reduceAdd,Nat.reduceMul,Int.reduceToNat])
 rw [show badOf capsP.length [] = [] from badOf_nil _]
 refine Tr.bnd (Tr.condT rfl ?_)
 refine Tr.xCall (ct_awake15) ?_; rintro _ h ⟨rfl,o⟩ <;> (refine (?_ : Tr _ _ _ _) o; (try simp only[Nr,Nl,Nat.reduceAdd,Nat.reduceMul,Int.reduceToNat]))
 (repeat' first|refine Gu ?_|(with_reducible first|refine Gn fun b h=>?_|rintro px rfl|refine fun(h:H)=>?_|intro hb)|refine Gs ?_|refine Gt ?_|exact Gz rfl|fail)
 refine Tr.some fun o=>(?_ : Tr _ _ _ _) o; (try simp only[Nr,Nl,Nat.reduceAdd,Nat.reduceMul,Int.reduceToNat])
 refine Tr.some fun o=>?_
 refine ⟨rfl,?_⟩
 exact o.tail.tail.tail.tail.tail.tail.tail
theorem cb_L1 (k bp c d : Nat) {S : KS} (kS : Like S) (first : Bool) {p : PipeS} (hp : okP p = true) {i : Int} (hi : i = 4 ∨ i = 5) (Φ : Value → (List HP → Prop) → Prop)
  (next : CtJ JUMP F_law15_CommonsBridges T_law15_CommonsBridges_L1 [(2,.bool first),(8,P0 c),(11,P0 d),(13,P0 bp),(14,int (i + 1))] [pt bp (.cells Y_api_Pipe false (pipeL p)),kernC k (memB S i p),comC c k 0 capsP [],comC d k 9 capsP []] Φ) :
  CtJ JUMP F_law15_CommonsBridges T_law15_CommonsBridges_L1 [(2,.bool first),(8,P0 c),(11,P0 d),(13,P0 bp),(14,int i)] [pt bp (.cells Y_api_Pipe false (pipeL p)),kernC k S,comC c k 0 capsP [],comC d k 9 capsP []] Φ := by
 refine CtJ.of k_law15_CommonsBridges fun h r=>Tr.eq (e_law15_CommonsBridges_L1 ..) ?_; (try simp only[Nr,Nl,Nat.reduceAdd,Nat.reduceMul,Int.reduceToNat])
 refine Tr.condT (by simp; omega) ?_
 cases first with
 | true =>
  refine Tr.condT rfl ?_
  refine tr_runI (cb_R1 k bp d c c d kS env9 env0 true hp hi Φ fun h r o=>next h r (o.picks [0,0,1,0] rfl)) [0,0,1,0] rfl ?_
  intro v h q
  exact q
 | false =>
  refine Tr.condF rfl ?_
  refine tr_runI (cb_R1 k bp c d c d kS env0 env9 false hp hi Φ next) [0,0,0,0] rfl ?_
  intro v h q
  exact q
theorem caps9 : spNames S0.tabs 9 = capsP := by kernel_rfl
theorem ct_CommonsBridges (x : Int) (first : Bool) (p : HP) (a : Option Addr) (ro : Bool) (cc : Nat) (l : List UInt8) [ks : IsSl p a ro Y_uint8 1 l.length cc (byteCells l)] :
  Ct CALL F_law15_CommonsBridges [int x,.slice a l.length cc,.bool first] [p] fun v own=>v = .bool true ∧ own [] := by
 refine Ct.of k_law15_CommonsBridges rfl fun h r=>Tr.eq (e_law15_CommonsBridges ..) ?_; (try simp only[Nr,Nl,Nat.reduceAdd,Nat.reduceMul,Int.reduceToNat])
 by_cases h60 : l.length > 60
 ·refine Tr.condT (by simp; omega) ?_
  refine Tr.xCall (ct_awake15) ?_; rintro _ h ⟨rfl,o⟩ <;> (refine (?_ : Tr _ _ _ _) o; (try simp only[Nr,Nl,Nat.reduceAdd,Nat.reduceMul,Int.reduceToNat]))
  (repeat' first|refine Gu ?_|(with_reducible first|refine Gn fun b h=>?_|apply Gx|apply Gy|rintro px rfl|refine fun(h:H)=>?_|intro hb)|refine Gs ?_|refine Gt ?_|exact Gz rfl|fail)
  refine Tr.some fun o=>?_
  exact ⟨rfl,o.tail⟩
 refine Tr.condF (by simp; omega) ?_
 refine Tr.xCall (ct_lPlan) ?_; rintro _ h ⟨A,rfl,o⟩ <;> (refine (?_ : Tr _ _ _ _) o; (try simp only[Nr,Nl,Nat.reduceAdd,Nat.reduceMul,Int.reduceToNat]))
 (repeat' first|refine Gu ?_|(with_reducible first|refine Gn fun b h=>?_|apply Gx|apply Gy|rintro px rfl|refine fun(h:H)=>?_|intro hb)|refine Gs ?_|refine Gt ?_|exact Gz rfl|fail)
 refine Tr.xCall (ct_OpenX A) ?_
 rintro _ h ⟨k,c,w,m,rfl,o⟩
 refine (?_ : Tr _ _ _ _) o
 (try simp only[Nr,Nl,Nat.reduceAdd,Nat.reduceMul,Int.reduceToNat])
 (repeat' first|refine Gu ?_|(with_reducible first|refine Gn fun b h=>?_|apply Gx|apply Gy|rintro px rfl|refine fun(h:H)=>?_|intro hb)|refine Gs ?_|refine Gt ?_|exact Gz rfl|fail)
 refine tr_lay c k F0 X0 fun f=>?_
 rw [show F0.at X0.m = S0 from Fr.at_cut F0_ok (frP_room like0 (by omega) 0)]
 refine Tr.xCall (ct_cNew k S0 0 like0.ok 9) ?_
 rintro v h (⟨hz,d,rfl,o⟩ | ⟨hz,rfl,o⟩)
 case inr=>exact absurd hz (by rw [caps9]; simp)
 rw [caps9] at o
 refine (?_ : Tr _ _ _ _) o
 (try simp only[Nr,Nl,Nat.reduceAdd,Nat.reduceMul,Int.reduceToNat])
 (repeat' first|refine Gu ?_|(with_reducible first|refine Gn fun b h=>?_|rintro px rfl|refine fun(h:H)=>?_|intro hb)|refine Gs ?_|refine Gt ?_|exact Gz rfl|fail)
 refine Tr.bnd (Tr.condF rfl ?_)
 refine Tr.some fun o=>(?_ : Tr _ _ _ _) o; (try simp only[Nr,Nl,Nat.reduceAdd,Nat.reduceMul,Int.reduceToNat])
 refine Tr.condF rfl ?_
 refine Tr.xCall (ct_aPipe x p a ro l.length cc l rfl) ?_; rintro _ h ⟨⟨g,hg,rfl⟩,o⟩ <;> (refine (?_ : Tr _ _ _ _) o; (try simp only[Nr,Nl,Nat.reduceAdd,Nat.reduceMul,Int.reduceToNat]))
 refine Tr.dx ?_
 refine Tr.nw fun bp h=>?_
 (repeat' first|refine Gu ?_|(with_reducible first|refine Gn fun b h=>?_|apply Gx|apply Gy|rintro px rfl|refine fun(h:H)=>?_|intro hb)|refine Gs ?_|refine Gt ?_|exact Gz rfl|fail)
 have l1 := memB_like like0 4 g
 have l2 := memB_like l1 5 g
 have hm := pub_mem _ 5 g l1 (pub_mem S0 4 g like0 mem0_own)
 refine tr_runI (cb_L1 k bp c d like0 first hg (i := 4) (.inl rfl) _ (cb_L1 k bp c d l1 first hg (i := 5) (.inr rfl) _ (cb_end k bp c d l2 hm first g))) [0,2,2,1] rfl ?_
 intro v h q
 exact ⟨q.1,q.2.tail.tail.tail⟩
end Go.EQ

set_option maxRecDepth 100000
namespace Go.EQ
open Go Go.NN Go.Proofs Go.ChangeShapes Go.WideShapes Go.RowKit
theorem noGlobs : ∀ f,(cutsOf f).globs = 0 := cutsAt_globs cutsL (by kernel_rfl)
theorem globsOk : ∀ f,(cutsOf f).globs ≤ PR.globals.size := fun f=>by rw [noGlobs f]; exact Nat.zero_le _
theorem mixedOk : PR.follows .mixedOrders = true := by kernel_rfl
theorem laidOk : laidOutB PR = true := by kernel_rfl
theorem ownOk : ownKnob PR.godebug = none := by kernel_rfl
end Go.EQ

set_option maxRecDepth 100000
namespace Go.EQ
open Go Go.NN Go.Proofs Go.Proofs.YthhmplobccgeiaaGreat Go.ChangeShapes Go.WideShapes Go.RowKit
theorem brCalls {H : Type} {enc : TypeId × Value → H} {W : World} {v0 v1 v2 : Value} {d0 d1 d2 : DataW H} {p0 p1 p2 : List MemPlace} {b0 : Nat} (k0 : Value.okWide PR W .any b0 Y_int v0) (k1 : Value.okWide PR W .any b0 Y_s_uint8 v1) (k2 : Value.okWide PR W .any b0 Y_bool v2)
  (h0 : DataW.Trod enc PR W 0 (fun _=>true) true Y_int v0 d0 p0) (h1 : DataW.Trod enc PR W 0 (fun _=>true) true Y_s_uint8 v1 d1 p1) (h2 : DataW.Trod enc PR W 0 (fun _=>true) true Y_bool v2 d2 p2) :
  Calls PR F_law15_CommonsBridges #[v0,v1,v2] W fun e W'=>e = .returned (.bool true) ∧ Below W.heap.size W W' := by
 obtain ⟨x,_,i0⟩ := ImpT.argInt u_int k0 h0
 obtain ⟨l,hl,i1⟩ := (ImpT.bytes (P := PR) (W := W) Y_uint8 u_s_uint8 u_uint8 (by kernel_rfl)).arg (cells_slice u_s_uint8 k1) h1
 obtain ⟨b,rfl,_⟩ := open_bool u_bool k2 h2
 have i2 : Imp PR W [.bool b] fun vs qs=>vs = [.bool b] ∧ qs = [] := Imp.flat (by simp [flat1])
 refine (i0.app (i1.app i2)).run mixedOk globsOk fun vs ps J hh r o=>?_
 obtain ⟨_,_,_,_,hv,hp,⟨e1,e2⟩,_,_,_,_,e3,e4,⟨⟨a,c⟩,e5,e6⟩,e7,e8⟩ := J
 subst e1 e2 e5 e6 e7 e8 e3 e4 hv hp
 obtain ⟨v,h',e,rfl,_⟩ := ct_CommonsBridges x b (slC true Y_uint8 1 a l.length c (byteCells l)) a true c l hh r o
 exact ⟨h',e⟩
theorem brLifted (os : Os) (started : os.Started) (H : Type) (enc : TypeId × Value → H) :
  ReturnsInHanded {} Tryz.checked os F_law15_CommonsBridges .any (Rows.commonsBridgesSpec.pre6 enc Tryz.prog Tryz.f3 Rows.commonsBridgesRow.domain false) (Rows.commonsBridgesSpec.post enc Tryz.prog Tryz.f3 false true false false) := by
 refine returnsInHanded_of_change (C := Tryz.checked) ownOk started (by kernel_rfl) Tryz.func3
  (ChangeSpec.witness6 (enc := enc) (C := Tryz.checked) false ⟨#[],#[.int .i64 0,.slice none 0 0,.bool false],[]⟩ 8 (by kernel_rfl) (by kernel_rfl) (by kernel_rfl) (by kernel_rfl)) ?_
 intro W base args ds gs before hval hW hcnd _
 have hW' := hW
 obtain ⟨p,q,hA,hV,rfl,hfz,hnd⟩ := hW
 rw [Tryz.params3] at hA hval
 obtain ⟨v0,v1,v2,d0,d1,d2,p0,p1,p2,rfl,rfl,rfl,h0,h1,h2⟩ := trodAll_three hA
 refine (brCalls (hval 0 _ v0 rfl rfl) (hval 1 _ v1 rfl rfl) (hval 2 _ v2 rfl rfl) h0 h1 h2).mono fun e W' ⟨he,hb⟩=>?_
 subst he
 refine ⟨_,rfl,post_true laidOk ?_ rfl u_bool rfl (fun ds gs hl=>?_) hW' hb⟩
 ·rw [Tryz.params3]; intro t ht; simp at ht; rcases ht with rfl | rfl | rfl <;> exact ⟨by kernel_rfl,of_decide_eq_true (by kernel_rfl)⟩
 ·replace hl : ds.length = 3 := hl
  cases gs with
  | cons _ _=>exact .inr (by simp)
  | nil=>match ds,hl with | [_,_,_],_=>exact .inl rfl
theorem CommonsBridges_holds : Rows.CommonsBridgesSaid :=
 OpenClaim.holds_of_wide F_law15_CommonsBridges Tryz.f3 rfl rfl rfl rfl rfl rfl rfl ⟨rfl,rfl,rfl,rfl,rfl⟩ rfl rfl rfl rfl rfl (by kernel_rfl) Tryz.func3 (by kernel_rfl)
  (of_decide_eq_true (by kernel_rfl)) (by unfold Func.isWrapper; first | (rw [if_pos (by decide +kernel)]; kernel_rfl) | (rw [if_neg (by decide +kernel)]; exact ⟨rfl,rfl⟩))
  (fun os started H enc _=>brLifted os started H enc)
end Go.EQ

/- The commons: a record written moves no byte but its own -/
import Derived.Test.YthhmplobccgeiaaGreatMg
import Derived.KernelRfl
import Derived.Test.YthhmplobccgeiaaGreatRows
set_option linter.unusedVariables false
set_option linter.unusedSimpArgs false
set_option linter.unusedSectionVars false
set_option maxRecDepth 10000
namespace Go.EQ
open Go Go.NN
theorem ct_kSpaceP (k : Nat) (S : KS) (A : KA) : CtP CALL F_kern_Kern_Space [P0 k] [pt k (.cells Y_kern_Kern false (kernL S A))] (P0 A.s) := by
 refine CtP.of k_kern_Kern_Space rfl fun h r=>Tr.eq (e_kern_Kern_Space ..) ?_; (try simp only[Nr,Nl,Nat.reduceAdd,Nat.reduceMul,Int.reduceToNat])
 (repeat' first|refine Gu ?_|(with_reducible first|refine Gn fun b h=>?_|apply Gx|apply Gy|rintro px rfl|refine fun(h:H)=>?_|intro hb)|refine Gs ?_|refine Gt ?_|exact Gz rfl|fail)
theorem ct_cNew (k : Nat) (S : KS) (N : Nat) (ok : KOk N S) (env : Int) : Ct CALL F_commons_New [P0 k,int env] [kernC k S] fun v own =>
  (spNames S.tabs env ≠ [] ∧ ∃ c,v = .tuple ⟨[P0 c,int 0]⟩ ∧ own [comC c k env (spNames S.tabs env) [],kernC k S]) ∨ (spNames S.tabs env = [] ∧ v = .tuple ⟨[.pointer none,int 1]⟩ ∧ own [kernC k S]) := by
 refine Ct.of k_commons_New rfl fun h r=>Tr.eq (e_commons_New ..) ?_; (try simp only[Nr,Nl,Nat.reduceAdd,Nat.reduceMul,Int.reduceToNat])
 refine tr_open (kernC k S) fun ⟨m,s,q,rg,ea,ec,ma,mc,ms,sa,sc,ss⟩=>?_; (try simp only[Nr,Nl,Nat.reduceAdd,Nat.reduceMul,Int.reduceToNat])
 (repeat' first|refine Gu ?_|(with_reducible first|refine Gn fun b h=>?_|rintro px rfl|refine fun(h:H)=>?_|intro hb)|refine Gs ?_|refine Gt ?_|exact Gz rfl|fail)
 refine Tr.bnd (Tr.condF rfl ?_)
 refine Tr.pcall (ct_kSpaceP k S ⟨m,s,q,rg,ea,ec,ma,mc,ms,sa,sc,ss⟩) ?_; (try simp only[Nr,Nl,Nat.reduceAdd,Nat.reduceMul,Int.reduceToNat]); (repeat' first|refine Gu ?_|(with_reducible first|refine Gn fun b h=>?_|apply Gx|apply Gy|rintro px rfl|refine fun(h:H)=>?_|intro hb)|refine Gs ?_|refine Gt ?_|exact Gz rfl|fail)
 try dsimp only
 refine Tr.xCall (ct_spNames s S.tabs env ok.space) ?_; rintro _ h ⟨a0,c0,rfl,o⟩ <;> (refine (?_ : Tr _ _ _ _) o; (try simp only[Nr,Nl,Nat.reduceAdd,Nat.reduceMul,Int.reduceToNat]))
 (repeat' first|refine Gu ?_|(with_reducible first|refine Gn fun b h=>?_|apply Gx|apply Gy|rintro px rfl|refine fun(h:H)=>?_|intro hb)|refine Gs ?_|refine Gt ?_|exact Gz rfl|fail)
 refine Tr.some fun o=>(?_ : Tr _ _ _ _) o; (try simp only[Nr,Nl,Nat.reduceAdd,Nat.reduceMul,Int.reduceToNat])
 by_cases hz : spNames S.tabs env = []
 ·refine Tr.condT (by simp [hz]) ?_
  refine tr_fold (kernC k S) ⟨m,s,q,rg,ea,ec,ma,mc,ms,sa,sc,ss⟩ ?_; (try simp only[Nr,Nl,Nat.reduceAdd,Nat.reduceMul,Int.reduceToNat])
  refine Tr.some fun o=>?_
  exact .inr ⟨hz,rfl,o.sub⟩
 ·refine Tr.condF ?_ ?_
  ·rw [beq_eq_false_iff_ne]
   intro h0
   exact hz (List.eq_nil_of_length_eq_zero (by omega))
  refine Tr.pcall (ct_kSpaceP k S ⟨m,s,q,rg,ea,ec,ma,mc,ms,sa,sc,ss⟩) ?_; (try simp only[Nr,Nl,Nat.reduceAdd,Nat.reduceMul,Int.reduceToNat]); (repeat' first|refine Gu ?_|(with_reducible first|refine Gn fun b h=>?_|apply Gx|apply Gy|rintro px rfl|refine fun(h:H)=>?_|intro hb)|refine Gs ?_|refine Gt ?_|exact Gz rfl|fail)
  try dsimp only
  refine Tr.xCall (ct_spNames s S.tabs env ok.space) ?_; rintro _ h ⟨a1,c1,rfl,o⟩ <;> (refine (?_ : Tr _ _ _ _) o; (try simp only[Nr,Nl,Nat.reduceAdd,Nat.reduceMul,Int.reduceToNat]))
  (repeat' first|refine Gu ?_|(with_reducible first|apply Gx|apply Gy|rintro px rfl|refine fun(h:H)=>?_|intro hb)|refine Gs ?_|refine Gt ?_|exact Gz rfl|fail)
  refine Tr.nw fun mb h=>?_
  refine Tr.nw fun c h=>?_
  refine tr_fold (kernC k S) ⟨m,s,q,rg,ea,ec,ma,mc,ms,sa,sc,ss⟩ ?_; (try simp only[Nr,Nl,Nat.reduceAdd,Nat.reduceMul,Int.reduceToNat])
  refine tr_foldI (comC c k env (spNames S.tabs env) []) (a1,c1,mb) [1,2,1] rfl ?_; (try simp only[Nr,Nl,Nat.reduceAdd,Nat.reduceMul,Int.reduceToNat])
  refine Tr.some fun o=>?_
  exact .inl ⟨hz,c,rfl,o.sub⟩
theorem ct_cNew0 (env : Int) : Ct CALL F_commons_New [.pointer none,int env] [] fun v own=>v = .tuple ⟨[.pointer none,int 1]⟩ ∧ own [] := by
 refine Ct.of k_commons_New rfl fun h r=>Tr.eq (e_commons_New ..) ?_; (try simp only[Nr,Nl,Nat.reduceAdd,Nat.reduceMul,Int.reduceToNat])
 (repeat' first|refine Gu ?_|(with_reducible first|refine Gn fun b h=>?_|rintro px rfl|refine fun(h:H)=>?_|intro hb)|refine Gs ?_|refine Gt ?_|exact Gz rfl|fail)
 refine Tr.bnd (Tr.condT rfl ?_)
 refine Tr.some fun o=>(?_ : Tr _ _ _ _) o; (try simp only[Nr,Nl,Nat.reduceAdd,Nat.reduceMul,Int.reduceToNat])
 (repeat' first|refine Gu ?_|(with_reducible first|refine Gn fun b h=>?_|apply Gx|apply Gy|rintro px rfl|refine fun(h:H)=>?_|intro hb)|refine Gs ?_|refine Gt ?_|exact Gz rfl|fail)
 refine Tr.some fun o=>?_
 exact ⟨rfl,o.sub⟩
def planP : PlanS := ⟨[false,false],[(0,1),(1,0)],5⟩
theorem ct_lPlan : Ct CALL F_law15_Plan [] [] fun v own=>∃ A,v = .agg ⟨planL planP A⟩ ∧ own (planF planP A) := by
 refine Ct.of k_law15_Plan rfl fun h r=>Tr.eq (e_law15_Plan ..) ?_; (try simp only[Nr,Nl,Nat.reduceAdd,Nat.reduceMul,Int.reduceToNat])
 (repeat' first|refine Gu ?_|(with_reducible first|apply Gx|apply Gy|rintro px rfl|refine fun(h:H)=>?_|intro hb)|refine Gs ?_|refine Gt ?_|exact Gz rfl|fail)
 refine Tr.nw fun b h=>?_
 refine Tr.nw fun b1 h=>?_
 refine Tr.nw fun b2 h=>?_
 (repeat' first|refine Gu ?_|(with_reducible first|refine Gn fun b h=>?_|apply Gx|apply Gy|rintro px rfl|refine fun(h:H)=>?_|intro hb)|refine Gs ?_|refine Gt ?_|exact Gz rfl|fail)
 refine tr_asSl 0 rfl 2 2 rfl (by omega) ?_
 refine tr_asSl 1 rfl 1 2 rfl (by omega) ?_
 (try simp only[Nr,Nl,Nat.reduceAdd,Nat.reduceMul,Int.reduceToNat])
 refine Tr.some fun o=>?_
 exact ⟨⟨some ⟨b1,0,none⟩,2,some ⟨b2,0,none⟩,2⟩,rfl,(show Own h (slC false Y_api_Bridge 2 (some ⟨b2,0,none⟩) planP.brs.length 2 (planP.brs.flatMap brL) :: slC false Y_bool 1 (some ⟨b1,0,none⟩) planP.bad.length 2 (planP.bad.map Value.bool) :: _) from o).sub⟩
def bootP : BootS := bootOf planP
theorem bootP_ok : bootOk bootP = true := by kernel_rfl
theorem bootP_small : Small bootP := by
 have e : bootP = ⟨[20,20],[0,0,0,0,0,0,0,0,0,1,1,1,1,1,1,1,1,1],[[0],[1]],5,[⟨0,0,0,492,[0]⟩,⟨1,0,0,492,[1]⟩,⟨0,8,0,40,[0,1]⟩,⟨1,9,0,40,[1,0]⟩]⟩ := by kernel_rfl
 rw [e]
 exact ⟨by simp [most],by simp [most],by simp [most]⟩
theorem bootP_eq : bootP = ⟨[20,20],[0,0,0,0,0,0,0,0,0,1,1,1,1,1,1,1,1,1],[[0],[1]],5,[⟨0,0,0,492,[0]⟩,⟨1,0,0,492,[1]⟩,⟨0,8,0,40,[0,1]⟩,⟨1,9,0,40,[1,0]⟩]⟩ := by kernel_rfl
theorem bootP_r : RBoot bootP (qNew bootP.frames) := by
 rw [bootP_eq]
 refine ⟨by simp,by simp,by simp,fun x hx=>?_,fun x hx=>?_⟩
 ·simp only [List.mem_cons,List.not_mem_nil,or_false] at hx
  rcases hx with rfl | rfl | rfl | rfl <;> simp [most]
 ·simp only [List.mem_cons,List.not_mem_nil,or_false] at hx
  rcases hx with rfl | rfl | rfl | rfl <;> simp [qNew]
def S00 : KS := kNew bootP
theorem S00_ok : KOk 0 S00 := kNew_ok bootP_ok bootP_small
def wrS (S : KS) (cap : Int) (b : List UInt8) : KS := (kAns S 0 ⟨2,cap,0,0,0,0,b⟩).2
def S0 : KS := wrS S00 256 blankB
theorem S0_e : (kAns S00 0 ⟨2,256,0,0,0,0,blankB⟩).1.1 = 0 := by kernel_rfl
theorem caps0 : spNames S00.tabs 0 = [256,257,258] := by kernel_rfl
def wrR (K : RKS) (cap : Int) (b : List UInt8) : RKS := { K with R := (rWrite K.R 0 cap 0 b).2 }
def K0 : RKS := wrR (rNew bootP) 256 blankB
end Go.EQ

set_option maxRecDepth 10000
namespace Go.EQ
open Go Go.NN
theorem rk0_ok : RKOk (rNew bootP) ∧ (rNew bootP).B = bootP := rNew_ok (by rw [bootP_eq]; simp) (by rw [bootP_eq]; simp)
theorem wrR_ok {K : RKS} (k : RKOk K) (cap : Int) (b : List UInt8) : RKOk (wrR K cap b) := rDoW_ok k 0 cap 0 b
theorem rcaps_ne : rCaps K0 0 ≠ [] := by
 have : rCaps K0 0 = [256,257,258] := by kernel_rfl
 rw [this]; simp
theorem blankB_len : blankB.length = 492 := by kernel_rfl
theorem tr_open1 {l : List HP} {h : H} {α : Type} {Q : α → H → Prop} {x : Option (α × H)} (i : Nat) {b n : Nat} {cs : List Value} (hi : l[i]? = some (pt b (.cells Y_uint8 false cs))) (hn : cs.length = n) (t : Tr (l.set i (slC false Y_uint8 1 (some (openAt b)) n n cs)) h x Q) : Tr l h x Q := fun o=>by
 refine t (Own.back (h := h) hi ?_)
 have o1 := o.front hi
 refine Own.slShut (pre := []) (post := []) (by simpa using o1) ⟨by omega,Nat.le_refl _,by simp,by simp,by simp,by omega,by simp⟩
theorem ct_Open (A : PlA) : Ct CALL F_law15_Open [.agg ⟨planL planP A⟩] (planF planP A) fun v own =>
  ∃ k c w m,v = .tuple ⟨[P0 k,P0 c,P0 w,P0 m]⟩ ∧ own [kernC k S0,comC c k 0 [256,257,258] [],rkC w K0,rcC m w 0 (rCaps K0 0) []] := by
 have hB : bootOf planP = bootP := rfl
 obtain ⟨ba,bc,ra,rc⟩ := A
 refine Ct.of k_law15_Open rfl fun h r=>Tr.eq (e_law15_Open ..) ?_; (try simp only[Nr,Nl,Nat.reduceAdd,Nat.reduceMul,Int.reduceToNat])
 refine Tr.nw fun b0 h=>?_
 (repeat' first|refine Gu ?_|(with_reducible first|refine Gn fun b h=>?_|apply Gx|apply Gy|rintro px rfl|refine fun(h:H)=>?_|intro hb)|refine Gs ?_|refine Gt ?_|exact Gz rfl|fail)
 refine Tr.xCall (ct_Boot planP ⟨ba,bc,ra,rc⟩ (by simp [planP]) (by simp [planP])) ?_; rintro _ h ⟨A,kA,rfl,o⟩ <;> (refine (?_ : Tr _ _ _ _) o; (try simp only[Nr,Nl,Nat.reduceAdd,Nat.reduceMul,Int.reduceToNat]))
 rw [hB] at kA ⊢
 obtain ⟨fa,fc,ea,ec,sa,sc,ss,ha,hc,hs⟩ := A
 (repeat' first|refine Gu ?_|(with_reducible first|apply Gx|apply Gy|rintro px rfl|refine fun(h:H)=>?_|intro hb)|refine Gs ?_|refine Gt ?_|exact Gz rfl|fail)
 refine Tr.nw fun b1 h=>?_
 (repeat' first|refine Gu ?_|(with_reducible first|refine Gn fun b h=>?_|apply Gx|apply Gy|rintro px rfl|refine fun(h:H)=>?_|intro hb)|refine Gs ?_|refine Gt ?_|exact Gz rfl|fail)
 have J := ct_New false bootP ⟨fa,fc,ea,ec,sa,sc,ss,ha,hc,hs⟩ kA bootP_small
 simp only [bootP_ok,if_true] at J
 refine Tr.xCall (J) ?_; rintro _ h ⟨k,rfl,o⟩ <;> (refine (?_ : Tr _ _ _ _) o; (try simp only[Nr,Nl,Nat.reduceAdd,Nat.reduceMul,Int.reduceToNat]))
 (repeat' first|refine Gu ?_|(with_reducible first|refine Gn fun b h=>?_|rintro px rfl|refine fun(h:H)=>?_|intro hb)|refine Gs ?_|refine Gt ?_|exact Gz rfl|fail)
 refine Tr.bnd (Tr.condF rfl ?_)
 refine Tr.some fun o=>(?_ : Tr _ _ _ _) o; (try simp only[Nr,Nl,Nat.reduceAdd,Nat.reduceMul,Int.reduceToNat])
 refine Tr.condF rfl ?_
 (repeat' first|refine Gu ?_|(with_reducible first|refine Gn fun b h=>?_|apply Gx|apply Gy|rintro px rfl|refine fun(h:H)=>?_|intro hb)|refine Gs ?_|refine Gt ?_|exact Gz rfl|fail)
 refine Tr.xCall (ct_rNewKern bootP ⟨fa,fc,ea,ec,sa,sc,ss,ha,hc,hs⟩ kA (by rw [bootP_eq]; simp) bootP_r) ?_; rintro _ h ⟨w,rfl,o⟩ <;> (refine (?_ : Tr _ _ _ _) o; (try simp only[Nr,Nl,Nat.reduceAdd,Nat.reduceMul,Int.reduceToNat]))
 (repeat' first|refine Gu ?_|(with_reducible first|refine Gn fun b h=>?_|apply Gx|apply Gy|rintro px rfl|refine fun(h:H)=>?_|intro hb)|refine Gs ?_|refine Gt ?_|exact Gz rfl|fail)
 refine Tr.xCall (ct_cNew k (kNew bootP) 0 S00_ok 0) ?_
 rintro v h (⟨hz,c,rfl,o⟩ | ⟨hz,rfl,o⟩)
 case inr=>exact absurd hz (by rw [show kNew bootP = S00 from rfl,caps0]; simp)
 rw [show kNew bootP = S00 from rfl,caps0] at o
 refine (?_ : Tr _ _ _ _) o
 (try simp only[Nr,Nl,Nat.reduceAdd,Nat.reduceMul,Int.reduceToNat])
 (repeat' first|refine Gu ?_|(with_reducible first|refine Gn fun b h=>?_|rintro px rfl|refine fun(h:H)=>?_|intro hb)|refine Gs ?_|refine Gt ?_|exact Gz rfl|fail)
 refine Tr.bnd (Tr.condF rfl ?_)
 refine Tr.some fun o=>(?_ : Tr _ _ _ _) o; (try simp only[Nr,Nl,Nat.reduceAdd,Nat.reduceMul,Int.reduceToNat])
 refine Tr.condF rfl ?_
 refine Tr.xCall (ct_rBlank) ?_; rintro _ h ⟨rfl,o⟩ <;> (refine (?_ : Tr _ _ _ _) o; (try simp only[Nr,Nl,Nat.reduceAdd,Nat.reduceMul,Int.reduceToNat]))
 (repeat' first|refine Gu ?_|(with_reducible first|apply Gx|apply Gy|rintro px rfl|refine fun(h:H)=>?_|intro hb)|refine Gs ?_|refine Gt ?_|exact Gz rfl|fail)
 refine Tr.ck (by rw [bs_size,blankB_len]; simp [most]) ?_
 rw [bs_size,blankB_len]
 refine Tr.nw fun b2 h=>?_
 refine tr_open1 (n := 492) 0 rfl (by rw [bc_len,show (bs blankB).data.toList = blankB from rfl,blankB_len]) ?_
 (try simp only[Nr,Nl,Nat.reduceAdd,Nat.reduceMul,Int.reduceToNat])
 have J2 := ct_kDoC k S00 0 S00_ok (by omega) 0 ⟨2,256,0,0,0,0,blankB⟩ (some (openAt b2)) 492 false (show ((2 : Int) ≠ 5) by decide)
 simp only [blankB_len] at J2
 refine tr_callI J2 [2,0] rfl ?_
 rintro _ h ⟨y,d,rfl,o⟩
 rw [S0_e]
 rw [show (kAns S00 0 ⟨2,256,0,0,0,0,blankB⟩).2 = S0 from rfl] at o
 refine (?_ : Tr _ _ _ _) o
 (try simp only[Nr,Nl,Nat.reduceAdd,Nat.reduceMul,Int.reduceToNat])
 (repeat' first|refine Gu ?_|(with_reducible first|apply Gx|apply Gy|rintro px rfl|refine fun(h:H)=>?_|intro hb)|refine Gs ?_|refine Gt ?_|exact Gz rfl|fail)
 refine Tr.condF rfl ?_
 refine Tr.ck (by simp [most]) ?_
 refine Tr.nw fun b3 h=>?_
 refine tr_open1 (n := 492) 0 rfl (by rw [bc_len,blankB_len]) ?_
 (try simp only[Nr,Nl,Nat.reduceAdd,Nat.reduceMul,Int.reduceToNat])
 have J3 := ct_rDoW w (rNew bootP) rk0_ok.1 0 (by rw [rk0_ok.2,bootP_eq]; simp) ⟨2,256,0,0,0,0,blankB⟩ rfl (by rw [blankB_len]; simp [most]) (slC false Y_uint8 1 (some (openAt b3)) blankB.length 492 (byteCells blankB)) (some (openAt b3)) 492 false
 simp only [blankB_len] at J3
 refine Tr.xCall J3 ?_
 rintro _ h ⟨rfl,o⟩
 rw [show ({ rNew bootP with R := (rWrite (rNew bootP).R ((0 : Nat) : Int) 256 0 blankB).2 } : RKS) = K0 from rfl] at o
 refine (?_ : Tr _ _ _ _) o
 (try simp only[Nr,Nl,Nat.reduceAdd,Nat.reduceMul,Int.reduceToNat])
 (repeat' first|refine Gu ?_|(with_reducible first|refine Gn fun b h=>?_|apply Gx|apply Gy|rintro px rfl|refine fun(h:H)=>?_|intro hb)|refine Gs ?_|refine Gt ?_|exact Gz rfl|fail)
 refine Tr.xCall (ct_rNewCommons w K0 (wrR_ok rk0_ok.1 256 blankB) 0 (by show (0 : Nat) < (rNew bootP).B.envs.length; rw [rk0_ok.2,bootP_eq]; simp)) ?_
 rintro v h (⟨_,m,rfl,o⟩ | ⟨hn,rfl,o⟩)
 case inr=>exact absurd hn rcaps_ne
 refine (?_ : Tr _ _ _ _) o
 (try simp only[Nr,Nl,Nat.reduceAdd,Nat.reduceMul,Int.reduceToNat])
 (repeat' first|refine Gu ?_|(with_reducible first|refine Gn fun b h=>?_|apply Gx|apply Gy|rintro px rfl|refine fun(h:H)=>?_|intro hb)|refine Gs ?_|refine Gt ?_|exact Gz rfl|fail)
 refine Tr.some fun o=>?_
 exact ⟨k,c,w,m,rfl,o.sub⟩
end Go.EQ

set_option maxRecDepth 10000
namespace Go.EQ
open Go Go.NN
def cutM (mem : List UInt8) (rg : Rg) : List (List UInt8) := rg.map fun p=>slice mem p.1 p.2
theorem cutM_get {mem : List UInt8} {rg : Rg} {j lo n : Nat} (h : rg[j]? = some (lo,n)) : (cutM mem rg)[j]? = some (slice mem lo n) := by unfold cutM; rw [List.getElem?_map,h]; rfl
theorem cutM_fit {mem : List UInt8} {rg : Rg} (h : ∀ (j lo n : Nat),rg[j]? = some (lo,n) → lo + n ≤ mem.length) : Fit mem.length rg (cutM mem rg) := ⟨by simp [cutM],fun j lo n hj=>⟨h j lo n hj,slice mem lo n,cutM_get hj,slice_len (h j lo n hj)⟩⟩
theorem pour_cut {mem : List UInt8} {rg : Rg} (k : RgOk rg) (h : ∀ (j lo n : Nat),rg[j]? = some (lo,n) → lo + n ≤ mem.length) : pour mem rg (cutM mem rg) = mem := by
 have f := cutM_fit h
 refine List.ext_getElem? fun i=>?_
 by_cases ho : ∃ (j lo n : Nat),rg[j]? = some (lo,n) ∧ lo ≤ i ∧ i < lo + n
 ·obtain ⟨j,lo,n,hj,h1,h2⟩ := ho
  obtain ⟨i',rfl⟩ : ∃ i',i = lo + i' := ⟨i - lo,by omega⟩
  rw [pour_in f k j lo n _ hj (cutM_get hj) i' (by omega),slice_get,if_pos (by omega)]
 ·exact pour_out f i fun j lo n hj=>by
   by_cases hh : lo ≤ i ∧ i < lo + n
   ·exact absurd ⟨j,lo,n,hj,hh.1,hh.2⟩ ho
   ·omega
theorem FrOk.room {F : Fr} {j lo n : Nat} (f : Fit F.S.mem.length F.rg (cutM F.S.mem F.rg)) (h : F.rg[j]? = some (lo,n)) : lo + n ≤ F.S.mem.length := (f.each j lo n h).1
theorem Fr.at_cut {F : Fr} (k : FrOk F) (h : ∀ (j lo n : Nat),F.rg[j]? = some (lo,n) → lo + n ≤ F.S.mem.length) : F.at (cutM F.S.mem F.rg) = F.S := by
 unfold Fr.at; rw [pour_cut k.dj h]; rfl
theorem Own.cmTake {r : List HP} {h : H} (c k : Nat) (F : Fr) (bad : List RecS) (ok : FrOk F) (hr : ∀ (j lo n : Nat),F.rg[j]? = some (lo,n) → lo + n ≤ F.S.mem.length) (o1 : Own h (kernC k F.S :: comC c k F.env F.caps bad :: r)) : Own h (cmC c k F ⟨cutM F.S.mem F.rg,bad⟩ :: r) := by
 refine Own.inex (f := fun u : Unit=>sl (cmF c k F ⟨cutM F.S.mem F.rg,bad⟩)) () (Own.group (l := cmF c k F ⟨cutM F.S.mem F.rg,bad⟩) ?_)
 show Own h (kernC k (F.at (cutM F.S.mem F.rg)) :: comC c k F.env F.caps bad :: pu _ :: r)
 rw [Fr.at_cut ok hr]
 have o2 := Own.inpure (show Fit F.S.mem.length F.rg (cutM F.S.mem F.rg) from cutM_fit hr) o1
 exact o2.picks [1,1,0] rfl
theorem pl_of {S : KS} {env cap obj : Int} {lo n : Nat} {e1 e2 : Int} (hg : spGet S.tabs env cap = some ⟨obj,3,0,(n : Int),e1,e2⟩) (h0 : 0 ≤ obj) (hr : S.regs[obj.toNat]? = some ((lo : Int),(n : Int))) (hl : lo + n ≤ 65536) :
  ∀ (a m : Nat) (right : Int),right = 1 ∨ right = 2 → a + m ≤ n → placeV S.tabs S.regs env cap right a m = (((lo + a : Nat) : Int),0) := by
 intro a m right hri ha
 have hlt := (List.getElem?_eq_some_iff.1 hr).1
 unfold placeV
 rw [hg]
 have b1 : (bitA .i64 3 1 == 0) = false := by kernel_rfl
 have b2 : (bitA .i64 3 2 == 0) = false := by kernel_rfl
 have hb : ¬ ((bitA .i64 3 right == 0) = true) := by rcases hri with rfl | rfl <;> simp [b1,b2]
 simp only
 have h2 : (decide ((a : Int) < 0) || decide ((m : Int) < 0) || decide ((a : Int) > (n : Int)) || decide ((m : Int) > IntKind.wrap .i64 ((n : Int) - a)) || decide (obj < 0) || decide (obj ≥ S.regs.length)) = false := by
  simp only [Bool.or_eq_false_iff,decide_eq_false_iff_not,wrap_eq]; omega
 have h3 : (decide (IntKind.wrap .i64 (0 + (a : Int)) > (n : Int)) || decide ((m : Int) > IntKind.wrap .i64 (IntKind.wrap .i64 ((n : Int) - 0) - a))) = false := by
  simp only [Bool.or_eq_false_iff,decide_eq_false_iff_not,wrap_eq]; omega
 have h4 : IntKind.wrap .i64 (IntKind.wrap .i64 ((lo : Int) + 0) + a) = ((lo + a : Nat) : Int) := by simp only [wrap_eq]; omega
 rw [if_neg hb]
 simp only [h2,hr,h3,h4,Bool.false_eq_true,if_false]
structure Like (S : KS) : Prop where
 ok : KOk 0 S
 tabs : S.tabs = S00.tabs
 regs : S.regs = S00.regs
 envs : S.envs = S00.envs
 mem : S.mem.length = 2560
theorem like_put {S : KS} (k : Like S) {m : List UInt8} (h : m.length = 2560) : Like (putMem S m) :=
 ⟨⟨k.ok.envs,k.ok.tabs,k.ok.space,k.ok.quota,by show m.length ≤ 65536; omega,k.ok.regs,k.ok.may,k.ok.mayl,k.ok.nsect,k.ok.sects,k.ok.now⟩,k.tabs,k.regs,k.envs,h⟩
theorem like00 : Like S00 := ⟨S00_ok,rfl,rfl,rfl,by kernel_rfl⟩
theorem wrS_put (S : KS) (k : Like S) (cap : Int) (b : List UInt8) : Like (wrS S cap b) := by
 unfold wrS kAns
 split
 ·exact k
 ·exact like_put k (by rw [writeV_len]; exact k.mem)
theorem like0 : Like S0 := wrS_put S00 like00 256 blankB
def rgP (s : Nat) : Rg := [(1280 * s,492),(512,40),(1856,40)]
def frP (S : KS) (s : Nat) (env : Int) : Fr := ⟨S,0,env,[256,257,258],rgP s⟩
theorem regs00 : S00.regs = [(0,492),(1280,492),(512,40),(1856,40)] := by kernel_rfl
theorem envs00 : S00.envs.length = 18 := by kernel_rfl
structure EnvP (s : Nat) (env : Int) : Prop where
 hs : s < 2
 he : 0 ≤ env ∧ env < 18
 a : spGet S00.tabs env 256 = some ⟨s,3,0,492,0,0⟩
 b : spGet S00.tabs env 257 = some ⟨2,3,0,40,0,0⟩
 c : spGet S00.tabs env 258 = some ⟨3,3,0,40,0,0⟩
theorem env0 : EnvP 0 0 := ⟨by omega,by omega,by kernel_rfl,by kernel_rfl,by kernel_rfl⟩
theorem rgP_get {s j lo n : Nat} (h : (rgP s)[j]? = some (lo,n)) : (j = 0 ∧ lo = 1280 * s ∧ n = 492) ∨ (j = 1 ∧ lo = 512 ∧ n = 40) ∨ (j = 2 ∧ lo = 1856 ∧ n = 40) := by
 unfold rgP at h
 match j,h with
 | 0,h=>simp at h; omega
 | 1,h=>simp at h; omega
 | 2,h=>simp at h; omega
 | j + 3,h=>simp at h
theorem frP_room {S : KS} (k : Like S) {s : Nat} (hs : s < 2) (env : Int) : ∀ (j lo n : Nat),(frP S s env).rg[j]? = some (lo,n) → lo + n ≤ (frP S s env).S.mem.length := by
 intro j lo n h
 have hm := k.mem
 have := rgP_get h
 show lo + n ≤ S.mem.length
 omega
theorem frP_ok {S : KS} (k : Like S) {s : Nat} {env : Int} (e : EnvP s env) : FrOk (frP S s env) := by
 have hs := e.hs; have he := e.he
 refine ⟨k.ok,by simp [frP],by simp [frP],by simp [frP],by simp [frP,rgP],?_,?_,?_,⟨1280 * s,rfl⟩,?_⟩
 ·show ¬ (env < 0 ∨ env ≥ (S.envs.length : Int))
  rw [k.envs,envs00]; omega
 ·intro j cap lo n hc hr
  show ∀ (a m : Nat) (right : Int),right = 1 ∨ right = 2 → a + m ≤ n → placeV S.tabs S.regs env cap right a m = _
  have hg := rgP_get hr
  rcases hg with ⟨rfl,rfl,rfl⟩ | ⟨rfl,rfl,rfl⟩ | ⟨rfl,rfl,rfl⟩
  ·cases hc
   refine pl_of (obj := s) (e1 := 0) (e2 := 0) (by rw [k.tabs]; exact e.a) (by omega) ?_ (by omega)
   rw [k.regs,regs00,Int.toNat_natCast]
   match s,hs with
   | 0,_=>rfl
   | 1,_=>rfl
  ·cases hc
   exact pl_of (obj := 2) (e1 := 0) (e2 := 0) (by rw [k.tabs]; exact e.b) (by omega) (by rw [k.regs,regs00]; rfl) (by omega)
  ·cases hc
   exact pl_of (obj := 3) (e1 := 0) (e2 := 0) (by rw [k.tabs]; exact e.c) (by omega) (by rw [k.regs,regs00]; rfl) (by omega)
 ·intro i j lo n lo' n' hij hi hj
  have h1 := rgP_get hi; have h2 := rgP_get hj
  omega
 ·intro j lo n h0 h
  have := rgP_get h; omega
end Go.EQ

set_option maxRecDepth 10000
namespace Go.EQ
open Go Go.NN
def badK (bad : List RecS) (kind : Int) : Nat → Int → List RecS
 | 0,_=>[]
 | m + 1,i=>if (⟨kind,i⟩ : RecS) ∈ bad then ⟨kind,i⟩ :: badK bad kind m (i + 1) else badK bad kind m (i + 1)
def badL (nc : Nat) (bad : List RecS) : Nat → Int → List RecS
 | 0,_=>[]
 | m + 1,kind=>badK bad kind (mostX nc kind).toNat 0 ++ badL nc bad m (kind + 1)
def badOf (nc : Nat) (bad : List RecS) : List RecS := badL nc bad 5 1
theorem ct_Bad_L2 (c k : Nat) (env : Int) (caps : List Int) (bad : List RecS) (hs : caps.length ≤ 40) (kind : Int) (hk : 1 ≤ kind ∧ kind ≤ 5) (Φ : List RecS → Value → (List HP → Prop) → Prop)
  (next : ∀ (acc : List RecS) (a : Option Addr) (cp : Nat),acc.length ≤ 50 * kind → CtJ JUMP F_commons_Commons_Bad T_commons_Commons_Bad_L1 [(0,P0 c),(3,.slice a acc.length cp),(4,int (kind + 1))] [slC false Y_api_Rec 2 a acc.length cp (acc.flatMap recL),comC c k env caps bad] (Φ acc)) :
  ∀ (m : Nat) (i : Int) (acc : List RecS) (a : Option Addr) (cp : Nat),0 ≤ i → i + m = mostX caps.length kind → acc.length ≤ 50 * (kind - 1) + i →
  CtJ JUMP F_commons_Commons_Bad T_commons_Commons_Bad_L2 [(0,P0 c),(3,.slice a acc.length cp),(4,int kind),(13,int (mostX caps.length kind)),(14,int i)] [slC false Y_api_Rec 2 a acc.length cp (acc.flatMap recL),comC c k env caps bad] (Φ (acc ++ badK bad kind m i)) := by
 have hmost : mostX caps.length kind ≤ 43 := by unfold mostX; (repeat' split) <;> omega
 have e5 : IntKind.wrap .i64 (kind + 1) = kind + 1 := by rw [wrap_eq]; omega
 intro m
 induction m with
 | zero =>
  intro i acc a cp h0 hi ha
  refine CtJ.of k_commons_Commons_Bad fun h r=>Tr.eq (e_commons_Commons_Bad_L2 ..) ?_; (try simp only[Nr,Nl,Nat.reduceAdd,Nat.reduceMul,Int.reduceToNat])
  refine Tr.condF (by simp; omega) ?_
  rw [e5]
  refine Tr.xRun (next acc a cp (by omega)) ?_
  intro v h q
  rw [show badK bad kind 0 i = [] from rfl,List.append_nil]
  exact q
 | succ m ih =>
  intro i acc a cp h0 hi ha
  have e1 : IntKind.wrap .i64 (i + 1) = i + 1 := by rw [wrap_eq]; omega
  refine CtJ.of k_commons_Commons_Bad fun h r=>Tr.eq (e_commons_Commons_Bad_L2 ..) ?_; (try simp only[Nr,Nl,Nat.reduceAdd,Nat.reduceMul,Int.reduceToNat])
  refine Tr.condT (by simp; omega) ?_
  refine tr_open (comC c k env caps bad) fun ⟨ca,cn,mb⟩=>?_; (try simp only[Nr,Nl,Nat.reduceAdd,Nat.reduceMul,Int.reduceToNat])
  (repeat' first|refine Gu ?_|(with_reducible first|refine Gn fun b h=>?_|apply Gx|apply Gy|rintro px rfl|refine fun(h:H)=>?_|intro hb)|refine Gs ?_|refine Gt ?_|exact Gz rfl|fail)
  have hl := lookM_bad ⟨kind,i⟩ bad
  simp only [recL] at hl
  rw [hl]
  rw [show badK bad kind (m + 1) i = if (⟨kind,i⟩ : RecS) ∈ bad then ⟨kind,i⟩ :: badK bad kind m (i + 1) else badK bad kind m (i + 1) from rfl]
  by_cases hb : (⟨kind,i⟩ : RecS) ∈ bad
  ·simp only [if_pos hb]
   (repeat' first|refine Gu ?_|(with_reducible first|refine Gn fun b h=>?_|apply Gx|apply Gy|rintro px rfl|refine fun(h:H)=>?_|intro hb)|refine Gs ?_|refine Gt ?_|exact Gz rfl|fail)
   refine Tr.condT rfl ?_
   (repeat' first|refine Gu ?_|(with_reducible first|refine Gn fun b h=>?_|apply Gx|apply Gy|rintro px rfl|refine fun(h:H)=>?_|intro hb)|refine Gs ?_|refine Gt ?_|exact Gz rfl|fail)
   refine tr_fold (comC c k env caps bad) ⟨ca,cn,mb⟩ ?_; (try simp only[Nr,Nl,Nat.reduceAdd,Nat.reduceMul,Int.reduceToNat])
   refine Tr.xApd ?_ (fun a' c' h=>?_)
   ·exact ⟨by first | rfl | simp,by first | rfl | simp,by simp only [most]; omega⟩
   (try simp only[Nr,Nl,Nat.reduceAdd,Nat.reduceMul,Int.reduceToNat])
   rw [e1]
   rw [show acc.flatMap recL ++ [Value.int IntKind.i64 kind,Value.int IntKind.i64 i] = (acc ++ [(⟨kind,i⟩ : RecS)]).flatMap recL by simp [recL],show acc.length + 1 = (acc ++ [(⟨kind,i⟩ : RecS)]).length by simp]
   refine tr_order [3,0] 2 rfl rfl ?_
   refine Tr.xRun (ih (i + 1) (acc ++ [⟨kind,i⟩]) a' c' (by omega) (by omega) (by simp; omega)) ?_
   intro v h q
   rw [List.append_assoc] at q
   exact q
  ·simp only [if_neg hb]
   (repeat' first|refine Gu ?_|(with_reducible first|refine Gn fun b h=>?_|apply Gx|apply Gy|rintro px rfl|refine fun(h:H)=>?_|intro hb)|refine Gs ?_|refine Gt ?_|exact Gz rfl|fail)
   refine Tr.condF rfl ?_
   refine tr_fold (comC c k env caps bad) ⟨ca,cn,mb⟩ ?_; (try simp only[Nr,Nl,Nat.reduceAdd,Nat.reduceMul,Int.reduceToNat])
   rw [e1]
   refine tr_order [2,0] 1 rfl rfl ?_
   refine Tr.xRun (ih (i + 1) acc a cp (by omega) (by omega) (by omega)) ?_
   intro v h q
   exact q
theorem ct_Bad_L1 (c k : Nat) (env : Int) (caps : List Int) (bad : List RecS) (hs : caps.length ≤ 40) : ∀ (m : Nat) (kind : Int) (acc : List RecS) (a : Option Addr) (cp : Nat),1 ≤ kind → kind + m = 6 → acc.length ≤ 50 * (kind - 1) →
  CtJ JUMP F_commons_Commons_Bad T_commons_Commons_Bad_L1 [(0,P0 c),(3,.slice a acc.length cp),(4,int kind)] [slC false Y_api_Rec 2 a acc.length cp (acc.flatMap recL),comC c k env caps bad] fun v own =>
   ∃ a' cp',v = .slice a' (acc ++ badL caps.length bad m kind).length cp' ∧ own [slC false Y_api_Rec 2 a' (acc ++ badL caps.length bad m kind).length cp' ((acc ++ badL caps.length bad m kind).flatMap recL),comC c k env caps bad] := by
 intro m
 induction m with
 | zero =>
  intro kind acc a cp hk hi ha
  refine CtJ.of k_commons_Commons_Bad fun h r=>Tr.eq (e_commons_Commons_Bad_L1 ..) ?_; (try simp only[Nr,Nl,Nat.reduceAdd,Nat.reduceMul,Int.reduceToNat])
  refine Tr.condF (by simp; omega) ?_
  refine Tr.some fun o=>?_
  rw [show badL caps.length bad 0 kind = [] from rfl,List.append_nil]
  exact ⟨a,cp,rfl,o.sub⟩
 | succ m ih =>
  intro kind acc a cp hk hi ha
  have hm0 : 0 ≤ mostX caps.length kind := by unfold mostX; (repeat' split) <;> omega
  have L2 := ct_Bad_L2 c k env caps bad hs kind (by omega) (fun acc v own=>∃ a' cp',v = .slice a' (acc ++ badL caps.length bad m (kind + 1)).length cp' ∧ own [slC false Y_api_Rec 2 a' (acc ++ badL caps.length bad m (kind + 1)).length cp' ((acc ++ badL caps.length bad m (kind + 1)).flatMap recL),comC c k env caps bad])
   (fun acc a cp ha=>ih (kind + 1) acc a cp (by omega) (by omega) (by omega)) (mostX caps.length kind).toNat 0 acc a cp (by omega) (by omega) (by omega)
  refine CtJ.of k_commons_Commons_Bad fun h r=>Tr.eq (e_commons_Commons_Bad_L1 ..) ?_; (try simp only[Nr,Nl,Nat.reduceAdd,Nat.reduceMul,Int.reduceToNat])
  refine Tr.condT (by simp; omega) ?_
  refine Tr.pcall (ct_cmost c k env caps bad kind hs) ?_; (try simp only[Nr,Nl,Nat.reduceAdd,Nat.reduceMul,Int.reduceToNat]); (repeat' first|refine Gu ?_|(with_reducible first|refine Gn fun b h=>?_|apply Gx|apply Gy|rintro px rfl|refine fun(h:H)=>?_|intro hb)|refine Gs ?_|refine Gt ?_|exact Gz rfl|fail)
  refine Tr.xRun L2 ?_
  intro v h q
  rw [List.append_assoc] at q
  exact q
theorem ct_cBad (c k : Nat) (env : Int) (caps : List Int) (bad : List RecS) (hs : caps.length ≤ 40) : Ct CALL F_commons_Commons_Bad [P0 c] [comC c k env caps bad] fun v own =>
  ∃ a' cp',v = .slice a' (badOf caps.length bad).length cp' ∧ own [slC false Y_api_Rec 2 a' (badOf caps.length bad).length cp' ((badOf caps.length bad).flatMap recL),comC c k env caps bad] := by
 refine Ct.of k_commons_Commons_Bad rfl fun h r=>Tr.eq (e_commons_Commons_Bad ..) ?_; (try simp only[Nr,Nl,Nat.reduceAdd,Nat.reduceMul,Int.reduceToNat])
 refine tr_nilSl false Y_api_Rec 2 (by omega) ?_
 have J := ct_Bad_L1 c k env caps bad hs 5 1 [] none 0 (by omega) (by omega) (by simp)
 simp only [List.nil_append,List.length_nil,List.flatMap_nil] at J
 refine Tr.xRun J ?_
 intro v h q
 exact q
theorem badOf_nil (nc : Nat) : badOf nc [] = [] := by
 have h1 : ∀ (kind : Int) (m : Nat) (i : Int),badK [] kind m i = [] := by
  intro kind m
  induction m with
  | zero=>intro i; rfl
  | succ m ih=>intro i; unfold badK; rw [if_neg (by simp),ih]
 have h2 : ∀ (m : Nat) (kind : Int),badL nc [] m kind = [] := by
  intro m
  induction m with
  | zero=>intro k; rfl
  | succ m ih=>intro k; unfold badL; rw [h1,ih]; rfl
 exact h2 5 1
theorem ct_cBadX (c k : Nat) (F : Fr) (X : CX) (ok : FrOk F) : Ct CALL F_commons_Commons_Bad [P0 c] [cmC c k F X] fun v own =>
  ∃ a' cp',v = .slice a' (badOf F.caps.length X.bad).length cp' ∧ own [slC false Y_api_Rec 2 a' (badOf F.caps.length X.bad).length cp' ((badOf F.caps.length X.bad).flatMap recL),cmC c k F X] := by
 intro h r o
 obtain ⟨u,o2⟩ := Own.unfold (cmC c k F X) o
 obtain ⟨v,h',e,a',cp',hv,o3⟩ := ct_cBad c k F.env F.caps X.bad ok.small h _ (o2.picks [1] rfl)
 refine ⟨v,h',e,a',cp',hv,?_⟩
 have o4 := o3.picks [2,1,1] rfl
 exact (Own.shut (f := fun _ : Unit=>cmF c k F X) () o4).picks [1,0] rfl
theorem ct_cView (c k : Nat) (F : Fr) (X : CX) (ok : FrOk F) : Ct CALL F_commons_Commons_View [P0 c] [cmC c k F X] fun v own =>
  ∃ a' cp',v = .slice a' (X.m.getD 0 []).length cp' ∧ own [slC false Y_uint8 1 a' (X.m.getD 0 []).length cp' (byteCells (X.m.getD 0 [])),cmC c k F X] := by
 have hn := ok.ne
 have hg : (F.caps.map int)[0]? = some (int (F.caps.getD 0 0)) := by rw [List.getElem?_map,getD_get 0 hn]; rfl
 refine Ct.of k_commons_Commons_View rfl fun h r=>Tr.eq (e_commons_Commons_View ..) ?_; (try simp only[Nr,Nl,Nat.reduceAdd,Nat.reduceMul,Int.reduceToNat])
 refine tr_open (cmC c k F X) fun u=>?_; (try simp only[Nr,Nl,Nat.reduceAdd,Nat.reduceMul,Int.reduceToNat])
 refine tr_pureAt 2 rfl fun f=>?_
 refine tr_open (comC c k F.env F.caps X.bad) fun ⟨ca,cn,mb⟩=>?_; (try simp only[Nr,Nl,Nat.reduceAdd,Nat.reduceMul,Int.reduceToNat])
 (repeat' first|refine Gu ?_|(with_reducible first|refine Gn fun b h=>?_|apply Gx|apply Gy|rintro px rfl|refine fun(h:H)=>?_|intro hb)|refine Gs ?_|refine Gt ?_|exact Gz rfl|fail)
 refine tr_fold (comC c k F.env F.caps X.bad) ⟨some px,cn,mb⟩ ?_; (try simp only[Nr,Nl,Nat.reduceAdd,Nat.reduceMul,Int.reduceToNat])
 obtain ⟨lo,h0⟩ := ok.own
 obtain ⟨_,x,hx,hxl⟩ := f.each 0 lo 492 h0
 have e0 : X.m.getD 0 [] = x := by rw [List.getD_eq_getElem?_getD,hx]; rfl
 have hp := ok.pl 0 _ lo 492 (getD_get 0 hn) h0 0 492 1 (.inl rfl) (by omega)
 have lp := pour_len f
 have hb : loadV (pour F.S.mem F.rg X.m) ((lo + 0 : Nat) : Int) (492 : Int) = some x := by
  have := f.each 0 lo 492 h0
  unfold loadV
  rw [if_pos (by rw [lp]; omega),Int.toNat_natCast]
  have hs := pour_slice f ok.dj h0 hx (a := 0) (c := 492) (by omega)
  show some (slice (pour F.S.mem F.rg X.m) (lo + 0) 492) = some x
  rw [hs]
  unfold slice
  rw [List.drop_zero,List.take_of_length_le (by omega)]
 have e : kAns (F.at X.m) F.env ⟨1,F.caps.getD 0 0,0,492,0,0,[]⟩ = ((0,0,x),F.at X.m) := by
  unfold kAns
  rw [if_neg (show ¬ (F.env < 0 ∨ F.env ≥ ((F.at X.m).envs.length : Int)) from ok.env)]
  unfold kDo
  rw [if_pos rfl]
  have er : readV (F.at X.m).tabs (F.at X.m).regs (F.at X.m).mem F.env (F.caps.getD 0 0) 0 492 = (x,0) := by
   unfold readV
   rw [show placeV (F.at X.m).tabs (F.at X.m).regs F.env (F.caps.getD 0 0) 1 0 492 = (((lo + 0 : Nat) : Int),0) from hp]
   rw [if_neg (by simp),show loadV (F.at X.m).mem _ _ = _ from hb]
  simp only [er]
 have J := ct_kDo0 k (F.at X.m) F.N (F.at_ok ok f) ok.hN F.env 1 (F.caps.getD 0 0) 0 492 0 0 (by decide)
 rw [e] at J
 refine Tr.xCall (J) ?_; rintro _ h ⟨y,d,rfl,o⟩ <;> (refine (?_ : Tr _ _ _ _) o; (try simp only[Nr,Nl,Nat.reduceAdd,Nat.reduceMul,Int.reduceToNat]); (repeat' first|refine Gu ?_|(with_reducible first|refine Gn fun b h=>?_|apply Gx|apply Gy|rintro px rfl|refine fun(h:H)=>?_|intro hb)|refine Gs ?_|refine Gt ?_|exact Gz rfl|fail))
 refine tr_fold (cmC c k F X) () ?_; (try simp only[Nr,Nl,Nat.reduceAdd,Nat.reduceMul,Int.reduceToNat])
 refine Tr.some fun o=>?_
 rw [e0]
 exact ⟨y,d,rfl,o.sub⟩
end Go.EQ

set_option maxRecDepth 10000
namespace Go.EQ
open Go Go.NN
abbrev F0 : Fr := frP S0 0 0
def X0 : CX := ⟨cutM S0.mem (rgP 0),[]⟩
theorem F0_ok : FrOk F0 := frP_ok like0 env0
theorem x0_p : (procX X0 0).1.2 = 0 := by kernel_rfl
theorem x0_p2 : (procX X0 0).2 = X0 := by kernel_rfl
theorem x0_t : (termX X0).1.2 = 1 := by kernel_rfl
theorem x0_t2 : (termX X0).2 = X0 := by kernel_rfl
theorem x0_f : (frontX X0).1 = (0,1) := by kernel_rfl
theorem x0_f2 : (frontX X0).2 = X0 := by kernel_rfl
theorem x0_v : (X0.m.getD 0 []).length = 492 := by kernel_rfl
theorem ct_OpenX (A : PlA) : Ct CALL F_law15_Open [.agg ⟨planL planP A⟩] (planF planP A) fun v own =>
  ∃ k c w m,v = .tuple ⟨[P0 k,P0 c,P0 w,P0 m]⟩ ∧ own [cmC c k F0 X0,rkC w K0,rcC m w 0 (rCaps K0 0) []] := by
 intro h r o
 obtain ⟨v,h',e,k,c,w,m,hv,o2⟩ := ct_Open A h r o
 refine ⟨v,h',e,k,c,w,m,hv,?_⟩
 exact Own.cmTake c k F0 [] F0_ok (frP_room like0 (by omega) 0) o2
theorem ct_awake15 : Ct CALL F_law15_awake [] [] fun v own=>v = .bool true ∧ own [] := by
 refine Ct.of k_law15_awake rfl fun h r=>Tr.eq (e_law15_awake ..) ?_; (try simp only[Nr,Nl,Nat.reduceAdd,Nat.reduceMul,Int.reduceToNat])
 refine Tr.xCall (ct_lPlan) ?_; rintro _ h ⟨A,rfl,o⟩ <;> (refine (?_ : Tr _ _ _ _) o; (try simp only[Nr,Nl,Nat.reduceAdd,Nat.reduceMul,Int.reduceToNat]))
 (repeat' first|refine Gu ?_|(with_reducible first|refine Gn fun b h=>?_|apply Gx|apply Gy|rintro px rfl|refine fun(h:H)=>?_|intro hb)|refine Gs ?_|refine Gt ?_|exact Gz rfl|fail)
 refine Tr.xCall (ct_OpenX A) ?_
 rintro _ h ⟨k,c,w,m,rfl,o⟩
 refine (?_ : Tr _ _ _ _) o
 (try simp only[Nr,Nl,Nat.reduceAdd,Nat.reduceMul,Int.reduceToNat])
 (repeat' first|refine Gu ?_|(with_reducible first|refine Gn fun b h=>?_|apply Gx|apply Gy|rintro px rfl|refine fun(h:H)=>?_|intro hb)|refine Gs ?_|refine Gt ?_|exact Gz rfl|fail)
 refine Tr.xCall (ct_cProc c k F0 X0 F0_ok 0) ?_; rintro _ h ⟨rfl,o⟩ <;> (refine (?_ : Tr _ _ _ _) o; (try simp only[Nr,Nl,Nat.reduceAdd,Nat.reduceMul,Int.reduceToNat]))
 rw [x0_p,x0_p2]
 (repeat' first|refine Gu ?_|(with_reducible first|refine Gn fun b h=>?_|apply Gx|apply Gy|rintro px rfl|refine fun(h:H)=>?_|intro hb)|refine Gs ?_|refine Gt ?_|exact Gz rfl|fail)
 refine Tr.xCall (ct_cTerm c k F0 X0 F0_ok) ?_; rintro _ h ⟨rfl,o⟩ <;> (refine (?_ : Tr _ _ _ _) o; (try simp only[Nr,Nl,Nat.reduceAdd,Nat.reduceMul,Int.reduceToNat]))
 rw [x0_t,x0_t2]
 (repeat' first|refine Gu ?_|(with_reducible first|refine Gn fun b h=>?_|apply Gx|apply Gy|rintro px rfl|refine fun(h:H)=>?_|intro hb)|refine Gs ?_|refine Gt ?_|exact Gz rfl|fail)
 refine Tr.xCall (ct_cFront c k F0 X0 F0_ok) ?_; rintro _ h ⟨rfl,o⟩ <;> (refine (?_ : Tr _ _ _ _) o; (try simp only[Nr,Nl,Nat.reduceAdd,Nat.reduceMul,Int.reduceToNat]))
 rw [x0_f,x0_f2]
 (repeat' first|refine Gu ?_|(with_reducible first|refine Gn fun b h=>?_|apply Gx|apply Gy|rintro px rfl|refine fun(h:H)=>?_|intro hb)|refine Gs ?_|refine Gt ?_|exact Gz rfl|fail)
 refine Tr.xCall (ct_cNew0 0) ?_; rintro _ h ⟨rfl,o⟩ <;> (refine (?_ : Tr _ _ _ _) o; (try simp only[Nr,Nl,Nat.reduceAdd,Nat.reduceMul,Int.reduceToNat]))
 (repeat' first|refine Gu ?_|(with_reducible first|refine Gn fun b h=>?_|rintro px rfl|refine fun(h:H)=>?_|intro hb)|refine Gs ?_|refine Gt ?_|exact Gz rfl|fail)
 refine Tr.bnd (Tr.condT rfl ?_)
 refine Tr.some fun o=>(?_ : Tr _ _ _ _) o; (try simp only[Nr,Nl,Nat.reduceAdd,Nat.reduceMul,Int.reduceToNat])
 refine Tr.bnd (Tr.condT rfl ?_)
 refine Tr.some fun o=>(?_ : Tr _ _ _ _) o; (try simp only[Nr,Nl,Nat.reduceAdd,Nat.reduceMul,Int.reduceToNat])
 refine Tr.bnd (Tr.condT rfl ?_)
 refine Tr.some fun o=>(?_ : Tr _ _ _ _) o; (try simp only[Nr,Nl,Nat.reduceAdd,Nat.reduceMul,Int.reduceToNat])
 refine Tr.bnd (Tr.condT rfl ?_)
 refine Tr.some fun o=>(?_ : Tr _ _ _ _) o; (try simp only[Nr,Nl,Nat.reduceAdd,Nat.reduceMul,Int.reduceToNat])
 refine Tr.bnd (Tr.condT rfl ?_)
 refine Tr.xCall (ct_cBadX c k F0 X0 F0_ok) ?_; rintro _ h ⟨a1,c1,rfl,o⟩ <;> (refine (?_ : Tr _ _ _ _) o; (try simp only[Nr,Nl,Nat.reduceAdd,Nat.reduceMul,Int.reduceToNat]))
 (repeat' first|refine Gu ?_|(with_reducible first|refine Gn fun b h=>?_|rintro px rfl|refine fun(h:H)=>?_|intro hb)|refine Gs ?_|refine Gt ?_|exact Gz rfl|fail)
 refine Tr.some fun o=>(?_ : Tr _ _ _ _) o; (try simp only[Nr,Nl,Nat.reduceAdd,Nat.reduceMul,Int.reduceToNat])
 rw [show badOf F0.caps.length X0.bad = [] from badOf_nil _]
 refine Tr.bnd (Tr.condT rfl ?_)
 refine Tr.xCall (ct_cView c k F0 X0 F0_ok) ?_; rintro _ h ⟨a2,c2,rfl,o⟩ <;> (refine (?_ : Tr _ _ _ _) o; (try simp only[Nr,Nl,Nat.reduceAdd,Nat.reduceMul,Int.reduceToNat]))
 rw [x0_v]
 (repeat' first|refine Gu ?_|(with_reducible first|refine Gn fun b h=>?_|rintro px rfl|refine fun(h:H)=>?_|intro hb)|refine Gs ?_|refine Gt ?_|exact Gz rfl|fail)
 refine Tr.some fun o=>(?_ : Tr _ _ _ _) o; (try simp only[Nr,Nl,Nat.reduceAdd,Nat.reduceMul,Int.reduceToNat])
 refine Tr.some fun o=>?_
 exact ⟨rfl,o.sub⟩
end Go.EQ

set_option maxRecDepth 10000
namespace Go.EQ
open Go Go.NN
theorem bitA_24 (a : Int) : bitA .i64 a 16777215 = a % 16777216 := bitA_mask a 24 (by omega)
theorem bitA_63 (a : Int) : bitA .i64 a 63 = a % 64 := bitA_mask a 6 (by omega)
theorem fdivP : (∀ y : Int,Int.fdiv y 4 = y / 4) ∧ (∀ y : Int,Int.fdiv y 16 = y / 16) ∧ (∀ y : Int,Int.fdiv y 32 = y / 32) ∧ (∀ y : Int,Int.fdiv y 64 = y / 64) ∧ (∀ y : Int,Int.fdiv y 256 = y / 256) ∧ (∀ y : Int,Int.fdiv y 512 = y / 512) ∧ (∀ y : Int,Int.fdiv y 2048 = y / 2048) ∧ (∀ y : Int,Int.fdiv y 32768 = y / 32768) := by
 refine ⟨?_,?_,?_,?_,?_,?_,?_,?_⟩ <;> exact fun y=>Int.fdiv_eq_ediv_of_nonneg _ (by decide)
theorem tmodP {y m : Int} (h : 0 ≤ y) : Int.tmod y m = y % m := Int.tmod_eq_emod_of_nonneg h
theorem pw : ((2 : Int) ^ 4 = 16) ∧ ((2 : Int) ^ 5 = 32) ∧ ((2 : Int) ^ 8 = 256) ∧ ((2 : Int) ^ 11 = 2048) ∧ ((2 : Int) ^ 15 = 32768) ∧ ((2 : Int) ^ 2 = 4) ∧ ((2 : Int) ^ 6 = 64) ∧ ((2 : Int) ^ 9 = 512) := by decide
theorem ct_aFile (x : Int) : Ct CALL F_law12_File [int x] [] fun v own=>(∃ f,okF f = true ∧ v = .agg ⟨fileL f⟩) ∧ own [] := by
 refine Ct.of k_law12_File rfl fun h r=>Tr.eq (e_law12_File ..) ?_; (try simp only[Nr,Nl,Nat.reduceAdd,Nat.reduceMul,Int.reduceToNat])
 simp only [bitA_24,bitA_63,bitA_7,bitA_1,fdivP,pw]
 have hy : 0 ≤ x % 16777216 := by omega
 generalize x % 16777216 = y at hy
 rw [tmodP hy]
 have e1 : IntKind.wrap .i64 (y % 3 + 1) = y % 3 + 1 := by rw [wrap_eq]; omega
 have e2 : IntKind.wrap .i64 (y / 256 % 64 + 1) = y / 256 % 64 + 1 := by rw [wrap_eq]; omega
 rw [e1,e2]
 (repeat' first|refine Gu ?_|(with_reducible first|refine Gn fun b h=>?_|apply Gx|apply Gy|rintro px rfl|refine fun(h:H)=>?_|intro hb)|refine Gs ?_|refine Gt ?_|exact Gz rfl|fail)
 by_cases h3 : y % 3 + 1 = 3
 ·refine Tr.condT (by simpa using h3) ?_
  (repeat' first|refine Gu ?_|(with_reducible first|refine Gn fun b h=>?_|apply Gx|apply Gy|rintro px rfl|refine fun(h:H)=>?_|intro hb)|refine Gs ?_|refine Gt ?_|exact Gz rfl|fail)
  refine Tr.some fun o=>?_
  refine ⟨⟨⟨y % 3 + 1,0,y / 256 % 64 + 1,y / 32768 % 2⟩,?_,rfl⟩,o.sub⟩
  simp only [okF,Bool.and_eq_true,Bool.or_eq_true,decide_eq_true_eq,beq_iff_eq,bne_iff_ne,or_true,and_true]; omega
 ·refine Tr.condF (by simpa using h3) ?_
  (repeat' first|refine Gu ?_|(with_reducible first|refine Gn fun b h=>?_|apply Gx|apply Gy|rintro px rfl|refine fun(h:H)=>?_|intro hb)|refine Gs ?_|refine Gt ?_|exact Gz rfl|fail)
  refine Tr.some fun o=>?_
  refine ⟨⟨⟨y % 3 + 1,y / 16 % 8,y / 256 % 64 + 1,y / 32768 % 2⟩,?_,rfl⟩,o.sub⟩
  simp only [okF,Bool.and_eq_true,Bool.or_eq_true,decide_eq_true_eq,beq_iff_eq,bne_iff_ne,or_true,and_true]; omega
theorem pipe_fill (a b c d : Value) {t : List UInt8} (h : t.length ≤ 32) : a :: b :: c :: d :: (byteCells t ++ List.drop (4 + (byteCells t).length) (a :: b :: c :: d :: byteCells (List.replicate 32 0))) = a :: b :: c :: d :: byteCells (pad32 t) := by
 rw [bc_len,Nat.add_comm]
 simp [pad32,List.take_append,bc_app,List.take_of_length_le h,byteCells,List.drop_replicate,List.take_replicate]
 show List.drop _ (List.replicate 32 (Value.int .u8 0)) = List.take _ (List.replicate 32 (Value.int .u8 0))
 rw [List.drop_replicate,List.take_replicate]; congr 1; omega
theorem ct_aPipe (x : Int) (p : HP) (a : Option Addr) (ro : Bool) (n c : Nat) (l : List UInt8) [ks : IsSl p a ro Y_uint8 1 n c (byteCells l)] (hl : l.length = n) : Ct CALL F_law13_Pipe [int x,.slice a n c] [p] fun v own=>(∃ f,okP f = true ∧ v = .agg ⟨pipeL f⟩) ∧ own [p] := by
 refine Ct.of k_law13_Pipe rfl fun h r=>Tr.eq (e_law13_Pipe ..) ?_; (try simp only[Nr,Nl,Nat.reduceAdd,Nat.reduceMul,Int.reduceToNat])
 simp only [bitA_24,bitA_63,bitA_15,bitA_31,fdivP,pw]
 have hy : 0 ≤ x % 16777216 := by omega
 generalize x % 16777216 = y at hy
 rw [tmodP (show 0 ≤ y / 32 % 64 by omega),tmodP (show 0 ≤ y / 2048 % 16 by omega),tmodP (show 0 ≤ y / 32768 % 16 by omega)]
 refine Tr.nw fun b1 h=>?_
 refine Tr.nw fun b2 h=>?_
 (repeat' first|refine Gu ?_|(with_reducible first|refine Gn fun b h=>?_|apply Gx|apply Gy|rintro px rfl|refine fun(h:H)=>?_|intro hb)|refine Gs ?_|refine Gt ?_|exact Gz rfl|fail)
 refine Tr.xCellsP (xs := byteCells (l.take 32)) ⟨by omega,by
  rw [bc_take]; congr 1; rw [List.take_eq_take_iff]; omega⟩ ?_
 rw [show pCells (some (⟨b2,4,none⟩ : Addr)) = pAgg ⟨b2,4,none⟩ from rfl]
 obtain ⟨f,hf,e⟩ : ∃ f,okP f = true ∧ int (y % 32) :: int (y / 32 % 64 % 33) :: int (y / 2048 % 16 % 9) :: int (y / 32768 % 16 % 9) :: byteCells (pad32 (l.take 32)) = pipeL f := ⟨⟨y % 32,y / 32 % 64 % 33,y / 2048 % 16 % 9,y / 32768 % 16 % 9,pad32 (l.take 32),pad32_len _⟩,by
  simp only [okP,Bool.and_eq_true,decide_eq_true_eq]; omega,rfl⟩
 have h32 : (l.take 32).length ≤ 32 := by simp; omega
 have hb : (byteCells (l.take 32)).length ≤ 32 := by rw [bc_len]; exact h32
 refine Tr.xPAgg (cs' := pipeL f) ⟨by simp only [List.length_cons,List.length_nil]; omega,byteCells_one _,?_⟩ fun h=>?_
 ·rw [← e,← pipe_fill (int (y % 32)) (int (y / 32 % 64 % 33)) (int (y / 2048 % 16 % 9)) (int (y / 32768 % 16 % 9)) h32]
  rfl
 (repeat' first|refine Gu ?_|(with_reducible first|refine Gn fun b h=>?_|apply Gx|apply Gy|rintro px rfl|refine fun(h:H)=>?_|intro hb)|refine Gs ?_|refine Gt ?_|exact Gz rfl|fail)
 refine Tr.some fun o=>?_
 exact ⟨⟨f,hf,rfl⟩,o.sub⟩
def fdS (q : ProcS) (i : Nat) (v : Int) : ProcS := { q with fds := q.fds.set i v,len := by rw [List.length_set]; exact q.len }
theorem fdS_set (q : ProcS) (i : Nat) (v : Int) (h : i < 8) : setN (procL q) (8 + i) (int v) = some (procL (fdS q i v)) := by
 have e : Nat.blt (8 + i) (procL q).length = true := by rw [procL_len]; exact Nat.ble_eq_true_of_le (by omega)
 rw [setN,e]
 have e2 : (procL q).set (8 + i) (int v) = procL (fdS q i v) := by
  rw [Nat.add_comm]
  simp [procL,fdS,List.map_set]
 rw [← e2]; rfl
theorem fdS_ok {q : ProcS} (h : okS q = true) (h1 : q.state = 1) (i : Nat) {v : Int} (hv : 0 ≤ v ∧ v ≤ 12) : okS (fdS q i v) = true := by
 unfold okS at h ⊢
 rw [if_neg (by rw [h1]; decide)] at h
 rw [if_neg (show ¬ (fdS q i v).state = 2 by show ¬ q.state = 2; rw [h1]; decide)]
 simp only [Bool.and_eq_true] at h ⊢
 refine ⟨h.1,h.2.1,?_,h.2.2.2⟩
 have := h.2.2.1
 simp only [Bool.not_eq_true',List.any_eq_false,fdS] at this ⊢
 intro x hx
 rcases List.mem_or_eq_of_mem_set hx with h2 | rfl
 ·exact this x h2
 ·simp; omega
theorem ct_lproc_L1 (p : HP) (a : Option Addr) (ro : Bool) (c : Nat) (l : List Int) [ks : IsSl p a ro Y_int 1 l.length c (l.map int)] (b1 b2 : Nat) (z : ProcS) : ∀ (m i : Nat) (q : ProcS),8 - i = m → okS q = true → q.state = 1 →
  CtJ JUMP F_law15_proc T_law15_proc_L1 [(0,.slice a l.length c),(2,P0 b1),(3,P0 b2),(4,int i)] [pt b1 (.cells Y_api_Proc false (procL z)),pt b2 (.cells Y_api_Proc false (procL q)),p] fun v own=>(∃ f,okS f = true ∧ v = .agg ⟨procL f⟩) ∧ own [p] := by
 intro m
 induction m with
 | zero =>
  intro i q hm hq h1
  refine CtJ.of k_law15_proc fun h r=>Tr.eq (e_law15_proc_L1 ..) ?_; (try simp only[Nr,Nl,Nat.reduceAdd,Nat.reduceMul,Int.reduceToNat])
  (repeat' first|refine Gu ?_|(with_reducible first|refine Gn fun b h=>?_|rintro px rfl|refine fun(h:H)=>?_|intro hb)|refine Gs ?_|refine Gt ?_|exact Gz rfl|fail)
  refine Tr.andG (c := decide ((i : Int) < 8)) (fun hb=>?_) ?_
  ·(repeat' first|refine Gu ?_|(with_reducible first|refine Gn fun b h=>?_|apply Gx|apply Gy|rintro px rfl|refine fun(h:H)=>?_|intro hb)|refine Gs ?_|refine Gt ?_|exact Gz rfl|fail)
  refine Tr.condF (by simp; omega) ?_
  (repeat' first|refine Gu ?_|(with_reducible first|refine Gn fun b h=>?_|apply Gx|apply Gy|rintro px rfl|refine fun(h:H)=>?_|intro hb)|refine Gs ?_|refine Gt ?_|exact Gz rfl|fail)
  refine Tr.some fun o=>?_
  exact ⟨⟨q,hq,rfl⟩,o.sub⟩
 | succ m ih =>
  intro i q hm hq h1
  refine CtJ.of k_law15_proc fun h r=>Tr.eq (e_law15_proc_L1 ..) ?_; (try simp only[Nr,Nl,Nat.reduceAdd,Nat.reduceMul,Int.reduceToNat])
  (repeat' first|refine Gu ?_|(with_reducible first|refine Gn fun b h=>?_|rintro px rfl|refine fun(h:H)=>?_|intro hb)|refine Gs ?_|refine Gt ?_|exact Gz rfl|fail)
  refine Tr.andG (c := decide ((i : Int) < 8)) (fun hb=>?_) ?_
  ·(repeat' first|refine Gu ?_|(with_reducible first|refine Gn fun b h=>?_|apply Gx|apply Gy|rintro px rfl|refine fun(h:H)=>?_|intro hb)|refine Gs ?_|refine Gt ?_|exact Gz rfl|fail)
  by_cases hi : i < l.length
  ·refine Tr.condT (by simp; omega) ?_
   have hg : (l.map int)[i]? = some (int (l.getD i 0)) := by rw [List.getElem?_map,getD_get 0 hi]; rfl
   generalize l.getD i 0 = y at hg
   have e1 : IntKind.wrap .i64 ((i : Int) + 1) = ((i + 1 : Nat) : Int) := by rw [wrap_eq]; omega
   have hv : Int.tmod (bitA .i64 y 255) 13 = y % 256 % 13 := by rw [bitA_255,tmodP (by omega)]
   rw [e1]
   (repeat' first|refine Gu ?_|(with_reducible first|refine Gn fun b h=>?_|apply Gx|apply Gy|rintro px rfl|refine fun(h:H)=>?_|intro hb)|refine Gs ?_|refine Gt ?_|exact Gz rfl|fail)
   rw [Int.toNat_natCast]
   rw [hv]
   refine Gs (fun h=>?_) (by exact fdS_set q i (y % 256 % 13) (by omega))
   refine Tr.xRun (ih (i + 1) (fdS q i (y % 256 % 13)) (by omega) (fdS_ok hq h1 i (by omega)) h1) ?_
   intro v h J
   exact J
  ·refine Tr.condF (by simp; omega) ?_
   (repeat' first|refine Gu ?_|(with_reducible first|refine Gn fun b h=>?_|apply Gx|apply Gy|rintro px rfl|refine fun(h:H)=>?_|intro hb)|refine Gs ?_|refine Gt ?_|exact Gz rfl|fail)
   refine Tr.some fun o=>?_
   exact ⟨⟨q,hq,rfl⟩,o.sub⟩
theorem ct_lproc (p : HP) (a : Option Addr) (ro : Bool) (c : Nat) (l : List Int) [ks : IsSl p a ro Y_int 1 l.length c (l.map int)] : Ct CALL F_law15_proc [.slice a l.length c] [p] fun v own=>(∃ f,okS f = true ∧ v = .agg ⟨procL f⟩) ∧ own [p] := by
 refine Ct.of k_law15_proc rfl fun h r=>Tr.eq (e_law15_proc ..) ?_; (try simp only[Nr,Nl,Nat.reduceAdd,Nat.reduceMul,Int.reduceToNat])
 refine Tr.nw fun b1 h=>?_
 refine Tr.nw fun b2 h=>?_
 (repeat' first|refine Gu ?_|(with_reducible first|refine Gn fun b h=>?_|apply Gx|apply Gy|rintro px rfl|refine fun(h:H)=>?_|intro hb)|refine Gs ?_|refine Gt ?_|exact Gz rfl|fail)
 refine tr_runI (ct_lproc_L1 p a ro c l b1 b2 .zero 8 0 ⟨1,0,0,0,0,0,0,0,zero8,rfl⟩ rfl rfl rfl) [1,0,0] rfl ?_
 intro v h q
 exact q
end Go.EQ

set_option maxRecDepth 10000
namespace Go.EQ
open Go Go.NN
theorem ct_bytes_L1 (a a2 : Option Addr) (c c2 : Nat) (W V : List UInt8) (hW : W.length = 492) (hV : V.length = 492) (lo n : Nat) (hs : lo + n ≤ 492) (he : ∀ k,(k < lo ∨ lo + n ≤ k) → V[k]? = W[k]?) : ∀ (m k : Nat),k + m = 492 →
  CtJ JUMP F_law15_CommonsBytes T_law15_CommonsBytes_L1 [(13,.slice a 492 c),(14,int lo),(15,int n),(17,.slice a2 492 c2),(18,int k)] [slC false Y_uint8 1 a 492 c (byteCells W),slC false Y_uint8 1 a2 492 c2 (byteCells V)] fun v own=>v = .bool true ∧ own [] := by
 intro m
 induction m with
 | zero =>
  intro k hk
  refine CtJ.of k_law15_CommonsBytes fun h r=>Tr.eq (e_law15_CommonsBytes_L1 ..) ?_; (try simp only[Nr,Nl,Nat.reduceAdd,Nat.reduceMul,Int.reduceToNat])
  refine Tr.condF (by simp; omega) ?_
  refine Tr.xCall (ct_awake15) ?_; rintro _ h ⟨rfl,o⟩ <;> (refine (?_ : Tr _ _ _ _) o; (try simp only[Nr,Nl,Nat.reduceAdd,Nat.reduceMul,Int.reduceToNat]))
  (repeat' first|refine Gu ?_|(with_reducible first|refine Gn fun b h=>?_|apply Gx|apply Gy|rintro px rfl|refine fun(h:H)=>?_|intro hb)|refine Gs ?_|refine Gt ?_|exact Gz rfl|fail)
  refine Tr.some fun o=>?_
  exact ⟨rfl,o.tail.tail⟩
 | succ m ih =>
  intro k hk
  have e1 : IntKind.wrap .i64 ((k : Int) + 1) = ((k + 1 : Nat) : Int) := by rw [wrap_eq]; omega
  have e2 : IntKind.wrap .i64 ((lo : Int) + n) = ((lo + n : Nat) : Int) := by rw [wrap_eq]; omega
  refine CtJ.of k_law15_CommonsBytes fun h r=>Tr.eq (e_law15_CommonsBytes_L1 ..) ?_; (try simp only[Nr,Nl,Nat.reduceAdd,Nat.reduceMul,Int.reduceToNat])
  refine Tr.condT (by simp; omega) ?_
  rw [e1,e2]
  refine Tr.orG (c := decide ((k : Int) ≥ ((lo + n : Nat) : Int))) (fun hb=>?_) ?_
  ·(repeat' first|refine Gu ?_|(with_reducible first|refine Gn fun b h=>?_|apply Gx|apply Gy|rintro px rfl|refine fun(h:H)=>?_|intro hb)|refine Gs ?_|refine Gt ?_|exact Gz rfl|fail)
  by_cases h : k < lo ∨ lo + n ≤ k
  ·refine Tr.bnd (Tr.condT (by simp; omega) ?_)
   have ev : V.getD k 0 = W.getD k 0 := by rw [List.getD_eq_getElem?_getD,he k h,List.getD_eq_getElem?_getD]
   have g1 := bc_at (l := V) (i := k) (by omega)
   have g2 := bc_at (l := W) (i := k) (by omega)
   rw [ev] at g1
   generalize W.getD k 0 = y at g1 g2
   (repeat' first|refine Gu ?_|(with_reducible first|refine Gn fun b h=>?_|rintro px rfl|refine fun(h:H)=>?_|intro hb)|refine Gs ?_|refine Gt ?_|exact Gz rfl|fail)
   rw [bne_self_eq_false]
   refine Tr.some fun o=>(?_ : Tr _ _ _ _) o; (try simp only[Nr,Nl,Nat.reduceAdd,Nat.reduceMul,Int.reduceToNat])
   refine Tr.condF rfl ?_
   refine tr_runI (ih (k + 1) (by omega)) [0,0] rfl ?_
   intro v h q
   exact q
  ·refine Tr.bnd (Tr.condF (by simp; omega) ?_)
   refine Tr.some fun o=>(?_ : Tr _ _ _ _) o; (try simp only[Nr,Nl,Nat.reduceAdd,Nat.reduceMul,Int.reduceToNat])
   refine Tr.condF rfl ?_
   refine tr_runI (ih (k + 1) (by omega)) [0,0] rfl ?_
   intro v h q
   exact q
theorem ct_bytes_R1 (c k : Nat) (X : CX) (a : Option Addr) (d : Nat) (W : List UInt8) (hW : W.length = 492) (hV : (X.m.getD 0 []).length = 492) (lo n : Nat) (hs : lo + n ≤ 492) (he : ∀ k,(k < lo ∨ lo + n ≤ k) → (X.m.getD 0 [])[k]? = W[k]?) :
  CtJ JUMP F_law15_CommonsBytes T_law15_CommonsBytes_R1 [(10,P0 c),(13,.slice a 492 d),(14,int lo),(15,int n),(16,.bool true)] [slC false Y_uint8 1 a 492 d (byteCells W),cmC c k F0 X] fun v own=>v = .bool true ∧ own [] := by
 refine CtJ.of k_law15_CommonsBytes fun h r=>Tr.eq (e_law15_CommonsBytes_R1 ..) ?_; (try simp only[Nr,Nl,Nat.reduceAdd,Nat.reduceMul,Int.reduceToNat])
 refine Tr.xCall (ct_cView c k F0 X F0_ok) ?_; rintro _ h ⟨a2,c2,rfl,o⟩ <;> (refine (?_ : Tr _ _ _ _) o; (try simp only[Nr,Nl,Nat.reduceAdd,Nat.reduceMul,Int.reduceToNat]))
 rw [hV]
 (repeat' first|refine Gu ?_|(with_reducible first|refine Gn fun b h=>?_|rintro px rfl|refine fun(h:H)=>?_|intro hb)|refine Gs ?_|refine Gt ?_|exact Gz rfl|fail)
 refine Tr.bnd (Tr.condF rfl ?_)
 refine Tr.some fun o=>(?_ : Tr _ _ _ _) o; (try simp only[Nr,Nl,Nat.reduceAdd,Nat.reduceMul,Int.reduceToNat])
 refine Tr.bnd (Tr.condF rfl ?_)
 refine Tr.some fun o=>(?_ : Tr _ _ _ _) o; (try simp only[Nr,Nl,Nat.reduceAdd,Nat.reduceMul,Int.reduceToNat])
 refine Tr.condF rfl ?_
 refine tr_runI (ct_bytes_L1 a a2 d c2 W (X.m.getD 0 []) hW hV lo n hs he 492 0 rfl) [2,0] rfl ?_
 intro v h q
 exact ⟨q.1,q.2.tail⟩
theorem wrX_view {X : CX} {rc : RecS} {a n : Nat} {b : List UInt8} (hp : placeX X.m.length rc = some (0,a,n)) (hb : X.bad = []) (hm : 0 < X.m.length) : (wrX X rc b true).1 = true ∧ (wrX X rc b true).2.m.getD 0 [] = splice (X.m.getD 0 []) a b := by
 unfold wrX
 rw [hp]
 simp only [hb,List.not_mem_nil,not_false_eq_true,and_self,if_true,true_and]
 rw [List.getD_eq_getElem?_getD,List.getElem?_set_self hm]; rfl
theorem splice_out {l b : List UInt8} {a n : Nat} (hb : b.length = n) (h : a + n ≤ l.length) : ∀ k,(k < a ∨ a + n ≤ k) → (splice l a b)[k]? = l[k]? := fun k hk=>by
 rw [splice_get (by omega),if_neg (by omega)]
theorem bytes_ok {rc : RecS} {a n : Nat} {b : List UInt8} (hp : placeX 3 rc = some (0,a,n)) (hb : b.length = n) (hn : a + n ≤ 492) :
  (wrX X0 rc b true).1 = true ∧ ((wrX X0 rc b true).2.m.getD 0 []).length = 492 ∧ ∀ k,(k < a ∨ a + n ≤ k) → ((wrX X0 rc b true).2.m.getD 0 [])[k]? = (X0.m.getD 0 [])[k]? := by
 have hl : (X0.m.getD 0 []).length = 492 := x0_v
 obtain ⟨h1,h2⟩ := wrX_view (X := X0) (b := b) hp rfl (by show 0 < 3; omega)
 rw [h2]
 exact ⟨h1,by rw [splice_len (by omega)]; exact hl,splice_out hb (by omega)⟩
theorem ct_CommonsBytes (kind i x : Int) (p : HP) (a : Option Addr) (ro : Bool) (cc : Nat) (l : List Int) [ks : IsSl p a ro Y_int 1 l.length cc (l.map int)] :
  Ct CALL F_law15_CommonsBytes [int kind,int i,.slice a l.length cc,int x] [p] fun v own=>v = .bool true ∧ own [] := by
 refine Ct.of k_law15_CommonsBytes rfl fun h r=>Tr.eq (e_law15_CommonsBytes ..) ?_; (try simp only[Nr,Nl,Nat.reduceAdd,Nat.reduceMul,Int.reduceToNat])
 simp only [bitA_3,bitA_7,bitA_255]
 refine Tr.xCall (ct_lPlan) ?_; rintro _ h ⟨A,rfl,o⟩ <;> (refine (?_ : Tr _ _ _ _) o; (try simp only[Nr,Nl,Nat.reduceAdd,Nat.reduceMul,Int.reduceToNat]))
 (repeat' first|refine Gu ?_|(with_reducible first|refine Gn fun b h=>?_|apply Gx|apply Gy|rintro px rfl|refine fun(h:H)=>?_|intro hb)|refine Gs ?_|refine Gt ?_|exact Gz rfl|fail)
 refine Tr.xCall (ct_OpenX A) ?_
 rintro _ h ⟨k,c,w,m,rfl,o⟩
 refine (?_ : Tr _ _ _ _) o
 (try simp only[Nr,Nl,Nat.reduceAdd,Nat.reduceMul,Int.reduceToNat])
 (repeat' first|refine Gu ?_|(with_reducible first|refine Gn fun b h=>?_|apply Gx|apply Gy|rintro px rfl|refine fun(h:H)=>?_|intro hb)|refine Gs ?_|refine Gt ?_|exact Gz rfl|fail)
 refine Tr.xCall (ct_cView c k F0 X0 F0_ok) ?_; rintro _ h ⟨a1,c1,rfl,o⟩ <;> (refine (?_ : Tr _ _ _ _) o; (try simp only[Nr,Nl,Nat.reduceAdd,Nat.reduceMul,Int.reduceToNat]))
 rw [x0_v]
 (repeat' first|refine Gu ?_|(with_reducible first|refine Gn fun b h=>?_|apply Gx|apply Gy|rintro px rfl|refine fun(h:H)=>?_|intro hb)|refine Gs ?_|refine Gt ?_|exact Gz rfl|fail)
 rw [tmodP (show 0 ≤ i % 256 by omega)]
 by_cases h0 : kind % 4 = 0
 ·refine Tr.condT (by simpa using h0) ?_
  refine Tr.xCall (ct_lproc p a ro cc l) ?_; rintro _ h ⟨⟨f,hf,rfl⟩,o⟩ <;> (refine (?_ : Tr _ _ _ _) o; (try simp only[Nr,Nl,Nat.reduceAdd,Nat.reduceMul,Int.reduceToNat]))
  (repeat' first|refine Gu ?_|(with_reducible first|refine Gn fun b h=>?_|apply Gx|apply Gy|rintro px rfl|refine fun(h:H)=>?_|intro hb)|refine Gs ?_|refine Gt ?_|exact Gz rfl|fail)
  refine Tr.xCall (ct_cSetProc c k F0 X0 F0_ok (i % 8) f) ?_; rintro _ h ⟨rfl,o⟩ <;> (refine (?_ : Tr _ _ _ _) o; (try simp only[Nr,Nl,Nat.reduceAdd,Nat.reduceMul,Int.reduceToNat]))
  obtain ⟨b1,b2,b3⟩ := bytes_ok (rc := ⟨1,i % 8⟩) (a := 24 * (i % 8).toNat) (n := 24) (b := encS f) (by unfold placeX mostX; rw [if_neg (by simp; omega)]; rfl) (encS_len f) (by omega)
  unfold setProcX
  rw [hf,b1]
  (repeat' first|refine Gu ?_|(with_reducible first|refine Gn fun b h=>?_|apply Gx|apply Gy|rintro px rfl|refine fun(h:H)=>?_|intro hb)|refine Gs ?_|refine Gt ?_|exact Gz rfl|fail)
  rw [show IntKind.wrap .i64 (24 * (i % 8)) = ((24 * (i % 8).toNat : Nat) : Int) by rw [wrap_eq]; omega]
  refine tr_runI (ct_bytes_R1 c k _ a1 c1 _ x0_v b2 (24 * (i % 8).toNat) 24 (by omega) b3) [2,0] rfl ?_
  intro v h q
  exact ⟨q.1,q.2.tail.tail.tail⟩
 refine Tr.condF (by simpa using h0) ?_
 by_cases h1 : kind % 4 = 1
 ·refine Tr.condT (by simpa using h1) ?_
  refine Tr.xCall (ct_aFile x) ?_; rintro _ h ⟨⟨f,hf,rfl⟩,o⟩ <;> (refine (?_ : Tr _ _ _ _) o; (try simp only[Nr,Nl,Nat.reduceAdd,Nat.reduceMul,Int.reduceToNat]))
  (repeat' first|refine Gu ?_|(with_reducible first|refine Gn fun b h=>?_|apply Gx|apply Gy|rintro px rfl|refine fun(h:H)=>?_|intro hb)|refine Gs ?_|refine Gt ?_|exact Gz rfl|fail)
  refine Tr.xCall (ct_cSetFile c k F0 X0 F0_ok (i % 256 % 12) f) ?_; rintro _ h ⟨rfl,o⟩ <;> (refine (?_ : Tr _ _ _ _) o; (try simp only[Nr,Nl,Nat.reduceAdd,Nat.reduceMul,Int.reduceToNat]))
  obtain ⟨b1,b2,b3⟩ := bytes_ok (rc := ⟨2,i % 256 % 12⟩) (a := 192 + 8 * (i % 256 % 12).toNat) (n := 8) (b := encF f) (by unfold placeX mostX; rw [if_neg (by simp; omega)]; rfl) (encF_len f) (by omega)
  unfold setFileX
  rw [hf,b1]
  (repeat' first|refine Gu ?_|(with_reducible first|refine Gn fun b h=>?_|apply Gx|apply Gy|rintro px rfl|refine fun(h:H)=>?_|intro hb)|refine Gs ?_|refine Gt ?_|exact Gz rfl|fail)
  rw [show IntKind.wrap .i64 (192 + IntKind.wrap .i64 (8 * (i % 256 % 12))) = ((192 + 8 * (i % 256 % 12).toNat : Nat) : Int) by rw [wrap_eq,wrap_eq]; omega]
  refine tr_runI (ct_bytes_R1 c k _ a1 c1 _ x0_v b2 (192 + 8 * (i % 256 % 12).toNat) 8 (by omega) b3) [1,0] rfl ?_
  intro v h q
  exact ⟨q.1,q.2.tail.tail.tail⟩
 refine Tr.condF (by simpa using h1) ?_
 by_cases h2 : kind % 4 = 2
 ·refine Tr.condT (by simpa using h2) ?_
  refine tr_nilSl false Y_uint8 1 (by omega) ?_
  rw [show ([] : List Value) = byteCells [] from rfl]
  refine Tr.xCall (ct_aPipe x (slC false Y_uint8 1 none 0 0 (byteCells [])) none false 0 0 [] rfl) ?_; rintro _ h ⟨⟨f,hf,rfl⟩,o⟩ <;> (refine (?_ : Tr _ _ _ _) o; (try simp only[Nr,Nl,Nat.reduceAdd,Nat.reduceMul,Int.reduceToNat]))
  (repeat' first|refine Gu ?_|(with_reducible first|refine Gn fun b h=>?_|apply Gx|apply Gy|rintro px rfl|refine fun(h:H)=>?_|intro hb)|refine Gs ?_|refine Gt ?_|exact Gz rfl|fail)
  refine Tr.xCall (ct_cSetPipe c k F0 X0 F0_ok (i % 4) f) ?_; rintro _ h ⟨rfl,o⟩ <;> (refine (?_ : Tr _ _ _ _) o; (try simp only[Nr,Nl,Nat.reduceAdd,Nat.reduceMul,Int.reduceToNat]))
  obtain ⟨b1,b2,b3⟩ := bytes_ok (rc := ⟨3,i % 4⟩) (a := 288 + 40 * (i % 4).toNat) (n := 40) (b := encP f) (by unfold placeX mostX; rw [if_neg (by simp; omega)]; simp; omega) (encP_len f.len) (by omega)
  unfold setPipeX
  rw [hf,b1]
  (repeat' first|refine Gu ?_|(with_reducible first|refine Gn fun b h=>?_|apply Gx|apply Gy|rintro px rfl|refine fun(h:H)=>?_|intro hb)|refine Gs ?_|refine Gt ?_|exact Gz rfl|fail)
  rw [show IntKind.wrap .i64 (288 + IntKind.wrap .i64 (40 * (i % 4))) = ((288 + 40 * (i % 4).toNat : Nat) : Int) by rw [wrap_eq,wrap_eq]; omega]
  refine tr_runI (ct_bytes_R1 c k _ a1 c1 _ x0_v b2 (288 + 40 * (i % 4).toNat) 40 (by omega) b3) [2,0] rfl ?_
  intro v h q
  exact ⟨q.1,q.2.tail.tail.tail.tail⟩
 refine Tr.condF (by simpa using h2) ?_
 refine Tr.xCall (ct_cSetFront c k F0 X0 F0_ok (i % 8)) ?_; rintro _ h ⟨rfl,o⟩ <;> (refine (?_ : Tr _ _ _ _) o; (try simp only[Nr,Nl,Nat.reduceAdd,Nat.reduceMul,Int.reduceToNat]))
 obtain ⟨b1,b2,b3⟩ := bytes_ok (rc := ⟨5,0⟩) (a := 488) (n := 4) (b := frontB (i % 8)) rfl rfl (by omega)
 unfold setFrontX
 rw [show decide (0 ≤ i % 8 ∧ i % 8 < 8) = true from decide_eq_true (by omega),b1]
 (repeat' first|refine Gu ?_|(with_reducible first|refine Gn fun b h=>?_|apply Gx|apply Gy|rintro px rfl|refine fun(h:H)=>?_|intro hb)|refine Gs ?_|refine Gt ?_|exact Gz rfl|fail)
 refine tr_runI (ct_bytes_R1 c k _ a1 c1 _ x0_v b2 488 4 (by omega) b3) [1,0] rfl ?_
 intro v h q
 exact ⟨q.1,q.2.tail.tail.tail⟩
end Go.EQ

set_option maxRecDepth 100000
namespace Go.EQ
open Go Go.NN Go.Proofs Go.ChangeShapes Go.WideShapes Go.RowKit
theorem noGlobs : ∀ f,(cutsOf f).globs = 0 := cutsAt_globs cutsL (by kernel_rfl)
theorem globsOk : ∀ f,(cutsOf f).globs ≤ PR.globals.size := fun f=>by rw [noGlobs f]; exact Nat.zero_le _
theorem mixedOk : PR.follows .mixedOrders = true := by kernel_rfl
theorem laidOk : laidOutB PR = true := by kernel_rfl
theorem ownOk : ownKnob PR.godebug = none := by kernel_rfl
end Go.EQ

set_option maxRecDepth 100000
namespace Go.EQ
open Go Go.NN Go.Proofs Go.Proofs.YthhmplobccgeiaaGreat Go.ChangeShapes Go.WideShapes Go.RowKit
theorem byCalls {H : Type} {enc : TypeId × Value → H} {W : World} {v0 v1 v2 v3 : Value} {d0 d1 d2 d3 : DataW H} {p0 p1 p2 p3 : List MemPlace} {b0 : Nat} (k0 : Value.okWide PR W .any b0 Y_int v0) (k1 : Value.okWide PR W .any b0 Y_int v1) (k2 : Value.okWide PR W .any b0 Y_s_int v2) (k3 : Value.okWide PR W .any b0 Y_int v3)
  (h0 : DataW.Trod enc PR W 0 (fun _=>true) true Y_int v0 d0 p0) (h1 : DataW.Trod enc PR W 0 (fun _=>true) true Y_int v1 d1 p1) (h2 : DataW.Trod enc PR W 0 (fun _=>true) true Y_s_int v2 d2 p2) (h3 : DataW.Trod enc PR W 0 (fun _=>true) true Y_int v3 d3 p3) :
  Calls PR F_law15_CommonsBytes #[v0,v1,v2,v3] W fun e W'=>e = .returned (.bool true) ∧ Below W.heap.size W W' := by
 obtain ⟨x0,_,i0⟩ := ImpT.argInt u_int k0 h0
 obtain ⟨x1,_,i1⟩ := ImpT.argInt u_int k1 h1
 obtain ⟨l,hl,i2⟩ := (ImpT.ints (P := PR) (W := W) Y_int u_s_int u_int (by kernel_rfl)).arg (cells_slice u_s_int k2) h2
 obtain ⟨x3,_,i3⟩ := ImpT.argInt u_int k3 h3
 refine (i0.app (i1.app (i2.app i3))).run mixedOk globsOk fun vs ps J hh r o=>?_
 obtain ⟨_,_,_,_,hv,hp,⟨e1,e2⟩,_,_,_,_,e3,e4,⟨e5,e6⟩,_,_,_,_,e7,e8,⟨⟨a,c⟩,e9,e10⟩,e11,e12⟩ := J
 subst e1 e2 e5 e6 e9 e10 e11 e12 e7 e8 e3 e4 hv hp
 obtain ⟨v,h',e,rfl,_⟩ := ct_CommonsBytes x0 x1 x3 (slC true Y_int 1 a l.length c (l.map int)) a true c l hh r o
 exact ⟨h',e⟩
theorem byLifted (os : Os) (started : os.Started) (H : Type) (enc : TypeId × Value → H) :
  ReturnsInHanded {} Tryz.checked os F_law15_CommonsBytes .any (Rows.commonsBytesSpec.pre6 enc Tryz.prog Tryz.f5 Rows.commonsBytesRow.domain false) (Rows.commonsBytesSpec.post enc Tryz.prog Tryz.f5 false true false false) := by
 refine returnsInHanded_of_change (C := Tryz.checked) ownOk started (by kernel_rfl) Tryz.func5
  (ChangeSpec.witness6 (enc := enc) (C := Tryz.checked) false ⟨#[],#[.int .i64 0,.int .i64 0,.slice none 0 0,.int .i64 0],[]⟩ 8 (by kernel_rfl) (by kernel_rfl) (by kernel_rfl) (by kernel_rfl)) ?_
 intro W base args ds gs before hval hW hcnd _
 have hW' := hW
 obtain ⟨p,q,hA,hV,rfl,hfz,hnd⟩ := hW
 rw [Tryz.params5] at hA hval
 obtain ⟨v0,v1,v2,v3,d0,d1,d2,d3,p0,p1,p2,p3,rfl,rfl,rfl,h0,h1,h2,h3⟩ := trodAll_four hA
 refine (byCalls (hval 0 _ v0 rfl rfl) (hval 1 _ v1 rfl rfl) (hval 2 _ v2 rfl rfl) (hval 3 _ v3 rfl rfl) h0 h1 h2 h3).mono fun e W' ⟨he,hb⟩=>?_
 subst he
 refine ⟨_,rfl,post_true laidOk ?_ rfl u_bool rfl (fun ds gs hl=>?_) hW' hb⟩
 ·rw [Tryz.params5]; intro t ht; simp at ht; rcases ht with rfl | rfl | rfl <;> exact ⟨by kernel_rfl,of_decide_eq_true (by kernel_rfl)⟩
 ·replace hl : ds.length = 4 := hl
  cases gs with
  | cons _ _=>exact .inr (by simp)
  | nil=>match ds,hl with | [_,_,_,_],_=>exact .inl rfl
theorem CommonsBytes_holds : Rows.CommonsBytesSaid :=
 OpenClaim.holds_of_wide F_law15_CommonsBytes Tryz.f5 rfl rfl rfl rfl rfl rfl rfl ⟨rfl,rfl,rfl,rfl,rfl⟩ rfl rfl rfl rfl rfl (by kernel_rfl) Tryz.func5 (by kernel_rfl)
  (of_decide_eq_true (by kernel_rfl)) (by unfold Func.isWrapper; first | (rw [if_pos (by decide +kernel)]; kernel_rfl) | (rw [if_neg (by decide +kernel)]; exact ⟨rfl,rfl⟩))
  (fun os started H enc _=>byLifted os started H enc)
end Go.EQ

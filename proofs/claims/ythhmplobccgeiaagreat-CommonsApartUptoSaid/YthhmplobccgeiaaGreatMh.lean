/- The commons: what one holds for bad another one does not; one record set changes no other -/
import Derived.Test.YthhmplobccgeiaaGreatMg
import Derived.KernelRfl
import Derived.Test.YthhmplobccgeiaaGreatRows
import Derived.JoinedCond
set_option linter.unusedVariables false
set_option linter.unusedSimpArgs false
set_option linter.unusedSectionVars false
set_option maxRecDepth 10000
namespace Go.EQ
open Go Go.NN
theorem ct_kSpaceP (k : Nat) (S : KS) (A : KA) : CtP CALL F_kern_Kern_Space [P0 k] [pt k (.cells Y_kern_Kern false (kernL S A))] (P0 A.s) := by
 refine CtP.of k_kern_Kern_Space rfl fun h r=>Tr.eq (e_kern_Kern_Space ..) ?_; (try simp only[Nr,Nl,Nat.reduceAdd,Nat.reduceMul,Int.reduceToNat])
 (repeat' first|refine Gu ?_|(with_reducible first|refine Gn fun b h=>?_|apply Gx|apply Gy|rintro px rfl|refine fun(h:H)=>?_|intro hb)|refine Gs ?_|refine Gt ?_|exact Gz rfl|fail)
theorem ct_cNew (k : Nat) (S : KS) (N : Nat) (ok : KOk N S) (env : Int) : Ct CALL F_commons_New [P0 k,int env] [kernC k S] fun v own =>
  (spNames S.tabs env ≠ [] ∧ ∃ c,v = .tuple ⟨[P0 c,int 0]⟩ ∧ own [comC c k env (spNames S.tabs env) [],kernC k S]) ∨ (spNames S.tabs env = [] ∧ v = .tuple ⟨[.pointer none,int 1]⟩ ∧ own [kernC k S]) := by
 refine Ct.of k_commons_New rfl fun h r=>Tr.eq (e_commons_New ..) ?_; (try simp only[Nr,Nl,Nat.reduceAdd,Nat.reduceMul,Int.reduceToNat])
 refine tr_open (kernC k S) fun ⟨m,s,q,rg,ea,ec,ma,mc,ms,sa,sc,ss⟩=>?_; (try simp only[Nr,Nl,Nat.reduceAdd,Nat.reduceMul,Int.reduceToNat])
 (repeat' first|refine Gu ?_|(with_reducible first|refine Gn fun b h=>?_|rintro px rfl|refine fun(h:H)=>?_|intro hb)|refine Gs ?_|refine Gt ?_|exact Gz rfl|fail)
 refine Tr.bnd (Tr.condF rfl ?_)
 refine Tr.pcall (ct_kSpaceP k S ⟨m,s,q,rg,ea,ec,ma,mc,ms,sa,sc,ss⟩) ?_; (try simp only[Nr,Nl,Nat.reduceAdd,Nat.reduceMul,Int.reduceToNat]); (repeat' first|refine Gu ?_|(with_reducible first|refine Gn fun b h=>?_|apply Gx|apply Gy|rintro px rfl|refine fun(h:H)=>?_|intro hb)|refine Gs ?_|refine Gt ?_|exact Gz rfl|fail)
 try dsimp only
 refine Tr.xCall (ct_spNames s S.tabs env ok.space) ?_; rintro _ h ⟨a0,c0,rfl,o⟩ <;> (refine (?_ : Tr _ _ _ _) o; (try simp only[Nr,Nl,Nat.reduceAdd,Nat.reduceMul,Int.reduceToNat]))
 (repeat' first|refine Gu ?_|(with_reducible first|refine Gn fun b h=>?_|apply Gx|apply Gy|rintro px rfl|refine fun(h:H)=>?_|intro hb)|refine Gs ?_|refine Gt ?_|exact Gz rfl|fail)
 refine Tr.some fun o=>(?_ : Tr _ _ _ _) o; (try simp only[Nr,Nl,Nat.reduceAdd,Nat.reduceMul,Int.reduceToNat])
 by_cases hz : spNames S.tabs env = []
 ·refine Tr.condT (by simp [hz]) ?_
  refine tr_fold (kernC k S) ⟨m,s,q,rg,ea,ec,ma,mc,ms,sa,sc,ss⟩ ?_; (try simp only[Nr,Nl,Nat.reduceAdd,Nat.reduceMul,Int.reduceToNat])
  refine Tr.some fun o=>?_
  exact .inr ⟨hz,rfl,o.sub⟩
 ·refine Tr.condF ?_ ?_
  ·rw [beq_eq_false_iff_ne]
   intro h0
   exact hz (List.eq_nil_of_length_eq_zero (by omega))
  refine Tr.pcall (ct_kSpaceP k S ⟨m,s,q,rg,ea,ec,ma,mc,ms,sa,sc,ss⟩) ?_; (try simp only[Nr,Nl,Nat.reduceAdd,Nat.reduceMul,Int.reduceToNat]); (repeat' first|refine Gu ?_|(with_reducible first|refine Gn fun b h=>?_|apply Gx|apply Gy|rintro px rfl|refine fun(h:H)=>?_|intro hb)|refine Gs ?_|refine Gt ?_|exact Gz rfl|fail)
  try dsimp only
  refine Tr.xCall (ct_spNames s S.tabs env ok.space) ?_; rintro _ h ⟨a1,c1,rfl,o⟩ <;> (refine (?_ : Tr _ _ _ _) o; (try simp only[Nr,Nl,Nat.reduceAdd,Nat.reduceMul,Int.reduceToNat]))
  (repeat' first|refine Gu ?_|(with_reducible first|apply Gx|apply Gy|rintro px rfl|refine fun(h:H)=>?_|intro hb)|refine Gs ?_|refine Gt ?_|exact Gz rfl|fail)
  refine Tr.nw fun mb h=>?_
  refine Tr.nw fun c h=>?_
  refine tr_fold (kernC k S) ⟨m,s,q,rg,ea,ec,ma,mc,ms,sa,sc,ss⟩ ?_; (try simp only[Nr,Nl,Nat.reduceAdd,Nat.reduceMul,Int.reduceToNat])
  refine tr_foldI (comC c k env (spNames S.tabs env) []) (a1,c1,mb) [1,2,1] rfl ?_; (try simp only[Nr,Nl,Nat.reduceAdd,Nat.reduceMul,Int.reduceToNat])
  refine Tr.some fun o=>?_
  exact .inl ⟨hz,c,rfl,o.sub⟩
theorem ct_cNew0 (env : Int) : Ct CALL F_commons_New [.pointer none,int env] [] fun v own=>v = .tuple ⟨[.pointer none,int 1]⟩ ∧ own [] := by
 refine Ct.of k_commons_New rfl fun h r=>Tr.eq (e_commons_New ..) ?_; (try simp only[Nr,Nl,Nat.reduceAdd,Nat.reduceMul,Int.reduceToNat])
 (repeat' first|refine Gu ?_|(with_reducible first|refine Gn fun b h=>?_|rintro px rfl|refine fun(h:H)=>?_|intro hb)|refine Gs ?_|refine Gt ?_|exact Gz rfl|fail)
 refine Tr.bnd (Tr.condT rfl ?_)
 refine Tr.some fun o=>(?_ : Tr _ _ _ _) o; (try simp only[Nr,Nl,Nat.reduceAdd,Nat.reduceMul,Int.reduceToNat])
 (repeat' first|refine Gu ?_|(with_reducible first|refine Gn fun b h=>?_|apply Gx|apply Gy|rintro px rfl|refine fun(h:H)=>?_|intro hb)|refine Gs ?_|refine Gt ?_|exact Gz rfl|fail)
 refine Tr.some fun o=>?_
 exact ⟨rfl,o.sub⟩
def planP : PlanS := ⟨[false,false],[(0,1),(1,0)],5⟩
theorem ct_lPlan : Ct CALL F_law15_Plan [] [] fun v own=>∃ A,v = .agg ⟨planL planP A⟩ ∧ own (planF planP A) := by
 refine Ct.of k_law15_Plan rfl fun h r=>Tr.eq (e_law15_Plan ..) ?_; (try simp only[Nr,Nl,Nat.reduceAdd,Nat.reduceMul,Int.reduceToNat])
 (repeat' first|refine Gu ?_|(with_reducible first|apply Gx|apply Gy|rintro px rfl|refine fun(h:H)=>?_|intro hb)|refine Gs ?_|refine Gt ?_|exact Gz rfl|fail)
 refine Tr.nw fun b h=>?_
 refine Tr.nw fun b1 h=>?_
 refine Tr.nw fun b2 h=>?_
 (repeat' first|refine Gu ?_|(with_reducible first|refine Gn fun b h=>?_|apply Gx|apply Gy|rintro px rfl|refine fun(h:H)=>?_|intro hb)|refine Gs ?_|refine Gt ?_|exact Gz rfl|fail)
 refine tr_asSl 0 rfl 2 2 rfl (by omega) ?_
 refine tr_asSl 1 rfl 1 2 rfl (by omega) ?_
 (try simp only[Nr,Nl,Nat.reduceAdd,Nat.reduceMul,Int.reduceToNat])
 refine Tr.some fun o=>?_
 exact ⟨⟨some ⟨b1,0,none⟩,2,some ⟨b2,0,none⟩,2⟩,rfl,(show Own h (slC false Y_api_Bridge 2 (some ⟨b2,0,none⟩) planP.brs.length 2 (planP.brs.flatMap brL) :: slC false Y_bool 1 (some ⟨b1,0,none⟩) planP.bad.length 2 (planP.bad.map Value.bool) :: _) from o).sub⟩
def bootP : BootS := bootOf planP
theorem bootP_ok : bootOk bootP = true := by kernel_rfl
theorem bootP_small : Small bootP := by
 have e : bootP = ⟨[20,20],[0,0,0,0,0,0,0,0,0,1,1,1,1,1,1,1,1,1],[[0],[1]],5,[⟨0,0,0,492,[0]⟩,⟨1,0,0,492,[1]⟩,⟨0,8,0,40,[0,1]⟩,⟨1,9,0,40,[1,0]⟩]⟩ := by kernel_rfl
 rw [e]
 exact ⟨by simp [most],by simp [most],by simp [most]⟩
theorem bootP_eq : bootP = ⟨[20,20],[0,0,0,0,0,0,0,0,0,1,1,1,1,1,1,1,1,1],[[0],[1]],5,[⟨0,0,0,492,[0]⟩,⟨1,0,0,492,[1]⟩,⟨0,8,0,40,[0,1]⟩,⟨1,9,0,40,[1,0]⟩]⟩ := by kernel_rfl
theorem bootP_r : RBoot bootP (qNew bootP.frames) := by
 rw [bootP_eq]
 refine ⟨by simp,by simp,by simp,fun x hx=>?_,fun x hx=>?_⟩
 ·simp only [List.mem_cons,List.not_mem_nil,or_false] at hx
  rcases hx with rfl | rfl | rfl | rfl <;> simp [most]
 ·simp only [List.mem_cons,List.not_mem_nil,or_false] at hx
  rcases hx with rfl | rfl | rfl | rfl <;> simp [qNew]
def S00 : KS := kNew bootP
theorem S00_ok : KOk 0 S00 := kNew_ok bootP_ok bootP_small
def wrS (S : KS) (cap : Int) (b : List UInt8) : KS := (kAns S 0 ⟨2,cap,0,0,0,0,b⟩).2
def S0 : KS := wrS S00 256 blankB
theorem S0_e : (kAns S00 0 ⟨2,256,0,0,0,0,blankB⟩).1.1 = 0 := by kernel_rfl
theorem caps0 : spNames S00.tabs 0 = [256,257,258] := by kernel_rfl
def wrR (K : RKS) (cap : Int) (b : List UInt8) : RKS := { K with R := (rWrite K.R 0 cap 0 b).2 }
def K0 : RKS := wrR (rNew bootP) 256 blankB
end Go.EQ

set_option maxRecDepth 10000
namespace Go.EQ
open Go Go.NN
theorem rk0_ok : RKOk (rNew bootP) ∧ (rNew bootP).B = bootP := rNew_ok (by rw [bootP_eq]; simp) (by rw [bootP_eq]; simp)
theorem wrR_ok {K : RKS} (k : RKOk K) (cap : Int) (b : List UInt8) : RKOk (wrR K cap b) := rDoW_ok k 0 cap 0 b
theorem rcaps_ne : rCaps K0 0 ≠ [] := by
 have : rCaps K0 0 = [256,257,258] := by kernel_rfl
 rw [this]; simp
theorem blankB_len : blankB.length = 492 := by kernel_rfl
theorem tr_open1 {l : List HP} {h : H} {α : Type} {Q : α → H → Prop} {x : Option (α × H)} (i : Nat) {b n : Nat} {cs : List Value} (hi : l[i]? = some (pt b (.cells Y_uint8 false cs))) (hn : cs.length = n) (t : Tr (l.set i (slC false Y_uint8 1 (some (openAt b)) n n cs)) h x Q) : Tr l h x Q := fun o=>by
 refine t (Own.back (h := h) hi ?_)
 have o1 := o.front hi
 refine Own.slShut (pre := []) (post := []) (by simpa using o1) ⟨by omega,Nat.le_refl _,by simp,by simp,by simp,by omega,by simp⟩
theorem ct_Open (A : PlA) : Ct CALL F_law15_Open [.agg ⟨planL planP A⟩] (planF planP A) fun v own =>
  ∃ k c w m,v = .tuple ⟨[P0 k,P0 c,P0 w,P0 m]⟩ ∧ own [kernC k S0,comC c k 0 [256,257,258] [],rkC w K0,rcC m w 0 (rCaps K0 0) []] := by
 have hB : bootOf planP = bootP := rfl
 obtain ⟨ba,bc,ra,rc⟩ := A
 refine Ct.of k_law15_Open rfl fun h r=>Tr.eq (e_law15_Open ..) ?_; (try simp only[Nr,Nl,Nat.reduceAdd,Nat.reduceMul,Int.reduceToNat])
 refine Tr.nw fun b0 h=>?_
 (repeat' first|refine Gu ?_|(with_reducible first|refine Gn fun b h=>?_|apply Gx|apply Gy|rintro px rfl|refine fun(h:H)=>?_|intro hb)|refine Gs ?_|refine Gt ?_|exact Gz rfl|fail)
 refine Tr.xCall (ct_Boot planP ⟨ba,bc,ra,rc⟩ (by simp [planP]) (by simp [planP])) ?_; rintro _ h ⟨A,kA,rfl,o⟩ <;> (refine (?_ : Tr _ _ _ _) o; (try simp only[Nr,Nl,Nat.reduceAdd,Nat.reduceMul,Int.reduceToNat]))
 rw [hB] at kA ⊢
 obtain ⟨fa,fc,ea,ec,sa,sc,ss,ha,hc,hs⟩ := A
 (repeat' first|refine Gu ?_|(with_reducible first|apply Gx|apply Gy|rintro px rfl|refine fun(h:H)=>?_|intro hb)|refine Gs ?_|refine Gt ?_|exact Gz rfl|fail)
 refine Tr.nw fun b1 h=>?_
 (repeat' first|refine Gu ?_|(with_reducible first|refine Gn fun b h=>?_|apply Gx|apply Gy|rintro px rfl|refine fun(h:H)=>?_|intro hb)|refine Gs ?_|refine Gt ?_|exact Gz rfl|fail)
 have J := ct_New false bootP ⟨fa,fc,ea,ec,sa,sc,ss,ha,hc,hs⟩ kA bootP_small
 simp only [bootP_ok,if_true] at J
 refine Tr.xCall (J) ?_; rintro _ h ⟨k,rfl,o⟩ <;> (refine (?_ : Tr _ _ _ _) o; (try simp only[Nr,Nl,Nat.reduceAdd,Nat.reduceMul,Int.reduceToNat]))
 (repeat' first|refine Gu ?_|(with_reducible first|refine Gn fun b h=>?_|rintro px rfl|refine fun(h:H)=>?_|intro hb)|refine Gs ?_|refine Gt ?_|exact Gz rfl|fail)
 refine Tr.bnd (Tr.condF rfl ?_)
 refine Tr.some fun o=>(?_ : Tr _ _ _ _) o; (try simp only[Nr,Nl,Nat.reduceAdd,Nat.reduceMul,Int.reduceToNat])
 refine Tr.condF rfl ?_
 (repeat' first|refine Gu ?_|(with_reducible first|refine Gn fun b h=>?_|apply Gx|apply Gy|rintro px rfl|refine fun(h:H)=>?_|intro hb)|refine Gs ?_|refine Gt ?_|exact Gz rfl|fail)
 refine Tr.xCall (ct_rNewKern bootP ⟨fa,fc,ea,ec,sa,sc,ss,ha,hc,hs⟩ kA (by rw [bootP_eq]; simp) bootP_r) ?_; rintro _ h ⟨w,rfl,o⟩ <;> (refine (?_ : Tr _ _ _ _) o; (try simp only[Nr,Nl,Nat.reduceAdd,Nat.reduceMul,Int.reduceToNat]))
 (repeat' first|refine Gu ?_|(with_reducible first|refine Gn fun b h=>?_|apply Gx|apply Gy|rintro px rfl|refine fun(h:H)=>?_|intro hb)|refine Gs ?_|refine Gt ?_|exact Gz rfl|fail)
 refine Tr.xCall (ct_cNew k (kNew bootP) 0 S00_ok 0) ?_
 rintro v h (⟨hz,c,rfl,o⟩ | ⟨hz,rfl,o⟩)
 case inr=>exact absurd hz (by rw [show kNew bootP = S00 from rfl,caps0]; simp)
 rw [show kNew bootP = S00 from rfl,caps0] at o
 refine (?_ : Tr _ _ _ _) o
 (try simp only[Nr,Nl,Nat.reduceAdd,Nat.reduceMul,Int.reduceToNat])
 (repeat' first|refine Gu ?_|(with_reducible first|refine Gn fun b h=>?_|rintro px rfl|refine fun(h:H)=>?_|intro hb)|refine Gs ?_|refine Gt ?_|exact Gz rfl|fail)
 refine Tr.bnd (Tr.condF rfl ?_)
 refine Tr.some fun o=>(?_ : Tr _ _ _ _) o; (try simp only[Nr,Nl,Nat.reduceAdd,Nat.reduceMul,Int.reduceToNat])
 refine Tr.condF rfl ?_
 refine Tr.xCall (ct_rBlank) ?_; rintro _ h ⟨rfl,o⟩ <;> (refine (?_ : Tr _ _ _ _) o; (try simp only[Nr,Nl,Nat.reduceAdd,Nat.reduceMul,Int.reduceToNat]))
 (repeat' first|refine Gu ?_|(with_reducible first|apply Gx|apply Gy|rintro px rfl|refine fun(h:H)=>?_|intro hb)|refine Gs ?_|refine Gt ?_|exact Gz rfl|fail)
 refine Tr.ck (by rw [bs_size,blankB_len]; simp [most]) ?_
 rw [bs_size,blankB_len]
 refine Tr.nw fun b2 h=>?_
 refine tr_open1 (n := 492) 0 rfl (by rw [bc_len,show (bs blankB).data.toList = blankB from rfl,blankB_len]) ?_
 (try simp only[Nr,Nl,Nat.reduceAdd,Nat.reduceMul,Int.reduceToNat])
 have J2 := ct_kDoC k S00 0 S00_ok (by omega) 0 ⟨2,256,0,0,0,0,blankB⟩ (some (openAt b2)) 492 false (show ((2 : Int) ≠ 5) by decide)
 simp only [blankB_len] at J2
 refine tr_callI J2 [2,0] rfl ?_
 rintro _ h ⟨y,d,rfl,o⟩
 rw [S0_e]
 rw [show (kAns S00 0 ⟨2,256,0,0,0,0,blankB⟩).2 = S0 from rfl] at o
 refine (?_ : Tr _ _ _ _) o
 (try simp only[Nr,Nl,Nat.reduceAdd,Nat.reduceMul,Int.reduceToNat])
 (repeat' first|refine Gu ?_|(with_reducible first|apply Gx|apply Gy|rintro px rfl|refine fun(h:H)=>?_|intro hb)|refine Gs ?_|refine Gt ?_|exact Gz rfl|fail)
 refine Tr.condF rfl ?_
 refine Tr.ck (by simp [most]) ?_
 refine Tr.nw fun b3 h=>?_
 refine tr_open1 (n := 492) 0 rfl (by rw [bc_len,blankB_len]) ?_
 (try simp only[Nr,Nl,Nat.reduceAdd,Nat.reduceMul,Int.reduceToNat])
 have J3 := ct_rDoW w (rNew bootP) rk0_ok.1 0 (by rw [rk0_ok.2,bootP_eq]; simp) ⟨2,256,0,0,0,0,blankB⟩ rfl (by rw [blankB_len]; simp [most]) (slC false Y_uint8 1 (some (openAt b3)) blankB.length 492 (byteCells blankB)) (some (openAt b3)) 492 false
 simp only [blankB_len] at J3
 refine Tr.xCall J3 ?_
 rintro _ h ⟨rfl,o⟩
 rw [show ({ rNew bootP with R := (rWrite (rNew bootP).R ((0 : Nat) : Int) 256 0 blankB).2 } : RKS) = K0 from rfl] at o
 refine (?_ : Tr _ _ _ _) o
 (try simp only[Nr,Nl,Nat.reduceAdd,Nat.reduceMul,Int.reduceToNat])
 (repeat' first|refine Gu ?_|(with_reducible first|refine Gn fun b h=>?_|apply Gx|apply Gy|rintro px rfl|refine fun(h:H)=>?_|intro hb)|refine Gs ?_|refine Gt ?_|exact Gz rfl|fail)
 refine Tr.xCall (ct_rNewCommons w K0 (wrR_ok rk0_ok.1 256 blankB) 0 (by show (0 : Nat) < (rNew bootP).B.envs.length; rw [rk0_ok.2,bootP_eq]; simp)) ?_
 rintro v h (⟨_,m,rfl,o⟩ | ⟨hn,rfl,o⟩)
 case inr=>exact absurd hn rcaps_ne
 refine (?_ : Tr _ _ _ _) o
 (try simp only[Nr,Nl,Nat.reduceAdd,Nat.reduceMul,Int.reduceToNat])
 (repeat' first|refine Gu ?_|(with_reducible first|refine Gn fun b h=>?_|apply Gx|apply Gy|rintro px rfl|refine fun(h:H)=>?_|intro hb)|refine Gs ?_|refine Gt ?_|exact Gz rfl|fail)
 refine Tr.some fun o=>?_
 exact ⟨k,c,w,m,rfl,o.sub⟩
end Go.EQ

set_option maxRecDepth 10000
namespace Go.EQ
open Go Go.NN
def cutM (mem : List UInt8) (rg : Rg) : List (List UInt8) := rg.map fun p=>slice mem p.1 p.2
theorem cutM_get {mem : List UInt8} {rg : Rg} {j lo n : Nat} (h : rg[j]? = some (lo,n)) : (cutM mem rg)[j]? = some (slice mem lo n) := by unfold cutM; rw [List.getElem?_map,h]; rfl
theorem cutM_fit {mem : List UInt8} {rg : Rg} (h : ∀ (j lo n : Nat),rg[j]? = some (lo,n) → lo + n ≤ mem.length) : Fit mem.length rg (cutM mem rg) := ⟨by simp [cutM],fun j lo n hj=>⟨h j lo n hj,slice mem lo n,cutM_get hj,slice_len (h j lo n hj)⟩⟩
theorem pour_cut {mem : List UInt8} {rg : Rg} (k : RgOk rg) (h : ∀ (j lo n : Nat),rg[j]? = some (lo,n) → lo + n ≤ mem.length) : pour mem rg (cutM mem rg) = mem := by
 have f := cutM_fit h
 refine List.ext_getElem? fun i=>?_
 by_cases ho : ∃ (j lo n : Nat),rg[j]? = some (lo,n) ∧ lo ≤ i ∧ i < lo + n
 ·obtain ⟨j,lo,n,hj,h1,h2⟩ := ho
  obtain ⟨i',rfl⟩ : ∃ i',i = lo + i' := ⟨i - lo,by omega⟩
  rw [pour_in f k j lo n _ hj (cutM_get hj) i' (by omega),slice_get,if_pos (by omega)]
 ·exact pour_out f i fun j lo n hj=>by
   by_cases hh : lo ≤ i ∧ i < lo + n
   ·exact absurd ⟨j,lo,n,hj,hh.1,hh.2⟩ ho
   ·omega
theorem FrOk.room {F : Fr} {j lo n : Nat} (f : Fit F.S.mem.length F.rg (cutM F.S.mem F.rg)) (h : F.rg[j]? = some (lo,n)) : lo + n ≤ F.S.mem.length := (f.each j lo n h).1
theorem Fr.at_cut {F : Fr} (k : FrOk F) (h : ∀ (j lo n : Nat),F.rg[j]? = some (lo,n) → lo + n ≤ F.S.mem.length) : F.at (cutM F.S.mem F.rg) = F.S := by
 unfold Fr.at; rw [pour_cut k.dj h]; rfl
theorem Own.cmTake {r : List HP} {h : H} (c k : Nat) (F : Fr) (bad : List RecS) (ok : FrOk F) (hr : ∀ (j lo n : Nat),F.rg[j]? = some (lo,n) → lo + n ≤ F.S.mem.length) (o1 : Own h (kernC k F.S :: comC c k F.env F.caps bad :: r)) : Own h (cmC c k F ⟨cutM F.S.mem F.rg,bad⟩ :: r) := by
 refine Own.inex (f := fun u : Unit=>sl (cmF c k F ⟨cutM F.S.mem F.rg,bad⟩)) () (Own.group (l := cmF c k F ⟨cutM F.S.mem F.rg,bad⟩) ?_)
 show Own h (kernC k (F.at (cutM F.S.mem F.rg)) :: comC c k F.env F.caps bad :: pu _ :: r)
 rw [Fr.at_cut ok hr]
 have o2 := Own.inpure (show Fit F.S.mem.length F.rg (cutM F.S.mem F.rg) from cutM_fit hr) o1
 exact o2.picks [1,1,0] rfl
theorem tr_lay {l r : List HP} {h : H} {α : Type} {Q : α → H → Prop} {x : Option (α × H)} (c k : Nat) (F : Fr) (X : CX) [tk : Take (cmC c k F X) l r]
  (t : Fit F.S.mem.length F.rg X.m → Tr (kernC k (F.at X.m) :: comC c k F.env F.caps X.bad :: r) h x Q) : Tr l h x Q := fun o=>by
 have o1 : Own h (cmC c k F X :: r) := o.perm tk.pm
 obtain ⟨u,o2⟩ := Own.ex (f := fun u : Unit=>sl (cmF c k F X)) o1
 have o3 : Own h (kernC k (F.at X.m) :: comC c k F.env F.caps X.bad :: pu (Fit F.S.mem.length F.rg X.m) :: r) := Own.join o2
 have f := (o3.front (i := 2) rfl).pure
 exact t f (o3.front (i := 2) rfl).tail
theorem pl_of {S : KS} {env cap obj : Int} {lo n : Nat} {e1 e2 : Int} (hg : spGet S.tabs env cap = some ⟨obj,3,0,(n : Int),e1,e2⟩) (h0 : 0 ≤ obj) (hr : S.regs[obj.toNat]? = some ((lo : Int),(n : Int))) (hl : lo + n ≤ 65536) :
  ∀ (a m : Nat) (right : Int),right = 1 ∨ right = 2 → a + m ≤ n → placeV S.tabs S.regs env cap right a m = (((lo + a : Nat) : Int),0) := by
 intro a m right hri ha
 have hlt := (List.getElem?_eq_some_iff.1 hr).1
 unfold placeV
 rw [hg]
 have b1 : (bitA .i64 3 1 == 0) = false := by kernel_rfl
 have b2 : (bitA .i64 3 2 == 0) = false := by kernel_rfl
 have hb : ¬ ((bitA .i64 3 right == 0) = true) := by rcases hri with rfl | rfl <;> simp [b1,b2]
 simp only
 have h2 : (decide ((a : Int) < 0) || decide ((m : Int) < 0) || decide ((a : Int) > (n : Int)) || decide ((m : Int) > IntKind.wrap .i64 ((n : Int) - a)) || decide (obj < 0) || decide (obj ≥ S.regs.length)) = false := by
  simp only [Bool.or_eq_false_iff,decide_eq_false_iff_not,wrap_eq]; omega
 have h3 : (decide (IntKind.wrap .i64 (0 + (a : Int)) > (n : Int)) || decide ((m : Int) > IntKind.wrap .i64 (IntKind.wrap .i64 ((n : Int) - 0) - a))) = false := by
  simp only [Bool.or_eq_false_iff,decide_eq_false_iff_not,wrap_eq]; omega
 have h4 : IntKind.wrap .i64 (IntKind.wrap .i64 ((lo : Int) + 0) + a) = ((lo + a : Nat) : Int) := by simp only [wrap_eq]; omega
 rw [if_neg hb]
 simp only [h2,hr,h3,h4,Bool.false_eq_true,if_false]
structure Like (S : KS) : Prop where
 ok : KOk 0 S
 tabs : S.tabs = S00.tabs
 regs : S.regs = S00.regs
 envs : S.envs = S00.envs
 mem : S.mem.length = 2560
theorem like_put {S : KS} (k : Like S) {m : List UInt8} (h : m.length = 2560) : Like (putMem S m) :=
 ⟨⟨k.ok.envs,k.ok.tabs,k.ok.space,k.ok.quota,by show m.length ≤ 65536; omega,k.ok.regs,k.ok.may,k.ok.mayl,k.ok.nsect,k.ok.sects,k.ok.now⟩,k.tabs,k.regs,k.envs,h⟩
theorem like00 : Like S00 := ⟨S00_ok,rfl,rfl,rfl,by kernel_rfl⟩
theorem wrS_put (S : KS) (k : Like S) (cap : Int) (b : List UInt8) : Like (wrS S cap b) := by
 unfold wrS kAns
 split
 ·exact k
 ·exact like_put k (by rw [writeV_len]; exact k.mem)
theorem like0 : Like S0 := wrS_put S00 like00 256 blankB
def rgP (s : Nat) : Rg := [(1280 * s,492),(512,40),(1856,40)]
def frP (S : KS) (s : Nat) (env : Int) : Fr := ⟨S,0,env,[256,257,258],rgP s⟩
theorem regs00 : S00.regs = [(0,492),(1280,492),(512,40),(1856,40)] := by kernel_rfl
theorem envs00 : S00.envs.length = 18 := by kernel_rfl
structure EnvP (s : Nat) (env : Int) : Prop where
 hs : s < 2
 he : 0 ≤ env ∧ env < 18
 a : spGet S00.tabs env 256 = some ⟨s,3,0,492,0,0⟩
 b : spGet S00.tabs env 257 = some ⟨2,3,0,40,0,0⟩
 c : spGet S00.tabs env 258 = some ⟨3,3,0,40,0,0⟩
theorem env0 : EnvP 0 0 := ⟨by omega,by omega,by kernel_rfl,by kernel_rfl,by kernel_rfl⟩
theorem env3 : EnvP 0 3 := ⟨by omega,by omega,by kernel_rfl,by kernel_rfl,by kernel_rfl⟩
theorem rgP_get {s j lo n : Nat} (h : (rgP s)[j]? = some (lo,n)) : (j = 0 ∧ lo = 1280 * s ∧ n = 492) ∨ (j = 1 ∧ lo = 512 ∧ n = 40) ∨ (j = 2 ∧ lo = 1856 ∧ n = 40) := by
 unfold rgP at h
 match j,h with
 | 0,h=>simp at h; omega
 | 1,h=>simp at h; omega
 | 2,h=>simp at h; omega
 | j + 3,h=>simp at h
theorem frP_room {S : KS} (k : Like S) {s : Nat} (hs : s < 2) (env : Int) : ∀ (j lo n : Nat),(frP S s env).rg[j]? = some (lo,n) → lo + n ≤ (frP S s env).S.mem.length := by
 intro j lo n h
 have hm := k.mem
 have := rgP_get h
 show lo + n ≤ S.mem.length
 omega
theorem frP_ok {S : KS} (k : Like S) {s : Nat} {env : Int} (e : EnvP s env) : FrOk (frP S s env) := by
 have hs := e.hs; have he := e.he
 refine ⟨k.ok,by simp [frP],by simp [frP],by simp [frP],by simp [frP,rgP],?_,?_,?_,⟨1280 * s,rfl⟩,?_⟩
 ·show ¬ (env < 0 ∨ env ≥ (S.envs.length : Int))
  rw [k.envs,envs00]; omega
 ·intro j cap lo n hc hr
  show ∀ (a m : Nat) (right : Int),right = 1 ∨ right = 2 → a + m ≤ n → placeV S.tabs S.regs env cap right a m = _
  have hg := rgP_get hr
  rcases hg with ⟨rfl,rfl,rfl⟩ | ⟨rfl,rfl,rfl⟩ | ⟨rfl,rfl,rfl⟩
  ·cases hc
   refine pl_of (obj := s) (e1 := 0) (e2 := 0) (by rw [k.tabs]; exact e.a) (by omega) ?_ (by omega)
   rw [k.regs,regs00,Int.toNat_natCast]
   match s,hs with
   | 0,_=>rfl
   | 1,_=>rfl
  ·cases hc
   exact pl_of (obj := 2) (e1 := 0) (e2 := 0) (by rw [k.tabs]; exact e.b) (by omega) (by rw [k.regs,regs00]; rfl) (by omega)
  ·cases hc
   exact pl_of (obj := 3) (e1 := 0) (e2 := 0) (by rw [k.tabs]; exact e.c) (by omega) (by rw [k.regs,regs00]; rfl) (by omega)
 ·intro i j lo n lo' n' hij hi hj
  have h1 := rgP_get hi; have h2 := rgP_get hj
  omega
 ·intro j lo n h0 h
  have := rgP_get h; omega
end Go.EQ

set_option maxRecDepth 10000
namespace Go.EQ
open Go Go.NN
def badK (bad : List RecS) (kind : Int) : Nat → Int → List RecS
 | 0,_=>[]
 | m + 1,i=>if (⟨kind,i⟩ : RecS) ∈ bad then ⟨kind,i⟩ :: badK bad kind m (i + 1) else badK bad kind m (i + 1)
def badL (nc : Nat) (bad : List RecS) : Nat → Int → List RecS
 | 0,_=>[]
 | m + 1,kind=>badK bad kind (mostX nc kind).toNat 0 ++ badL nc bad m (kind + 1)
def badOf (nc : Nat) (bad : List RecS) : List RecS := badL nc bad 5 1
theorem ct_Bad_L2 (c k : Nat) (env : Int) (caps : List Int) (bad : List RecS) (hs : caps.length ≤ 40) (kind : Int) (hk : 1 ≤ kind ∧ kind ≤ 5) (Φ : List RecS → Value → (List HP → Prop) → Prop)
  (next : ∀ (acc : List RecS) (a : Option Addr) (cp : Nat),acc.length ≤ 50 * kind → CtJ JUMP F_commons_Commons_Bad T_commons_Commons_Bad_L1 [(0,P0 c),(3,.slice a acc.length cp),(4,int (kind + 1))] [slC false Y_api_Rec 2 a acc.length cp (acc.flatMap recL),comC c k env caps bad] (Φ acc)) :
  ∀ (m : Nat) (i : Int) (acc : List RecS) (a : Option Addr) (cp : Nat),0 ≤ i → i + m = mostX caps.length kind → acc.length ≤ 50 * (kind - 1) + i →
  CtJ JUMP F_commons_Commons_Bad T_commons_Commons_Bad_L2 [(0,P0 c),(3,.slice a acc.length cp),(4,int kind),(13,int (mostX caps.length kind)),(14,int i)] [slC false Y_api_Rec 2 a acc.length cp (acc.flatMap recL),comC c k env caps bad] (Φ (acc ++ badK bad kind m i)) := by
 have hmost : mostX caps.length kind ≤ 43 := by unfold mostX; (repeat' split) <;> omega
 have e5 : IntKind.wrap .i64 (kind + 1) = kind + 1 := by rw [wrap_eq]; omega
 intro m
 induction m with
 | zero =>
  intro i acc a cp h0 hi ha
  refine CtJ.of k_commons_Commons_Bad fun h r=>Tr.eq (e_commons_Commons_Bad_L2 ..) ?_; (try simp only[Nr,Nl,Nat.reduceAdd,Nat.reduceMul,Int.reduceToNat])
  refine Tr.condF (by simp; omega) ?_
  rw [e5]
  refine Tr.xRun (next acc a cp (by omega)) ?_
  intro v h q
  rw [show badK bad kind 0 i = [] from rfl,List.append_nil]
  exact q
 | succ m ih =>
  intro i acc a cp h0 hi ha
  have e1 : IntKind.wrap .i64 (i + 1) = i + 1 := by rw [wrap_eq]; omega
  refine CtJ.of k_commons_Commons_Bad fun h r=>Tr.eq (e_commons_Commons_Bad_L2 ..) ?_; (try simp only[Nr,Nl,Nat.reduceAdd,Nat.reduceMul,Int.reduceToNat])
  refine Tr.condT (by simp; omega) ?_
  refine tr_open (comC c k env caps bad) fun ⟨ca,cn,mb⟩=>?_; (try simp only[Nr,Nl,Nat.reduceAdd,Nat.reduceMul,Int.reduceToNat])
  (repeat' first|refine Gu ?_|(with_reducible first|refine Gn fun b h=>?_|apply Gx|apply Gy|rintro px rfl|refine fun(h:H)=>?_|intro hb)|refine Gs ?_|refine Gt ?_|exact Gz rfl|fail)
  have hl := lookM_bad ⟨kind,i⟩ bad
  simp only [recL] at hl
  rw [hl]
  rw [show badK bad kind (m + 1) i = if (⟨kind,i⟩ : RecS) ∈ bad then ⟨kind,i⟩ :: badK bad kind m (i + 1) else badK bad kind m (i + 1) from rfl]
  by_cases hb : (⟨kind,i⟩ : RecS) ∈ bad
  ·simp only [if_pos hb]
   (repeat' first|refine Gu ?_|(with_reducible first|refine Gn fun b h=>?_|apply Gx|apply Gy|rintro px rfl|refine fun(h:H)=>?_|intro hb)|refine Gs ?_|refine Gt ?_|exact Gz rfl|fail)
   refine Tr.condT rfl ?_
   (repeat' first|refine Gu ?_|(with_reducible first|refine Gn fun b h=>?_|apply Gx|apply Gy|rintro px rfl|refine fun(h:H)=>?_|intro hb)|refine Gs ?_|refine Gt ?_|exact Gz rfl|fail)
   refine tr_fold (comC c k env caps bad) ⟨ca,cn,mb⟩ ?_; (try simp only[Nr,Nl,Nat.reduceAdd,Nat.reduceMul,Int.reduceToNat])
   refine Tr.xApd ?_ (fun a' c' h=>?_)
   ·exact ⟨by first | rfl | simp,by first | rfl | simp,by simp only [most]; omega⟩
   (try simp only[Nr,Nl,Nat.reduceAdd,Nat.reduceMul,Int.reduceToNat])
   rw [e1]
   rw [show acc.flatMap recL ++ [Value.int IntKind.i64 kind,Value.int IntKind.i64 i] = (acc ++ [(⟨kind,i⟩ : RecS)]).flatMap recL by simp [recL],show acc.length + 1 = (acc ++ [(⟨kind,i⟩ : RecS)]).length by simp]
   refine tr_order [3,0] 2 rfl rfl ?_
   refine Tr.xRun (ih (i + 1) (acc ++ [⟨kind,i⟩]) a' c' (by omega) (by omega) (by simp; omega)) ?_
   intro v h q
   rw [List.append_assoc] at q
   exact q
  ·simp only [if_neg hb]
   (repeat' first|refine Gu ?_|(with_reducible first|refine Gn fun b h=>?_|apply Gx|apply Gy|rintro px rfl|refine fun(h:H)=>?_|intro hb)|refine Gs ?_|refine Gt ?_|exact Gz rfl|fail)
   refine Tr.condF rfl ?_
   refine tr_fold (comC c k env caps bad) ⟨ca,cn,mb⟩ ?_; (try simp only[Nr,Nl,Nat.reduceAdd,Nat.reduceMul,Int.reduceToNat])
   rw [e1]
   refine tr_order [2,0] 1 rfl rfl ?_
   refine Tr.xRun (ih (i + 1) acc a cp (by omega) (by omega) (by omega)) ?_
   intro v h q
   exact q
theorem ct_Bad_L1 (c k : Nat) (env : Int) (caps : List Int) (bad : List RecS) (hs : caps.length ≤ 40) : ∀ (m : Nat) (kind : Int) (acc : List RecS) (a : Option Addr) (cp : Nat),1 ≤ kind → kind + m = 6 → acc.length ≤ 50 * (kind - 1) →
  CtJ JUMP F_commons_Commons_Bad T_commons_Commons_Bad_L1 [(0,P0 c),(3,.slice a acc.length cp),(4,int kind)] [slC false Y_api_Rec 2 a acc.length cp (acc.flatMap recL),comC c k env caps bad] fun v own =>
   ∃ a' cp',v = .slice a' (acc ++ badL caps.length bad m kind).length cp' ∧ own [slC false Y_api_Rec 2 a' (acc ++ badL caps.length bad m kind).length cp' ((acc ++ badL caps.length bad m kind).flatMap recL),comC c k env caps bad] := by
 intro m
 induction m with
 | zero =>
  intro kind acc a cp hk hi ha
  refine CtJ.of k_commons_Commons_Bad fun h r=>Tr.eq (e_commons_Commons_Bad_L1 ..) ?_; (try simp only[Nr,Nl,Nat.reduceAdd,Nat.reduceMul,Int.reduceToNat])
  refine Tr.condF (by simp; omega) ?_
  refine Tr.some fun o=>?_
  rw [show badL caps.length bad 0 kind = [] from rfl,List.append_nil]
  exact ⟨a,cp,rfl,o.sub⟩
 | succ m ih =>
  intro kind acc a cp hk hi ha
  have hm0 : 0 ≤ mostX caps.length kind := by unfold mostX; (repeat' split) <;> omega
  have L2 := ct_Bad_L2 c k env caps bad hs kind (by omega) (fun acc v own=>∃ a' cp',v = .slice a' (acc ++ badL caps.length bad m (kind + 1)).length cp' ∧ own [slC false Y_api_Rec 2 a' (acc ++ badL caps.length bad m (kind + 1)).length cp' ((acc ++ badL caps.length bad m (kind + 1)).flatMap recL),comC c k env caps bad])
   (fun acc a cp ha=>ih (kind + 1) acc a cp (by omega) (by omega) (by omega)) (mostX caps.length kind).toNat 0 acc a cp (by omega) (by omega) (by omega)
  refine CtJ.of k_commons_Commons_Bad fun h r=>Tr.eq (e_commons_Commons_Bad_L1 ..) ?_; (try simp only[Nr,Nl,Nat.reduceAdd,Nat.reduceMul,Int.reduceToNat])
  refine Tr.condT (by simp; omega) ?_
  refine Tr.pcall (ct_cmost c k env caps bad kind hs) ?_; (try simp only[Nr,Nl,Nat.reduceAdd,Nat.reduceMul,Int.reduceToNat]); (repeat' first|refine Gu ?_|(with_reducible first|refine Gn fun b h=>?_|apply Gx|apply Gy|rintro px rfl|refine fun(h:H)=>?_|intro hb)|refine Gs ?_|refine Gt ?_|exact Gz rfl|fail)
  refine Tr.xRun L2 ?_
  intro v h q
  rw [List.append_assoc] at q
  exact q
theorem ct_cBad (c k : Nat) (env : Int) (caps : List Int) (bad : List RecS) (hs : caps.length ≤ 40) : Ct CALL F_commons_Commons_Bad [P0 c] [comC c k env caps bad] fun v own =>
  ∃ a' cp',v = .slice a' (badOf caps.length bad).length cp' ∧ own [slC false Y_api_Rec 2 a' (badOf caps.length bad).length cp' ((badOf caps.length bad).flatMap recL),comC c k env caps bad] := by
 refine Ct.of k_commons_Commons_Bad rfl fun h r=>Tr.eq (e_commons_Commons_Bad ..) ?_; (try simp only[Nr,Nl,Nat.reduceAdd,Nat.reduceMul,Int.reduceToNat])
 refine tr_nilSl false Y_api_Rec 2 (by omega) ?_
 have J := ct_Bad_L1 c k env caps bad hs 5 1 [] none 0 (by omega) (by omega) (by simp)
 simp only [List.nil_append,List.length_nil,List.flatMap_nil] at J
 refine Tr.xRun J ?_
 intro v h q
 exact q
theorem badOf_nil (nc : Nat) : badOf nc [] = [] := by
 have h1 : ∀ (kind : Int) (m : Nat) (i : Int),badK [] kind m i = [] := by
  intro kind m
  induction m with
  | zero=>intro i; rfl
  | succ m ih=>intro i; unfold badK; rw [if_neg (by simp),ih]
 have h2 : ∀ (m : Nat) (kind : Int),badL nc [] m kind = [] := by
  intro m
  induction m with
  | zero=>intro k; rfl
  | succ m ih=>intro k; unfold badL; rw [h1,ih]; rfl
 exact h2 5 1
theorem ct_cBadX (c k : Nat) (F : Fr) (X : CX) (ok : FrOk F) : Ct CALL F_commons_Commons_Bad [P0 c] [cmC c k F X] fun v own =>
  ∃ a' cp',v = .slice a' (badOf F.caps.length X.bad).length cp' ∧ own [slC false Y_api_Rec 2 a' (badOf F.caps.length X.bad).length cp' ((badOf F.caps.length X.bad).flatMap recL),cmC c k F X] := by
 intro h r o
 obtain ⟨u,o2⟩ := Own.unfold (cmC c k F X) o
 obtain ⟨v,h',e,a',cp',hv,o3⟩ := ct_cBad c k F.env F.caps X.bad ok.small h _ (o2.picks [1] rfl)
 refine ⟨v,h',e,a',cp',hv,?_⟩
 have o4 := o3.picks [2,1,1] rfl
 exact (Own.shut (f := fun _ : Unit=>cmF c k F X) () o4).picks [1,0] rfl
theorem ct_cView (c k : Nat) (F : Fr) (X : CX) (ok : FrOk F) : Ct CALL F_commons_Commons_View [P0 c] [cmC c k F X] fun v own =>
  ∃ a' cp',v = .slice a' (X.m.getD 0 []).length cp' ∧ own [slC false Y_uint8 1 a' (X.m.getD 0 []).length cp' (byteCells (X.m.getD 0 [])),cmC c k F X] := by
 have hn := ok.ne
 have hg : (F.caps.map int)[0]? = some (int (F.caps.getD 0 0)) := by rw [List.getElem?_map,getD_get 0 hn]; rfl
 refine Ct.of k_commons_Commons_View rfl fun h r=>Tr.eq (e_commons_Commons_View ..) ?_; (try simp only[Nr,Nl,Nat.reduceAdd,Nat.reduceMul,Int.reduceToNat])
 refine tr_open (cmC c k F X) fun u=>?_; (try simp only[Nr,Nl,Nat.reduceAdd,Nat.reduceMul,Int.reduceToNat])
 refine tr_pureAt 2 rfl fun f=>?_
 refine tr_open (comC c k F.env F.caps X.bad) fun ⟨ca,cn,mb⟩=>?_; (try simp only[Nr,Nl,Nat.reduceAdd,Nat.reduceMul,Int.reduceToNat])
 (repeat' first|refine Gu ?_|(with_reducible first|refine Gn fun b h=>?_|apply Gx|apply Gy|rintro px rfl|refine fun(h:H)=>?_|intro hb)|refine Gs ?_|refine Gt ?_|exact Gz rfl|fail)
 refine tr_fold (comC c k F.env F.caps X.bad) ⟨some px,cn,mb⟩ ?_; (try simp only[Nr,Nl,Nat.reduceAdd,Nat.reduceMul,Int.reduceToNat])
 obtain ⟨lo,h0⟩ := ok.own
 obtain ⟨_,x,hx,hxl⟩ := f.each 0 lo 492 h0
 have e0 : X.m.getD 0 [] = x := by rw [List.getD_eq_getElem?_getD,hx]; rfl
 have hp := ok.pl 0 _ lo 492 (getD_get 0 hn) h0 0 492 1 (.inl rfl) (by omega)
 have lp := pour_len f
 have hb : loadV (pour F.S.mem F.rg X.m) ((lo + 0 : Nat) : Int) (492 : Int) = some x := by
  have := f.each 0 lo 492 h0
  unfold loadV
  rw [if_pos (by rw [lp]; omega),Int.toNat_natCast]
  have hs := pour_slice f ok.dj h0 hx (a := 0) (c := 492) (by omega)
  show some (slice (pour F.S.mem F.rg X.m) (lo + 0) 492) = some x
  rw [hs]
  unfold slice
  rw [List.drop_zero,List.take_of_length_le (by omega)]
 have e : kAns (F.at X.m) F.env ⟨1,F.caps.getD 0 0,0,492,0,0,[]⟩ = ((0,0,x),F.at X.m) := by
  unfold kAns
  rw [if_neg (show ¬ (F.env < 0 ∨ F.env ≥ ((F.at X.m).envs.length : Int)) from ok.env)]
  unfold kDo
  rw [if_pos rfl]
  have er : readV (F.at X.m).tabs (F.at X.m).regs (F.at X.m).mem F.env (F.caps.getD 0 0) 0 492 = (x,0) := by
   unfold readV
   rw [show placeV (F.at X.m).tabs (F.at X.m).regs F.env (F.caps.getD 0 0) 1 0 492 = (((lo + 0 : Nat) : Int),0) from hp]
   rw [if_neg (by simp),show loadV (F.at X.m).mem _ _ = _ from hb]
  simp only [er]
 have J := ct_kDo0 k (F.at X.m) F.N (F.at_ok ok f) ok.hN F.env 1 (F.caps.getD 0 0) 0 492 0 0 (by decide)
 rw [e] at J
 refine Tr.xCall (J) ?_; rintro _ h ⟨y,d,rfl,o⟩ <;> (refine (?_ : Tr _ _ _ _) o; (try simp only[Nr,Nl,Nat.reduceAdd,Nat.reduceMul,Int.reduceToNat]); (repeat' first|refine Gu ?_|(with_reducible first|refine Gn fun b h=>?_|apply Gx|apply Gy|rintro px rfl|refine fun(h:H)=>?_|intro hb)|refine Gs ?_|refine Gt ?_|exact Gz rfl|fail))
 refine tr_fold (cmC c k F X) () ?_; (try simp only[Nr,Nl,Nat.reduceAdd,Nat.reduceMul,Int.reduceToNat])
 refine Tr.some fun o=>?_
 rw [e0]
 exact ⟨y,d,rfl,o.sub⟩
end Go.EQ

set_option maxRecDepth 10000
namespace Go.EQ
open Go Go.NN
abbrev F0 : Fr := frP S0 0 0
def X0 : CX := ⟨cutM S0.mem (rgP 0),[]⟩
theorem F0_ok : FrOk F0 := frP_ok like0 env0
theorem x0_p : (procX X0 0).1.2 = 0 := by kernel_rfl
theorem x0_p2 : (procX X0 0).2 = X0 := by kernel_rfl
theorem x0_t : (termX X0).1.2 = 1 := by kernel_rfl
theorem x0_t2 : (termX X0).2 = X0 := by kernel_rfl
theorem x0_f : (frontX X0).1 = (0,1) := by kernel_rfl
theorem x0_f2 : (frontX X0).2 = X0 := by kernel_rfl
theorem x0_v : (X0.m.getD 0 []).length = 492 := by kernel_rfl
theorem ct_OpenX (A : PlA) : Ct CALL F_law15_Open [.agg ⟨planL planP A⟩] (planF planP A) fun v own =>
  ∃ k c w m,v = .tuple ⟨[P0 k,P0 c,P0 w,P0 m]⟩ ∧ own [cmC c k F0 X0,rkC w K0,rcC m w 0 (rCaps K0 0) []] := by
 intro h r o
 obtain ⟨v,h',e,k,c,w,m,hv,o2⟩ := ct_Open A h r o
 refine ⟨v,h',e,k,c,w,m,hv,?_⟩
 exact Own.cmTake c k F0 [] F0_ok (frP_room like0 (by omega) 0) o2
theorem ct_awake15 : Ct CALL F_law15_awake [] [] fun v own=>v = .bool true ∧ own [] := by
 refine Ct.of k_law15_awake rfl fun h r=>Tr.eq (e_law15_awake ..) ?_; (try simp only[Nr,Nl,Nat.reduceAdd,Nat.reduceMul,Int.reduceToNat])
 refine Tr.xCall (ct_lPlan) ?_; rintro _ h ⟨A,rfl,o⟩ <;> (refine (?_ : Tr _ _ _ _) o; (try simp only[Nr,Nl,Nat.reduceAdd,Nat.reduceMul,Int.reduceToNat]))
 (repeat' first|refine Gu ?_|(with_reducible first|refine Gn fun b h=>?_|apply Gx|apply Gy|rintro px rfl|refine fun(h:H)=>?_|intro hb)|refine Gs ?_|refine Gt ?_|exact Gz rfl|fail)
 refine Tr.xCall (ct_OpenX A) ?_
 rintro _ h ⟨k,c,w,m,rfl,o⟩
 refine (?_ : Tr _ _ _ _) o
 (try simp only[Nr,Nl,Nat.reduceAdd,Nat.reduceMul,Int.reduceToNat])
 (repeat' first|refine Gu ?_|(with_reducible first|refine Gn fun b h=>?_|apply Gx|apply Gy|rintro px rfl|refine fun(h:H)=>?_|intro hb)|refine Gs ?_|refine Gt ?_|exact Gz rfl|fail)
 refine Tr.xCall (ct_cProc c k F0 X0 F0_ok 0) ?_; rintro _ h ⟨rfl,o⟩ <;> (refine (?_ : Tr _ _ _ _) o; (try simp only[Nr,Nl,Nat.reduceAdd,Nat.reduceMul,Int.reduceToNat]))
 rw [x0_p,x0_p2]
 (repeat' first|refine Gu ?_|(with_reducible first|refine Gn fun b h=>?_|apply Gx|apply Gy|rintro px rfl|refine fun(h:H)=>?_|intro hb)|refine Gs ?_|refine Gt ?_|exact Gz rfl|fail)
 refine Tr.xCall (ct_cTerm c k F0 X0 F0_ok) ?_; rintro _ h ⟨rfl,o⟩ <;> (refine (?_ : Tr _ _ _ _) o; (try simp only[Nr,Nl,Nat.reduceAdd,Nat.reduceMul,Int.reduceToNat]))
 rw [x0_t,x0_t2]
 (repeat' first|refine Gu ?_|(with_reducible first|refine Gn fun b h=>?_|apply Gx|apply Gy|rintro px rfl|refine fun(h:H)=>?_|intro hb)|refine Gs ?_|refine Gt ?_|exact Gz rfl|fail)
 refine Tr.xCall (ct_cFront c k F0 X0 F0_ok) ?_; rintro _ h ⟨rfl,o⟩ <;> (refine (?_ : Tr _ _ _ _) o; (try simp only[Nr,Nl,Nat.reduceAdd,Nat.reduceMul,Int.reduceToNat]))
 rw [x0_f,x0_f2]
 (repeat' first|refine Gu ?_|(with_reducible first|refine Gn fun b h=>?_|apply Gx|apply Gy|rintro px rfl|refine fun(h:H)=>?_|intro hb)|refine Gs ?_|refine Gt ?_|exact Gz rfl|fail)
 refine Tr.xCall (ct_cNew0 0) ?_; rintro _ h ⟨rfl,o⟩ <;> (refine (?_ : Tr _ _ _ _) o; (try simp only[Nr,Nl,Nat.reduceAdd,Nat.reduceMul,Int.reduceToNat]))
 (repeat' first|refine Gu ?_|(with_reducible first|refine Gn fun b h=>?_|rintro px rfl|refine fun(h:H)=>?_|intro hb)|refine Gs ?_|refine Gt ?_|exact Gz rfl|fail)
 refine Tr.bnd (Tr.condT rfl ?_)
 refine Tr.some fun o=>(?_ : Tr _ _ _ _) o; (try simp only[Nr,Nl,Nat.reduceAdd,Nat.reduceMul,Int.reduceToNat])
 refine Tr.bnd (Tr.condT rfl ?_)
 refine Tr.some fun o=>(?_ : Tr _ _ _ _) o; (try simp only[Nr,Nl,Nat.reduceAdd,Nat.reduceMul,Int.reduceToNat])
 refine Tr.bnd (Tr.condT rfl ?_)
 refine Tr.some fun o=>(?_ : Tr _ _ _ _) o; (try simp only[Nr,Nl,Nat.reduceAdd,Nat.reduceMul,Int.reduceToNat])
 refine Tr.bnd (Tr.condT rfl ?_)
 refine Tr.some fun o=>(?_ : Tr _ _ _ _) o; (try simp only[Nr,Nl,Nat.reduceAdd,Nat.reduceMul,Int.reduceToNat])
 refine Tr.bnd (Tr.condT rfl ?_)
 refine Tr.xCall (ct_cBadX c k F0 X0 F0_ok) ?_; rintro _ h ⟨a1,c1,rfl,o⟩ <;> (refine (?_ : Tr _ _ _ _) o; (try simp only[Nr,Nl,Nat.reduceAdd,Nat.reduceMul,Int.reduceToNat]))
 (repeat' first|refine Gu ?_|(with_reducible first|refine Gn fun b h=>?_|rintro px rfl|refine fun(h:H)=>?_|intro hb)|refine Gs ?_|refine Gt ?_|exact Gz rfl|fail)
 refine Tr.some fun o=>(?_ : Tr _ _ _ _) o; (try simp only[Nr,Nl,Nat.reduceAdd,Nat.reduceMul,Int.reduceToNat])
 rw [show badOf F0.caps.length X0.bad = [] from badOf_nil _]
 refine Tr.bnd (Tr.condT rfl ?_)
 refine Tr.xCall (ct_cView c k F0 X0 F0_ok) ?_; rintro _ h ⟨a2,c2,rfl,o⟩ <;> (refine (?_ : Tr _ _ _ _) o; (try simp only[Nr,Nl,Nat.reduceAdd,Nat.reduceMul,Int.reduceToNat]))
 rw [x0_v]
 (repeat' first|refine Gu ?_|(with_reducible first|refine Gn fun b h=>?_|rintro px rfl|refine fun(h:H)=>?_|intro hb)|refine Gs ?_|refine Gt ?_|exact Gz rfl|fail)
 refine Tr.some fun o=>(?_ : Tr _ _ _ _) o; (try simp only[Nr,Nl,Nat.reduceAdd,Nat.reduceMul,Int.reduceToNat])
 refine Tr.some fun o=>?_
 exact ⟨rfl,o.sub⟩
end Go.EQ

set_option maxRecDepth 10000
namespace Go.EQ
open Go Go.NN
theorem bitA_24 (a : Int) : bitA .i64 a 16777215 = a % 16777216 := bitA_mask a 24 (by omega)
theorem fdivP : (∀ y : Int,Int.fdiv y 4 = y / 4) ∧ (∀ y : Int,Int.fdiv y 16 = y / 16) ∧ (∀ y : Int,Int.fdiv y 32 = y / 32) ∧ (∀ y : Int,Int.fdiv y 64 = y / 64) ∧ (∀ y : Int,Int.fdiv y 256 = y / 256) ∧ (∀ y : Int,Int.fdiv y 512 = y / 512) ∧ (∀ y : Int,Int.fdiv y 2048 = y / 2048) ∧ (∀ y : Int,Int.fdiv y 32768 = y / 32768) := by
 refine ⟨?_,?_,?_,?_,?_,?_,?_,?_⟩ <;> exact fun y=>Int.fdiv_eq_ediv_of_nonneg _ (by decide)
theorem tmodP {y m : Int} (h : 0 ≤ y) : Int.tmod y m = y % m := Int.tmod_eq_emod_of_nonneg h
theorem pw : ((2 : Int) ^ 4 = 16) ∧ ((2 : Int) ^ 5 = 32) ∧ ((2 : Int) ^ 8 = 256) ∧ ((2 : Int) ^ 11 = 2048) ∧ ((2 : Int) ^ 15 = 32768) ∧ ((2 : Int) ^ 2 = 4) ∧ ((2 : Int) ^ 6 = 64) ∧ ((2 : Int) ^ 9 = 512) := by decide
def fdS (q : ProcS) (i : Nat) (v : Int) : ProcS := { q with fds := q.fds.set i v,len := by rw [List.length_set]; exact q.len }
theorem fdS_set (q : ProcS) (i : Nat) (v : Int) (h : i < 8) : setN (procL q) (8 + i) (int v) = some (procL (fdS q i v)) := by
 have e : Nat.blt (8 + i) (procL q).length = true := by rw [procL_len]; exact Nat.ble_eq_true_of_le (by omega)
 rw [setN,e]
 have e2 : (procL q).set (8 + i) (int v) = procL (fdS q i v) := by
  rw [Nat.add_comm]
  simp [procL,fdS,List.map_set]
 rw [← e2]; rfl
theorem fdS_ok {q : ProcS} (h : okS q = true) (h1 : ¬ q.state = 2) (i : Nat) {v : Int} (hv : 0 ≤ v ∧ v ≤ 12) : okS (fdS q i v) = true := by
 unfold okS at h ⊢
 rw [if_neg h1] at h
 rw [if_neg (show ¬ (fdS q i v).state = 2 from h1)]
 simp only [Bool.and_eq_true] at h ⊢
 refine ⟨h.1,h.2.1,?_,h.2.2.2⟩
 have := h.2.2.1
 simp only [Bool.not_eq_true',List.any_eq_false,fdS] at this ⊢
 intro x hx
 rcases List.mem_or_eq_of_mem_set hx with h2 | rfl
 ·exact this x h2
 ·simp; omega
end Go.EQ

set_option maxRecDepth 10000
namespace Go.EQ
open Go Go.NN
theorem b8_nat {x : Int} (h : 0 ≤ x ∧ x < 256) : ((b8 x).toNat : Int) = x := by rw [← b8_val,wrap8]; omega
theorem eqs_self : ∀ {xs : List Value},xs.all (fun v=>match v with | .int _ _=>true | _=>false) = true → eqs xs xs = some true
 | [],_=>rfl
 | .int k n :: xs,h=>by
  simp only [List.all_cons,Bool.true_and] at h
  simp [eqs,eq1,eqs_self h]
 | .bool _ :: _,h | .string _ :: _,h | .pointer _ :: _,h | .slice _ _ _ :: _,h | .map _ :: _,h | .agg _ :: _,h | .tuple _ :: _,h=>by simp at h
theorem Own.cmLay {r : List HP} {h : H} {c k : Nat} {F : Fr} {X : CX} (o1 : Own h (cmC c k F X :: r)) : Fit F.S.mem.length F.rg X.m ∧ Own h (kernC k (F.at X.m) :: comC c k F.env F.caps X.bad :: r) := by
 obtain ⟨u,o2⟩ := Own.ex (f := fun u : Unit=>sl (cmF c k F X)) o1
 have o3 : Own h (kernC k (F.at X.m) :: comC c k F.env F.caps X.bad :: pu (Fit F.S.mem.length F.rg X.m) :: r) := Own.join o2
 exact ⟨(o3.front (i := 2) rfl).pure,(o3.front (i := 2) rfl).tail⟩
theorem slice_splice_out {l b : List UInt8} {a c n : Nat} (h : a + b.length ≤ l.length) (hd : c + n ≤ a ∨ a + b.length ≤ c) : slice (splice l a b) c n = slice l c n := by
 refine List.ext_getElem? fun i=>?_
 rw [slice_get,slice_get]
 split
 ·rw [splice_get h,if_neg (by omega)]
 ·rfl
theorem slice_splice_in {l b : List UInt8} {a : Nat} (h : a + b.length ≤ l.length) : slice (splice l a b) a b.length = b := by
 refine List.ext_getElem? fun i=>?_
 rw [slice_get]
 split
 ·rw [splice_get h,if_pos (by omega)]; congr 1; omega
 ·rw [List.getElem?_eq_none (by omega)]
theorem slice_slice {l : List UInt8} {a n c m : Nat} (h : c + m ≤ n) : slice (slice l a n) c m = slice l (a + c) m := by
 refine List.ext_getElem? fun i=>?_
 rw [slice_get,slice_get l (a + c)]
 split
 ·rw [slice_get,if_pos (by omega),Nat.add_assoc]
 ·rfl
theorem cutM_getD {mem : List UInt8} {rg : Rg} {j lo n : Nat} (h : rg[j]? = some (lo,n)) : (cutM mem rg).getD j [] = slice mem lo n := by rw [List.getD_eq_getElem?_getD,cutM_get h]; rfl
abbrev capsP : List Int := [256,257,258]
end Go.EQ

set_option maxRecDepth 10000
namespace Go.EQ
open Go Go.NN
theorem bv_wrap (n : Int) : BitVec.ofInt 64 (IntKind.wrap .i64 n) = BitVec.ofInt 64 n := by
 apply BitVec.eq_of_toNat_eq
 rw [BitVec.toNat_ofInt,BitVec.toNat_ofInt,wrap_eq]; omega
theorem bv_nat (x : BitVec 64) : BitVec.ofInt 64 (x.toNat : Int) = x := by
 apply BitVec.eq_of_toNat_eq
 have := x.isLt
 rw [BitVec.toNat_ofInt]; omega
theorem bv_A (a b : Int) : BitVec.ofInt 64 (bitA .i64 a b) = BitVec.ofInt 64 a &&& BitVec.ofInt 64 b := by
 unfold bitA; rw [bv_wrap]; exact bv_nat _
theorem bv_N (a b : Int) : BitVec.ofInt 64 (bitN .i64 a b) = BitVec.ofInt 64 a &&& ~~~ BitVec.ofInt 64 b := by
 unfold bitN; rw [bv_wrap]; exact bv_nat _
theorem bitA_z {a b : Int} (h : BitVec.ofInt 64 a &&& BitVec.ofInt 64 b = 0#64) : bitA .i64 a b = 0 := by
 unfold bitA
 rw [show IntKind.bits .i64 = 64 from rfl,h]; rfl
theorem bitN_z {a b : Int} (h : BitVec.ofInt 64 a &&& ~~~ BitVec.ofInt 64 b = 0#64) : bitN .i64 a b = 0 := by
 unfold bitN
 rw [show IntKind.bits .i64 = 64 from rfl,h]; rfl
theorem bv1 (x b : BitVec 64) : (x &&& b) &&& ~~~ b = 0#64 := by
 apply BitVec.eq_of_getLsbD_eq; intro i hi
 simp only [BitVec.getLsbD_and,BitVec.getLsbD_not,BitVec.getLsbD_zero]
 cases x.getLsbD i <;> cases b.getLsbD i <;> simp
theorem bv2 (x b c : BitVec 64) : (x &&& b &&& ~~~ c) &&& ~~~ b = 0#64 := by
 apply BitVec.eq_of_getLsbD_eq; intro i hi
 simp only [BitVec.getLsbD_and,BitVec.getLsbD_not,BitVec.getLsbD_zero]
 cases x.getLsbD i <;> cases b.getLsbD i <;> simp
theorem bv3 (x c : BitVec 64) : (x &&& ~~~ c) &&& c = 0#64 := by
 apply BitVec.eq_of_getLsbD_eq; intro i hi
 simp only [BitVec.getLsbD_and,BitVec.getLsbD_not,BitVec.getLsbD_zero]
 cases x.getLsbD i <;> cases c.getLsbD i <;> simp
theorem bv4 (x b c g : BitVec 64) : (x &&& b &&& ~~~ c &&& ~~~ g) &&& ~~~ b = 0#64 := by
 apply BitVec.eq_of_getLsbD_eq; intro i hi
 simp only [BitVec.getLsbD_and,BitVec.getLsbD_not,BitVec.getLsbD_zero]
 cases x.getLsbD i <;> cases b.getLsbD i <;> simp
theorem bv5 (x c g : BitVec 64) : (x &&& ~~~ c &&& ~~~ g) &&& c = 0#64 := by
 apply BitVec.eq_of_getLsbD_eq; intro i hi
 simp only [BitVec.getLsbD_and,BitVec.getLsbD_not,BitVec.getLsbD_zero]
 cases x.getLsbD i <;> cases c.getLsbD i <;> simp
theorem bv6 (x g : BitVec 64) : g &&& (x &&& ~~~ g) = 0#64 := by
 apply BitVec.eq_of_getLsbD_eq; intro i hi
 simp only [BitVec.getLsbD_and,BitVec.getLsbD_not,BitVec.getLsbD_zero]
 cases x.getLsbD i <;> cases g.getLsbD i <;> simp
theorem rngA (a : Int) : 0 ≤ bitA .i64 a 65534 ∧ bitA .i64 a 65534 ≤ 65534 := by
 unfold bitA
 rw [show IntKind.bits .i64 = 64 from rfl,BitVec.toNat_and]
 have := Nat.and_le_right (n := (BitVec.ofInt 64 a).toNat) (m := (BitVec.ofInt 64 65534).toNat)
 have e : (BitVec.ofInt 64 65534).toNat = 65534 := rfl
 rw [e] at this ⊢
 rw [wrap_eq]; omega
theorem rngN {y : Int} (c : Int) (h : 0 ≤ y ∧ y ≤ 65534) : 0 ≤ bitN .i64 y c ∧ bitN .i64 y c ≤ 65534 := by
 unfold bitN
 rw [show IntKind.bits .i64 = 64 from rfl,BitVec.toNat_and]
 have := Nat.and_le_left (n := (BitVec.ofInt 64 y).toNat) (m := (~~~ BitVec.ofInt 64 c).toNat)
 have e : (BitVec.ofInt 64 y).toNat = y.toNat := by rw [BitVec.toNat_ofInt]; omega
 rw [e] at this ⊢
 rw [wrap_eq]; omega
def nx (l : List Int) (k : Nat) : Int := if k > l.length then 7 * k else l.getD (k - 1) 0 % 16777216
theorem nx_pos (l : List Int) (k : Nat) : 0 ≤ nx l k := by unfold nx; split <;> omega
def stA (x : Int) : Int := if x = 0 then 1 else if x = 1 then 1 else if x = 2 then 3 else 2
abbrev maskA (l : List Int) : Int := bitN .i64 (bitA .i64 (nx l 2) 65534) 16896
abbrev ignA (l : List Int) : Int := bitN .i64 (bitA .i64 (bitA .i64 (nx l 3) (nx l 4)) 65534) 16896
abbrev cauA (l : List Int) : Int := bitN .i64 (bitN .i64 (bitA .i64 (nx l 5) 65534) 16896) (ignA l)
abbrev pendA (l : List Int) : Int := bitA .i64 (bitA .i64 (nx l 6) (nx l 7)) 65534
abbrev baseA (l : List Int) (code pend : Int) : ProcS := ⟨stA (nx l 1 % 4),nx l 1 / 4 % 16 % 9,nx l 1 / 64 % 8,code,pend,maskA l,ignA l,cauA l,zero8,rfl⟩
def fdA (l : List Int) : Nat → Nat → Nat → ProcS → ProcS
 | 0,_,_,q=>q
 | m + 1,k,i,q=>fdA l m (k + 1) (i + 1) (if nx l (k + 1) % 4 = 0 then q else fdS q i (nx l (k + 1) / 4 % 13))
def aProc (l : List Int) : ProcS := if stA (nx l 1 % 4) = 2 then baseA l (nx l 1 / 512 % 256) 0 else fdA l 8 7 0 (baseA l 0 (pendA l))
structure InS (p : ProcS) : Prop where
 a : 0 ≤ p.pending ∧ p.pending ≤ 65535
 b : 0 ≤ p.mask ∧ p.mask ≤ 65535
 c : 0 ≤ p.ignored ∧ p.ignored ≤ 65535
 d : 0 ≤ p.caught ∧ p.caught ≤ 65535
theorem baseA_in (l : List Int) (code pend : Int) (h : 0 ≤ pend ∧ pend ≤ 65535) : InS (baseA l code pend) := by
 have h1 : 0 ≤ maskA l ∧ maskA l ≤ 65534 := rngN 16896 (rngA (nx l 2))
 have h2 : 0 ≤ ignA l ∧ ignA l ≤ 65534 := rngN 16896 (rngA (bitA .i64 (nx l 3) (nx l 4)))
 have h3 : 0 ≤ cauA l ∧ cauA l ≤ 65534 := rngN (ignA l) (rngN 16896 (rngA (nx l 5)))
 exact ⟨h,by simp only; omega,by simp only; omega,by simp only; omega⟩
theorem baseA_ok (l : List Int) (code pend : Int) (hp : bitsB pend 0 = true) (hs : if stA (nx l 1 % 4) = 2 then pend = 0 ∧ 0 ≤ code ∧ code ≤ 255 else code = 0) : okS (baseA l code pend) = true := by
 have n0 := nx_pos l 1
 have hst : 1 ≤ stA (nx l 1 % 4) ∧ stA (nx l 1 % 4) ≤ 3 := by unfold stA; (repeat' split) <;> omega
 have b1 : bitsB (maskA l) 16896 = true := by
  unfold bitsB
  rw [bitN_z (by rw [bv_N,bv_A]; exact bv2 _ _ _),bitA_z (by rw [bv_N,bv_A]; exact bv3 _ _)]; rfl
 have b2 : bitsB (ignA l) 16896 = true := by
  unfold bitsB
  rw [bitN_z (by rw [bv_N,bv_A _ 65534]; exact bv2 _ _ _),bitA_z (by rw [bv_N,bv_A]; exact bv3 _ _)]; rfl
 have b3 : bitsB (cauA l) 16896 = true := by
  unfold bitsB
  rw [bitN_z (by rw [bv_N _ (ignA l),bv_N _ 16896,bv_A]; exact bv4 _ _ _ _),bitA_z (by rw [bv_N _ (ignA l),bv_N _ 16896]; exact bv5 _ _ _)]; rfl
 have b4 : bitA .i64 (ignA l) (cauA l) = 0 := bitA_z (by rw [bv_N _ (ignA l)]; exact bv6 _ _)
 unfold okS
 simp only [b1,b2,b3,b4,hp]
 by_cases h2 : stA (nx l 1 % 4) = 2
 ·rw [if_pos h2] at hs
  rw [if_pos h2]
  obtain ⟨rfl,hc⟩ := hs
  simp; omega
 ·rw [if_neg h2] at hs
  rw [if_neg h2]
  subst hs
  simp; omega
theorem decS_enc {p : ProcS} (h : okS p = true) (r : InS p) : decS (encS p) = (p,1) := by
 have hk := h
 obtain ⟨ra,rb,rc,rd⟩ := r
 have e : getS (encS p) = p := by
  obtain ⟨st,pa,gr,co,pe,ma,ig,ca,fds,hl⟩ := p
  simp only at ra rb rc rd
  unfold okS at h
  simp only [Bool.and_eq_true,Bool.not_eq_true',Bool.or_eq_false_iff,decide_eq_false_iff_not,List.any_eq_false] at h
  match fds,hl with
  | [f0,f1,f2,f3,f4,f5,f6,f7],hl =>
   have hf := h.2.2.1
   simp at hf
   have two_b : ∀ n : Int,0 ≤ n ∧ n ≤ 65535 → ((hi2 n).toNat : Int) * 256 + ((lo2 n).toNat : Int) = n := fun n hn=>by
    unfold hi2 lo2
    rw [if_pos hn,if_pos hn,b8_nat (by omega),← b8_val,wrap8]; omega
   have g0 := h.1
   simp only [getS,encS,headS,two]
   simp
   refine ⟨b8_nat (by omega),b8_nat (by omega),b8_nat (by omega),b8_nat (by omega),two_b _ ra,two_b _ rb,two_b _ rc,two_b _ rd,b8_nat (by omega),b8_nat (by omega),b8_nat (by omega),b8_nat (by omega),b8_nat (by omega),b8_nat (by omega),b8_nat (by omega),b8_nat (by omega)⟩
 have hz : (encS p).all (· == 0) = false := by
  simp [encS,headS]
 unfold decS isS
 rw [hz,e,hk]
 simp
theorem fdA_ok (l : List Int) : ∀ (m k i : Nat) (q : ProcS),okS q = true → ¬ q.state = 2 → InS q → okS (fdA l m k i q) = true ∧ InS (fdA l m k i q)
 | 0,_,_,q,h,_,r=>⟨h,r⟩
 | m + 1,k,i,q,h,h2,r=>by
  unfold fdA
  split
  ·exact fdA_ok l m _ _ _ h h2 r
  ·exact fdA_ok l m _ _ _ (fdS_ok h h2 i (by omega)) h2 ⟨r.a,r.b,r.c,r.d⟩
theorem bits_z : bitsB 0 0 = true := by kernel_rfl
theorem aProc_ok (l : List Int) : okS (aProc l) = true ∧ InS (aProc l) := by
 have hp : 0 ≤ pendA l ∧ pendA l ≤ 65534 := rngA (bitA .i64 (nx l 6) (nx l 7))
 unfold aProc
 split
 ·rename_i h
  exact ⟨baseA_ok l _ 0 bits_z (by rw [if_pos h]; exact ⟨rfl,by omega,by omega⟩),baseA_in l _ 0 (by omega)⟩
 ·rename_i h
  refine fdA_ok l 8 7 0 _ (baseA_ok l 0 _ ?_ (by rw [if_neg h])) h (baseA_in l 0 _ (by omega))
  unfold bitsB
  rw [bitN_z (by rw [bv_A _ 65534]; exact bv1 _ _),bitA_z (by simp)]; rfl
theorem encR_eq {p : ProcS} (r : InS p) : encR p = encS p := by
 have e : ∀ n : Int,0 ≤ n ∧ n ≤ 65535 → two8 n = put2 n := fun n h=>by unfold two8 put2 hi2 lo2; rw [if_pos h,if_pos h]
 unfold encR encS headR headS
 rw [e _ r.a,e _ r.b,e _ r.c,e _ r.d]
theorem ct_next (bn bz : Nat) (p : HP) (a : Option Addr) (ro : Bool) (c : Nat) (l : List Int) [ks : IsSl p a ro Y_int 1 l.length c (l.map int)] (n : Nat) (hn : n ≤ 1000) :
  Ct CALL F_law11_Proc_1 [P0 bn,P0 bz] [pt bn (.cells Y_int false [int n]),pt bz (.cells Y_s_int false [.slice a l.length c]),p] fun v own=>v = int (nx l (n + 1)) ∧ own [pt bn (.cells Y_int false [int ((n + 1 : Nat) : Int)]),pt bz (.cells Y_s_int false [.slice a l.length c]),p] := by
 have e1 : IntKind.wrap .i64 ((n : Int) + 1) = ((n + 1 : Nat) : Int) := by rw [wrap_eq]; omega
 refine Ct.of k_law11_Proc_1 rfl fun h r=>Tr.eq (e_law11_Proc_1 ..) ?_; (try simp only[Nr,Nl,Nat.reduceAdd,Nat.reduceMul,Int.reduceToNat])
 (repeat' first|refine Gu ?_|(with_reducible first|refine Gn fun b h=>?_|apply Gx|apply Gy|rintro px rfl|refine fun(h:H)=>?_|intro hb)|refine Gs ?_|refine Gt ?_|exact Gz rfl|fail)
 simp only [e1,List.set_cons_zero]
 by_cases hg : n + 1 > l.length
 ·refine Tr.condT (by simp; omega) ?_
  (repeat' first|refine Gu ?_|(with_reducible first|refine Gn fun b h=>?_|apply Gx|apply Gy|rintro px rfl|refine fun(h:H)=>?_|intro hb)|refine Gs ?_|refine Gt ?_|exact Gz rfl|fail)
  refine Tr.some fun o=>?_
  have : nx l (n + 1) = 7 * ((n + 1 : Nat) : Int) := by unfold nx; rw [if_pos hg]
  refine ⟨?_,o.sub⟩
  rw [this]; congr 1; rw [wrap_eq]; omega
 ·refine Tr.condF (by simp; omega) ?_
  have hx : (l.map int)[n]? = some (int (l.getD n 0)) := by rw [List.getElem?_map,getD_get 0 (show n < l.length by omega)]; rfl
  have e2 : IntKind.wrap .i64 (((n + 1 : Nat) : Int) - 1) = (n : Int) := by rw [wrap_eq]; omega
  (repeat' first|refine Gu ?_|(with_reducible first|refine Gn fun b h=>?_|apply Gx|apply Gy|rintro px rfl|refine fun(h:H)=>?_|intro hb)|refine Gs ?_|refine Gt ?_|exact Gz rfl|fail)
  rw [e2,Int.toNat_natCast]
  (repeat' first|refine Gu ?_|(with_reducible first|refine Gn fun b h=>?_|apply Gx|apply Gy|rintro px rfl|refine fun(h:H)=>?_|intro hb)|refine Gs ?_|refine Gt ?_|exact Gz rfl|fail)
  refine Tr.some fun o=>?_
  have : nx l (n + 1) = l.getD n 0 % 16777216 := by unfold nx; rw [if_neg hg]; rfl
  rw [this,bitA_24]
  exact ⟨rfl,o.sub⟩
end Go.EQ

set_option maxRecDepth 10000
namespace Go.EQ
open Go Go.NN
theorem ct_aProc_L1 (bn bz bq bx : Nat) (z : ProcS) (p : HP) (a : Option Addr) (ro : Bool) (c : Nat) (l : List Int) [ks : IsSl p a ro Y_int 1 l.length c (l.map int)] : ∀ (m i k : Nat) (q : ProcS),i + m = 8 → k ≤ 100 + i →
  CtJ JUMP F_law11_Proc T_law11_Proc_L1 [(2,P0 bx),(4,.func (.func F_law11_Proc_1) ⟨[]⟩ ⟨[P0 bn,P0 bz]⟩),(6,P0 bq),(7,int i)] [pt bn (.cells Y_int false [int k]),pt bz (.cells Y_s_int false [.slice a l.length c]),pt bq (.cells Y_api_Proc false (procL q)),pt bx (.cells Y_api_Proc false (procL z)),p] fun v own=>v = .agg ⟨procL (fdA l m k i q)⟩ ∧ own [p] := by
 intro m
 induction m with
 | zero =>
  intro i k q hi hk
  refine CtJ.of k_law11_Proc fun h r=>Tr.eq (e_law11_Proc_L1 ..) ?_; (try simp only[Nr,Nl,Nat.reduceAdd,Nat.reduceMul,Int.reduceToNat])
  refine Tr.condF (by simp; omega) ?_
  (repeat' first|refine Gu ?_|(with_reducible first|refine Gn fun b h=>?_|apply Gx|apply Gy|rintro px rfl|refine fun(h:H)=>?_|intro hb)|refine Gs ?_|refine Gt ?_|exact Gz rfl|fail)
  refine Tr.some fun o=>?_
  exact ⟨rfl,o.sub⟩
 | succ m ih =>
  intro i k q hi hk
  have e1 : IntKind.wrap .i64 ((i : Int) + 1) = ((i + 1 : Nat) : Int) := by rw [wrap_eq]; omega
  refine CtJ.of k_law11_Proc fun h r=>Tr.eq (e_law11_Proc_L1 ..) ?_; (try simp only[Nr,Nl,Nat.reduceAdd,Nat.reduceMul,Int.reduceToNat])
  refine Tr.condT (by simp; omega) ?_
  simp only [bitA_3,fdivP,pw]
  refine Tr.xCall (ct_next bn bz p a ro c l k (by omega)) ?_; rintro _ h ⟨rfl,o⟩ <;> (refine (?_ : Tr _ _ _ _) o; (try simp only[Nr,Nl,Nat.reduceAdd,Nat.reduceMul,Int.reduceToNat]); (repeat' first|refine Gu ?_|(with_reducible first|refine Gn fun b h=>?_|apply Gx|apply Gy|rintro px rfl|refine fun(h:H)=>?_|intro hb)|refine Gs ?_|refine Gt ?_|exact Gz rfl|fail))
  rw [e1,tmodP (show 0 ≤ nx l (k + 1) / 4 by have := nx_pos l (k + 1); omega)]
  have ef : fdA l (m + 1) k i q = fdA l m (k + 1) (i + 1) (if nx l (k + 1) % 4 = 0 then q else fdS q i (nx l (k + 1) / 4 % 13)) := rfl
  rw [ef]
  by_cases h4 : nx l (k + 1) % 4 = 0
  ·refine Tr.condF (by simpa using h4) ?_
   rw [if_pos h4]
   refine Tr.xRun (ih (i + 1) (k + 1) q (by omega) (by omega)) ?_
   intro v h q
   exact q
  ·refine Tr.condT (by simpa using h4) ?_
   rw [if_neg h4]
   (repeat' first|refine Gu ?_|(with_reducible first|refine Gn fun b h=>?_|apply Gx|apply Gy|rintro px rfl|refine fun(h:H)=>?_|intro hb)|refine Gs ?_|refine Gt ?_|exact Gz rfl|fail)
   rw [Int.toNat_natCast]
   refine Gs (fun h=>?_) (by exact fdS_set q i (nx l (k + 1) / 4 % 13) (by omega))
   refine Tr.xRun (ih (i + 1) (k + 1) (fdS q i (nx l (k + 1) / 4 % 13)) (by omega) (by omega)) ?_
   intro v h q
   exact q
theorem ct_aProc (p : HP) (a : Option Addr) (ro : Bool) (c : Nat) (l : List Int) [ks : IsSl p a ro Y_int 1 l.length c (l.map int)] : Ct CALL F_law11_Proc [.slice a l.length c] [p] fun v own=>v = .agg ⟨procL (aProc l)⟩ ∧ own [p] := by
 have n1 := nx_pos l 1
 have hst : ([int 1,int 1,int 3,int 2] : List Value)[(nx l 1 % 4).toNat]? = some (int (stA (nx l 1 % 4))) := by
  have : nx l 1 % 4 = 0 ∨ nx l 1 % 4 = 1 ∨ nx l 1 % 4 = 2 ∨ nx l 1 % 4 = 3 := by omega
  rcases this with h | h | h | h <;> rw [h] <;> rfl
 refine Ct.of k_law11_Proc rfl fun h r=>Tr.eq (e_law11_Proc ..) ?_; (try simp only[Nr,Nl,Nat.reduceAdd,Nat.reduceMul,Int.reduceToNat])
 refine Tr.nw fun bz h=>?_
 refine Tr.nw fun bx h=>?_
 refine Tr.nw fun bn h=>?_
 simp only [bitA_3,bitA_15,bitA_7,bitA_255,fdivP,pw]
 (repeat' first|refine Gu ?_|(with_reducible first|refine Gn fun b h=>?_|apply Gx|apply Gy|rintro px rfl|refine fun(h:H)=>?_|intro hb)|refine Gs ?_|refine Gt ?_|exact Gz rfl|fail)
 simp only [List.set_cons_zero]
 refine Tr.xCall (ct_next bn bz p a ro c l 0 (by omega)) ?_; rintro _ h ⟨rfl,o⟩ <;> (refine (?_ : Tr _ _ _ _) o; (try simp only[Nr,Nl,Nat.reduceAdd,Nat.reduceMul,Int.reduceToNat]))
 refine Tr.dx ?_
 refine Tr.nw fun b4 h=>?_
 refine Tr.ck (by omega) ?_
 refine Tr.xInt hst ?_
 refine Tr.nw fun bq h=>?_
 rw [tmodP (show 0 ≤ nx l (0 + 1) / 4 % 16 by omega)]
 (repeat' first|refine Gu ?_|(with_reducible first|refine Gn fun b h=>?_|apply Gx|apply Gy|rintro px rfl|refine fun(h:H)=>?_|intro hb)|refine Gs ?_|refine Gt ?_|exact Gz rfl|fail)
 refine Tr.xCall (ct_next bn bz p a ro c l 1 (by omega)) ?_; rintro _ h ⟨rfl,o⟩ <;> (refine (?_ : Tr _ _ _ _) o; (try simp only[Nr,Nl,Nat.reduceAdd,Nat.reduceMul,Int.reduceToNat]); (repeat' first|refine Gu ?_|(with_reducible first|refine Gn fun b h=>?_|apply Gx|apply Gy|rintro px rfl|refine fun(h:H)=>?_|intro hb)|refine Gs ?_|refine Gt ?_|exact Gz rfl|fail))
 refine Tr.xCall (ct_next bn bz p a ro c l 2 (by omega)) ?_; rintro _ h ⟨rfl,o⟩ <;> (refine (?_ : Tr _ _ _ _) o; (try simp only[Nr,Nl,Nat.reduceAdd,Nat.reduceMul,Int.reduceToNat]); (repeat' first|refine Gu ?_|(with_reducible first|refine Gn fun b h=>?_|apply Gx|apply Gy|rintro px rfl|refine fun(h:H)=>?_|intro hb)|refine Gs ?_|refine Gt ?_|exact Gz rfl|fail))
 refine Tr.xCall (ct_next bn bz p a ro c l 3 (by omega)) ?_; rintro _ h ⟨rfl,o⟩ <;> (refine (?_ : Tr _ _ _ _) o; (try simp only[Nr,Nl,Nat.reduceAdd,Nat.reduceMul,Int.reduceToNat]); (repeat' first|refine Gu ?_|(with_reducible first|refine Gn fun b h=>?_|apply Gx|apply Gy|rintro px rfl|refine fun(h:H)=>?_|intro hb)|refine Gs ?_|refine Gt ?_|exact Gz rfl|fail))
 refine Tr.xCall (ct_next bn bz p a ro c l 4 (by omega)) ?_; rintro _ h ⟨rfl,o⟩ <;> (refine (?_ : Tr _ _ _ _) o; (try simp only[Nr,Nl,Nat.reduceAdd,Nat.reduceMul,Int.reduceToNat]); (repeat' first|refine Gu ?_|(with_reducible first|refine Gn fun b h=>?_|apply Gx|apply Gy|rintro px rfl|refine fun(h:H)=>?_|intro hb)|refine Gs ?_|refine Gt ?_|exact Gz rfl|fail))
 by_cases h2 : stA (nx l 1 % 4) = 2
 ·refine Tr.condT (by simpa using h2) ?_
  (repeat' first|refine Gu ?_|(with_reducible first|refine Gn fun b h=>?_|apply Gx|apply Gy|rintro px rfl|refine fun(h:H)=>?_|intro hb)|refine Gs ?_|refine Gt ?_|exact Gz rfl|fail)
  refine Tr.some fun o=>?_
  unfold aProc
  rw [if_pos h2]
  exact ⟨rfl,o.sub⟩
 ·refine Tr.condF (by simpa using h2) ?_
  refine Tr.xCall (ct_next bn bz p a ro c l 5 (by omega)) ?_; rintro _ h ⟨rfl,o⟩ <;> (refine (?_ : Tr _ _ _ _) o; (try simp only[Nr,Nl,Nat.reduceAdd,Nat.reduceMul,Int.reduceToNat]); (repeat' first|refine Gu ?_|(with_reducible first|refine Gn fun b h=>?_|apply Gx|apply Gy|rintro px rfl|refine fun(h:H)=>?_|intro hb)|refine Gs ?_|refine Gt ?_|exact Gz rfl|fail))
  refine Tr.xCall (ct_next bn bz p a ro c l 6 (by omega)) ?_; rintro _ h ⟨rfl,o⟩ <;> (refine (?_ : Tr _ _ _ _) o; (try simp only[Nr,Nl,Nat.reduceAdd,Nat.reduceMul,Int.reduceToNat]); (repeat' first|refine Gu ?_|(with_reducible first|refine Gn fun b h=>?_|apply Gx|apply Gy|rintro px rfl|refine fun(h:H)=>?_|intro hb)|refine Gs ?_|refine Gt ?_|exact Gz rfl|fail))
  have ea : aProc l = fdA l 8 7 0 (baseA l 0 (pendA l)) := by unfold aProc; rw [if_neg h2]
  rw [ea]
  refine tr_order [0,0,1,2,0] 1 rfl rfl ?_
  refine tr_runI (ct_aProc_L1 bn bz bq bx .zero p a ro c l 8 0 7 (baseA l 0 (pendA l)) rfl (by omega)) [0,0,0,0,0] rfl ?_
  intro v h q
  exact q
end Go.EQ

set_option maxRecDepth 10000
namespace Go.EQ
open Go Go.NN
theorem Ct.lay {f : FuncId} {args : List Value} {c k : Nat} {S : KS} (kS : Like S) {s : Nat} {env : Int} (e : EnvP s env) {B : List RecS} {X' : CX} {S' : KS} {v0 : Value}
  (J : Ct CALL f args [cmC c k (frP S s env) ⟨cutM S.mem (rgP s),B⟩] fun v own=>v = v0 ∧ own [cmC c k (frP S s env) X']) (hs : (frP S s env).at X'.m = S') :
  Ct CALL f args [kernC k S,comC c k env capsP B] fun v own=>v = v0 ∧ own [kernC k S',comC c k env capsP X'.bad] := by
 intro h r o
 have o1 := Own.cmTake c k (frP S s env) B (frP_ok kS e) (frP_room kS e.hs env) o
 obtain ⟨v,h',e1,hv,o2⟩ := J h r o1
 obtain ⟨_,o3⟩ := Own.cmLay o2
 rw [hs] at o3
 exact ⟨v,h',e1,hv,o3⟩
theorem at_same {S : KS} (kS : Like S) {s : Nat} {env : Int} (e : EnvP s env) : (frP S s env).at (cutM S.mem (rgP s)) = S := Fr.at_cut (frP_ok kS e) (frP_room kS e.hs env)
abbrev putR (S : KS) (a : Nat) (b : List UInt8) : KS := putMem S (splice S.mem a b)
theorem putR_like {S : KS} (k : Like S) {a : Nat} {b : List UInt8} (h : a + b.length ≤ 492) : Like (putR S a b) := like_put k (by rw [splice_len (by rw [k.mem]; omega)]; exact k.mem)
theorem piece_set {S : KS} (k : Like S) {env : Int} (e : EnvP 0 env) {a : Nat} {b : List UInt8} (hb : a + b.length ≤ 492) :
  (frP S 0 env).at ((cutM S.mem (rgP 0)).set 0 (splice ((cutM S.mem (rgP 0)).getD 0 []) a b)) = putR S a b := by
 have F := frP_ok k e
 have hr := frP_room k e.hs env
 have f := cutM_fit (mem := S.mem) (rg := rgP 0) hr
 have h : (rgP 0)[0]? = some (0,492) := rfl
 have hx : (cutM S.mem (rgP 0))[0]? = some ((cutM S.mem (rgP 0)).getD 0 []) := by rw [cutM_getD h,cutM_get h]
 have q := pour_splice f F.dj h hx (a := a) (b := b) hb
 have pc : pour S.mem (rgP 0) (cutM S.mem (rgP 0)) = S.mem := pour_cut F.dj hr
 unfold Fr.at
 show putMem S (pour S.mem (rgP 0) _) = _
 rw [← q,pc,Nat.zero_add]
theorem placeS {nc : Nat} {i : Nat} (hi : i < 8) : placeX nc ⟨1,i⟩ = some (0,24 * i,24) := by
 unfold placeX mostX
 rw [if_neg (by simp; omega),if_pos rfl]; rfl
theorem seeS {mem : List UInt8} {B : List RecS} {i : Nat} (hi : i < 8) (hb : ¬ (⟨1,i⟩ : RecS) ∈ B) : procX ⟨cutM mem (rgP 0),B⟩ i = (decS (slice mem (24 * i) 24),⟨cutM mem (rgP 0),if (decS (slice mem (24 * i) 24)).2 = 2 then B ++ [⟨1,i⟩] else B⟩) := by
 have hrd : rdX ⟨cutM mem (rgP 0),B⟩ ⟨1,i⟩ = some (slice mem (24 * i) 24) := by
  unfold rdX
  rw [placeS hi]
  simp only [hb,if_false]
  rw [cutM_getD (lo := 0) (n := 492) rfl,slice_slice (by omega),Nat.zero_add]
 unfold procX recX
 rw [hrd]
 simp only
 split <;> rfl
theorem noS {mem : List UInt8} {B : List RecS} {i : Nat} (hi : i < 8) (hb : (⟨1,i⟩ : RecS) ∈ B) : procX ⟨cutM mem (rgP 0),B⟩ i = ((.zero,2),⟨cutM mem (rgP 0),B⟩) := by
 have hrd : rdX ⟨cutM mem (rgP 0),B⟩ ⟨1,i⟩ = none := by
  unfold rdX
  rw [placeS hi]
  simp only [hb,if_true]
 unfold procX recX
 rw [hrd]
theorem ct_seeR (c k : Nat) {S : KS} (kS : Like S) {env : Int} (e : EnvP 0 env) {B B' : List RecS} {i : Int} {v0 : ProcS × Int} (hr : procX ⟨cutM S.mem (rgP 0),B⟩ i = (v0,⟨cutM S.mem (rgP 0),B'⟩)) :
  Ct CALL F_commons_Commons_Proc [P0 c,int i] [kernC k S,comC c k env capsP B] fun v own=>v = .tuple ⟨[.agg ⟨procL v0.1⟩,int v0.2]⟩ ∧ own [kernC k S,comC c k env capsP B'] := by
 have J := ct_cProc c k (frP S 0 env) ⟨cutM S.mem (rgP 0),B⟩ (frP_ok kS e) i
 rw [hr] at J
 exact Ct.lay kS e J (at_same kS e)
theorem ct_setR (c k : Nat) {S : KS} (kS : Like S) {env : Int} (e : EnvP 0 env) {B : List RecS} {i : Nat} (hi : i < 8) (hb : ¬ (⟨1,i⟩ : RecS) ∈ B) {p : ProcS} (hp : okS p = true) :
  Ct CALL F_commons_Commons_SetProc [P0 c,int i,.agg ⟨procL p⟩] [kernC k S,comC c k env capsP B] fun v own=>v = .bool true ∧ own [kernC k (putR S (24 * i) (encS p)),comC c k env capsP B] := by
 have J := ct_cSetProc c k (frP S 0 env) ⟨cutM S.mem (rgP 0),B⟩ (frP_ok kS e) i p
 have ew : setProcX ⟨cutM S.mem (rgP 0),B⟩ i p = (true,⟨(cutM S.mem (rgP 0)).set 0 (splice ((cutM S.mem (rgP 0)).getD 0 []) (24 * i) (encS p)),B⟩) := by
  unfold setProcX wrX
  rw [placeS hi,hp]
  simp only [hb,not_false_eq_true,and_self,if_true]
 rw [ew] at J
 exact Ct.lay kS e J (piece_set kS e (by rw [encS_len]; omega))
theorem ct_setR0 (c k : Nat) {S : KS} (kS : Like S) {env : Int} (e : EnvP 0 env) {B : List RecS} {i : Nat} (hi : i < 8) (hb : (⟨1,i⟩ : RecS) ∈ B) (p : ProcS) :
  Ct CALL F_commons_Commons_SetProc [P0 c,int i,.agg ⟨procL p⟩] [kernC k S,comC c k env capsP B] fun v own=>v = .bool false ∧ own [kernC k S,comC c k env capsP B] := by
 have J := ct_cSetProc c k (frP S 0 env) ⟨cutM S.mem (rgP 0),B⟩ (frP_ok kS e) i p
 have ew : setProcX ⟨cutM S.mem (rgP 0),B⟩ i p = (false,⟨cutM S.mem (rgP 0),B⟩) := by
  unfold setProcX wrX
  rw [placeS hi]
  simp only [hb,not_true_eq_false,and_false,if_false]
 rw [ew] at J
 exact Ct.lay kS e J (at_same kS e)
theorem ct_freeR0 (c k : Nat) {S : KS} (kS : Like S) {env : Int} (e : EnvP 0 env) {B : List RecS} {i : Nat} (hi : i < 8) (hb : (⟨1,i⟩ : RecS) ∈ B) :
  Ct CALL F_commons_Commons_FreeProc [P0 c,int i] [kernC k S,comC c k env capsP B] fun v own=>v = .bool false ∧ own [kernC k S,comC c k env capsP B] := by
 have J := ct_cFreeProc c k (frP S 0 env) ⟨cutM S.mem (rgP 0),B⟩ (frP_ok kS e) i
 have ew : freeX ⟨cutM S.mem (rgP 0),B⟩ ⟨1,i⟩ = (false,⟨cutM S.mem (rgP 0),B⟩) := by
  unfold freeX wrX
  rw [placeS hi]
  simp only [hb,not_true_eq_false,and_false,if_false]
 rw [ew] at J
 exact Ct.lay kS e J (at_same kS e)
theorem env1 : EnvP 0 1 := ⟨by omega,by omega,by kernel_rfl,by kernel_rfl,by kernel_rfl⟩
theorem kput {S : KS} (kS : Like S) {env : Int} (e : EnvP 0 env) {a : Nat} {b : List UInt8} (hb : a + b.length ≤ 492) : kAns S env ⟨2,256,(a : Int),0,0,0,b⟩ = ((0,0,[]),putR S a b) := by
 have F := frP_ok kS e
 have hp := F.pl 0 256 0 492 rfl rfl a b.length 2 (.inr rfl) hb
 have hs : storeV S.mem ((0 + a : Nat) : Int) b = some (splice S.mem a b) := by
  unfold storeV
  rw [if_pos (by rw [kS.mem]; omega),Int.toNat_natCast,Nat.zero_add]; rfl
 have ew : writeV S.tabs S.regs S.mem env 256 (a : Int) b = (0,splice S.mem a b) := by
  unfold writeV
  rw [show placeV S.tabs S.regs env 256 2 (a : Int) (b.length : Int) = (((0 + a : Nat) : Int),0) from hp]
  rw [if_neg (by simp),hs]
 unfold kAns
 rw [if_neg (show ¬ (env < 0 ∨ env ≥ (S.envs.length : Int)) from F.env)]
 unfold kDo
 rw [if_neg (show ¬ ((2 : Int) = 1) by decide),if_pos rfl,ew]
theorem dmg (i : Nat) (hi : i < 8) : decS (slice (splice S0.mem (24 * i + 5) [9]) (24 * i) 24) = (.zero,2) := by
 have : i = 0 ∨ i = 1 ∨ i = 2 ∨ i = 3 ∨ i = 4 ∨ i = 5 ∨ i = 6 ∨ i = 7 := by omega
 rcases this with rfl | rfl | rfl | rfl | rfl | rfl | rfl | rfl <;> (clear hi; show (_ : ProcS × Int) = _; kernel_rfl)
theorem bad1 (i : Nat) (hi : i < 8) : (badOf 3 [⟨1,i⟩]).length = 1 := by
 have : i = 0 ∨ i = 1 ∨ i = 2 ∨ i = 3 ∨ i = 4 ∨ i = 5 ∨ i = 6 ∨ i = 7 := by omega
 rcases this with rfl | rfl | rfl | rfl | rfl | rfl | rfl | rfl <;> (clear hi; show (_ : Nat) = _; kernel_rfl)
theorem eqS {α : Type} (p : ProcS) (k : Bool → Option α) : eqAgg PR Y_api_Proc (procL p) (procL p) k = k true := by
 have e : leafs PR 8 Y_api_Proc = some (List.replicate 16 (TypeDesc.int .i64)) := by kernel_rfl
 have f := fit_ints p.fds
 rw [p.len] at f
 have f2 : fitL (List.replicate 16 (TypeDesc.int .i64)) (procL p) = true := by
  show fitL (.int .i64 :: .int .i64 :: .int .i64 :: .int .i64 :: .int .i64 :: .int .i64 :: .int .i64 :: .int .i64 :: List.replicate 8 (TypeDesc.int .i64)) (procL p) = true
  simp only [procL,fitL,decide_true,f,Bool.and_self]
 have q : eqs (procL p) (procL p) = some true := eqs_self (by simp [procL])
 rw [eqAgg,e]
 simp only [f2,q,Bool.and_self,ckB,cond_true,eqK]
end Go.EQ

set_option maxRecDepth 10000
namespace Go.EQ
open Go Go.NN
theorem ct_Apart_R1 (k c d bp : Nat) {S : KS} (kS : Like S) (p : HP) (a : Option Addr) (ro : Bool) (cc : Nat) (l : List Int) [ks : IsSl p a ro Y_int 1 l.length cc (l.map int)] (hl : l.length < most) {i j : Nat} (hi : i < 8) (hj : j < 8) (hij : j ≠ i)
  (hm : slice S.mem (24 * i) 24 = encS (aProc l)) :
  CtJ JUMP F_law15_CommonsApart T_law15_CommonsApart_R1 [(0,int i),(1,.slice a l.length cc),(8,P0 c),(11,P0 d),(15,int 2),(17,int 2),(18,P0 bp),(19,int 1),(20,int j)]
   [pt bp (.cells Y_api_Proc false (procL (aProc l))),kernC k S,comC c k 0 capsP [⟨1,i⟩],comC d k 3 capsP [],p] fun v own=>v = .bool true ∧ own [] := by
 have hin : (⟨1,i⟩ : RecS) ∈ ([⟨1,i⟩] : List RecS) := by simp
 have hjn : ¬ (⟨1,(j : Int)⟩ : RecS) ∈ ([⟨1,i⟩] : List RecS) := by simp; omega
 obtain ⟨q1,q2⟩ := aProc_ok (5 :: l)
 obtain ⟨p1,p2⟩ := aProc_ok l
 have lS : Like (putR S (24 * j) (encS (aProc (5 :: l)))) := putR_like kS (by rw [encS_len]; omega)
 have hlen : 24 * j + (encS (aProc (5 :: l))).length ≤ S.mem.length := by rw [encS_len,kS.mem]; omega
 have m1 : slice (putR S (24 * j) (encS (aProc (5 :: l)))).mem (24 * j) 24 = encS (aProc (5 :: l)) := by
  have := slice_splice_in (l := S.mem) (b := encS (aProc (5 :: l))) (a := 24 * j) hlen
  rwa [encS_len] at this
 have m2 : slice (putR S (24 * j) (encS (aProc (5 :: l)))).mem (24 * i) 24 = encS (aProc l) := by
  rw [← hm]
  exact slice_splice_out hlen (by rw [encS_len]; omega)
 have s1 : procX ⟨cutM (putR S (24 * j) (encS (aProc (5 :: l)))).mem (rgP 0),[⟨1,i⟩]⟩ j = ((aProc (5 :: l),1),⟨cutM (putR S (24 * j) (encS (aProc (5 :: l)))).mem (rgP 0),[⟨1,i⟩]⟩) := by
  rw [seeS hj hjn,m1,decS_enc q1 q2]; rfl
 have s2 : procX ⟨cutM (putR S (24 * j) (encS (aProc (5 :: l)))).mem (rgP 0),[]⟩ i = ((aProc l,1),⟨cutM (putR S (24 * j) (encS (aProc (5 :: l)))).mem (rgP 0),[]⟩) := by
  rw [seeS hi (by simp),m2,decS_enc p1 p2]; rfl
 refine CtJ.of k_law15_CommonsApart fun h r=>Tr.eq (e_law15_CommonsApart_R1 ..) ?_; (try simp only[Nr,Nl,Nat.reduceAdd,Nat.reduceMul,Int.reduceToNat])
 refine Tr.nw fun b1 h=>?_
 refine tr_asSl 0 rfl 1 1 rfl (by omega) ?_
 (try simp only[Nr,Nl,Nat.reduceAdd,Nat.reduceMul,Int.reduceToNat])
 (repeat' first|refine Gu ?_|(with_reducible first|refine Gn fun b h=>?_|apply Gx|apply Gy|rintro px rfl|refine fun(h:H)=>?_|intro hb)|refine Gs ?_|refine Gt ?_|exact Gz rfl|fail)
 refine Tr.xApd ⟨by simp,by simp [Value.oneCell],by omega⟩ fun a1 c1 h=>?_
 rw [show 1 + l.length = ((5 : Int) :: l).length by simp; omega,show ([int 5] ++ l.map int : List Value) = ((5 : Int) :: l).map int from rfl]
 refine Tr.xCall (ct_aProc (slC false Y_int 1 a1 ((5 : Int) :: l).length c1 (((5 : Int) :: l).map int)) a1 false c1 (5 :: l)) ?_; rintro _ h ⟨rfl,o⟩ <;> (refine (?_ : Tr _ _ _ _) o; (try simp only[Nr,Nl,Nat.reduceAdd,Nat.reduceMul,Int.reduceToNat]))
 refine Tr.dx ?_
 refine Tr.nw fun b2 h=>?_
 (repeat' first|refine Gu ?_|(with_reducible first|refine Gn fun b h=>?_|apply Gx|apply Gy|rintro px rfl|refine fun(h:H)=>?_|intro hb)|refine Gs ?_|refine Gt ?_|exact Gz rfl|fail)
 refine Tr.xCall (ct_setR d k kS env3 hj (show ¬ (⟨1,(j : Int)⟩ : RecS) ∈ ([] : List RecS) by simp) q1) ?_; rintro _ h ⟨rfl,o⟩ <;> (refine (?_ : Tr _ _ _ _) o; (try simp only[Nr,Nl,Nat.reduceAdd,Nat.reduceMul,Int.reduceToNat]))
 (repeat' first|refine Gu ?_|(with_reducible first|refine Gn fun b h=>?_|rintro px rfl|refine fun(h:H)=>?_|intro hb)|refine Gs ?_|refine Gt ?_|exact Gz rfl|fail)
 refine Tr.bnd (Tr.condF rfl ?_)
 (repeat' first|refine Gu ?_|(with_reducible first|refine Gn fun b h=>?_|rintro px rfl|refine fun(h:H)=>?_|intro hb)|refine Gs ?_|refine Gt ?_|exact Gz rfl|fail)
 refine Tr.xCall (ct_setR0 c k lS env0 hi hin (aProc (5 :: l))) ?_; rintro _ h ⟨rfl,o⟩ <;> (refine (?_ : Tr _ _ _ _) o; (try simp only[Nr,Nl,Nat.reduceAdd,Nat.reduceMul,Int.reduceToNat]))
 (repeat' first|refine Gu ?_|(with_reducible first|refine Gn fun b h=>?_|rintro px rfl|refine fun(h:H)=>?_|intro hb)|refine Gs ?_|refine Gt ?_|exact Gz rfl|fail)
 refine Tr.some fun o=>(?_ : Tr _ _ _ _) o; (try simp only[Nr,Nl,Nat.reduceAdd,Nat.reduceMul,Int.reduceToNat])
 refine Tr.bnd (Tr.condF rfl ?_)
 refine Tr.xCall (ct_freeR0 c k lS env0 hi hin) ?_; rintro _ h ⟨rfl,o⟩ <;> (refine (?_ : Tr _ _ _ _) o; (try simp only[Nr,Nl,Nat.reduceAdd,Nat.reduceMul,Int.reduceToNat]))
 (repeat' first|refine Gu ?_|(with_reducible first|refine Gn fun b h=>?_|rintro px rfl|refine fun(h:H)=>?_|intro hb)|refine Gs ?_|refine Gt ?_|exact Gz rfl|fail)
 refine Tr.some fun o=>(?_ : Tr _ _ _ _) o; (try simp only[Nr,Nl,Nat.reduceAdd,Nat.reduceMul,Int.reduceToNat])
 refine Tr.condF rfl ?_
 refine Tr.xCall (ct_seeR c k lS env0 s1) ?_; rintro _ h ⟨rfl,o⟩ <;> (refine (?_ : Tr _ _ _ _) o; (try simp only[Nr,Nl,Nat.reduceAdd,Nat.reduceMul,Int.reduceToNat]))
 (repeat' first|refine Gu ?_|(with_reducible first|apply Gx|apply Gy|rintro px rfl|refine fun(h:H)=>?_|intro hb)|refine Gs ?_|refine Gt ?_|exact Gz rfl|fail)
 refine Tr.nw fun b3 h=>?_
 (repeat' first|refine Gu ?_|(with_reducible first|apply Gx|apply Gy|rintro px rfl|refine fun(h:H)=>?_|intro hb)|refine Gs ?_|refine Gt ?_|exact Gz rfl|fail)
 refine Tr.xCall (ct_seeR d k lS env3 s2) ?_; rintro _ h ⟨rfl,o⟩ <;> (refine (?_ : Tr _ _ _ _) o; (try simp only[Nr,Nl,Nat.reduceAdd,Nat.reduceMul,Int.reduceToNat]))
 (repeat' first|refine Gu ?_|(with_reducible first|apply Gx|apply Gy|rintro px rfl|refine fun(h:H)=>?_|intro hb)|refine Gs ?_|refine Gt ?_|exact Gz rfl|fail)
 refine Tr.nw fun b4 h=>?_
 (repeat' first|refine Gu ?_|(with_reducible first|refine Gn fun b h=>?_|rintro px rfl|refine fun(h:H)=>?_|intro hb)|refine Gs ?_|refine Gt ?_|exact Gz rfl|fail)
 refine Tr.bnd (Tr.condT rfl ?_)
 refine Tr.some fun o=>(?_ : Tr _ _ _ _) o; (try simp only[Nr,Nl,Nat.reduceAdd,Nat.reduceMul,Int.reduceToNat])
 refine Tr.bnd (Tr.condT rfl ?_)
 refine Tr.some fun o=>(?_ : Tr _ _ _ _) o; (try simp only[Nr,Nl,Nat.reduceAdd,Nat.reduceMul,Int.reduceToNat])
 refine Tr.bnd (Tr.condT rfl ?_)
 (repeat' first|refine Gu ?_|(with_reducible first|refine Gn fun b h=>?_|rintro px rfl|refine fun(h:H)=>?_|intro hb)|refine Gs ?_|refine Gt ?_|exact Gz rfl|fail)
 refine Tr.xCall (ct_aProc p a ro cc l) ?_; rintro _ h ⟨rfl,o⟩ <;> (refine (?_ : Tr _ _ _ _) o; (try simp only[Nr,Nl,Nat.reduceAdd,Nat.reduceMul,Int.reduceToNat]))
 (repeat' first|refine Gu ?_|(with_reducible first|refine Gn fun b h=>?_|rintro px rfl|refine fun(h:H)=>?_|intro hb)|refine Gs ?_|refine Gt ?_|exact Gz rfl|fail)
 rw [eqS]
 refine Tr.some fun o=>(?_ : Tr _ _ _ _) o; (try simp only[Nr,Nl,Nat.reduceAdd,Nat.reduceMul,Int.reduceToNat])
 refine Tr.bnd (Tr.condT rfl ?_)
 refine Tr.some fun o=>(?_ : Tr _ _ _ _) o; (try simp only[Nr,Nl,Nat.reduceAdd,Nat.reduceMul,Int.reduceToNat])
 refine Tr.bnd (Tr.condT rfl ?_)
 (repeat' first|refine Gu ?_|(with_reducible first|refine Gn fun b h=>?_|rintro px rfl|refine fun(h:H)=>?_|intro hb)|refine Gs ?_|refine Gt ?_|exact Gz rfl|fail)
 rw [eqS]
 refine Tr.some fun o=>(?_ : Tr _ _ _ _) o; (try simp only[Nr,Nl,Nat.reduceAdd,Nat.reduceMul,Int.reduceToNat])
 refine Tr.bnd (Tr.condT rfl ?_)
 refine Tr.some fun o=>(?_ : Tr _ _ _ _) o; (try simp only[Nr,Nl,Nat.reduceAdd,Nat.reduceMul,Int.reduceToNat])
 refine Tr.bnd (Tr.condT rfl ?_)
 (repeat' first|refine Gu ?_|(with_reducible first|refine Gn fun b h=>?_|rintro px rfl|refine fun(h:H)=>?_|intro hb)|refine Gs ?_|refine Gt ?_|exact Gz rfl|fail)
 rw [eqS]
 refine Tr.some fun o=>(?_ : Tr _ _ _ _) o; (try simp only[Nr,Nl,Nat.reduceAdd,Nat.reduceMul,Int.reduceToNat])
 refine Tr.bnd (Tr.condT rfl ?_)
 refine Tr.xCall (ct_cBad c k 0 capsP [⟨1,i⟩] (by simp)) ?_; rintro _ h ⟨a2,c2,rfl,o⟩ <;> (refine (?_ : Tr _ _ _ _) o; (try simp only[Nr,Nl,Nat.reduceAdd,Nat.reduceMul,Int.reduceToNat]))
 (repeat' first|refine Gu ?_|(with_reducible first|refine Gn fun b h=>?_|rintro px rfl|refine fun(h:H)=>?_|intro hb)|refine Gs ?_|refine Gt ?_|exact Gz rfl|fail)
 refine Tr.some fun o=>(?_ : Tr _ _ _ _) o; (try simp only[Nr,Nl,Nat.reduceAdd,Nat.reduceMul,Int.reduceToNat])
 rw [show (badOf capsP.length [⟨1,i⟩]).length = 1 from bad1 i hi]
 refine Tr.bnd (Tr.condT rfl ?_)
 refine Tr.xCall (ct_cBad d k 3 capsP [] (by simp)) ?_; rintro _ h ⟨a3,c3,rfl,o⟩ <;> (refine (?_ : Tr _ _ _ _) o; (try simp only[Nr,Nl,Nat.reduceAdd,Nat.reduceMul,Int.reduceToNat]))
 (repeat' first|refine Gu ?_|(with_reducible first|refine Gn fun b h=>?_|rintro px rfl|refine fun(h:H)=>?_|intro hb)|refine Gs ?_|refine Gt ?_|exact Gz rfl|fail)
 refine Tr.some fun o=>(?_ : Tr _ _ _ _) o; (try simp only[Nr,Nl,Nat.reduceAdd,Nat.reduceMul,Int.reduceToNat])
 rw [show badOf capsP.length [] = [] from badOf_nil _]
 refine Tr.bnd (Tr.condT rfl ?_)
 refine Tr.xCall (ct_awake15) ?_; rintro _ h ⟨rfl,o⟩ <;> (refine (?_ : Tr _ _ _ _) o; (try simp only[Nr,Nl,Nat.reduceAdd,Nat.reduceMul,Int.reduceToNat]))
 (repeat' first|refine Gu ?_|(with_reducible first|refine Gn fun b h=>?_|rintro px rfl|refine fun(h:H)=>?_|intro hb)|refine Gs ?_|refine Gt ?_|exact Gz rfl|fail)
 refine Tr.some fun o=>(?_ : Tr _ _ _ _) o; (try simp only[Nr,Nl,Nat.reduceAdd,Nat.reduceMul,Int.reduceToNat])
 refine Tr.some fun o=>?_
 refine ⟨rfl,?_⟩
 exact o.tail.tail.tail.tail.tail.tail.tail.tail.tail.tail.tail
theorem mod8 (x : Int) : ∃ j : Nat,x % 8 = (j : Int) ∧ j < 8 := ⟨(x % 8).toNat,by omega,by omega⟩
theorem next_ne {n g : Nat} (hn : n < 8) (hg : IntKind.wrap .i64 ((n : Int) + 1) % 8 = (g : Int)) : g ≠ n := by
 have e : IntKind.wrap .i64 ((n : Int) + 1) = n + 1 := by rw [wrap_eq]; omega
 rw [e] at hg
 omega
theorem caps3 : spNames S0.tabs 3 = capsP := by kernel_rfl
theorem ct_CommonsApart (i k2 : Int) (p : HP) (a : Option Addr) (ro : Bool) (cc : Nat) (l : List Int) [ks : IsSl p a ro Y_int 1 l.length cc (l.map int)] (hl : l.length < most) :
  Ct CALL F_law15_CommonsApart [int i,.slice a l.length cc,int k2] [p] fun v own=>v = .bool true ∧ own [] := by
 obtain ⟨n,hn⟩ : ∃ n : Nat,i % 8 = (n : Int) := ⟨(i % 8).toNat,by omega⟩
 have hn8 : n < 8 := by omega
 obtain ⟨p1,p2⟩ := aProc_ok l
 have e5 : IntKind.wrap .i64 (IntKind.wrap .i64 (24 * (n : Int)) + 5) = ((24 * n + 5 : Nat) : Int) := by rw [wrap_eq,wrap_eq]; omega
 have e0 : IntKind.wrap .i64 (24 * (n : Int)) = ((24 * n : Nat) : Int) := by rw [wrap_eq]; omega
 have l1 : Like (putR S0 (24 * n + 5) [9]) := putR_like like0 (by simp; omega)
 have l2 : Like (putR (putR S0 (24 * n + 5) [9]) (24 * n) (encS (aProc l))) := putR_like l1 (by rw [encS_len]; omega)
 have m2 : slice (putR (putR S0 (24 * n + 5) [9]) (24 * n) (encS (aProc l))).mem (24 * n) 24 = encS (aProc l) := by
  have := slice_splice_in (l := (putR S0 (24 * n + 5) [9]).mem) (b := encS (aProc l)) (a := 24 * n) (by rw [encS_len,l1.mem]; omega)
  rwa [encS_len] at this
 have s1 : procX ⟨cutM (putR S0 (24 * n + 5) [9]).mem (rgP 0),[]⟩ n = ((.zero,2),⟨cutM (putR S0 (24 * n + 5) [9]).mem (rgP 0),[⟨1,n⟩]⟩) := by
  rw [seeS hn8 (by simp),show decS (slice (putR S0 (24 * n + 5) [9]).mem (24 * n) 24) = _ from dmg n hn8]; rfl
 have s2 := noS (mem := (putR (putR S0 (24 * n + 5) [9]) (24 * n) (encS (aProc l))).mem) hn8 (B := [⟨1,n⟩]) (by simp)
 have s3 : procX ⟨cutM (putR (putR S0 (24 * n + 5) [9]) (24 * n) (encS (aProc l))).mem (rgP 0),[]⟩ n = ((aProc l,1),⟨cutM (putR (putR S0 (24 * n + 5) [9]) (24 * n) (encS (aProc l))).mem (rgP 0),[]⟩) := by
  rw [seeS hn8 (by simp),m2,decS_enc p1 p2]; rfl
 refine Ct.of k_law15_CommonsApart rfl fun h r=>Tr.eq (e_law15_CommonsApart ..) ?_; (try simp only[Nr,Nl,Nat.reduceAdd,Nat.reduceMul,Int.reduceToNat])
 simp only [bitA_7,bitA_255,hn]
 rw [e5,e0]
 refine Tr.xCall (ct_lPlan) ?_; rintro _ h ⟨A,rfl,o⟩ <;> (refine (?_ : Tr _ _ _ _) o; (try simp only[Nr,Nl,Nat.reduceAdd,Nat.reduceMul,Int.reduceToNat]))
 (repeat' first|refine Gu ?_|(with_reducible first|refine Gn fun b h=>?_|apply Gx|apply Gy|rintro px rfl|refine fun(h:H)=>?_|intro hb)|refine Gs ?_|refine Gt ?_|exact Gz rfl|fail)
 refine Tr.xCall (ct_OpenX A) ?_
 rintro _ h ⟨k,c,w,m,rfl,o⟩
 refine (?_ : Tr _ _ _ _) o
 (try simp only[Nr,Nl,Nat.reduceAdd,Nat.reduceMul,Int.reduceToNat])
 (repeat' first|refine Gu ?_|(with_reducible first|refine Gn fun b h=>?_|apply Gx|apply Gy|rintro px rfl|refine fun(h:H)=>?_|intro hb)|refine Gs ?_|refine Gt ?_|exact Gz rfl|fail)
 refine tr_lay c k F0 X0 fun f=>?_
 rw [show F0.at X0.m = S0 from Fr.at_cut F0_ok (frP_room like0 (by omega) 0)]
 refine (?_ : Tr (kernC k S0 :: comC c k 0 capsP [] :: _) _ _ _)
 refine Tr.xCall (ct_cNew k S0 0 like0.ok 3) ?_
 rintro v h (⟨hz,d,rfl,o⟩ | ⟨hz,rfl,o⟩)
 case inr=>exact absurd hz (by rw [caps3]; simp)
 rw [caps3] at o
 refine (?_ : Tr _ _ _ _) o
 (try simp only[Nr,Nl,Nat.reduceAdd,Nat.reduceMul,Int.reduceToNat])
 (repeat' first|refine Gu ?_|(with_reducible first|refine Gn fun b h=>?_|rintro px rfl|refine fun(h:H)=>?_|intro hb)|refine Gs ?_|refine Gt ?_|exact Gz rfl|fail)
 refine Tr.bnd (Tr.condF rfl ?_)
 refine Tr.some fun o=>(?_ : Tr _ _ _ _) o; (try simp only[Nr,Nl,Nat.reduceAdd,Nat.reduceMul,Int.reduceToNat])
 refine Tr.condF rfl ?_
 refine Tr.xCall (ct_aProc p a ro cc l) ?_; rintro _ h ⟨rfl,o⟩ <;> (refine (?_ : Tr _ _ _ _) o; (try simp only[Nr,Nl,Nat.reduceAdd,Nat.reduceMul,Int.reduceToNat]))
 refine Tr.dx ?_
 refine Tr.xCall (ct_rProcB (aProc l)) ?_; rintro _ h ⟨rfl,o⟩ <;> (refine (?_ : Tr _ _ _ _) o; (try simp only[Nr,Nl,Nat.reduceAdd,Nat.reduceMul,Int.reduceToNat]))
 rw [encR_eq p2]
 refine Tr.dx ?_
 refine Tr.nw fun b9 h=>?_
 refine tr_asSl 0 rfl 1 1 rfl (by omega) ?_
 (try simp only[Nr,Nl,Nat.reduceAdd,Nat.reduceMul,Int.reduceToNat])
 have J1 := ct_kDoC k S0 0 like0.ok (by omega) 1 ⟨2,256,((24 * n + 5 : Nat) : Int),0,0,0,[9]⟩ (some ⟨b9,0,none⟩) 1 false (show ((2 : Int) ≠ 5) by decide)
 rw [kput like0 env1 (by simp; omega)] at J1
 refine tr_callI J1 [3,0] rfl ?_
 rintro _ h ⟨y,z,rfl,o⟩
 refine (?_ : Tr _ _ _ _) o
 (try simp only[Nr,Nl,Nat.reduceAdd,Nat.reduceMul,Int.reduceToNat])
 (repeat' first|refine Gu ?_|(with_reducible first|refine Gn fun b h=>?_|apply Gx|apply Gy|rintro px rfl|refine fun(h:H)=>?_|intro hb)|refine Gs ?_|refine Gt ?_|exact Gz rfl|fail)
 refine Tr.xCall (ct_seeR c k l1 env0 s1) ?_; rintro _ h ⟨rfl,o⟩ <;> (refine (?_ : Tr _ _ _ _) o; (try simp only[Nr,Nl,Nat.reduceAdd,Nat.reduceMul,Int.reduceToNat]))
 (repeat' first|refine Gu ?_|(with_reducible first|apply Gx|apply Gy|rintro px rfl|refine fun(h:H)=>?_|intro hb)|refine Gs ?_|refine Gt ?_|exact Gz rfl|fail)
 refine Tr.nw fun b1 h=>?_
 (repeat' first|refine Gu ?_|(with_reducible first|apply Gx|apply Gy|rintro px rfl|refine fun(h:H)=>?_|intro hb)|refine Gs ?_|refine Gt ?_|exact Gz rfl|fail)
 rw [bs_size,encS_len]
 refine Tr.ck (by simp [most]) ?_
 refine Tr.nw fun b2 h=>?_
 refine tr_open1 (n := 24) 0 rfl (by rw [bc_len]; exact encS_len _) ?_
 (try simp only[Nr,Nl,Nat.reduceAdd,Nat.reduceMul,Int.reduceToNat])
 have J2 := ct_kDoC k (putR S0 (24 * n + 5) [9]) 0 l1.ok (by omega) 1 ⟨2,256,((24 * n : Nat) : Int),0,0,0,encS (aProc l)⟩ (some (openAt b2)) 24 false (show ((2 : Int) ≠ 5) by decide)
 rw [kput l1 env1 (by rw [encS_len]; omega)] at J2
 simp only [callL,encS_len] at J2
 refine tr_callI J2 [2,0] rfl ?_
 rintro _ h ⟨y2,z2,rfl,o⟩
 refine (?_ : Tr _ _ _ _) o
 (try simp only[Nr,Nl,Nat.reduceAdd,Nat.reduceMul,Int.reduceToNat])
 (repeat' first|refine Gu ?_|(with_reducible first|refine Gn fun b h=>?_|apply Gx|apply Gy|rintro px rfl|refine fun(h:H)=>?_|intro hb)|refine Gs ?_|refine Gt ?_|exact Gz rfl|fail)
 refine Tr.xCall (ct_seeR c k l2 env0 s2) ?_; rintro _ h ⟨rfl,o⟩ <;> (refine (?_ : Tr _ _ _ _) o; (try simp only[Nr,Nl,Nat.reduceAdd,Nat.reduceMul,Int.reduceToNat]))
 (repeat' first|refine Gu ?_|(with_reducible first|apply Gx|apply Gy|rintro px rfl|refine fun(h:H)=>?_|intro hb)|refine Gs ?_|refine Gt ?_|exact Gz rfl|fail)
 refine Tr.nw fun b3 h=>?_
 (repeat' first|refine Gu ?_|(with_reducible first|apply Gx|apply Gy|rintro px rfl|refine fun(h:H)=>?_|intro hb)|refine Gs ?_|refine Gt ?_|exact Gz rfl|fail)
 refine Tr.xCall (ct_seeR d k l2 env3 s3) ?_; rintro _ h ⟨rfl,o⟩ <;> (refine (?_ : Tr _ _ _ _) o; (try simp only[Nr,Nl,Nat.reduceAdd,Nat.reduceMul,Int.reduceToNat]))
 (repeat' first|refine Gu ?_|(with_reducible first|apply Gx|apply Gy|rintro px rfl|refine fun(h:H)=>?_|intro hb)|refine Gs ?_|refine Gt ?_|exact Gz rfl|fail)
 refine Tr.nw fun b4 h=>?_
 (repeat' first|refine Gu ?_|(with_reducible first|refine Gn fun b h=>?_|apply Gx|apply Gy|rintro px rfl|refine fun(h:H)=>?_|intro hb)|refine Gs ?_|refine Gt ?_|exact Gz rfl|fail)
 rw [tmodP (show 0 ≤ k2 % 256 by omega)]
 obtain ⟨j,hj,hj8⟩ : ∃ j : Nat,IntKind.wrap .i64 (IntKind.wrap .i64 ((n : Int) + 1) + k2 % 256 % 7) % 8 = (j : Int) ∧ j < 8 := mod8 _
 obtain ⟨g,hg,hg8⟩ : ∃ g : Nat,IntKind.wrap .i64 ((n : Int) + 1) % 8 = (g : Int) ∧ g < 8 := mod8 _
 have hgn : g ≠ n := next_ne hn8 hg
 rw [hj,hg]
 by_cases hjn : j = n
 ·refine Tr.condT (by simp [hjn]) ?_
  refine tr_runI (ct_Apart_R1 k c d b4 l2 p a ro cc l hl hn8 hg8 hgn m2) [0,0,2,0,6] rfl ?_
  intro v h q
  exact ⟨q.1,q.2.tail.tail.tail.tail.tail.tail.tail.tail⟩
 ·refine Tr.condF (by simp; omega) ?_
  refine tr_runI (ct_Apart_R1 k c d b4 l2 p a ro cc l hl hn8 hj8 hjn m2) [0,0,2,0,6] rfl ?_
  intro v h q
  exact ⟨q.1,q.2.tail.tail.tail.tail.tail.tail.tail.tail⟩
end Go.EQ

set_option maxRecDepth 100000
namespace Go.EQ
open Go Go.NN Go.Proofs Go.ChangeShapes Go.WideShapes Go.RowKit
theorem noGlobs : ∀ f,(cutsOf f).globs = 0 := cutsAt_globs cutsL (by kernel_rfl)
theorem globsOk : ∀ f,(cutsOf f).globs ≤ PR.globals.size := fun f=>by rw [noGlobs f]; exact Nat.zero_le _
theorem mixedOk : PR.follows .mixedOrders = true := by kernel_rfl
theorem laidOk : laidOutB PR = true := by kernel_rfl
theorem ownOk : ownKnob PR.godebug = none := by kernel_rfl
end Go.EQ

set_option maxRecDepth 100000
namespace Go.EQ
open Go Go.NN Go.Proofs Go.Proofs.YthhmplobccgeiaaGreat Go.ChangeShapes Go.WideShapes Go.RowKit
theorem slLen {P : Program} {W : World} {a : Option Addr} {n c : Nat} {φ : List Value → List HP → Prop} (i : Imp P W [.slice a n c] φ) : Imp P W [.slice a n c] fun vs ps=>φ vs ps ∧ ∀ a' m c',vs = [.slice a' m c'] → m = n := fun μ h l s=>by
 obtain ⟨μ1,h1,vs,ps,s1,g1,r1,f1⟩ := i μ h l s
 refine ⟨μ1,h1,vs,ps,s1,g1,r1,f1,fun a' m c' e=>?_⟩
 subst e
 cases r1 with
 | cons _ _ _ _ hv hl=>cases hv <;> rfl
theorem blk_one {H : Type} (d : DataW H) : 1 ≤ Rows.uptoBulk d := by
 cases d with
 | lit l=>cases l <;> simp [Rows.uptoBulk]
 | nil=>simp [Rows.uptoBulk]
 | ptr d=>simp [Rows.uptoBulk]
 | slice elems spare=>simp [Rows.uptoBulk]
 | agg parts=>simp [Rows.uptoBulk]
 | iface t d=>simp [Rows.uptoBulk]
 | map entries=>simp [Rows.uptoBulk]
 | held h=>simp [Rows.uptoBulk]
theorem blk_len {H : Type} (l : List (DataW H)) : l.length ≤ Rows.uptoBulkAll l := by
 induction l with
 | nil=>simp [Rows.uptoBulkAll]
 | cons x r ih=>have := blk_one x; simp only [Rows.uptoBulkAll,List.length_cons]; omega
theorem blk_slice {H : Type} {enc : TypeId × Value → H} {W : World} {t e : TypeId} {a : Option Addr} {n c : Nat} {d : DataW H} {p : List MemPlace} (ht : PR.underlying t = some (.slice e)) (h : DataW.Trod enc PR W 0 (fun _=>true) true t (.slice a n c) d p) : n ≤ Rows.uptoBulk d := by
 obtain ⟨fuel,hf⟩ := h
 rcases DataW.trod_slice ht hf with ⟨h1,_⟩ | ⟨a',len,cap,elems,rest,m,_,h1,h2,_,_,_,hlen,_⟩
 ·have : n = 0 := by
   have h3 : [Value.slice a n c] = [.slice none 0 0] := h1
   cases h3; rfl
  omega
 ·have h3 : [Value.slice a n c] = [.slice (some a') len cap] := h1
  cases h3
  have h4 : d = .slice (elems.map (·.1)) (rest.map (·.1)) := congrArg Prod.fst h2
  rw [h4]
  have := blk_len (elems.map (·.1))
  simp only [Rows.uptoBulk,List.length_map] at this ⊢
  omega
theorem apCalls {H : Type} {enc : TypeId × Value → H} {W : World} {v0 v1 v2 : Value} {d0 d1 d2 : DataW H} {p0 p1 p2 : List MemPlace} {b0 : Nat} (k0 : Value.okWide PR W .any b0 Y_int v0) (k1 : Value.okWide PR W .any b0 Y_s_int v1) (k2 : Value.okWide PR W .any b0 Y_int v2)
  (h0 : DataW.Trod enc PR W 0 (fun _=>true) true Y_int v0 d0 p0) (h1 : DataW.Trod enc PR W 0 (fun _=>true) true Y_s_int v1 d1 p1) (h2 : DataW.Trod enc PR W 0 (fun _=>true) true Y_int v2 d2 p2) (hb : Rows.uptoBulk d1 ≤ 1048576) :
  Calls PR F_law15_CommonsApart #[v0,v1,v2] W fun e W'=>e = .returned (.bool true) ∧ Below W.heap.size W W' := by
 obtain ⟨x,_,i0⟩ := ImpT.argInt u_int k0 h0
 obtain ⟨l,hl,i1⟩ := (ImpT.ints (P := PR) (W := W) Y_int u_s_int u_int (by kernel_rfl)).arg (cells_slice u_s_int k1) h1
 obtain ⟨y,_,i2⟩ := ImpT.argInt u_int k2 h2
 obtain ⟨a1,n1,c1,rfl⟩ := okWide_slice u_s_int k1
 have hn := blk_slice u_s_int h1
 refine (i0.app ((slLen i1).app i2)).run mixedOk globsOk fun vs ps J hh r o=>?_
 obtain ⟨_,_,_,_,hv,hp,⟨e1,e2⟩,_,_,_,_,e3,e4,⟨⟨⟨a,c⟩,e5,e6⟩,e9⟩,e7,e8⟩ := J
 have e10 := e9 _ _ _ e5
 subst e1 e2 e5 e6 e7 e8 e3 e4 hv hp
 obtain ⟨v,h',e,rfl,_⟩ := ct_CommonsApart x y (slC true Y_int 1 a l.length c (l.map int)) a true c l (by unfold most; omega) hh r o
 exact ⟨h',e⟩
theorem apContract (H : Type) (enc : TypeId × Value → H) (W : World) (base : Nat) (args : Array Value) (ds gs : List (DataW H)) (before : List MemPlace)
  (hval : ∀ (j : Nat) t v,Tryz.f4.params[j]? = some t → args[j]? = some v → Value.okWide PR W .any base t v)
  (hW : DataW.Whole enc PR Tryz.f4.params.toList Rows.commonsApartSpec.vars false W args.toList ds gs before) (hk : Rows.uptoSmall H (ds ++ gs) = true) :
  Calls PR F_law15_CommonsApart args W fun e W'=>∃ v,e = .returned v ∧ Rows.commonsApartSpec.post enc PR Tryz.f4 false true false false W args v W' := by
 have hW' := hW
 obtain ⟨p,q,hA,hV,rfl,hfz,hnd⟩ := hW
 rw [Tryz.params4] at hA hval
 obtain ⟨v0,v1,v2,d0,d1,d2,p0,p1,p2,rfl,rfl,rfl,h0,h1,h2⟩ := trodAll_three hA
 have hb : Rows.uptoBulk d1 ≤ 1048576 := by
  have := of_decide_eq_true hk
  simp only [List.cons_append,Rows.uptoBulkAll] at this
  omega
 refine (apCalls (hval 0 _ v0 rfl rfl) (hval 1 _ v1 rfl rfl) (hval 2 _ v2 rfl rfl) h0 h1 h2 hb).mono fun e W' ⟨he,hb⟩=>?_
 subst he
 refine ⟨_,rfl,post_true laidOk ?_ rfl u_bool rfl (fun ds gs hl=>?_) hW' hb⟩
 ·rw [Tryz.params4]; intro t ht; simp at ht; rcases ht with rfl | rfl | rfl <;> exact ⟨by kernel_rfl,of_decide_eq_true (by kernel_rfl)⟩
 ·replace hl : ds.length = 3 := hl
  cases gs with
  | cons _ _=>exact .inr (by simp)
  | nil=>match ds,hl with | [_,_,_],_=>exact .inl rfl
theorem apLifted (os : Os) (started : os.Started) (H : Type) (enc : TypeId × Value → H) (F : Stop.Interp) :
  ReturnsInHanded {} Tryz.checked os F_law15_CommonsApart .any ((Rows.OpenSpec.upto Rows.commonsApartSpec).pre6 enc Tryz.prog Tryz.f4 Rows.commonsApartUptoRow.domain false) (((Rows.OpenSpec.upto Rows.commonsApartSpec).at F).post enc Tryz.prog Tryz.f4 false true false false) := by
 refine returnsInHanded_of_cond (C := Tryz.checked) (s := Rows.OpenSpec.upto Rows.commonsApartSpec) (k := Rows.uptoSmall) rfl ownOk started (by kernel_rfl) Tryz.func4
  (OpenSpec.witness (enc := enc) (C := Tryz.checked) (s := Rows.OpenSpec.upto Rows.commonsApartSpec) (k := Rows.uptoSmall) rfl false ⟨#[],#[.int .i64 0,.slice none 0 0,.int .i64 0],[]⟩ 8 (by kernel_rfl) (by kernel_rfl) (by kernel_rfl)
   (x := ([.lit (.int .i64 0),.nil,.lit (.int .i64 0)],[],[])) (by kernel_rfl) rfl (by kernel_rfl)) ?_
 intro W base args ds gs before hval hW _ hk _
 exact apContract H enc W base args ds gs before hval hW hk
theorem CommonsApart_holds : Rows.CommonsApartUptoSaid :=
 OpenClaim.holds_of_cond F_law15_CommonsApart Tryz.f4 rfl rfl rfl rfl rfl rfl rfl ⟨rfl,rfl,rfl,rfl,rfl⟩ rfl rfl rfl rfl rfl (by kernel_rfl) Tryz.func4 (by kernel_rfl)
  (of_decide_eq_true (by kernel_rfl)) (by unfold Func.isWrapper; first | (rw [if_pos (by decide +kernel)]; kernel_rfl) | (rw [if_neg (by decide +kernel)]; exact ⟨rfl,rfl⟩))
  (fun os started H enc _ F=>apLifted os started H enc F)
end Go.EQ

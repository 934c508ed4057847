/- What the environments of sessions that share nothing are answered hangs on their own calls and on the clock alone: another session's calls, left out, change no answer. -/
import Derived.Test.YtmhfkfijaamamaaMf
import Derived.KernelRfl
set_option linter.all false
set_option maxRecDepth 100000
namespace Go.EQ
open Go Go.NN
def Bg2:BootS:=⟨[2,2],[0,1],[[0]],5,[⟨0,0,0,10,[0]⟩]⟩
abbrev Bz6:CallS:=⟨2,256,0,0,0,0,[7]⟩
abbrev Be0:CallS:=⟨1,256,0,1,0,0,[]⟩
abbrev D06:CallS:=⟨8,0,0,0,0,0,[]⟩
theorem Bx8:Al9 Bg2=true:=by kernel_rfl
theorem Bc4:Small Bg2:=⟨by simp [Bg2,E6],by simp [Bg2,E6],by simp [Bg2,E6]⟩
def SA0:KS:=Aj3 Bg2
abbrev SA1:KS:=(V0 SA0 0 Bz6).2
abbrev SA2:KS:=(V0 SA1 0 Be0).2
abbrev SA3:KS:=(V0 SA2 1 Be0).2
abbrev SA4:KS:=(V0 SA3 1 D06).2
theorem a1:(V0 SA0 0 Bz6).1.1=0:=by kernel_rfl
theorem a2:(V0 SA1 0 Be0).1.2.2=[7]:=by kernel_rfl
theorem a3:(V0 SA2 1 Be0).1.1=2:=by kernel_rfl
theorem a4:(V0 SA3 1 D06).1.1=8:=by kernel_rfl
theorem Bl1:Ct D5 Am2 [] [] fun v own=>v=.bool true∧own []:=by
 refine Ct.of Dg4 rfl fun h r=>Tr.eq (Df8 ..) ?_;(try simp only[Nr,Nl,Nat.reduceAdd,Nat.reduceMul,Int.reduceToNat])
 refine Yn fun b1 h1=>?_
 refine Yn fun b2 h2=>?_
 refine Yn fun b3 h3=>?_
 refine Yn fun b4 h4=>?_
 refine Yn fun b5 h5=>?_
 refine Yn fun b6 h6=>?_
 refine R5 0 rfl 5 1 rfl (by omega) ?_;(try simp only[Nr,Nl,Nat.reduceAdd,Nat.reduceMul,Int.reduceToNat])
 refine R5 1 rfl 1 1 rfl (by omega) ?_;(try simp only[Nr,Nl,Nat.reduceAdd,Nat.reduceMul,Int.reduceToNat])
 refine R5 2 rfl 1 1 rfl (by omega) ?_;(try simp only[Nr,Nl,Nat.reduceAdd,Nat.reduceMul,Int.reduceToNat])
 refine R5 3 rfl 1 1 rfl (by omega) ?_;(try simp only[Nr,Nl,Nat.reduceAdd,Nat.reduceMul,Int.reduceToNat])
 refine R5 4 rfl 1 2 rfl (by omega) ?_;(try simp only[Nr,Nl,Nat.reduceAdd,Nat.reduceMul,Int.reduceToNat])
 refine R5 5 rfl 1 2 rfl (by omega) ?_;(try simp only[Nr,Nl,Nat.reduceAdd,Nat.reduceMul,Int.reduceToNat])
 refine A44 (toC false) (some ⟨b5,0,none⟩,1) (⟨0,0,0,10,[0]⟩:ShareS) (r:=[]) 1 rfl ?_;(try simp only[Nr,Nl,Nat.reduceAdd,Nat.reduceMul,Int.reduceToNat])
 refine A44 (rsC false) (some ⟨b3,0,none⟩,1) ([0]:List Int) (r:=[]) 3 rfl ?_;(try simp only[Nr,Nl,Nat.reduceAdd,Nat.reduceMul,Int.reduceToNat])
 refine Bh3 (Dw7 false Bg2 ⟨some ⟨b1,0,none⟩,2,some ⟨b2,0,none⟩,2,some ⟨b4,0,none⟩,1,[(some ⟨b3,0,none⟩,1)],some ⟨b6,0,none⟩,1,[(some ⟨b5,0,none⟩,1)]⟩ ⟨rfl,rfl⟩ Bc4) [5,4,3,0,1,0] rfl ?_
 intro v h hv
 rw [if_pos Bx8] at hv
 obtain ⟨k,rfl,o⟩:=hv
 refine (?_:Tr _ _ _ _) o
 (try simp only[Nr,Nl,Nat.reduceAdd,Nat.reduceMul,Int.reduceToNat])
 (repeat' first|refine Gu ?_|(with_reducible first|refine Gn fun b h=>?_|apply Gx|apply Gy|rintro px rfl|refine fun(h:H)=>?_|intro hb)|refine Gs ?_|refine Gt ?_|exact Gz rfl|fail)
 refine Yf rfl ?_
 refine Yn fun c1 g1=>?_
 refine B62 0 rfl [] (A0 [7]) [] rfl 1 0 1 1 (by simp [A0]) ?_;(try simp only[Nr,Nl,Nat.reduceAdd,Nat.reduceMul,Int.reduceToNat])
 refine Bh3 (Dg3 k SA0 0 (Br5 Bx8 Bc4) (by omega) 0 Bz6 (some ⟨c1,0,none⟩) 1 false ([],[]) (by decide)) [1,0] rfl ?_
 rintro _ h ⟨x1,d1,rfl,o⟩
 refine (?_:Tr _ _ _ _) o
 (try simp only[Nr,Nl,Nat.reduceAdd,Nat.reduceMul,Int.reduceToNat])
 have k1:KOk 2 SA1:=B60 (Br5 Bx8 Bc4) (by omega) 0 Bz6
 have k2:KOk 4 SA2:=B60 k1 (by omega) 0 Be0
 have k3:KOk 6 SA3:=B60 k2 (by omega) 1 Be0
 refine Tr.dx ?_
 refine Yn fun c2 g2=>?_
 (repeat' first|refine Gu ?_|(with_reducible first|refine Gn fun b h=>?_|apply Gx|apply Gy|rintro px rfl|refine fun(h:H)=>?_|intro hb)|refine Gs ?_|refine Gt ?_|exact Gz rfl|fail)
 refine Yc (B52 k SA1 2 k1 (by omega) 0 1 256 0 1 0 0 (by decide)) ?_;rintro _ h ⟨x2,d2,rfl,o⟩<;>(refine (?_:Tr _ _ _ _) o;(try simp only[Nr,Nl,Nat.reduceAdd,Nat.reduceMul,Int.reduceToNat]);(repeat' first|refine Gu ?_|(with_reducible first|refine Gn fun b h=>?_|apply Gx|apply Gy|rintro px rfl|refine fun(h:H)=>?_|intro hb)|refine Gs ?_|refine Gt ?_|exact Gz rfl|fail))
 refine Yc (B52 k SA2 4 k2 (by omega) 1 1 256 0 1 0 0 (by decide)) ?_;rintro _ h ⟨x3,d3,rfl,o⟩<;>(refine (?_:Tr _ _ _ _) o;(try simp only[Nr,Nl,Nat.reduceAdd,Nat.reduceMul,Int.reduceToNat]);(repeat' first|refine Gu ?_|(with_reducible first|refine Gn fun b h=>?_|apply Gx|apply Gy|rintro px rfl|refine fun(h:H)=>?_|intro hb)|refine Gs ?_|refine Gt ?_|exact Gz rfl|fail))
 refine Yc (B52 k SA3 6 k3 (by omega) 1 8 0 0 0 0 0 (by decide)) ?_;rintro _ h ⟨x4,d4,rfl,o⟩<;>(refine (?_:Tr _ _ _ _) o;(try simp only[Nr,Nl,Nat.reduceAdd,Nat.reduceMul,Int.reduceToNat]);(repeat' first|refine Gu ?_|(with_reducible first|refine Gn fun b h=>?_|apply Gx|apply Gy|rintro px rfl|refine fun(h:H)=>?_|intro hb)|refine Gs ?_|refine Gt ?_|exact Gz rfl|fail))
 ·refine Tr.pcall (D79 k SA4) ?_;(try simp only[Nr,Nl,Nat.reduceAdd,Nat.reduceMul,Int.reduceToNat]);(repeat' first|refine Gu ?_|(with_reducible first|refine Gn fun b h=>?_|apply Gx|apply Gy|rintro px rfl|refine fun(h:H)=>?_|intro hb)|refine Gs ?_|refine Gt ?_|exact Gz rfl|fail)
 refine Ys fun o=>?_
 exact ⟨congrArg Value.bool (by kernel_rfl),o.sub⟩
end Go.EQ

set_option maxRecDepth 100000
namespace Go.EQ
open Go Go.NN
end Go.EQ

set_option maxRecDepth 100000
namespace Go.EQ
open Go Go.NN
structure OpS where
 env:Int
 c:CallS
def opL (p:(Option Addr × Nat) × OpS):List Value:=int p.2.env::Aq5 p.2.c p.1.1 p.1.2
theorem B59 (p:(Option Addr × Nat) × OpS):(opL p).length=8:=rfl
def Bx3 (gs:List (Option Addr × Nat)) (ops:List OpS):List Value:=(List.zip gs ops).flatMap opL
abbrev opC (g:Option Addr × Nat) (o:OpS):HP:=slC true A5 1 g.1 o.c.b.length g.2 (A0 o.c.b)
structure FrOk (fs:List Int) (S:KS):Prop where
 envs:S.envs=[0,1,0,1]
 used:S.used.map (fun u=>(u.length:Int))=fs
 two:S.used.length=2
 len:∀ u ∈ S.used,u.length≤7
 bits:∀ u ∈ S.used,∀ x ∈ u,x=0∨x=1
theorem FrOk.put {fs:List Int} {S:KS} (k:FrOk fs S) {s:Nat} {u u':List Int} (hu:S.used[s]?=some u) (hl:u'.length=u.length) (hb:∀ x ∈ u',x=0∨x=1):FrOk fs (putUsed S (S.used.set s u')) where
 envs:=k.envs
 used:=by
  show (S.used.set s u').map _=fs
  rw [List.map_set,hl,A83 (by rw [List.getElem?_map,hu];rfl)];exact k.used
 two:=by show (S.used.set s u').length=2;rw [List.length_set];exact k.two
 len v hv:=by
  rcases List.mem_or_eq_of_mem_set hv with h|rfl
  ·exact k.len v h
  ·rw [hl];exact k.len u (List.mem_of_getElem? hu)
 bits v hv:=by
  rcases List.mem_or_eq_of_mem_set hv with h|rfl
  ·exact k.bits v h
  ·exact hb
section
variable (gs:List (Option Addr × Nat)) (ops:List OpS) (a:Option Addr) (c:Nat) (fs:List Int) (f1:Addr) (b3 k:Nat)
end
end Go.EQ

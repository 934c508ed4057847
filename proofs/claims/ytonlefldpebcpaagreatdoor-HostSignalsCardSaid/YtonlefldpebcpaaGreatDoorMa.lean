/- A blocked call ends when a signal that is caught comes, and tells so; one that ends the process ends it with that code; one that is ignored, or kept off, does nothing. -/
import GoSem.Dispatch
import GoSem.Machine.Frame
import Derived.Wp
import Derived.Orders
import Derived.Laws.Append
import Derived.Laws.Entries
import Derived.Laws.StructEq
import Derived.ChangeKeysEq
import Derived.Laws.Cover3
import Derived.Laws.Pointers
import Derived.Laws.BytesString
set_option linter.all false
namespace Go.NN
inductive Blk where
 | cells (elem:TypeId) (ro:Bool) (c:List Value)
 | map (es:List MapEntry) (clock:Nat)
 | dead
structure H where
 blk:Nat→Option Blk
 next:Nat
def H.push (h:H) (x:Blk):H:={ blk:=fun i=>bif Nat.beq i h.next then some x else h.blk i,next:=h.next+1 }
def H.set (h:H) (b:Nat) (x:Blk):H:={ h with blk:=fun i=>bif Nat.beq i b then some x else h.blk i }
def H.cs (h:H) (b:Nat):Option (List Value) :=
 match h.blk b with
 | some (.cells _ _ c)=>some c
 | _=>none
def H.get (h:H) (a:Addr):Option Value :=
 match a.spot with
 | none=>match h.cs a.block with
  | some c=>c[a.off]?
  | none=>none
 | some _=>none
def H.putAll (h:H) (a:Addr) (vs:List Value):Option H :=
 match a.spot with
 | none=>match h.blk a.block with
  | some (.cells e false c)=>if a.off+vs.length≤c.length∧vs.all Value.oneCell=true then some (h.set a.block (.cells e false (c.take a.off++vs++c.drop (a.off+vs.length)))) else none
  | _=>none
 | some _=>none
def H.put (h:H) (a:Addr) (v:Value):Option H :=
 match a.spot with
 | none=>match h.blk a.block with
  | some (.cells e false c)=>match v.oneCell with
   | true=>if a.off<c.length then some (h.set a.block (.cells e false (c.set a.off v))) else none
   | false=>none
  | _=>none
 | some _=>none
def Q0 (b:Nat):Addr:=⟨b,0,some 1⟩
def B4 (a:Addr):Addr:=⟨a.block,a.off,none⟩
def plain1:Value→Bool
 | .bool _=>true
 | .int _ _=>true
 | .string _=>true
 | .pointer none=>true
 | .slice none n c=>Nat.ble n c
 | .map none=>true
 | .nilFunc=>true
 | .nilIface=>true
 | _=>false
def Gm5:Value→Bool
 | .agg ⟨cs⟩=>cs.all plain1
 | v=>plain1 v
def ptr (b:Nat):Value:=.pointer (some ⟨b,0,none⟩)
def B3:Nat:=2147483648
section
variable {α:Type}
def aInt (kk:IntKind) (v:Value) (k:Int→Option α):Option α :=
 match v with
 | .int k2 n=>match decide (k2=kk) with
  | true=>k n
  | false=>none
 | _=>none
def aBool (v:Value) (k:Bool→Option α):Option α :=
 match v with
 | .bool b=>k b
 | _=>none
def aStr (v:Value) (k:ByteArray→Option α):Option α :=
 match v with
 | .string s=>k s
 | _=>none
def aPtr (v:Value) (k:Option Addr→Option α):Option α :=
 match v with
 | .pointer a=>k a
 | _=>none
def aSome (p:Option Addr) (k:Addr→Option α):Option α :=
 match p with
 | some a=>k a
 | none=>none
def aSl (v:Value) (k:Option Addr→Nat→Nat→Option α):Option α :=
 match v with
 | .slice a n c=>k a n c
 | _=>none
def aMap (v:Value) (k:Option Nat→Option α):Option α :=
 match v with
 | .map r=>k r
 | _=>none
def aAgg (v:Value) (k:List Value→Option α):Option α :=
 match v with
 | .agg ⟨cs⟩=>k cs
 | _=>none
def aFn (v:Value) (k:FuncId→List Value→List Value→Option α):Option α :=
 match v with
 | .func (.func f) ⟨first⟩ ⟨cap⟩=>k f first cap
 | _=>none
def aFv (v:Value) (k:Value→Option α):Option α :=
 match v with
 | .func fn first cap=>k (.func fn first cap)
 | .nilFunc=>k .nilFunc
 | _=>none
def nck (v:Value) (k:Value→Option α):Option α :=
 match v with
 | .pointer p=>aSome p fun a=>k (.pointer (some a))
 | .func (.func f) a b=>k (.func (.func f) a b)
 | _=>none
def isNilF (v:Value) (k:Bool→Option α):Option α :=
 match v with
 | .nilFunc=>k true
 | .func _ _ _=>k false
 | _=>none
def one (v:Value) (k:Option α):Option α :=
 match v.oneCell with
 | true=>k
 | false=>none
def as0 (v:Value) (k:Option α):Option α :=
 match v with
 | .tuple ⟨[]⟩=>k
 | _=>none
def as2 (v:Value) (k:Value→Value→Option α):Option α :=
 match v with
 | .tuple ⟨[a,b]⟩=>k a b
 | _=>none
def as3 (v:Value) (k:Value→Value→Value→Option α):Option α :=
 match v with
 | .tuple ⟨[a,b,c]⟩=>k a b c
 | _=>none
def as4 (v:Value) (k:Value→Value→Value→Value→Option α):Option α :=
 match v with
 | .tuple ⟨[a,b,c,d]⟩=>k a b c d
 | _=>none
def lt {β:Type} (v:β) (k:β→Option α):Option α:=k v
def ck (c:Prop) [Decidable c] (x:Option α):Option α:=if c then x else none
def ckB (c:Bool) (x:Option α):Option α:=cond c x none
def bnd {β:Type} (x:Option (β × H)) (k:β→H→Option α):Option α :=
 match x with
 | some (v,h)=>k v h
 | none=>none
def ld (a:Addr) (h:H) (k:Value→Option α):Option α :=
 match h.get a with
 | some v=>k v
 | none=>none
def gInt (kk:IntKind) (a:Addr) (h:H) (k:Int→Option α):Option α:=ld a h fun v=>aInt kk v k
def gBool (a:Addr) (h:H) (k:Bool→Option α):Option α:=ld a h fun v=>aBool v k
def gStr (a:Addr) (h:H) (k:ByteArray→Option α):Option α:=ld a h fun v=>aStr v k
def gPtr (a:Addr) (h:H) (k:Option Addr→Option α):Option α:=ld a h fun v=>aPtr v k
def gSl (a:Addr) (h:H) (k:Option Addr→Nat→Nat→Option α):Option α:=ld a h fun v=>aSl v k
def gMap (a:Addr) (h:H) (k:Option Nat→Option α):Option α:=ld a h fun v=>aMap v k
def gFv (a:Addr) (h:H) (k:Value→Option α):Option α:=ld a h fun v=>aFv v k
def gAgg (a:Addr) (n:Nat) (h:H) (k:List Value→Option α):Option α :=
 match a.spot with
 | none=>match h.cs a.block with
  | some c=>if a.off+n≤c.length then k ((c.drop a.off).take n) else none
  | none=>none
 | some _=>none
def gCells (a:Option Addr) (n:Nat) (h:H) (k:List Value→Option α):Option α :=
 match a with
 | some a=>gAgg (B4 a) n h k
 | none=>match n with
  | 0=>k []
  | _+1=>none
def nw (x:Blk) (h:H) (k:Nat→H→Option α):Option α:=k h.next (h.push x)
def pV (a:Addr) (v:Value) (h:H) (k:H→Option α):Option α :=
 match h.put a v with
 | some h=>k h
 | none=>none
def pAgg (a:Addr) (vs:List Value) (h:H) (k:H→Option α):Option α :=
 match h.putAll a vs with
 | some h=>k h
 | none=>none
def pCells (a:Option Addr) (vs:List Value) (h:H) (k:H→Option α):Option α :=
 match a with
 | some a=>pAgg (B4 a) vs h k
 | none=>match vs with
  | []=>k h
  | _::_=>none
def nth (cs:List Value) (i:Nat) (k:Value→Option α):Option α :=
 match cs[i]? with
 | some v=>k v
 | none=>none
def Bo6 (d:TypeDesc) (v:Value) (k:Value→Option α):Option α :=
 match d with
 | .int kk=>aInt kk v fun n=>k (.int kk n)
 | .bool=>aBool v fun b=>k (.bool b)
 | .string=>aStr v fun s=>k (.string s)
 | .pointer _=>aPtr v fun a=>k (.pointer a)
 | .slice _=>aSl v fun a n c=>k (.slice a n c)
 | .map _ _=>aMap v fun r=>k (.map r)
 | .func _ _ _=>aFv v fun v=>k v
 | .struct _=>aAgg v fun cs=>k (.agg ⟨cs⟩)
 | .array _ _=>aAgg v fun cs=>k (.agg ⟨cs⟩)
 | _=>none
def A98 (P:Program) (t:TypeId) (v:Value) (k:Value→Option α):Option α :=
 match P.underlying t with
 | some d=>Bo6 d v k
 | none=>none
def Ew3 (P:Program) (t:TypeId) (v:Value) (k:Value→Option α):Option α :=
 match P.underlying t with
 | some (.tuple ⟨ts⟩)=>match ts with
  | []=>as0 v (k (.tuple ⟨[]⟩))
  | [t1,t2]=>as2 v fun a b=>A98 P t1 a fun a=>A98 P t2 b fun b=>k (.tuple ⟨[a,b]⟩)
  | [t1,t2,t3]=>as3 v fun a b c=>A98 P t1 a fun a=>A98 P t2 b fun b=>A98 P t3 c fun c=>k (.tuple ⟨[a,b,c]⟩)
  | [t1,t2,t3,t4]=>as4 v fun a b c d=>A98 P t1 a fun a=>A98 P t2 b fun b=>A98 P t3 c fun c=>A98 P t4 d fun d=>k (.tuple ⟨[a,b,c,d]⟩)
  | _=>none
 | some d=>Bo6 d v k
 | none=>none
def N1 (P:Program) (t:TypeId):Option Nat:=(P.info? t).map (·.size)
def bytesN (P:Program) (t:TypeId):Nat:=match P.info? t with|some i=>i.bytes|none=>4294967296
def D47 (P:Program) (t:TypeId):Option (List Value) :=
 match P.info? t with
 | some i=>match i.zero with
  | some v=>match v.cells.toList.all plain1 with
   | true=>some v.cells.toList
   | false=>none
  | none=>none
 | none=>none
def ldT (P:Program) (t:TypeId) (a:Addr) (h:H) (k:Value→Option α):Option α :=
 match P.underlying t with
 | some (.int kk)=>gInt kk a h fun n=>k (.int kk n)
 | some .bool=>gBool a h fun b=>k (.bool b)
 | some .string=>gStr a h fun s=>k (.string s)
 | some (.pointer _)=>gPtr a h fun p=>k (.pointer p)
 | some (.slice _)=>gSl a h fun a n c=>k (.slice a n c)
 | some (.map _ _)=>gMap a h fun r=>k (.map r)
 | some (.func _ _ _)=>gFv a h fun v=>k v
 | some (.struct _)=>match N1 P t with
  | some n=>gAgg a n h fun cs=>k (.agg ⟨cs⟩)
  | none=>none
 | some (.array _ _)=>match N1 P t with
  | some n=>gAgg a n h fun cs=>k (.agg ⟨cs⟩)
  | none=>none
 | _=>none
def E40 (P:Program) (t:TypeId):Option Bool :=
 match P.underlying t with
 | some (.struct _)=>some true
 | some (.array _ _)=>some true
 | some _=>some false
 | none=>none
def stT (P:Program) (t:TypeId) (a:Addr) (v:Value) (h:H) (k:H→Option α):Option α :=
 match E40 P t,N1 P t with
 | some true,some n=>aAgg v fun cs=>ck (cs.length=n) (pAgg a cs h k)
 | some false,some 1=>pV a v h k
 | _,_=>none
def lookN (l:List (Nat × Value)) (i:Nat):Option Value :=
 match l with
 | []=>none
 | (j,v)::l=>match Nat.beq j i with
  | true=>some v
  | false=>lookN l i
def Bi1 (parts:List (Nat × Value)):(i:Nat)→List (Nat × Bool)→List Value→(List Value→Option α)→Option α
 | _,[],[],k=>k []
 | _,[],_::_,_=>none
 | i,(n,agg)::ns,zs,k=>match lookN parts i with
  | some v=>match agg with
   | true=>aAgg v fun cs=>ck (cs.length=n) (Bi1 parts (i+1) ns (zs.drop n) fun r=>k (cs++r))
   | false=>match n with
    | 1=>one v (Bi1 parts (i+1) ns (zs.drop n) fun r=>k (v::r))
    | _=>none
  | none=>Bi1 parts (i+1) ns (zs.drop n) fun r=>k (zs.take n++r)
def Gl7 (P:Program):(off:Nat)→List Field→Option (List (Nat × Bool))
 | _,[]=>some []
 | off,f::fs=>match N1 P f.type,E40 P f.type with
  | some n,some g=>match Nat.beq f.offset off with
   | true=>match Gl7 P (off+n) fs with
    | some l=>some ((n,g)::l)
    | none=>none
   | false=>none
  | _,_=>none
def G89 (ns:List (Nat × Bool)):Nat :=
 match ns with
 | []=>0
 | (n,_)::ns=>n+G89 ns
def Bd5 (l:List (Nat × Value)):Bool :=
 match l with
 | []=>true
 | (i,_)::l=>!(l.any fun p=>Nat.beq p.1 i) && Bd5 l
def A83 (l:List (Nat × Value)) (n:Nat):Bool:=l.all fun p=>Nat.blt p.1 n
def Ec1 (P:Program) (t:TypeId) (parts:List (Nat × Value)) (k:List Value→Option α):Option α :=
 match D47 P t,P.underlying t with
 | some zs,some (.struct fields)=>match Gl7 P 0 fields.toList with
  | some ns=>match Bd5 parts && A83 parts ns.length && Nat.beq zs.length (G89 ns) with
   | true=>Bi1 parts 0 ns zs k
   | false=>none
  | none=>none
 | some zs,some (.array len e)=>match N1 P e,E40 P e with
  | some n,some g=>match Bd5 parts && A83 parts len && Nat.beq zs.length (len*n) with
   | true=>Bi1 parts 0 (List.replicate len (n,g)) zs k
   | false=>none
  | _,_=>none
 | _,_=>none
def G9 (n:Nat) (zs:List Value):List Value :=
 match zs with
 | [z]=>List.replicate n z
 | zs=>(List.replicate n zs).flatten
def Eg5 (P:Program) (t:TypeId) (len:Nat) (parts:List (Nat × Value)) (k:TypeId→List Value→Option α):Option α :=
 match P.underlying t with
 | some (.slice e)=>match D47 P e,N1 P e,E40 P e with
  | some zs,some n,some g=>match Bd5 parts && A83 parts len && Nat.beq zs.length n && Nat.ble (len*n) 65536 with
   | true=>Bi1 parts 0 (List.replicate len (n,g)) (G9 len zs) fun cs=>k e cs
   | false=>none
  | _,_,_=>none
 | _=>none
def eq1:Value→Value→Option Bool
 | .int k a,.int k' b=>match decide (k=k') with
  | true=>some (a==b)
  | false=>none
 | .bool a,.bool b=>some (a==b)
 | .string a,.string b=>some (a.toList==b.toList)
 | _,_=>none
def eqs:List Value→List Value→Option Bool
 | [],[]=>some true
 | a::as,b::bs=>match eq1 a b,eqs as bs with
  | some x,some y=>some (x && y)
  | _,_=>none
 | _,_=>none
def eqK (x:Option Bool) (k:Bool→Option α):Option α :=
 match x with
 | some b=>k b
 | none=>none
def Dy3 (rec:TypeId→Option (List TypeDesc)):(off:Nat)→List Field→Option (List TypeDesc)
 | _,[]=>some []
 | off, f :: fs => match f.name == "_", Nat.beq f.offset off with
  | false,true=>match rec f.type with
   | some l=>match Dy3 rec (off+l.length) fs with
    | some r=>some (l++r)
    | none=>none
   | none=>none
  | _,_=>none
def Ar3 (P:Program):(d:Nat)→TypeId→Option (List TypeDesc)
 | 0,_=>none
 | d+1,t=>match N1 P t with
  | none=>none
  | some n=>match (match P.underlying t with
    | some (.int k)=>some [TypeDesc.int k]
    | some .bool=>some [TypeDesc.bool]
    | some .string=>some [TypeDesc.string]
    | some (.struct fields)=>match P.stoodInHeld t || P.eqGuardType P.depth t with
     | true=>none
     | false=>Dy3 (Ar3 P d) 0 fields.toList
    | some (.array m e)=>match P.eqGuardType P.depth t with
     | true=>none
     | false=>match Ar3 P d e with
      | some l=>some (List.replicate m l).flatten
      | none=>none
    | _=>none) with
   | some l=>match Nat.beq l.length n with
    | true=>some l
    | false=>none
   | none=>none
def L7:List TypeDesc→List Value→Bool
 | [],[]=>true
 | .int k::ds,.int k' _::vs=>decide (k=k') && L7 ds vs
 | .bool::ds,.bool _::vs=>L7 ds vs
 | .string::ds,.string _::vs=>L7 ds vs
 | _,_=>false
def Dt0 (P:Program) (t:TypeId) (xs ys:List Value) (k:Bool→Option α):Option α :=
 match Ar3 P 8 t with
 | some ds=>ckB (L7 ds xs && L7 ds ys) (eqK (eqs xs ys) k)
 | none=>none
def E22 (P:Program) (t:TypeId) (x y:Value) (k:Bool→Option α):Option α :=
 match P.underlying t,x,y with
 | some (.func _ _ _),x,.nilFunc=>isNilF x k
 | some .bool,.bool a,.bool b=>k (a==b)
 | some (.pointer _),.pointer a,.pointer none=>k a.isNone
 | some (.slice _),.slice a _ _,.slice none _ _=>k a.isNone
 | some (.map _ _),.map a,.map none=>k a.isNone
 | some (.struct _),.agg ⟨xs⟩,.agg ⟨ys⟩=>Dt0 P t xs ys k
 | some (.array _ _),.agg ⟨xs⟩,.agg ⟨ys⟩=>Dt0 P t xs ys k
 | _,_,_=>none
def D5 (k:IntKind) (a b:Int):Int:=k.wrap (BitVec.ofInt k.bits a &&& BitVec.ofInt k.bits b).toNat
def Bb7 (k:IntKind) (a b:Int):Int:=k.wrap (BitVec.ofInt k.bits a ||| BitVec.ofInt k.bits b).toNat
def Kc1 (k:IntKind) (a b:Int):Int:=k.wrap (BitVec.ofInt k.bits a ^^^ BitVec.ofInt k.bits b).toNat
def J8 (k:IntKind) (a b:Int):Int:=k.wrap (BitVec.ofInt k.bits a &&& ~~~ BitVec.ofInt k.bits b).toNat
def G60 (P:Program) (op:BinOp) (t:TypeId) (x y:Value) (k:Value→Option α):Option α :=
 match x,y with
 | .int kx a,.int ky b =>
  match op with
  | .shl=>ck (0≤b) (k (.int kx (kx.wrap (a*2 ^ (min b.toNat kx.bits)))))
  | .shr=>ck (0≤b) (k (.int kx (a.fdiv (2 ^ (min b.toNat kx.bits)))))
  | _=>match decide (kx=ky) with
   | false=>none
   | true=>match op with
    | .add=>k (.int kx (kx.wrap (a+b)))
    | .sub=>k (.int kx (kx.wrap (a-b)))
    | .mul=>k (.int kx (kx.wrap (a*b)))
    | .quo=>ck (b≠0) (k (.int kx (kx.wrap (a.tdiv b))))
    | .rem=>ck (b≠0) (k (.int kx (a.tmod b)))
    | .and=>k (.int kx (D5 kx a b))
    | .or=>k (.int kx (Bb7 kx a b))
    | .xor=>k (.int kx (Kc1 kx a b))
    | .andNot=>k (.int kx (J8 kx a b))
    | .eql=>k (.bool (a==b))
    | .neq=>k (.bool (a != b))
    | .lss=>k (.bool (a<b))
    | .leq=>k (.bool (a≤b))
    | .gtr=>k (.bool (a>b))
    | .geq=>k (.bool (a≥b))
    | _=>none
 | .string a,.string b =>
  match op with
  | .add=>ck (a.size+b.size≤B3) (k (.string (a++b)))
  | .eql=>k (.bool (a.toList==b.toList))
  | .neq=>k (.bool !(a.toList==b.toList))
  | .lss=>k (.bool (Op.bytesLess a.toList b.toList))
  | .leq=>k (.bool (Op.bytesLess a.toList b.toList || a.toList==b.toList))
  | .gtr=>k (.bool !(Op.bytesLess a.toList b.toList || a.toList==b.toList))
  | .geq=>k (.bool !(Op.bytesLess a.toList b.toList))
  | _=>none
 | x,y =>
  match op with
  | .eql=>E22 P t x y fun b=>k (.bool b)
  | .neq=>E22 P t x y fun b=>k (.bool !b)
  | _=>none
def unK (op:UnOp) (x:Value) (k:Value→Option α):Option α :=
 match op,x with
 | .neg,.int kk n=>k (.int kk (kk.wrap (0-n)))
 | .not,.bool b=>k (.bool !b)
 | _,_=>none
def Bz3:List Value→Option (List UInt8)
 | []=>some []
 | .int .u8 n::vs=>(Bz3 vs).map (UInt8.ofNat n.toNat::·)
 | _=>none
def asBytes (cs:List Value) (k:List UInt8→Option α):Option α :=
 match Bz3 cs with
 | some l=>k l
 | none=>none
def A0 (l:List UInt8):List Value:=l.map fun b=>.int .u8 b.toNat
def convK (P:Program) (src dst:TypeId) (x:Value) (h:H) (k:Value→H→Option α):Option α :=
 match P.underlying src,P.underlying dst,x with
 | some (.int _),some (.int kk),.int _ n=>k (.int kk (kk.wrap n)) h
 | some .string,some .string,.string s=>k (.string s) h
 | some .string,some (.slice e),.string s=>match P.underlying e,N1 P e with
  | some (.int .u8),some 1=>ck (s.size≤B3) (nw (.cells e false (A0 s.data.toList)) h fun b h=>k (.slice (some (Q0 b)) s.size s.size) h)
  | _,_=>none
 | some (.slice e),some .string,.slice a n _=>match P.underlying e with
  | some (.int .u8)=>gCells a n h fun cs=>asBytes cs fun l=>k (.string ⟨⟨l⟩⟩) h
  | _=>none
 | _,_,_=>none
def Ed3 (P:Program) (s:TypeId) (f:Nat):Option (Nat × TypeId) :=
 match P.underlying s with
 | some (.struct fields)=>match fields[f]? with
  | some x=>some (x.offset,x.type)
  | none=>none
 | _=>none
def G27 (P:Program) (t:TypeId) (x i:Value) (k:Value→Option α):Option α :=
 match P.underlying t,x,i with
 | some (.array len e),.pointer p,.int _ n=>match N1 P e with
  | some sz=>aSome p fun a=>ck (0≤n∧n<len) (k (.pointer (some (a.add (n.toNat*sz)))))
  | none=>none
 | some (.slice e),.slice p len _,.int _ n=>match N1 P e with
  | some sz=>aSome p fun a=>ck (0≤n∧n<len) (k (.pointer (some ((B4 a).add (n.toNat*sz)))))
  | none=>none
 | _,_,_=>none
def Eo1 (P:Program) (t:TypeId) (cs:List Value) (off:Nat) (k:Value→Option α):Option α :=
 match P.underlying t with
 | some d=>match d with
  | .struct _=>match N1 P t with
   | some n=>ck (off+n≤cs.length) (k (.agg ⟨(cs.drop off).take n⟩))
   | none=>none
  | .array _ _=>match N1 P t with
   | some n=>ck (off+n≤cs.length) (k (.agg ⟨(cs.drop off).take n⟩))
   | none=>none
  | d=>nth cs off fun v=>Bo6 d v k
 | none=>none
def Ee5 (P:Program) (t:TypeId) (x i:Value) (k:Value→Option α):Option α :=
 match P.underlying t,x,i with
 | some (.array len e),.agg ⟨cs⟩,.int _ n=>match N1 P e with
  | some sz=>ck (0≤n∧n<len) (Eo1 P e cs (n.toNat*sz) k)
  | none=>none
 | some .string,.string s,.int _ n=>ck (0≤n∧n<s.size) (k (.int .u8 (s.data.toList.getD n.toNat 0).toNat))
 | _,_,_=>none
def A39 (v:Option Value) (d B3:Nat) (k:Nat→Option α):Option α :=
 match v with
 | some (.int _ n)=>ck (0≤n∧n≤B3) (k n.toNat)
 | some _=>none
 | none=>k d
def E5 (a:Option Addr) (left:Bool) (n:Nat):Option Addr :=
 match a with
 | some a=>some (match left with
  | true=>⟨a.block,a.off+n,a.spot⟩
  | false=>a)
 | none=>none
def fitsOpen (a:Option Addr) (e:TypeId) (h:H):Bool :=
 match a with
 | some ⟨b,_,some _⟩=>match h.blk b with
  | some (.cells e' ro _)=>Nat.beq e' e && !ro
  | _=>false
 | _=>true
def liveA (a:Addr) (h:H):Bool :=
 match a.spot,h.blk a.block with
 | none,some (.cells _ _ _)=>true
 | _,_=>false
def At6 (a:Option Addr):Option Addr :=
 match a with
 | some a=>some (B4 a)
 | none=>none
def sliceK (P:Program) (t:TypeId) (x:Value) (lo hi mx:Option Value) (h:H) (k:Value→Option α):Option α :=
 match P.underlying t,x with
 | some .string,.string s=>match mx with
  | some _=>none
  | none=>A39 hi s.size s.size fun j=>A39 lo 0 j fun i=>k (.string (s.extract i j))
 | some (.slice e),.slice a n c=>match N1 P e with
  | some sz=>ckB (fitsOpen a e h) (match mx with
   | none=>A39 hi n c fun j=>A39 lo 0 j fun i=>k (.slice (E5 a (decide (i<c)) (i*sz)) (j-i) (c-i))
   | some _=>match hi with
    | none=>none
    | some _=>A39 mx 0 c fun m=>A39 hi 0 m fun j=>A39 lo 0 j fun i =>
     k (.slice (At6 (E5 a (decide (i<m)) (i*sz))) (j-i) (m-i)))
  | none=>none
 | some (.array n e),.pointer p=>match N1 P e,mx with
  | some sz,none=>aSome p fun a=>ckB (liveA a h) (A39 hi n n fun j=>A39 lo 0 j fun i=>k (.slice (E5 (some a) (decide (i<n)) (i*sz)) (j-i) (n-i)))
  | _,_=>none
 | _,_=>none
def Dx5 (P:Program) (t:TypeId) (len cap:Value) (h:H) (k:Value→H→Option α):Option α :=
 match P.underlying t,len,cap with
 | some (.slice e),.int .i64 l,.int .i64 c=>match D47 P e,N1 P e with
  | some zs,some n=>match Nat.ble (bytesN P e) 4096 && Nat.beq zs.length n && Nat.blt 0 n with
   | true=>ck (0≤l∧l≤c∧c≤B3) (nw (.cells e false (G9 c.toNat zs)) h fun b h=>k (.slice (some ⟨b,0,none⟩) l.toNat c.toNat) h)
   | false=>none
  | _,_=>none
 | _,_,_=>none
def Hi9 (sz:Nat) (x:Value) (h:H) (k:Nat→List Value→Option α):Option α :=
 match x with
 | .slice a m _=>gCells a (m*sz) h fun cs=>k m cs
 | .string s=>match sz with
  | 1=>k s.size (A0 s.data.toList)
  | _=>none
 | _=>none
def E27 (e:TypeId) (sz:Nat) (a:Option Addr) (n c m:Nat) (new:List Value) (h:H):Option ((Option Addr × Nat × Nat) × H) :=
 match m with
 | 0=>some ((a,n,c),h)
 | _=>match decide (n+m≤c) with
  | true=>match a with
   | some a=>match h.putAll ((B4 a).add (n*sz)) new with
    | some h=>some ((some a,n+m,c),h)
    | none=>none
   | none=>none
  | false=>match decide (n+m≤B3) && new.all Value.oneCell with
   | true=>gCells a (n*sz) h fun old=>some ((some (Q0 h.next),n+m,n+m),((match a with
    | some ⟨b,_,some _⟩=>h.set b .dead
    | _=>h):H).push (.cells e false (old++new)))
   | false=>none
def apd (e:TypeId) (sz:Nat) (a:Option Addr) (n c m:Nat) (new:List Value) (h:H) (k:Option Addr→Nat→Nat→H→Option α):Option α :=
 match E27 e sz a n c m new h with
 | some ((a,n,c),h)=>k a n c h
 | none=>none
def J82 (P:Program) (t:TypeId):Bool :=
 match P.underlying t with
 | some (.slice _)=>true
 | some .string=>true
 | _=>false
def J71 (P:Program) (t:TypeId):Bool :=
 match P.underlying t with
 | some (.int _)=>true
 | _=>false
def Ie7 (x:Value) (k:Nat→Option α):Option α :=
 match x with
 | .int .i64 l=>ck (0≤l∧l≤B3) (k l.toNat)
 | _=>none
def Ea0 (P:Program) (ts:Array TypeId) (args:Array Value) (h:H) (k:Value→H→Option α):Option α :=
 match ts,args with
 | ⟨[t,t2]⟩,⟨[s,x]⟩=>match P.underlying t with
  | some (.slice e)=>match N1 P e,D47 P e with
   | some sz,some zs=>match Nat.ble (bytesN P e) 4096 && Nat.blt 0 sz && Nat.beq zs.length sz with
    | true=>match J82 P t2 with
     | true=>aSl s fun a n c=>Hi9 sz x h fun m new=>ckB (fitsOpen a e h) (apd e sz a n c m new h fun a n c h=>k (.slice a n c) h)
     | false=>match J71 P t2 with
      | true=>aSl s fun a n c=>Ie7 x fun m=>ckB (fitsOpen a e h) (apd e sz a n c m (G9 m zs) h fun a n c h=>k (.slice a n c) h)
      | false=>none
    | false=>none
   | _,_=>none
  | _=>none
 | _,_=>none
def Gt2 (P:Program) (ts:Array TypeId) (args:Array Value) (h:H) (k:Value→H→Option α):Option α :=
 match ts,args with
 | ⟨t::_⟩,⟨[d,x]⟩=>match P.underlying t with
  | some (.slice e)=>match N1 P e with
   | some sz=>aSl d fun a n _=>match x with
    | .slice b m _=>gCells b (min m n*sz) h fun cs=>pCells a cs h fun h=>k (.int .i64 (min m n:Nat)) h
    | .string s=>match sz with
     | 1=>pCells a (A0 (s.data.toList.take (min s.size n))) h fun h=>k (.int .i64 (min s.size n:Nat)) h
     | _=>none
    | _=>none
   | none=>none
  | _=>none
 | _,_=>none
def Ey6 (P:Program) (ts:Array TypeId) (args:Array Value) (h:H) (k:Value→H→Option α):Option α :=
 match ts,args with
 | ⟨[t]⟩,⟨[x]⟩=>match P.underlying t with
  | some (.slice e)=>match D47 P e,N1 P e with
   | some zs,some n=>match Nat.beq zs.length n with
    | true=>aSl x fun a m _=>pCells a (G9 m zs) h fun h=>k undef h
    | false=>none
   | _,_=>none
  | _=>none
 | _,_=>none
def Ev1 (P:Program) (ts:Array TypeId) (args:Array Value) (h:H) (k:Value→H→Option α):Option α :=
 match ts,args with
 | ⟨[t]⟩,⟨[x]⟩=>match P.underlying t,x with
  | some .string,.string s=>k (.int .i64 s.size) h
  | some (.array n _),_=>k (.int .i64 n) h
  | some (.slice _),.slice _ n _=>k (.int .i64 n) h
  | some (.pointer e),_=>match P.underlying e with
   | some (.array n _)=>k (.int .i64 n) h
   | _=>none
  | _,_=>none
 | _,_=>none
def Gg5 (a:Option Addr) (c:Nat) (k:Nat→Option α):Option α :=
 match a with
 | some ⟨_,_,some _⟩=>none
 | _=>k c
def Eq8 (P:Program) (ts:Array TypeId) (args:Array Value) (h:H) (k:Value→H→Option α):Option α :=
 match ts,args with
 | ⟨[t]⟩,⟨[x]⟩=>match P.underlying t,x with
  | some (.slice _),.slice a _ c=>Gg5 a c fun c=>k (.int .i64 c) h
  | _,_=>none
 | _,_=>none
def mm2 (mx:Bool) (a b:Int):Int :=
 match mx with
 | true=>if b>a then b else a
 | false=>if b<a then b else a
def mmL (mx:Bool) (k:IntKind) (a:Int):List Value→(Value→Option α)→Option α
 | [],kk=>kk (.int k a)
 | .int k' b::rest,kk=>match decide (k=k') with
  | true=>mmL mx k (mm2 mx a b) rest kk
  | false=>none
 | _,_=>none
def mmK (mx:Bool) (l:List Value) (kk:Value→Option α):Option α :=
 match l with
 | .int k a::rest=>mmL mx k a rest kk
 | _=>none
def H08 (P:Program) (t:TypeId):Option Value :=
 match P.info? t with
 | some i=>match i.zero with
  | some v=>match plain1 v with
   | true=>some v
   | false=>none
  | none=>none
 | none=>none
def Bs9 (x y:Value):Option Bool :=
 match x,y with
 | .agg ⟨xs⟩,.agg ⟨ys⟩=>eqs xs ys
 | x,y=>eq1 x y
def Ao7 (key:Value):List MapEntry→Nat→Option (Option Nat)
 | [],_=>some none
 | e::es,i=>match Bs9 key e.key with
  | some true=>some (some i)
  | some false=>Ao7 key es (i+1)
  | none=>none
def mapAt (h:H) (r:Nat) (k:List MapEntry→Nat→Option α):Option α :=
 match h.blk r with
 | some (.map es clock)=>k es clock
 | _=>none
def At5 (z key:Value) (es:List MapEntry):Option (Value × Bool) :=
 match Ao7 key es 0 with
 | some (some i)=>match es[i]? with
  | some e=>some (e.val,true)
  | none=>none
 | some none=>some (z,false)
 | none=>none
def modN (f:MapEntry→MapEntry):Nat→List MapEntry→List MapEntry
 | _,[]=>[]
 | 0,e::es=>f e::es
 | n+1,e::es=>e::modN f n es
def J67 (key v:Value) (es:List MapEntry) (clock:Nat):Option Blk :=
 match Ao7 key es 0 with
 | some (some i)=>some (.map (modN (fun e=>{ e with key,val:=v }) i es) clock)
 | some none=>some (.map (es++[{ key,val:=v,born:=clock }]) (clock+1))
 | none=>none
def Ep6 (z key:Value) (es:List MapEntry) (clock:Nat):Option (Value × Nat × Blk) :=
 match Ao7 key es 0 with
 | some (some i)=>match es[i]? with
  | some e=>some (e.val,e.born,.map (modN (fun e=>{ e with key }) i es) clock)
  | none=>none
 | some none=>some (z,clock,.map (es++[{ key,val:=z,born:=clock }]) (clock+1))
 | none=>none
def By4 (n:Int):List MapEntry→Nat→Option Nat
 | [],_=>none
 | e::es,i=>cond ((e.born:Int)==n) (some i) (By4 n es (i+1))
def opt {β:Type} (x:Option β) (k:β→Option α):Option α :=
 match x with
 | some v=>k v
 | none=>none
def keyN (P:Program) (t:TypeId) (key:Value) (k:Option α):Option α :=
 match Ar3 P 8 t,E40 P t with
 | some ds,some g=>match key with
  | .agg ⟨xs⟩=>match g with
   | true=>ckB (L7 ds xs) k
   | false=>none
  | x=>match g with
   | true=>none
   | false=>ckB (L7 ds [x]) k
 | _,_=>none
def lookupK (P:Program) (t:TypeId) (x key:Value) (ok:Bool) (h:H) (k:Value→Option α):Option α :=
 match P.underlying t,x with
 | some (.map kt e),.map r=>match H08 P e,P.underlying e with
  | some z,some d=>match d with
   | .struct _=>none
   | .array _ _=>none
   | _=>keyN P kt key (opt r fun r=>mapAt h r fun es _=>opt (At5 z key es) fun f=>Bo6 d f.1 fun v=>match ok with
    | true=>k (.tuple ⟨[v,.bool f.2]⟩)
    | false=>k v)
  | _,_=>none
 | _,_=>none
def Do2 (P:Program) (t:TypeId) (x key v:Value) (h:H) (k:H→Option α):Option α :=
 match P.underlying t,x with
 | some (.map kt _),.map r=>keyN P kt key (opt r fun r=>mapAt h r fun es clock=>opt (J67 key v es clock) fun m=>k (h.set r m))
 | _,_=>none
def Ea1 (P:Program) (t:TypeId) (x key:Value) (h:H) (k:Value→H→Option α):Option α :=
 match P.underlying t,x with
 | some (.map kt e),.map r=>match H08 P e,P.underlying e with
  | some z,some d=>match d with
   | .struct _=>none
   | .array _ _=>none
   | _=>keyN P kt key (opt r fun r=>mapAt h r fun es clock=>opt (Ep6 z key es clock) fun f =>
    Bo6 d f.1 fun v=>k (.tuple ⟨[v,.int .i64 f.2.1]⟩) (h.set r f.2.2))
  | _,_=>none
 | _,_=>none
def Ex3 (x stamp v:Value) (h:H) (k:H→Option α):Option α :=
 match x,stamp with
 | .map r,.int _ n=>opt r fun r=>mapAt h r fun es clock=>opt (By4 n es 0) fun i=>k (h.set r (.map (modN (fun e=>{ e with val:=v }) i es) clock))
 | _,_=>none
abbrev E0:=FuncId→List Value→H→Option (Value × H)
def Gs9 (P:Program) (call:E0) (f:FuncId) (args:List Value) (t:TypeId) (h:H) (k:Value→H→Option α):Option α :=
 bnd (call f args h) fun v h=>Ew3 P t v fun v=>k v h
def opK (P:Program) (call:E0) (ρ:Operand→Value) (o:Oper) (h:H) (k:Value→H→Option α):Option α :=
 match o.op with
 | .move x=>k (ρ x) h
 | .assign x=>k (ρ x) h
 | .pick c a b=>aBool (ρ c) fun x=>cond x (k (ρ a) h) (k (ρ b) h)
 | .alloc e=>match D47 P e with
  | some zs=>nw (.cells e false zs) h fun b h=>k (ptr b) h
  | none=>none
 | .box e x=>match E40 P e with
  | some true=>aAgg (ρ x) fun cs=>nw (.cells e false cs) h fun b h=>k (ptr b) h
  | some false=>one (ρ x) (nw (.cells e false [ρ x]) h fun b h=>k (ptr b) h)
  | none=>none
 | .build t parts=>Ec1 P t (parts.toList.map fun p=>(p.1,ρ p.2)) fun cs=>k (.agg ⟨cs⟩) h
 | .buildSlice t len parts=>Eg5 P t len (parts.toList.map fun p=>(p.1,ρ p.2)) fun e cs=>nw (.cells e false cs) h fun b h=>k (.slice (some ⟨b,0,none⟩) len len) h
 | .load t a=>match ρ a with
  | .pointer p=>aSome p fun a=>ldT P t a h fun v=>k v h
  | _=>none
 | .store t a x=>match ρ a with
  | .pointer p=>aSome p fun a=>stT P t a (ρ x) h fun h=>k undef h
  | _=>none
 | .nilCheck x=>nck (ρ x) fun v=>k v h
 | .binOp op t x y _=>G60 P op t (ρ x) (ρ y) fun v=>k v h
 | .unOp op _ x=>unK op (ρ x) fun v=>k v h
 | .convert src dst x=>convK P src dst (ρ x) h k
 | .makeFunc fn first captured=>k (.func fn ⟨first.toList.map ρ⟩ ⟨captured.toList.map ρ⟩) h
 | .makeMap _ r=>match r with
  | none=>nw (.map [] 0) h fun b h=>k (.map (some b)) h
  | some _=>none
 | .makeSlice t l c=>Dx5 P t (ρ l) (ρ c) h k
 | .slice t x lo hi mx=>sliceK P t (ρ x) (lo.map ρ) (hi.map ρ) (mx.map ρ) h fun v=>k v h
 | .fieldAddr s x f=>match ρ x,Ed3 P s f with
  | .pointer p,some (off,t)=>match N1 P t with
   | some (_+1)=>aSome p fun a=>k (.pointer (some (a.add off))) h
   | _=>none
  | _,_=>none
 | .field s x f=>match Ed3 P s f with
  | some (off,t)=>aAgg (ρ x) fun cs=>Eo1 P t cs off fun v=>k v h
  | none=>none
 | .indexAddr t x i=>G27 P t (ρ x) (ρ i) fun v=>k v h
 | .index t x i=>Ee5 P t (ρ x) (ρ i) fun v=>k v h
 | .lookup t x i ok=>lookupK P t (ρ x) (ρ i) ok h fun v=>k v h
 | .mapUpdate t m i x=>Do2 P t (ρ m) (ρ i) (ρ x) h fun h=>k undef h
 | .insert t m i x=>Do2 P t (ρ m) (ρ i) (ρ x) h fun h=>k undef h
 | .mapEntry t m i=>Ea1 P t (ρ m) (ρ i) h k
 | .entryStore _ m i x=>Ex3 (ρ m) (ρ i) (ρ x) h fun h=>k undef h
 | .extract x i=>match ρ x with
  | .tuple ⟨vs⟩=>nth vs i fun v=>k v h
  | _=>none
 | .call c=>match c.callee with
  | .value f=>aFn (ρ f) fun g first cap=>Gs9 P call g (first++(c.args.toList.map ρ++cap)) o.type h k
  | .invoke _ _=>none
  | .builtin b=>match b with
   | .append=>Ea0 P c.argTypes ⟨c.args.toList.map ρ⟩ h k
   | .len=>Ev1 P c.argTypes ⟨c.args.toList.map ρ⟩ h k
   | .cap=>Eq8 P c.argTypes ⟨c.args.toList.map ρ⟩ h k
   | .copy=>Gt2 P c.argTypes ⟨c.args.toList.map ρ⟩ h k
   | .clear=>Ey6 P c.argTypes ⟨c.args.toList.map ρ⟩ h k
   | .min=>mmK false (c.args.toList.map ρ) fun v=>k v h
   | .max=>mmK true (c.args.toList.map ρ) fun v=>k v h
   | _=>none
 | _=>none
end
abbrev D2:=List (Nat × Value)
def J6:D2→Nat→Value
 | [],_=>undef
 | (t',v)::s,t=>match Nat.beq t' t with
  | true=>v
  | false=>J6 s t
def Q6 (s:D2) (dst:Option Nat) (v:Value):D2 :=
 match dst with
 | some t=>(t,v)::s
 | none=>s
def ev (ng:Nat) (s:D2):Operand→Value
 | .tmp t=>J6 s t
 | .const v=>cond (Gm5 v) v undef
 | .global g=>cond (Nat.blt g ng) (.pointer (some ⟨g,0,none⟩)) undef
 | .func f=>.func (.func f) #[] #[]
def Ek5 (keep:List Nat) (s:D2):D2:=keep.map fun t=>(t,J6 s t)
def Hf9 (c:Nat) (o:Oper):Bool :=
 match o.op with
 | .pick (.tmp t) _ _=>Nat.beq t c
 | _=>false
def Ex1 (ops:Array Oper) (c:Nat):List Nat→Option (List Nat × Nat × List Nat)
 | []=>none
 | i::l=>match ops[i]? with
  | none=>none
  | some o=>match Hf9 c o with
   | true=>some ([],i,l)
   | false=>match Ex1 ops c l with
    | some (g,p,r)=>some (i::g,p,r)
    | none=>none
inductive Known where
 | said
 | passed
def A42 (rg:List (Nat × Known)) (j:Nat):Option Known :=
 match rg with
 | []=>none
 | (i,x)::l=>match Nat.beq i j with
  | true=>some x
  | false=>A42 l j
def E8 (ops:Array Oper) (j:Nat):Option Nat :=
 match ops[j]? with
 | some o=>o.dst
 | none=>none
def D85 (nt:Nat) (ops:Array Oper) (rg:List (Nat × Known)) (d:Option Nat):Bool :=
 match d with
 | none=>true
 | some t=>Nat.blt t nt && rg.all fun p=>match E8 ops p.1 with
  | some t'=>!Nat.beq t' t
  | none=>true
def G32 (ops:Array Oper) (rg:List (Nat × Known)) (s:D2) (g:Option (Nat × Bool)):Bool :=
 match g with
 | none=>true
 | some (j,want)=>match A42 rg j,E8 ops j with
  | some .said,some c=>match J6 s c with
   | .bool b=>b==want
   | _=>false
  | _,_=>false
def Ew1 (ops:Array Oper):List Nat→D2→D2
 | [],s=>s
 | i::g,s=>Ew1 ops g (Q6 s (E8 ops i) undef)
inductive Cls where
 | pure
 | read
 | alloc
 | effect
def Di7 (P:Program) (t:TypeId):Bool :=
 match P.underlying t with
 | some (.slice _)=>true
 | _=>false
def M9 (P:Program) (o:Op):Cls :=
 match o with
 | .move _=>.pure
 | .assign _=>.pure
 | .pick _ _ _=>.pure
 | .build _ _=>.pure
 | .nilCheck _=>.pure
 | .binOp _ _ _ _ _=>.pure
 | .unOp _ _ _=>.pure
 | .makeFunc _ _ _=>.pure
 | .fieldAddr _ _ _=>.pure
 | .field _ _ _=>.pure
 | .indexAddr _ _ _=>.pure
 | .index _ _ _=>.pure
 | .extract _ _=>.pure
 | .load _ _=>.read
 | .lookup _ _ _ _=>.read
 | .slice _ _ _ _ _=>.read
 | .convert s d _=>match Di7 P s,Di7 P d with
  | false,false=>.pure
  | true,false=>.read
  | false,true=>.alloc
  | true,true=>.effect
 | .alloc _=>.alloc
 | .box _ _=>.alloc
 | .buildSlice _ _ _=>.alloc
 | .makeMap _ _=>.alloc
 | .makeSlice _ _ _=>.alloc
 | .call c=>match c.callee with
  | .builtin b=>match b with
   | .len=>.pure
   | .cap=>.pure
   | .min=>.pure
   | .max=>.pure
   | _=>.effect
  | _=>.effect
 | _=>.effect
structure Plan where
 order:List Nat
 bef:List Nat
 again:List (Nat × List Nat)
 ahead:List (Nat × List Nat)
def V7 (l:List (Nat × List Nat)) (i:Nat):List Nat :=
 match l with
 | []=>[]
 | (j,x)::l=>match Nat.beq j i with
  | true=>x
  | false=>V7 l i
def En6:List Nat→Nat→Nat
 | [],_=>0
 | x::_,0=>x
 | _::l,n+1=>En6 l n
def Dp6 (i:Nat):Nat:=2 ^ i
def G86 (a b:Nat):Bool:=Nat.beq (Nat.lor a b) b
def Gr8:List Nat→Nat
 | []=>0
 | i::l=>Nat.lor (Dp6 i) (Gr8 l)
def inB (pl:Plan) (i j:Nat):Bool:=(En6 pl.bef i).testBit j
def Gr0 (pl:Plan):List Edge→Nat
 | []=>0
 | e::l=>match Region.binds .any e with
  | true=>Nat.lor (Nat.lor (Dp6 e.on) (En6 pl.bef e.on)) (Gr0 pl l)
  | false=>Gr0 pl l
def Hf1:List Edge→Nat
 | []=>0
 | e::l=>match Region.binds .any e with
  | true=>Nat.lor (Dp6 e.on) (Hf1 l)
  | false=>Hf1 l
def B84:Nat→List Oper→List (Nat × Nat)
 | _,[]=>[]
 | i,o::l=>match o.dst with
  | some t=>(t,i)::B84 (i+1) l
  | none=>B84 (i+1) l
def B93 (l:List (Nat × Nat)) (t:Nat):Option Nat :=
 match l with
 | []=>none
 | (t',i)::l=>match Nat.beq t' t with
  | true=>some i
  | false=>B93 l t
def Gt3 (wrs:List (Nat × Nat)) (pl:Plan) (done i:Nat) (war:Bool):List Nat→Bool
 | []=>true
 | t::ts=>(match B93 wrs t with
  | none=>true
  | some j=>(inB pl i j && done.testBit j) || (war && (Nat.beq j i || inB pl j i) && !done.testBit j)) && Gt3 wrs pl done i war ts
def I91:Cls→Bool
 | .pure=>true
 | _=>false
def Jt7 (wrs:List (Nat × Nat)) (nt i:Nat) (d:Option Nat):Bool :=
 match d with
 | none=>true
 | some t=>Nat.blt t nt && match B93 wrs t with
  | some j=>Nat.beq j i
  | none=>false
def Dx6 (P:Program) (nt:Nat) (ops:Array Oper) (wrs:List (Nat × Nat)) (pl:Plan):(done eff rd:Nat)→List Nat→Bool
 | done,_,_,[]=>Nat.beq done (2 ^ ops.size-1)
 | done,eff,rd,i::l=>match ops[i]? with
  | none=>false
  | some o=>(!done.testBit i && G86 (Hf1 o.after.toList) done && G86 (En6 pl.bef i) (Gr0 pl o.after.toList) && Jt7 wrs nt i o.dst && Gt3 wrs pl done i (I91 (M9 P o.op)) (o.looksAt ops)) &&
   match M9 P o.op with
   | .pure=>Dx6 P nt ops wrs pl (Nat.lor done (Dp6 i)) eff rd l
   | .read=>G86 eff (Nat.lor (En6 pl.bef i) (Gr8 (V7 pl.ahead i))) && Dx6 P nt ops wrs pl (Nat.lor done (Dp6 i)) eff (Nat.lor rd (Dp6 i)) l
   | .alloc=>G86 eff (En6 pl.bef i) && Dx6 P nt ops wrs pl (Nat.lor done (Dp6 i)) eff rd l
   | .effect=>G86 eff (En6 pl.bef i) && G86 rd (Nat.lor (En6 pl.bef i) (Gr8 (V7 pl.again i))) && Dx6 P nt ops wrs pl (Nat.lor done (Dp6 i)) (Nat.lor eff (Dp6 i)) rd l
def H24 (P:Program) (nt:Nat) (ops:Array Oper) (pl:Plan):Bool:=Dx6 P nt ops (B84 0 ops.toList) pl 0 0 0 pl.order
def Gq0 (a b:Option Addr):Bool :=
 match a,b with
 | none,none=>true
 | some ⟨x,o,none⟩,some ⟨y,p,none⟩=>Nat.beq x y && Nat.beq o p
 | some ⟨x,o,some f⟩,some ⟨y,p,some g⟩=>Nat.beq x y && Nat.beq o p && Nat.beq f g
 | _,_=>false
def Bd7 (v w:Value):Bool :=
 match v,w with
 | .int k a,.int l b=>decide (k=l) && decide (a=b)
 | .bool a,.bool b=>a==b
 | .string a,.string b=>decide (a.data.toList=b.data.toList)
 | .pointer a,.pointer b=>Gq0 a b
 | .slice a n c,.slice b m d=>Gq0 a b && Nat.beq n m && Nat.beq c d
 | .map none,.map none=>true
 | .map (some a),.map (some b)=>Nat.beq a b
 | .nilFunc,.nilFunc=>true
 | _,_=>false
def B69:List Value→List Value→Bool
 | [],[]=>true
 | v::l,w::m=>Bd7 v w && B69 l m
 | _,_=>false
def Ay9 (v w:Value):Bool :=
 match v,w with
 | .agg ⟨l⟩,.agg ⟨m⟩=>B69 l m
 | .func (.func f) ⟨a⟩ ⟨b⟩,.func (.func g) ⟨c⟩ ⟨d⟩=>Nat.beq f g && B69 a c && B69 b d
 | v,w=>Bd7 v w
def same {α:Type} (v v':Value) (k:Option α):Option α:=cond (Ay9 v v') k none
def B00 {α:Type} (v v':Value) (k:Option α):Option α :=
 match v with
 | .tuple ⟨[]⟩=>none
 | v=>same v v' k
def Hb9 (l:List (Nat × H)) (i:Nat):Option H :=
 match l with
 | []=>none
 | (j,h)::l=>match Nat.beq j i with
  | true=>some h
  | false=>Hb9 l i
def A41 {α:Type} (P:Program) (call:E0) (ρ:Operand→Value) (o:Oper) (hs:List (Nat × H)) (v:Value):List Nat→Option α→Option α
 | [],k=>k
 | j::l,k=>match Hb9 hs j with
  | some h=>opK P call ρ o h fun v' _=>same v v' (A41 P call ρ o hs v l k)
  | none=>none
def Ac9 {α:Type} (P:Program) (call:E0) (ng:Nat) (ops:Array Oper) (rg:List (Nat × Known)) (s:D2) (h:H):List Nat→Option α→Option α
 | [],k=>k
 | i::l,k=>match ops[i]? with
  | none=>none
  | some o=>match o.dst with
   | none=>none
   | some d=>match o.guard with
    | none=>opK P call (ev ng s) o h fun v' _=>B00 (J6 s d) v' (Ac9 P call ng ops rg s h l k)
    | some (j,want)=>match A42 rg j with
     | none=>none
     | some .passed=>Ac9 P call ng ops rg s h l k
     | some .said=>match E8 ops j with
      | none=>none
      | some c=>aBool (J6 s c) fun b=>cond (b==want) (opK P call (ev ng s) o h fun v' _=>B00 (J6 s d) v' (Ac9 P call ng ops rg s h l k)) (Ac9 P call ng ops rg s h l k)
def O4 (P:Program) (call:E0) (ng nt:Nat) (ops:Array Oper) (pl:Plan):(fuel:Nat)→(α:Type)→(rg:List (Nat × Known))→(hs:List (Nat × H))→List Nat→D2→H→(D2→H→Option α)→Option α
 | 0,_,_,_,_,_,_,_=>none
 | _+1,_,_,_,[],s,h,k=>k s h
 | n+1,α,rg,hs,i::l,s,h,k=>match ops[i]? with
  | none=>none
  | some o=>match D85 nt ops rg o.dst with
   | false=>none
   | true=>match o.guard with
    | none=>opK P call (ev ng s) o h fun v h1=>A41 P call (ev ng s) o hs v (V7 pl.ahead i) (Ac9 P call ng ops rg (Q6 s o.dst v) h1 (V7 pl.again i) (O4 P call ng nt ops pl n α rg ((i,h)::hs) l (Q6 s o.dst v) h1 k))
    | some (j,want)=>match E8 ops j with
     | none=>none
     | some c=>match A42 rg j with
      | some .said=>aBool (J6 s c) fun b=>cond (b==want)
        (opK P call (ev ng s) o h fun v h1=>A41 P call (ev ng s) o hs v (V7 pl.ahead i) (Ac9 P call ng ops rg (Q6 s o.dst v) h1 (V7 pl.again i) (O4 P call ng nt ops pl n α rg ((i,h)::hs) l (Q6 s o.dst v) h1 k)))
        (O4 P call ng nt ops pl n α ((i,.passed)::rg) hs l (Q6 s o.dst undef) h k)
      | some .passed=>O4 P call ng nt ops pl n α ((i,.passed)::rg) hs l (Q6 s o.dst undef) h k
      | none=>match Ex1 ops c (i::l) with
       | none=>none
       | some (g,p,r)=>match ops[p]? with
        | none=>none
        | some po=>match D85 nt ops rg (some c) && D85 nt ops ((j,.said)::rg) po.dst && G32 ops rg s po.guard with
         | false=>none
         | true=>aBool (J6 s c) fun x=>bnd (cond x
           (O4 P call ng nt ops pl n (Bool × H) ((j,.said)::rg) hs g (Q6 s (some c) (.bool true)) h fun s h=>opK P call (ev ng s) po h fun v h=>aBool v fun b=>some (b,h))
           (O4 P call ng nt ops pl n (Bool × H) ((j,.said)::rg) hs g (Q6 s (some c) (.bool false)) h fun s h=>opK P call (ev ng s) po h fun v h=>aBool v fun b=>some (b,h)))
           fun v h=>O4 P call ng nt ops pl n α rg hs r (Q6 (Ew1 ops g s) po.dst (.bool v)) h k
def Da9:Code→Option Nat
 | .region id _ _=>some id
 | .seq a b=>match Da9 a with
  | some r=>some r
  | none=>Da9 b
 | .block _ c=>Da9 c
 | .loop c=>Da9 c
 | .scope c=>Da9 c
 | _=>none
structure Cuts where
 globs:Nat
 loops:List (Nat × List Nat)
 regs:List (Nat × List Nat)
 plans:List (Nat × Plan)
def Ja4 (l:List (Nat × Plan)) (r:Nat):Option Plan :=
 match l with
 | []=>none
 | (i,p)::l=>match Nat.beq i r with
  | true=>some p
  | false=>Ja4 l r
def J35:Plan:=⟨[],[],[],[]⟩
def H04 (l:List (Nat × List Nat)) (r:Nat):Option (List Nat) :=
 match l with
 | []=>none
 | (i,ks)::l=>match Nat.beq i r with
  | true=>some ks
  | false=>H04 l r
def stk:List Nat→List Item→List Item
 | [],t=>t
 | 0::p,.code (.seq a b)::k=>stk p (.code a::.code b::k)
 | 1::p,_::k=>stk p k
 | 2::p,.code (.cond _ x _)::k=>stk p (.code x::k)
 | 3::p,.code (.cond _ _ y)::k=>stk p (.code y::k)
 | 4::p,.code (.block id c)::k=>stk p (.code c::.inBlock id::k)
 | 5::p,.code (.loop c)::k=>stk p (.inLoop c::k)
 | 6::p,.inLoop c::k=>stk p (.code c::.inLoop c::k)
 | _,t=>t
def A8 (fn:Func):List Item :=
 match fn.body with
 | some c=>[.code c]
 | none=>[]
abbrev Ab8:=FuncId→List Item→D2→H→Option (Value × H)
def Ia8 (s:D2) (h:H) (P:Program):List ResultVar→(List Value→Option (Value × H))→Option (Value × H)
 | [],k=>k []
 | .tmp t::l,k=>Ia8 s h P l fun vs=>k (J6 s t::vs)
 | .cell a t::l,k=>match J6 s a with
  | .pointer p=>aSome p fun a=>ldT P t a h fun v=>Ia8 s h P l fun vs=>k (v::vs)
  | _=>none
def H81 (P:Program) (fn:Func) (s:D2) (h:H):Option (Value × H) :=
 Ia8 s h P fn.results.toList fun vs=>match vs with
  | [v]=>some (v,h)
  | vs=>some (.tuple ⟨vs⟩,h)
def Z0 (P:Program) (cuts:Cuts) (call:E0) (run:Ab8) (f:FuncId) (fn:Func):(fuel:Nat)→(first:Bool)→List Item→D2→H→Option (Value × H)
 | 0,_,_,_,_=>none
 | _+1,_,[],s,h=>H81 P fn s h
 | n+1,first,it::k,s,h=>match it with
  | .code c=>match c with
   | .skip=>Z0 P cuts call run f fn n first k s h
   | .seq a b=>Z0 P cuts call run f fn n first (.code a::.code b::k) s h
   | .region id ops draw=>match first,H04 cuts.regs id with
    | false,some ks=>run f (.code (.region id ops draw)::k) (Ek5 ks s) h
    | _,_=>match draw with
     | false=>O4 P call cuts.globs fn.ntmps ops J35 (2*ops.size+2) _ [] [] (List.range ops.size) s h fun s h=>Z0 P cuts call run f fn n false k s h
     | true=>match Ja4 cuts.plans id with
      | none=>none
      | some pl=>match H24 P fn.ntmps ops pl with
       | false=>none
       | true=>O4 P call cuts.globs fn.ntmps ops pl (2*ops.size+2) _ [] [] pl.order s h fun s h=>Z0 P cuts call run f fn n false k s h
   | .cond c x y=>aBool (ev cuts.globs s c) fun b=>cond b (Z0 P cuts call run f fn n false (.code x::k) s h) (Z0 P cuts call run f fn n false (.code y::k) s h)
   | .block id c=>Z0 P cuts call run f fn n first (.code c::.inBlock id::k) s h
   | .loop c=>match Da9 c with
    | some r=>match H04 cuts.loops r with
     | some ks=>run f (.inLoop c::k) (Ek5 ks s) h
     | none=>none
    | none=>none
   | .exit id=>match exitTo id k with
    | some k'=>Z0 P cuts call run f fn n false k' s h
    | none=>none
   | .ret=>H81 P fn s h
   | _=>none
  | .inBlock _=>Z0 P cuts call run f fn n first k s h
  | .inLoop c=>match first with
   | true=>Z0 P cuts call run f fn n true (.code c::.inLoop c::k) s h
   | false=>match Da9 c with
    | some r=>match H04 cuts.loops r with
     | some ks=>run f (.inLoop c::k) (Ek5 ks s) h
     | none=>none
    | none=>none
  | _=>none
end Go.NN

namespace Go.NN
abbrev Mu:=Nat→Option (Nat × Nat)
mutual
inductive VR (P:Program) (μ:Mu) (h:H) (w:World):Value→Value→Prop
 | undef (v:Value):VR P μ h w (.tuple ⟨[]⟩) v
 | bool (b:Bool):VR P μ h w (.bool b) (.bool b)
 | int (k:IntKind) (n:Int):VR P μ h w (.int k n) (.int k n)
 | str (s:ByteArray):VR P μ h w (.string s) (.string s)
 | nilp:VR P μ h w (.pointer none) (.pointer none)
 | ptr (b o g δ:Nat):μ b=some (g,δ)→VR P μ h w (.pointer (some ⟨b,o,none⟩)) (.pointer (some ⟨g,δ+o,none⟩))
 | ptrDead (b o:Nat) (f:Option Nat) (a:Addr):h.blk b=some .dead→VR P μ h w (.pointer (some ⟨b,o,f⟩)) (.pointer (some a))
 | nils (n c:Nat):n≤c→VR P μ h w (.slice none n c) (.slice none n c)
 | sl (b o n c g δ o':Nat):μ b=some (g,δ)→n≤c→(0<c→o'=δ+o)→VR P μ h w (.slice (some ⟨b,o,none⟩) n c) (.slice (some ⟨g,o',none⟩) n c)
 | slOpen (b o f n c g δ o' c' m sz:Nat) (e:TypeId):μ b=some (g,δ)→w.shape? g=some (e,m)→N1 P e=some sz→o'+c'*sz≤m→c≤c'→n≤c →
   (0<c→o'=δ+o)→VR P μ h w (.slice (some ⟨b,o,some f⟩) n c) (.slice (some ⟨g,o',none⟩) n c')
 | slZero (b o:Nat) (a:Addr):VR P μ h w (.slice (some ⟨b,o,none⟩) 0 0) (.slice (some a) 0 0)
 | nilm:VR P μ h w (.map none) (.map none)
 | map (b g:Nat):μ b=some (g,0)→VR P μ h w (.map (some b)) (.map (some g))
 | fn (f:Fn) (a b a' b':List Value):VRs P μ h w a a'→VRs P μ h w b b'→VR P μ h w (.func f ⟨a⟩ ⟨b⟩) (.func f ⟨a'⟩ ⟨b'⟩)
 | nilf:VR P μ h w .nilFunc .nilFunc
 | iface (t:TypeId) (v v':Value):VR P μ h w v v'→VR P μ h w (.iface t v) (.iface t v')
 | nili:VR P μ h w .nilIface .nilIface
 | agg (l l':List Value):VRs P μ h w l l'→VR P μ h w (.agg ⟨l⟩) (.agg ⟨l'⟩)
 | tuple (l l':List Value):VRs P μ h w l l'→VR P μ h w (.tuple ⟨l⟩) (.tuple ⟨l'⟩)
inductive VRs (P:Program) (μ:Mu) (h:H) (w:World):List Value→List Value→Prop
 | nil:VRs P μ h w [] []
 | cons (v v':Value) (l l':List Value):VR P μ h w v v'→VRs P μ h w l l'→VRs P μ h w (v::l) (v'::l')
end
section lists
variable {P:Program} {μ:Mu} {h:H} {w:World}
theorem VRs.length {l l':List Value} (r:VRs P μ h w l l'):l'.length=l.length:=by
 induction l generalizing l' with
 | nil=>cases r;rfl
 | cons v l ih=>cases r;simp [ih ‹_›]
theorem VRs.get {l l':List Value} (r:VRs P μ h w l l') {i:Nat} {v:Value} (hi:l[i]?=some v):∃ v',l'[i]?=some v'∧VR P μ h w v v':=by
 induction l generalizing l' i with
 | nil=>simp at hi
 | cons x l ih =>
  cases r with
  | cons _ v' _ l' hx hl =>
   cases i with
   | zero=>simp at hi;subst hi;exact ⟨v',by simp,hx⟩
   | succ i=>simp at hi;simpa using ih hl hi
theorem VRs.append {a a' b b':List Value} (ha:VRs P μ h w a a') (hb:VRs P μ h w b b'):VRs P μ h w (a++b) (a'++b'):=by
 induction a generalizing a' with
 | nil=>cases ha;exact hb
 | cons v a ih=>cases ha with
  | cons _ v' _ l' hv hl=>exact .cons _ _ _ _ hv (ih hl)
theorem VRs.take {a a':List Value} (ha:VRs P μ h w a a') (n:Nat):VRs P μ h w (a.take n) (a'.take n):=by
 induction n generalizing a a' with
 | zero=>simp;exact .nil
 | succ n ih=>cases ha with
  | nil=>simp;exact .nil
  | cons _ _ _ _ hv hl=>simp;exact .cons _ _ _ _ hv (ih hl)
theorem VRs.drop {a a':List Value} (ha:VRs P μ h w a a') (n:Nat):VRs P μ h w (a.drop n) (a'.drop n):=by
 induction n generalizing a a' with
 | zero=>simpa using ha
 | succ n ih=>cases ha with
  | nil=>simp;exact .nil
  | cons _ _ _ _ hv hl=>simpa using ih hl
theorem VRs.of_get {l l':List Value} (hl:l'.length=l.length) (hg:∀ (i:Nat) (v:Value),l[i]?=some v→∃ v':Value,l'[i]?=some v'∧VR P μ h w v v'):VRs P μ h w l l':=by
 induction l generalizing l' with
 | nil=>cases l' with
  | nil=>exact .nil
  | cons _ _=>simp at hl
 | cons x l ih=>cases l' with
  | nil=>simp at hl
  | cons x' l' =>
   obtain ⟨v',h1,h2⟩:=hg 0 x (by simp);simp at h1;subst h1;exact .cons _ _ _ _ h2 (ih (by simpa using hl) fun i v hi=>by simpa using hg (i+1) v (by simpa using hi))
theorem VRs.map_of {α:Type} {f g:α→Value} (l:List α) (hfg:∀ x ∈ l,VR P μ h w (f x) (g x)):VRs P μ h w (l.map f) (l.map g):=by
 induction l with
 | nil=>exact .nil
 | cons x l ih=>exact .cons _ _ _ _ (hfg x (by simp)) (ih fun y hy=>hfg y (by simp [hy]))
end lists
def H.writable (h:H) (b:Nat):Prop :=
 match h.blk b with
 | some (.cells _ ro _)=>ro=false
 | some (.map _ _)=>True
 | _=>False
section mono
variable {P:Program} {μ μ':Mu} {h h':H} {w w':World}
mutual
theorem VR.mono (hm:∀ b x,μ b=some x→μ' b=some x) (hd:∀ b,h.blk b=some .dead→h'.blk b=some .dead) (hs:∀ g s,w.shape? g=some s→w'.shape? g=some s) :
  ∀ {v v':Value},VR P μ h w v v'→VR P μ' h' w' v v'
 | _,_,.undef v=>.undef v
 | _,_,.bool b=>.bool b
 | _,_,.int k n=>.int k n
 | _,_,.str s=>.str s
 | _,_,.nilp=>.nilp
 | _,_,.ptr b o g δ h1=>.ptr b o g δ (hm _ _ h1)
 | _,_,.ptrDead b o f a h1=>.ptrDead b o f a (hd _ h1)
 | _,_,.nils n c h1=>.nils n c h1
 | _,_,.sl b o n c g δ o' h1 h2 h3=>.sl b o n c g δ o' (hm _ _ h1) h2 h3
 | _,_,.slOpen b o f n c g δ o' c' m sz e h1 h2 h3 h4 h5 h6 h7=>.slOpen b o f n c g δ o' c' m sz e (hm _ _ h1) (hs _ _ h2) h3 h4 h5 h6 h7
 | _,_,.slZero b o a=>.slZero b o a
 | _,_,.nilm=>.nilm
 | _,_,.map b g h1=>.map b g (hm _ _ h1)
 | _,_,.fn f a b a' b' h1 h2=>.fn f a b a' b' (VRs.mono hm hd hs h1) (VRs.mono hm hd hs h2)
 | _,_,.nilf=>.nilf
 | _,_,.iface t v v' h1=>.iface t v v' (VR.mono hm hd hs h1)
 | _,_,.nili=>.nili
 | _,_,.agg l l' h1=>.agg l l' (VRs.mono hm hd hs h1)
 | _,_,.tuple l l' h1=>.tuple l l' (VRs.mono hm hd hs h1)
theorem VRs.mono (hm:∀ b x,μ b=some x→μ' b=some x) (hd:∀ b,h.blk b=some .dead→h'.blk b=some .dead) (hs:∀ g s,w.shape? g=some s→w'.shape? g=some s) :
  ∀ {l l':List Value},VRs P μ h w l l'→VRs P μ' h' w' l l'
 | _,_,.nil=>.nil
 | _,_,.cons v v' l l' h1 h2=>.cons v v' l l' (VR.mono hm hd hs h1) (VRs.mono hm hd hs h2)
end
end mono
def Di6 (P:Program) (μ:Mu) (h:H) (w:World) (es es':List MapEntry):Prop :=
 es'.length=es.length∧∀ (i:Nat) (e:MapEntry),es[i]?=some e→∃ e':MapEntry,es'[i]?=some e'∧e'.key=e.key∧e'.born=e.born∧VR P μ h w e.val e'.val
def Dl1 (w:World) (g:Nat) (c':Array Value) (e:TypeId) (fr:Nat × Nat) (ro:Bool):Prop:=∃ e2,(ro=false→e2=e)∧w.heap[g]?=some (.cells c' e2 fr)
theorem Dl1.own {w:World} {g:Nat} {c':Array Value} {e:TypeId} {fr:Nat × Nat} (h:Dl1 w g c' e fr false):w.heap[g]?=some (.cells c' e fr):=by
 obtain ⟨e2,h1,h2⟩:=h;rw [← h1 rfl];exact h2
theorem Dl1.of {w:World} {g:Nat} {c':Array Value} {e:TypeId} {fr:Nat × Nat} {ro:Bool} (h:w.heap[g]?=some (.cells c' e fr)):Dl1 w g c' e fr ro:=⟨e,fun _=>rfl,h⟩
theorem Dl1.to {w w':World} {g:Nat} {c':Array Value} {e:TypeId} {fr:Nat × Nat} {ro:Bool} (h:Dl1 w g c' e fr ro) (q:w'.heap[g]?=w.heap[g]?):Dl1 w' g c' e fr ro :=
 let ⟨e2,h1,h2⟩:=h;⟨e2,h1,q.trans h2⟩
structure Rel (P:Program) (μ:Mu) (h:H) (w:World):Prop where
 glob:∀ g,g<P.globals.size→μ g=some (g,0)∨h.blk g=some .dead
 wf:∀ b,h.next≤b→h.blk b=none
 dom:∀ b x,μ b=some x→b<h.next
 bound:∀ b g δ,μ b=some (g,δ)→g<w.heap.size
 cells:∀ b g δ e ro c,μ b=some (g,δ)→h.blk b=some (.cells e ro c)→∃ c' fr,Dl1 w g c' e fr ro∧δ+c.length≤c'.size ∧
  (∀ (i:Nat) (v:Value),c[i]?=some v→∃ v':Value,c'[δ+i]?=some v'∧VR P μ h w v v')∧(ro=false→∀ i,i<c'.size→¬ (fr.1≤i∧i<fr.2))
 maps:∀ b g δ es cl,μ b=some (g,δ)→h.blk b=some (.map es cl)→δ=0∧∃ es',w.heap[g]?=some (.map ⟨es'⟩ cl)∧Di6 P μ h w es es'
 inj:∀ b b' g δ δ',μ b=some (g,δ)→μ b'=some (g,δ')→h.writable b→(∃ x,h.blk b'=some x∧x≠.dead)→b=b'
structure Ext (μ:Mu) (h:H) (w:World) (μ':Mu) (h':H) (w':World):Prop where
 next:h.next≤h'.next
 mu:∀ b,b<h.next→μ' b=μ b
 dead:∀ b,h.blk b=some .dead→h'.blk b=some .dead
 writ:∀ b,b<h.next→h'.writable b→h.writable b
 un:∀ b x,b<h.next→h.blk b=some x→μ b=none→h'.blk b=some x
 fresh:∀ b g δ,h.next≤b→μ' b=some (g,δ)→w.heap.size≤g∨∃ b0 δ0,μ b0=some (g,δ0)∧h.writable b0
 old:∀ g,g<w.heap.size→(∀ b δ,μ b=some (g,δ)→¬ h.writable b)→w'.heap[g]?=w.heap[g]?
 shape:∀ g s,w.shape? g=some s→w'.shape? g=some s
 size:w.heap.size≤w'.heap.size
 os:w'.os=w.os
 output:w'.output=w.output
 tape:w'.tape=w.tape
theorem Ext.refl (μ:Mu) (h:H) (w:World) (hd:∀ b x,μ b=some x→b<h.next):Ext μ h w μ h w where
 next:=Nat.le_refl _
 mu _ _:=rfl
 dead _ x:=x
 writ _ _ x:=x
 un _ _ _ x _:=x
 fresh b g δ hb hm:=absurd (hd _ _ hm) (Nat.not_lt.2 hb)
 old _ _ _:=rfl
 shape _ _ x:=x
 size:=Nat.le_refl _
 os:=rfl
 output:=rfl
 tape:=rfl
theorem Ext.mus {P:Program} {μ μ':Mu} {h h':H} {w w':World} (x:Ext μ h w μ' h' w') (r:Rel P μ h w):∀ b y,μ b=some y→μ' b=some y :=
 fun b y hb=>(x.mu b (r.dom _ _ hb)).trans hb
theorem Ext.vr {P:Program} {μ μ':Mu} {h h':H} {w w':World} (x:Ext μ h w μ' h' w') (r:Rel P μ h w) {v v':Value} (hv:VR P μ h w v v'):VR P μ' h' w' v v' :=
 VR.mono (x.mus r) x.dead x.shape hv
theorem Ext.vrs {P:Program} {μ μ':Mu} {h h':H} {w w':World} (x:Ext μ h w μ' h' w') (r:Rel P μ h w) {v v':List Value} (hv:VRs P μ h w v v'):VRs P μ' h' w' v v' :=
 VRs.mono (x.mus r) x.dead x.shape hv
theorem Ext.trans {μ μ' μ'':Mu} {h h' h'':H} {w w' w'':World} (x:Ext μ h w μ' h' w') (y:Ext μ' h' w' μ'' h'' w''):Ext μ h w μ'' h'' w'' where
 next:=Nat.le_trans x.next y.next
 mu b hb:=(y.mu b (Nat.lt_of_lt_of_le hb x.next)).trans (x.mu b hb)
 dead b hb:=y.dead b (x.dead b hb)
 writ b hb hw:=x.writ b hb (y.writ b (Nat.lt_of_lt_of_le hb x.next) hw)
 un b z hn hb hm:=y.un b z (Nat.lt_of_lt_of_le hn x.next) (x.un b z hn hb hm) ((x.mu b hn).trans hm)
 fresh b g δ hb hm:=by
  by_cases hn:h'.next≤b
  ·rcases y.fresh b g δ hn hm with h1|⟨b0,δ0,h1,h2⟩
   ·exact .inl (Nat.le_trans x.size h1)
   ·by_cases h3:b0<h.next
    ·exact .inr ⟨b0,δ0,(x.mu _ h3) ▸ h1,x.writ _ h3 h2⟩
    ·exact x.fresh b0 g δ0 (Nat.not_lt.1 h3) h1
  ·rw [y.mu b (Nat.not_le.1 hn)] at hm;exact x.fresh b g δ hb hm
 old g hg hn:=by
  have h1:=x.old g hg hn;rw [← h1];refine y.old g (Nat.lt_of_lt_of_le hg x.size) fun b δ hb hw=>?_;by_cases h3:b<h.next
  ·exact hn b δ ((x.mu _ h3) ▸ hb) (x.writ _ h3 hw)
  ·rcases x.fresh b g δ (Nat.not_lt.1 h3) hb with h4|⟨b0,δ0,h4,h5⟩
   ·omega
   ·exact hn b0 δ0 h4 h5
 shape g s hs:=y.shape g s (x.shape g s hs)
 size:=Nat.le_trans x.size y.size
 os:=y.os.trans x.os
 output:=y.output.trans x.output
 tape:=y.tape.trans x.tape
end Go.NN

namespace Go.NN
theorem Al8 (b o n:Nat):Addr.add ⟨b,o,none⟩ n=⟨b,o+n,none⟩:=by
 unfold Addr.add;split
 ·subst_vars;rfl
 ·rfl
section inv
variable {α:Type} {r:α}
theorem Ig1 {kk v} {k:Int→Option α} (h:aInt kk v k=some r):∃ n,v=.int kk n∧k n=some r:=by
 unfold aInt at h
 split at h
 ·rename_i k2 n
  split at h
  ·rename_i hk;exact ⟨n,by rw [of_decide_eq_true hk],h⟩
  ·cases h
 ·cases h
theorem An5 {v} {k:Bool→Option α} (h:aBool v k=some r):∃ b,v=.bool b∧k b=some r:=by
 unfold aBool at h;split at h
 ·exact ⟨_,rfl,h⟩
 ·cases h
theorem H74 {v} {k:ByteArray→Option α} (h:aStr v k=some r):∃ s,v=.string s∧k s=some r:=by
 unfold aStr at h;split at h
 ·exact ⟨_,rfl,h⟩
 ·cases h
theorem Id0 {v} {k:Option Addr→Option α} (h:aPtr v k=some r):∃ p,v=.pointer p∧k p=some r:=by
 unfold aPtr at h;split at h
 ·exact ⟨_,rfl,h⟩
 ·cases h
theorem A01 {p} {k:Addr→Option α} (h:aSome p k=some r):∃ a,p=some a∧k a=some r:=by
 unfold aSome at h;split at h
 ·exact ⟨_,rfl,h⟩
 ·cases h
theorem Ea3 {v} {k:Option Addr→Nat→Nat→Option α} (h:aSl v k=some r):∃ a n c,v=.slice a n c∧k a n c=some r:=by
 unfold aSl at h;split at h
 ·exact ⟨_,_,_,rfl,h⟩
 ·cases h
theorem H73 {v} {k:Option Nat→Option α} (h:aMap v k=some r):∃ p,v=.map p∧k p=some r:=by
 unfold aMap at h;split at h
 ·exact ⟨_,rfl,h⟩
 ·cases h
theorem Bt9 {v} {k:List Value→Option α} (h:aAgg v k=some r):∃ cs,v=.agg ⟨cs⟩∧k cs=some r:=by
 unfold aAgg at h;split at h
 ·exact ⟨_,rfl,h⟩
 ·cases h
theorem Is7 {v} {k:FuncId→List Value→List Value→Option α} (h:aFn v k=some r):∃ f a c,v=.func (.func f) ⟨a⟩ ⟨c⟩∧k f a c=some r:=by
 unfold aFn at h;split at h
 ·exact ⟨_,_,_,rfl,h⟩
 ·cases h
theorem It8 {v} {k:Value→Option α} (h:aFv v k=some r):((∃ f a c,v=.func f a c)∨v=.nilFunc)∧k v=some r:=by
 unfold aFv at h;split at h
 ·exact ⟨.inl ⟨_,_,_,rfl⟩,h⟩
 ·exact ⟨.inr rfl,h⟩
 ·cases h
theorem Gq8 {v} {k:Option α} (h:one v k=some r):v.oneCell=true∧k=some r:=by
 unfold one at h;split at h
 ·rename_i hv;exact ⟨hv,h⟩
 ·cases h
theorem Aj6 {c:Prop} [Decidable c] {k:Option α} (h:ck c k=some r):c∧k=some r:=by
 unfold ck at h;split at h
 ·exact ⟨‹_›,h⟩
 ·cases h
theorem Bp6 {c:Bool} {k:Option α} (h:ckB c k=some r):c=true∧k=some r:=by
 unfold ckB at h;cases c
 ·cases h
 ·exact ⟨rfl,h⟩
theorem Gs7 {β:Type} {x:Option (β × H)} {k:β→H→Option α} (h:bnd x k=some r):∃ v h1,x=some (v,h1)∧k v h1=some r:=by
 unfold bnd at h;split at h
 ·exact ⟨_,_,rfl,h⟩
 ·cases h
theorem By0 {β:Type} {x:Option β} {k:β→Option α} (h:opt x k=some r):∃ v,x=some v∧k v=some r:=by
 unfold opt at h;split at h
 ·exact ⟨_,rfl,h⟩
 ·cases h
theorem Dy7 {a h} {k:Value→Option α} (hh:ld a h k=some r):∃ v,h.get a=some v∧k v=some r:=by
 unfold ld at hh;split at hh
 ·exact ⟨_,‹_›,hh⟩
 ·cases hh
theorem It2 {cs i} {k:Value→Option α} (hh:nth cs i k=some r):∃ v,cs[i]?=some v∧k v=some r:=by
 unfold nth at hh;split at hh
 ·exact ⟨_,‹_›,hh⟩
 ·cases hh
theorem J70 {a v h} {k:H→Option α} (hh:pV a v h k=some r):∃ h1,h.put a v=some h1∧k h1=some r:=by
 unfold pV at hh;split at hh
 ·exact ⟨_,‹_›,hh⟩
 ·cases hh
theorem H66 {a v h} {k:H→Option α} (hh:pAgg a v h k=some r):∃ h1,h.putAll a v=some h1∧k h1=some r:=by
 unfold pAgg at hh;split at hh
 ·exact ⟨_,‹_›,hh⟩
 ·cases hh
theorem Dr6 {a n h} {k:List Value→Option α} (hh:gAgg a n h k=some r) :
  ∃ c,a.spot=none∧h.cs a.block=some c∧a.off+n≤c.length∧k ((c.drop a.off).take n)=some r:=by
 unfold gAgg at hh;split at hh
 ·rename_i hs
  split at hh
  ·rename_i c hc
   split at hh
   ·exact ⟨c,hs,hc,‹_›,hh⟩
   ·cases hh
  ·cases hh
 ·cases hh
theorem Gm2 {h:H} {b c} (hh:h.cs b=some c):∃ e ro,h.blk b=some (.cells e ro c):=by
 unfold H.cs at hh;split at hh
 ·cases hh;exact ⟨_,_,‹_›⟩
 ·cases hh
theorem It5 {h:H} {a v} (hh:h.get a=some v):∃ e ro c,a.spot=none∧h.blk a.block=some (.cells e ro c)∧c[a.off]?=some v:=by
 unfold H.get at hh;split at hh
 ·rename_i hs
  split at hh
  ·rename_i c hc
   obtain ⟨e,ro,h1⟩:=Gm2 hc;exact ⟨e,ro,c,hs,h1,hh⟩
  ·cases hh
 ·cases hh
theorem J13 {h h1:H} {a v} (hh:h.put a v=some h1):∃ e c,a.spot=none∧h.blk a.block=some (.cells e false c)∧v.oneCell=true∧a.off<c.length ∧
  h1=h.set a.block (.cells e false (c.set a.off v)):=by
 unfold H.put at hh;split at hh
 ·rename_i hs
  split at hh
  ·rename_i e c hc
   split at hh
   ·rename_i hv
    split at hh
    ·exact ⟨e,c,hs,hc,hv,‹_›,by injection hh with hh;exact hh.symm⟩
    ·cases hh
   ·cases hh
  ·cases hh
 ·cases hh
theorem E91 {h h1:H} {a vs} (hh:h.putAll a vs=some h1):∃ e c,a.spot=none∧h.blk a.block=some (.cells e false c)∧vs.all Value.oneCell=true∧a.off+vs.length≤c.length ∧
  h1=h.set a.block (.cells e false (c.take a.off++vs++c.drop (a.off+vs.length))):=by
 unfold H.putAll at hh;split at hh
 ·rename_i hs
  split at hh
  ·rename_i e c hc
   split at hh
   ·rename_i hv
    exact ⟨e,c,hs,hc,hv.2,hv.1,by injection hh with hh;exact hh.symm⟩
   ·cases hh
  ·cases hh
 ·cases hh
end inv
def setRow (w:World) (g:Nat) (c:Array Value) (e:TypeId) (fr:Nat × Nat):World:={ w with heap:=w.heap.setIfInBounds g (.cells c e fr) }
def Da7 (c:Array Value) (off:Nat):List Value→Array Value
 | []=>c
 | v::vs=>Da7 (c.setIfInBounds off v) (off+1) vs
theorem Dw9 (vs:List Value):∀ (c:Array Value) (off:Nat),(Da7 c off vs).size=c.size:=by
 induction vs with
 | nil=>intro c off;rfl
 | cons v vs ih=>intro c off;simp [Da7,ih]
theorem E66 (vs:List Value):∀ (c:Array Value) (off i:Nat),off+vs.length≤c.size →
  (Da7 c off vs)[i]?=if off≤i∧i<off+vs.length then vs[i-off]? else c[i]?:=by
 induction vs with
 | nil=>intro c off i h;simp [Da7];omega
 | cons v vs ih =>
  intro c off i h;simp only [List.length_cons] at h;simp only [Da7];rw [ih _ _ _ (by simp;omega)];simp only [List.length_cons];by_cases h1:off+1≤i∧i<off+1+vs.length
  ·rw [if_pos h1,if_pos (by omega)];obtain ⟨j,rfl⟩:∃ j,i=off+1+j:=⟨i-(off+1),by omega⟩
   rw [show off+1+j-off=j+1 by omega,show off+1+j-(off+1)=j by omega];simp
  ·rw [if_neg h1];by_cases h2:i=off
   ·subst h2;rw [if_pos (by omega)];simp [Array.getElem?_setIfInBounds];omega
   ·rw [if_neg (by omega)];rw [Array.getElem?_setIfInBounds,if_neg (by omega)]
theorem Gc0 {P:Program} {w:World} {g o:Nat} {c:Array Value} {e:TypeId} {fr:Nat × Nat} (v:Value) (hg:w.heap[g]?=some (.cells c e fr)) (ho:o<c.size)
  (hf:¬ (fr.1≤o∧o<fr.2)) (hv:v.oneCell=true):(store ⟨g,o,none⟩ v).run P w=.ok () (setRow w g (c.setIfInBounds o v) e fr):=by
 have h1:w.cell? ⟨g,o,none⟩=some c[o]:=by simp [World.cell?,hg,ho]
 have h2:w.frozen? ⟨g,o,none⟩=false:=by
  simp [World.frozen?,hg];intro h;have:=hf;omega
 rw [run_store P w _ v _ (by cases v<;>simp_all [Value.oneCell,Value.oneCell'])];simp only [h1,h2]
 have h3:w.setCell ⟨g,o,none⟩ v=setRow w g (c.setIfInBounds o v) e fr:=by
  obtain ⟨hlt,hge⟩:=Array.getElem?_eq_some_iff.1 hg;unfold World.setCell setRow
  congr 1
  apply Array.ext_getElem?;intro i;rw [Array.getElem?_modify,Array.getElem?_setIfInBounds];by_cases hi:g=i
  ·subst hi;simp [hlt,hge]
  ·simp [hi]
 simp [h3]
theorem D94 {w:World} {g:Nat} {c c':Array Value} {e e':TypeId} {fr fr':Nat × Nat} (hg:w.heap[g]?=some (.cells c e fr)) :
  (setRow w g c' e' fr').heap[g]?=some (.cells c' e' fr'):=by
 obtain ⟨hlt,_⟩:=Array.getElem?_eq_some_iff.1 hg;simp [setRow,hlt]
theorem A18 {w:World} {g g':Nat} {c':Array Value} {e':TypeId} {fr':Nat × Nat} (hg:g'≠g) :
  (setRow w g c' e' fr').heap[g']?=w.heap[g']?:=by
 simp [setRow,Ne.symm hg]
theorem Hw3 (w:World) (g:Nat) (c c':Array Value) (e e':TypeId) (fr fr':Nat × Nat):setRow (setRow w g c e fr) g c' e' fr'=setRow w g c' e' fr':=by
 simp [setRow]
theorem Il2 {w:World} {g:Nat} {c:Array Value} {e:TypeId} {fr:Nat × Nat} (hg:w.heap[g]?=some (.cells c e fr)):setRow w g c e fr=w:=by
 obtain ⟨hlt,hge⟩:=Array.getElem?_eq_some_iff.1 hg;unfold setRow
 have:w.heap.setIfInBounds g (.cells c e fr)=w.heap:=by
  apply Array.ext_getElem?;intro i;rw [Array.getElem?_setIfInBounds];by_cases hi:g=i
  ·subst hi;simp [hlt,hge]
  ·simp [hi]
 rw [this]
theorem Gm3 {w:World} {g:Nat} {c c':Array Value} {e:TypeId} {fr fr':Nat × Nat} (hg:w.heap[g]?=some (.cells c e fr)) (hs:c'.size=c.size) (g':Nat) :
  (setRow w g c' e fr').shape? g'=w.shape? g':=by
 unfold World.shape?;by_cases h:g'=g
 ·subst h;rw [D94 hg,hg];simp [hs]
 ·rw [A18 h]
theorem Ez1 {P:Program} {g:Nat} {e:TypeId} {fr:Nat × Nat} (vs:List Value):∀ {w:World} {c:Array Value} (o i:Nat),w.heap[g]?=some (.cells c e fr)→o+i+vs.length≤c.size →
  (∀ j,j<c.size→¬ (fr.1≤j∧j<fr.2))→vs.all Value.oneCell=true →
  (storeCells ⟨g,o,none⟩ vs i).run P w=.ok () (setRow w g (Da7 c (o+i) vs) e fr):=by
 induction vs with
 | nil=>intro w c o i hg _ _ _;simp [storeCells,Da7,Il2 hg]
 | cons v vs ih =>
  intro w c o i hg hl hf hv;simp only [List.all_cons,Bool.and_eq_true,List.length_cons] at hv hl;simp only [storeCells,Sem.run_bind,Al8];rw [Gc0 v hg (by omega) (hf _ (by omega)) hv.1];simp only [Result.andThen_ok];rw [ih o (i+1) (D94 hg) (by simp;omega) (by simpa using hf) hv.2];simp only [Hw3,Da7];rw [show o+i+1=o+(i+1) by omega]
theorem Ib6 {w:World} {g o:Nat} {c:Array Value} {e:TypeId} {fr:Nat × Nat} (hg:w.heap[g]?=some (.cells c e fr)):w.cell? ⟨g,o,none⟩=c[o]?:=by
 simp [World.cell?,hg]
section rel
variable {P:Program} {μ:Mu} {h:H} {w:World}
theorem VR.addr {a:Addr} {v':Value} (hv:VR P μ h w (.pointer (some a)) v') (hl:∃ x,h.blk a.block=some x∧x≠.dead) (hs:a.spot=none) :
  ∃ g δ,μ a.block=some (g,δ)∧v'=.pointer (some ⟨g,δ+a.off,none⟩):=by
 cases hv with
 | ptr b o g δ hm=>exact ⟨g,δ,hm,rfl⟩
 | ptrDead b o f a' hd=>obtain ⟨x,h1,h2⟩:=hl;rw [hd] at h1;cases h1;exact absurd rfl h2
theorem Rel.row (r:Rel P μ h w) {b g δ:Nat} {e ro c} (hm:μ b=some (g,δ)) (hb:h.blk b=some (.cells e ro c)) :
  ∃ c' fr,Dl1 w g c' e fr ro∧δ+c.length≤c'.size∧(∀ (i:Nat) (v:Value),c[i]?=some v→∃ v':Value,c'[δ+i]?=some v'∧VR P μ h w v v')∧(ro=false→∀ i,i<c'.size→¬ (fr.1≤i∧i<fr.2)) :=
 r.cells b g δ e ro c hm hb
theorem Rel.load (r:Rel P μ h w) {a:Addr} {v v':Value} (ha:VR P μ h w (.pointer (some a)) v') (hg:h.get a=some v) :
  ∃ a' u,v'=.pointer (some a')∧(load a').run P w=.ok u w∧VR P μ h w v u:=by
 obtain ⟨e,ro,c,hs,hb,hc⟩:=It5 hg;obtain ⟨g,δ,hm,rfl⟩:=ha.addr ⟨_,hb,by simp⟩ hs;obtain ⟨c',fr,⟨e2,_,h1⟩,h2,h3,_⟩:=r.row hm hb;obtain ⟨u,h4,h5⟩:=h3 _ _ hc;exact ⟨_,u,rfl,by simp [Ib6 h1,h4],h5⟩
theorem Rel.loads (r:Rel P μ h w) {b g δ o n:Nat} {c:List Value} (hm:μ b=some (g,δ)) (hb:h.cs b=some c) (hn:o+n≤c.length) :
  ∃ us,(∀ w',w'.heap=w.heap→(loadCells ⟨g,δ+o,none⟩ n).run P w'=.ok ⟨us⟩ w')∧VRs P μ h w ((c.drop o).take n) us:=by
 obtain ⟨e,ro,hb⟩:=Gm2 hb;obtain ⟨c',fr,⟨e2,_,h1⟩,h2,h3,_⟩:=r.row hm hb;refine ⟨(c'.toList.drop (δ+o)).take n,?_,?_⟩
 ·intro w' hw';have hlen:((c'.toList.drop (δ+o)).take n).length=n:=by simp;omega
  have h5:=run_loadCells_list (P:=P) w' ⟨g,δ+o,none⟩ ((c'.toList.drop (δ+o)).take n) (fun j v hj=>by
   rw [Al8,Ib6 (hw' ▸ h1)];have hj':j<n:=by have:=(List.getElem?_eq_some_iff.1 hj).1;omega
   rw [List.getElem?_take_of_lt hj',List.getElem?_drop] at hj;simpa using hj)
  rw [hlen] at h5;exact h5
 ·refine VRs.of_get (by simp;omega) fun i v hi=>?_;have hi':i<n:=by have:=(List.getElem?_eq_some_iff.1 hi).1;simp at this;omega
  rw [List.getElem?_take_of_lt hi',List.getElem?_drop] at hi;obtain ⟨v',h4,h5⟩:=h3 _ _ hi;refine ⟨v',?_,h5⟩;rw [List.getElem?_take_of_lt hi',List.getElem?_drop];rw [show δ+o+i=δ+(o+i) by omega];simpa using h4
theorem E04 {i b:Nat} (hi:i≠b):Nat.beq i b=false:=by
 cases hh:Nat.beq i b
 ·rfl
 ·exact absurd (Nat.eq_of_beq_eq_true hh) hi
theorem Aj0 (h:H) (b:Nat) (x:Blk) (i:Nat):(h.set b x).blk i=if i=b then some x else h.blk i:=by
 unfold H.set;dsimp only;by_cases hi:i=b
 ·subst hi;simp
 ·simp [E04 hi,hi]
theorem S7 (h:H) (x:Blk) (i:Nat):(h.push x).blk i=if i=h.next then some x else h.blk i:=by
 unfold H.push;dsimp only;by_cases hi:i=h.next
 ·subst hi;simp
 ·simp [E04 hi,hi]
theorem Rel.setRow (r:Rel P μ h w) {b g δ:Nat} {e c c2} {c' c2':Array Value} {fr} (hm:μ b=some (g,δ)) (hb:h.blk b=some (.cells e false c))
  (hg:w.heap[g]?=some (.cells c' e fr)) (hl:c2.length=c.length) (hl':c2'.size=c'.size)
  (hv:∀ (i:Nat) (v:Value),c2[i]?=some v→∃ v':Value,c2'[δ+i]?=some v'∧VR P μ h w v v') :
  Rel P μ (h.set b (.cells e false c2)) (setRow w g c2' e fr)∧Ext μ h w μ (h.set b (.cells e false c2)) (setRow w g c2' e fr):=by
 obtain ⟨c0,fr0,h1,h2,h3,h4⟩:=r.row hm hb;replace h1:=h1.own;rw [hg] at h1;injection h1 with h1;injection h1 with h1 _ h1';subst h1;subst h1'
 have hlt:g<w.heap.size:=(Array.getElem?_eq_some_iff.1 hg).1
 have hd:∀ i,(h.set b (.cells e false c2)).blk i=some .dead↔h.blk i=some .dead:=by
  intro i;rw [Aj0];split
  ·subst_vars;rw [hb];simp
  ·rfl
 have hsh:∀ g' s,w.shape? g'=some s→(NN.setRow w g c2' e fr).shape? g'=some s:=fun g' s hs=>by rw [Gm3 hg hl'];exact hs
 have hvr:∀ {v v'},VR P μ h w v v'→VR P μ (h.set b (.cells e false c2)) (NN.setRow w g c2' e fr) v v':=VR.mono (fun _ _ x=>x) (fun i x=>(hd i).2 x) hsh
 have hwr:∀ i,(h.set b (.cells e false c2)).writable i↔h.writable i:=by
  intro i;unfold H.writable;rw [Aj0];by_cases hi:i=b
  ·subst hi;rw [if_pos rfl,hb]
  ·rw [if_neg hi]
 have hw:h.writable b:=by unfold H.writable;rw [hb]
 refine ⟨⟨fun g hg=>(r.glob g hg).imp id fun x=>(hd g).2 x,?_,r.dom,?_,?_,?_,?_⟩,⟨Nat.le_refl _,fun _ _=>rfl,fun i x=>(hd i).2 x,fun i _ x=>(hwr i).1 x,?_,?_,?_,hsh,?_,rfl,rfl,rfl⟩⟩
 ·intro i hi;rw [Aj0,if_neg]
  ·exact r.wf i hi
  ·intro e;subst e;rw [r.wf i hi] at hb;cases hb
 ·intro i g' δ' hi;simp only [NN.setRow,Array.size_setIfInBounds];exact r.bound i g' δ' hi
 ·intro i g' δ' e' ro' c3 hi hi';rw [Aj0] at hi'
  split at hi'
  ·subst_vars
   rw [hm] at hi;cases hi
   cases hi'
   refine ⟨c2',fr,.of (D94 hg),by omega,fun j v hj=>?_,fun _=>by rw [hl'];exact h4 rfl⟩;obtain ⟨v',h5,h6⟩:=hv j v hj;exact ⟨v',h5,hvr h6⟩
  ·rename_i hne
   obtain ⟨c3',fr',h5,h6,h7,h8⟩:=r.cells i g' δ' e' ro' c3 hi hi';have hgg:g'≠g:=fun hh=>by subst hh;exact hne (r.inj b i g' δ δ' hm hi hw ⟨_,hi',by simp⟩).symm
   exact ⟨c3',fr',h5.to (A18 hgg),h6,fun j v hj=>let ⟨v',a,b⟩:=h7 j v hj;⟨v',a,hvr b⟩,h8⟩
 ·intro i g' δ' es cl hi hi';rw [Aj0] at hi'
  split at hi'
  ·cases hi'
  ·rename_i hne
   obtain ⟨h5,es',h6,h7,h8⟩:=r.maps i g' δ' es cl hi hi';have hgg:g'≠g:=fun hh=>by subst hh;exact hne (r.inj b i g' δ δ' hm hi hw ⟨_,hi',by simp⟩).symm
   exact ⟨h5,es',by rw [A18 hgg];exact h6,h7,fun j en hj=>let ⟨e',a,b,c,d⟩:=h8 j en hj;⟨e',a,b,c,hvr d⟩⟩
 ·intro i i' g' δ1 δ2 hi hi' hwi hli;refine r.inj i i' g' δ1 δ2 hi hi' ((hwr i).1 hwi) ?_;obtain ⟨x,hx,hx'⟩:=hli;rw [Aj0] at hx
  split at hx
  ·subst_vars;exact ⟨_,hb,by simp⟩
  ·exact ⟨x,hx,hx'⟩
 ·intro i x _ hi hn;rw [Aj0,if_neg]
  ·exact hi
  ·intro hh;subst hh;rw [hm] at hn;cases hn
 ·intro i g' δ' hi hh;exact absurd (r.dom _ _ hh) (Nat.not_lt.2 hi)
 ·intro g' hg' hn;refine A18 fun hh=>?_;subst hh;exact hn b δ hm hw
 ·simp [NN.setRow]
theorem Rel.store (r:Rel P μ h w) {a:Addr} {v p' v':Value} {h1:H} (ha:VR P μ h w (.pointer (some a)) p') (hp:h.put a v=some h1) (hv:VR P μ h w v v') :
  ∃ a' w1,p'=.pointer (some a')∧v'.oneCell=true∧(store a' v').run P w=.ok () w1∧Rel P μ h1 w1∧Ext μ h w μ h1 w1:=by
 obtain ⟨e,c,hs,hb,hone,ho,rfl⟩:=J13 hp;obtain ⟨g,δ,hm,rfl⟩:=ha.addr ⟨_,hb,by simp⟩ hs;obtain ⟨c',fr,h1,h2,h3,h4⟩:=r.row hm hb;replace h1:=h1.own;have hone':v'.oneCell=true:=by cases hv<;>first|rfl|(simp [Value.oneCell] at hone)
 have hres:=r.setRow (c2:=c.set a.off v) (c2':=c'.setIfInBounds (δ+a.off) v') hm hb h1 (by simp) (by simp) (by
  intro i x hx;rw [List.getElem?_set] at hx;rw [Array.getElem?_setIfInBounds];by_cases hi:a.off=i
  ·subst hi;rw [if_pos rfl,if_pos ho] at hx;cases hx
   rw [if_pos rfl,if_pos (by omega)];exact ⟨v',rfl,hv⟩
  ·rw [if_neg hi] at hx;rw [if_neg (by omega)];exact h3 i x hx)
 exact ⟨_,_,rfl,hone',Gc0 v' h1 (by omega) (h4 rfl _ (by omega)) hone',hres.1,hres.2⟩
theorem VRs.oneCells {l l':List Value} (hl:VRs P μ h w l l') (h1:l.all Value.oneCell=true):l'.all Value.oneCell=true:=by
 induction l generalizing l' with
 | nil=>cases hl;rfl
 | cons v l ih=>cases hl with
  | cons _ v' _ l' hv hl =>
   simp only [List.all_cons,Bool.and_eq_true] at h1 ⊢;refine ⟨?_,ih hl h1.2⟩;have hone:=h1.1
   cases hv<;>first|rfl|(simp [Value.oneCell] at hone)
theorem Rel.stores (r:Rel P μ h w) {b o g δ:Nat} {vs vs':List Value} {h1:H} (hm:μ b=some (g,δ)) (hp:h.putAll ⟨b,o,none⟩ vs=some h1) (hv:VRs P μ h w vs vs') :
  ∃ w1,(storeCells ⟨g,δ+o,none⟩ vs').run P w=.ok () w1∧Rel P μ h1 w1∧Ext μ h w μ h1 w1:=by
 obtain ⟨e,c,hs,hb,hone,ho,rfl⟩:=E91 hp;obtain ⟨c',fr,h1,h2,h3,h4⟩:=r.row hm hb;replace h1:=h1.own;dsimp only at ho hb h1 h2 h3 h4 ⊢;have hlen:=hv.length
 have hres:=r.setRow (c2:=c.take o++vs++c.drop (o+vs.length)) (c2':=Da7 c' (δ+o) vs') hm hb h1 (by simp;omega) (Dw9 _ _ _) (by
  intro i x hx;rw [E66 _ _ _ _ (by omega),hlen];by_cases hi:i<o
  ·rw [if_neg (by omega)];rw [List.append_assoc,List.getElem?_append_left (by simp;omega),List.getElem?_take_of_lt hi] at hx;exact h3 i x hx
  ·by_cases hi2:i<o+vs.length
   ·rw [if_pos (by omega)];rw [List.append_assoc,List.getElem?_append_right (by simp;omega),List.getElem?_append_left (by simp;omega)] at hx;simp only [List.length_take] at hx;rw [Nat.min_eq_left (by omega)] at hx;rw [show δ+i-(δ+o)=i-o by omega];exact hv.get hx
   ·rw [if_neg (by omega)];rw [List.getElem?_append_right (by simp;omega),List.getElem?_drop] at hx;simp only [List.length_append,List.length_take] at hx;rw [Nat.min_eq_left (by omega),show o+vs.length+(i-(o+vs.length))=i by omega] at hx;exact h3 i x hx)
 refine ⟨_,?_,hres.1,hres.2⟩;have:=Ez1 (P:=P) vs' (δ+o) 0 h1 (by omega) (h4 rfl) (hv.oneCells hone);simpa using this
def upd (μ:Mu) (b:Nat) (x:Nat × Nat):Mu:=fun i=>if i=b then some x else μ i
theorem A06 (w:World) (o:Obj) (g:Nat):(w.alloc o).heap[g]?=if g=w.heap.size then some o else w.heap[g]?:=by
 simp only [World.alloc,Array.getElem?_push]
theorem A74 {w:World} {o:Obj} {g:Nat} (hg:g<w.heap.size):(w.alloc o).heap[g]?=w.heap[g]?:=by
 rw [A06,if_neg (by omega)]
theorem Rel.push (r:Rel P μ h w) {x:Blk} {o:Obj} (hx:x≠.dead)
  (hcells:∀ e ro c,x=.cells e ro c→∃ c' fr,o=.cells c' e fr∧(∀ i,i<c'.size→¬ (fr.1≤i∧i<fr.2))∧c.length≤c'.size∧∀ (i:Nat) (v:Value),c[i]?=some v→∃ v':Value,c'[i]?=some v'∧VR P μ h w v v')
  (hmap:∀ es cl,x=.map es cl→es=[]∧o=.map #[] cl) :
  Rel P (upd μ h.next (w.heap.size,0)) (h.push x) (w.alloc o)∧Ext μ h w (upd μ h.next (w.heap.size,0)) (h.push x) (w.alloc o):=by
 have hm:∀ b y,μ b=some y→upd μ h.next (w.heap.size,0) b=some y:=fun b y hb=>by
  unfold upd;rw [if_neg]
  ·exact hb
  ·have:=r.dom b y hb;omega
 have hd:∀ i,h.blk i=some .dead→(h.push x).blk i=some .dead:=fun i hi=>by
  rw [S7,if_neg]
  ·exact hi
  ·intro hh;subst hh;rw [r.wf _ (Nat.le_refl _)] at hi;cases hi
 have hsh:∀ g s,w.shape? g=some s→(w.alloc o).shape? g=some s:=fun g s hs=>by
  unfold World.shape? at hs ⊢;rw [A74]
  ·exact hs
  ·rcases Nat.lt_or_ge g w.heap.size with h1|h1
   ·exact h1
   ·rw [Array.getElem?_eq_none h1] at hs;cases hs
 have hvr:∀ {v v'},VR P μ h w v v'→VR P (upd μ h.next (w.heap.size,0)) (h.push x) (w.alloc o) v v':=VR.mono hm hd hsh;have hpu:∀ i,i<h.next→(h.push x).blk i=h.blk i:=fun i hi=>by rw [S7,if_neg (by omega)]
 have hmu:∀ i y,upd μ h.next (w.heap.size,0) i=some y→(i=h.next∧y=(w.heap.size,0))∨(i<h.next∧μ i=some y):=fun i y hi=>by
  unfold upd at hi;split at hi
  ·cases hi;exact .inl ⟨‹_›,rfl⟩
  ·exact .inr ⟨r.dom _ _ hi,hi⟩
 have hnx:(h.push x).next=h.next+1:=rfl;refine ⟨⟨fun g hg=>(r.glob g hg).imp (fun x=>hm _ _ x) (fun x=>hd g x),?_,?_,?_,?_,?_,?_⟩,⟨by omega,?_,hd,?_,?_,?_,?_,hsh,?_,rfl,rfl,rfl⟩⟩
 ·intro b hb;rw [hnx] at hb;rw [S7,if_neg (by omega)];exact r.wf b (by omega)
 ·intro b y hb;rw [hnx];rcases hmu b y hb with ⟨h1,_⟩|⟨h1,_⟩<;>omega
 ·intro b g δ hb;rw [World.size_alloc];rcases hmu b _ hb with ⟨_,h1⟩|⟨_,h1⟩
  ·cases h1;omega
  ·have:=r.bound b g δ h1;omega
 ·intro b g δ e ro c hb hc;rcases hmu b _ hb with ⟨h1,h2⟩|⟨h1,h2⟩
  ·subst h1;cases h2
   rw [S7,if_pos rfl] at hc;cases hc
   obtain ⟨c',fr,rfl,h0,h3,h4⟩:=hcells e ro c rfl;refine ⟨c',fr,.of (by rw [A06,if_pos rfl]),by omega,fun i v hi=>?_,fun _=>h0⟩;obtain ⟨v',h5,h6⟩:=h4 i v hi;exact ⟨v',by simpa using h5,hvr h6⟩
  ·rw [hpu b h1] at hc;obtain ⟨c',fr,h3,h4,h5,h6⟩:=r.cells b g δ e ro c h2 hc;exact ⟨c',fr,h3.to (A74 (r.bound _ _ _ h2)),h4,fun i v hi=>let ⟨v',a,b⟩:=h5 i v hi;⟨v',a,hvr b⟩,h6⟩
 ·intro b g δ es cl hb hc;rcases hmu b _ hb with ⟨h1,h2⟩|⟨h1,h2⟩
  ·subst h1;cases h2
   rw [S7,if_pos rfl] at hc;cases hc
   obtain ⟨rfl,rfl⟩:=hmap es cl rfl;exact ⟨rfl,[],by rw [A06,if_pos rfl],rfl,fun i e hi=>by simp at hi⟩
  ·rw [hpu b h1] at hc;obtain ⟨h3,es',h4,h5,h6⟩:=r.maps b g δ es cl h2 hc;exact ⟨h3,es',by rw [A74 (r.bound _ _ _ h2)];exact h4,h5,fun j en hj=>let ⟨e',a,b,c,d⟩:=h6 j en hj;⟨e',a,b,c,hvr d⟩⟩
 ·intro b b' g δ δ' hb hb' hw hl;rcases hmu b _ hb with ⟨h1,h2⟩|⟨h1,h2⟩<;>rcases hmu b' _ hb' with ⟨h3,h4⟩|⟨h3,h4⟩
  ·omega
  ·cases h2;have:=r.bound _ _ _ h4;omega
  ·cases h4;have:=r.bound _ _ _ h2;omega
  ·refine r.inj b b' g δ δ' h2 h4 ?_ ?_
   ·unfold H.writable at hw ⊢;rw [hpu b h1] at hw;exact hw
   ·rw [hpu b' h3] at hl;exact hl
 ·intro b hb;unfold upd;rw [if_neg (by omega)]
 ·intro b hb hw;unfold H.writable at hw ⊢;rw [hpu b hb] at hw;exact hw
 ·intro b y hb hc _;rw [hpu b hb];exact hc
 ·intro b g δ hb hm';rcases hmu b _ hm' with ⟨_,h1⟩|⟨h1,_⟩
  ·cases h1;exact .inl (Nat.le_refl _)
  ·omega
 ·intro g hg _;exact A74 hg
 ·simp
theorem Rel.allocCells (r:Rel P μ h w) {e:TypeId} {c c':List Value} (hc:VRs P μ h w c c') :
  Rel P (upd μ h.next (w.heap.size,0)) (h.push (.cells e false c)) (w.alloc (.cells ⟨c'⟩ e)) ∧
  Ext μ h w (upd μ h.next (w.heap.size,0)) (h.push (.cells e false c)) (w.alloc (.cells ⟨c'⟩ e)) :=
 r.push (by simp) (fun e' ro c1 hh=>by
  cases hh
  exact ⟨⟨c'⟩,(0,0),rfl,by simp,by simp [hc.length],fun i v hi=>let ⟨v',a,b⟩:=hc.get hi;⟨v',by simpa using a,b⟩⟩) (fun es cl hh=>by cases hh)
theorem Rel.setMap (r:Rel P μ h w) {b g:Nat} {es es2 es2':List MapEntry} {cl cl2:Nat} (hm:μ b=some (g,0)) (hb:h.blk b=some (.map es cl)) (hv:Di6 P μ h w es2 es2') :
  Rel P μ (h.set b (.map es2 cl2)) { w with heap:=w.heap.setIfInBounds g (.map ⟨es2'⟩ cl2) }∧Ext μ h w μ (h.set b (.map es2 cl2)) { w with heap:=w.heap.setIfInBounds g (.map ⟨es2'⟩ cl2) }:=by
 obtain ⟨_,es',h1,_⟩:=r.maps b g 0 es cl hm hb;have hlt:g<w.heap.size:=r.bound _ _ _ hm
 have hget:∀ g',(w.heap.setIfInBounds g (.map ⟨es2'⟩ cl2))[g']?=if g'=g then some (.map ⟨es2'⟩ cl2) else w.heap[g']?:=fun g'=>by
  rw [Array.getElem?_setIfInBounds];by_cases hh:g=g'
  ·subst hh;simp [hlt]
  ·simp [hh,Ne.symm hh]
 have hd:∀ i,(h.set b (.map es2 cl2)).blk i=some .dead↔h.blk i=some .dead:=by
  intro i;rw [Aj0];split
  ·subst_vars;rw [hb];simp
  ·rfl
 have hsh:∀ g' s,w.shape? g'=some s→World.shape? { w with heap:=w.heap.setIfInBounds g (.map ⟨es2'⟩ cl2) } g'=some s:=fun g' s hs=>by
  unfold World.shape? at hs ⊢;dsimp only;rw [hget];by_cases hh:g'=g
  ·subst hh;rw [h1] at hs;cases hs
  ·rw [if_neg hh];exact hs
 have hvr:∀ {v v'},VR P μ h w v v'→VR P μ (h.set b (.map es2 cl2)) { w with heap:=w.heap.setIfInBounds g (.map ⟨es2'⟩ cl2) } v v':=VR.mono (fun _ _ x=>x) (fun i x=>(hd i).2 x) hsh
 have hwr:∀ i,(h.set b (.map es2 cl2)).writable i↔h.writable i:=by
  intro i;unfold H.writable;rw [Aj0];by_cases hi:i=b
  ·subst hi;rw [if_pos rfl,hb]
  ·rw [if_neg hi]
 have hw:h.writable b:=by unfold H.writable;rw [hb];trivial
 refine ⟨⟨fun g hg=>(r.glob g hg).imp id fun x=>(hd g).2 x,?_,r.dom,?_,?_,?_,?_⟩,⟨Nat.le_refl _,fun _ _=>rfl,fun i x=>(hd i).2 x,fun i _ x=>(hwr i).1 x,?_,?_,?_,hsh,?_,rfl,rfl,rfl⟩⟩
 ·intro i hi;rw [Aj0,if_neg]
  ·exact r.wf i hi
  ·intro e;subst e;rw [r.wf i hi] at hb;cases hb
 ·intro i g' δ' hi;simp only [Array.size_setIfInBounds];exact r.bound i g' δ' hi
 ·intro i g' δ' e' ro' c3 hi hi';rw [Aj0] at hi'
  split at hi'
  ·cases hi'
  ·rename_i hne
   obtain ⟨c3',fr',h5,h6,h7,h8⟩:=r.cells i g' δ' e' ro' c3 hi hi';have hgg:g'≠g:=fun hh=>by subst hh;exact hne (r.inj b i g' 0 δ' hm hi hw ⟨_,hi',by simp⟩).symm
   exact ⟨c3',fr',h5.to (by dsimp only;rw [hget,if_neg hgg]),h6,fun j v hj=>let ⟨v',a,b⟩:=h7 j v hj;⟨v',a,hvr b⟩,h8⟩
 ·intro i g' δ' es3 cl3 hi hi';rw [Aj0] at hi'
  split at hi'
  ·subst_vars
   rw [hm] at hi;cases hi
   cases hi'
   exact ⟨rfl,es2',by dsimp only;rw [hget,if_pos rfl],hv.1,fun j en hj=>let ⟨e',a,b,c,d⟩:=hv.2 j en hj;⟨e',a,b,c,hvr d⟩⟩
  ·rename_i hne
   obtain ⟨h5,es',h6,h7,h8⟩:=r.maps i g' δ' es3 cl3 hi hi';have hgg:g'≠g:=fun hh=>by subst hh;exact hne (r.inj b i g' 0 δ' hm hi hw ⟨_,hi',by simp⟩).symm
   exact ⟨h5,es',by dsimp only;rw [hget,if_neg hgg];exact h6,h7,fun j en hj=>let ⟨e',a,b,c,d⟩:=h8 j en hj;⟨e',a,b,c,hvr d⟩⟩
 ·intro i i' g' δ1 δ2 hi hi' hwi hli;refine r.inj i i' g' δ1 δ2 hi hi' ((hwr i).1 hwi) ?_;obtain ⟨x,hx,hx'⟩:=hli;rw [Aj0] at hx
  split at hx
  ·subst_vars;exact ⟨_,hb,by simp⟩
  ·exact ⟨x,hx,hx'⟩
 ·intro i x _ hi hn;rw [Aj0,if_neg]
  ·exact hi
  ·intro hh;subst hh;rw [hm] at hn;cases hn
 ·intro i g' δ' hi hh;exact absurd (r.dom _ _ hh) (Nat.not_lt.2 hi)
 ·intro g' hg' hn;dsimp only;rw [hget,if_neg];intro hh;subst hh;exact hn b 0 hm hw
 ·simp
theorem VR.drew {v v':Value} (hv:VR P μ h w v v'):VR P μ h w.drew v v':=VR.mono (w:=w) (w':=w.drew) (fun _ _ x=>x) (fun _ x=>x) (fun _ _ x=>x) hv
theorem VRs.drew {v v':List Value} (hv:VRs P μ h w v v'):VRs P μ h w.drew v v':=VRs.mono (w:=w) (w':=w.drew) (fun _ _ x=>x) (fun _ x=>x) (fun _ _ x=>x) hv
theorem Rel.drew (r:Rel P μ h w):Rel P μ h w.drew where
 glob:=r.glob
 wf:=r.wf
 dom:=r.dom
 bound:=r.bound
 cells b g δ e ro c hm hb:=let ⟨c',fr,h1,h2,h3,h4⟩:=r.cells b g δ e ro c hm hb;⟨c',fr,h1.to rfl,h2,fun i v hi=>let ⟨v',a,b⟩:=h3 i v hi;⟨v',a,b.drew⟩,h4⟩
 maps b g δ es cl hm hb:=let ⟨h1,es',h2,h3,h4⟩:=r.maps b g δ es cl hm hb;⟨h1,es',h2,h3,fun i e hi=>let ⟨e',a,b,c,d⟩:=h4 i e hi;⟨e',a,b,c,d.drew⟩⟩
 inj:=r.inj
theorem Rel.extDrew (r:Rel P μ h w):Ext μ h w μ h w.drew where
 next:=Nat.le_refl _
 mu _ _:=rfl
 dead _ x:=x
 writ _ _ x:=x
 un _ _ _ x _:=x
 fresh b g δ hb hm:=absurd (r.dom _ _ hm) (Nat.not_lt.2 hb)
 old _ _ _:=rfl
 shape _ _ x:=x
 size:=Nat.le_refl _
 os:=rfl
 output:=rfl
 tape:=rfl
end rel
end Go.NN

namespace Go.NN
section
variable {α β:Type} (j:α→Option β)
theorem Hu3 (kk v) (k:Int→Option α):(aInt kk v k).bind j=aInt kk v fun n=>(k n).bind j:=by unfold aInt;split<;>(try split)<;>rfl
theorem D92 (v) (k:Bool→Option α):(aBool v k).bind j=aBool v fun n=>(k n).bind j:=by unfold aBool;split<;>rfl
theorem Hr5 (v) (k:ByteArray→Option α):(aStr v k).bind j=aStr v fun n=>(k n).bind j:=by unfold aStr;split<;>rfl
theorem Hs1 (v) (k:Option Addr→Option α):(aPtr v k).bind j=aPtr v fun n=>(k n).bind j:=by unfold aPtr;split<;>rfl
theorem A81 (v) (k:Addr→Option α):(aSome v k).bind j=aSome v fun n=>(k n).bind j:=by unfold aSome;split<;>rfl
theorem Do8 (v) (k:Option Addr→Nat→Nat→Option α):(aSl v k).bind j=aSl v fun a n c=>(k a n c).bind j:=by unfold aSl;split<;>rfl
theorem Hs9 (v) (k:Option Nat→Option α):(aMap v k).bind j=aMap v fun n=>(k n).bind j:=by unfold aMap;split<;>rfl
theorem Dd6 (v) (k:List Value→Option α):(aAgg v k).bind j=aAgg v fun n=>(k n).bind j:=by unfold aAgg;split<;>rfl
theorem Jn7 (v) (k:FuncId→List Value→List Value→Option α):(aFn v k).bind j=aFn v fun a b c=>(k a b c).bind j:=by unfold aFn;split<;>rfl
theorem Ia2 (v) (k:Value→Option α):(aFv v k).bind j=aFv v fun n=>(k n).bind j:=by unfold aFv;split<;>rfl
theorem Ia3 (v) (k:Value→Option α):(nck v k).bind j=nck v fun n=>(k n).bind j:=by unfold nck;split<;>first|rfl|exact A81 j _ _
theorem Il3 (v) (k:Bool→Option α):(isNilF v k).bind j=isNilF v fun n=>(k n).bind j:=by unfold isNilF;split<;>rfl
theorem Ih4 (v) (k:Option α):(one v k).bind j=one v (k.bind j):=by unfold one;split<;>rfl
theorem Jj4 (v) (k:Option α):(as0 v k).bind j=as0 v (k.bind j):=by unfold as0;split<;>rfl
theorem Jm8 (v) (k:Value→Value→Option α):(as2 v k).bind j=as2 v fun a b=>(k a b).bind j:=by unfold as2;split<;>rfl
theorem Js0 (v) (k:Value→Value→Value→Option α):(as3 v k).bind j=as3 v fun a b c=>(k a b c).bind j:=by unfold as3;split<;>rfl
theorem Jr1 (v) (k:Value→Value→Value→Value→Option α):(as4 v k).bind j=as4 v fun a b c d=>(k a b c d).bind j:=by unfold as4;split<;>rfl
theorem Bh0 (c:Prop) [Decidable c] (k:Option α):(ck c k).bind j=ck c (k.bind j):=by unfold ck;split<;>rfl
theorem Dp2 (c:Bool) (k:Option α):(ckB c k).bind j=ckB c (k.bind j):=by unfold ckB;cases c<;>rfl
theorem Hq0 (c:Bool) (k l:Option α):(cond c k l).bind j=cond c (k.bind j) (l.bind j):=by cases c<;>rfl
theorem Jl3 {γ:Type} (x:Option (γ × H)) (k:γ→H→Option α):(bnd x k).bind j=bnd x fun v h=>(k v h).bind j:=by unfold bnd;split<;>rfl
theorem Dp5 (a h) (k:Value→Option α):(ld a h k).bind j=ld a h fun v=>(k v).bind j:=by unfold ld;split<;>rfl
theorem Jf5 (kk a h) (k:Int→Option α):(gInt kk a h k).bind j=gInt kk a h fun v=>(k v).bind j:=by unfold gInt;simp only [Dp5,Hu3]
theorem Iw5 (a h) (k:Bool→Option α):(gBool a h k).bind j=gBool a h fun v=>(k v).bind j:=by unfold gBool;simp only [Dp5,D92]
theorem Je7 (a h) (k:ByteArray→Option α):(gStr a h k).bind j=gStr a h fun v=>(k v).bind j:=by unfold gStr;simp only [Dp5,Hr5]
theorem Jd3 (a h) (k:Option Addr→Option α):(gPtr a h k).bind j=gPtr a h fun v=>(k v).bind j:=by unfold gPtr;simp only [Dp5,Hs1]
theorem Jq1 (a h) (k:Option Addr→Nat→Nat→Option α):(gSl a h k).bind j=gSl a h fun a n c=>(k a n c).bind j:=by unfold gSl;simp only [Dp5,Do8]
theorem I97 (a h) (k:Option Nat→Option α):(gMap a h k).bind j=gMap a h fun v=>(k v).bind j:=by unfold gMap;simp only [Dp5,Hs9]
theorem Jm3 (a h) (k:Value→Option α):(gFv a h k).bind j=gFv a h fun v=>(k v).bind j:=by unfold gFv;simp only [Dp5,Ia2]
theorem Ht3 (a n h) (k:List Value→Option α):(gAgg a n h k).bind j=gAgg a n h fun v=>(k v).bind j:=by
 unfold gAgg;split
 ·split
  ·split<;>rfl
  ·rfl
 ·rfl
theorem Et6 (a n h) (k:List Value→Option α):(gCells a n h k).bind j=gCells a n h fun v=>(k v).bind j:=by
 unfold gCells;split
 ·exact Ht3 j _ _ _ _
 ·split<;>rfl
theorem Gt7 (x h) (k:Nat→H→Option α):(nw x h k).bind j=nw x h fun b h=>(k b h).bind j:=rfl
theorem Jy4 (a v h) (k:H→Option α):(pV a v h k).bind j=pV a v h fun h=>(k h).bind j:=by unfold pV;split<;>rfl
theorem Hv1 (a v h) (k:H→Option α):(pAgg a v h k).bind j=pAgg a v h fun h=>(k h).bind j:=by unfold pAgg;split<;>rfl
theorem Et2 (a v h) (k:H→Option α):(pCells a v h k).bind j=pCells a v h fun h=>(k h).bind j:=by
 unfold pCells;split
 ·exact Hv1 j _ _ _ _
 ·split<;>rfl
theorem G68 (cs i) (k:Value→Option α):(nth cs i k).bind j=nth cs i fun v=>(k v).bind j:=by unfold nth;split<;>rfl
theorem E25 {γ:Type} (x:Option γ) (k:γ→Option α):(opt x k).bind j=opt x fun v=>(k v).bind j:=by unfold opt;split<;>rfl
theorem D48 (h r) (k:List MapEntry→Nat→Option α):(mapAt h r k).bind j=mapAt h r fun a b=>(k a b).bind j:=by unfold mapAt;split<;>rfl
theorem B43 (d v) (k:Value→Option α):(Bo6 d v k).bind j=Bo6 d v fun v=>(k v).bind j:=by
 unfold Bo6;split<;>first|rfl|simp only [Hu3,D92,Hr5,Hs1,Do8,Hs9,Ia2,Dd6]
theorem Ik0 (P t v) (k:Value→Option α):(A98 P t v k).bind j=A98 P t v fun v=>(k v).bind j:=by
 unfold A98;split<;>first|rfl|simp only [B43]
theorem Io9 (P t v) (k:Value→Option α):(Ew3 P t v k).bind j=Ew3 P t v fun v=>(k v).bind j:=by
 unfold Ew3;split<;>(try split)<;>first|rfl|simp only [B43,Jj4,Jm8,Js0,Jr1,Ik0]
theorem Id7 (P t a h) (k:Value→Option α):(ldT P t a h k).bind j=ldT P t a h fun v=>(k v).bind j:=by
 unfold ldT;split<;>(try split)<;>first|rfl|simp only [Jf5,Iw5,Je7,Jd3,Jq1,I97,Jm3,Ht3]
theorem Jq4 (P t a v h) (k:H→Option α):(stT P t a v h k).bind j=stT P t a v h fun h=>(k h).bind j:=by
 unfold stT;split<;>first|rfl|simp only [Dd6,Bh0,Hv1,Jy4]
theorem B54 (parts):∀ (ns:List (Nat × Bool)) (i:Nat) (zs:List Value) (k:List Value→Option α),(Bi1 parts i ns zs k).bind j=Bi1 parts i ns zs fun r=>(k r).bind j
 | [],i,zs,k=>by unfold Bi1;split<;>first|rfl|(rename_i h;cases h)|simp_all
 | (n,g)::ns,i,zs,k=>by
  unfold Bi1
  split
  ·split
   ·simp only [Dd6,Bh0,B54]
   ·split<;>first|rfl|simp only [Ih4,B54]
  ·simp only [B54]
theorem G16 (P t parts) (k:List Value→Option α):(Ec1 P t parts k).bind j=Ec1 P t parts fun r=>(k r).bind j:=by
 unfold Ec1;split<;>(try split)<;>(try split)<;>first|rfl|simp only [B54]
theorem Ev3 (P t len parts) (k:TypeId→List Value→Option α):(Eg5 P t len parts k).bind j=Eg5 P t len parts fun e r=>(k e r).bind j:=by
 unfold Eg5;split<;>(try split)<;>(try split)<;>first|rfl|simp only [B54]
theorem Jq9 (x) (k:Bool→Option α):(eqK x k).bind j=eqK x fun r=>(k r).bind j:=by unfold eqK;split<;>rfl
theorem Ix7 (P t xs ys) (k:Bool→Option α):(Dt0 P t xs ys k).bind j=Dt0 P t xs ys fun r=>(k r).bind j:=by
 unfold Dt0;split<;>first|rfl|simp only [Dp2,Jq9]
theorem Ja7 (P t x y) (k:Bool→Option α):(E22 P t x y k).bind j=E22 P t x y fun r=>(k r).bind j:=by
 unfold E22;split<;>first|rfl|simp only [Il3,Ix7]
theorem Hp6 (P op t x y) (k:Value→Option α):(G60 P op t x y k).bind j=G60 P op t x y fun r=>(k r).bind j:=by
 unfold G60;split
 ·split<;>(try split)<;>(try split)<;>first|rfl|simp only [Bh0]
 ·split<;>first|rfl|simp only [Bh0]
 ·split<;>first|rfl|simp only [Ja7]
theorem H93 (op x) (k:Value→Option α):(unK op x k).bind j=unK op x fun r=>(k r).bind j:=by unfold unK;split<;>rfl
theorem If7 (cs) (k:List UInt8→Option α):(asBytes cs k).bind j=asBytes cs fun r=>(k r).bind j:=by unfold asBytes;split<;>rfl
theorem E86 (P s d x h) (k:Value→H→Option α):(convK P s d x h k).bind j=convK P s d x h fun v h=>(k v h).bind j:=by
 unfold convK;split<;>(try split)<;>first|rfl|simp only [Bh0,Gt7,Et6,If7]
theorem Hu8 (P t x i) (k:Value→Option α):(G27 P t x i k).bind j=G27 P t x i fun r=>(k r).bind j:=by
 unfold G27;split<;>(try split)<;>first|rfl|simp only [A81,Bh0]
theorem Ga3 (P t cs off) (k:Value→Option α):(Eo1 P t cs off k).bind j=Eo1 P t cs off fun r=>(k r).bind j:=by
 unfold Eo1;split
 ·split<;>(try split)<;>first|rfl|simp only [G68,Bh0,B43]
 ·rfl
theorem Gz2 (P t x i) (k:Value→Option α):(Ee5 P t x i k).bind j=Ee5 P t x i fun r=>(k r).bind j:=by
 unfold Ee5;split<;>(try split)<;>first|rfl|simp only [Bh0,Ga3]
theorem Dv2 (v d m) (k:Nat→Option α):(A39 v d m k).bind j=A39 v d m fun r=>(k r).bind j:=by
 unfold A39;split<;>first|rfl|simp only [Bh0]
theorem Gz4 (P t x lo hi mx h) (k:Value→Option α):(sliceK P t x lo hi mx h k).bind j=sliceK P t x lo hi mx h fun r=>(k r).bind j:=by
 unfold sliceK;split
 ·split<;>first|rfl|simp only [Dv2]
 ·split
  ·rw [Dp2];congr 1;split
   ·simp only [Dv2]
   ·split<;>first|rfl|simp only [Dv2]
  ·rfl
 ·split<;>first|rfl|simp only [A81,Dp2,Dv2]
 ·rfl
theorem Ij0 (P t l c h) (k:Value→H→Option α):(Dx5 P t l c h k).bind j=Dx5 P t l c h fun r h=>(k r h).bind j:=by
 unfold Dx5;split
 ·split
  ·split<;>first|rfl|simp only [Bh0,Gt7]
  ·rfl
 ·rfl
theorem Jc3 (sz x h) (k:Nat→List Value→Option α):(Hi9 sz x h k).bind j=Hi9 sz x h fun r h=>(k r h).bind j:=by
 unfold Hi9;split<;>(try split)<;>first|rfl|simp only [Et6]
theorem H51 (e sz a n c m new h) (k:Option Addr→Nat→Nat→H→Option α):(apd e sz a n c m new h k).bind j=apd e sz a n c m new h fun a n c h=>(k a n c h).bind j:=by
 unfold apd;split<;>rfl
theorem Jf7 (x) (k:Nat→Option α):(Ie7 x k).bind j=Ie7 x fun m=>(k m).bind j:=by
 unfold Ie7;split<;>first|rfl|simp only [Bh0]
theorem H68 (P ts args h) (k:Value→H→Option α):(Ea0 P ts args h k).bind j=Ea0 P ts args h fun r h=>(k r h).bind j:=by
 unfold Ea0;split
 ·split
  ·split
   ·split
    ·split
     ·simp only [Do8,Jc3,Dp2,H51]
     ·split<;>first|rfl|simp only [Do8,Jf7,Dp2,H51]
    ·rfl
   ·rfl
  ·rfl
 ·rfl
theorem I29 (P ts args h) (k:Value→H→Option α):(Gt2 P ts args h k).bind j=Gt2 P ts args h fun r h=>(k r h).bind j:=by
 unfold Gt2;split
 ·split
  ·split
   ·rw [Do8];congr 1;funext a n c
    split
    ·simp only [Et6,Et2]
    ·split<;>first|rfl|simp only [Et2]
    ·rfl
   ·rfl
  ·rfl
 ·rfl
theorem Ij1 (P ts args h) (k:Value→H→Option α):(Ey6 P ts args h k).bind j=Ey6 P ts args h fun r h=>(k r h).bind j:=by
 unfold Ey6;split
 ·split
  ·split
   ·split<;>first|rfl|simp only [Do8,Et2]
   ·rfl
  ·rfl
 ·rfl
theorem Ji3 (a c) (k:Nat→Option α):(Gg5 a c k).bind j=Gg5 a c fun c=>(k c).bind j:=by
 unfold Gg5;split<;>rfl
theorem Hu7 (P ts args h) (k:Value→H→Option α):(Eq8 P ts args h k).bind j=Eq8 P ts args h fun r h=>(k r h).bind j:=by
 unfold Eq8;split<;>(try split)<;>first|rfl|simp only [Ji3]
theorem Hs7 (P ts args h) (k:Value→H→Option α):(Ev1 P ts args h k).bind j=Ev1 P ts args h fun r h=>(k r h).bind j:=by
 unfold Ev1;split<;>(try split)<;>(try split)<;>rfl
theorem H84 (mx k0):∀ (l:List Value) (a:Int) (k:Value→Option α),(mmL mx k0 a l k).bind j=mmL mx k0 a l fun r=>(k r).bind j
 | [],a,k=>by simp only [mmL]
 | v::l,a,k=>by
  cases v<;>simp only [mmL]<;>try rfl
  split<;>first|rfl|exact H84 mx k0 l _ k
theorem G51 (mx l) (k:Value→Option α):(mmK mx l k).bind j=mmK mx l fun r=>(k r).bind j:=by
 unfold mmK;split<;>first|rfl|exact H84 j _ _ _ _ _
theorem Gj9 (P t key) (k:Option α):(keyN P t key k).bind j=keyN P t key (k.bind j):=by
 unfold keyN;split
 ·split<;>split<;>first|rfl|simp only [Dp2]
 ·rfl
theorem Gg2 (P t x key ok h) (k:Value→Option α):(lookupK P t x key ok h k).bind j=lookupK P t x key ok h fun r=>(k r).bind j:=by
 unfold lookupK;split
 ·split
  ·split<;>first|rfl|(cases ok<;>simp only [Gj9,E25,D48,B43])
  ·rfl
 ·rfl
theorem Gi5 (P t x key v h) (k:H→Option α):(Do2 P t x key v h k).bind j=Do2 P t x key v h fun r=>(k r).bind j:=by
 unfold Do2;split<;>first|rfl|simp only [Gj9,E25,D48]
theorem H88 (P t x key h) (k:Value→H→Option α):(Ea1 P t x key h k).bind j=Ea1 P t x key h fun r h=>(k r h).bind j:=by
 unfold Ea1;split
 ·split
  ·split<;>first|rfl|simp only [Gj9,E25,D48,B43]
  ·rfl
 ·rfl
theorem Ik2 (x s v h) (k:H→Option α):(Ex3 x s v h k).bind j=Ex3 x s v h fun r=>(k r).bind j:=by
 unfold Ex3;split<;>first|rfl|simp only [E25,D48]
theorem Iv0 (P call f args t h) (k:Value→H→Option α):(Gs9 P call f args t h k).bind j=Gs9 P call f args t h fun r h=>(k r h).bind j:=by
 unfold Gs9;simp only [Jl3,Io9]
set_option maxHeartbeats 1000000 in
theorem Ig9 (P:Program) (call:E0) (ρ:Operand→Value) (o:Oper) (h:H) (k:Value→H→Option α):(opK P call ρ o h k).bind j=opK P call ρ o h fun v h=>(k v h).bind j:=by
 obtain ⟨dst,op,type,pos,after,guard⟩:=o
 cases op<;>simp only [opK]<;>try rfl
 case pick=>simp only [D92,Hq0]
 case alloc=>split<;>rfl
 case box=>split<;>first|rfl|simp only [Dd6,Ih4,Gt7]
 case build=>simp only [G16]
 case buildSlice=>simp only [Ev3,Gt7]
 case load=>split<;>first|rfl|simp only [A81,Id7]
 case store=>split<;>first|rfl|simp only [A81,Jq4]
 case nilCheck=>simp only [Ia3]
 case binOp=>simp only [Hp6]
 case unOp=>simp only [H93]
 case convert=>simp only [E86]
 case makeMap=>split<;>rfl
 case makeSlice=>simp only [Ij0]
 case slice=>simp only [Gz4]
 case fieldAddr =>
  split
  ·split<;>first|rfl|simp only [A81]
  ·rfl
 case field=>split<;>first|rfl|simp only [Dd6,Ga3]
 case indexAddr=>simp only [Hu8]
 case index=>simp only [Gz2]
 case lookup=>simp only [Gg2]
 case mapUpdate=>simp only [Gi5]
 case insert=>simp only [Gi5]
 case mapEntry=>simp only [H88]
 case entryStore=>simp only [Ik2]
 case extract=>split<;>first|rfl|simp only [G68]
 case call c =>
  obtain ⟨callee,args,ats⟩:=c
  cases callee with
  | value f=>simp only [Jn7,Iv0]
  | invoke _ _=>rfl
  | builtin b=>cases b<;>first|rfl|simp only [H68,Hs7,Hu7,I29,Ij1,G51]
end
def pr (v:Value) (h:H):Option (Value × H):=some (v,h)
theorem Gg1 {P:Program} {call:E0} {ρ:Operand→Value} {o:Oper} {h:H} {α:Type} {k:Value→H→Option α} {x:α} (hh:opK P call ρ o h k=some x) :
  ∃ v h1,opK P call ρ o h pr=some (v,h1)∧k v h1=some x:=by
 have hb:=Ig9 (fun p:Value × H=>k p.1 p.2) P call ρ o h pr;rw [show (fun v h=>(pr v h).bind fun p:Value × H=>k p.1 p.2)=k from rfl,hh] at hb
 cases hr:opK P call ρ o h pr with
 | none=>rw [hr] at hb;cases hb
 | some p=>rw [hr] at hb;exact ⟨p.1,p.2,rfl,hb⟩
theorem J46 {P:Program} {call:E0} {ρ:Operand→Value} {o:Oper} {h:H} {α:Type} (k:Value→H→Option α) {v:Value} {h1:H} (hh:opK P call ρ o h pr=some (v,h1)) :
  opK P call ρ o h k=k v h1:=by
 have hb:=Ig9 (fun p:Value × H=>k p.1 p.2) P call ρ o h pr;rw [show (fun v h=>(pr v h).bind fun p:Value × H=>k p.1 p.2)=k from rfl,hh] at hb;exact hb.symm
end Go.NN

namespace Go.NN
section
variable {P:Program} {μ:Mu} {h:H} {w:World} {α:Type} {x:α}
theorem VR.plain1 {v:Value} (hp:plain1 v=true):VR P μ h w v v:=by
 cases v with
 | bool b=>exact .bool b
 | int k n=>exact .int k n
 | string s=>exact .str s
 | pointer a=>cases a with
  | none=>exact .nilp
  | some a=>cases hp
 | slice a n c=>cases a with
  | none=>exact .nils n c (Nat.le_of_ble_eq_true hp)
  | some a=>cases hp
 | map a=>cases a with
  | none=>exact .nilm
  | some a=>cases hp
 | nilFunc=>exact .nilf
 | nilIface=>exact .nili
 | _=>cases hp
theorem VRs.plain1 {l:List Value} (hp:l.all NN.plain1=true):VRs P μ h w l l:=by
 induction l with
 | nil=>exact .nil
 | cons v l ih =>
  simp only [List.all_cons,Bool.and_eq_true] at hp;exact .cons _ _ _ _ (VR.plain1 hp.1) (ih hp.2)
theorem VR.plain {v:Value} (hp:Gm5 v=true):VR P μ h w v v:=by
 unfold Gm5 at hp
 split at hp
 ·exact .agg _ _ (VRs.plain1 hp)
 ·exact VR.plain1 hp
theorem Aa4 {t:TypeId} {n:Nat} (hn:N1 P t=some n) (w:World):(sizeOf t).run P w=.ok n w:=by
 unfold N1 at hn
 cases hi:P.info? t with
 | none=>rw [hi] at hn;cases hn
 | some i=>rw [hi] at hn;cases hn;simp [sizeOf,typeInfo,hi]
def I5:TypeDesc→Bool
 | .struct _=>true
 | .array _ _=>true
 | _=>false
theorem Eo6 {t:TypeId} {d:TypeDesc} (hd:P.underlying t=some d) (w:World):(isAgg t).run P w=.ok (I5 d) w:=by
 simp only [isAgg,Sem.run_bind,run_underlying hd,Result.andThen_ok]
 cases d<;>rfl
theorem I98 {t:TypeId} {g:Bool} (hg:E40 P t=some g):∃ d,P.underlying t=some d∧I5 d=g:=by
 unfold E40 at hg
 split at hg
 ·cases hg;exact ⟨_,‹_›,rfl⟩
 ·cases hg;exact ⟨_,‹_›,rfl⟩
 ·rename_i d _ _ hd;cases hg
  refine ⟨d,hd,?_⟩
  cases d<;>first|rfl|(rename_i h1 _ ;exact absurd hd (h1 _))|(rename_i h1 ;exact absurd hd (h1 _ _))|skip
  all_goals (exfalso;simp_all)
 ·cases hg
theorem A69 {t:TypeId} {zs:List Value} (hz:D47 P t=some zs):∃ z i,P.info? t=some i∧i.zero=some z∧z.cells.toList=zs∧zs.all plain1=true:=by
 unfold D47 at hz
 split at hz
 ·rename_i i hi
  split at hz
  ·rename_i z hz'
   split at hz
   ·cases hz;exact ⟨z,i,hi,hz',rfl,‹_›⟩
   ·cases hz
  ·cases hz
 ·cases hz
theorem Hq9 {t:TypeId} {zs:List Value} (hz:D47 P t=some zs) (w:World):∃ z,(zeroValue t).run P w=.ok z w∧z.cells.toList=zs∧zs.all plain1=true:=by
 obtain ⟨z,i,hi,hz1,hz2,hz3⟩:=A69 hz;exact ⟨z,by simp [zeroValue,typeInfo,hi,hz1],hz2,hz3⟩
theorem Dl4 {d:TypeDesc} {v:Value} {k:Value→Option α} (hh:Bo6 d v k=some x):k v=some x:=by
 unfold Bo6 at hh
 split at hh
 ·obtain ⟨_,rfl,h1⟩:=Ig1 hh;exact h1
 ·obtain ⟨_,rfl,h1⟩:=An5 hh;exact h1
 ·obtain ⟨_,rfl,h1⟩:=H74 hh;exact h1
 ·obtain ⟨_,rfl,h1⟩:=Id0 hh;exact h1
 ·obtain ⟨_,_,_,rfl,h1⟩:=Ea3 hh;exact h1
 ·obtain ⟨_,rfl,h1⟩:=H73 hh;exact h1
 ·exact (It8 hh).2
 ·obtain ⟨_,rfl,h1⟩:=Bt9 hh;exact h1
 ·obtain ⟨_,rfl,h1⟩:=Bt9 hh;exact h1
 ·cases hh
theorem Az5 {t:TypeId} {v:Value} {k:Value→Option α} (hh:A98 P t v k=some x):k v=some x:=by
 unfold A98 at hh
 split at hh
 ·exact Dl4 hh
 ·cases hh
theorem Iy9 {t:TypeId} {v:Value} {k:Value→Option α} (hh:Ew3 P t v k=some x):k v=some x:=by
 unfold Ew3 at hh
 split at hh
 ·split at hh
  ·unfold as0 at hh;split at hh
   ·exact hh
   ·cases hh
  ·unfold as2 at hh;split at hh
   ·have h1:=Az5 (Az5 hh);exact h1
   ·cases hh
  ·unfold as3 at hh;split at hh
   ·have h1:=Az5 (Az5 (Az5 hh));exact h1
   ·cases hh
  ·unfold as4 at hh;split at hh
   ·have h1:=Az5 (Az5 (Az5 (Az5 hh)));exact h1
   ·cases hh
  ·cases hh
 ·exact Dl4 hh
 ·cases hh
theorem Id5 {t:TypeId} {d:TypeDesc} (hd:P.underlying t=some d) (hg:I5 d=false) (a:Addr) (w:World):(loadVar t a).run P w=(load a).run P w:=by
 simp only [loadVar,Sem.run_bind,Eo6 hd,Result.andThen_ok,hg]
 rfl
theorem Ig2 {t:TypeId} {d:TypeDesc} {n:Nat} (hd:P.underlying t=some d) (hg:I5 d=true) (hn:N1 P t=some n) (a:Addr) (w:World) :
  (loadVar t a).run P w=((loadCells a n).run P w).andThen fun cs w=>.ok (.agg cs) w:=by
 simp only [loadVar,Sem.run_bind,Eo6 hd,Result.andThen_ok,hg,if_true,Aa4 hn,Sem.run_pure]
theorem ld1 (r:Rel P μ h w) {t:TypeId} {d:TypeDesc} (hd:P.underlying t=some d) (hg:I5 d=false) {a:Addr} {p' v:Value} (ha:VR P μ h w (.pointer (some a)) p') (hv:h.get a=some v) :
  ∃ u,(Instr.loadAt t p').run P w=.ok u w∧VR P μ h w v u:=by
 obtain ⟨a',u,rfl,h1,h2⟩:=r.load ha hv;refine ⟨u,?_,h2⟩;simp only [Instr.loadAt,Instr.sureAddr,Sem.run_bind,Sem.run_pure,Result.andThen_ok,Id5 hd hg,h1]
theorem Hv0 (r:Rel P μ h w) {t:TypeId} {a:Addr} {p':Value} {k:Value→Option α} (ha:VR P μ h w (.pointer (some a)) p') (hh:ldT P t a h k=some x) :
  ∃ v u,k v=some x∧(Instr.loadAt t p').run P w=.ok u w∧VR P μ h w v u:=by
 have agg:∀ {n cs},(∃ d,P.underlying t=some d∧I5 d=true)→N1 P t=some n→a.spot=none→h.cs a.block=some cs→a.off+n≤cs.length→k (.agg ⟨(cs.drop a.off).take n⟩)=some x →
   ∃ v u,k v=some x∧(Instr.loadAt t p').run P w=.ok u w∧VR P μ h w v u:=by
  intro n cs ⟨d,hd,hg⟩ hn hs hc hl hk;obtain ⟨e,ro,hb⟩:=Gm2 hc;obtain ⟨g,δ,hm,rfl⟩:=ha.addr ⟨_,hb,by simp⟩ hs;obtain ⟨us,h1,h2⟩:=r.loads hm hc hl;refine ⟨_,.agg ⟨us⟩,hk,?_,.agg _ _ h2⟩;simp only [Instr.loadAt,Instr.sureAddr,Sem.run_bind,Sem.run_pure,Result.andThen_ok,Ig2 hd hg hn,h1 w rfl]
 unfold ldT at hh
 split at hh
 ·rename_i kk hd
  obtain ⟨v,h1,h2⟩:=Dy7 hh;obtain ⟨n,rfl,h3⟩:=Ig1 h2;obtain ⟨u,h4,h5⟩:=ld1 r hd rfl ha h1;exact ⟨_,u,h3,h4,h5⟩
 ·rename_i hd
  obtain ⟨v,h1,h2⟩:=Dy7 hh;obtain ⟨n,rfl,h3⟩:=An5 h2;obtain ⟨u,h4,h5⟩:=ld1 r hd rfl ha h1;exact ⟨_,u,h3,h4,h5⟩
 ·rename_i hd
  obtain ⟨v,h1,h2⟩:=Dy7 hh;obtain ⟨n,rfl,h3⟩:=H74 h2;obtain ⟨u,h4,h5⟩:=ld1 r hd rfl ha h1;exact ⟨_,u,h3,h4,h5⟩
 ·rename_i e hd
  obtain ⟨v,h1,h2⟩:=Dy7 hh;obtain ⟨n,rfl,h3⟩:=Id0 h2;obtain ⟨u,h4,h5⟩:=ld1 r hd rfl ha h1;exact ⟨_,u,h3,h4,h5⟩
 ·rename_i e hd
  obtain ⟨v,h1,h2⟩:=Dy7 hh;obtain ⟨_,_,_,rfl,h3⟩:=Ea3 h2;obtain ⟨u,h4,h5⟩:=ld1 r hd rfl ha h1;exact ⟨_,u,h3,h4,h5⟩
 ·rename_i hd
  obtain ⟨v,h1,h2⟩:=Dy7 hh;obtain ⟨n,rfl,h3⟩:=H73 h2;obtain ⟨u,h4,h5⟩:=ld1 r hd rfl ha h1;exact ⟨_,u,h3,h4,h5⟩
 ·rename_i hd
  obtain ⟨v,h1,h2⟩:=Dy7 hh;obtain ⟨u,h4,h5⟩:=ld1 r hd rfl ha h1;exact ⟨_,u,(It8 h2).2,h4,h5⟩
 ·rename_i hd
  split at hh
  ·obtain ⟨c,h1,h2,h3,h4⟩:=Dr6 hh;exact agg ⟨_,hd,rfl⟩ ‹_› h1 h2 h3 h4
  ·cases hh
 ·rename_i hd
  split at hh
  ·obtain ⟨c,h1,h2,h3,h4⟩:=Dr6 hh;exact agg ⟨_,hd,rfl⟩ ‹_› h1 h2 h3 h4
  ·cases hh
 ·cases hh
theorem Bn5 {v:Value} (hv:v.oneCell=true):v.cells=#[v]:=by cases v<;>first|rfl|(simp [Value.oneCell] at hv)
theorem Ja9 (r:Rel P μ h w) {t:TypeId} {a:Addr} {p' v v':Value} {k:H→Option α} (ha:VR P μ h w (.pointer (some a)) p') (hv:VR P μ h w v v') (hh:stT P t a v h k=some x) :
  ∃ h1 w1,k h1=some x∧(Instr.storeAt t p' v').run P w=.ok () w1∧Rel P μ h1 w1∧Ext μ h w μ h1 w1:=by
 unfold stT at hh
 split at hh
 ·rename_i n hg hn
  obtain ⟨cs,rfl,h1⟩:=Bt9 hh;obtain ⟨hl,h1⟩:=Aj6 h1;obtain ⟨h2,hp,h3⟩:=H66 h1;obtain ⟨e,c,hs,hb,_,_,_⟩:=E91 hp;obtain ⟨g,δ,hm,rfl⟩:=ha.addr ⟨_,hb,by simp⟩ hs
  cases hv with
  | agg _ l' hvs =>
   obtain ⟨b,o,sp⟩:=a;dsimp only at hs hm hb;subst hs;obtain ⟨w1,h4,h5,h6⟩:=r.stores hm hp hvs;refine ⟨h2,w1,h3,?_,h5,h6⟩;have hlen:=hvs.length;simp only [Instr.storeAt,Instr.sureAddr,storeVar,Sem.run_bind,Sem.run_pure,Result.andThen_ok,Aa4 hn];rw [if_neg (by simp [Value.cells];omega)];simpa [Value.cells] using h4
 ·rename_i hg hn
  obtain ⟨h2,hp,h3⟩:=J70 hh;obtain ⟨a',w1,rfl,hone,h4,h5,h6⟩:=r.store ha hp hv;refine ⟨h2,w1,h3,?_,h5,h6⟩;simp only [Instr.storeAt,Instr.sureAddr,storeVar,Sem.run_bind,Sem.run_pure,Result.andThen_ok,Aa4 hn,Bn5 hone];rw [if_neg (by simp)];simp only [storeCells,Sem.run_bind,Addr.add,if_true,h4,Result.andThen_ok,Sem.run_pure]
 ·cases hh
theorem VR.int_inv {k:IntKind} {n:Int} {u:Value} (hv:VR P μ h w (.int k n) u):u=.int k n:=by cases hv;rfl
theorem VR.bool_inv {b:Bool} {u:Value} (hv:VR P μ h w (.bool b) u):u=.bool b:=by cases hv;rfl
theorem VR.str_inv {s:ByteArray} {u:Value} (hv:VR P μ h w (.string s) u):u=.string s:=by cases hv;rfl
theorem Ef5:∀ {ds:List TypeDesc} {xs us:List Value},L7 ds xs=true→VRs P μ h w xs us→us=xs
 | ds,[],us,_,hv=>by cases hv;rfl
 | ds,v::xs,us,hf,hv=>by
  cases hv with
  | cons _ u _ us hv hvs =>
   cases ds with
   | nil=>simp [L7] at hf
   | cons d ds =>
    cases d<;>cases v<;>simp [L7] at hf
    ·cases hv;rw [Ef5 hf hvs]
    ·cases hv;rw [Ef5 hf.2 hvs]
    ·cases hv;rw [Ef5 hf hvs]
end
def Al1 (P:Program) (μ:Mu) (h:H) (w:World) (v:Value) (h1:H):Value→World→Prop :=
 fun u w1=>∃ μ1,Ext μ h w μ1 h1 w1∧Rel P μ1 h1 w1∧VR P μ1 h1 w1 v u
def Yields (P:Program) (o:Oper) (a:Act) (w:World) (Q:Value→World→Prop):Prop :=
 match (execOp a.eval o).run P w with
 | .ok (.value v) w1=>Q v w1
 | .ok .skip w1=>Q undef w1
 | .ok (.enter f args) w1=>Calls P f args w1 fun e w2=>∃ v,e=.returned v∧Q v w2
 | _=>False
section
variable {P:Program} {μ:Mu} {h:H} {w:World} {α:Type} {x:α} {a:Act}
theorem Al1.same (r:Rel P μ h w) {v u:Value} (hv:VR P μ h w v u):Al1 P μ h w v h u w:=⟨μ,Ext.refl _ _ _ r.dom,r,hv⟩
theorem Yields.value {dst type pos after guard} {op:Op} {s:Sem Value} {Q:Value→World→Prop} {u:Value} {w1:World}
  (he:execOp a.eval ⟨dst,op,type,pos,after,guard⟩=(do pure (.value (← s)))) (hr:s.run P w=.ok u w1) (hq:Q u w1):Yields P ⟨dst,op,type,pos,after,guard⟩ a w Q:=by
 unfold Yields;rw [he];simp only [Sem.run_bind,hr,Result.andThen_ok,Sem.run_pure];exact hq
theorem Yields.unit {dst type pos after guard} {op:Op} {s:Sem Unit} {Q:Value→World→Prop} {w1:World}
  (he:execOp a.eval ⟨dst,op,type,pos,after,guard⟩=(do s;pure .skip)) (hr:s.run P w=.ok () w1) (hq:Q undef w1):Yields P ⟨dst,op,type,pos,after,guard⟩ a w Q:=by
 unfold Yields;rw [he];simp only [Sem.run_bind,hr,Result.andThen_ok,Sem.run_pure];exact hq
end
end Go.NN

namespace Go.NN
section
variable {P:Program} {μ:Mu} {h:H} {w:World} {α:Type} {x:α}
theorem Bp5 {l ds:List TypeDesc}:∀ {xs:List Value},L7 (l++ds) xs=true→l.length≤xs.length∧L7 l (xs.take l.length)=true∧L7 ds (xs.drop l.length)=true:=by
 induction l with
 | nil=>intro xs hf;exact ⟨Nat.zero_le _,by simp [L7],by simpa using hf⟩
 | cons d l ih =>
  intro xs hf
  cases xs with
  | nil=>cases d<;>simp [L7] at hf
  | cons v xs =>
   cases d<;>cases v<;>simp [L7] at hf
   ·obtain ⟨h1,h2,h3⟩:=ih hf;exact ⟨by simp;omega,by simpa [L7] using h2,by simpa using h3⟩
   ·obtain ⟨h0,hf⟩:=hf;obtain ⟨h1,h2,h3⟩:=ih hf;exact ⟨by simp;omega,by simp [L7,h0];simpa using h2,by simpa using h3⟩
   ·obtain ⟨h1,h2,h3⟩:=ih hf;exact ⟨by simp;omega,by simpa [L7] using h2,by simpa using h3⟩
theorem U7:∀ {ds:List TypeDesc} {xs:List Value},L7 ds xs=true→xs.length=ds.length
 | [],[],_=>rfl
 | [],v::xs,hf=>by simp [L7] at hf
 | d::ds,[],hf=>by cases d<;>simp [L7] at hf
 | d::ds,v::xs,hf=>by
  have:L7 ds xs=true:=by cases d<;>cases v<;>simp [L7] at hf<;>first|exact hf|exact hf.2
  simp [U7 this]
theorem Hh5 {b d:List Value}:∀ {a c:List Value},a.length=c.length→∀ {x y},eqs a c=some x→eqs b d=some y→eqs (a++b) (c++d)=some (x && y):=by
 intro a
 induction a with
 | nil=>intro c hl x y hx hy;cases c with
  | nil=>simp [eqs] at hx;subst hx;simpa using hy
  | cons _ _=>simp at hl
 | cons v a ih=>intro c hl x y hx hy;cases c with
  | nil=>simp at hl
  | cons v' c =>
   simp only [eqs] at hx
   split at hx
   ·rename_i p q hp hq
    cases hx
    have h1:=ih (by simpa using hl) hq hy;simp only [List.cons_append,eqs,hp,h1,Bool.and_assoc]
   ·cases hx
def Q7 (g:Bool) (xs:List Value):Value :=
 match g,xs with
 | true,xs=>.agg ⟨xs⟩
 | false,[x]=>x
 | false,_=>undef
theorem B97 {t:TypeId} {d:TypeDesc} (hd:P.underlying t=some d) {n:Nat} (hn:N1 P t=some n) {xs:List Value} {off:Nat} (hl:n≤xs.length-off) (h1:I5 d=false→n=1) (w:World) :
  (part t ⟨xs⟩ off).run P w=.ok (Q7 (I5 d) ((xs.drop off).take n)) w:=by
 simp only [part,Sem.run_bind,Eo6 hd,Result.andThen_ok]
 cases hg:I5 d
 ·have:=h1 hg;subst this;have hlt:off<xs.length:=by omega
  simp only [Bool.false_eq_true,if_false];rw [show (⟨xs⟩:Array Value)[off]?=some xs[off] by simp [hlt]]
  have:(xs.drop off).take 1=[xs[off]]:=by
   rw [List.drop_eq_getElem_cons hlt];rfl
  rw [this];rfl
 ·simp only [if_true,Sem.run_bind,Aa4 hn,Result.andThen_ok,Sem.run_pure,Q7]
  congr 2
  simp [List.take_drop]
theorem Dg5 {d:Nat} {t:TypeId} {ds:List TypeDesc} (hl:Ar3 P (d+1) t=some ds):∃ n,N1 P t=some n∧ds.length=n ∧
  ((∃ k,P.underlying t=some (.int k)∧ds=[.int k])∨(P.underlying t=some .bool∧ds=[.bool])∨(P.underlying t=some .string∧ds=[.string]) ∨
     (∃ fs,P.underlying t=some (.struct fs)∧P.stoodInHeld t=false∧P.eqGuardType P.depth t=false∧Dy3 (Ar3 P d) 0 fs.toList=some ds) ∨
     (∃ m e l,P.underlying t=some (.array m e)∧P.eqGuardType P.depth t=false∧Ar3 P d e=some l∧ds=(List.replicate m l).flatten)):=by
 simp only [Ar3] at hl
 split at hl
 ·cases hl
 ·rename_i n hn
  split at hl
  ·rename_i l hl'
   split at hl
   ·rename_i hb
    cases hl
    refine ⟨n,hn,Nat.eq_of_beq_eq_true hb,?_⟩
    split at hl'
    ·cases hl';exact .inl ⟨_,‹_›,rfl⟩
    ·cases hl';exact .inr (.inl ⟨‹_›,rfl⟩)
    ·cases hl';exact .inr (.inr (.inl ⟨‹_›,rfl⟩))
    ·rename_i fs hfs
     split at hl'
     ·cases hl'
     ·rename_i hor
      simp only [Bool.or_eq_false_iff] at hor;exact .inr (.inr (.inr (.inl ⟨fs,hfs,hor.1,hor.2,hl'⟩)))
    ·rename_i m e hm
     split at hl'
     ·cases hl'
     ·split at hl'
      ·cases hl';exact .inr (.inr (.inr (.inr ⟨m,e,_,hm,‹_›,‹_›,rfl⟩)))
      ·cases hl'
    ·cases hl'
   ·cases hl
  ·cases hl
theorem Ek7 {d:Nat} {t:TypeId} {ds:List TypeDesc} (hl:Ar3 P d t=some ds):∃ D n,P.underlying t=some D∧N1 P t=some n∧ds.length=n∧(I5 D=false→n=1):=by
 cases d with
 | zero=>cases hl
 | succ d =>
  obtain ⟨n,hn,hlen,h1|h1|h1|h1|h1⟩:=Dg5 hl
  ·obtain ⟨k,h1,rfl⟩:=h1;exact ⟨_,n,h1,hn,hlen,fun _=>by simpa using hlen.symm⟩
  ·obtain ⟨h1,rfl⟩:=h1;exact ⟨_,n,h1,hn,hlen,fun _=>by simpa using hlen.symm⟩
  ·obtain ⟨h1,rfl⟩:=h1;exact ⟨_,n,h1,hn,hlen,fun _=>by simpa using hlen.symm⟩
  ·obtain ⟨fs,h1,_⟩:=h1;exact ⟨_,n,h1,hn,hlen,fun h=>by simp [I5] at h⟩
  ·obtain ⟨m,e,l,h1,_⟩:=h1;exact ⟨_,n,h1,hn,hlen,fun h=>by simp [I5] at h⟩
def Jo2 (P:Program) (m:Nat) (t:TypeId) (ds:List TypeDesc):Prop :=
 ∀ (w:World) (D:TypeDesc) (xs ys:List Value),P.underlying t=some D→L7 ds xs=true→L7 ds ys=true →
  ∃ b,eqs xs ys=some b∧(Op.equalIn m t (Q7 (I5 D) xs) (Q7 (I5 D) ys)).run P w=.ok b w
theorem Ir6 {m d:Nat} (ih:∀ t ds,Ar3 P d t=some ds→Jo2 P m t ds) (w:World) (xs ys:List Value) :
  ∀ (fs:List Field) (off:Nat) (ds:List TypeDesc),Dy3 (Ar3 P d) off fs=some ds→L7 ds (xs.drop off)=true→L7 ds (ys.drop off)=true →
  ∃ b,eqs (xs.drop off) (ys.drop off)=some b∧(Op.eqFields m ⟨xs⟩ ⟨ys⟩ fs).run P w=.ok b w:=by
 intro fs
 induction fs with
 | nil =>
  intro off ds hl hx hy;simp only [Dy3] at hl;cases hl
  have h1:=U7 hx;have h2:=U7 hy;simp only [List.length_nil,List.length_eq_zero_iff] at h1 h2;rw [h1,h2];exact ⟨true,rfl,rfl⟩
 | cons f fs ihf =>
  intro off ds hl hx hy;simp only [Dy3] at hl
  split at hl
  ·rename_i hname hoff
   split at hl
   ·rename_i l hl1
    split at hl
    ·rename_i r hr
     cases hl
     obtain ⟨D,n,hD,hn,hlen,h1⟩:=Ek7 hl1;obtain ⟨a1,a2,a3⟩:=Bp5 hx;obtain ⟨b1,b2,b3⟩:=Bp5 hy;rw [List.drop_drop] at a3 b3;obtain ⟨b,e1,e2⟩:=ih _ _ hl1 w D _ _ hD a2 b2;obtain ⟨b',e3,e4⟩:=ihf _ _ hr a3 b3;have ho:f.offset=off:=Nat.eq_of_beq_eq_true hoff;simp only [List.length_drop] at a1 b1;have p1:=B97 (P:=P) hD hn (xs:=xs) (off:=off) (by omega) h1 w;have p2:=B97 (P:=P) hD hn (xs:=ys) (off:=off) (by omega) h1 w;rw [hlen] at e2;have hne : (f.name ≠ "_") := by simpa using hname
     refine ⟨b && b',?_,?_⟩
     ·have hx':xs.drop off=(xs.drop off).take l.length++xs.drop (off+l.length):=by
       rw [← List.drop_drop,List.take_append_drop]
      have hy':ys.drop off=(ys.drop off).take l.length++ys.drop (off+l.length):=by
       rw [← List.drop_drop,List.take_append_drop]
      rw [hx',hy'];exact Hh5 (by simp;omega) e1 e3
     ·simp only [Op.eqFields];rw [if_pos hne];simp only [Sem.run_bind,ho,p1,p2,Result.andThen_ok,e2]
      cases b
      ·simp
      ·simpa using e4
    ·cases hl
   ·cases hl
  ·cases hl
theorem I47 {m:Nat} {e:TypeId} {l:List TypeDesc} {n:Nat} {D:TypeDesc} (ih:Jo2 P m e l) (hD:P.underlying e=some D) (hn:N1 P e=some n) (hlen:l.length=n) (h1:I5 D=false→n=1)
  (w:World) (xs ys:List Value):∀ (k j:Nat),L7 (List.replicate k l).flatten (xs.drop (j*n))=true→L7 (List.replicate k l).flatten (ys.drop (j*n))=true →
  ∃ b,eqs (xs.drop (j*n)) (ys.drop (j*n))=some b∧(Op.eqItems m e n ⟨xs⟩ ⟨ys⟩ (List.range' j k)).run P w=.ok b w:=by
 intro k
 induction k with
 | zero =>
  intro j hx hy;have h1:=U7 hx;have h2:=U7 hy;simp only [List.replicate_zero,List.flatten_nil,List.length_nil,List.length_eq_zero_iff] at h1 h2;rw [h1,h2];exact ⟨true,rfl,by simp [Op.eqItems]⟩
 | succ k ihk =>
  intro j hx hy;rw [List.replicate_succ,List.flatten_cons] at hx hy;obtain ⟨a1,a2,a3⟩:=Bp5 hx;obtain ⟨b1,b2,b3⟩:=Bp5 hy;rw [List.drop_drop,hlen,show j*n+n=(j+1)*n by rw [Nat.add_mul];omega] at a3 b3;obtain ⟨b,e1,e2⟩:=ih w D _ _ hD a2 b2;obtain ⟨b',e3,e4⟩:=ihk (j+1) a3 b3;simp only [List.length_drop] at a1 b1;have p1:=B97 (P:=P) hD hn (xs:=xs) (off:=j*n) (by omega) h1 w;have p2:=B97 (P:=P) hD hn (xs:=ys) (off:=j*n) (by omega) h1 w;rw [hlen] at e1 e2;refine ⟨b && b',?_,?_⟩
  ·have hx':xs.drop (j*n)=(xs.drop (j*n)).take n++xs.drop ((j+1)*n):=by
    rw [show (j+1)*n=j*n+n by rw [Nat.add_mul];omega,← List.drop_drop,List.take_append_drop]
   have hy':ys.drop (j*n)=(ys.drop (j*n)).take n++ys.drop ((j+1)*n):=by
    rw [show (j+1)*n=j*n+n by rw [Nat.add_mul];omega,← List.drop_drop,List.take_append_drop]
   rw [hx',hy'];exact Hh5 (by simp;omega) e1 e3
  ·rw [List.range'_succ];simp only [Op.eqItems,Sem.run_bind,p1,p2,e2,Result.andThen_ok]
   cases b
   ·simp
   ·simpa using e4
theorem J72:∀ (d:Nat) (m:Nat) (t:TypeId) (ds:List TypeDesc),d≤m→Ar3 P d t=some ds→Jo2 P m t ds:=by
 intro d
 induction d with
 | zero=>intro m t ds _ hl;cases hl
 | succ d ih =>
  intro m t ds hm hl w D xs ys hD hx hy;obtain ⟨m,rfl⟩:∃ m',m=m'+1:=⟨m-1,by omega⟩
  obtain ⟨n,hn,hlen,hc⟩:=Dg5 hl;rcases hc with ⟨k,h1,rfl⟩|⟨h1,rfl⟩|⟨h1,rfl⟩|⟨fs,h1,h2,h3,h4⟩|⟨c,e,l,h1,h2,h3,rfl⟩
  ·rw [hD] at h1;cases h1
   obtain ⟨v,rfl⟩:∃ v,xs=[v]:=List.length_eq_one_iff.1 (by simpa using U7 hx);obtain ⟨u,rfl⟩:∃ v,ys=[v]:=List.length_eq_one_iff.1 (by simpa using U7 hy)
   cases v<;>simp [L7] at hx
   cases u<;>simp [L7] at hy
   subst hx;subst hy
   rename_i p q
   exact ⟨p==q,by simp [eqs,eq1],by simp [Q7,I5,run_equalIn_int w m t _ _ _ _ hD]⟩
  ·rw [hD] at h1;cases h1
   obtain ⟨v,rfl⟩:∃ v,xs=[v]:=List.length_eq_one_iff.1 (by simpa using U7 hx);obtain ⟨u,rfl⟩:∃ v,ys=[v]:=List.length_eq_one_iff.1 (by simpa using U7 hy)
   cases v<;>simp [L7] at hx
   cases u<;>simp [L7] at hy
   rename_i p q
   exact ⟨p==q,by simp [eqs,eq1],by simp [Q7,I5,run_equalIn_bool w m t _ _ hD]⟩
  ·rw [hD] at h1;cases h1
   obtain ⟨v,rfl⟩:∃ v,xs=[v]:=List.length_eq_one_iff.1 (by simpa using U7 hx);obtain ⟨u,rfl⟩:∃ v,ys=[v]:=List.length_eq_one_iff.1 (by simpa using U7 hy)
   cases v<;>simp [L7] at hx
   cases u<;>simp [L7] at hy
   rename_i p q
   exact ⟨p.toList==q.toList,by simp [eqs,eq1],by simp [Q7,I5,run_equalIn_string w m t _ _ hD]⟩
  ·rw [hD] at h1;cases h1
   have hf:P.fieldsOf t=fs:=by simp [Program.fieldsOf,hD]
   obtain ⟨b,e1,e2⟩:=Ir6 (m:=m) (d:=d) (fun t ds hl=>ih m t ds (by omega) hl) w xs ys fs.toList 0 ds h4 (by simpa using hx) (by simpa using hy);refine ⟨b,by simpa using e1,?_⟩;simp only [I5,Q7];rw [run_equalIn_struct w m t _ _ (by rw [hf];exact hD) h2,hf];exact e2
  ·rw [hD] at h1;cases h1
   obtain ⟨De,ne,hDe,hne,hlene,h1e⟩:=Ek7 h3;obtain ⟨b,e1,e2⟩:=I47 (ih m e l (by omega) h3) hDe hne hlene h1e w xs ys c 0 (by simpa using hx) (by simpa using hy);refine ⟨b,by simpa using e1,?_⟩;simp only [I5,Q7]
   obtain ⟨i,hi,hs⟩:∃ i,P.info? e=some i∧i.size=ne:=by
    unfold N1 at hne
    cases hi:P.info? e with
    | none=>rw [hi] at hne;cases hne
    | some i=>rw [hi] at hne;cases hne;exact ⟨i,rfl,rfl⟩
   have hco:P.cellsOf e=ne:=by simp [Program.cellsOf,hi,hs]
   rw [run_equalIn_array w m _ _ hD hi,hco,List.range_eq_range'];exact e2
end
end Go.NN

namespace Go.NN
section
variable {P:Program} {μ:Mu} {h:H} {w:World} {α:Type} {x:α}
theorem Gz6 {t:TypeId} {D:TypeDesc} {xs ys us vs:List Value} {k:Bool→Option α} (hD:P.underlying t=some D) (hg:I5 D=true) (hx:VRs P μ h w xs us) (hy:VRs P μ h w ys vs) (hh:Dt0 P t xs ys k=some x) :
  ∃ b,k b=some x∧P.eqGuardType P.depth t=false∧(Op.equal t (.agg ⟨us⟩) (.agg ⟨vs⟩)).run P w=.ok b w:=by
 unfold Dt0 at hh
 split at hh
 ·rename_i ds hds
  obtain ⟨hf,hh⟩:=Bp6 hh;simp only [Bool.and_eq_true] at hf;rw [Ef5 hf.1 hx,Ef5 hf.2 hy];obtain ⟨b,e1,e2⟩:=J72 8 10000 t ds (by omega) hds w D xs ys hD hf.1 hf.2;unfold eqK at hh;rw [e1] at hh;rw [hg] at e2;obtain ⟨n,hn,hlen,hc⟩:=Dg5 hds;refine ⟨b,hh,?_,e2⟩;rcases hc with ⟨k,h1,rfl⟩|⟨h1,rfl⟩|⟨h1,rfl⟩|⟨fs,h1,h2,h3,h4⟩|⟨c,e,l,h1,h2,h3,rfl⟩
  ·rw [hD] at h1;cases h1;cases hg
  ·rw [hD] at h1;cases h1;cases hg
  ·rw [hD] at h1;cases h1;cases hg
  ·exact h3
  ·exact h2
 ·cases hh
theorem Y2 {op:BinOp} {t:TypeId} {X Y:Operand} {u v:Value} (hu:(∀ a,u≠.agg a)∧u≠.nilIface):(eqGuard op t X Y u v).run P w=.ok () w:=by
 cases u<;>first
  | (simp only [eqGuard_at_bool,eqGuard_at_int,eqGuard_at_float,eqGuard_at_complex,eqGuard_at_string,eqGuard_at_pointer,eqGuard_at_slice,eqGuard_at_map,eqGuard_at_chan,eqGuard_at_func,eqGuard_at_nilFunc,eqGuard_at_iface,eqGuard_at_tuple,Sem.run_pure];done)
  | exact absurd rfl hu.2
  | exact absurd rfl (hu.1 _)
theorem G85 {t e:TypeId} (hd:P.underlying t=some (.pointer e)) (a:Option Addr) (w:World) (d:Nat):(Op.equalIn (d+1) t (.pointer a) (.pointer none)).run P w=.ok a.isNone w:=by
 cases a<;>simp [Op.equalIn,run_underlying hd]
theorem Gt6 {t e:TypeId} (hd:P.underlying t=some (.slice e)) (a:Option Addr) (n c n' c':Nat) (w:World) (d:Nat):(Op.equalIn (d+1) t (.slice a n c) (.slice none n' c')).run P w=.ok a.isNone w:=by
 cases a<;>simp [Op.equalIn,run_underlying hd]
theorem H50 {t k e:TypeId} (hd:P.underlying t=some (.map k e)) (a:Option Nat) (w:World) (d:Nat):(Op.equalIn (d+1) t (.map a) (.map none)).run P w=.ok a.isNone w:=by
 cases a<;>simp [Op.equalIn,run_underlying hd]
theorem It3 {t:TypeId} {a b:Array TypeId} {c:Bool} (hd:P.underlying t=some (.func a b c)) (w:World) (d:Nat) :
  (Op.equalIn (d+1) t .nilFunc .nilFunc).run P w=.ok true w∧∀ f x y,(Op.equalIn (d+1) t (.func f x y) .nilFunc).run P w=.ok false w:=by
 constructor
 ·simp [Op.equalIn,run_underlying hd]
 ·intro f x y;simp [Op.equalIn,run_underlying hd]
theorem Hc2 {t:TypeId} {X Y:Operand} {op:BinOp} {p q u v:Value} {k:Bool→Option α} (hx:VR P μ h w p u) (hy:VR P μ h w q v) (hh:E22 P t p q k=some x) :
  ∃ b,k b=some x∧(eqGuard op t X Y u v).run P w=.ok () w∧(Op.equal t u v).run P w=.ok b w∧(∀ k n,u≠.int k n)∧(∀ s,u≠.string s):=by
 unfold E22 at hh
 split at hh
 ·rename_i hd
  cases hy
  unfold isNilF at hh
  split at hh
  ·cases hx
   exact ⟨true,hh,Y2 ⟨by simp,by simp⟩,(It3 hd w 9999).1,by simp,by simp⟩
  ·cases hx
   exact ⟨false,hh,Y2 ⟨by simp,by simp⟩,(It3 hd w 9999).2 _ _ _,by simp,by simp⟩
  ·cases hh
 ·rename_i hd
  cases hx;cases hy
  exact ⟨_,hh,Y2 ⟨by simp,by simp⟩,run_equalIn_bool w 9999 t _ _ hd,by simp,by simp⟩
 ·rename_i e a hd
  cases hy
  cases hx with
  | nilp=>exact ⟨_,hh,Y2 ⟨by simp,by simp⟩,G85 hd none w 9999,by simp,by simp⟩
  | ptr b o g δ hm=>exact ⟨_,hh,Y2 ⟨by simp,by simp⟩,G85 hd (some _) w 9999,by simp,by simp⟩
  | ptrDead b o f a hd'=>exact ⟨_,hh,Y2 ⟨by simp,by simp⟩,G85 hd (some _) w 9999,by simp,by simp⟩
 ·rename_i e a n c n' c' hd
  cases hy
  cases hx with
  | nils=>exact ⟨_,hh,Y2 ⟨by simp,by simp⟩,Gt6 hd none _ _ _ _ w 9999,by simp,by simp⟩
  | sl=>exact ⟨_,hh,Y2 ⟨by simp,by simp⟩,Gt6 hd (some _) _ _ _ _ w 9999,by simp,by simp⟩
  | slOpen=>exact ⟨_,hh,Y2 ⟨by simp,by simp⟩,Gt6 hd (some _) _ _ _ _ w 9999,by simp,by simp⟩
  | slZero=>exact ⟨_,hh,Y2 ⟨by simp,by simp⟩,Gt6 hd (some _) _ _ _ _ w 9999,by simp,by simp⟩
 ·rename_i kt e a hd
  cases hy
  cases hx with
  | nilm=>exact ⟨_,hh,Y2 ⟨by simp,by simp⟩,H50 hd none w 9999,by simp,by simp⟩
  | map=>exact ⟨_,hh,Y2 ⟨by simp,by simp⟩,H50 hd (some _) w 9999,by simp,by simp⟩
 ·rename_i fs xs ys hd
  cases hx with
  | agg _ us hx=>cases hy with
   | agg _ vs hy =>
    obtain ⟨b,h1,h2,h3⟩:=Gz6 hd rfl hx hy hh;exact ⟨b,h1,run_eqGuard_agg w op t X Y _ _ h2,h3,by simp,by simp⟩
 ·rename_i m e xs ys hd
  cases hx with
  | agg _ us hx=>cases hy with
   | agg _ vs hy =>
    obtain ⟨b,h1,h2,h3⟩:=Gz6 hd rfl hx hy hh;exact ⟨b,h1,run_eqGuard_agg w op t X Y _ _ h2,h3,by simp,by simp⟩
 ·cases hh
theorem Gd2 {t:TypeId} {u v:Value} {b:Bool} (he:(Op.equal t u v).run P w=.ok b w) (h1:∀ k n,u≠.int k n) (h2:∀ s,u≠.string s) (h3:∀ k n,u≠.float k n) (h4:∀ k n m,u≠.complex k n m) :
  (binOp .eql t u v).run P w=.ok (.bool b) w∧(binOp .neq t u v).run P w=.ok (.bool !b) w:=by
 constructor
 ·cases u<;>first|(exfalso;exact h1 _ _ rfl)|(exfalso;exact h2 _ rfl)|(exfalso;exact h3 _ _ rfl)|(exfalso;exact h4 _ _ _ rfl)|(simp only [binOp,Sem.run_bind,he,Result.andThen_ok,Sem.run_pure])
 ·cases u<;>first|(exfalso;exact h1 _ _ rfl)|(exfalso;exact h2 _ rfl)|(exfalso;exact h3 _ _ rfl)|(exfalso;exact h4 _ _ _ rfl)|(simp only [binOp,Sem.run_bind,he,Result.andThen_ok,Sem.run_pure])
theorem VR.noFloat {v u:Value} (hv:VR P μ h w v u) (hn:v≠.tuple ⟨[]⟩) (hd:∀ b,v≠.pointer (some b)∨True):(∀ k n,u≠.float k n)∧(∀ k n m,u≠.complex k n m):=by
 cases hv with
 | undef v=>exact absurd rfl hn
 | _=>exact ⟨by simp,by simp⟩
theorem I0 {s:Sem Unit} {t:Sem Value} {r:Result Value} (hs:s.run P w=.ok () w) (ht:t.run P w=r):(do s;t:Sem Value).run P w=r:=by
 simp only [Sem.run_bind,hs,Result.andThen_ok,ht]
theorem I34 {op:BinOp} {t:TypeId} {X Y:Operand} {p q u v:Value} {k:Value→Option α} (hx:VR P μ h w p u) (hy:VR P μ h w q v) (hh:G60 P op t p q k=some x) :
  ∃ z,k z=some x∧(do eqGuard op t X Y u v;binOp op t u v:Sem Value).run P w=.ok z w∧VR P μ h w z z:=by
 unfold G60 at hh
 split at hh
 ·rename_i kx a ky b
  rw [hx.int_inv,hy.int_inv];have g:∀ op,(eqGuard op t X Y (.int kx a) (.int ky b)).run P w=.ok () w:=fun op=>Y2 ⟨by simp,by simp⟩
  split at hh
  ·obtain ⟨h0,h1⟩:=Aj6 hh;refine ⟨_,h1,I0 (g _) ?_,.int _ _⟩;rw [binOp_shl];unfold Op.shift;rw [if_neg (by omega)];rfl
  ·obtain ⟨h0,h1⟩:=Aj6 hh;refine ⟨_,h1,I0 (g _) ?_,.int _ _⟩;rw [binOp_shr];unfold Op.shift;rw [if_neg (by omega)];rfl
  ·split at hh
   ·cases hh
   ·rename_i hk
    have hk:=of_decide_eq_true hk;subst hk
    split at hh
    ·exact ⟨_,hh,I0 (g _) (by rw [binOp_add];rfl),.int _ _⟩
    ·exact ⟨_,hh,I0 (g _) (by rw [binOp_sub];rfl),.int _ _⟩
    ·exact ⟨_,hh,I0 (g _) (by rw [binOp_mul];rfl),.int _ _⟩
    ·obtain ⟨h0,h1⟩:=Aj6 hh;exact ⟨_,h1,I0 (g _) (by rw [binOp_quo];unfold Op.intDiv;rw [if_neg h0];rfl),.int _ _⟩
    ·obtain ⟨h0,h1⟩:=Aj6 hh;exact ⟨_,h1,I0 (g _) (by rw [binOp_rem];unfold Op.intDiv;rw [if_neg h0];rfl),.int _ _⟩
    ·exact ⟨_,hh,I0 (g _) (by rw [binOp_and];rfl),.int _ _⟩
    ·exact ⟨_,hh,I0 (g _) (by rw [binOp_or];rfl),.int _ _⟩
    ·exact ⟨_,hh,I0 (g _) (by rw [binOp_xor];rfl),.int _ _⟩
    ·exact ⟨_,hh,I0 (g _) (by rw [binOp_andNot];rfl),.int _ _⟩
    ·exact ⟨_,hh,I0 (g _) (by rw [binOp_eql];rfl),.bool _⟩
    ·exact ⟨_,hh,I0 (g _) (by rw [binOp_neq];rfl),.bool _⟩
    ·exact ⟨_,hh,I0 (g _) (by rw [binOp_lss];rfl),.bool _⟩
    ·exact ⟨_,hh,I0 (g _) (by rw [binOp_leq];rfl),.bool _⟩
    ·exact ⟨_,hh,I0 (g _) (by rw [binOp_gtr];rfl),.bool _⟩
    ·exact ⟨_,hh,I0 (g _) (by rw [binOp_geq];rfl),.bool _⟩
    ·cases hh
 ·rename_i a b
  rw [hx.str_inv,hy.str_inv];have g:∀ op,(eqGuard op t X Y (.string a) (.string b)).run P w=.ok () w:=fun op=>Y2 ⟨by simp,by simp⟩;have e:∀ op,binOp op t (.string a) (.string b)=Op.stringOp op a b:=fun op=>by cases op<;>rfl
  split at hh
  ·obtain ⟨h0,h1⟩:=Aj6 hh;refine ⟨_,h1,I0 (g _) ?_,.str _⟩;rw [e];unfold Op.stringOp;dsimp only;rw [if_neg (by unfold B3 at h0;rw [IntKind.max_i64];omega)];rfl
  all_goals first
   | exact ⟨_,hh,I0 (g _) (by rw [e];rfl),.bool _⟩
   | cases hh
 ·split at hh
  ·obtain ⟨b,h1,h2,h3,h4,h5⟩:=Hc2 (X:=X) (Y:=Y) (op:=.eql) hx hy hh;have hn:p≠.tuple ⟨[]⟩:=by rintro rfl;unfold E22 at hh;split at hh<;>simp_all [isNilF]
   obtain ⟨f1,f2⟩:=hx.noFloat hn (fun _=>.inr trivial);exact ⟨_,h1,I0 h2 (Gd2 h3 h4 h5 f1 f2).1,.bool _⟩
  ·obtain ⟨b,h1,h2,h3,h4,h5⟩:=Hc2 (X:=X) (Y:=Y) (op:=.neq) hx hy hh;have hn:p≠.tuple ⟨[]⟩:=by rintro rfl;unfold E22 at hh;split at hh<;>simp_all [isNilF]
   obtain ⟨f1,f2⟩:=hx.noFloat hn (fun _=>.inr trivial);exact ⟨_,h1,I0 h2 (Gd2 h3 h4 h5 f1 f2).2,.bool _⟩
  ·cases hh
theorem I62 {op:UnOp} {p u:Value} {k:Value→Option α} (hx:VR P μ h w p u) (hh:unK op p k=some x) :
  ∃ z,k z=some x∧(Op.unary op u).run P w=.ok z w∧VR P μ h w z z:=by
 unfold unK at hh
 split at hh
 ·rw [hx.int_inv];exact ⟨_,hh,rfl,.int _ _⟩
 ·rw [hx.bool_inv];exact ⟨_,hh,rfl,.bool _⟩
 ·cases hh
theorem Dk7 (r:Rel P μ h w) {p:Option Addr} {n c m:Nat} {u:Value} {k:List Value→Option α} (hx:VR P μ h w (.slice p n c) u) (hmn:0<m→0<n) (hh:gCells p m h k=some x) :
  ∃ cs a' c',k cs=some x∧cs.length=m∧u=.slice a' n c'∧(a'=none↔p=none)∧(a'=none→m=0) ∧
   ∃ us,VRs P μ h w cs us∧(∀ q,a'=some q→∀ w',w'.heap=w.heap→(loadCells q m).run P w'=.ok ⟨us⟩ w'):=by
 unfold gCells at hh
 split at hh
 ·rename_i a
  obtain ⟨cs,_,hc,hl,hk⟩:=Dr6 hh;dsimp only [B4] at hc hl hk;obtain ⟨e,ro,hb⟩:=Gm2 hc;have hlen:((cs.drop a.off).take m).length=m:=by simp;omega
  have fin:∀ {g δ o' c'},μ a.block=some (g,δ)→(0<m→o'=δ+a.off)→u=.slice (some ⟨g,o',none⟩) n c'→_:=fun {g δ o' c'} hm ho hu =>
   show ∃ cs a' c',k cs=some x∧cs.length=m∧u=.slice a' n c'∧(a'=none↔some a=none)∧(a'=none→m=0) ∧
   ∃ us,VRs P μ h w cs us∧(∀ q,a'=some q→∀ w',w'.heap=w.heap→(loadCells q m).run P w'=.ok ⟨us⟩ w') by
    rcases Nat.eq_zero_or_pos m with hz|hz
    ·subst hz;refine ⟨_,_,_,hk,hlen,hu,by simp,by simp,[],by simpa using VRs.nil,fun q hq w' _=>?_⟩;simp [loadCells,loadCellsFrom]
    ·obtain ⟨us,h1,h2⟩:=r.loads hm hc hl;refine ⟨_,_,_,hk,hlen,hu,by simp,by simp,us,h2,fun q hq=>?_⟩
     cases hq;rw [ho hz];exact h1
  cases hx with
  | sl b o _ _ g δ o' hm h2 h3=>exact fin hm (fun hz=>h3 (by have:=hmn hz;omega)) rfl
  | slOpen b o f _ _ g δ o' c' m' sz e' hm h2 h3 h4 h5 h6 h7 =>
   exact fin hm (fun hz=>h7 (by have:=hmn hz;omega)) rfl
  | slZero b o a' =>
   have hz:m=0:=by
    rcases Nat.eq_zero_or_pos m with hz|hz
    ·exact hz
    ·have:=hmn hz;omega
   subst hz;refine ⟨_,_,_,hk,hlen,rfl,by simp,by simp,[],by simpa using VRs.nil,fun q hq w' _=>?_⟩;simp [loadCells,loadCellsFrom]
 ·split at hh
  ·cases hx
   exact ⟨[],none,c,hh,rfl,rfl,by simp,by simp,[],.nil,by simp⟩
  ·cases hh
end
end Go.NN

namespace Go.NN
section
variable {P:Program} {μ:Mu} {h:H} {w:World} {α:Type} {x:α}
theorem Gj4:∀ {cs us:List Value} {l:List UInt8},Bz3 cs=some l→VRs P μ h w cs us→∃ ns:List Int,us=ns.map (Value.int .u8)∧l=ns.map fun n=>UInt8.ofNat n.toNat
 | [],us,l,hl,hv=>by
  cases hv;simp only [Bz3] at hl;cases hl
  exact ⟨[],rfl,rfl⟩
 | v::cs,us,l,hl,hv=>by
  cases hv with
  | cons _ u _ us hv hvs =>
   unfold Bz3 at hl
   split at hl
   ·rename_i heq;cases heq
   ·rename_i n vs heq
    cases heq
    cases hr:Bz3 cs with
    | none=>rw [hr] at hl;cases hl
    | some l' =>
     rw [hr] at hl;cases hl
     obtain ⟨ns,rfl,rfl⟩:=Gj4 hr hvs;exact ⟨n::ns,by rw [hv.int_inv];rfl,rfl⟩
   ·cases hl
theorem I45 (ns:List Int):∀ (s:ByteArray),ns.foldl (fun r n=>r.push (UInt8.ofNat n.toNat)) s=⟨⟨s.data.toList++ns.map fun n=>UInt8.ofNat n.toNat⟩⟩:=by
 induction ns with
 | nil=>intro s;simp
 | cons n ns ih=>intro s;rw [List.foldl_cons,ih];simp [ByteArray.push]
theorem Gj5 (l:List UInt8):VRs P μ h w (A0 l) (A0 l):=VRs.map_of _ fun _ _=>.int _ _
theorem Gn9 (w:World) (c:Array Value) (e:TypeId):(w.alloc (.cells c e)).freeze ⟨w.heap.size,c.size,none⟩ 1=w.alloc (.cells c e (c.size,c.size+1)):=by
 unfold World.freeze World.alloc;rw [if_neg (by omega)]
 congr 1
 apply Array.ext_getElem?;intro i;rw [Array.getElem?_modify,Array.getElem?_push,Array.getElem?_push];by_cases hi:w.heap.size=i
 ·subst hi;simp
 ·simp [hi,Ne.symm hi]
theorem Gf8 (w:World) (need old:Nat) (e:TypeId):need≤(Question.appendCap need old e).cut (w.tape w.drawn (.appendCap need old e)):=by
 simp [Question.cut]
theorem Ip7 (r:Rel P μ h w) {src dst:TypeId} {p u:Value} {k:Value→H→Option α} (hx:VR P μ h w p u) (hh:convK P src dst p h k=some x) :
  ∃ v h1,k v h1=some x∧∃ z w1,(convert src dst u).run P w=.ok z w1∧Al1 P μ h w v h1 z w1:=by
 unfold convK at hh
 split at hh
 ·rename_i k1 kk k2 n hs hd
  rw [hx.int_inv];exact ⟨_,_,hh,_,w,by simp only [convert,Sem.run_bind,run_underlying hs,run_underlying hd,Result.andThen_ok];rfl,.same r (.int _ _)⟩
 ·rename_i s hs hd
  rw [hx.str_inv];exact ⟨_,_,hh,_,w,by simp only [convert,Sem.run_bind,run_underlying hs,run_underlying hd,Result.andThen_ok];rfl,.same r (.str _)⟩
 ·rename_i e s hs hd
  rw [hx.str_inv]
  split at hh
  ·rename_i he hsz
   obtain ⟨hm,hh⟩:=Aj6 hh;unfold nw at hh;refine ⟨_,_,hh,?_⟩;generalize hcap:(Question.appendCap s.size 0 e).cut (w.tape w.drawn (.appendCap s.size 0 e))=cap;have hge:s.size≤cap:=by rw [← hcap];exact Gf8 w _ _ _
   let c:Array Value:=s.data.map (fun b=>.int .u8 b.toNat)++Array.replicate (cap-s.size) (.int .u8 0)
   have hcs:c.size=cap:=by simp only [c,Array.size_append,Array.size_map,Array.size_replicate];have:s.data.size=s.size:=rfl;omega
   refine ⟨.slice (some ⟨w.heap.size,0,none⟩) s.size cap,w.drew.alloc (.cells c e (c.size,c.size+1)),?_,?_⟩
   ·simp only [convert,Sem.run_bind,run_underlying hs,run_underlying hd,run_underlying he,Result.andThen_ok,Conv.stringToBytes,run_choose,Question.forced,Bool.false_eq_true,if_false,hcap,newRow,run_newObj,Sem.run_pure];show ((markStringish ⟨w.heap.size,0,none⟩).run P (w.drew.alloc (.cells c e))).andThen _=_
    have hsh:(w.drew.alloc (.cells c e)).shape? w.heap.size=some (e,c.size):=by
     unfold World.shape?;rw [A06];simp
    simp only [markStringish,Sem.run_bind,run_shape,hsh,Result.andThen_ok,run_freeze];have:=Gn9 w.drew c e;rw [show w.drew.heap.size=w.heap.size from rfl] at this;rw [this]
   ·have hpush:=r.drew.push (x:=.cells e false (A0 s.data.toList)) (o:=.cells c e (c.size,c.size+1)) (by simp)
     (fun e' ro c1 hh=>by
      cases hh
      refine ⟨c,_,rfl,fun i hi=>by simp only;omega,?_,fun i v hi=>?_⟩
      ·have:(A0 s.data.toList).length=s.size:=by simp [A0]
       omega
      refine ⟨v,?_,?_⟩
      ·simp only [c];rw [Array.getElem?_append_left]
       ·simpa [A0] using hi
       ·have:=(List.getElem?_eq_some_iff.1 hi).1;simpa [A0] using this
      ·simp only [A0,List.getElem?_map,Option.map_eq_some_iff] at hi;obtain ⟨b,_,rfl⟩:=hi;exact .int _ _)
     (fun es cl hh=>by cases hh)
    refine ⟨_,r.extDrew.trans hpush.2,hpush.1,?_⟩;refine .slOpen _ _ _ _ _ w.heap.size 0 0 cap cap 1 e ?_ ?_ hsz (by omega) hge (Nat.le_refl _) (fun _=>rfl)
    ·show upd μ h.next (w.drew.heap.size,0) h.next=_;simp [upd]
    ·unfold World.shape?;rw [A06];simp [hcs]
  ·cases hh
 ·rename_i e a n c hs hd
  split at hh
  ·rename_i he
   obtain ⟨cs,a',c',hk,hlen,hu,hnil,hz,us,hvs,hld⟩:=Dk7 r hx (fun hz=>hz) hh;unfold asBytes at hk
   split at hk
   ·rename_i l hl
    obtain ⟨ns,rfl,rfl⟩:=Gj4 hl hvs;refine ⟨_,_,hk,_,w,?_,.same r (.str _)⟩;rw [hu,run_convert_bytes_string w src dst e a' n c' hs he hd]
    cases a' with
    | none =>
     have:=hz rfl
     have h0:ns=[]:=by
      have:=hvs.length;simp at this;exact List.length_eq_zero_iff.1 (by omega)
     subst h0
     rfl
    | some q =>
     rw [run_bytesToString w q n c' ns (hld q rfl w rfl),I45]
     rfl
   ·cases hk
  ·cases hh
 ·cases hh
theorem A63 (b o:Nat) (f:Option Nat):B4 ⟨b,o,f⟩=⟨b,o,none⟩:=rfl
theorem VR.add {a:Addr} {u:Value} (ha:VR P μ h w (.pointer (some a)) u) (n:Nat):∃ a',u=.pointer (some a')∧VR P μ h w (.pointer (some (a.add n))) (.pointer (some (a'.add n))):=by
 cases ha with
 | ptr b o g δ hm=>exact ⟨_,rfl,by rw [Al8,Al8,Nat.add_assoc];exact .ptr _ _ _ _ hm⟩
 | ptrDead b o f a' hd =>
  refine ⟨_,rfl,?_⟩;unfold Addr.add
  split
  ·exact .ptrDead _ _ _ _ hd
  ·exact .ptrDead _ _ _ _ hd
theorem VR.elem {p:Option Addr} {n c:Nat} {u:Value} (hx:VR P μ h w (.slice p n c) u):(p=none∧u=.slice none n c)∨∃ a a' c',p=some a∧u=.slice (some a') n c' ∧
  ∀ i,0<n→VR P μ h w (.pointer (some ((B4 a).add i))) (.pointer (some (a'.add i))):=by
 cases hx with
 | nils=>exact .inl ⟨rfl,rfl⟩
 | sl b o _ _ g δ o' hm h2 h3 =>
  refine .inr ⟨_,_,_,rfl,rfl,fun i hn=>?_⟩;rw [A63,Al8,Al8,h3 (by omega),Nat.add_assoc];exact .ptr _ _ _ _ hm
 | slOpen b o f _ _ g δ o' c' m sz e hm h2 h3 h4 h5 h6 h7 =>
  refine .inr ⟨_,_,_,rfl,rfl,fun i hn=>?_⟩;rw [A63,Al8,Al8,h7 (by omega),Nat.add_assoc];exact .ptr _ _ _ _ hm
 | slZero b o a=>exact .inr ⟨_,_,_,rfl,rfl,fun i hn=>by omega⟩
theorem G05 {s:TypeId} {f off:Nat} {t:TypeId} (hf:Ed3 P s f=some (off,t)):∃ fs fd,P.underlying s=some (.struct fs)∧fs[f]?=some fd∧fd.offset=off∧fd.type=t:=by
 unfold Ed3 at hf
 split at hf
 ·rename_i fs hs
  split at hf
  ·cases hf;exact ⟨fs,_,hs,‹_›,rfl,rfl⟩
  ·cases hf
 ·cases hf
theorem Hz4 {s:TypeId} {f off sz:Nat} {t:TypeId} {a:Addr} {u:Value} (hf:Ed3 P s f=some (off,t)) (hn:N1 P t=some (sz+1)) (ha:VR P μ h w (.pointer (some a)) u) :
  ∃ z,(Instr.fieldAt s u f).run P w=.ok z w∧VR P μ h w (.pointer (some (a.add off))) z:=by
 obtain ⟨fs,fd,h1,h2,rfl,rfl⟩:=G05 hf;obtain ⟨a',rfl,h3⟩:=ha.add fd.offset;refine ⟨_,?_,h3⟩;simp only [Instr.fieldAt,Sem.run_bind,run_underlying h1,Result.andThen_ok,h2,Instr.sureAddr,Sem.run_pure,fieldPlace,Aa4 hn];simp
theorem Iz4 {t:TypeId} {p i u j:Value} {k:Value→Option α} (hx:VR P μ h w p u) (hi:VR P μ h w i j) (hh:G27 P t p i k=some x) :
  ∃ v z,k v=some x∧(Instr.indexAt t u j).run P w=.ok z w∧VR P μ h w v z:=by
 unfold G27 at hh
 split at hh
 ·rename_i len e p ki n hd
  split at hh
  ·rename_i sz hsz
   obtain ⟨a,rfl,hh⟩:=A01 hh;obtain ⟨⟨h0,h1⟩,hh⟩:=Aj6 hh;obtain ⟨a',rfl,h3⟩:=hx.add (n.toNat*sz);rw [hi.int_inv];refine ⟨_,_,hh,?_,h3⟩;simp only [Instr.indexAt,asIntOf,Sem.run_bind,Sem.run_pure,run_underlying hd,Result.andThen_ok,Instr.sureAddr];rw [if_pos ⟨h0,h1⟩];simp only [Sem.run_bind,Aa4 hsz,Result.andThen_ok,Sem.run_pure]
  ·cases hh
 ·rename_i e p len c ki n hd
  split at hh
  ·rename_i sz hsz
   obtain ⟨a,rfl,hh⟩:=A01 hh;obtain ⟨⟨h0,h1⟩,hh⟩:=Aj6 hh;rw [hi.int_inv];rcases hx.elem with ⟨h2,_⟩|⟨a1,a',c',h2,rfl,h3⟩
   ·cases h2
   ·cases h2
    refine ⟨_,_,hh,?_,h3 _ (by omega)⟩;simp only [Instr.indexAt,asIntOf,Sem.run_bind,Sem.run_pure,run_underlying hd,Result.andThen_ok];rw [if_pos ⟨h0,h1⟩];simp only [Sem.run_bind,Aa4 hsz,Result.andThen_ok,Sem.run_pure]
  ·cases hh
 ·cases hh
theorem G14 {t:TypeId} {cs us:List Value} {off:Nat} {k:Value→Option α} (hv:VRs P μ h w cs us) (hh:Eo1 P t cs off k=some x) :
  ∃ v z,k v=some x∧(part t ⟨us⟩ off).run P w=.ok z w∧VR P μ h w v z:=by
 have agg:∀ {d n},P.underlying t=some d→I5 d=true→N1 P t=some n→ck (off+n≤cs.length) (k (.agg ⟨(cs.drop off).take n⟩))=some x→_:=fun {d n} hd hg hn hh =>
  show ∃ v z,k v=some x∧(part t ⟨us⟩ off).run P w=.ok z w∧VR P μ h w v z by
   obtain ⟨hl,hk⟩:=Aj6 hh;have hlen:=hv.length;refine ⟨_,_,hk,B97 hd hn (by omega) (by simp [hg]) w,?_⟩;rw [hg];exact .agg _ _ ((hv.drop off).take n)
 unfold Eo1 at hh
 split at hh
 ·rename_i d hd
  split at hh
  ·split at hh
   ·exact agg hd rfl ‹_› hh
   ·cases hh
  ·split at hh
   ·exact agg hd rfl ‹_› hh
   ·cases hh
  ·rename_i d0 _ n1 n2
   obtain ⟨v,hc,hk⟩:=It2 hh;obtain ⟨z,hz,hvz⟩:=hv.get hc;refine ⟨v,z,Dl4 hk,?_,hvz⟩
   have hg:∀ d:TypeDesc,(∀ fs,d=.struct fs→False)→(∀ n e,d=.array n e→False)→I5 d=false:=fun d m1 m2=>by
    cases d<;>first|rfl|(exact (m1 _ rfl).elim)|(exact (m2 _ _ rfl).elim)
   simp only [part,Sem.run_bind,Eo6 hd,Result.andThen_ok,hg _ n1 n2];simp [hz]
 ·cases hh
theorem H34 {t:TypeId} {p i u j:Value} {k:Value→Option α} (hx:VR P μ h w p u) (hi:VR P μ h w i j) (hh:Ee5 P t p i k=some x) :
  ∃ v z,k v=some x∧(Instr.index t u j).run P w=.ok z w∧VR P μ h w v z:=by
 unfold Ee5 at hh
 split at hh
 ·rename_i len e cs ki n hd
  split at hh
  ·rename_i sz hsz
   obtain ⟨⟨h0,h1⟩,hh⟩:=Aj6 hh;rw [hi.int_inv]
   cases hx with
   | agg _ us hx =>
    obtain ⟨v,z,h2,h3,h4⟩:=G14 hx hh;refine ⟨v,z,h2,?_,h4⟩;simp only [Instr.index,asIntOf,Sem.run_bind,Sem.run_pure,run_underlying hd,Result.andThen_ok];rw [if_pos ⟨h0,h1⟩];simp only [Sem.run_bind,Aa4 hsz,Result.andThen_ok,h3]
  ·cases hh
 ·rename_i s ki n hd
  obtain ⟨⟨h0,h1⟩,hh⟩:=Aj6 hh;rw [hi.int_inv,hx.str_inv];refine ⟨_,_,hh,?_,.int _ _⟩;simp only [Instr.index,asIntOf,Sem.run_bind,Sem.run_pure,run_underlying hd,Result.andThen_ok];have hlt:n.toNat<s.size:=by omega
  rw [if_pos h0]
  have hget:s[n.toNat]?=some (s.data.toList.getD n.toNat 0):=by
   rw [getElem?_pos s n.toNat hlt]
   congr 1
   rw [List.getD_eq_getElem?_getD,List.getElem?_eq_getElem (by simpa using hlt)]
   rfl
  rw [hget]
  rfl
 ·cases hh
end
end Go.NN

namespace Go.NN
section
variable {P:Program} {μ:Mu} {h:H} {w:World} {α:Type} {x:α}
inductive BR:Option Value→Option Value→Prop
 | nn:BR none none
 | si (k:IntKind) (n:Int):BR (some (.int k n)) (some (.int k n))
 | ot (v u:Value):(∀ k n,v≠.int k n)→BR (some v) (some u)
theorem BR.of {v u:Value} (hv:VR P μ h w v u):BR (some v) (some u):=by
 by_cases hi:∃ k n,v=.int k n
 ·obtain ⟨k,n,rfl⟩:=hi;rw [hv.int_inv];exact .si k n
 ·exact .ot _ _ fun k n hh=>hi ⟨k,n,hh⟩
theorem BR.nones {v u:Option Value} (hb:BR v u):u=none↔v=none:=by cases hb<;>simp
theorem Am4 {v u:Option Value} {d B3:Nat} {k:Nat→Option α} (hb:BR v u) (hh:A39 v d B3 k=some x) :
  ∃ n,k n=some x∧(v=none→n=d)∧(v≠none→n≤B3)∧∀ top,B3≤top→∀ y,u=some y→∀ code,(Instr.sliceBound y top code).run P w=.ok n w:=by
 cases hb with
 | nn=>exact ⟨d,hh,fun _=>rfl,fun hn=>absurd rfl hn,by simp⟩
 | si kk n =>
  unfold A39 at hh;obtain ⟨⟨h0,h1⟩,hh⟩:=Aj6 hh;refine ⟨_,hh,by simp,fun _=>by omega,fun top ht y hy code=>?_⟩
  cases hy
  simp only [Instr.sliceBound,asIntOf,Sem.run_bind,Sem.run_pure,Result.andThen_ok];rw [if_pos ⟨h0,by omega⟩];rfl
 | ot v u hn =>
  exfalso;unfold A39 at hh
  split at hh
  ·rename_i heq;injection heq with heq;exact hn _ _ heq
  ·cases hh
  ·rename_i heq;cases heq
theorem E70 {isSlice:Bool} {len top i j:Nat} {lo hi:Option Value} (hhi:(hi=none→j=len)∧∀ y,hi=some y→∀ code,(Instr.sliceBound y top code).run P w=.ok j w)
  (hlo:(lo=none→i=0)∧∀ y,lo=some y→∀ code,(Instr.sliceBound y j code).run P w=.ok i w) :
  (Instr.sliceBounds isSlice len top lo hi none).run P w=.ok (i,j,top) w:=by
 unfold Instr.sliceBounds
 cases hi with
 | none =>
  have:=hhi.1 rfl;subst this
  cases lo with
  | none=>have:=hlo.1 rfl;subst this;simp
  | some y=>simp [hlo.2 y rfl]
 | some z =>
  cases lo with
  | none=>have:=hlo.1 rfl;subst this;simp [hhi.2 z rfl]
  | some y=>simp [hhi.2 z rfl,hlo.2 y rfl]
theorem Ij6 {isSlice:Bool} {len top i j m:Nat} {lo hi mx:Option Value} (hmx:∃ y,mx=some y∧∀ code,(Instr.sliceBound y top code).run P w=.ok m w) (hhi:∃ y,hi=some y∧∀ code,(Instr.sliceBound y m code).run P w=.ok j w)
  (hlo:(lo=none→i=0)∧∀ y,lo=some y→∀ code,(Instr.sliceBound y j code).run P w=.ok i w) :
  (Instr.sliceBounds isSlice len top lo hi mx).run P w=.ok (i,j,m) w:=by
 unfold Instr.sliceBounds;obtain ⟨y,rfl,hy⟩:=hmx;obtain ⟨z,rfl,hz⟩:=hhi
 cases lo with
 | none=>have:=hlo.1 rfl;subst this;simp [hy,hz]
 | some q=>simp [hy,hz,hlo.2 q rfl]
theorem Gb4 (r:Rel P μ h w) {b o f g δ:Nat} {e e':TypeId} {m:Nat} (hf:fitsOpen (some ⟨b,o,some f⟩) e h=true) (hm:μ b=some (g,δ)) (hs:w.shape? g=some (e',m)):e'=e:=by
 unfold fitsOpen at hf;simp only at hf
 split at hf
 ·rename_i e2 ro c hb
  simp only [Bool.and_eq_true] at hf;obtain ⟨c',fr,h1,_⟩:=r.row hm hb;have hro:ro=false:=by simpa using hf.2
  subst hro;replace h1:=h1.own;unfold World.shape? at hs;rw [h1] at hs;cases hs
  exact Nat.eq_of_beq_eq_true hf.1
 ·cases hf
theorem H79 (r:Rel P μ h w) {t:TypeId} {p u:Value} {lo hi mx lo' hi' mx':Option Value} {k:Value→Option α} (hx:VR P μ h w p u) (h1:BR lo lo') (h2:BR hi hi') (h3:BR mx mx') (hh:sliceK P t p lo hi mx h k=some x) :
  ∃ v z,k v=some x∧(Instr.sliceAt t u lo' hi' mx').run P w=.ok z w∧VR P μ h w v z:=by
 unfold sliceK at hh
 split at hh
 ·rename_i s hd
  split at hh
  ·cases hh
  ·cases h3
   obtain ⟨j,hh,a1,a2,a4⟩:=Am4 (P:=P) (w:=w) h2 hh;obtain ⟨i,hh,b1,b2,b4⟩:=Am4 (P:=P) (w:=w) h1 hh;rw [hx.str_inv];refine ⟨_,_,hh,?_,.str _⟩;have hb:=E70 (P:=P) (w:=w) (isSlice:=false) (len:=s.size) (top:=s.size) (i:=i) (j:=j) (lo:=lo') (hi:=hi') ⟨fun hn=>a1 (h2.nones.1 hn),a4 _ (Nat.le_refl _)⟩ ⟨fun hn=>b1 (h1.nones.1 hn),b4 _ (Nat.le_refl _)⟩;simp only [Instr.sliceAt,Sem.run_bind,run_underlying hd,Result.andThen_ok,Instr.slice];simp only [Option.isSome_none,Bool.false_eq_true,if_false,Sem.run_bind,Sem.run_pure,Result.andThen_ok,hb]
 ·rename_i e a n c hd
  split at hh
  ·rename_i sz hsz
   obtain ⟨hfit,hh'⟩:=Bp6 hh;clear hh;have hh:=hh';clear hh'
   have run:∀ {a' n c' l hh' m},(Instr.sliceBounds true n c' lo' hi' mx').run P w=.ok (l,hh',m) w →
     (Instr.sliceAt t (.slice a' n c') lo' hi' mx').run P w=.ok (.slice (if m=l then a' else a'.map (·.add (l*sz))) (hh'-l) (m-l)) w:=by
    intro a' n c' l hh' m hb;simp only [Instr.sliceAt,Sem.run_bind,run_underlying hd,Result.andThen_ok,Instr.slice,hb,Aa4 hsz,Sem.run_pure]
   split at hh
   ·cases h3
    obtain ⟨j,hh,a1,a2,a4⟩:=Am4 (P:=P) (w:=w) h2 hh;obtain ⟨i,hh,b1,b2,b4⟩:=Am4 (P:=P) (w:=w) h1 hh
    have hij:i≤j:=by
     by_cases hl:lo=none
     ·have:=b1 hl;omega
     ·exact b2 hl
    have br:∀ top,c≤top→(Instr.sliceBounds true n top lo' hi' none).run P w=.ok (i,j,top) w:=fun top ht =>
     E70 (P:=P) (w:=w) ⟨fun hn=>a1 (h2.nones.1 hn),a4 top ht⟩ ⟨fun hn=>b1 (h1.nones.1 hn),b4 _ (Nat.le_refl _)⟩
    have hjc:n≤c→j≤c:=fun hn=>by
     by_cases hl:hi=none
     ·rw [a1 hl];exact hn
     ·exact a2 hl
    have hk9:=hh
    cases hx with
    | nils _ _ hnc =>
     refine ⟨_,_,hh,run (br c (Nat.le_refl _)),?_⟩;have:(if c=i then none else Option.map (fun x=>Addr.add x (i*sz)) none)=none:=by split<;>rfl
     rw [this];have:=hjc hnc;exact .nils _ _ (by omega)
    | slZero b o a =>
     have hj0:=hjc (Nat.le_refl _);refine ⟨_,_,hk9,run (br 0 (Nat.le_refl _)),?_⟩;obtain rfl:j=0:=by omega
     obtain rfl:i=0:=by omega
     exact .slZero _ _ _
    | sl b o _ _ g δ o' hm h5 h6 =>
     have hjc:=hjc h5;refine ⟨_,_,hh,run (br c (Nat.le_refl _)),?_⟩;by_cases hic:i<c
     ·rw [if_neg (by omega),h6 (by omega)];simp only [E5,hic,decide_true,Option.map_some,Al8];exact .sl _ _ _ _ _ _ _ hm (by omega) (fun _=>by omega)
     ·rw [if_pos (by omega)];simp only [E5,hic,decide_false];exact .sl _ _ _ _ _ _ _ hm (by omega) (fun _=>by omega)
    | slOpen b o f _ _ g δ o' c' m sz' e' hm h5 h6 h7 h8 h9 h10 =>
     have hjc:=hjc h9;have he:=Gb4 r hfit hm h5;subst he;rw [hsz] at h6;cases h6
     refine ⟨_,_,hh,run (br c' h8),?_⟩;have h11:(i+(c'-i))*sz=c'*sz:=by congr 1;omega
     rw [Nat.add_mul] at h11;by_cases hic:i<c
     ·rw [if_neg (by omega),h10 (by omega)];simp only [E5,hic,decide_true,Option.map_some,Al8];have:=h10 (by omega);exact .slOpen _ _ _ _ _ g δ _ _ m sz _ hm h5 hsz (by omega) (by omega) (by omega) (fun _=>by omega)
     ·simp only [E5,hic,decide_false];have hci:c-i=0:=by omega
      split
      ·rename_i hci'
       have hz:c'-i=0:=by omega
       refine .slOpen _ _ _ _ _ g δ _ _ m sz _ hm h5 hsz ?_ (by omega) (by omega) (fun _=>by omega);rw [hz];omega
      ·simp only [Option.map_some,Al8];exact .slOpen _ _ _ _ _ g δ _ _ m sz _ hm h5 hsz (by omega) (by omega) (by omega) (fun _=>by omega)
   ·rename_i y
    split at hh
    ·cases hh
    ·rename_i hi1
     have hin:(some hi1:Option Value)≠none:=by simp
     obtain ⟨q,hh,_,c2,c4⟩:=Am4 (P:=P) (w:=w) h3 hh;obtain ⟨j,hh,a1,a2,a4⟩:=Am4 (P:=P) (w:=w) h2 hh;obtain ⟨i,hh,b1,b2,b4⟩:=Am4 (P:=P) (w:=w) h1 hh;have hqc:=c2 (by simp);obtain ⟨y',hy'⟩:∃ y',mx'=some y':=by cases h3<;>exact ⟨_,rfl⟩
     have hij:i≤j:=by
      by_cases hl:lo=none
      ·have:=b1 hl;omega
      ·exact b2 hl
     have hjq:=a2 hin;obtain ⟨z',hz'⟩:∃ y',hi'=some y':=by cases h2<;>exact ⟨_,rfl⟩
     have br:∀ top,c≤top→(Instr.sliceBounds true n top lo' hi' mx').run P w=.ok (i,j,q) w:=fun top ht =>
      Ij6 (P:=P) (w:=w) ⟨y',hy',c4 top ht y' hy'⟩ ⟨z',hz',a4 _ (Nat.le_refl _) z' hz'⟩ ⟨fun hn=>b1 (h1.nones.1 hn),b4 _ (Nat.le_refl _)⟩
     have hk9:=hh
     cases hx with
     | nils _ _ hnc =>
      refine ⟨_,_,hh,run (br c (Nat.le_refl _)),?_⟩;have:(if q=i then none else Option.map (fun x=>Addr.add x (i*sz)) none)=none:=by split<;>rfl
      rw [this];exact .nils _ _ (by omega)
     | slZero b o a =>
      refine ⟨_,_,hk9,run (br 0 (Nat.le_refl _)),?_⟩;obtain rfl:q=0:=by omega
      obtain rfl:j=0:=by omega
      obtain rfl:i=0:=by omega
      exact .slZero _ _ _
     | sl b o _ _ g δ o' hm h5 h6 =>
      refine ⟨_,_,hh,run (br c (Nat.le_refl _)),?_⟩;by_cases hic:i<q
      ·rw [if_neg (by omega),h6 (by omega)];simp only [E5,hic,decide_true,Option.map_some,Al8,At6,A63];exact .sl _ _ _ _ _ _ _ hm (by omega) (fun _=>by omega)
      ·rw [if_pos (by omega)];simp only [E5,hic,decide_false,At6,A63];exact .sl _ _ _ _ _ _ _ hm (by omega) (fun _=>by omega)
     | slOpen b o f _ _ g δ o' c' m sz' e' hm h5 h6 h7 h8 h9 h10 =>
      refine ⟨_,_,hh,run (br c' h8),?_⟩;by_cases hic:i<q
      ·rw [if_neg (by omega),h10 (by omega)];simp only [E5,hic,decide_true,Option.map_some,Al8,At6,A63];exact .sl _ _ _ _ _ _ _ hm (by omega) (fun _=>by omega)
      ·rw [if_pos (by omega)];simp only [E5,hic,decide_false,At6,A63];exact .sl _ _ _ _ _ _ _ hm (by omega) (fun _=>by omega)
  ·cases hh
 ·rename_i m e p hd
  split at hh
  ·rename_i sz hsz
   cases h3
   obtain ⟨a,rfl,hh⟩:=A01 hh;obtain ⟨hlive,hh⟩:=Bp6 hh;obtain ⟨j,hh,a1,a2,a4⟩:=Am4 (P:=P) (w:=w) h2 hh;obtain ⟨i,hh,b1,b2,b4⟩:=Am4 (P:=P) (w:=w) h1 hh
   have hij:i≤j:=by
    by_cases hl:lo=none
    ·have:=b1 hl;omega
    ·exact b2 hl
   have hjc:j≤m:=by
    by_cases hl:hi=none
    ·rw [a1 hl];exact Nat.le_refl _
    ·exact a2 hl
   have br:(Instr.sliceBounds false m m lo' hi' none).run P w=.ok (i,j,m) w :=
    E70 (P:=P) (w:=w) ⟨fun hn=>a1 (h2.nones.1 hn),a4 _ (Nat.le_refl _)⟩ ⟨fun hn=>b1 (h1.nones.1 hn),b4 _ (Nat.le_refl _)⟩
   unfold liveA at hlive
   split at hlive
   ·rename_i hs hb
    obtain ⟨g,δ,hm,rfl⟩:=hx.addr ⟨_,hb,by simp⟩ hs;obtain ⟨b,o,sp⟩:=a;dsimp only at hs hm;subst hs;refine ⟨_,.slice (some (if m=i then ⟨g,δ+o,none⟩ else (⟨g,δ+o,none⟩:Addr).add (i*sz))) (j-i) (m-i),hh,?_,?_⟩
    ·simp only [Instr.sliceAt,Sem.run_bind,run_underlying hd,Result.andThen_ok,Instr.sureAddr,Sem.run_pure,br,Aa4 hsz]
    ·by_cases hic:i<m
     ·rw [if_neg (by omega)];simp only [E5,hic,decide_true,Al8];exact .sl _ _ _ _ _ _ _ hm (by omega) (fun _=>by omega)
     ·rw [if_pos (by omega)];simp only [E5,hic,decide_false];exact .sl _ _ _ _ _ _ _ hm (by omega) (fun _=>by omega)
   ·cases hlive
  ·cases hh
 ·cases hh
end
end Go.NN

namespace Go.NN
section
variable {P:Program} {μ:Mu} {h:H} {w:World} {α:Type} {x:α}
inductive PR (P:Program) (μ:Mu) (h:H) (w:World):List (Nat × Value)→List (Nat × Value)→Prop
 | nil:PR P μ h w [] []
 | cons (i:Nat) (v u:Value) (l l':List (Nat × Value)):VR P μ h w v u→PR P μ h w l l'→PR P μ h w ((i,v)::l) ((i,u)::l')
theorem PR.look {l l':List (Nat × Value)} (r:PR P μ h w l l') (i:Nat):(lookN l i=none∧lookN l' i=none)∨∃ v u,lookN l i=some v∧lookN l' i=some u∧VR P μ h w v u:=by
 induction r with
 | nil=>exact .inl ⟨rfl,rfl⟩
 | cons j v u l l' hv _ ih =>
  simp only [lookN]
  cases hb:Nat.beq j i
  ·exact ih
  ·exact .inr ⟨v,u,rfl,rfl,hv⟩
def Ai3 (ns:List (Nat × Bool)):Nat:=(ns.map (·.1)).sum
theorem I88 (ns:List (Nat × Bool)):G89 ns=Ai3 ns:=by
 induction ns with
 | nil=>rfl
 | cons p ns ih=>obtain ⟨n,g⟩:=p;simp [G89,Ai3,ih]
def Ap5 (ns:List (Nat × Bool)) (i:Nat):Nat:=Ai3 (ns.take i)
theorem Bl7 (p:Nat × Bool) (ns:List (Nat × Bool)):Ai3 (p::ns)=p.1+Ai3 ns:=by simp [Ai3]
theorem Dc5 (p:Nat × Bool) (ns:List (Nat × Bool)) (i:Nat):Ap5 (p::ns) (i+1)=p.1+Ap5 ns i:=by simp [Ap5,Ai3]
theorem Dx0 (ns:List (Nat × Bool)):Ap5 ns 0=0:=by simp [Ap5,Ai3]
theorem Jw6 {ns:List (Nat × Bool)}:∀ {i:Nat} {n:Nat} {g:Bool},ns[i]?=some (n,g)→Ap5 ns i+n≤Ai3 ns:=by
 induction ns with
 | nil=>intro i n g hi;simp at hi
 | cons p ns ih =>
  intro i n g hi
  cases i with
  | zero=>simp at hi;subst hi;rw [Dx0,Bl7];omega
  | succ i=>rw [Dc5,Bl7];have:=ih (by simpa using hi);omega
theorem Hf0 {ns:List (Nat × Bool)}:∀ {i j:Nat} {n m:Nat} {g g':Bool},ns[i]?=some (n,g)→ns[j]?=some (m,g')→i<j→Ap5 ns i+n≤Ap5 ns j:=by
 induction ns with
 | nil=>intro i j n m g g' hi;simp at hi
 | cons p ns ih =>
  intro i j n m g g' hi hj hij;obtain ⟨j,rfl⟩:∃ k,j=k+1:=⟨j-1,by omega⟩
  rw [Dc5]
  cases i with
  | zero=>simp at hi;subst hi;rw [Dx0];omega
  | succ i=>rw [Dc5];have:=ih (by simpa using hi) (by simpa using hj) (by omega);omega
def A72 (parts:List (Nat × Value)):(i:Nat)→List (Nat × Bool)→List Value→List Value
 | _,[],_=>[]
 | i,(n,_)::ns,zs=>match lookN parts i with
  | some v=>v.cells.toList++A72 parts (i+1) ns (zs.drop n)
  | none=>zs.take n++A72 parts (i+1) ns (zs.drop n)
def Ec2 (parts:List (Nat × Value)) (i:Nat) (ns:List (Nat × Bool)):Prop :=
 ∀ j n g,ns[j]?=some (n,g)→∀ v,lookN parts (i+j)=some v→v.cells.size=n
theorem Ei6 {parts parts':List (Nat × Value)} (hp:PR P μ h w parts parts'):∀ (ns:List (Nat × Bool)) (i:Nat) (zs:List Value) (k:List Value→Option α),zs.all plain1=true→Bi1 parts i ns zs k=some x →
  ∃ R,k R=some x∧VRs P μ h w R (A72 parts' i ns zs)∧Ec2 parts' i ns:=by
 intro ns
 induction ns with
 | nil =>
  intro i zs k hz hh
  cases zs with
  | nil=>exact ⟨[],hh,.nil,fun j n g hj=>by simp at hj⟩
  | cons _ _=>cases hh
 | cons p ns ih =>
  obtain ⟨n,agg⟩:=p;intro i zs k hz hh
  have hzt:(zs.take n).all plain1=true:=by
   rw [List.all_eq_true] at hz ⊢;exact fun v hv=>hz v (List.mem_of_mem_take hv)
  have hzd:(zs.drop n).all plain1=true:=by
   rw [List.all_eq_true] at hz ⊢;exact fun v hv=>hz v (List.mem_of_mem_drop hv)
  simp only [Bi1] at hh
  have done:∀ {R1:List Value} {k':List Value→Option α},(∀ R,k' R=k (R1++R))→Bi1 parts (i+1) ns (zs.drop n) k'=some x →
    VRs P μ h w R1 (match lookN parts' i with|some v=>v.cells.toList|none=>zs.take n)→(∀ v,lookN parts' i=some v→v.cells.size=n) →
    ∃ R,k R=some x∧VRs P μ h w R (A72 parts' i ((n,agg)::ns) zs)∧Ec2 parts' i ((n,agg)::ns):=by
   intro R1 k' hk hb h1 h2;obtain ⟨R,a1,a2,a3⟩:=ih (i+1) (zs.drop n) k' hzd hb;refine ⟨R1++R,(hk R) ▸ a1,?_,?_⟩
   ·simp only [A72]
    split<;>rename_i hl<;>rw [hl] at h1<;>exact h1.append a2
   ·intro j m g hj v hv
    cases j with
    | zero=>simp at hj;obtain ⟨rfl,_⟩:=hj;exact h2 v hv
    | succ j=>exact a3 j m g (by simpa using hj) v (by rw [show i+1+j=i+(j+1) by omega];exact hv)
  rcases hp.look i with ⟨h1,h2⟩|⟨v,u,h1,h2,hv⟩
  ·rw [h1] at hh;exact done (R1:=zs.take n) (fun _=>rfl) hh (by rw [h2];exact VRs.plain1 hzt) (by rw [h2];simp)
  ·rw [h1] at hh;dsimp only at hh
   split at hh
   ·obtain ⟨cs,rfl,hh⟩:=Bt9 hh;obtain ⟨hl,hh⟩:=Aj6 hh
    cases hv with
    | agg _ us hvs =>
     refine done (R1:=cs) (fun _=>rfl) hh (by rw [h2];exact hvs) (fun v hv=>?_);rw [h2] at hv;cases hv
     simp [Value.cells,hvs.length,hl]
   ·split at hh
    ·obtain ⟨hone,hh⟩:=Gq8 hh;have hone':u.oneCell=true:=by cases hv<;>first|rfl|(simp [Value.oneCell] at hone)
     refine done (R1:=[v]) (fun _=>rfl) hh (by rw [h2];simp only [Bn5 hone'];exact .cons _ _ _ _ hv .nil) (fun v hv=>?_);rw [h2] at hv;cases hv
     simp [Bn5 hone']
    ·cases hh
theorem Iz5 {l:List (Nat × Value)} {i:Nat} {v:Value} (ho:Bd5 ((i,v)::l)=true):lookN l i=none∧Bd5 l=true:=by
 simp only [Bd5,Bool.and_eq_true,Bool.not_eq_true'] at ho;refine ⟨?_,ho.2⟩;have h1:=ho.1;clear ho
 induction l with
 | nil=>rfl
 | cons p l ih =>
  obtain ⟨j,u⟩:=p;simp only [List.any_cons,Bool.or_eq_false_iff] at h1;simp only [lookN,h1.1];exact ih h1.2
theorem Io1 (vs:List Value):∀ (cs:Array Value) (off n:Nat),((vs.zipIdx n).foldl (fun cs (p:Value × Nat)=>cs.setIfInBounds (off+p.2) p.1) cs)=Da7 cs (off+n) vs:=by
 induction vs with
 | nil=>intro cs off n;rfl
 | cons v vs ih=>intro cs off n;simp only [List.zipIdx_cons,List.foldl_cons,Da7];rw [ih];rfl
theorem Jd9 (ns:List (Nat × Bool)) (place:Nat→Option (Nat × Nat)) (hplace:∀ i n g,ns[i]?=some (n,g)→place i=some (Ap5 ns i,n)) :
  ∀ (parts:List (Nat × Value)) (cells:Array Value),Bd5 parts=true→A83 parts ns.length=true→cells.size=Ai3 ns→Ec2 parts 0 ns →
  ∃ res,Instr.fill place cells parts=some res∧res.size=cells.size ∧
   ∀ i n g,ns[i]?=some (n,g)→∀ j,j<n→res[Ap5 ns i+j]?=match lookN parts i with|some v=>v.cells[j]?|none=>cells[Ap5 ns i+j]?:=by
 intro parts
 induction parts with
 | nil=>intro cells _ _ _ _;exact ⟨cells,rfl,rfl,fun i n g _ j _=>rfl⟩
 | cons p parts ih =>
  obtain ⟨i,v⟩:=p;intro cells ho hb hs hok;obtain ⟨hno,ho'⟩:=Iz5 ho
  have hb':A83 parts ns.length=true∧i<ns.length:=by
   simp only [A83,List.all_cons,Bool.and_eq_true] at hb ⊢;exact ⟨hb.2,Nat.le_of_ble_eq_true hb.1⟩
  obtain ⟨n,g,hi⟩:∃ n g,ns[i]?=some (n,g):=⟨_,_,List.getElem?_eq_getElem hb'.2⟩
  have hv:v.cells.size=n:=hok i n g hi v (by simp [lookN]);have hoff:=Jw6 hi
  let cells':=Da7 cells (Ap5 ns i) v.cells.toList
  have hlen:v.cells.toList.length=n:=by simpa using hv
  have hok':Ec2 parts 0 ns:=by
   intro j m g' hj u hu;refine hok j m g' hj u ?_;simp only [Nat.zero_add] at hu ⊢;simp only [lookN]
   cases hbj:Nat.beq i j
   ·exact hu
   ·have:=Nat.eq_of_beq_eq_true hbj;subst this;rw [hno] at hu;cases hu
  obtain ⟨res,e1,e2,e3⟩:=ih cells' ho' hb'.1 (by simp only [cells',Dw9];exact hs) hok';refine ⟨res,?_,by rw [e2];simp only [cells',Dw9],?_⟩
  ·simp only [Instr.fill,hplace i n g hi];rw [if_neg (by simp;omega)];rw [← e1]
   congr 1
   have:=Io1 v.cells.toList cells (Ap5 ns i) 0;simp only [Nat.add_zero] at this;show Array.foldl _ _ _=Da7 cells (Ap5 ns i) v.cells.toList;rw [← this,← Array.foldl_toList,Array.toList_zipIdx]
  ·intro j m g' hj q hq;rw [e3 j m g' hj q hq];simp only [lookN]
   cases hbj:Nat.beq i j
   ·simp only
    split
    ·rfl
    ·have hij:i≠j:=fun hh=>by subst hh;simp at hbj
     simp only [cells'];rw [E66 _ _ _ _ (by rw [hlen];omega),if_neg];rw [hlen];rcases Nat.lt_or_gt_of_ne hij with hlt|hlt
     ·have:=Hf0 hi hj hlt;omega
     ·have:=Hf0 hj hi hlt;omega
   ·have:=Nat.eq_of_beq_eq_true hbj;subst this;rw [hno];simp only;rw [hi] at hj;cases hj
    simp only [cells'];rw [E66 _ _ _ _ (by rw [hlen];omega),if_pos (by rw [hlen];omega)];rw [show Ap5 ns i+q-Ap5 ns i=q by omega];simp
theorem Iz9 {parts:List (Nat × Value)}:∀ (ns:List (Nat × Bool)) (i0:Nat) (zs:List Value),zs.length=Ai3 ns→Ec2 parts i0 ns →
  (A72 parts i0 ns zs).length=Ai3 ns∧∀ i n g,ns[i]?=some (n,g)→∀ j,j<n→(A72 parts i0 ns zs)[Ap5 ns i+j]?=match lookN parts (i0+i) with|some v=>v.cells[j]?|none=>zs[Ap5 ns i+j]?:=by
 intro ns
 induction ns with
 | nil=>intro i0 zs _ _;exact ⟨by simp [A72,Ai3],fun i n g hi=>by simp at hi⟩
 | cons p ns ih =>
  obtain ⟨n0,g0⟩:=p;intro i0 zs hz hok;rw [Bl7] at hz;have hok':Ec2 parts (i0+1) ns:=fun j m g hj v hv=>hok (j+1) m g (by simpa using hj) v (by rw [show i0+(j+1)=i0+1+j by omega];exact hv);obtain ⟨e1,e2⟩:=ih (i0+1) (zs.drop n0) (by simp;omega) hok';have h0:∀ v,lookN parts i0=some v→v.cells.size=n0:=fun v hv=>hok 0 n0 g0 (by simp) v hv
  have key:∀ (A:List Value),A.length=n0→(A++A72 parts (i0+1) ns (zs.drop n0)).length=Ai3 ((n0,g0)::ns) ∧
    (∀ i n g,ns[i]?=some (n,g)→∀ j,j<n→(A++A72 parts (i0+1) ns (zs.drop n0))[n0+Ap5 ns i+j]?=match lookN parts (i0+1+i) with|some v=>v.cells[j]?|none=>zs[n0+Ap5 ns i+j]?):=by
   intro A hA;refine ⟨by rw [List.length_append,e1,Bl7,hA],fun i n g hi j hj=>?_⟩;rw [List.getElem?_append_right (by omega),hA,show n0+Ap5 ns i+j-n0=Ap5 ns i+j by omega,e2 i n g hi j hj]
   split
   ·rfl
   ·rw [List.getElem?_drop,Nat.add_assoc]
  have hb:A72 parts i0 ((n0,g0)::ns) zs=(match lookN parts i0 with|some v=>v.cells.toList|none=>zs.take n0)++A72 parts (i0+1) ns (zs.drop n0):=by
   simp only [A72];split<;>rfl
  have hA:(match lookN parts i0 with|some v=>v.cells.toList|none=>zs.take n0).length=n0:=by
   split
   ·rename_i v hv;simpa using h0 v hv
   ·simp;omega
  rw [hb];refine ⟨(key _ hA).1,fun i n g hi j hj=>?_⟩
  cases i with
  | zero =>
   simp at hi;obtain ⟨rfl,rfl⟩:=hi;rw [Dx0,Nat.zero_add,List.getElem?_append_left (by omega)];simp only [Nat.add_zero]
   split
   ·simp
   ·rw [List.getElem?_take_of_lt hj]
  | succ i =>
   have:=(key _ hA).2 i n g (by simpa using hi) j hj;rw [Dc5,show i0+(i+1)=i0+1+i by omega];exact this
theorem Jj2 (ns:List (Nat × Bool)):∀ q,q<Ai3 ns→∃ i n g j,ns[i]?=some (n,g)∧j<n∧q=Ap5 ns i+j:=by
 induction ns with
 | nil=>intro q hq;simp [Ai3] at hq
 | cons p ns ih =>
  obtain ⟨n0,g0⟩:=p;intro q hq;rw [Bl7] at hq;by_cases h0:q<n0
  ·exact ⟨0,n0,g0,q,by simp,h0,by rw [Dx0];omega⟩
  ·obtain ⟨i,n,g,j,h1,h2,h3⟩:=ih (q-n0) (by simp at hq;omega);exact ⟨i+1,n,g,j,by simpa using h1,h2,by rw [Dc5];simp;omega⟩
theorem Eq9 {ns:List (Nat × Bool)} {place:Nat→Option (Nat × Nat)} (hplace:∀ i n g,ns[i]?=some (n,g)→place i=some (Ap5 ns i,n))
  {parts:List (Nat × Value)} {zs:List Value} (ho:Bd5 parts=true) (hb:A83 parts ns.length=true) (hs:zs.length=Ai3 ns) (hok:Ec2 parts 0 ns) :
  Instr.fill place ⟨zs⟩ parts=some ⟨A72 parts 0 ns zs⟩:=by
 obtain ⟨res,e1,e2,e3⟩:=Jd9 ns place hplace parts ⟨zs⟩ ho hb (by simpa using hs) hok;obtain ⟨b1,b2⟩:=Iz9 ns 0 zs hs hok;rw [e1]
 congr 1
 apply Array.ext_getElem?;intro q;by_cases hq:q<Ai3 ns
 ·obtain ⟨i,n,g,j,h1,h2,rfl⟩:=Jj2 ns q hq;rw [e3 i n g h1 j h2];have:=b2 i n g h1 j h2;simp only [Nat.zero_add] at this;simp [this]
 ·rw [Array.getElem?_eq_none (by rw [e2];simp;omega),Array.getElem?_eq_none (by simp;omega)]
end
end Go.NN

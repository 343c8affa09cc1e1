/-
  The abstract machine: values by content, objects by number, code resolved against the type table; an interpreter with fuel.; The relation between the abstract machine's values and objects and the model's: by ghost labels on blocks. What a step keeps of it.; The checker of single operations, and: an operation without effect gives, in the model, a value that is related to the abstract machine's.; An operation without effect gives, in the model, a value that is related to the abstract machine's.; Operations without effect, second part; all of them in one theorem.; Operations without effect, third part; all of them in one theorem.; Aggregates built of parts; all operations without effect in one theorem.; Short forms for the code of the abstract machine, and their opening.
  (Put together by a small program out of several texts; blanks left out to keep the folder small.)
-/
import Derived.Calls
import Derived.Below
import Derived.WalkKit
import Derived.Laws.BytesString
import Derived.Lib.Strings
set_option linter.unusedVariables false
set_option linter.unusedSimpArgs false
namespace Go.Abs
inductive Data where
 |bool (b:Bool)
 |int (k:IntKind) (n:Int)
 |str (s:List UInt8)
 |slice (len:Nat) (cells:List Data)
 |nilptr
 |nilfunc
 |nilmap
 |nilIface
 deriving Inhabited
inductive KD where
 |i (k:IntKind) (n:Int)
 |s (x:List UInt8)
 |b (b:Bool)
 deriving DecidableEq,Inhabited
inductive Key where
 |int (k:IntKind) (n:Int)
 |str (s:List UInt8)
 |bool (b:Bool)
 |st (l:List KD)
 deriving DecidableEq,Inhabited
inductive AVal where
 |any
 |d (x:Data)
 |ptr (id off:Nat)
 |iptr (cells:List Data)
 |sref (id sz lo len:Nat)
 |own (sz len:Nat) (cells:List Data)
 |nils
 |agg (cells:List AVal)
 |tuple (vs:List AVal)
 |func (f:FuncId) (first caps:List AVal)
 |map (id:Nat)
 deriving Inhabited
inductive AObj where
 |dead
 |cells (l:List AVal)
 |map (es:List (Key×AVal))
 deriving Inhabited
abbrev Heap:=List AObj
inductive Opd where
 |loc (j:Nat)
 |slot (s:Nat)
 |const (v:AVal)
 deriving Inhabited
inductive CK where
 |i
 |s
 |b
 deriving DecidableEq,Inhabited
inductive KK where
 |i
 |s
 |b
 |st (ks:List CK)
 deriving DecidableEq,Inhabited
inductive AOp where
 |mov (x:Opd)
 |pick (c a b:Opd)
 |alloc (zero:List AVal)
 |box (x:Opd)
 |build (zero:List AVal) (parts:List (Nat×Nat×Opd))
 |bslice (sz len:Nat) (zero:List AVal) (parts:List (Nat×Nat×Opd)) (ob:Bool)
 |load (n:Option Nat) (x:Opd)
 |store (n:Nat) (a x:Opd)
 |nilck (x:Opd)
 |bin (op:BinOp) (x y:Opd)
 |un (op:UnOp) (x:Opd)
 |nilS (neg:Bool) (x:Opd)
 |nilI (neg:Bool) (x:Opd)
 |eqB (neg:Bool) (x y:Opd)
 |eqS (neg:Bool) (ks:List CK) (x y:Opd)
 |convI (k:IntKind) (x:Opd)
 |convId (x:Opd)
 |convSB (x:Opd)
 |convBS (x:Opd)
 |sliceS (x:Opd) (lo hi:Option Opd)
 |sliceV (sz:Nat) (x:Opd) (lo hi:Option Opd)
 |off (k:Nat) (x:Opd)
 |idxA (sz:Nat) (x i:Opd)
 |idxP (n sz:Nat) (x i:Opd)
 |idxS (x i:Opd)
 |extract (x:Opd) (i:Nat)
 |len (x:Opd)
 |lenT (x:Opd)
 |lenM (x:Opd)
 |append (sz bytes:Nat) (ob:Bool) (x y:Opd)
 |appendN (sz bytes:Nat) (x y:Opd)
 |minmax (isMax:Bool) (xs:List Opd)
 |clear (sz:Nat) (zero:List AVal) (x:Opd)
 |mkfunc (f:FuncId) (first caps:List Opd)
 |call (f:FuncId) (xs:List Opd)
 |callv (x:Opd) (xs:List Opd)
 |makeMap
 |makeS (sz:Nat) (zero:List AVal) (x y:Opd)
 |lookup (kk:KK) (zero:AVal) (ok:Bool) (m k:Opd)
 |mapSet (kk:KK) (m k v:Opd)
 |defer (x:Opd)
 |bad
 deriving Inhabited
structure AIns where
 op:AOp
 dst:Option Nat:=none
 guard:Option (Nat×Bool):=none
 unord:List Nat:=[]
 deriving Inhabited
inductive ACode where
 |skip
 |region (ops:List AIns) (draw:Bool)
 |seq (a b:ACode)
 |cond (c:Opd) (thn els:ACode)
 |test (ops:List AIns) (draw:Bool) (c:Opd) (thn els:ACode)
 |block (id:Nat) (body:ACode)
 |loop (mask:List Bool) (body:ACode)
 |exit (id:Nat)
 |ret
 |fz (s:Nat)
 |bad
 deriving Inhabited
inductive ARes where
 |slot (s:Nat)
 |cell (s:Nat) (n:Option Nat)
 deriving Inhabited
structure AFunc where
 nparams:Nat
 names:List Nat
 body:ACode
 results:List ARes
 promote:Bool:=false
 deriving Inhabited
def AVal.asD:AVal→AVal
 | .own _ len cells=> .d (.slice len cells)
 | .nils=> .d (.slice 0 [])
 |v=>v
def AVal.one:AVal→Bool
 | .any=>false
 | .agg _=>false
 | .tuple _=>false
 |_=>true
def AVal.cells? :AVal→Option (List AVal)
 | .agg l=>if l.all AVal.one then some l else none
 |v=>if v.one then some [v] else none
def AVal.data? :AVal→Option Data
 | .d x=>some x
 | .own _ len cells=>some (.slice len cells)
 | .nils=>some (.slice 0 [])
 |_=>none
def datas? :List AVal→Option (List Data)
 |[]=>some []
 |v::vs=>match v.data? with
  |some x=>match datas? vs with
   |some xs=>some (x::xs)
   |none=>none
  |none=>none
mutual
def AVal.bnd:AVal→Nat
 | .ptr id _=>id+1
 | .sref id _ _ _=>id+1
 | .map id=>id+1
 | .agg l=>bndL l
 | .tuple l=>bndL l
 | .func _ a b=>max (bndL a) (bndL b)
 |_=>0
def bndL:List AVal→Nat
 |[]=>0
 |v::vs=>max v.bnd (bndL vs)
end
mutual
def AVal.kill (id:Nat):AVal→AVal
 | .ptr i o=>if i=id then .any else .ptr i o
 | .sref i z l n=>if i=id then .any else .sref i z l n
 | .map i=>if i=id then .any else .map i
 | .agg l=> .agg (killL id l)
 | .tuple l=> .tuple (killL id l)
 | .func f a b=> .func f (killL id a) (killL id b)
 |v=>v
def killL (id:Nat):List AVal→List AVal
 |[]=>[]
 |v::vs=>v.kill id::killL id vs
end
def AObj.bnd:AObj→Nat
 | .dead=>0
 | .cells l=>bndL l
 | .map es=>bndL (es.map (·.2))
def discFrom:List AObj→Nat→Bool
 |[],_=>true
 |o::os,k=>o.bnd≤k+1&&discFrom os (k+1)
def bndO:List AObj→Nat
 |[]=>0
 |o::os=>max o.bnd (bndO os)
def AObj.kill (id:Nat):AObj→AObj
 | .dead=> .dead
 | .cells l=> .cells (killL id l)
 | .map es=> .map (es.map fun p=>(p.1,p.2.kill id))
def rd (H:Heap)(id off n:Nat):Option (List AVal) :=
 match H[id]? with
 |some (.cells l)=>if off+n≤l.length then some ((l.drop off).take n) else none
 |_=>none
def splice (l:List AVal)(off:Nat)(vs:List AVal):List AVal:=l.take off++vs++l.drop (off+vs.length)
def wr (H:Heap)(id off:Nat)(vs:List AVal):Option Heap :=
 match H[id]? with
 |some (.cells l)=>if off+vs.length≤l.length then some (H.set id (.cells (splice l off vs))) else none
 |_=>none
def i64 (n:Int):AVal:= .d (.int .i64 n)
def binInt (op:BinOp)(k:IntKind)(a b:Int):Option Data :=
 match op with
 | .add=>some (.int k (k.wrap (a+b)))
 | .sub=>some (.int k (k.wrap (a - b)))
 | .mul=>some (.int k (k.wrap (a * b)))
 | .quo=>if b=0 then none else some (.int k (k.wrap (a.tdiv b)))
 | .rem=>if b=0 then none else some (.int k (a.tmod b))
 | .and=>some (.int k (k.wrap (BitVec.ofInt k.bits a&&&BitVec.ofInt k.bits b).toNat))
 | .or=>some (.int k (k.wrap (BitVec.ofInt k.bits a|||BitVec.ofInt k.bits b).toNat))
 | .xor=>some (.int k (k.wrap (BitVec.ofInt k.bits a ^^^ BitVec.ofInt k.bits b).toNat))
 | .eql=>some (.bool (a==b))
 | .neq=>some (.bool (a != b))
 | .lss=>some (.bool (a<b))
 | .leq=>some (.bool (a≤b))
 | .gtr=>some (.bool (a>b))
 | .geq=>some (.bool (a≥b))
 |_=>none
def binShift (op:BinOp)(k:IntKind)(a b:Int):Option Data :=
 if b<0 then none else
 match op with
 | .shl=>some (.int k (k.wrap (a * 2 ^ (min b.toNat k.bits))))
 | .shr=>some (.int k (a.fdiv (2 ^ (min b.toNat k.bits))))
 |_=>none
def binStr (op:BinOp)(a b:List UInt8):Option Data :=
 match op with
 | .add=>if a.length+b.length<4611686018427387904 then some (.str (a++b)) else none
 | .eql=>some (.bool (a==b))
 | .neq=>some (.bool (!(a==b)))
 | .lss=>some (.bool (Op.bytesLess a b))
 | .leq=>some (.bool (Op.bytesLess a b||a==b))
 | .gtr=>some (.bool (!(Op.bytesLess a b||a==b)))
 | .geq=>some (.bool (!(Op.bytesLess a b)))
 |_=>none
def isShift:BinOp→Bool
 | .shl=>true
 | .shr=>true
 |_=>false
def binData (op:BinOp):Data→Data→Option Data
 | .int k a,.int k' b=>if isShift op then binShift op k a b else if k=k' then binInt op k a b else none
 | .str a,.str b=>binStr op a b
 |_,_=>none
def unData (op:UnOp):Data→Option Data
 | .int k n=>match op with
  | .neg=>some (.int k (k.wrap (0 - n)))
  |_=>none
 | .bool b=>match op with
  | .not=>some (.bool (!b))
  |_=>none
 |_=>none
def fillA (cells:List AVal):List (Nat×Nat×AVal)→Option (List AVal)
 |[]=>some cells
 |(off,sz,v)::rest=>match v.cells? with
  |some l=>if l.length=sz∧off+sz≤cells.length then fillA (splice cells off l) rest else none
  |none=>none
def bytesOf? :List Data→Option (List UInt8)
 |[]=>some []
 | .int .u8 n::r=>match bytesOf? r with
  |some bs=>some (UInt8.ofNat n.toNat::bs)
  |none=>none
 |_=>none
def minmax2 (isMax:Bool)(a b:Data):Option Data :=
 match a,b with
 | .int k x,.int _ y=>some (.int k (if isMax then (if y>x then y else x) else (if y<x then y else x)))
 |_,_=>none
def minmaxL (isMax:Bool):Data→List AVal→Option Data
 |a,[]=>some a
 |a,.d b::r=>match minmax2 isMax a b with
  |some c=>minmaxL isMax c r
  |none=>none
 |_,_=>none
def Data.cellEq:CK→Data→Data→Option Bool
 | .i,.int k a,.int k' b=>if k=k' then some (a==b) else none
 | .s,.str a,.str b=>some (a==b)
 | .b,.bool a,.bool b=>some (a==b)
 |_,_,_=>none
def cellsEq:List CK→List AVal→List AVal→Option Bool
 |[],[],[]=>some true
 |k::ks,.d a::r,.d b::q=>match Data.cellEq k a b with
  |some t=>match cellsEq ks r q with
   |some u=>some (t&&u)
   |none=>none
  |none=>none
 |_,_,_=>none
def KD.av:KD→AVal
 | .i k n=> .d (.int k n)
 | .s x=> .d (.str x)
 | .b t=> .d (.bool t)
def kds? :List AVal→Option (List KD)
 |[]=>some []
 | .d (.int k n)::vs=>match kds? vs with
  |some r=>some (.i k n::r)
  |none=>none
 | .d (.str x)::vs=>match kds? vs with
  |some r=>some (.s x::r)
  |none=>none
 | .d (.bool t)::vs=>match kds? vs with
  |some r=>some (.b t::r)
  |none=>none
 |_=>none
def AVal.key? :AVal→Option Key
 | .d (.int k n)=>some (.int k n)
 | .d (.str s)=>some (.str s)
 | .d (.bool b)=>some (.bool b)
 | .agg l=>match kds? l with
  |some r=>some (.st r)
  |none=>none
 |_=>none
def Data.keyEq:KK→Key→Key→Option Bool
 | .i,.int k a,.int k' b=>if k=k' then some (a==b) else none
 | .s,.str a,.str b=>some (a==b)
 | .b,.bool a,.bool b=>some (a==b)
 | .st ks,.st l,.st m=>cellsEq ks (l.map KD.av) (m.map KD.av)
 |_,_,_=>none
def KK.fits (kk:KK)(k:Key):Bool:=match kk,k with
 | .st ks,.st l=>(cellsEq ks (l.map KD.av) (l.map KD.av)).isSome
 | .st _,_=>false
 |_,_=>true
def mapFind (kk:KK)(k:Key):List (Key×AVal)→Option (Option AVal)
 |[]=>some none
 |(k',v)::r=>match Data.keyEq kk k k' with
  |some true=>some (some v)
  |some false=>mapFind kk k r
  |none=>none
def mapPut (kk:KK)(k:Key)(v:AVal):List (Key×AVal)→Option (List (Key×AVal))
 |[]=>some [(k,v)]
 |(k',v')::r=>match Data.keyEq kk k k' with
  |some true=>some ((k,v)::r)
  |some false=>match mapPut kk k v r with
   |some r' =>some ((k',v')::r')
   |none=>none
  |none=>none
def bound? (ρ:Opd→AVal)(dflt:Nat):Option Opd→Option Int
 |none=>some dflt
 |some x=>match ρ x with
  | .d (.int _ n)=>some n
  |_=>none
def sliceCells (H:Heap)(sz:Nat):AVal→Option (Nat×List AVal)
 | .d (.slice len cells)=>if cells.length=len * sz then some (len,cells.map .d) else none
 | .own z len cells=>if z=sz then some (len,cells.map .d) else none
 | .sref id z lo len=>if z=sz then match rd H id lo (len * sz) with
   |some cs=>some (len,cs.map AVal.asD)
   |none=>none
  else none
 | .d (.str s)=>if sz=1 then some (s.length,s.map fun b=> .d (.int .u8 b.toNat)) else none
 |_=>none
def pureOp (ρ:Opd→AVal)(H:Heap):AOp→Option (AVal×List Nat)
 | .pick c a b=>match ρ c with
  | .d (.bool t)=>some (if t then ρ a else ρ b,[])
  |_=>none
 | .build zero parts=>match fillA zero (parts.map fun (o,s,x)=>(o,s,ρ x)) with
  |some cs=>some (.agg cs,[])
  |none=>none
 | .bslice sz len zero parts false=>match fillA zero (parts.map fun (o,s,x)=>(o,s,ρ x)) with
  |some cs=>match datas? cs with
   |some xs=>if 0<sz∧xs.length=len * sz then some (.own sz len xs,[]) else none
   |none=>none
  |none=>none
 | .load none x=>match ρ x with
  | .ptr id off=>match rd H id off 1 with
   |some [v]=>some (v.asD,[id])
   |_=>none
  | .iptr (c::_)=>some (.d c,[])
  |_=>none
 | .load (some n) x=>match ρ x with
  | .ptr id off=>match rd H id off n with
   |some vs=>some (.agg (vs.map AVal.asD),[id])
   |none=>none
  | .iptr cells=>if n≤cells.length then some (.agg ((cells.take n).map .d),[]) else none
  |_=>none
 | .nilck x=>match ρ x with
  | .ptr id off=>some (.ptr id off,[])
  | .iptr cells=>some (.iptr cells,[])
  | .func f a b=>some (.func f a b,[])
  |_=>none
 | .bin op x y=>match ρ x,ρ y with
  | .d a,.d b=>match binData op a b with
   |some r=>some (.d r,[])
   |none=>none
  |_,_=>none
 | .nilI neg x=>match ρ x with
  | .d .nilIface=>some (.d (.bool (!neg)),[])
  |_=>none
 | .eqB neg x y=>match ρ x,ρ y with
  | .d (.bool a),.d (.bool b)=>some (.d (.bool (neg != (a==b))),[])
  |_,_=>none
 | .eqS neg ks x y=>match ρ x,ρ y with
  | .agg a,.agg b=>match cellsEq ks a b with
   |some t=>some (.d (.bool (neg != t)),[])
   |none=>none
  |_,_=>none
 | .un op x=>match ρ x with
  | .d a=>match unData op a with
   |some r=>some (.d r,[])
   |none=>none
  |_=>none
 | .nilS neg x=>match ρ x with
  | .d (.slice len _)=>if 0<len then some (.d (.bool neg),[]) else none
  | .sref _ _ _ _=>some (.d (.bool neg),[])
  |_=>none
 | .convI k x=>match ρ x with
  | .d (.int _ n)=>some (.d (.int k (k.wrap n)),[])
  |_=>none
 | .convId x=>match ρ x with
  | .d (.str s)=>some (.d (.str s),[])
  |_=>none
 | .convBS x=>match ρ x with
  | .d (.slice len cells)=>if cells.length=len then match bytesOf? cells with
    |some bs=>some (.d (.str bs),[])
    |none=>none
   else none
  |_=>none
 | .convSB x=>match ρ x with
  | .d (.str s)=>some (.own 1 s.length (s.map fun b=> .int .u8 b.toNat),[])
  |_=>none
 | .sliceS x lo hi=>match ρ x with
  | .d (.str s)=>match bound? ρ 0 lo,bound? ρ s.length hi with
   |some l,some h=>if 0≤l∧l≤h∧h≤s.length then some (.d (.str ((s.take h.toNat).drop l.toNat)),[]) else none
   |_,_=>none
  |_=>none
 | .sliceV sz x lo hi=>match ρ x with
  | .d (.slice len cells)=>match bound? ρ 0 lo,bound? ρ len hi with
   |some l,some h=>if 0≤l∧l≤h∧h≤len∧cells.length=len * sz then
     some (.d (.slice (h - l).toNat ((cells.take (h.toNat * sz)).drop (l.toNat * sz))),[]) else none
   |_,_=>none
  | .sref id z a len=>match bound? ρ 0 lo,bound? ρ len hi with
   |some l,some h=>if 0≤l∧l≤h∧h≤len∧z=sz then
     if l=h then some (.d (.slice 0 []),[]) else some (.sref id sz (a+l.toNat * sz) (h - l).toNat,[]) else none
   |_,_=>none
  |_=>none
 | .off k x=>match ρ x with
  | .ptr id off=>some (.ptr id (off+k),[])
  | .iptr cells=>some (.iptr (cells.drop k),[])
  |_=>none
 | .idxA sz x i=>match ρ x,ρ i with
  | .d (.slice len cells),.d (.int _ i)=>if 0≤i∧i<len then some (.iptr (cells.drop (i.toNat * sz)),[]) else none
  | .sref id z lo len,.d (.int _ i)=>if 0≤i∧i<len∧z=sz then some (.ptr id (lo+i.toNat * sz),[]) else none
  |_,_=>none
 | .idxP n sz x i=>match ρ x,ρ i with
  | .ptr id off,.d (.int _ i)=>if 0≤i∧i<n then some (.ptr id (off+i.toNat * sz),[]) else none
  | .iptr cells,.d (.int _ i)=>if 0≤i∧i<n then some (.iptr (cells.drop (i.toNat * sz)),[]) else none
  |_,_=>none
 | .idxS x i=>match ρ x,ρ i with
  | .d (.str s),.d (.int _ i)=>if 0≤i then match s[i.toNat]? with
    |some b=>some (.d (.int .u8 b.toNat),[])
    |none=>none
   else none
  |_,_=>none
 | .extract x i=>match ρ x with
  | .tuple vs=>match vs[i]? with
   |some v=>some (v,[])
   |none=>none
  |_=>none
 | .len x=>match ρ x with
  | .d (.slice len _)=>some (i64 len,[])
  | .sref _ _ _ len=>some (i64 len,[])
  |_=>none
 | .lenT x=>match ρ x with
  | .d (.str s)=>some (i64 s.length,[])
  |_=>none
 | .lenM x=>match ρ x with
  | .d .nilmap=>some (i64 0,[])
  | .map id=>match H[id]? with
   |some (.map es)=>some (i64 es.length,[id])
   |_=>none
  |_=>none
 | .minmax isMax xs=>match xs.map ρ with
  | .d a::r=>match minmaxL isMax a r with
   |some c=>some (.d c,[])
   |none=>none
  |_=>none
 | .mkfunc f first caps=>some (.func f (first.map ρ) (caps.map ρ),[])
 | .lookup kk zero ok m k=>match ρ m,(ρ k).key? with
  | .map id,some key=>match H[id]? with
   |some (.map es)=>match mapFind kk key es,kk.fits key with
    |some r,true=>some (if ok then .tuple [r.getD zero,.d (.bool r.isSome)] else r.getD zero,[id])
    |_,_=>none
   |_=>none
  | .d .nilmap,some key=>match Data.keyEq kk key key with
   |some true=>some (if ok then .tuple [zero,.d (.bool false)] else zero,[])
   |_=>none
  |_,_=>none
 |_=>none
inductive Touch where
 |slot (s:Nat)
 |obj (id:Nat)
 |cell (id off:Nat)
 |below (n:Nat)
 deriving Inhabited
structure RSt where
 T:List AVal
 H:Heap
 L:List AVal
 tch:List Touch
def Touch.slotHit (s:Nat):Touch→Bool
 | .slot t=>t==s
 |_=>false
def Touch.objHit (id:Nat):Touch→Bool
 | .obj i=>i==id
 | .below n=>id<n
 |_=>false
def Touch.cellHit (id off:Nat):Touch→Bool
 | .obj i=>i==id
 | .cell i o=>i==id&&o==off
 | .below n=>id<n
 |_=>false
def AVal.cst:AVal→AVal
 | .nils=> .nils
 |v=>v.asD
def rho (T L:List AVal):Opd→AVal
 | .loc j=>(L.getD j .any).asD
 | .slot s=>(T.getD s .any).asD
 | .const v=>v.cst
def ptrOf (st:RSt):Opd→Option (Nat×Nat)
 | .loc m=>match st.L[m]? with
  |some (.ptr id off)=>some (id,off)
  |_=>none
 | .slot s=>if st.tch.any (Touch.slotHit s) then none else match st.T[s]? with
  |some (.ptr id off)=>some (id,off)
  |_=>none
 | .const _=>none
structure Lim where
 flo:Nat
 fhi:Nat
 base:Nat
 strict:Nat
def Lim.may (l:Lim)(id:Nat):Bool:=decide (id<l.flo)||decide (l.fhi≤id)
def Lim.forbid (l:Lim)(a b base strict:Nat):Lim :=
 if l.fhi≤l.flo then ⟨a,b,base,strict⟩ else ⟨min l.flo a,max l.fhi b,base,strict⟩
def takeVia (l:Lim)(st:RSt)(sz:Nat):AOp→Option (Nat×List Data×RSt)
 | .mov (.slot s) =>
  if st.tch.any (Touch.slotHit s) then none else
  match st.T[s]? with
  |some (.own z len cells)=>if z=sz then some (len,cells,{ st with T:=st.T.set s (.d (.slice len cells)),tch:= .slot s::st.tch }) else none
  |_=>none
 | .load none x =>
  match ptrOf st x with
  |some (id,off) =>
   if st.tch.any (Touch.cellHit id off)|| !l.may id then none else
   match st.H[id]? with
   |some (.cells cs) =>
    match cs[off]? with
    |some (.own z len cells)=>if z=sz then some (len,cells,{ st with H:=st.H.set id (.cells (cs.set off (.d (.slice len cells)))),tch:= .cell id off::st.tch }) else none
    |_=>none
   |_=>none
  |none=>none
 |_=>none
def takeOwn (l:Lim)(ais:List AIns)(st:RSt)(sz:Nat):Opd→Option (Nat×List Data×RSt)
 | .const (.own z len cells)=>if z=sz then some (len,cells,st) else none
 | .const _=>none
 | .slot _=>none
 | .loc j =>
  match st.L[j]? with
  |some (.own z len cells)=>if z=sz then some (len,cells,{ st with L:=st.L.set j (.d (.slice len cells)) }) else none
  |some (.d (.slice _ _))=>match ais[j]? with
   |some a=>takeVia l st sz a.op
   |none=>none
  |_=>none
def roomFor (n bytes:Nat):Bool:=decide ((2 * n+512) * bytes≤281474976710656)
abbrev CallF:=FuncId→List AVal→Heap→Lim→Option (AVal×Heap)
def put (st:RSt)(k:Nat)(v:AVal):RSt:={ st with L:=st.L.set k v }
def xfer (st:RSt):Opd→AVal×RSt
 | .loc j=>match st.L[j]? with
  |some (.own z len cells)=>(.own z len cells,{ st with L:=st.L.set j (.d (.slice len cells)) })
  |some .nils=>(.nils,st)
  |_=>(rho st.T st.L (.loc j),st)
 | .const v=>(v,st)
 | .slot s=>(rho st.T st.L (.slot s),st)
structure Env where
 cf:CallF
 prom:FuncId→Bool
 mode:FuncId→Nat
 idle:FuncId→Bool
 lim:Lim
 entry:Nat
def closeN (H:Heap)(strict:Nat):Nat→Nat→Nat
 |0,n=>n
 |k+1,n=>if n≤strict then n else
  let m:=max n (bndO ((H.take n).drop strict))
  if m=n then n else closeN H strict k m
def strictOf (H:Heap)(strict n:Nat):Nat :=
 if n≤strict then n else if discFrom ((H.take n).drop strict) strict then n else strict
def callEff (E:Env)(k:Nat)(f:FuncId)(args:List AVal)(st:RSt):Option RSt :=
 if E.prom f then
  match E.cf f args st.H E.lim with
  |some (v,H1)=>if st.H.length≤H1.length then some (put { st with H:=H1,tch:= .below H1.length::st.tch } k v) else none
  |none=>none
 else
  let n:=closeN st.H E.lim.strict 8 (bndL args)
  if n≤st.H.length∧bndO ((st.H.take n).drop E.lim.strict)≤n then
   match E.mode f with
   |0=>match E.cf f args (st.H.take n) { E.lim with base:=n,strict:=strictOf st.H E.lim.strict n } with
    |some (v,H1)=>if H1.length=n then some (put { st with H:=H1++st.H.drop n,tch:= .below n::st.tch } k v) else none
    |none=>none
   |1=>match E.cf f args (st.H.take n) ⟨0,n,n,strictOf st.H E.lim.strict n⟩ with
    |some (v,H1)=>if H1.length=n then some (put st k v) else none
    |none=>none
   |_ =>
    let m:=(args.headD .any).bnd
    match E.cf f args (st.H.take n) (E.lim.forbid m n n (strictOf st.H E.lim.strict n)) with
    |some (v,H1)=>if H1.length=n∧m≤n then some (put { st with H:=H1.take m++st.H.drop m,tch:= .below m::st.tch } k v) else none
    |none=>none
  else none
def newId (st:RSt)(nid:Option Nat):Nat:=nid.getD st.H.length
def newObjA (st:RSt)(nid:Option Nat)(o:AObj):RSt :=
 match nid with
 |none=>{ st with H:=st.H++[o] }
 |some i=>{ st with H:=st.H.set i o }
def storeEff (E:Env)(k n:Nat)(st:RSt)(a:AVal)(x:Opd):Option RSt :=
 match a with
 | .ptr id off =>
  match (xfer st x).1.cells? with
  |some l =>
   if l.length=n∧E.lim.may id∧(bndL l≤id+1∨(E.lim.base≤id∧E.lim.strict≤id)) then
    match wr (xfer st x).2.H id off l with
    |some H' =>some (put { (xfer st x).2 with H:=H',tch:= .obj id::(xfer st x).2.tch } k .any)
    |none=>none
   else none
  |none=>none
 |_=>none
def appendObj (E:Env)(k sz bytes:Nat)(st:RSt)(id lo len:Nat)(y:AVal):Option RSt :=
 if E.lim.base≤id∧E.entry≤id∧E.lim.may id then
  match st.H[id]?,sliceCells st.H sz y with
  |some (.cells l),some (m,cs) =>
   if lo=0∧len * sz=l.length∧roomFor (len+m) bytes∧bndL cs≤id∧cs.all AVal.one∧0<sz then
    some (put { T:=killL id st.T,H:=(st.H.take E.lim.base++(st.H.drop E.lim.base).map (AObj.kill id)).set id (.cells (killL id l++cs)),L:=killL id st.L,tch:= .obj id::st.tch } k (.sref id sz lo (len+m)))
   else none
  |_,_=>none
 else none
def nilVia (l:Lim)(st:RSt):AOp→Bool
 | .mov (.slot s)=> !st.tch.any (Touch.slotHit s)&&(match st.T[s]? with
  |some .nils=>true
  |_=>false)
 | .load none x =>
  match ptrOf st x with
  |some (id,off)=> !st.tch.any (Touch.cellHit id off)&&l.may id&&(match st.H[id]? with
   |some (.cells cs)=>(match cs[off]? with
    |some .nils=>true
    |_=>false)
   |_=>false)
  |none=>false
 |_=>false
def isNil (l:Lim)(ais:List AIns)(st:RSt):Opd→Bool
 | .const .nils=>true
 | .loc j=>match st.L[j]? with
  |some .nils=>true
  |some (.d (.slice _ _))=>match ais[j]? with
   |some a=>nilVia l st a.op
   |none=>false
  |_=>false
 |_=>false
def appendOwn (E:Env)(ais:List AIns)(nid:Option Nat)(k sz bytes:Nat)(ob:Bool)(st:RSt)(x:Opd)(y:AVal):Option RSt :=
 match sliceCells st.H sz y with
 |some (m,cs) =>
  if ob then
   if isNil E.lim ais st x∧roomFor m bytes∧0<sz then
    if m=0 then some (put st k .nils)
    else some (put (newObjA st nid (.cells cs)) k (.sref (newId st nid) sz 0 m))
   else none
  else
   match datas? cs with
   |some new =>
    match takeOwn E.lim ais st sz x with
    |some (len,cells,st') =>
     if roomFor (len+m) bytes∧0<sz then some (put st' k (.own sz (len+m) (cells++new))) else none
    |none=>none
   |none=>none
 |none=>none
def appendNew (E:Env)(nid:Option Nat)(k sz bytes:Nat)(st:RSt)(id lo len:Nat)(y:AVal):Option RSt :=
 if E.lim.may id then
  match st.H[id]?,sliceCells st.H sz y with
  |some (.cells l),some (m,cs) =>
   if lo=0∧len * sz=l.length∧roomFor (len+m) bytes∧bndL cs≤id∧cs.all AVal.one∧0<sz then
    some (put (newObjA { st with H:=st.H.set id .dead,tch:= .obj id::st.tch } nid (.cells (l.map AVal.asD++cs))) k (.sref (newId st nid) sz lo (len+m)))
   else none
  |_,_=>none
 else none
def clearEff (E:Env)(k sz:Nat)(zero:List AVal)(st:RSt):AVal→Option RSt
 | .sref id z lo len =>
  if z=sz∧zero.length=sz∧bndL zero=0∧E.lim.may id then
   match wr st.H id lo ((List.replicate len zero).flatten) with
   |some H' =>some (put { st with H:=H',tch:= .obj id::st.tch } k (.tuple []))
   |none=>none
  else none
 | .d (.slice 0 _)=>some (put st k (.tuple []))
 |_=>none
def mapSetEff (E:Env)(k:Nat)(kk:KK)(st:RSt)(m key v:AVal):Option RSt :=
 match m,key.key? with
 | .map id,some kd=>match st.H[id]? with
  |some (.map es) =>
   if v.bnd≤id+1∧E.lim.may id then
    match Data.keyEq kk kd kd with
    |some true=>match mapPut kk kd v es with
     |some es' =>some (put { st with H:=st.H.set id (.map es'),tch:= .obj id::st.tch } k .any)
     |none=>none
    |_=>none
   else none
  |_=>none
 |_,_=>none
def makeN (sz:Nat)(zero:List AVal):AVal→AVal→Option Nat
 | .d (.int .i64 n),.d (.int .i64 m)=>if n=m∧0≤n∧n≤1000000∧0<sz∧zero.length=sz then some n.toNat else none
 |_,_=>none
def effOp (E:Env)(ais:List AIns)(nid:Option Nat)(k:Nat)(st:RSt):AOp→Option RSt
 | .alloc zero=>some (put (newObjA st nid (.cells zero)) k (.ptr (newId st nid) 0))
 | .box x=>match (rho st.T st.L x).cells? with
  |some l=>some (put (newObjA st nid (.cells l)) k (.ptr (newId st nid) 0))
  |none=>none
 | .makeMap=>some (put (newObjA st nid (.map [])) k (.map (newId st nid)))
 | .makeS sz zero x y=>match makeN sz zero (rho st.T st.L x) (rho st.T st.L y) with
  |some n=>some (put (newObjA st nid (.cells (List.replicate n zero).flatten)) k (.sref (newId st nid) sz 0 n))
  |none=>none
 | .bslice sz len zero parts true=>match fillA zero (parts.map fun (o,s,x)=>(o,s,rho st.T st.L x)) with
  |some cs=>if 0<sz∧cs.length=len * sz then some (put (newObjA st nid (.cells cs)) k (.sref (newId st nid) sz 0 len)) else none
  |none=>none
 | .store n a x=>storeEff E k n st (rho st.T st.L a) x
 | .append sz bytes ob x y =>
  match rho st.T st.L x with
  | .sref id z lo len=>if z=sz then appendObj E k sz bytes st id lo len (rho st.T st.L y) else none
  |_=>appendOwn E ais nid k sz bytes ob st x (rho st.T st.L y)
 | .appendN sz bytes x y =>
  match rho st.T st.L x with
  | .sref id z lo len=>if z=sz then appendNew E nid k sz bytes st id lo len (rho st.T st.L y) else none
  |_=>appendOwn E ais nid k sz bytes true st x (rho st.T st.L y)
 | .clear sz zero x=>clearEff E k sz zero st (rho st.T st.L x)
 | .call f xs=>callEff E k f (xs.map (rho st.T st.L)) st
 | .callv x xs=>match rho st.T st.L x with
  | .func f first caps=>callEff E k f (first++xs.map (rho st.T st.L)++caps) st
  |_=>none
 | .mapSet kk m key v=>mapSetEff E k kk st (rho st.T st.L m) (rho st.T st.L key) (rho st.T st.L v)
 | .defer x=>match rho st.T st.L x with
  | .func f _ _=>if E.idle f then some (put st k .any) else none
  |_=>none
 |_=>none
def AOp.isEff:AOp→Bool
 | .alloc _=>true
 | .box _=>true
 | .makeMap=>true
 | .makeS .. =>true
 | .bslice _ _ _ _ b=>b
 | .store .. =>true
 | .append .. =>true
 | .appendN .. =>true
 | .call .. =>true
 | .callv .. =>true
 | .mapSet .. =>true
 | .clear .. =>true
 | .defer _=>true
 |_=>false
def toSlot (st:RSt)(k:Nat):Option Nat→Option RSt
 |none=>some st
 |some s =>
  if s<st.T.length then
   some { (xfer st (.loc k)).2 with T:=st.T.set s (xfer st (.loc k)).1,tch:= .slot s::st.tch }
  else none
def toSlotN (st:RSt)(k:Nat):Option Nat→Option RSt
 |none=>some st
 |some s =>
  if s<st.T.length&&st.tch.any (Touch.slotHit s) then
   some { (xfer st (.loc k)).2 with T:=st.T.set s (xfer st (.loc k)).1 }
  else none
def toSlotX (nid:Option Nat)(st:RSt)(k:Nat)(dst:Option Nat):Option RSt :=
 match nid with
 |none=>toSlot st k dst
 |some _=>toSlotN st k dst
def wantedA (L:List AVal):Option (Nat×Bool)→Option Bool
 |none=>some true
 |some (j,want)=>match L[j]? with
  |some (.d (.bool b))=>some (b==want)
  |some (.tuple [])=>some false
  |_=>none
def stepW (E:Env)(ais:List AIns)(nid:Option Nat)(k:Nat)(op:AOp)(st:RSt):Option (RSt×List Nat) :=
 if op.isEff then
  match effOp E ais nid k st op with
  |some st' =>some (st',[])
  |none=>none
 else
  match op with
  | .mov x=>some (put (xfer st x).2 k (xfer st x).1,[])
  |op=>match pureOp (rho st.T st.L) st.H op with
   |some (v,rs)=>some (put st k v,rs)
   |none=>none
def stepA (E:Env)(ais:List AIns)(nid:Option Nat)(k:Nat)(i:AIns)(st:RSt):Option (RSt×List Nat) :=
 match wantedA st.L i.guard with
 |some true =>
  match stepW E ais nid k i.op st with
  |some (st',rs)=>match toSlotX nid st' k i.dst with
   |some st2=>some (st2,rs)
   |none=>none
  |none=>none
 |some false=>match toSlotX nid (put st k (.tuple [])) k i.dst with
  |some st2=>some (st2,[])
  |none=>none
 |none=>none
def runOps (E:Env)(ais:List AIns):List AIns→Nat→RSt→Option RSt
 |[],_,st=>some st
 |i::is,k,st=>match stepA E ais none k i st with
  |some (st',_)=>runOps E ais is (k+1) st'
  |none=>none
def AOp.isAlloc:AOp→Bool
 | .alloc _=>true
 | .box _=>true
 | .makeMap=>true
 | .makeS .. =>true
 | .bslice _ _ _ _ ob=>ob
 | .append _ _ ob _ _=>ob
 | .appendN .. =>true
 |_=>false
def hitsObj (hs:List Touch)(rs:List Nat):Bool:=hs.any fun t=>rs.any fun id=>t.objHit id
structure LogE where
 reads:List Nat
 hits:List Touch
 sees:Nat
 id:Nat
def seesOf (E:Env)(st:RSt):AOp→Nat
 | .call f xs=>if E.prom f then st.H.length else closeN st.H E.lim.strict 8 (bndL (xs.map (rho st.T st.L)))
 | .callv x xs=>match rho st.T st.L x with
  | .func f first caps=>if E.prom f then st.H.length else closeN st.H E.lim.strict 8 (bndL (first++xs.map (rho st.T st.L)++caps))
  |_=>0
 |_=>0
def killing (st:RSt):AOp→Bool
 | .append _ _ _ x _=>match rho st.T st.L x with
  | .sref _ _ _ _=>true
  |_=>false
 |_=>false
def newHit:Option Nat→List Touch
 |some n=>[.obj n]
 |none=>[]
def logOf (E:Env)(i:AIns)(nid:Option Nat)(st st' :RSt)(rs:List Nat):LogE :=
 ⟨rs,newHit nid++st'.tch.take (st'.tch.length - st.tch.length),seesOf E st i.op,nid.getD 0⟩
def calm (st:RSt)(op:AOp)(a:AIns):Bool:=match op,a.op with
 | .append _ _ _ x _,.mov (.slot s)=>a.dst.isNone&&a.guard.isNone&&(match rho st.T st.L x,st.T[s]? with
  | .sref id _ _ _,some (.ptr j _)=> !Nat.beq j id
  |_,_=>false)
 |_,_=>false
def stepD (E:Env)(ais:List AIns)(nid:Option Nat)(k:Nat)(i:AIns)(st:RSt):Option (RSt×LogE) :=
 if killing st i.op&&ais.any (fun a=>a.unord.contains k&& !calm st i.op a) then none else
 match stepA E ais nid k i st with
 |some (st',rs)=>some (st',logOf E i nid st st' rs)
 |none=>none
def runOpsD (E:Env)(ais:List AIns):List AIns→Nat→Nat→RSt→Option (RSt×List LogE)
 |[],_,_,st=>some (st,[])
 |i::is,k,na,st=>match stepD E ais (if i.op.isAlloc then some na else none) k i st with
  |some (st',l) =>
   match runOpsD E ais is (k+1) (if i.op.isAlloc then na+1 else na) st' with
   |some (st2,lg)=>some (st2,l::lg)
   |none=>none
  |none=>none
def okLog (ais:List AIns)(lg:List LogE):Bool :=
 (ais.zip lg).all fun (i,l)=>i.unord.all fun e=>match lg[e]? with
  |some le=> !hitsObj le.hits l.reads&&(!i.op.isAlloc||decide (le.sees≤l.id))
  |none=>false
def allocsOf (ais:List AIns):Heap:=(ais.filter (·.op.isAlloc)).map fun _=> .dead
def slotsOf (ais:List AIns):List Touch:=ais.filterMap fun i=>if i.op.isAlloc then i.dst.map .slot else none
def runRegion (E:Env)(ais:List AIns)(draw:Bool)(T:List AVal)(H:Heap):Option RSt :=
 if draw then
  match runOpsD E ais ais 0 H.length ⟨T,H++allocsOf ais,List.replicate ais.length .any,slotsOf ais⟩ with
  |some (st,lg)=>if okLog ais lg then some st else none
  |none=>none
 else runOps E ais ais 0 ⟨T,H,List.replicate ais.length .any,[]⟩
inductive AExit where
 |normal
 |exit (id:Nat)
 |ret
 deriving Inhabited
structure St where
 T:List AVal
 H:Heap
def maskT:List Bool→List AVal→List AVal
 |true::m,v::vs=>v::maskT m vs
 |false::m,_::vs=> .any::maskT m vs
 |[],_::vs=> .any::maskT [] vs
 |_,[]=>[]
def clean (mask:List Bool)(strict n:Nat)(st:St):St :=
 if bndL (maskT mask st.T)≤n∧bndO ((st.H.take n).drop strict)≤n then ⟨maskT mask st.T,st.H.take n⟩ else ⟨maskT mask st.T,st.H⟩
def loopN (body:St→Option (AExit×St))(mask:List Bool)(strict n:Nat):Nat→St→Option (AExit×St)
 |0,_=>none
 |k+1,st=>match body (clean mask strict n st) with
  |some (.normal,st')=>loopN body mask strict n k st'
  |r=>r
def refAt:List AVal→Nat→Option (Nat×Nat×Nat×Nat×Nat)
 |[],_=>none
 | .sref id sz lo len::_,i=>some (i,id,sz,lo,len)
 |_::r,i=>refAt r (i+1)
def fzAt (lim:Lim)(entry s:Nat)(st:St):Option St :=
 match st.T[s]? with
 |some (.ptr b 0)=>match st.H[b]? with
  |some (.cells cs)=>match refAt cs 0 with
   |some (i,id,sz,lo,len)=>match rd st.H id lo (len * sz) with
    |some vs=>match datas? vs with
     |some xs =>
      if lim.base≤id∧entry≤id∧lim.may id=true∧lim.base≤b∧id≠b then
       some ⟨killL id st.T,((st.H.take lim.base++(st.H.drop lim.base).map (AObj.kill id)).set id .dead).set b (.cells ((killL id cs).set i (.d (.slice len xs))))⟩
      else none
     |none=>none
    |none=>none
   |none=>none
  |_=>none
 |_=>none
def exec (E:Env)(lim:Nat):ACode→St→Option (AExit×St)
 | .skip,st=>some (.normal,st)
 | .region ops draw,st=>match runRegion E ops draw st.T st.H with
  |some r=>some (.normal,⟨r.T,r.H⟩)
  |none=>none
 | .seq a b,st=>match exec E lim a st with
  |some (.normal,st')=>exec E lim b st'
  |r=>r
 | .cond c a b,st=>match rho st.T [] c with
  | .d (.bool true)=>exec E lim a st
  | .d (.bool false)=>exec E lim b st
  |_=>none
 | .test ops draw c a b,st=>match runRegion E ops draw st.T st.H with
  |some r=>match rho r.T r.L c with
   | .d (.bool true)=>exec E lim a ⟨r.T,r.H⟩
   | .d (.bool false)=>exec E lim b ⟨r.T,r.H⟩
   |_=>none
  |none=>none
 | .block id body,st=>match exec E lim body st with
  |some (.exit id',st')=>if id' =id then some (.normal,st') else some (.exit id',st')
  |r=>r
 | .loop mask body,st=>loopN (exec E lim body) mask E.lim.strict st.H.length lim st
 | .exit id,st=>some (.exit id,st)
 | .ret,st=>some (.ret,st)
 | .fz s,st=>match fzAt E.lim E.entry s st with
  |some st' =>some (.normal,st')
  |none=>none
 | .bad,_=>none
def resVal (T:List AVal)(H:Heap):ARes→Option AVal
 | .slot s=>T[s]?
 | .cell s none=>match T[s]? with
  |some (.ptr id off)=>match rd H id off 1 with
   |some [v]=>some v.asD
   |_=>none
  |_=>none
 | .cell s (some n)=>match T[s]? with
  |some (.ptr id off)=>match rd H id off n with
   |some vs=>some (.agg (vs.map AVal.asD))
   |none=>none
  |_=>none
def resVals (T:List AVal)(H:Heap):List ARes→Option (List AVal)
 |[]=>some []
 |r::rs=>match resVal T H r with
  |some v=>match resVals T H rs with
   |some vs=>some (v::vs)
   |none=>none
  |none=>none
def oneOrTuple:List AVal→AVal
 |[v]=>v
 |vs=> .tuple (vs.map AVal.asD)
def frzL (H:Heap)(n:Nat):Nat→List AVal→Option (List AVal)
 |0,_=>none
 |_+1,[]=>some []
 |fuel+1,v::vs =>
  match frzL H n fuel vs with
  |none=>none
  |some ws =>
   match v with
   | .sref id sz lo len =>
    if id<n then some (.sref id sz lo len::ws) else
    match rd H id lo (len * sz) with
    |some us=>match frzL H n fuel us with
     |some us' =>match datas? us' with
      |some xs=>some (.d (.slice len xs)::ws)
      |none=>none
     |none=>none
    |none=>none
   | .agg l=>match frzL H n fuel l with
    |some l' =>some (.agg l' ::ws)
    |none=>none
   | .tuple l=>match frzL H n fuel l with
    |some l' =>some (.tuple l' ::ws)
    |none=>none
   |v=>some (v::ws)
structure Prog where
 fn:FuncId→Option AFunc
 idle:FuncId→Bool
 mode:FuncId→Nat
 prim:FuncId→Option (List AVal→Heap→Lim→Option (AVal×Heap))
def Prog.prom (A:Prog)(f:FuncId):Bool:=match A.fn f with
 |some af=>af.promote
 |none=>false
def finish (promote:Bool)(n:Nat)(vs:List AVal)(H:Heap):Option (AVal×Heap) :=
 if promote then some (oneOrTuple vs,H) else
 match frzL H n 1000 [oneOrTuple vs] with
 |some [v]=>if v.bnd≤n then some (v,H.take n) else none
 |_=>none
def callBody (A:Prog)(cf:CallF)(lim:Nat)(af:AFunc)(args:List AVal)(H:Heap)(l:Lim):Option (AVal×Heap) :=
 if args.length=af.nparams then
  match exec ⟨cf,A.prom,A.mode,A.idle,l,H.length⟩ lim af.body ⟨args++List.replicate (af.names.length - args.length) .any,H⟩ with
  |some (.exit _,_)=>none
  |some (_,st) =>
   match resVals st.T st.H af.results with
   |some vs=>finish af.promote H.length vs st.H
   |none=>none
  |none=>none
 else none
def call (A:Prog):Nat→CallF
 |0=>fun _ _ _ _=>none
 |n+1=>fun f args H l =>
  match A.prim f with
  |some p=>p args H l
  |none=>match A.fn f with
   |some af=>callBody A (call A n) n af args H l
   |none=>none
end Go.Abs
namespace Go.Abs
inductive Place where
 |slot (s:Nat)
 |loc (j:Nat)
 |cell (id off:Nat)
 |none
 |ret
 deriving DecidableEq
inductive Lab where
 |free
 |imm
 |held (n:Nat)
 |obj (id:Nat)
 |grow (n:Nat) (pl:Place)
 deriving DecidableEq
abbrev Gh:=Nat→Lab
abbrev Inj:=Nat→Nat×Nat
def Imm (G:Gh)(b o:Nat):Prop :=
 match G b with
 | .imm=>True
 | .held n=>o<n
 | .grow n _=>o<n
 |_=>False
abbrev ad (b o:Nat):Addr:=⟨b,o,Option.none⟩
mutual
def DR (G:Gh)(w:World):Data→Value→Prop
 | .bool b,v=>v= .bool b
 | .int k n,v=>v= .int k n
 | .str s,v=>v= .string ⟨s.toArray⟩
 | .slice len cells,v=>((v= .slice Option.none 0 0∨∃ a,v= .slice (some a) 0 0)∧len=0∧cells=[]) ∨
   ∃ b o cap,v= .slice (some (ad b o)) len cap∧len≤cap∧DRs G w b o cells
 | .nilptr,v=>v= .pointer Option.none
 | .nilfunc,v=>v= .nilFunc
 | .nilmap,v=>v= .map Option.none
 | .nilIface,v=>v= .nilIface
def DRs (G:Gh)(w:World)(b:Nat):Nat→List Data→Prop
 |_,[]=>True
 |o,c::cs=>Imm G b o∧(∃ x,w.cell? (ad b o)=some x∧DR G w c x)∧DRs G w b (o+1) cs
end
def NoFr (f:Nat×Nat)(n:Nat):Prop:=∀ o,o<n→¬ (f.1≤o∧o<f.2)
mutual
def VR (G:Gh)(I:Inj)(N:Nat→Prop)(w:World):Place→AVal→Value→Prop
 |_,.any,_=>True
 |_,.d x,v=>DR G w x v
 |_,.ptr id off,v=>N id∧v= .pointer (some (ad (I id).1 ((I id).2+off)))
 |_,.iptr cells,v=>∃ b o,v= .pointer (some (ad b o))∧DRs G w b o cells
 |_,.sref id sz lo len,v=>N id∧∃ cap,v= .slice (some (ad (I id).1 ((I id).2+lo))) len cap∧len≤cap ∧
   ∃ c e f,w.heap[(I id).1]? =some (.cells c e f)∧(I id).2+lo+cap * sz≤c.size
 |pl,.own sz len cells,v=>cells.length=len * sz ∧
   (((v= .slice Option.none 0 0∨∃ b o,v= .slice (some (ad b o)) 0 0)∧len=0) ∨
    (pl≠ .none∧∃ b o cap c e f,v= .slice (some (ad b o)) len cap∧len≤cap∧w.heap[b]? =some (.cells c e f)∧o+cap * sz≤c.size∧NoFr f c.size ∧
     G b= .grow (o+len * sz) pl∧DRs G w b o cells))
 |_,.nils,v=>v= .slice Option.none 0 0
 |_,.agg l,v=>∃ cs:Array Value,v= .agg cs∧VRs G I N w l cs.toList
 |_,.tuple l,v=>∃ cs:Array Value,v= .tuple cs∧VRs G I N w l cs.toList
 |_,.func f a b,v=>∃ x y:Array Value,v= .func (.func f) x y∧VRs G I N w a x.toList∧VRs G I N w b y.toList
 |_,.map id,v=>N id∧v= .map (some (I id).1)
def VRs (G:Gh)(I:Inj)(N:Nat→Prop)(w:World):List AVal→List Value→Prop
 |[],vs=>vs=[]
 |a::as,vs=>∃ x xs,vs=x::xs∧VR G I N w .none a x∧VRs G I N w as xs
end
def KD.val:KD→Value
 | .i k n=> .int k n
 | .s x=> .string ⟨x.toArray⟩
 | .b t=> .bool t
def Key.val:Key→Value
 | .int k n=> .int k n
 | .str x=> .string ⟨x.toArray⟩
 | .bool t=> .bool t
 | .st l=> .agg (l.map KD.val).toArray
def ER (G:Gh)(I:Inj)(N:Nat→Prop)(w:World):List (Key×AVal)→List MapEntry→Prop
 |[],es=>es=[]
 |(k,v)::r,es=>∃ e es',es=e::es' ∧e.key=k.val∧VR G I N w .none v e.val∧ER G I N w r es'
structure Born (arr:Array MapEntry)(clk:Nat):Prop where
 old:∀ e ∈ arr.toList,e.born<clk
 nodup:(arr.toList.map (·.born)).Nodup
theorem Born.push {arr:Array MapEntry}{clk:Nat}(h:Born arr clk)(k v:Value):Born (arr.push { key:=k,val:=v,born:=clk }) (clk+1) where
 old e he:=by
  rw [Array.toList_push] at he
  rcases List.mem_append.1 he with he|he
  ·exact Nat.lt_succ_of_lt (h.old e he)
  ·simp only [List.mem_singleton] at he
   subst he
   exact Nat.lt_succ_self _
 nodup:=by
  rw [Array.toList_push,List.map_append,List.nodup_append]
  refine ⟨h.nodup,by simp,fun a ha b hb=> ?_⟩
  simp only [List.map_cons,List.map_nil,List.mem_singleton] at hb
  obtain ⟨e,he,rfl⟩:=List.mem_map.1 ha
  have:=h.old e he
  omega
theorem Born.modify {arr:Array MapEntry}{clk:Nat}(h:Born arr clk)(j:Nat)(g:MapEntry→MapEntry)(hg:∀ e,(g e).born=e.born):Born (arr.modify j g) clk:=by
 have e1:(arr.modify j g).toList.map (·.born)=arr.toList.map (·.born):=by
  apply List.ext_getElem?
  intro i
  simp only [List.getElem?_map,Array.getElem?_toList,Array.getElem?_modify]
  split
  ·cases arr[i]? <;>simp [hg]
  ·rfl
 refine ⟨fun e he=> ?_,by rw [e1];exact h.nodup⟩
 have:e.born ∈ arr.toList.map (·.born):=by
  rw [← e1]
  exact List.mem_map.2 ⟨e,he,rfl⟩
 obtain ⟨e',he',hb⟩:=List.mem_map.1 this
 rw [← hb]
 exact h.old e' he'
def OR (G:Gh)(I:Inj)(N:Nat→Prop)(w:World)(id:Nat):AObj→Prop
 | .dead=>True
 | .cells l=>N id∧∃ c e f,w.heap[(I id).1]? =some (.cells c e f)∧G (I id).1= .obj id∧NoFr f c.size∧(I id).2+l.length≤c.size ∧
   ∀ i x,l[i]? =some x→∃ v,c[(I id).2+i]? =some v∧VR G I N w (.cell id i) x v
 | .map es=>N id∧∃ arr clk,w.heap[(I id).1]? =some (.map arr clk)∧G (I id).1= .obj id∧ER G I N w es arr.toList∧Born arr clk
def HR (G:Gh)(I:Inj)(N:Nat→Prop)(w:World)(H:Heap):Prop:=∀ id o,H[id]? =some o→OR G I N w id o
def WF (G:Gh)(w:World):Prop:=∀ b,w.heap.size≤b→G b= .free
structure Sub (G:Gh)(w:World)(G' :Gh)(w' :World):Prop where
 imm:∀ b o:Nat,Imm G b o→Imm G' b o∧w'.cell? (ad b o)=w.cell? (ad b o)
 shape:∀ (b:Nat) (c:Array Value) (e:TypeId) (f:Nat×Nat),w.heap[b]? =some (Obj.cells c e f)→∃ c' :Array Value,w'.heap[b]? =some (Obj.cells c' e f)∧c'.size=c.size
structure Ext (G:Gh)(w:World)(G' :Gh)(w' :World):Prop where
 os:w'.os=w.os
 tape:w'.tape=w.tape
 output:w'.output=w.output
 size:w.heap.size≤w'.heap.size
 imm:∀ b o:Nat,Imm G b o→Imm G' b o∧w'.cell? (ad b o)=w.cell? (ad b o)
 still:∀ b:Nat,(G b= .imm∨∃ n,G b= .held n)→G' b=G b∧w'.heap[b]? =w.heap[b]?
 shape:∀ (b:Nat) (c:Array Value) (e:TypeId) (f:Nat×Nat),w.heap[b]? =some (Obj.cells c e f)→∃ c' :Array Value,w'.heap[b]? =some (Obj.cells c' e f)∧c'.size=c.size
theorem Ext.sub {G:Gh}{w:World}{G' :Gh}{w' :World}(h:Ext G w G' w'):Sub G w G' w' :=⟨h.imm,h.shape⟩
instance {G:Gh} {w:World} {G' :Gh} {w' :World}:CoeOut (Ext G w G' w') (Sub G w G' w'):=⟨Ext.sub⟩
theorem Ext.refl (G:Gh)(w:World):Ext G w G w :=
 ⟨rfl,rfl,rfl,Nat.le_refl _,fun _ _ h=>⟨h,rfl⟩,fun _ _=>⟨rfl,rfl⟩,fun _ c _ _ h=>⟨c,h,rfl⟩⟩
theorem Ext.trans {G:Gh}{w:World}{G1:Gh}{w1:World}{G2:Gh}{w2:World}(h:Ext G w G1 w1)(k:Ext G1 w1 G2 w2):Ext G w G2 w2 where
 os:=k.os.trans h.os
 tape:=k.tape.trans h.tape
 output:=k.output.trans h.output
 size:=Nat.le_trans h.size k.size
 imm b o hi:=by
  obtain ⟨a1,a2⟩:=h.imm b o hi
  obtain ⟨b1,b2⟩:=k.imm b o a1
  exact ⟨b1,b2.trans a2⟩
 still b hb:=by
  obtain ⟨a1,a2⟩:=h.still b hb
  obtain ⟨b1,b2⟩:=k.still b (by rw [a1];exact hb)
  exact ⟨b1.trans a1,b2.trans a2⟩
 shape b c e f hc:=by
  obtain ⟨c1,h1,s1⟩:=h.shape b c e f hc
  obtain ⟨c2,h2,s2⟩:=k.shape b c1 e f h1
  exact ⟨c2,h2,s2.trans s1⟩
theorem Ext.drew {G:Gh}{w:World}{G' :Gh}{w' :World}(h:Ext G w G' w')(n:Nat):Ext G w G' { w' with drawn:=n } :=
 ⟨h.os,h.tape,h.output,h.size,h.imm,h.still,h.shape⟩
mutual
theorem DR.mono {G:Gh}{w:World}{G' :Gh}{w' :World}
  (h:∀ b o,Imm G b o→Imm G' b o∧w'.cell? (ad b o)=w.cell? (ad b o)):∀ (d:Data) (v:Value),DR G w d v→DR G' w' d v
 | .bool _,_,hd=>by simpa [DR] using hd
 | .int _ _,_,hd=>by simpa [DR] using hd
 | .str _,_,hd=>by simpa [DR] using hd
 | .slice _ cells,_,hd=>by
  simp only [DR] at hd ⊢
  rcases hd with hd|⟨b,o,cap,h1,h2,h3⟩
  ·exact Or.inl hd
  ·exact Or.inr ⟨b,o,cap,h1,h2,DRs.mono h b o cells h3⟩
 | .nilptr,_,hd=>by simpa [DR] using hd
 | .nilfunc,_,hd=>by simpa [DR] using hd
 | .nilmap,_,hd=>by simpa [DR] using hd
 | .nilIface,_,hd=>by simpa [DR] using hd
theorem DRs.mono {G:Gh}{w:World}{G' :Gh}{w' :World}
  (h:∀ b o,Imm G b o→Imm G' b o∧w'.cell? (ad b o)=w.cell? (ad b o)) (b:Nat):∀ (o:Nat) (l:List Data),DRs G w b o l→DRs G' w' b o l
 |_,[],_=>by simp [DRs]
 |o,c::cs,hd=>by
  simp only [DRs] at hd ⊢
  obtain ⟨h1,⟨x,h2,h3⟩,h4⟩:=hd
  obtain ⟨i1,i2⟩:=h b o h1
  exact ⟨i1,⟨x,i2.trans h2,DR.mono h c x h3⟩,DRs.mono h b (o+1) cs h4⟩
end
def Keeps (pl:Place)(G:Gh)(w:World)(G' :Gh)(w' :World):Prop :=
 ∀ b n,G b= .grow n pl→G' b= .grow n pl∧w'.heap[b]? =w.heap[b]?
mutual
theorem VR.mono {G:Gh}{I:Inj}{N:Nat→Prop}{w:World}{G' :Gh}{I' :Inj}{N' :Nat→Prop}{w' :World}(hx:Sub G w G' w')
  (hI:∀ id,N id→I' id=I id) (hN:∀ id,N id→N' id):∀ (pl:Place) (a:AVal) (v:Value),(pl= .none∨Keeps pl G w G' w')→VR G I N w pl a v→VR G' I' N' w' pl a v
 |_,.any,_,_,_=>by simp [VR]
 |_,.d x,v,_,h=>by simp only [VR] at h ⊢;exact DR.mono hx.imm x v h
 |_,.ptr id off,v,_,h=>by
  simp only [VR] at h ⊢
  exact ⟨hN id h.1,by rw [hI id h.1];exact h.2⟩
 |_,.iptr cells,v,_,h=>by
  simp only [VR] at h ⊢
  obtain ⟨b,o,h1,h2⟩:=h
  exact ⟨b,o,h1,DRs.mono hx.imm b o cells h2⟩
 |_,.sref id sz lo len,v,_,h=>by
  simp only [VR] at h ⊢
  obtain ⟨h1,cap,h2,h3,c,e,f,h4,h5⟩:=h
  obtain ⟨c',g1,g2⟩:=hx.shape _ c e f h4
  exact ⟨hN id h1,cap,by rw [hI id h1];exact h2,h3,c',e,f,by rw [hI id h1];exact g1,by rw [hI id h1,g2];exact h5⟩
 |pl,.own sz len cells,v,hk,h=>by
  simp only [VR] at h ⊢
  obtain ⟨h0,h⟩:=h
  refine ⟨h0,?_⟩
  rcases h with h|⟨hp,b,o,cap,c,e,f,h1,h2,h3,h4,h5,h6,h7⟩
  ·exact Or.inl h
  ·rcases hk with hk|hk
   ·exact absurd hk hp
   ·obtain ⟨k1,k2⟩:=hk b _ h6
    exact Or.inr ⟨hp,b,o,cap,c,e,f,h1,h2,k2.trans h3,h4,h5,k1,DRs.mono hx.imm b o cells h7⟩
 |_,.nils,v,_,h=>by simp only [VR] at h ⊢;exact h
 |_,.agg l,v,_,h=>by
  simp only [VR] at h ⊢
  obtain ⟨cs,h1,h2⟩:=h
  exact ⟨cs,h1,VRs.mono hx hI hN l _ h2⟩
 |_,.tuple l,v,_,h=>by
  simp only [VR] at h ⊢
  obtain ⟨cs,h1,h2⟩:=h
  exact ⟨cs,h1,VRs.mono hx hI hN l _ h2⟩
 |_,.func f a b,v,_,h=>by
  simp only [VR] at h ⊢
  obtain ⟨x,y,h1,h2,h3⟩:=h
  exact ⟨x,y,h1,VRs.mono hx hI hN a _ h2,VRs.mono hx hI hN b _ h3⟩
 |_,.map id,v,_,h=>by
  simp only [VR] at h ⊢
  exact ⟨hN id h.1,by rw [hI id h.1];exact h.2⟩
theorem VRs.mono {G:Gh}{I:Inj}{N:Nat→Prop}{w:World}{G' :Gh}{I' :Inj}{N' :Nat→Prop}{w' :World}(hx:Sub G w G' w')
  (hI:∀ id,N id→I' id=I id) (hN:∀ id,N id→N' id):∀ (l:List AVal) (vs:List Value),VRs G I N w l vs→VRs G' I' N' w' l vs
 |[],_,h=>by simpa [VRs] using h
 |a::as,vs,h=>by
  simp only [VRs] at h ⊢
  obtain ⟨x,xs,h1,h2,h3⟩:=h
  exact ⟨x,xs,h1,VR.mono hx hI hN .none a x (Or.inl rfl) h2,VRs.mono hx hI hN as xs h3⟩
end
theorem ER.mono {G:Gh}{I:Inj}{N:Nat→Prop}{w:World}{G' :Gh}{I' :Inj}{N' :Nat→Prop}{w' :World}(hx:Sub G w G' w')
  (hI:∀ id,N id→I' id=I id) (hN:∀ id,N id→N' id):∀ (l:List (Key×AVal)) (es:List MapEntry),ER G I N w l es→ER G' I' N' w' l es
 |[],_,h=>by simpa [ER] using h
 |(k,v)::r,es,h=>by
  simp only [ER] at h ⊢
  obtain ⟨e,es',h1,h2,h3,h4⟩:=h
  exact ⟨e,es',h1,h2,VR.mono hx hI hN .none _ _ (Or.inl rfl) h3,ER.mono hx hI hN r es' h4⟩
theorem OR.mono {G:Gh}{I:Inj}{N:Nat→Prop}{w:World}{G' :Gh}{I' :Inj}{N' :Nat→Prop}{w' :World}(hx:Sub G w G' w')
  (hI:∀ id,N id→I' id=I id) (hN:∀ id,N id→N' id) (id:Nat) (o:AObj)
  (hb:G (I id).1= .obj id→G' (I id).1= .obj id∧w'.heap[(I id).1]? =w.heap[(I id).1]?)
  (hc:∀ off,Keeps (.cell id off) G w G' w') (h:OR G I N w id o):OR G' I' N' w' id o:=by
 cases o with
 |dead=>simp [OR]
 |cells l =>
  simp only [OR] at h ⊢
  obtain ⟨hid,c,e,f,h1,h2,h3,h4,h5⟩:=h
  obtain ⟨k1,k2⟩:=hb h2
  refine ⟨hN id hid,c,e,f,?_,?_,h3,?_,fun i x hx' => ?_⟩
  ·rw [hI id hid,k2];exact h1
  ·rw [hI id hid];exact k1
  ·rw [hI id hid];exact h4
  ·obtain ⟨v,g1,g2⟩:=h5 i x hx'
   exact ⟨v,by rw [hI id hid];exact g1,VR.mono hx hI hN _ x v (Or.inr (hc i)) g2⟩
 |map es =>
  simp only [OR] at h ⊢
  obtain ⟨hid,arr,clk,h1,h2,h3,h4⟩:=h
  obtain ⟨k1,k2⟩:=hb h2
  exact ⟨hN id hid,arr,clk,by rw [hI id hid,k2];exact h1,by rw [hI id hid];exact k1,ER.mono hx hI hN es _ h3,h4⟩
theorem VR.asD {G:Gh}{I:Inj}{N:Nat→Prop}{w:World}{pl pl' :Place}:∀ {a:AVal} {v:Value},VR G I N w pl a v→VR G I N w pl' a.asD v
 | .any,_,_=>by simp [AVal.asD,VR]
 | .d _,_,h=>by simpa [AVal.asD,VR] using h
 | .ptr _ _,_,h=>by simpa [AVal.asD,VR] using h
 | .iptr _,_,h=>by simpa [AVal.asD,VR] using h
 | .sref _ _ _ _,_,h=>by simpa [AVal.asD,VR] using h
 | .own sz len cells,v,h=>by
  simp only [AVal.asD,VR,DR] at h ⊢
  obtain ⟨h0,h⟩:=h
  rcases h with ⟨h1,h2⟩|⟨hp,b,o,cap,c,e,f,h1,h2,h3,h4,h5,h6,h7⟩
  ·subst h2
   have hc:cells=[]:=by simpa using h0
   subst hc
   rcases h1 with h1|⟨b,o,h1⟩
   ·exact Or.inl ⟨Or.inl h1,rfl,rfl⟩
   ·exact Or.inr ⟨b,o,0,h1,Nat.le_refl _,by simp [DRs]⟩
  ·exact Or.inr ⟨b,o,cap,h1,h2,h7⟩
 | .nils,v,h=>by
  simp only [AVal.asD,VR,DR] at h ⊢
  exact Or.inl ⟨Or.inl h,trivial,trivial⟩
 | .agg _,_,h=>by simpa [AVal.asD,VR] using h
 | .tuple _,_,h=>by simpa [AVal.asD,VR] using h
 | .func _ _ _,_,h=>by simpa [AVal.asD,VR] using h
 | .map _,_,h=>by simpa [AVal.asD,VR] using h
theorem VR.cst {G:Gh}{I:Inj}{N:Nat→Prop}{w:World}{pl pl' :Place}{a:AVal}{v:Value}(h:VR G I N w pl a v):VR G I N w pl' a.cst v:=by
 cases a
 case nils=>simpa only [AVal.cst,VR] using h
 all_goals exact h.asD
theorem cst_of {u:AVal}(h:u.asD=u):u.cst=u:=by
 cases u
 case nils=>simp [AVal.asD] at h
 all_goals exact h
end Go.Abs
namespace Go.Abs
def const1:Value→AVal→Bool
 |_,.any=>true
 | .bool b,.d (.bool c)=>b==c
 | .int k n,.d (.int k' n')=>k==k' &&n==n'
 | .string s,.d (.str l)=>s.data.toList==l
 | .slice Option.none 0 0,.own _ 0 []=>true
 | .slice Option.none 0 0,.nils=>true
 | .slice Option.none 0 0,.d (.slice 0 [])=>true
 | .pointer Option.none,.d .nilptr=>true
 | .map Option.none,.d .nilmap=>true
 | .nilFunc,.d .nilfunc=>true
 | .nilIface,.d .nilIface=>true
 |_,_=>false
def consts:List Value→List AVal→Bool
 |[],[]=>true
 |v::vs,a::as=>const1 v a&&consts vs as
 |_,_=>false
def constOK:Value→AVal→Bool
 | .agg cs,.agg l=>consts cs.toList l
 |v,a=>const1 v a
structure Cx where
 P:Program
 names:List Tmp
 ops:Array Oper
def Cx.ck (X:Cx)(D:Nat→Bool):Operand→Opd→Bool
 | .tmp t,.slot s=>X.names[s]? ==some t
 | .tmp t,.loc j=>D j&&((X.ops[j]?).bind (·.dst))==some t&& !X.names.contains t
 | .const v,.const a=>constOK v a
 | .func f,.const (.func g [] [])=>f==g
 |_,.const .any=>true
 |_,_=>false
def cks (ck:Operand→Opd→Bool):List Operand→List Opd→Bool
 |[],[]=>true
 |x::xs,y::ys=>ck x y&&cks ck xs ys
 |_,_=>false
def ckO (ck:Operand→Opd→Bool):Option Operand→Option Opd→Bool
 |none,none=>true
 |some x,some y=>ck x y
 |_,_=>false
def isAggT (P:Program)(t:TypeId):Option Bool :=
 match P.underlying t with
 |some (.struct _)=>some true
 |some (.array _ _)=>some true
 |some _=>some false
 |none=>none
def loadOK (P:Program)(t:TypeId):Option Nat→Bool
 |none=>isAggT P t==some false
 |some n=>isAggT P t==some true&&P.cellsOf t==n&&decide (0<n)
def isSliceT (P:Program)(t:TypeId)(sz:Nat):Bool :=
 match P.underlying t with
 |some (.slice e)=>P.cellsOf e==sz&&(P.info? e).isSome
 |_=>false
def kindT (P:Program)(t:TypeId):CK→Bool
 | .i=>match P.underlying t with
  |some (.int _)=>true
  |_=>false
 | .s=>match P.underlying t with
  |some .string=>true
  |_=>false
 | .b=>match P.underlying t with
  |some .bool=>true
  |_=>false
def flatFields (P:Program):List Field→Nat→List CK→Bool
 |[],_,[]=>true
 | f :: fs, n, k :: ks => f.name != "_" && kindT P f.type k && f.offset == n && flatFields P fs (n + 1) ks
 |_,_,_=>false
def flatStruct (P:Program)(t:TypeId)(ks:List CK):Bool :=
 match P.underlying t with
 |some (.struct fs)=>flatFields P fs.toList 0 ks&& !P.stoodInHeld t&& !P.eqGuardType P.depth t
 |_=>false
def keyT (P:Program)(t:TypeId):KK→Bool
 | .i=>kindT P t .i
 | .s=>kindT P t .s
 | .b=>kindT P t .b
 | .st ks=>flatStruct P t ks
def partsOK (P:Program)(ck:Operand→Opd→Bool)(place:Nat→Option (Nat×Nat)):List (Nat×Operand)→List (Nat×Nat×Opd)→Bool
 |[],[]=>true
 |(i,x)::r,(off,sz,y)::q=>place i==some (off,sz)&&ck x y&&partsOK P ck place r q
 |_,_=>false
def fieldPlaces (P:Program)(fs:List Field):Option (List (Nat×Nat)):=fs.mapM fun f=>(P.info? f.type).map fun i=>(f.offset,i.size)
def zeroOK (P:Program)(t:TypeId)(l:List AVal):Bool :=
 match P.info? t with
 |some i=>match i.zero with
  |some z=>consts z.cells.toList l
  |none=>false
 |none=>false
def chkPure (P:Program)(ck:Operand→Opd→Bool)(o:Oper)(op:AOp):Bool :=
 match o.op,op with
 | .pick c a b,.pick c' a' b' =>ck c c' &&ck a a' &&ck b b'
 | .load t x,.load n y=>ck x y&&loadOK P t n
 | .nilCheck x,.nilck y=>ck x y
 | .binOp b _ x y _,.bin b' x' y' =>b==b' &&ck x x' &&ck y y'
 | .binOp b t x (.const (.slice Option.none 0 0)) _,.nilS neg x' =>ck x x' &&(match P.underlying t with|some (.slice _)=>true|_=>false)&&(if neg then b== .neq else b== .eql)
 | .binOp b t x (.const .nilIface) _,.nilI neg x' =>ck x x' &&(match P.underlying t with|some (.interface _)=>true|_=>false)&&(if neg then b== .neq else b== .eql)
 | .binOp b t x y _,.eqB neg x' y' =>ck x x' &&ck y y' &&(match P.underlying t with|some .bool=>true|_=>false)&&(if neg then b== .neq else b== .eql)
 | .binOp b t x y _,.eqS neg ks x' y' =>ck x x' &&ck y y' &&flatStruct P t ks&&(if neg then b== .neq else b== .eql)
 | .unOp b _ x,.un b' x' =>b==b' &&ck x x'
 | .convert s d x,.convI k y=>ck x y&&(P.underlying s).isSome&&(match P.underlying d with|some (.int k')=>k==k' |_=>false)
 | .convert s d x,.convId y=>ck x y&&(P.underlying s).isSome&&(match P.underlying d with|some .string=>true|_=>false)
 | .convert s d x,.convBS y=>ck x y&&(match P.underlying s with|some (.slice e)=>(match P.underlying e with|some (.int .u8)=>true|_=>false)|_=>false)&&(match P.underlying d with|some .string=>true|_=>false)
 | .slice t x lo hi none,.sliceS y lo' hi' =>ck x y&&ckO ck lo lo' &&ckO ck hi hi' &&(match P.underlying t with|some .string=>true|_=>false)
 | .slice t x lo hi none,.sliceV sz y lo' hi' =>ck x y&&ckO ck lo lo' &&ckO ck hi hi' &&isSliceT P t sz&&decide (0<sz)
 | .fieldAddr s x f,.off k y=>ck x y&&(match P.underlying s with
  |some (.struct fs)=>(match fs[f]? with
   |some fd=>fd.offset==k&&decide (0<P.cellsOf fd.type)
   |none=>false)
  |_=>false)
 | .indexAddr t x i,.idxA sz y j=>ck x y&&ck i j&&isSliceT P t sz
 | .indexAddr t x i,.idxP n sz y j=>ck x y&&ck i j&&(match P.underlying t with|some (.array m e)=>m==n&&P.cellsOf e==sz&&(P.info? e).isSome|_=>false)
 | .index t x i,.idxS y j=>ck x y&&ck i j&&(match P.underlying t with|some .string=>true|_=>false)
 | .extract x i,.extract y j=>ck x y&&i==j
 | .call { callee:= .builtin .len,args,argTypes },.len y=>(match args[0]?,argTypes[0]? with
  |some x,some t=>ck x y&&(match P.underlying t with|some (.slice _)=>true|_=>false)
  |_,_=>false)
 | .call { callee:= .builtin .len,args,argTypes },.lenT y=>(match args[0]?,argTypes[0]? with
  |some x,some t=>ck x y&&(match P.underlying t with|some .string=>true|_=>false)
  |_,_=>false)
 | .call { callee:= .builtin .len,args,argTypes },.lenM y=>(match args[0]?,argTypes[0]? with
  |some x,some t=>ck x y&&(match P.underlying t with|some (.map _ _)=>true|_=>false)
  |_,_=>false)
 | .call { callee:= .builtin .max,args,.. },.minmax true ys=>cks ck args.toList ys&&decide (2≤ys.length)
 | .call { callee:= .builtin .min,args,.. },.minmax false ys=>cks ck args.toList ys&&decide (2≤ys.length)
 | .makeFunc (.func f) first caps,.mkfunc g first' caps' =>f==g&&cks ck first.toList first' &&cks ck caps.toList caps'
 | .lookup t m k ok,.lookup kk zero ok' m' k' =>ok==ok' &&ck m m' &&ck k k' &&(match P.underlying t with
  |some (.map kt et)=>keyT P kt kk&&(match P.info? et with
   |some i=>(match i.zero with
    |some z=>constOK z zero
    |none=>false)
   |none=>false)
  |_=>false)
 | .build t parts,.build zero ps=>(match P.underlying t with
  |some (.struct fs)=>(match fieldPlaces P fs.toList with
   |some places=>zeroOK P t zero&&partsOK P ck (fun i=>places[i]?) parts.toList ps
   |none=>false)
  |some (.array _ e)=>(match P.info? e with
   |some i=>zeroOK P t zero&&partsOK P ck (fun j=>some (j * i.size,i.size)) parts.toList ps
   |none=>false)
  |_=>false)
 |_,_=>false
theorem const1_sound {G:Gh}{I:Inj}{N:Nat→Prop}{w:World}:∀ (v:Value) (a:AVal),const1 v a=true→VR G I N w .none a v:=by
 intro v a h
 unfold const1 at h
 split at h
 all_goals first
  |(simp [VR];done)
  |(exfalso;simp at h;done)
  |(simp only [VR,DR];done)
  |(simp only [VR,DR];simp_all;done)
  |skip
 ·rename_i s l
  simp only [VR,DR]
  have:s.data.toList=l:=by simpa using h
  subst this
  simp
theorem consts_sound {G:Gh}{I:Inj}{N:Nat→Prop}{w:World}:∀ (vs:List Value) (l:List AVal),consts vs l=true→VRs G I N w l vs
 |[],[],_=>by simp [VRs]
 |v::vs,a::as,h=>by
  simp only [consts,Bool.and_eq_true] at h
  simp only [VRs]
  exact ⟨v,vs,rfl,const1_sound v a h.1,consts_sound vs as h.2⟩
 |[],_::_,h=>by simp [consts] at h
 |_::_,[],h=>by simp [consts] at h
theorem constOK_sound {G:Gh}{I:Inj}{N:Nat→Prop}{w:World}(v:Value)(a:AVal)(h:constOK v a=true):VR G I N w .none a v:=by
 unfold constOK at h
 split at h
 ·rename_i cs l
  simp only [VR]
  exact ⟨cs,rfl,consts_sound _ _ h⟩
 ·exact const1_sound _ _ h
theorem cell_of_heap {w:World}{b:Nat}{c:Array Value}{e:TypeId}{f:Nat×Nat}(h:w.heap[b]? =some (.cells c e f))(o:Nat):w.cell? (ad b o)=c[o]? :=by
 simp [World.cell?,h]
theorem add_ad (b o n:Nat):(ad b o).add n=ad b (o+n):=by
 unfold Addr.add
 split
 ·subst_vars;rfl
 ·rfl
theorem DRs.drop {G:Gh}{w:World}{b:Nat}:∀ (n o:Nat) (l:List Data),DRs G w b o l→DRs G w b (o+n) (l.drop n)
 |0,_,_,h=>by simpa using h
 |n+1,o,[],_=>by simp [DRs]
 |n+1,o,c::cs,h=>by
  simp only [DRs] at h
  have:=DRs.drop n (o+1) cs h.2.2
  rw [List.drop_succ_cons,show o+(n+1)=o+1+n from by omega]
  exact this
theorem DRs.take {G:Gh}{w:World}{b:Nat}:∀ (n o:Nat) (l:List Data),DRs G w b o l→DRs G w b o (l.take n)
 |0,_,_,_=>by simp [DRs]
 |n+1,o,[],_=>by simp [DRs]
 |n+1,o,c::cs,h=>by
  simp only [DRs] at h
  rw [List.take_succ_cons]
  simp only [DRs]
  exact ⟨h.1,h.2.1,DRs.take n (o+1) cs h.2.2⟩
theorem DRs.vals {G:Gh}{I:Inj}{N:Nat→Prop}{w:World}{b:Nat}:∀ (o:Nat) (l:List Data),DRs G w b o l →
  ∃ vs:List Value,vs.length=l.length∧(∀ j v,vs[j]? =some v→w.cell? (ad b (o+j))=some v)∧VRs G I N w (l.map .d) vs
 |_,[],_=>⟨[],rfl,by simp,by simp [VRs]⟩
 |o,c::cs,h=>by
  simp only [DRs] at h
  obtain ⟨h1,⟨x,h2,h3⟩,h4⟩:=h
  obtain ⟨vs,g1,g2,g3⟩:=DRs.vals (I:=I) (N:=N) (o+1) cs h4
  refine ⟨x::vs,by simp [g1],fun j v hj=> ?_,?_⟩
  ·cases j with
   |zero=>simp at hj;subst hj;exact h2
   |succ j =>
    simp at hj
    have:=g2 j v hj
    rw [show o+(j+1)=o+1+j from by omega];exact this
  ·simp only [List.map_cons,VRs]
   exact ⟨x,vs,rfl,by simpa [VR] using h3,g3⟩
theorem VRs.length {G:Gh}{I:Inj}{N:Nat→Prop}{w:World}:∀ (l:List AVal) (vs:List Value),VRs G I N w l vs→vs.length=l.length
 |[],vs,h=>by simp [VRs] at h;simp [h]
 |a::as,vs,h=>by
  simp only [VRs] at h
  obtain ⟨x,xs,h1,_,h3⟩:=h
  subst h1
  simp [VRs.length as xs h3]
theorem HR.rd {G:Gh}{I:Inj}{N:Nat→Prop}{w:World}{H:Heap}(hH:HR G I N w H){id off n:Nat}{vs:List AVal}(h:rd H id off n=some vs)(hn:0<n) :
  N id∧∃ xs:List Value,xs.length=n∧vs.length=n∧(∀ j v,xs[j]? =some v→w.cell? (ad (I id).1 ((I id).2+off+j))=some v) ∧
   (∀ j a v,vs[j]? =some a→xs[j]? =some v→VR G I N w (.cell id (off+j)) a v):=by
 unfold Abs.rd at h
 split at h
 ·rename_i l hl
  split at h
  ·rename_i hlen
   cases h
   have ho:=hH id _ hl
   simp only [OR] at ho
   obtain ⟨hid,c,e,f,h1,h2,h3,h4,h5⟩:=ho
   ·refine ⟨hid,(List.range n).map (fun j=>(c[(I id).2+off+j]?).getD default),by simp,by simp;omega,fun j v hj=> ?_,fun j a v ha hv=> ?_⟩
    ·rw [cell_of_heap h1]
     have hjn:j<n:=by
      rcases Nat.lt_or_ge j n with h|h
      ·exact h
      ·simp [h] at hj
     simp [hjn] at hj
     have hlt:(I id).2+off+j<c.size:=by omega
     simp [hlt] at hj ⊢
     exact hj
    ·have hjn:j<n:=by
      rcases Nat.lt_or_ge j n with h|h
      ·exact h
      ·simp [h] at hv
     have hla:l[off+j]? =some a:=by
      rw [List.getElem?_take_of_lt hjn,List.getElem?_drop] at ha
      exact ha
     obtain ⟨u,g1,g2⟩:=h5 (off+j) a hla
     simp [hjn] at hv
     have e1:(I id).2+(off+j)=(I id).2+off+j:=by omega
     rw [e1] at g1
     rw [g1] at hv
     simp at hv
     subst hv
     exact g2
  ·cases h
 ·cases h
end Go.Abs
namespace Go.Abs
section
variable {P:Program} {w:World}
theorem info_of_underlying {t:TypeId}{d:TypeDesc}(h:P.underlying t=some d):(P.info? t).isSome=true:=by
 unfold Program.underlying at h
 split at h<;>simp_all
theorem run_sizeOf {t:TypeId}(h:(P.info? t).isSome=true):(sizeOf t).run P w= .ok (P.cellsOf t) w:=by
 cases hi:P.info? t with
 |none=>simp [hi] at h
 |some i=>simp [sizeOf,typeInfo,hi,Program.cellsOf]
theorem run_isAgg {t:TypeId}{b:Bool}(h:isAggT P t=some b):(isAgg t).run P w= .ok b w:=by
 unfold isAggT at h
 cases hu:P.underlying t with
 |none=>simp [hu] at h
 |some d=>cases d<;>simp [hu] at h<;>subst h<;>simp [isAgg,run_underlying hu]
theorem isSliceT_sound {t:TypeId}{sz:Nat}(h:isSliceT P t sz=true):∃ e,P.underlying t=some (.slice e)∧P.cellsOf e=sz∧(P.info? e).isSome=true:=by
 unfold isSliceT at h
 split at h
 ·rename_i e he
  simp at h
  exact ⟨e,he,h.1,h.2⟩
 ·cases h
theorem VRs_of_pointwise {G:Gh}{I:Inj}{N:Nat→Prop}:∀ (l:List AVal) (xs:List Value),xs.length=l.length →
  (∀ (j:Nat) a v,l[j]? =some a→xs[j]? =some v→VR G I N w .none a v)→VRs G I N w l xs
 |[],xs,h,_=>by simp at h;simp [VRs,h]
 |a::as,[],h,_=>by simp at h
 |a::as,x::xs,h,hp=>by
  simp only [VRs]
  exact ⟨x,xs,rfl,hp 0 a x rfl rfl,VRs_of_pointwise as xs (by simpa using h) fun j a' v ha hv=>hp (j+1) a' v (by simpa using ha) (by simpa using hv)⟩
theorem VRs.get {G:Gh}{I:Inj}{N:Nat→Prop}:∀ (l:List AVal) (xs:List Value),VRs G I N w l xs→∀ (j:Nat) a,l[j]? =some a→∃ v,xs[j]? =some v∧VR G I N w .none a v
 |[],_,_,_,_,h=>by simp at h
 |a::as,xs,h,j,b,hb=>by
  simp only [VRs] at h
  obtain ⟨x,xs',h1,h2,h3⟩:=h
  subst h1
  cases j with
  |zero=>simp at hb;subst hb;exact ⟨x,rfl,h2⟩
  |succ j=>simpa using VRs.get as xs' h3 j b (by simpa using hb)
theorem VR.place {G:Gh}{I:Inj}{N:Nat→Prop}{a:AVal}{x:Value}{pl:Place}(h:VR G I N w .none a x):VR G I N w pl a x:=by
 cases a with
 |own sz len cells =>
  simp only [VR] at h ⊢
  obtain ⟨h0,h⟩:=h
  refine ⟨h0,?_⟩
  rcases h with h|⟨h,_⟩
  ·exact Or.inl h
  ·exact absurd rfl h
 |_=>first|(simp only [VR] at h ⊢;exact h)|(simp only [VR])
variable {ck:Operand→Opd→Bool} {η:Operand→Value} {ρ:Opd→AVal} {G:Gh} {I:Inj} {N:Nat→Prop} {H:Heap}
abbrev Good (P:Program)(G:Gh)(I:Inj)(N:Nat→Prop)(w:World)(η:Operand→Value)(o:Oper)(v:AVal):Prop :=
 ∃ x,(execOp η o).run P w= .ok (.value x) w∧VR G I N w .none v x
abbrev Opds (ck:Operand→Opd→Bool)(G:Gh)(I:Inj)(N:Nat→Prop)(w:World)(η:Operand→Value)(ρ:Opd→AVal):Prop :=
 ∀ x y,ck x y=true→VR G I N w .none (ρ y) (η x)
theorem pure_pick (hρ:Opds ck G I N w η ρ){o:Oper}{c a b:Opd}(hc:chkPure P ck o (.pick c a b)=true){v:AVal}{rs:List Nat}
  (h:pureOp ρ H (.pick c a b)=some (v,rs)):Good P G I N w η o v:=by
 obtain ⟨dst,oop,ty,pos,after,guard⟩:=o
 cases oop<;>simp [chkPure] at hc
 rename_i c' a' b'
 have h1:=hρ _ _ hc.1.1
 have h2:=hρ _ _ hc.1.2
 have h3:=hρ _ _ hc.2
 simp only [pureOp] at h
 split at h
 ·rename_i t ht
  simp at h
  obtain ⟨rfl,rfl⟩:=h
  rw [ht] at h1
  simp only [VR,DR] at h1
  refine ⟨if t then η a' else η b',by simp [execOp,h1,asBool],?_⟩
  cases t<;>simpa
 ·cases h
theorem pure_load (hρ:Opds ck G I N w η ρ)(hH:HR G I N w H){o:Oper}{n:Option Nat}{y:Opd}(hc:chkPure P ck o (.load n y)=true){v:AVal}{rs:List Nat}
  (h:pureOp ρ H (.load n y)=some (v,rs)):Good P G I N w η o v:=by
 obtain ⟨dst,oop,ty,pos,after,guard⟩:=o
 cases oop<;>simp [chkPure] at hc
 rename_i t x
 have h1:=hρ _ _ hc.1
 cases n with
 |none =>
  have ha:isAggT P t=some false:=by simpa [loadOK] using hc.2
  simp only [pureOp] at h
  split at h
  ·rename_i id off hp
   rw [hp] at h1
   simp only [VR] at h1
   split at h
   ·rename_i u hu
    simp at h
    obtain ⟨rfl,rfl⟩:=h
    obtain ⟨_,xs,g1,_,g3,g4⟩:=hH.rd hu (by omega)
    obtain ⟨z,rfl⟩:∃ z,xs=[z]:=by
     match xs,g1 with
     |[z],_=>exact ⟨z,rfl⟩
    have hz:=g3 0 z rfl
    have hv:=g4 0 u z rfl rfl
    refine ⟨z,?_,hv.asD⟩
    simp at hz
    simp [execOp,Instr.loadAt,h1.2,Instr.sureAddr,loadVar,run_isAgg ha,hz]
   ·cases h
  ·rename_i c cs hp
   simp at h
   obtain ⟨rfl,rfl⟩:=h
   rw [hp] at h1
   simp only [VR,DRs] at h1
   obtain ⟨b,off,g1,_,⟨z,g2,g3⟩,_⟩:=h1
   refine ⟨z,?_,by simpa [VR] using g3⟩
   simp [execOp,Instr.loadAt,g1,Instr.sureAddr,loadVar,run_isAgg ha,g2]
  ·cases h
 |some n =>
  have ha:isAggT P t=some true∧P.cellsOf t=n∧0<n:=by simpa [loadOK,and_assoc] using hc.2
  have hs:(sizeOf t).run P w= .ok n w:=by
   rw [← ha.2.1];refine run_sizeOf ?_
   have:=ha.1;unfold isAggT at this
   cases hu:P.underlying t with
   |none=>simp [hu] at this
   |some d=>exact info_of_underlying hu
  simp only [pureOp] at h
  split at h
  ·rename_i id off hp
   rw [hp] at h1
   simp only [VR] at h1
   split at h
   ·rename_i us hu
    simp at h
    obtain ⟨rfl,rfl⟩:=h
    obtain ⟨_,xs,g1,g2,g3,g4⟩:=hH.rd hu (by omega)
    have hl:=run_loadCells_list (P:=P) w (ad (I id).1 ((I id).2+off)) xs (fun j v hj=>by rw [add_ad];exact g3 j v hj)
    rw [g1] at hl
    refine ⟨.agg xs.toArray,?_,?_⟩
    ·simp [execOp,Instr.loadAt,h1.2,Instr.sureAddr,loadVar,run_isAgg ha.1,hs,hl]
    ·simp only [VR]
     refine ⟨_,rfl,VRs_of_pointwise _ _ (by simp [g1,g2]) fun j a v hj hv=> ?_⟩
     simp at hj hv
     obtain ⟨a',ha',rfl⟩:=hj
     exact (g4 j a' v ha' hv).asD
   ·cases h
  ·rename_i cells hp
   split at h
   ·rename_i hn
    simp at h
    obtain ⟨rfl,rfl⟩:=h
    rw [hp] at h1
    simp only [VR] at h1
    obtain ⟨b,off,g1,g2⟩:=h1
    obtain ⟨xs,e1,e2,e3⟩:=DRs.vals (I:=I) (N:=N) off _ (DRs.take n off cells g2)
    have e1' :xs.length=n:=by rw [e1];simp;omega
    have hl:=run_loadCells_list (P:=P) w (ad b off) xs (fun j v hj=>by rw [add_ad];exact e2 j v hj)
    rw [e1'] at hl
    refine ⟨.agg xs.toArray,?_,?_⟩
    ·simp [execOp,Instr.loadAt,g1,Instr.sureAddr,loadVar,run_isAgg ha.1,hs,hl]
    ·simp only [VR]
     exact ⟨_,rfl,by simpa using e3⟩
   ·cases h
  ·cases h
theorem pure_nilck (hρ:Opds ck G I N w η ρ){o:Oper}{y:Opd}(hc:chkPure P ck o (.nilck y)=true){v:AVal}{rs:List Nat}
  (h:pureOp ρ H (.nilck y)=some (v,rs)):Good P G I N w η o v:=by
 obtain ⟨dst,oop,ty,pos,after,guard⟩:=o
 cases oop<;>simp [chkPure] at hc
 rename_i x
 have h1:=hρ _ _ hc
 simp only [pureOp] at h
 split at h
 ·rename_i id off hp
  simp at h;obtain ⟨rfl,rfl⟩:=h
  rw [hp] at h1
  have h2:=h1
  simp only [VR] at h1
  exact ⟨η x,by simp [execOp,h1.2],h2⟩
 ·rename_i cells hp
  simp at h;obtain ⟨rfl,rfl⟩:=h
  rw [hp] at h1
  have h2:=h1
  simp only [VR] at h1
  obtain ⟨b,off,g1,g2⟩:=h1
  exact ⟨η x,by simp [execOp,g1],h2⟩
 ·rename_i f a b hp
  simp at h;obtain ⟨rfl,rfl⟩:=h
  rw [hp] at h1
  have h2:=h1
  simp only [VR] at h1
  obtain ⟨x',y',g1,g2,g3⟩:=h1
  exact ⟨η x,by simp [execOp,g1],h2⟩
 ·cases h
def Data.val:Data→Value
 | .bool b=> .bool b
 | .int k n=> .int k n
 | .str s=> .string ⟨s.toArray⟩
 | .nilptr=> .pointer Option.none
 | .nilfunc=> .nilFunc
 | .nilmap=> .map Option.none
 | .nilIface=> .nilIface
 | .slice _ _=> .slice Option.none 0 0
theorem binData_sound {b:BinOp}{x y r:Data}(h:binData b x y=some r){u v:Value}(hu:DR G w x u)(hv:DR G w y v)(t:TypeId)(p q:Operand) :
  ∃ z,(do eqGuard b t p q u v;binOp b t u v).run P w= .ok z w∧DR G w r z:=by
 refine ⟨Data.val r,?_⟩
 unfold binData at h
 split at h
 ·rename_i k a k' c
  simp only [DR] at hu hv
  subst hu hv
  have hg:(eqGuard b t p q (.int k a) (.int k' c)).run P w= .ok () w:=by unfold eqGuard;cases b<;>simp
  split at h
  ·rename_i hsh
   unfold binShift at h
   split at h
   ·cases h
   ·rename_i hneg
    cases b<;>simp [isShift] at hsh<;>simp at h<;>subst h <;>
     exact ⟨by simp [hg,binOp,Op.shift,hneg,Data.val],by simp [DR,Data.val]⟩
  ·rename_i hsh
   split at h
   ·rename_i hk
    subst hk
    unfold binInt at h
    cases b<;>simp [isShift] at hsh<;>simp at h
    all_goals first
     |(subst h;exact ⟨by simp [hg,binOp,Op.intArith,Op.intCmp,Op.intBits,Data.val],by simp [DR,Data.val]⟩)
     |(obtain ⟨h0,rfl⟩:=h;exact ⟨by simp [hg,binOp,Op.intDiv,h0,Data.val],by simp [DR,Data.val]⟩)
   ·cases h
 ·rename_i a c
  simp only [DR] at hu hv
  subst hu hv
  have hg:(eqGuard b t p q (.string ⟨a.toArray⟩) (.string ⟨c.toArray⟩)).run P w= .ok () w:=by unfold eqGuard;cases b<;>simp
  unfold binStr at h
  cases b<;>simp at h
  all_goals first
   |(subst h;exact ⟨by simp [hg,binOp,Op.stringOp,Data.val],by simp [DR,Data.val]⟩)
   |skip
  obtain ⟨h0,rfl⟩:=h
  have hcat:(⟨a.toArray⟩++⟨c.toArray⟩:ByteArray)=⟨(a++c).toArray⟩:=by
   apply ByteArray.ext
   simp
  refine ⟨?_,by simp [DR,Data.val]⟩
  ·have hs:¬ (((⟨a.toArray⟩:ByteArray).size+(⟨c.toArray⟩:ByteArray).size:Nat):Int)>IntKind.i64.max:=by
    have e1:(⟨a.toArray⟩:ByteArray).size=a.length:=by simp [ByteArray.size]
    have e2:(⟨c.toArray⟩:ByteArray).size=c.length:=by simp [ByteArray.size]
    rw [e1,e2]
    have:IntKind.i64.max=9223372036854775807:=by decide
    rw [this];omega
   simp only [Sem.run_bind,hg,Result.andThen_ok,binOp,Op.stringOp,if_neg hs,Sem.run_pure,Data.val,hcat]
 ·cases h
theorem pure_bin (hρ:Opds ck G I N w η ρ){o:Oper}{b:BinOp}{x y:Opd}(hc:chkPure P ck o (.bin b x y)=true){v:AVal}{rs:List Nat}
  (h:pureOp ρ H (.bin b x y)=some (v,rs)):Good P G I N w η o v:=by
 obtain ⟨dst,oop,ty,pos,after,guard⟩:=o
 cases oop<;>simp [chkPure] at hc
 rename_i b' t x' y' ty'
 obtain ⟨⟨rfl,hx⟩,hy⟩:=hc
 have h1:=hρ _ _ hx
 have h2:=hρ _ _ hy
 simp only [pureOp] at h
 split at h
 ·rename_i a c ha hc'
  rw [ha] at h1;rw [hc'] at h2
  simp only [VR] at h1 h2
  split at h
  ·rename_i r hr
   simp at h;obtain ⟨rfl,rfl⟩:=h
   obtain ⟨z,g1,g2⟩:=binData_sound (P:=P) hr h1 h2 t x' y'
   exact ⟨z,by simp only [execOp];rw [Sem.run_bind,g1];rfl,by simpa [VR] using g2⟩
  ·cases h
 ·cases h
theorem equalIn_slice_nil (d:Nat){t e:TypeId}(he:P.underlying t=some (.slice e))(a:Addr)(l c:Nat):(Op.equalIn (d+1) t (.slice (some a) l c) (.slice Option.none 0 0)).run P w= .ok false w:=by
 simp [Op.equalIn,run_underlying he]
theorem equal_slice_nil {t e:TypeId}(he:P.underlying t=some (.slice e))(a:Addr)(l c:Nat):(Op.equal t (.slice (some a) l c) (.slice Option.none 0 0)).run P w= .ok false w:=equalIn_slice_nil 9999 he a l c
theorem equalIn_nil_nil (d:Nat){t:TypeId}{ms:Array (String×TypeId)}(he:P.underlying t=some (.interface ms)):(Op.equalIn (d+1) t .nilIface .nilIface).run P w= .ok true w:=by
 simp [Op.equalIn,run_underlying he]
theorem equal_nil_nil {t:TypeId}{ms:Array (String×TypeId)}(he:P.underlying t=some (.interface ms)):(Op.equal t .nilIface .nilIface).run P w= .ok true w:=equalIn_nil_nil 9999 he
theorem equalIn_bool (d:Nat){t:TypeId}(he:P.underlying t=some .bool)(a b:Bool):(Op.equalIn (d+1) t (.bool a) (.bool b)).run P w= .ok (a==b) w:=by
 simp [Op.equalIn,run_underlying he]
theorem equal_bool {t:TypeId}(he:P.underlying t=some .bool)(a b:Bool):(Op.equal t (.bool a) (.bool b)).run P w= .ok (a==b) w:=equalIn_bool 9999 he a b
theorem pure_nilS (hη:∀ v,η (.const v)=v)(hρ:Opds ck G I N w η ρ){o:Oper}{neg:Bool}{x:Opd}(hc:chkPure P ck o (.nilS neg x)=true){v:AVal}{rs:List Nat}
  (h:pureOp ρ H (.nilS neg x)=some (v,rs)):Good P G I N w η o v:=by
 obtain ⟨dst,oop,ty,pos,after,guard⟩:=o
 unfold chkPure at hc
 split at hc<;>try (cases hc;done)
 all_goals try (rename_i heq1 heq2;cases heq2;done)
 all_goals rename_i heq1 heq2
 all_goals cases heq2
 all_goals simp only at heq1
 all_goals subst heq1
 rename_i b t x' ty'
 simp only [Bool.and_eq_true] at hc
 obtain ⟨⟨hx,ht⟩,hb⟩:=hc
 have h1:=hρ _ _ hx
 obtain ⟨e,he⟩:∃ e,P.underlying t=some (.slice e):=by
  split at ht
  ·exact ⟨_,by assumption⟩
  ·cases ht
 have key:∃ a l c,η x' = .slice (some a) l c∧v= .d (.bool neg):=by
  simp only [pureOp] at h
  split at h
  ·rename_i len cells hp
   split at h
   ·simp at h;obtain ⟨rfl,rfl⟩:=h
    rw [hp] at h1
    simp only [VR,DR] at h1
    rcases h1 with ⟨_,h0,_⟩|⟨b',o',cap,h1,_,_⟩
    ·omega
    ·exact ⟨_,_,_,h1,rfl⟩
   ·cases h
  ·rename_i id sz lo len hp
   simp at h;obtain ⟨rfl,rfl⟩:=h
   rw [hp] at h1
   simp only [VR] at h1
   obtain ⟨_,cap,h1,_⟩:=h1
   exact ⟨_,_,_,h1,rfl⟩
  ·cases h
 obtain ⟨a,l,c,hx',rfl⟩:=key
 refine ⟨.bool neg,?_,by simp [VR,DR]⟩
 simp only [execOp,hx',hη]
 cases neg<;>simp at hb<;>subst hb<;>simp only [eqGuard,binOp]<;>simp [equal_slice_nil he]
theorem pure_nilI (hη:∀ v,η (.const v)=v)(hρ:Opds ck G I N w η ρ){o:Oper}{neg:Bool}{x:Opd}(hc:chkPure P ck o (.nilI neg x)=true){v:AVal}{rs:List Nat}
  (h:pureOp ρ H (.nilI neg x)=some (v,rs)):Good P G I N w η o v:=by
 obtain ⟨dst,oop,ty,pos,after,guard⟩:=o
 unfold chkPure at hc
 split at hc<;>try (cases hc;done)
 all_goals try (rename_i heq1 heq2;cases heq2;done)
 all_goals rename_i heq1 heq2
 all_goals cases heq2
 all_goals simp only at heq1
 all_goals subst heq1
 rename_i b t x' ty'
 simp only [Bool.and_eq_true] at hc
 obtain ⟨⟨hx,ht⟩,hb⟩:=hc
 have h1:=hρ _ _ hx
 obtain ⟨e,he⟩:∃ e,P.underlying t=some (.interface e):=by
  split at ht
  ·exact ⟨_,by assumption⟩
  ·cases ht
 simp only [pureOp] at h
 split at h
 ·rename_i hp
  simp at h;obtain ⟨rfl,rfl⟩:=h
  rw [hp] at h1
  simp only [VR,DR] at h1
  refine ⟨.bool (!neg),?_,by simp [VR,DR]⟩
  simp only [execOp,h1,hη]
  cases neg<;>simp at hb<;>subst hb<;>simp only [eqGuard,binOp]<;>simp [equal_nil_nil he]
 ·cases h
theorem pure_eqB (hρ:Opds ck G I N w η ρ){o:Oper}{neg:Bool}{x y:Opd}(hc:chkPure P ck o (.eqB neg x y)=true){v:AVal}{rs:List Nat}
  (h:pureOp ρ H (.eqB neg x y)=some (v,rs)):Good P G I N w η o v:=by
 obtain ⟨dst,oop,ty,pos,after,guard⟩:=o
 cases oop<;>simp only [chkPure,Bool.and_eq_true] at hc<;>try (cases hc;done)
 rename_i b t x' y' ty'
 obtain ⟨⟨⟨hx,hy⟩,ht⟩,hb⟩:=hc
 have h1:=hρ _ _ hx
 have h2:=hρ _ _ hy
 have he:P.underlying t=some .bool:=by
  split at ht
  ·assumption
  ·cases ht
 simp only [pureOp] at h
 split at h
 ·rename_i a c ha hc'
  simp at h;obtain ⟨rfl,rfl⟩:=h
  rw [ha] at h1;rw [hc'] at h2
  simp only [VR,DR] at h1 h2
  refine ⟨.bool (neg != (a==c)),?_,by simp [VR,DR]⟩
  simp only [execOp,h1,h2]
  cases neg<;>simp at hb<;>subst hb<;>simp only [eqGuard,binOp]<;>simp [equal_bool he]
 ·cases h
theorem kindT_agg {t:TypeId}{k:CK}(h:kindT P t k=true):isAggT P t=some false:=by
 unfold isAggT
 cases k<;>simp only [kindT] at h<;>split at h<;>simp_all
theorem run_part_plain {t:TypeId}{k:CK}(h:kindT P t k=true)(cs:Array Value)(off:Nat)(v:Value)(hv:cs[off]? =some v):(part t cs off).run P w= .ok v w:=by
 simp [part,run_isAgg (kindT_agg h),hv]
theorem cellEq_sound {k:CK}{a b:Data}{r:Bool}(h:Data.cellEq k a b=some r){u v:Value}(hu:DR G w a u)(hv:DR G w b v){t:TypeId}(ht:kindT P t k=true)(d:Nat) :
  (Op.equalIn (d+1) t u v).run P w= .ok r w:=by
 unfold Data.cellEq at h
 split at h
 ·rename_i k x k' y
  simp only [DR] at hu hv
  subst hu hv
  split at h
  ·rename_i hkk
   subst hkk
   simp at h;subst h
   simp only [kindT] at ht
   split at ht
   ·rename_i k2 hk2;simp [Op.equalIn,run_underlying hk2]
   ·cases ht
  ·cases h
 ·rename_i x y
  simp only [DR] at hu hv
  subst hu hv
  simp at h;subst h
  simp only [kindT] at ht
  split at ht
  ·rename_i h2;simp [Op.equalIn,run_underlying h2,beq_toListBytes]
  ·cases ht
 ·rename_i x y
  simp only [DR] at hu hv
  subst hu hv
  simp at h;subst h
  simp only [kindT] at ht
  split at ht
  ·rename_i h2;simp [Op.equalIn,run_underlying h2]
  ·cases ht
 ·cases h
theorem eqFields_flat (d:Nat)(xs ys:Array Value):∀ (fs:List Field) (n:Nat) (ks:List CK) (a b:List AVal) (r:Bool),flatFields P fs n ks=true→cellsEq ks a b=some r →
  (∀ (j:Nat) c,a[j]? =some c→∃ v,xs[n+j]? =some v∧VR G I N w .none c v)→(∀ (j:Nat) c,b[j]? =some c→∃ v,ys[n+j]? =some v∧VR G I N w .none c v) →
  (Op.eqFields (d+1) xs ys fs).run P w= .ok r w
 |[],n,ks,a,b,r,hf,hc,_,_=>by
  cases ks with
  |nil =>
   unfold cellsEq at hc
   split at hc<;>simp_all [Op.eqFields]
  |cons=>simp [flatFields] at hf
 |f::fs,n,[],a,b,r,hf,hc,_,_=>by simp [flatFields] at hf
 |f::fs,n,k::ks,a,b,r,hf,hc,ha,hb=>by
  simp only [flatFields,Bool.and_eq_true,bne_iff_ne,beq_iff_eq] at hf
  obtain ⟨⟨⟨h1,h2⟩,h3⟩,h4⟩:=hf
  unfold cellsEq at hc
  split at hc
  ·simp_all
  ·rename_i k0 ks0 x a' y b' e1
   cases e1
   split at hc
   ·rename_i t ht
    split at hc
    ·rename_i u hu
     simp at hc;subst hc
     obtain ⟨v1,g1,g2⟩:=ha 0 _ rfl
     obtain ⟨v2,g3,g4⟩:=hb 0 _ rfl
     simp only [VR] at g2 g4
     rw [Nat.add_zero] at g1 g3
     have e1:=run_part_plain (w:=w) h2 xs n v1 g1
     have e2:=run_part_plain (w:=w) h2 ys n v2 g3
     have e3:=cellEq_sound (P:=P) ht g2 g4 h2 d
     have ih:=eqFields_flat d xs ys fs (n+1) ks a' b' u h4 hu (fun j c hj=>by rw [show n+1+j=n+(j+1) from by omega];exact ha (j+1) c (by simpa using hj))
      (fun j c hj=>by rw [show n+1+j=n+(j+1) from by omega];exact hb (j+1) c (by simpa using hj))
     simp only [Op.eqFields,if_pos h1,Sem.run_bind,h3,e1,e2,e3,Result.andThen_ok]
     cases t<;>simp [ih]
    ·cases hc
   ·cases hc
  ·cases hc
theorem pure_eqS (hρ:Opds ck G I N w η ρ){o:Oper}{neg:Bool}{ks:List CK}{x y:Opd}(hc:chkPure P ck o (.eqS neg ks x y)=true){v:AVal}{rs:List Nat}
  (h:pureOp ρ H (.eqS neg ks x y)=some (v,rs)):Good P G I N w η o v:=by
 obtain ⟨dst,oop,ty,pos,after,guard⟩:=o
 cases oop<;>simp only [chkPure,Bool.and_eq_true] at hc<;>try (cases hc;done)
 rename_i b t x' y' ty'
 obtain ⟨⟨⟨hx,hy⟩,ht⟩,hb⟩:=hc
 have h1:=hρ _ _ hx
 have h2:=hρ _ _ hy
 unfold flatStruct at ht
 split at ht
 ·rename_i fs hfs
  simp only [Bool.and_eq_true,Bool.not_eq_true'] at ht
  simp only [pureOp] at h
  split at h
  ·rename_i a c ha hc'
   split at h
   ·rename_i r hr
    simp at h;obtain ⟨rfl,rfl⟩:=h
    rw [ha] at h1;rw [hc'] at h2
    simp only [VR] at h1 h2
    obtain ⟨xs,e1,e2⟩:=h1
    obtain ⟨ys,e3,e4⟩:=h2
    have hff:P.fieldsOf t=fs:=by simp [Program.fieldsOf,hfs]
    have heq:=run_equalIn_struct (P:=P) w 9999 t xs ys (by rw [hff];exact hfs) ht.1.2
    rw [hff,eqFields_flat (P:=P) (G:=G) (I:=I) (N:=N) 9998 xs ys fs.toList 0 ks a c r ht.1.1 hr
     (fun j u hu=>by obtain ⟨v,g1,g2⟩:=VRs.get a _ e2 j u hu;exact ⟨v,by simpa using g1,g2⟩)
     (fun j u hu=>by obtain ⟨v,g1,g2⟩:=VRs.get c _ e4 j u hu;exact ⟨v,by simpa using g1,g2⟩)] at heq
    refine ⟨.bool (neg != r),?_,by simp [VR,DR]⟩
    simp only [execOp,e1,e3,Sem.run_bind,run_eqGuard_agg w b t x' y' xs ys ht.2,Result.andThen_ok]
    cases neg<;>simp at hb<;>subst hb
    ·rw [run_eql_struct,heq];simp
    ·rw [run_neq_struct,heq];simp
   ·cases h
  ·cases h
 ·cases ht
end
end Go.Abs
namespace Go.Abs
section
variable {P:Program} {w:World} {ck:Operand→Opd→Bool} {η:Operand→Value} {ρ:Opd→AVal} {G:Gh} {I:Inj} {N:Nat→Prop} {H:Heap}
theorem pure_un (hρ:Opds ck G I N w η ρ){o:Oper}{b:UnOp}{x:Opd}(hc:chkPure P ck o (.un b x)=true){v:AVal}{rs:List Nat}
  (h:pureOp ρ H (.un b x)=some (v,rs)):Good P G I N w η o v:=by
 obtain ⟨dst,oop,ty,pos,after,guard⟩:=o
 cases oop<;>simp [chkPure] at hc
 rename_i b' t x'
 obtain ⟨rfl,hx⟩:=hc
 have h1:=hρ _ _ hx
 simp only [pureOp] at h
 split at h
 ·rename_i a ha
  rw [ha] at h1
  simp only [VR] at h1
  split at h
  ·rename_i r hr
   simp at h;obtain ⟨rfl,rfl⟩:=h
   refine ⟨Data.val r,?_⟩
   unfold unData at hr
   split at hr
   ·simp only [DR] at h1
    cases b' <;>simp at hr
    subst hr
    simp [execOp,h1,Op.unary,Op.intArith,Data.val,VR,DR]
   ·simp only [DR] at h1
    cases b' <;>simp at hr
    subst hr
    simp [execOp,h1,Op.unary,Data.val,VR,DR]
   ·cases hr
  ·cases h
 ·cases h
theorem pure_convI (hρ:Opds ck G I N w η ρ){o:Oper}{k:IntKind}{x:Opd}(hc:chkPure P ck o (.convI k x)=true){v:AVal}{rs:List Nat}
  (h:pureOp ρ H (.convI k x)=some (v,rs)):Good P G I N w η o v:=by
 obtain ⟨dst,oop,ty,pos,after,guard⟩:=o
 cases oop<;>simp only [chkPure,Bool.and_eq_true] at hc<;>try (cases hc;done)
 rename_i s d x'
 obtain ⟨⟨hx,hs⟩,hd⟩:=hc
 have h1:=hρ _ _ hx
 obtain ⟨ds,hds⟩:=Option.isSome_iff_exists.1 hs
 split at hd
 ·rename_i k' hk'
  simp at hd;subst hd
  simp only [pureOp] at h
  split at h
  ·rename_i k2 n ha
   simp at h;obtain ⟨rfl,rfl⟩:=h
   rw [ha] at h1
   simp only [VR,DR] at h1
   refine ⟨.int k (k.wrap n),?_,by simp [VR,DR]⟩
   simp [execOp,h1,convert,run_underlying hds,run_underlying hk',Conv.intToInt]
  ·cases h
 ·cases hd
theorem pure_convId (hρ:Opds ck G I N w η ρ){o:Oper}{x:Opd}(hc:chkPure P ck o (.convId x)=true){v:AVal}{rs:List Nat}
  (h:pureOp ρ H (.convId x)=some (v,rs)):Good P G I N w η o v:=by
 obtain ⟨dst,oop,ty,pos,after,guard⟩:=o
 cases oop<;>simp only [chkPure,Bool.and_eq_true] at hc<;>try (cases hc;done)
 rename_i s d x'
 obtain ⟨⟨hx,hs⟩,hd⟩:=hc
 have h1:=hρ _ _ hx
 obtain ⟨ds,hds⟩:=Option.isSome_iff_exists.1 hs
 split at hd
 ·rename_i hk'
  simp only [pureOp] at h
  split at h
  ·rename_i l ha
   simp at h;obtain ⟨rfl,rfl⟩:=h
   rw [ha] at h1
   simp only [VR,DR] at h1
   refine ⟨.string ⟨l.toArray⟩,?_,by simp [VR,DR]⟩
   cases ds<;>simp [execOp,h1,convert,run_underlying hds,run_underlying hk']
  ·cases h
 ·cases hd
theorem bytes_vals:∀ (vs:List Value) (l:List Data) (bs:List UInt8),bytesOf? l=some bs→VRs G I N w (l.map .d) vs →
  ∃ ns:List Int,vs=ns.map (Value.int .u8)∧bs=ns.map fun n=>UInt8.ofNat n.toNat
 |vs,[],bs,hb,hv=>by
  simp [bytesOf?] at hb;subst hb
  simp [VRs] at hv;subst hv
  exact ⟨[],rfl,rfl⟩
 |vs,a::as,bs,hb,hv=>by
  simp only [List.map_cons,VRs] at hv
  obtain ⟨x,xs,rfl,e2,e3⟩:=hv
  unfold bytesOf? at hb
  split at hb
  ·cases ‹a::as=[]›
  ·rename_i n r heq
   cases heq
   split at hb
   ·rename_i bs' hbs
    simp at hb;subst hb
    simp only [VR,DR] at e2
    subst e2
    obtain ⟨ns,rfl,rfl⟩:=bytes_vals xs as bs' hbs e3
    exact ⟨n::ns,rfl,rfl⟩
   ·cases hb
  ·cases hb
theorem foldl_push:∀ (ns:List Int) (s:ByteArray),(ns.foldl (fun r n=>r.push (UInt8.ofNat n.toNat)) s)=⟨(s.data.toList++ns.map fun n=>UInt8.ofNat n.toNat).toArray⟩
 |[],s=>by simp
 |n::ns,s=>by
  rw [List.foldl_cons,foldl_push ns]
  simp
theorem pure_convBS (hρ:Opds ck G I N w η ρ){o:Oper}{x:Opd}(hc:chkPure P ck o (.convBS x)=true){v:AVal}{rs:List Nat}
  (h:pureOp ρ H (.convBS x)=some (v,rs)):Good P G I N w η o v:=by
 obtain ⟨dst,oop,ty,pos,after,guard⟩:=o
 cases oop<;>simp only [chkPure,Bool.and_eq_true] at hc<;>try (cases hc;done)
 rename_i s d x'
 obtain ⟨⟨hx,hs⟩,hd⟩:=hc
 have h1:=hρ _ _ hx
 split at hs
 ·rename_i e he
  split at hs
  ·rename_i hu8
   split at hd
   ·rename_i hstr
    simp only [pureOp] at h
    split at h
    ·rename_i len cells ha
     split at h
     ·rename_i hlen
      split at h
      ·rename_i bs hbs
       simp at h;obtain ⟨rfl,rfl⟩:=h
       rw [ha] at h1
       simp only [VR,DR] at h1
       refine ⟨.string ⟨bs.toArray⟩,?_,by simp [VR,DR]⟩
       rcases h1 with ⟨h1,h2,h3⟩|⟨b,off,cap,h1,h2,h3⟩
       ·subst h3
        simp [bytesOf?] at hbs
        subst hbs
        rcases h1 with h1|⟨a0,h1⟩
        ·simp [execOp,h1,convert,run_underlying he,run_underlying hstr,run_underlying hu8,Conv.bytesToString]
         rfl
        ·have hl:(loadCells a0 0).run P w= .ok (([]:List Int).map (Value.int .u8)).toArray w:=by simp [loadCells,loadCellsFrom]
         simp only [execOp,h1,Sem.run_bind,run_convert_bytes_string w s d e _ _ _ he hu8 hstr,run_bytesToString w a0 0 0 [] hl]
         rfl
       ·obtain ⟨vs,g1,g2,g3⟩:=DRs.vals (I:=I) (N:=N) off cells h3
        have hl:=run_loadCells_list (P:=P) w (ad b off) vs (fun j v hj=>by rw [add_ad];exact g2 j v hj)
        rw [g1,hlen] at hl
        obtain ⟨ns,rfl,rfl⟩:=bytes_vals (G:=G) (I:=I) (N:=N) vs cells bs hbs g3
        simp only [execOp,h1,Sem.run_bind,run_convert_bytes_string w s d e _ _ _ he hu8 hstr,run_bytesToString w (ad b off) len cap ns hl,foldl_push]
        simp
      ·cases h
     ·cases h
    ·cases h
   ·cases hd
  ·cases hs
 ·cases hs
theorem bound_sound (hρ:Opds ck G I N w η ρ){x:Option Operand}{y:Option Opd}(hc:ckO ck x y=true){d:Nat}{n:Int}(h:bound? ρ d y=some n) :
  (x=none∧n=d)∨∃ x' k,x=some x' ∧η x' = .int k n:=by
 cases y with
 |none =>
  cases x with
  |none=>simp [bound?] at h;exact Or.inl ⟨rfl,h.symm⟩
  |some x=>simp [ckO] at hc
 |some y =>
  cases x with
  |none=>simp [ckO] at hc
  |some x =>
   simp only [ckO] at hc
   have h1:=hρ _ _ hc
   simp only [bound?] at h
   split at h
   ·rename_i k m hp
    simp at h;subst h
    rw [hp] at h1
    simp only [VR,DR] at h1
    exact Or.inr ⟨x,k,rfl,h1⟩
   ·cases h
theorem run_bound (hρ:Opds ck G I N w η ρ){lo hi:Option Operand}{lo' hi' :Option Opd}(hl:ckO ck lo lo' =true)(hh:ckO ck hi hi' =true){len cap:Nat}{l h:Int}
  (bl:bound? ρ 0 lo' =some l) (bh:bound? ρ len hi' =some h) (h0:0≤l) (h1:l≤h) (h2:h≤len) (hcap:len≤cap) (b:Bool) :
  (Instr.sliceBounds b len cap (lo.map η) (hi.map η) none).run P w= .ok (l.toNat,h.toNat,cap) w:=by
 rcases bound_sound hρ hl bl with ⟨rfl,rfl⟩|⟨x1,k1,rfl,e1⟩<;>rcases bound_sound hρ hh bh with ⟨rfl,rfl⟩|⟨x2,k2,rfl,e2⟩
 ·simp [Instr.sliceBounds]
 ·have a1:(0≤h∧h≤(cap:Int)):=by omega
  simp [Instr.sliceBounds,e2,Instr.sliceBound,asIntOf,a1]
 ·have a1:(0≤l∧l≤(len:Int)):=by omega
  simp [Instr.sliceBounds,e1,Instr.sliceBound,asIntOf,a1]
 ·have a1:(0≤h∧h≤(cap:Int)):=by omega
  have a2:(0≤l∧l≤((h.toNat:Nat):Int)):=by omega
  simp only [Instr.sliceBounds,Option.map_some,e1,e2,Instr.sliceBound,asIntOf,Sem.run_bind,Sem.run_pure,Result.andThen_ok,Sem.run_ite,if_pos a1,if_pos a2]
theorem pure_sliceS (hρ:Opds ck G I N w η ρ){o:Oper}{x:Opd}{lo hi:Option Opd}(hc:chkPure P ck o (.sliceS x lo hi)=true){v:AVal}{rs:List Nat}
  (h:pureOp ρ H (.sliceS x lo hi)=some (v,rs)):Good P G I N w η o v:=by
 obtain ⟨dst,oop,ty,pos,after,guard⟩:=o
 unfold chkPure at hc
 split at hc<;>try (cases hc;done)
 all_goals try (rename_i heq1 heq2;cases heq2;done)
 all_goals rename_i heq1 heq2
 all_goals cases heq2
 all_goals simp only at heq1
 all_goals subst heq1
 rename_i t x' lo' hi'
 simp only [Bool.and_eq_true] at hc
 obtain ⟨⟨⟨hx,hl⟩,hh⟩,ht⟩:=hc
 have h1:=hρ _ _ hx
 have hu:P.underlying t=some .string:=by
  split at ht
  ·assumption
  ·cases ht
 simp only [pureOp] at h
 split at h
 ·rename_i s hs
  split at h
  ·rename_i l hi2 bl bh
   split at h
   ·rename_i hb
    simp at h;obtain ⟨rfl,rfl⟩:=h
    rw [hs] at h1
    simp only [VR,DR] at h1
    have hsz:(⟨s.toArray⟩:ByteArray).size=s.length:=by simp [ByteArray.size]
    have hrb:=run_bound (P:=P) hρ hl hh bl bh hb.1 hb.2.1 hb.2.2 (Nat.le_refl _) false
    refine ⟨.string ((⟨s.toArray⟩:ByteArray).extract l.toNat hi2.toNat),?_,?_⟩
    ·simp only [execOp,h1,Instr.sliceAt,Sem.run_bind,run_underlying hu,Result.andThen_ok,Instr.slice,hsz]
     simp [hrb]
    ·simp only [VR,DR]
     congr 1
     apply WideShapes.bytes_inj
     rw [Lib.extract_data,List.drop_take]
   ·cases h
  ·cases h
 ·cases h
theorem pure_sliceV (hρ:Opds ck G I N w η ρ){o:Oper}{sz:Nat}{x:Opd}{lo hi:Option Opd}(hc:chkPure P ck o (.sliceV sz x lo hi)=true){v:AVal}{rs:List Nat}
  (h:pureOp ρ H (.sliceV sz x lo hi)=some (v,rs)):Good P G I N w η o v:=by
 obtain ⟨dst,oop,ty,pos,after,guard⟩:=o
 unfold chkPure at hc
 split at hc<;>try (cases hc;done)
 all_goals try (rename_i heq1 heq2;cases heq2;done)
 all_goals rename_i heq1 heq2
 all_goals cases heq2
 all_goals simp only at heq1
 all_goals subst heq1
 rename_i t x' lo' hi'
 simp only [Bool.and_eq_true,decide_eq_true_eq] at hc
 obtain ⟨⟨⟨⟨hx,hl⟩,hh⟩,ht⟩,hsz⟩:=hc
 have h1:=hρ _ _ hx
 obtain ⟨e,hu,hse,hie⟩:=isSliceT_sound ht
 have hsize:(sizeOf e).run P w= .ok sz w:=by rw [← hse];exact run_sizeOf hie
 simp only [pureOp] at h
 split at h
 ·rename_i len cells hs
  split at h
  ·rename_i l hi2 bl bh
   split at h
   ·rename_i hb
    simp at h;obtain ⟨rfl,rfl⟩:=h
    rw [hs] at h1
    simp only [VR,DR] at h1
    rcases h1 with ⟨h1,h2,h3⟩|⟨b,off,cap,h1,h2,h3⟩
    ·subst h2 h3
     have hrb:=run_bound (P:=P) hρ hl hh bl bh hb.1 hb.2.1 hb.2.2.1 (Nat.le_refl 0) true
     have hl0:l=0:=by omega
     have hh0:hi2=0:=by omega
     subst hl0 hh0
     rcases h1 with h1|⟨a0,h1⟩
     ·refine ⟨.slice none 0 0,?_,by simp [VR,DR]⟩
      simp only [execOp,h1,Instr.sliceAt,Sem.run_bind,run_underlying hu,Result.andThen_ok,Instr.slice]
      simp [hrb,hsize]
     ·refine ⟨.slice (some a0) 0 0,?_,by simp [VR,DR]⟩
      simp only [execOp,h1,Instr.sliceAt,Sem.run_bind,run_underlying hu,Result.andThen_ok,Instr.slice]
      simp [hrb,hsize]
    ·have hrb:=run_bound (P:=P) hρ hl hh bl bh hb.1 hb.2.1 hb.2.2.1 h2 true
     refine ⟨.slice (if cap=l.toNat then some (ad b off) else (some (ad b off)).map (·.add (l.toNat * sz))) (hi2.toNat - l.toNat) (cap - l.toNat),?_,?_⟩
     ·simp only [execOp,h1,Instr.sliceAt,Sem.run_bind,run_underlying hu,Result.andThen_ok,Instr.slice]
      simp [hrb,hsize]
     ·simp only [VR,DR]
      have e1:(hi2 - l).toNat=hi2.toNat - l.toNat:=by omega
      by_cases hcl:cap=l.toNat
      ·refine Or.inr ⟨b,off,cap - l.toNat,?_,by omega,?_⟩
       ·rw [if_pos hcl,e1]
       ·have:(cells.take (hi2.toNat * sz)).drop (l.toNat * sz)=[]:=by
         apply List.drop_eq_nil_of_le
         have:hi2.toNat * sz≤l.toNat * sz:=Nat.mul_le_mul_right _ (by omega)
         simp;omega
        rw [this];simp [DRs]
      ·refine Or.inr ⟨b,off+l.toNat * sz,cap - l.toNat,?_,by omega,DRs.drop _ _ _ (DRs.take _ _ _ h3)⟩
       rw [if_neg hcl,e1]
       simp [add_ad]
   ·cases h
  ·cases h
 ·rename_i id z a len hs
  split at h
  ·rename_i l hi2 bl bh
   split at h
   ·rename_i hb
    rw [hs] at h1
    simp only [VR] at h1
    obtain ⟨g1,cap,g2,g3,c,e',f,g4,g5⟩:=h1
    have hrb:=run_bound (P:=P) hρ hl hh bl bh hb.1 hb.2.1 hb.2.2.1 g3 true
    have e1:(hi2 - l).toNat=hi2.toNat - l.toNat:=by omega
    have hrun:(execOp η ⟨dst,.slice t x' lo' hi' none,ty,pos,after,guard⟩).run P w =
      .ok (.value (.slice (if cap=l.toNat then some (ad (I id).1 ((I id).2+a)) else (some (ad (I id).1 ((I id).2+a))).map (·.add (l.toNat * sz))) (hi2.toNat - l.toNat) (cap - l.toNat))) w:=by
     simp only [execOp,g2,Instr.sliceAt,Sem.run_bind,run_underlying hu,Result.andThen_ok,Instr.slice]
     simp [hrb,hsize]
    refine ⟨_,hrun,?_⟩
    split at h
    ·rename_i hlh
     simp at h;obtain ⟨rfl,rfl⟩:=h
     simp only [VR,DR]
     subst hlh
     by_cases hcl:cap=l.toNat
     ·exact Or.inr ⟨_,_,cap - l.toNat,by rw [if_pos hcl,Nat.sub_self],by omega,by simp [DRs]⟩
     ·exact Or.inr ⟨(I id).1,(I id).2+a+l.toNat * sz,cap - l.toNat,by rw [if_neg hcl,Nat.sub_self];simp [add_ad],by omega,by simp [DRs]⟩
    ·rename_i hlh
     simp at h;obtain ⟨rfl,rfl⟩:=h
     simp only [VR]
     have hcl:¬ cap=l.toNat:=by omega
     refine ⟨g1,cap - l.toNat,?_,by omega,c,e',f,g4,?_⟩
     ·rw [if_neg hcl,e1]
      simp [add_ad,Nat.add_assoc]
     ·have hz:z=sz:=hb.2.2.2
      subst hz
      have:cap * z=(cap - l.toNat) * z+l.toNat * z:=by rw [← Nat.add_mul];congr 1;omega
      omega
   ·cases h
  ·cases h
 ·cases h
end
end Go.Abs
namespace Go.Abs
section
variable {P:Program} {w:World} {ck:Operand→Opd→Bool} {η:Operand→Value} {ρ:Opd→AVal} {G:Gh} {I:Inj} {N:Nat→Prop} {H:Heap}
theorem pure_off (hρ:Opds ck G I N w η ρ){o:Oper}{k:Nat}{x:Opd}(hc:chkPure P ck o (.off k x)=true){v:AVal}{rs:List Nat}
  (h:pureOp ρ H (.off k x)=some (v,rs)):Good P G I N w η o v:=by
 obtain ⟨dst,oop,ty,pos,after,guard⟩:=o
 cases oop<;>simp only [chkPure,Bool.and_eq_true] at hc<;>try (cases hc;done)
 rename_i s x' f
 obtain ⟨hx,hs⟩:=hc
 have h1:=hρ _ _ hx
 split at hs
 ·rename_i fs hu
  split at hs
  ·rename_i fd hfd
   simp only [Bool.and_eq_true,beq_iff_eq,decide_eq_true_eq] at hs
   obtain ⟨hk,hpos⟩:=hs
   have hinfo:(P.info? fd.type).isSome=true:=by
    cases hi:P.info? fd.type with
    |none=>simp [Program.cellsOf,hi] at hpos
    |some i=>rfl
   have hsz:(sizeOf fd.type).run P w= .ok (P.cellsOf fd.type) w:=run_sizeOf hinfo
   have hne:¬ P.cellsOf fd.type=0:=by omega
   have hrun:∀ b off,η x' = .pointer (some (ad b off))→(execOp η ⟨dst,.fieldAddr s x' f,ty,pos,after,guard⟩).run P w= .ok (.value (.pointer (some (ad b (off+k))))) w:=by
    intro b off hη
    simp only [execOp,hη,Instr.fieldAt,Sem.run_bind,run_underlying hu,Result.andThen_ok,hfd,Instr.sureAddr,Sem.run_pure,fieldPlace,hsz,if_neg hne,hk,add_ad]
   simp only [pureOp] at h
   split at h
   ·rename_i id off hp
    simp at h;obtain ⟨rfl,rfl⟩:=h
    rw [hp] at h1
    simp only [VR] at h1
    exact ⟨_,hrun _ _ h1.2,by simp only [VR];exact ⟨h1.1,by rw [Nat.add_assoc]⟩⟩
   ·rename_i cells hp
    simp at h;obtain ⟨rfl,rfl⟩:=h
    rw [hp] at h1
    simp only [VR] at h1
    obtain ⟨b,off,g1,g2⟩:=h1
    exact ⟨_,hrun _ _ g1,by simp only [VR];exact ⟨b,off+k,rfl,DRs.drop _ _ _ g2⟩⟩
   ·cases h
  ·cases hs
 ·cases hs
theorem pure_idxA (hρ:Opds ck G I N w η ρ){o:Oper}{sz:Nat}{x i:Opd}(hc:chkPure P ck o (.idxA sz x i)=true){v:AVal}{rs:List Nat}
  (h:pureOp ρ H (.idxA sz x i)=some (v,rs)):Good P G I N w η o v:=by
 obtain ⟨dst,oop,ty,pos,after,guard⟩:=o
 cases oop<;>simp only [chkPure,Bool.and_eq_true] at hc<;>try (cases hc;done)
 rename_i t x' i'
 obtain ⟨⟨hx,hi⟩,ht⟩:=hc
 have h1:=hρ _ _ hx
 have h2:=hρ _ _ hi
 obtain ⟨e,hu,hse,hie⟩:=isSliceT_sound ht
 have hsize:(sizeOf e).run P w= .ok sz w:=by rw [← hse];exact run_sizeOf hie
 have hrun:∀ (b off len cap:Nat) (k:IntKind) (n:Int),η x' = .slice (some (ad b off)) len cap→η i' = .int k n→0≤n→n<len →
   (execOp η ⟨dst,.indexAddr t x' i',ty,pos,after,guard⟩).run P w= .ok (.value (.pointer (some (ad b (off+n.toNat * sz))))) w:=by
  intro b off len cap k n e1 e2 e3 e4
  have hb:(0≤n∧n<(len:Int)):=⟨e3,e4⟩
  simp [execOp,e1,e2,Instr.indexAt,run_underlying hu,asIntOf,hsize,hb,add_ad]
 simp only [pureOp] at h
 split at h
 ·rename_i len cells k n hp hq
  split at h
  ·rename_i hb
   simp at h;obtain ⟨rfl,rfl⟩:=h
   rw [hp] at h1;rw [hq] at h2
   simp only [VR,DR] at h1 h2
   rcases h1 with ⟨_,h0,_⟩|⟨b,off,cap,g1,g2,g3⟩
   ·omega
   ·exact ⟨_,hrun b off len cap k n g1 h2 hb.1 hb.2,by simp only [VR];exact ⟨b,_,rfl,DRs.drop _ _ _ g3⟩⟩
  ·cases h
 ·rename_i id z lo len k n hp hq
  split at h
  ·rename_i hb
   simp at h;obtain ⟨rfl,rfl⟩:=h
   rw [hp] at h1;rw [hq] at h2
   simp only [VR,DR] at h1 h2
   obtain ⟨g1,cap,g2,g3,_⟩:=h1
   exact ⟨_,hrun _ _ len cap k n g2 h2 hb.1 hb.2.1,by simp only [VR];exact ⟨g1,by rw [Nat.add_assoc]⟩⟩
  ·cases h
 ·cases h
theorem pure_idxP (hρ:Opds ck G I N w η ρ){o:Oper}{m sz:Nat}{x i:Opd}(hc:chkPure P ck o (.idxP m sz x i)=true){v:AVal}{rs:List Nat}
  (h:pureOp ρ H (.idxP m sz x i)=some (v,rs)):Good P G I N w η o v:=by
 obtain ⟨dst,oop,ty,pos,after,guard⟩:=o
 cases oop<;>simp only [chkPure,Bool.and_eq_true] at hc<;>try (cases hc;done)
 rename_i t x' i'
 obtain ⟨⟨hx,hi⟩,ht⟩:=hc
 have h1:=hρ _ _ hx
 have h2:=hρ _ _ hi
 split at ht
 ·rename_i m' e hu
  simp only [Bool.and_eq_true,beq_iff_eq] at ht
  obtain ⟨⟨rfl,hse⟩,hie⟩:=ht
  have hsize:(sizeOf e).run P w= .ok sz w:=by rw [← hse];exact run_sizeOf hie
  have hrun:∀ (b off:Nat) (k:IntKind) (n:Int),η x' = .pointer (some (ad b off))→η i' = .int k n→0≤n→n<m' →
    (execOp η ⟨dst,.indexAddr t x' i',ty,pos,after,guard⟩).run P w= .ok (.value (.pointer (some (ad b (off+n.toNat * sz))))) w:=by
   intro b off k n e1 e2 e3 e4
   have hb:(0≤n∧n<(m' :Int)):=⟨e3,e4⟩
   simp [execOp,e1,e2,Instr.indexAt,run_underlying hu,asIntOf,hsize,hb,add_ad,Instr.sureAddr]
  simp only [pureOp] at h
  split at h
  ·rename_i id off k n hp hq
   split at h
   ·rename_i hb
    simp at h;obtain ⟨rfl,rfl⟩:=h
    rw [hp] at h1;rw [hq] at h2
    simp only [VR,DR] at h1 h2
    exact ⟨_,hrun _ _ k n h1.2 h2 hb.1 hb.2,by simp only [VR];exact ⟨h1.1,by rw [Nat.add_assoc]⟩⟩
   ·cases h
  ·rename_i cells k n hp hq
   split at h
   ·rename_i hb
    simp at h;obtain ⟨rfl,rfl⟩:=h
    rw [hp] at h1;rw [hq] at h2
    simp only [VR,DR] at h1 h2
    obtain ⟨b,off,g1,g2⟩:=h1
    exact ⟨_,hrun _ _ k n g1 h2 hb.1 hb.2,by simp only [VR];exact ⟨b,_,rfl,DRs.drop _ _ _ g2⟩⟩
   ·cases h
  ·cases h
 ·cases ht
theorem pure_idxS (hρ:Opds ck G I N w η ρ){o:Oper}{x i:Opd}(hc:chkPure P ck o (.idxS x i)=true){v:AVal}{rs:List Nat}
  (h:pureOp ρ H (.idxS x i)=some (v,rs)):Good P G I N w η o v:=by
 obtain ⟨dst,oop,ty,pos,after,guard⟩:=o
 cases oop<;>simp only [chkPure,Bool.and_eq_true] at hc<;>try (cases hc;done)
 rename_i t x' i'
 obtain ⟨⟨hx,hi⟩,ht⟩:=hc
 have h1:=hρ _ _ hx
 have h2:=hρ _ _ hi
 split at ht
 ·rename_i hu
  simp only [pureOp] at h
  split at h
  ·rename_i s k n hp hq
   split at h
   ·rename_i h0
    split at h
    ·rename_i b hb
     simp at h;obtain ⟨rfl,rfl⟩:=h
     rw [hp] at h1;rw [hq] at h2
     simp only [VR,DR] at h1 h2
     refine ⟨.int .u8 b.toNat,?_,by simp [VR,DR]⟩
     have hsz:(⟨s.toArray⟩:ByteArray).size=s.length:=by simp [ByteArray.size]
     have hlt:n.toNat<s.length:=by
      rcases Nat.lt_or_ge n.toNat s.length with h|h
      ·exact h
      ·rw [List.getElem?_eq_none h] at hb;cases hb
     have hg:(⟨s.toArray⟩:ByteArray)[n.toNat]? =some b:=by
      rw [getElem?_pos _ _ (by rw [hsz];exact hlt)]
      rw [List.getElem?_eq_getElem hlt] at hb
      simp at hb
      subst hb
      rfl
     simp [execOp,h1,h2,Instr.index,run_underlying hu,asIntOf,h0,hg]
    ·cases h
   ·cases h
  ·cases h
 ·cases ht
theorem pure_extract (hρ:Opds ck G I N w η ρ){o:Oper}{x:Opd}{i:Nat}(hc:chkPure P ck o (.extract x i)=true){v:AVal}{rs:List Nat}
  (h:pureOp ρ H (.extract x i)=some (v,rs)):Good P G I N w η o v:=by
 obtain ⟨dst,oop,ty,pos,after,guard⟩:=o
 cases oop<;>simp [chkPure] at hc
 rename_i x' i'
 obtain ⟨hx,rfl⟩:=hc
 have h1:=hρ _ _ hx
 simp only [pureOp] at h
 split at h
 ·rename_i vs hp
  split at h
  ·rename_i u hu
   simp at h;obtain ⟨rfl,rfl⟩:=h
   rw [hp] at h1
   simp only [VR] at h1
   obtain ⟨cs,g1,g2⟩:=h1
   obtain ⟨z,e1,e2⟩:=VRs.get vs _ g2 i' u hu
   refine ⟨z,?_,e2⟩
   have:cs[i']? =some z:=by simpa using e1
   simp [execOp,g1,Instr.extract,this]
  ·cases h
 ·cases h
theorem pure_len (hρ:Opds ck G I N w η ρ){o:Oper}{x:Opd}(hc:chkPure P ck o (.len x)=true){v:AVal}{rs:List Nat}
  (h:pureOp ρ H (.len x)=some (v,rs)):Good P G I N w η o v:=by
 obtain ⟨dst,oop,ty,pos,after,guard⟩:=o
 unfold chkPure at hc
 split at hc<;>try (cases hc;done)
 all_goals try (rename_i heq1 heq2;cases heq2;done)
 all_goals rename_i heq1 heq2
 all_goals cases heq2
 all_goals simp only at heq1
 all_goals subst heq1
 rename_i args argTypes
 split at hc
 ·rename_i x' t ha hb
  simp only [Bool.and_eq_true] at hc
  obtain ⟨hx,ht⟩:=hc
  have h1:=hρ _ _ hx
  split at ht
  ·rename_i e hu
   have hrun:∀ a len cap,η x' = .slice a len cap→(execOp η ⟨dst,.call ⟨.builtin .len,args,argTypes⟩,ty,pos,after,guard⟩).run P w= .ok (.value (.int .i64 len)) w:=by
    intro a len cap hη
    have h0:(args.map η)[0]? =some (.slice a len cap):=by simp [ha,hη]
    simp [execOp,resolve,invoke,builtin,Builtin.len_,hb,h0,run_underlying hu,goInt]
   simp only [pureOp] at h
   split at h
   ·rename_i len cells hp
    simp at h;obtain ⟨rfl,rfl⟩:=h
    rw [hp] at h1
    simp only [VR,DR] at h1
    rcases h1 with ⟨g1|⟨a0,g1⟩,rfl,_⟩|⟨b,off,cap,g1,_⟩
    ·exact ⟨_,hrun _ _ _ g1,by simp [VR,DR,i64]⟩
    ·exact ⟨_,hrun _ _ _ g1,by simp [VR,DR,i64]⟩
    ·exact ⟨_,hrun _ _ _ g1,by simp [VR,DR,i64]⟩
   ·rename_i id z lo len hp
    simp at h;obtain ⟨rfl,rfl⟩:=h
    rw [hp] at h1
    simp only [VR] at h1
    obtain ⟨_,cap,g2,_⟩:=h1
    exact ⟨_,hrun _ _ _ g2,by simp [VR,DR,i64]⟩
   ·cases h
  ·cases ht
 ·cases hc
theorem pure_lenT (hρ:Opds ck G I N w η ρ){o:Oper}{x:Opd}(hc:chkPure P ck o (.lenT x)=true){v:AVal}{rs:List Nat}
  (h:pureOp ρ H (.lenT x)=some (v,rs)):Good P G I N w η o v:=by
 obtain ⟨dst,oop,ty,pos,after,guard⟩:=o
 unfold chkPure at hc
 split at hc<;>try (cases hc;done)
 all_goals try (rename_i heq1 heq2;cases heq2;done)
 all_goals rename_i heq1 heq2
 all_goals cases heq2
 all_goals simp only at heq1
 all_goals subst heq1
 rename_i args argTypes
 split at hc
 ·rename_i x' t ha hb
  simp only [Bool.and_eq_true] at hc
  obtain ⟨hx,ht⟩:=hc
  have h1:=hρ _ _ hx
  split at ht
  ·rename_i hu
   simp only [pureOp] at h
   split at h
   ·rename_i s hp
    simp at h;obtain ⟨rfl,rfl⟩:=h
    rw [hp] at h1
    simp only [VR,DR] at h1
    have h0:(args.map η)[0]? =some (.string ⟨s.toArray⟩):=by simp [ha,h1]
    have hsz:(⟨s.toArray⟩:ByteArray).size=s.length:=by simp [ByteArray.size]
    refine ⟨.int .i64 s.length,?_,by simp [VR,DR,i64]⟩
    simp [execOp,resolve,invoke,builtin,Builtin.len_,hb,h0,run_underlying hu,goInt,hsz]
   ·cases h
  ·cases ht
 ·cases hc
theorem ER.length:∀ (l:List (Key×AVal)) (es:List MapEntry),ER G I N w l es→es.length=l.length
 |[],es,h=>by simp [ER] at h;simp [h]
 |(k,v)::r,es,h=>by
  simp only [ER] at h
  obtain ⟨e,es',rfl,_,_,h4⟩:=h
  simp [ER.length r es' h4]
theorem pure_lenM (hρ:Opds ck G I N w η ρ)(hH:HR G I N w H){o:Oper}{x:Opd}(hc:chkPure P ck o (.lenM x)=true){v:AVal}{rs:List Nat}
  (h:pureOp ρ H (.lenM x)=some (v,rs)):Good P G I N w η o v:=by
 obtain ⟨dst,oop,ty,pos,after,guard⟩:=o
 unfold chkPure at hc
 split at hc<;>try (cases hc;done)
 all_goals try (rename_i heq1 heq2;cases heq2;done)
 all_goals rename_i heq1 heq2
 all_goals cases heq2
 all_goals simp only at heq1
 all_goals subst heq1
 rename_i args argTypes
 split at hc
 ·rename_i x' t ha hb
  simp only [Bool.and_eq_true] at hc
  obtain ⟨hx,ht⟩:=hc
  have h1:=hρ _ _ hx
  split at ht
  ·rename_i kt et hu
   simp only [pureOp] at h
   split at h
   ·rename_i hp
    simp at h;obtain ⟨rfl,rfl⟩:=h
    rw [hp] at h1
    simp only [VR,DR] at h1
    have h0:(args.map η)[0]? =some (.map Option.none):=by simp [ha,h1]
    refine ⟨.int .i64 0,?_,by simp [VR,DR,i64]⟩
    simp [execOp,resolve,invoke,builtin,Builtin.len_,hb,h0,run_underlying hu,goInt]
   ·rename_i id hp
    split at h
    ·rename_i es he
     simp at h;obtain ⟨rfl,rfl⟩:=h
     rw [hp] at h1
     simp only [VR] at h1
     have hO:=hH id _ he
     simp only [OR] at hO
     obtain ⟨_,arr,clk,g1,_,g3,_⟩:=hO
     have h0:(args.map η)[0]? =some (.map (some (I id).1)):=by simp [ha,h1.2]
     have hl:arr.size=es.length:=by simpa using ER.length es _ g3
     refine ⟨.int .i64 es.length,?_,by simp [VR,DR,i64]⟩
     have hgo:(getObj (I id).1).run P w= .ok (.map arr clk) w:=by simp [getObj,Sem.run,g1]
     simp [execOp,resolve,invoke,builtin,Builtin.len_,hb,h0,run_underlying hu,goInt,hgo,hl]
    ·cases h
   ·cases h
  ·cases ht
 ·cases hc
theorem cks_sound (hρ:Opds ck G I N w η ρ):∀ (xs:List Operand) (ys:List Opd),cks ck xs ys=true→VRs G I N w (ys.map ρ) (xs.map η)
 |[],[],_=>by simp [VRs]
 |x::xs,y::ys,h=>by
  simp only [cks,Bool.and_eq_true] at h
  simp only [List.map_cons,VRs]
  exact ⟨_,_,rfl,hρ _ _ h.1,cks_sound hρ xs ys h.2⟩
 |[],_::_,h=>by simp [cks] at h
 |_::_,[],h=>by simp [cks] at h
theorem pure_mkfunc (hρ:Opds ck G I N w η ρ){o:Oper}{f:FuncId}{a b:List Opd}(hc:chkPure P ck o (.mkfunc f a b)=true){v:AVal}{rs:List Nat}
  (h:pureOp ρ H (.mkfunc f a b)=some (v,rs)):Good P G I N w η o v:=by
 obtain ⟨dst,oop,ty,pos,after,guard⟩:=o
 unfold chkPure at hc
 split at hc<;>try (cases hc;done)
 all_goals try (rename_i heq1 heq2;cases heq2;done)
 all_goals rename_i heq1 heq2
 all_goals cases heq2
 all_goals simp only at heq1
 all_goals subst heq1
 rename_i f' first caps
 simp only [Bool.and_eq_true,beq_iff_eq] at hc
 obtain ⟨⟨rfl,h1⟩,h2⟩:=hc
 simp [pureOp] at h
 obtain ⟨rfl,rfl⟩:=h
 refine ⟨.func (.func f') (first.map η) (caps.map η),by simp [execOp,Instr.makeFunc],?_⟩
 simp only [VR]
 exact ⟨_,_,rfl,by simpa using cks_sound hρ _ _ h1,by simpa using cks_sound hρ _ _ h2⟩
theorem minmax_max:∀ (as:List AVal) (vs:List Value) (r:Data) (k:IntKind) (n:Int),minmaxL true (.int k n) as=some r→VRs G I N w as vs →
  ∃ m,r= .int k m∧(vs.foldlM Builtin.max2 (.int k n)).run P w= .ok (.int k m) w
 |[],vs,r,k,n,h,hv=>by
  simp [minmaxL] at h;subst h
  simp [VRs] at hv;subst hv
  exact ⟨n,rfl,by simp⟩
 |x::xs,vs,r,k,n,h,hv=>by
  simp only [VRs] at hv
  obtain ⟨u,us,rfl,e2,e3⟩:=hv
  unfold minmaxL at h
  split at h
  ·cases ‹x::xs=[]›
  ·rename_i b r' heq
   cases heq
   split at h
   ·rename_i c hc
    unfold minmax2 at hc
    split at hc
    ·rename_i k1 x1 k2 y1 e1
     cases e1
     simp at hc;subst hc
     simp only [VR,DR] at e2
     subst e2
     obtain ⟨m,g1,g2⟩:=minmax_max xs us r k _ h e3
     refine ⟨m,g1,?_⟩
     simp only [List.foldlM_cons,Sem.run_bind,Builtin.max2,Sem.run_pure,Result.andThen_ok]
     exact g2
    ·cases hc
   ·cases h
  ·cases h
theorem minmax_min:∀ (as:List AVal) (vs:List Value) (r:Data) (k:IntKind) (n:Int),minmaxL false (.int k n) as=some r→VRs G I N w as vs →
  ∃ m,r= .int k m∧(vs.foldlM Builtin.min2 (.int k n)).run P w= .ok (.int k m) w
 |[],vs,r,k,n,h,hv=>by
  simp [minmaxL] at h;subst h
  simp [VRs] at hv;subst hv
  exact ⟨n,rfl,by simp⟩
 |x::xs,vs,r,k,n,h,hv=>by
  simp only [VRs] at hv
  obtain ⟨u,us,rfl,e2,e3⟩:=hv
  unfold minmaxL at h
  split at h
  ·cases ‹x::xs=[]›
  ·rename_i b r' heq
   cases heq
   split at h
   ·rename_i c hc
    unfold minmax2 at hc
    split at hc
    ·rename_i k1 x1 k2 y1 e1
     cases e1
     simp at hc;subst hc
     simp only [VR,DR] at e2
     subst e2
     obtain ⟨m,g1,g2⟩:=minmax_min xs us r k _ h e3
     refine ⟨m,g1,?_⟩
     simp only [List.foldlM_cons,Sem.run_bind,Builtin.min2,Sem.run_pure,Result.andThen_ok]
     exact g2
    ·cases hc
   ·cases h
  ·cases h
theorem minmaxL_int {b:Bool}{a r:Data}{l:List AVal}(h:minmaxL b a l=some r)(hne:l≠[]):∃ k n,a= .int k n:=by
 cases l with
 |nil=>exact absurd rfl hne
 |cons x xs =>
  unfold minmaxL at h
  split at h
  ·cases ‹x::xs=[]›
  ·split at h
   ·rename_i c hc
    unfold minmax2 at hc
    split at hc
    ·exact ⟨_,_,rfl⟩
    ·cases hc
   ·cases h
  ·cases h
theorem pure_minmax (hρ:Opds ck G I N w η ρ){o:Oper}{b:Bool}{ys:List Opd}(hc:chkPure P ck o (.minmax b ys)=true){v:AVal}{rs:List Nat}
  (h:pureOp ρ H (.minmax b ys)=some (v,rs)):Good P G I N w η o v:=by
 obtain ⟨dst,oop,ty,pos,after,guard⟩:=o
 unfold chkPure at hc
 split at hc<;>try (cases hc;done)
 all_goals try (rename_i heq1 heq2;cases heq2;done)
 all_goals rename_i heq1 heq2
 all_goals cases heq2
 all_goals simp only at heq1
 all_goals subst heq1
 all_goals rename_i args argTypes
 all_goals simp only [Bool.and_eq_true,decide_eq_true_eq] at hc
 all_goals obtain ⟨hc,hl⟩:=hc
 all_goals have h1:=cks_sound hρ _ _ hc
 all_goals simp only [pureOp] at h
 all_goals split at h
 all_goals try (cases h;done)
 all_goals rename_i a r heq
 all_goals split at h
 all_goals try (cases h;done)
 all_goals rename_i c hc'
 all_goals simp at h
 all_goals obtain ⟨rfl,rfl⟩:=h
 all_goals rw [heq] at h1
 all_goals simp only [VRs] at h1
 all_goals obtain ⟨x,xs,e1,e2,e3⟩:=h1
 all_goals have hne:r≠[]:=fun hr=>by subst hr;have:=congrArg List.length heq;simp at this;omega
 all_goals obtain ⟨k,n,rfl⟩:=minmaxL_int hc' hne
 all_goals simp only [VR,DR] at e2
 all_goals subst e2
 ·obtain ⟨m,rfl,g2⟩:=minmax_max (P:=P) r xs c k n hc' e3
  refine ⟨.int k m,?_,by simp [VR,DR]⟩
  have e1' :(args.map η).toList= .int k n::xs:=by simpa using e1
  simp only [execOp,resolve,invoke,builtin,Builtin.max_,Sem.run_bind,Sem.run_pure,Result.andThen_ok,e1',g2]
 ·obtain ⟨m,rfl,g2⟩:=minmax_min (P:=P) r xs c k n hc' e3
  refine ⟨.int k m,?_,by simp [VR,DR]⟩
  have e1' :(args.map η).toList= .int k n::xs:=by simpa using e1
  simp only [execOp,resolve,invoke,builtin,Builtin.min_,Sem.run_bind,Sem.run_pure,Result.andThen_ok,e1',g2]
def FindR (R:Value→Bool→Prop):List MapEntry→Nat→Option (Nat×Value)→Prop
 |[],_,q=>q=none
 |e::es,i,q=>(R e.key true∧q=some (i,e.val))∨(R e.key false∧FindR R es (i+1) q)
def SameK (P:Program)(w:World)(t:TypeId)(d:TypeDesc)(u:Value):KK→Value→Bool→Prop
 | .st _,v,r=>(Op.equal t u v).run P w= .ok r w∧Instr.sameNow d u v=none
 |_,v,r=>Instr.sameNow d u v=some r
theorem kd_cell {G:Gh}{w:World}{I:Inj}{N:Nat→Prop}(l:List KD)(j:Nat)(c:AVal)(h:(l.map KD.av)[j]? =some c):∃ v,(l.map KD.val).toArray[0+j]? =some v∧VR G I N w .none c v:=by
 simp only [List.getElem?_map,Option.map_eq_some_iff] at h
 obtain ⟨x,hx,rfl⟩:=h
 exact ⟨x.val,by simp [hx],by cases x<;>simp [KD.av,KD.val,VR,DR]⟩
theorem same_key {kk:KK}{a b:Key}{r:Bool}(h:Data.keyEq kk a b=some r){t:TypeId}{d:TypeDesc}(ht:keyT P t kk=true)(hd:P.underlying t=some d):SameK P w t d a.val kk b.val r:=by
 unfold Data.keyEq at h
 split at h
 ·split at h
  ·rename_i hkk
   subst hkk
   simp at h;subst h
   simp only [keyT,kindT,hd] at ht
   split at ht
   ·rename_i hx;cases hx;simp [SameK,Key.val,Instr.sameNow]
   ·cases ht
  ·cases h
 ·simp at h;subst h
  simp only [keyT,kindT,hd] at ht
  split at ht
  ·rename_i hx;cases hx;simp [SameK,Key.val,Instr.sameNow,beq_toListBytes]
  ·cases ht
 ·simp at h;subst h
  simp only [keyT,kindT,hd] at ht
  split at ht
  ·rename_i hx;cases hx;simp [SameK,Key.val,Instr.sameNow]
  ·cases ht
 ·rename_i ks l m
  simp only [keyT,flatStruct,hd] at ht
  split at ht
  ·rename_i fs hfs
   cases hfs
   simp only [Bool.and_eq_true,Bool.not_eq_true'] at ht
   have hff:P.fieldsOf t=fs:=by simp [Program.fieldsOf,hd]
   have heq:=run_equalIn_struct (P:=P) w 9999 t (l.map KD.val).toArray (m.map KD.val).toArray (by rw [hff];exact hd) ht.1.2
   rw [hff,eqFields_flat (P:=P) (G:=fun _=> .free) (I:=fun _=>(0,0)) (N:=fun _=>False) 9998 _ _ fs.toList 0 ks _ _ r ht.1.1 h (kd_cell l) (kd_cell m)] at heq
   exact ⟨heq,by simp [Key.val,Instr.sameNow]⟩
  ·cases ht
 ·cases h
theorem find_key {kk:KK}{t:TypeId}{d:TypeDesc}(ht:keyT P t kk=true)(hd:P.underlying t=some d){key:Key} :
  ∀ (l:List (Key×AVal)) (es:List MapEntry) (i:Nat) (r:Option AVal),ER G I N w l es→mapFind kk key l=some r →
   ∃ q,FindR (SameK P w t d key.val kk) es i q∧(match r,q with
    |none,none=>True
    |some a,some (_,v)=>VR G I N w .none a v
    |_,_=>False)
 |[],es,i,r,hE,h=>by
  simp [ER] at hE;subst hE
  simp [mapFind] at h;subst h
  exact ⟨none,rfl,trivial⟩
 |(k',v')::rest,es,i,r,hE,h=>by
  simp only [ER] at hE
  obtain ⟨e,es',rfl,h2,h3,h4⟩:=hE
  unfold mapFind at h
  split at h
  ·rename_i hk
   simp at h;subst h
   exact ⟨some (i,e.val),.inl ⟨h2 ▸ same_key hk ht hd,rfl⟩,h3⟩
  ·rename_i hk
   obtain ⟨q,g1,g2⟩:=find_key ht hd rest es' (i+1) r h4 h
   exact ⟨q,.inr ⟨h2 ▸ same_key hk ht hd,g1⟩,g2⟩
  ·cases h
theorem findKey_run {kk:KK}{t:TypeId}{d:TypeDesc}(hd:P.underlying t=some d){u:Value}{es:List MapEntry}{q:Option (Nat×Value)}(h:FindR (SameK P w t d u kk) es 0 q):(Instr.findKey t u es).run P w= .ok q w:=by
 have plain:(∀ v r,SameK P w t d u kk v r→Instr.sameNow d u v=some r)→(Instr.findKey t u es).run P w= .ok q w:=by
  intro hp
  have:∀ (es:List MapEntry) (i:Nat),FindR (SameK P w t d u kk) es i q→Instr.findNow d u es i=some q:=by
   intro es
   induction es with
   |nil=>intro i h;simp only [FindR] at h;simp [Instr.findNow,h]
   |cons e es ih =>
    intro i h
    rcases h with ⟨h1,rfl⟩|⟨h1,h2⟩
    ·simp [Instr.findNow,hp _ _ h1]
    ·simp [Instr.findNow,hp _ _ h1,ih _ h2]
  simp [Instr.findKey,run_underlying hd,this es 0 h]
 cases kk with
 |i=>exact plain fun _ _ h=>h
 |s=>exact plain fun _ _ h=>h
 |b=>exact plain fun _ _ h=>h
 |st ks =>
  have ask:∀ (es:List MapEntry) (i:Nat),FindR (SameK P w t d u (.st ks)) es i q→(Instr.findAsking t u es i).run P w= .ok q w:=by
   intro es
   induction es with
   |nil=>intro i h;simp only [FindR] at h;simp [Instr.findAsking,h]
   |cons e es ih =>
    intro i h
    rcases h with ⟨h1,rfl⟩|⟨h1,h2⟩
    ·simp [Instr.findAsking,h1.1]
    ·simp [Instr.findAsking,h1.1,ih _ h2]
  have:=ask es 0 h
  cases es with
  |nil=>simp only [FindR] at h;simp [Instr.findKey,run_underlying hd,Instr.findNow,h]
  |cons e es =>
   have h0:Instr.sameNow d u e.key=none:=by
    rcases h with ⟨h1,_⟩|⟨h1,_⟩<;>exact h1.2
   simp [Instr.findKey,run_underlying hd,Instr.findNow,h0,this]
theorem checkKey_kind {k:CK}{t:TypeId}(ht:kindT P t k=true)(b:Bool)(n:Nat)(u:Value):(Instr.checkKey b (n+1) t u).run P w= .ok () w:=by
 cases k<;>simp only [kindT] at ht<;>split at ht<;>first|(cases ht;done)|(rename_i hu;simp [Instr.checkKey,run_underlying hu])
theorem checkKey_plain {kk:KK}{t:TypeId}(ht:keyT P t kk=true){key:Key}(hf:kk.fits key=true)(b:Bool)(n:Nat):(Instr.checkKey b (n+2) t key.val).run P w= .ok () w:=by
 have fields (l:List KD):∀ (fs:List Field) (n0:Nat) (ks:List CK) (m:List KD),flatFields P fs n0 ks=true→(cellsEq ks (m.map KD.av) (m.map KD.av)).isSome=true→(∀ j x,m[j]? =some x→(l.map KD.val).toArray[n0+j]? =some x.val) →
   Sem.run P (forIn fs PUnit.unit fun (f : Field) (_ : PUnit) => if f.name ≠ "_" then do
    let v ← part f.type (l.map KD.val).toArray f.offset
    Instr.checkKey b (n+1) f.type v
    pure (ForInStep.yield PUnit.unit) else pure (ForInStep.yield PUnit.unit)) w= .ok PUnit.unit w:=by
  intro fs
  induction fs with
  |nil=>intro n0 ks m _ _ _;simp
  |cons f fs ih =>
   intro n0 ks m hf hc hm
   cases ks with
   |nil=>simp [flatFields] at hf
   |cons k ks =>
    simp only [flatFields,Bool.and_eq_true,bne_iff_ne,beq_iff_eq] at hf
    obtain ⟨⟨⟨h1,h2⟩,h3⟩,h4⟩:=hf
    cases m with
    |nil=>simp [cellsEq] at hc
    |cons x m =>
     have hc2:(cellsEq ks (m.map KD.av) (m.map KD.av)).isSome=true:=by
      cases x<;>simp only [List.map_cons,KD.av,cellsEq] at hc<;>split at hc<;>first|(split at hc<;>simp_all)|simp_all
     have e1:=run_part_plain (w:=w) h2 (l.map KD.val).toArray n0 x.val (hm 0 x rfl)
     simp only [List.forIn_cons,Sem.run_bind,if_pos h1,h3,e1,Result.andThen_ok,checkKey_kind h2,Sem.run_pure]
     exact ih (n0+1) ks m h4 hc2 fun j y hy=>by rw [show n0+1+j=n0+(j+1) from by omega];exact hm (j+1) y (by simpa using hy)
 cases kk with
 |i=>exact checkKey_kind (k:= .i) ht b _ _
 |s=>exact checkKey_kind (k:= .s) ht b _ _
 |b=>exact checkKey_kind (k:= .b) ht b _ _
 |st ks =>
  simp only [keyT,flatStruct] at ht
  split at ht
  ·rename_i fs hfs
   simp only [Bool.and_eq_true,Bool.not_eq_true'] at ht
   cases key<;>simp only [KK.fits,Bool.false_eq_true] at hf
   rename_i l
   rw [Instr.checkKey]
   simp only [Key.val,Sem.run_bind,run_underlying hfs,Result.andThen_ok]
   rw [← Array.forIn_toList,fields l fs.toList 0 ks l ht.1.1 hf (fun j x hj=>by simp [hj])]
   simp
  ·cases ht
theorem kds_val:∀ (l:List AVal) (r:List KD) (xs:List Value),kds? l=some r→VRs G I N w l xs→xs=r.map KD.val
 |[],r,xs,h,hv=>by simp [kds?] at h;subst h;simpa [VRs] using hv
 |v::l,r,xs,h,hv=>by
  simp only [VRs] at hv
  obtain ⟨x,ys,rfl,h1,h2⟩:=hv
  unfold kds? at h
  split at h
  ·rename_i e;cases e
  all_goals first|(cases h;done)|skip
  all_goals rename_i e;cases e
  all_goals split at h<;>first|(cases h;done)|skip
  all_goals
   rename_i r' hr
   cases h
   rw [kds_val _ r' ys hr h2]
   simp only [VR,DR] at h1
   simp [h1,KD.val]
theorem key_val {v:AVal}{k:Key}{pl:Place}{x:Value}(h:v.key? =some k)(hv:VR G I N w pl v x):x=k.val:=by
 unfold AVal.key? at h
 split at h
 ·cases h;simpa [VR,DR,Key.val] using hv
 ·cases h;simpa [VR,DR,Key.val] using hv
 ·cases h;simpa [VR,DR,Key.val] using hv
 ·split at h
  ·rename_i r hr
   cases h
   simp only [VR] at hv
   obtain ⟨cs,rfl,h2⟩:=hv
   have:=kds_val _ r _ hr h2
   simp [Key.val,← this]
  ·cases h
 ·cases h
theorem fits_of {kk:KK}{k:Key}{r:Bool}(h:Data.keyEq kk k k=some r):kk.fits k=true:=by
 unfold Data.keyEq at h
 unfold KK.fits
 split at h<;>simp_all
theorem pure_lookup (hρ:Opds ck G I N w η ρ)(hH:HR G I N w H){o:Oper}{kk:KK}{zero:AVal}{ok:Bool}{m k:Opd}(hc:chkPure P ck o (.lookup kk zero ok m k)=true){v:AVal}{rs:List Nat}
  (h:pureOp ρ H (.lookup kk zero ok m k)=some (v,rs)):Good P G I N w η o v:=by
 obtain ⟨dst,oop,ty,pos,after,guard⟩:=o
 cases oop<;>simp only [chkPure,Bool.and_eq_true,beq_iff_eq] at hc<;>try (cases hc;done)
 rename_i t m' k' ok'
 obtain ⟨⟨⟨rfl,hm⟩,hk⟩,ht⟩:=hc
 have h1:=hρ _ _ hm
 have h2:=hρ _ _ hk
 split at ht
 ·rename_i kt et hu
  simp only [Bool.and_eq_true] at ht
  obtain ⟨hkt,hz⟩:=ht
  split at hz
  ·rename_i it hit
   split at hz
   ·rename_i z hzz
    have hzero:(zeroValue et).run P w= .ok z w:=by simp [zeroValue,typeInfo,hit,hzz]
    have hzr:VR G I N w .none zero z:=constOK_sound _ _ hz
    obtain ⟨dk,hdk⟩:∃ d,P.underlying kt=some d:=by
     cases hd:P.underlying kt with
     |none=>cases kk<;>simp [keyT,kindT,flatStruct,hd] at hkt
     |some d=>exact ⟨d,rfl⟩
    simp only [pureOp] at h
    split at h
    ·rename_i id key hp hq
     rw [hp] at h1
     simp only [VR] at h1
     have h2:=key_val hq h2
     split at h
     ·rename_i es he
      split at h
      ·rename_i r hr hfit
       simp at h;obtain ⟨rfl,rfl⟩:=h
       have hO:=hH id _ he
       simp only [OR] at hO
       obtain ⟨_,arr,clk,g1,_,g3,_⟩:=hO
       obtain ⟨q,f1,f2⟩:=find_key (P:=P) hkt hdk es arr.toList 0 r g3 hr
       have hgo:(getObj (I id).1).run P w= .ok (.map arr clk) w:=by simp [getObj,Sem.run,g1]
       have hfk:(Instr.findKey kt (η k') arr.toList).run P w= .ok q w:=by rw [h2];exact findKey_run hdk f1
       have hck:=fun b=>h2 ▸ checkKey_plain (P:=P) (w:=w) hkt hfit b 9998
       cases r with
       |none =>
        cases q with
        |some q=>exact f2.elim
        |none =>
         refine ⟨if ok' then .tuple #[z,.bool false] else z,?_,?_⟩
         ·cases ok' <;>simp [execOp,h1.2,Instr.lookup,run_underlying hu,hgo,hck,hfk,hzero]
         ·cases ok'
          ·simpa using hzr
          ·simp only [VR,Option.getD_none,Option.isSome_none,if_true]
           exact ⟨_,rfl,by simp [VRs,VR,DR,hzr]⟩
       |some a =>
        cases q with
        |none=>exact f2.elim
        |some q =>
         obtain ⟨qi,qv⟩:=q
         refine ⟨if ok' then .tuple #[qv,.bool true] else qv,?_,?_⟩
         ·cases ok' <;>simp [execOp,h1.2,Instr.lookup,run_underlying hu,hgo,hck,hfk]
         ·cases ok'
          ·simpa using f2
          ·simp only [VR,Option.getD_some,Option.isSome_some,if_true]
           exact ⟨_,rfl,by simp [VRs,VR,DR];exact f2⟩
      ·cases h
     ·cases h
    ·rename_i key hp hq
     rw [hp] at h1
     simp only [VR,DR] at h1
     have h2:=key_val hq h2
     split at h
     ·rename_i hkk
      simp at h;obtain ⟨rfl,rfl⟩:=h
      have hck:=fun b=>h2 ▸ checkKey_plain (P:=P) (w:=w) hkt (fits_of hkk) b 9998
      have hfk:(Instr.findKey kt (η k') []).run P w= .ok none w:=by simp [Instr.findKey,run_underlying hdk,Instr.findNow]
      refine ⟨if ok' then .tuple #[z,.bool false] else z,?_,?_⟩
      ·cases ok' <;>simp [execOp,h1,Instr.lookup,run_underlying hu,hck,hfk,hzero]
      ·cases ok'
       ·simpa using hzr
       ·simp only [VR,if_true]
        exact ⟨_,rfl,by simp [VRs,VR,DR,hzr]⟩
     ·cases h
    ·cases h
   ·cases hz
  ·cases hz
 ·cases ht
end
end Go.Abs
namespace Go.Abs
def ones (vs:List Value):Prop:=∀ v ∈ vs,v.oneCell' =true
def spliceV (l:List Value)(off:Nat)(vs:List Value):List Value:=l.take off++vs++l.drop (off+vs.length)
section
variable {P:Program} {w:World} {ck:Operand→Opd→Bool} {η:Operand→Value} {ρ:Opd→AVal} {G:Gh} {I:Inj} {N:Nat→Prop} {H:Heap}
theorem VRs.append:∀ (a:List AVal) (xs:List Value) (b:List AVal) (ys:List Value),VRs G I N w a xs→VRs G I N w b ys→VRs G I N w (a++b) (xs++ys)
 |[],xs,b,ys,h,k=>by simp [VRs] at h;subst h;simpa using k
 |a::as,xs,b,ys,h,k=>by
  simp only [VRs] at h
  obtain ⟨x,xs',rfl,h2,h3⟩:=h
  simp only [List.cons_append,VRs]
  exact ⟨x,xs' ++ys,rfl,h2,VRs.append as xs' b ys h3 k⟩
theorem VRs.take:∀ (n:Nat) (a:List AVal) (xs:List Value),VRs G I N w a xs→VRs G I N w (a.take n) (xs.take n)
 |0,_,_,_=>by simp [VRs]
 |n+1,[],xs,h=>by simp [VRs] at h;subst h;simp [VRs]
 |n+1,a::as,xs,h=>by
  simp only [VRs] at h
  obtain ⟨x,xs',rfl,h2,h3⟩:=h
  simp only [List.take_succ_cons,VRs]
  exact ⟨x,xs'.take n,rfl,h2,VRs.take n as xs' h3⟩
theorem VRs.drop:∀ (n:Nat) (a:List AVal) (xs:List Value),VRs G I N w a xs→VRs G I N w (a.drop n) (xs.drop n)
 |0,_,_,h=>by simpa using h
 |n+1,[],xs,h=>by simp [VRs] at h;subst h;simp [VRs]
 |n+1,a::as,xs,h=>by
  simp only [VRs] at h
  obtain ⟨x,xs',rfl,h2,h3⟩:=h
  simp only [List.drop_succ_cons]
  exact VRs.drop n as xs' h3
theorem VRs.splice {a b:List AVal}{xs ys:List Value}(h:VRs G I N w a xs)(k:VRs G I N w b ys)(off:Nat):VRs G I N w (splice a off b) (spliceV xs off ys):=by
 unfold Abs.splice spliceV
 rw [VRs.length b ys k]
 exact VRs.append _ _ _ _ (VRs.append _ _ _ _ (VRs.take off a xs h) k) (VRs.drop _ a xs h)
theorem one_sound {a:AVal}(ha:a.one=true){pl:Place}{x:Value}(h:VR G I N w pl a x):x.oneCell' =true∧x.cells= #[x]:=by
 cases a<;>simp [AVal.one] at ha
 ·rename_i d
  cases d<;>simp only [VR,DR] at h
  all_goals first
   |(subst h;exact ⟨rfl,rfl⟩)
   |(rcases h with ⟨h|⟨a0,h⟩,_⟩|⟨b,o,cap,h,_⟩<;>(subst h;exact ⟨rfl,rfl⟩))
 ·simp only [VR] at h;obtain ⟨_,h⟩:=h;subst h;exact ⟨rfl,rfl⟩
 ·simp only [VR] at h;obtain ⟨b,o,h,_⟩:=h;subst h;exact ⟨rfl,rfl⟩
 ·simp only [VR] at h;obtain ⟨_,cap,h,_⟩:=h;subst h;exact ⟨rfl,rfl⟩
 ·simp only [VR] at h
  obtain ⟨_,h⟩:=h
  rcases h with ⟨h|⟨b,o,h⟩,_⟩|⟨_,b,o,cap,c,e,f,h,_⟩<;>(subst h;exact ⟨rfl,rfl⟩)
 ·simp only [VR] at h;subst h;exact ⟨rfl,rfl⟩
 ·simp only [VR] at h;obtain ⟨x,y,h,_⟩:=h;subst h;exact ⟨rfl,rfl⟩
 ·simp only [VR] at h;obtain ⟨_,h⟩:=h;subst h;exact ⟨rfl,rfl⟩
theorem ones_sound:∀ (l:List AVal) (xs:List Value),l.all AVal.one=true→VRs G I N w l xs→ones xs
 |[],xs,_,h=>by simp [VRs] at h;subst h;intro v hv;cases hv
 |a::as,xs,ha,h=>by
  simp only [List.all_cons,Bool.and_eq_true] at ha
  simp only [VRs] at h
  obtain ⟨x,xs',rfl,h2,h3⟩:=h
  intro v hv
  rcases List.mem_cons.1 hv with rfl|hv
  ·exact (one_sound ha.1 h2).1
  ·exact ones_sound as xs' ha.2 h3 v hv
theorem cells_sound {a:AVal}{l:List AVal}(ha:a.cells? =some l){x:Value}(h:VR G I N w .none a x):VRs G I N w l x.cells.toList∧ones x.cells.toList:=by
 unfold AVal.cells? at ha
 split at ha
 ·rename_i l'
  split at ha
  ·rename_i hall
   simp at ha;subst ha
   simp only [VR] at h
   obtain ⟨cs,rfl,h2⟩:=h
   exact ⟨h2,ones_sound _ _ hall h2⟩
  ·cases ha
 ·split at ha
  ·rename_i hone
   simp at ha;subst ha
   obtain ⟨h1,h2⟩:=one_sound hone h
   rw [h2]
   refine ⟨?_,fun v hv=> ?_⟩
   ·simp only [VRs];exact ⟨x,[],rfl,h,rfl⟩
   ·simp at hv;subst hv;exact h1
  ·cases ha
theorem foldl_set (off:Nat):∀ (vs:List Value) (k:Nat) (cs:Array Value),off+k+vs.length≤cs.size →
  ((vs.zipIdx k).foldl (fun (cs:Array Value) (p:Value×Nat)=>cs.setIfInBounds (off+p.2) p.1) cs).toList=cs.toList.take (off+k)++vs++cs.toList.drop (off+k+vs.length)
 |[],k,cs,_=>by simp
 |v::vs,k,cs,h=>by
  simp only [List.length_cons] at h
  rw [List.zipIdx_cons,List.foldl_cons,foldl_set off vs (k+1) _ (by simp;omega)]
  have hlt:off+k<cs.toList.length:=by simp;omega
  simp only [Array.toList_setIfInBounds]
  rw [show off+(k+1)=off+k+1 from by omega]
  rw [List.take_succ_eq_append_getElem (by simpa using hlt)]
  rw [List.drop_set_of_lt (by omega)]
  simp only [List.take_set_of_le (Nat.le_refl _),List.getElem_set_self,List.append_assoc,List.singleton_append,List.length_cons]
  rw [show off+k+1+vs.length=off+k+(vs.length+1) from by omega]
theorem fill_step {off:Nat}{v:Value}{cs:Array Value}(h:off+v.cells.size≤cs.size) :
  v.cells.zipIdx.foldl (fun cs (c,j)=>cs.setIfInBounds (off+j) c) cs=(spliceV cs.toList off v.cells.toList).toArray:=by
 have:=foldl_set off v.cells.toList 0 cs (by simpa using h)
 have e:v.cells.zipIdx.foldl (fun cs (c,j)=>cs.setIfInBounds (off+j) c) cs=(v.cells.toList.zipIdx 0).foldl (fun (cs:Array Value) (p:Value×Nat)=>cs.setIfInBounds (off+p.2) p.1) cs:=by
  rw [← Array.foldl_toList]
  simp
 rw [e]
 apply Array.toList_inj.1
 rw [this]
 simp [spliceV]
theorem fill_sound (hρ:Opds ck G I N w η ρ){place:Nat→Option (Nat×Nat)}:∀ (parts:List (Nat×Operand)) (ps:List (Nat×Nat×Opd)) (l cs:List AVal) (xs:Array Value),
  partsOK P ck place parts ps=true→VRs G I N w l xs.toList→fillA l (ps.map fun (o,s,x)=>(o,s,ρ x))=some cs →
  ∃ ys:Array Value,Instr.fill place xs (parts.map fun (i,x)=>(i,η x))=some ys∧VRs G I N w cs ys.toList
 |[],[],l,cs,xs,_,hl,h=>by
  simp [fillA] at h;subst h
  exact ⟨xs,rfl,hl⟩
 |(i,x)::r,(off,sz,y)::q,l,cs,xs,hp,hl,h=>by
  simp only [partsOK,Bool.and_eq_true,beq_iff_eq] at hp
  obtain ⟨⟨h1,h2⟩,h3⟩:=hp
  simp only [List.map_cons,fillA] at h
  split at h
  ·rename_i l' hl'
   split at h
   ·rename_i hsz
    obtain ⟨g1,g2⟩:=cells_sound hl' (hρ _ _ h2)
    have hlen:(η x).cells.size=sz:=by
     have:=VRs.length _ _ g1
     simp at this;omega
    have hlx:xs.size=l.length:=by
     have:=VRs.length _ _ hl
     simpa using this
    have hl2:VRs G I N w (splice l off l') ((spliceV xs.toList off (η x).cells.toList).toArray).toList:=by
     simpa using VRs.splice hl g1 off
    obtain ⟨ys,e1,e2⟩:=fill_sound hρ r q _ cs _ h3 hl2 h
    refine ⟨ys,?_,e2⟩
    have hc:¬ ((η x).cells.size≠sz||off+(η x).cells.size>xs.size)=true:=by
     simp [hlen];omega
    simp only [List.map_cons,Instr.fill,h1]
    rw [if_neg hc,fill_step (by omega)]
    exact e1
   ·cases h
  ·cases h
 |[],_::_,_,_,_,hp,_,_=>by simp [partsOK] at hp
 |_::_,[],_,_,_,hp,_,_=>by simp [partsOK] at hp
theorem zeroOK_sound {t:TypeId}{l:List AVal}(h:zeroOK P t l=true):∃ i z,P.info? t=some i∧i.zero=some z∧VRs G I N w l z.cells.toList:=by
 unfold zeroOK at h
 split at h
 ·rename_i i hi
  split at h
  ·rename_i z hz
   exact ⟨i,z,hi,hz,consts_sound _ _ h⟩
  ·cases h
 ·cases h
theorem pure_build (hρ:Opds ck G I N w η ρ){o:Oper}{zero:List AVal}{ps:List (Nat×Nat×Opd)}(hc:chkPure P ck o (.build zero ps)=true){v:AVal}{rs:List Nat}
  (h:pureOp ρ H (.build zero ps)=some (v,rs)):Good P G I N w η o v:=by
 obtain ⟨dst,oop,ty,pos,after,guard⟩:=o
 cases oop<;>simp only [chkPure] at hc<;>try (cases hc;done)
 rename_i t parts
 simp only [pureOp] at h
 split at h
 ·rename_i cs hcs
  simp at h;obtain ⟨rfl,rfl⟩:=h
  have key:∃ ys:Array Value,P.built t (parts.toList.map fun (i,x)=>(i,η x))=some ys∧VRs G I N w cs ys.toList:=by
   split at hc
   ·rename_i fs hu
    split at hc
    ·rename_i places hpl
     simp only [Bool.and_eq_true] at hc
     obtain ⟨it,z,e1,e2,e3⟩:=zeroOK_sound (G:=G) (I:=I) (N:=N) (w:=w) hc.1
     obtain ⟨ys,f1,f2⟩:=fill_sound hρ parts.toList ps zero cs z.cells hc.2 e3 hcs
     refine ⟨ys,?_,f2⟩
     unfold fieldPlaces at hpl
     simp only [Program.built,e1,hu,e2,hpl]
     rw [← f1]
     congr 1
     funext j
     simp
    ·cases hc
   ·rename_i n e hu
    split at hc
    ·rename_i ie hie
     simp only [Bool.and_eq_true] at hc
     obtain ⟨it,z,e1,e2,e3⟩:=zeroOK_sound (G:=G) (I:=I) (N:=N) (w:=w) hc.1
     obtain ⟨ys,f1,f2⟩:=fill_sound hρ parts.toList ps zero cs z.cells hc.2 e3 hcs
     refine ⟨ys,?_,f2⟩
     simp only [Program.built,e1,hu,e2,hie]
     exact f1
    ·cases hc
   ·cases hc
  obtain ⟨ys,e1,e2⟩:=key
  refine ⟨.agg ys,?_,by simp only [VR];exact ⟨ys,rfl,e2⟩⟩
  have hb:=run_build (P:=P) w t (parts.map fun (i,x)=>(i,η x)) ys (by simpa using e1)
  simp only [execOp,Sem.run_bind]
  rw [hb]
  rfl
 ·cases h
theorem pure_sound (hη:∀ v,η (.const v)=v)(hρ:Opds ck G I N w η ρ)(hH:HR G I N w H){o:Oper}{op:AOp}(hc:chkPure P ck o op=true){v:AVal}{rs:List Nat}
  (h:pureOp ρ H op=some (v,rs)):Good P G I N w η o v:=by
 cases op
 case pick=>exact pure_pick hρ hc h
 case build=>exact pure_build hρ hc h
 case load=>exact pure_load hρ hH hc h
 case nilck=>exact pure_nilck hρ hc h
 case bin=>exact pure_bin hρ hc h
 case un=>exact pure_un hρ hc h
 case nilS=>exact pure_nilS hη hρ hc h
 case nilI=>exact pure_nilI hη hρ hc h
 case eqB=>exact pure_eqB hρ hc h
 case eqS=>exact pure_eqS hρ hc h
 case convI=>exact pure_convI hρ hc h
 case convId=>exact pure_convId hρ hc h
 case convBS=>exact pure_convBS hρ hc h
 case sliceS=>exact pure_sliceS hρ hc h
 case sliceV=>exact pure_sliceV hρ hc h
 case off=>exact pure_off hρ hc h
 case idxA=>exact pure_idxA hρ hc h
 case idxP=>exact pure_idxP hρ hc h
 case idxS=>exact pure_idxS hρ hc h
 case extract=>exact pure_extract hρ hc h
 case len=>exact pure_len hρ hc h
 case lenT=>exact pure_lenT hρ hc h
 case lenM=>exact pure_lenM hρ hH hc h
 case minmax=>exact pure_minmax hρ hc h
 case mkfunc=>exact pure_mkfunc hρ hc h
 case lookup=>exact pure_lookup hρ hH hc h
 all_goals (unfold chkPure at hc;split at hc<;>first|(cases hc;done)|(rename_i h1 h2;cases h2;done)|(rename_i h2;cases h2;done))
end
end Go.Abs
namespace Go.Abs.Z
abbrev k (n:Int):Opd:= .const (.d (.int .i64 n))
abbrev kt:Opd:= .const (.d (.bool true))
abbrev kf:Opd:= .const (.d (.bool false))
abbrev z0:AVal:= .d (.int .i64 0)
abbrev zs:AVal:= .d (.str [])
abbrev zb:AVal:= .d (.bool false)
abbrev w (n:Nat):AVal:= .own n 0 []
abbrev l (n:Nat):Opd:= .loc n
abbrev s (n:Nat):Opd:= .slot n
abbrev i0 (o:AOp):AIns:=⟨o,none,none,[]⟩
abbrev i1 (o:AOp)(d:Nat):AIns:=⟨o,some d,none,[]⟩
abbrev it (o:AOp)(j:Nat):AIns:=⟨o,none,some (j,true),[]⟩
abbrev if_ (o:AOp)(j:Nat):AIns:=⟨o,none,some (j,false),[]⟩
abbrev i3 (o:AOp)(u:List Nat):AIns:=⟨o,none,none,u⟩
abbrev ms (n:Nat):AIns:=⟨.mov (.slot n),none,none,[]⟩
abbrev ml (n:Nat):AIns:=⟨.mov (.loc n),none,none,[]⟩
abbrev os (a n:Nat):AIns:=⟨.off a (.slot n),none,none,[]⟩
abbrev ol (a n:Nat):AIns:=⟨.off a (.loc n),none,none,[]⟩
abbrev ld (n:Nat):AIns:=⟨.load none (.loc n),none,none,[]⟩
abbrev sq:=ACode.seq
abbrev rg:=ACode.region
abbrev te:=ACode.test
abbrev sk:=ACode.skip
def sh (t:AFunc){x:AFunc}(h:t=x:=by dsimp only [k,kt,kf,z0,zs,zb,w,l,s,i0,i1,it,if_,i3,ms,ml,os,ol,ld,sq,rg,te,sk]):{ x:AFunc // t=x }:=⟨x,h⟩
end Go.Abs.Z

/- Texts A1 A2 A3 A4 A5 A6 A7 Z1 Z2 (made short by a program) -/
import Derived.Calls
import Derived.Below
import Derived.WalkKit
import Derived.Laws.BytesString
import Derived.Lib.Strings
set_option linter.unusedVariables false
set_option linter.unusedSimpArgs false
open Bool renaming and_eq_true → b5, false_eq_true → b7, not_eq_true' → j5
open List renaming getElem?_eq_getElem → s9, length_cons → B7, mem_cons → C6, replicate → c9
open Nat renaming add_assoc → H9, beq → r9, le_refl → n5, lt_or_ge → u9
namespace Go.y3
inductive Data where
 |bool (b:Bool)
 |int (k:IntKind) (n:Int)
 |str (s:List UInt8)
 |slice (len:Nat) (cells:List Data)
 |cD
 |O8
 |eD
 |nilIface
 deriving Inhabited
inductive KD where
 |i (k:IntKind) (n:Int)
 |s (x:List UInt8)
 |b (b:Bool)
 deriving DecidableEq,Inhabited
inductive Key where
 |int (k:IntKind) (n:Int)
 |str (s:List UInt8)
 |bool (b:Bool)
 |st (l:List KD)
 deriving DecidableEq,Inhabited
inductive b6 where
 |any
 |d (x:Data)
 |ptr (id off:Nat)
 |Q5 (cells:List Data)
 |D4 (id sz lo len:Nat)
 |own (sz len:Nat) (cells:List Data)
 |I8
 |agg (cells:List b6)
 |tuple (vs:List b6)
 |func (f:FuncId) (first caps:List b6)
 |map (id:Nat)
 deriving Inhabited
inductive y7 where
 |dead
 |cells (l:List b6)
 |map (es:List (Key×b6))
 deriving Inhabited
abbrev o6:=List y7
inductive q7 where
 |loc (j:Nat)
 |slot (s:Nat)
 |const (v:b6)
 deriving Inhabited
inductive CK where
 |i
 |s
 |b
 deriving DecidableEq,Inhabited
inductive KK where
 |i
 |s
 |b
 |st (ks:List CK)
 deriving DecidableEq,Inhabited
inductive q9 where
 |O3 (x:q7)
 |pick (c a b:q7)
 |alloc (zero:List b6)
 |box (x:q7)
 |build (zero:List b6) (parts:List (Nat×Nat×q7))
 |p8 (sz len:Nat) (zero:List b6) (parts:List (Nat×Nat×q7)) (ob:Bool)
 |load (n:Option Nat) (x:q7)
 |store (n:Nat) (a x:q7)
 |X6 (x:q7)
 |bin (op:BinOp) (x y:q7)
 |un (op:UnOp) (x:q7)
 |CR (neg:Bool) (x:q7)
 |Ix (neg:Bool) (x:q7)
 |o9 (neg:Bool) (x y:q7)
 |NQ (neg:Bool) (ks:List CK) (x y:q7)
 |kY (k:IntKind) (x:q7)
 |pG (x:q7)
 |Cv (x:q7)
 |je (x:q7)
 |qe (x:q7) (lo hi:Option q7)
 |aN (sz:Nat) (x:q7) (lo hi:Option q7)
 |off (k:Nat) (x:q7)
 |C4 (sz:Nat) (x i:q7)
 |gb (n sz:Nat) (x i:q7)
 |C0 (x i:q7)
 |extract (x:q7) (i:Nat)
 |len (x:q7)
 |U9 (x:q7)
 |CL (x:q7)
 |append (sz bytes:Nat) (ob:Bool) (x y:q7)
 |fM (isMax:Bool) (xs:List q7)
 |clear (sz:Nat) (zero:List b6) (x:q7)
 |Y8 (f:FuncId) (first caps:List q7)
 |call (f:FuncId) (xs:List q7)
 |aO (x:q7) (xs:List q7)
 |makeMap
 |lookup (kk:KK) (zero:b6) (ok:Bool) (m k:q7)
 |dD (kk:KK) (m k v:q7)
 |defer (x:q7)
 |bad
 deriving Inhabited
structure n8 where
 op:q9
 dst:Option Nat:=none
 guard:Option (Nat×Bool):=none
 cg:List Nat:=[]
 deriving Inhabited
inductive o8 where
 |skip
 |region (ops:List n8) (draw:Bool)
 |seq (a b:o8)
 |cond (c:q7) (thn els:o8)
 |test (ops:List n8) (draw:Bool) (c:q7) (thn els:o8)
 |block (id:Nat) (body:o8)
 |loop (mask:List Bool) (body:o8)
 |exit (id:Nat)
 |ret
 |fz (s:Nat)
 |bad
 deriving Inhabited
inductive zT where
 |slot (s:Nat)
 |cell (s:Nat) (n:Option Nat)
 deriving Inhabited
structure p7 where
 nparams:Nat
 names:List Nat
 body:o8
 results:List zT
 aA:Bool:=false
 deriving Inhabited
def b6.G4:b6->b6
 | .own _ len cells=> .d (.slice len cells)
 | .I8=> .d (.slice 0 [])
 |v=>v
def b6.one:b6->Bool
 | .any=>false
 | .agg _=>false
 | .tuple _=>false
 |_=>true
def b6.cells? :b6->Option (List b6)
 | .agg l=>if l.all b6.one then some l else none
 |v=>if v.one then some [v] else none
def b6.data? :b6->Option Data
 | .d x=>some x
 | .own _ len cells=>some (.slice len cells)
 | .I8=>some (.slice 0 [])
 |_=>none
def N9 :List b6->Option (List Data)
 |[]=>some []
 |v::vs=>match v.data? with
  |some x=>match N9 vs with
   |some xs=>some (x::xs)
   |none=>none
  |none=>none
mutual
def b6.N4:b6->Nat
 | .ptr id _=>id+1
 | .D4 id _ _ _=>id+1
 | .map id=>id+1
 | .agg l=>A4 l
 | .tuple l=>A4 l
 | .func _ a b=>max (A4 a) (A4 b)
 |_=>0
def A4:List b6->Nat
 |[]=>0
 |v::vs=>max v.N4 (A4 vs)
end
mutual
def b6.kill (id:Nat):b6->b6
 | .ptr i o=>if i=id then .any else .ptr i o
 | .D4 i z l n=>if i=id then .any else .D4 i z l n
 | .map i=>if i=id then .any else .map i
 | .agg l=> .agg (G5 id l)
 | .tuple l=> .tuple (G5 id l)
 | .func f a b=> .func f (G5 id a) (G5 id b)
 |v=>v
def G5 (id:Nat):List b6->List b6
 |[]=>[]
 |v::vs=>v.kill id::G5 id vs
end
def y7.N4:y7->Nat
 | .dead=>0
 | .cells l=>A4 l
 | .map es=>A4 (es.map (·.2))
def P8:List y7->Nat->Bool
 |[],_=>true
 |o::os,k=>o.N4<=k+1&&P8 os (k+1)
def Y6:List y7->Nat
 |[]=>0
 |o::os=>max o.N4 (Y6 os)
def y7.kill (id:Nat):y7->y7
 | .dead=> .dead
 | .cells l=> .cells (G5 id l)
 | .map es=> .map (es.map fun p=>(p.1,p.2.kill id))
def rd (H:o6)(id off n:Nat):Option (List b6) :=
 match H[id]? with
 |some (.cells l)=>if off+n<=l.length then some ((l.drop off).take n) else none
 |_=>none
def splice (l:List b6)(off:Nat)(vs:List b6):List b6:=l.take off++vs++l.drop (off+vs.length)
def wr (H:o6)(id off:Nat)(vs:List b6):Option o6 :=
 match H[id]? with
 |some (.cells l)=>if off+vs.length<=l.length then some (H.set id (.cells (splice l off vs))) else none
 |_=>none
def i64 (n:Int):b6:= .d (.int .i64 n)
def aS (op:BinOp)(k:IntKind)(a b:Int):Option Data :=
 match op with
 | .add=>some (.int k (k.wrap (a+b)))
 | .sub=>some (.int k (k.wrap (a - b)))
 | .mul=>some (.int k (k.wrap (a * b)))
 | .quo=>if b=0 then none else some (.int k (k.wrap (a.tdiv b)))
 | .rem=>if b=0 then none else some (.int k (a.tmod b))
 | .and=>some (.int k (k.wrap (BitVec.ofInt k.bits a&&&BitVec.ofInt k.bits b).toNat))
 | .or=>some (.int k (k.wrap (BitVec.ofInt k.bits a|||BitVec.ofInt k.bits b).toNat))
 | .xor=>some (.int k (k.wrap (BitVec.ofInt k.bits a ^^^ BitVec.ofInt k.bits b).toNat))
 | .eql=>some (.bool (a==b))
 | .neq=>some (.bool (a != b))
 | .lss=>some (.bool (a<b))
 | .leq=>some (.bool (a<=b))
 | .gtr=>some (.bool (a>b))
 | .geq=>some (.bool (a≥b))
 |_=>none
def wG (op:BinOp)(k:IntKind)(a b:Int):Option Data :=
 if b<0 then none else
 match op with
 | .shl=>some (.int k (k.wrap (a * 2 ^ (min b.toNat k.bits))))
 | .shr=>some (.int k (a.fdiv (2 ^ (min b.toNat k.bits))))
 |_=>none
def sY (op:BinOp)(a b:List UInt8):Option Data :=
 match op with
 | .add=>if a.length+b.length<4611686018427387904 then some (.str (a++b)) else none
 | .eql=>some (.bool (a==b))
 | .neq=>some (.bool (!(a==b)))
 | .lss=>some (.bool (Op.bytesLess a b))
 | .leq=>some (.bool (Op.bytesLess a b||a==b))
 | .gtr=>some (.bool (!(Op.bytesLess a b||a==b)))
 | .geq=>some (.bool (!(Op.bytesLess a b)))
 |_=>none
def X4:BinOp->Bool
 | .shl=>true
 | .shr=>true
 |_=>false
def M5 (op:BinOp):Data->Data->Option Data
 | .int k a,.int k' b=>if X4 op then wG op k a b else if k=k' then aS op k a b else none
 | .str a,.str b=>sY op a b
 |_,_=>none
def yU (op:UnOp):Data->Option Data
 | .int k n=>match op with
  | .neg=>some (.int k (k.wrap (0 - n)))
  |_=>none
 | .bool b=>match op with
  | .not=>some (.bool (!b))
  |_=>none
 |_=>none
def bU (cells:List b6):List (Nat×Nat×b6)->Option (List b6)
 |[]=>some cells
 |(off,sz,v)::rest=>match v.cells? with
  |some l=>if l.length=sz/\off+sz<=cells.length then bU (splice cells off l) rest else none
  |none=>none
def fe :List Data->Option (List UInt8)
 |[]=>some []
 | .int .u8 n::r=>match fe r with
  |some bs=>some (UInt8.ofNat n.toNat::bs)
  |none=>none
 |_=>none
def vP (isMax:Bool)(a b:Data):Option Data :=
 match a,b with
 | .int k x,.int _ y=>some (.int k (if isMax then (if y>x then y else x) else (if y<x then y else x)))
 |_,_=>none
def dF (isMax:Bool):Data->List b6->Option Data
 |a,[]=>some a
 |a,.d b::r=>match vP isMax a b with
  |some c=>dF isMax c r
  |none=>none
 |_,_=>none
def Data.Cn:CK->Data->Data->Option Bool
 | .i,.int k a,.int k' b=>if k=k' then some (a==b) else none
 | .s,.str a,.str b=>some (a==b)
 | .b,.bool a,.bool b=>some (a==b)
 |_,_,_=>none
def V1:List CK->List b6->List b6->Option Bool
 |[],[],[]=>some true
 |k::ks,.d a::r,.d b::q=>match Data.Cn k a b with
  |some t=>match V1 ks r q with
   |some u=>some (t&&u)
   |none=>none
  |none=>none
 |_,_,_=>none
def KD.av:KD->b6
 | .i k n=> .d (.int k n)
 | .s x=> .d (.str x)
 | .b t=> .d (.bool t)
def Il :List b6->Option (List KD)
 |[]=>some []
 | .d (.int k n)::vs=>match Il vs with
  |some r=>some (.i k n::r)
  |none=>none
 | .d (.str x)::vs=>match Il vs with
  |some r=>some (.s x::r)
  |none=>none
 | .d (.bool t)::vs=>match Il vs with
  |some r=>some (.b t::r)
  |none=>none
 |_=>none
def b6.Im :b6->Option Key
 | .d (.int k n)=>some (.int k n)
 | .d (.str s)=>some (.str s)
 | .d (.bool b)=>some (.bool b)
 | .agg l=>match Il l with
  |some r=>some (.st r)
  |none=>none
 |_=>none
def Data.aW:KK->Key->Key->Option Bool
 | .i,.int k a,.int k' b=>if k=k' then some (a==b) else none
 | .s,.str a,.str b=>some (a==b)
 | .b,.bool a,.bool b=>some (a==b)
 | .st ks,.st l,.st m=>V1 ks (l.map KD.av) (m.map KD.av)
 |_,_,_=>none
def KK.fits (kk:KK)(k:Key):Bool:=match kk,k with
 | .st ks,.st l=>(V1 ks (l.map KD.av) (l.map KD.av)).isSome
 | .st _,_=>false
 |_,_=>true
def bA (kk:KK)(k:Key):List (Key×b6)->Option (Option b6)
 |[]=>some none
 |(k',v)::r=>match Data.aW kk k k' with
  |some true=>some (some v)
  |some false=>bA kk k r
  |none=>none
def cC (kk:KK)(k:Key)(v:b6):List (Key×b6)->Option (List (Key×b6))
 |[]=>some [(k,v)]
 |(k',v')::r=>match Data.aW kk k k' with
  |some true=>some ((k,v)::r)
  |some false=>match cC kk k v r with
   |some r' =>some ((k',v')::r')
   |none=>none
  |none=>none
def U6 (ρ:q7->b6)(dflt:Nat):Option q7->Option Int
 |none=>some dflt
 |some x=>match ρ x with
  | .d (.int _ n)=>some n
  |_=>none
def J5 (H:o6)(sz:Nat):b6->Option (Nat×List b6)
 | .d (.slice len cells)=>if cells.length=len * sz then some (len,cells.map .d) else none
 | .own z len cells=>if z=sz then some (len,cells.map .d) else none
 | .D4 id z lo len=>if z=sz then match rd H id lo (len * sz) with
   |some cs=>some (len,cs.map b6.G4)
   |none=>none
  else none
 | .d (.str s)=>if sz=1 then some (s.length,s.map fun b=> .d (.int .u8 b.toNat)) else none
 |_=>none
def m6 (ρ:q7->b6)(H:o6):q9->Option (b6×List Nat)
 | .pick c a b=>match ρ c with
  | .d (.bool t)=>some (if t then ρ a else ρ b,[])
  |_=>none
 | .build zero parts=>match bU zero (parts.map fun (o,s,x)=>(o,s,ρ x)) with
  |some cs=>some (.agg cs,[])
  |none=>none
 | .p8 sz len zero parts false=>match bU zero (parts.map fun (o,s,x)=>(o,s,ρ x)) with
  |some cs=>match N9 cs with
   |some xs=>if 0<sz/\xs.length=len * sz then some (.own sz len xs,[]) else none
   |none=>none
  |none=>none
 | .load none x=>match ρ x with
  | .ptr id off=>match rd H id off 1 with
   |some [v]=>some (v.G4,[id])
   |_=>none
  | .Q5 (c::_)=>some (.d c,[])
  |_=>none
 | .load (some n) x=>match ρ x with
  | .ptr id off=>match rd H id off n with
   |some vs=>some (.agg (vs.map b6.G4),[id])
   |none=>none
  | .Q5 cells=>if n<=cells.length then some (.agg ((cells.take n).map .d),[]) else none
  |_=>none
 | .X6 x=>match ρ x with
  | .ptr id off=>some (.ptr id off,[])
  | .Q5 cells=>some (.Q5 cells,[])
  | .func f a b=>some (.func f a b,[])
  |_=>none
 | .bin op x y=>match ρ x,ρ y with
  | .d a,.d b=>match M5 op a b with
   |some r=>some (.d r,[])
   |none=>none
  |_,_=>none
 | .Ix neg x=>match ρ x with
  | .d .nilIface=>some (.d (.bool (!neg)),[])
  |_=>none
 | .o9 neg x y=>match ρ x,ρ y with
  | .d (.bool a),.d (.bool b)=>some (.d (.bool (neg != (a==b))),[])
  |_,_=>none
 | .NQ neg ks x y=>match ρ x,ρ y with
  | .agg a,.agg b=>match V1 ks a b with
   |some t=>some (.d (.bool (neg != t)),[])
   |none=>none
  |_,_=>none
 | .un op x=>match ρ x with
  | .d a=>match yU op a with
   |some r=>some (.d r,[])
   |none=>none
  |_=>none
 | .CR neg x=>match ρ x with
  | .d (.slice len _)=>if 0<len then some (.d (.bool neg),[]) else none
  | .D4 _ _ _ _=>some (.d (.bool neg),[])
  |_=>none
 | .kY k x=>match ρ x with
  | .d (.int _ n)=>some (.d (.int k (k.wrap n)),[])
  |_=>none
 | .pG x=>match ρ x with
  | .d (.str s)=>some (.d (.str s),[])
  |_=>none
 | .je x=>match ρ x with
  | .d (.slice len cells)=>if cells.length=len then match fe cells with
    |some bs=>some (.d (.str bs),[])
    |none=>none
   else none
  |_=>none
 | .Cv x=>match ρ x with
  | .d (.str s)=>some (.own 1 s.length (s.map fun b=> .int .u8 b.toNat),[])
  |_=>none
 | .qe x lo hi=>match ρ x with
  | .d (.str s)=>match U6 ρ 0 lo,U6 ρ s.length hi with
   |some l,some h=>if 0<=l/\l<=h/\h<=s.length then some (.d (.str ((s.take h.toNat).drop l.toNat)),[]) else none
   |_,_=>none
  |_=>none
 | .aN sz x lo hi=>match ρ x with
  | .d (.slice len cells)=>match U6 ρ 0 lo,U6 ρ len hi with
   |some l,some h=>if 0<=l/\l<=h/\h<=len/\cells.length=len * sz then
     some (.d (.slice (h - l).toNat ((cells.take (h.toNat * sz)).drop (l.toNat * sz))),[]) else none
   |_,_=>none
  | .D4 id z a len=>match U6 ρ 0 lo,U6 ρ len hi with
   |some l,some h=>if 0<=l/\l<=h/\h<=len/\z=sz then
     if l=h then some (.d (.slice 0 []),[]) else some (.D4 id sz (a+l.toNat * sz) (h - l).toNat,[]) else none
   |_,_=>none
  |_=>none
 | .off k x=>match ρ x with
  | .ptr id off=>some (.ptr id (off+k),[])
  | .Q5 cells=>some (.Q5 (cells.drop k),[])
  |_=>none
 | .C4 sz x i=>match ρ x,ρ i with
  | .d (.slice len cells),.d (.int _ i)=>if 0<=i/\i<len then some (.Q5 (cells.drop (i.toNat * sz)),[]) else none
  | .D4 id z lo len,.d (.int _ i)=>if 0<=i/\i<len/\z=sz then some (.ptr id (lo+i.toNat * sz),[]) else none
  |_,_=>none
 | .gb n sz x i=>match ρ x,ρ i with
  | .ptr id off,.d (.int _ i)=>if 0<=i/\i<n then some (.ptr id (off+i.toNat * sz),[]) else none
  | .Q5 cells,.d (.int _ i)=>if 0<=i/\i<n then some (.Q5 (cells.drop (i.toNat * sz)),[]) else none
  |_,_=>none
 | .C0 x i=>match ρ x,ρ i with
  | .d (.str s),.d (.int _ i)=>if 0<=i then match s[i.toNat]? with
    |some b=>some (.d (.int .u8 b.toNat),[])
    |none=>none
   else none
  |_,_=>none
 | .extract x i=>match ρ x with
  | .tuple vs=>match vs[i]? with
   |some v=>some (v,[])
   |none=>none
  |_=>none
 | .len x=>match ρ x with
  | .d (.slice len _)=>some (i64 len,[])
  | .D4 _ _ _ len=>some (i64 len,[])
  |_=>none
 | .U9 x=>match ρ x with
  | .d (.str s)=>some (i64 s.length,[])
  |_=>none
 | .CL x=>match ρ x with
  | .d .eD=>some (i64 0,[])
  | .map id=>match H[id]? with
   |some (.map es)=>some (i64 es.length,[id])
   |_=>none
  |_=>none
 | .fM isMax xs=>match xs.map ρ with
  | .d a::r=>match dF isMax a r with
   |some c=>some (.d c,[])
   |none=>none
  |_=>none
 | .Y8 f first caps=>some (.func f (first.map ρ) (caps.map ρ),[])
 | .lookup kk zero ok m k=>match ρ m,(ρ k).Im with
  | .map id,some key=>match H[id]? with
   |some (.map es)=>match bA kk key es,kk.fits key with
    |some r,true=>some (if ok then .tuple [r.getD zero,.d (.bool r.isSome)] else r.getD zero,[id])
    |_,_=>none
   |_=>none
  | .d .eD,some key=>match Data.aW kk key key with
   |some true=>some (if ok then .tuple [zero,.d (.bool false)] else zero,[])
   |_=>none
  |_,_=>none
 |_=>none
inductive Touch where
 |slot (s:Nat)
 |obj (id:Nat)
 |cell (id off:Nat)
 |below (n:Nat)
 deriving Inhabited
structure E5 where
 T:List b6
 H:o6
 L:List b6
 n6:List Touch
def Touch.R9 (s:Nat):Touch->Bool
 | .slot t=>t==s
 |_=>false
def Touch.K4 (id:Nat):Touch->Bool
 | .obj i=>i==id
 | .below n=>id<n
 |_=>false
def Touch.aP (id off:Nat):Touch->Bool
 | .obj i=>i==id
 | .cell i o=>i==id&&o==off
 | .below n=>id<n
 |_=>false
def b6.NP:b6->b6
 | .I8=> .I8
 |v=>v.G4
def F5 (T L:List b6):q7->b6
 | .loc j=>(L.getD j .any).G4
 | .slot s=>(T.getD s .any).G4
 | .const v=>v.NP
def Z8 (st:E5):q7->Option (Nat×Nat)
 | .loc m=>match st.L[m]? with
  |some (.ptr id off)=>some (id,off)
  |_=>none
 | .slot s=>if st.n6.any (Touch.R9 s) then none else match st.T[s]? with
  |some (.ptr id off)=>some (id,off)
  |_=>none
 | .const _=>none
structure G9 where
 UU:Nat
 UT:Nat
 base:Nat
 strict:Nat
def G9.may (l:G9)(id:Nat):Bool:=decide (id<l.UU)||decide (l.UT<=id)
def G9.mC (l:G9)(a b base strict:Nat):G9 :=
 if l.UT<=l.UU then ⟨a,b,base,strict⟩ else ⟨min l.UU a,max l.UT b,base,strict⟩
def V2 (l:G9)(st:E5)(sz:Nat):q9->Option (Nat×List Data×E5)
 | .O3 (.slot s) =>
  if st.n6.any (Touch.R9 s) then none else
  match st.T[s]? with
  |some (.own z len cells)=>if z=sz then some (len,cells,{ st with T:=st.T.set s (.d (.slice len cells)),n6:= .slot s::st.n6 }) else none
  |_=>none
 | .load none x =>
  match Z8 st x with
  |some (id,off) =>
   if st.n6.any (Touch.aP id off)|| !l.may id then none else
   match st.H[id]? with
   |some (.cells cs) =>
    match cs[off]? with
    |some (.own z len cells)=>if z=sz then some (len,cells,{ st with H:=st.H.set id (.cells (cs.set off (.d (.slice len cells)))),n6:= .cell id off::st.n6 }) else none
    |_=>none
   |_=>none
  |none=>none
 |_=>none
def Q1 (l:G9)(j4:List n8)(st:E5)(sz:Nat):q7->Option (Nat×List Data×E5)
 | .const (.own z len cells)=>if z=sz then some (len,cells,st) else none
 | .const _=>none
 | .slot _=>none
 | .loc j =>
  match st.L[j]? with
  |some (.own z len cells)=>if z=sz then some (len,cells,{ st with L:=st.L.set j (.d (.slice len cells)) }) else none
  |some (.d (.slice _ _))=>match j4[j]? with
   |some a=>V2 l st sz a.op
   |none=>none
  |_=>none
def roomFor (n bytes:Nat):Bool:=decide ((2 * n+512) * bytes<=281474976710656)
abbrev qp:=FuncId->List b6->o6->G9->Option (b6×o6)
def put (st:E5)(k:Nat)(v:b6):E5:={ st with L:=st.L.set k v }
def D7 (st:E5):q7->b6×E5
 | .loc j=>match st.L[j]? with
  |some (.own z len cells)=>(.own z len cells,{ st with L:=st.L.set j (.d (.slice len cells)) })
  |_=>(F5 st.T st.L (.loc j),st)
 | .const v=>(v,st)
 | .slot s=>(F5 st.T st.L (.slot s),st)
structure Env where
 cf:qp
 prom:FuncId->Bool
 mode:FuncId->Nat
 idle:FuncId->Bool
 lim:G9
 entry:Nat
def I4 (H:o6)(strict:Nat):Nat->Nat->Nat
 |0,n=>n
 |k+1,n=>if n<=strict then n else
  let m:=max n (Y6 ((H.take n).drop strict))
  if m=n then n else I4 H strict k m
def C8 (H:o6)(strict n:Nat):Nat :=
 if n<=strict then n else if P8 ((H.take n).drop strict) strict then n else strict
def C7 (E:Env)(k:Nat)(f:FuncId)(args:List b6)(st:E5):Option E5 :=
 if E.prom f then
  match E.cf f args st.H E.lim with
  |some (v,H1)=>if st.H.length<=H1.length then some (put { st with H:=H1,n6:= .below H1.length::st.n6 } k v) else none
  |none=>none
 else
  let n:=I4 st.H E.lim.strict 8 (A4 args)
  if n<=st.H.length/\Y6 ((st.H.take n).drop E.lim.strict)<=n then
   match E.mode f with
   |0=>match E.cf f args (st.H.take n) { E.lim with base:=n,strict:=C8 st.H E.lim.strict n } with
    |some (v,H1)=>if H1.length=n then some (put { st with H:=H1++st.H.drop n,n6:= .below n::st.n6 } k v) else none
    |none=>none
   |1=>match E.cf f args (st.H.take n) ⟨0,n,n,C8 st.H E.lim.strict n⟩ with
    |some (v,H1)=>if H1.length=n then some (put st k v) else none
    |none=>none
   |_ =>
    let m:=(args.headD .any).N4
    match E.cf f args (st.H.take n) (E.lim.mC m n n (C8 st.H E.lim.strict n)) with
    |some (v,H1)=>if H1.length=n/\m<=n then some (put { st with H:=H1.take m++st.H.drop m,n6:= .below m::st.n6 } k v) else none
    |none=>none
  else none
def newId (st:E5)(u5:Option Nat):Nat:=u5.getD st.H.length
def J7 (st:E5)(u5:Option Nat)(o:y7):E5 :=
 match u5 with
 |none=>{ st with H:=st.H++[o] }
 |some i=>{ st with H:=st.H.set i o }
def Q0 (E:Env)(k n:Nat)(st:E5)(a:b6)(x:q7):Option E5 :=
 match a with
 | .ptr id off =>
  match (D7 st x).1.cells? with
  |some l =>
   if l.length=n/\E.lim.may id/\(A4 l<=id+1\/(E.lim.base<=id/\E.lim.strict<=id)) then
    match wr (D7 st x).2.H id off l with
    |some H' =>some (put { (D7 st x).2 with H:=H',n6:= .obj id::(D7 st x).2.n6 } k .any)
    |none=>none
   else none
  |none=>none
 |_=>none
def S2 (E:Env)(k sz bytes:Nat)(st:E5)(id lo len:Nat)(y:b6):Option E5 :=
 if E.lim.base<=id/\E.entry<=id/\E.lim.may id then
  match st.H[id]?,J5 st.H sz y with
  |some (.cells l),some (m,cs) =>
   if lo=0/\len * sz=l.length/\roomFor (len+m) bytes/\A4 cs<=id/\cs.all b6.one/\0<sz then
    some (put { T:=G5 id st.T,H:=(st.H.take E.lim.base++(st.H.drop E.lim.base).map (y7.kill id)).set id (.cells (G5 id l++cs)),L:=G5 id st.L,n6:= .obj id::st.n6 } k (.D4 id sz lo (len+m)))
   else none
  |_,_=>none
 else none
def mP (l:G9)(st:E5):q9->Bool
 | .O3 (.slot s)=> !st.n6.any (Touch.R9 s)&&(match st.T[s]? with
  |some .I8=>true
  |_=>false)
 | .load none x =>
  match Z8 st x with
  |some (id,off)=> !st.n6.any (Touch.aP id off)&&l.may id&&(match st.H[id]? with
   |some (.cells cs)=>(match cs[off]? with
    |some .I8=>true
    |_=>false)
   |_=>false)
  |none=>false
 |_=>false
def isNil (l:G9)(j4:List n8)(st:E5):q7->Bool
 | .const .I8=>true
 | .loc j=>match st.L[j]? with
  |some .I8=>true
  |some (.d (.slice _ _))=>match j4[j]? with
   |some a=>mP l st a.op
   |none=>false
  |_=>false
 |_=>false
def L0 (E:Env)(j4:List n8)(u5:Option Nat)(k sz bytes:Nat)(ob:Bool)(st:E5)(x:q7)(y:b6):Option E5 :=
 match J5 st.H sz y with
 |some (m,cs) =>
  if ob then
   if isNil E.lim j4 st x/\roomFor m bytes/\0<sz then
    if m=0 then some (put st k .I8)
    else some (put (J7 st u5 (.cells cs)) k (.D4 (newId st u5) sz 0 m))
   else none
  else
   match N9 cs with
   |some new =>
    match Q1 E.lim j4 st sz x with
    |some (len,cells,st') =>
     if roomFor (len+m) bytes/\0<sz then some (put st' k (.own sz (len+m) (cells++new))) else none
    |none=>none
   |none=>none
 |none=>none
def X0 (E:Env)(k sz:Nat)(zero:List b6)(st:E5):b6->Option E5
 | .D4 id z lo len =>
  if z=sz/\zero.length=sz/\A4 zero=0/\E.lim.may id then
   match wr st.H id lo ((c9 len zero).flatten) with
   |some H' =>some (put { st with H:=H',n6:= .obj id::st.n6 } k (.tuple []))
   |none=>none
  else none
 | .d (.slice 0 _)=>some (put st k (.tuple []))
 |_=>none
def T5 (E:Env)(k:Nat)(kk:KK)(st:E5)(m key v:b6):Option E5 :=
 match m,key.Im with
 | .map id,some kd=>match st.H[id]? with
  |some (.map es) =>
   if v.N4<=id+1/\E.lim.may id then
    match Data.aW kk kd kd with
    |some true=>match cC kk kd v es with
     |some es' =>some (put { st with H:=st.H.set id (.map es'),n6:= .obj id::st.n6 } k .any)
     |none=>none
    |_=>none
   else none
  |_=>none
 |_,_=>none
def E6 (E:Env)(j4:List n8)(u5:Option Nat)(k:Nat)(st:E5):q9->Option E5
 | .alloc zero=>some (put (J7 st u5 (.cells zero)) k (.ptr (newId st u5) 0))
 | .box x=>match (F5 st.T st.L x).cells? with
  |some l=>some (put (J7 st u5 (.cells l)) k (.ptr (newId st u5) 0))
  |none=>none
 | .makeMap=>some (put (J7 st u5 (.map [])) k (.map (newId st u5)))
 | .p8 sz len zero parts true=>match bU zero (parts.map fun (o,s,x)=>(o,s,F5 st.T st.L x)) with
  |some cs=>if 0<sz/\cs.length=len * sz then some (put (J7 st u5 (.cells cs)) k (.D4 (newId st u5) sz 0 len)) else none
  |none=>none
 | .store n a x=>Q0 E k n st (F5 st.T st.L a) x
 | .append sz bytes ob x y =>
  match F5 st.T st.L x with
  | .D4 id z lo len=>if z=sz then S2 E k sz bytes st id lo len (F5 st.T st.L y) else none
  |_=>L0 E j4 u5 k sz bytes ob st x (F5 st.T st.L y)
 | .clear sz zero x=>X0 E k sz zero st (F5 st.T st.L x)
 | .call f xs=>C7 E k f (xs.map (F5 st.T st.L)) st
 | .aO x xs=>match F5 st.T st.L x with
  | .func f first caps=>C7 E k f (first++xs.map (F5 st.T st.L)++caps) st
  |_=>none
 | .dD kk m key v=>T5 E k kk st (F5 st.T st.L m) (F5 st.T st.L key) (F5 st.T st.L v)
 | .defer x=>match F5 st.T st.L x with
  | .func f _ _=>if E.idle f then some (put st k .any) else none
  |_=>none
 |_=>none
def q9.E2:q9->Bool
 | .alloc _=>true
 | .box _=>true
 | .makeMap=>true
 | .p8 _ _ _ _ b=>b
 | .store .. =>true
 | .append .. =>true
 | .call .. =>true
 | .aO .. =>true
 | .dD .. =>true
 | .clear .. =>true
 | .defer _=>true
 |_=>false
def F3 (st:E5)(k:Nat):Option Nat->Option E5
 |none=>some st
 |some s =>
  if s<st.T.length then
   some { (D7 st (.loc k)).2 with T:=st.T.set s (D7 st (.loc k)).1,n6:= .slot s::st.n6 }
  else none
def W5 (st:E5)(k:Nat):Option Nat->Option E5
 |none=>some st
 |some s =>
  if s<st.T.length&&st.n6.any (Touch.R9 s) then
   some { (D7 st (.loc k)).2 with T:=st.T.set s (D7 st (.loc k)).1 }
  else none
def q8 (u5:Option Nat)(st:E5)(k:Nat)(dst:Option Nat):Option E5 :=
 match u5 with
 |none=>F3 st k dst
 |some _=>W5 st k dst
def y4 (L:List b6):Option (Nat×Bool)->Option Bool
 |none=>some true
 |some (j,want)=>match L[j]? with
  |some (.d (.bool b))=>some (b==want)
  |some (.tuple [])=>some false
  |_=>none
def D6 (E:Env)(j4:List n8)(u5:Option Nat)(k:Nat)(op:q9)(st:E5):Option (E5×List Nat) :=
 if op.E2 then
  match E6 E j4 u5 k st op with
  |some st' =>some (st',[])
  |none=>none
 else
  match op with
  | .O3 x=>some (put (D7 st x).2 k (D7 st x).1,[])
  |op=>match m6 (F5 st.T st.L) st.H op with
   |some (v,rs)=>some (put st k v,rs)
   |none=>none
def y6 (E:Env)(j4:List n8)(u5:Option Nat)(k:Nat)(i:n8)(st:E5):Option (E5×List Nat) :=
 match y4 st.L i.guard with
 |some true =>
  match D6 E j4 u5 k i.op st with
  |some (st',rs)=>match q8 u5 st' k i.dst with
   |some aB=>some (aB,rs)
   |none=>none
  |none=>none
 |some false=>match q8 u5 (put st k (.tuple [])) k i.dst with
  |some aB=>some (aB,[])
  |none=>none
 |none=>none
def dH (E:Env)(j4:List n8):List n8->Nat->E5->Option E5
 |[],_,st=>some st
 |i::is,k,st=>match y6 E j4 none k i st with
  |some (st',_)=>dH E j4 is (k+1) st'
  |none=>none
def q9.z8:q9->Bool
 | .alloc _=>true
 | .box _=>true
 | .makeMap=>true
 | .p8 _ _ _ _ ob=>ob
 | .append _ _ ob _ _=>ob
 |_=>false
def J6 (hs:List Touch)(rs:List Nat):Bool:=hs.any fun t=>rs.any fun id=>t.K4 id
structure ju where
 reads:List Nat
 EB:List Touch
 Dj:Nat
 id:Nat
def M3 (E:Env)(st:E5):q9->Nat
 | .call f xs=>if E.prom f then st.H.length else I4 st.H E.lim.strict 8 (A4 (xs.map (F5 st.T st.L)))
 | .aO x xs=>match F5 st.T st.L x with
  | .func f first caps=>if E.prom f then st.H.length else I4 st.H E.lim.strict 8 (A4 (first++xs.map (F5 st.T st.L)++caps))
  |_=>0
 |_=>0
def F4 (st:E5):q9->Bool
 | .append _ _ _ x _=>match F5 st.T st.L x with
  | .D4 _ _ _ _=>true
  |_=>false
 |_=>false
def kO:Option Nat->List Touch
 |some n=>[.obj n]
 |none=>[]
def cP (E:Env)(i:n8)(u5:Option Nat)(st st' :E5)(rs:List Nat):ju :=
 ⟨rs,kO u5++st'.n6.take (st'.n6.length - st.n6.length),M3 E st i.op,u5.getD 0⟩
def calm (st:E5)(op:q9)(a:n8):Bool:=match op,a.op with
 | .append _ _ _ x _,.O3 (.slot s)=>a.dst.isNone&&a.guard.isNone&&(match F5 st.T st.L x,st.T[s]? with
  | .D4 id _ _ _,some (.ptr j _)=> !r9 j id
  |_,_=>false)
 |_,_=>false
def iQ (E:Env)(j4:List n8)(u5:Option Nat)(k:Nat)(i:n8)(st:E5):Option (E5×ju) :=
 if F4 st i.op&&j4.any (fun a=>a.cg.contains k&& !calm st i.op a) then none else
 match y6 E j4 u5 k i st with
 |some (st',rs)=>some (st',cP E i u5 st st' rs)
 |none=>none
def Q8 (E:Env)(j4:List n8):List n8->Nat->Nat->E5->Option (E5×List ju)
 |[],_,_,st=>some (st,[])
 |i::is,k,na,st=>match iQ E j4 (if i.op.z8 then some na else none) k i st with
  |some (st',l) =>
   match Q8 E j4 is (k+1) (if i.op.z8 then na+1 else na) st' with
   |some (aB,lg)=>some (aB,l::lg)
   |none=>none
  |none=>none
def uv (j4:List n8)(lg:List ju):Bool :=
 (j4.zip lg).all fun (i,l)=>i.cg.all fun e=>match lg[e]? with
  |some le=> !J6 le.EB l.reads&&(!i.op.z8||decide (le.Dj<=l.id))
  |none=>false
def Z1 (j4:List n8):o6:=(j4.filter (·.op.z8)).map fun _=> .dead
def slotsOf (j4:List n8):List Touch:=j4.filterMap fun i=>if i.op.z8 then i.dst.map .slot else none
def P6 (E:Env)(j4:List n8)(draw:Bool)(T:List b6)(H:o6):Option E5 :=
 if draw then
  match Q8 E j4 j4 0 H.length ⟨T,H++Z1 j4,c9 j4.length .any,slotsOf j4⟩ with
  |some (st,lg)=>if uv j4 lg then some st else none
  |none=>none
 else dH E j4 j4 0 ⟨T,H,c9 j4.length .any,[]⟩
inductive E4 where
 |normal
 |exit (id:Nat)
 |ret
 deriving Inhabited
structure St where
 T:List b6
 H:o6
def V0:List Bool->List b6->List b6
 |true::m,v::vs=>v::V0 m vs
 |false::m,_::vs=> .any::V0 m vs
 |[],_::vs=> .any::V0 [] vs
 |_,[]=>[]
def clean (mask:List Bool)(strict n:Nat)(st:St):St :=
 if A4 (V0 mask st.T)<=n/\Y6 ((st.H.take n).drop strict)<=n then ⟨V0 mask st.T,st.H.take n⟩ else ⟨V0 mask st.T,st.H⟩
def fm (body:St->Option (E4×St))(mask:List Bool)(strict n:Nat):Nat->St->Option (E4×St)
 |0,_=>none
 |k+1,st=>match body (clean mask strict n st) with
  |some (.normal,st')=>fm body mask strict n k st'
  |r=>r
def ep:List b6->Nat->Option (Nat×Nat×Nat×Nat×Nat)
 |[],_=>none
 | .D4 id sz lo len::_,i=>some (i,id,sz,lo,len)
 |_::r,i=>ep r (i+1)
def Ic (lim:G9)(entry s:Nat)(st:St):Option St :=
 match st.T[s]? with
 |some (.ptr b 0)=>match st.H[b]? with
  |some (.cells cs)=>match ep cs 0 with
   |some (i,id,sz,lo,len)=>match rd st.H id lo (len * sz) with
    |some vs=>match N9 vs with
     |some xs =>
      if lim.base<=id/\entry<=id/\lim.may id=true/\lim.base<=b/\id≠b then
       some ⟨G5 id st.T,((st.H.take lim.base++(st.H.drop lim.base).map (y7.kill id)).set id .dead).set b (.cells ((G5 id cs).set i (.d (.slice len xs))))⟩
      else none
     |none=>none
    |none=>none
   |none=>none
  |_=>none
 |_=>none
def exec (E:Env)(lim:Nat):o8->St->Option (E4×St)
 | .skip,st=>some (.normal,st)
 | .region ops draw,st=>match P6 E ops draw st.T st.H with
  |some r=>some (.normal,⟨r.T,r.H⟩)
  |none=>none
 | .seq a b,st=>match exec E lim a st with
  |some (.normal,st')=>exec E lim b st'
  |r=>r
 | .cond c a b,st=>match F5 st.T [] c with
  | .d (.bool true)=>exec E lim a st
  | .d (.bool false)=>exec E lim b st
  |_=>none
 | .test ops draw c a b,st=>match P6 E ops draw st.T st.H with
  |some r=>match F5 r.T r.L c with
   | .d (.bool true)=>exec E lim a ⟨r.T,r.H⟩
   | .d (.bool false)=>exec E lim b ⟨r.T,r.H⟩
   |_=>none
  |none=>none
 | .block id body,st=>match exec E lim body st with
  |some (.exit id',st')=>if id' =id then some (.normal,st') else some (.exit id',st')
  |r=>r
 | .loop mask body,st=>fm (exec E lim body) mask E.lim.strict st.H.length lim st
 | .exit id,st=>some (.exit id,st)
 | .ret,st=>some (.ret,st)
 | .fz s,st=>match Ic E.lim E.entry s st with
  |some st' =>some (.normal,st')
  |none=>none
 | .bad,_=>none
def kQ (T:List b6)(H:o6):zT->Option b6
 | .slot s=>T[s]?
 | .cell s none=>match T[s]? with
  |some (.ptr id off)=>match rd H id off 1 with
   |some [v]=>some v.G4
   |_=>none
  |_=>none
 | .cell s (some n)=>match T[s]? with
  |some (.ptr id off)=>match rd H id off n with
   |some vs=>some (.agg (vs.map b6.G4))
   |none=>none
  |_=>none
def cu (T:List b6)(H:o6):List zT->Option (List b6)
 |[]=>some []
 |r::rs=>match kQ T H r with
  |some v=>match cu T H rs with
   |some vs=>some (v::vs)
   |none=>none
  |none=>none
def b8:List b6->b6
 |[v]=>v
 |vs=> .tuple (vs.map b6.G4)
def bV (H:o6)(n:Nat):Nat->List b6->Option (List b6)
 |0,_=>none
 |_+1,[]=>some []
 |fuel+1,v::vs =>
  match bV H n fuel vs with
  |none=>none
  |some ws =>
   match v with
   | .D4 id sz lo len =>
    if id<n then some (.D4 id sz lo len::ws) else
    match rd H id lo (len * sz) with
    |some us=>match bV H n fuel us with
     |some us' =>match N9 us' with
      |some xs=>some (.d (.slice len xs)::ws)
      |none=>none
     |none=>none
    |none=>none
   | .agg l=>match bV H n fuel l with
    |some l' =>some (.agg l' ::ws)
    |none=>none
   | .tuple l=>match bV H n fuel l with
    |some l' =>some (.tuple l' ::ws)
    |none=>none
   |v=>some (v::ws)
structure Prog where
 fn:FuncId->Option p7
 idle:FuncId->Bool
 mode:FuncId->Nat
 gS:FuncId->Option (List b6->o6->G9->Option (b6×o6))
def Prog.prom (A:Prog)(f:FuncId):Bool:=match A.fn f with
 |some af=>af.aA
 |none=>false
def finish (aA:Bool)(n:Nat)(vs:List b6)(H:o6):Option (b6×o6) :=
 if aA then some (b8 vs,H) else
 match bV H n 1000 [b8 vs] with
 |some [v]=>if v.N4<=n then some (v,H.take n) else none
 |_=>none
def gF (A:Prog)(cf:qp)(lim:Nat)(af:p7)(args:List b6)(H:o6)(l:G9):Option (b6×o6) :=
 if args.length=af.nparams then
  match exec ⟨cf,A.prom,A.mode,A.idle,l,H.length⟩ lim af.body ⟨args++c9 (af.names.length - args.length) .any,H⟩ with
  |some (.exit _,_)=>none
  |some (_,st) =>
   match cu st.T st.H af.results with
   |some vs=>finish af.aA H.length vs st.H
   |none=>none
  |none=>none
 else none
def call (A:Prog):Nat->qp
 |0=>fun _ _ _ _=>none
 |n+1=>fun f args H l =>
  match A.gS f with
  |some p=>p args H l
  |none=>match A.fn f with
   |some af=>gF A (call A n) n af args H l
   |none=>none
inductive Place where
 |slot (s:Nat)
 |loc (j:Nat)
 |cell (id off:Nat)
 |none
 |ret
 deriving DecidableEq
inductive Mr where
 |free
 |kJ
 |held (n:Nat)
 |obj (id:Nat)
 |grow (n:Nat) (pl:Place)
 deriving DecidableEq
abbrev Gh:=Nat->Mr
abbrev T0:=Nat->Nat×Nat
def jq (G:Gh)(b o:Nat):Prop :=
 match G b with
 | .kJ=>True
 | .held n=>o<n
 | .grow n _=>o<n
 |_=>False
abbrev ad (b o:Nat):Addr:=⟨b,o,Option.none⟩
mutual
def DR (G:Gh)(w:World):Data->Value->Prop
 | .bool b,v=>v= .bool b
 | .int k n,v=>v= .int k n
 | .str s,v=>v= .string ⟨s.toArray⟩
 | .slice len cells,v=>((v= .slice Option.none 0 0\/∃ a,v= .slice (some a) 0 0)/\len=0/\cells=[]) \/
   ∃ b o cap,v= .slice (some (ad b o)) len cap/\len<=cap/\fH G w b o cells
 | .cD,v=>v= .pointer Option.none
 | .O8,v=>v= .nilFunc
 | .eD,v=>v= .map Option.none
 | .nilIface,v=>v= .nilIface
def fH (G:Gh)(w:World)(b:Nat):Nat->List Data->Prop
 |_,[]=>True
 |o,c::cs=>jq G b o/\(∃ x,w.cell? (ad b o)=some x/\DR G w c x)/\fH G w b (o+1) cs
end
def HG (f:Nat×Nat)(n:Nat):Prop:=∀ o,o<n->¬ (f.1<=o/\o<f.2)
mutual
def VR (G:Gh)(I:T0)(N:Nat->Prop)(w:World):Place->b6->Value->Prop
 |_,.any,_=>True
 |_,.d x,v=>DR G w x v
 |_,.ptr id off,v=>N id/\v= .pointer (some (ad (I id).1 ((I id).2+off)))
 |_,.Q5 cells,v=>∃ b o,v= .pointer (some (ad b o))/\fH G w b o cells
 |_,.D4 id sz lo len,v=>N id/\∃ cap,v= .slice (some (ad (I id).1 ((I id).2+lo))) len cap/\len<=cap /\
   ∃ c e f,w.heap[(I id).1]? =some (.cells c e f)/\(I id).2+lo+cap * sz<=c.size
 |pl,.own sz len cells,v=>cells.length=len * sz /\
   (((v= .slice Option.none 0 0\/∃ b o,v= .slice (some (ad b o)) 0 0)/\len=0) \/
    (pl≠ .none/\∃ b o cap c e f,v= .slice (some (ad b o)) len cap/\len<=cap/\w.heap[b]? =some (.cells c e f)/\o+cap * sz<=c.size/\HG f c.size /\
     G b= .grow (o+len * sz) pl/\fH G w b o cells))
 |_,.I8,v=>v= .slice Option.none 0 0
 |_,.agg l,v=>∃ cs:Array Value,v= .agg cs/\I7 G I N w l cs.toList
 |_,.tuple l,v=>∃ cs:Array Value,v= .tuple cs/\I7 G I N w l cs.toList
 |_,.func f a b,v=>∃ x y:Array Value,v= .func (.func f) x y/\I7 G I N w a x.toList/\I7 G I N w b y.toList
 |_,.map id,v=>N id/\v= .map (some (I id).1)
def I7 (G:Gh)(I:T0)(N:Nat->Prop)(w:World):List b6->List Value->Prop
 |[],vs=>vs=[]
 |a::as,vs=>∃ x xs,vs=x::xs/\VR G I N w .none a x/\I7 G I N w as xs
end
def KD.val:KD->Value
 | .i k n=> .int k n
 | .s x=> .string ⟨x.toArray⟩
 | .b t=> .bool t
def Key.val:Key->Value
 | .int k n=> .int k n
 | .str x=> .string ⟨x.toArray⟩
 | .bool t=> .bool t
 | .st l=> .agg (l.map KD.val).toArray
def ER (G:Gh)(I:T0)(N:Nat->Prop)(w:World):List (Key×b6)->List MapEntry->Prop
 |[],es=>es=[]
 |(k,v)::r,es=>∃ e es',es=e::es' /\e.key=k.val/\VR G I N w .none v e.val/\ER G I N w r es'
def OR (G:Gh)(I:T0)(N:Nat->Prop)(w:World)(id:Nat):y7->Prop
 | .dead=>True
 | .cells l=>N id/\∃ c e f,w.heap[(I id).1]? =some (.cells c e f)/\G (I id).1= .obj id/\HG f c.size/\(I id).2+l.length<=c.size /\
   ∀ i x,l[i]? =some x->∃ v,c[(I id).2+i]? =some v/\VR G I N w (.cell id i) x v
 | .map es=>N id/\∃ arr My,w.heap[(I id).1]? =some (.map arr My)/\G (I id).1= .obj id/\ER G I N w es arr.toList
def HR (G:Gh)(I:T0)(N:Nat->Prop)(w:World)(H:o6):Prop:=∀ id o,H[id]? =some o->OR G I N w id o
def WF (G:Gh)(w:World):Prop:=∀ b,w.heap.size<=b->G b= .free
structure Sub (G:Gh)(w:World)(G' :Gh)(w' :World):Prop where
 kJ:∀ b o:Nat,jq G b o->jq G' b o/\w'.cell? (ad b o)=w.cell? (ad b o)
 shape:∀ (b:Nat) (c:Array Value) (e:TypeId) (f:Nat×Nat),w.heap[b]? =some (Obj.cells c e f)->∃ c' :Array Value,w'.heap[b]? =some (Obj.cells c' e f)/\c'.size=c.size
structure Ext (G:Gh)(w:World)(G' :Gh)(w' :World):Prop where
 os:w'.os=w.os
 tape:w'.tape=w.tape
 output:w'.output=w.output
 size:w.heap.size<=w'.heap.size
 kJ:∀ b o:Nat,jq G b o->jq G' b o/\w'.cell? (ad b o)=w.cell? (ad b o)
 still:∀ b:Nat,(G b= .kJ\/∃ n,G b= .held n)->G' b=G b/\w'.heap[b]? =w.heap[b]?
 shape:∀ (b:Nat) (c:Array Value) (e:TypeId) (f:Nat×Nat),w.heap[b]? =some (Obj.cells c e f)->∃ c' :Array Value,w'.heap[b]? =some (Obj.cells c' e f)/\c'.size=c.size
theorem Ext.sub {G:Gh}{w:World}{G' :Gh}{w' :World}(h:Ext G w G' w'):Sub G w G' w' :=⟨h.kJ,h.shape⟩
instance {G:Gh} {w:World} {G' :Gh} {w' :World}:CoeOut (Ext G w G' w') (Sub G w G' w'):=⟨Ext.sub⟩
theorem Ext.refl (G:Gh)(w:World):Ext G w G w :=
 ⟨rfl,rfl,rfl,n5 _,fun _ _ h=>⟨h,rfl⟩,fun _ _=>⟨rfl,rfl⟩,fun _ c _ _ h=>⟨c,h,rfl⟩⟩
theorem Ext.trans {G:Gh}{w:World}{G1:Gh}{w1:World}{G2:Gh}{w2:World}(h:Ext G w G1 w1)(k:Ext G1 w1 G2 w2):Ext G w G2 w2 where
 os:=k.os.trans h.os
 tape:=k.tape.trans h.tape
 output:=k.output.trans h.output
 size:=Nat.le_trans h.size k.size
 kJ b o hi:=by
  obtain ⟨a1,a2⟩:=h.kJ b o hi;obtain ⟨b1,b2⟩:=k.kJ b o a1;exact ⟨b1,b2.trans a2⟩
 still b hb:=by
  obtain ⟨a1,a2⟩:=h.still b hb;obtain ⟨b1,b2⟩:=k.still b (by rw [a1];exact hb);exact ⟨b1.trans a1,b2.trans a2⟩
 shape b c e f hc:=by
  obtain ⟨c1,h1,s1⟩:=h.shape b c e f hc;obtain ⟨c2,h2,s2⟩:=k.shape b c1 e f h1;exact ⟨c2,h2,s2.trans s1⟩
theorem Ext.drew {G:Gh}{w:World}{G' :Gh}{w' :World}(h:Ext G w G' w')(n:Nat):Ext G w G' { w' with drawn:=n } :=
 ⟨h.os,h.tape,h.output,h.size,h.kJ,h.still,h.shape⟩
mutual
theorem DR.mono {G:Gh}{w:World}{G' :Gh}{w' :World}
  (h:∀ b o,jq G b o->jq G' b o/\w'.cell? (ad b o)=w.cell? (ad b o)):∀ (d:Data) (v:Value),DR G w d v->DR G' w' d v
 | .bool _,_,hd=>by simpa [DR] using hd
 | .int _ _,_,hd=>by simpa [DR] using hd
 | .str _,_,hd=>by simpa [DR] using hd
 | .slice _ cells,_,hd=>by
  simp only [DR] at hd ⊢
  rcases hd with hd|⟨b,o,cap,h1,h2,h3⟩
  ·exact Or.inl hd
  ·exact Or.inr ⟨b,o,cap,h1,h2,fH.mono h b o cells h3⟩
 | .cD,_,hd=>by simpa [DR] using hd
 | .O8,_,hd=>by simpa [DR] using hd
 | .eD,_,hd=>by simpa [DR] using hd
 | .nilIface,_,hd=>by simpa [DR] using hd
theorem fH.mono {G:Gh}{w:World}{G' :Gh}{w' :World}
  (h:∀ b o,jq G b o->jq G' b o/\w'.cell? (ad b o)=w.cell? (ad b o)) (b:Nat):∀ (o:Nat) (l:List Data),fH G w b o l->fH G' w' b o l
 |_,[],_=>by simp [fH]
 |o,c::cs,hd=>by
  simp only [fH] at hd ⊢;obtain ⟨h1,⟨x,h2,h3⟩,h4⟩:=hd;obtain ⟨i1,i2⟩:=h b o h1;exact ⟨i1,⟨x,i2.trans h2,DR.mono h c x h3⟩,fH.mono h b (o+1) cs h4⟩
end
def aR (pl:Place)(G:Gh)(w:World)(G' :Gh)(w' :World):Prop :=
 ∀ b n,G b= .grow n pl->G' b= .grow n pl/\w'.heap[b]? =w.heap[b]?
mutual
theorem VR.mono {G:Gh}{I:T0}{N:Nat->Prop}{w:World}{G' :Gh}{I' :T0}{N' :Nat->Prop}{w' :World}(hx:Sub G w G' w')
  (hI:∀ id,N id->I' id=I id) (hN:∀ id,N id->N' id):∀ (pl:Place) (a:b6) (v:Value),(pl= .none\/aR pl G w G' w')->VR G I N w pl a v->VR G' I' N' w' pl a v
 |_,.any,_,_,_=>by simp [VR]
 |_,.d x,v,_,h=>by simp only [VR] at h ⊢;exact DR.mono hx.kJ x v h
 |_,.ptr id off,v,_,h=>by
  simp only [VR] at h ⊢;exact ⟨hN id h.1,by rw [hI id h.1];exact h.2⟩
 |_,.Q5 cells,v,_,h=>by
  simp only [VR] at h ⊢;obtain ⟨b,o,h1,h2⟩:=h;exact ⟨b,o,h1,fH.mono hx.kJ b o cells h2⟩
 |_,.D4 id sz lo len,v,_,h=>by
  simp only [VR] at h ⊢;obtain ⟨h1,cap,h2,h3,c,e,f,h4,h5⟩:=h;obtain ⟨c',g1,g2⟩:=hx.shape _ c e f h4;exact ⟨hN id h1,cap,by rw [hI id h1];exact h2,h3,c',e,f,by rw [hI id h1];exact g1,by rw [hI id h1,g2];exact h5⟩
 |pl,.own sz len cells,v,hk,h=>by
  simp only [VR] at h ⊢;obtain ⟨h0,h⟩:=h;refine ⟨h0,?_⟩
  rcases h with h|⟨hp,b,o,cap,c,e,f,h1,h2,h3,h4,h5,h6,h7⟩
  ·exact Or.inl h
  ·rcases hk with hk|hk
   ·exact absurd hk hp
   ·obtain ⟨k1,k2⟩:=hk b _ h6
    exact Or.inr ⟨hp,b,o,cap,c,e,f,h1,h2,k2.trans h3,h4,h5,k1,fH.mono hx.kJ b o cells h7⟩
 |_,.I8,v,_,h=>by simp only [VR] at h ⊢;exact h
 |_,.agg l,v,_,h=>by
  simp only [VR] at h ⊢;obtain ⟨cs,h1,h2⟩:=h;exact ⟨cs,h1,I7.mono hx hI hN l _ h2⟩
 |_,.tuple l,v,_,h=>by
  simp only [VR] at h ⊢;obtain ⟨cs,h1,h2⟩:=h;exact ⟨cs,h1,I7.mono hx hI hN l _ h2⟩
 |_,.func f a b,v,_,h=>by
  simp only [VR] at h ⊢;obtain ⟨x,y,h1,h2,h3⟩:=h;exact ⟨x,y,h1,I7.mono hx hI hN a _ h2,I7.mono hx hI hN b _ h3⟩
 |_,.map id,v,_,h=>by
  simp only [VR] at h ⊢;exact ⟨hN id h.1,by rw [hI id h.1];exact h.2⟩
theorem I7.mono {G:Gh}{I:T0}{N:Nat->Prop}{w:World}{G' :Gh}{I' :T0}{N' :Nat->Prop}{w' :World}(hx:Sub G w G' w')
  (hI:∀ id,N id->I' id=I id) (hN:∀ id,N id->N' id):∀ (l:List b6) (vs:List Value),I7 G I N w l vs->I7 G' I' N' w' l vs
 |[],_,h=>by simpa [I7] using h
 |a::as,vs,h=>by
  simp only [I7] at h ⊢;obtain ⟨x,xs,h1,h2,h3⟩:=h;exact ⟨x,xs,h1,VR.mono hx hI hN .none a x (Or.inl rfl) h2,I7.mono hx hI hN as xs h3⟩
end
theorem ER.mono {G:Gh}{I:T0}{N:Nat->Prop}{w:World}{G' :Gh}{I' :T0}{N' :Nat->Prop}{w' :World}(hx:Sub G w G' w')
  (hI:∀ id,N id->I' id=I id) (hN:∀ id,N id->N' id):∀ (l:List (Key×b6)) (es:List MapEntry),ER G I N w l es->ER G' I' N' w' l es
 |[],_,h=>by simpa [ER] using h
 |(k,v)::r,es,h=>by
  simp only [ER] at h ⊢;obtain ⟨e,es',h1,h2,h3,h4⟩:=h;exact ⟨e,es',h1,h2,VR.mono hx hI hN .none _ _ (Or.inl rfl) h3,ER.mono hx hI hN r es' h4⟩
theorem OR.mono {G:Gh}{I:T0}{N:Nat->Prop}{w:World}{G' :Gh}{I' :T0}{N' :Nat->Prop}{w' :World}(hx:Sub G w G' w')
  (hI:∀ id,N id->I' id=I id) (hN:∀ id,N id->N' id) (id:Nat) (o:y7)
  (hb:G (I id).1= .obj id->G' (I id).1= .obj id/\w'.heap[(I id).1]? =w.heap[(I id).1]?)
  (hc:∀ off,aR (.cell id off) G w G' w') (h:OR G I N w id o):OR G' I' N' w' id o:=by
 cases o with
 |dead=>simp [OR]
 |cells l =>
  simp only [OR] at h ⊢;obtain ⟨hid,c,e,f,h1,h2,h3,h4,h5⟩:=h;obtain ⟨k1,k2⟩:=hb h2;refine ⟨hN id hid,c,e,f,?_,?_,h3,?_,fun i x hx' => ?_⟩
  ·rw [hI id hid,k2];exact h1
  ·rw [hI id hid];exact k1
  ·rw [hI id hid];exact h4
  ·obtain ⟨v,g1,g2⟩:=h5 i x hx'
   exact ⟨v,by rw [hI id hid];exact g1,VR.mono hx hI hN _ x v (Or.inr (hc i)) g2⟩
 |map es =>
  simp only [OR] at h ⊢;obtain ⟨hid,arr,My,h1,h2,h3⟩:=h;obtain ⟨k1,k2⟩:=hb h2;exact ⟨hN id hid,arr,My,by rw [hI id hid,k2];exact h1,by rw [hI id hid];exact k1,ER.mono hx hI hN es _ h3⟩
theorem VR.G4 {G:Gh}{I:T0}{N:Nat->Prop}{w:World}{pl vv :Place}:∀ {a:b6} {v:Value},VR G I N w pl a v->VR G I N w vv a.G4 v
 | .any,_,_=>by simp [b6.G4,VR]
 | .d _,_,h=>by simpa [b6.G4,VR] using h
 | .ptr _ _,_,h=>by simpa [b6.G4,VR] using h
 | .Q5 _,_,h=>by simpa [b6.G4,VR] using h
 | .D4 _ _ _ _,_,h=>by simpa [b6.G4,VR] using h
 | .own sz len cells,v,h=>by
  simp only [b6.G4,VR,DR] at h ⊢;obtain ⟨h0,h⟩:=h
  rcases h with ⟨h1,h2⟩|⟨hp,b,o,cap,c,e,f,h1,h2,h3,h4,h5,h6,h7⟩
  ·subst h2
   have hc:cells=[]:=by simpa using h0
   subst hc
   rcases h1 with h1|⟨b,o,h1⟩
   ·exact Or.inl ⟨Or.inl h1,rfl,rfl⟩
   ·exact Or.inr ⟨b,o,0,h1,n5 _,by simp [fH]⟩
  ·exact Or.inr ⟨b,o,cap,h1,h2,h7⟩
 | .I8,v,h=>by
  simp only [b6.G4,VR,DR] at h ⊢;exact Or.inl ⟨Or.inl h,trivial,trivial⟩
 | .agg _,_,h=>by simpa [b6.G4,VR] using h
 | .tuple _,_,h=>by simpa [b6.G4,VR] using h
 | .func _ _ _,_,h=>by simpa [b6.G4,VR] using h
 | .map _,_,h=>by simpa [b6.G4,VR] using h
theorem VR.NP {G:Gh}{I:T0}{N:Nat->Prop}{w:World}{pl vv :Place}{a:b6}{v:Value}(h:VR G I N w pl a v):VR G I N w vv a.NP v:=by
 cases a
 case I8=>simpa only [b6.NP,VR] using h
 all_goals exact h.G4
theorem Ou {u:b6}(h:u.G4=u):u.NP=u:=by
 cases u
 case I8=>simp [b6.G4] at h
 all_goals exact h
def Cu:Value->b6->Bool
 |_,.any=>true
 | .bool b,.d (.bool c)=>b==c
 | .int k n,.d (.int k' n')=>k==k' &&n==n'
 | .string s,.d (.str l)=>s.data.toList==l
 | .slice Option.none 0 0,.own _ 0 []=>true
 | .slice Option.none 0 0,.I8=>true
 | .slice Option.none 0 0,.d (.slice 0 [])=>true
 | .pointer Option.none,.d .cD=>true
 | .map Option.none,.d .eD=>true
 | .nilFunc,.d .O8=>true
 | .nilIface,.d .nilIface=>true
 |_,_=>false
def consts:List Value->List b6->Bool
 |[],[]=>true
 |v::vs,a::as=>Cu v a&&consts vs as
 |_,_=>false
def vK:Value->b6->Bool
 | .agg cs,.agg l=>consts cs.toList l
 |v,a=>Cu v a
structure Cx where
 P:Program
 names:List Tmp
 ops:Array Oper
def Cx.ck (X:Cx)(D:Nat->Bool):Operand->q7->Bool
 | .tmp t,.slot s=>X.names[s]? ==some t
 | .tmp t,.loc j=>D j&&((X.ops[j]?).bind (·.dst))==some t&& !X.names.contains t
 | .const v,.const a=>vK v a
 | .func f,.const (.func g [] [])=>f==g
 |_,.const .any=>true
 |_,_=>false
def Oo (ck:Operand->q7->Bool):List Operand->List q7->Bool
 |[],[]=>true
 |x::xs,y::ys=>ck x y&&Oo ck xs ys
 |_,_=>false
def Su (ck:Operand->q7->Bool):Option Operand->Option q7->Bool
 |none,none=>true
 |some x,some y=>ck x y
 |_,_=>false
def eB (P:Program)(t:TypeId):Option Bool :=
 match P.underlying t with
 |some (.struct _)=>some true
 |some (.array _ _)=>some true
 |some _=>some false
 |none=>none
def pX (P:Program)(t:TypeId):Option Nat->Bool
 |none=>eB P t==some false
 |some n=>eB P t==some true&&P.cellsOf t==n&&decide (0<n)
def mJ (P:Program)(t:TypeId)(sz:Nat):Bool :=
 match P.underlying t with
 |some (.slice e)=>P.cellsOf e==sz&&(P.info? e).isSome
 |_=>false
def eo (P:Program)(t:TypeId):CK->Bool
 | .i=>match P.underlying t with
  |some (.int _)=>true
  |_=>false
 | .s=>match P.underlying t with
  |some .string=>true
  |_=>false
 | .b=>match P.underlying t with
  |some .bool=>true
  |_=>false
def aq (P:Program):List Field->Nat->List CK->Bool
 |[],_,[]=>true
 | f :: fs, n, k :: ks => f.name != "_" && eo P f.type k && f.offset == n && aq P fs (n + 1) ks
 |_,_,_=>false
def cy (P:Program)(t:TypeId)(ks:List CK):Bool :=
 match P.underlying t with
 |some (.struct fs)=>aq P fs.toList 0 ks&& !P.stoodInHeld t&& !P.eqGuardType P.depth t
 |_=>false
def tC (P:Program)(t:TypeId):KK->Bool
 | .i=>eo P t .i
 | .s=>eo P t .s
 | .b=>eo P t .b
 | .st ks=>cy P t ks
def iL (P:Program)(ck:Operand->q7->Bool)(place:Nat->Option (Nat×Nat)):List (Nat×Operand)->List (Nat×Nat×q7)->Bool
 |[],[]=>true
 |(i,x)::r,(off,sz,y)::q=>place i==some (off,sz)&&ck x y&&iL P ck place r q
 |_,_=>false
def uj (P:Program)(fs:List Field):Option (List (Nat×Nat)):=fs.mapM fun f=>(P.info? f.type).map fun i=>(f.offset,i.size)
def zh (P:Program)(t:TypeId)(l:List b6):Bool :=
 match P.info? t with
 |some i=>match i.zero with
  |some z=>consts z.cells.toList l
  |none=>false
 |none=>false
def A7 (P:Program)(ck:Operand->q7->Bool)(o:Oper)(op:q9):Bool :=
 match o.op,op with
 | .pick c a b,.pick c' a' b' =>ck c c' &&ck a a' &&ck b b'
 | .load t x,.load n y=>ck x y&&pX P t n
 | .nilCheck x,.X6 y=>ck x y
 | .binOp b _ x y _,.bin b' x' y' =>b==b' &&ck x x' &&ck y y'
 | .binOp b t x (.const (.slice Option.none 0 0)) _,.CR neg x' =>ck x x' &&(match P.underlying t with|some (.slice _)=>true|_=>false)&&(if neg then b== .neq else b== .eql)
 | .binOp b t x (.const .nilIface) _,.Ix neg x' =>ck x x' &&(match P.underlying t with|some (.interface _)=>true|_=>false)&&(if neg then b== .neq else b== .eql)
 | .binOp b t x y _,.o9 neg x' y' =>ck x x' &&ck y y' &&(match P.underlying t with|some .bool=>true|_=>false)&&(if neg then b== .neq else b== .eql)
 | .binOp b t x y _,.NQ neg ks x' y' =>ck x x' &&ck y y' &&cy P t ks&&(if neg then b== .neq else b== .eql)
 | .unOp b _ x,.un b' x' =>b==b' &&ck x x'
 | .convert s d x,.kY k y=>ck x y&&(P.underlying s).isSome&&(match P.underlying d with|some (.int k')=>k==k' |_=>false)
 | .convert s d x,.pG y=>ck x y&&(P.underlying s).isSome&&(match P.underlying d with|some .string=>true|_=>false)
 | .convert s d x,.je y=>ck x y&&(match P.underlying s with|some (.slice e)=>(match P.underlying e with|some (.int .u8)=>true|_=>false)|_=>false)&&(match P.underlying d with|some .string=>true|_=>false)
 | .slice t x lo hi none,.qe y lo' hi' =>ck x y&&Su ck lo lo' &&Su ck hi hi' &&(match P.underlying t with|some .string=>true|_=>false)
 | .slice t x lo hi none,.aN sz y lo' hi' =>ck x y&&Su ck lo lo' &&Su ck hi hi' &&mJ P t sz&&decide (0<sz)
 | .fieldAddr s x f,.off k y=>ck x y&&(match P.underlying s with
  |some (.struct fs)=>(match fs[f]? with
   |some fd=>fd.offset==k&&decide (0<P.cellsOf fd.type)
   |none=>false)
  |_=>false)
 | .indexAddr t x i,.C4 sz y j=>ck x y&&ck i j&&mJ P t sz
 | .indexAddr t x i,.gb n sz y j=>ck x y&&ck i j&&(match P.underlying t with|some (.array m e)=>m==n&&P.cellsOf e==sz&&(P.info? e).isSome|_=>false)
 | .index t x i,.C0 y j=>ck x y&&ck i j&&(match P.underlying t with|some .string=>true|_=>false)
 | .extract x i,.extract y j=>ck x y&&i==j
 | .call { callee:= .builtin .len,args,argTypes },.len y=>(match args[0]?,argTypes[0]? with
  |some x,some t=>ck x y&&(match P.underlying t with|some (.slice _)=>true|_=>false)
  |_,_=>false)
 | .call { callee:= .builtin .len,args,argTypes },.U9 y=>(match args[0]?,argTypes[0]? with
  |some x,some t=>ck x y&&(match P.underlying t with|some .string=>true|_=>false)
  |_,_=>false)
 | .call { callee:= .builtin .len,args,argTypes },.CL y=>(match args[0]?,argTypes[0]? with
  |some x,some t=>ck x y&&(match P.underlying t with|some (.map _ _)=>true|_=>false)
  |_,_=>false)
 | .call { callee:= .builtin .max,args,.. },.fM true ys=>Oo ck args.toList ys&&decide (2<=ys.length)
 | .call { callee:= .builtin .min,args,.. },.fM false ys=>Oo ck args.toList ys&&decide (2<=ys.length)
 | .makeFunc (.func f) first caps,.Y8 g first' ad4 =>f==g&&Oo ck first.toList first' &&Oo ck caps.toList ad4
 | .lookup t m k ok,.lookup kk zero PK m' k' =>ok==PK &&ck m m' &&ck k k' &&(match P.underlying t with
  |some (.map kt et)=>tC P kt kk&&(match P.info? et with
   |some i=>(match i.zero with
    |some z=>vK z zero
    |none=>false)
   |none=>false)
  |_=>false)
 | .build t parts,.build zero ps=>(match P.underlying t with
  |some (.struct fs)=>(match uj P fs.toList with
   |some places=>zh P t zero&&iL P ck (fun i=>places[i]?) parts.toList ps
   |none=>false)
  |some (.array _ e)=>(match P.info? e with
   |some i=>zh P t zero&&iL P ck (fun j=>some (j * i.size,i.size)) parts.toList ps
   |none=>false)
  |_=>false)
 |_,_=>false
theorem qG {G:Gh}{I:T0}{N:Nat->Prop}{w:World}:∀ (v:Value) (a:b6),Cu v a=true->VR G I N w .none a v:=by
 intro v a h;unfold Cu at h;split at h
 all_goals first
  |(simp [VR];done)
  |(exfalso;simp at h;done)
  |(simp only [VR,DR];done)
  |(simp only [VR,DR];simp_all;done)
  |skip
 ·rename_i s l
  simp only [VR,DR];have:s.data.toList=l:=by simpa using h
  subst this;simp
theorem di {G:Gh}{I:T0}{N:Nat->Prop}{w:World}:∀ (vs:List Value) (l:List b6),consts vs l=true->I7 G I N w l vs
 |[],[],_=>by simp [I7]
 |v::vs,a::as,h=>by
  simp only [consts,b5] at h;simp only [I7];exact ⟨v,vs,rfl,qG v a h.1,di vs as h.2⟩
 |[],_::_,h=>by simp [consts] at h
 |_::_,[],h=>by simp [consts] at h
theorem bS {G:Gh}{I:T0}{N:Nat->Prop}{w:World}(v:Value)(a:b6)(h:vK v a=true):VR G I N w .none a v:=by
 unfold vK at h;split at h
 ·rename_i cs l
  simp only [VR];exact ⟨cs,rfl,di _ _ h⟩
 ·exact qG _ _ h
theorem T8 {w:World}{b:Nat}{c:Array Value}{e:TypeId}{f:Nat×Nat}(h:w.heap[b]? =some (.cells c e f))(o:Nat):w.cell? (ad b o)=c[o]? :=by
 simp [World.cell?,h]
theorem ak (b o n:Nat):(ad b o).add n=ad b (o+n):=by
 unfold Addr.add;split
 ·subst_vars;rfl
 ·rfl
theorem fH.drop {G:Gh}{w:World}{b:Nat}:∀ (n o:Nat) (l:List Data),fH G w b o l->fH G w b (o+n) (l.drop n)
 |0,_,_,h=>by simpa using h
 |n+1,o,[],_=>by simp [fH]
 |n+1,o,c::cs,h=>by
  simp only [fH] at h;have:=fH.drop n (o+1) cs h.2.2;rw [List.drop_succ_cons,show o+(n+1)=o+1+n from by omega];exact this
theorem fH.take {G:Gh}{w:World}{b:Nat}:∀ (n o:Nat) (l:List Data),fH G w b o l->fH G w b o (l.take n)
 |0,_,_,_=>by simp [fH]
 |n+1,o,[],_=>by simp [fH]
 |n+1,o,c::cs,h=>by
  simp only [fH] at h;rw [List.take_succ_cons];simp only [fH];exact ⟨h.1,h.2.1,fH.take n (o+1) cs h.2.2⟩
theorem fH.vals {G:Gh}{I:T0}{N:Nat->Prop}{w:World}{b:Nat}:∀ (o:Nat) (l:List Data),fH G w b o l ->
  ∃ vs:List Value,vs.length=l.length/\(∀ j v,vs[j]? =some v->w.cell? (ad b (o+j))=some v)/\I7 G I N w (l.map .d) vs
 |_,[],_=>⟨[],rfl,by simp,by simp [I7]⟩
 |o,c::cs,h=>by
  simp only [fH] at h;obtain ⟨h1,⟨x,h2,h3⟩,h4⟩:=h;obtain ⟨vs,g1,g2,g3⟩:=fH.vals (I:=I) (N:=N) (o+1) cs h4;refine ⟨x::vs,by simp [g1],fun j v hj=> ?_,?_⟩
  ·cases j with
   |zero=>simp at hj;subst hj;exact h2
   |succ j =>
    simp at hj;have:=g2 j v hj;rw [show o+(j+1)=o+1+j from by omega];exact this
  ·simp only [List.map_cons,I7]
   exact ⟨x,vs,rfl,by simpa [VR] using h3,g3⟩
theorem I7.length {G:Gh}{I:T0}{N:Nat->Prop}{w:World}:∀ (l:List b6) (vs:List Value),I7 G I N w l vs->vs.length=l.length
 |[],vs,h=>by simp [I7] at h;simp [h]
 |a::as,vs,h=>by
  simp only [I7] at h;obtain ⟨x,xs,h1,_,h3⟩:=h;subst h1;simp [I7.length as xs h3]
theorem HR.rd {G:Gh}{I:T0}{N:Nat->Prop}{w:World}{H:o6}(hH:HR G I N w H){id off n:Nat}{vs:List b6}(h:rd H id off n=some vs)(hn:0<n) :
  N id/\∃ xs:List Value,xs.length=n/\vs.length=n/\(∀ j v,xs[j]? =some v->w.cell? (ad (I id).1 ((I id).2+off+j))=some v) /\
   (∀ j a v,vs[j]? =some a->xs[j]? =some v->VR G I N w (.cell id (off+j)) a v):=by
 unfold y3.rd at h;split at h
 ·rename_i l hl
  split at h
  ·rename_i hlen
   cases h;have ho:=hH id _ hl;simp only [OR] at ho;obtain ⟨hid,c,e,f,h1,h2,h3,h4,h5⟩:=ho
   ·refine ⟨hid,(List.range n).map (fun j=>(c[(I id).2+off+j]?).getD default),by simp,by simp;omega,fun j v hj=> ?_,fun j a v ha hv=> ?_⟩
    ·rw [T8 h1]
     have hjn:j<n:=by
      rcases u9 j n with h|h
      ·exact h
      ·simp [h] at hj
     simp [hjn] at hj;have hlt:(I id).2+off+j<c.size:=by omega
     simp [hlt] at hj ⊢;exact hj
    ·have hjn:j<n:=by
      rcases u9 j n with h|h
      ·exact h
      ·simp [h] at hv
     have hla:l[off+j]? =some a:=by
      rw [List.getElem?_take_of_lt hjn,List.getElem?_drop] at ha;exact ha
     obtain ⟨u,g1,g2⟩:=h5 (off+j) a hla;simp [hjn] at hv;have e1:(I id).2+(off+j)=(I id).2+off+j:=by omega
     rw [e1] at g1;rw [g1] at hv;simp at hv;subst hv;exact g2
  ·cases h
 ·cases h
section
variable {P:Program} {w:World}
theorem info_of_underlying {t:TypeId}{d:TypeDesc}(h:P.underlying t=some d):(P.info? t).isSome=true:=by
 grind [Program.underlying]
theorem run_sizeOf {t:TypeId}(h:(P.info? t).isSome=true):(sizeOf t).run P w= .ok (P.cellsOf t) w:=by
 cases hi:P.info? t with
 |none=>simp_all
 |some i=>simp [sizeOf,typeInfo,hi,Program.cellsOf]
theorem cS {t:TypeId}{b:Bool}(h:eB P t=some b):(isAgg t).run P w= .ok b w:=by
 unfold eB at h;cases hu:P.underlying t with
 |none=>simp_all
 |some d=>cases d<;>simp [hu] at h<;>subst h<;>simp [isAgg,run_underlying hu]
theorem gM {t:TypeId}{sz:Nat}(h:mJ P t sz=true):∃ e,P.underlying t=some (.slice e)/\P.cellsOf e=sz/\(P.info? e).isSome=true:=by
 grind [mJ]
theorem Q3 {G:Gh}{I:T0}{N:Nat->Prop}:∀ (l:List b6) (xs:List Value),xs.length=l.length ->
  (∀ (j:Nat) a v,l[j]? =some a->xs[j]? =some v->VR G I N w .none a v)->I7 G I N w l xs
 |[],xs,h,_=>by simp_all [I7]
 |a::as,[],h,_=>by simp at h
 |a::as,x::xs,h,hp=>by
  exact ⟨x,xs,rfl,hp 0 a x rfl rfl,Q3 as xs (by simpa using h) fun j a' v ha hv=>hp (j+1) a' v (by simp_all) (by simp_all)⟩
theorem I7.get {G:Gh}{I:T0}{N:Nat->Prop}:∀ (l:List b6) (xs:List Value),I7 G I N w l xs->∀ (j:Nat) a,l[j]? =some a->∃ v,xs[j]? =some v/\VR G I N w .none a v
 |[],_,_,_,_,h=>by simp at h
 |a::as,xs,h,j,b,hb=>by
  obtain ⟨x,xs',h1,h2,h3⟩:=h;subst h1;cases j with
  |zero=>simp at hb;subst hb;exact ⟨x,rfl,h2⟩
  |succ j=>simpa using I7.get as xs' h3 j b (by simpa using hb)
theorem VR.place {G:Gh}{I:T0}{N:Nat->Prop}{a:b6}{x:Value}{pl:Place}(h:VR G I N w .none a x):VR G I N w pl a x:=by
 cases a with
 |own sz len cells =>
  simp_all [VR,absurd]
 |_=>simp_all [VR]
variable {ck:Operand->q7->Bool} {η:Operand->Value} {ρ:q7->b6} {G:Gh} {I:T0} {N:Nat->Prop} {H:o6}
abbrev Good (P:Program)(G:Gh)(I:T0)(N:Nat->Prop)(w:World)(η:Operand->Value)(o:Oper)(v:b6):Prop :=
 ∃ x,(execOp η o).run P w= .ok (.value x) w/\VR G I N w .none v x
abbrev aL (ck:Operand->q7->Bool)(G:Gh)(I:T0)(N:Nat->Prop)(w:World)(η:Operand->Value)(ρ:q7->b6):Prop :=
 ∀ x y,ck x y=true->VR G I N w .none (ρ y) (η x)
theorem Nn (hρ:aL ck G I N w η ρ){o:Oper}{c a b:q7}(hc:A7 P ck o (.pick c a b)=true){v:b6}{rs:List Nat}
  (h:m6 ρ H (.pick c a b)=some (v,rs)):Good P G I N w η o v:=by
 obtain ⟨dst,ct,ty,pos,after,guard⟩:=o;cases ct<;>simp [A7] at hc;rename_i c' a' b';have h1:=hρ _ _ hc.1.1;have h2:=hρ _ _ hc.1.2;have h3:=hρ _ _ hc.2;simp only [m6] at h;split at h
 ·rename_i t ht
  simp at h;obtain ⟨rfl,rfl⟩:=h;rw [ht] at h1;simp only [VR,DR] at h1;refine ⟨if t then η a' else η b',by simp [execOp,h1,asBool],?_⟩;cases t<;>simpa
 ·cases h
theorem Nj (hρ:aL ck G I N w η ρ)(hH:HR G I N w H){o:Oper}{n:Option Nat}{y:q7}(hc:A7 P ck o (.load n y)=true){v:b6}{rs:List Nat}
  (h:m6 ρ H (.load n y)=some (v,rs)):Good P G I N w η o v:=by
 obtain ⟨dst,ct,ty,pos,after,guard⟩:=o;cases ct<;>simp [A7] at hc;rename_i t x;have h1:=hρ _ _ hc.1;cases n with
 |none =>
  have ha:eB P t=some false:=by simp_all [pX]
  simp [m6] at h;split at h
  ·rename_i id off hp
   rw [hp] at h1;simp [VR] at h1;split at h
   ·rename_i u hu
    obtain ⟨rfl,rfl⟩:=h;obtain ⟨_,xs,g1,_,g3,g4⟩:=hH.rd hu (by omega);obtain ⟨z,rfl⟩:∃ z,xs=[z]:=by
     match xs,g1 with
     |[z],_=>simp_all
    have hz:=g3 0 z rfl;have hv:=g4 0 u z rfl rfl;refine ⟨z,?_,hv.G4⟩;simp_all [execOp,Instr.loadAt,Instr.sureAddr,loadVar,cS]
   ·cases h
  ·rename_i c cs hp
   obtain ⟨rfl,rfl⟩:=h;rw [hp] at h1;obtain ⟨b,off,g1,_,⟨z,g2,g3⟩,_⟩:=h1;refine ⟨z,?_,by simp_all [VR]⟩;simp_all [execOp,Instr.loadAt,Instr.sureAddr,loadVar,cS]
  ·cases h
 |some n =>
  have ha:eB P t=some true/\P.cellsOf t=n/\0<n:=by simp_all [pX,and_assoc]
  have hs:(sizeOf t).run P w= .ok n w:=by
   grind [run_sizeOf,eB,info_of_underlying]
  simp [m6] at h;split at h
  ·rename_i id off hp
   rw [hp] at h1;simp [VR] at h1;split at h
   ·rename_i us hu
    obtain ⟨rfl,rfl⟩:=h;obtain ⟨_,xs,g1,g2,g3,g4⟩:=hH.rd hu (by omega);have hl:=run_loadCells_list (P:=P) w (ad (I id).1 ((I id).2+off)) xs (fun j v hj=>by simp_all [ak]);refine ⟨.agg xs.toArray,?_,?_⟩
    ·simp_all [execOp,Instr.loadAt,Instr.sureAddr,loadVar,cS]
    ·refine ⟨_,rfl,Q3 _ _ (by simp [g1,g2]) fun j a v hj hv=> ?_⟩
     simp at hj hv;obtain ⟨a',Zl,rfl⟩:=hj;exact (g4 j a' v Zl hv).G4
   ·cases h
  ·rename_i cells hp
   split at h
   ·obtain ⟨rfl,rfl⟩:=h
    rw [hp] at h1;obtain ⟨b,off,g1,g2⟩:=h1;obtain ⟨xs,e1,e2,e3⟩:=fH.vals (I:=I) (N:=N) off _ (fH.take n off cells g2);have e1' :xs.length=n:=by simp_all
    have hl:=run_loadCells_list (P:=P) w (ad b off) xs (fun j v hj=>by simp_all [ak]);refine ⟨.agg xs.toArray,?_,?_⟩
    all_goals simp_all [execOp,Instr.loadAt,Instr.sureAddr,loadVar,cS,VR]
   ·cases h
  ·cases h
theorem IE (hρ:aL ck G I N w η ρ){o:Oper}{y:q7}(hc:A7 P ck o (.X6 y)=true){v:b6}{rs:List Nat}
  (h:m6 ρ H (.X6 y)=some (v,rs)):Good P G I N w η o v:=by
 obtain ⟨dst,ct,ty,pos,after,guard⟩:=o;cases ct<;>simp [A7] at hc;rename_i x;have h1:=hρ _ _ hc;simp [m6] at h;split at h
 ·rename_i id off hp
  obtain ⟨rfl,rfl⟩:=h;rw [hp] at h1;have h2:=h1;exact ⟨η x,by simp [execOp,h1.2],h2⟩
 ·rename_i cells hp
  obtain ⟨rfl,rfl⟩:=h;rw [hp] at h1;have h2:=h1;obtain ⟨b,off,g1,g2⟩:=h1;exact ⟨η x,by simp [execOp,g1],h2⟩
 ·rename_i f a b hp
  obtain ⟨rfl,rfl⟩:=h;rw [hp] at h1;have h2:=h1;obtain ⟨x',y',g1,g2,g3⟩:=h1;exact ⟨η x,by simp [execOp,g1],h2⟩
 ·cases h
def Data.val:Data->Value
 | .bool b=> .bool b
 | .int k n=> .int k n
 | .str s=> .string ⟨s.toArray⟩
 | .cD=> .pointer Option.none
 | .O8=> .nilFunc
 | .eD=> .map Option.none
 | .nilIface=> .nilIface
 | .slice _ _=> .slice Option.none 0 0
theorem zX {b:BinOp}{x y r:Data}(h:M5 b x y=some r){u v:Value}(hu:DR G w x u)(hv:DR G w y v)(t:TypeId)(p q:Operand) :
  ∃ z,(do eqGuard b t p q u v;binOp b t u v).run P w= .ok z w/\DR G w r z:=by
 refine ⟨Data.val r,?_⟩;unfold M5 at h;split at h
 ·rename_i k a k' c
  subst hu hv;have hg:(eqGuard b t p q (.int k a) (.int k' c)).run P w= .ok () w:=by simp_all [eqGuard]
  split at h
  ·rename_i hsh
   unfold wG at h;split at h
   ·cases h
   ·rename_i hneg
    cases b<;>simp [X4] at hsh<;>simp at h<;>subst h <;>
     exact ⟨by simp [hg,binOp,Op.shift,hneg,Data.val],by rfl⟩
  ·rename_i hsh
   split at h
   ·rename_i hk
    unfold aS at h;cases b<;>simp  at hsh<;>simp at h
    all_goals first
     |(subst h;simp_all [binOp,Op.intArith,Op.intCmp,Op.intBits,Data.val,DR])
     |(obtain ⟨h0,rfl⟩:=h;simp_all [binOp,Op.intDiv,Data.val,DR])
   ·cases h
 ·rename_i a c
  subst hu hv;have hg:(eqGuard b t p q (.string ⟨a.toArray⟩) (.string ⟨c.toArray⟩)).run P w= .ok () w:=by simp_all [eqGuard]
  unfold sY at h;cases b<;>simp at h
  all_goals first
   |(subst h;simp_all [binOp,Op.stringOp,Data.val,DR])
   |skip
  obtain ⟨h0,rfl⟩:=h;have ae7:(⟨a.toArray⟩++⟨c.toArray⟩:ByteArray)=⟨(a++c).toArray⟩:=by
   rfl
  refine ⟨?_,by rfl⟩
  ·have hs:¬ (((⟨a.toArray⟩:ByteArray).size+(⟨c.toArray⟩:ByteArray).size:Nat):Int)>IntKind.i64.max:=by
    simp_all [ByteArray.size]<;>omega
   simp_all [Sem.run_bind,Result.andThen_ok,binOp,Op.stringOp,if_neg,Sem.run_pure,Data.val]
 ·cases h
theorem Qo (hρ:aL ck G I N w η ρ){o:Oper}{b:BinOp}{x y:q7}(hc:A7 P ck o (.bin b x y)=true){v:b6}{rs:List Nat}
  (h:m6 ρ H (.bin b x y)=some (v,rs)):Good P G I N w η o v:=by
 obtain ⟨dst,ct,ty,pos,after,guard⟩:=o;cases ct<;>simp [A7] at hc;rename_i b' t x' y' ty';obtain ⟨⟨rfl,hx⟩,hy⟩:=hc;have h1:=hρ _ _ hx;have h2:=hρ _ _ hy;simp [m6] at h;split at h
 ·rename_i a c ha uk
  rw [ha] at h1;rw [uk] at h2;split at h
  ·rename_i r hr
   obtain ⟨rfl,rfl⟩:=h;obtain ⟨z,g1,g2⟩:=zX (P:=P) hr h1 h2 t x' y';exact ⟨z,by simp only [execOp];rw [Sem.run_bind,g1];rfl,by simp_all [VR]⟩
  ·cases h
 ·cases h
theorem qM (d:Nat){t e:TypeId}(he:P.underlying t=some (.slice e))(a:Addr)(l c:Nat):(Op.equalIn (d+1) t (.slice (some a) l c) (.slice Option.none 0 0)).run P w= .ok false w:=by
 simp [Op.equalIn,run_underlying he]
theorem vj {t e:TypeId}(he:P.underlying t=some (.slice e))(a:Addr)(l c:Nat):(Op.equal t (.slice (some a) l c) (.slice Option.none 0 0)).run P w= .ok false w:=qM 9999 he a l c
theorem vi (d:Nat){t:TypeId}{ms:Array (String×TypeId)}(he:P.underlying t=some (.interface ms)):(Op.equalIn (d+1) t .nilIface .nilIface).run P w= .ok true w:=by
 simp [Op.equalIn,run_underlying he]
theorem oF {t:TypeId}{ms:Array (String×TypeId)}(he:P.underlying t=some (.interface ms)):(Op.equal t .nilIface .nilIface).run P w= .ok true w:=vi 9999 he
theorem CB (d:Nat){t:TypeId}(he:P.underlying t=some .bool)(a b:Bool):(Op.equalIn (d+1) t (.bool a) (.bool b)).run P w= .ok (a==b) w:=by
 simp [Op.equalIn,run_underlying he]
theorem HX {t:TypeId}(he:P.underlying t=some .bool)(a b:Bool):(Op.equal t (.bool a) (.bool b)).run P w= .ok (a==b) w:=CB 9999 he a b
theorem Nl (Vf:∀ v,η (.const v)=v)(hρ:aL ck G I N w η ρ){o:Oper}{neg:Bool}{x:q7}(hc:A7 P ck o (.CR neg x)=true){v:b6}{rs:List Nat}
  (h:m6 ρ H (.CR neg x)=some (v,rs)):Good P G I N w η o v:=by
 obtain ⟨dst,ct,ty,pos,after,guard⟩:=o;unfold A7 at hc;split at hc<;>try (cases hc)
 all_goals rename_i fK dX
 all_goals cases dX
 all_goals subst fK
 rename_i b t x' ty';simp [b5] at hc;obtain ⟨⟨hx,ht⟩,hb⟩:=hc;obtain ⟨e,he⟩:∃ e,P.underlying t=some (.slice e):=by
  grind
 have key:∃ a l c,η x' = .slice (some a) l c/\v= .d (.bool neg):=by
  simp [m6] at h
  ·grind [VR,DR]
  all_goals grind [VR]
 obtain ⟨a,l,c,hx',rfl⟩:=key;refine ⟨.bool neg,?_,by simp [VR,DR]⟩;simp [execOp,hx',Vf];cases neg<;>simp at hb<;>subst hb<;>simp [eqGuard,binOp]<;>simp [vj he]
theorem Nk (Vf:∀ v,η (.const v)=v)(hρ:aL ck G I N w η ρ){o:Oper}{neg:Bool}{x:q7}(hc:A7 P ck o (.Ix neg x)=true){v:b6}{rs:List Nat}
  (h:m6 ρ H (.Ix neg x)=some (v,rs)):Good P G I N w η o v:=by
 obtain ⟨dst,ct,ty,pos,after,guard⟩:=o;unfold A7 at hc;split at hc<;>try (cases hc)
 all_goals rename_i fK dX
 all_goals cases dX
 all_goals subst fK
 rename_i b t x' ty';simp [b5] at hc;obtain ⟨⟨hx,ht⟩,hb⟩:=hc;have h1:=hρ _ _ hx;obtain ⟨e,he⟩:∃ e,P.underlying t=some (.interface e):=by
  grind
 simp [m6] at h;split at h
 ·rename_i hp
  obtain ⟨rfl,rfl⟩:=h;rw [hp] at h1;simp [VR,DR] at h1;refine ⟨.bool (!neg),?_,by simp [VR,DR]⟩;simp [execOp,h1,Vf];cases neg<;>simp at hb<;>subst hb<;>simp [eqGuard,binOp]<;>simp [oF he]
 ·cases h
theorem Qp (hρ:aL ck G I N w η ρ){o:Oper}{neg:Bool}{x y:q7}(hc:A7 P ck o (.o9 neg x y)=true){v:b6}{rs:List Nat}
  (h:m6 ρ H (.o9 neg x y)=some (v,rs)):Good P G I N w η o v:=by
 obtain ⟨dst,ct,ty,pos,after,guard⟩:=o;cases ct<;>simp [A7] at hc<;>try simp_all
 rename_i b t x' y' ty';obtain ⟨⟨⟨hx,hy⟩,ht⟩,hb⟩:=hc;have h1:=hρ _ _ hx;have h2:=hρ _ _ hy;have he:P.underlying t=some .bool:=by
  grind
 simp [m6] at h;split at h
 ·rename_i a c ha uk
  obtain ⟨rfl,rfl⟩:=h;rw [ha] at h1;rw [uk] at h2;simp [VR,DR] at h1 h2;refine ⟨.bool (neg != (a==c)),?_,by simp [VR,DR]⟩;simp [execOp,h1,h2];cases neg<;>simp at hb<;>subst hb<;>simp [eqGuard,binOp]<;>simp [HX he]
 ·cases h
theorem MW {t:TypeId}{k:CK}(h:eo P t k=true):eB P t=some false:=by
 simp_all [eB,eo]<;>grind
theorem run_part_plain {t:TypeId}{k:CK}(h:eo P t k=true)(cs:Array Value)(off:Nat)(v:Value)(hv:cs[off]? =some v):(part t cs off).run P w= .ok v w:=by
 simp [part,cS (MW h),hv]
theorem Co {k:CK}{a b:Data}{r:Bool}(h:Data.Cn k a b=some r){u v:Value}(hu:DR G w a u)(hv:DR G w b v){t:TypeId}(ht:eo P t k=true)(d:Nat) :
  (Op.equalIn (d+1) t u v).run P w= .ok r w:=by
 unfold Data.Cn at h;split at h
 ·subst hu hv
  split at h
  ·rename_i hkk
   subst hkk;simp at h;subst h;simp [eo] at ht;split at ht
   ·rename_i k2 hk2;simp [Op.equalIn,run_underlying hk2]
   ·cases ht
  ·cases h
 ·subst hu hv
  simp at h;subst h;simp [eo] at ht;split at ht
  ·rename_i h2;simp [Op.equalIn,run_underlying h2,beq_toListBytes]
  ·cases ht
 ·subst hu hv
  simp at h;subst h;simp [eo] at ht;split at ht
  ·rename_i h2;simp [Op.equalIn,run_underlying h2]
  ·cases ht
 ·cases h
theorem jg (d:Nat)(xs ys:Array Value):∀ (fs:List Field) (n:Nat) (ks:List CK) (a b:List b6) (r:Bool),aq P fs n ks=true->V1 ks a b=some r ->
  (∀ (j:Nat) c,a[j]? =some c->∃ v,xs[n+j]? =some v/\VR G I N w .none c v)->(∀ (j:Nat) c,b[j]? =some c->∃ v,ys[n+j]? =some v/\VR G I N w .none c v) ->
  (Op.eqFields (d+1) xs ys fs).run P w= .ok r w
 |[],n,ks,a,b,r,hf,hc,_,_=>by
  cases ks with
  |nil =>
   unfold V1 at hc;simp_all [Op.eqFields]<;>grind
  |cons=>simp [aq] at hf
 |f::fs,n,[],a,b,r,hf,hc,_,_=>by simp [aq] at hf
 |f::fs,n,k::ks,a,b,r,hf,hc,ha,hb=>by
  simp [aq,b5,beq_iff_eq] at hf;obtain ⟨⟨⟨h1,h2⟩,h3⟩,h4⟩:=hf;unfold V1 at hc;split at hc
  ·simp_all
  ·rename_i k0 ks0 x a' y b' e1
   cases e1;split at hc
   ·rename_i t ht
    split at hc
    ·rename_i u hu
     obtain ⟨v1,g1,g2⟩:=ha 0 _ rfl;obtain ⟨v2,g3,g4⟩:=hb 0 _ rfl;have e1:=run_part_plain (w:=w) h2 xs n v1 g1;have e2:=run_part_plain (w:=w) h2 ys n v2 g3;have e3:=Co (P:=P) ht g2 g4 h2 d;have ih:=jg d xs ys fs (n+1) ks a' b' u h4 hu (fun j c hj=>by rw [show n+1+j=n+(j+1) from by omega];simp_all)
      (fun j c hj=>by rw [show n+1+j=n+(j+1) from by omega];simp_all)
     simp_all [Op.eqFields]<;>grind
    ·cases hc
   ·cases hc
  ·cases hc
theorem Qq (hρ:aL ck G I N w η ρ){o:Oper}{neg:Bool}{ks:List CK}{x y:q7}(hc:A7 P ck o (.NQ neg ks x y)=true){v:b6}{rs:List Nat}
  (h:m6 ρ H (.NQ neg ks x y)=some (v,rs)):Good P G I N w η o v:=by
 obtain ⟨dst,ct,ty,pos,after,guard⟩:=o;cases ct<;>simp [A7] at hc<;>try simp_all
 rename_i b t x' y' ty';obtain ⟨⟨⟨hx,hy⟩,ht⟩,hb⟩:=hc;have h1:=hρ _ _ hx;have h2:=hρ _ _ hy;unfold cy at ht;split at ht
 ·rename_i fs hfs
  simp [b5,j5] at ht;simp [m6] at h;split at h
  ·rename_i a c ha uk
   split at h
   ·rename_i r hr
    obtain ⟨rfl,rfl⟩:=h;rw [ha] at h1;rw [uk] at h2;obtain ⟨xs,e1,e2⟩:=h1;obtain ⟨ys,e3,e4⟩:=h2;have hff:P.fieldsOf t=fs:=by simp [Program.fieldsOf,hfs]
    have heq:=run_equalIn_struct (P:=P) w 9999 t xs ys (by simp_all) ht.1.2;rw [hff,jg (P:=P) (G:=G) (I:=I) (N:=N) 9998 xs ys fs.toList 0 ks a c r ht.1.1 hr
     (fun j u hu=>by grind [I7.get])
     (fun j u hu=>by grind [I7.get])] at heq
    refine ⟨.bool (neg != r),?_,by simp [VR,DR]⟩;simp [execOp,e1,e3,Sem.run_bind,run_eqGuard_agg w b t x' y' xs ys ht.2];cases neg<;>simp at hb<;>subst hb
    all_goals simp_all [run_eql_struct,run_neq_struct]
   ·cases h
  ·cases h
 ·cases ht
end
section
variable {P:Program} {w:World} {ck:Operand->q7->Bool} {η:Operand->Value} {ρ:q7->b6} {G:Gh} {I:T0} {N:Nat->Prop} {H:o6}
theorem TR (hρ:aL ck G I N w η ρ){o:Oper}{b:UnOp}{x:q7}(hc:A7 P ck o (.un b x)=true){v:b6}{rs:List Nat}
  (h:m6 ρ H (.un b x)=some (v,rs)):Good P G I N w η o v:=by
 obtain ⟨dst,ct,ty,pos,after,guard⟩:=o;cases ct<;>simp [A7] at hc;rename_i b' t x';obtain ⟨rfl,hx⟩:=hc;have h1:=hρ _ _ hx;simp [m6] at h;split at h
 ·rename_i a ha
  rw [ha] at h1;simp [VR] at h1;split at h
  ·rename_i r hr
   obtain ⟨rfl,rfl⟩:=h;refine ⟨Data.val r,?_⟩;unfold yU at hr;split at hr
   ·simp [DR] at h1
    cases b' <;>simp at hr;subst hr;simp [execOp,h1,Op.unary,Op.intArith,Data.val,VR,DR]
   ·simp [DR] at h1
    cases b' <;>simp at hr;subst hr;simp [execOp,h1,Op.unary,Data.val,VR,DR]
   ·cases hr
  ·cases h
 ·cases h
theorem ID (hρ:aL ck G I N w η ρ){o:Oper}{k:IntKind}{x:q7}(hc:A7 P ck o (.kY k x)=true){v:b6}{rs:List Nat}
  (h:m6 ρ H (.kY k x)=some (v,rs)):Good P G I N w η o v:=by
 obtain ⟨dst,ct,ty,pos,after,guard⟩:=o;cases ct<;>simp [A7] at hc<;>try simp_all
 obtain ⟨⟨hx,hs⟩,hd⟩:=hc;have h1:=hρ _ _ hx;obtain ⟨ds,hds⟩:=Option.isSome_iff_exists.1 hs;split at hd
 ·simp [m6] at h
  split at h
  ·rename_i k2 n ha
   obtain ⟨rfl,rfl⟩:=h;rw [ha] at h1;simp [VR,DR] at h1;refine ⟨.int k (k.wrap n),?_,by simp [VR,DR]⟩;simp_all [execOp,convert,run_underlying,Conv.intToInt]
  ·cases h
 ·cases hd
theorem Fl (hρ:aL ck G I N w η ρ){o:Oper}{x:q7}(hc:A7 P ck o (.pG x)=true){v:b6}{rs:List Nat}
  (h:m6 ρ H (.pG x)=some (v,rs)):Good P G I N w η o v:=by
 obtain ⟨dst,ct,ty,pos,after,guard⟩:=o;cases ct<;>simp [A7] at hc<;>try simp_all
 obtain ⟨⟨hx,hs⟩,hd⟩:=hc;have h1:=hρ _ _ hx;obtain ⟨ds,hds⟩:=Option.isSome_iff_exists.1 hs;split at hd
 ·simp [m6] at h
  split at h
  ·rename_i l ha
   obtain ⟨rfl,rfl⟩:=h;rw [ha] at h1;simp [VR,DR] at h1;refine ⟨.string ⟨l.toArray⟩,?_,by simp [VR,DR]⟩;simp_all [execOp,convert,run_underlying]
  ·cases h
 ·cases hd
theorem wL:∀ (vs:List Value) (l:List Data) (bs:List UInt8),fe l=some bs->I7 G I N w (l.map .d) vs ->
  ∃ ns:List Int,vs=ns.map (Value.int .u8)/\bs=ns.map fun n=>UInt8.ofNat n.toNat
 |vs,[],bs,hb,hv=>by
  simp_all [fe,I7]
 |vs,a::as,bs,hb,hv=>by
  obtain ⟨x,xs,rfl,e2,e3⟩:=hv;unfold fe at hb;split at hb
  ·simp_all
  ·rename_i n r heq
   cases heq;split at hb
   ·rename_i bs' NS
    simp at hb;subst hb;subst e2;obtain ⟨ns,rfl,rfl⟩:=wL xs as bs' NS e3;exact ⟨n::ns,rfl,rfl⟩
   ·cases hb
  ·cases hb
theorem foldl_push:∀ (ns:List Int) (s:ByteArray),(ns.foldl (fun r n=>r.push (UInt8.ofNat n.toNat)) s)=⟨(s.data.toList++ns.map fun n=>UInt8.ofNat n.toNat).toArray⟩
 |[],s=>by simp
 |n::ns,s=>by
  rw [List.foldl_cons,foldl_push ns];simp
theorem Fj (hρ:aL ck G I N w η ρ){o:Oper}{x:q7}(hc:A7 P ck o (.je x)=true){v:b6}{rs:List Nat}
  (h:m6 ρ H (.je x)=some (v,rs)):Good P G I N w η o v:=by
 obtain ⟨dst,ct,ty,pos,after,guard⟩:=o;cases ct<;>simp [A7] at hc<;>try simp_all
 rename_i s d x';obtain ⟨⟨hx,hs⟩,hd⟩:=hc;have h1:=hρ _ _ hx;split at hs
 ·rename_i e he
  split at hs
  ·rename_i hu8
   split at hd
   ·rename_i WZ
    simp [m6] at h;split at h
    ·rename_i len cells ha
     split at h
     ·rename_i hlen
      split at h
      ·rename_i bs NS
       obtain ⟨rfl,rfl⟩:=h;rw [ha] at h1;refine ⟨.string ⟨bs.toArray⟩,?_,by simp [VR,DR]⟩
       rcases h1 with ⟨h1,h2,h3⟩|⟨b,off,cap,h1,h2,h3⟩
       ·subst h3
        simp [fe] at NS;subst NS
        rcases h1 with h1|⟨a0,h1⟩
        ·simp [execOp,h1,convert,run_underlying he,run_underlying WZ,run_underlying hu8]
         rfl
        ·have hl:(loadCells a0 0).run P w= .ok (([]:List Int).map (Value.int .u8)).toArray w:=by rfl
         simp [execOp,h1,Sem.run_bind,run_convert_bytes_string w s d e _ _ _ he hu8 WZ];rfl
       ·obtain ⟨vs,g1,g2,g3⟩:=fH.vals (I:=I) (N:=N) off cells h3
        have hl:=run_loadCells_list (P:=P) w (ad b off) vs (fun j v hj=>by simp_all [ak]);rw [g1,hlen] at hl;obtain ⟨ns,rfl,rfl⟩:=wL (G:=G) (I:=I) (N:=N) vs cells bs NS g3;simp only [execOp,h1,Sem.run_bind,run_convert_bytes_string w s d e _ _ _ he hu8 WZ,run_bytesToString w (ad b off) len cap ns hl,foldl_push];simp
      ·cases h
     ·cases h
    ·cases h
   ·cases hd
  ·cases hs
 ·cases hs
theorem ua (hρ:aL ck G I N w η ρ){x:Option Operand}{y:Option q7}(hc:Su ck x y=true){d:Nat}{n:Int}(h:U6 ρ d y=some n) :
  (x=none/\n=d)\/∃ x' k,x=some x' /\η x' = .int k n:=by
 cases y with
 |none =>
  grind [U6,Su]
 |some y =>
  cases x with
  |none=>simp [Su] at hc
  |some x =>
   grind [Su,U6,VR,DR]
theorem om (hρ:aL ck G I N w η ρ){lo hi:Option Operand}{lo' hi' :Option q7}(hl:Su ck lo lo' =true)(hh:Su ck hi hi' =true){len cap:Nat}{l h:Int}
  (bl:U6 ρ 0 lo' =some l) (bh:U6 ρ len hi' =some h) (h0:0<=l) (h1:l<=h) (h2:h<=len) (hcap:len<=cap) (b:Bool) :
  (Instr.sliceBounds b len cap (lo.map η) (hi.map η) none).run P w= .ok (l.toNat,h.toNat,cap) w:=by
 rcases ua hρ hl bl with ⟨rfl,rfl⟩|⟨x1,k1,rfl,e1⟩<;>rcases ua hρ hh bh with ⟨rfl,rfl⟩|⟨x2,k2,rfl,e2⟩
 ·rfl
 ·simp_all [Instr.sliceBounds,Instr.sliceBound,asIntOf]<;>omega
 all_goals (simp_all [Instr.sliceBounds,Instr.sliceBound,asIntOf]<;>grind)
theorem Fq (hρ:aL ck G I N w η ρ){o:Oper}{x:q7}{lo hi:Option q7}(hc:A7 P ck o (.qe x lo hi)=true){v:b6}{rs:List Nat}
  (h:m6 ρ H (.qe x lo hi)=some (v,rs)):Good P G I N w η o v:=by
 obtain ⟨dst,ct,ty,pos,after,guard⟩:=o;unfold A7 at hc;split at hc<;>try (cases hc)
 all_goals rename_i fK dX
 all_goals cases dX
 rename_i t x' lo' hi';simp [b5] at hc;obtain ⟨⟨⟨hx,hl⟩,hh⟩,ht⟩:=hc;have h1:=hρ _ _ hx;have hu:P.underlying t=some .string:=by
  grind
 simp [m6] at h;split at h
 ·rename_i s hs
  split at h
  ·rename_i l hi2 bl bh
   split at h
   ·rename_i hb
    obtain ⟨rfl,rfl⟩:=h;rw [hs] at h1;simp [VR,DR] at h1;have hsz:(⟨s.toArray⟩:ByteArray).size=s.length:=by rfl
    have hrb:=om (P:=P) hρ hl hh bl bh hb.1 hb.2.1 hb.2.2 (n5 _) false;refine ⟨.string ((⟨s.toArray⟩:ByteArray).extract l.toNat hi2.toNat),?_,?_⟩
    ·simp_all [execOp,Instr.sliceAt,Sem.run_bind,run_underlying,Result.andThen_ok,Instr.slice]
    ·congr 1
     apply WideShapes.bytes_inj;rw [Lib.extract_data,List.drop_take]
   ·cases h
  ·cases h
 ·cases h
theorem Fs (hρ:aL ck G I N w η ρ){o:Oper}{sz:Nat}{x:q7}{lo hi:Option q7}(hc:A7 P ck o (.aN sz x lo hi)=true){v:b6}{rs:List Nat}
  (h:m6 ρ H (.aN sz x lo hi)=some (v,rs)):Good P G I N w η o v:=by
 obtain ⟨dst,ct,ty,pos,after,guard⟩:=o;unfold A7 at hc;split at hc<;>try (cases hc)
 all_goals rename_i fK dX
 all_goals cases dX
 all_goals subst fK
 rename_i t x' lo' hi';simp only [b5] at hc;obtain ⟨⟨⟨⟨hx,hl⟩,hh⟩,ht⟩,hsz⟩:=hc;have h1:=hρ _ _ hx;obtain ⟨e,hu,OZ,UZ⟩:=gM ht;have hsize:(sizeOf e).run P w= .ok sz w:=by simp_all [run_sizeOf]
 simp [m6] at h;split at h
 ·rename_i len cells hs
  split at h
  ·rename_i l hi2 bl bh
   split at h
   ·rename_i hb
    obtain ⟨rfl,rfl⟩:=h;rw [hs] at h1
    rcases h1 with ⟨h1,h2,h3⟩|⟨b,off,cap,h1,h2,h3⟩
    ·subst h2 h3
     have hrb:=om (P:=P) hρ hl hh bl bh hb.1 hb.2.1 hb.2.2.1 (n5 0) true;have hl0:l=0:=by omega
     have hh0:hi2=0:=by omega
     subst hl0 hh0
     rcases h1 with h1|⟨a0,h1⟩
     ·refine ⟨.slice none 0 0,?_,by simp [VR,DR]⟩
      simp only [execOp,h1,Instr.sliceAt,Sem.run_bind,run_underlying hu,Result.andThen_ok,Instr.slice];simp_all
     ·refine ⟨.slice (some a0) 0 0,?_,by simp [VR,DR]⟩
      simp only [execOp,h1,Instr.sliceAt,Sem.run_bind,run_underlying hu,Result.andThen_ok,Instr.slice];simp_all
    ·have hrb:=om (P:=P) hρ hl hh bl bh hb.1 hb.2.1 hb.2.2.1 h2 true
     refine ⟨.slice (if cap=l.toNat then some (ad b off) else (some (ad b off)).map (·.add (l.toNat * sz))) (hi2.toNat - l.toNat) (cap - l.toNat),?_,?_⟩
     ·simp only [execOp,h1,Instr.sliceAt,Sem.run_bind,run_underlying hu,Result.andThen_ok,Instr.slice]
      simp_all
     ·simp only [VR,DR]
      have e1:(hi2 - l).toNat=hi2.toNat - l.toNat:=by omega
      by_cases hcl:cap=l.toNat
      ·grind
      ·refine Or.inr ⟨b,off+l.toNat * sz,cap - l.toNat,?_,by omega,fH.drop _ _ _ (fH.take _ _ _ h3)⟩
       simp_all [if_neg,ak]
   ·cases h
  ·cases h
 ·rename_i id z a len hs
  split at h
  ·rename_i l hi2 bl bh
   split at h
   ·rename_i hb
    rw [hs] at h1;obtain ⟨g1,cap,g2,g3,c,e',f,g4,g5⟩:=h1;have hrb:=om (P:=P) hρ hl hh bl bh hb.1 hb.2.1 hb.2.2.1 g3 true;have e1:(hi2 - l).toNat=hi2.toNat - l.toNat:=by omega
    have hrun:(execOp η ⟨dst,.slice t x' lo' hi' none,ty,pos,after,guard⟩).run P w =
      .ok (.value (.slice (if cap=l.toNat then some (ad (I id).1 ((I id).2+a)) else (some (ad (I id).1 ((I id).2+a))).map (·.add (l.toNat * sz))) (hi2.toNat - l.toNat) (cap - l.toNat))) w:=by
     simp only [execOp,g2,Instr.sliceAt,Sem.run_bind,run_underlying hu,Result.andThen_ok,Instr.slice];simp_all
    refine ⟨_,hrun,?_⟩;split at h
    ·rename_i hlh
     obtain ⟨rfl,rfl⟩:=h;simp [VR,DR]
     by_cases hcl:cap=l.toNat
     all_goals simp_all [if_pos,Nat.sub_self,fH,if_neg,ak]
    ·obtain ⟨rfl,rfl⟩:=h
     have hcl:¬ cap=l.toNat:=by omega
     refine ⟨g1,cap - l.toNat,?_,by omega,c,e',f,g4,?_⟩
     ·simp_all [if_neg,ak,H9]
     ·have hz:z=sz:=hb.2.2.2
      subst hz;have:cap * z=(cap - l.toNat) * z+l.toNat * z:=by rw [<- Nat.add_mul];grind
      omega
   ·cases h
  ·cases h
 ·cases h
end
section
variable {P:Program} {w:World} {ck:Operand->q7->Bool} {η:Operand->Value} {ρ:q7->b6} {G:Gh} {I:T0} {N:Nat->Prop} {H:o6}
theorem Qs (hρ:aL ck G I N w η ρ){o:Oper}{k:Nat}{x:q7}(hc:A7 P ck o (.off k x)=true){v:b6}{rs:List Nat}
  (h:m6 ρ H (.off k x)=some (v,rs)):Good P G I N w η o v:=by
 obtain ⟨dst,ct,ty,pos,after,guard⟩:=o;cases ct<;>simp [A7] at hc<;>try simp_all
 rename_i s x' f;obtain ⟨hx,hs⟩:=hc;split at hs
 ·split at hs
  ·rename_i fd hfd
   simp [b5,decide_eq_true_eq] at hs;have ag4:(P.info? fd.type).isSome=true:=by
    cases hi:P.info? fd.type with
    |none=>simp_all [Program.cellsOf]
    |some i=>rfl
   have hsz:(sizeOf fd.type).run P w= .ok (P.cellsOf fd.type) w:=run_sizeOf ag4;have hne:¬ P.cellsOf fd.type=0:=by omega
   have hrun:∀ b off,η x' = .pointer (some (ad b off))->(execOp η ⟨dst,.fieldAddr s x' f,ty,pos,after,guard⟩).run P w= .ok (.value (.pointer (some (ad b (off+k))))) w:=by
    simp_all [execOp,Instr.fieldAt,Sem.run_bind,run_underlying,Result.andThen_ok,Instr.sureAddr,Sem.run_pure,fieldPlace,if_neg,ak]
   simp [m6] at h;split at h
   ·grind [VR,H9]
   all_goals grind [VR,fH.drop]
  ·cases hs
 ·cases hs
theorem Nd (hρ:aL ck G I N w η ρ){o:Oper}{sz:Nat}{x i:q7}(hc:A7 P ck o (.C4 sz x i)=true){v:b6}{rs:List Nat}
  (h:m6 ρ H (.C4 sz x i)=some (v,rs)):Good P G I N w η o v:=by
 obtain ⟨dst,ct,ty,pos,after,guard⟩:=o;cases ct<;>simp [A7] at hc<;>try simp_all
 rename_i t x' i';obtain ⟨⟨hx,hi⟩,ht⟩:=hc;have h1:=hρ _ _ hx;have h2:=hρ _ _ hi;obtain ⟨e,hu,OZ,UZ⟩:=gM ht;have hsize:(sizeOf e).run P w= .ok sz w:=by simp_all [run_sizeOf]
 have hrun:∀ (b off len cap:Nat) (k:IntKind) (n:Int),η x' = .slice (some (ad b off)) len cap->η i' = .int k n->0<=n->n<len ->
   (execOp η ⟨dst,.indexAddr t x' i',ty,pos,after,guard⟩).run P w= .ok (.value (.pointer (some (ad b (off+n.toNat * sz))))) w:=by
  intro b off len cap k n e1 e2 e3 e4;have hb:(0<=n/\n<(len:Int)):=⟨e3,e4⟩;simp [execOp,e1,e2,Instr.indexAt,run_underlying hu,asIntOf,hsize,hb,ak]
 simp [m6] at h;split at h
 ·rename_i len cells k n hp hq
  split at h
  ·rename_i hb
   obtain ⟨rfl,rfl⟩:=h;rw [hp] at h1;rw [hq] at h2
   rcases h1 with ⟨_,h0,_⟩|⟨b,off,cap,g1,g2,g3⟩
   ·omega
   ·exact ⟨_,hrun b off len cap k n g1 h2 hb.1 hb.2,by exact ⟨b,_,rfl,fH.drop _ _ _ g3⟩⟩
  ·cases h
 all_goals grind [VR,DR,H9]
theorem Nf (hρ:aL ck G I N w η ρ){o:Oper}{m sz:Nat}{x i:q7}(hc:A7 P ck o (.gb m sz x i)=true){v:b6}{rs:List Nat}
  (h:m6 ρ H (.gb m sz x i)=some (v,rs)):Good P G I N w η o v:=by
 obtain ⟨dst,ct,ty,pos,after,guard⟩:=o;cases ct<;>simp [A7] at hc<;>try simp_all
 rename_i t x' i';obtain ⟨⟨hx,hi⟩,ht⟩:=hc;have h1:=hρ _ _ hx;have h2:=hρ _ _ hi;split at ht
 ·rename_i m' e hu
  simp [b5,beq_iff_eq] at ht;obtain ⟨⟨rfl,OZ⟩,UZ⟩:=ht;have hsize:(sizeOf e).run P w= .ok sz w:=by simp_all [run_sizeOf]
  have hrun:∀ (b off:Nat) (k:IntKind) (n:Int),η x' = .pointer (some (ad b off))->η i' = .int k n->0<=n->n<m' ->
    (execOp η ⟨dst,.indexAddr t x' i',ty,pos,after,guard⟩).run P w= .ok (.value (.pointer (some (ad b (off+n.toNat * sz))))) w:=by
   intro b off k n e1 e2 e3 e4;have hb:(0<=n/\n<(m' :Int)):=⟨e3,e4⟩;simp [execOp,e1,e2,Instr.indexAt,run_underlying hu,asIntOf,hsize,hb,ak,Instr.sureAddr]
  simp [m6] at h;split at h
  ·grind [VR,DR,H9]
  ·rename_i cells k n hp hq
   split at h
   ·rename_i hb
    obtain ⟨rfl,rfl⟩:=h;rw [hp] at h1;rw [hq] at h2;obtain ⟨b,off,g1,g2⟩:=h1;exact ⟨_,hrun _ _ k n g1 h2 hb.1 hb.2,by exact ⟨b,_,rfl,fH.drop _ _ _ g2⟩⟩
   ·cases h
  ·cases h
 ·cases ht
theorem Ng (hρ:aL ck G I N w η ρ){o:Oper}{x i:q7}(hc:A7 P ck o (.C0 x i)=true){v:b6}{rs:List Nat}
  (h:m6 ρ H (.C0 x i)=some (v,rs)):Good P G I N w η o v:=by
 obtain ⟨dst,ct,ty,pos,after,guard⟩:=o;cases ct<;>simp [A7] at hc<;>try simp_all
 obtain ⟨⟨hx,hi⟩,ht⟩:=hc;have h1:=hρ _ _ hx;have h2:=hρ _ _ hi;split at ht
 ·simp [m6] at h
  split at h
  ·rename_i s k n hp hq
   split at h
   ·split at h
    ·rename_i b hb
     obtain ⟨rfl,rfl⟩:=h;rw [hp] at h1;rw [hq] at h2;simp [VR,DR] at h1 h2;refine ⟨.int .u8 b.toNat,?_,by simp [VR,DR]⟩;have hsz:(⟨s.toArray⟩:ByteArray).size=s.length:=by rfl
     have hlt:n.toNat<s.length:=by
      grind
     have hg:(⟨s.toArray⟩:ByteArray)[n.toNat]? =some b:=by
      rw [getElem?_pos _ _ (by omega)];rw [s9 hlt] at hb;simp at hb;subst hb;rfl
     simp_all [execOp,Instr.index,run_underlying,asIntOf]
    ·cases h
   ·cases h
  ·cases h
 ·cases ht
theorem Da (hρ:aL ck G I N w η ρ){o:Oper}{x:q7}{i:Nat}(hc:A7 P ck o (.extract x i)=true){v:b6}{rs:List Nat}
  (h:m6 ρ H (.extract x i)=some (v,rs)):Good P G I N w η o v:=by
 obtain ⟨dst,ct,ty,pos,after,guard⟩:=o;cases ct<;>simp [A7] at hc;rename_i x' i';obtain ⟨hx,rfl⟩:=hc;have h1:=hρ _ _ hx;simp [m6] at h;split at h
 ·rename_i vs hp
  split at h
  ·rename_i u hu
   simp at h;obtain ⟨rfl,rfl⟩:=h;rw [hp] at h1;obtain ⟨cs,g1,g2⟩:=h1;obtain ⟨z,e1,e2⟩:=I7.get vs _ g2 i' u hu;refine ⟨z,?_,e2⟩;simp_all [execOp,Instr.extract]
  ·cases h
 ·cases h
theorem Qr (hρ:aL ck G I N w η ρ){o:Oper}{x:q7}(hc:A7 P ck o (.len x)=true){v:b6}{rs:List Nat}
  (h:m6 ρ H (.len x)=some (v,rs)):Good P G I N w η o v:=by
 obtain ⟨dst,ct,ty,pos,after,guard⟩:=o;unfold A7 at hc;split at hc<;>try (cases hc)
 all_goals rename_i fK dX
 all_goals cases dX
 rename_i args argTypes;split at hc
 ·rename_i x' t ha hb
  simp [b5] at hc;obtain ⟨hx,ht⟩:=hc;split at ht
  ·rename_i e hu
   have hrun:∀ a len cap,η x' = .slice a len cap->(execOp η ⟨dst,.call ⟨.builtin .len,args,argTypes⟩,ty,pos,after,guard⟩).run P w= .ok (.value (.int .i64 len)) w:=by
    intro a len cap Vf;have h0:(args.map η)[0]? =some (.slice a len cap):=by simp [ha,Vf]
    simp [execOp,resolve,invoke,builtin,Builtin.len_,hb,h0,run_underlying hu,goInt]
   simp [m6] at h
   ·grind [VR,DR,i64]
   all_goals grind [VR,DR,i64]
  ·cases ht
 ·cases hc
theorem Ni (hρ:aL ck G I N w η ρ){o:Oper}{x:q7}(hc:A7 P ck o (.U9 x)=true){v:b6}{rs:List Nat}
  (h:m6 ρ H (.U9 x)=some (v,rs)):Good P G I N w η o v:=by
 obtain ⟨dst,ct,ty,pos,after,guard⟩:=o;unfold A7 at hc;split at hc<;>try (cases hc)
 all_goals rename_i fK dX
 all_goals cases dX
 all_goals subst fK
 rename_i args argTypes;split at hc
 ·rename_i x' t ha hb
  simp [b5] at hc;obtain ⟨hx,ht⟩:=hc;have h1:=hρ _ _ hx;split at ht
  ·rename_i hu
   simp [m6] at h;split at h
   ·rename_i s hp
    obtain ⟨rfl,rfl⟩:=h;rw [hp] at h1;simp [VR,DR] at h1;have h0:(args.map η)[0]? =some (.string ⟨s.toArray⟩):=by simp [ha,h1]
    have hsz:(⟨s.toArray⟩:ByteArray).size=s.length:=by rfl
    refine ⟨.int .i64 s.length,?_,by rfl⟩;simp [execOp,resolve,invoke,builtin,Builtin.len_,hb,h0,run_underlying hu,goInt,hsz]
   ·cases h
  ·cases ht
 ·cases hc
theorem ER.length:∀ (l:List (Key×b6)) (es:List MapEntry),ER G I N w l es->es.length=l.length
 |[],es,h=>by simp [ER] at h;simp [h]
 |(k,v)::r,es,h=>by
  simp only [ER] at h;obtain ⟨e,es',rfl,_,_,h4⟩:=h;simp [ER.length r es' h4]
theorem Nh (hρ:aL ck G I N w η ρ)(hH:HR G I N w H){o:Oper}{x:q7}(hc:A7 P ck o (.CL x)=true){v:b6}{rs:List Nat}
  (h:m6 ρ H (.CL x)=some (v,rs)):Good P G I N w η o v:=by
 obtain ⟨dst,ct,ty,pos,after,guard⟩:=o;unfold A7 at hc;split at hc<;>try (cases hc;done)
 all_goals rename_i fK dX
 all_goals cases dX
 all_goals simp only at fK
 all_goals subst fK
 rename_i args argTypes;split at hc
 ·rename_i x' t ha hb
  simp only [b5] at hc;obtain ⟨hx,ht⟩:=hc;have h1:=hρ _ _ hx;split at ht
  ·rename_i kt et hu
   simp only [m6] at h;split at h
   ·rename_i hp
    simp at h;obtain ⟨rfl,rfl⟩:=h;rw [hp] at h1;simp only [VR,DR] at h1;have h0:(args.map η)[0]? =some (.map Option.none):=by simp [ha,h1]
    refine ⟨.int .i64 0,?_,by rfl⟩;simp [execOp,resolve,invoke,builtin,Builtin.len_,hb,h0,run_underlying hu,goInt]
   ·rename_i id hp
    split at h
    ·rename_i es he
     simp at h;obtain ⟨rfl,rfl⟩:=h;rw [hp] at h1;simp only [VR] at h1;have hO:=hH id _ he;simp only [OR] at hO;obtain ⟨_,arr,My,g1,_,g3⟩:=hO;have h0:(args.map η)[0]? =some (.map (some (I id).1)):=by simp_all
     have hl:arr.size=es.length:=by simpa using ER.length es _ g3
     refine ⟨.int .i64 es.length,?_,by rfl⟩;have hgo:(getObj (I id).1).run P w= .ok (.map arr My) w:=by simp [getObj,Sem.run,g1]
     simp [execOp,resolve,invoke,builtin,Builtin.len_,hb,h0,run_underlying hu,goInt,hgo,hl]
    ·cases h
   ·cases h
  ·cases ht
 ·cases hc
theorem gq (hρ:aL ck G I N w η ρ):∀ (xs:List Operand) (ys:List q7),Oo ck xs ys=true->I7 G I N w (ys.map ρ) (xs.map η)
 |[],[],_=>by simp [I7]
 |x::xs,y::ys,h=>by
  simp [Oo,b5] at h;exact ⟨_,_,rfl,hρ _ _ h.1,gq hρ xs ys h.2⟩
 |[],_::_,h=>by simp [Oo] at h
 |_::_,[],h=>by simp [Oo] at h
theorem Fp (hρ:aL ck G I N w η ρ){o:Oper}{f:FuncId}{a b:List q7}(hc:A7 P ck o (.Y8 f a b)=true){v:b6}{rs:List Nat}
  (h:m6 ρ H (.Y8 f a b)=some (v,rs)):Good P G I N w η o v:=by
 obtain ⟨dst,ct,ty,pos,after,guard⟩:=o;unfold A7 at hc;split at hc<;>try (cases hc)
 all_goals rename_i fK dX
 all_goals cases dX
 all_goals subst fK
 rename_i f' first caps
 simp [b5,beq_iff_eq] at hc;obtain ⟨⟨rfl,h1⟩,h2⟩:=hc;obtain ⟨rfl,rfl⟩:=h;refine ⟨.func (.func f') (first.map η) (caps.map η),by rfl,?_⟩;exact ⟨_,_,rfl,by simpa using gq hρ _ _ h1,by simpa using gq hρ _ _ h2⟩
theorem xJ:∀ (as:List b6) (vs:List Value) (r:Data) (k:IntKind) (n:Int),dF true (.int k n) as=some r->I7 G I N w as vs ->
  ∃ m,r= .int k m/\(vs.foldlM Builtin.max2 (.int k n)).run P w= .ok (.int k m) w
 |[],vs,r,k,n,h,hv=>by
  simp_all [dF,I7]
 |x::xs,vs,r,k,n,h,hv=>by
  obtain ⟨u,us,rfl,e2,e3⟩:=hv;unfold dF at h;split at h
  ·simp_all
  ·rename_i b r' heq
   cases heq;split at h
   ·rename_i c hc
    unfold vP at hc;split at hc
    ·rename_i k1 x1 k2 y1 e1
     cases e1;simp at hc;subst hc;subst e2;obtain ⟨m,g1,g2⟩:=xJ xs us r k _ h e3;simp_all [List.foldlM_cons,Sem.run_bind,Builtin.max2,Sem.run_pure,Result.andThen_ok]
    ·cases hc
   ·cases h
  ·cases h
theorem xK:∀ (as:List b6) (vs:List Value) (r:Data) (k:IntKind) (n:Int),dF false (.int k n) as=some r->I7 G I N w as vs ->
  ∃ m,r= .int k m/\(vs.foldlM Builtin.min2 (.int k n)).run P w= .ok (.int k m) w
 |[],vs,r,k,n,h,hv=>by
  simp_all [dF,I7]
 |x::xs,vs,r,k,n,h,hv=>by
  obtain ⟨u,us,rfl,e2,e3⟩:=hv;unfold dF at h;split at h
  ·simp_all
  ·rename_i b r' heq
   cases heq;split at h
   ·rename_i c hc
    unfold vP at hc;split at hc
    ·rename_i k1 x1 k2 y1 e1
     cases e1;simp at hc;subst hc;subst e2;obtain ⟨m,g1,g2⟩:=xK xs us r k _ h e3;simp_all [List.foldlM_cons,Sem.run_bind,Builtin.min2,Sem.run_pure,Result.andThen_ok]
    ·cases hc
   ·cases h
  ·cases h
theorem ET {b:Bool}{a r:Data}{l:List b6}(h:dF b a l=some r)(hne:l≠[]):∃ k n,a= .int k n:=by
 cases l with
 |nil=>simp_all
 |cons x xs =>
  unfold dF at h;simp_all [vP]<;>grind
theorem Fo (hρ:aL ck G I N w η ρ){o:Oper}{b:Bool}{ys:List q7}(hc:A7 P ck o (.fM b ys)=true){v:b6}{rs:List Nat}
  (h:m6 ρ H (.fM b ys)=some (v,rs)):Good P G I N w η o v:=by
 obtain ⟨dst,ct,ty,pos,after,guard⟩:=o;unfold A7 at hc;split at hc<;>try (cases hc)
 all_goals rename_i fK dX
 all_goals cases dX
 all_goals simp [b5] at hc
 all_goals obtain ⟨hc,hl⟩:=hc
 all_goals have h1:=gq hρ _ _ hc
 all_goals simp [m6] at h
 all_goals split at h
 all_goals try (cases h)
 all_goals rename_i a r heq
 all_goals split at h
 all_goals rename_i c uk
 all_goals obtain ⟨rfl,rfl⟩:=h
 all_goals rw [heq] at h1
 all_goals obtain ⟨x,xs,e1,e2,e3⟩:=h1
 all_goals have hne:r≠[]:=fun hr=>by simp_all [List.length]<;>grind
 all_goals obtain ⟨k,n,rfl⟩:=ET uk hne
 all_goals subst e2
 ·obtain ⟨m,rfl,g2⟩:=xJ (P:=P) r xs c k n uk e3
  refine ⟨.int k m,?_,by simp [VR,DR]⟩;simp_all [execOp,resolve,invoke,builtin,Builtin.max_,Sem.run_bind,Sem.run_pure,Result.andThen_ok]
 ·obtain ⟨m,rfl,g2⟩:=xK (P:=P) r xs c k n uk e3
  refine ⟨.int k m,?_,by simp [VR,DR]⟩;simp_all [execOp,resolve,invoke,builtin,Builtin.min_,Sem.run_bind,Sem.run_pure,Result.andThen_ok]
def oA (R:Value->Bool->Prop):List MapEntry->Nat->Option (Nat×Value)->Prop
 |[],_,q=>q=none
 |e::es,i,q=>(R e.key true/\q=some (i,e.val))\/(R e.key false/\oA R es (i+1) q)
def kX (P:Program)(w:World)(t:TypeId)(d:TypeDesc)(u:Value):KK->Value->Bool->Prop
 | .st _,v,r=>(Op.equal t u v).run P w= .ok r w/\Instr.sameNow d u v=none
 |_,v,r=>Instr.sameNow d u v=some r
theorem JP {G:Gh}{w:World}{I:T0}{N:Nat->Prop}(l:List KD)(j:Nat)(c:b6)(h:(l.map KD.av)[j]? =some c):∃ v,(l.map KD.val).toArray[0+j]? =some v/\VR G I N w .none c v:=by
 simp only [List.getElem?_map,Option.map_eq_some_iff] at h;obtain ⟨x,hx,rfl⟩:=h;exact ⟨x.val,by simp [hx],by cases x<;>simp [KD.av,KD.val,VR,DR]⟩
theorem rM {kk:KK}{a b:Key}{r:Bool}(h:Data.aW kk a b=some r){t:TypeId}{d:TypeDesc}(ht:tC P t kk=true)(hd:P.underlying t=some d):kX P w t d a.val kk b.val r:=by
 unfold Data.aW at h;split at h
 ·split at h
  ·rename_i hkk
   subst hkk;simp at h;subst h;simp only [tC,eo,hd] at ht;split at ht
   ·rename_i hx;cases hx;simp [kX,Key.val,Instr.sameNow]
   ·cases ht
  ·cases h
 ·simp at h;subst h
  simp only [tC,eo,hd] at ht;split at ht
  ·rename_i hx;cases hx;simp [kX,Key.val,Instr.sameNow,beq_toListBytes]
  ·cases ht
 ·simp at h;subst h
  simp only [tC,eo,hd] at ht;split at ht
  ·rename_i hx;cases hx;simp [kX,Key.val,Instr.sameNow]
  ·cases ht
 ·rename_i ks l m
  simp only [tC,cy,hd] at ht;split at ht
  ·rename_i fs hfs
   cases hfs;simp only [b5,j5] at ht;have hff:P.fieldsOf t=fs:=by simp [Program.fieldsOf,hd]
   have heq:=run_equalIn_struct (P:=P) w 9999 t (l.map KD.val).toArray (m.map KD.val).toArray (by rw [hff];exact hd) ht.1.2;rw [hff,jg (P:=P) (G:=fun _=> .free) (I:=fun _=>(0,0)) (N:=fun _=>False) 9998 _ _ fs.toList 0 ks _ _ r ht.1.1 h (JP l) (JP m)] at heq;exact ⟨heq,by simp [Key.val,Instr.sameNow]⟩
  ·cases ht
 ·cases h
theorem Es {kk:KK}{t:TypeId}{d:TypeDesc}(ht:tC P t kk=true)(hd:P.underlying t=some d){key:Key} :
  ∀ (l:List (Key×b6)) (es:List MapEntry) (i:Nat) (r:Option b6),ER G I N w l es->bA kk key l=some r ->
   ∃ q,oA (kX P w t d key.val kk) es i q/\(match r,q with
    |none,none=>True
    |some a,some (_,v)=>VR G I N w .none a v
    |_,_=>False)
 |[],es,i,r,hE,h=>by
  simp [ER] at hE;subst hE;simp [bA] at h;subst h;exact ⟨none,rfl,trivial⟩
 |(k',v')::rest,es,i,r,hE,h=>by
  simp only [ER] at hE;obtain ⟨e,es',rfl,h2,h3,h4⟩:=hE;unfold bA at h;split at h
  ·rename_i hk
   simp at h;subst h;exact ⟨some (i,e.val),.inl ⟨h2 ▸ rM hk ht hd,rfl⟩,h3⟩
  ·rename_i hk
   obtain ⟨q,g1,g2⟩:=Es ht hd rest es' (i+1) r h4 h;exact ⟨q,.inr ⟨h2 ▸ rM hk ht hd,g1⟩,g2⟩
  ·cases h
theorem mA {kk:KK}{t:TypeId}{d:TypeDesc}(hd:P.underlying t=some d){u:Value}{es:List MapEntry}{q:Option (Nat×Value)}(h:oA (kX P w t d u kk) es 0 q):(Instr.findKey t u es).run P w= .ok q w:=by
 have plain:(∀ v r,kX P w t d u kk v r->Instr.sameNow d u v=some r)->(Instr.findKey t u es).run P w= .ok q w:=by
  intro hp;have:∀ (es:List MapEntry) (i:Nat),oA (kX P w t d u kk) es i q->Instr.findNow d u es i=some q:=by
   intro es
   induction es with
   |nil=>intro i h;simp only [oA] at h;simp [Instr.findNow,h]
   |cons e es ih =>
    intro i h
    rcases h with ⟨h1,rfl⟩|⟨h1,h2⟩
    ·simp [Instr.findNow,hp _ _ h1]
    ·simp [Instr.findNow,hp _ _ h1,ih _ h2]
  simp [Instr.findKey,run_underlying hd,this es 0 h]
 cases kk with
 |i=>exact plain fun _ _ h=>h
 |s=>exact plain fun _ _ h=>h
 |b=>exact plain fun _ _ h=>h
 |st ks =>
  have ask:∀ (es:List MapEntry) (i:Nat),oA (kX P w t d u (.st ks)) es i q->(Instr.findAsking t u es i).run P w= .ok q w:=by
   intro es
   induction es with
   |nil=>intro i h;simp only [oA] at h;simp [Instr.findAsking,h]
   |cons e es ih =>
    intro i h
    rcases h with ⟨h1,rfl⟩|⟨h1,h2⟩
    ·simp [Instr.findAsking,h1.1]
    ·simp [Instr.findAsking,h1.1,ih _ h2]
  have:=ask es 0 h;cases es with
  |nil=>simp only [oA] at h;simp [Instr.findKey,run_underlying hd,Instr.findNow,h]
  |cons e es =>
   have h0:Instr.sameNow d u e.key=none:=by
    rcases h with ⟨h1,_⟩|⟨h1,_⟩<;>exact h1.2
   simp [Instr.findKey,run_underlying hd,Instr.findNow,h0,this]
theorem eS {k:CK}{t:TypeId}(ht:eo P t k=true)(b:Bool)(n:Nat)(u:Value):(Instr.checkKey b (n+1) t u).run P w= .ok () w:=by
 cases k<;>simp only [eo] at ht<;>split at ht<;>first|(cases ht;done)|(rename_i hu;simp [Instr.checkKey,run_underlying hu])
theorem gG {kk:KK}{t:TypeId}(ht:tC P t kk=true){key:Key}(hf:kk.fits key=true)(b:Bool)(n:Nat):(Instr.checkKey b (n+2) t key.val).run P w= .ok () w:=by
 have fields (l:List KD):∀ (fs:List Field) (n0:Nat) (ks:List CK) (m:List KD),aq P fs n0 ks=true->(V1 ks (m.map KD.av) (m.map KD.av)).isSome=true->(∀ j x,m[j]? =some x->(l.map KD.val).toArray[n0+j]? =some x.val) ->
   Sem.run P (forIn fs PUnit.unit fun (f : Field) (_ : PUnit) => if f.name ≠ "_" then do
    let v <- part f.type (l.map KD.val).toArray f.offset
    Instr.checkKey b (n+1) f.type v
    pure (ForInStep.yield PUnit.unit) else pure (ForInStep.yield PUnit.unit)) w= .ok PUnit.unit w:=by
  intro fs
  induction fs with
  |nil=>intro n0 ks m _ _ _;simp
  |cons f fs ih =>
   intro n0 ks m hf hc hm;cases ks with
   |nil=>simp [aq] at hf
   |cons k ks =>
    simp only [aq,b5,bne_iff_ne,beq_iff_eq] at hf;obtain ⟨⟨⟨h1,h2⟩,h3⟩,h4⟩:=hf;cases m with
    |nil=>simp [V1] at hc
    |cons x m =>
     have mE:(V1 ks (m.map KD.av) (m.map KD.av)).isSome=true:=by
      cases x<;>simp only [List.map_cons,KD.av,V1] at hc<;>split at hc<;>first|(split at hc<;>simp_all)|simp_all
     have e1:=run_part_plain (w:=w) h2 (l.map KD.val).toArray n0 x.val (hm 0 x rfl);simp only [List.forIn_cons,Sem.run_bind,if_pos h1,h3,e1,Result.andThen_ok,eS h2,Sem.run_pure];exact ih (n0+1) ks m h4 mE fun j y hy=>by rw [show n0+1+j=n0+(j+1) from by omega];exact hm (j+1) y (by simpa using hy)
 cases kk with
 |i=>exact eS (k:= .i) ht b _ _
 |s=>exact eS (k:= .s) ht b _ _
 |b=>exact eS (k:= .b) ht b _ _
 |st ks =>
  simp only [tC,cy] at ht;split at ht
  ·rename_i fs hfs
   simp only [b5,j5] at ht;cases key<;>simp only [KK.fits,b7] at hf;rename_i l;rw [Instr.checkKey];simp only [Key.val,Sem.run_bind,run_underlying hfs,Result.andThen_ok];rw [<- Array.forIn_toList,fields l fs.toList 0 ks l ht.1.1 hf (fun j x hj=>by simp [hj])];simp
  ·cases ht
theorem JQ:∀ (l:List b6) (r:List KD) (xs:List Value),Il l=some r->I7 G I N w l xs->xs=r.map KD.val
 |[],r,xs,h,hv=>by simp [Il] at h;subst h;simpa [I7] using hv
 |v::l,r,xs,h,hv=>by
  simp only [I7] at hv;obtain ⟨x,ys,rfl,h1,h2⟩:=hv;unfold Il at h;split at h
  ·rename_i e;cases e
  all_goals first|(cases h;done)|skip
  all_goals rename_i e;cases e
  all_goals split at h<;>first|(cases h;done)|skip
  all_goals
   rename_i r' hr;cases h;rw [JQ _ r' ys hr h2];simp only [VR,DR] at h1;simp [h1,KD.val]
theorem CJ {v:b6}{k:Key}{pl:Place}{x:Value}(h:v.Im =some k)(hv:VR G I N w pl v x):x=k.val:=by
 unfold b6.Im at h;split at h
 ·cases h;simpa [VR,DR,Key.val] using hv
 ·cases h;simpa [VR,DR,Key.val] using hv
 ·cases h;simpa [VR,DR,Key.val] using hv
 ·split at h
  ·rename_i r hr
   cases h;simp only [VR] at hv;obtain ⟨cs,rfl,h2⟩:=hv;have:=JQ _ r _ hr h2;simp [Key.val,<- this]
  ·cases h
 ·cases h
theorem JG {kk:KK}{k:Key}{r:Bool}(h:Data.aW kk k k=some r):kk.fits k=true:=by
 unfold Data.aW at h;unfold KK.fits;split at h<;>simp_all
theorem Fm (hρ:aL ck G I N w η ρ)(hH:HR G I N w H){o:Oper}{kk:KK}{zero:b6}{ok:Bool}{m k:q7}(hc:A7 P ck o (.lookup kk zero ok m k)=true){v:b6}{rs:List Nat}
  (h:m6 ρ H (.lookup kk zero ok m k)=some (v,rs)):Good P G I N w η o v:=by
 obtain ⟨dst,ct,ty,pos,after,guard⟩:=o;cases ct<;>simp only [A7,b5,beq_iff_eq] at hc<;>try (cases hc;done)
 rename_i t m' k' PK;obtain ⟨⟨⟨rfl,hm⟩,hk⟩,ht⟩:=hc;have h1:=hρ _ _ hm;have h2:=hρ _ _ hk;split at ht
 ·rename_i kt et hu
  simp only [b5] at ht;obtain ⟨hkt,hz⟩:=ht;split at hz
  ·rename_i it hit
   split at hz
   ·rename_i z hzz
    have hzero:(zeroValue et).run P w= .ok z w:=by simp [zeroValue,typeInfo,hit,hzz]
    have Zt:VR G I N w .none zero z:=bS _ _ hz;obtain ⟨dk,hdk⟩:∃ d,P.underlying kt=some d:=by
     cases hd:P.underlying kt with
     |none=>cases kk<;>simp [tC,eo,cy,hd] at hkt
     |some d=>exact ⟨d,rfl⟩
    simp only [m6] at h;split at h
    ·rename_i id key hp hq
     rw [hp] at h1;simp only [VR] at h1;have h2:=CJ hq h2;split at h
     ·rename_i es he
      split at h
      ·rename_i r hr hfit
       simp at h;obtain ⟨rfl,rfl⟩:=h;have hO:=hH id _ he;simp only [OR] at hO;obtain ⟨_,arr,My,g1,_,g3⟩:=hO;obtain ⟨q,f1,f2⟩:=Es (P:=P) hkt hdk es arr.toList 0 r g3 hr;have hgo:(getObj (I id).1).run P w= .ok (.map arr My) w:=by simp [getObj,Sem.run,g1]
       have Zo:(Instr.findKey kt (η k') arr.toList).run P w= .ok q w:=by rw [h2];exact mA hdk f1
       have hck:=fun b=>h2 ▸ gG (P:=P) (w:=w) hkt hfit b 9998
       cases r with
       |none =>
        cases q with
        |some q=>exact f2.elim
        |none =>
         refine ⟨if PK then .tuple #[z,.bool false] else z,?_,?_⟩
         ·cases PK <;>simp [execOp,h1.2,Instr.lookup,run_underlying hu,hgo,hck,Zo,hzero]
         ·cases PK
          ·simpa using Zt
          ·simp only [VR,Option.getD_none,Option.isSome_none,if_true]
           exact ⟨_,rfl,by simp [I7,VR,DR,Zt]⟩
       |some a =>
        cases q with
        |none=>exact f2.elim
        |some q =>
         obtain ⟨qi,qv⟩:=q;refine ⟨if PK then .tuple #[qv,.bool true] else qv,?_,?_⟩
         ·cases PK <;>simp [execOp,h1.2,Instr.lookup,run_underlying hu,hgo,hck,Zo]
         ·cases PK
          ·simpa using f2
          ·simp only [VR,Option.getD_some,Option.isSome_some,if_true]
           exact ⟨_,rfl,by simp [I7,VR,DR];exact f2⟩
      ·cases h
     ·cases h
    ·rename_i key hp hq
     rw [hp] at h1;simp only [VR,DR] at h1;have h2:=CJ hq h2;split at h
     ·rename_i hkk
      simp at h;obtain ⟨rfl,rfl⟩:=h;have hck:=fun b=>h2 ▸ gG (P:=P) (w:=w) hkt (JG hkk) b 9998
      have Zo:(Instr.findKey kt (η k') []).run P w= .ok none w:=by simp [Instr.findKey,run_underlying hdk,Instr.findNow]
      refine ⟨if PK then .tuple #[z,.bool false] else z,?_,?_⟩
      ·cases PK <;>simp [execOp,h1,Instr.lookup,run_underlying hu,hck,Zo,hzero]
      ·cases PK
       ·simpa using Zt
       ·simp only [VR,if_true]
        exact ⟨_,rfl,by simp [I7,VR,DR,Zt]⟩
     ·cases h
    ·cases h
   ·cases hz
  ·cases hz
 ·cases ht
end
def IA (vs:List Value):Prop:=∀ v ∈ vs,v.oneCell' =true
def L4 (l:List Value)(off:Nat)(vs:List Value):List Value:=l.take off++vs++l.drop (off+vs.length)
section
variable {P:Program} {w:World} {ck:Operand->q7->Bool} {η:Operand->Value} {ρ:q7->b6} {G:Gh} {I:T0} {N:Nat->Prop} {H:o6}
theorem I7.append:∀ (a:List b6) (xs:List Value) (b:List b6) (ys:List Value),I7 G I N w a xs->I7 G I N w b ys->I7 G I N w (a++b) (xs++ys)
 |[],xs,b,ys,h,k=>by simp_all [I7]
 |a::as,xs,b,ys,h,k=>by
  obtain ⟨x,xs',rfl,h2,h3⟩:=h;exact ⟨x,xs' ++ys,rfl,h2,I7.append as xs' b ys h3 k⟩
theorem I7.take:∀ (n:Nat) (a:List b6) (xs:List Value),I7 G I N w a xs->I7 G I N w (a.take n) (xs.take n)
 |0,_,_,_=>by simp [I7]
 |n+1,[],xs,h=>by simp_all [I7]
 |n+1,a::as,xs,h=>by
  obtain ⟨x,xs',rfl,h2,h3⟩:=h;exact ⟨x,xs'.take n,rfl,h2,I7.take n as xs' h3⟩
theorem I7.drop:∀ (n:Nat) (a:List b6) (xs:List Value),I7 G I N w a xs->I7 G I N w (a.drop n) (xs.drop n)
 |0,_,_,h=>by simpa using h
 |n+1,[],xs,h=>by simp_all [I7]
 |n+1,a::as,xs,h=>by
  obtain ⟨x,xs',rfl,h2,h3⟩:=h;exact I7.drop n as xs' h3
theorem I7.splice {a b:List b6}{xs ys:List Value}(h:I7 G I N w a xs)(k:I7 G I N w b ys)(off:Nat):I7 G I N w (splice a off b) (L4 xs off ys):=by
 grind [y3.splice,L4,I7.length,I7.append,I7.take,I7.drop]
theorem jM {a:b6}(ha:a.one=true){pl:Place}{x:Value}(h:VR G I N w pl a x):x.oneCell' =true/\x.cells= #[x]:=by
 cases a<;>simp [b6.one] at ha
 ·rename_i d
  cases d<;>simp [VR] at h
  all_goals first
   |(subst h;exact ⟨rfl,rfl⟩)
   |(rcases h with ⟨h|⟨a0,h⟩,_⟩|⟨b,o,cap,h,_⟩<;>(subst h;exact ⟨rfl,rfl⟩))
 ·obtain ⟨_,h⟩:=h;subst h;exact ⟨rfl,rfl⟩
 ·obtain ⟨b,o,h,_⟩:=h;subst h;exact ⟨rfl,rfl⟩
 ·obtain ⟨_,cap,h,_⟩:=h;subst h;exact ⟨rfl,rfl⟩
 ·obtain ⟨_,h⟩:=h
  rcases h with ⟨h|⟨b,o,h⟩,_⟩|⟨_,b,o,cap,c,e,f,h,_⟩<;>(subst h;exact ⟨rfl,rfl⟩)
 ·subst h;exact ⟨rfl,rfl⟩
 ·obtain ⟨x,y,h,_⟩:=h;subst h;exact ⟨rfl,rfl⟩
 ·obtain ⟨_,h⟩:=h;subst h;exact ⟨rfl,rfl⟩
theorem kP:∀ (l:List b6) (xs:List Value),l.all b6.one=true->I7 G I N w l xs->IA xs
 |[],xs,_,h=>by subst h;intro v hv;cases hv
 |a::as,xs,ha,h=>by
  simp only [List.all_cons,b5] at ha;obtain ⟨x,xs',rfl,h2,h3⟩:=h;intro v hv
  rcases C6.1 hv with rfl|hv
  ·grind [jM]
  ·exact kP as xs' ha.2 h3 v hv
theorem ud {a:b6}{l:List b6}(ha:a.cells? =some l){x:Value}(h:VR G I N w .none a x):I7 G I N w l x.cells.toList/\IA x.cells.toList:=by
 unfold b6.cells? at ha;split at ha
 ·split at ha
  ·rename_i hall
   simp at ha;subst ha;obtain ⟨cs,rfl,h2⟩:=h;exact ⟨h2,kP _ _ hall h2⟩
  ·cases ha
 ·split at ha
  ·rename_i hone
   simp at ha;subst ha;obtain ⟨h1,h2⟩:=jM hone h;refine ⟨?_,fun v hv=> ?_⟩
   all_goals simp_all [I7]
  ·cases ha
theorem AI (off:Nat):∀ (vs:List Value) (k:Nat) (cs:Array Value),off+k+vs.length<=cs.size ->
  ((vs.zipIdx k).foldl (fun (cs:Array Value) (p:Value×Nat)=>cs.setIfInBounds (off+p.2) p.1) cs).toList=cs.toList.take (off+k)++vs++cs.toList.drop (off+k+vs.length)
 |[],k,cs,_=>by simp
 |v::vs,k,cs,h=>by
  simp [B7] at h;rw [List.zipIdx_cons,List.foldl_cons,AI off vs (k+1) _ (by simp;omega)];have hlt:off+k<cs.toList.length:=by simp;omega
  simp [Array.toList_setIfInBounds];rw [show off+(k+1)=off+k+1 from by omega];rw [List.take_succ_eq_append_getElem (by simp_all)];rw [List.drop_set_of_lt (by omega)];simp [List.take_set_of_le (n5 _),B7]
  grind
theorem MI {off:Nat}{v:Value}{cs:Array Value}(h:off+v.cells.size<=cs.size) :
  v.cells.zipIdx.foldl (fun cs (c,j)=>cs.setIfInBounds (off+j) c) cs=(L4 cs.toList off v.cells.toList).toArray:=by
 have:=AI off v.cells.toList 0 cs (by simpa using h);have e:v.cells.zipIdx.foldl (fun cs (c,j)=>cs.setIfInBounds (off+j) c) cs=(v.cells.toList.zipIdx 0).foldl (fun (cs:Array Value) (p:Value×Nat)=>cs.setIfInBounds (off+p.2) p.1) cs:=by
  rw [<- Array.foldl_toList];simp
 grind [Array.toList_inj,L4]
theorem kE (hρ:aL ck G I N w η ρ){place:Nat->Option (Nat×Nat)}:∀ (parts:List (Nat×Operand)) (ps:List (Nat×Nat×q7)) (l cs:List b6) (xs:Array Value),
  iL P ck place parts ps=true->I7 G I N w l xs.toList->bU l (ps.map fun (o,s,x)=>(o,s,ρ x))=some cs ->
  ∃ ys:Array Value,Instr.fill place xs (parts.map fun (i,x)=>(i,η x))=some ys/\I7 G I N w cs ys.toList
 |[],[],l,cs,xs,_,hl,h=>by
  simp [bU] at h;subst h;exact ⟨xs,rfl,hl⟩
 |(i,x)::r,(off,sz,y)::q,l,cs,xs,hp,hl,h=>by
  simp [iL,b5,beq_iff_eq] at hp;obtain ⟨⟨h1,h2⟩,h3⟩:=hp;simp [List.map_cons,bU] at h;split at h
  ·rename_i l' hl'
   split at h
   ·obtain ⟨g1,g2⟩:=ud hl' (hρ _ _ h2)
    have hlen:(η x).cells.size=sz:=by
     have:=I7.length _ _ g1;simp_all
    have hlx:xs.size=l.length:=by
     have:=I7.length _ _ hl;omega
    have nY:I7 G I N w (splice l off l') ((L4 xs.toList off (η x).cells.toList).toArray).toList:=by
     simp_all [I7.splice]
    obtain ⟨ys,e1,e2⟩:=kE hρ r q _ cs _ h3 nY h;refine ⟨ys,?_,e2⟩;have hc:¬ ((η x).cells.size≠sz||off+(η x).cells.size>xs.size)=true:=by
     simp_all
    simp only [List.map_cons,Instr.fill,h1];rw [if_neg hc,MI (by omega)];exact e1
   ·cases h
  ·cases h
 |[],_::_,_,_,_,hp,_,_=>by simp [iL] at hp
 |_::_,[],_,_,_,hp,_,_=>by simp [iL] at hp
theorem kW {t:TypeId}{l:List b6}(h:zh P t l=true):∃ i z,P.info? t=some i/\i.zero=some z/\I7 G I N w l z.cells.toList:=by
 grind [zh,di]
theorem IC (hρ:aL ck G I N w η ρ){o:Oper}{zero:List b6}{ps:List (Nat×Nat×q7)}(hc:A7 P ck o (.build zero ps)=true){v:b6}{rs:List Nat}
  (h:m6 ρ H (.build zero ps)=some (v,rs)):Good P G I N w η o v:=by
 obtain ⟨dst,ct,ty,pos,after,guard⟩:=o;cases ct<;>simp [A7] at hc<;>try simp_all
 rename_i t parts;simp [m6] at h;split at h
 ·rename_i cs hcs
  obtain ⟨rfl,rfl⟩:=h;have key:∃ ys:Array Value,P.built t (parts.toList.map fun (i,x)=>(i,η x))=some ys/\I7 G I N w cs ys.toList:=by
   split at hc
   ·split at hc
    ·simp [b5] at hc
     obtain ⟨it,z,e1,e2,e3⟩:=kW (G:=G) (I:=I) (N:=N) (w:=w) hc.1;obtain ⟨ys,f1,f2⟩:=kE hρ parts.toList ps zero cs z.cells hc.2 e3 hcs;simp_all [uj,Program.built]
    ·cases hc
   ·split at hc
    ·simp [b5] at hc
     obtain ⟨it,z,e1,e2,e3⟩:=kW (G:=G) (I:=I) (N:=N) (w:=w) hc.1;obtain ⟨ys,f1,f2⟩:=kE hρ parts.toList ps zero cs z.cells hc.2 e3 hcs;simp_all [Program.built]
    ·cases hc
   ·cases hc
  obtain ⟨ys,e1,e2⟩:=key;refine ⟨.agg ys,?_,by simp_all [VR]⟩;simp_all [run_build,execOp,Sem.run_bind]
 ·cases h
theorem IG (Vf:∀ v,η (.const v)=v)(hρ:aL ck G I N w η ρ)(hH:HR G I N w H){o:Oper}{op:q9}(hc:A7 P ck o op=true){v:b6}{rs:List Nat}
  (h:m6 ρ H op=some (v,rs)):Good P G I N w η o v:=by
 cases op
 case pick=>exact Nn hρ hc h
 case build=>exact IC hρ hc h
 case load=>exact Nj hρ hH hc h
 case X6=>exact IE hρ hc h
 case bin=>exact Qo hρ hc h
 case un=>exact TR hρ hc h
 case CR=>exact Nl Vf hρ hc h
 case Ix=>exact Nk Vf hρ hc h
 case o9=>exact Qp hρ hc h
 case NQ=>exact Qq hρ hc h
 case kY=>exact ID hρ hc h
 case pG=>exact Fl hρ hc h
 case je=>exact Fj hρ hc h
 case qe=>exact Fq hρ hc h
 case aN=>exact Fs hρ hc h
 case off=>exact Qs hρ hc h
 case C4=>exact Nd hρ hc h
 case gb=>exact Nf hρ hc h
 case C0=>exact Ng hρ hc h
 case extract=>exact Da hρ hc h
 case len=>exact Qr hρ hc h
 case U9=>exact Ni hρ hc h
 case CL=>exact Nh hρ hH hc h
 case fM=>exact Fo hρ hc h
 case Y8=>exact Fp hρ hc h
 case lookup=>exact Fm hρ hH hc h
 all_goals simp_all [A7]
end
end Go.y3
namespace Go.y3.Z
abbrev k (n:Int):q7:= .const (.d (.int .i64 n))
abbrev kt:q7:= .const (.d (.bool true))
abbrev kf:q7:= .const (.d (.bool false))
abbrev z0:b6:= .d (.int .i64 0)
abbrev zs:b6:= .d (.str [])
abbrev zb:b6:= .d (.bool false)
abbrev w (n:Nat):b6:= .own n 0 []
abbrev l (n:Nat):q7:= .loc n
abbrev s (n:Nat):q7:= .slot n
abbrev i0 (o:q9):n8:=⟨o,none,none,[]⟩
abbrev i1 (o:q9)(d:Nat):n8:=⟨o,some d,none,[]⟩
abbrev it (o:q9)(j:Nat):n8:=⟨o,none,some (j,true),[]⟩
abbrev if_ (o:q9)(j:Nat):n8:=⟨o,none,some (j,false),[]⟩
abbrev i3 (o:q9)(u:List Nat):n8:=⟨o,none,none,u⟩
abbrev ms (n:Nat):n8:=⟨.O3 (.slot n),none,none,[]⟩
abbrev ml (n:Nat):n8:=⟨.O3 (.loc n),none,none,[]⟩
abbrev os (a n:Nat):n8:=⟨.off a (.slot n),none,none,[]⟩
abbrev ol (a n:Nat):n8:=⟨.off a (.loc n),none,none,[]⟩
abbrev ld (n:Nat):n8:=⟨.load none (.loc n),none,none,[]⟩
abbrev sq:=o8.seq
abbrev rg:=o8.region
abbrev te:=o8.test
abbrev sk:=o8.skip
def sh (t:p7){x:p7}(h:t=x:=by dsimp only [k,kt,kf,z0,zs,zb,w,l,s,i0,i1,it,if_,i3,ms,ml,os,ol,ld,sq,rg,te,sk]):{ x:p7 // t=x }:=⟨x,h⟩
abbrev o4 (x:List n8):o8:= .region x false
abbrev eF (x:List n8):o8:= .region x true
abbrev A5 (x:List n8)(c:q7)(a b:o8):o8:= .test x false c a b
abbrev FW (x:List n8)(c:q7)(a b:o8):o8:= .test x true c a b
abbrev C2:q7:=k 0
abbrev qk:q9:= .O3 C2
abbrev C3:q7:=l 0
abbrev A3:q7:=l 1
abbrev n9:n8:=ms 0
abbrev kg:n8:=os 0 3
abbrev B5:n8:=ld 1
abbrev E9:q7:=l 2
abbrev r8:q7:=l 3
abbrev fE:q9:= .O3 r8
abbrev iX:n8:=i1 fE 4
abbrev D2:n8:=ms 4
abbrev as6:q9:= .bin .neq C3 C2
abbrev cY:n8:=i0 as6
abbrev sV:q9:= .O3 C3
abbrev iY:n8:=i1 sV 2
abbrev UC:o8:=sq (o4 [n9,kg,B5,i0 (.call 108 [C3,E9]),iX]) (A5 [D2,cY] A3 (sq (o4 [D2,iY]) .ret) sk)
abbrev p9:n8:=ms 1
abbrev as5:q9:= .len E9
abbrev O5:n8:=i0 as5
abbrev s8:q7:=l 4
abbrev oW:q9:= .O3 kf
abbrev tW:o8:=o4 [i1 oW 2]
abbrev nB:o8:=sq tW .ret
abbrev bK:n8:=i1 qk 3
abbrev uI:o8:=o4 [bK]
abbrev J9:n8:=ms 3
abbrev UE:q9:= .len A3
abbrev Q2:n8:=i0 UE
abbrev at0:q9:= .bin .lss C3 E9
abbrev iZ:n8:=i0 at0
abbrev KV:o8:=A5 [J9,n9,Q2,iZ] r8 sk (.exit 0)
abbrev at5:q9:= .C4 1 C3 A3
abbrev ic:n8:=i0 at5
abbrev P0:n8:=ld 2
abbrev z7:q7:=l 5
abbrev Hq:q9:= .C4 1 s8 z7
abbrev D9:q7:=l 7
abbrev F0:q7:=l 8
abbrev E1:q7:=k 1
abbrev zq7:q9:= .bin .add C3 E1
abbrev dQ:n8:=i0 zq7
abbrev dM:q9:= .O3 A3
abbrev oZ:n8:=i1 dM 3
abbrev zN:q9:= .O3 kt
abbrev Mn:o8:=sq (o4 [i1 zN 2]) .ret
abbrev zq4:o8:=sq (A5 [n9,i0 (.len C3),p9,O5,i0 (.bin .neq A3 r8)] s8 nB sk) (sq (sq uI (.block 0 (.loop [true,true,false,true] (sq KV (sq (.block 1 (FW [n9,J9,ic,P0,p9,J9,i0 Hq,ld 6,i0 (.bin .neq r8 D9)] F0 nB sk)) (o4 [J9,dQ,oZ])))))) Mn)
abbrev L5:q7:=s 2
abbrev Sr:q9:= .load (some 8) L5
abbrev UJ:q9:= .O3 (.const (w 1))
abbrev L9:q9:= .O3 (s 0)
abbrev vB:q9:= .alloc [(w 4),(w 9),(w 3),(w 6),(w 4),(w 3),(w 2),(w 3)]
abbrev V9:q7:=s 3
abbrev lP:q9:= .load (some 8) V9
abbrev Ji:q9:= .X6 C3
abbrev nF:n8:=i1 qk 2
abbrev jY:o8:=o4 [nF]
abbrev D3:q7:=l 6
abbrev as1:q9:= .bin .lss C3 r8
abbrev GC:q9:= .box (s 0)
abbrev sE:n8:=i1 qk 5
abbrev Gz:o8:=o4 [n9,i1 (.len C3) 4,sE]
abbrev G8:q7:=s 5
abbrev Y1:q7:=s 4
abbrev Gu:o8:=A5 [i0 (.bin .lss G8 Y1)] C3 sk (.exit 0)
abbrev B9:n8:=ms 5
abbrev ia:n8:=i1 sV 3
abbrev NL:o8:=o4 [B9,ia]
abbrev M9:n8:=ld 3
abbrev vE:o8:=sq (o4 [J9,iY]) .ret
abbrev bJ:n8:=i1 sV 5
abbrev Gw:o8:=o4 [i0 (.bin .add G8 E1),bJ]
abbrev Jj:q7:= .const (.d (.int .i64 (-1)))
abbrev zD:q9:= .O3 Jj
abbrev GD:o8:=sq (o4 [i1 zD 2]) .ret
abbrev Za:o8:=sq jY (sq (sq Gz (.block 0 (.loop [true,true,false,false,true,true] (sq Gu (sq (.block 1 (sq NL (A5 [p9,n9,J9,i0 (.C4 1 A3 E9),M9,i0 (.bin .eql C3 s8)] z7 vE sk))) Gw))))) GD)
abbrev as2:q9:= .p8 1 1 [zs] [(0,1,D3)] false
abbrev Q7:q7:=s 1
abbrev Z5:q9:= .O3 Q7
abbrev fG:n8:=os 1 2
abbrev u7:n8:=ld 0
abbrev Y3:n8:=os 0 2
abbrev Gv:q9:= .len s8
abbrev jZ:n8:=i0 Gv
abbrev Jk:q9:= .alloc [zs,z0,zs,zs,(w 2),(w 5),(w 2),zb,(w 3)]
abbrev UB:o8:=o4 [fG,u7,p9,Y3,M9,jZ,i0 (.bin .sub E9 z7),i0 (.C4 9 A3 D3),i0 (.load (some 9) D9),i1 Jk 4,i0 (.store 9 Y1 F0)]
abbrev R1:n8:=i0 Sr
abbrev S7:n8:=ml 1
abbrev Wi:q9:= .extract E9 0
abbrev nI:n8:=i0 Wi
abbrev Wj:q9:= .extract E9 1
abbrev nG:n8:=i0 Wj
abbrev bP:q9:= .O3 z7
abbrev RH:o8:=o4 [R1,i0 (.call 29 [C3]),S7,nI,nG,i0 (.extract E9 2),iX,ml 4,i1 bP 5]
abbrev vD:q9:= .load none s8
abbrev tX:o8:=o4 [B9,dQ,i1 dM 5]
abbrev fD:q9:= .O3 Y1
abbrev nx:o8:=o4 [i1 UJ 3]
abbrev UD:o8:=A5 [B9,cY,S7,if_ fD 2,if_ Z5 2,if_ (.call 38 [r8,s8]) 2,if_ (.un .not z7) 2,i0 (.pick E9 kt D3)] D9 (sq nx .ret) sk
abbrev ql:q7:= .const (.d (.str [116,48]))
abbrev zw:q9:= .p8 1 0 [] [] false
abbrev oV:q9:= .O3 V9
abbrev G7:q7:=l 9
abbrev K6:q7:=l 10
abbrev P4:q7:=l 11
abbrev uS:q9:= .O3 P4
abbrev as3:o8:=sq (eF [i0 zw,n9,J9,i0 (.aN 1 A3 none (some E9)),i0 (.append 1 8 false C3 r8),i3 Z5 [4],i3 (.p8 1 1 [z0] [(0,1,z7)] false) [4],i0 (.append 1 8 false s8 D3),i3 L9 [4,7],i3 oV [4,7],i3 (.aN 1 F0 (some G7) none) [4,7],i0 (.append 1 8 false D9 K6),i1 uS 2]) .ret
abbrev oY:n8:=i1 GC 2
abbrev sy:o8:=o4 [oY,i1 UJ 3]
abbrev eP:q7:= .const zs
abbrev zQ:o8:=o4 [i1 oW 1]
abbrev R2:n8:=ml 3
abbrev uP:q9:= .load none D9
abbrev uU:n8:=it Z5 4
abbrev as4:o8:= .block 0 (.loop [true,true,false,true] (sq (A5 [J9,n9,Q2,iZ,R2,it L9 4,it oV 4,it (.C4 1 z7 D3) 4,it uP 4,uU,it (.bin .lss F0 G7) 4,i0 (.pick s8 K6 kf)] P4 sk (.exit 0)) (.block 1 (o4 [J9,dQ,oZ]))))
abbrev Hg:o8:=o4 [i1 UJ 2]
abbrev Zb:o8:=sq Hg (sq uI (sq as4 (sq (A5 [J9,n9,Q2,iZ,R2,it L9 4,it oV 4,it (.C4 1 z7 D3) 4,it uP 4,uU,it (.bin .eql F0 G7) 4,i0 (.pick s8 K6 kf)] P4 (sq (o4 [n9,iY]) .ret) sk) as3)))
abbrev jo:q9:= .O3 E1
abbrev ox:q9:= .load none z7
abbrev ew:n8:=os 1 1
abbrev N8:n8:=ml 2
abbrev su:q9:= .off 1 Q7
abbrev eu:n8:=it vD 3
abbrev Wd:q9:= .pick r8 D3 kf
abbrev lH:n8:=i0 Wd
abbrev zl:q9:= .load none G7
abbrev zR:n8:=it zl 8
abbrev P5:q7:=l 12
abbrev as7:o8:=sq (o4 [ew,u7,i0 (.bin .geq A3 (.const (.d (.int .i64 (-4294967296))))),N8,it su 3,eu,it (.bin .leq z7 (k 4294967296)) 3,lH,ml 7,it (.off 2 Q7) 8,zR,it (.bin .eql K6 eP) 8,i0 (.pick F0 P4 kf),i1 (.O3 P5) 2]) .ret
abbrev ig:n8:=os 0 1
abbrev oy:q9:= .load none C3
abbrev G6:n8:=ml 0
abbrev at1:q9:= .bin .eql A3 C2
abbrev fX:n8:=i0 at1
abbrev bg:q9:= .O3 D9
abbrev J8:q7:=k 2
abbrev Wl:q9:= .pick r8 D9 kf
abbrev sJ:n8:=i0 Wl
abbrev iA:q9:= .O3 F0
abbrev Zc:o8:=sq (sq (o4 [ig,i1 oy 3]) (.block 0 (A5 [i0 (.bin .eql V9 C2),G6] A3 (sq (o4 [ew,u7,fX,N8,it (.off 2 Q7) 3,eu,it (.bin .eql z7 eP) 3,lH,i1 bg 2]) .ret) (A5 [i0 (.bin .eql V9 E1),G6] A3 as7 (A5 [i0 (.bin .eql V9 J8),G6] A3 (sq (o4 [ew,u7,fX,N8,it (.off 2 Q7) 3,eu,it (.U9 z7) 3,it (.bin .leq D3 (k 32)) 3,sJ,i1 iA 2]) .ret) sk))))) nB
abbrev as8:q9:= .append 1 16 false C3 D9
abbrev U5:q7:=k 3
abbrev lG:n8:=i1 sV 4
abbrev bG:q7:=k 16
abbrev Zd:o8:=sq (o4 [i0 (.bin .eql L5 U5),lG]) (.cond Y1 sk (sq (o4 [i0 (.bin .eql L5 (k 9)),lG]) (.cond Y1 sk (sq (o4 [i0 (.bin .eql L5 (k 13)),lG]) (.cond Y1 sk (o4 [i0 (.bin .eql L5 bG),lG]))))))
abbrev zP:q9:= .C4 4 E9 r8
abbrev aj:n8:=ld 5
abbrev iW:q9:= .len D3
abbrev Hi:q9:= .bin .lss C3 D9
abbrev UF:o8:=A5 [B9,Y3,B5,p9,i0 zP,ol 1 4,aj,i0 iW,i0 Hi] F0 sk (.exit 0)
abbrev Ht:q9:= .alloc [zs,z0,zs,zs,(w 1),z0,z0]
abbrev fP:q9:= .O3 E9
abbrev ki:q9:= .load none D3
abbrev DG:o8:=sq (o4 [D2,ia]) .ret
abbrev UG:o8:=sq (o4 [i0 (.bin .eql L5 E1),ia]) (.cond V9 sk (o4 [i0 (.bin .eql L5 J8),ia]))
abbrev Y2:n8:=i0 as1
abbrev nN:n8:=ol 0 4
abbrev ke:n8:=i0 as2
abbrev nM:n8:=i0 as8
abbrev sA:n8:=i1 iA 3
abbrev uH:o8:=o4 [D2,dQ,i1 dM 4]
abbrev Ze:o8:=sq (A5 [D2,ig,B5,O5,Y2] s8 sk (.exit 0)) (sq (.block 1 (o4 [J9,ig,B5,D2,i0 zP,nN,aj,ke,nM,sA])) uH)
abbrev Am:o8:=sq (o4 [i1 jo 4]) .ret
abbrev aH:n8:=os 1 3
abbrev BX:q9:= .extract D3 0
abbrev BY:q9:= .extract D3 1
abbrev Zf:o8:=sq (o4 [n9,aH,B5,os 2 3,M9,i0 (.call 121 [C3,E9,s8]),ml 5,i0 BX,i0 BY,ml 7,i1 iA 5]) (A5 [B9,cY] A3 (sq (o4 [B9,iY]) .ret) sk)
abbrev cZ:q9:= .O3 s8
abbrev as9:q9:= .bin .neq A3 eP
abbrev cX:n8:=i1 qk 4
abbrev An:o8:=o4 [cX]
abbrev sR:o8:=o4 [sE]
abbrev VZ:q9:= .un .not E9
abbrev fW:n8:=i0 VZ
abbrev UH:o8:=A5 [R1,p9,i0 (.call 85 [C3,A3]),fW] r8 (sq nx .ret) sk
abbrev bI:q7:=s 8
abbrev NI:o8:=A5 [i0 (.bin .lss (s 9) bI)] C3 sk (.exit 0)
abbrev Jl:q9:= .p8 1 1 [z0] [(0,1,A3)] false
abbrev uW:n8:=i1 GC 1
abbrev Hu:o8:=o4 [uW,i1 oW 2]
abbrev DH:o8:=sq (o4 [i1 jo 2]) .ret
abbrev Zg:o8:=sq (A5 [B9,ew,B5,O5,Y2] s8 sk (.exit 2)) (sq (.block 3 (o4 [J9,ew,B5,B9,i0 (.C4 9 E9 r8),nN,aj,ke,nM,sA])) tX)
abbrev zS:n8:=i1 oW 3
abbrev fV:q9:= .O3 L5
abbrev Zh:o8:=sq (o4 [zS]) (sq (o4 [n9,p9,i0 (.bin .geq C3 A3),N8,it L9 3,it fV 3,it (.bin .leq s8 z7) 3,lH,i1 bg 3]) .ret)
abbrev R4:q7:=l 13
abbrev NJ:q7:= .const (.d (.str [112,101,114,115,111,110]))
abbrev UI:q9:= .load (some 8) Q7
abbrev DI:q7:= .const (.d (.str [118,48]))
abbrev Wf:q9:= .pick E9 s8 kf
abbrev nJ:n8:=i0 Wf
abbrev Zi:o8:=sq zQ (sq (o4 [n9,i0 (.bin .geq C3 (.const (.d (.int .u8 97)))),S7,it L9 2,it (.bin .leq r8 (.const (.d (.int .u8 122)))) 2,nJ,i1 bP 1]) .ret)
abbrev Zj:o8:=sq zQ (sq (o4 [n9,i0 (.bin .geq C3 (.const (.d (.int .u8 48)))),S7,it L9 2,it (.bin .leq r8 (.const (.d (.int .u8 57)))) 2,nJ,i1 bP 1]) .ret)
abbrev fQ:q9:= .O3 D3
abbrev NK:o8:=o4 [i0 (.bin .add (s 9) E1),i1 sV 9]
abbrev at2:q9:= .bin .eql C3 C2
abbrev at3:q9:= .store 1 D9 z7
abbrev at4:q9:= .bin .sub E9 E1
abbrev J4:q7:=s 6
abbrev Zk:o8:=o4 [fG,u7,p9,Y3,M9,jZ,i0 (.bin .sub E9 z7),i0 (.C4 9 A3 D3),i0 (.load (some 9) D9),i1 Jk 6,i0 (.store 9 J4 F0)]
abbrev Hv:o8:=o4 [nF,bK]
abbrev iV:q9:= .load none r8
abbrev K8:n8:=ms 6
abbrev uX:n8:=i1 dM 6
abbrev zi:o8:=o4 [K8,dQ,uX]
abbrev N7:n8:=ms 7
abbrev zj:o8:=o4 [N7,dQ,i1 dM 7]
abbrev nu:q9:= .bin .eql D3 C2
abbrev Gl:q9:= .build [z0,z0,z0,zs,z0] [(0,1,E1),(1,3,A3)]
abbrev N6:q7:=l 14
abbrev Gm:q9:= .p8 5 1 [z0,z0,z0,zs,z0] [(0,5,E9)] false
abbrev Gn:o8:=sq (o4 [R1,i0 (.store 8 V9 C3)]) .ret
abbrev Bv:o8:=o4 [i1 (.alloc [z0,z0,zs]) 1]
abbrev zk:q9:= .append 1 8 false C3 E9
abbrev Wa:q9:= .call 23 [C3,U5]
abbrev Bw:o8:=o4 [oY,zS]
abbrev lz:q9:= .load none F0
abbrev lB:q9:= .load none K6
abbrev KH:o8:=sq (o4 [i0 (.load (some 9) G8),i0 (.store 9 Y1 C3)]) .ret
abbrev Bx:o8:=sq (o4 [zS]) .ret
abbrev oP:q9:= .len z7
abbrev Wb:q9:= .bin .gtr E9 C2
abbrev V6:n8:=ms 8
abbrev By:o8:=o4 [V6,dQ,i1 dM 8]
abbrev Ll:q7:= .const (.d (.str [110,111,110,101]))
abbrev Rs:q9:= .p8 1 4 [zs,zs,zs,zs] [(0,1,eP),(1,1,s8),(2,1,ql),(3,1,Ll)] false
abbrev rZ:o8:=o4 [i1 UJ 4]
abbrev Wc:q9:= .bin .eql A3 J8
abbrev O7:n8:=ms 2
abbrev Hr:q9:= .C4 1 C3 s8
abbrev Hh:q9:= .store 1 D9 D3
abbrev Rt:o8:=o4 [O7,n9,O7,O5,i0 (.call 23 [A3,r8]),i0 Hr,aj,os 3 5,i0 Hh]
abbrev S6:q7:=l 15
abbrev We:q9:= .bin .lss C3 C2
abbrev ny:q9:= .O3 U5
abbrev uJ:q9:= .O3 (k 5)
abbrev uK:q9:= .X6 A3
abbrev Gp:o8:=sq (o4 [nF,i1 jo 3]) .ret
abbrev zo:q9:= .box Q7
abbrev Bz:o8:=o4 [oY,bK]
abbrev X9:q7:=l 16
abbrev sg:q9:= .load none X9
abbrev KI:q9:= .C4 1 C3 E9
abbrev oQ:q9:= .load none P5
abbrev Gq:o8:=sq (o4 [i1 (.O3 (k 7)) 2]) .ret
abbrev Gr:o8:=sq (o4 [i1 (.O3 (k 7)) 4]) .ret
abbrev lD:o8:=sq jY .ret
abbrev uL:o8:=o4 [i1 qk 7]
abbrev Gs:q9:= .p8 1 1 [z0] [(0,1,C2)] false
abbrev V5:q7:=s 7
abbrev KJ:o8:=A5 [i0 (.bin .lss bI V5)] C3 sk (.exit 0)
abbrev zq:q9:= .build [z0,z0,zs] []
abbrev Wg:q9:= .C4 1 A3 r8
abbrev Wh:q9:= .C4 1 C3 C2
abbrev hY:q9:= .O3 G7
abbrev Wk:q9:= .bin .eql E9 C2
abbrev KL:o8:=o4 [K8,i0 (.bin .sub C3 E1),uX]
abbrev Wm:q9:= .C4 5 C3 A3
abbrev Wn:q9:= .C4 7 A3 E9
abbrev BA:q9:= .append 1 8 false C3 A3
abbrev zu:q9:= .bin .lss C3 A3
abbrev Ru:o8:=o4 [i0 (.C4 7 G8 V5),i0 (.load (some 7) C3),i1 Ht 4,i0 (.store 7 Y1 A3)]
abbrev si:q9:= .load none E9
abbrev zv:o8:=o4 [i1 qk 6]
abbrev BB:o8:=o4 [i1 UJ 1]
abbrev sC:n8:=i1 sV 8
abbrev KM:o8:=o4 [i0 (.bin .add bI E1),sC]
abbrev Gx:o8:=sq (o4 [i1 uJ 3]) .ret
abbrev Gy:o8:=sq (o4 [i1 jo 3]) .ret
abbrev zx:q9:= .load (some 3) C3
abbrev BC:q9:= .bin .gtr C3 C2
abbrev zy:q9:= .pick s8 D9 kf
abbrev zz:q9:= .pick s8 kt F0
abbrev zA:q9:= .pick G7 P5 kf
abbrev aa:q7:=l 17
abbrev Wo:q9:= .C4 4 A3 E9
abbrev uM:q9:= .load none P4
abbrev Rv:o8:=A5 [i0 (.bin .eql L5 (k 18)),G6] A3 (sq (o4 [i1 ny 1]) .ret) sk
abbrev uT:n8:=i1 zo 3
abbrev KN:o8:=o4 [oY,uT,cX]
abbrev nA:q9:= .O3 J4
abbrev Y0:q7:=k 4
abbrev BD:q9:= .call 23 [A3,Y0]
abbrev BE:q9:= .call 23 [E9,(k 5)]
abbrev zB:q9:= .C4 1 z7 D9
abbrev BF:q9:= .call 23 [A3,J8]
abbrev BG:q9:= .call 23 [C3,J8]
abbrev zE:q7:= .const .I8
abbrev Wp:q9:= .un .not A3
abbrev GA:q9:= .O3 (.const (.d .cD))
abbrev zF:q9:= .C4 3 E9 r8
abbrev KO:o8:=sq (o4 [i1 (.O3 Y0) 4]) .ret
abbrev ah:q7:=l 18
abbrev oR:q9:= .O3 bI
abbrev BH:o8:=o4 [i1 qk 1]
abbrev dR:n8:=ms 10
abbrev KP:o8:=o4 [dR,dQ,i1 dM 10]
abbrev Rw:o8:=A5 [ms 12,cY] A3 (sq (o4 [ms 12,ia]) .ret) sk
abbrev sj:q9:= .off 0 V9
abbrev sr:q9:= .off 2 V9
abbrev cj:q7:=l 19
abbrev KQ:o8:=sq (o4 [i1 oW 4]) .ret
abbrev BI:q9:= .store 1 D3 s8
abbrev BJ:q9:= .bin .neq A3 C2
abbrev BL:q9:= .bin .eql A3 E1
abbrev BM:q9:= .bin .eql C3 E1
abbrev RA:o8:=A5 [K8,cY] A3 (sq (o4 [K8,iY]) .ret) sk
abbrev GB:q9:= .p8 3 0 [] [] false
abbrev oS:q7:=k 1048576
abbrev Wq:q9:= .len r8
abbrev oT:q9:= .len D9
abbrev oU:q9:= .len F0
abbrev bp:q7:=l 20
abbrev sv:q9:= .O3 G8
abbrev dN:q7:=l 21
abbrev zG:q9:= .un .not s8
abbrev uN:q9:= .off 3 V9
abbrev uO:q9:= .off 5 V9
abbrev zH:o8:=sq uI .ret
abbrev KR:o8:=sq (o4 [i1 ny 3]) .ret
abbrev BN:q9:= .load none aa
abbrev KS:o8:=sq (o4 [i1 zD 3]) .ret
abbrev RB:o8:=A5 [n9,i0 (.CR false C3)] A3 (sq BB .ret) sk
abbrev KT:o8:=o4 [uW,i1 UJ 2]
abbrev KU:o8:=o4 [i1 GC 3,cX]
abbrev dO:q7:=l 22
abbrev cm:q7:=s 10
abbrev GF:q9:= .load (some 4) G8
abbrev BO:q9:= .extract s8 0
abbrev BP:q9:= .extract s8 1
abbrev sw:q9:= .O3 K6
abbrev RC:o8:=A5 [N7,K8,Q2,iZ] r8 sk (.exit 2)
abbrev RD:o8:=A5 [D2,p9,Q2,iZ] r8 sk (.exit 0)
abbrev zI:q9:= .off 0 L5
abbrev zJ:q9:= .off 4 Q7
abbrev GG:q9:= .O3 (.const (w 5))
abbrev GH:o8:=o4 [i1 qk 8]
abbrev GI:q9:= .call 87 [C3,A3]
abbrev GJ:q9:= .call 61 [C3,E9]
abbrev GK:q9:= .load (some 7) r8
abbrev GL:q9:= .bin .eql r8 s8
abbrev GM:q9:= .bin .add r8 D3
abbrev GN:q9:= .bin .sub r8 E1
abbrev zK:q9:= .O3 J8
abbrev uQ:q9:= .O3 V5
abbrev KW:o8:=o4 [i1 (.O3 zE) 2]
abbrev RE:o8:=A5 [i0 (.bin .lss V5 J4)] C3 sk (.exit 0)
abbrev dP:q7:=l 23
abbrev RF:q9:= .p8 5 1 [z0,z0,z0,zs,z0] [(0,5,A3)] false
abbrev GO:q9:= .bin .sub C3 r8
abbrev GP:q9:= .store 1 s8 r8
abbrev RG:q9:= .p8 4 1 [zs,.I8,z0,z0] [(0,4,s8)] false
abbrev GQ:q9:= .pick r8 z7 kf
abbrev GR:q9:= .store 1 D3 z7
abbrev GS:q9:= .bin .geq E9 C2
abbrev GU:q9:= .store 1 F0 D3
abbrev KX:q9:= .alloc [zs,(w 7),z0,z0]
abbrev KY:q9:= .call 84 [A3,r8,s8]
abbrev zL:q9:= .X6 z7
abbrev zM:q9:= .off 1 V9
abbrev RJ:o8:=o4 [D2,B9,i0 Jl,i0 zk,iX]
abbrev RK:q9:= .build [(w 1),(w 1)] [(0,1,z7),(1,1,F0)]
abbrev KZ:o8:=o4 [B9,lG]
abbrev BQ:q9:= .un .not r8
abbrev BR:q9:= .un .not D9
abbrev GV:q9:= .C4 1 z7 E1
abbrev BS:q9:= .un .not F0
abbrev BT:q9:= .un .not P4
abbrev uR:q9:= .len P4
abbrev RL:o8:=o4 [i1 L9 5,i1 (.len G8) 6,i1 qk 7]
abbrev RM:o8:=o4 [i1 Z5 7,i1 (.len V5) 8,i1 qk 9]
abbrev RN:o8:=o4 [i0 (.bin .add (s 17) E1),i1 sV 17]
abbrev RO:o8:=A5 [K8,B9,i0 zu] E9 sk (.exit 2)
abbrev La:q7:= .const (.d (.str [114]))
abbrev GW:q9:= .C4 5 C3 C2
abbrev GX:q9:= .load none N6
abbrev sD:n8:=i1 sV 7
abbrev RP:o8:=o4 [i0 (.bin .add V5 E1),sD]
abbrev GY:q9:= .load none dN
abbrev Lb:q7:= .const (.d (.str [98]))
abbrev RQ:o8:=sq (o4 [p9,nF,ia]) .ret
abbrev RR:q9:= .p8 3 1 [zs,zs,z0] [(0,3,F0)] false
abbrev BU:o8:=sq An .ret
abbrev nL:n8:=i0 at2
abbrev sB:n8:=i1 dM 2
abbrev RS:o8:=sq (o4 [J9,nL,sB]) .ret
abbrev BV:o8:=sq NL .ret
abbrev BW:q9:= .off 4 J4
abbrev Lc:q9:= .alloc [zs,z0,(w 5)]
abbrev GZ:q9:= .extract r8 0
abbrev He:q9:= .extract r8 1
abbrev RT:q9:= .call 35 [(.const (.d (.str [122]))),G7]
abbrev Ld:q9:= .call 23 [D3,Y0]
abbrev RU:o8:=A5 [K8,i0 BC] A3 sk (.exit 0)
abbrev bH:q7:=k 8
abbrev Lf:q9:= .call 23 [C3,(k 5)]
abbrev RV:q9:= .build [z0,z0,z0,zs,z0] [(0,1,C3)]
abbrev BZ:q9:= .off 0 s8
abbrev Lg:q9:= .bin .eql (l 24) C2
abbrev Lh:q9:= .call 23 [E9,J8]
abbrev Li:o8:=o4 [i1 uJ 5]
abbrev Lj:q9:= .call 23 [E9,Y0]
abbrev Lk:o8:=o4 [i1 zN 3]
abbrev Hf:q9:= .call 36 [C3]
abbrev RW:o8:=o4 [uW,nF,bK]
abbrev RX:o8:=sq (o4 [bK,i1 jo 4]) .ret
abbrev Lm:o8:=o4 [i1 qk 10]
abbrev Ln:q9:= .call 153 [A3,E9]
abbrev Lo:q9:= .call 23 [E9,z7]
abbrev Lp:q9:= .pick S6 kt cj
abbrev RY:q7:= .const (.d (.str [109,97,105,108]))
abbrev RZ:o8:=sq (o4 [i1 (.O3 (k 7)) 3]) .ret
abbrev Sa:o8:=sq (o4 [i1 (.O3 Y0) 2]) .ret
abbrev Sb:o8:=sq (o4 [i1 (.O3 Y0) 3]) .ret
abbrev Lq:q9:= .call 61 [C3,A3]
abbrev Lr:q9:= .call 23 [C3,E9]
abbrev Sc:q9:= .p8 1 1 [z0] [(0,1,r8)] false
abbrev Ls:q9:= .load (some 3) s8
abbrev Lt:q9:= .load (some 3) D3
abbrev Lu:q9:= .bin .eql s8 C2
abbrev Lv:q9:= .bin .neq D3 C2
abbrev Lw:q9:= .bin .gtr D9 C2
abbrev Lx:q9:= .bin .sub D3 E1
abbrev Lz:q9:= .bin .neq z7 E1
abbrev LA:q9:= .bin .neq z7 eP
abbrev LB:q9:= .bin .eql P4 C2
abbrev LD:q9:= .bin .gtr P4 C2
abbrev LF:q9:= .load (some 4) V9
abbrev LG:q9:= .bin .eql E9 J8
abbrev LH:q9:= .bin .eql C3 J8
abbrev LI:q9:= .pick D9 kt N6
abbrev LJ:q9:= .pick P4 kt S6
abbrev LK:q9:= .C4 1 V5 (s 9)
abbrev sx:q7:=k 1024
abbrev Sd:o8:=o4 [D2,i0 (.call 42 [C3])]
abbrev fY:n8:=ms 11
abbrev Se:o8:=o4 [fY,dQ,i1 dM 11]
abbrev Sf:o8:=o4 [ms 13,dQ,i1 dM 13]
abbrev Sg:q9:= .p8 1 1 [z0] [(0,1,C2)] true
abbrev Si:o8:=sq (o4 [K8,ia]) .ret
abbrev Sj:o8:=sq (o4 [O7,i1 sV 1]) .ret
abbrev LL:q9:= .bin .geq C3 r8
abbrev LM:q9:= .bin .eql E9 z7
abbrev LN:q9:= .store 1 z7 r8
abbrev LO:q9:= .bin .neq C3 E1
abbrev LP:q9:= .bin .neq A3 E1
abbrev LQ:q9:= .bin .add E1 A3
abbrev LR:q9:= .bin .add E1 E9
abbrev LS:q9:= .bin .eql E9 E1
abbrev LU:q9:= .pick s8 F0 kf
abbrev LV:q9:= .store 1 P4 K6
abbrev LW:q9:= .pick r8 kt G7
abbrev LX:q9:= .store 1 K6 G7
abbrev LY:q9:= .pick F0 P5 kf
abbrev LZ:q9:= .pick G7 R4 kf
abbrev Ma:q9:= .store 3 V9 D9
abbrev Mb:q9:= .store 8 L5 C3
abbrev nC:q7:=l 27
abbrev Sk:o8:=o4 [O7,dQ,sB]
abbrev Hj:o8:=sq zQ .ret
abbrev Hl:q9:= .off 1 L5
abbrev Ho:q9:= .off 4 L5
abbrev Hp:q9:= .off 0 Y1
abbrev Mc:q9:= .load none (l 26)
abbrev Md:q9:= .store 1 r8 E9
abbrev Me:q9:= .C4 2 r8 s8
abbrev Mf:q9:= .C4 4 s8 z7
abbrev Mg:q9:= .C4 3 s8 z7
abbrev Ca:q9:= .O3 R4
abbrev lE:q7:=l 25
abbrev Mh:q9:= .C4 2 E9 r8
abbrev Hs:q9:= .X6 s8
abbrev Mi:q9:= .C4 4 A3 D3
abbrev Mj:q9:= .load none Q7
abbrev Sl:o8:=sq (o4 [i1 ny 4]) .ret
abbrev Sm:o8:=sq (o4 [i1 uJ 2]) .ret
abbrev Sn:o8:=sq (o4 [i1 uJ 4]) .ret
abbrev Mk:q9:= .load none V5
abbrev Sp:o8:=sq (o4 [i1 zD 1]) .ret
abbrev Ml:q9:= .load none cj
abbrev Mm:q9:= .load none dO
abbrev Sq:o8:=sq (o4 [i1 zK 1]) .ret
abbrev Mo:q9:= .load none nC
abbrev J1:n8:=i0 Ji
abbrev fF:n8:=i0 lP
abbrev nD:n8:=if_ ox 4
abbrev T7:n8:=ld 4
abbrev ie:n8:=i0 as9
abbrev nE:n8:=i1 fE 2
abbrev oX:n8:=i1 fP 7
abbrev nK:n8:=i0 oP
abbrev lI:n8:=i0 at4
abbrev lJ:n8:=i0 at3
abbrev ja:n8:=os 6 2
abbrev jb:n8:=ol 0 1
abbrev pe:n8:=i0 Wq
abbrev pg:n8:=i0 Wb
abbrev uV:n8:=i1 fP 3
abbrev sF:n8:=i0 Wp
abbrev sG:n8:=i0 Wn
abbrev sH:n8:=i0 Wm
abbrev sK:n8:=i0 Wh
abbrev sM:n8:=i0 Wg
abbrev sN:n8:=i0 uK
abbrev sO:n8:=i0 We
abbrev sP:n8:=i0 Wc
abbrev sQ:n8:=i0 Wa
abbrev lK:n8:=os 1 6
abbrev pn:n8:=i0 UI
abbrev uY:n8:=i0 Wo
abbrev uZ:n8:=i0 Wk
abbrev ve:n8:=i0 KI
def O4 (t:p7){x:p7}(h:t=x:=by dsimp only [C2,qk,C3,A3,n9,kg,B5,E9,r8,fE,iX,D2,as6,cY,sV,iY,UC,p9,as5,O5,s8,oW,tW,nB,bK,uI,J9,UE,Q2,at0,iZ,KV,at5,ic,P0,z7,Hq,D9,F0,E1,zq7,dQ,dM,oZ,zN,Mn,zq4,L5,Sr,UJ,L9,vB,V9,lP,Ji,nF,jY,D3,as1,GC,sE,Gz,G8,Y1,Gu,B9,ia,NL,M9,vE,bJ,Gw,Jj,zD,GD,Za,as2,Q7,Z5,fG,u7,Y3,Gv,jZ,Jk,UB,R1,S7,Wi,nI,Wj,nG,bP,RH,vD,tX,fD,nx,UD,ql,zw,oV,G7,K6,P4,uS,as3,oY,sy,eP,zQ,R2,uP,uU,as4,Hg,Zb,jo,ox,ew,N8,su,eu,Wd,lH,zl,zR,P5,as7,ig,oy,G6,at1,fX,bg,J8,Wl,sJ,iA,Zc,as8,U5,lG,bG,Zd,zP,aj,iW,Hi,UF,Ht,fP,ki,DG,UG,Y2,nN,ke,nM,sA,uH,Ze,Am,aH,BX,BY,Zf,cZ,as9,cX,An,sR,VZ,fW,UH,bI,NI,Jl,uW,Hu,DH,Zg,zS,fV,Zh,R4,NJ,UI,DI,Wf,nJ,Zi,Zj,fQ,NK,at2,at3,at4,J4,Zk,Hv,iV,K8,uX,zi,N7,zj,nu,Gl,N6,Gm,Gn,Bv,zk,Wa,Bw,lz,lB,KH,Bx,oP,Wb,V6,By,Ll,Rs,rZ,Wc,O7,Hr,Hh,Rt,S6,We,ny,uJ,uK,Gp,zo,Bz,X9,sg,KI,oQ,Gq,Gr,lD,uL,Gs,V5,KJ,zq,Wg,Wh,hY,Wk,KL,Wm,Wn,BA,zu,Ru,si,zv,BB,sC,KM,Gx,Gy,zx,BC,zy,zz,zA,aa,Wo,uM,Rv,uT,KN,nA,Y0,BD,BE,zB,BF,BG,zE,Wp,GA,zF,KO,ah,oR,BH,dR,KP,Rw,sj,sr,cj,KQ,BI,BJ,BL,BM,RA,GB,oS,Wq,oT,oU,bp,sv,dN,zG,uN,uO,zH,KR,BN,KS,RB,KT,KU,dO,cm,GF,BO,BP,sw,RC,RD,zI,zJ,GG,GH,GI,GJ,GK,GL,GM,GN,zK,uQ,KW,RE,dP,RF,GO,GP,RG,GQ,GR,GS,GU,KX,KY,zL,zM,RJ,RK,KZ,BQ,BR,GV,BS,BT,uR,RL,RM,RN,RO,La,GW,GX,sD,RP,GY,Lb,RQ,RR,BU,nL,sB,RS,BV,BW,Lc,GZ,He,RT,Ld,RU,bH,Lf,RV,BZ,Lg,Lh,Li,Lj,Lk,Hf,RW,RX,Lm,Ln,Lo,Lp,RY,RZ,Sa,Sb,Lq,Lr,Sc,Ls,Lt,Lu,Lv,Lw,Lx,Lz,LA,LB,LD,LF,LG,LH,LI,LJ,LK,sx,Sd,fY,Se,Sf,Sg,Si,Sj,LL,LM,LN,LO,LP,LQ,LR,LS,LU,LV,LW,LX,LY,LZ,Ma,Mb,nC,Sk,Hj,Hl,Ho,Hp,Mc,Md,Me,Mf,Mg,Ca,lE,Mh,Hs,Mi,Mj,Sl,Sm,Sn,Mk,Sp,Ml,Mm,Sq,Mo,J1,fF,nD,T7,ie,nE,oX,nK,lI,lJ,ja,jb,pe,pg,uV,sF,sG,sH,sK,sM,sN,sO,sP,sQ,lK,pn,uY,uZ,ve,o4,eF,A5,FW,k,kt,kf,z0,zs,zb,w,l,s,i0,i1,it,if_,i3,ms,ml,os,ol,ld,sq,rg,te,sk]):{ x:p7 // t=x }:=⟨x,h⟩
end Go.y3.Z


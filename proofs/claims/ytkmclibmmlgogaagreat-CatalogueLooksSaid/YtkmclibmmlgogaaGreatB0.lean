/- Texts A1 A2 A3 A4 A5 A6 A7 Z1 Z2 (made short by a program) -/
import Derived.Calls
import Derived.Below
import Derived.WalkKit
import Derived.Laws.BytesString
import Derived.Lib.Strings
set_option linter.unusedVariables false
set_option linter.unusedSimpArgs false
open Bool renaming and_eq_true → b5, not_eq_true' → j5
open List renaming cons_append → D9, getElem?_eq_getElem → o8, getElem?_eq_none → q9, length_cons → A2, map_cons → H8, mem_cons → x9, replicate → c9
open Nat renaming add_assoc → I8, le_refl → k9, lt_or_ge → p9
open Option renaming map_some → F1
namespace Go.z7
inductive Data where
 |bool (b:Bool)
 |int (k:IntKind) (n:Int)
 |str (s:List UInt8)
 |slice (len:Nat) (cells:List Data)
 |cj
 |O0
 |ew
 |nilIface
 deriving Inhabited
inductive b6 where
 |any
 |d (x:Data)
 |ptr (id off:Nat)
 |Q9 (cells:List Data)
 |E3 (id sz lo len:Nat)
 |own (sz len:Nat) (cells:List Data)
 |J6
 |agg (cells:List b6)
 |tuple (vs:List b6)
 |func (f:FuncId) (first caps:List b6)
 |map (id:Nat)
 deriving Inhabited
inductive z6 where
 |dead
 |cells (l:List b6)
 |map (es:List (Data×b6))
 deriving Inhabited
abbrev o6:=List z6
inductive u5 where
 |loc (j:Nat)
 |slot (s:Nat)
 |const (v:b6)
 deriving Inhabited
inductive CK where
 |i
 |s
 |b
 deriving DecidableEq,Inhabited
inductive y6 where
 |N8 (x:u5)
 |pick (c a b:u5)
 |alloc (zero:List b6)
 |box (x:u5)
 |build (zero:List b6) (parts:List (Nat×Nat×u5))
 |A1 (sz len:Nat) (zero:List b6) (parts:List (Nat×Nat×u5)) (ob:Bool)
 |load (n:Option Nat) (x:u5)
 |store (n:Nat) (a x:u5)
 |Z5 (x:u5)
 |bin (op:BinOp) (x y:u5)
 |un (op:UnOp) (x:u5)
 |BS (neg:Bool) (x:u5)
 |Hg (neg:Bool) (x:u5)
 |o9 (neg:Bool) (x y:u5)
 |Mf (neg:Bool) (ks:List CK) (x y:u5)
 |kQ (k:IntKind) (x:u5)
 |oM (x:u5)
 |Bw (x:u5)
 |iM (x:u5)
 |pF (x:u5) (lo hi:Option u5)
 |aT (sz:Nat) (x:u5) (lo hi:Option u5)
 |off (k:Nat) (x:u5)
 |C3 (sz:Nat) (x i:u5)
 |fN (n sz:Nat) (x i:u5)
 |B8 (x i:u5)
 |extract (x:u5) (i:Nat)
 |len (x:u5)
 |U7 (x:u5)
 |BN (x:u5)
 |append (sz bytes:Nat) (ob:Bool) (x y:u5)
 |fC (isMax:Bool) (xs:List u5)
 |clear (sz:Nat) (zero:List b6) (x:u5)
 |Y3 (f:FuncId) (first caps:List u5)
 |call (f:FuncId) (xs:List u5)
 |au (x:u5) (xs:List u5)
 |makeMap
 |lookup (kk:CK) (zero:b6) (ok:Bool) (m k:u5)
 |dn (kk:CK) (m k v:u5)
 |defer (x:u5)
 |bad
 deriving Inhabited
structure n9 where
 op:y6
 dst:Option Nat:=none
 guard:Option (Nat×Bool):=none
 cO:List Nat:=[]
 deriving Inhabited
inductive p6 where
 |skip
 |region (ops:List n9) (draw:Bool)
 |seq (a b:p6)
 |cond (c:u5) (thn els:p6)
 |test (ops:List n9) (draw:Bool) (c:u5) (thn els:p6)
 |block (id:Nat) (body:p6)
 |loop (mask:List Bool) (body:p6)
 |exit (id:Nat)
 |ret
 |fz (s:Nat)
 |bad
 deriving Inhabited
inductive yM where
 |slot (s:Nat)
 |cell (s:Nat) (n:Option Nat)
 deriving Inhabited
structure q6 where
 nparams:Nat
 names:List Nat
 body:p6
 results:List yM
 aL:Bool:=false
 deriving Inhabited
def b6.G9:b6->b6
 | .own _ len cells=> .d (.slice len cells)
 | .J6=> .d (.slice 0 [])
 |v=>v
def b6.one:b6->Bool
 | .any=>false
 | .agg _=>false
 | .tuple _=>false
 |_=>true
def b6.cells? :b6->Option (List b6)
 | .agg l=>if l.all b6.one then some l else none
 |v=>if v.one then some [v] else none
def b6.data? :b6->Option Data
 | .d x=>some x
 | .own _ len cells=>some (.slice len cells)
 | .J6=>some (.slice 0 [])
 |_=>none
def M9 :List b6->Option (List Data)
 |[]=>some []
 |v::vs=>match v.data? with
  |some x=>match M9 vs with
   |some xs=>some (x::xs)
   |none=>none
  |none=>none
mutual
def b6.N7:b6->Nat
 | .ptr id _=>id+1
 | .E3 id _ _ _=>id+1
 | .map id=>id+1
 | .agg l=>A9 l
 | .tuple l=>A9 l
 | .func _ a b=>max (A9 a) (A9 b)
 |_=>0
def A9:List b6->Nat
 |[]=>0
 |v::vs=>max v.N7 (A9 vs)
end
mutual
def b6.kill (id:Nat):b6->b6
 | .ptr i o=>if i=id then .any else .ptr i o
 | .E3 i z l n=>if i=id then .any else .E3 i z l n
 | .map i=>if i=id then .any else .map i
 | .agg l=> .agg (J0 id l)
 | .tuple l=> .tuple (J0 id l)
 | .func f a b=> .func f (J0 id a) (J0 id b)
 |v=>v
def J0 (id:Nat):List b6->List b6
 |[]=>[]
 |v::vs=>v.kill id::J0 id vs
end
def z6.N7:z6->Nat
 | .dead=>0
 | .cells l=>A9 l
 | .map es=>A9 (es.map (·.2))
def P3:List z6->Nat->Bool
 |[],_=>true
 |o::os,k=>o.N7<=k+1&&P3 os (k+1)
def Y2:List z6->Nat
 |[]=>0
 |o::os=>max o.N7 (Y2 os)
def z6.kill (id:Nat):z6->z6
 | .dead=> .dead
 | .cells l=> .cells (J0 id l)
 | .map es=> .map (es.map fun p=>(p.1,p.2.kill id))
def rd (H:o6)(id off n:Nat):Option (List b6) :=
 match H[id]? with
 |some (.cells l)=>if off+n<=l.length then some ((l.drop off).take n) else none
 |_=>none
def splice (l:List b6)(off:Nat)(vs:List b6):List b6:=l.take off++vs++l.drop (off+vs.length)
def wr (H:o6)(id off:Nat)(vs:List b6):Option o6 :=
 match H[id]? with
 |some (.cells l)=>if off+vs.length<=l.length then some (H.set id (.cells (splice l off vs))) else none
 |_=>none
def i64 (n:Int):b6:= .d (.int .i64 n)
def aO (op:BinOp)(k:IntKind)(a b:Int):Option Data :=
 match op with
 | .add=>some (.int k (k.wrap (a+b)))
 | .sub=>some (.int k (k.wrap (a - b)))
 | .mul=>some (.int k (k.wrap (a * b)))
 | .quo=>if b=0 then none else some (.int k (k.wrap (a.tdiv b)))
 | .rem=>if b=0 then none else some (.int k (a.tmod b))
 | .and=>some (.int k (k.wrap (BitVec.ofInt k.bits a&&&BitVec.ofInt k.bits b).toNat))
 | .or=>some (.int k (k.wrap (BitVec.ofInt k.bits a|||BitVec.ofInt k.bits b).toNat))
 | .xor=>some (.int k (k.wrap (BitVec.ofInt k.bits a ^^^ BitVec.ofInt k.bits b).toNat))
 | .eql=>some (.bool (a==b))
 | .neq=>some (.bool (a != b))
 | .lss=>some (.bool (a<b))
 | .leq=>some (.bool (a<=b))
 | .gtr=>some (.bool (a>b))
 | .geq=>some (.bool (a≥b))
 |_=>none
def vz (op:BinOp)(k:IntKind)(a b:Int):Option Data :=
 if b<0 then none else
 match op with
 | .shl=>some (.int k (k.wrap (a * 2 ^ (min b.toNat k.bits))))
 | .shr=>some (.int k (a.fdiv (2 ^ (min b.toNat k.bits))))
 |_=>none
def sx (op:BinOp)(a b:List UInt8):Option Data :=
 match op with
 | .add=>if a.length+b.length<4611686018427387904 then some (.str (a++b)) else none
 | .eql=>some (.bool (a==b))
 | .neq=>some (.bool (!(a==b)))
 | .lss=>some (.bool (Op.bytesLess a b))
 | .leq=>some (.bool (Op.bytesLess a b||a==b))
 | .gtr=>some (.bool (!(Op.bytesLess a b||a==b)))
 | .geq=>some (.bool (!(Op.bytesLess a b)))
 |_=>none
def W2:BinOp->Bool
 | .shl=>true
 | .shr=>true
 |_=>false
def L7 (op:BinOp):Data->Data->Option Data
 | .int k a,.int k' b=>if W2 op then vz op k a b else if k=k' then aO op k a b else none
 | .str a,.str b=>sx op a b
 |_,_=>none
def xZ (op:UnOp):Data->Option Data
 | .int k n=>match op with
  | .neg=>some (.int k (k.wrap (0 - n)))
  |_=>none
 | .bool b=>match op with
  | .not=>some (.bool (!b))
  |_=>none
 |_=>none
def bH (cells:List b6):List (Nat×Nat×b6)->Option (List b6)
 |[]=>some cells
 |(off,sz,v)::rest=>match v.cells? with
  |some l=>if l.length=sz/\off+sz<=cells.length then bH (splice cells off l) rest else none
  |none=>none
def eO :List Data->Option (List UInt8)
 |[]=>some []
 | .int .u8 n::r=>match eO r with
  |some bs=>some (UInt8.ofNat n.toNat::bs)
  |none=>none
 |_=>none
def uT (isMax:Bool)(a b:Data):Option Data :=
 match a,b with
 | .int k x,.int _ y=>some (.int k (if isMax then (if y>x then y else x) else (if y<x then y else x)))
 |_,_=>none
def dw (isMax:Bool):Data->List b6->Option Data
 |a,[]=>some a
 |a,.d b::r=>match uT isMax a b with
  |some c=>dw isMax c r
  |none=>none
 |_,_=>none
def Data.Z0:CK->Data->Data->Option Bool
 | .i,.int k a,.int k' b=>if k=k' then some (a==b) else none
 | .s,.str a,.str b=>some (a==b)
 | .b,.bool a,.bool b=>some (a==b)
 |_,_,_=>none
def nx:List CK->List b6->List b6->Option Bool
 |[],[],[]=>some true
 |k::ks,.d a::r,.d b::q=>match Data.Z0 k a b with
  |some t=>match nx ks r q with
   |some u=>some (t&&u)
   |none=>none
  |none=>none
 |_,_,_=>none
def bf (kk:CK)(k:Data):List (Data×b6)->Option (Option b6)
 |[]=>some none
 |(k',v)::r=>match Data.Z0 kk k k' with
  |some true=>some (some v)
  |some false=>bf kk k r
  |none=>none
def cg (kk:CK)(k:Data)(v:b6):List (Data×b6)->Option (List (Data×b6))
 |[]=>some [(k,v)]
 |(k',v')::r=>match Data.Z0 kk k k' with
  |some true=>some ((k,v)::r)
  |some false=>match cg kk k v r with
   |some r' =>some ((k',v')::r')
   |none=>none
  |none=>none
def S1 (ρ:u5->b6)(dflt:Nat):Option u5->Option Int
 |none=>some dflt
 |some x=>match ρ x with
  | .d (.int _ n)=>some n
  |_=>none
def J7 (H:o6)(sz:Nat):b6->Option (Nat×List b6)
 | .d (.slice len cells)=>if cells.length=len * sz then some (len,cells.map .d) else none
 | .own z len cells=>if z=sz then some (len,cells.map .d) else none
 | .E3 id z lo len=>if z=sz then match rd H id lo (len * sz) with
   |some cs=>some (len,cs.map b6.G9)
   |none=>none
  else none
 | .d (.str s)=>if sz=1 then some (s.length,s.map fun b=> .d (.int .u8 b.toNat)) else none
 |_=>none
def m7 (ρ:u5->b6)(H:o6):y6->Option (b6×List Nat)
 | .pick c a b=>match ρ c with
  | .d (.bool t)=>some (if t then ρ a else ρ b,[])
  |_=>none
 | .build zero parts=>match bH zero (parts.map fun (o,s,x)=>(o,s,ρ x)) with
  |some cs=>some (.agg cs,[])
  |none=>none
 | .A1 sz len zero parts false=>match bH zero (parts.map fun (o,s,x)=>(o,s,ρ x)) with
  |some cs=>match M9 cs with
   |some xs=>if 0<sz/\xs.length=len * sz then some (.own sz len xs,[]) else none
   |none=>none
  |none=>none
 | .load none x=>match ρ x with
  | .ptr id off=>match rd H id off 1 with
   |some [v]=>some (v.G9,[id])
   |_=>none
  | .Q9 (c::_)=>some (.d c,[])
  |_=>none
 | .load (some n) x=>match ρ x with
  | .ptr id off=>match rd H id off n with
   |some vs=>some (.agg (vs.map b6.G9),[id])
   |none=>none
  | .Q9 cells=>if n<=cells.length then some (.agg ((cells.take n).map .d),[]) else none
  |_=>none
 | .Z5 x=>match ρ x with
  | .ptr id off=>some (.ptr id off,[])
  | .Q9 cells=>some (.Q9 cells,[])
  | .func f a b=>some (.func f a b,[])
  |_=>none
 | .bin op x y=>match ρ x,ρ y with
  | .d a,.d b=>match L7 op a b with
   |some r=>some (.d r,[])
   |none=>none
  |_,_=>none
 | .Hg neg x=>match ρ x with
  | .d .nilIface=>some (.d (.bool (!neg)),[])
  |_=>none
 | .o9 neg x y=>match ρ x,ρ y with
  | .d (.bool a),.d (.bool b)=>some (.d (.bool (neg != (a==b))),[])
  |_,_=>none
 | .Mf neg ks x y=>match ρ x,ρ y with
  | .agg a,.agg b=>match nx ks a b with
   |some t=>some (.d (.bool (neg != t)),[])
   |none=>none
  |_,_=>none
 | .un op x=>match ρ x with
  | .d a=>match xZ op a with
   |some r=>some (.d r,[])
   |none=>none
  |_=>none
 | .BS neg x=>match ρ x with
  | .d (.slice len _)=>if 0<len then some (.d (.bool neg),[]) else none
  | .E3 _ _ _ _=>some (.d (.bool neg),[])
  |_=>none
 | .kQ k x=>match ρ x with
  | .d (.int _ n)=>some (.d (.int k (k.wrap n)),[])
  |_=>none
 | .oM x=>match ρ x with
  | .d (.str s)=>some (.d (.str s),[])
  |_=>none
 | .iM x=>match ρ x with
  | .d (.slice len cells)=>if cells.length=len then match eO cells with
    |some bs=>some (.d (.str bs),[])
    |none=>none
   else none
  |_=>none
 | .Bw x=>match ρ x with
  | .d (.str s)=>some (.own 1 s.length (s.map fun b=> .int .u8 b.toNat),[])
  |_=>none
 | .pF x lo hi=>match ρ x with
  | .d (.str s)=>match S1 ρ 0 lo,S1 ρ s.length hi with
   |some l,some h=>if 0<=l/\l<=h/\h<=s.length then some (.d (.str ((s.take h.toNat).drop l.toNat)),[]) else none
   |_,_=>none
  |_=>none
 | .aT sz x lo hi=>match ρ x with
  | .d (.slice len cells)=>match S1 ρ 0 lo,S1 ρ len hi with
   |some l,some h=>if 0<=l/\l<=h/\h<=len/\cells.length=len * sz then
     some (.d (.slice (h - l).toNat ((cells.take (h.toNat * sz)).drop (l.toNat * sz))),[]) else none
   |_,_=>none
  | .E3 id z a len=>match S1 ρ 0 lo,S1 ρ len hi with
   |some l,some h=>if 0<=l/\l<=h/\h<=len/\z=sz then
     if l=h then some (.d (.slice 0 []),[]) else some (.E3 id sz (a+l.toNat * sz) (h - l).toNat,[]) else none
   |_,_=>none
  |_=>none
 | .off k x=>match ρ x with
  | .ptr id off=>some (.ptr id (off+k),[])
  | .Q9 cells=>some (.Q9 (cells.drop k),[])
  |_=>none
 | .C3 sz x i=>match ρ x,ρ i with
  | .d (.slice len cells),.d (.int _ i)=>if 0<=i/\i<len then some (.Q9 (cells.drop (i.toNat * sz)),[]) else none
  | .E3 id z lo len,.d (.int _ i)=>if 0<=i/\i<len/\z=sz then some (.ptr id (lo+i.toNat * sz),[]) else none
  |_,_=>none
 | .fN n sz x i=>match ρ x,ρ i with
  | .ptr id off,.d (.int _ i)=>if 0<=i/\i<n then some (.ptr id (off+i.toNat * sz),[]) else none
  | .Q9 cells,.d (.int _ i)=>if 0<=i/\i<n then some (.Q9 (cells.drop (i.toNat * sz)),[]) else none
  |_,_=>none
 | .B8 x i=>match ρ x,ρ i with
  | .d (.str s),.d (.int _ i)=>if 0<=i then match s[i.toNat]? with
    |some b=>some (.d (.int .u8 b.toNat),[])
    |none=>none
   else none
  |_,_=>none
 | .extract x i=>match ρ x with
  | .tuple vs=>match vs[i]? with
   |some v=>some (v,[])
   |none=>none
  |_=>none
 | .len x=>match ρ x with
  | .d (.slice len _)=>some (i64 len,[])
  | .E3 _ _ _ len=>some (i64 len,[])
  |_=>none
 | .U7 x=>match ρ x with
  | .d (.str s)=>some (i64 s.length,[])
  |_=>none
 | .BN x=>match ρ x with
  | .d .ew=>some (i64 0,[])
  | .map id=>match H[id]? with
   |some (.map es)=>some (i64 es.length,[id])
   |_=>none
  |_=>none
 | .fC isMax xs=>match xs.map ρ with
  | .d a::r=>match dw isMax a r with
   |some c=>some (.d c,[])
   |none=>none
  |_=>none
 | .Y3 f first caps=>some (.func f (first.map ρ) (caps.map ρ),[])
 | .lookup kk zero ok m k=>match ρ m,ρ k with
  | .map id,.d key=>match H[id]? with
   |some (.map es)=>match bf kk key es with
    |some r=>some (if ok then .tuple [r.getD zero,.d (.bool r.isSome)] else r.getD zero,[id])
    |none=>none
   |_=>none
  | .d .ew,.d key=>match Data.Z0 kk key key with
   |some true=>some (if ok then .tuple [zero,.d (.bool false)] else zero,[])
   |_=>none
  |_,_=>none
 |_=>none
inductive Touch where
 |slot (s:Nat)
 |obj (id:Nat)
 |cell (id off:Nat)
 |below (n:Nat)
 deriving Inhabited
structure F0 where
 T:List b6
 H:o6
 L:List b6
 n7:List Touch
def Touch.R1 (s:Nat):Touch->Bool
 | .slot t=>t==s
 |_=>false
def Touch.K1 (id:Nat):Touch->Bool
 | .obj i=>i==id
 | .below n=>id<n
 |_=>false
def Touch.aJ (id off:Nat):Touch->Bool
 | .obj i=>i==id
 | .cell i o=>i==id&&o==off
 | .below n=>id<n
 |_=>false
def b6.Me:b6->b6
 | .J6=> .J6
 |v=>v.G9
def F8 (T L:List b6):u5->b6
 | .loc j=>(L.getD j .any).G9
 | .slot s=>(T.getD s .any).G9
 | .const v=>v.Me
def Z6 (st:F0):u5->Option (Nat×Nat)
 | .loc m=>match st.L[m]? with
  |some (.ptr id off)=>some (id,off)
  |_=>none
 | .slot s=>if st.n7.any (Touch.R1 s) then none else match st.T[s]? with
  |some (.ptr id off)=>some (id,off)
  |_=>none
 | .const _=>none
structure H7 where
 SX:Nat
 SW:Nat
 base:Nat
 strict:Nat
def H7.may (l:H7)(id:Nat):Bool:=decide (id<l.SX)||decide (l.SW<=id)
def H7.kr (l:H7)(a b base strict:Nat):H7 :=
 if l.SW<=l.SX then ⟨a,b,base,strict⟩ else ⟨min l.SX a,max l.SW b,base,strict⟩
def U9 (l:H7)(st:F0)(sz:Nat):y6->Option (Nat×List Data×F0)
 | .N8 (.slot s) =>
  if st.n7.any (Touch.R1 s) then none else
  match st.T[s]? with
  |some (.own z len cells)=>if z=sz then some (len,cells,{ st with T:=st.T.set s (.d (.slice len cells)),n7:= .slot s::st.n7 }) else none
  |_=>none
 | .load none x =>
  match Z6 st x with
  |some (id,off) =>
   if st.n7.any (Touch.aJ id off)|| !l.may id then none else
   match st.H[id]? with
   |some (.cells cs) =>
    match cs[off]? with
    |some (.own z len cells)=>if z=sz then some (len,cells,{ st with H:=st.H.set id (.cells (cs.set off (.d (.slice len cells)))),n7:= .cell id off::st.n7 }) else none
    |_=>none
   |_=>none
  |none=>none
 |_=>none
def P6 (l:H7)(j4:List n9)(st:F0)(sz:Nat):u5->Option (Nat×List Data×F0)
 | .const (.own z len cells)=>if z=sz then some (len,cells,st) else none
 | .const _=>none
 | .slot _=>none
 | .loc j =>
  match st.L[j]? with
  |some (.own z len cells)=>if z=sz then some (len,cells,{ st with L:=st.L.set j (.d (.slice len cells)) }) else none
  |some (.d (.slice _ _))=>match j4[j]? with
   |some a=>U9 l st sz a.op
   |none=>none
  |_=>none
def roomFor (n bytes:Nat):Bool:=decide ((2 * n+512) * bytes<=281474976710656)
abbrev pT:=FuncId->List b6->o6->H7->Option (b6×o6)
def put (st:F0)(k:Nat)(v:b6):F0:={ st with L:=st.L.set k v }
def D8 (st:F0):u5->b6×F0
 | .loc j=>match st.L[j]? with
  |some (.own z len cells)=>(.own z len cells,{ st with L:=st.L.set j (.d (.slice len cells)) })
  |_=>(F8 st.T st.L (.loc j),st)
 | .const v=>(v,st)
 | .slot s=>(F8 st.T st.L (.slot s),st)
structure Env where
 cf:pT
 prom:FuncId->Bool
 mode:FuncId->Nat
 idle:FuncId->Bool
 lim:H7
 entry:Nat
def H9 (H:o6)(strict:Nat):Nat->Nat->Nat
 |0,n=>n
 |k+1,n=>if n<=strict then n else
  let m:=max n (Y2 ((H.take n).drop strict))
  if m=n then n else H9 H strict k m
def C5 (H:o6)(strict n:Nat):Nat :=
 if n<=strict then n else if P3 ((H.take n).drop strict) strict then n else strict
def B9 (E:Env)(k:Nat)(f:FuncId)(args:List b6)(st:F0):Option F0 :=
 if E.prom f then
  match E.cf f args st.H E.lim with
  |some (v,H1)=>if st.H.length<=H1.length then some (put { st with H:=H1,n7:= .below H1.length::st.n7 } k v) else none
  |none=>none
 else
  let n:=H9 st.H E.lim.strict 8 (A9 args)
  if n<=st.H.length/\Y2 ((st.H.take n).drop E.lim.strict)<=n then
   match E.mode f with
   |0=>match E.cf f args (st.H.take n) { E.lim with base:=n,strict:=C5 st.H E.lim.strict n } with
    |some (v,H1)=>if H1.length=n then some (put { st with H:=H1++st.H.drop n,n7:= .below n::st.n7 } k v) else none
    |none=>none
   |1=>match E.cf f args (st.H.take n) ⟨0,n,n,C5 st.H E.lim.strict n⟩ with
    |some (v,H1)=>if H1.length=n then some (put st k v) else none
    |none=>none
   |_ =>
    let m:=(args.headD .any).N7
    match E.cf f args (st.H.take n) (E.lim.kr m n n (C5 st.H E.lim.strict n)) with
    |some (v,H1)=>if H1.length=n/\m<=n then some (put { st with H:=H1.take m++st.H.drop m,n7:= .below m::st.n7 } k v) else none
    |none=>none
  else none
def newId (st:F0)(u9:Option Nat):Nat:=u9.getD st.H.length
def J5 (st:F0)(u9:Option Nat)(o:z6):F0 :=
 match u9 with
 |none=>{ st with H:=st.H++[o] }
 |some i=>{ st with H:=st.H.set i o }
def Q0 (E:Env)(k n:Nat)(st:F0)(a:b6)(x:u5):Option F0 :=
 match a with
 | .ptr id off =>
  match (D8 st x).1.cells? with
  |some l =>
   if l.length=n/\E.lim.may id/\(A9 l<=id+1\/(E.lim.base<=id/\E.lim.strict<=id)) then
    match wr (D8 st x).2.H id off l with
    |some H' =>some (put { (D8 st x).2 with H:=H',n7:= .obj id::(D8 st x).2.n7 } k .any)
    |none=>none
   else none
  |none=>none
 |_=>none
def W9 (E:Env)(k sz bytes:Nat)(st:F0)(id lo len:Nat)(y:b6):Option F0 :=
 if E.lim.base<=id/\E.entry<=id/\E.lim.may id then
  match st.H[id]?,J7 st.H sz y with
  |some (.cells l),some (m,cs) =>
   if lo=0/\len * sz=l.length/\roomFor (len+m) bytes/\A9 cs<=id/\cs.all b6.one/\0<sz then
    some (put { T:=J0 id st.T,H:=(st.H.take E.lim.base++(st.H.drop E.lim.base).map (z6.kill id)).set id (.cells (J0 id l++cs)),L:=J0 id st.L,n7:= .obj id::st.n7 } k (.E3 id sz lo (len+m)))
   else none
  |_,_=>none
 else none
def mz (l:H7)(st:F0):y6->Bool
 | .N8 (.slot s)=> !st.n7.any (Touch.R1 s)&&(match st.T[s]? with
  |some .J6=>true
  |_=>false)
 | .load none x =>
  match Z6 st x with
  |some (id,off)=> !st.n7.any (Touch.aJ id off)&&l.may id&&(match st.H[id]? with
   |some (.cells cs)=>(match cs[off]? with
    |some .J6=>true
    |_=>false)
   |_=>false)
  |none=>false
 |_=>false
def isNil (l:H7)(j4:List n9)(st:F0):u5->Bool
 | .const .J6=>true
 | .loc j=>match st.L[j]? with
  |some .J6=>true
  |some (.d (.slice _ _))=>match j4[j]? with
   |some a=>mz l st a.op
   |none=>false
  |_=>false
 |_=>false
def K5 (E:Env)(j4:List n9)(u9:Option Nat)(k sz bytes:Nat)(ob:Bool)(st:F0)(x:u5)(y:b6):Option F0 :=
 match J7 st.H sz y with
 |some (m,cs) =>
  if ob then
   if isNil E.lim j4 st x/\roomFor m bytes/\0<sz then
    if m=0 then some (put st k .J6)
    else some (put (J5 st u9 (.cells cs)) k (.E3 (newId st u9) sz 0 m))
   else none
  else
   match M9 cs with
   |some new =>
    match P6 E.lim j4 st sz x with
    |some (len,cells,st') =>
     if roomFor (len+m) bytes/\0<sz then some (put st' k (.own sz (len+m) (cells++new))) else none
    |none=>none
   |none=>none
 |none=>none
def X0 (E:Env)(k sz:Nat)(zero:List b6)(st:F0):b6->Option F0
 | .E3 id z lo len =>
  if z=sz/\zero.length=sz/\A9 zero=0/\E.lim.may id then
   match wr st.H id lo ((c9 len zero).flatten) with
   |some H' =>some (put { st with H:=H',n7:= .obj id::st.n7 } k (.tuple []))
   |none=>none
  else none
 | .d (.slice 0 _)=>some (put st k (.tuple []))
 |_=>none
def T0 (E:Env)(k:Nat)(kk:CK)(st:F0)(m key v:b6):Option F0 :=
 match m,key with
 | .map id,.d kd=>match st.H[id]? with
  |some (.map es) =>
   if v.N7<=id+1/\E.lim.may id then
    match Data.Z0 kk kd kd with
    |some true=>match cg kk kd v es with
     |some es' =>some (put { st with H:=st.H.set id (.map es'),n7:= .obj id::st.n7 } k .any)
     |none=>none
    |_=>none
   else none
  |_=>none
 |_,_=>none
def E9 (E:Env)(j4:List n9)(u9:Option Nat)(k:Nat)(st:F0):y6->Option F0
 | .alloc zero=>some (put (J5 st u9 (.cells zero)) k (.ptr (newId st u9) 0))
 | .box x=>match (F8 st.T st.L x).cells? with
  |some l=>some (put (J5 st u9 (.cells l)) k (.ptr (newId st u9) 0))
  |none=>none
 | .makeMap=>some (put (J5 st u9 (.map [])) k (.map (newId st u9)))
 | .A1 sz len zero parts true=>match bH zero (parts.map fun (o,s,x)=>(o,s,F8 st.T st.L x)) with
  |some cs=>if 0<sz/\cs.length=len * sz then some (put (J5 st u9 (.cells cs)) k (.E3 (newId st u9) sz 0 len)) else none
  |none=>none
 | .store n a x=>Q0 E k n st (F8 st.T st.L a) x
 | .append sz bytes ob x y =>
  match F8 st.T st.L x with
  | .E3 id z lo len=>if z=sz then W9 E k sz bytes st id lo len (F8 st.T st.L y) else none
  |_=>K5 E j4 u9 k sz bytes ob st x (F8 st.T st.L y)
 | .clear sz zero x=>X0 E k sz zero st (F8 st.T st.L x)
 | .call f xs=>B9 E k f (xs.map (F8 st.T st.L)) st
 | .au x xs=>match F8 st.T st.L x with
  | .func f first caps=>B9 E k f (first++xs.map (F8 st.T st.L)++caps) st
  |_=>none
 | .dn kk m key v=>T0 E k kk st (F8 st.T st.L m) (F8 st.T st.L key) (F8 st.T st.L v)
 | .defer x=>match F8 st.T st.L x with
  | .func f _ _=>if E.idle f then some (put st k .any) else none
  |_=>none
 |_=>none
def y6.E2:y6->Bool
 | .alloc _=>true
 | .box _=>true
 | .makeMap=>true
 | .A1 _ _ _ _ b=>b
 | .store .. =>true
 | .append .. =>true
 | .call .. =>true
 | .au .. =>true
 | .dn .. =>true
 | .clear .. =>true
 | .defer _=>true
 |_=>false
def G4 (st:F0)(k:Nat):Option Nat->Option F0
 |none=>some st
 |some s =>
  if s<st.T.length then
   some { (D8 st (.loc k)).2 with T:=st.T.set s (D8 st (.loc k)).1,n7:= .slot s::st.n7 }
  else none
def X6 (st:F0)(k:Nat):Option Nat->Option F0
 |none=>some st
 |some s =>
  if s<st.T.length&&st.n7.any (Touch.R1 s) then
   some { (D8 st (.loc k)).2 with T:=st.T.set s (D8 st (.loc k)).1 }
  else none
def u7 (u9:Option Nat)(st:F0)(k:Nat)(dst:Option Nat):Option F0 :=
 match u9 with
 |none=>G4 st k dst
 |some _=>X6 st k dst
def y5 (L:List b6):Option (Nat×Bool)->Option Bool
 |none=>some true
 |some (j,want)=>match L[j]? with
  |some (.d (.bool b))=>some (b==want)
  |some (.tuple [])=>some false
  |_=>none
def D7 (E:Env)(j4:List n9)(u9:Option Nat)(k:Nat)(op:y6)(st:F0):Option (F0×List Nat) :=
 if op.E2 then
  match E9 E j4 u9 k st op with
  |some st' =>some (st',[])
  |none=>none
 else
  match op with
  | .N8 x=>some (put (D8 st x).2 k (D8 st x).1,[])
  |op=>match m7 (F8 st.T st.L) st.H op with
   |some (v,rs)=>some (put st k v,rs)
   |none=>none
def y9 (E:Env)(j4:List n9)(u9:Option Nat)(k:Nat)(i:n9)(st:F0):Option (F0×List Nat) :=
 match y5 st.L i.guard with
 |some true =>
  match D7 E j4 u9 k i.op st with
  |some (st',rs)=>match u7 u9 st' k i.dst with
   |some aj=>some (aj,rs)
   |none=>none
  |none=>none
 |some false=>match u7 u9 (put st k (.tuple [])) k i.dst with
  |some aj=>some (aj,[])
  |none=>none
 |none=>none
def cq (E:Env)(j4:List n9):List n9->Nat->F0->Option F0
 |[],_,st=>some st
 |i::is,k,st=>match y9 E j4 none k i st with
  |some (st',_)=>cq E j4 is (k+1) st'
  |none=>none
def y6.A0:y6->Bool
 | .alloc _=>true
 | .box _=>true
 | .makeMap=>true
 | .A1 _ _ _ _ ob=>ob
 | .append _ _ ob _ _=>ob
 |_=>false
def J8 (hs:List Touch)(rs:List Nat):Bool:=hs.any fun t=>rs.any fun id=>t.K1 id
structure ja where
 reads:List Nat
 DB:List Touch
 Cj:Nat
 id:Nat
def L5 (E:Env)(st:F0):y6->Nat
 | .call f xs=>if E.prom f then st.H.length else H9 st.H E.lim.strict 8 (A9 (xs.map (F8 st.T st.L)))
 | .au x xs=>match F8 st.T st.L x with
  | .func f first caps=>if E.prom f then st.H.length else H9 st.H E.lim.strict 8 (A9 (first++xs.map (F8 st.T st.L)++caps))
  |_=>0
 |_=>0
def E7 (st:F0):y6->Bool
 | .append _ _ _ x _=>match F8 st.T st.L x with
  | .E3 _ _ _ _=>true
  |_=>false
 |_=>false
def kF:Option Nat->List Touch
 |some n=>[.obj n]
 |none=>[]
def cJ (E:Env)(i:n9)(u9:Option Nat)(st st' :F0)(rs:List Nat):ja :=
 ⟨rs,kF u9++st'.n7.take (st'.n7.length - st.n7.length),L5 E st i.op,u9.getD 0⟩
def iA (E:Env)(j4:List n9)(u9:Option Nat)(k:Nat)(i:n9)(st:F0):Option (F0×ja) :=
 if E7 st i.op&&j4.any (fun a=>a.cO.contains k) then none else
 match y9 E j4 u9 k i st with
 |some (st',rs)=>some (st',cJ E i u9 st st' rs)
 |none=>none
def P5 (E:Env)(j4:List n9):List n9->Nat->Nat->F0->Option (F0×List ja)
 |[],_,_,st=>some (st,[])
 |i::is,k,na,st=>match iA E j4 (if i.op.A0 then some na else none) k i st with
  |some (st',l) =>
   match P5 E j4 is (k+1) (if i.op.A0 then na+1 else na) st' with
   |some (aj,lg)=>some (aj,l::lg)
   |none=>none
  |none=>none
def tR (j4:List n9)(lg:List ja):Bool :=
 (j4.zip lg).all fun (i,l)=>i.cO.all fun e=>match lg[e]? with
  |some le=> !J8 le.DB l.reads&&(!i.op.A0||decide (le.Cj<=l.id))
  |none=>false
def Y8 (j4:List n9):o6:=(j4.filter (·.op.A0)).map fun _=> .dead
def slotsOf (j4:List n9):List Touch:=j4.filterMap fun i=>if i.op.A0 then i.dst.map .slot else none
def O9 (E:Env)(j4:List n9)(draw:Bool)(T:List b6)(H:o6):Option F0 :=
 if draw then
  match P5 E j4 j4 0 H.length ⟨T,H++Y8 j4,c9 j4.length .any,slotsOf j4⟩ with
  |some (st,lg)=>if tR j4 lg then some st else none
  |none=>none
 else cq E j4 j4 0 ⟨T,H,c9 j4.length .any,[]⟩
inductive E4 where
 |normal
 |exit (id:Nat)
 |ret
 deriving Inhabited
structure St where
 T:List b6
 H:o6
def S5:List Bool->List b6->List b6
 |true::m,v::vs=>v::S5 m vs
 |false::m,_::vs=> .any::S5 m vs
 |[],_::vs=> .any::S5 [] vs
 |_,[]=>[]
def clean (mask:List Bool)(strict n:Nat)(st:St):St :=
 if A9 (S5 mask st.T)<=n/\Y2 ((st.H.take n).drop strict)<=n then ⟨S5 mask st.T,st.H.take n⟩ else ⟨S5 mask st.T,st.H⟩
def eV (body:St->Option (E4×St))(mask:List Bool)(strict n:Nat):Nat->St->Option (E4×St)
 |0,_=>none
 |k+1,st=>match body (clean mask strict n st) with
  |some (.normal,st')=>eV body mask strict n k st'
  |r=>r
def eZ:List b6->Nat->Option (Nat×Nat×Nat×Nat×Nat)
 |[],_=>none
 | .E3 id sz lo len::_,i=>some (i,id,sz,lo,len)
 |_::r,i=>eZ r (i+1)
def GK (lim:H7)(entry s:Nat)(st:St):Option St :=
 match st.T[s]? with
 |some (.ptr b 0)=>match st.H[b]? with
  |some (.cells cs)=>match eZ cs 0 with
   |some (i,id,sz,lo,len)=>match rd st.H id lo (len * sz) with
    |some vs=>match M9 vs with
     |some xs =>
      if lim.base<=id/\entry<=id/\lim.may id=true/\lim.base<=b/\id≠b then
       some ⟨J0 id st.T,((st.H.take lim.base++(st.H.drop lim.base).map (z6.kill id)).set id .dead).set b (.cells ((J0 id cs).set i (.d (.slice len xs))))⟩
      else none
     |none=>none
    |none=>none
   |none=>none
  |_=>none
 |_=>none
def exec (E:Env)(lim:Nat):p6->St->Option (E4×St)
 | .skip,st=>some (.normal,st)
 | .region ops draw,st=>match O9 E ops draw st.T st.H with
  |some r=>some (.normal,⟨r.T,r.H⟩)
  |none=>none
 | .seq a b,st=>match exec E lim a st with
  |some (.normal,st')=>exec E lim b st'
  |r=>r
 | .cond c a b,st=>match F8 st.T [] c with
  | .d (.bool true)=>exec E lim a st
  | .d (.bool false)=>exec E lim b st
  |_=>none
 | .test ops draw c a b,st=>match O9 E ops draw st.T st.H with
  |some r=>match F8 r.T r.L c with
   | .d (.bool true)=>exec E lim a ⟨r.T,r.H⟩
   | .d (.bool false)=>exec E lim b ⟨r.T,r.H⟩
   |_=>none
  |none=>none
 | .block id body,st=>match exec E lim body st with
  |some (.exit id',st')=>if id' =id then some (.normal,st') else some (.exit id',st')
  |r=>r
 | .loop mask body,st=>eV (exec E lim body) mask E.lim.strict st.H.length lim st
 | .exit id,st=>some (.exit id,st)
 | .ret,st=>some (.ret,st)
 | .fz s,st=>match GK E.lim E.entry s st with
  |some st' =>some (.normal,st')
  |none=>none
 | .bad,_=>none
def kH (T:List b6)(H:o6):yM->Option b6
 | .slot s=>T[s]?
 | .cell s none=>match T[s]? with
  |some (.ptr id off)=>match rd H id off 1 with
   |some [v]=>some v.G9
   |_=>none
  |_=>none
 | .cell s (some n)=>match T[s]? with
  |some (.ptr id off)=>match rd H id off n with
   |some vs=>some (.agg (vs.map b6.G9))
   |none=>none
  |_=>none
def bV (T:List b6)(H:o6):List yM->Option (List b6)
 |[]=>some []
 |r::rs=>match kH T H r with
  |some v=>match bV T H rs with
   |some vs=>some (v::vs)
   |none=>none
  |none=>none
def b9:List b6->b6
 |[v]=>v
 |vs=> .tuple (vs.map b6.G9)
def bY (H:o6)(n:Nat):Nat->List b6->Option (List b6)
 |0,_=>none
 |_+1,[]=>some []
 |fuel+1,v::vs =>
  match bY H n fuel vs with
  |none=>none
  |some ws =>
   match v with
   | .E3 id sz lo len =>
    if id<n then some (.E3 id sz lo len::ws) else
    match rd H id lo (len * sz) with
    |some us=>match bY H n fuel us with
     |some us' =>match M9 us' with
      |some xs=>some (.d (.slice len xs)::ws)
      |none=>none
     |none=>none
    |none=>none
   | .agg l=>match bY H n fuel l with
    |some l' =>some (.agg l' ::ws)
    |none=>none
   | .tuple l=>match bY H n fuel l with
    |some l' =>some (.tuple l' ::ws)
    |none=>none
   |v=>some (v::ws)
structure Prog where
 fn:FuncId->Option q6
 idle:FuncId->Bool
 mode:FuncId->Nat
 gB:FuncId->Option (List b6->o6->H7->Option (b6×o6))
def Prog.prom (A:Prog)(f:FuncId):Bool:=match A.fn f with
 |some af=>af.aL
 |none=>false
def finish (aL:Bool)(n:Nat)(vs:List b6)(H:o6):Option (b6×o6) :=
 if aL then some (b9 vs,H) else
 match bY H n 1000 [b9 vs] with
 |some [v]=>if v.N7<=n then some (v,H.take n) else none
 |_=>none
def gh (A:Prog)(cf:pT)(lim:Nat)(af:q6)(args:List b6)(H:o6)(l:H7):Option (b6×o6) :=
 if args.length=af.nparams then
  match exec ⟨cf,A.prom,A.mode,A.idle,l,H.length⟩ lim af.body ⟨args++c9 (af.names.length - args.length) .any,H⟩ with
  |some (.exit _,_)=>none
  |some (_,st) =>
   match bV st.T st.H af.results with
   |some vs=>finish af.aL H.length vs st.H
   |none=>none
  |none=>none
 else none
def call (A:Prog):Nat->pT
 |0=>fun _ _ _ _=>none
 |n+1=>fun f args H l =>
  match A.gB f with
  |some p=>p args H l
  |none=>match A.fn f with
   |some af=>gh A (call A n) n af args H l
   |none=>none
inductive Place where
 |slot (s:Nat)
 |loc (j:Nat)
 |cell (id off:Nat)
 |none
 |ret
 deriving DecidableEq
inductive KM where
 |free
 |jR
 |held (n:Nat)
 |obj (id:Nat)
 |grow (n:Nat) (pl:Place)
 deriving DecidableEq
abbrev Gh:=Nat->KM
abbrev S4:=Nat->Nat×Nat
def iX (G:Gh)(b o:Nat):Prop :=
 match G b with
 | .jR=>True
 | .held n=>o<n
 | .grow n _=>o<n
 |_=>False
abbrev ad (b o:Nat):Addr:=⟨b,o,Option.none⟩
mutual
def DR (G:Gh)(w:World):Data->Value->Prop
 | .bool b,v=>v= .bool b
 | .int k n,v=>v= .int k n
 | .str s,v=>v= .string ⟨s.toArray⟩
 | .slice len cells,v=>((v= .slice Option.none 0 0\/∃ a,v= .slice (some a) 0 0)/\len=0/\cells=[]) \/
   ∃ b o cap,v= .slice (some (ad b o)) len cap/\len<=cap/\dR G w b o cells
 | .cj,v=>v= .pointer Option.none
 | .O0,v=>v= .nilFunc
 | .ew,v=>v= .map Option.none
 | .nilIface,v=>v= .nilIface
def dR (G:Gh)(w:World)(b:Nat):Nat->List Data->Prop
 |_,[]=>True
 |o,c::cs=>iX G b o/\(∃ x,w.cell? (ad b o)=some x/\DR G w c x)/\dR G w b (o+1) cs
end
def Gn (f:Nat×Nat)(n:Nat):Prop:=∀ o,o<n->¬ (f.1<=o/\o<f.2)
mutual
def VR (G:Gh)(I:S4)(N:Nat->Prop)(w:World):Place->b6->Value->Prop
 |_,.any,_=>True
 |_,.d x,v=>DR G w x v
 |_,.ptr id off,v=>N id/\v= .pointer (some (ad (I id).1 ((I id).2+off)))
 |_,.Q9 cells,v=>∃ b o,v= .pointer (some (ad b o))/\dR G w b o cells
 |_,.E3 id sz lo len,v=>N id/\∃ cap,v= .slice (some (ad (I id).1 ((I id).2+lo))) len cap/\len<=cap /\
   ∃ c e f,w.heap[(I id).1]? =some (.cells c e f)/\(I id).2+lo+cap * sz<=c.size
 |pl,.own sz len cells,v=>cells.length=len * sz /\
   (((v= .slice Option.none 0 0\/∃ b o,v= .slice (some (ad b o)) 0 0)/\len=0) \/
    (pl≠ .none/\∃ b o cap c e f,v= .slice (some (ad b o)) len cap/\len<=cap/\w.heap[b]? =some (.cells c e f)/\o+cap * sz<=c.size/\Gn f c.size /\
     G b= .grow (o+len * sz) pl/\dR G w b o cells))
 |_,.J6,v=>v= .slice Option.none 0 0
 |_,.agg l,v=>∃ cs:Array Value,v= .agg cs/\G8 G I N w l cs.toList
 |_,.tuple l,v=>∃ cs:Array Value,v= .tuple cs/\G8 G I N w l cs.toList
 |_,.func f a b,v=>∃ x y:Array Value,v= .func (.func f) x y/\G8 G I N w a x.toList/\G8 G I N w b y.toList
 |_,.map id,v=>N id/\v= .map (some (I id).1)
def G8 (G:Gh)(I:S4)(N:Nat->Prop)(w:World):List b6->List Value->Prop
 |[],vs=>vs=[]
 |a::as,vs=>∃ x xs,vs=x::xs/\VR G I N w .none a x/\G8 G I N w as xs
end
def ER (G:Gh)(I:S4)(N:Nat->Prop)(w:World):List (Data×b6)->List MapEntry->Prop
 |[],es=>es=[]
 |(k,v)::r,es=>∃ e es',es=e::es' /\DR G w k e.key/\VR G I N w .none v e.val/\ER G I N w r es'
def OR (G:Gh)(I:S4)(N:Nat->Prop)(w:World)(id:Nat):z6->Prop
 | .dead=>True
 | .cells l=>N id/\∃ c e f,w.heap[(I id).1]? =some (.cells c e f)/\G (I id).1= .obj id/\Gn f c.size/\(I id).2+l.length<=c.size /\
   ∀ i x,l[i]? =some x->∃ v,c[(I id).2+i]? =some v/\VR G I N w (.cell id i) x v
 | .map es=>N id/\∃ arr Dj,w.heap[(I id).1]? =some (.map arr Dj)/\G (I id).1= .obj id/\ER G I N w es arr.toList
def HR (G:Gh)(I:S4)(N:Nat->Prop)(w:World)(H:o6):Prop:=∀ id o,H[id]? =some o->OR G I N w id o
def WF (G:Gh)(w:World):Prop:=∀ b,w.heap.size<=b->G b= .free
structure Sub (G:Gh)(w:World)(G' :Gh)(w' :World):Prop where
 jR:∀ b o:Nat,iX G b o->iX G' b o/\w'.cell? (ad b o)=w.cell? (ad b o)
 shape:∀ (b:Nat) (c:Array Value) (e:TypeId) (f:Nat×Nat),w.heap[b]? =some (Obj.cells c e f)->∃ c' :Array Value,w'.heap[b]? =some (Obj.cells c' e f)/\c'.size=c.size
structure Ext (G:Gh)(w:World)(G' :Gh)(w' :World):Prop where
 os:w'.os=w.os
 tape:w'.tape=w.tape
 output:w'.output=w.output
 size:w.heap.size<=w'.heap.size
 jR:∀ b o:Nat,iX G b o->iX G' b o/\w'.cell? (ad b o)=w.cell? (ad b o)
 still:∀ b:Nat,(G b= .jR\/∃ n,G b= .held n)->G' b=G b/\w'.heap[b]? =w.heap[b]?
 shape:∀ (b:Nat) (c:Array Value) (e:TypeId) (f:Nat×Nat),w.heap[b]? =some (Obj.cells c e f)->∃ c' :Array Value,w'.heap[b]? =some (Obj.cells c' e f)/\c'.size=c.size
theorem Ext.sub {G:Gh}{w:World}{G' :Gh}{w' :World}(h:Ext G w G' w'):Sub G w G' w' :=⟨h.jR,h.shape⟩
instance {G:Gh} {w:World} {G' :Gh} {w' :World}:CoeOut (Ext G w G' w') (Sub G w G' w'):=⟨Ext.sub⟩
theorem Ext.refl (G:Gh)(w:World):Ext G w G w :=
 ⟨rfl,rfl,rfl,k9 _,fun _ _ h=>⟨h,rfl⟩,fun _ _=>⟨rfl,rfl⟩,fun _ c _ _ h=>⟨c,h,rfl⟩⟩
theorem Ext.trans {G:Gh}{w:World}{G1:Gh}{w1:World}{G2:Gh}{w2:World}(h:Ext G w G1 w1)(k:Ext G1 w1 G2 w2):Ext G w G2 w2 where
 os:=k.os.trans h.os
 tape:=k.tape.trans h.tape
 output:=k.output.trans h.output
 size:=Nat.le_trans h.size k.size
 jR b o hi:=by
  obtain ⟨a1,a2⟩:=h.jR b o hi;obtain ⟨b1,b2⟩:=k.jR b o a1;exact ⟨b1,b2.trans a2⟩
 still b hb:=by
  obtain ⟨a1,a2⟩:=h.still b hb;obtain ⟨b1,b2⟩:=k.still b (by rw [a1];exact hb);exact ⟨b1.trans a1,b2.trans a2⟩
 shape b c e f hc:=by
  obtain ⟨c1,h1,s1⟩:=h.shape b c e f hc;obtain ⟨c2,h2,s2⟩:=k.shape b c1 e f h1;exact ⟨c2,h2,s2.trans s1⟩
theorem Ext.drew {G:Gh}{w:World}{G' :Gh}{w' :World}(h:Ext G w G' w')(n:Nat):Ext G w G' { w' with drawn:=n } :=
 ⟨h.os,h.tape,h.output,h.size,h.jR,h.still,h.shape⟩
mutual
theorem DR.mono {G:Gh}{w:World}{G' :Gh}{w' :World}
  (h:∀ b o,iX G b o->iX G' b o/\w'.cell? (ad b o)=w.cell? (ad b o)):∀ (d:Data) (v:Value),DR G w d v->DR G' w' d v
 | .bool _,_,hd=>by simpa [DR] using hd
 | .int _ _,_,hd=>by simpa [DR] using hd
 | .str _,_,hd=>by simpa [DR] using hd
 | .slice _ cells,_,hd=>by
  simp only [DR] at hd ⊢
  rcases hd with hd|⟨b,o,cap,h1,h2,h3⟩
  ·exact Or.inl hd
  ·exact Or.inr ⟨b,o,cap,h1,h2,dR.mono h b o cells h3⟩
 | .cj,_,hd=>by simpa [DR] using hd
 | .O0,_,hd=>by simpa [DR] using hd
 | .ew,_,hd=>by simpa [DR] using hd
 | .nilIface,_,hd=>by simpa [DR] using hd
theorem dR.mono {G:Gh}{w:World}{G' :Gh}{w' :World}
  (h:∀ b o,iX G b o->iX G' b o/\w'.cell? (ad b o)=w.cell? (ad b o)) (b:Nat):∀ (o:Nat) (l:List Data),dR G w b o l->dR G' w' b o l
 |_,[],_=>by simp [dR]
 |o,c::cs,hd=>by
  simp only [dR] at hd ⊢;obtain ⟨h1,⟨x,h2,h3⟩,h4⟩:=hd;obtain ⟨i1,i2⟩:=h b o h1;exact ⟨i1,⟨x,i2.trans h2,DR.mono h c x h3⟩,dR.mono h b (o+1) cs h4⟩
end
def aN (pl:Place)(G:Gh)(w:World)(G' :Gh)(w' :World):Prop :=
 ∀ b n,G b= .grow n pl->G' b= .grow n pl/\w'.heap[b]? =w.heap[b]?
mutual
theorem VR.mono {G:Gh}{I:S4}{N:Nat->Prop}{w:World}{G' :Gh}{I' :S4}{N' :Nat->Prop}{w' :World}(hx:Sub G w G' w')
  (hI:∀ id,N id->I' id=I id) (hN:∀ id,N id->N' id):∀ (pl:Place) (a:b6) (v:Value),(pl= .none\/aN pl G w G' w')->VR G I N w pl a v->VR G' I' N' w' pl a v
 |_,.any,_,_,_=>by simp [VR]
 |_,.d x,v,_,h=>by simp only [VR] at h ⊢;exact DR.mono hx.jR x v h
 |_,.ptr id off,v,_,h=>by
  simp only [VR] at h ⊢;exact ⟨hN id h.1,by rw [hI id h.1];exact h.2⟩
 |_,.Q9 cells,v,_,h=>by
  simp only [VR] at h ⊢;obtain ⟨b,o,h1,h2⟩:=h;exact ⟨b,o,h1,dR.mono hx.jR b o cells h2⟩
 |_,.E3 id sz lo len,v,_,h=>by
  simp only [VR] at h ⊢;obtain ⟨h1,cap,h2,h3,c,e,f,h4,h5⟩:=h;obtain ⟨c',g1,g2⟩:=hx.shape _ c e f h4;exact ⟨hN id h1,cap,by rw [hI id h1];exact h2,h3,c',e,f,by rw [hI id h1];exact g1,by rw [hI id h1,g2];exact h5⟩
 |pl,.own sz len cells,v,hk,h=>by
  simp only [VR] at h ⊢;obtain ⟨h0,h⟩:=h;refine ⟨h0,?_⟩
  rcases h with h|⟨hp,b,o,cap,c,e,f,h1,h2,h3,h4,h5,h6,h7⟩
  ·exact Or.inl h
  ·rcases hk with hk|hk
   ·exact absurd hk hp
   ·obtain ⟨k1,k2⟩:=hk b _ h6
    exact Or.inr ⟨hp,b,o,cap,c,e,f,h1,h2,k2.trans h3,h4,h5,k1,dR.mono hx.jR b o cells h7⟩
 |_,.J6,v,_,h=>by simp only [VR] at h ⊢;exact h
 |_,.agg l,v,_,h=>by
  simp only [VR] at h ⊢;obtain ⟨cs,h1,h2⟩:=h;exact ⟨cs,h1,G8.mono hx hI hN l _ h2⟩
 |_,.tuple l,v,_,h=>by
  simp only [VR] at h ⊢;obtain ⟨cs,h1,h2⟩:=h;exact ⟨cs,h1,G8.mono hx hI hN l _ h2⟩
 |_,.func f a b,v,_,h=>by
  simp only [VR] at h ⊢;obtain ⟨x,y,h1,h2,h3⟩:=h;exact ⟨x,y,h1,G8.mono hx hI hN a _ h2,G8.mono hx hI hN b _ h3⟩
 |_,.map id,v,_,h=>by
  simp only [VR] at h ⊢;exact ⟨hN id h.1,by rw [hI id h.1];exact h.2⟩
theorem G8.mono {G:Gh}{I:S4}{N:Nat->Prop}{w:World}{G' :Gh}{I' :S4}{N' :Nat->Prop}{w' :World}(hx:Sub G w G' w')
  (hI:∀ id,N id->I' id=I id) (hN:∀ id,N id->N' id):∀ (l:List b6) (vs:List Value),G8 G I N w l vs->G8 G' I' N' w' l vs
 |[],_,h=>by simpa [G8] using h
 |a::as,vs,h=>by
  simp only [G8] at h ⊢;obtain ⟨x,xs,h1,h2,h3⟩:=h;exact ⟨x,xs,h1,VR.mono hx hI hN .none a x (Or.inl rfl) h2,G8.mono hx hI hN as xs h3⟩
end
theorem ER.mono {G:Gh}{I:S4}{N:Nat->Prop}{w:World}{G' :Gh}{I' :S4}{N' :Nat->Prop}{w' :World}(hx:Sub G w G' w')
  (hI:∀ id,N id->I' id=I id) (hN:∀ id,N id->N' id):∀ (l:List (Data×b6)) (es:List MapEntry),ER G I N w l es->ER G' I' N' w' l es
 |[],_,h=>by simpa [ER] using h
 |(k,v)::r,es,h=>by
  simp only [ER] at h ⊢;obtain ⟨e,es',h1,h2,h3,h4⟩:=h;exact ⟨e,es',h1,DR.mono hx.jR _ _ h2,VR.mono hx hI hN .none _ _ (Or.inl rfl) h3,ER.mono hx hI hN r es' h4⟩
theorem OR.mono {G:Gh}{I:S4}{N:Nat->Prop}{w:World}{G' :Gh}{I' :S4}{N' :Nat->Prop}{w' :World}(hx:Sub G w G' w')
  (hI:∀ id,N id->I' id=I id) (hN:∀ id,N id->N' id) (id:Nat) (o:z6)
  (hb:G (I id).1= .obj id->G' (I id).1= .obj id/\w'.heap[(I id).1]? =w.heap[(I id).1]?)
  (hc:∀ off,aN (.cell id off) G w G' w') (h:OR G I N w id o):OR G' I' N' w' id o:=by
 cases o with
 |dead=>simp [OR]
 |cells l =>
  simp only [OR] at h ⊢;obtain ⟨hid,c,e,f,h1,h2,h3,h4,h5⟩:=h;obtain ⟨k1,k2⟩:=hb h2;refine ⟨hN id hid,c,e,f,?_,?_,h3,?_,fun i x hx' => ?_⟩
  ·rw [hI id hid,k2];exact h1
  ·rw [hI id hid];exact k1
  ·rw [hI id hid];exact h4
  ·obtain ⟨v,g1,g2⟩:=h5 i x hx'
   exact ⟨v,by rw [hI id hid];exact g1,VR.mono hx hI hN _ x v (Or.inr (hc i)) g2⟩
 |map es =>
  simp only [OR] at h ⊢;obtain ⟨hid,arr,Dj,h1,h2,h3⟩:=h;obtain ⟨k1,k2⟩:=hb h2;exact ⟨hN id hid,arr,Dj,by rw [hI id hid,k2];exact h1,by rw [hI id hid];exact k1,ER.mono hx hI hN es _ h3⟩
theorem VR.G9 {G:Gh}{I:S4}{N:Nat->Prop}{w:World}{pl uI :Place}:∀ {a:b6} {v:Value},VR G I N w pl a v->VR G I N w uI a.G9 v
 | .any,_,_=>by simp [b6.G9,VR]
 | .d _,_,h=>by simpa [b6.G9,VR] using h
 | .ptr _ _,_,h=>by simpa [b6.G9,VR] using h
 | .Q9 _,_,h=>by simpa [b6.G9,VR] using h
 | .E3 _ _ _ _,_,h=>by simpa [b6.G9,VR] using h
 | .own sz len cells,v,h=>by
  simp only [b6.G9,VR,DR] at h ⊢;obtain ⟨h0,h⟩:=h
  rcases h with ⟨h1,h2⟩|⟨hp,b,o,cap,c,e,f,h1,h2,h3,h4,h5,h6,h7⟩
  ·subst h2
   have hc:cells=[]:=by simpa using h0
   subst hc
   rcases h1 with h1|⟨b,o,h1⟩
   ·exact Or.inl ⟨Or.inl h1,rfl,rfl⟩
   ·exact Or.inr ⟨b,o,0,h1,k9 _,by simp [dR]⟩
  ·exact Or.inr ⟨b,o,cap,h1,h2,h7⟩
 | .J6,v,h=>by
  simp only [b6.G9,VR,DR] at h ⊢;exact Or.inl ⟨Or.inl h,trivial,trivial⟩
 | .agg _,_,h=>by simpa [b6.G9,VR] using h
 | .tuple _,_,h=>by simpa [b6.G9,VR] using h
 | .func _ _ _,_,h=>by simpa [b6.G9,VR] using h
 | .map _,_,h=>by simpa [b6.G9,VR] using h
theorem VR.Me {G:Gh}{I:S4}{N:Nat->Prop}{w:World}{pl uI :Place}{a:b6}{v:Value}(h:VR G I N w pl a v):VR G I N w uI a.Me v:=by
 cases a
 case J6=>simpa only [b6.Me,VR] using h
 all_goals exact h.G9
theorem MB {u:b6}(h:u.G9=u):u.Me=u:=by
 cases u
 case J6=>simp [b6.G9] at h
 all_goals exact h
def Bv:Value->b6->Bool
 |_,.any=>true
 | .bool b,.d (.bool c)=>b==c
 | .int k n,.d (.int k' n')=>k==k' &&n==n'
 | .string s,.d (.str l)=>s.data.toList==l
 | .slice Option.none 0 0,.own _ 0 []=>true
 | .slice Option.none 0 0,.J6=>true
 | .slice Option.none 0 0,.d (.slice 0 [])=>true
 | .pointer Option.none,.d .cj=>true
 | .map Option.none,.d .ew=>true
 | .nilFunc,.d .O0=>true
 | .nilIface,.d .nilIface=>true
 |_,_=>false
def consts:List Value->List b6->Bool
 |[],[]=>true
 |v::vs,a::as=>Bv v a&&consts vs as
 |_,_=>false
def uP:Value->b6->Bool
 | .agg cs,.agg l=>consts cs.toList l
 |v,a=>Bv v a
structure Cx where
 P:Program
 names:List Tmp
 ops:Array Oper
def Cx.ck (X:Cx)(D:Nat->Bool):Operand->u5->Bool
 | .tmp t,.slot s=>X.names[s]? ==some t
 | .tmp t,.loc j=>D j&&((X.ops[j]?).bind (·.dst))==some t&& !X.names.contains t
 | .const v,.const a=>uP v a
 | .func f,.const (.func g [] [])=>f==g
 |_,.const .any=>true
 |_,_=>false
def Mz (ck:Operand->u5->Bool):List Operand->List u5->Bool
 |[],[]=>true
 |x::xs,y::ys=>ck x y&&Mz ck xs ys
 |_,_=>false
def Qh (ck:Operand->u5->Bool):Option Operand->Option u5->Bool
 |none,none=>true
 |some x,some y=>ck x y
 |_,_=>false
def er (P:Program)(t:TypeId):Option Bool :=
 match P.underlying t with
 |some (.struct _)=>some true
 |some (.array _ _)=>some true
 |some _=>some false
 |none=>none
def oY (P:Program)(t:TypeId):Option Nat->Bool
 |none=>er P t==some false
 |some n=>er P t==some true&&P.cellsOf t==n&&decide (0<n)
def mc (P:Program)(t:TypeId)(sz:Nat):Bool :=
 match P.underlying t with
 |some (.slice e)=>P.cellsOf e==sz&&(P.info? e).isSome
 |_=>false
def bI (P:Program)(t:TypeId):CK->Bool
 | .i=>match P.underlying t with
  |some (.int _)=>true
  |_=>false
 | .s=>match P.underlying t with
  |some .string=>true
  |_=>false
 | .b=>match P.underlying t with
  |some .bool=>true
  |_=>false
def ep (P:Program):List Field->Nat->List CK->Bool
 |[],_,[]=>true
 | f :: fs, n, k :: ks => f.name != "_" && bI P f.type k && f.offset == n && ep P fs (n + 1) ks
 |_,_,_=>false
def vZ (P:Program)(t:TypeId)(ks:List CK):Bool :=
 match P.underlying t with
 |some (.struct fs)=>ep P fs.toList 0 ks&& !P.stoodInHeld t&& !P.eqGuardType P.depth t
 |_=>false
def ig (P:Program)(ck:Operand->u5->Bool)(place:Nat->Option (Nat×Nat)):List (Nat×Operand)->List (Nat×Nat×u5)->Bool
 |[],[]=>true
 |(i,x)::r,(off,sz,y)::q=>place i==some (off,sz)&&ck x y&&ig P ck place r q
 |_,_=>false
def tJ (P:Program)(fs:List Field):Option (List (Nat×Nat)):=fs.mapM fun f=>(P.info? f.type).map fun i=>(f.offset,i.size)
def yl (P:Program)(t:TypeId)(l:List b6):Bool :=
 match P.info? t with
 |some i=>match i.zero with
  |some z=>consts z.cells.toList l
  |none=>false
 |none=>false
def B0 (P:Program)(ck:Operand->u5->Bool)(o:Oper)(op:y6):Bool :=
 match o.op,op with
 | .pick c a b,.pick c' a' b' =>ck c c' &&ck a a' &&ck b b'
 | .load t x,.load n y=>ck x y&&oY P t n
 | .nilCheck x,.Z5 y=>ck x y
 | .binOp b _ x y _,.bin b' x' y' =>b==b' &&ck x x' &&ck y y'
 | .binOp b t x (.const (.slice Option.none 0 0)) _,.BS neg x' =>ck x x' &&(match P.underlying t with|some (.slice _)=>true|_=>false)&&(if neg then b== .neq else b== .eql)
 | .binOp b t x (.const .nilIface) _,.Hg neg x' =>ck x x' &&(match P.underlying t with|some (.interface _)=>true|_=>false)&&(if neg then b== .neq else b== .eql)
 | .binOp b t x y _,.o9 neg x' y' =>ck x x' &&ck y y' &&(match P.underlying t with|some .bool=>true|_=>false)&&(if neg then b== .neq else b== .eql)
 | .binOp b t x y _,.Mf neg ks x' y' =>ck x x' &&ck y y' &&vZ P t ks&&(if neg then b== .neq else b== .eql)
 | .unOp b _ x,.un b' x' =>b==b' &&ck x x'
 | .convert s d x,.kQ k y=>ck x y&&(P.underlying s).isSome&&(match P.underlying d with|some (.int k')=>k==k' |_=>false)
 | .convert s d x,.oM y=>ck x y&&(P.underlying s).isSome&&(match P.underlying d with|some .string=>true|_=>false)
 | .convert s d x,.iM y=>ck x y&&(match P.underlying s with|some (.slice e)=>(match P.underlying e with|some (.int .u8)=>true|_=>false)|_=>false)&&(match P.underlying d with|some .string=>true|_=>false)
 | .slice t x lo hi none,.pF y lo' hi' =>ck x y&&Qh ck lo lo' &&Qh ck hi hi' &&(match P.underlying t with|some .string=>true|_=>false)
 | .slice t x lo hi none,.aT sz y lo' hi' =>ck x y&&Qh ck lo lo' &&Qh ck hi hi' &&mc P t sz&&decide (0<sz)
 | .fieldAddr s x f,.off k y=>ck x y&&(match P.underlying s with
  |some (.struct fs)=>(match fs[f]? with
   |some fd=>fd.offset==k&&decide (0<P.cellsOf fd.type)
   |none=>false)
  |_=>false)
 | .indexAddr t x i,.C3 sz y j=>ck x y&&ck i j&&mc P t sz
 | .indexAddr t x i,.fN n sz y j=>ck x y&&ck i j&&(match P.underlying t with|some (.array m e)=>m==n&&P.cellsOf e==sz&&(P.info? e).isSome|_=>false)
 | .index t x i,.B8 y j=>ck x y&&ck i j&&(match P.underlying t with|some .string=>true|_=>false)
 | .extract x i,.extract y j=>ck x y&&i==j
 | .call { callee:= .builtin .len,args,argTypes },.len y=>(match args[0]?,argTypes[0]? with
  |some x,some t=>ck x y&&(match P.underlying t with|some (.slice _)=>true|_=>false)
  |_,_=>false)
 | .call { callee:= .builtin .len,args,argTypes },.U7 y=>(match args[0]?,argTypes[0]? with
  |some x,some t=>ck x y&&(match P.underlying t with|some .string=>true|_=>false)
  |_,_=>false)
 | .call { callee:= .builtin .len,args,argTypes },.BN y=>(match args[0]?,argTypes[0]? with
  |some x,some t=>ck x y&&(match P.underlying t with|some (.map _ _)=>true|_=>false)
  |_,_=>false)
 | .call { callee:= .builtin .max,args,.. },.fC true ys=>Mz ck args.toList ys&&decide (2<=ys.length)
 | .call { callee:= .builtin .min,args,.. },.fC false ys=>Mz ck args.toList ys&&decide (2<=ys.length)
 | .makeFunc (.func f) first caps,.Y3 g first' Ym =>f==g&&Mz ck first.toList first' &&Mz ck caps.toList Ym
 | .lookup t m k ok,.lookup kk zero NB m' k' =>ok==NB &&ck m m' &&ck k k' &&(match P.underlying t with
  |some (.map kt et)=>bI P kt kk&&(match P.info? et with
   |some i=>(match i.zero with
    |some z=>uP z zero
    |none=>false)
   |none=>false)
  |_=>false)
 | .build t parts,.build zero ps=>(match P.underlying t with
  |some (.struct fs)=>(match tJ P fs.toList with
   |some places=>yl P t zero&&ig P ck (fun i=>places[i]?) parts.toList ps
   |none=>false)
  |some (.array _ e)=>(match P.info? e with
   |some i=>yl P t zero&&ig P ck (fun j=>some (j * i.size,i.size)) parts.toList ps
   |none=>false)
  |_=>false)
 |_,_=>false
theorem qk {G:Gh}{I:S4}{N:Nat->Prop}{w:World}:∀ (v:Value) (a:b6),Bv v a=true->VR G I N w .none a v:=by
 intro v a h;unfold Bv at h;split at h
 all_goals first
  |(simp [VR];done)
  |(exfalso;simp at h;done)
  |(simp only [VR,DR];done)
  |(simp only [VR,DR];simp_all;done)
  |skip
 ·rename_i s l
  simp only [VR,DR];have:s.data.toList=l:=by simpa using h
  subst this;simp
theorem cZ {G:Gh}{I:S4}{N:Nat->Prop}{w:World}:∀ (vs:List Value) (l:List b6),consts vs l=true->G8 G I N w l vs
 |[],[],_=>by simp [G8]
 |v::vs,a::as,h=>by
  simp only [consts,b5] at h;simp only [G8];exact ⟨v,vs,rfl,qk v a h.1,cZ vs as h.2⟩
 |[],_::_,h=>by simp [consts] at h
 |_::_,[],h=>by simp [consts] at h
theorem bF {G:Gh}{I:S4}{N:Nat->Prop}{w:World}(v:Value)(a:b6)(h:uP v a=true):VR G I N w .none a v:=by
 unfold uP at h;split at h
 ·rename_i cs l
  simp only [VR];exact ⟨cs,rfl,cZ _ _ h⟩
 ·exact qk _ _ h
theorem T4 {w:World}{b:Nat}{c:Array Value}{e:TypeId}{f:Nat×Nat}(h:w.heap[b]? =some (.cells c e f))(o:Nat):w.cell? (ad b o)=c[o]? :=by
 simp [World.cell?,h]
theorem Z9 (b o n:Nat):(ad b o).add n=ad b (o+n):=by
 unfold Addr.add;split
 ·subst_vars;rfl
 ·rfl
theorem dR.drop {G:Gh}{w:World}{b:Nat}:∀ (n o:Nat) (l:List Data),dR G w b o l->dR G w b (o+n) (l.drop n)
 |0,_,_,h=>by simpa using h
 |n+1,o,[],_=>by simp [dR]
 |n+1,o,c::cs,h=>by
  simp only [dR] at h;have:=dR.drop n (o+1) cs h.2.2;rw [List.drop_succ_cons,show o+(n+1)=o+1+n from by omega];exact this
theorem dR.take {G:Gh}{w:World}{b:Nat}:∀ (n o:Nat) (l:List Data),dR G w b o l->dR G w b o (l.take n)
 |0,_,_,_=>by simp [dR]
 |n+1,o,[],_=>by simp [dR]
 |n+1,o,c::cs,h=>by
  simp only [dR] at h;rw [List.take_succ_cons];simp only [dR];exact ⟨h.1,h.2.1,dR.take n (o+1) cs h.2.2⟩
theorem dR.vals {G:Gh}{I:S4}{N:Nat->Prop}{w:World}{b:Nat}:∀ (o:Nat) (l:List Data),dR G w b o l ->
  ∃ vs:List Value,vs.length=l.length/\(∀ j v,vs[j]? =some v->w.cell? (ad b (o+j))=some v)/\G8 G I N w (l.map .d) vs
 |_,[],_=>⟨[],rfl,by simp,by simp [G8]⟩
 |o,c::cs,h=>by
  simp only [dR] at h;obtain ⟨h1,⟨x,h2,h3⟩,h4⟩:=h;obtain ⟨vs,g1,g2,g3⟩:=dR.vals (I:=I) (N:=N) (o+1) cs h4;refine ⟨x::vs,by simp [g1],fun j v hj=> ?_,?_⟩
  ·cases j with
   |zero=>simp at hj;subst hj;exact h2
   |succ j =>
    simp at hj;have:=g2 j v hj;rw [show o+(j+1)=o+1+j from by omega];exact this
  ·simp only [H8,G8]
   exact ⟨x,vs,rfl,by simpa [VR] using h3,g3⟩
theorem G8.length {G:Gh}{I:S4}{N:Nat->Prop}{w:World}:∀ (l:List b6) (vs:List Value),G8 G I N w l vs->vs.length=l.length
 |[],vs,h=>by simp [G8] at h;simp [h]
 |a::as,vs,h=>by
  simp only [G8] at h;obtain ⟨x,xs,h1,_,h3⟩:=h;subst h1;simp [G8.length as xs h3]
theorem HR.rd {G:Gh}{I:S4}{N:Nat->Prop}{w:World}{H:o6}(hH:HR G I N w H){id off n:Nat}{vs:List b6}(h:rd H id off n=some vs)(hn:0<n) :
  N id/\∃ xs:List Value,xs.length=n/\vs.length=n/\(∀ j v,xs[j]? =some v->w.cell? (ad (I id).1 ((I id).2+off+j))=some v) /\
   (∀ j a v,vs[j]? =some a->xs[j]? =some v->VR G I N w (.cell id (off+j)) a v):=by
 unfold z7.rd at h;split at h
 ·rename_i l hl
  split at h
  ·rename_i hlen
   cases h;have ho:=hH id _ hl;simp only [OR] at ho;obtain ⟨hid,c,e,f,h1,h2,h3,h4,h5⟩:=ho
   ·refine ⟨hid,(List.range n).map (fun j=>(c[(I id).2+off+j]?).getD default),by simp,by simp;omega,fun j v hj=> ?_,fun j a v ha hv=> ?_⟩
    ·rw [T4 h1]
     have hjn:j<n:=by
      rcases p9 j n with h|h
      ·exact h
      ·simp [h] at hj
     simp [hjn] at hj;have hlt:(I id).2+off+j<c.size:=by omega
     simp [hlt] at hj ⊢;exact hj
    ·have hjn:j<n:=by
      rcases p9 j n with h|h
      ·exact h
      ·simp [h] at hv
     have hla:l[off+j]? =some a:=by
      rw [List.getElem?_take_of_lt hjn,List.getElem?_drop] at ha;exact ha
     obtain ⟨u,g1,g2⟩:=h5 (off+j) a hla;simp [hjn] at hv;have e1:(I id).2+(off+j)=(I id).2+off+j:=by omega
     rw [e1] at g1;rw [g1] at hv;simp at hv;subst hv;exact g2
  ·cases h
 ·cases h
section
variable {P:Program} {w:World}
theorem info_of_underlying {t:TypeId}{d:TypeDesc}(h:P.underlying t=some d):(P.info? t).isSome=true:=by
 unfold Program.underlying at h;split at h<;>simp_all
theorem run_sizeOf {t:TypeId}(h:(P.info? t).isSome=true):(sizeOf t).run P w= .ok (P.cellsOf t) w:=by
 cases hi:P.info? t with
 |none=>simp [hi] at h
 |some i=>simp [sizeOf,typeInfo,hi,Program.cellsOf]
theorem cL {t:TypeId}{b:Bool}(h:er P t=some b):(isAgg t).run P w= .ok b w:=by
 unfold er at h;cases hu:P.underlying t with
 |none=>simp [hu] at h
 |some d=>cases d<;>simp [hu] at h<;>subst h<;>simp [isAgg,run_underlying hu]
theorem gp {t:TypeId}{sz:Nat}(h:mc P t sz=true):∃ e,P.underlying t=some (.slice e)/\P.cellsOf e=sz/\(P.info? e).isSome=true:=by
 unfold mc at h;split at h
 ·rename_i e he
  simp at h;exact ⟨e,he,h.1,h.2⟩
 ·cases h
theorem P8 {G:Gh}{I:S4}{N:Nat->Prop}:∀ (l:List b6) (xs:List Value),xs.length=l.length ->
  (∀ (j:Nat) a v,l[j]? =some a->xs[j]? =some v->VR G I N w .none a v)->G8 G I N w l xs
 |[],xs,h,_=>by simp at h;simp [G8,h]
 |a::as,[],h,_=>by simp at h
 |a::as,x::xs,h,hp=>by
  simp only [G8];exact ⟨x,xs,rfl,hp 0 a x rfl rfl,P8 as xs (by simpa using h) fun j a' v ha hv=>hp (j+1) a' v (by simpa using ha) (by simpa using hv)⟩
theorem G8.get {G:Gh}{I:S4}{N:Nat->Prop}:∀ (l:List b6) (xs:List Value),G8 G I N w l xs->∀ (j:Nat) a,l[j]? =some a->∃ v,xs[j]? =some v/\VR G I N w .none a v
 |[],_,_,_,_,h=>by simp at h
 |a::as,xs,h,j,b,hb=>by
  simp only [G8] at h;obtain ⟨x,xs',h1,h2,h3⟩:=h;subst h1;cases j with
  |zero=>simp at hb;subst hb;exact ⟨x,rfl,h2⟩
  |succ j=>simpa using G8.get as xs' h3 j b (by simpa using hb)
theorem VR.place {G:Gh}{I:S4}{N:Nat->Prop}{a:b6}{x:Value}{pl:Place}(h:VR G I N w .none a x):VR G I N w pl a x:=by
 cases a with
 |own sz len cells =>
  simp only [VR] at h ⊢;obtain ⟨h0,h⟩:=h;refine ⟨h0,?_⟩
  rcases h with h|⟨h,_⟩
  ·exact Or.inl h
  ·exact absurd rfl h
 |_=>first|(simp only [VR] at h ⊢;exact h)|(simp only [VR])
variable {ck:Operand->u5->Bool} {η:Operand->Value} {ρ:u5->b6} {G:Gh} {I:S4} {N:Nat->Prop} {H:o6}
abbrev Good (P:Program)(G:Gh)(I:S4)(N:Nat->Prop)(w:World)(η:Operand->Value)(o:Oper)(v:b6):Prop :=
 ∃ x,(execOp η o).run P w= .ok (.value x) w/\VR G I N w .none v x
abbrev aF (ck:Operand->u5->Bool)(G:Gh)(I:S4)(N:Nat->Prop)(w:World)(η:Operand->Value)(ρ:u5->b6):Prop :=
 ∀ x y,ck x y=true->VR G I N w .none (ρ y) (η x)
theorem LI (hρ:aF ck G I N w η ρ){o:Oper}{c a b:u5}(hc:B0 P ck o (.pick c a b)=true){v:b6}{rs:List Nat}
  (h:m7 ρ H (.pick c a b)=some (v,rs)):Good P G I N w η o v:=by
 obtain ⟨dst,bK,ty,pos,after,guard⟩:=o;cases bK<;>simp [B0] at hc;rename_i c' a' b';have h1:=hρ _ _ hc.1.1;have h2:=hρ _ _ hc.1.2;have h3:=hρ _ _ hc.2;simp only [m7] at h;split at h
 ·rename_i t ht
  simp at h;obtain ⟨rfl,rfl⟩:=h;rw [ht] at h1;simp only [VR,DR] at h1;refine ⟨if t then η a' else η b',by simp [execOp,h1,asBool],?_⟩;cases t<;>simpa
 ·cases h
theorem LF (hρ:aF ck G I N w η ρ)(hH:HR G I N w H){o:Oper}{n:Option Nat}{y:u5}(hc:B0 P ck o (.load n y)=true){v:b6}{rs:List Nat}
  (h:m7 ρ H (.load n y)=some (v,rs)):Good P G I N w η o v:=by
 obtain ⟨dst,bK,ty,pos,after,guard⟩:=o;cases bK<;>simp [B0] at hc;rename_i t x;have h1:=hρ _ _ hc.1;cases n with
 |none =>
  have ha:er P t=some false:=by simpa [oY] using hc.2
  simp only [m7] at h;split at h
  ·rename_i id off hp
   rw [hp] at h1;simp only [VR] at h1;split at h
   ·rename_i u hu
    simp at h;obtain ⟨rfl,rfl⟩:=h;obtain ⟨_,xs,g1,_,g3,g4⟩:=hH.rd hu (by omega);obtain ⟨z,rfl⟩:∃ z,xs=[z]:=by
     match xs,g1 with
     |[z],_=>exact ⟨z,rfl⟩
    have hz:=g3 0 z rfl;have hv:=g4 0 u z rfl rfl;refine ⟨z,?_,hv.G9⟩;simp at hz;simp [execOp,Instr.loadAt,h1.2,Instr.sureAddr,loadVar,cL ha,hz]
   ·cases h
  ·rename_i c cs hp
   simp at h;obtain ⟨rfl,rfl⟩:=h;rw [hp] at h1;simp only [VR,dR] at h1;obtain ⟨b,off,g1,_,⟨z,g2,g3⟩,_⟩:=h1;refine ⟨z,?_,by simpa [VR] using g3⟩;simp [execOp,Instr.loadAt,g1,Instr.sureAddr,loadVar,cL ha,g2]
  ·cases h
 |some n =>
  have ha:er P t=some true/\P.cellsOf t=n/\0<n:=by simpa [oY,and_assoc] using hc.2
  have hs:(sizeOf t).run P w= .ok n w:=by
   rw [<- ha.2.1];refine run_sizeOf ?_;have:=ha.1;unfold er at this;cases hu:P.underlying t with
   |none=>simp [hu] at this
   |some d=>exact info_of_underlying hu
  simp only [m7] at h;split at h
  ·rename_i id off hp
   rw [hp] at h1;simp only [VR] at h1;split at h
   ·rename_i us hu
    simp at h;obtain ⟨rfl,rfl⟩:=h;obtain ⟨_,xs,g1,g2,g3,g4⟩:=hH.rd hu (by omega);have hl:=run_loadCells_list (P:=P) w (ad (I id).1 ((I id).2+off)) xs (fun j v hj=>by rw [Z9];exact g3 j v hj);rw [g1] at hl;refine ⟨.agg xs.toArray,?_,?_⟩
    ·simp [execOp,Instr.loadAt,h1.2,Instr.sureAddr,loadVar,cL ha.1,hs,hl]
    ·simp only [VR]
     refine ⟨_,rfl,P8 _ _ (by simp [g1,g2]) fun j a v hj hv=> ?_⟩;simp at hj hv;obtain ⟨a',WW,rfl⟩:=hj;exact (g4 j a' v WW hv).G9
   ·cases h
  ·rename_i cells hp
   split at h
   ·rename_i hn
    simp at h;obtain ⟨rfl,rfl⟩:=h;rw [hp] at h1;simp only [VR] at h1;obtain ⟨b,off,g1,g2⟩:=h1;obtain ⟨xs,e1,e2,e3⟩:=dR.vals (I:=I) (N:=N) off _ (dR.take n off cells g2);have UC :xs.length=n:=by rw [e1];simp;omega
    have hl:=run_loadCells_list (P:=P) w (ad b off) xs (fun j v hj=>by rw [Z9];exact e2 j v hj);rw [UC] at hl;refine ⟨.agg xs.toArray,?_,?_⟩
    ·simp [execOp,Instr.loadAt,g1,Instr.sureAddr,loadVar,cL ha.1,hs,hl]
    ·simp only [VR]
     exact ⟨_,rfl,by simpa using e3⟩
   ·cases h
  ·cases h
theorem Hr (hρ:aF ck G I N w η ρ){o:Oper}{y:u5}(hc:B0 P ck o (.Z5 y)=true){v:b6}{rs:List Nat}
  (h:m7 ρ H (.Z5 y)=some (v,rs)):Good P G I N w η o v:=by
 obtain ⟨dst,bK,ty,pos,after,guard⟩:=o;cases bK<;>simp [B0] at hc;rename_i x;have h1:=hρ _ _ hc;simp only [m7] at h;split at h
 ·rename_i id off hp
  simp at h;obtain ⟨rfl,rfl⟩:=h;rw [hp] at h1;have h2:=h1;simp only [VR] at h1;exact ⟨η x,by simp [execOp,h1.2],h2⟩
 ·rename_i cells hp
  simp at h;obtain ⟨rfl,rfl⟩:=h;rw [hp] at h1;have h2:=h1;simp only [VR] at h1;obtain ⟨b,off,g1,g2⟩:=h1;exact ⟨η x,by simp [execOp,g1],h2⟩
 ·rename_i f a b hp
  simp at h;obtain ⟨rfl,rfl⟩:=h;rw [hp] at h1;have h2:=h1;simp only [VR] at h1;obtain ⟨x',y',g1,g2,g3⟩:=h1;exact ⟨η x,by simp [execOp,g1],h2⟩
 ·cases h
def Data.val:Data->Value
 | .bool b=> .bool b
 | .int k n=> .int k n
 | .str s=> .string ⟨s.toArray⟩
 | .cj=> .pointer Option.none
 | .O0=> .nilFunc
 | .ew=> .map Option.none
 | .nilIface=> .nilIface
 | .slice _ _=> .slice Option.none 0 0
theorem yP {b:BinOp}{x y r:Data}(h:L7 b x y=some r){u v:Value}(hu:DR G w x u)(hv:DR G w y v)(t:TypeId)(p q:Operand) :
  ∃ z,(do eqGuard b t p q u v;binOp b t u v).run P w= .ok z w/\DR G w r z:=by
 refine ⟨Data.val r,?_⟩;unfold L7 at h;split at h
 ·rename_i k a k' c
  simp only [DR] at hu hv;subst hu hv;have hg:(eqGuard b t p q (.int k a) (.int k' c)).run P w= .ok () w:=by unfold eqGuard;cases b<;>simp
  split at h
  ·rename_i hsh
   unfold vz at h;split at h
   ·cases h
   ·rename_i hneg
    cases b<;>simp [W2] at hsh<;>simp at h<;>subst h <;>
     exact ⟨by simp [hg,binOp,Op.shift,hneg,Data.val],by simp [DR,Data.val]⟩
  ·rename_i hsh
   split at h
   ·rename_i hk
    subst hk;unfold aO at h;cases b<;>simp [W2] at hsh<;>simp at h
    all_goals first
     |(subst h;exact ⟨by simp [hg,binOp,Op.intArith,Op.intCmp,Op.intBits,Data.val],by simp [DR,Data.val]⟩)
     |(obtain ⟨h0,rfl⟩:=h;exact ⟨by simp [hg,binOp,Op.intDiv,h0,Data.val],by simp [DR,Data.val]⟩)
   ·cases h
 ·rename_i a c
  simp only [DR] at hu hv;subst hu hv;have hg:(eqGuard b t p q (.string ⟨a.toArray⟩) (.string ⟨c.toArray⟩)).run P w= .ok () w:=by unfold eqGuard;cases b<;>simp
  unfold sx at h;cases b<;>simp at h
  all_goals first
   |(subst h;exact ⟨by simp [hg,binOp,Op.stringOp,Data.val],by simp [DR,Data.val]⟩)
   |skip
  obtain ⟨h0,rfl⟩:=h;have UL:(⟨a.toArray⟩++⟨c.toArray⟩:ByteArray)=⟨(a++c).toArray⟩:=by
   apply ByteArray.ext;simp
  refine ⟨?_,by simp [DR,Data.val]⟩
  ·have hs:¬ (((⟨a.toArray⟩:ByteArray).size+(⟨c.toArray⟩:ByteArray).size:Nat):Int)>IntKind.i64.max:=by
    have e1:(⟨a.toArray⟩:ByteArray).size=a.length:=by simp [ByteArray.size]
    have e2:(⟨c.toArray⟩:ByteArray).size=c.length:=by simp [ByteArray.size]
    rw [e1,e2];have:IntKind.i64.max=9223372036854775807:=by decide
    rw [this];omega
   simp only [Sem.run_bind,hg,Result.andThen_ok,binOp,Op.stringOp,if_neg hs,Sem.run_pure,Data.val,UL]
 ·cases h
theorem Ob (hρ:aF ck G I N w η ρ){o:Oper}{b:BinOp}{x y:u5}(hc:B0 P ck o (.bin b x y)=true){v:b6}{rs:List Nat}
  (h:m7 ρ H (.bin b x y)=some (v,rs)):Good P G I N w η o v:=by
 obtain ⟨dst,bK,ty,pos,after,guard⟩:=o;cases bK<;>simp [B0] at hc;rename_i b' t x' y' ty';obtain ⟨⟨rfl,hx⟩,hy⟩:=hc;have h1:=hρ _ _ hx;have h2:=hρ _ _ hy;simp only [m7] at h;split at h
 ·rename_i a c ha qw
  rw [ha] at h1;rw [qw] at h2;simp only [VR] at h1 h2;split at h
  ·rename_i r hr
   simp at h;obtain ⟨rfl,rfl⟩:=h;obtain ⟨z,g1,g2⟩:=yP (P:=P) hr h1 h2 t x' y';exact ⟨z,by simp only [execOp];rw [Sem.run_bind,g1];rfl,by simpa [VR] using g2⟩
  ·cases h
 ·cases h
theorem qt (d:Nat){t e:TypeId}(he:P.underlying t=some (.slice e))(a:Addr)(l c:Nat):(Op.equalIn (d+1) t (.slice (some a) l c) (.slice Option.none 0 0)).run P w= .ok false w:=by
 simp [Op.equalIn,run_underlying he]
theorem uA {t e:TypeId}(he:P.underlying t=some (.slice e))(a:Addr)(l c:Nat):(Op.equal t (.slice (some a) l c) (.slice Option.none 0 0)).run P w= .ok false w:=qt 9999 he a l c
theorem uz (d:Nat){t:TypeId}{ms:Array (String×TypeId)}(he:P.underlying t=some (.interface ms)):(Op.equalIn (d+1) t .nilIface .nilIface).run P w= .ok true w:=by
 simp [Op.equalIn,run_underlying he]
theorem nY {t:TypeId}{ms:Array (String×TypeId)}(he:P.underlying t=some (.interface ms)):(Op.equal t .nilIface .nilIface).run P w= .ok true w:=uz 9999 he
theorem BB (d:Nat){t:TypeId}(he:P.underlying t=some .bool)(a b:Bool):(Op.equalIn (d+1) t (.bool a) (.bool b)).run P w= .ok (a==b) w:=by
 simp [Op.equalIn,run_underlying he]
theorem GF {t:TypeId}(he:P.underlying t=some .bool)(a b:Bool):(Op.equal t (.bool a) (.bool b)).run P w= .ok (a==b) w:=BB 9999 he a b
theorem LH (Ql:∀ v,η (.const v)=v)(hρ:aF ck G I N w η ρ){o:Oper}{neg:Bool}{x:u5}(hc:B0 P ck o (.BS neg x)=true){v:b6}{rs:List Nat}
  (h:m7 ρ H (.BS neg x)=some (v,rs)):Good P G I N w η o v:=by
 obtain ⟨dst,bK,ty,pos,after,guard⟩:=o;unfold B0 at hc;split at hc<;>try (cases hc;done)
 all_goals try (rename_i W7 W3;cases W3;done)
 all_goals rename_i W7 W3
 all_goals cases W3
 all_goals simp only at W7
 all_goals subst W7
 rename_i b t x' ty';simp only [b5] at hc;obtain ⟨⟨hx,ht⟩,hb⟩:=hc;have h1:=hρ _ _ hx;obtain ⟨e,he⟩:∃ e,P.underlying t=some (.slice e):=by
  split at ht
  ·exact ⟨_,by assumption⟩
  ·cases ht
 have key:∃ a l c,η x' = .slice (some a) l c/\v= .d (.bool neg):=by
  simp only [m7] at h;split at h
  ·rename_i len cells hp
   split at h
   ·simp at h;obtain ⟨rfl,rfl⟩:=h
    rw [hp] at h1;simp only [VR,DR] at h1
    rcases h1 with ⟨_,h0,_⟩|⟨b',o',cap,h1,_,_⟩
    ·omega
    ·exact ⟨_,_,_,h1,rfl⟩
   ·cases h
  ·rename_i id sz lo len hp
   simp at h;obtain ⟨rfl,rfl⟩:=h;rw [hp] at h1;simp only [VR] at h1;obtain ⟨_,cap,h1,_⟩:=h1;exact ⟨_,_,_,h1,rfl⟩
  ·cases h
 obtain ⟨a,l,c,hx',rfl⟩:=key;refine ⟨.bool neg,?_,by simp [VR,DR]⟩;simp only [execOp,hx',Ql];cases neg<;>simp at hb<;>subst hb<;>simp only [eqGuard,binOp]<;>simp [uA he]
theorem LG (Ql:∀ v,η (.const v)=v)(hρ:aF ck G I N w η ρ){o:Oper}{neg:Bool}{x:u5}(hc:B0 P ck o (.Hg neg x)=true){v:b6}{rs:List Nat}
  (h:m7 ρ H (.Hg neg x)=some (v,rs)):Good P G I N w η o v:=by
 obtain ⟨dst,bK,ty,pos,after,guard⟩:=o;unfold B0 at hc;split at hc<;>try (cases hc;done)
 all_goals try (rename_i W7 W3;cases W3;done)
 all_goals rename_i W7 W3
 all_goals cases W3
 all_goals simp only at W7
 all_goals subst W7
 rename_i b t x' ty';simp only [b5] at hc;obtain ⟨⟨hx,ht⟩,hb⟩:=hc;have h1:=hρ _ _ hx;obtain ⟨e,he⟩:∃ e,P.underlying t=some (.interface e):=by
  split at ht
  ·exact ⟨_,by assumption⟩
  ·cases ht
 simp only [m7] at h;split at h
 ·rename_i hp
  simp at h;obtain ⟨rfl,rfl⟩:=h;rw [hp] at h1;simp only [VR,DR] at h1;refine ⟨.bool (!neg),?_,by simp [VR,DR]⟩;simp only [execOp,h1,Ql];cases neg<;>simp at hb<;>subst hb<;>simp only [eqGuard,binOp]<;>simp [nY he]
 ·cases h
theorem Oc (hρ:aF ck G I N w η ρ){o:Oper}{neg:Bool}{x y:u5}(hc:B0 P ck o (.o9 neg x y)=true){v:b6}{rs:List Nat}
  (h:m7 ρ H (.o9 neg x y)=some (v,rs)):Good P G I N w η o v:=by
 obtain ⟨dst,bK,ty,pos,after,guard⟩:=o;cases bK<;>simp only [B0,b5] at hc<;>try (cases hc;done)
 rename_i b t x' y' ty';obtain ⟨⟨⟨hx,hy⟩,ht⟩,hb⟩:=hc;have h1:=hρ _ _ hx;have h2:=hρ _ _ hy;have he:P.underlying t=some .bool:=by
  split at ht
  ·assumption
  ·cases ht
 simp only [m7] at h;split at h
 ·rename_i a c ha qw
  simp at h;obtain ⟨rfl,rfl⟩:=h;rw [ha] at h1;rw [qw] at h2;simp only [VR,DR] at h1 h2;refine ⟨.bool (neg != (a==c)),?_,by simp [VR,DR]⟩;simp only [execOp,h1,h2];cases neg<;>simp at hb<;>subst hb<;>simp only [eqGuard,binOp]<;>simp [GF he]
 ·cases h
theorem Lp {t:TypeId}{k:CK}(h:bI P t k=true):er P t=some false:=by
 unfold er;cases k<;>simp only [bI] at h<;>split at h<;>simp_all
theorem run_part_plain {t:TypeId}{k:CK}(h:bI P t k=true)(cs:Array Value)(off:Nat)(v:Value)(hv:cs[off]? =some v):(part t cs off).run P w= .ok v w:=by
 simp [part,cL (Lp h),hv]
theorem DL {k:CK}{a b:Data}{r:Bool}(h:Data.Z0 k a b=some r){u v:Value}(hu:DR G w a u)(hv:DR G w b v){t:TypeId}(ht:bI P t k=true)(d:Nat) :
  (Op.equalIn (d+1) t u v).run P w= .ok r w:=by
 unfold Data.Z0 at h;split at h
 ·rename_i k x k' y
  simp only [DR] at hu hv;subst hu hv;split at h
  ·rename_i hkk
   subst hkk;simp at h;subst h;simp only [bI] at ht;split at ht
   ·rename_i k2 hk2;simp [Op.equalIn,run_underlying hk2]
   ·cases ht
  ·cases h
 ·rename_i x y
  simp only [DR] at hu hv;subst hu hv;simp at h;subst h;simp only [bI] at ht;split at ht
  ·rename_i h2;simp [Op.equalIn,run_underlying h2,beq_toListBytes]
  ·cases ht
 ·rename_i x y
  simp only [DR] at hu hv;subst hu hv;simp at h;subst h;simp only [bI] at ht;split at ht
  ·rename_i h2;simp [Op.equalIn,run_underlying h2]
  ·cases ht
 ·cases h
theorem nX (d:Nat)(xs ys:Array Value):∀ (fs:List Field) (n:Nat) (ks:List CK) (a b:List b6) (r:Bool),ep P fs n ks=true->nx ks a b=some r ->
  (∀ (j:Nat) c,a[j]? =some c->∃ v,xs[n+j]? =some v/\VR G I N w .none c v)->(∀ (j:Nat) c,b[j]? =some c->∃ v,ys[n+j]? =some v/\VR G I N w .none c v) ->
  (Op.eqFields (d+1) xs ys fs).run P w= .ok r w
 |[],n,ks,a,b,r,hf,hc,_,_=>by
  cases ks with
  |nil =>
   unfold nx at hc;split at hc<;>simp_all [Op.eqFields]
  |cons=>simp [ep] at hf
 |f::fs,n,[],a,b,r,hf,hc,_,_=>by simp [ep] at hf
 |f::fs,n,k::ks,a,b,r,hf,hc,ha,hb=>by
  simp only [ep,b5,bne_iff_ne,beq_iff_eq] at hf;obtain ⟨⟨⟨h1,h2⟩,h3⟩,h4⟩:=hf;unfold nx at hc;split at hc
  ·simp_all
  ·rename_i k0 ks0 x a' y b' e1
   cases e1;split at hc
   ·rename_i t ht
    split at hc
    ·rename_i u hu
     simp at hc;subst hc;obtain ⟨v1,g1,g2⟩:=ha 0 _ rfl;obtain ⟨v2,g3,g4⟩:=hb 0 _ rfl;simp only [VR] at g2 g4;rw [Nat.add_zero] at g1 g3;have e1:=run_part_plain (w:=w) h2 xs n v1 g1;have e2:=run_part_plain (w:=w) h2 ys n v2 g3;have e3:=DL (P:=P) ht g2 g4 h2 d;have ih:=nX d xs ys fs (n+1) ks a' b' u h4 hu (fun j c hj=>by rw [show n+1+j=n+(j+1) from by omega];exact ha (j+1) c (by simpa using hj))
      (fun j c hj=>by rw [show n+1+j=n+(j+1) from by omega];exact hb (j+1) c (by simpa using hj))
     simp only [Op.eqFields,if_pos h1,Sem.run_bind,h3,e1,e2,e3,Result.andThen_ok];cases t<;>simp [ih]
    ·cases hc
   ·cases hc
  ·cases hc
theorem Od (hρ:aF ck G I N w η ρ){o:Oper}{neg:Bool}{ks:List CK}{x y:u5}(hc:B0 P ck o (.Mf neg ks x y)=true){v:b6}{rs:List Nat}
  (h:m7 ρ H (.Mf neg ks x y)=some (v,rs)):Good P G I N w η o v:=by
 obtain ⟨dst,bK,ty,pos,after,guard⟩:=o;cases bK<;>simp only [B0,b5] at hc<;>try (cases hc;done)
 rename_i b t x' y' ty';obtain ⟨⟨⟨hx,hy⟩,ht⟩,hb⟩:=hc;have h1:=hρ _ _ hx;have h2:=hρ _ _ hy;unfold vZ at ht;split at ht
 ·rename_i fs hfs
  simp only [b5,j5] at ht;simp only [m7] at h;split at h
  ·rename_i a c ha qw
   split at h
   ·rename_i r hr
    simp at h;obtain ⟨rfl,rfl⟩:=h;rw [ha] at h1;rw [qw] at h2;simp only [VR] at h1 h2;obtain ⟨xs,e1,e2⟩:=h1;obtain ⟨ys,e3,e4⟩:=h2;have hff:P.fieldsOf t=fs:=by simp [Program.fieldsOf,hfs]
    have heq:=run_equalIn_struct (P:=P) w 9999 t xs ys (by rw [hff];exact hfs) ht.1.2;rw [hff,nX (P:=P) (G:=G) (I:=I) (N:=N) 9998 xs ys fs.toList 0 ks a c r ht.1.1 hr
     (fun j u hu=>by obtain ⟨v,g1,g2⟩:=G8.get a _ e2 j u hu;exact ⟨v,by simpa using g1,g2⟩)
     (fun j u hu=>by obtain ⟨v,g1,g2⟩:=G8.get c _ e4 j u hu;exact ⟨v,by simpa using g1,g2⟩)] at heq
    refine ⟨.bool (neg != r),?_,by simp [VR,DR]⟩;simp only [execOp,e1,e3,Sem.run_bind,run_eqGuard_agg w b t x' y' xs ys ht.2,Result.andThen_ok];cases neg<;>simp at hb<;>subst hb
    ·rw [run_eql_struct,heq];simp
    ·rw [run_neq_struct,heq];simp
   ·cases h
  ·cases h
 ·cases ht
end
section
variable {P:Program} {w:World} {ck:Operand->u5->Bool} {η:Operand->Value} {ρ:u5->b6} {G:Gh} {I:S4} {N:Nat->Prop} {H:o6}
theorem RG (hρ:aF ck G I N w η ρ){o:Oper}{b:UnOp}{x:u5}(hc:B0 P ck o (.un b x)=true){v:b6}{rs:List Nat}
  (h:m7 ρ H (.un b x)=some (v,rs)):Good P G I N w η o v:=by
 obtain ⟨dst,bK,ty,pos,after,guard⟩:=o;cases bK<;>simp [B0] at hc;rename_i b' t x';obtain ⟨rfl,hx⟩:=hc;have h1:=hρ _ _ hx;simp only [m7] at h;split at h
 ·rename_i a ha
  rw [ha] at h1;simp only [VR] at h1;split at h
  ·rename_i r hr
   simp at h;obtain ⟨rfl,rfl⟩:=h;refine ⟨Data.val r,?_⟩;unfold xZ at hr;split at hr
   ·simp only [DR] at h1
    cases b' <;>simp at hr;subst hr;simp [execOp,h1,Op.unary,Op.intArith,Data.val,VR,DR]
   ·simp only [DR] at h1
    cases b' <;>simp at hr;subst hr;simp [execOp,h1,Op.unary,Data.val,VR,DR]
   ·cases hr
  ·cases h
 ·cases h
theorem Hq (hρ:aF ck G I N w η ρ){o:Oper}{k:IntKind}{x:u5}(hc:B0 P ck o (.kQ k x)=true){v:b6}{rs:List Nat}
  (h:m7 ρ H (.kQ k x)=some (v,rs)):Good P G I N w η o v:=by
 obtain ⟨dst,bK,ty,pos,after,guard⟩:=o;cases bK<;>simp only [B0,b5] at hc<;>try (cases hc;done)
 rename_i s d x';obtain ⟨⟨hx,hs⟩,hd⟩:=hc;have h1:=hρ _ _ hx;obtain ⟨ds,hds⟩:=Option.isSome_iff_exists.1 hs;split at hd
 ·rename_i k' hk'
  simp at hd;subst hd;simp only [m7] at h;split at h
  ·rename_i k2 n ha
   simp at h;obtain ⟨rfl,rfl⟩:=h;rw [ha] at h1;simp only [VR,DR] at h1;refine ⟨.int k (k.wrap n),?_,by simp [VR,DR]⟩;simp [execOp,h1,convert,run_underlying hds,run_underlying hk',Conv.intToInt]
  ·cases h
 ·cases hd
theorem Ei (hρ:aF ck G I N w η ρ){o:Oper}{x:u5}(hc:B0 P ck o (.oM x)=true){v:b6}{rs:List Nat}
  (h:m7 ρ H (.oM x)=some (v,rs)):Good P G I N w η o v:=by
 obtain ⟨dst,bK,ty,pos,after,guard⟩:=o;cases bK<;>simp only [B0,b5] at hc<;>try (cases hc;done)
 rename_i s d x';obtain ⟨⟨hx,hs⟩,hd⟩:=hc;have h1:=hρ _ _ hx;obtain ⟨ds,hds⟩:=Option.isSome_iff_exists.1 hs;split at hd
 ·rename_i hk'
  simp only [m7] at h;split at h
  ·rename_i l ha
   simp at h;obtain ⟨rfl,rfl⟩:=h;rw [ha] at h1;simp only [VR,DR] at h1;refine ⟨.string ⟨l.toArray⟩,?_,by simp [VR,DR]⟩;cases ds<;>simp [execOp,h1,convert,run_underlying hds,run_underlying hk']
  ·cases h
 ·cases hd
theorem vF:∀ (vs:List Value) (l:List Data) (bs:List UInt8),eO l=some bs->G8 G I N w (l.map .d) vs ->
  ∃ ns:List Int,vs=ns.map (Value.int .u8)/\bs=ns.map fun n=>UInt8.ofNat n.toNat
 |vs,[],bs,hb,hv=>by
  simp [eO] at hb;subst hb;simp [G8] at hv;subst hv;exact ⟨[],rfl,rfl⟩
 |vs,a::as,bs,hb,hv=>by
  simp only [H8,G8] at hv;obtain ⟨x,xs,rfl,e2,e3⟩:=hv;unfold eO at hb;split at hb
  ·cases ‹a::as=[]›
  ·rename_i n r heq
   cases heq;split at hb
   ·rename_i bs' Lh
    simp at hb;subst hb;simp only [VR,DR] at e2;subst e2;obtain ⟨ns,rfl,rfl⟩:=vF xs as bs' Lh e3;exact ⟨n::ns,rfl,rfl⟩
   ·cases hb
  ·cases hb
theorem foldl_push:∀ (ns:List Int) (s:ByteArray),(ns.foldl (fun r n=>r.push (UInt8.ofNat n.toNat)) s)=⟨(s.data.toList++ns.map fun n=>UInt8.ofNat n.toNat).toArray⟩
 |[],s=>by simp
 |n::ns,s=>by
  rw [List.foldl_cons,foldl_push ns];simp
theorem Eh (hρ:aF ck G I N w η ρ){o:Oper}{x:u5}(hc:B0 P ck o (.iM x)=true){v:b6}{rs:List Nat}
  (h:m7 ρ H (.iM x)=some (v,rs)):Good P G I N w η o v:=by
 obtain ⟨dst,bK,ty,pos,after,guard⟩:=o;cases bK<;>simp only [B0,b5] at hc<;>try (cases hc;done)
 rename_i s d x';obtain ⟨⟨hx,hs⟩,hd⟩:=hc;have h1:=hρ _ _ hx;split at hs
 ·rename_i e he
  split at hs
  ·rename_i hu8
   split at hd
   ·rename_i UZ
    simp only [m7] at h;split at h
    ·rename_i len cells ha
     split at h
     ·rename_i hlen
      split at h
      ·rename_i bs Lh
       simp at h;obtain ⟨rfl,rfl⟩:=h;rw [ha] at h1;simp only [VR,DR] at h1;refine ⟨.string ⟨bs.toArray⟩,?_,by simp [VR,DR]⟩
       rcases h1 with ⟨h1,h2,h3⟩|⟨b,off,cap,h1,h2,h3⟩
       ·subst h3
        simp [eO] at Lh;subst Lh
        rcases h1 with h1|⟨a0,h1⟩
        ·simp [execOp,h1,convert,run_underlying he,run_underlying UZ,run_underlying hu8,Conv.bytesToString]
         rfl
        ·have hl:(loadCells a0 0).run P w= .ok (([]:List Int).map (Value.int .u8)).toArray w:=by simp [loadCells,loadCellsFrom]
         simp only [execOp,h1,Sem.run_bind,run_convert_bytes_string w s d e _ _ _ he hu8 UZ,run_bytesToString w a0 0 0 [] hl];rfl
       ·obtain ⟨vs,g1,g2,g3⟩:=dR.vals (I:=I) (N:=N) off cells h3
        have hl:=run_loadCells_list (P:=P) w (ad b off) vs (fun j v hj=>by rw [Z9];exact g2 j v hj);rw [g1,hlen] at hl;obtain ⟨ns,rfl,rfl⟩:=vF (G:=G) (I:=I) (N:=N) vs cells bs Lh g3;simp only [execOp,h1,Sem.run_bind,run_convert_bytes_string w s d e _ _ _ he hu8 UZ,run_bytesToString w (ad b off) len cap ns hl,foldl_push];simp
      ·cases h
     ·cases h
    ·cases h
   ·cases hd
  ·cases hs
 ·cases hs
theorem tC (hρ:aF ck G I N w η ρ){x:Option Operand}{y:Option u5}(hc:Qh ck x y=true){d:Nat}{n:Int}(h:S1 ρ d y=some n) :
  (x=none/\n=d)\/∃ x' k,x=some x' /\η x' = .int k n:=by
 cases y with
 |none =>
  cases x with
  |none=>simp [S1] at h;exact Or.inl ⟨rfl,h.symm⟩
  |some x=>simp [Qh] at hc
 |some y =>
  cases x with
  |none=>simp [Qh] at hc
  |some x =>
   simp only [Qh] at hc;have h1:=hρ _ _ hc;simp only [S1] at h;split at h
   ·rename_i k m hp
    simp at h;subst h;rw [hp] at h1;simp only [VR,DR] at h1;exact Or.inr ⟨x,k,rfl,h1⟩
   ·cases h
theorem nJ (hρ:aF ck G I N w η ρ){lo hi:Option Operand}{lo' hi' :Option u5}(hl:Qh ck lo lo' =true)(hh:Qh ck hi hi' =true){len cap:Nat}{l h:Int}
  (bl:S1 ρ 0 lo' =some l) (bh:S1 ρ len hi' =some h) (h0:0<=l) (h1:l<=h) (h2:h<=len) (hcap:len<=cap) (b:Bool) :
  (Instr.sliceBounds b len cap (lo.map η) (hi.map η) none).run P w= .ok (l.toNat,h.toNat,cap) w:=by
 rcases tC hρ hl bl with ⟨rfl,rfl⟩|⟨x1,k1,rfl,e1⟩<;>rcases tC hρ hh bh with ⟨rfl,rfl⟩|⟨x2,k2,rfl,e2⟩
 ·simp [Instr.sliceBounds]
 ·have a1:(0<=h/\h<=(cap:Int)):=by omega
  simp [Instr.sliceBounds,e2,Instr.sliceBound,asIntOf,a1]
 ·have a1:(0<=l/\l<=(len:Int)):=by omega
  simp [Instr.sliceBounds,e1,Instr.sliceBound,asIntOf,a1]
 ·have a1:(0<=h/\h<=(cap:Int)):=by omega
  have a2:(0<=l/\l<=((h.toNat:Nat):Int)):=by omega
  simp only [Instr.sliceBounds,F1,e1,e2,Instr.sliceBound,asIntOf,Sem.run_bind,Sem.run_pure,Result.andThen_ok,Sem.run_ite,if_pos a1,if_pos a2]
theorem Em (hρ:aF ck G I N w η ρ){o:Oper}{x:u5}{lo hi:Option u5}(hc:B0 P ck o (.pF x lo hi)=true){v:b6}{rs:List Nat}
  (h:m7 ρ H (.pF x lo hi)=some (v,rs)):Good P G I N w η o v:=by
 obtain ⟨dst,bK,ty,pos,after,guard⟩:=o;unfold B0 at hc;split at hc<;>try (cases hc;done)
 all_goals try (rename_i W7 W3;cases W3;done)
 all_goals rename_i W7 W3
 all_goals cases W3
 all_goals simp only at W7
 all_goals subst W7
 rename_i t x' lo' hi';simp only [b5] at hc;obtain ⟨⟨⟨hx,hl⟩,hh⟩,ht⟩:=hc;have h1:=hρ _ _ hx;have hu:P.underlying t=some .string:=by
  split at ht
  ·assumption
  ·cases ht
 simp only [m7] at h;split at h
 ·rename_i s hs
  split at h
  ·rename_i l hi2 bl bh
   split at h
   ·rename_i hb
    simp at h;obtain ⟨rfl,rfl⟩:=h;rw [hs] at h1;simp only [VR,DR] at h1;have hsz:(⟨s.toArray⟩:ByteArray).size=s.length:=by simp [ByteArray.size]
    have hrb:=nJ (P:=P) hρ hl hh bl bh hb.1 hb.2.1 hb.2.2 (k9 _) false;refine ⟨.string ((⟨s.toArray⟩:ByteArray).extract l.toNat hi2.toNat),?_,?_⟩
    ·simp only [execOp,h1,Instr.sliceAt,Sem.run_bind,run_underlying hu,Result.andThen_ok,Instr.slice,hsz]
     simp [hrb]
    ·simp only [VR,DR]
     congr 1
     apply WideShapes.bytes_inj;rw [Lib.extract_data,List.drop_take]
   ·cases h
  ·cases h
 ·cases h
theorem En (hρ:aF ck G I N w η ρ){o:Oper}{sz:Nat}{x:u5}{lo hi:Option u5}(hc:B0 P ck o (.aT sz x lo hi)=true){v:b6}{rs:List Nat}
  (h:m7 ρ H (.aT sz x lo hi)=some (v,rs)):Good P G I N w η o v:=by
 obtain ⟨dst,bK,ty,pos,after,guard⟩:=o;unfold B0 at hc;split at hc<;>try (cases hc;done)
 all_goals try (rename_i W7 W3;cases W3;done)
 all_goals rename_i W7 W3
 all_goals cases W3
 all_goals simp only at W7
 all_goals subst W7
 rename_i t x' lo' hi';simp only [b5,decide_eq_true_eq] at hc;obtain ⟨⟨⟨⟨hx,hl⟩,hh⟩,ht⟩,hsz⟩:=hc;have h1:=hρ _ _ hx;obtain ⟨e,hu,Iy,Li⟩:=gp ht;have hsize:(sizeOf e).run P w= .ok sz w:=by rw [<- Iy];exact run_sizeOf Li
 simp only [m7] at h;split at h
 ·rename_i len cells hs
  split at h
  ·rename_i l hi2 bl bh
   split at h
   ·rename_i hb
    simp at h;obtain ⟨rfl,rfl⟩:=h;rw [hs] at h1;simp only [VR,DR] at h1
    rcases h1 with ⟨h1,h2,h3⟩|⟨b,off,cap,h1,h2,h3⟩
    ·subst h2 h3
     have hrb:=nJ (P:=P) hρ hl hh bl bh hb.1 hb.2.1 hb.2.2.1 (k9 0) true;have hl0:l=0:=by omega
     have hh0:hi2=0:=by omega
     subst hl0 hh0
     rcases h1 with h1|⟨a0,h1⟩
     ·refine ⟨.slice none 0 0,?_,by simp [VR,DR]⟩
      simp only [execOp,h1,Instr.sliceAt,Sem.run_bind,run_underlying hu,Result.andThen_ok,Instr.slice];simp [hrb,hsize]
     ·refine ⟨.slice (some a0) 0 0,?_,by simp [VR,DR]⟩
      simp only [execOp,h1,Instr.sliceAt,Sem.run_bind,run_underlying hu,Result.andThen_ok,Instr.slice];simp [hrb,hsize]
    ·have hrb:=nJ (P:=P) hρ hl hh bl bh hb.1 hb.2.1 hb.2.2.1 h2 true
     refine ⟨.slice (if cap=l.toNat then some (ad b off) else (some (ad b off)).map (·.add (l.toNat * sz))) (hi2.toNat - l.toNat) (cap - l.toNat),?_,?_⟩
     ·simp only [execOp,h1,Instr.sliceAt,Sem.run_bind,run_underlying hu,Result.andThen_ok,Instr.slice]
      simp [hrb,hsize]
     ·simp only [VR,DR]
      have e1:(hi2 - l).toNat=hi2.toNat - l.toNat:=by omega
      by_cases hcl:cap=l.toNat
      ·refine Or.inr ⟨b,off,cap - l.toNat,?_,by omega,?_⟩
       ·rw [if_pos hcl,e1]
       ·have:(cells.take (hi2.toNat * sz)).drop (l.toNat * sz)=[]:=by
         apply List.drop_eq_nil_of_le;have:hi2.toNat * sz<=l.toNat * sz:=Nat.mul_le_mul_right _ (by omega);simp;omega
        rw [this];simp [dR]
      ·refine Or.inr ⟨b,off+l.toNat * sz,cap - l.toNat,?_,by omega,dR.drop _ _ _ (dR.take _ _ _ h3)⟩
       rw [if_neg hcl,e1];simp [Z9]
   ·cases h
  ·cases h
 ·rename_i id z a len hs
  split at h
  ·rename_i l hi2 bl bh
   split at h
   ·rename_i hb
    rw [hs] at h1;simp only [VR] at h1;obtain ⟨g1,cap,g2,g3,c,e',f,g4,g5⟩:=h1;have hrb:=nJ (P:=P) hρ hl hh bl bh hb.1 hb.2.1 hb.2.2.1 g3 true;have e1:(hi2 - l).toNat=hi2.toNat - l.toNat:=by omega
    have hrun:(execOp η ⟨dst,.slice t x' lo' hi' none,ty,pos,after,guard⟩).run P w =
      .ok (.value (.slice (if cap=l.toNat then some (ad (I id).1 ((I id).2+a)) else (some (ad (I id).1 ((I id).2+a))).map (·.add (l.toNat * sz))) (hi2.toNat - l.toNat) (cap - l.toNat))) w:=by
     simp only [execOp,g2,Instr.sliceAt,Sem.run_bind,run_underlying hu,Result.andThen_ok,Instr.slice];simp [hrb,hsize]
    refine ⟨_,hrun,?_⟩;split at h
    ·rename_i hlh
     simp at h;obtain ⟨rfl,rfl⟩:=h;simp only [VR,DR];subst hlh
     by_cases hcl:cap=l.toNat
     ·exact Or.inr ⟨_,_,cap - l.toNat,by rw [if_pos hcl,Nat.sub_self],by omega,by simp [dR]⟩
     ·exact Or.inr ⟨(I id).1,(I id).2+a+l.toNat * sz,cap - l.toNat,by rw [if_neg hcl,Nat.sub_self];simp [Z9],by omega,by simp [dR]⟩
    ·rename_i hlh
     simp at h;obtain ⟨rfl,rfl⟩:=h;simp only [VR];have hcl:¬ cap=l.toNat:=by omega
     refine ⟨g1,cap - l.toNat,?_,by omega,c,e',f,g4,?_⟩
     ·rw [if_neg hcl,e1]
      simp [Z9,I8]
     ·have hz:z=sz:=hb.2.2.2
      subst hz;have:cap * z=(cap - l.toNat) * z+l.toNat * z:=by rw [<- Nat.add_mul];congr 1;omega
      omega
   ·cases h
  ·cases h
 ·cases h
end
section
variable {P:Program} {w:World} {ck:Operand->u5->Bool} {η:Operand->Value} {ρ:u5->b6} {G:Gh} {I:S4} {N:Nat->Prop} {H:o6}
theorem Of (hρ:aF ck G I N w η ρ){o:Oper}{k:Nat}{x:u5}(hc:B0 P ck o (.off k x)=true){v:b6}{rs:List Nat}
  (h:m7 ρ H (.off k x)=some (v,rs)):Good P G I N w η o v:=by
 obtain ⟨dst,bK,ty,pos,after,guard⟩:=o;cases bK<;>simp only [B0,b5] at hc<;>try (cases hc;done)
 rename_i s x' f;obtain ⟨hx,hs⟩:=hc;have h1:=hρ _ _ hx;split at hs
 ·rename_i fs hu
  split at hs
  ·rename_i fd hfd
   simp only [b5,beq_iff_eq,decide_eq_true_eq] at hs;obtain ⟨hk,hpos⟩:=hs;have YP:(P.info? fd.type).isSome=true:=by
    cases hi:P.info? fd.type with
    |none=>simp [Program.cellsOf,hi] at hpos
    |some i=>rfl
   have hsz:(sizeOf fd.type).run P w= .ok (P.cellsOf fd.type) w:=run_sizeOf YP;have hne:¬ P.cellsOf fd.type=0:=by omega
   have hrun:∀ b off,η x' = .pointer (some (ad b off))->(execOp η ⟨dst,.fieldAddr s x' f,ty,pos,after,guard⟩).run P w= .ok (.value (.pointer (some (ad b (off+k))))) w:=by
    intro b off Ql;simp only [execOp,Ql,Instr.fieldAt,Sem.run_bind,run_underlying hu,Result.andThen_ok,hfd,Instr.sureAddr,Sem.run_pure,fieldPlace,hsz,if_neg hne,hk,Z9]
   simp only [m7] at h;split at h
   ·rename_i id off hp
    simp at h;obtain ⟨rfl,rfl⟩:=h;rw [hp] at h1;simp only [VR] at h1;exact ⟨_,hrun _ _ h1.2,by simp only [VR];exact ⟨h1.1,by rw [I8]⟩⟩
   ·rename_i cells hp
    simp at h;obtain ⟨rfl,rfl⟩:=h;rw [hp] at h1;simp only [VR] at h1;obtain ⟨b,off,g1,g2⟩:=h1;exact ⟨_,hrun _ _ g1,by simp only [VR];exact ⟨b,off+k,rfl,dR.drop _ _ _ g2⟩⟩
   ·cases h
  ·cases hs
 ·cases hs
theorem Lx (hρ:aF ck G I N w η ρ){o:Oper}{sz:Nat}{x i:u5}(hc:B0 P ck o (.C3 sz x i)=true){v:b6}{rs:List Nat}
  (h:m7 ρ H (.C3 sz x i)=some (v,rs)):Good P G I N w η o v:=by
 obtain ⟨dst,bK,ty,pos,after,guard⟩:=o;cases bK<;>simp only [B0,b5] at hc<;>try (cases hc;done)
 rename_i t x' i';obtain ⟨⟨hx,hi⟩,ht⟩:=hc;have h1:=hρ _ _ hx;have h2:=hρ _ _ hi;obtain ⟨e,hu,Iy,Li⟩:=gp ht;have hsize:(sizeOf e).run P w= .ok sz w:=by rw [<- Iy];exact run_sizeOf Li
 have hrun:∀ (b off len cap:Nat) (k:IntKind) (n:Int),η x' = .slice (some (ad b off)) len cap->η i' = .int k n->0<=n->n<len ->
   (execOp η ⟨dst,.indexAddr t x' i',ty,pos,after,guard⟩).run P w= .ok (.value (.pointer (some (ad b (off+n.toNat * sz))))) w:=by
  intro b off len cap k n e1 e2 e3 e4;have hb:(0<=n/\n<(len:Int)):=⟨e3,e4⟩;simp [execOp,e1,e2,Instr.indexAt,run_underlying hu,asIntOf,hsize,hb,Z9]
 simp only [m7] at h;split at h
 ·rename_i len cells k n hp hq
  split at h
  ·rename_i hb
   simp at h;obtain ⟨rfl,rfl⟩:=h;rw [hp] at h1;rw [hq] at h2;simp only [VR,DR] at h1 h2
   rcases h1 with ⟨_,h0,_⟩|⟨b,off,cap,g1,g2,g3⟩
   ·omega
   ·exact ⟨_,hrun b off len cap k n g1 h2 hb.1 hb.2,by simp only [VR];exact ⟨b,_,rfl,dR.drop _ _ _ g3⟩⟩
  ·cases h
 ·rename_i id z lo len k n hp hq
  split at h
  ·rename_i hb
   simp at h;obtain ⟨rfl,rfl⟩:=h;rw [hp] at h1;rw [hq] at h2;simp only [VR,DR] at h1 h2;obtain ⟨g1,cap,g2,g3,_⟩:=h1;exact ⟨_,hrun _ _ len cap k n g2 h2 hb.1 hb.2.1,by simp only [VR];exact ⟨g1,by rw [I8]⟩⟩
  ·cases h
 ·cases h
theorem Lz (hρ:aF ck G I N w η ρ){o:Oper}{m sz:Nat}{x i:u5}(hc:B0 P ck o (.fN m sz x i)=true){v:b6}{rs:List Nat}
  (h:m7 ρ H (.fN m sz x i)=some (v,rs)):Good P G I N w η o v:=by
 obtain ⟨dst,bK,ty,pos,after,guard⟩:=o;cases bK<;>simp only [B0,b5] at hc<;>try (cases hc;done)
 rename_i t x' i';obtain ⟨⟨hx,hi⟩,ht⟩:=hc;have h1:=hρ _ _ hx;have h2:=hρ _ _ hi;split at ht
 ·rename_i m' e hu
  simp only [b5,beq_iff_eq] at ht;obtain ⟨⟨rfl,Iy⟩,Li⟩:=ht;have hsize:(sizeOf e).run P w= .ok sz w:=by rw [<- Iy];exact run_sizeOf Li
  have hrun:∀ (b off:Nat) (k:IntKind) (n:Int),η x' = .pointer (some (ad b off))->η i' = .int k n->0<=n->n<m' ->
    (execOp η ⟨dst,.indexAddr t x' i',ty,pos,after,guard⟩).run P w= .ok (.value (.pointer (some (ad b (off+n.toNat * sz))))) w:=by
   intro b off k n e1 e2 e3 e4;have hb:(0<=n/\n<(m' :Int)):=⟨e3,e4⟩;simp [execOp,e1,e2,Instr.indexAt,run_underlying hu,asIntOf,hsize,hb,Z9,Instr.sureAddr]
  simp only [m7] at h;split at h
  ·rename_i id off k n hp hq
   split at h
   ·rename_i hb
    simp at h;obtain ⟨rfl,rfl⟩:=h;rw [hp] at h1;rw [hq] at h2;simp only [VR,DR] at h1 h2;exact ⟨_,hrun _ _ k n h1.2 h2 hb.1 hb.2,by simp only [VR];exact ⟨h1.1,by rw [I8]⟩⟩
   ·cases h
  ·rename_i cells k n hp hq
   split at h
   ·rename_i hb
    simp at h;obtain ⟨rfl,rfl⟩:=h;rw [hp] at h1;rw [hq] at h2;simp only [VR,DR] at h1 h2;obtain ⟨b,off,g1,g2⟩:=h1;exact ⟨_,hrun _ _ k n g1 h2 hb.1 hb.2,by simp only [VR];exact ⟨b,_,rfl,dR.drop _ _ _ g2⟩⟩
   ·cases h
  ·cases h
 ·cases ht
theorem LA (hρ:aF ck G I N w η ρ){o:Oper}{x i:u5}(hc:B0 P ck o (.B8 x i)=true){v:b6}{rs:List Nat}
  (h:m7 ρ H (.B8 x i)=some (v,rs)):Good P G I N w η o v:=by
 obtain ⟨dst,bK,ty,pos,after,guard⟩:=o;cases bK<;>simp only [B0,b5] at hc<;>try (cases hc;done)
 rename_i t x' i';obtain ⟨⟨hx,hi⟩,ht⟩:=hc;have h1:=hρ _ _ hx;have h2:=hρ _ _ hi;split at ht
 ·rename_i hu
  simp only [m7] at h;split at h
  ·rename_i s k n hp hq
   split at h
   ·rename_i h0
    split at h
    ·rename_i b hb
     simp at h;obtain ⟨rfl,rfl⟩:=h;rw [hp] at h1;rw [hq] at h2;simp only [VR,DR] at h1 h2;refine ⟨.int .u8 b.toNat,?_,by simp [VR,DR]⟩;have hsz:(⟨s.toArray⟩:ByteArray).size=s.length:=by simp [ByteArray.size]
     have hlt:n.toNat<s.length:=by
      rcases p9 n.toNat s.length with h|h
      ·exact h
      ·rw [q9 h] at hb;cases hb
     have hg:(⟨s.toArray⟩:ByteArray)[n.toNat]? =some b:=by
      rw [getElem?_pos _ _ (by rw [hsz];exact hlt)];rw [o8 hlt] at hb;simp at hb;subst hb;rfl
     simp [execOp,h1,h2,Instr.index,run_underlying hu,asIntOf,h0,hg]
    ·cases h
   ·cases h
  ·cases h
 ·cases ht
theorem BZ (hρ:aF ck G I N w η ρ){o:Oper}{x:u5}{i:Nat}(hc:B0 P ck o (.extract x i)=true){v:b6}{rs:List Nat}
  (h:m7 ρ H (.extract x i)=some (v,rs)):Good P G I N w η o v:=by
 obtain ⟨dst,bK,ty,pos,after,guard⟩:=o;cases bK<;>simp [B0] at hc;rename_i x' i';obtain ⟨hx,rfl⟩:=hc;have h1:=hρ _ _ hx;simp only [m7] at h;split at h
 ·rename_i vs hp
  split at h
  ·rename_i u hu
   simp at h;obtain ⟨rfl,rfl⟩:=h;rw [hp] at h1;simp only [VR] at h1;obtain ⟨cs,g1,g2⟩:=h1;obtain ⟨z,e1,e2⟩:=G8.get vs _ g2 i' u hu;refine ⟨z,?_,e2⟩;have:cs[i']? =some z:=by simpa using e1
   simp [execOp,g1,Instr.extract,this]
  ·cases h
 ·cases h
theorem Oe (hρ:aF ck G I N w η ρ){o:Oper}{x:u5}(hc:B0 P ck o (.len x)=true){v:b6}{rs:List Nat}
  (h:m7 ρ H (.len x)=some (v,rs)):Good P G I N w η o v:=by
 obtain ⟨dst,bK,ty,pos,after,guard⟩:=o;unfold B0 at hc;split at hc<;>try (cases hc;done)
 all_goals try (rename_i W7 W3;cases W3;done)
 all_goals rename_i W7 W3
 all_goals cases W3
 all_goals simp only at W7
 all_goals subst W7
 rename_i args argTypes;split at hc
 ·rename_i x' t ha hb
  simp only [b5] at hc;obtain ⟨hx,ht⟩:=hc;have h1:=hρ _ _ hx;split at ht
  ·rename_i e hu
   have hrun:∀ a len cap,η x' = .slice a len cap->(execOp η ⟨dst,.call ⟨.builtin .len,args,argTypes⟩,ty,pos,after,guard⟩).run P w= .ok (.value (.int .i64 len)) w:=by
    intro a len cap Ql;have h0:(args.map η)[0]? =some (.slice a len cap):=by simp [ha,Ql]
    simp [execOp,resolve,invoke,builtin,Builtin.len_,hb,h0,run_underlying hu,goInt]
   simp only [m7] at h;split at h
   ·rename_i len cells hp
    simp at h;obtain ⟨rfl,rfl⟩:=h;rw [hp] at h1;simp only [VR,DR] at h1
    rcases h1 with ⟨g1|⟨a0,g1⟩,rfl,_⟩|⟨b,off,cap,g1,_⟩
    ·exact ⟨_,hrun _ _ _ g1,by simp [VR,DR,i64]⟩
    ·exact ⟨_,hrun _ _ _ g1,by simp [VR,DR,i64]⟩
    ·exact ⟨_,hrun _ _ _ g1,by simp [VR,DR,i64]⟩
   ·rename_i id z lo len hp
    simp at h;obtain ⟨rfl,rfl⟩:=h;rw [hp] at h1;simp only [VR] at h1;obtain ⟨_,cap,g2,_⟩:=h1;exact ⟨_,hrun _ _ _ g2,by simp [VR,DR,i64]⟩
   ·cases h
  ·cases ht
 ·cases hc
theorem LD (hρ:aF ck G I N w η ρ){o:Oper}{x:u5}(hc:B0 P ck o (.U7 x)=true){v:b6}{rs:List Nat}
  (h:m7 ρ H (.U7 x)=some (v,rs)):Good P G I N w η o v:=by
 obtain ⟨dst,bK,ty,pos,after,guard⟩:=o;unfold B0 at hc;split at hc<;>try (cases hc;done)
 all_goals try (rename_i W7 W3;cases W3;done)
 all_goals rename_i W7 W3
 all_goals cases W3
 all_goals simp only at W7
 all_goals subst W7
 rename_i args argTypes;split at hc
 ·rename_i x' t ha hb
  simp only [b5] at hc;obtain ⟨hx,ht⟩:=hc;have h1:=hρ _ _ hx;split at ht
  ·rename_i hu
   simp only [m7] at h;split at h
   ·rename_i s hp
    simp at h;obtain ⟨rfl,rfl⟩:=h;rw [hp] at h1;simp only [VR,DR] at h1;have h0:(args.map η)[0]? =some (.string ⟨s.toArray⟩):=by simp [ha,h1]
    have hsz:(⟨s.toArray⟩:ByteArray).size=s.length:=by simp [ByteArray.size]
    refine ⟨.int .i64 s.length,?_,by simp [VR,DR,i64]⟩;simp [execOp,resolve,invoke,builtin,Builtin.len_,hb,h0,run_underlying hu,goInt,hsz]
   ·cases h
  ·cases ht
 ·cases hc
theorem ER.length:∀ (l:List (Data×b6)) (es:List MapEntry),ER G I N w l es->es.length=l.length
 |[],es,h=>by simp [ER] at h;simp [h]
 |(k,v)::r,es,h=>by
  simp only [ER] at h;obtain ⟨e,es',rfl,_,_,h4⟩:=h;simp [ER.length r es' h4]
theorem LB (hρ:aF ck G I N w η ρ)(hH:HR G I N w H){o:Oper}{x:u5}(hc:B0 P ck o (.BN x)=true){v:b6}{rs:List Nat}
  (h:m7 ρ H (.BN x)=some (v,rs)):Good P G I N w η o v:=by
 obtain ⟨dst,bK,ty,pos,after,guard⟩:=o;unfold B0 at hc;split at hc<;>try (cases hc;done)
 all_goals try (rename_i W7 W3;cases W3;done)
 all_goals rename_i W7 W3
 all_goals cases W3
 all_goals simp only at W7
 all_goals subst W7
 rename_i args argTypes;split at hc
 ·rename_i x' t ha hb
  simp only [b5] at hc;obtain ⟨hx,ht⟩:=hc;have h1:=hρ _ _ hx;split at ht
  ·rename_i kt et hu
   simp only [m7] at h;split at h
   ·rename_i hp
    simp at h;obtain ⟨rfl,rfl⟩:=h;rw [hp] at h1;simp only [VR,DR] at h1;have h0:(args.map η)[0]? =some (.map Option.none):=by simp [ha,h1]
    refine ⟨.int .i64 0,?_,by simp [VR,DR,i64]⟩;simp [execOp,resolve,invoke,builtin,Builtin.len_,hb,h0,run_underlying hu,goInt]
   ·rename_i id hp
    split at h
    ·rename_i es he
     simp at h;obtain ⟨rfl,rfl⟩:=h;rw [hp] at h1;simp only [VR] at h1;have hO:=hH id _ he;simp only [OR] at hO;obtain ⟨_,arr,Dj,g1,_,g3⟩:=hO;have h0:(args.map η)[0]? =some (.map (some (I id).1)):=by simp [ha,h1.2]
     have hl:arr.size=es.length:=by simpa using ER.length es _ g3
     refine ⟨.int .i64 es.length,?_,by simp [VR,DR,i64]⟩;have UQ:(getObj (I id).1).run P w= .ok (.map arr Dj) w:=by simp [getObj,Sem.run,g1]
     simp [execOp,resolve,invoke,builtin,Builtin.len_,hb,h0,run_underlying hu,goInt,UQ,hl]
    ·cases h
   ·cases h
  ·cases ht
 ·cases hc
theorem fS (hρ:aF ck G I N w η ρ):∀ (xs:List Operand) (ys:List u5),Mz ck xs ys=true->G8 G I N w (ys.map ρ) (xs.map η)
 |[],[],_=>by simp [G8]
 |x::xs,y::ys,h=>by
  simp only [Mz,b5] at h;simp only [H8,G8];exact ⟨_,_,rfl,hρ _ _ h.1,fS hρ xs ys h.2⟩
 |[],_::_,h=>by simp [Mz] at h
 |_::_,[],h=>by simp [Mz] at h
theorem El (hρ:aF ck G I N w η ρ){o:Oper}{f:FuncId}{a b:List u5}(hc:B0 P ck o (.Y3 f a b)=true){v:b6}{rs:List Nat}
  (h:m7 ρ H (.Y3 f a b)=some (v,rs)):Good P G I N w η o v:=by
 obtain ⟨dst,bK,ty,pos,after,guard⟩:=o;unfold B0 at hc;split at hc<;>try (cases hc;done)
 all_goals try (rename_i W7 W3;cases W3;done)
 all_goals rename_i W7 W3
 all_goals cases W3
 all_goals simp only at W7
 all_goals subst W7
 rename_i f' first caps
 simp only [b5,beq_iff_eq] at hc;obtain ⟨⟨rfl,h1⟩,h2⟩:=hc;simp [m7] at h;obtain ⟨rfl,rfl⟩:=h;refine ⟨.func (.func f') (first.map η) (caps.map η),by simp [execOp,Instr.makeFunc],?_⟩;simp only [VR];exact ⟨_,_,rfl,by simpa using fS hρ _ _ h1,by simpa using fS hρ _ _ h2⟩
theorem wJ:∀ (as:List b6) (vs:List Value) (r:Data) (k:IntKind) (n:Int),dw true (.int k n) as=some r->G8 G I N w as vs ->
  ∃ m,r= .int k m/\(vs.foldlM Builtin.max2 (.int k n)).run P w= .ok (.int k m) w
 |[],vs,r,k,n,h,hv=>by
  simp [dw] at h;subst h;simp [G8] at hv;subst hv;exact ⟨n,rfl,by simp⟩
 |x::xs,vs,r,k,n,h,hv=>by
  simp only [G8] at hv;obtain ⟨u,us,rfl,e2,e3⟩:=hv;unfold dw at h;split at h
  ·cases ‹x::xs=[]›
  ·rename_i b r' heq
   cases heq;split at h
   ·rename_i c hc
    unfold uT at hc;split at hc
    ·rename_i k1 x1 k2 y1 e1
     cases e1;simp at hc;subst hc;simp only [VR,DR] at e2;subst e2;obtain ⟨m,g1,g2⟩:=wJ xs us r k _ h e3;refine ⟨m,g1,?_⟩;simp only [List.foldlM_cons,Sem.run_bind,Builtin.max2,Sem.run_pure,Result.andThen_ok];exact g2
    ·cases hc
   ·cases h
  ·cases h
theorem wK:∀ (as:List b6) (vs:List Value) (r:Data) (k:IntKind) (n:Int),dw false (.int k n) as=some r->G8 G I N w as vs ->
  ∃ m,r= .int k m/\(vs.foldlM Builtin.min2 (.int k n)).run P w= .ok (.int k m) w
 |[],vs,r,k,n,h,hv=>by
  simp [dw] at h;subst h;simp [G8] at hv;subst hv;exact ⟨n,rfl,by simp⟩
 |x::xs,vs,r,k,n,h,hv=>by
  simp only [G8] at hv;obtain ⟨u,us,rfl,e2,e3⟩:=hv;unfold dw at h;split at h
  ·cases ‹x::xs=[]›
  ·rename_i b r' heq
   cases heq;split at h
   ·rename_i c hc
    unfold uT at hc;split at hc
    ·rename_i k1 x1 k2 y1 e1
     cases e1;simp at hc;subst hc;simp only [VR,DR] at e2;subst e2;obtain ⟨m,g1,g2⟩:=wK xs us r k _ h e3;refine ⟨m,g1,?_⟩;simp only [List.foldlM_cons,Sem.run_bind,Builtin.min2,Sem.run_pure,Result.andThen_ok];exact g2
    ·cases hc
   ·cases h
  ·cases h
theorem DS {b:Bool}{a r:Data}{l:List b6}(h:dw b a l=some r)(hne:l≠[]):∃ k n,a= .int k n:=by
 cases l with
 |nil=>exact absurd rfl hne
 |cons x xs =>
  unfold dw at h;split at h
  ·cases ‹x::xs=[]›
  ·split at h
   ·rename_i c hc
    unfold uT at hc;split at hc
    ·exact ⟨_,_,rfl⟩
    ·cases hc
   ·cases h
  ·cases h
theorem Ek (hρ:aF ck G I N w η ρ){o:Oper}{b:Bool}{ys:List u5}(hc:B0 P ck o (.fC b ys)=true){v:b6}{rs:List Nat}
  (h:m7 ρ H (.fC b ys)=some (v,rs)):Good P G I N w η o v:=by
 obtain ⟨dst,bK,ty,pos,after,guard⟩:=o;unfold B0 at hc;split at hc<;>try (cases hc;done)
 all_goals try (rename_i W7 W3;cases W3;done)
 all_goals rename_i W7 W3
 all_goals cases W3
 all_goals simp only at W7
 all_goals subst W7
 all_goals rename_i args argTypes
 all_goals simp only [b5,decide_eq_true_eq] at hc
 all_goals obtain ⟨hc,hl⟩:=hc
 all_goals have h1:=fS hρ _ _ hc
 all_goals simp only [m7] at h
 all_goals split at h
 all_goals try (cases h;done)
 all_goals rename_i a r heq
 all_goals split at h
 all_goals try (cases h;done)
 all_goals rename_i c qw
 all_goals simp at h
 all_goals obtain ⟨rfl,rfl⟩:=h
 all_goals rw [heq] at h1
 all_goals simp only [G8] at h1
 all_goals obtain ⟨x,xs,e1,e2,e3⟩:=h1
 all_goals have hne:r≠[]:=fun hr=>by subst hr;have:=congrArg List.length heq;simp at this;omega
 all_goals obtain ⟨k,n,rfl⟩:=DS qw hne
 all_goals simp only [VR,DR] at e2
 all_goals subst e2
 ·obtain ⟨m,rfl,g2⟩:=wJ (P:=P) r xs c k n qw e3
  refine ⟨.int k m,?_,by simp [VR,DR]⟩;have UC :(args.map η).toList= .int k n::xs:=by simpa using e1
  simp only [execOp,resolve,invoke,builtin,Builtin.max_,Sem.run_bind,Sem.run_pure,Result.andThen_ok,UC,g2]
 ·obtain ⟨m,rfl,g2⟩:=wK (P:=P) r xs c k n qw e3
  refine ⟨.int k m,?_,by simp [VR,DR]⟩;have UC :(args.map η).toList= .int k n::xs:=by simpa using e1
  simp only [execOp,resolve,invoke,builtin,Builtin.min_,Sem.run_bind,Sem.run_pure,Result.andThen_ok,UC,g2]
theorem jr {k:CK}{a b:Data}{r:Bool}(h:Data.Z0 k a b=some r){u v:Value}(hu:DR G w a u)(hv:DR G w b v){t:TypeId}{d:TypeDesc}(ht:bI P t k=true)
  (hd:P.underlying t=some d):Instr.sameNow d u v=some r:=by
 unfold Data.Z0 at h;split at h
 ·simp only [DR] at hu hv
  subst hu hv;split at h
  ·rename_i hkk
   subst hkk;simp at h;subst h;simp only [bI,hd] at ht;split at ht
   ·rename_i hx;cases hx;simp [Instr.sameNow]
   ·cases ht
  ·cases h
 ·simp only [DR] at hu hv
  subst hu hv;simp at h;subst h;simp only [bI,hd] at ht;split at ht
  ·rename_i hx;cases hx;simp [Instr.sameNow,beq_toListBytes]
  ·cases ht
 ·simp only [DR] at hu hv
  subst hu hv;simp at h;subst h;simp only [bI,hd] at ht;split at ht
  ·rename_i hx;cases hx;simp [Instr.sameNow]
  ·cases ht
 ·cases h
theorem Ds {kk:CK}{t:TypeId}{d:TypeDesc}(ht:bI P t kk=true)(hd:P.underlying t=some d){key:Data}{u:Value}(hu:DR G w key u) :
  ∀ (l:List (Data×b6)) (es:List MapEntry) (i:Nat) (r:Option b6),ER G I N w l es->bf kk key l=some r ->
   ∃ q,Instr.findNow d u es i=some q/\(match r,q with
    |none,none=>True
    |some a,some (_,v)=>VR G I N w .none a v
    |_,_=>False)
 |[],es,i,r,hE,h=>by
  simp [ER] at hE;subst hE;simp [bf] at h;subst h;exact ⟨none,rfl,trivial⟩
 |(k',v')::rest,es,i,r,hE,h=>by
  simp only [ER] at hE;obtain ⟨e,es',rfl,h2,h3,h4⟩:=hE;unfold bf at h;split at h
  ·rename_i hk
   simp at h;subst h;exact ⟨some (i,e.val),by simp [Instr.findNow,jr hk hu h2 ht hd],h3⟩
  ·rename_i hk
   obtain ⟨q,g1,g2⟩:=Ds ht hd hu rest es' (i+1) r h4 h;exact ⟨q,by simp [Instr.findNow,jr hk hu h2 ht hd,g1],g2⟩
  ·cases h
theorem yQ {kk:CK}{t:TypeId}(ht:bI P t kk=true)(b:Bool)(n:Nat)(u:Value):(Instr.checkKey b (n+1) t u).run P w= .ok () w:=by
 cases kk<;>simp only [bI] at ht<;>split at ht<;>first|(cases ht;done)|(rename_i hu;simp [Instr.checkKey,run_underlying hu])
theorem aP {kk:CK}{t:TypeId}(ht:bI P t kk=true)(b:Bool)(u:Value):(Instr.checkKey b 10000 t u).run P w= .ok () w :=
 yQ ht b 9999 u
theorem Ej (hρ:aF ck G I N w η ρ)(hH:HR G I N w H){o:Oper}{kk:CK}{zero:b6}{ok:Bool}{m k:u5}(hc:B0 P ck o (.lookup kk zero ok m k)=true){v:b6}{rs:List Nat}
  (h:m7 ρ H (.lookup kk zero ok m k)=some (v,rs)):Good P G I N w η o v:=by
 obtain ⟨dst,bK,ty,pos,after,guard⟩:=o;cases bK<;>simp only [B0,b5,beq_iff_eq] at hc<;>try (cases hc;done)
 rename_i t m' k' NB;obtain ⟨⟨⟨rfl,hm⟩,hk⟩,ht⟩:=hc;have h1:=hρ _ _ hm;have h2:=hρ _ _ hk;split at ht
 ·rename_i kt et hu
  simp only [b5] at ht;obtain ⟨YQ,hz⟩:=ht;split at hz
  ·rename_i it hit
   split at hz
   ·rename_i z hzz
    have hzero:(zeroValue et).run P w= .ok z w:=by simp [zeroValue,typeInfo,hit,hzz]
    have Xb:VR G I N w .none zero z:=bF _ _ hz;obtain ⟨dk,hdk⟩:∃ d,P.underlying kt=some d:=by
     cases hd:P.underlying kt with
     |none=>cases kk<;>simp [bI,hd] at YQ
     |some d=>exact ⟨d,rfl⟩
    simp only [m7] at h;split at h
    ·rename_i id key hp hq
     rw [hp] at h1;rw [hq] at h2;simp only [VR] at h1 h2;split at h
     ·rename_i es he
      split at h
      ·rename_i r hr
       simp at h;obtain ⟨rfl,rfl⟩:=h;have hO:=hH id _ he;simp only [OR] at hO;obtain ⟨_,arr,Dj,g1,_,g3⟩:=hO;obtain ⟨q,f1,f2⟩:=Ds (P:=P) YQ hdk h2 es arr.toList 0 r g3 hr;have UQ:(getObj (I id).1).run P w= .ok (.map arr Dj) w:=by simp [getObj,Sem.run,g1]
       have Tc:(Instr.findKey kt (η k') arr.toList).run P w= .ok q w:=by simp [Instr.findKey,run_underlying hdk,f1]
       cases r with
       |none =>
        cases q with
        |some q=>exact f2.elim
        |none =>
         refine ⟨if NB then .tuple #[z,.bool false] else z,?_,?_⟩
         ·cases NB <;>simp [execOp,h1.2,Instr.lookup,run_underlying hu,UQ,aP YQ,Tc,hzero]
         ·cases NB
          ·simpa using Xb
          ·simp only [VR,Option.getD_none,Option.isSome_none,if_true]
           exact ⟨_,rfl,by simp [G8,VR,DR,Xb]⟩
       |some a =>
        cases q with
        |none=>exact f2.elim
        |some q =>
         obtain ⟨qi,qv⟩:=q;refine ⟨if NB then .tuple #[qv,.bool true] else qv,?_,?_⟩
         ·cases NB <;>simp [execOp,h1.2,Instr.lookup,run_underlying hu,UQ,aP YQ,Tc]
         ·cases NB
          ·simpa using f2
          ·simp only [VR,Option.getD_some,Option.isSome_some,if_true]
           exact ⟨_,rfl,by simp [G8,VR,DR];exact f2⟩
      ·cases h
     ·cases h
    ·rename_i key hp hq
     rw [hp] at h1;rw [hq] at h2;simp only [VR,DR] at h1;split at h
     ·simp at h;obtain ⟨rfl,rfl⟩:=h
      have Tc:(Instr.findKey kt (η k') []).run P w= .ok none w:=by simp [Instr.findKey,run_underlying hdk,Instr.findNow]
      refine ⟨if NB then .tuple #[z,.bool false] else z,?_,?_⟩
      ·cases NB <;>simp [execOp,h1,Instr.lookup,run_underlying hu,aP YQ,Tc,hzero]
      ·cases NB
       ·simpa using Xb
       ·simp only [VR,if_true]
        exact ⟨_,rfl,by simp [G8,VR,DR,Xb]⟩
     ·cases h
    ·cases h
   ·cases hz
  ·cases hz
 ·cases ht
end
def Hl (vs:List Value):Prop:=∀ v ∈ vs,v.oneCell' =true
def K8 (l:List Value)(off:Nat)(vs:List Value):List Value:=l.take off++vs++l.drop (off+vs.length)
section
variable {P:Program} {w:World} {ck:Operand->u5->Bool} {η:Operand->Value} {ρ:u5->b6} {G:Gh} {I:S4} {N:Nat->Prop} {H:o6}
theorem G8.append:∀ (a:List b6) (xs:List Value) (b:List b6) (ys:List Value),G8 G I N w a xs->G8 G I N w b ys->G8 G I N w (a++b) (xs++ys)
 |[],xs,b,ys,h,k=>by simp [G8] at h;subst h;simpa using k
 |a::as,xs,b,ys,h,k=>by
  simp only [G8] at h;obtain ⟨x,xs',rfl,h2,h3⟩:=h;simp only [D9,G8];exact ⟨x,xs' ++ys,rfl,h2,G8.append as xs' b ys h3 k⟩
theorem G8.take:∀ (n:Nat) (a:List b6) (xs:List Value),G8 G I N w a xs->G8 G I N w (a.take n) (xs.take n)
 |0,_,_,_=>by simp [G8]
 |n+1,[],xs,h=>by simp [G8] at h;subst h;simp [G8]
 |n+1,a::as,xs,h=>by
  simp only [G8] at h;obtain ⟨x,xs',rfl,h2,h3⟩:=h;simp only [List.take_succ_cons,G8];exact ⟨x,xs'.take n,rfl,h2,G8.take n as xs' h3⟩
theorem G8.drop:∀ (n:Nat) (a:List b6) (xs:List Value),G8 G I N w a xs->G8 G I N w (a.drop n) (xs.drop n)
 |0,_,_,h=>by simpa using h
 |n+1,[],xs,h=>by simp [G8] at h;subst h;simp [G8]
 |n+1,a::as,xs,h=>by
  simp only [G8] at h;obtain ⟨x,xs',rfl,h2,h3⟩:=h;simp only [List.drop_succ_cons];exact G8.drop n as xs' h3
theorem G8.splice {a b:List b6}{xs ys:List Value}(h:G8 G I N w a xs)(k:G8 G I N w b ys)(off:Nat):G8 G I N w (splice a off b) (K8 xs off ys):=by
 unfold z7.splice K8;rw [G8.length b ys k];exact G8.append _ _ _ _ (G8.append _ _ _ _ (G8.take off a xs h) k) (G8.drop _ a xs h)
theorem jy {a:b6}(ha:a.one=true){pl:Place}{x:Value}(h:VR G I N w pl a x):x.oneCell' =true/\x.cells= #[x]:=by
 cases a<;>simp [b6.one] at ha
 ·rename_i d
  cases d<;>simp only [VR,DR] at h
  all_goals first
   |(subst h;exact ⟨rfl,rfl⟩)
   |(rcases h with ⟨h|⟨a0,h⟩,_⟩|⟨b,o,cap,h,_⟩<;>(subst h;exact ⟨rfl,rfl⟩))
 ·simp only [VR] at h;obtain ⟨_,h⟩:=h;subst h;exact ⟨rfl,rfl⟩
 ·simp only [VR] at h;obtain ⟨b,o,h,_⟩:=h;subst h;exact ⟨rfl,rfl⟩
 ·simp only [VR] at h;obtain ⟨_,cap,h,_⟩:=h;subst h;exact ⟨rfl,rfl⟩
 ·simp only [VR] at h
  obtain ⟨_,h⟩:=h
  rcases h with ⟨h|⟨b,o,h⟩,_⟩|⟨_,b,o,cap,c,e,f,h,_⟩<;>(subst h;exact ⟨rfl,rfl⟩)
 ·simp only [VR] at h;subst h;exact ⟨rfl,rfl⟩
 ·simp only [VR] at h;obtain ⟨x,y,h,_⟩:=h;subst h;exact ⟨rfl,rfl⟩
 ·simp only [VR] at h;obtain ⟨_,h⟩:=h;subst h;exact ⟨rfl,rfl⟩
theorem kG:∀ (l:List b6) (xs:List Value),l.all b6.one=true->G8 G I N w l xs->Hl xs
 |[],xs,_,h=>by simp [G8] at h;subst h;intro v hv;cases hv
 |a::as,xs,ha,h=>by
  simp only [List.all_cons,b5] at ha;simp only [G8] at h;obtain ⟨x,xs',rfl,h2,h3⟩:=h;intro v hv
  rcases x9.1 hv with rfl|hv
  ·exact (jy ha.1 h2).1
  ·exact kG as xs' ha.2 h3 v hv
theorem tE {a:b6}{l:List b6}(ha:a.cells? =some l){x:Value}(h:VR G I N w .none a x):G8 G I N w l x.cells.toList/\Hl x.cells.toList:=by
 unfold b6.cells? at ha;split at ha
 ·rename_i l'
  split at ha
  ·rename_i hall
   simp at ha;subst ha;simp only [VR] at h;obtain ⟨cs,rfl,h2⟩:=h;exact ⟨h2,kG _ _ hall h2⟩
  ·cases ha
 ·split at ha
  ·rename_i hone
   simp at ha;subst ha;obtain ⟨h1,h2⟩:=jy hone h;rw [h2];refine ⟨?_,fun v hv=> ?_⟩
   ·simp only [G8];exact ⟨x,[],rfl,h,rfl⟩
   ·simp at hv;subst hv;exact h1
  ·cases ha
theorem zH (off:Nat):∀ (vs:List Value) (k:Nat) (cs:Array Value),off+k+vs.length<=cs.size ->
  ((vs.zipIdx k).foldl (fun (cs:Array Value) (p:Value×Nat)=>cs.setIfInBounds (off+p.2) p.1) cs).toList=cs.toList.take (off+k)++vs++cs.toList.drop (off+k+vs.length)
 |[],k,cs,_=>by simp
 |v::vs,k,cs,h=>by
  simp only [A2] at h;rw [List.zipIdx_cons,List.foldl_cons,zH off vs (k+1) _ (by simp;omega)];have hlt:off+k<cs.toList.length:=by simp;omega
  simp only [Array.toList_setIfInBounds];rw [show off+(k+1)=off+k+1 from by omega];rw [List.take_succ_eq_append_getElem (by simpa using hlt)];rw [List.drop_set_of_lt (by omega)];simp only [List.take_set_of_le (k9 _),List.getElem_set_self,List.append_assoc,List.singleton_append,A2];rw [show off+k+1+vs.length=off+k+(vs.length+1) from by omega]
theorem Lc {off:Nat}{v:Value}{cs:Array Value}(h:off+v.cells.size<=cs.size) :
  v.cells.zipIdx.foldl (fun cs (c,j)=>cs.setIfInBounds (off+j) c) cs=(K8 cs.toList off v.cells.toList).toArray:=by
 have:=zH off v.cells.toList 0 cs (by simpa using h);have e:v.cells.zipIdx.foldl (fun cs (c,j)=>cs.setIfInBounds (off+j) c) cs=(v.cells.toList.zipIdx 0).foldl (fun (cs:Array Value) (p:Value×Nat)=>cs.setIfInBounds (off+p.2) p.1) cs:=by
  rw [<- Array.foldl_toList];simp
 rw [e];apply Array.toList_inj.1;rw [this];simp [K8]
theorem kg (hρ:aF ck G I N w η ρ){place:Nat->Option (Nat×Nat)}:∀ (parts:List (Nat×Operand)) (ps:List (Nat×Nat×u5)) (l cs:List b6) (xs:Array Value),
  ig P ck place parts ps=true->G8 G I N w l xs.toList->bH l (ps.map fun (o,s,x)=>(o,s,ρ x))=some cs ->
  ∃ ys:Array Value,Instr.fill place xs (parts.map fun (i,x)=>(i,η x))=some ys/\G8 G I N w cs ys.toList
 |[],[],l,cs,xs,_,hl,h=>by
  simp [bH] at h;subst h;exact ⟨xs,rfl,hl⟩
 |(i,x)::r,(off,sz,y)::q,l,cs,xs,hp,hl,h=>by
  simp only [ig,b5,beq_iff_eq] at hp;obtain ⟨⟨h1,h2⟩,h3⟩:=hp;simp only [H8,bH] at h;split at h
  ·rename_i l' hl'
   split at h
   ·rename_i hsz
    obtain ⟨g1,g2⟩:=tE hl' (hρ _ _ h2);have hlen:(η x).cells.size=sz:=by
     have:=G8.length _ _ g1;simp at this;omega
    have hlx:xs.size=l.length:=by
     have:=G8.length _ _ hl;simpa using this
    have lV:G8 G I N w (splice l off l') ((K8 xs.toList off (η x).cells.toList).toArray).toList:=by
     simpa using G8.splice hl g1 off
    obtain ⟨ys,e1,e2⟩:=kg hρ r q _ cs _ h3 lV h;refine ⟨ys,?_,e2⟩;have hc:¬ ((η x).cells.size≠sz||off+(η x).cells.size>xs.size)=true:=by
     simp [hlen];omega
    simp only [H8,Instr.fill,h1];rw [if_neg hc,Lc (by omega)];exact e1
   ·cases h
  ·cases h
 |[],_::_,_,_,_,hp,_,_=>by simp [ig] at hp
 |_::_,[],_,_,_,hp,_,_=>by simp [ig] at hp
theorem kN {t:TypeId}{l:List b6}(h:yl P t l=true):∃ i z,P.info? t=some i/\i.zero=some z/\G8 G I N w l z.cells.toList:=by
 unfold yl at h;split at h
 ·rename_i i hi
  split at h
  ·rename_i z hz
   exact ⟨i,z,hi,hz,cZ _ _ h⟩
  ·cases h
 ·cases h
theorem Hp (hρ:aF ck G I N w η ρ){o:Oper}{zero:List b6}{ps:List (Nat×Nat×u5)}(hc:B0 P ck o (.build zero ps)=true){v:b6}{rs:List Nat}
  (h:m7 ρ H (.build zero ps)=some (v,rs)):Good P G I N w η o v:=by
 obtain ⟨dst,bK,ty,pos,after,guard⟩:=o;cases bK<;>simp only [B0] at hc<;>try (cases hc;done)
 rename_i t parts;simp only [m7] at h;split at h
 ·rename_i cs hcs
  simp at h;obtain ⟨rfl,rfl⟩:=h;have key:∃ ys:Array Value,P.built t (parts.toList.map fun (i,x)=>(i,η x))=some ys/\G8 G I N w cs ys.toList:=by
   split at hc
   ·rename_i fs hu
    split at hc
    ·rename_i places Gd
     simp only [b5] at hc;obtain ⟨it,z,e1,e2,e3⟩:=kN (G:=G) (I:=I) (N:=N) (w:=w) hc.1;obtain ⟨ys,f1,f2⟩:=kg hρ parts.toList ps zero cs z.cells hc.2 e3 hcs;refine ⟨ys,?_,f2⟩;unfold tJ at Gd;simp only [Program.built,e1,hu,e2,Gd];rw [<- f1]
     congr 1
     funext j
     simp
    ·cases hc
   ·rename_i n e hu
    split at hc
    ·rename_i ie Li
     simp only [b5] at hc;obtain ⟨it,z,e1,e2,e3⟩:=kN (G:=G) (I:=I) (N:=N) (w:=w) hc.1;obtain ⟨ys,f1,f2⟩:=kg hρ parts.toList ps zero cs z.cells hc.2 e3 hcs;refine ⟨ys,?_,f2⟩;simp only [Program.built,e1,hu,e2,Li];exact f1
    ·cases hc
   ·cases hc
  obtain ⟨ys,e1,e2⟩:=key;refine ⟨.agg ys,?_,by simp only [VR];exact ⟨ys,rfl,e2⟩⟩;have hb:=run_build (P:=P) w t (parts.map fun (i,x)=>(i,η x)) ys (by simpa using e1);simp only [execOp,Sem.run_bind];rw [hb];rfl
 ·cases h
theorem Ht (Ql:∀ v,η (.const v)=v)(hρ:aF ck G I N w η ρ)(hH:HR G I N w H){o:Oper}{op:y6}(hc:B0 P ck o op=true){v:b6}{rs:List Nat}
  (h:m7 ρ H op=some (v,rs)):Good P G I N w η o v:=by
 cases op
 case pick=>exact LI hρ hc h
 case build=>exact Hp hρ hc h
 case load=>exact LF hρ hH hc h
 case Z5=>exact Hr hρ hc h
 case bin=>exact Ob hρ hc h
 case un=>exact RG hρ hc h
 case BS=>exact LH Ql hρ hc h
 case Hg=>exact LG Ql hρ hc h
 case o9=>exact Oc hρ hc h
 case Mf=>exact Od hρ hc h
 case kQ=>exact Hq hρ hc h
 case oM=>exact Ei hρ hc h
 case iM=>exact Eh hρ hc h
 case pF=>exact Em hρ hc h
 case aT=>exact En hρ hc h
 case off=>exact Of hρ hc h
 case C3=>exact Lx hρ hc h
 case fN=>exact Lz hρ hc h
 case B8=>exact LA hρ hc h
 case extract=>exact BZ hρ hc h
 case len=>exact Oe hρ hc h
 case U7=>exact LD hρ hc h
 case BN=>exact LB hρ hH hc h
 case fC=>exact Ek hρ hc h
 case Y3=>exact El hρ hc h
 case lookup=>exact Ej hρ hH hc h
 all_goals (unfold B0 at hc;split at hc<;>first|(cases hc;done)|(rename_i h1 h2;cases h2;done)|(rename_i h2;cases h2;done))
end
end Go.z7
namespace Go.z7.Z
abbrev k (n:Int):u5:= .const (.d (.int .i64 n))
abbrev kt:u5:= .const (.d (.bool true))
abbrev kf:u5:= .const (.d (.bool false))
abbrev z0:b6:= .d (.int .i64 0)
abbrev zs:b6:= .d (.str [])
abbrev zb:b6:= .d (.bool false)
abbrev w (n:Nat):b6:= .own n 0 []
abbrev l (n:Nat):u5:= .loc n
abbrev s (n:Nat):u5:= .slot n
abbrev i0 (o:y6):n9:=⟨o,none,none,[]⟩
abbrev i1 (o:y6)(d:Nat):n9:=⟨o,some d,none,[]⟩
abbrev it (o:y6)(j:Nat):n9:=⟨o,none,some (j,true),[]⟩
abbrev if_ (o:y6)(j:Nat):n9:=⟨o,none,some (j,false),[]⟩
abbrev i3 (o:y6)(u:List Nat):n9:=⟨o,none,none,u⟩
abbrev ms (n:Nat):n9:=⟨.N8 (.slot n),none,none,[]⟩
abbrev ml (n:Nat):n9:=⟨.N8 (.loc n),none,none,[]⟩
abbrev os (a n:Nat):n9:=⟨.off a (.slot n),none,none,[]⟩
abbrev ol (a n:Nat):n9:=⟨.off a (.loc n),none,none,[]⟩
abbrev ld (n:Nat):n9:=⟨.load none (.loc n),none,none,[]⟩
abbrev sq:=p6.seq
abbrev rg:=p6.region
abbrev te:=p6.test
abbrev sk:=p6.skip
def sh (t:q6){x:q6}(h:t=x:=by dsimp only [k,kt,kf,z0,zs,zb,w,l,s,i0,i1,it,if_,i3,ms,ml,os,ol,ld,sq,rg,te,sk]):{ x:q6 // t=x }:=⟨x,h⟩
abbrev o5 (x:List n9):p6:= .region x false
abbrev jA (x:List n9):p6:= .region x true
abbrev C4 (x:List n9)(c:u5)(a b:p6):p6:= .test x false c a b
abbrev ES (x:List n9)(c:u5)(a b:p6):p6:= .test x true c a b
abbrev D3:u5:=k 0
abbrev pK:y6:= .N8 D3
abbrev D0:u5:=l 0
abbrev q5:n9:=ms 0
abbrev jQ:n9:=os 0 3
abbrev B6:n9:=ld 1
abbrev I9:u5:=l 2
abbrev y3:u5:=l 3
abbrev fo:y6:= .N8 y3
abbrev jM:n9:=i1 fo 4
abbrev G6:n9:=ms 4
abbrev ag3:y6:= .bin .neq D0 D3
abbrev cT:n9:=i0 ag3
abbrev C6:u5:=l 1
abbrev su:y6:= .N8 D0
abbrev iG:n9:=i1 su 2
abbrev SC:p6:=sq (o5 [q5,jQ,B6,i0 (.call 108 [D0,I9]),jM]) (C4 [G6,cT] C6 (sq (o5 [G6,iG]) .ret) sk)
abbrev u0:n9:=ms 1
abbrev ag1:y6:= .len I9
abbrev M5:n9:=i0 ag1
abbrev y8:u5:=l 4
abbrev oE:y6:= .N8 kf
abbrev rJ:p6:=o5 [i1 oE 2]
abbrev jJ:p6:=sq rJ .ret
abbrev bB:n9:=i1 pK 3
abbrev Gc:p6:=o5 [bB]
abbrev M1:n9:=ms 3
abbrev SG:y6:= .len C6
abbrev R4:n9:=i0 SG
abbrev ag6:y6:= .bin .lss D0 I9
abbrev iI:n9:=i0 ag6
abbrev JF:p6:=C4 [M1,q5,R4,iI] y3 sk (.exit 0)
abbrev ag9:y6:= .C3 1 D0 C6
abbrev gJ:n9:=i0 ag9
abbrev Q2:n9:=ld 2
abbrev B3:u5:=l 5
abbrev FU:y6:= .C3 1 y8 B3
abbrev E1:u5:=l 7
abbrev F4:u5:=l 8
abbrev G7:u5:=k 1
abbrev zq6:y6:= .bin .add D0 G7
abbrev dG:n9:=i0 zq6
abbrev an:y6:= .N8 C6
abbrev mT:n9:=i1 an 3
abbrev yI:y6:= .N8 kt
abbrev KI:p6:=sq (o5 [i1 yI 2]) .ret
abbrev zq3:p6:=sq (C4 [q5,i0 (.len D0),u0,M5,i0 (.bin .neq C6 y3)] y8 jJ sk) (sq (sq Gc (.block 0 (.loop [true,true,false,true] (sq JF (sq (.block 1 (ES [q5,M1,gJ,Q2,u0,M1,i0 FU,ld 6,i0 (.bin .neq y3 E1)] F4 jJ sk)) (o5 [M1,dG,mT])))))) KI)
abbrev O7:u5:=s 2
abbrev Qd:y6:= .load (some 8) O7
abbrev SK:y6:= .N8 (.const (w 1))
abbrev O8:y6:= .N8 (s 0)
abbrev uK:y6:= .alloc [(w 4),(w 9),(w 3),(w 6),(w 4),(w 3),(w 2),(w 3)]
abbrev mU:n9:=i1 pK 2
abbrev jK:p6:=o5 [mU]
abbrev af7:y6:= .bin .lss D0 y3
abbrev D5:u5:=l 6
abbrev af8:y6:= .A1 1 1 [zs] [(0,1,D5)] false
abbrev Fu:y6:= .box (s 0)
abbrev rV:n9:=i1 pK 5
abbrev Fs:p6:=o5 [q5,i1 (.len D0) 4,rV]
abbrev Q6:u5:=s 5
abbrev V4:u5:=s 4
abbrev Fl:p6:=C4 [i0 (.bin .lss Q6 V4)] D0 sk (.exit 0)
abbrev D2:n9:=ms 5
abbrev gI:n9:=i1 su 3
abbrev Mb:p6:=o5 [D2,gI]
abbrev N9:n9:=ld 3
abbrev zh:p6:=sq (o5 [M1,iG]) .ret
abbrev bA:n9:=i1 su 5
abbrev Fp:p6:=o5 [i0 (.bin .add Q6 G7),bA]
abbrev CJ:y6:= .N8 (.const (.d (.int .i64 (-1))))
abbrev Fv:p6:=sq (o5 [i1 CJ 2]) .ret
abbrev WH:p6:=sq jK (sq (sq Fs (.block 0 (.loop [true,true,false,false,true,true] (sq Fl (sq (.block 1 (sq Mb (C4 [u0,q5,M1,i0 (.C3 1 C6 I9),N9,i0 (.bin .eql D0 y8)] B3 zh sk))) Fp))))) Fv)
abbrev W8:u5:=s 3
abbrev tv:y6:= .load (some 8) W8
abbrev jP:n9:=os 1 2
abbrev y4:n9:=ld 0
abbrev aC:n9:=os 0 2
abbrev Fo:y6:= .len y8
abbrev kY:n9:=i0 Fo
abbrev HU:y6:= .alloc [zs,z0,zs,zs,(w 2),(w 5),(w 2),zb,(w 3)]
abbrev SE:p6:=o5 [jP,y4,u0,aC,N9,kY,i0 (.bin .sub I9 B3),i0 (.C3 9 C6 D5),i0 (.load (some 9) E1),i1 HU 4,i0 (.store 9 V4 F4)]
abbrev R5:n9:=i0 Qd
abbrev T3:n9:=ml 1
abbrev Uk:y6:= .extract I9 0
abbrev mW:n9:=i0 Uk
abbrev Ul:y6:= .extract I9 1
abbrev mV:n9:=i0 Ul
abbrev bD:y6:= .N8 B3
abbrev Pw:p6:=o5 [R5,i0 (.call 29 [D0]),T3,mW,mV,i0 (.extract I9 2),jM,ml 4,i1 bD 5]
abbrev rO:p6:=o5 [D2,dG,i1 an 5]
abbrev iF:y6:= .N8 V4
abbrev S0:u5:=s 1
abbrev cV:y6:= .N8 S0
abbrev mP:p6:=o5 [i1 SK 3]
abbrev SF:p6:=C4 [D2,cT,T3,if_ iF 2,if_ cV 2,if_ (.call 38 [y3,y8]) 2,if_ (.un .not B3) 2,i0 (.pick I9 kt D5)] E1 (sq mP .ret) sk
abbrev uL:y6:= .load none y8
abbrev yu:y6:= .A1 1 0 [] [] false
abbrev oD:y6:= .N8 W8
abbrev J2:u5:=l 9
abbrev M3:u5:=l 10
abbrev R7:u5:=l 11
abbrev af9:p6:=sq (jA [i0 yu,q5,M1,i0 (.aT 1 C6 none (some I9)),i0 (.append 1 8 false D0 y3),i3 cV [4],i3 (.A1 1 1 [z0] [(0,1,B3)] false) [4],i0 (.append 1 8 false y8 D5),i3 O8 [4,7],i3 oD [4,7],i3 (.aT 1 F4 (some J2) none) [4,7],i0 (.append 1 8 false E1 M3),i1 (.N8 R7) 2]) .ret
abbrev iV:y6:= .N8 G7
abbrev oG:n9:=i1 Fu 2
abbrev rP:p6:=o5 [oG,i1 SK 3]
abbrev R6:n9:=ml 3
abbrev uj:y6:= .load none E1
abbrev uq:n9:=it cV 4
abbrev ag0:p6:= .block 0 (.loop [true,true,false,true] (sq (C4 [M1,q5,R4,iI,R6,it O8 4,it oD 4,it (.C3 1 B3 D5) 4,it uj 4,uq,it (.bin .lss F4 J2) 4,i0 (.pick y8 M3 kf)] R7 sk (.exit 0)) (.block 1 (o5 [M1,dG,mT]))))
abbrev FN:p6:=o5 [i1 SK 2]
abbrev WI:p6:=sq FN (sq Gc (sq ag0 (sq (C4 [M1,q5,R4,iI,R6,it O8 4,it oD 4,it (.C3 1 B3 D5) 4,it uj 4,uq,it (.bin .eql F4 J2) 4,i0 (.pick y8 M3 kf)] R7 (sq (o5 [q5,iG]) .ret) sk) af9)))
abbrev eg:n9:=os 1 1
abbrev M7:n9:=ml 2
abbrev rL:y6:= .off 1 S0
abbrev ee:n9:=it uL 3
abbrev Uh:y6:= .pick y3 D5 kf
abbrev kZ:n9:=i0 Uh
abbrev yo:y6:= .load none J2
abbrev yK:n9:=it yo 8
abbrev gT:u5:= .const zs
abbrev S2:u5:=l 12
abbrev ag2:p6:=sq (o5 [eg,y4,i0 (.bin .geq C6 (.const (.d (.int .i64 (-4294967296))))),M7,it rL 3,ee,it (.bin .leq B3 (k 4294967296)) 3,kZ,ml 7,it (.off 2 S0) 8,yK,it (.bin .eql M3 gT) 8,i0 (.pick F4 R7 kf),i1 (.N8 S2) 2]) .ret
abbrev gM:n9:=os 0 1
abbrev pN:y6:= .load none D0
abbrev U4:n9:=ml 0
abbrev ag8:y6:= .bin .eql C6 D3
abbrev iH:n9:=i0 ag8
abbrev bt:y6:= .N8 E1
abbrev N6:u5:=k 2
abbrev Um:y6:= .pick y3 E1 kf
abbrev rX:n9:=i0 Um
abbrev gS:y6:= .N8 F4
abbrev WJ:p6:=sq (o5 [gM,i1 pN 3]) (.block 0 (C4 [i0 (.bin .eql W8 D3),U4] C6 (sq (o5 [eg,y4,iH,M7,it (.off 2 S0) 3,ee,it (.bin .eql B3 gT) 3,kZ,i1 bt 2]) .ret) (C4 [i0 (.bin .eql W8 G7),U4] C6 ag2 (C4 [i0 (.bin .eql W8 N6),U4] C6 (sq (o5 [eg,y4,iH,M7,it (.off 2 S0) 3,ee,it (.U7 B3) 3,it (.bin .leq D5 (k 32)) 3,rX,i1 gS 2]) .ret) sk))))
abbrev ag4:y6:= .bin .neq C6 gT
abbrev pM:y6:= .load none B3
abbrev uM:p6:=o5 [i1 oE 1]
abbrev ag5:y6:= .append 1 16 false D0 E1
abbrev Qc:y6:= .Z5 D0
abbrev kX:n9:=i1 su 4
abbrev dF:u5:=k 16
abbrev WK:p6:=sq (o5 [i0 (.bin .eql O7 (k 3)),kX]) (.cond V4 sk (sq (o5 [i0 (.bin .eql O7 (k 9)),kX]) (.cond V4 sk (sq (o5 [i0 (.bin .eql O7 (k 13)),kX]) (.cond V4 sk (o5 [i0 (.bin .eql O7 dF),kX]))))))
abbrev yJ:y6:= .C3 4 I9 y3
abbrev Z2:n9:=ld 5
abbrev jL:y6:= .len D5
abbrev FP:y6:= .bin .lss D0 E1
abbrev SH:p6:=C4 [D2,aC,B6,u0,i0 yJ,ol 1 4,Z2,i0 jL,i0 FP] F4 sk (.exit 0)
abbrev FX:y6:= .alloc [zs,z0,zs,zs,(w 1),z0,z0]
abbrev CL:p6:=sq (o5 [G6,gI]) .ret
abbrev kO:y6:= .load none D5
abbrev X9:n9:=i0 af7
abbrev nh:n9:=ol 0 4
abbrev jN:n9:=i0 af8
abbrev nc:n9:=i0 ag5
abbrev rQ:n9:=i1 gS 3
abbrev Ga:p6:=o5 [G6,dG,i1 an 4]
abbrev WL:p6:=sq (C4 [G6,gM,B6,M5,X9] y8 sk (.exit 0)) (sq (.block 1 (o5 [M1,gM,B6,G6,i0 yJ,nh,Z2,jN,nc,rQ])) Ga)
abbrev zi:p6:=sq (o5 [i1 iV 4]) .ret
abbrev eE:y6:= .N8 I9
abbrev aB:n9:=os 1 3
abbrev AY:y6:= .extract D5 0
abbrev AZ:y6:= .extract D5 1
abbrev WM:p6:=sq (o5 [q5,aB,B6,os 2 3,N9,i0 (.call 121 [D0,I9,y8]),ml 5,i0 AY,i0 AZ,ml 7,i1 gS 5]) (C4 [D2,cT] C6 (sq (o5 [D2,iG]) .ret) sk)
abbrev cS:n9:=i1 pK 4
abbrev zj:p6:=o5 [cS]
abbrev sj:p6:=o5 [rV]
abbrev dJ:y6:= .N8 y8
abbrev Ud:y6:= .un .not I9
abbrev fK:n9:=i0 Ud
abbrev SI:p6:=C4 [R5,u0,i0 (.call 85 [D0,C6]),fK] y3 (sq mP .ret) sk
abbrev bz:u5:=s 8
abbrev LZ:p6:=C4 [i0 (.bin .lss (s 9) bz)] D0 sk (.exit 0)
abbrev HV:y6:= .A1 1 1 [z0] [(0,1,C6)] false
abbrev ur:n9:=i1 Fu 1
abbrev FY:p6:=o5 [ur,i1 oE 2]
abbrev CM:p6:=sq (o5 [i1 iV 2]) .ret
abbrev WN:p6:=sq (C4 [D2,eg,B6,M5,X9] y8 sk (.exit 2)) (sq (.block 3 (o5 [M1,eg,B6,D2,i0 (.C3 9 I9 y3),nh,Z2,jN,nc,rQ])) rO)
abbrev yL:n9:=i1 oE 3
abbrev fJ:y6:= .N8 O7
abbrev WO:p6:=sq (o5 [yL]) (sq (o5 [q5,u0,i0 (.bin .geq D0 C6),M7,it O8 3,it fJ 3,it (.bin .leq y8 B3) 3,kZ,i1 bt 3]) .ret)
abbrev SJ:y6:= .load (some 8) S0
abbrev Ui:y6:= .pick I9 y8 kf
abbrev mX:n9:=i0 Ui
abbrev WQ:p6:=sq uM (sq (o5 [q5,i0 (.bin .geq D0 (.const (.d (.int .u8 97)))),T3,it O8 2,it (.bin .leq y3 (.const (.d (.int .u8 122)))) 2,mX,i1 bD 1]) .ret)
abbrev WR:p6:=sq uM (sq (o5 [q5,i0 (.bin .geq D0 (.const (.d (.int .u8 48)))),T3,it O8 2,it (.bin .leq y3 (.const (.d (.int .u8 57)))) 2,mX,i1 bD 1]) .ret)
abbrev Ma:p6:=o5 [i0 (.bin .add (s 9) G7),i1 su 9]
abbrev T7:u5:=l 13
abbrev ag7:y6:= .bin .eql D0 D3
abbrev P4:u5:=s 6
abbrev WS:p6:=o5 [jP,y4,u0,aC,N9,kY,i0 (.bin .sub I9 B3),i0 (.C3 9 C6 D5),i0 (.load (some 9) E1),i1 HU 6,i0 (.store 9 P4 F4)]
abbrev FZ:p6:=o5 [mU,bB]
abbrev gN:y6:= .N8 D5
abbrev K3:n9:=ms 6
abbrev HW:p6:=o5 [K3,dG,i1 an 6]
abbrev M6:n9:=ms 7
abbrev HX:p6:=o5 [M6,dG,i1 an 7]
abbrev Qe:u5:= .const (.d (.str [112,101,114,115,111,110]))
abbrev ym:y6:= .append 1 8 false D0 I9
abbrev ox:y6:= .bin .eql D5 D3
abbrev Aw:p6:=o5 [oG,yL]
abbrev kV:y6:= .load none M3
abbrev Ju:p6:=sq (o5 [i0 (.load (some 9) Q6),i0 (.store 9 V4 D0)]) .ret
abbrev Ax:p6:=sq (o5 [yL]) .ret
abbrev oy:y6:= .len B3
abbrev Q1:u5:=l 14
abbrev V5:n9:=ms 8
abbrev Ay:p6:=o5 [V5,dG,i1 an 8]
abbrev rG:p6:=o5 [i1 SK 4]
abbrev Ue:y6:= .bin .eql C6 N6
abbrev P7:n9:=ms 2
abbrev FV:y6:= .C3 1 D0 y8
abbrev Pd:p6:=o5 [P7,q5,P7,M5,i0 (.call 23 [C6,y3]),i0 FV,Z2,os 3 5,i0 (.store 1 E1 D5)]
abbrev Uf:y6:= .bin .lss D0 D3
abbrev Ug:y6:= .bin .gtr I9 D3
abbrev mQ:y6:= .N8 (k 3)
abbrev uc:y6:= .N8 (k 5)
abbrev Ff:p6:=sq (o5 [mU,i1 iV 3]) .ret
abbrev Az:p6:=o5 [oG,bB]
abbrev Pe:p6:=sq (o5 [i0 (.bin .eql O7 G7),gI]) (.cond W8 sk (o5 [i0 (.bin .eql O7 N6),gI]))
abbrev Z7:u5:=l 16
abbrev rH:y6:= .load none Z7
abbrev oz:y6:= .load none S2
abbrev Fg:p6:=sq (o5 [i1 (.N8 (k 7)) 2]) .ret
abbrev Fh:p6:=sq (o5 [i1 (.N8 (k 7)) 4]) .ret
abbrev kW:p6:=sq jK .ret
abbrev Fi:p6:=o5 [i1 (.alloc [z0,z0,zs]) 1]
abbrev ud:p6:=o5 [i1 pK 7]
abbrev Fj:y6:= .A1 1 1 [z0] [(0,1,D3)] false
abbrev AA:y6:= .box S0
abbrev V3:u5:=s 7
abbrev Jv:p6:=C4 [i0 (.bin .lss bz V3)] D0 sk (.exit 0)
abbrev U8:u5:=l 15
abbrev Uj:y6:= .C3 1 D0 D3
abbrev gH:y6:= .N8 J2
abbrev Un:y6:= .C3 7 C6 I9
abbrev rI:y6:= .load none F4
abbrev AB:y6:= .append 1 8 false D0 C6
abbrev yp:y6:= .bin .lss D0 C6
abbrev Pg:p6:=o5 [i0 (.C3 7 Q6 V3),i0 (.load (some 7) D0),i1 FX 4,i0 (.store 7 V4 C6)]
abbrev yq:p6:=o5 [i1 pK 6]
abbrev AD:p6:=o5 [i1 SK 1]
abbrev rS:n9:=i1 su 8
abbrev Jw:p6:=o5 [i0 (.bin .add bz G7),rS]
abbrev Fm:p6:=sq (o5 [i1 uc 3]) .ret
abbrev Fq:p6:=sq (o5 [i1 iV 3]) .ret
abbrev yw:y6:= .load (some 3) D0
abbrev yx:y6:= .bin .eql I9 D3
abbrev yy:y6:= .pick y8 kt F4
abbrev yz:y6:= .pick J2 S2 kf
abbrev AE:y6:= .build [z0,z0,zs] []
abbrev Uo:y6:= .C3 4 C6 I9
abbrev ue:y6:= .load none R7
abbrev Ph:p6:=C4 [i0 (.bin .eql O7 (k 18)),U4] C6 (sq (o5 [i1 mQ 1]) .ret) sk
abbrev uo:n9:=i1 AA 3
abbrev Jx:p6:=o5 [oG,uo,cS]
abbrev mR:y6:= .N8 P4
abbrev AF:y6:= .call 23 [D0,(k 3)]
abbrev Ft:y6:= .N8 (.const (.d .cj))
abbrev aV:u5:=l 17
abbrev yA:y6:= .C3 3 I9 y3
abbrev bw:u5:=k 4
abbrev Jy:p6:=sq (o5 [i1 (.N8 bw) 4]) .ret
abbrev oA:y6:= .N8 bz
abbrev AG:p6:=o5 [i1 pK 1]
abbrev AH:y6:= .bin .add y3 D5
abbrev yB:y6:= .C3 1 D0 I9
abbrev dH:n9:=ms 10
abbrev Jz:p6:=o5 [dH,dG,i1 an 10]
abbrev Pj:p6:=C4 [ms 12,cT] C6 (sq (o5 [ms 12,gI]) .ret) sk
abbrev rK:y6:= .off 2 W8
abbrev aA:u5:=l 18
abbrev JA:p6:=sq (o5 [i1 oE 4]) .ret
abbrev AI:y6:= .bin .gtr D0 D3
abbrev AJ:y6:= .bin .neq C6 D3
abbrev AK:y6:= .pick y8 E1 kf
abbrev Pk:p6:=C4 [K3,cT] C6 (sq (o5 [K3,iG]) .ret) sk
abbrev AL:y6:= .bin .eql C6 G7
abbrev AM:y6:= .bin .sub I9 G7
abbrev AN:y6:= .bin .eql D0 G7
abbrev cR:u5:=l 19
abbrev Up:y6:= .un .not C6
abbrev yC:y6:= .load none I9
abbrev oB:y6:= .len E1
abbrev oC:y6:= .N8 Q6
abbrev bu:u5:=l 20
abbrev yD:y6:= .un .not E1
abbrev uf:y6:= .off 3 W8
abbrev ug:y6:= .off 0 W8
abbrev uh:y6:= .off 5 W8
abbrev JB:p6:=sq (o5 [i1 mQ 3]) .ret
abbrev AO:y6:= .load none aV
abbrev Pn:p6:=C4 [q5,i0 (.BS false D0)] C6 (sq AD .ret) sk
abbrev JC:p6:=o5 [ur,i1 SK 2]
abbrev JD:p6:=o5 [i1 Fu 3,cS]
abbrev JE:p6:=sq (o5 [i1 CJ 3]) .ret
abbrev dY:u5:=l 21
abbrev bQ:u5:=s 10
abbrev rM:u5:=k 1048576
abbrev AP:y6:= .load none y3
abbrev AQ:y6:= .extract y8 0
abbrev AR:y6:= .extract y8 1
abbrev rN:y6:= .N8 M3
abbrev Po:p6:=C4 [M6,K3,R4,iI] y3 sk (.exit 2)
abbrev Pp:p6:=C4 [G6,u0,R4,iI] y3 sk (.exit 0)
abbrev yE:p6:=sq Gc .ret
abbrev yF:y6:= .off 4 S0
abbrev JG:u5:= .const (.d (.str [116,48]))
abbrev Fw:y6:= .N8 (.const .J6)
abbrev dZ:u5:=l 22
abbrev Fx:p6:=o5 [i1 pK 8]
abbrev Uq:y6:= .Z5 C6
abbrev Fy:y6:= .call 87 [D0,C6]
abbrev Fz:y6:= .call 61 [D0,I9]
abbrev FA:y6:= .load (some 7) y3
abbrev FB:y6:= .bin .eql y3 y8
abbrev Pr:y6:= .build [z0,z0,z0,zs,z0] [(0,1,G7),(1,3,C6)]
abbrev FC:y6:= .load (some 4) Q6
abbrev yG:y6:= .N8 N6
abbrev uk:y6:= .N8 V3
abbrev Pt:p6:=C4 [i0 (.bin .lss V3 P4)] D0 sk (.exit 0)
abbrev Pu:y6:= .A1 5 1 [z0,z0,z0,zs,z0] [(0,5,I9)] false
abbrev FD:y6:= .bin .sub D0 y3
abbrev Pv:y6:= .A1 4 1 [zs,.J6,z0,z0] [(0,4,y8)] false
abbrev FE:y6:= .pick y3 B3 kf
abbrev FF:y6:= .bin .geq I9 D3
abbrev JH:y6:= .alloc [zs,(w 7),z0,z0]
abbrev JI:y6:= .call 84 [C6,y3,y8]
abbrev Px:p6:=o5 [K3,i0 (.bin .sub D0 G7),i1 an 6]
abbrev yH:y6:= .off 1 W8
abbrev Py:p6:=o5 [G6,D2,i0 HV,i0 ym,jM]
abbrev Pz:y6:= .build [(w 1),(w 1)] [(0,1,B3),(1,1,F4)]
abbrev ec:u5:=l 23
abbrev JJ:p6:=o5 [D2,kX]
abbrev AS:y6:= .un .not y3
abbrev AT:y6:= .un .not y8
abbrev FG:y6:= .C3 1 B3 G7
abbrev AU:y6:= .un .not R7
abbrev um:y6:= .len R7
abbrev PA:p6:=o5 [i1 cV 7,i1 (.len V3) 8,i1 pK 9]
abbrev PB:p6:=o5 [i0 (.bin .add (s 17) G7),i1 su 17]
abbrev PC:p6:=o5 [i1 O8 5,i1 (.len Q6) 6,i1 pK 7]
abbrev PD:p6:=C4 [K3,D2,i0 yp] I9 sk (.exit 2)
abbrev FH:y6:= .C3 5 D0 D3
abbrev FI:y6:= .load none Q1
abbrev rU:n9:=i1 su 7
abbrev PE:p6:=o5 [i0 (.bin .add V3 G7),rU]
abbrev FJ:y6:= .load none dY
abbrev JK:y6:= .A1 3 0 [] [] false
abbrev PF:p6:=sq (o5 [u0,mU,gI]) .ret
abbrev AV:p6:=sq zj .ret
abbrev mZ:n9:=i0 ag7
abbrev PG:p6:=sq (o5 [M1,mZ,i1 an 2]) .ret
abbrev AW:y6:= .off 0 O7
abbrev AX:y6:= .off 4 P4
abbrev JL:y6:= .alloc [zs,z0,(w 5)]
abbrev FK:y6:= .extract y3 0
abbrev FL:y6:= .extract y3 1
abbrev Ba:y6:= .off 0 y8
abbrev JM:y6:= .bin .eql (l 24) D3
abbrev JN:y6:= .call 23 [D0,N6]
abbrev JO:y6:= .call 23 [C6,N6]
abbrev JP:p6:=o5 [i1 uc 5]
abbrev JQ:p6:=o5 [i1 yI 3]
abbrev FM:y6:= .call 36 [D0]
abbrev PI:p6:=o5 [ur,mU,bB]
abbrev PJ:p6:=sq (o5 [bB,i1 iV 4]) .ret
abbrev JR:p6:=o5 [i1 pK 10]
abbrev JS:y6:= .call 153 [C6,I9]
abbrev JT:y6:= .pick U8 kt cR
abbrev PK:u5:= .const (.d (.str [109,97,105,108]))
abbrev PL:p6:=sq (o5 [i1 (.N8 (k 7)) 3]) .ret
abbrev PM:p6:=sq (o5 [i1 (.N8 bw) 2]) .ret
abbrev PN:p6:=sq (o5 [i1 (.N8 bw) 3]) .ret
abbrev JU:y6:= .call 61 [D0,C6]
abbrev JV:y6:= .load (some 3) y8
abbrev JW:y6:= .load (some 3) D5
abbrev JX:y6:= .bin .neq D5 D3
abbrev JY:y6:= .bin .gtr E1 D3
abbrev FO:y6:= .un .not F4
abbrev JZ:y6:= .bin .neq B3 G7
abbrev Ka:y6:= .bin .eql R7 D3
abbrev Kb:y6:= .bin .gtr R7 D3
abbrev Kc:y6:= .load (some 4) W8
abbrev Kd:y6:= .bin .neq B3 gT
abbrev Ke:y6:= .pick E1 kt Q1
abbrev Kf:y6:= .bin .eql I9 N6
abbrev Kg:y6:= .bin .eql D0 N6
abbrev Kh:y6:= .pick R7 kt U8
abbrev Ki:y6:= .C3 1 V3 (s 9)
abbrev PO:p6:=o5 [G6,i0 (.call 42 [D0])]
abbrev fL:n9:=ms 11
abbrev PR:p6:=o5 [fL,dG,i1 an 11]
abbrev PS:p6:=o5 [ms 13,dG,i1 an 13]
abbrev PT:y6:= .A1 1 1 [z0] [(0,1,D3)] true
abbrev PU:p6:=sq (o5 [K3,gI]) .ret
abbrev PW:p6:=sq (o5 [P7,i1 su 1]) .ret
abbrev Kj:y6:= .bin .geq D0 y3
abbrev Kk:y6:= .bin .eql I9 B3
abbrev Kl:y6:= .store 1 D5 B3
abbrev Km:y6:= .pick y8 F4 kf
abbrev Kn:y6:= .bin .neq D0 G7
abbrev Ko:y6:= .bin .neq C6 G7
abbrev Kp:y6:= .bin .add G7 C6
abbrev Kq:y6:= .bin .add G7 I9
abbrev Kr:y6:= .bin .eql I9 G7
abbrev Ks:y6:= .store 1 R7 M3
abbrev Kt:y6:= .pick F4 S2 kf
abbrev Ku:y6:= .pick J2 T7 kf
abbrev Kv:y6:= .store 3 W8 E1
abbrev Kw:y6:= .store 8 O7 D0
abbrev PX:p6:=o5 [P7,dG,i1 an 2]
abbrev FQ:p6:=sq Mb .ret
abbrev FR:y6:= .off 4 O7
abbrev FT:y6:= .off 0 V4
abbrev Kx:y6:= .load none (l 26)
abbrev Ky:y6:= .load none (l 27)
abbrev Bb:y6:= .len y3
abbrev Kz:y6:= .store 1 y3 I9
abbrev KA:y6:= .C3 2 y3 y8
abbrev KB:y6:= .C3 4 y8 B3
abbrev KC:y6:= .C3 3 y8 B3
abbrev Bc:y6:= .N8 T7
abbrev fm:u5:=k 8
abbrev KD:y6:= .C3 2 I9 y3
abbrev FW:y6:= .Z5 y8
abbrev PY:p6:=sq (o5 [i1 mQ 4]) .ret
abbrev PZ:p6:=sq (o5 [i1 uc 2]) .ret
abbrev Qa:p6:=sq (o5 [i1 uc 4]) .ret
abbrev KE:y6:= .load none S0
abbrev KF:y6:= .load none V3
abbrev KG:y6:= .load none cR
abbrev KH:y6:= .load none dZ
abbrev Qb:p6:=sq (o5 [i1 yG 1]) .ret
abbrev X8:n9:=i0 Qc
abbrev mS:n9:=if_ pM 4
abbrev gK:n9:=i0 ag4
abbrev gL:n9:=i0 tv
abbrev oF:n9:=i1 eE 7
abbrev mY:n9:=i0 oy
abbrev rR:n9:=i1 fo 2
abbrev iJ:n9:=ol 0 1
abbrev Z8:n9:=ld 4
abbrev jO:n9:=os 6 2
abbrev rW:n9:=i0 Un
abbrev rY:n9:=i0 Uj
abbrev rZ:n9:=i0 Ug
abbrev sg:n9:=i0 Uf
abbrev si:n9:=i0 Ue
abbrev lu:n9:=os 1 6
abbrev oH:n9:=i0 SJ
abbrev uu:n9:=i0 Uq
abbrev uv:n9:=i0 Up
abbrev uw:n9:=i0 Uo
def O3 (t:q6){x:q6}(h:t=x:=by dsimp only [D3,pK,D0,q5,jQ,B6,I9,y3,fo,jM,G6,ag3,cT,C6,su,iG,SC,u0,ag1,M5,y8,oE,rJ,jJ,bB,Gc,M1,SG,R4,ag6,iI,JF,ag9,gJ,Q2,B3,FU,E1,F4,G7,zq6,dG,an,mT,yI,KI,zq3,O7,Qd,SK,O8,uK,mU,jK,af7,D5,af8,Fu,rV,Fs,Q6,V4,Fl,D2,gI,Mb,N9,zh,bA,Fp,CJ,Fv,WH,W8,tv,jP,y4,aC,Fo,kY,HU,SE,R5,T3,Uk,mW,Ul,mV,bD,Pw,rO,iF,S0,cV,mP,SF,uL,yu,oD,J2,M3,R7,af9,iV,oG,rP,R6,uj,uq,ag0,FN,WI,eg,M7,rL,ee,Uh,kZ,yo,yK,gT,S2,ag2,gM,pN,U4,ag8,iH,bt,N6,Um,rX,gS,WJ,ag4,pM,uM,ag5,Qc,kX,dF,WK,yJ,Z2,jL,FP,SH,FX,CL,kO,X9,nh,jN,nc,rQ,Ga,WL,zi,eE,aB,AY,AZ,WM,cS,zj,sj,dJ,Ud,fK,SI,bz,LZ,HV,ur,FY,CM,WN,yL,fJ,WO,SJ,Ui,mX,WQ,WR,Ma,T7,ag7,P4,WS,FZ,gN,K3,HW,M6,HX,Qe,ym,ox,Aw,kV,Ju,Ax,oy,Q1,V5,Ay,rG,Ue,P7,FV,Pd,Uf,Ug,mQ,uc,Ff,Az,Pe,Z7,rH,oz,Fg,Fh,kW,Fi,ud,Fj,AA,V3,Jv,U8,Uj,gH,Un,rI,AB,yp,Pg,yq,AD,rS,Jw,Fm,Fq,yw,yx,yy,yz,AE,Uo,ue,Ph,uo,Jx,mR,AF,Ft,aV,yA,bw,Jy,oA,AG,AH,yB,dH,Jz,Pj,rK,aA,JA,AI,AJ,AK,Pk,AL,AM,AN,cR,Up,yC,oB,oC,bu,yD,uf,ug,uh,JB,AO,Pn,JC,JD,JE,dY,bQ,rM,AP,AQ,AR,rN,Po,Pp,yE,yF,JG,Fw,dZ,Fx,Uq,Fy,Fz,FA,FB,Pr,FC,yG,uk,Pt,Pu,FD,Pv,FE,FF,JH,JI,Px,yH,Py,Pz,ec,JJ,AS,AT,FG,AU,um,PA,PB,PC,PD,FH,FI,rU,PE,FJ,JK,PF,AV,mZ,PG,AW,AX,JL,FK,FL,Ba,JM,JN,JO,JP,JQ,FM,PI,PJ,JR,JS,JT,PK,PL,PM,PN,JU,JV,JW,JX,JY,FO,JZ,Ka,Kb,Kc,Kd,Ke,Kf,Kg,Kh,Ki,PO,fL,PR,PS,PT,PU,PW,Kj,Kk,Kl,Km,Kn,Ko,Kp,Kq,Kr,Ks,Kt,Ku,Kv,Kw,PX,FQ,FR,FT,Kx,Ky,Bb,Kz,KA,KB,KC,Bc,fm,KD,FW,PY,PZ,Qa,KE,KF,KG,KH,Qb,X8,mS,gK,gL,oF,mY,rR,iJ,Z8,jO,rW,rY,rZ,sg,si,lu,oH,uu,uv,uw,o5,jA,C4,ES,k,kt,kf,z0,zs,zb,w,l,s,i0,i1,it,if_,i3,ms,ml,os,ol,ld,sq,rg,te,sk]):{ x:q6 // t=x }:=⟨x,h⟩
end Go.z7.Z


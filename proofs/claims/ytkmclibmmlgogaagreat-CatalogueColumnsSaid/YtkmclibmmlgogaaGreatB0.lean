/- Texts A1 A2 A3 A4 A5 A6 A7 Z1 Z2 (made short by a program) -/
import Derived.Calls
import Derived.Below
import Derived.WalkKit
import Derived.Laws.BytesString
import Derived.Lib.Strings
set_option linter.unusedVariables false
set_option linter.unusedSimpArgs false
open Bool renaming and_eq_true → b5, not_eq_true' → j9
open List renaming cons_append → G4, getElem?_eq_getElem → o7, getElem?_eq_none → q6, length_cons → y8, map_cons → G7, mem_cons → B8, replicate → c9
open Nat renaming add_assoc → H9, le_refl → l5, lt_or_ge → p7
open Option renaming map_some → E6
namespace Go.u7
inductive Data where
 |bool (b:Bool)
 |int (k:IntKind) (n:Int)
 |str (s:List UInt8)
 |slice (len:Nat) (cells:List Data)
 |bN
 |M5
 |dY
 |nilIface
 deriving Inhabited
inductive b6 where
 |any
 |d (x:Data)
 |ptr (id off:Nat)
 |P9 (cells:List Data)
 |D0 (id sz lo len:Nat)
 |own (sz len:Nat) (cells:List Data)
 |I5
 |agg (cells:List b6)
 |tuple (vs:List b6)
 |func (f:FuncId) (first caps:List b6)
 |map (id:Nat)
 deriving Inhabited
inductive u5 where
 |dead
 |cells (l:List b6)
 |map (es:List (Data×b6))
 deriving Inhabited
abbrev o6:=List u5
inductive r8 where
 |loc (j:Nat)
 |slot (s:Nat)
 |const (v:b6)
 deriving Inhabited
inductive CK where
 |i
 |s
 |b
 deriving DecidableEq,Inhabited
inductive s9 where
 |M9 (x:r8)
 |pick (c a b:r8)
 |alloc (zero:List b6)
 |box (x:r8)
 |build (zero:List b6) (parts:List (Nat×Nat×r8))
 |y6 (sz len:Nat) (zero:List b6) (parts:List (Nat×Nat×r8)) (ob:Bool)
 |load (n:Option Nat) (x:r8)
 |store (n:Nat) (a x:r8)
 |Y5 (x:r8)
 |bin (op:BinOp) (x y:r8)
 |un (op:UnOp) (x:r8)
 |Bl (neg:Bool) (x:r8)
 |GD (neg:Bool) (x:r8)
 |o8 (neg:Bool) (x y:r8)
 |Lw (neg:Bool) (ks:List CK) (x y:r8)
 |ki (k:IntKind) (x:r8)
 |nY (x:r8)
 |AO (x:r8)
 |iq (x:r8)
 |oE (x:r8) (lo hi:Option r8)
 |aE (sz:Nat) (x:r8) (lo hi:Option r8)
 |off (k:Nat) (x:r8)
 |B7 (sz:Nat) (x i:r8)
 |fy (n sz:Nat) (x i:r8)
 |A8 (x i:r8)
 |extract (x:r8) (i:Nat)
 |len (x:r8)
 |U0 (x:r8)
 |Bh (x:r8)
 |append (sz bytes:Nat) (ob:Bool) (x y:r8)
 |eY (isMax:Bool) (xs:List r8)
 |clear (sz:Nat) (zero:List b6) (x:r8)
 |X8 (f:FuncId) (first caps:List r8)
 |call (f:FuncId) (xs:List r8)
 |Z3 (x:r8) (xs:List r8)
 |makeMap
 |lookup (kk:CK) (zero:b6) (ok:Bool) (m k:r8)
 |cQ (kk:CK) (m k v:r8)
 |defer (x:r8)
 |bad
 deriving Inhabited
structure n8 where
 op:s9
 dst:Option Nat:=none
 guard:Option (Nat×Bool):=none
 cz:List Nat:=[]
 deriving Inhabited
inductive p5 where
 |skip
 |region (ops:List n8) (draw:Bool)
 |seq (a b:p5)
 |cond (c:r8) (thn els:p5)
 |test (ops:List n8) (draw:Bool) (c:r8) (thn els:p5)
 |block (id:Nat) (body:p5)
 |loop (mask:List Bool) (body:p5)
 |exit (id:Nat)
 |ret
 |fz (s:Nat)
 |bad
 deriving Inhabited
inductive xY where
 |slot (s:Nat)
 |cell (s:Nat) (n:Option Nat)
 deriving Inhabited
structure q5 where
 nparams:Nat
 names:List Nat
 body:p5
 results:List xY
 an:Bool:=false
 deriving Inhabited
def b6.F2:b6->b6
 | .own _ len cells=> .d (.slice len cells)
 | .I5=> .d (.slice 0 [])
 |v=>v
def b6.one:b6->Bool
 | .any=>false
 | .agg _=>false
 | .tuple _=>false
 |_=>true
def b6.cells? :b6->Option (List b6)
 | .agg l=>if l.all b6.one then some l else none
 |v=>if v.one then some [v] else none
def b6.data? :b6->Option Data
 | .d x=>some x
 | .own _ len cells=>some (.slice len cells)
 | .I5=>some (.slice 0 [])
 |_=>none
def L7 :List b6->Option (List Data)
 |[]=>some []
 |v::vs=>match v.data? with
  |some x=>match L7 vs with
   |some xs=>some (x::xs)
   |none=>none
  |none=>none
mutual
def b6.M3:b6->Nat
 | .ptr id _=>id+1
 | .D0 id _ _ _=>id+1
 | .map id=>id+1
 | .agg l=>y9 l
 | .tuple l=>y9 l
 | .func _ a b=>max (y9 a) (y9 b)
 |_=>0
def y9:List b6->Nat
 |[]=>0
 |v::vs=>max v.M3 (y9 vs)
end
mutual
def b6.kill (id:Nat):b6->b6
 | .ptr i o=>if i=id then .any else .ptr i o
 | .D0 i z l n=>if i=id then .any else .D0 i z l n
 | .map i=>if i=id then .any else .map i
 | .agg l=> .agg (H7 id l)
 | .tuple l=> .tuple (H7 id l)
 | .func f a b=> .func f (H7 id a) (H7 id b)
 |v=>v
def H7 (id:Nat):List b6->List b6
 |[]=>[]
 |v::vs=>v.kill id::H7 id vs
end
def u5.M3:u5->Nat
 | .dead=>0
 | .cells l=>y9 l
 | .map es=>y9 (es.map (·.2))
def O1:List u5->Nat->Bool
 |[],_=>true
 |o::os,k=>o.M3<=k+1&&O1 os (k+1)
def W8:List u5->Nat
 |[]=>0
 |o::os=>max o.M3 (W8 os)
def u5.kill (id:Nat):u5->u5
 | .dead=> .dead
 | .cells l=> .cells (H7 id l)
 | .map es=> .map (es.map fun p=>(p.1,p.2.kill id))
def rd (H:o6)(id off n:Nat):Option (List b6) :=
 match H[id]? with
 |some (.cells l)=>if off+n<=l.length then some ((l.drop off).take n) else none
 |_=>none
def splice (l:List b6)(off:Nat)(vs:List b6):List b6:=l.take off++vs++l.drop (off+vs.length)
def wr (H:o6)(id off:Nat)(vs:List b6):Option o6 :=
 match H[id]? with
 |some (.cells l)=>if off+vs.length<=l.length then some (H.set id (.cells (splice l off vs))) else none
 |_=>none
def i64 (n:Int):b6:= .d (.int .i64 n)
def aA (op:BinOp)(k:IntKind)(a b:Int):Option Data :=
 match op with
 | .add=>some (.int k (k.wrap (a+b)))
 | .sub=>some (.int k (k.wrap (a - b)))
 | .mul=>some (.int k (k.wrap (a * b)))
 | .quo=>if b=0 then none else some (.int k (k.wrap (a.tdiv b)))
 | .rem=>if b=0 then none else some (.int k (a.tmod b))
 | .and=>some (.int k (k.wrap (BitVec.ofInt k.bits a&&&BitVec.ofInt k.bits b).toNat))
 | .or=>some (.int k (k.wrap (BitVec.ofInt k.bits a|||BitVec.ofInt k.bits b).toNat))
 | .xor=>some (.int k (k.wrap (BitVec.ofInt k.bits a ^^^ BitVec.ofInt k.bits b).toNat))
 | .eql=>some (.bool (a==b))
 | .neq=>some (.bool (a != b))
 | .lss=>some (.bool (a<b))
 | .leq=>some (.bool (a<=b))
 | .gtr=>some (.bool (a>b))
 | .geq=>some (.bool (a≥b))
 |_=>none
def uJ (op:BinOp)(k:IntKind)(a b:Int):Option Data :=
 if b<0 then none else
 match op with
 | .shl=>some (.int k (k.wrap (a * 2 ^ (min b.toNat k.bits))))
 | .shr=>some (.int k (a.fdiv (2 ^ (min b.toNat k.bits))))
 |_=>none
def qX (op:BinOp)(a b:List UInt8):Option Data :=
 match op with
 | .add=>if a.length+b.length<4611686018427387904 then some (.str (a++b)) else none
 | .eql=>some (.bool (a==b))
 | .neq=>some (.bool (!(a==b)))
 | .lss=>some (.bool (Op.bytesLess a b))
 | .leq=>some (.bool (Op.bytesLess a b||a==b))
 | .gtr=>some (.bool (!(Op.bytesLess a b||a==b)))
 | .geq=>some (.bool (!(Op.bytesLess a b)))
 |_=>none
def V1:BinOp->Bool
 | .shl=>true
 | .shr=>true
 |_=>false
def K5 (op:BinOp):Data->Data->Option Data
 | .int k a,.int k' b=>if V1 op then uJ op k a b else if k=k' then aA op k a b else none
 | .str a,.str b=>qX op a b
 |_,_=>none
def xp (op:UnOp):Data->Option Data
 | .int k n=>match op with
  | .neg=>some (.int k (k.wrap (0 - n)))
  |_=>none
 | .bool b=>match op with
  | .not=>some (.bool (!b))
  |_=>none
 |_=>none
def bg (cells:List b6):List (Nat×Nat×b6)->Option (List b6)
 |[]=>some cells
 |(off,sz,v)::rest=>match v.cells? with
  |some l=>if l.length=sz/\off+sz<=cells.length then bg (splice cells off l) rest else none
  |none=>none
def eA :List Data->Option (List UInt8)
 |[]=>some []
 | .int .u8 n::r=>match eA r with
  |some bs=>some (UInt8.ofNat n.toNat::bs)
  |none=>none
 |_=>none
def uk (isMax:Bool)(a b:Data):Option Data :=
 match a,b with
 | .int k x,.int _ y=>some (.int k (if isMax then (if y>x then y else x) else (if y<x then y else x)))
 |_,_=>none
def cR (isMax:Bool):Data->List b6->Option Data
 |a,[]=>some a
 |a,.d b::r=>match uk isMax a b with
  |some c=>cR isMax c r
  |none=>none
 |_,_=>none
def Data.X7:CK->Data->Data->Option Bool
 | .i,.int k a,.int k' b=>if k=k' then some (a==b) else none
 | .s,.str a,.str b=>some (a==b)
 | .b,.bool a,.bool b=>some (a==b)
 |_,_,_=>none
def mO:List CK->List b6->List b6->Option Bool
 |[],[],[]=>some true
 |k::ks,.d a::r,.d b::q=>match Data.X7 k a b with
  |some t=>match mO ks r q with
   |some u=>some (t&&u)
   |none=>none
  |none=>none
 |_,_,_=>none
def aK (kk:CK)(k:Data):List (Data×b6)->Option (Option b6)
 |[]=>some none
 |(k',v)::r=>match Data.X7 kk k k' with
  |some true=>some (some v)
  |some false=>aK kk k r
  |none=>none
def bM (kk:CK)(k:Data)(v:b6):List (Data×b6)->Option (List (Data×b6))
 |[]=>some [(k,v)]
 |(k',v')::r=>match Data.X7 kk k k' with
  |some true=>some ((k,v)::r)
  |some false=>match bM kk k v r with
   |some r' =>some ((k',v')::r')
   |none=>none
  |none=>none
def Q7 (ρ:r8->b6)(dflt:Nat):Option r8->Option Int
 |none=>some dflt
 |some x=>match ρ x with
  | .d (.int _ n)=>some n
  |_=>none
def I8 (H:o6)(sz:Nat):b6->Option (Nat×List b6)
 | .d (.slice len cells)=>if cells.length=len * sz then some (len,cells.map .d) else none
 | .own z len cells=>if z=sz then some (len,cells.map .d) else none
 | .D0 id z lo len=>if z=sz then match rd H id lo (len * sz) with
   |some cs=>some (len,cs.map b6.F2)
   |none=>none
  else none
 | .d (.str s)=>if sz=1 then some (s.length,s.map fun b=> .d (.int .u8 b.toNat)) else none
 |_=>none
def k9 (ρ:r8->b6)(H:o6):s9->Option (b6×List Nat)
 | .pick c a b=>match ρ c with
  | .d (.bool t)=>some (if t then ρ a else ρ b,[])
  |_=>none
 | .build zero parts=>match bg zero (parts.map fun (o,s,x)=>(o,s,ρ x)) with
  |some cs=>some (.agg cs,[])
  |none=>none
 | .y6 sz len zero parts false=>match bg zero (parts.map fun (o,s,x)=>(o,s,ρ x)) with
  |some cs=>match L7 cs with
   |some xs=>if 0<sz/\xs.length=len * sz then some (.own sz len xs,[]) else none
   |none=>none
  |none=>none
 | .load none x=>match ρ x with
  | .ptr id off=>match rd H id off 1 with
   |some [v]=>some (v.F2,[id])
   |_=>none
  | .P9 (c::_)=>some (.d c,[])
  |_=>none
 | .load (some n) x=>match ρ x with
  | .ptr id off=>match rd H id off n with
   |some vs=>some (.agg (vs.map b6.F2),[id])
   |none=>none
  | .P9 cells=>if n<=cells.length then some (.agg ((cells.take n).map .d),[]) else none
  |_=>none
 | .Y5 x=>match ρ x with
  | .ptr id off=>some (.ptr id off,[])
  | .P9 cells=>some (.P9 cells,[])
  | .func f a b=>some (.func f a b,[])
  |_=>none
 | .bin op x y=>match ρ x,ρ y with
  | .d a,.d b=>match K5 op a b with
   |some r=>some (.d r,[])
   |none=>none
  |_,_=>none
 | .GD neg x=>match ρ x with
  | .d .nilIface=>some (.d (.bool (!neg)),[])
  |_=>none
 | .o8 neg x y=>match ρ x,ρ y with
  | .d (.bool a),.d (.bool b)=>some (.d (.bool (neg != (a==b))),[])
  |_,_=>none
 | .Lw neg ks x y=>match ρ x,ρ y with
  | .agg a,.agg b=>match mO ks a b with
   |some t=>some (.d (.bool (neg != t)),[])
   |none=>none
  |_,_=>none
 | .un op x=>match ρ x with
  | .d a=>match xp op a with
   |some r=>some (.d r,[])
   |none=>none
  |_=>none
 | .Bl neg x=>match ρ x with
  | .d (.slice len _)=>if 0<len then some (.d (.bool neg),[]) else none
  | .D0 _ _ _ _=>some (.d (.bool neg),[])
  |_=>none
 | .ki k x=>match ρ x with
  | .d (.int _ n)=>some (.d (.int k (k.wrap n)),[])
  |_=>none
 | .nY x=>match ρ x with
  | .d (.str s)=>some (.d (.str s),[])
  |_=>none
 | .iq x=>match ρ x with
  | .d (.slice len cells)=>if cells.length=len then match eA cells with
    |some bs=>some (.d (.str bs),[])
    |none=>none
   else none
  |_=>none
 | .AO x=>match ρ x with
  | .d (.str s)=>some (.own 1 s.length (s.map fun b=> .int .u8 b.toNat),[])
  |_=>none
 | .oE x lo hi=>match ρ x with
  | .d (.str s)=>match Q7 ρ 0 lo,Q7 ρ s.length hi with
   |some l,some h=>if 0<=l/\l<=h/\h<=s.length then some (.d (.str ((s.take h.toNat).drop l.toNat)),[]) else none
   |_,_=>none
  |_=>none
 | .aE sz x lo hi=>match ρ x with
  | .d (.slice len cells)=>match Q7 ρ 0 lo,Q7 ρ len hi with
   |some l,some h=>if 0<=l/\l<=h/\h<=len/\cells.length=len * sz then
     some (.d (.slice (h - l).toNat ((cells.take (h.toNat * sz)).drop (l.toNat * sz))),[]) else none
   |_,_=>none
  | .D0 id z a len=>match Q7 ρ 0 lo,Q7 ρ len hi with
   |some l,some h=>if 0<=l/\l<=h/\h<=len/\z=sz then
     if l=h then some (.d (.slice 0 []),[]) else some (.D0 id sz (a+l.toNat * sz) (h - l).toNat,[]) else none
   |_,_=>none
  |_=>none
 | .off k x=>match ρ x with
  | .ptr id off=>some (.ptr id (off+k),[])
  | .P9 cells=>some (.P9 (cells.drop k),[])
  |_=>none
 | .B7 sz x i=>match ρ x,ρ i with
  | .d (.slice len cells),.d (.int _ i)=>if 0<=i/\i<len then some (.P9 (cells.drop (i.toNat * sz)),[]) else none
  | .D0 id z lo len,.d (.int _ i)=>if 0<=i/\i<len/\z=sz then some (.ptr id (lo+i.toNat * sz),[]) else none
  |_,_=>none
 | .fy n sz x i=>match ρ x,ρ i with
  | .ptr id off,.d (.int _ i)=>if 0<=i/\i<n then some (.ptr id (off+i.toNat * sz),[]) else none
  | .P9 cells,.d (.int _ i)=>if 0<=i/\i<n then some (.P9 (cells.drop (i.toNat * sz)),[]) else none
  |_,_=>none
 | .A8 x i=>match ρ x,ρ i with
  | .d (.str s),.d (.int _ i)=>if 0<=i then match s[i.toNat]? with
    |some b=>some (.d (.int .u8 b.toNat),[])
    |none=>none
   else none
  |_,_=>none
 | .extract x i=>match ρ x with
  | .tuple vs=>match vs[i]? with
   |some v=>some (v,[])
   |none=>none
  |_=>none
 | .len x=>match ρ x with
  | .d (.slice len _)=>some (i64 len,[])
  | .D0 _ _ _ len=>some (i64 len,[])
  |_=>none
 | .U0 x=>match ρ x with
  | .d (.str s)=>some (i64 s.length,[])
  |_=>none
 | .Bh x=>match ρ x with
  | .d .dY=>some (i64 0,[])
  | .map id=>match H[id]? with
   |some (.map es)=>some (i64 es.length,[id])
   |_=>none
  |_=>none
 | .eY isMax xs=>match xs.map ρ with
  | .d a::r=>match cR isMax a r with
   |some c=>some (.d c,[])
   |none=>none
  |_=>none
 | .X8 f first caps=>some (.func f (first.map ρ) (caps.map ρ),[])
 | .lookup kk zero ok m k=>match ρ m,ρ k with
  | .map id,.d key=>match H[id]? with
   |some (.map es)=>match aK kk key es with
    |some r=>some (if ok then .tuple [r.getD zero,.d (.bool r.isSome)] else r.getD zero,[id])
    |none=>none
   |_=>none
  | .d .dY,.d key=>match Data.X7 kk key key with
   |some true=>some (if ok then .tuple [zero,.d (.bool false)] else zero,[])
   |_=>none
  |_,_=>none
 |_=>none
inductive Touch where
 |slot (s:Nat)
 |obj (id:Nat)
 |cell (id off:Nat)
 |below (n:Nat)
 deriving Inhabited
structure E1 where
 T:List b6
 H:o6
 L:List b6
 n5:List Touch
def Touch.Q1 (s:Nat):Touch->Bool
 | .slot t=>t==s
 |_=>false
def Touch.J1 (id:Nat):Touch->Bool
 | .obj i=>i==id
 | .below n=>id<n
 |_=>false
def Touch.aj (id off:Nat):Touch->Bool
 | .obj i=>i==id
 | .cell i o=>i==id&&o==off
 | .below n=>id<n
 |_=>false
def b6.Lv:b6->b6
 | .I5=> .I5
 |v=>v.F2
def F0 (T L:List b6):r8->b6
 | .loc j=>(L.getD j .any).F2
 | .slot s=>(T.getD s .any).F2
 | .const v=>v.Lv
def Y6 (st:E1):r8->Option (Nat×Nat)
 | .loc m=>match st.L[m]? with
  |some (.ptr id off)=>some (id,off)
  |_=>none
 | .slot s=>if st.n5.any (Touch.Q1 s) then none else match st.T[s]? with
  |some (.ptr id off)=>some (id,off)
  |_=>none
 | .const _=>none
structure F9 where
 RS:Nat
 RR:Nat
 base:Nat
 strict:Nat
def F9.may (l:F9)(id:Nat):Bool:=decide (id<l.RS)||decide (l.RR<=id)
def F9.jK (l:F9)(a b base strict:Nat):F9 :=
 if l.RR<=l.RS then ⟨a,b,base,strict⟩ else ⟨min l.RS a,max l.RR b,base,strict⟩
def U2 (l:F9)(st:E1)(sz:Nat):s9->Option (Nat×List Data×E1)
 | .M9 (.slot s) =>
  if st.n5.any (Touch.Q1 s) then none else
  match st.T[s]? with
  |some (.own z len cells)=>if z=sz then some (len,cells,{ st with T:=st.T.set s (.d (.slice len cells)),n5:= .slot s::st.n5 }) else none
  |_=>none
 | .load none x =>
  match Y6 st x with
  |some (id,off) =>
   if st.n5.any (Touch.aj id off)|| !l.may id then none else
   match st.H[id]? with
   |some (.cells cs) =>
    match cs[off]? with
    |some (.own z len cells)=>if z=sz then some (len,cells,{ st with H:=st.H.set id (.cells (cs.set off (.d (.slice len cells)))),n5:= .cell id off::st.n5 }) else none
    |_=>none
   |_=>none
  |none=>none
 |_=>none
def O4 (l:F9)(j4:List n8)(st:E1)(sz:Nat):r8->Option (Nat×List Data×E1)
 | .const (.own z len cells)=>if z=sz then some (len,cells,st) else none
 | .const _=>none
 | .slot _=>none
 | .loc j =>
  match st.L[j]? with
  |some (.own z len cells)=>if z=sz then some (len,cells,{ st with L:=st.L.set j (.d (.slice len cells)) }) else none
  |some (.d (.slice _ _))=>match j4[j]? with
   |some a=>U2 l st sz a.op
   |none=>none
  |_=>none
def roomFor (n bytes:Nat):Bool:=decide ((2 * n+512) * bytes<=281474976710656)
abbrev oL:=FuncId->List b6->o6->F9->Option (b6×o6)
def put (st:E1)(k:Nat)(v:b6):E1:={ st with L:=st.L.set k v }
def C6 (st:E1):r8->b6×E1
 | .loc j=>match st.L[j]? with
  |some (.own z len cells)=>(.own z len cells,{ st with L:=st.L.set j (.d (.slice len cells)) })
  |_=>(F0 st.T st.L (.loc j),st)
 | .const v=>(v,st)
 | .slot s=>(F0 st.T st.L (.slot s),st)
structure Env where
 cf:oL
 prom:FuncId->Bool
 mode:FuncId->Nat
 idle:FuncId->Bool
 lim:F9
 entry:Nat
def G5 (H:o6)(strict:Nat):Nat->Nat->Nat
 |0,n=>n
 |k+1,n=>if n<=strict then n else
  let m:=max n (W8 ((H.take n).drop strict))
  if m=n then n else G5 H strict k m
def B5 (H:o6)(strict n:Nat):Nat :=
 if n<=strict then n else if O1 ((H.take n).drop strict) strict then n else strict
def A6 (E:Env)(k:Nat)(f:FuncId)(args:List b6)(st:E1):Option E1 :=
 if E.prom f then
  match E.cf f args st.H E.lim with
  |some (v,H1)=>if st.H.length<=H1.length then some (put { st with H:=H1,n5:= .below H1.length::st.n5 } k v) else none
  |none=>none
 else
  let n:=G5 st.H E.lim.strict 8 (y9 args)
  if n<=st.H.length/\W8 ((st.H.take n).drop E.lim.strict)<=n then
   match E.mode f with
   |0=>match E.cf f args (st.H.take n) { E.lim with base:=n,strict:=B5 st.H E.lim.strict n } with
    |some (v,H1)=>if H1.length=n then some (put { st with H:=H1++st.H.drop n,n5:= .below n::st.n5 } k v) else none
    |none=>none
   |1=>match E.cf f args (st.H.take n) ⟨0,n,n,B5 st.H E.lim.strict n⟩ with
    |some (v,H1)=>if H1.length=n then some (put st k v) else none
    |none=>none
   |_ =>
    let m:=(args.headD .any).M3
    match E.cf f args (st.H.take n) (E.lim.jK m n n (B5 st.H E.lim.strict n)) with
    |some (v,H1)=>if H1.length=n/\m<=n then some (put { st with H:=H1.take m++st.H.drop m,n5:= .below m::st.n5 } k v) else none
    |none=>none
  else none
def newId (st:E1)(s5:Option Nat):Nat:=s5.getD st.H.length
def I4 (st:E1)(s5:Option Nat)(o:u5):E1 :=
 match s5 with
 |none=>{ st with H:=st.H++[o] }
 |some i=>{ st with H:=st.H.set i o }
def O8 (E:Env)(k n:Nat)(st:E1)(a:b6)(x:r8):Option E1 :=
 match a with
 | .ptr id off =>
  match (C6 st x).1.cells? with
  |some l =>
   if l.length=n/\E.lim.may id/\(y9 l<=id+1\/(E.lim.base<=id/\E.lim.strict<=id)) then
    match wr (C6 st x).2.H id off l with
    |some H' =>some (put { (C6 st x).2 with H:=H',n5:= .obj id::(C6 st x).2.n5 } k .any)
    |none=>none
   else none
  |none=>none
 |_=>none
def V8 (E:Env)(k sz bytes:Nat)(st:E1)(id lo len:Nat)(y:b6):Option E1 :=
 if E.lim.base<=id/\E.entry<=id/\E.lim.may id then
  match st.H[id]?,I8 st.H sz y with
  |some (.cells l),some (m,cs) =>
   if lo=0/\len * sz=l.length/\roomFor (len+m) bytes/\y9 cs<=id/\cs.all b6.one/\0<sz then
    some (put { T:=H7 id st.T,H:=(st.H.take E.lim.base++(st.H.drop E.lim.base).map (u5.kill id)).set id (.cells (H7 id l++cs)),L:=H7 id st.L,n5:= .obj id::st.n5 } k (.D0 id sz lo (len+m)))
   else none
  |_,_=>none
 else none
def lH (l:F9)(st:E1):s9->Bool
 | .M9 (.slot s)=> !st.n5.any (Touch.Q1 s)&&(match st.T[s]? with
  |some .I5=>true
  |_=>false)
 | .load none x =>
  match Y6 st x with
  |some (id,off)=> !st.n5.any (Touch.aj id off)&&l.may id&&(match st.H[id]? with
   |some (.cells cs)=>(match cs[off]? with
    |some .I5=>true
    |_=>false)
   |_=>false)
  |none=>false
 |_=>false
def isNil (l:F9)(j4:List n8)(st:E1):r8->Bool
 | .const .I5=>true
 | .loc j=>match st.L[j]? with
  |some .I5=>true
  |some (.d (.slice _ _))=>match j4[j]? with
   |some a=>lH l st a.op
   |none=>false
  |_=>false
 |_=>false
def J5 (E:Env)(j4:List n8)(s5:Option Nat)(k sz bytes:Nat)(ob:Bool)(st:E1)(x:r8)(y:b6):Option E1 :=
 match I8 st.H sz y with
 |some (m,cs) =>
  if ob then
   if isNil E.lim j4 st x/\roomFor m bytes/\0<sz then
    if m=0 then some (put st k .I5)
    else some (put (I4 st s5 (.cells cs)) k (.D0 (newId st s5) sz 0 m))
   else none
  else
   match L7 cs with
   |some new =>
    match O4 E.lim j4 st sz x with
    |some (len,cells,st') =>
     if roomFor (len+m) bytes/\0<sz then some (put st' k (.own sz (len+m) (cells++new))) else none
    |none=>none
   |none=>none
 |none=>none
def V9 (E:Env)(k sz:Nat)(zero:List b6)(st:E1):b6->Option E1
 | .D0 id z lo len =>
  if z=sz/\zero.length=sz/\y9 zero=0/\E.lim.may id then
   match wr st.H id lo ((c9 len zero).flatten) with
   |some H' =>some (put { st with H:=H',n5:= .obj id::st.n5 } k (.tuple []))
   |none=>none
  else none
 | .d (.slice 0 _)=>some (put st k (.tuple []))
 |_=>none
def R6 (E:Env)(k:Nat)(kk:CK)(st:E1)(m key v:b6):Option E1 :=
 match m,key with
 | .map id,.d kd=>match st.H[id]? with
  |some (.map es) =>
   if v.M3<=id+1/\E.lim.may id then
    match Data.X7 kk kd kd with
    |some true=>match bM kk kd v es with
     |some es' =>some (put { st with H:=st.H.set id (.map es'),n5:= .obj id::st.n5 } k .any)
     |none=>none
    |_=>none
   else none
  |_=>none
 |_,_=>none
def E2 (E:Env)(j4:List n8)(s5:Option Nat)(k:Nat)(st:E1):s9->Option E1
 | .alloc zero=>some (put (I4 st s5 (.cells zero)) k (.ptr (newId st s5) 0))
 | .box x=>match (F0 st.T st.L x).cells? with
  |some l=>some (put (I4 st s5 (.cells l)) k (.ptr (newId st s5) 0))
  |none=>none
 | .makeMap=>some (put (I4 st s5 (.map [])) k (.map (newId st s5)))
 | .y6 sz len zero parts true=>match bg zero (parts.map fun (o,s,x)=>(o,s,F0 st.T st.L x)) with
  |some cs=>if 0<sz/\cs.length=len * sz then some (put (I4 st s5 (.cells cs)) k (.D0 (newId st s5) sz 0 len)) else none
  |none=>none
 | .store n a x=>O8 E k n st (F0 st.T st.L a) x
 | .append sz bytes ob x y =>
  match F0 st.T st.L x with
  | .D0 id z lo len=>if z=sz then V8 E k sz bytes st id lo len (F0 st.T st.L y) else none
  |_=>J5 E j4 s5 k sz bytes ob st x (F0 st.T st.L y)
 | .clear sz zero x=>V9 E k sz zero st (F0 st.T st.L x)
 | .call f xs=>A6 E k f (xs.map (F0 st.T st.L)) st
 | .Z3 x xs=>match F0 st.T st.L x with
  | .func f first caps=>A6 E k f (first++xs.map (F0 st.T st.L)++caps) st
  |_=>none
 | .cQ kk m key v=>R6 E k kk st (F0 st.T st.L m) (F0 st.T st.L key) (F0 st.T st.L v)
 | .defer x=>match F0 st.T st.L x with
  | .func f _ _=>if E.idle f then some (put st k .any) else none
  |_=>none
 |_=>none
def s9.D5:s9->Bool
 | .alloc _=>true
 | .box _=>true
 | .makeMap=>true
 | .y6 _ _ _ _ b=>b
 | .store .. =>true
 | .append .. =>true
 | .call .. =>true
 | .Z3 .. =>true
 | .cQ .. =>true
 | .clear .. =>true
 | .defer _=>true
 |_=>false
def F8 (st:E1)(k:Nat):Option Nat->Option E1
 |none=>some st
 |some s =>
  if s<st.T.length then
   some { (C6 st (.loc k)).2 with T:=st.T.set s (C6 st (.loc k)).1,n5:= .slot s::st.n5 }
  else none
def W3 (st:E1)(k:Nat):Option Nat->Option E1
 |none=>some st
 |some s =>
  if s<st.T.length&&st.n5.any (Touch.Q1 s) then
   some { (C6 st (.loc k)).2 with T:=st.T.set s (C6 st (.loc k)).1 }
  else none
def s4 (s5:Option Nat)(st:E1)(k:Nat)(dst:Option Nat):Option E1 :=
 match s5 with
 |none=>F8 st k dst
 |some _=>W3 st k dst
def u0 (L:List b6):Option (Nat×Bool)->Option Bool
 |none=>some true
 |some (j,want)=>match L[j]? with
  |some (.d (.bool b))=>some (b==want)
  |some (.tuple [])=>some false
  |_=>none
def C5 (E:Env)(j4:List n8)(s5:Option Nat)(k:Nat)(op:s9)(st:E1):Option (E1×List Nat) :=
 if op.D5 then
  match E2 E j4 s5 k st op with
  |some st' =>some (st',[])
  |none=>none
 else
  match op with
  | .M9 x=>some (put (C6 st x).2 k (C6 st x).1,[])
  |op=>match k9 (F0 st.T st.L) st.H op with
   |some (v,rs)=>some (put st k v,rs)
   |none=>none
def x9 (E:Env)(j4:List n8)(s5:Option Nat)(k:Nat)(i:n8)(st:E1):Option (E1×List Nat) :=
 match u0 st.L i.guard with
 |some true =>
  match C5 E j4 s5 k i.op st with
  |some (st',rs)=>match s4 s5 st' k i.dst with
   |some Y9=>some (Y9,rs)
   |none=>none
  |none=>none
 |some false=>match s4 s5 (put st k (.tuple [])) k i.dst with
  |some Y9=>some (Y9,[])
  |none=>none
 |none=>none
def bQ (E:Env)(j4:List n8):List n8->Nat->E1->Option E1
 |[],_,st=>some st
 |i::is,k,st=>match x9 E j4 none k i st with
  |some (st',_)=>bQ E j4 is (k+1) st'
  |none=>none
def s9.y3:s9->Bool
 | .alloc _=>true
 | .box _=>true
 | .makeMap=>true
 | .y6 _ _ _ _ ob=>ob
 | .append _ _ ob _ _=>ob
 |_=>false
def J9 (hs:List Touch)(rs:List Nat):Bool:=hs.any fun t=>rs.any fun id=>t.J1 id
structure iL where
 reads:List Nat
 CV:List Touch
 Bz:Nat
 id:Nat
def K4 (E:Env)(st:E1):s9->Nat
 | .call f xs=>if E.prom f then st.H.length else G5 st.H E.lim.strict 8 (y9 (xs.map (F0 st.T st.L)))
 | .Z3 x xs=>match F0 st.T st.L x with
  | .func f first caps=>if E.prom f then st.H.length else G5 st.H E.lim.strict 8 (y9 (first++xs.map (F0 st.T st.L)++caps))
  |_=>0
 |_=>0
def D8 (st:E1):s9->Bool
 | .append _ _ _ x _=>match F0 st.T st.L x with
  | .D0 _ _ _ _=>true
  |_=>false
 |_=>false
def jS:Option Nat->List Touch
 |some n=>[.obj n]
 |none=>[]
def cr (E:Env)(i:n8)(s5:Option Nat)(st st' :E1)(rs:List Nat):iL :=
 ⟨rs,jS s5++st'.n5.take (st'.n5.length - st.n5.length),K4 E st i.op,s5.getD 0⟩
def gS (E:Env)(j4:List n8)(s5:Option Nat)(k:Nat)(i:n8)(st:E1):Option (E1×iL) :=
 if D8 st i.op&&j4.any (fun a=>a.cz.contains k) then none else
 match x9 E j4 s5 k i st with
 |some (st',rs)=>some (st',cr E i s5 st st' rs)
 |none=>none
def O3 (E:Env)(j4:List n8):List n8->Nat->Nat->E1->Option (E1×List iL)
 |[],_,_,st=>some (st,[])
 |i::is,k,na,st=>match gS E j4 (if i.op.y3 then some na else none) k i st with
  |some (st',l) =>
   match O3 E j4 is (k+1) (if i.op.y3 then na+1 else na) st' with
   |some (Y9,lg)=>some (Y9,l::lg)
   |none=>none
  |none=>none
def sY (j4:List n8)(lg:List iL):Bool :=
 (j4.zip lg).all fun (i,l)=>i.cz.all fun e=>match lg[e]? with
  |some le=> !J9 le.CV l.reads&&(!i.op.y3||decide (le.Bz<=l.id))
  |none=>false
def X5 (j4:List n8):o6:=(j4.filter (·.op.y3)).map fun _=> .dead
def slotsOf (j4:List n8):List Touch:=j4.filterMap fun i=>if i.op.y3 then i.dst.map .slot else none
def O0 (E:Env)(j4:List n8)(draw:Bool)(T:List b6)(H:o6):Option E1 :=
 if draw then
  match O3 E j4 j4 0 H.length ⟨T,H++X5 j4,c9 j4.length .any,slotsOf j4⟩ with
  |some (st,lg)=>if sY j4 lg then some st else none
  |none=>none
 else bQ E j4 j4 0 ⟨T,H,c9 j4.length .any,[]⟩
inductive D2 where
 |normal
 |exit (id:Nat)
 |ret
 deriving Inhabited
structure St where
 T:List b6
 H:o6
def R0:List Bool->List b6->List b6
 |true::m,v::vs=>v::R0 m vs
 |false::m,_::vs=> .any::R0 m vs
 |[],_::vs=> .any::R0 [] vs
 |_,[]=>[]
def clean (mask:List Bool)(strict n:Nat)(st:St):St :=
 if y9 (R0 mask st.T)<=n/\W8 ((st.H.take n).drop strict)<=n then ⟨R0 mask st.T,st.H.take n⟩ else ⟨R0 mask st.T,st.H⟩
def eE (body:St->Option (D2×St))(mask:List Bool)(strict n:Nat):Nat->St->Option (D2×St)
 |0,_=>none
 |k+1,st=>match body (clean mask strict n st) with
  |some (.normal,st')=>eE body mask strict n k st'
  |r=>r
def eM:List b6->Nat->Option (Nat×Nat×Nat×Nat×Nat)
 |[],_=>none
 | .D0 id sz lo len::_,i=>some (i,id,sz,lo,len)
 |_::r,i=>eM r (i+1)
def Gj (lim:F9)(entry s:Nat)(st:St):Option St :=
 match st.T[s]? with
 |some (.ptr b 0)=>match st.H[b]? with
  |some (.cells cs)=>match eM cs 0 with
   |some (i,id,sz,lo,len)=>match rd st.H id lo (len * sz) with
    |some vs=>match L7 vs with
     |some xs =>
      if lim.base<=id/\entry<=id/\lim.may id=true/\lim.base<=b/\id≠b then
       some ⟨H7 id st.T,((st.H.take lim.base++(st.H.drop lim.base).map (u5.kill id)).set id .dead).set b (.cells ((H7 id cs).set i (.d (.slice len xs))))⟩
      else none
     |none=>none
    |none=>none
   |none=>none
  |_=>none
 |_=>none
def exec (E:Env)(lim:Nat):p5->St->Option (D2×St)
 | .skip,st=>some (.normal,st)
 | .region ops draw,st=>match O0 E ops draw st.T st.H with
  |some r=>some (.normal,⟨r.T,r.H⟩)
  |none=>none
 | .seq a b,st=>match exec E lim a st with
  |some (.normal,st')=>exec E lim b st'
  |r=>r
 | .cond c a b,st=>match F0 st.T [] c with
  | .d (.bool true)=>exec E lim a st
  | .d (.bool false)=>exec E lim b st
  |_=>none
 | .test ops draw c a b,st=>match O0 E ops draw st.T st.H with
  |some r=>match F0 r.T r.L c with
   | .d (.bool true)=>exec E lim a ⟨r.T,r.H⟩
   | .d (.bool false)=>exec E lim b ⟨r.T,r.H⟩
   |_=>none
  |none=>none
 | .block id body,st=>match exec E lim body st with
  |some (.exit id',st')=>if id' =id then some (.normal,st') else some (.exit id',st')
  |r=>r
 | .loop mask body,st=>eE (exec E lim body) mask E.lim.strict st.H.length lim st
 | .exit id,st=>some (.exit id,st)
 | .ret,st=>some (.ret,st)
 | .fz s,st=>match Gj E.lim E.entry s st with
  |some st' =>some (.normal,st')
  |none=>none
 | .bad,_=>none
def jU (T:List b6)(H:o6):xY->Option b6
 | .slot s=>T[s]?
 | .cell s none=>match T[s]? with
  |some (.ptr id off)=>match rd H id off 1 with
   |some [v]=>some v.F2
   |_=>none
  |_=>none
 | .cell s (some n)=>match T[s]? with
  |some (.ptr id off)=>match rd H id off n with
   |some vs=>some (.agg (vs.map b6.F2))
   |none=>none
  |_=>none
def bF (T:List b6)(H:o6):List xY->Option (List b6)
 |[]=>some []
 |r::rs=>match jU T H r with
  |some v=>match bF T H rs with
   |some vs=>some (v::vs)
   |none=>none
  |none=>none
def b9:List b6->b6
 |[v]=>v
 |vs=> .tuple (vs.map b6.F2)
def bI (H:o6)(n:Nat):Nat->List b6->Option (List b6)
 |0,_=>none
 |_+1,[]=>some []
 |fuel+1,v::vs =>
  match bI H n fuel vs with
  |none=>none
  |some ws =>
   match v with
   | .D0 id sz lo len =>
    if id<n then some (.D0 id sz lo len::ws) else
    match rd H id lo (len * sz) with
    |some us=>match bI H n fuel us with
     |some us' =>match L7 us' with
      |some xs=>some (.d (.slice len xs)::ws)
      |none=>none
     |none=>none
    |none=>none
   | .agg l=>match bI H n fuel l with
    |some l' =>some (.agg l' ::ws)
    |none=>none
   | .tuple l=>match bI H n fuel l with
    |some l' =>some (.tuple l' ::ws)
    |none=>none
   |v=>some (v::ws)
structure Prog where
 fn:FuncId->Option q5
 idle:FuncId->Bool
 mode:FuncId->Nat
 ga:FuncId->Option (List b6->o6->F9->Option (b6×o6))
def Prog.prom (A:Prog)(f:FuncId):Bool:=match A.fn f with
 |some af=>af.an
 |none=>false
def finish (an:Bool)(n:Nat)(vs:List b6)(H:o6):Option (b6×o6) :=
 if an then some (b9 vs,H) else
 match bI H n 1000 [b9 vs] with
 |some [v]=>if v.M3<=n then some (v,H.take n) else none
 |_=>none
def fQ (A:Prog)(cf:oL)(lim:Nat)(af:q5)(args:List b6)(H:o6)(l:F9):Option (b6×o6) :=
 if args.length=af.nparams then
  match exec ⟨cf,A.prom,A.mode,A.idle,l,H.length⟩ lim af.body ⟨args++c9 (af.names.length - args.length) .any,H⟩ with
  |some (.exit _,_)=>none
  |some (_,st) =>
   match bF st.T st.H af.results with
   |some vs=>finish af.an H.length vs st.H
   |none=>none
  |none=>none
 else none
def call (A:Prog):Nat->oL
 |0=>fun _ _ _ _=>none
 |n+1=>fun f args H l =>
  match A.ga f with
  |some p=>p args H l
  |none=>match A.fn f with
   |some af=>fQ A (call A n) n af args H l
   |none=>none
inductive Place where
 |slot (s:Nat)
 |loc (j:Nat)
 |cell (id off:Nat)
 |none
 |ret
 deriving DecidableEq
inductive Kb where
 |free
 |jz
 |held (n:Nat)
 |obj (id:Nat)
 |grow (n:Nat) (pl:Place)
 deriving DecidableEq
abbrev Gh:=Nat->Kb
abbrev Q9:=Nat->Nat×Nat
def iH (G:Gh)(b o:Nat):Prop :=
 match G b with
 | .jz=>True
 | .held n=>o<n
 | .grow n _=>o<n
 |_=>False
abbrev ad (b o:Nat):Addr:=⟨b,o,Option.none⟩
mutual
def DR (G:Gh)(w:World):Data->Value->Prop
 | .bool b,v=>v= .bool b
 | .int k n,v=>v= .int k n
 | .str s,v=>v= .string ⟨s.toArray⟩
 | .slice len cells,v=>((v= .slice Option.none 0 0\/∃ a,v= .slice (some a) 0 0)/\len=0/\cells=[]) \/
   ∃ b o cap,v= .slice (some (ad b o)) len cap/\len<=cap/\dw G w b o cells
 | .bN,v=>v= .pointer Option.none
 | .M5,v=>v= .nilFunc
 | .dY,v=>v= .map Option.none
 | .nilIface,v=>v= .nilIface
def dw (G:Gh)(w:World)(b:Nat):Nat->List Data->Prop
 |_,[]=>True
 |o,c::cs=>iH G b o/\(∃ x,w.cell? (ad b o)=some x/\DR G w c x)/\dw G w b (o+1) cs
end
def FM (f:Nat×Nat)(n:Nat):Prop:=∀ o,o<n->¬ (f.1<=o/\o<f.2)
mutual
def VR (G:Gh)(I:Q9)(N:Nat->Prop)(w:World):Place->b6->Value->Prop
 |_,.any,_=>True
 |_,.d x,v=>DR G w x v
 |_,.ptr id off,v=>N id/\v= .pointer (some (ad (I id).1 ((I id).2+off)))
 |_,.P9 cells,v=>∃ b o,v= .pointer (some (ad b o))/\dw G w b o cells
 |_,.D0 id sz lo len,v=>N id/\∃ cap,v= .slice (some (ad (I id).1 ((I id).2+lo))) len cap/\len<=cap /\
   ∃ c e f,w.heap[(I id).1]? =some (.cells c e f)/\(I id).2+lo+cap * sz<=c.size
 |pl,.own sz len cells,v=>cells.length=len * sz /\
   (((v= .slice Option.none 0 0\/∃ b o,v= .slice (some (ad b o)) 0 0)/\len=0) \/
    (pl≠ .none/\∃ b o cap c e f,v= .slice (some (ad b o)) len cap/\len<=cap/\w.heap[b]? =some (.cells c e f)/\o+cap * sz<=c.size/\FM f c.size /\
     G b= .grow (o+len * sz) pl/\dw G w b o cells))
 |_,.I5,v=>v= .slice Option.none 0 0
 |_,.agg l,v=>∃ cs:Array Value,v= .agg cs/\F1 G I N w l cs.toList
 |_,.tuple l,v=>∃ cs:Array Value,v= .tuple cs/\F1 G I N w l cs.toList
 |_,.func f a b,v=>∃ x y:Array Value,v= .func (.func f) x y/\F1 G I N w a x.toList/\F1 G I N w b y.toList
 |_,.map id,v=>N id/\v= .map (some (I id).1)
def F1 (G:Gh)(I:Q9)(N:Nat->Prop)(w:World):List b6->List Value->Prop
 |[],vs=>vs=[]
 |a::as,vs=>∃ x xs,vs=x::xs/\VR G I N w .none a x/\F1 G I N w as xs
end
def ER (G:Gh)(I:Q9)(N:Nat->Prop)(w:World):List (Data×b6)->List MapEntry->Prop
 |[],es=>es=[]
 |(k,v)::r,es=>∃ e es',es=e::es' /\DR G w k e.key/\VR G I N w .none v e.val/\ER G I N w r es'
def OR (G:Gh)(I:Q9)(N:Nat->Prop)(w:World)(id:Nat):u5->Prop
 | .dead=>True
 | .cells l=>N id/\∃ c e f,w.heap[(I id).1]? =some (.cells c e f)/\G (I id).1= .obj id/\FM f c.size/\(I id).2+l.length<=c.size /\
   ∀ i x,l[i]? =some x->∃ v,c[(I id).2+i]? =some v/\VR G I N w (.cell id i) x v
 | .map es=>N id/\∃ arr Cz,w.heap[(I id).1]? =some (.map arr Cz)/\G (I id).1= .obj id/\ER G I N w es arr.toList
def HR (G:Gh)(I:Q9)(N:Nat->Prop)(w:World)(H:o6):Prop:=∀ id o,H[id]? =some o->OR G I N w id o
def WF (G:Gh)(w:World):Prop:=∀ b,w.heap.size<=b->G b= .free
structure Sub (G:Gh)(w:World)(G' :Gh)(w' :World):Prop where
 jz:∀ b o:Nat,iH G b o->iH G' b o/\w'.cell? (ad b o)=w.cell? (ad b o)
 shape:∀ (b:Nat) (c:Array Value) (e:TypeId) (f:Nat×Nat),w.heap[b]? =some (Obj.cells c e f)->∃ c' :Array Value,w'.heap[b]? =some (Obj.cells c' e f)/\c'.size=c.size
structure Ext (G:Gh)(w:World)(G' :Gh)(w' :World):Prop where
 os:w'.os=w.os
 tape:w'.tape=w.tape
 output:w'.output=w.output
 size:w.heap.size<=w'.heap.size
 jz:∀ b o:Nat,iH G b o->iH G' b o/\w'.cell? (ad b o)=w.cell? (ad b o)
 still:∀ b:Nat,(G b= .jz\/∃ n,G b= .held n)->G' b=G b/\w'.heap[b]? =w.heap[b]?
 shape:∀ (b:Nat) (c:Array Value) (e:TypeId) (f:Nat×Nat),w.heap[b]? =some (Obj.cells c e f)->∃ c' :Array Value,w'.heap[b]? =some (Obj.cells c' e f)/\c'.size=c.size
theorem Ext.sub {G:Gh}{w:World}{G' :Gh}{w' :World}(h:Ext G w G' w'):Sub G w G' w' :=⟨h.jz,h.shape⟩
instance {G:Gh} {w:World} {G' :Gh} {w' :World}:CoeOut (Ext G w G' w') (Sub G w G' w'):=⟨Ext.sub⟩
theorem Ext.refl (G:Gh)(w:World):Ext G w G w :=
 ⟨rfl,rfl,rfl,l5 _,fun _ _ h=>⟨h,rfl⟩,fun _ _=>⟨rfl,rfl⟩,fun _ c _ _ h=>⟨c,h,rfl⟩⟩
theorem Ext.trans {G:Gh}{w:World}{G1:Gh}{w1:World}{G2:Gh}{w2:World}(h:Ext G w G1 w1)(k:Ext G1 w1 G2 w2):Ext G w G2 w2 where
 os:=k.os.trans h.os
 tape:=k.tape.trans h.tape
 output:=k.output.trans h.output
 size:=Nat.le_trans h.size k.size
 jz b o hi:=by
  obtain ⟨a1,a2⟩:=h.jz b o hi;obtain ⟨b1,b2⟩:=k.jz b o a1;exact ⟨b1,b2.trans a2⟩
 still b hb:=by
  obtain ⟨a1,a2⟩:=h.still b hb;obtain ⟨b1,b2⟩:=k.still b (by rw [a1];exact hb);exact ⟨b1.trans a1,b2.trans a2⟩
 shape b c e f hc:=by
  obtain ⟨c1,h1,s1⟩:=h.shape b c e f hc;obtain ⟨c2,h2,s2⟩:=k.shape b c1 e f h1;exact ⟨c2,h2,s2.trans s1⟩
theorem Ext.drew {G:Gh}{w:World}{G' :Gh}{w' :World}(h:Ext G w G' w')(n:Nat):Ext G w G' { w' with drawn:=n } :=
 ⟨h.os,h.tape,h.output,h.size,h.jz,h.still,h.shape⟩
mutual
theorem DR.mono {G:Gh}{w:World}{G' :Gh}{w' :World}
  (h:∀ b o,iH G b o->iH G' b o/\w'.cell? (ad b o)=w.cell? (ad b o)):∀ (d:Data) (v:Value),DR G w d v->DR G' w' d v
 | .bool _,_,hd=>by simpa [DR] using hd
 | .int _ _,_,hd=>by simpa [DR] using hd
 | .str _,_,hd=>by simpa [DR] using hd
 | .slice _ cells,_,hd=>by
  simp only [DR] at hd ⊢
  rcases hd with hd|⟨b,o,cap,h1,h2,h3⟩
  ·exact Or.inl hd
  ·exact Or.inr ⟨b,o,cap,h1,h2,dw.mono h b o cells h3⟩
 | .bN,_,hd=>by simpa [DR] using hd
 | .M5,_,hd=>by simpa [DR] using hd
 | .dY,_,hd=>by simpa [DR] using hd
 | .nilIface,_,hd=>by simpa [DR] using hd
theorem dw.mono {G:Gh}{w:World}{G' :Gh}{w' :World}
  (h:∀ b o,iH G b o->iH G' b o/\w'.cell? (ad b o)=w.cell? (ad b o)) (b:Nat):∀ (o:Nat) (l:List Data),dw G w b o l->dw G' w' b o l
 |_,[],_=>by simp [dw]
 |o,c::cs,hd=>by
  simp only [dw] at hd ⊢;obtain ⟨h1,⟨x,h2,h3⟩,h4⟩:=hd;obtain ⟨i1,i2⟩:=h b o h1;exact ⟨i1,⟨x,i2.trans h2,DR.mono h c x h3⟩,dw.mono h b (o+1) cs h4⟩
end
def ay (pl:Place)(G:Gh)(w:World)(G' :Gh)(w' :World):Prop :=
 ∀ b n,G b= .grow n pl->G' b= .grow n pl/\w'.heap[b]? =w.heap[b]?
mutual
theorem VR.mono {G:Gh}{I:Q9}{N:Nat->Prop}{w:World}{G' :Gh}{I' :Q9}{N' :Nat->Prop}{w' :World}(hx:Sub G w G' w')
  (hI:∀ id,N id->I' id=I id) (hN:∀ id,N id->N' id):∀ (pl:Place) (a:b6) (v:Value),(pl= .none\/ay pl G w G' w')->VR G I N w pl a v->VR G' I' N' w' pl a v
 |_,.any,_,_,_=>by simp [VR]
 |_,.d x,v,_,h=>by simp only [VR] at h ⊢;exact DR.mono hx.jz x v h
 |_,.ptr id off,v,_,h=>by
  simp only [VR] at h ⊢;exact ⟨hN id h.1,by rw [hI id h.1];exact h.2⟩
 |_,.P9 cells,v,_,h=>by
  simp only [VR] at h ⊢;obtain ⟨b,o,h1,h2⟩:=h;exact ⟨b,o,h1,dw.mono hx.jz b o cells h2⟩
 |_,.D0 id sz lo len,v,_,h=>by
  simp only [VR] at h ⊢;obtain ⟨h1,cap,h2,h3,c,e,f,h4,h5⟩:=h;obtain ⟨c',g1,g2⟩:=hx.shape _ c e f h4;exact ⟨hN id h1,cap,by rw [hI id h1];exact h2,h3,c',e,f,by rw [hI id h1];exact g1,by rw [hI id h1,g2];exact h5⟩
 |pl,.own sz len cells,v,hk,h=>by
  simp only [VR] at h ⊢;obtain ⟨h0,h⟩:=h;refine ⟨h0,?_⟩
  rcases h with h|⟨hp,b,o,cap,c,e,f,h1,h2,h3,h4,h5,h6,h7⟩
  ·exact Or.inl h
  ·rcases hk with hk|hk
   ·exact absurd hk hp
   ·obtain ⟨k1,k2⟩:=hk b _ h6
    exact Or.inr ⟨hp,b,o,cap,c,e,f,h1,h2,k2.trans h3,h4,h5,k1,dw.mono hx.jz b o cells h7⟩
 |_,.I5,v,_,h=>by simp only [VR] at h ⊢;exact h
 |_,.agg l,v,_,h=>by
  simp only [VR] at h ⊢;obtain ⟨cs,h1,h2⟩:=h;exact ⟨cs,h1,F1.mono hx hI hN l _ h2⟩
 |_,.tuple l,v,_,h=>by
  simp only [VR] at h ⊢;obtain ⟨cs,h1,h2⟩:=h;exact ⟨cs,h1,F1.mono hx hI hN l _ h2⟩
 |_,.func f a b,v,_,h=>by
  simp only [VR] at h ⊢;obtain ⟨x,y,h1,h2,h3⟩:=h;exact ⟨x,y,h1,F1.mono hx hI hN a _ h2,F1.mono hx hI hN b _ h3⟩
 |_,.map id,v,_,h=>by
  simp only [VR] at h ⊢;exact ⟨hN id h.1,by rw [hI id h.1];exact h.2⟩
theorem F1.mono {G:Gh}{I:Q9}{N:Nat->Prop}{w:World}{G' :Gh}{I' :Q9}{N' :Nat->Prop}{w' :World}(hx:Sub G w G' w')
  (hI:∀ id,N id->I' id=I id) (hN:∀ id,N id->N' id):∀ (l:List b6) (vs:List Value),F1 G I N w l vs->F1 G' I' N' w' l vs
 |[],_,h=>by simpa [F1] using h
 |a::as,vs,h=>by
  simp only [F1] at h ⊢;obtain ⟨x,xs,h1,h2,h3⟩:=h;exact ⟨x,xs,h1,VR.mono hx hI hN .none a x (Or.inl rfl) h2,F1.mono hx hI hN as xs h3⟩
end
theorem ER.mono {G:Gh}{I:Q9}{N:Nat->Prop}{w:World}{G' :Gh}{I' :Q9}{N' :Nat->Prop}{w' :World}(hx:Sub G w G' w')
  (hI:∀ id,N id->I' id=I id) (hN:∀ id,N id->N' id):∀ (l:List (Data×b6)) (es:List MapEntry),ER G I N w l es->ER G' I' N' w' l es
 |[],_,h=>by simpa [ER] using h
 |(k,v)::r,es,h=>by
  simp only [ER] at h ⊢;obtain ⟨e,es',h1,h2,h3,h4⟩:=h;exact ⟨e,es',h1,DR.mono hx.jz _ _ h2,VR.mono hx hI hN .none _ _ (Or.inl rfl) h3,ER.mono hx hI hN r es' h4⟩
theorem OR.mono {G:Gh}{I:Q9}{N:Nat->Prop}{w:World}{G' :Gh}{I' :Q9}{N' :Nat->Prop}{w' :World}(hx:Sub G w G' w')
  (hI:∀ id,N id->I' id=I id) (hN:∀ id,N id->N' id) (id:Nat) (o:u5)
  (hb:G (I id).1= .obj id->G' (I id).1= .obj id/\w'.heap[(I id).1]? =w.heap[(I id).1]?)
  (hc:∀ off,ay (.cell id off) G w G' w') (h:OR G I N w id o):OR G' I' N' w' id o:=by
 cases o with
 |dead=>simp [OR]
 |cells l =>
  simp only [OR] at h ⊢;obtain ⟨hid,c,e,f,h1,h2,h3,h4,h5⟩:=h;obtain ⟨k1,k2⟩:=hb h2;refine ⟨hN id hid,c,e,f,?_,?_,h3,?_,fun i x hx' => ?_⟩
  ·rw [hI id hid,k2];exact h1
  ·rw [hI id hid];exact k1
  ·rw [hI id hid];exact h4
  ·obtain ⟨v,g1,g2⟩:=h5 i x hx'
   exact ⟨v,by rw [hI id hid];exact g1,VR.mono hx hI hN _ x v (Or.inr (hc i)) g2⟩
 |map es =>
  simp only [OR] at h ⊢;obtain ⟨hid,arr,Cz,h1,h2,h3⟩:=h;obtain ⟨k1,k2⟩:=hb h2;exact ⟨hN id hid,arr,Cz,by rw [hI id hid,k2];exact h1,by rw [hI id hid];exact k1,ER.mono hx hI hN es _ h3⟩
theorem VR.F2 {G:Gh}{I:Q9}{N:Nat->Prop}{w:World}{pl tX :Place}:∀ {a:b6} {v:Value},VR G I N w pl a v->VR G I N w tX a.F2 v
 | .any,_,_=>by simp [b6.F2,VR]
 | .d _,_,h=>by simpa [b6.F2,VR] using h
 | .ptr _ _,_,h=>by simpa [b6.F2,VR] using h
 | .P9 _,_,h=>by simpa [b6.F2,VR] using h
 | .D0 _ _ _ _,_,h=>by simpa [b6.F2,VR] using h
 | .own sz len cells,v,h=>by
  simp only [b6.F2,VR,DR] at h ⊢;obtain ⟨h0,h⟩:=h
  rcases h with ⟨h1,h2⟩|⟨hp,b,o,cap,c,e,f,h1,h2,h3,h4,h5,h6,h7⟩
  ·subst h2
   have hc:cells=[]:=by simpa using h0
   subst hc
   rcases h1 with h1|⟨b,o,h1⟩
   ·exact Or.inl ⟨Or.inl h1,rfl,rfl⟩
   ·exact Or.inr ⟨b,o,0,h1,l5 _,by simp [dw]⟩
  ·exact Or.inr ⟨b,o,cap,h1,h2,h7⟩
 | .I5,v,h=>by
  simp only [b6.F2,VR,DR] at h ⊢;exact Or.inl ⟨Or.inl h,trivial,trivial⟩
 | .agg _,_,h=>by simpa [b6.F2,VR] using h
 | .tuple _,_,h=>by simpa [b6.F2,VR] using h
 | .func _ _ _,_,h=>by simpa [b6.F2,VR] using h
 | .map _,_,h=>by simpa [b6.F2,VR] using h
theorem VR.Lv {G:Gh}{I:Q9}{N:Nat->Prop}{w:World}{pl tX :Place}{a:b6}{v:Value}(h:VR G I N w pl a v):VR G I N w tX a.Lv v:=by
 cases a
 case I5=>simpa only [b6.Lv,VR] using h
 all_goals exact h.F2
theorem LX {u:b6}(h:u.F2=u):u.Lv=u:=by
 cases u
 case I5=>simp [b6.F2] at h
 all_goals exact h
def AN:Value->b6->Bool
 |_,.any=>true
 | .bool b,.d (.bool c)=>b==c
 | .int k n,.d (.int k' n')=>k==k' &&n==n'
 | .string s,.d (.str l)=>s.data.toList==l
 | .slice Option.none 0 0,.own _ 0 []=>true
 | .slice Option.none 0 0,.I5=>true
 | .slice Option.none 0 0,.d (.slice 0 [])=>true
 | .pointer Option.none,.d .bN=>true
 | .map Option.none,.d .dY=>true
 | .nilFunc,.d .M5=>true
 | .nilIface,.d .nilIface=>true
 |_,_=>false
def consts:List Value->List b6->Bool
 |[],[]=>true
 |v::vs,a::as=>AN v a&&consts vs as
 |_,_=>false
def uf:Value->b6->Bool
 | .agg cs,.agg l=>consts cs.toList l
 |v,a=>AN v a
structure Cx where
 P:Program
 names:List Tmp
 ops:Array Oper
def Cx.ck (X:Cx)(D:Nat->Bool):Operand->r8->Bool
 | .tmp t,.slot s=>X.names[s]? ==some t
 | .tmp t,.loc j=>D j&&((X.ops[j]?).bind (·.dst))==some t&& !X.names.contains t
 | .const v,.const a=>uf v a
 | .func f,.const (.func g [] [])=>f==g
 |_,.const .any=>true
 |_,_=>false
def LV (ck:Operand->r8->Bool):List Operand->List r8->Bool
 |[],[]=>true
 |x::xs,y::ys=>ck x y&&LV ck xs ys
 |_,_=>false
def Py (ck:Operand->r8->Bool):Option Operand->Option r8->Bool
 |none,none=>true
 |some x,some y=>ck x y
 |_,_=>false
def dW (P:Program)(t:TypeId):Option Bool :=
 match P.underlying t with
 |some (.struct _)=>some true
 |some (.array _ _)=>some true
 |some _=>some false
 |none=>none
def ox (P:Program)(t:TypeId):Option Nat->Bool
 |none=>dW P t==some false
 |some n=>dW P t==some true&&P.cellsOf t==n&&decide (0<n)
def kZ (P:Program)(t:TypeId)(sz:Nat):Bool :=
 match P.underlying t with
 |some (.slice e)=>P.cellsOf e==sz&&(P.info? e).isSome
 |_=>false
def bp (P:Program)(t:TypeId):CK->Bool
 | .i=>match P.underlying t with
  |some (.int _)=>true
  |_=>false
 | .s=>match P.underlying t with
  |some .string=>true
  |_=>false
 | .b=>match P.underlying t with
  |some .bool=>true
  |_=>false
def dV (P:Program):List Field->Nat->List CK->Bool
 |[],_,[]=>true
 | f :: fs, n, k :: ks => f.name != "_" && bp P f.type k && f.offset == n && dV P fs (n + 1) ks
 |_,_,_=>false
def vm (P:Program)(t:TypeId)(ks:List CK):Bool :=
 match P.underlying t with
 |some (.struct fs)=>dV P fs.toList 0 ks&& !P.stoodInHeld t&& !P.eqGuardType P.depth t
 |_=>false
def gN (P:Program)(ck:Operand->r8->Bool)(place:Nat->Option (Nat×Nat)):List (Nat×Operand)->List (Nat×Nat×r8)->Bool
 |[],[]=>true
 |(i,x)::r,(off,sz,y)::q=>place i==some (off,sz)&&ck x y&&gN P ck place r q
 |_,_=>false
def sN (P:Program)(fs:List Field):Option (List (Nat×Nat)):=fs.mapM fun f=>(P.info? f.type).map fun i=>(f.offset,i.size)
def xD (P:Program)(t:TypeId)(l:List b6):Bool :=
 match P.info? t with
 |some i=>match i.zero with
  |some z=>consts z.cells.toList l
  |none=>false
 |none=>false
def A0 (P:Program)(ck:Operand->r8->Bool)(o:Oper)(op:s9):Bool :=
 match o.op,op with
 | .pick c a b,.pick c' a' b' =>ck c c' &&ck a a' &&ck b b'
 | .load t x,.load n y=>ck x y&&ox P t n
 | .nilCheck x,.Y5 y=>ck x y
 | .binOp b _ x y _,.bin b' x' y' =>b==b' &&ck x x' &&ck y y'
 | .binOp b t x (.const (.slice Option.none 0 0)) _,.Bl neg x' =>ck x x' &&(match P.underlying t with|some (.slice _)=>true|_=>false)&&(if neg then b== .neq else b== .eql)
 | .binOp b t x (.const .nilIface) _,.GD neg x' =>ck x x' &&(match P.underlying t with|some (.interface _)=>true|_=>false)&&(if neg then b== .neq else b== .eql)
 | .binOp b t x y _,.o8 neg x' y' =>ck x x' &&ck y y' &&(match P.underlying t with|some .bool=>true|_=>false)&&(if neg then b== .neq else b== .eql)
 | .binOp b t x y _,.Lw neg ks x' y' =>ck x x' &&ck y y' &&vm P t ks&&(if neg then b== .neq else b== .eql)
 | .unOp b _ x,.un b' x' =>b==b' &&ck x x'
 | .convert s d x,.ki k y=>ck x y&&(P.underlying s).isSome&&(match P.underlying d with|some (.int k')=>k==k' |_=>false)
 | .convert s d x,.nY y=>ck x y&&(P.underlying s).isSome&&(match P.underlying d with|some .string=>true|_=>false)
 | .convert s d x,.iq y=>ck x y&&(match P.underlying s with|some (.slice e)=>(match P.underlying e with|some (.int .u8)=>true|_=>false)|_=>false)&&(match P.underlying d with|some .string=>true|_=>false)
 | .slice t x lo hi none,.oE y lo' hi' =>ck x y&&Py ck lo lo' &&Py ck hi hi' &&(match P.underlying t with|some .string=>true|_=>false)
 | .slice t x lo hi none,.aE sz y lo' hi' =>ck x y&&Py ck lo lo' &&Py ck hi hi' &&kZ P t sz&&decide (0<sz)
 | .fieldAddr s x f,.off k y=>ck x y&&(match P.underlying s with
  |some (.struct fs)=>(match fs[f]? with
   |some fd=>fd.offset==k&&decide (0<P.cellsOf fd.type)
   |none=>false)
  |_=>false)
 | .indexAddr t x i,.B7 sz y j=>ck x y&&ck i j&&kZ P t sz
 | .indexAddr t x i,.fy n sz y j=>ck x y&&ck i j&&(match P.underlying t with|some (.array m e)=>m==n&&P.cellsOf e==sz&&(P.info? e).isSome|_=>false)
 | .index t x i,.A8 y j=>ck x y&&ck i j&&(match P.underlying t with|some .string=>true|_=>false)
 | .extract x i,.extract y j=>ck x y&&i==j
 | .call { callee:= .builtin .len,args,argTypes },.len y=>(match args[0]?,argTypes[0]? with
  |some x,some t=>ck x y&&(match P.underlying t with|some (.slice _)=>true|_=>false)
  |_,_=>false)
 | .call { callee:= .builtin .len,args,argTypes },.U0 y=>(match args[0]?,argTypes[0]? with
  |some x,some t=>ck x y&&(match P.underlying t with|some .string=>true|_=>false)
  |_,_=>false)
 | .call { callee:= .builtin .len,args,argTypes },.Bh y=>(match args[0]?,argTypes[0]? with
  |some x,some t=>ck x y&&(match P.underlying t with|some (.map _ _)=>true|_=>false)
  |_,_=>false)
 | .call { callee:= .builtin .max,args,.. },.eY true ys=>LV ck args.toList ys&&decide (2<=ys.length)
 | .call { callee:= .builtin .min,args,.. },.eY false ys=>LV ck args.toList ys&&decide (2<=ys.length)
 | .makeFunc (.func f) first caps,.X8 g first' WW =>f==g&&LV ck first.toList first' &&LV ck caps.toList WW
 | .lookup t m k ok,.lookup kk zero MV m' k' =>ok==MV &&ck m m' &&ck k k' &&(match P.underlying t with
  |some (.map kt et)=>bp P kt kk&&(match P.info? et with
   |some i=>(match i.zero with
    |some z=>uf z zero
    |none=>false)
   |none=>false)
  |_=>false)
 | .build t parts,.build zero ps=>(match P.underlying t with
  |some (.struct fs)=>(match sN P fs.toList with
   |some places=>xD P t zero&&gN P ck (fun i=>places[i]?) parts.toList ps
   |none=>false)
  |some (.array _ e)=>(match P.info? e with
   |some i=>xD P t zero&&gN P ck (fun j=>some (j * i.size,i.size)) parts.toList ps
   |none=>false)
  |_=>false)
 |_,_=>false
theorem oZ {G:Gh}{I:Q9}{N:Nat->Prop}{w:World}:∀ (v:Value) (a:b6),AN v a=true->VR G I N w .none a v:=by
 intro v a h;unfold AN at h;split at h
 all_goals first
  |(simp [VR];done)
  |(exfalso;simp at h;done)
  |(simp only [VR,DR];done)
  |(simp only [VR,DR];simp_all;done)
  |skip
 ·rename_i s l
  simp only [VR,DR];have:s.data.toList=l:=by simpa using h
  subst this;simp
theorem cI {G:Gh}{I:Q9}{N:Nat->Prop}{w:World}:∀ (vs:List Value) (l:List b6),consts vs l=true->F1 G I N w l vs
 |[],[],_=>by simp [F1]
 |v::vs,a::as,h=>by
  simp only [consts,b5] at h;simp only [F1];exact ⟨v,vs,rfl,oZ v a h.1,cI vs as h.2⟩
 |[],_::_,h=>by simp [consts] at h
 |_::_,[],h=>by simp [consts] at h
theorem aZ {G:Gh}{I:Q9}{N:Nat->Prop}{w:World}(v:Value)(a:b6)(h:uf v a=true):VR G I N w .none a v:=by
 unfold uf at h;split at h
 ·rename_i cs l
  simp only [VR];exact ⟨cs,rfl,cI _ _ h⟩
 ·exact oZ _ _ h
theorem R9 {w:World}{b:Nat}{c:Array Value}{e:TypeId}{f:Nat×Nat}(h:w.heap[b]? =some (.cells c e f))(o:Nat):w.cell? (ad b o)=c[o]? :=by
 simp [World.cell?,h]
theorem Y8 (b o n:Nat):(ad b o).add n=ad b (o+n):=by
 unfold Addr.add;split
 ·subst_vars;rfl
 ·rfl
theorem dw.drop {G:Gh}{w:World}{b:Nat}:∀ (n o:Nat) (l:List Data),dw G w b o l->dw G w b (o+n) (l.drop n)
 |0,_,_,h=>by simpa using h
 |n+1,o,[],_=>by simp [dw]
 |n+1,o,c::cs,h=>by
  simp only [dw] at h;have:=dw.drop n (o+1) cs h.2.2;rw [List.drop_succ_cons,show o+(n+1)=o+1+n from by omega];exact this
theorem dw.take {G:Gh}{w:World}{b:Nat}:∀ (n o:Nat) (l:List Data),dw G w b o l->dw G w b o (l.take n)
 |0,_,_,_=>by simp [dw]
 |n+1,o,[],_=>by simp [dw]
 |n+1,o,c::cs,h=>by
  simp only [dw] at h;rw [List.take_succ_cons];simp only [dw];exact ⟨h.1,h.2.1,dw.take n (o+1) cs h.2.2⟩
theorem dw.vals {G:Gh}{I:Q9}{N:Nat->Prop}{w:World}{b:Nat}:∀ (o:Nat) (l:List Data),dw G w b o l ->
  ∃ vs:List Value,vs.length=l.length/\(∀ j v,vs[j]? =some v->w.cell? (ad b (o+j))=some v)/\F1 G I N w (l.map .d) vs
 |_,[],_=>⟨[],rfl,by simp,by simp [F1]⟩
 |o,c::cs,h=>by
  simp only [dw] at h;obtain ⟨h1,⟨x,h2,h3⟩,h4⟩:=h;obtain ⟨vs,g1,g2,g3⟩:=dw.vals (I:=I) (N:=N) (o+1) cs h4;refine ⟨x::vs,by simp [g1],fun j v hj=> ?_,?_⟩
  ·cases j with
   |zero=>simp at hj;subst hj;exact h2
   |succ j =>
    simp at hj;have:=g2 j v hj;rw [show o+(j+1)=o+1+j from by omega];exact this
  ·simp only [G7,F1]
   exact ⟨x,vs,rfl,by simpa [VR] using h3,g3⟩
theorem F1.length {G:Gh}{I:Q9}{N:Nat->Prop}{w:World}:∀ (l:List b6) (vs:List Value),F1 G I N w l vs->vs.length=l.length
 |[],vs,h=>by simp [F1] at h;simp [h]
 |a::as,vs,h=>by
  simp only [F1] at h;obtain ⟨x,xs,h1,_,h3⟩:=h;subst h1;simp [F1.length as xs h3]
theorem HR.rd {G:Gh}{I:Q9}{N:Nat->Prop}{w:World}{H:o6}(hH:HR G I N w H){id off n:Nat}{vs:List b6}(h:rd H id off n=some vs)(hn:0<n) :
  N id/\∃ xs:List Value,xs.length=n/\vs.length=n/\(∀ j v,xs[j]? =some v->w.cell? (ad (I id).1 ((I id).2+off+j))=some v) /\
   (∀ j a v,vs[j]? =some a->xs[j]? =some v->VR G I N w (.cell id (off+j)) a v):=by
 unfold u7.rd at h;split at h
 ·rename_i l hl
  split at h
  ·rename_i hlen
   cases h;have ho:=hH id _ hl;simp only [OR] at ho;obtain ⟨hid,c,e,f,h1,h2,h3,h4,h5⟩:=ho
   ·refine ⟨hid,(List.range n).map (fun j=>(c[(I id).2+off+j]?).getD default),by simp,by simp;omega,fun j v hj=> ?_,fun j a v ha hv=> ?_⟩
    ·rw [R9 h1]
     have hjn:j<n:=by
      rcases p7 j n with h|h
      ·exact h
      ·simp [h] at hj
     simp [hjn] at hj;have hlt:(I id).2+off+j<c.size:=by omega
     simp [hlt] at hj ⊢;exact hj
    ·have hjn:j<n:=by
      rcases p7 j n with h|h
      ·exact h
      ·simp [h] at hv
     have hla:l[off+j]? =some a:=by
      rw [List.getElem?_take_of_lt hjn,List.getElem?_drop] at ha;exact ha
     obtain ⟨u,g1,g2⟩:=h5 (off+j) a hla;simp [hjn] at hv;have e1:(I id).2+(off+j)=(I id).2+off+j:=by omega
     rw [e1] at g1;rw [g1] at hv;simp at hv;subst hv;exact g2
  ·cases h
 ·cases h
section
variable {P:Program} {w:World}
theorem info_of_underlying {t:TypeId}{d:TypeDesc}(h:P.underlying t=some d):(P.info? t).isSome=true:=by
 unfold Program.underlying at h;split at h<;>simp_all
theorem run_sizeOf {t:TypeId}(h:(P.info? t).isSome=true):(sizeOf t).run P w= .ok (P.cellsOf t) w:=by
 cases hi:P.info? t with
 |none=>simp [hi] at h
 |some i=>simp [sizeOf,typeInfo,hi,Program.cellsOf]
theorem cu {t:TypeId}{b:Bool}(h:dW P t=some b):(isAgg t).run P w= .ok b w:=by
 unfold dW at h;cases hu:P.underlying t with
 |none=>simp [hu] at h
 |some d=>cases d<;>simp [hu] at h<;>subst h<;>simp [isAgg,run_underlying hu]
theorem fU {t:TypeId}{sz:Nat}(h:kZ P t sz=true):∃ e,P.underlying t=some (.slice e)/\P.cellsOf e=sz/\(P.info? e).isSome=true:=by
 unfold kZ at h;split at h
 ·rename_i e he
  simp at h;exact ⟨e,he,h.1,h.2⟩
 ·cases h
theorem O6 {G:Gh}{I:Q9}{N:Nat->Prop}:∀ (l:List b6) (xs:List Value),xs.length=l.length ->
  (∀ (j:Nat) a v,l[j]? =some a->xs[j]? =some v->VR G I N w .none a v)->F1 G I N w l xs
 |[],xs,h,_=>by simp at h;simp [F1,h]
 |a::as,[],h,_=>by simp at h
 |a::as,x::xs,h,hp=>by
  simp only [F1];exact ⟨x,xs,rfl,hp 0 a x rfl rfl,O6 as xs (by simpa using h) fun j a' v ha hv=>hp (j+1) a' v (by simpa using ha) (by simpa using hv)⟩
theorem F1.get {G:Gh}{I:Q9}{N:Nat->Prop}:∀ (l:List b6) (xs:List Value),F1 G I N w l xs->∀ (j:Nat) a,l[j]? =some a->∃ v,xs[j]? =some v/\VR G I N w .none a v
 |[],_,_,_,_,h=>by simp at h
 |a::as,xs,h,j,b,hb=>by
  simp only [F1] at h;obtain ⟨x,xs',h1,h2,h3⟩:=h;subst h1;cases j with
  |zero=>simp at hb;subst hb;exact ⟨x,rfl,h2⟩
  |succ j=>simpa using F1.get as xs' h3 j b (by simpa using hb)
theorem VR.place {G:Gh}{I:Q9}{N:Nat->Prop}{a:b6}{x:Value}{pl:Place}(h:VR G I N w .none a x):VR G I N w pl a x:=by
 cases a with
 |own sz len cells =>
  simp only [VR] at h ⊢;obtain ⟨h0,h⟩:=h;refine ⟨h0,?_⟩
  rcases h with h|⟨h,_⟩
  ·exact Or.inl h
  ·exact absurd rfl h
 |_=>first|(simp only [VR] at h ⊢;exact h)|(simp only [VR])
variable {ck:Operand->r8->Bool} {η:Operand->Value} {ρ:r8->b6} {G:Gh} {I:Q9} {N:Nat->Prop} {H:o6}
abbrev Good (P:Program)(G:Gh)(I:Q9)(N:Nat->Prop)(w:World)(η:Operand->Value)(o:Oper)(v:b6):Prop :=
 ∃ x,(execOp η o).run P w= .ok (.value x) w/\VR G I N w .none v x
abbrev aa (ck:Operand->r8->Bool)(G:Gh)(I:Q9)(N:Nat->Prop)(w:World)(η:Operand->Value)(ρ:r8->b6):Prop :=
 ∀ x y,ck x y=true->VR G I N w .none (ρ y) (η x)
theorem KW (hρ:aa ck G I N w η ρ){o:Oper}{c a b:r8}(hc:A0 P ck o (.pick c a b)=true){v:b6}{rs:List Nat}
  (h:k9 ρ H (.pick c a b)=some (v,rs)):Good P G I N w η o v:=by
 obtain ⟨dst,bt,ty,pos,after,guard⟩:=o;cases bt<;>simp [A0] at hc;rename_i c' a' b';have h1:=hρ _ _ hc.1.1;have h2:=hρ _ _ hc.1.2;have h3:=hρ _ _ hc.2;simp only [k9] at h;split at h
 ·rename_i t ht
  simp at h;obtain ⟨rfl,rfl⟩:=h;rw [ht] at h1;simp only [VR,DR] at h1;refine ⟨if t then η a' else η b',by simp [execOp,h1,asBool],?_⟩;cases t<;>simpa
 ·cases h
theorem KT (hρ:aa ck G I N w η ρ)(hH:HR G I N w H){o:Oper}{n:Option Nat}{y:r8}(hc:A0 P ck o (.load n y)=true){v:b6}{rs:List Nat}
  (h:k9 ρ H (.load n y)=some (v,rs)):Good P G I N w η o v:=by
 obtain ⟨dst,bt,ty,pos,after,guard⟩:=o;cases bt<;>simp [A0] at hc;rename_i t x;have h1:=hρ _ _ hc.1;cases n with
 |none =>
  have ha:dW P t=some false:=by simpa [ox] using hc.2
  simp only [k9] at h;split at h
  ·rename_i id off hp
   rw [hp] at h1;simp only [VR] at h1;split at h
   ·rename_i u hu
    simp at h;obtain ⟨rfl,rfl⟩:=h;obtain ⟨_,xs,g1,_,g3,g4⟩:=hH.rd hu (by omega);obtain ⟨z,rfl⟩:∃ z,xs=[z]:=by
     match xs,g1 with
     |[z],_=>exact ⟨z,rfl⟩
    have hz:=g3 0 z rfl;have hv:=g4 0 u z rfl rfl;refine ⟨z,?_,hv.F2⟩;simp at hz;simp [execOp,Instr.loadAt,h1.2,Instr.sureAddr,loadVar,cu ha,hz]
   ·cases h
  ·rename_i c cs hp
   simp at h;obtain ⟨rfl,rfl⟩:=h;rw [hp] at h1;simp only [VR,dw] at h1;obtain ⟨b,off,g1,_,⟨z,g2,g3⟩,_⟩:=h1;refine ⟨z,?_,by simpa [VR] using g3⟩;simp [execOp,Instr.loadAt,g1,Instr.sureAddr,loadVar,cu ha,g2]
  ·cases h
 |some n =>
  have ha:dW P t=some true/\P.cellsOf t=n/\0<n:=by simpa [ox,and_assoc] using hc.2
  have hs:(sizeOf t).run P w= .ok n w:=by
   rw [<- ha.2.1];refine run_sizeOf ?_;have:=ha.1;unfold dW at this;cases hu:P.underlying t with
   |none=>simp [hu] at this
   |some d=>exact info_of_underlying hu
  simp only [k9] at h;split at h
  ·rename_i id off hp
   rw [hp] at h1;simp only [VR] at h1;split at h
   ·rename_i us hu
    simp at h;obtain ⟨rfl,rfl⟩:=h;obtain ⟨_,xs,g1,g2,g3,g4⟩:=hH.rd hu (by omega);have hl:=run_loadCells_list (P:=P) w (ad (I id).1 ((I id).2+off)) xs (fun j v hj=>by rw [Y8];exact g3 j v hj);rw [g1] at hl;refine ⟨.agg xs.toArray,?_,?_⟩
    ·simp [execOp,Instr.loadAt,h1.2,Instr.sureAddr,loadVar,cu ha.1,hs,hl]
    ·simp only [VR]
     refine ⟨_,rfl,O6 _ _ (by simp [g1,g2]) fun j a v hj hv=> ?_⟩;simp at hj hv;obtain ⟨a',VI,rfl⟩:=hj;exact (g4 j a' v VI hv).F2
   ·cases h
  ·rename_i cells hp
   split at h
   ·rename_i hn
    simp at h;obtain ⟨rfl,rfl⟩:=h;rw [hp] at h1;simp only [VR] at h1;obtain ⟨b,off,g1,g2⟩:=h1;obtain ⟨xs,e1,e2,e3⟩:=dw.vals (I:=I) (N:=N) off _ (dw.take n off cells g2);have Tw :xs.length=n:=by rw [e1];simp;omega
    have hl:=run_loadCells_list (P:=P) w (ad b off) xs (fun j v hj=>by rw [Y8];exact e2 j v hj);rw [Tw] at hl;refine ⟨.agg xs.toArray,?_,?_⟩
    ·simp [execOp,Instr.loadAt,g1,Instr.sureAddr,loadVar,cu ha.1,hs,hl]
    ·simp only [VR]
     exact ⟨_,rfl,by simpa using e3⟩
   ·cases h
  ·cases h
theorem GM (hρ:aa ck G I N w η ρ){o:Oper}{y:r8}(hc:A0 P ck o (.Y5 y)=true){v:b6}{rs:List Nat}
  (h:k9 ρ H (.Y5 y)=some (v,rs)):Good P G I N w η o v:=by
 obtain ⟨dst,bt,ty,pos,after,guard⟩:=o;cases bt<;>simp [A0] at hc;rename_i x;have h1:=hρ _ _ hc;simp only [k9] at h;split at h
 ·rename_i id off hp
  simp at h;obtain ⟨rfl,rfl⟩:=h;rw [hp] at h1;have h2:=h1;simp only [VR] at h1;exact ⟨η x,by simp [execOp,h1.2],h2⟩
 ·rename_i cells hp
  simp at h;obtain ⟨rfl,rfl⟩:=h;rw [hp] at h1;have h2:=h1;simp only [VR] at h1;obtain ⟨b,off,g1,g2⟩:=h1;exact ⟨η x,by simp [execOp,g1],h2⟩
 ·rename_i f a b hp
  simp at h;obtain ⟨rfl,rfl⟩:=h;rw [hp] at h1;have h2:=h1;simp only [VR] at h1;obtain ⟨x',y',g1,g2,g3⟩:=h1;exact ⟨η x,by simp [execOp,g1],h2⟩
 ·cases h
def Data.val:Data->Value
 | .bool b=> .bool b
 | .int k n=> .int k n
 | .str s=> .string ⟨s.toArray⟩
 | .bN=> .pointer Option.none
 | .M5=> .nilFunc
 | .dY=> .map Option.none
 | .nilIface=> .nilIface
 | .slice _ _=> .slice Option.none 0 0
theorem yb {b:BinOp}{x y r:Data}(h:K5 b x y=some r){u v:Value}(hu:DR G w x u)(hv:DR G w y v)(t:TypeId)(p q:Operand) :
  ∃ z,(do eqGuard b t p q u v;binOp b t u v).run P w= .ok z w/\DR G w r z:=by
 refine ⟨Data.val r,?_⟩;unfold K5 at h;split at h
 ·rename_i k a k' c
  simp only [DR] at hu hv;subst hu hv;have hg:(eqGuard b t p q (.int k a) (.int k' c)).run P w= .ok () w:=by unfold eqGuard;cases b<;>simp
  split at h
  ·rename_i hsh
   unfold uJ at h;split at h
   ·cases h
   ·rename_i hneg
    cases b<;>simp [V1] at hsh<;>simp at h<;>subst h <;>
     exact ⟨by simp [hg,binOp,Op.shift,hneg,Data.val],by simp [DR,Data.val]⟩
  ·rename_i hsh
   split at h
   ·rename_i hk
    subst hk;unfold aA at h;cases b<;>simp [V1] at hsh<;>simp at h
    all_goals first
     |(subst h;exact ⟨by simp [hg,binOp,Op.intArith,Op.intCmp,Op.intBits,Data.val],by simp [DR,Data.val]⟩)
     |(obtain ⟨h0,rfl⟩:=h;exact ⟨by simp [hg,binOp,Op.intDiv,h0,Data.val],by simp [DR,Data.val]⟩)
   ·cases h
 ·rename_i a c
  simp only [DR] at hu hv;subst hu hv;have hg:(eqGuard b t p q (.string ⟨a.toArray⟩) (.string ⟨c.toArray⟩)).run P w= .ok () w:=by unfold eqGuard;cases b<;>simp
  unfold qX at h;cases b<;>simp at h
  all_goals first
   |(subst h;exact ⟨by simp [hg,binOp,Op.stringOp,Data.val],by simp [DR,Data.val]⟩)
   |skip
  obtain ⟨h0,rfl⟩:=h;have TD:(⟨a.toArray⟩++⟨c.toArray⟩:ByteArray)=⟨(a++c).toArray⟩:=by
   apply ByteArray.ext;simp
  refine ⟨?_,by simp [DR,Data.val]⟩
  ·have hs:¬ (((⟨a.toArray⟩:ByteArray).size+(⟨c.toArray⟩:ByteArray).size:Nat):Int)>IntKind.i64.max:=by
    have e1:(⟨a.toArray⟩:ByteArray).size=a.length:=by simp [ByteArray.size]
    have e2:(⟨c.toArray⟩:ByteArray).size=c.length:=by simp [ByteArray.size]
    rw [e1,e2];have:IntKind.i64.max=9223372036854775807:=by decide
    rw [this];omega
   simp only [Sem.run_bind,hg,Result.andThen_ok,binOp,Op.stringOp,if_neg hs,Sem.run_pure,Data.val,TD]
 ·cases h
theorem Nu (hρ:aa ck G I N w η ρ){o:Oper}{b:BinOp}{x y:r8}(hc:A0 P ck o (.bin b x y)=true){v:b6}{rs:List Nat}
  (h:k9 ρ H (.bin b x y)=some (v,rs)):Good P G I N w η o v:=by
 obtain ⟨dst,bt,ty,pos,after,guard⟩:=o;cases bt<;>simp [A0] at hc;rename_i b' t x' y' ty';obtain ⟨⟨rfl,hx⟩,hy⟩:=hc;have h1:=hρ _ _ hx;have h2:=hρ _ _ hy;simp only [k9] at h;split at h
 ·rename_i a c ha pH
  rw [ha] at h1;rw [pH] at h2;simp only [VR] at h1 h2;split at h
  ·rename_i r hr
   simp at h;obtain ⟨rfl,rfl⟩:=h;obtain ⟨z,g1,g2⟩:=yb (P:=P) hr h1 h2 t x' y';exact ⟨z,by simp only [execOp];rw [Sem.run_bind,g1];rfl,by simpa [VR] using g2⟩
  ·cases h
 ·cases h
theorem pF (d:Nat){t e:TypeId}(he:P.underlying t=some (.slice e))(a:Addr)(l c:Nat):(Op.equalIn (d+1) t (.slice (some a) l c) (.slice Option.none 0 0)).run P w= .ok false w:=by
 simp [Op.equalIn,run_underlying he]
theorem tR {t e:TypeId}(he:P.underlying t=some (.slice e))(a:Addr)(l c:Nat):(Op.equal t (.slice (some a) l c) (.slice Option.none 0 0)).run P w= .ok false w:=pF 9999 he a l c
theorem tQ (d:Nat){t:TypeId}{ms:Array (String×TypeId)}(he:P.underlying t=some (.interface ms)):(Op.equalIn (d+1) t .nilIface .nilIface).run P w= .ok true w:=by
 simp [Op.equalIn,run_underlying he]
theorem nD {t:TypeId}{ms:Array (String×TypeId)}(he:P.underlying t=some (.interface ms)):(Op.equal t .nilIface .nilIface).run P w= .ok true w:=tQ 9999 he
theorem AT (d:Nat){t:TypeId}(he:P.underlying t=some .bool)(a b:Bool):(Op.equalIn (d+1) t (.bool a) (.bool b)).run P w= .ok (a==b) w:=by
 simp [Op.equalIn,run_underlying he]
theorem Ge {t:TypeId}(he:P.underlying t=some .bool)(a b:Bool):(Op.equal t (.bool a) (.bool b)).run P w= .ok (a==b) w:=AT 9999 he a b
theorem KV (PA:∀ v,η (.const v)=v)(hρ:aa ck G I N w η ρ){o:Oper}{neg:Bool}{x:r8}(hc:A0 P ck o (.Bl neg x)=true){v:b6}{rs:List Nat}
  (h:k9 ρ H (.Bl neg x)=some (v,rs)):Good P G I N w η o v:=by
 obtain ⟨dst,bt,ty,pos,after,guard⟩:=o;unfold A0 at hc;split at hc<;>try (cases hc;done)
 all_goals try (rename_i V7 V3;cases V3;done)
 all_goals rename_i V7 V3
 all_goals cases V3
 all_goals simp only at V7
 all_goals subst V7
 rename_i b t x' ty';simp only [b5] at hc;obtain ⟨⟨hx,ht⟩,hb⟩:=hc;have h1:=hρ _ _ hx;obtain ⟨e,he⟩:∃ e,P.underlying t=some (.slice e):=by
  split at ht
  ·exact ⟨_,by assumption⟩
  ·cases ht
 have key:∃ a l c,η x' = .slice (some a) l c/\v= .d (.bool neg):=by
  simp only [k9] at h;split at h
  ·rename_i len cells hp
   split at h
   ·simp at h;obtain ⟨rfl,rfl⟩:=h
    rw [hp] at h1;simp only [VR,DR] at h1
    rcases h1 with ⟨_,h0,_⟩|⟨b',o',cap,h1,_,_⟩
    ·omega
    ·exact ⟨_,_,_,h1,rfl⟩
   ·cases h
  ·rename_i id sz lo len hp
   simp at h;obtain ⟨rfl,rfl⟩:=h;rw [hp] at h1;simp only [VR] at h1;obtain ⟨_,cap,h1,_⟩:=h1;exact ⟨_,_,_,h1,rfl⟩
  ·cases h
 obtain ⟨a,l,c,hx',rfl⟩:=key;refine ⟨.bool neg,?_,by simp [VR,DR]⟩;simp only [execOp,hx',PA];cases neg<;>simp at hb<;>subst hb<;>simp only [eqGuard,binOp]<;>simp [tR he]
theorem KU (PA:∀ v,η (.const v)=v)(hρ:aa ck G I N w η ρ){o:Oper}{neg:Bool}{x:r8}(hc:A0 P ck o (.GD neg x)=true){v:b6}{rs:List Nat}
  (h:k9 ρ H (.GD neg x)=some (v,rs)):Good P G I N w η o v:=by
 obtain ⟨dst,bt,ty,pos,after,guard⟩:=o;unfold A0 at hc;split at hc<;>try (cases hc;done)
 all_goals try (rename_i V7 V3;cases V3;done)
 all_goals rename_i V7 V3
 all_goals cases V3
 all_goals simp only at V7
 all_goals subst V7
 rename_i b t x' ty';simp only [b5] at hc;obtain ⟨⟨hx,ht⟩,hb⟩:=hc;have h1:=hρ _ _ hx;obtain ⟨e,he⟩:∃ e,P.underlying t=some (.interface e):=by
  split at ht
  ·exact ⟨_,by assumption⟩
  ·cases ht
 simp only [k9] at h;split at h
 ·rename_i hp
  simp at h;obtain ⟨rfl,rfl⟩:=h;rw [hp] at h1;simp only [VR,DR] at h1;refine ⟨.bool (!neg),?_,by simp [VR,DR]⟩;simp only [execOp,h1,PA];cases neg<;>simp at hb<;>subst hb<;>simp only [eqGuard,binOp]<;>simp [nD he]
 ·cases h
theorem Nv (hρ:aa ck G I N w η ρ){o:Oper}{neg:Bool}{x y:r8}(hc:A0 P ck o (.o8 neg x y)=true){v:b6}{rs:List Nat}
  (h:k9 ρ H (.o8 neg x y)=some (v,rs)):Good P G I N w η o v:=by
 obtain ⟨dst,bt,ty,pos,after,guard⟩:=o;cases bt<;>simp only [A0,b5] at hc<;>try (cases hc;done)
 rename_i b t x' y' ty';obtain ⟨⟨⟨hx,hy⟩,ht⟩,hb⟩:=hc;have h1:=hρ _ _ hx;have h2:=hρ _ _ hy;have he:P.underlying t=some .bool:=by
  split at ht
  ·assumption
  ·cases ht
 simp only [k9] at h;split at h
 ·rename_i a c ha pH
  simp at h;obtain ⟨rfl,rfl⟩:=h;rw [ha] at h1;rw [pH] at h2;simp only [VR,DR] at h1 h2;refine ⟨.bool (neg != (a==c)),?_,by simp [VR,DR]⟩;simp only [execOp,h1,h2];cases neg<;>simp at hb<;>subst hb<;>simp only [eqGuard,binOp]<;>simp [Ge he]
 ·cases h
theorem KF {t:TypeId}{k:CK}(h:bp P t k=true):dW P t=some false:=by
 unfold dW;cases k<;>simp only [bp] at h<;>split at h<;>simp_all
theorem run_part_plain {t:TypeId}{k:CK}(h:bp P t k=true)(cs:Array Value)(off:Nat)(v:Value)(hv:cs[off]? =some v):(part t cs off).run P w= .ok v w:=by
 simp [part,cu (KF h),hv]
theorem Dg {k:CK}{a b:Data}{r:Bool}(h:Data.X7 k a b=some r){u v:Value}(hu:DR G w a u)(hv:DR G w b v){t:TypeId}(ht:bp P t k=true)(d:Nat) :
  (Op.equalIn (d+1) t u v).run P w= .ok r w:=by
 unfold Data.X7 at h;split at h
 ·rename_i k x k' y
  simp only [DR] at hu hv;subst hu hv;split at h
  ·rename_i hkk
   subst hkk;simp at h;subst h;simp only [bp] at ht;split at ht
   ·rename_i k2 hk2;simp [Op.equalIn,run_underlying hk2]
   ·cases ht
  ·cases h
 ·rename_i x y
  simp only [DR] at hu hv;subst hu hv;simp at h;subst h;simp only [bp] at ht;split at ht
  ·rename_i h2;simp [Op.equalIn,run_underlying h2,beq_toListBytes]
  ·cases ht
 ·rename_i x y
  simp only [DR] at hu hv;subst hu hv;simp at h;subst h;simp only [bp] at ht;split at ht
  ·rename_i h2;simp [Op.equalIn,run_underlying h2]
  ·cases ht
 ·cases h
theorem nC (d:Nat)(xs ys:Array Value):∀ (fs:List Field) (n:Nat) (ks:List CK) (a b:List b6) (r:Bool),dV P fs n ks=true->mO ks a b=some r ->
  (∀ (j:Nat) c,a[j]? =some c->∃ v,xs[n+j]? =some v/\VR G I N w .none c v)->(∀ (j:Nat) c,b[j]? =some c->∃ v,ys[n+j]? =some v/\VR G I N w .none c v) ->
  (Op.eqFields (d+1) xs ys fs).run P w= .ok r w
 |[],n,ks,a,b,r,hf,hc,_,_=>by
  cases ks with
  |nil =>
   unfold mO at hc;split at hc<;>simp_all [Op.eqFields]
  |cons=>simp [dV] at hf
 |f::fs,n,[],a,b,r,hf,hc,_,_=>by simp [dV] at hf
 |f::fs,n,k::ks,a,b,r,hf,hc,ha,hb=>by
  simp only [dV,b5,bne_iff_ne,beq_iff_eq] at hf;obtain ⟨⟨⟨h1,h2⟩,h3⟩,h4⟩:=hf;unfold mO at hc;split at hc
  ·simp_all
  ·rename_i k0 ks0 x a' y b' e1
   cases e1;split at hc
   ·rename_i t ht
    split at hc
    ·rename_i u hu
     simp at hc;subst hc;obtain ⟨v1,g1,g2⟩:=ha 0 _ rfl;obtain ⟨v2,g3,g4⟩:=hb 0 _ rfl;simp only [VR] at g2 g4;rw [Nat.add_zero] at g1 g3;have e1:=run_part_plain (w:=w) h2 xs n v1 g1;have e2:=run_part_plain (w:=w) h2 ys n v2 g3;have e3:=Dg (P:=P) ht g2 g4 h2 d;have ih:=nC d xs ys fs (n+1) ks a' b' u h4 hu (fun j c hj=>by rw [show n+1+j=n+(j+1) from by omega];exact ha (j+1) c (by simpa using hj))
      (fun j c hj=>by rw [show n+1+j=n+(j+1) from by omega];exact hb (j+1) c (by simpa using hj))
     simp only [Op.eqFields,if_pos h1,Sem.run_bind,h3,e1,e2,e3,Result.andThen_ok];cases t<;>simp [ih]
    ·cases hc
   ·cases hc
  ·cases hc
theorem Nw (hρ:aa ck G I N w η ρ){o:Oper}{neg:Bool}{ks:List CK}{x y:r8}(hc:A0 P ck o (.Lw neg ks x y)=true){v:b6}{rs:List Nat}
  (h:k9 ρ H (.Lw neg ks x y)=some (v,rs)):Good P G I N w η o v:=by
 obtain ⟨dst,bt,ty,pos,after,guard⟩:=o;cases bt<;>simp only [A0,b5] at hc<;>try (cases hc;done)
 rename_i b t x' y' ty';obtain ⟨⟨⟨hx,hy⟩,ht⟩,hb⟩:=hc;have h1:=hρ _ _ hx;have h2:=hρ _ _ hy;unfold vm at ht;split at ht
 ·rename_i fs hfs
  simp only [b5,j9] at ht;simp only [k9] at h;split at h
  ·rename_i a c ha pH
   split at h
   ·rename_i r hr
    simp at h;obtain ⟨rfl,rfl⟩:=h;rw [ha] at h1;rw [pH] at h2;simp only [VR] at h1 h2;obtain ⟨xs,e1,e2⟩:=h1;obtain ⟨ys,e3,e4⟩:=h2;have hff:P.fieldsOf t=fs:=by simp [Program.fieldsOf,hfs]
    have heq:=run_equalIn_struct (P:=P) w 9999 t xs ys (by rw [hff];exact hfs) ht.1.2;rw [hff,nC (P:=P) (G:=G) (I:=I) (N:=N) 9998 xs ys fs.toList 0 ks a c r ht.1.1 hr
     (fun j u hu=>by obtain ⟨v,g1,g2⟩:=F1.get a _ e2 j u hu;exact ⟨v,by simpa using g1,g2⟩)
     (fun j u hu=>by obtain ⟨v,g1,g2⟩:=F1.get c _ e4 j u hu;exact ⟨v,by simpa using g1,g2⟩)] at heq
    refine ⟨.bool (neg != r),?_,by simp [VR,DR]⟩;simp only [execOp,e1,e3,Sem.run_bind,run_eqGuard_agg w b t x' y' xs ys ht.2,Result.andThen_ok];cases neg<;>simp at hb<;>subst hb
    ·rw [run_eql_struct,heq];simp
    ·rw [run_neq_struct,heq];simp
   ·cases h
  ·cases h
 ·cases ht
end
section
variable {P:Program} {w:World} {ck:Operand->r8->Bool} {η:Operand->Value} {ρ:r8->b6} {G:Gh} {I:Q9} {N:Nat->Prop} {H:o6}
theorem QJ (hρ:aa ck G I N w η ρ){o:Oper}{b:UnOp}{x:r8}(hc:A0 P ck o (.un b x)=true){v:b6}{rs:List Nat}
  (h:k9 ρ H (.un b x)=some (v,rs)):Good P G I N w η o v:=by
 obtain ⟨dst,bt,ty,pos,after,guard⟩:=o;cases bt<;>simp [A0] at hc;rename_i b' t x';obtain ⟨rfl,hx⟩:=hc;have h1:=hρ _ _ hx;simp only [k9] at h;split at h
 ·rename_i a ha
  rw [ha] at h1;simp only [VR] at h1;split at h
  ·rename_i r hr
   simp at h;obtain ⟨rfl,rfl⟩:=h;refine ⟨Data.val r,?_⟩;unfold xp at hr;split at hr
   ·simp only [DR] at h1
    cases b' <;>simp at hr;subst hr;simp [execOp,h1,Op.unary,Op.intArith,Data.val,VR,DR]
   ·simp only [DR] at h1
    cases b' <;>simp at hr;subst hr;simp [execOp,h1,Op.unary,Data.val,VR,DR]
   ·cases hr
  ·cases h
 ·cases h
theorem GL (hρ:aa ck G I N w η ρ){o:Oper}{k:IntKind}{x:r8}(hc:A0 P ck o (.ki k x)=true){v:b6}{rs:List Nat}
  (h:k9 ρ H (.ki k x)=some (v,rs)):Good P G I N w η o v:=by
 obtain ⟨dst,bt,ty,pos,after,guard⟩:=o;cases bt<;>simp only [A0,b5] at hc<;>try (cases hc;done)
 rename_i s d x';obtain ⟨⟨hx,hs⟩,hd⟩:=hc;have h1:=hρ _ _ hx;obtain ⟨ds,hds⟩:=Option.isSome_iff_exists.1 hs;split at hd
 ·rename_i k' hk'
  simp at hd;subst hd;simp only [k9] at h;split at h
  ·rename_i k2 n ha
   simp at h;obtain ⟨rfl,rfl⟩:=h;rw [ha] at h1;simp only [VR,DR] at h1;refine ⟨.int k (k.wrap n),?_,by simp [VR,DR]⟩;simp [execOp,h1,convert,run_underlying hds,run_underlying hk',Conv.intToInt]
  ·cases h
 ·cases hd
theorem DF (hρ:aa ck G I N w η ρ){o:Oper}{x:r8}(hc:A0 P ck o (.nY x)=true){v:b6}{rs:List Nat}
  (h:k9 ρ H (.nY x)=some (v,rs)):Good P G I N w η o v:=by
 obtain ⟨dst,bt,ty,pos,after,guard⟩:=o;cases bt<;>simp only [A0,b5] at hc<;>try (cases hc;done)
 rename_i s d x';obtain ⟨⟨hx,hs⟩,hd⟩:=hc;have h1:=hρ _ _ hx;obtain ⟨ds,hds⟩:=Option.isSome_iff_exists.1 hs;split at hd
 ·rename_i hk'
  simp only [k9] at h;split at h
  ·rename_i l ha
   simp at h;obtain ⟨rfl,rfl⟩:=h;rw [ha] at h1;simp only [VR,DR] at h1;refine ⟨.string ⟨l.toArray⟩,?_,by simp [VR,DR]⟩;cases ds<;>simp [execOp,h1,convert,run_underlying hds,run_underlying hk']
  ·cases h
 ·cases hd
theorem uO:∀ (vs:List Value) (l:List Data) (bs:List UInt8),eA l=some bs->F1 G I N w (l.map .d) vs ->
  ∃ ns:List Int,vs=ns.map (Value.int .u8)/\bs=ns.map fun n=>UInt8.ofNat n.toNat
 |vs,[],bs,hb,hv=>by
  simp [eA] at hb;subst hb;simp [F1] at hv;subst hv;exact ⟨[],rfl,rfl⟩
 |vs,a::as,bs,hb,hv=>by
  simp only [G7,F1] at hv;obtain ⟨x,xs,rfl,e2,e3⟩:=hv;unfold eA at hb;split at hb
  ·cases ‹a::as=[]›
  ·rename_i n r heq
   cases heq;split at hb
   ·rename_i bs' Ky
    simp at hb;subst hb;simp only [VR,DR] at e2;subst e2;obtain ⟨ns,rfl,rfl⟩:=uO xs as bs' Ky e3;exact ⟨n::ns,rfl,rfl⟩
   ·cases hb
  ·cases hb
theorem foldl_push:∀ (ns:List Int) (s:ByteArray),(ns.foldl (fun r n=>r.push (UInt8.ofNat n.toNat)) s)=⟨(s.data.toList++ns.map fun n=>UInt8.ofNat n.toNat).toArray⟩
 |[],s=>by simp
 |n::ns,s=>by
  rw [List.foldl_cons,foldl_push ns];simp
theorem DE (hρ:aa ck G I N w η ρ){o:Oper}{x:r8}(hc:A0 P ck o (.iq x)=true){v:b6}{rs:List Nat}
  (h:k9 ρ H (.iq x)=some (v,rs)):Good P G I N w η o v:=by
 obtain ⟨dst,bt,ty,pos,after,guard⟩:=o;cases bt<;>simp only [A0,b5] at hc<;>try (cases hc;done)
 rename_i s d x';obtain ⟨⟨hx,hs⟩,hd⟩:=hc;have h1:=hρ _ _ hx;split at hs
 ·rename_i e he
  split at hs
  ·rename_i hu8
   split at hd
   ·rename_i TS
    simp only [k9] at h;split at h
    ·rename_i len cells ha
     split at h
     ·rename_i hlen
      split at h
      ·rename_i bs Ky
       simp at h;obtain ⟨rfl,rfl⟩:=h;rw [ha] at h1;simp only [VR,DR] at h1;refine ⟨.string ⟨bs.toArray⟩,?_,by simp [VR,DR]⟩
       rcases h1 with ⟨h1,h2,h3⟩|⟨b,off,cap,h1,h2,h3⟩
       ·subst h3
        simp [eA] at Ky;subst Ky
        rcases h1 with h1|⟨a0,h1⟩
        ·simp [execOp,h1,convert,run_underlying he,run_underlying TS,run_underlying hu8,Conv.bytesToString]
         rfl
        ·have hl:(loadCells a0 0).run P w= .ok (([]:List Int).map (Value.int .u8)).toArray w:=by simp [loadCells,loadCellsFrom]
         simp only [execOp,h1,Sem.run_bind,run_convert_bytes_string w s d e _ _ _ he hu8 TS,run_bytesToString w a0 0 0 [] hl];rfl
       ·obtain ⟨vs,g1,g2,g3⟩:=dw.vals (I:=I) (N:=N) off cells h3
        have hl:=run_loadCells_list (P:=P) w (ad b off) vs (fun j v hj=>by rw [Y8];exact g2 j v hj);rw [g1,hlen] at hl;obtain ⟨ns,rfl,rfl⟩:=uO (G:=G) (I:=I) (N:=N) vs cells bs Ky g3;simp only [execOp,h1,Sem.run_bind,run_convert_bytes_string w s d e _ _ _ he hu8 TS,run_bytesToString w (ad b off) len cap ns hl,foldl_push];simp
      ·cases h
     ·cases h
    ·cases h
   ·cases hd
  ·cases hs
 ·cases hs
theorem sD (hρ:aa ck G I N w η ρ){x:Option Operand}{y:Option r8}(hc:Py ck x y=true){d:Nat}{n:Int}(h:Q7 ρ d y=some n) :
  (x=none/\n=d)\/∃ x' k,x=some x' /\η x' = .int k n:=by
 cases y with
 |none =>
  cases x with
  |none=>simp [Q7] at h;exact Or.inl ⟨rfl,h.symm⟩
  |some x=>simp [Py] at hc
 |some y =>
  cases x with
  |none=>simp [Py] at hc
  |some x =>
   simp only [Py] at hc;have h1:=hρ _ _ hc;simp only [Q7] at h;split at h
   ·rename_i k m hp
    simp at h;subst h;rw [hp] at h1;simp only [VR,DR] at h1;exact Or.inr ⟨x,k,rfl,h1⟩
   ·cases h
theorem mY (hρ:aa ck G I N w η ρ){lo hi:Option Operand}{lo' hi' :Option r8}(hl:Py ck lo lo' =true)(hh:Py ck hi hi' =true){len cap:Nat}{l h:Int}
  (bl:Q7 ρ 0 lo' =some l) (bh:Q7 ρ len hi' =some h) (h0:0<=l) (h1:l<=h) (h2:h<=len) (hcap:len<=cap) (b:Bool) :
  (Instr.sliceBounds b len cap (lo.map η) (hi.map η) none).run P w= .ok (l.toNat,h.toNat,cap) w:=by
 rcases sD hρ hl bl with ⟨rfl,rfl⟩|⟨x1,k1,rfl,e1⟩<;>rcases sD hρ hh bh with ⟨rfl,rfl⟩|⟨x2,k2,rfl,e2⟩
 ·simp [Instr.sliceBounds]
 ·have a1:(0<=h/\h<=(cap:Int)):=by omega
  simp [Instr.sliceBounds,e2,Instr.sliceBound,asIntOf,a1]
 ·have a1:(0<=l/\l<=(len:Int)):=by omega
  simp [Instr.sliceBounds,e1,Instr.sliceBound,asIntOf,a1]
 ·have a1:(0<=h/\h<=(cap:Int)):=by omega
  have a2:(0<=l/\l<=((h.toNat:Nat):Int)):=by omega
  simp only [Instr.sliceBounds,E6,e1,e2,Instr.sliceBound,asIntOf,Sem.run_bind,Sem.run_pure,Result.andThen_ok,Sem.run_ite,if_pos a1,if_pos a2]
theorem DJ (hρ:aa ck G I N w η ρ){o:Oper}{x:r8}{lo hi:Option r8}(hc:A0 P ck o (.oE x lo hi)=true){v:b6}{rs:List Nat}
  (h:k9 ρ H (.oE x lo hi)=some (v,rs)):Good P G I N w η o v:=by
 obtain ⟨dst,bt,ty,pos,after,guard⟩:=o;unfold A0 at hc;split at hc<;>try (cases hc;done)
 all_goals try (rename_i V7 V3;cases V3;done)
 all_goals rename_i V7 V3
 all_goals cases V3
 all_goals simp only at V7
 all_goals subst V7
 rename_i t x' lo' hi';simp only [b5] at hc;obtain ⟨⟨⟨hx,hl⟩,hh⟩,ht⟩:=hc;have h1:=hρ _ _ hx;have hu:P.underlying t=some .string:=by
  split at ht
  ·assumption
  ·cases ht
 simp only [k9] at h;split at h
 ·rename_i s hs
  split at h
  ·rename_i l hi2 bl bh
   split at h
   ·rename_i hb
    simp at h;obtain ⟨rfl,rfl⟩:=h;rw [hs] at h1;simp only [VR,DR] at h1;have hsz:(⟨s.toArray⟩:ByteArray).size=s.length:=by simp [ByteArray.size]
    have hrb:=mY (P:=P) hρ hl hh bl bh hb.1 hb.2.1 hb.2.2 (l5 _) false;refine ⟨.string ((⟨s.toArray⟩:ByteArray).extract l.toNat hi2.toNat),?_,?_⟩
    ·simp only [execOp,h1,Instr.sliceAt,Sem.run_bind,run_underlying hu,Result.andThen_ok,Instr.slice,hsz]
     simp [hrb]
    ·simp only [VR,DR]
     congr 1
     apply WideShapes.bytes_inj;rw [Lib.extract_data,List.drop_take]
   ·cases h
  ·cases h
 ·cases h
theorem DK (hρ:aa ck G I N w η ρ){o:Oper}{sz:Nat}{x:r8}{lo hi:Option r8}(hc:A0 P ck o (.aE sz x lo hi)=true){v:b6}{rs:List Nat}
  (h:k9 ρ H (.aE sz x lo hi)=some (v,rs)):Good P G I N w η o v:=by
 obtain ⟨dst,bt,ty,pos,after,guard⟩:=o;unfold A0 at hc;split at hc<;>try (cases hc;done)
 all_goals try (rename_i V7 V3;cases V3;done)
 all_goals rename_i V7 V3
 all_goals cases V3
 all_goals simp only at V7
 all_goals subst V7
 rename_i t x' lo' hi';simp only [b5,decide_eq_true_eq] at hc;obtain ⟨⟨⟨⟨hx,hl⟩,hh⟩,ht⟩,hsz⟩:=hc;have h1:=hρ _ _ hx;obtain ⟨e,hu,HT,Kz⟩:=fU ht;have hsize:(sizeOf e).run P w= .ok sz w:=by rw [<- HT];exact run_sizeOf Kz
 simp only [k9] at h;split at h
 ·rename_i len cells hs
  split at h
  ·rename_i l hi2 bl bh
   split at h
   ·rename_i hb
    simp at h;obtain ⟨rfl,rfl⟩:=h;rw [hs] at h1;simp only [VR,DR] at h1
    rcases h1 with ⟨h1,h2,h3⟩|⟨b,off,cap,h1,h2,h3⟩
    ·subst h2 h3
     have hrb:=mY (P:=P) hρ hl hh bl bh hb.1 hb.2.1 hb.2.2.1 (l5 0) true;have hl0:l=0:=by omega
     have hh0:hi2=0:=by omega
     subst hl0 hh0
     rcases h1 with h1|⟨a0,h1⟩
     ·refine ⟨.slice none 0 0,?_,by simp [VR,DR]⟩
      simp only [execOp,h1,Instr.sliceAt,Sem.run_bind,run_underlying hu,Result.andThen_ok,Instr.slice];simp [hrb,hsize]
     ·refine ⟨.slice (some a0) 0 0,?_,by simp [VR,DR]⟩
      simp only [execOp,h1,Instr.sliceAt,Sem.run_bind,run_underlying hu,Result.andThen_ok,Instr.slice];simp [hrb,hsize]
    ·have hrb:=mY (P:=P) hρ hl hh bl bh hb.1 hb.2.1 hb.2.2.1 h2 true
     refine ⟨.slice (if cap=l.toNat then some (ad b off) else (some (ad b off)).map (·.add (l.toNat * sz))) (hi2.toNat - l.toNat) (cap - l.toNat),?_,?_⟩
     ·simp only [execOp,h1,Instr.sliceAt,Sem.run_bind,run_underlying hu,Result.andThen_ok,Instr.slice]
      simp [hrb,hsize]
     ·simp only [VR,DR]
      have e1:(hi2 - l).toNat=hi2.toNat - l.toNat:=by omega
      by_cases hcl:cap=l.toNat
      ·refine Or.inr ⟨b,off,cap - l.toNat,?_,by omega,?_⟩
       ·rw [if_pos hcl,e1]
       ·have:(cells.take (hi2.toNat * sz)).drop (l.toNat * sz)=[]:=by
         apply List.drop_eq_nil_of_le;have:hi2.toNat * sz<=l.toNat * sz:=Nat.mul_le_mul_right _ (by omega);simp;omega
        rw [this];simp [dw]
      ·refine Or.inr ⟨b,off+l.toNat * sz,cap - l.toNat,?_,by omega,dw.drop _ _ _ (dw.take _ _ _ h3)⟩
       rw [if_neg hcl,e1];simp [Y8]
   ·cases h
  ·cases h
 ·rename_i id z a len hs
  split at h
  ·rename_i l hi2 bl bh
   split at h
   ·rename_i hb
    rw [hs] at h1;simp only [VR] at h1;obtain ⟨g1,cap,g2,g3,c,e',f,g4,g5⟩:=h1;have hrb:=mY (P:=P) hρ hl hh bl bh hb.1 hb.2.1 hb.2.2.1 g3 true;have e1:(hi2 - l).toNat=hi2.toNat - l.toNat:=by omega
    have hrun:(execOp η ⟨dst,.slice t x' lo' hi' none,ty,pos,after,guard⟩).run P w =
      .ok (.value (.slice (if cap=l.toNat then some (ad (I id).1 ((I id).2+a)) else (some (ad (I id).1 ((I id).2+a))).map (·.add (l.toNat * sz))) (hi2.toNat - l.toNat) (cap - l.toNat))) w:=by
     simp only [execOp,g2,Instr.sliceAt,Sem.run_bind,run_underlying hu,Result.andThen_ok,Instr.slice];simp [hrb,hsize]
    refine ⟨_,hrun,?_⟩;split at h
    ·rename_i hlh
     simp at h;obtain ⟨rfl,rfl⟩:=h;simp only [VR,DR];subst hlh
     by_cases hcl:cap=l.toNat
     ·exact Or.inr ⟨_,_,cap - l.toNat,by rw [if_pos hcl,Nat.sub_self],by omega,by simp [dw]⟩
     ·exact Or.inr ⟨(I id).1,(I id).2+a+l.toNat * sz,cap - l.toNat,by rw [if_neg hcl,Nat.sub_self];simp [Y8],by omega,by simp [dw]⟩
    ·rename_i hlh
     simp at h;obtain ⟨rfl,rfl⟩:=h;simp only [VR];have hcl:¬ cap=l.toNat:=by omega
     refine ⟨g1,cap - l.toNat,?_,by omega,c,e',f,g4,?_⟩
     ·rw [if_neg hcl,e1]
      simp [Y8,H9]
     ·have hz:z=sz:=hb.2.2.2
      subst hz;have:cap * z=(cap - l.toNat) * z+l.toNat * z:=by rw [<- Nat.add_mul];congr 1;omega
      omega
   ·cases h
  ·cases h
 ·cases h
end
section
variable {P:Program} {w:World} {ck:Operand->r8->Bool} {η:Operand->Value} {ρ:r8->b6} {G:Gh} {I:Q9} {N:Nat->Prop} {H:o6}
theorem Ny (hρ:aa ck G I N w η ρ){o:Oper}{k:Nat}{x:r8}(hc:A0 P ck o (.off k x)=true){v:b6}{rs:List Nat}
  (h:k9 ρ H (.off k x)=some (v,rs)):Good P G I N w η o v:=by
 obtain ⟨dst,bt,ty,pos,after,guard⟩:=o;cases bt<;>simp only [A0,b5] at hc<;>try (cases hc;done)
 rename_i s x' f;obtain ⟨hx,hs⟩:=hc;have h1:=hρ _ _ hx;split at hs
 ·rename_i fs hu
  split at hs
  ·rename_i fd hfd
   simp only [b5,beq_iff_eq,decide_eq_true_eq] at hs;obtain ⟨hk,hpos⟩:=hs;have Xz:(P.info? fd.type).isSome=true:=by
    cases hi:P.info? fd.type with
    |none=>simp [Program.cellsOf,hi] at hpos
    |some i=>rfl
   have hsz:(sizeOf fd.type).run P w= .ok (P.cellsOf fd.type) w:=run_sizeOf Xz;have hne:¬ P.cellsOf fd.type=0:=by omega
   have hrun:∀ b off,η x' = .pointer (some (ad b off))->(execOp η ⟨dst,.fieldAddr s x' f,ty,pos,after,guard⟩).run P w= .ok (.value (.pointer (some (ad b (off+k))))) w:=by
    intro b off PA;simp only [execOp,PA,Instr.fieldAt,Sem.run_bind,run_underlying hu,Result.andThen_ok,hfd,Instr.sureAddr,Sem.run_pure,fieldPlace,hsz,if_neg hne,hk,Y8]
   simp only [k9] at h;split at h
   ·rename_i id off hp
    simp at h;obtain ⟨rfl,rfl⟩:=h;rw [hp] at h1;simp only [VR] at h1;exact ⟨_,hrun _ _ h1.2,by simp only [VR];exact ⟨h1.1,by rw [H9]⟩⟩
   ·rename_i cells hp
    simp at h;obtain ⟨rfl,rfl⟩:=h;rw [hp] at h1;simp only [VR] at h1;obtain ⟨b,off,g1,g2⟩:=h1;exact ⟨_,hrun _ _ g1,by simp only [VR];exact ⟨b,off+k,rfl,dw.drop _ _ _ g2⟩⟩
   ·cases h
  ·cases hs
 ·cases hs
theorem KO (hρ:aa ck G I N w η ρ){o:Oper}{sz:Nat}{x i:r8}(hc:A0 P ck o (.B7 sz x i)=true){v:b6}{rs:List Nat}
  (h:k9 ρ H (.B7 sz x i)=some (v,rs)):Good P G I N w η o v:=by
 obtain ⟨dst,bt,ty,pos,after,guard⟩:=o;cases bt<;>simp only [A0,b5] at hc<;>try (cases hc;done)
 rename_i t x' i';obtain ⟨⟨hx,hi⟩,ht⟩:=hc;have h1:=hρ _ _ hx;have h2:=hρ _ _ hi;obtain ⟨e,hu,HT,Kz⟩:=fU ht;have hsize:(sizeOf e).run P w= .ok sz w:=by rw [<- HT];exact run_sizeOf Kz
 have hrun:∀ (b off len cap:Nat) (k:IntKind) (n:Int),η x' = .slice (some (ad b off)) len cap->η i' = .int k n->0<=n->n<len ->
   (execOp η ⟨dst,.indexAddr t x' i',ty,pos,after,guard⟩).run P w= .ok (.value (.pointer (some (ad b (off+n.toNat * sz))))) w:=by
  intro b off len cap k n e1 e2 e3 e4;have hb:(0<=n/\n<(len:Int)):=⟨e3,e4⟩;simp [execOp,e1,e2,Instr.indexAt,run_underlying hu,asIntOf,hsize,hb,Y8]
 simp only [k9] at h;split at h
 ·rename_i len cells k n hp hq
  split at h
  ·rename_i hb
   simp at h;obtain ⟨rfl,rfl⟩:=h;rw [hp] at h1;rw [hq] at h2;simp only [VR,DR] at h1 h2
   rcases h1 with ⟨_,h0,_⟩|⟨b,off,cap,g1,g2,g3⟩
   ·omega
   ·exact ⟨_,hrun b off len cap k n g1 h2 hb.1 hb.2,by simp only [VR];exact ⟨b,_,rfl,dw.drop _ _ _ g3⟩⟩
  ·cases h
 ·rename_i id z lo len k n hp hq
  split at h
  ·rename_i hb
   simp at h;obtain ⟨rfl,rfl⟩:=h;rw [hp] at h1;rw [hq] at h2;simp only [VR,DR] at h1 h2;obtain ⟨g1,cap,g2,g3,_⟩:=h1;exact ⟨_,hrun _ _ len cap k n g2 h2 hb.1 hb.2.1,by simp only [VR];exact ⟨g1,by rw [H9]⟩⟩
  ·cases h
 ·cases h
theorem KP (hρ:aa ck G I N w η ρ){o:Oper}{m sz:Nat}{x i:r8}(hc:A0 P ck o (.fy m sz x i)=true){v:b6}{rs:List Nat}
  (h:k9 ρ H (.fy m sz x i)=some (v,rs)):Good P G I N w η o v:=by
 obtain ⟨dst,bt,ty,pos,after,guard⟩:=o;cases bt<;>simp only [A0,b5] at hc<;>try (cases hc;done)
 rename_i t x' i';obtain ⟨⟨hx,hi⟩,ht⟩:=hc;have h1:=hρ _ _ hx;have h2:=hρ _ _ hi;split at ht
 ·rename_i m' e hu
  simp only [b5,beq_iff_eq] at ht;obtain ⟨⟨rfl,HT⟩,Kz⟩:=ht;have hsize:(sizeOf e).run P w= .ok sz w:=by rw [<- HT];exact run_sizeOf Kz
  have hrun:∀ (b off:Nat) (k:IntKind) (n:Int),η x' = .pointer (some (ad b off))->η i' = .int k n->0<=n->n<m' ->
    (execOp η ⟨dst,.indexAddr t x' i',ty,pos,after,guard⟩).run P w= .ok (.value (.pointer (some (ad b (off+n.toNat * sz))))) w:=by
   intro b off k n e1 e2 e3 e4;have hb:(0<=n/\n<(m' :Int)):=⟨e3,e4⟩;simp [execOp,e1,e2,Instr.indexAt,run_underlying hu,asIntOf,hsize,hb,Y8,Instr.sureAddr]
  simp only [k9] at h;split at h
  ·rename_i id off k n hp hq
   split at h
   ·rename_i hb
    simp at h;obtain ⟨rfl,rfl⟩:=h;rw [hp] at h1;rw [hq] at h2;simp only [VR,DR] at h1 h2;exact ⟨_,hrun _ _ k n h1.2 h2 hb.1 hb.2,by simp only [VR];exact ⟨h1.1,by rw [H9]⟩⟩
   ·cases h
  ·rename_i cells k n hp hq
   split at h
   ·rename_i hb
    simp at h;obtain ⟨rfl,rfl⟩:=h;rw [hp] at h1;rw [hq] at h2;simp only [VR,DR] at h1 h2;obtain ⟨b,off,g1,g2⟩:=h1;exact ⟨_,hrun _ _ k n g1 h2 hb.1 hb.2,by simp only [VR];exact ⟨b,_,rfl,dw.drop _ _ _ g2⟩⟩
   ·cases h
  ·cases h
 ·cases ht
theorem KQ (hρ:aa ck G I N w η ρ){o:Oper}{x i:r8}(hc:A0 P ck o (.A8 x i)=true){v:b6}{rs:List Nat}
  (h:k9 ρ H (.A8 x i)=some (v,rs)):Good P G I N w η o v:=by
 obtain ⟨dst,bt,ty,pos,after,guard⟩:=o;cases bt<;>simp only [A0,b5] at hc<;>try (cases hc;done)
 rename_i t x' i';obtain ⟨⟨hx,hi⟩,ht⟩:=hc;have h1:=hρ _ _ hx;have h2:=hρ _ _ hi;split at ht
 ·rename_i hu
  simp only [k9] at h;split at h
  ·rename_i s k n hp hq
   split at h
   ·rename_i h0
    split at h
    ·rename_i b hb
     simp at h;obtain ⟨rfl,rfl⟩:=h;rw [hp] at h1;rw [hq] at h2;simp only [VR,DR] at h1 h2;refine ⟨.int .u8 b.toNat,?_,by simp [VR,DR]⟩;have hsz:(⟨s.toArray⟩:ByteArray).size=s.length:=by simp [ByteArray.size]
     have hlt:n.toNat<s.length:=by
      rcases p7 n.toNat s.length with h|h
      ·exact h
      ·rw [q6 h] at hb;cases hb
     have hg:(⟨s.toArray⟩:ByteArray)[n.toNat]? =some b:=by
      rw [getElem?_pos _ _ (by rw [hsz];exact hlt)];rw [o7 hlt] at hb;simp at hb;subst hb;rfl
     simp [execOp,h1,h2,Instr.index,run_underlying hu,asIntOf,h0,hg]
    ·cases h
   ·cases h
  ·cases h
 ·cases ht
theorem Bp (hρ:aa ck G I N w η ρ){o:Oper}{x:r8}{i:Nat}(hc:A0 P ck o (.extract x i)=true){v:b6}{rs:List Nat}
  (h:k9 ρ H (.extract x i)=some (v,rs)):Good P G I N w η o v:=by
 obtain ⟨dst,bt,ty,pos,after,guard⟩:=o;cases bt<;>simp [A0] at hc;rename_i x' i';obtain ⟨hx,rfl⟩:=hc;have h1:=hρ _ _ hx;simp only [k9] at h;split at h
 ·rename_i vs hp
  split at h
  ·rename_i u hu
   simp at h;obtain ⟨rfl,rfl⟩:=h;rw [hp] at h1;simp only [VR] at h1;obtain ⟨cs,g1,g2⟩:=h1;obtain ⟨z,e1,e2⟩:=F1.get vs _ g2 i' u hu;refine ⟨z,?_,e2⟩;have:cs[i']? =some z:=by simpa using e1
   simp [execOp,g1,Instr.extract,this]
  ·cases h
 ·cases h
theorem Nx (hρ:aa ck G I N w η ρ){o:Oper}{x:r8}(hc:A0 P ck o (.len x)=true){v:b6}{rs:List Nat}
  (h:k9 ρ H (.len x)=some (v,rs)):Good P G I N w η o v:=by
 obtain ⟨dst,bt,ty,pos,after,guard⟩:=o;unfold A0 at hc;split at hc<;>try (cases hc;done)
 all_goals try (rename_i V7 V3;cases V3;done)
 all_goals rename_i V7 V3
 all_goals cases V3
 all_goals simp only at V7
 all_goals subst V7
 rename_i args argTypes;split at hc
 ·rename_i x' t ha hb
  simp only [b5] at hc;obtain ⟨hx,ht⟩:=hc;have h1:=hρ _ _ hx;split at ht
  ·rename_i e hu
   have hrun:∀ a len cap,η x' = .slice a len cap->(execOp η ⟨dst,.call ⟨.builtin .len,args,argTypes⟩,ty,pos,after,guard⟩).run P w= .ok (.value (.int .i64 len)) w:=by
    intro a len cap PA;have h0:(args.map η)[0]? =some (.slice a len cap):=by simp [ha,PA]
    simp [execOp,resolve,invoke,builtin,Builtin.len_,hb,h0,run_underlying hu,goInt]
   simp only [k9] at h;split at h
   ·rename_i len cells hp
    simp at h;obtain ⟨rfl,rfl⟩:=h;rw [hp] at h1;simp only [VR,DR] at h1
    rcases h1 with ⟨g1|⟨a0,g1⟩,rfl,_⟩|⟨b,off,cap,g1,_⟩
    ·exact ⟨_,hrun _ _ _ g1,by simp [VR,DR,i64]⟩
    ·exact ⟨_,hrun _ _ _ g1,by simp [VR,DR,i64]⟩
    ·exact ⟨_,hrun _ _ _ g1,by simp [VR,DR,i64]⟩
   ·rename_i id z lo len hp
    simp at h;obtain ⟨rfl,rfl⟩:=h;rw [hp] at h1;simp only [VR] at h1;obtain ⟨_,cap,g2,_⟩:=h1;exact ⟨_,hrun _ _ _ g2,by simp [VR,DR,i64]⟩
   ·cases h
  ·cases ht
 ·cases hc
theorem KS (hρ:aa ck G I N w η ρ){o:Oper}{x:r8}(hc:A0 P ck o (.U0 x)=true){v:b6}{rs:List Nat}
  (h:k9 ρ H (.U0 x)=some (v,rs)):Good P G I N w η o v:=by
 obtain ⟨dst,bt,ty,pos,after,guard⟩:=o;unfold A0 at hc;split at hc<;>try (cases hc;done)
 all_goals try (rename_i V7 V3;cases V3;done)
 all_goals rename_i V7 V3
 all_goals cases V3
 all_goals simp only at V7
 all_goals subst V7
 rename_i args argTypes;split at hc
 ·rename_i x' t ha hb
  simp only [b5] at hc;obtain ⟨hx,ht⟩:=hc;have h1:=hρ _ _ hx;split at ht
  ·rename_i hu
   simp only [k9] at h;split at h
   ·rename_i s hp
    simp at h;obtain ⟨rfl,rfl⟩:=h;rw [hp] at h1;simp only [VR,DR] at h1;have h0:(args.map η)[0]? =some (.string ⟨s.toArray⟩):=by simp [ha,h1]
    have hsz:(⟨s.toArray⟩:ByteArray).size=s.length:=by simp [ByteArray.size]
    refine ⟨.int .i64 s.length,?_,by simp [VR,DR,i64]⟩;simp [execOp,resolve,invoke,builtin,Builtin.len_,hb,h0,run_underlying hu,goInt,hsz]
   ·cases h
  ·cases ht
 ·cases hc
theorem ER.length:∀ (l:List (Data×b6)) (es:List MapEntry),ER G I N w l es->es.length=l.length
 |[],es,h=>by simp [ER] at h;simp [h]
 |(k,v)::r,es,h=>by
  simp only [ER] at h;obtain ⟨e,es',rfl,_,_,h4⟩:=h;simp [ER.length r es' h4]
theorem KR (hρ:aa ck G I N w η ρ)(hH:HR G I N w H){o:Oper}{x:r8}(hc:A0 P ck o (.Bh x)=true){v:b6}{rs:List Nat}
  (h:k9 ρ H (.Bh x)=some (v,rs)):Good P G I N w η o v:=by
 obtain ⟨dst,bt,ty,pos,after,guard⟩:=o;unfold A0 at hc;split at hc<;>try (cases hc;done)
 all_goals try (rename_i V7 V3;cases V3;done)
 all_goals rename_i V7 V3
 all_goals cases V3
 all_goals simp only at V7
 all_goals subst V7
 rename_i args argTypes;split at hc
 ·rename_i x' t ha hb
  simp only [b5] at hc;obtain ⟨hx,ht⟩:=hc;have h1:=hρ _ _ hx;split at ht
  ·rename_i kt et hu
   simp only [k9] at h;split at h
   ·rename_i hp
    simp at h;obtain ⟨rfl,rfl⟩:=h;rw [hp] at h1;simp only [VR,DR] at h1;have h0:(args.map η)[0]? =some (.map Option.none):=by simp [ha,h1]
    refine ⟨.int .i64 0,?_,by simp [VR,DR,i64]⟩;simp [execOp,resolve,invoke,builtin,Builtin.len_,hb,h0,run_underlying hu,goInt]
   ·rename_i id hp
    split at h
    ·rename_i es he
     simp at h;obtain ⟨rfl,rfl⟩:=h;rw [hp] at h1;simp only [VR] at h1;have hO:=hH id _ he;simp only [OR] at hO;obtain ⟨_,arr,Cz,g1,_,g3⟩:=hO;have h0:(args.map η)[0]? =some (.map (some (I id).1)):=by simp [ha,h1.2]
     have hl:arr.size=es.length:=by simpa using ER.length es _ g3
     refine ⟨.int .i64 es.length,?_,by simp [VR,DR,i64]⟩;have TI:(getObj (I id).1).run P w= .ok (.map arr Cz) w:=by simp [getObj,Sem.run,g1]
     simp [execOp,resolve,invoke,builtin,Builtin.len_,hb,h0,run_underlying hu,goInt,TI,hl]
    ·cases h
   ·cases h
  ·cases ht
 ·cases hc
theorem fE (hρ:aa ck G I N w η ρ):∀ (xs:List Operand) (ys:List r8),LV ck xs ys=true->F1 G I N w (ys.map ρ) (xs.map η)
 |[],[],_=>by simp [F1]
 |x::xs,y::ys,h=>by
  simp only [LV,b5] at h;simp only [G7,F1];exact ⟨_,_,rfl,hρ _ _ h.1,fE hρ xs ys h.2⟩
 |[],_::_,h=>by simp [LV] at h
 |_::_,[],h=>by simp [LV] at h
theorem DI (hρ:aa ck G I N w η ρ){o:Oper}{f:FuncId}{a b:List r8}(hc:A0 P ck o (.X8 f a b)=true){v:b6}{rs:List Nat}
  (h:k9 ρ H (.X8 f a b)=some (v,rs)):Good P G I N w η o v:=by
 obtain ⟨dst,bt,ty,pos,after,guard⟩:=o;unfold A0 at hc;split at hc<;>try (cases hc;done)
 all_goals try (rename_i V7 V3;cases V3;done)
 all_goals rename_i V7 V3
 all_goals cases V3
 all_goals simp only at V7
 all_goals subst V7
 rename_i f' first caps
 simp only [b5,beq_iff_eq] at hc;obtain ⟨⟨rfl,h1⟩,h2⟩:=hc;simp [k9] at h;obtain ⟨rfl,rfl⟩:=h;refine ⟨.func (.func f') (first.map η) (caps.map η),by simp [execOp,Instr.makeFunc],?_⟩;simp only [VR];exact ⟨_,_,rfl,by simpa using fE hρ _ _ h1,by simpa using fE hρ _ _ h2⟩
theorem vK:∀ (as:List b6) (vs:List Value) (r:Data) (k:IntKind) (n:Int),cR true (.int k n) as=some r->F1 G I N w as vs ->
  ∃ m,r= .int k m/\(vs.foldlM Builtin.max2 (.int k n)).run P w= .ok (.int k m) w
 |[],vs,r,k,n,h,hv=>by
  simp [cR] at h;subst h;simp [F1] at hv;subst hv;exact ⟨n,rfl,by simp⟩
 |x::xs,vs,r,k,n,h,hv=>by
  simp only [F1] at hv;obtain ⟨u,us,rfl,e2,e3⟩:=hv;unfold cR at h;split at h
  ·cases ‹x::xs=[]›
  ·rename_i b r' heq
   cases heq;split at h
   ·rename_i c hc
    unfold uk at hc;split at hc
    ·rename_i k1 x1 k2 y1 e1
     cases e1;simp at hc;subst hc;simp only [VR,DR] at e2;subst e2;obtain ⟨m,g1,g2⟩:=vK xs us r k _ h e3;refine ⟨m,g1,?_⟩;simp only [List.foldlM_cons,Sem.run_bind,Builtin.max2,Sem.run_pure,Result.andThen_ok];exact g2
    ·cases hc
   ·cases h
  ·cases h
theorem vL:∀ (as:List b6) (vs:List Value) (r:Data) (k:IntKind) (n:Int),cR false (.int k n) as=some r->F1 G I N w as vs ->
  ∃ m,r= .int k m/\(vs.foldlM Builtin.min2 (.int k n)).run P w= .ok (.int k m) w
 |[],vs,r,k,n,h,hv=>by
  simp [cR] at h;subst h;simp [F1] at hv;subst hv;exact ⟨n,rfl,by simp⟩
 |x::xs,vs,r,k,n,h,hv=>by
  simp only [F1] at hv;obtain ⟨u,us,rfl,e2,e3⟩:=hv;unfold cR at h;split at h
  ·cases ‹x::xs=[]›
  ·rename_i b r' heq
   cases heq;split at h
   ·rename_i c hc
    unfold uk at hc;split at hc
    ·rename_i k1 x1 k2 y1 e1
     cases e1;simp at hc;subst hc;simp only [VR,DR] at e2;subst e2;obtain ⟨m,g1,g2⟩:=vL xs us r k _ h e3;refine ⟨m,g1,?_⟩;simp only [List.foldlM_cons,Sem.run_bind,Builtin.min2,Sem.run_pure,Result.andThen_ok];exact g2
    ·cases hc
   ·cases h
  ·cases h
theorem Dn {b:Bool}{a r:Data}{l:List b6}(h:cR b a l=some r)(hne:l≠[]):∃ k n,a= .int k n:=by
 cases l with
 |nil=>exact absurd rfl hne
 |cons x xs =>
  unfold cR at h;split at h
  ·cases ‹x::xs=[]›
  ·split at h
   ·rename_i c hc
    unfold uk at hc;split at hc
    ·exact ⟨_,_,rfl⟩
    ·cases hc
   ·cases h
  ·cases h
theorem DH (hρ:aa ck G I N w η ρ){o:Oper}{b:Bool}{ys:List r8}(hc:A0 P ck o (.eY b ys)=true){v:b6}{rs:List Nat}
  (h:k9 ρ H (.eY b ys)=some (v,rs)):Good P G I N w η o v:=by
 obtain ⟨dst,bt,ty,pos,after,guard⟩:=o;unfold A0 at hc;split at hc<;>try (cases hc;done)
 all_goals try (rename_i V7 V3;cases V3;done)
 all_goals rename_i V7 V3
 all_goals cases V3
 all_goals simp only at V7
 all_goals subst V7
 all_goals rename_i args argTypes
 all_goals simp only [b5,decide_eq_true_eq] at hc
 all_goals obtain ⟨hc,hl⟩:=hc
 all_goals have h1:=fE hρ _ _ hc
 all_goals simp only [k9] at h
 all_goals split at h
 all_goals try (cases h;done)
 all_goals rename_i a r heq
 all_goals split at h
 all_goals try (cases h;done)
 all_goals rename_i c pH
 all_goals simp at h
 all_goals obtain ⟨rfl,rfl⟩:=h
 all_goals rw [heq] at h1
 all_goals simp only [F1] at h1
 all_goals obtain ⟨x,xs,e1,e2,e3⟩:=h1
 all_goals have hne:r≠[]:=fun hr=>by subst hr;have:=congrArg List.length heq;simp at this;omega
 all_goals obtain ⟨k,n,rfl⟩:=Dn pH hne
 all_goals simp only [VR,DR] at e2
 all_goals subst e2
 ·obtain ⟨m,rfl,g2⟩:=vK (P:=P) r xs c k n pH e3
  refine ⟨.int k m,?_,by simp [VR,DR]⟩;have Tw :(args.map η).toList= .int k n::xs:=by simpa using e1
  simp only [execOp,resolve,invoke,builtin,Builtin.max_,Sem.run_bind,Sem.run_pure,Result.andThen_ok,Tw,g2]
 ·obtain ⟨m,rfl,g2⟩:=vL (P:=P) r xs c k n pH e3
  refine ⟨.int k m,?_,by simp [VR,DR]⟩;have Tw :(args.map η).toList= .int k n::xs:=by simpa using e1
  simp only [execOp,resolve,invoke,builtin,Builtin.min_,Sem.run_bind,Sem.run_pure,Result.andThen_ok,Tw,g2]
theorem ja {k:CK}{a b:Data}{r:Bool}(h:Data.X7 k a b=some r){u v:Value}(hu:DR G w a u)(hv:DR G w b v){t:TypeId}{d:TypeDesc}(ht:bp P t k=true)
  (hd:P.underlying t=some d):Instr.sameNow d u v=some r:=by
 unfold Data.X7 at h;split at h
 ·simp only [DR] at hu hv
  subst hu hv;split at h
  ·rename_i hkk
   subst hkk;simp at h;subst h;simp only [bp,hd] at ht;split at ht
   ·rename_i hx;cases hx;simp [Instr.sameNow]
   ·cases ht
  ·cases h
 ·simp only [DR] at hu hv
  subst hu hv;simp at h;subst h;simp only [bp,hd] at ht;split at ht
  ·rename_i hx;cases hx;simp [Instr.sameNow,beq_toListBytes]
  ·cases ht
 ·simp only [DR] at hu hv
  subst hu hv;simp at h;subst h;simp only [bp,hd] at ht;split at ht
  ·rename_i hx;cases hx;simp [Instr.sameNow]
  ·cases ht
 ·cases h
theorem CJ {kk:CK}{t:TypeId}{d:TypeDesc}(ht:bp P t kk=true)(hd:P.underlying t=some d){key:Data}{u:Value}(hu:DR G w key u) :
  ∀ (l:List (Data×b6)) (es:List MapEntry) (i:Nat) (r:Option b6),ER G I N w l es->aK kk key l=some r ->
   ∃ q,Instr.findNow d u es i=some q/\(match r,q with
    |none,none=>True
    |some a,some (_,v)=>VR G I N w .none a v
    |_,_=>False)
 |[],es,i,r,hE,h=>by
  simp [ER] at hE;subst hE;simp [aK] at h;subst h;exact ⟨none,rfl,trivial⟩
 |(k',v')::rest,es,i,r,hE,h=>by
  simp only [ER] at hE;obtain ⟨e,es',rfl,h2,h3,h4⟩:=hE;unfold aK at h;split at h
  ·rename_i hk
   simp at h;subst h;exact ⟨some (i,e.val),by simp [Instr.findNow,ja hk hu h2 ht hd],h3⟩
  ·rename_i hk
   obtain ⟨q,g1,g2⟩:=CJ ht hd hu rest es' (i+1) r h4 h;exact ⟨q,by simp [Instr.findNow,ja hk hu h2 ht hd,g1],g2⟩
  ·cases h
theorem yc {kk:CK}{t:TypeId}(ht:bp P t kk=true)(b:Bool)(n:Nat)(u:Value):(Instr.checkKey b (n+1) t u).run P w= .ok () w:=by
 cases kk<;>simp only [bp] at ht<;>split at ht<;>first|(cases ht;done)|(rename_i hu;simp [Instr.checkKey,run_underlying hu])
theorem aB {kk:CK}{t:TypeId}(ht:bp P t kk=true)(b:Bool)(u:Value):(Instr.checkKey b 10000 t u).run P w= .ok () w :=
 yc ht b 9999 u
theorem DG (hρ:aa ck G I N w η ρ)(hH:HR G I N w H){o:Oper}{kk:CK}{zero:b6}{ok:Bool}{m k:r8}(hc:A0 P ck o (.lookup kk zero ok m k)=true){v:b6}{rs:List Nat}
  (h:k9 ρ H (.lookup kk zero ok m k)=some (v,rs)):Good P G I N w η o v:=by
 obtain ⟨dst,bt,ty,pos,after,guard⟩:=o;cases bt<;>simp only [A0,b5,beq_iff_eq] at hc<;>try (cases hc;done)
 rename_i t m' k' MV;obtain ⟨⟨⟨rfl,hm⟩,hk⟩,ht⟩:=hc;have h1:=hρ _ _ hm;have h2:=hρ _ _ hk;split at ht
 ·rename_i kt et hu
  simp only [b5] at ht;obtain ⟨XA,hz⟩:=ht;split at hz
  ·rename_i it hit
   split at hz
   ·rename_i z hzz
    have hzero:(zeroValue et).run P w= .ok z w:=by simp [zeroValue,typeInfo,hit,hzz]
    have VN:VR G I N w .none zero z:=aZ _ _ hz;obtain ⟨dk,hdk⟩:∃ d,P.underlying kt=some d:=by
     cases hd:P.underlying kt with
     |none=>cases kk<;>simp [bp,hd] at XA
     |some d=>exact ⟨d,rfl⟩
    simp only [k9] at h;split at h
    ·rename_i id key hp hq
     rw [hp] at h1;rw [hq] at h2;simp only [VR] at h1 h2;split at h
     ·rename_i es he
      split at h
      ·rename_i r hr
       simp at h;obtain ⟨rfl,rfl⟩:=h;have hO:=hH id _ he;simp only [OR] at hO;obtain ⟨_,arr,Cz,g1,_,g3⟩:=hO;obtain ⟨q,f1,f2⟩:=CJ (P:=P) XA hdk h2 es arr.toList 0 r g3 hr;have TI:(getObj (I id).1).run P w= .ok (.map arr Cz) w:=by simp [getObj,Sem.run,g1]
       have RV:(Instr.findKey kt (η k') arr.toList).run P w= .ok q w:=by simp [Instr.findKey,run_underlying hdk,f1]
       cases r with
       |none =>
        cases q with
        |some q=>exact f2.elim
        |none =>
         refine ⟨if MV then .tuple #[z,.bool false] else z,?_,?_⟩
         ·cases MV <;>simp [execOp,h1.2,Instr.lookup,run_underlying hu,TI,aB XA,RV,hzero]
         ·cases MV
          ·simpa using VN
          ·simp only [VR,Option.getD_none,Option.isSome_none,if_true]
           exact ⟨_,rfl,by simp [F1,VR,DR,VN]⟩
       |some a =>
        cases q with
        |none=>exact f2.elim
        |some q =>
         obtain ⟨qi,qv⟩:=q;refine ⟨if MV then .tuple #[qv,.bool true] else qv,?_,?_⟩
         ·cases MV <;>simp [execOp,h1.2,Instr.lookup,run_underlying hu,TI,aB XA,RV]
         ·cases MV
          ·simpa using f2
          ·simp only [VR,Option.getD_some,Option.isSome_some,if_true]
           exact ⟨_,rfl,by simp [F1,VR,DR];exact f2⟩
      ·cases h
     ·cases h
    ·rename_i key hp hq
     rw [hp] at h1;rw [hq] at h2;simp only [VR,DR] at h1;split at h
     ·simp at h;obtain ⟨rfl,rfl⟩:=h
      have RV:(Instr.findKey kt (η k') []).run P w= .ok none w:=by simp [Instr.findKey,run_underlying hdk,Instr.findNow]
      refine ⟨if MV then .tuple #[z,.bool false] else z,?_,?_⟩
      ·cases MV <;>simp [execOp,h1,Instr.lookup,run_underlying hu,aB XA,RV,hzero]
      ·cases MV
       ·simpa using VN
       ·simp only [VR,if_true]
        exact ⟨_,rfl,by simp [F1,VR,DR,VN]⟩
     ·cases h
    ·cases h
   ·cases hz
  ·cases hz
 ·cases ht
end
def GI (vs:List Value):Prop:=∀ v ∈ vs,v.oneCell' =true
def K0 (l:List Value)(off:Nat)(vs:List Value):List Value:=l.take off++vs++l.drop (off+vs.length)
section
variable {P:Program} {w:World} {ck:Operand->r8->Bool} {η:Operand->Value} {ρ:r8->b6} {G:Gh} {I:Q9} {N:Nat->Prop} {H:o6}
theorem F1.append:∀ (a:List b6) (xs:List Value) (b:List b6) (ys:List Value),F1 G I N w a xs->F1 G I N w b ys->F1 G I N w (a++b) (xs++ys)
 |[],xs,b,ys,h,k=>by simp [F1] at h;subst h;simpa using k
 |a::as,xs,b,ys,h,k=>by
  simp only [F1] at h;obtain ⟨x,xs',rfl,h2,h3⟩:=h;simp only [G4,F1];exact ⟨x,xs' ++ys,rfl,h2,F1.append as xs' b ys h3 k⟩
theorem F1.take:∀ (n:Nat) (a:List b6) (xs:List Value),F1 G I N w a xs->F1 G I N w (a.take n) (xs.take n)
 |0,_,_,_=>by simp [F1]
 |n+1,[],xs,h=>by simp [F1] at h;subst h;simp [F1]
 |n+1,a::as,xs,h=>by
  simp only [F1] at h;obtain ⟨x,xs',rfl,h2,h3⟩:=h;simp only [List.take_succ_cons,F1];exact ⟨x,xs'.take n,rfl,h2,F1.take n as xs' h3⟩
theorem F1.drop:∀ (n:Nat) (a:List b6) (xs:List Value),F1 G I N w a xs->F1 G I N w (a.drop n) (xs.drop n)
 |0,_,_,h=>by simpa using h
 |n+1,[],xs,h=>by simp [F1] at h;subst h;simp [F1]
 |n+1,a::as,xs,h=>by
  simp only [F1] at h;obtain ⟨x,xs',rfl,h2,h3⟩:=h;simp only [List.drop_succ_cons];exact F1.drop n as xs' h3
theorem F1.splice {a b:List b6}{xs ys:List Value}(h:F1 G I N w a xs)(k:F1 G I N w b ys)(off:Nat):F1 G I N w (splice a off b) (K0 xs off ys):=by
 unfold u7.splice K0;rw [F1.length b ys k];exact F1.append _ _ _ _ (F1.append _ _ _ _ (F1.take off a xs h) k) (F1.drop _ a xs h)
theorem jf {a:b6}(ha:a.one=true){pl:Place}{x:Value}(h:VR G I N w pl a x):x.oneCell' =true/\x.cells= #[x]:=by
 cases a<;>simp [b6.one] at ha
 ·rename_i d
  cases d<;>simp only [VR,DR] at h
  all_goals first
   |(subst h;exact ⟨rfl,rfl⟩)
   |(rcases h with ⟨h|⟨a0,h⟩,_⟩|⟨b,o,cap,h,_⟩<;>(subst h;exact ⟨rfl,rfl⟩))
 ·simp only [VR] at h;obtain ⟨_,h⟩:=h;subst h;exact ⟨rfl,rfl⟩
 ·simp only [VR] at h;obtain ⟨b,o,h,_⟩:=h;subst h;exact ⟨rfl,rfl⟩
 ·simp only [VR] at h;obtain ⟨_,cap,h,_⟩:=h;subst h;exact ⟨rfl,rfl⟩
 ·simp only [VR] at h
  obtain ⟨_,h⟩:=h
  rcases h with ⟨h|⟨b,o,h⟩,_⟩|⟨_,b,o,cap,c,e,f,h,_⟩<;>(subst h;exact ⟨rfl,rfl⟩)
 ·simp only [VR] at h;subst h;exact ⟨rfl,rfl⟩
 ·simp only [VR] at h;obtain ⟨x,y,h,_⟩:=h;subst h;exact ⟨rfl,rfl⟩
 ·simp only [VR] at h;obtain ⟨_,h⟩:=h;subst h;exact ⟨rfl,rfl⟩
theorem jT:∀ (l:List b6) (xs:List Value),l.all b6.one=true->F1 G I N w l xs->GI xs
 |[],xs,_,h=>by simp [F1] at h;subst h;intro v hv;cases hv
 |a::as,xs,ha,h=>by
  simp only [List.all_cons,b5] at ha;simp only [F1] at h;obtain ⟨x,xs',rfl,h2,h3⟩:=h;intro v hv
  rcases B8.1 hv with rfl|hv
  ·exact (jf ha.1 h2).1
  ·exact jT as xs' ha.2 h3 v hv
theorem sF {a:b6}{l:List b6}(ha:a.cells? =some l){x:Value}(h:VR G I N w .none a x):F1 G I N w l x.cells.toList/\GI x.cells.toList:=by
 unfold b6.cells? at ha;split at ha
 ·rename_i l'
  split at ha
  ·rename_i hall
   simp at ha;subst ha;simp only [VR] at h;obtain ⟨cs,rfl,h2⟩:=h;exact ⟨h2,jT _ _ hall h2⟩
  ·cases ha
 ·split at ha
  ·rename_i hone
   simp at ha;subst ha;obtain ⟨h1,h2⟩:=jf hone h;rw [h2];refine ⟨?_,fun v hv=> ?_⟩
   ·simp only [F1];exact ⟨x,[],rfl,h,rfl⟩
   ·simp at hv;subst hv;exact h1
  ·cases ha
theorem yP (off:Nat):∀ (vs:List Value) (k:Nat) (cs:Array Value),off+k+vs.length<=cs.size ->
  ((vs.zipIdx k).foldl (fun (cs:Array Value) (p:Value×Nat)=>cs.setIfInBounds (off+p.2) p.1) cs).toList=cs.toList.take (off+k)++vs++cs.toList.drop (off+k+vs.length)
 |[],k,cs,_=>by simp
 |v::vs,k,cs,h=>by
  simp only [y8] at h;rw [List.zipIdx_cons,List.foldl_cons,yP off vs (k+1) _ (by simp;omega)];have hlt:off+k<cs.toList.length:=by simp;omega
  simp only [Array.toList_setIfInBounds];rw [show off+(k+1)=off+k+1 from by omega];rw [List.take_succ_eq_append_getElem (by simpa using hlt)];rw [List.drop_set_of_lt (by omega)];simp only [List.take_set_of_le (l5 _),List.getElem_set_self,List.append_assoc,List.singleton_append,y8];rw [show off+k+1+vs.length=off+k+(vs.length+1) from by omega]
theorem Kt {off:Nat}{v:Value}{cs:Array Value}(h:off+v.cells.size<=cs.size) :
  v.cells.zipIdx.foldl (fun cs (c,j)=>cs.setIfInBounds (off+j) c) cs=(K0 cs.toList off v.cells.toList).toArray:=by
 have:=yP off v.cells.toList 0 cs (by simpa using h);have e:v.cells.zipIdx.foldl (fun cs (c,j)=>cs.setIfInBounds (off+j) c) cs=(v.cells.toList.zipIdx 0).foldl (fun (cs:Array Value) (p:Value×Nat)=>cs.setIfInBounds (off+p.2) p.1) cs:=by
  rw [<- Array.foldl_toList];simp
 rw [e];apply Array.toList_inj.1;rw [this];simp [K0]
theorem jH (hρ:aa ck G I N w η ρ){place:Nat->Option (Nat×Nat)}:∀ (parts:List (Nat×Operand)) (ps:List (Nat×Nat×r8)) (l cs:List b6) (xs:Array Value),
  gN P ck place parts ps=true->F1 G I N w l xs.toList->bg l (ps.map fun (o,s,x)=>(o,s,ρ x))=some cs ->
  ∃ ys:Array Value,Instr.fill place xs (parts.map fun (i,x)=>(i,η x))=some ys/\F1 G I N w cs ys.toList
 |[],[],l,cs,xs,_,hl,h=>by
  simp [bg] at h;subst h;exact ⟨xs,rfl,hl⟩
 |(i,x)::r,(off,sz,y)::q,l,cs,xs,hp,hl,h=>by
  simp only [gN,b5,beq_iff_eq] at hp;obtain ⟨⟨h1,h2⟩,h3⟩:=hp;simp only [G7,bg] at h;split at h
  ·rename_i l' hl'
   split at h
   ·rename_i hsz
    obtain ⟨g1,g2⟩:=sF hl' (hρ _ _ h2);have hlen:(η x).cells.size=sz:=by
     have:=F1.length _ _ g1;simp at this;omega
    have hlx:xs.size=l.length:=by
     have:=F1.length _ _ hl;simpa using this
    have kU:F1 G I N w (splice l off l') ((K0 xs.toList off (η x).cells.toList).toArray).toList:=by
     simpa using F1.splice hl g1 off
    obtain ⟨ys,e1,e2⟩:=jH hρ r q _ cs _ h3 kU h;refine ⟨ys,?_,e2⟩;have hc:¬ ((η x).cells.size≠sz||off+(η x).cells.size>xs.size)=true:=by
     simp [hlen];omega
    simp only [G7,Instr.fill,h1];rw [if_neg hc,Kt (by omega)];exact e1
   ·cases h
  ·cases h
 |[],_::_,_,_,_,hp,_,_=>by simp [gN] at hp
 |_::_,[],_,_,_,hp,_,_=>by simp [gN] at hp
theorem kg {t:TypeId}{l:List b6}(h:xD P t l=true):∃ i z,P.info? t=some i/\i.zero=some z/\F1 G I N w l z.cells.toList:=by
 unfold xD at h;split at h
 ·rename_i i hi
  split at h
  ·rename_i z hz
   exact ⟨i,z,hi,hz,cI _ _ h⟩
  ·cases h
 ·cases h
theorem GK (hρ:aa ck G I N w η ρ){o:Oper}{zero:List b6}{ps:List (Nat×Nat×r8)}(hc:A0 P ck o (.build zero ps)=true){v:b6}{rs:List Nat}
  (h:k9 ρ H (.build zero ps)=some (v,rs)):Good P G I N w η o v:=by
 obtain ⟨dst,bt,ty,pos,after,guard⟩:=o;cases bt<;>simp only [A0] at hc<;>try (cases hc;done)
 rename_i t parts;simp only [k9] at h;split at h
 ·rename_i cs hcs
  simp at h;obtain ⟨rfl,rfl⟩:=h;have key:∃ ys:Array Value,P.built t (parts.toList.map fun (i,x)=>(i,η x))=some ys/\F1 G I N w cs ys.toList:=by
   split at hc
   ·rename_i fs hu
    split at hc
    ·rename_i places Gr
     simp only [b5] at hc;obtain ⟨it,z,e1,e2,e3⟩:=kg (G:=G) (I:=I) (N:=N) (w:=w) hc.1;obtain ⟨ys,f1,f2⟩:=jH hρ parts.toList ps zero cs z.cells hc.2 e3 hcs;refine ⟨ys,?_,f2⟩;unfold sN at Gr;simp only [Program.built,e1,hu,e2,Gr];rw [<- f1]
     congr 1
     funext j
     simp
    ·cases hc
   ·rename_i n e hu
    split at hc
    ·rename_i ie Kz
     simp only [b5] at hc;obtain ⟨it,z,e1,e2,e3⟩:=kg (G:=G) (I:=I) (N:=N) (w:=w) hc.1;obtain ⟨ys,f1,f2⟩:=jH hρ parts.toList ps zero cs z.cells hc.2 e3 hcs;refine ⟨ys,?_,f2⟩;simp only [Program.built,e1,hu,e2,Kz];exact f1
    ·cases hc
   ·cases hc
  obtain ⟨ys,e1,e2⟩:=key;refine ⟨.agg ys,?_,by simp only [VR];exact ⟨ys,rfl,e2⟩⟩;have hb:=run_build (P:=P) w t (parts.map fun (i,x)=>(i,η x)) ys (by simpa using e1);simp only [execOp,Sem.run_bind];rw [hb];rfl
 ·cases h
theorem GO (PA:∀ v,η (.const v)=v)(hρ:aa ck G I N w η ρ)(hH:HR G I N w H){o:Oper}{op:s9}(hc:A0 P ck o op=true){v:b6}{rs:List Nat}
  (h:k9 ρ H op=some (v,rs)):Good P G I N w η o v:=by
 cases op
 case pick=>exact KW hρ hc h
 case build=>exact GK hρ hc h
 case load=>exact KT hρ hH hc h
 case Y5=>exact GM hρ hc h
 case bin=>exact Nu hρ hc h
 case un=>exact QJ hρ hc h
 case Bl=>exact KV PA hρ hc h
 case GD=>exact KU PA hρ hc h
 case o8=>exact Nv hρ hc h
 case Lw=>exact Nw hρ hc h
 case ki=>exact GL hρ hc h
 case nY=>exact DF hρ hc h
 case iq=>exact DE hρ hc h
 case oE=>exact DJ hρ hc h
 case aE=>exact DK hρ hc h
 case off=>exact Ny hρ hc h
 case B7=>exact KO hρ hc h
 case fy=>exact KP hρ hc h
 case A8=>exact KQ hρ hc h
 case extract=>exact Bp hρ hc h
 case len=>exact Nx hρ hc h
 case U0=>exact KS hρ hc h
 case Bh=>exact KR hρ hH hc h
 case eY=>exact DH hρ hc h
 case X8=>exact DI hρ hc h
 case lookup=>exact DG hρ hH hc h
 all_goals (unfold A0 at hc;split at hc<;>first|(cases hc;done)|(rename_i h1 h2;cases h2;done)|(rename_i h2;cases h2;done))
end
end Go.u7
namespace Go.u7.Z
abbrev k (n:Int):r8:= .const (.d (.int .i64 n))
abbrev kt:r8:= .const (.d (.bool true))
abbrev kf:r8:= .const (.d (.bool false))
abbrev z0:b6:= .d (.int .i64 0)
abbrev zs:b6:= .d (.str [])
abbrev zb:b6:= .d (.bool false)
abbrev w (n:Nat):b6:= .own n 0 []
abbrev l (n:Nat):r8:= .loc n
abbrev s (n:Nat):r8:= .slot n
abbrev i0 (o:s9):n8:=⟨o,none,none,[]⟩
abbrev i1 (o:s9)(d:Nat):n8:=⟨o,some d,none,[]⟩
abbrev it (o:s9)(j:Nat):n8:=⟨o,none,some (j,true),[]⟩
abbrev if_ (o:s9)(j:Nat):n8:=⟨o,none,some (j,false),[]⟩
abbrev i3 (o:s9)(u:List Nat):n8:=⟨o,none,none,u⟩
abbrev ms (n:Nat):n8:=⟨.M9 (.slot n),none,none,[]⟩
abbrev ml (n:Nat):n8:=⟨.M9 (.loc n),none,none,[]⟩
abbrev os (a n:Nat):n8:=⟨.off a (.slot n),none,none,[]⟩
abbrev ol (a n:Nat):n8:=⟨.off a (.loc n),none,none,[]⟩
abbrev ld (n:Nat):n8:=⟨.load none (.loc n),none,none,[]⟩
abbrev sq:=p5.seq
abbrev rg:=p5.region
abbrev te:=p5.test
abbrev sk:=p5.skip
def sh (t:q5){x:q5}(h:t=x:=by dsimp only [k,kt,kf,z0,zs,zb,w,l,s,i0,i1,it,if_,i3,ms,ml,os,ol,ld,sq,rg,te,sk]):{ x:q5 // t=x }:=⟨x,h⟩
abbrev o4 (x:List n8):p5:= .region x false
abbrev iJ (x:List n8):p5:= .region x true
abbrev A9 (x:List n8)(c:r8)(a b:p5):p5:= .test x false c a b
abbrev BY (x:List n8)(c:r8)(a b:p5):p5:= .test x true c a b
abbrev C3:r8:=k 0
abbrev nO:s9:= .M9 C3
abbrev B9:r8:=l 0
abbrev p6:n8:=ms 0
abbrev jw:n8:=os 0 3
abbrev B0:n8:=ld 1
abbrev H8:r8:=l 2
abbrev F5:r8:=l 3
abbrev eS:s9:= .M9 F5
abbrev jt:n8:=i1 eS 4
abbrev F6:n8:=ms 4
abbrev ZM:s9:= .bin .neq B9 C3
abbrev cY:n8:=i0 ZM
abbrev B6:r8:=l 1
abbrev qT:s9:= .M9 B9
abbrev gX:n8:=i1 qT 2
abbrev RE:p5:=sq (o4 [p6,jw,B0,i0 (.call 108 [B9,H8]),jt]) (A9 [F6,cY] B6 (sq (o4 [F6,gX]) .ret) sk)
abbrev E5:r8:=k 1
abbrev zq4:s9:= .bin .add B9 E5
abbrev M0:r8:=s 2
abbrev Lp:s9:= .load (some 8) M0
abbrev LG:s9:= .alloc [(w 4),(w 9),(w 3),(w 6),(w 4),(w 3),(w 2),(w 3)]
abbrev Cb:s9:= .M9 (.const (w 1))
abbrev u9:r8:=l 4
abbrev N9:s9:= .M9 (s 0)
abbrev Y4:s9:= .M9 B6
abbrev qH:s9:= .M9 kf
abbrev xO:p5:=o4 [i1 qH 2]
abbrev s7:n8:=ms 1
abbrev ZL:s9:= .len H8
abbrev M4:n8:=i0 ZL
abbrev kC:p5:=sq xO .ret
abbrev aU:n8:=i1 nO 3
abbrev Ci:p5:=o4 [aU]
abbrev K7:n8:=ms 3
abbrev RG:s9:= .len B6
abbrev N8:n8:=i0 RG
abbrev ZO:s9:= .bin .lss B9 H8
abbrev cX:n8:=i0 ZO
abbrev ZQ:s9:= .B7 1 B9 B6
abbrev eU:n8:=i0 ZQ
abbrev P0:n8:=ld 2
abbrev A2:r8:=l 5
abbrev Ft:s9:= .B7 1 u9 A2
abbrev D9:r8:=l 7
abbrev F4:r8:=l 8
abbrev dP:n8:=i0 zq4
abbrev tJ:n8:=i1 Y4 3
abbrev Fp:p5:=o4 [K7,dP,tJ]
abbrev Vs:p5:=sq xO (sq (A9 [p6,i0 (.len B9),s7,M4,i0 (.bin .neq B6 F5)] u9 kC sk) (sq (sq Ci (.block 0 (.loop [true,true,false,true] (sq (A9 [K7,p6,N8,cX] F5 sk (.exit 0)) (sq (.block 1 (BY [p6,K7,eU,P0,s7,K7,i0 Ft,ld 6,i0 (.bin .neq F5 D9)] F4 kC sk)) Fp))))) (sq (o4 [i1 (.M9 kt) 2]) .ret)))
abbrev mE:n8:=i1 nO 2
abbrev jo:p5:=o4 [mE]
abbrev tZ:p5:=o4 [i1 qH 1]
abbrev qN:n8:=i1 nO 5
abbrev EK:p5:=o4 [p6,i1 (.len B9) 4,qN]
abbrev P5:r8:=s 5
abbrev V6:r8:=s 4
abbrev EF:p5:=A9 [i0 (.bin .lss P5 V6)] B9 sk (.exit 0)
abbrev C0:n8:=ms 5
abbrev gW:n8:=i1 qT 3
abbrev tu:p5:=o4 [C0,gW]
abbrev Ao:s9:= .B7 1 B6 H8
abbrev L6:n8:=ld 3
abbrev yw:p5:=sq (o4 [K7,gX]) .ret
abbrev aT:n8:=i1 qT 5
abbrev EI:p5:=o4 [i0 (.bin .add P5 E5),aT]
abbrev Fl:s9:= .M9 (.const (.d (.int .i64 (-1))))
abbrev EN:p5:=sq (o4 [i1 Fl 2]) .ret
abbrev Vt:p5:=sq jo (sq (sq EK (.block 0 (.loop [true,true,false,false,true,true] (sq EF (sq (.block 1 (sq tu (A9 [s7,p6,K7,i0 Ao,L6,i0 (.bin .eql B9 u9)] A2 yw sk))) EI))))) EN)
abbrev C8:r8:=l 6
abbrev ZI:s9:= .bin .lss B9 F5
abbrev R8:n8:=ml 1
abbrev fo:s9:= .M9 V6
abbrev U6:r8:=s 1
abbrev iF:s9:= .M9 U6
abbrev qz:p5:=o4 [i1 Cb 3]
abbrev RF:p5:=A9 [C0,cY,R8,if_ fo 2,if_ iF 2,if_ (.call 38 [F5,u9]) 2,if_ (.un .not A2) 2,i0 (.pick H8 kt C8)] D9 (sq qz .ret) sk
abbrev ua:s9:= .load none u9
abbrev Ht:s9:= .box (s 0)
abbrev ZJ:s9:= .y6 1 1 [zs] [(0,1,C8)] false
abbrev iE:s9:= .M9 E5
abbrev Vu:p5:=sq xO (sq (sq Ci (.block 0 (.loop [true,true,false,true] (sq (A9 [K7,p6,N8,cX] F5 sk (.exit 0)) (sq (.block 1 (A9 [p6,K7,eU,P0,s7,i0 (.bin .eql F5 u9)] A2 (sq (o4 [i1 (.M9 kt) 2]) .ret) sk)) Fp))))) kC)
abbrev dO:n8:=os 1 1
abbrev s8:n8:=ld 0
abbrev N4:n8:=ml 2
abbrev qC:s9:= .off 1 U6
abbrev dN:n8:=it ua 3
abbrev SZ:s9:= .pick F5 C8 kf
abbrev kD:n8:=i0 SZ
abbrev H6:r8:=l 9
abbrev zN:s9:= .load none H6
abbrev xT:n8:=it zN 8
abbrev L3:r8:=l 10
abbrev iG:r8:= .const zs
abbrev S3:r8:=l 11
abbrev R3:r8:=l 12
abbrev ZK:p5:=sq (o4 [dO,s8,i0 (.bin .geq B6 (.const (.d (.int .i64 (-4294967296))))),N4,it qC 3,dN,it (.bin .leq A2 (k 4294967296)) 3,kD,ml 7,it (.off 2 U6) 8,xT,it (.bin .eql L3 iG) 8,i0 (.pick F4 S3 kf),i1 (.M9 R3) 2]) .ret
abbrev gq:n8:=os 0 1
abbrev oI:s9:= .load none B9
abbrev au:r8:=s 3
abbrev T7:n8:=ml 0
abbrev ZP:s9:= .bin .eql B6 C3
abbrev gp:n8:=i0 ZP
abbrev gB:s9:= .M9 D9
abbrev L5:r8:=k 2
abbrev Th:s9:= .pick F5 D9 kf
abbrev qO:n8:=i0 Th
abbrev jx:s9:= .M9 F4
abbrev Vv:p5:=sq (o4 [gq,i1 oI 3]) (.block 0 (A9 [i0 (.bin .eql au C3),T7] B6 (sq (o4 [dO,s8,gp,N4,it (.off 2 U6) 3,dN,it (.bin .eql A2 iG) 3,kD,i1 gB 2]) .ret) (A9 [i0 (.bin .eql au E5),T7] B6 ZK (A9 [i0 (.bin .eql au L5),T7] B6 (sq (o4 [dO,s8,gp,N4,it (.off 2 U6) 3,dN,it (.U0 A2) 3,it (.bin .leq C8 (k 32)) 3,qO,i1 jx 2]) .ret) sk))))
abbrev Hu:s9:= .alloc [zs,z0,zs,zs,(w 2),(w 5),(w 2),zb,(w 3)]
abbrev Lo:s9:= .load (some 8) au
abbrev ZN:s9:= .bin .neq B6 iG
abbrev T0:n8:=i0 Lp
abbrev Te:s9:= .extract H8 0
abbrev mG:n8:=i0 Te
abbrev Tf:s9:= .extract H8 1
abbrev mF:n8:=i0 Tf
abbrev bB:s9:= .M9 A2
abbrev RH:p5:=o4 [T0,i0 (.call 29 [B9]),R8,mG,mF,i0 (.extract H8 2),jt,ml 4,i1 bB 5]
abbrev sy:s9:= .load none A2
abbrev Pu:s9:= .Y5 B9
abbrev mD:n8:=i1 qT 4
abbrev cW:r8:=k 16
abbrev Vx:p5:=sq (o4 [i0 (.bin .eql M0 (k 3)),mD]) (.cond V6 sk (sq (o4 [i0 (.bin .eql M0 (k 9)),mD]) (.cond V6 sk (sq (o4 [i0 (.bin .eql M0 (k 13)),mD]) (.cond V6 sk (o4 [i0 (.bin .eql M0 cW),mD]))))))
abbrev Cc:p5:=o4 [F6,dP,i1 Y4 4]
abbrev Ce:p5:=o4 [C0,dP,i1 Y4 5]
abbrev Fw:s9:= .alloc [zs,z0,zs,zs,(w 1),z0,z0]
abbrev cD:n8:=i1 nO 4
abbrev xV:p5:=o4 [cD]
abbrev Cf:s9:= .append 1 16 false B9 D9
abbrev yx:p5:=sq (o4 [i1 iE 4]) .ret
abbrev eV:s9:= .M9 H8
abbrev J0:n8:=ms 6
abbrev Cg:p5:=o4 [J0,dP,i1 Y4 6]
abbrev Z5:n8:=os 1 3
abbrev Aq:s9:= .extract C8 0
abbrev Ar:s9:= .extract C8 1
abbrev Vy:p5:=sq (o4 [p6,Z5,B0,os 2 3,L6,i0 (.call 121 [B9,H8,u9]),ml 5,i0 Aq,i0 Ar,ml 7,i1 jx 5]) (A9 [C0,cY] B6 (sq (o4 [C0,gX]) .ret) sk)
abbrev kG:s9:= .load none C8
abbrev cZ:s9:= .M9 u9
abbrev aS:r8:=s 8
abbrev Lq:p5:=A9 [i0 (.bin .lss (s 9) aS)] B9 sk (.exit 0)
abbrev tI:n8:=i1 Ht 1
abbrev Fx:p5:=o4 [tI,i1 qH 2]
abbrev Ch:p5:=sq (o4 [i1 iE 2]) .ret
abbrev xU:n8:=i1 qH 3
abbrev gn:s9:= .M9 M0
abbrev Vz:p5:=sq (o4 [xU]) (sq (o4 [p6,s7,i0 (.bin .geq B9 B6),N4,it N9 3,it gn 3,it (.bin .leq u9 A2) 3,kD,i1 gB 3]) .ret)
abbrev Y2:n8:=i0 ZI
abbrev Ap:s9:= .B7 4 H8 F5
abbrev aH:n8:=ld 5
abbrev mK:n8:=i0 ZJ
abbrev qI:n8:=i1 jx 3
abbrev VA:p5:=sq (A9 [F6,gq,B0,M4,Y2] u9 sk (.exit 0)) (sq (.block 1 (o4 [K7,gq,B0,F6,i0 Ap,ol 0 4,aH,mK,i0 Cf,qI])) Cc)
abbrev VB:p5:=sq (A9 [C0,dO,B0,M4,Y2] u9 sk (.exit 2)) (sq (.block 3 (o4 [K7,dO,B0,C0,i0 (.B7 9 H8 F5),ol 0 4,aH,mK,i0 Cf,qI])) Ce)
abbrev RJ:s9:= .load (some 8) U6
abbrev SY:s9:= .pick H8 u9 kf
abbrev mH:n8:=i0 SY
abbrev VC:p5:=sq tZ (sq (o4 [p6,i0 (.bin .geq B9 (.const (.d (.int .u8 97)))),R8,it N9 2,it (.bin .leq F5 (.const (.d (.int .u8 122)))) 2,mH,i1 bB 1]) .ret)
abbrev VD:p5:=sq tZ (sq (o4 [p6,i0 (.bin .geq B9 (.const (.d (.int .u8 48)))),R8,it N9 2,it (.bin .leq F5 (.const (.d (.int .u8 57)))) 2,mH,i1 bB 1]) .ret)
abbrev qK:n8:=i1 Ht 2
abbrev Fy:p5:=o4 [qK,i1 Cb 3]
abbrev Lr:p5:=o4 [i0 (.bin .add (s 9) E5),i1 qT 9]
abbrev Hv:s9:= .y6 1 1 [z0] [(0,1,B6)] false
abbrev S4:r8:=l 13
abbrev ZR:s9:= .bin .eql B9 C3
abbrev hY:n8:=os 1 2
abbrev aq:n8:=os 0 2
abbrev EE:s9:= .len u9
abbrev ju:n8:=i0 EE
abbrev Fo:s9:= .bin .sub H8 A2
abbrev VE:p5:=o4 [hY,s8,s7,aq,L6,ju,i0 Fo,i0 (.B7 9 B6 C8),i0 (.load (some 9) D9),i1 Hu 4,i0 (.store 9 V6 F4)]
abbrev Fz:p5:=o4 [mE,aU]
abbrev xW:p5:=o4 [qN]
abbrev gA:s9:= .M9 C8
abbrev sA:s9:= .load none F4
abbrev Pv:r8:= .const (.d (.str [112,101,114,115,111,110]))
abbrev yy:s9:= .bin .eql C8 C3
abbrev uc:s9:= .load none L3
abbrev X3:r8:=l 14
abbrev RK:p5:=sq (o4 [i0 (.load (some 9) P5),i0 (.store 9 V6 B9)]) .ret
abbrev Ls:p5:=sq (o4 [xU]) .ret
abbrev yz:s9:= .len A2
abbrev SR:s9:= .un .not H8
abbrev T6:n8:=ms 8
abbrev zL:p5:=o4 [T6,dP,i1 Y4 8]
abbrev qy:p5:=o4 [i1 nO 6]
abbrev O9:n8:=ms 2
abbrev Fu:s9:= .B7 1 B9 u9
abbrev Ox:p5:=o4 [O9,p6,O9,M4,i0 (.call 23 [B6,F5]),i0 Fu,aH,os 3 5,i0 (.store 1 D9 C8)]
abbrev xE:s9:= .append 1 8 false B9 H8
abbrev SU:s9:= .bin .lss B9 C3
abbrev SW:s9:= .bin .gtr H8 C3
abbrev mj:s9:= .M9 (k 3)
abbrev tv:s9:= .M9 (k 5)
abbrev Ey:p5:=sq (o4 [mE,i1 iE 3]) .ret
abbrev zM:p5:=o4 [qK,aU]
abbrev Oy:p5:=sq (o4 [i0 (.bin .eql M0 E5),gW]) (.cond au sk (o4 [i0 (.bin .eql M0 L5),gW]))
abbrev O2:r8:=s 6
abbrev Y1:r8:=l 16
abbrev qA:s9:= .load none Y1
abbrev SX:s9:= .bin .lss B9 B6
abbrev nP:s9:= .load none R3
abbrev S9:r8:=l 15
abbrev Ez:p5:=sq (o4 [i1 (.M9 (k 7)) 2]) .ret
abbrev EA:p5:=sq (o4 [i1 (.M9 (k 7)) 4]) .ret
abbrev xF:s9:= .y6 1 0 [] [] false
abbrev kA:p5:=sq jo .ret
abbrev zP:s9:= .box U6
abbrev EB:p5:=o4 [i1 (.alloc [z0,z0,zs]) 1]
abbrev Tc:s9:= .bin .eql B6 L5
abbrev U5:r8:=s 7
abbrev IQ:p5:=A9 [i0 (.bin .lss aS U5)] B9 sk (.exit 0)
abbrev aV:n8:=ms 10
abbrev EC:p5:=o4 [aV,dP,i1 Y4 10]
abbrev Td:s9:= .B7 1 B9 C3
abbrev ED:p5:=o4 [qK,xU]
abbrev M1:n8:=ms 7
abbrev EG:p5:=o4 [M1,dP,i1 Y4 7]
abbrev mq:p5:=sq tZ .ret
abbrev jm:s9:= .M9 O2
abbrev Tg:s9:= .B7 7 B6 H8
abbrev zQ:s9:= .append 1 8 false B9 B6
abbrev tw:s9:= .B7 1 C8 D9
abbrev zR:p5:=o4 [i1 Cb 1]
abbrev Oz:p5:=o4 [i0 (.B7 7 P5 U5),i0 (.load (some 7) B9),i1 Fw 4,i0 (.store 7 V6 B6)]
abbrev OA:p5:=o4 [p6,i0 (.call 12 [B9]),i0 (.call 13 [B6]),i1 LG 2,i0 (.store 8 M0 H8)]
abbrev kB:s9:= .M9 aS
abbrev qL:n8:=i1 qT 8
abbrev IS:p5:=o4 [i0 (.bin .add aS E5),qL]
abbrev EH:p5:=sq (o4 [i1 tv 3]) .ret
abbrev jq:s9:= .len C8
abbrev jr:s9:= .M9 H6
abbrev EJ:p5:=sq (o4 [i1 iE 3]) .ret
abbrev xG:s9:= .load (some 3) B9
abbrev xH:s9:= .bin .eql H8 C3
abbrev xI:s9:= .pick u9 kt F4
abbrev xJ:s9:= .pick H6 R3 kf
abbrev zS:s9:= .build [z0,z0,zs] []
abbrev tA:s9:= .load none D9
abbrev tC:s9:= .load none S3
abbrev OB:p5:=A9 [i0 (.bin .eql M0 (k 18)),T7] B6 (sq (o4 [i1 mj 1]) .ret) sk
abbrev tG:n8:=i1 zP 3
abbrev IT:p5:=o4 [qK,tG,cD]
abbrev aG:r8:=l 17
abbrev xK:s9:= .load none aG
abbrev zT:s9:= .call 23 [B9,(k 3)]
abbrev zU:p5:=o4 [i1 Cb 4]
abbrev EL:s9:= .M9 (.const (.d .bN))
abbrev aR:r8:=k 4
abbrev IU:p5:=sq (o4 [i1 (.M9 aR) 4]) .ret
abbrev Y7:r8:=l 18
abbrev zV:p5:=o4 [i1 nO 7]
abbrev zW:p5:=o4 [i1 nO 1]
abbrev EM:p5:=o4 [F6,gW]
abbrev IV:s9:= .y6 1 1 [z0] [(0,1,C3)] false
abbrev mz:s9:= .M9 P5
abbrev mA:s9:= .M9 au
abbrev nQ:s9:= .M9 U5
abbrev xL:s9:= .B7 4 B6 H8
abbrev xM:s9:= .B7 1 B9 H8
abbrev ic:n8:=ms 12
abbrev OC:p5:=A9 [ic,cY] B6 (sq (o4 [ic,gW]) .ret) sk
abbrev qB:s9:= .off 2 au
abbrev IW:p5:=sq (o4 [i1 qH 4]) .ret
abbrev zX:s9:= .bin .gtr B9 C3
abbrev zY:s9:= .bin .neq B6 C3
abbrev zZ:s9:= .pick u9 D9 kf
abbrev OD:p5:=A9 [J0,cY] B6 (sq (o4 [J0,gX]) .ret) sk
abbrev Aa:s9:= .bin .eql B6 E5
abbrev Ab:s9:= .bin .sub H8 E5
abbrev Ac:s9:= .bin .eql B9 E5
abbrev cC:r8:=l 19
abbrev Ti:s9:= .un .not B6
abbrev xN:s9:= .load none H8
abbrev aP:r8:=s 10
abbrev aQ:r8:=l 20
abbrev IX:p5:=o4 [tI,i1 Cb 2]
abbrev tD:s9:= .off 3 au
abbrev tE:s9:= .off 0 au
abbrev tF:s9:= .off 5 au
abbrev IY:p5:=sq (o4 [i1 mj 3]) .ret
abbrev OE:p5:=A9 [p6,i0 (.Bl false B9)] B6 (sq zR .ret) sk
abbrev IZ:p5:=o4 [i1 Ht 3,cD]
abbrev Ja:p5:=sq (o4 [i1 Fl 3]) .ret
abbrev dH:r8:=l 21
abbrev EO:p5:=o4 [i1 nO 10]
abbrev EP:p5:=o4 [i1 Cb 2]
abbrev qD:r8:=k 1048576
abbrev Ad:s9:= .B7 3 H8 F5
abbrev Ae:s9:= .extract u9 0
abbrev Af:s9:= .extract u9 1
abbrev qE:s9:= .len D9
abbrev qF:s9:= .M9 L3
abbrev qG:s9:= .len S3
abbrev Ag:s9:= .load none X3
abbrev OF:p5:=A9 [J0,C0,N8,cX] F5 sk (.exit 2)
abbrev OG:p5:=A9 [F6,s7,N8,cX] F5 sk (.exit 0)
abbrev xP:p5:=sq Ci .ret
abbrev xQ:s9:= .off 4 U6
abbrev dJ:r8:=l 22
abbrev ES:s9:= .M9 (.const .I5)
abbrev ET:p5:=o4 [i1 nO 8]
abbrev Tj:s9:= .Y5 B6
abbrev EU:s9:= .call 87 [B9,B6]
abbrev EV:s9:= .call 61 [B9,H8]
abbrev OH:s9:= .build [z0,z0,z0,zs,z0] [(0,1,E5),(1,3,B6)]
abbrev EW:s9:= .load (some 4) P5
abbrev xR:s9:= .M9 L5
abbrev OI:p5:=A9 [i0 (.bin .lss U5 O2)] B9 sk (.exit 0)
abbrev Ah:s9:= .load none F5
abbrev OJ:s9:= .y6 5 1 [z0,z0,z0,zs,z0] [(0,5,H8)] false
abbrev EX:s9:= .load (some 7) F5
abbrev OK:s9:= .y6 4 1 [zs,.I5,z0,z0] [(0,4,u9)] false
abbrev EY:s9:= .bin .geq H8 C3
abbrev EZ:s9:= .bin .add F5 C8
abbrev Fa:s9:= .bin .lss B9 D9
abbrev Jb:s9:= .alloc [zs,(w 7),z0,z0]
abbrev OL:p5:=o4 [J0,i0 (.bin .sub B9 E5),i1 Y4 6]
abbrev xS:s9:= .off 1 au
abbrev OM:s9:= .build [(w 1),(w 1)] [(0,1,A2),(1,1,F4)]
abbrev dK:r8:=l 23
abbrev Jc:p5:=o4 [i1 (.M9 kt) 3]
abbrev Jd:p5:=o4 [C0,mD]
abbrev Fb:s9:= .bin .sub B9 F5
abbrev Ai:s9:= .un .not u9
abbrev Fc:s9:= .pick F5 A2 kf
abbrev Aj:s9:= .un .not D9
abbrev Fe:s9:= .B7 1 A2 E5
abbrev Ak:s9:= .un .not S3
abbrev ON:p5:=o4 [i1 iF 7,i1 (.len U5) 8,i1 nO 9]
abbrev OO:p5:=o4 [i0 (.bin .add (s 17) E5),i1 qT 17]
abbrev OP:p5:=o4 [i1 N9 5,i1 (.len P5) 6,i1 nO 7]
abbrev tN:n8:=i0 SX
abbrev OQ:p5:=A9 [J0,C0,tN] H8 sk (.exit 2)
abbrev OS:p5:=sq (o4 [i0 (.call 11 []),i1 qT 1]) .ret
abbrev Ff:s9:= .B7 5 B9 C3
abbrev qM:n8:=i1 qT 7
abbrev OT:p5:=o4 [i0 (.bin .add U5 E5),qM]
abbrev Fg:s9:= .load none dH
abbrev Je:s9:= .y6 3 0 [] [] false
abbrev OU:p5:=sq (o4 [s7,mE,gW]) .ret
abbrev Al:s9:= .un .not F5
abbrev Am:p5:=sq xV .ret
abbrev mJ:n8:=i0 ZR
abbrev OV:p5:=sq (o4 [K7,mJ,i1 Y4 2]) .ret
abbrev An:s9:= .off 4 O2
abbrev Jf:s9:= .alloc [zs,z0,(w 5)]
abbrev As:s9:= .off 0 u9
abbrev Jg:s9:= .bin .eql (l 24) C3
abbrev Jh:s9:= .call 23 [B9,L5]
abbrev Ji:s9:= .call 23 [B6,L5]
abbrev Jj:p5:=o4 [i1 tv 5]
abbrev Fh:s9:= .call 36 [B9]
abbrev Fi:s9:= .extract F5 0
abbrev Fj:s9:= .extract F5 1
abbrev OW:p5:=o4 [tI,mE,aU]
abbrev OX:p5:=sq (o4 [aU,i1 iE 4]) .ret
abbrev Jk:s9:= .call 153 [B6,H8]
abbrev Jl:s9:= .pick S9 kt cC
abbrev OY:r8:= .const (.d (.str [109,97,105,108]))
abbrev OZ:p5:=sq (o4 [i1 (.M9 (k 7)) 3]) .ret
abbrev Pa:p5:=sq (o4 [i1 (.M9 aR) 2]) .ret
abbrev Pb:p5:=sq (o4 [i1 (.M9 aR) 3]) .ret
abbrev Jm:s9:= .load (some 3) u9
abbrev Pc:s9:= .y6 1 1 [z0] [(0,1,A2)] false
abbrev Jn:s9:= .load (some 3) C8
abbrev Jo:s9:= .bin .neq C8 C3
abbrev Jp:s9:= .bin .gtr D9 C3
abbrev Fm:s9:= .un .not F4
abbrev Jq:s9:= .bin .neq A2 E5
abbrev Jr:s9:= .bin .eql S3 C3
abbrev Js:s9:= .bin .gtr S3 C3
abbrev Jt:s9:= .load (some 4) au
abbrev Ju:s9:= .bin .neq A2 iG
abbrev Jv:s9:= .bin .eql H8 L5
abbrev Jw:s9:= .bin .eql B9 L5
abbrev Jx:s9:= .pick S3 kt S9
abbrev Jy:s9:= .B7 1 U5 (s 9)
abbrev Pd:p5:=o4 [F6,i0 (.call 42 [B9])]
abbrev dQ:n8:=ms 11
abbrev Pe:p5:=o4 [dQ,dP,i1 Y4 11]
abbrev Pg:p5:=o4 [ms 13,dP,i1 Y4 13]
abbrev Ph:s9:= .y6 1 1 [z0] [(0,1,C3)] true
abbrev Pj:p5:=sq (o4 [J0,gW]) .ret
abbrev Pk:p5:=sq (o4 [O9,i1 qT 1]) .ret
abbrev Jz:s9:= .bin .lss F5 C3
abbrev JA:s9:= .store 1 C8 A2
abbrev JB:s9:= .pick u9 F4 kf
abbrev JC:s9:= .bin .neq B9 E5
abbrev JD:s9:= .bin .neq B6 E5
abbrev JE:s9:= .bin .add E5 B6
abbrev JF:s9:= .bin .add E5 H8
abbrev JG:s9:= .bin .eql H8 E5
abbrev JH:s9:= .store 1 S3 L3
abbrev JI:s9:= .pick F4 R3 kf
abbrev JJ:s9:= .pick H6 S4 kf
abbrev JK:s9:= .store 3 au D9
abbrev JL:s9:= .pick D9 kt X3
abbrev JM:s9:= .store 8 M0 B9
abbrev Pn:p5:=o4 [O9,dP,i1 Y4 2]
abbrev Fq:s9:= .off 4 M0
abbrev Fs:s9:= .off 0 V6
abbrev dM:r8:=k 8
abbrev JN:s9:= .load none (l 26)
abbrev JO:s9:= .load none (l 27)
abbrev JP:s9:= .bin .geq B9 F5
abbrev JQ:s9:= .B7 4 u9 A2
abbrev JR:s9:= .B7 3 u9 A2
abbrev JS:s9:= .B7 1 A2 C8
abbrev Au:s9:= .M9 S3
abbrev Av:s9:= .M9 S4
abbrev JT:s9:= .store 1 F5 H8
abbrev JU:s9:= .B7 2 F5 u9
abbrev Fv:s9:= .Y5 u9
abbrev Po:p5:=sq (o4 [i1 mj 4]) .ret
abbrev Pp:p5:=sq (o4 [i1 tv 2]) .ret
abbrev Pr:p5:=sq (o4 [i1 tv 4]) .ret
abbrev JV:s9:= .load none U5
abbrev JW:s9:= .load none U6
abbrev JX:s9:= .load none cC
abbrev JY:s9:= .load none dJ
abbrev Pt:p5:=sq (o4 [i1 xR 1]) .ret
abbrev W4:n8:=i0 Pu
abbrev Q6:n8:=ml 3
abbrev mB:n8:=if_ sy 4
abbrev gY:n8:=i0 SR
abbrev mC:n8:=i1 eV 7
abbrev gZ:n8:=i0 ZN
abbrev hU:n8:=i0 Lo
abbrev qJ:n8:=i1 eS 2
abbrev ia:n8:=ol 0 1
abbrev Z6:n8:=ld 4
abbrev mI:n8:=i0 yz
abbrev jv:n8:=os 6 2
abbrev tH:n8:=it iF 4
abbrev qP:n8:=i0 Tg
abbrev qQ:n8:=i0 Td
abbrev qR:n8:=i0 SW
abbrev qS:n8:=i0 SU
abbrev nR:n8:=i0 RJ
abbrev mL:n8:=os 1 6
abbrev tK:n8:=i0 Tj
abbrev tL:n8:=i0 Ti
abbrev tM:n8:=i0 Tc
def O5 (t:q5){x:q5}(h:t=x:=by dsimp only [C3,nO,B9,p6,jw,B0,H8,F5,eS,jt,F6,ZM,cY,B6,qT,gX,RE,E5,zq4,M0,Lp,LG,Cb,u9,N9,Y4,qH,xO,s7,ZL,M4,kC,aU,Ci,K7,RG,N8,ZO,cX,ZQ,eU,P0,A2,Ft,D9,F4,dP,tJ,Fp,Vs,mE,jo,tZ,qN,EK,P5,V6,EF,C0,gW,tu,Ao,L6,yw,aT,EI,Fl,EN,Vt,C8,ZI,R8,fo,U6,iF,qz,RF,ua,Ht,ZJ,iE,Vu,dO,s8,N4,qC,dN,SZ,kD,H6,zN,xT,L3,iG,S3,R3,ZK,gq,oI,au,T7,ZP,gp,gB,L5,Th,qO,jx,Vv,Hu,Lo,ZN,T0,Te,mG,Tf,mF,bB,RH,sy,Pu,mD,cW,Vx,Cc,Ce,Fw,cD,xV,Cf,yx,eV,J0,Cg,Z5,Aq,Ar,Vy,kG,cZ,aS,Lq,tI,Fx,Ch,xU,gn,Vz,Y2,Ap,aH,mK,qI,VA,VB,RJ,SY,mH,VC,VD,qK,Fy,Lr,Hv,S4,ZR,hY,aq,EE,ju,Fo,VE,Fz,xW,gA,sA,Pv,yy,uc,X3,RK,Ls,yz,SR,T6,zL,qy,O9,Fu,Ox,xE,SU,SW,mj,tv,Ey,zM,Oy,O2,Y1,qA,SX,nP,S9,Ez,EA,xF,kA,zP,EB,Tc,U5,IQ,aV,EC,Td,ED,M1,EG,mq,jm,Tg,zQ,tw,zR,Oz,OA,kB,qL,IS,EH,jq,jr,EJ,xG,xH,xI,xJ,zS,tA,tC,OB,tG,IT,aG,xK,zT,zU,EL,aR,IU,Y7,zV,zW,EM,IV,mz,mA,nQ,xL,xM,ic,OC,qB,IW,zX,zY,zZ,OD,Aa,Ab,Ac,cC,Ti,xN,aP,aQ,IX,tD,tE,tF,IY,OE,IZ,Ja,dH,EO,EP,qD,Ad,Ae,Af,qE,qF,qG,Ag,OF,OG,xP,xQ,dJ,ES,ET,Tj,EU,EV,OH,EW,xR,OI,Ah,OJ,EX,OK,EY,EZ,Fa,Jb,OL,xS,OM,dK,Jc,Jd,Fb,Ai,Fc,Aj,Fe,Ak,ON,OO,OP,tN,OQ,OS,Ff,qM,OT,Fg,Je,OU,Al,Am,mJ,OV,An,Jf,As,Jg,Jh,Ji,Jj,Fh,Fi,Fj,OW,OX,Jk,Jl,OY,OZ,Pa,Pb,Jm,Pc,Jn,Jo,Jp,Fm,Jq,Jr,Js,Jt,Ju,Jv,Jw,Jx,Jy,Pd,dQ,Pe,Pg,Ph,Pj,Pk,Jz,JA,JB,JC,JD,JE,JF,JG,JH,JI,JJ,JK,JL,JM,Pn,Fq,Fs,dM,JN,JO,JP,JQ,JR,JS,Au,Av,JT,JU,Fv,Po,Pp,Pr,JV,JW,JX,JY,Pt,W4,Q6,mB,gY,mC,gZ,hU,qJ,ia,Z6,mI,jv,tH,qP,qQ,qR,qS,nR,mL,tK,tL,tM,o4,iJ,A9,BY,k,kt,kf,z0,zs,zb,w,l,s,i0,i1,it,if_,i3,ms,ml,os,ol,ld,sq,rg,te,sk]):{ x:q5 // t=x }:=⟨x,h⟩
end Go.u7.Z


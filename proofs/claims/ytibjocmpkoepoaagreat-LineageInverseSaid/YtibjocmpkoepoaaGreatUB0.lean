import Derived.Calls
import Derived.Below
import Derived.WalkKit
import Derived.Laws.BytesString
import Derived.Lib.Strings
import Derived.Laws.MakeOwn
set_option linter.all false
open Bool renaming and_eq_true → c7, false_eq_true → j3, not_eq_true' → n5
open List renaming cons_append → A5, getElem?_append_left → A7, getElem?_append_right → s5, getElem?_eq_getElem → l6, getElem?_set_ne → D3, getElem?_set_self → O0, length_append → o8, length_cons → p7, length_map → B0, map_cons → F4, mem_append → M4, mem_cons → B4, mem_map → F5, mem_singleton → q6, replicate → c9, set_cons_succ → q7, set_cons_zero → q8
open Nat renaming beq → s7, le_refl → o5, le_trans → B6, lt_or_ge → y4
namespace Go.x9
inductive Data where
 |bool (b:Bool)
 |int (k:IntKind) (n:Int)
 |str (s:List UInt8)
 |slice (len:Nat) (cells:List Data)
 |br
 |N9
 |cu
 |nilIface
 deriving Inhabited
inductive KD where
 |i (k:IntKind) (n:Int)
 |s (x:List UInt8)
 |b (b:Bool)
 deriving DecidableEq,Inhabited
inductive Key where
 |int (k:IntKind) (n:Int)
 |str (s:List UInt8)
 |bool (b:Bool)
 |st (l:List KD)
 deriving DecidableEq,Inhabited
inductive c8 where
 |any
 |d (x:Data)
 |ptr (id off:Nat)
 |S7 (cells:List Data)
 |A8 (id sz lo len:Nat)
 |own (sz len:Nat) (cells:List Data)
 |N7
 |agg (cells:List c8)
 |tuple (vs:List c8)
 |func (f:FuncId) (first caps:List c8)
 |map (id:Nat)
 deriving Inhabited
inductive u0 where
 |dead
 |cells (l:List c8)
 |map (es:List (Key×c8))
 deriving Inhabited
abbrev o9:=List u0
inductive y6 where
 |loc (j:Nat)
 |slot (s:Nat)
 |const (v:c8)
 deriving Inhabited
inductive CK where
 |i
 |s
 |b
 deriving DecidableEq,Inhabited
inductive KK where
 |i
 |s
 |b
 |st (ks:List CK)
 deriving DecidableEq,Inhabited
inductive z6 where
 |Q3 (x:y6)
 |pick (c a b:y6)
 |alloc (zero:List c8)
 |box (x:y6)
 |build (zero:List c8) (parts:List (Nat×Nat×y6))
 |A2 (sz len:Nat) (zero:List c8) (parts:List (Nat×Nat×y6)) (ob:Bool)
 |load (n:Option Nat) (x:y6)
 |store (n:Nat) (a x:y6)
 |aU (x:y6)
 |bin (op:BinOp) (x y:y6)
 |un (op:UnOp) (x:y6)
 |Au (neg:Bool) (x:y6)
 |s8 (neg:Bool) (x y:y6)
 |Hv (neg:Bool) (ks:List CK) (x y:y6)
 |mP (k:IntKind) (x:y6)
 |jP (x:y6)
 |Y8 (sz:Nat) (x:y6) (lo hi:Option y6)
 |off (k:Nat) (x:y6)
 |D5 (sz:Nat) (x i:y6)
 |gJ (n sz:Nat) (x i:y6)
 |J6 (x i:y6)
 |extract (x:y6) (i:Nat)
 |len (x:y6)
 |V5 (x:y6)
 |append (sz bytes:Nat) (ob:Bool) (x y:y6)
 |mX (x:Data)
 |own (sz:Nat) (x:y6)
 |gL (isMax:Bool) (xs:List y6)
 |clear (sz:Nat) (zero:List c8) (x:y6)
 |ay (f:FuncId) (first caps:List y6)
 |call (f:FuncId) (xs:List y6)
 |an (x:y6) (xs:List y6)
 |makeMap
 |lookup (kk:KK) (zero:c8) (ok:Bool) (m k:y6)
 |dg (kk:KK) (m k v:y6)
 |defer (x:y6)
 |bad
 deriving Inhabited
structure p6 where
 op:z6
 dst:Option Nat:=none
 guard:Option (Nat×Bool):=none
 aX:List Nat:=[]
 deriving Inhabited
inductive q9 where
 |skip
 |region (ops:List p6) (draw:Bool)
 |seq (a b:q9)
 |cond (c:y6) (thn els:q9)
 |test (ops:List p6) (draw:Bool) (c:y6) (thn els:q9)
 |block (id:Nat) (body:q9)
 |loop (mask:List Bool) (body:q9)
 |exit (id:Nat)
 |ret
 |fz (s:Nat)
 |bad
 deriving Inhabited
inductive Cc where
 |slot (s:Nat)
 |cell (s:Nat) (n:Option Nat)
 deriving Inhabited
structure s6 where
 nparams:Nat
 names:List Nat
 body:q9
 results:List Cc
 bC:Bool:=false
 deriving Inhabited
def c8.J2:c8->c8
 | .own _ len cells=> .d (.slice len cells)
 | .N7=> .d (.slice 0 [])
 |v=>v
def c8.one:c8->Bool
 | .any=>false
 | .agg _=>false
 | .tuple _=>false
 |_=>true
def c8.cells? :c8->Option (List c8)
 | .agg l=>if l.all c8.one then some l else none
 |v=>if v.one then some [v] else none
def c8.data? :c8->Option Data
 | .d x=>some x
 | .own _ len cells=>some (.slice len cells)
 | .N7=>some (.slice 0 [])
 |_=>none
def M6 :List c8->Option (List Data)
 |[]=>some []
 |v::vs=>match v.data? with
  |some x=>match M6 vs with
   |some xs=>some (x::xs)
   |none=>none
  |none=>none
mutual
def c8.K5:c8->Nat
 | .ptr id _=>id+1
 | .A8 id _ _ _=>id+1
 | .map id=>id+1
 | .agg l=>A4 l
 | .tuple l=>A4 l
 | .func _ a b=>max (A4 a) (A4 b)
 |_=>0
def A4:List c8->Nat
 |[]=>0
 |v::vs=>max v.K5 (A4 vs)
end
mutual
def c8.kill (id:Nat):c8->c8
 | .ptr i o=>if i=id then .any else .ptr i o
 | .A8 i z l n=>if i=id then .any else .A8 i z l n
 | .map i=>if i=id then .any else .map i
 | .agg l=> .agg (H9 id l)
 | .tuple l=> .tuple (H9 id l)
 | .func f a b=> .func f (H9 id a) (H9 id b)
 |v=>v
def H9 (id:Nat):List c8->List c8
 |[]=>[]
 |v::vs=>v.kill id::H9 id vs
end
def u0.K5:u0->Nat
 | .dead=>0
 | .cells l=>A4 l
 | .map es=>A4 (es.map (·.2))
def T6:List u0->Nat->Bool
 |[],_=>true
 |o::os,k=>o.K5<=k+1&&T6 os (k+1)
def L8:List u0->Nat
 |[]=>0
 |o::os=>max o.K5 (L8 os)
def u0.kill (id:Nat):u0->u0
 | .dead=> .dead
 | .cells l=> .cells (H9 id l)
 | .map es=> .map (es.map fun p=>(p.1,p.2.kill id))
def rd (H:o9)(id off n:Nat):Option (List c8) :=
 match H[id]? with
 |some (.cells l)=>if off+n<=l.length then some ((l.drop off).take n) else none
 |_=>none
def splice (l:List c8)(off:Nat)(vs:List c8):List c8:=l.take off++vs++l.drop (off+vs.length)
def wr (H:o9)(id off:Nat)(vs:List c8):Option o9 :=
 match H[id]? with
 |some (.cells l)=>if off+vs.length<=l.length then some (H.set id (.cells (splice l off vs))) else none
 |_=>none
def i64 (n:Int):c8:= .d (.int .i64 n)
def ak (op:BinOp)(k:IntKind)(a b:Int):Option Data :=
 match op with
 | .add=>some (.int k (k.wrap (a+b)))
 | .sub=>some (.int k (k.wrap (a - b)))
 | .mul=>some (.int k (k.wrap (a * b)))
 | .quo=>if b=0 then none else some (.int k (k.wrap (a.tdiv b)))
 | .rem=>if b=0 then none else some (.int k (a.tmod b))
 | .and=>some (.int k (k.wrap (BitVec.ofInt k.bits a&&&BitVec.ofInt k.bits b).toNat))
 | .or=>some (.int k (k.wrap (BitVec.ofInt k.bits a|||BitVec.ofInt k.bits b).toNat))
 | .xor=>some (.int k (k.wrap (BitVec.ofInt k.bits a ^^^ BitVec.ofInt k.bits b).toNat))
 | .eql=>some (.bool (a==b))
 | .neq=>some (.bool (a != b))
 | .lss=>some (.bool (a<b))
 | .leq=>some (.bool (a<=b))
 | .gtr=>some (.bool (a>b))
 | .geq=>some (.bool (a≥b))
 |_=>none
def su (op:BinOp)(k:IntKind)(a b:Int):Option Data :=
 if b<0 then none else
 match op with
 | .shl=>some (.int k (k.wrap (a * 2 ^ (min b.toNat k.bits))))
 | .shr=>some (.int k (a.fdiv (2 ^ (min b.toNat k.bits))))
 |_=>none
def uC (op:BinOp)(a b:List UInt8):Option Data :=
 match op with
 | .add=>if a.length+b.length<4611686018427387904 then some (.str (a++b)) else none
 | .eql=>some (.bool (a==b))
 | .neq=>some (.bool (!(a==b)))
 | .lss=>some (.bool (Op.bytesLess a b))
 | .leq=>some (.bool (Op.bytesLess a b||a==b))
 | .gtr=>some (.bool (!(Op.bytesLess a b||a==b)))
 | .geq=>some (.bool (!(Op.bytesLess a b)))
 |_=>none
def U6:BinOp->Bool
 | .shl=>true
 | .shr=>true
 |_=>false
def J8 (op:BinOp):Data->Data->Option Data
 | .int k a,.int k' b=>if U6 op then su op k a b else if k=k' then ak op k a b else none
 | .str a,.str b=>uC op a b
 |_,_=>none
def Bv (op:UnOp):Data->Option Data
 | .int k n=>match op with
  | .neg=>some (.int k (k.wrap (0 - n)))
  |_=>none
 | .bool b=>match op with
  | .not=>some (.bool (!b))
  |_=>none
 |_=>none
def bA (cells:List c8):List (Nat×Nat×c8)->Option (List c8)
 |[]=>some cells
 |(off,sz,v)::rest=>match v.cells? with
  |some l=>if l.length=sz/\off+sz<=cells.length then bA (splice cells off l) rest else none
  |none=>none
def fV :List Data->Option (List UInt8)
 |[]=>some []
 | .int .u8 n::r=>match fV r with
  |some bs=>some (UInt8.ofNat n.toNat::bs)
  |none=>none
 |_=>none
def ym (isMax:Bool)(a b:Data):Option Data :=
 match a,b with
 | .int k x,.int _ y=>some (.int k (if isMax then (if y>x then y else x) else (if y<x then y else x)))
 |_,_=>none
def ey (isMax:Bool):Data->List c8->Option Data
 |a,[]=>some a
 |a,.d b::r=>match ym isMax a b with
  |some c=>ey isMax c r
  |none=>none
 |_,_=>none
def Data.EU:CK->Data->Data->Option Bool
 | .i,.int k a,.int k' b=>if k=k' then some (a==b) else none
 | .s,.str a,.str b=>some (a==b)
 | .b,.bool a,.bool b=>some (a==b)
 |_,_,_=>none
def P5:List CK->List c8->List c8->Option Bool
 |[],[],[]=>some true
 |k::ks,.d a::r,.d b::q=>match Data.EU k a b with
  |some t=>match P5 ks r q with
   |some u=>some (t&&u)
   |none=>none
  |none=>none
 |_,_,_=>none
def KD.av:KD->c8
 | .i k n=> .d (.int k n)
 | .s x=> .d (.str x)
 | .b t=> .d (.bool t)
def Mf :List c8->Option (List KD)
 |[]=>some []
 | .d (.int k n)::vs=>match Mf vs with
  |some r=>some (.i k n::r)
  |none=>none
 | .d (.str x)::vs=>match Mf vs with
  |some r=>some (.s x::r)
  |none=>none
 | .d (.bool t)::vs=>match Mf vs with
  |some r=>some (.b t::r)
  |none=>none
 |_=>none
def c8.Mg :c8->Option Key
 | .d (.int k n)=>some (.int k n)
 | .d (.str s)=>some (.str s)
 | .d (.bool b)=>some (.bool b)
 | .agg l=>match Mf l with
  |some r=>some (.st r)
  |none=>none
 |_=>none
def Data.aT:KK->Key->Key->Option Bool
 | .i,.int k a,.int k' b=>if k=k' then some (a==b) else none
 | .s,.str a,.str b=>some (a==b)
 | .b,.bool a,.bool b=>some (a==b)
 | .st ks,.st l,.st m=>P5 ks (l.map KD.av) (m.map KD.av)
 |_,_,_=>none
def KK.fits (kk:KK)(k:Key):Bool:=match kk,k with
 | .st ks,.st l=>(P5 ks (l.map KD.av) (l.map KD.av)).isSome
 | .st _,_=>false
 |_,_=>true
def bB (kk:KK)(k:Key):List (Key×c8)->Option (Option c8)
 |[]=>some none
 |(k',v)::r=>match Data.aT kk k k' with
  |some true=>some (some v)
  |some false=>bB kk k r
  |none=>none
def de (kk:KK)(k:Key)(v:c8):List (Key×c8)->Option (List (Key×c8))
 |[]=>some [(k,v)]
 |(k',v')::r=>match Data.aT kk k k' with
  |some true=>some ((k,v)::r)
  |some false=>match de kk k v r with
   |some r' =>some ((k',v')::r')
   |none=>none
  |none=>none
def W7 (ρ:y6->c8)(dflt:Nat):Option y6->Option Int
 |none=>some dflt
 |some x=>match ρ x with
  | .d (.int _ n)=>some n
  |_=>none
def N4 (H:o9)(sz:Nat):c8->Option (Nat×List c8)
 | .d (.slice len cells)=>if cells.length=len * sz then some (len,cells.map .d) else none
 | .own z len cells=>if z=sz then some (len,cells.map .d) else none
 | .A8 id z lo len=>if z=sz then match rd H id lo (len * sz) with
   |some cs=>some (len,cs.map c8.J2)
   |none=>none
  else none
 | .d (.str s)=>if sz=1 then some (s.length,s.map fun b=> .d (.int .u8 b.toNat)) else none
 |_=>none
def n9 (ρ:y6->c8)(H:o9):z6->Option (c8×List Nat)
 | .pick c a b=>match ρ c with
  | .d (.bool t)=>some (if t then ρ a else ρ b,[])
  |_=>none
 | .build zero parts=>match bA zero (parts.map fun (o,s,x)=>(o,s,ρ x)) with
  |some cs=>some (.agg cs,[])
  |none=>none
 | .A2 sz len zero parts false=>match bA zero (parts.map fun (o,s,x)=>(o,s,ρ x)) with
  |some cs=>match M6 cs with
   |some xs=>if 0<sz/\xs.length=len * sz then some (.own sz len xs,[]) else none
   |none=>none
  |none=>none
 | .load none x=>match ρ x with
  | .ptr id off=>match rd H id off 1 with
   |some [v]=>some (v.J2,[id])
   |_=>none
  | .S7 (c::_)=>some (.d c,[])
  |_=>none
 | .load (some n) x=>match ρ x with
  | .ptr id off=>match rd H id off n with
   |some vs=>some (.agg (vs.map c8.J2),[id])
   |none=>none
  | .S7 cells=>if n<=cells.length then some (.agg ((cells.take n).map .d),[]) else none
  |_=>none
 | .aU x=>match ρ x with
  | .ptr id off=>some (.ptr id off,[])
  | .S7 cells=>some (.S7 cells,[])
  | .func f a b=>some (.func f a b,[])
  |_=>none
 | .bin op x y=>match ρ x,ρ y with
  | .d a,.d b=>match J8 op a b with
   |some r=>some (.d r,[])
   |none=>none
  |_,_=>none
 | .s8 neg x y=>match ρ x,ρ y with
  | .d (.bool a),.d (.bool b)=>some (.d (.bool (neg != (a==b))),[])
  |_,_=>none
 | .Hv neg ks x y=>match ρ x,ρ y with
  | .agg a,.agg b=>match P5 ks a b with
   |some t=>some (.d (.bool (neg != t)),[])
   |none=>none
  |_,_=>none
 | .un op x=>match ρ x with
  | .d a=>match Bv op a with
   |some r=>some (.d r,[])
   |none=>none
  |_=>none
 | .Au neg x=>match ρ x with
  | .d (.slice len _)=>if 0<len then some (.d (.bool neg),[]) else none
  | .A8 _ _ _ _=>some (.d (.bool neg),[])
  |_=>none
 | .mP k x=>match ρ x with
  | .d (.int _ n)=>some (.d (.int k (k.wrap n)),[])
  |_=>none
 | .jP x=>match ρ x with
  | .d (.slice len cells)=>if cells.length=len then match fV cells with
    |some bs=>some (.d (.str bs),[])
    |none=>none
   else none
  |_=>none
 | .Y8 sz x lo hi=>match ρ x with
  | .d (.slice len cells)=>match W7 ρ 0 lo,W7 ρ len hi with
   |some l,some h=>if 0<=l/\l<=h/\h<=len/\cells.length=len * sz then
     some (.d (.slice (h - l).toNat ((cells.take (h.toNat * sz)).drop (l.toNat * sz))),[]) else none
   |_,_=>none
  | .A8 id z a len=>match W7 ρ 0 lo,W7 ρ len hi with
   |some l,some h=>if 0<=l/\l<=h/\h<=len/\z=sz then
     if l=h then some (.d (.slice 0 []),[]) else some (.A8 id sz (a+l.toNat * sz) (h - l).toNat,[]) else none
   |_,_=>none
  |_=>none
 | .off k x=>match ρ x with
  | .ptr id off=>some (.ptr id (off+k),[])
  | .S7 cells=>some (.S7 (cells.drop k),[])
  |_=>none
 | .D5 sz x i=>match ρ x,ρ i with
  | .d (.slice len cells),.d (.int _ i)=>if 0<=i/\i<len then some (.S7 (cells.drop (i.toNat * sz)),[]) else none
  | .A8 id z lo len,.d (.int _ i)=>if 0<=i/\i<len/\z=sz then some (.ptr id (lo+i.toNat * sz),[]) else none
  |_,_=>none
 | .gJ n sz x i=>match ρ x,ρ i with
  | .ptr id off,.d (.int _ i)=>if 0<=i/\i<n then some (.ptr id (off+i.toNat * sz),[]) else none
  | .S7 cells,.d (.int _ i)=>if 0<=i/\i<n then some (.S7 (cells.drop (i.toNat * sz)),[]) else none
  |_,_=>none
 | .J6 x i=>match ρ x,ρ i with
  | .d (.str s),.d (.int _ i)=>if 0<=i then match s[i.toNat]? with
    |some b=>some (.d (.int .u8 b.toNat),[])
    |none=>none
   else none
  |_,_=>none
 | .extract x i=>match ρ x with
  | .tuple vs=>match vs[i]? with
   |some v=>some (v,[])
   |none=>none
  |_=>none
 | .len x=>match ρ x with
  | .d (.slice len _)=>some (i64 len,[])
  | .A8 _ _ _ len=>some (i64 len,[])
  |_=>none
 | .V5 x=>match ρ x with
  | .d (.str s)=>some (i64 s.length,[])
  |_=>none
 | .gL isMax xs=>match xs.map ρ with
  | .d a::r=>match ey isMax a r with
   |some c=>some (.d c,[])
   |none=>none
  |_=>none
 | .ay f first caps=>some (.func f (first.map ρ) (caps.map ρ),[])
 | .lookup kk zero ok m k=>match ρ m,(ρ k).Mg with
  | .map id,some key=>match H[id]? with
   |some (.map es)=>match bB kk key es,kk.fits key with
    |some r,true=>some (if ok then .tuple [r.getD zero,.d (.bool r.isSome)] else r.getD zero,[id])
    |_,_=>none
   |_=>none
  | .d .cu,some key=>match Data.aT kk key key with
   |some true=>some (if ok then .tuple [zero,.d (.bool false)] else zero,[])
   |_=>none
  |_,_=>none
 |_=>none
inductive Touch where
 |slot (s:Nat)
 |obj (id:Nat)
 |cell (id off:Nat)
 |below (n:Nat)
 deriving Inhabited
structure G4 where
 T:List c8
 H:o9
 L:List c8
 o7:List Touch
def Touch.S4 (s:Nat):Touch->Bool
 | .slot t=>t==s
 |_=>false
def Touch.K0 (id:Nat):Touch->Bool
 | .obj i=>i==id
 | .below n=>id<n
 |_=>false
def Touch.bP (id off:Nat):Touch->Bool
 | .obj i=>i==id
 | .cell i o=>i==id&&o==off
 | .below n=>id<n
 |_=>false
def c8.Qq:c8->c8
 | .N7=> .N7
 |v=>v.J2
def I5 (T L:List c8):y6->c8
 | .loc j=>(L.getD j .any).J2
 | .slot s=>(T.getD s .any).J2
 | .const v=>v.Qq
def aV (st:G4):y6->Option (Nat×Nat)
 | .loc m=>match st.L[m]? with
  |some (.ptr id off)=>some (id,off)
  |_=>none
 | .slot s=>if st.o7.any (Touch.S4 s) then none else match st.T[s]? with
  |some (.ptr id off)=>some (id,off)
  |_=>none
 | .const _=>none
structure F2 where
 Tm:Nat
 Ti:Nat
 base:Nat
 strict:Nat
def F2.may (l:F2)(id:Nat):Bool:=decide (id<l.Tm)||decide (l.Ti<=id)
def F2.nP (l:F2)(a b base strict:Nat):F2 :=
 if l.Ti<=l.Tm then ⟨a,b,base,strict⟩ else ⟨min l.Tm a,max l.Ti b,base,strict⟩
def W8 (l:F2)(st:G4)(sz:Nat):z6->Option (Nat×List Data×G4)
 | .Q3 (.slot s) =>
  if st.o7.any (Touch.S4 s) then none else
  match st.T[s]? with
  |some (.own z len cells)=>if z=sz then some (len,cells,{ st with T:=st.T.set s (.d (.slice len cells)),o7:= .slot s::st.o7 }) else none
  |_=>none
 | .load none x =>
  match aV st x with
  |some (id,off) =>
   if st.o7.any (Touch.bP id off)|| !l.may id then none else
   match st.H[id]? with
   |some (.cells cs) =>
    match cs[off]? with
    |some (.own z len cells)=>if z=sz then some (len,cells,{ st with H:=st.H.set id (.cells (cs.set off (.d (.slice len cells)))),o7:= .cell id off::st.o7 }) else none
    |_=>none
   |_=>none
  |none=>none
 |_=>none
def O8 (l:F2)(j9:List p6)(st:G4)(sz:Nat):y6->Option (Nat×List Data×G4)
 | .const (.own z len cells)=>if z=sz then some (len,cells,st) else none
 | .const _=>none
 | .slot _=>none
 | .loc j =>
  match st.L[j]? with
  |some (.own z len cells)=>if z=sz then some (len,cells,{ st with L:=st.L.set j (.d (.slice len cells)) }) else none
  |some (.d (.slice _ _))=>match j9[j]? with
   |some a=>W8 l st sz a.op
   |none=>none
  |_=>none
def roomFor (n bytes:Nat):Bool:=decide ((2 * n+512) * bytes<=281474976710656)
abbrev rZ:=FuncId->List c8->o9->F2->Option (c8×o9)
def put (st:G4)(k:Nat)(v:c8):G4:={ st with L:=st.L.set k v }
def E1 (st:G4):y6->c8×G4
 | .loc j=>match st.L[j]? with
  |some (.own z len cells)=>(.own z len cells,{ st with L:=st.L.set j (.d (.slice len cells)) })
  |some .N7=>(.N7,st)
  |_=>(I5 st.T st.L (.loc j),st)
 | .const v=>(v,st)
 | .slot s=>(I5 st.T st.L (.slot s),st)
structure Env where
 cf:rZ
 prom:FuncId->Bool
 mode:FuncId->Nat
 idle:FuncId->Bool
 lim:F2
 entry:Nat
def E9 (H:o9)(strict:Nat):Nat->Nat->Nat
 |0,n=>n
 |k+1,n=>if n<=strict then n else
  let m:=max n (L8 ((H.take n).drop strict))
  if m=n then n else E9 H strict k m
def C9 (H:o9)(strict n:Nat):Nat :=
 if n<=strict then n else if T6 ((H.take n).drop strict) strict then n else strict
def C6 (E:Env)(k:Nat)(f:FuncId)(args:List c8)(st:G4):Option G4 :=
 if E.prom f then
  match E.cf f args st.H E.lim with
  |some (v,H1)=>if st.H.length<=H1.length then some (put { st with H:=H1,o7:= .below H1.length::st.o7 } k v) else none
  |none=>none
 else
  let n:=E9 st.H E.lim.strict 8 (A4 args)
  if n<=st.H.length/\L8 ((st.H.take n).drop E.lim.strict)<=n then
   match E.mode f with
   |0=>match E.cf f args (st.H.take n) { E.lim with base:=n,strict:=C9 st.H E.lim.strict n } with
    |some (v,H1)=>if H1.length=n then some (put { st with H:=H1++st.H.drop n,o7:= .below n::st.o7 } k v) else none
    |none=>none
   |1=>match E.cf f args (st.H.take n) ⟨0,n,n,C9 st.H E.lim.strict n⟩ with
    |some (v,H1)=>if H1.length=n then some (put st k v) else none
    |none=>none
   |_ =>
    let m:=(args.headD .any).K5
    match E.cf f args (st.H.take n) (E.lim.nP m n n (C9 st.H E.lim.strict n)) with
    |some (v,H1)=>if H1.length=n/\m<=n then some (put { st with H:=H1.take m++st.H.drop m,o7:= .below m::st.o7 } k v) else none
    |none=>none
  else none
def newId (st:G4)(y9:Option Nat):Nat:=y9.getD st.H.length
def L7 (st:G4)(y9:Option Nat)(o:u0):G4 :=
 match y9 with
 |none=>{ st with H:=st.H++[o] }
 |some i=>{ st with H:=st.H.set i o }
def Q8 (E:Env)(k n:Nat)(st:G4)(a:c8)(x:y6):Option G4 :=
 match a with
 | .ptr id off =>
  match (E1 st x).1.cells? with
  |some l =>
   if l.length=n/\E.lim.may id/\(A4 l<=id+1\/(E.lim.base<=id/\E.lim.strict<=id)) then
    match wr (E1 st x).2.H id off l with
    |some H' =>some (put { (E1 st x).2 with H:=H',o7:= .obj id::(E1 st x).2.o7 } k .any)
    |none=>none
   else none
  |none=>none
 |_=>none
def S6 (E:Env)(k sz bytes:Nat)(st:G4)(id lo len:Nat)(y:c8):Option G4 :=
 if E.lim.base<=id/\E.entry<=id/\E.lim.may id then
  match st.H[id]?,N4 st.H sz y with
  |some (.cells l),some (m,cs) =>
   if lo=0/\len * sz=l.length/\roomFor (len+m) bytes/\A4 cs<=id/\cs.all c8.one/\0<sz then
    some (put { T:=H9 id st.T,H:=(st.H.take E.lim.base++(st.H.drop E.lim.base).map (u0.kill id)).set id (.cells (H9 id l++cs)),L:=H9 id st.L,o7:= .obj id::st.o7 } k (.A8 id sz lo (len+m)))
   else none
  |_,_=>none
 else none
def oo (l:F2)(st:G4):z6->Bool
 | .Q3 (.slot s)=> !st.o7.any (Touch.S4 s)&&(match st.T[s]? with
  |some .N7=>true
  |_=>false)
 | .load none x =>
  match aV st x with
  |some (id,off)=> !st.o7.any (Touch.bP id off)&&l.may id&&(match st.H[id]? with
   |some (.cells cs)=>(match cs[off]? with
    |some .N7=>true
    |_=>false)
   |_=>false)
  |none=>false
 |_=>false
def isNil (l:F2)(j9:List p6)(st:G4):y6->Bool
 | .const .N7=>true
 | .loc j=>match st.L[j]? with
  |some .N7=>true
  |some (.d (.slice _ _))=>match j9[j]? with
   |some a=>oo l st a.op
   |none=>false
  |_=>false
 |_=>false
def M8 (E:Env)(j9:List p6)(y9:Option Nat)(k sz bytes:Nat)(ob:Bool)(st:G4)(x:y6)(y:c8):Option G4 :=
 match N4 st.H sz y with
 |some (m,cs) =>
  if ob then
   if isNil E.lim j9 st x/\roomFor m bytes/\0<sz then
    if m=0 then some (put st k .N7)
    else some (put (L7 st y9 (.cells cs)) k (.A8 (newId st y9) sz 0 m))
   else none
  else
   match M6 cs with
   |some new =>
    match O8 E.lim j9 st sz x with
    |some (len,cells,st') =>
     if roomFor (len+m) bytes/\0<sz then some (put st' k (.own sz (len+m) (cells++new))) else none
    |none=>none
   |none=>none
 |none=>none
def X9 (E:Env)(k sz:Nat)(zero:List c8)(st:G4):c8->Option G4
 | .A8 id z lo len =>
  if z=sz/\zero.length=sz/\A4 zero=0/\E.lim.may id then
   match wr st.H id lo ((c9 len zero).flatten) with
   |some H' =>some (put { st with H:=H',o7:= .obj id::st.o7 } k (.tuple []))
   |none=>none
  else none
 | .d (.slice 0 _)=>some (put st k (.tuple []))
 |_=>none
def U3 (E:Env)(k:Nat)(kk:KK)(st:G4)(m key v:c8):Option G4 :=
 match m,key.Mg with
 | .map id,some kd=>match st.H[id]? with
  |some (.map es) =>
   if v.K5<=id+1/\E.lim.may id then
    match Data.aT kk kd kd with
    |some true=>match de kk kd v es with
     |some es' =>some (put { st with H:=st.H.set id (.map es'),o7:= .obj id::st.o7 } k .any)
     |none=>none
    |_=>none
   else none
  |_=>none
 |_,_=>none
def E6 (E:Env)(j9:List p6)(y9:Option Nat)(k:Nat)(st:G4):z6->Option G4
 | .alloc zero=>some (put (L7 st y9 (.cells zero)) k (.ptr (newId st y9) 0))
 | .box x=>match (I5 st.T st.L x).cells? with
  |some l=>some (put (L7 st y9 (.cells l)) k (.ptr (newId st y9) 0))
  |none=>none
 | .makeMap=>some (put (L7 st y9 (.map [])) k (.map (newId st y9)))
 | .mX x=>some (put st k (.d x))
 | .own sz x=>match O8 E.lim j9 st sz x with
  |some (len,cells,st')=>some (put st' k (.own sz len cells))
  |none=>none
 | .A2 sz len zero parts true=>match bA zero (parts.map fun (o,s,x)=>(o,s,I5 st.T st.L x)) with
  |some cs=>if 0<sz/\cs.length=len * sz then some (put (L7 st y9 (.cells cs)) k (.A8 (newId st y9) sz 0 len)) else none
  |none=>none
 | .store n a x=>Q8 E k n st (I5 st.T st.L a) x
 | .append sz bytes ob x y =>
  match I5 st.T st.L x with
  | .A8 id z lo len=>if z=sz then S6 E k sz bytes st id lo len (I5 st.T st.L y) else none
  |_=>M8 E j9 y9 k sz bytes ob st x (I5 st.T st.L y)
 | .clear sz zero x=>X9 E k sz zero st (I5 st.T st.L x)
 | .call f xs=>C6 E k f (xs.map (I5 st.T st.L)) st
 | .an x xs=>match I5 st.T st.L x with
  | .func f first caps=>C6 E k f (first++xs.map (I5 st.T st.L)++caps) st
  |_=>none
 | .dg kk m key v=>U3 E k kk st (I5 st.T st.L m) (I5 st.T st.L key) (I5 st.T st.L v)
 | .defer x=>match I5 st.T st.L x with
  | .func f _ _=>if E.idle f then some (put st k .any) else none
  |_=>none
 |_=>none
def z6.C8:z6->Bool
 | .alloc _=>true
 | .box _=>true
 | .makeMap=>true
 | .A2 _ _ _ _ b=>b
 | .store .. =>true
 | .append .. =>true
 | .call .. =>true
 | .an .. =>true
 | .dg .. =>true
 | .clear .. =>true
 | .defer _=>true
 | .mX _=>true
 | .own .. =>true
 |_=>false
def E5 (st:G4)(k:Nat):Option Nat->Option G4
 |none=>some st
 |some s =>
  if s<st.T.length then
   some { (E1 st (.loc k)).2 with T:=st.T.set s (E1 st (.loc k)).1,o7:= .slot s::st.o7 }
  else none
def V8 (st:G4)(k:Nat):Option Nat->Option G4
 |none=>some st
 |some s =>
  if s<st.T.length&&st.o7.any (Touch.S4 s) then
   some { (E1 st (.loc k)).2 with T:=st.T.set s (E1 st (.loc k)).1 }
  else none
def r9 (y9:Option Nat)(st:G4)(k:Nat)(dst:Option Nat):Option G4 :=
 match y9 with
 |none=>E5 st k dst
 |some _=>V8 st k dst
def u5 (L:List c8):Option (Nat×Bool)->Option Bool
 |none=>some true
 |some (j,want)=>match L[j]? with
  |some (.d (.bool b))=>some (b==want)
  |some (.tuple [])=>some false
  |_=>none
def D6 (E:Env)(j9:List p6)(y9:Option Nat)(k:Nat)(op:z6)(st:G4):Option (G4×List Nat) :=
 if op.C8 then
  match E6 E j9 y9 k st op with
  |some st' =>some (st',[])
  |none=>none
 else
  match op with
  | .Q3 x=>some (put (E1 st x).2 k (E1 st x).1,[])
  |op=>match n9 (I5 st.T st.L) st.H op with
   |some (v,rs)=>some (put st k v,rs)
   |none=>none
def u9 (E:Env)(j9:List p6)(y9:Option Nat)(k:Nat)(i:p6)(st:G4):Option (G4×List Nat) :=
 match u5 st.L i.guard with
 |some true =>
  match D6 E j9 y9 k i.op st with
  |some (st',rs)=>match r9 y9 st' k i.dst with
   |some st2=>some (st2,rs)
   |none=>none
  |none=>none
 |some false=>match r9 y9 (put st k (.tuple [])) k i.dst with
  |some st2=>some (st2,[])
  |none=>none
 |none=>none
def eA (E:Env)(j9:List p6):List p6->Nat->G4->Option G4
 |[],_,st=>some st
 |i::is,k,st=>match u9 E j9 none k i st with
  |some (st',_)=>eA E j9 is (k+1) st'
  |none=>none
def z6.z7:z6->Bool
 | .alloc _=>true
 | .box _=>true
 | .makeMap=>true
 | .A2 _ _ _ _ ob=>ob
 | .append _ _ ob _ _=>ob
 | .mX _=>true
 |_=>false
def z6.makes:z6->Bool
 | .mX _=>false
 |op=>op.z7
def G9 (hs:List Touch)(rs:List Nat):Bool:=hs.any fun t=>rs.any fun id=>t.K0 id
structure jj where
 reads:List Nat
 Fs:List Touch
 FV:Nat
 id:Nat
def L0 (E:Env)(st:G4):z6->Nat
 | .call f xs=>if E.prom f then st.H.length else E9 st.H E.lim.strict 8 (A4 (xs.map (I5 st.T st.L)))
 | .an x xs=>match I5 st.T st.L x with
  | .func f first caps=>if E.prom f then st.H.length else E9 st.H E.lim.strict 8 (A4 (first++xs.map (I5 st.T st.L)++caps))
  |_=>0
 |_=>0
def F1 (st:G4):z6->Bool
 | .append _ _ _ x _=>match I5 st.T st.L x with
  | .A8 _ _ _ _=>true
  |_=>false
 |_=>false
def fD:Option Nat->List Touch
 |some n=>[.obj n]
 |none=>[]
def cK (E:Env)(i:p6)(y9:Option Nat)(st st' :G4)(rs:List Nat):jj :=
 ⟨rs,fD y9++st'.o7.take (st'.o7.length - st.o7.length),L0 E st i.op,y9.getD 0⟩
def calm (st:G4)(op:z6)(a:p6):Bool:=match op,a.op with
 | .append _ _ _ x _,.Q3 (.slot s)=>a.dst.isNone&&a.guard.isNone&&(match I5 st.T st.L x,st.T[s]? with
  | .A8 id _ _ _,some (.ptr j _)=> !s7 j id
  |_,_=>false)
 |_,_=>false
def iY (E:Env)(j9:List p6)(y9:Option Nat)(k:Nat)(i:p6)(st:G4):Option (G4×jj) :=
 if F1 st i.op&&j9.any (fun a=>a.aX.contains k&& !calm st i.op a) then none else
 match u9 E j9 y9 k i st with
 |some (st',rs)=>some (st',cK E i y9 st st' rs)
 |none=>none
def P6 (E:Env)(j9:List p6):List p6->Nat->Nat->G4->Option (G4×List jj)
 |[],_,_,st=>some (st,[])
 |i::is,k,na,st=>match iY E j9 (if i.op.z7 then some na else none) k i st with
  |some (st',l) =>
   match P6 E j9 is (k+1) (if i.op.z7 then na+1 else na) st' with
   |some (st2,lg)=>some (st2,l::lg)
   |none=>none
  |none=>none
def qH (j9:List p6)(lg:List jj):Bool :=
 (j9.zip lg).all fun (i,l)=>i.aX.all fun e=>match lg[e]? with
  |some le=> !G9 le.Fs l.reads&&(!i.op.makes||decide (le.FV<=l.id))
  |none=>false
def Y9 (j9:List p6):o9:=(j9.filter (·.op.z7)).map fun _=> .dead
def slotsOf (j9:List p6):List Touch:=j9.filterMap fun i=>if i.op.z7 then i.dst.map .slot else none
def Q4 (E:Env)(j9:List p6)(draw:Bool)(T:List c8)(H:o9):Option G4 :=
 if draw then
  match P6 E j9 j9 0 H.length ⟨T,H++Y9 j9,c9 j9.length .any,slotsOf j9⟩ with
  |some (st,lg)=>if qH j9 lg then some st else none
  |none=>none
 else eA E j9 j9 0 ⟨T,H,c9 j9.length .any,[]⟩
inductive F7 where
 |normal
 |exit (id:Nat)
 |ret
 deriving Inhabited
structure St where
 T:List c8
 H:o9
def U9:List Bool->List c8->List c8
 |true::m,v::vs=>v::U9 m vs
 |false::m,_::vs=> .any::U9 m vs
 |[],_::vs=> .any::U9 [] vs
 |_,[]=>[]
def clean (mask:List Bool)(strict n:Nat)(st:St):St :=
 if A4 (U9 mask st.T)<=n/\L8 ((st.H.take n).drop strict)<=n then ⟨U9 mask st.T,st.H.take n⟩ else ⟨U9 mask st.T,st.H⟩
def gl (body:St->Option (F7×St))(mask:List Bool)(strict n:Nat):Nat->St->Option (F7×St)
 |0,_=>none
 |k+1,st=>match body (clean mask strict n st) with
  |some (.normal,st')=>gl body mask strict n k st'
  |r=>r
def dF:List c8->Nat->Option (Nat×Nat×Nat×Nat×Nat)
 |[],_=>none
 | .A8 id sz lo len::_,i=>some (i,id,sz,lo,len)
 |_::r,i=>dF r (i+1)
def wG (lim:F2)(entry s:Nat)(st:St):Option St :=
 match st.T[s]? with
 |some (.ptr b 0)=>match st.H[b]? with
  |some (.cells cs)=>match dF cs 0 with
   |some (i,id,sz,lo,len)=>match rd st.H id lo (len * sz) with
    |some vs=>match M6 vs with
     |some xs =>
      if lim.base<=id/\entry<=id/\lim.may id=true/\lim.base<=b/\id≠b then
       some ⟨H9 id st.T,((st.H.take lim.base++(st.H.drop lim.base).map (u0.kill id)).set id .dead).set b (.cells ((H9 id cs).set i (.d (.slice len xs))))⟩
      else none
     |none=>none
    |none=>none
   |none=>none
  |_=>none
 |_=>none
mutual
def c8.forget:c8->c8
 | .d (.slice n [])=> .d (.slice n [])
 | .d (.slice _ (_::_))=> .any
 | .own _ _ _=> .any
 | .S7 _=> .any
 | .agg l=> .agg (R4 l)
 | .tuple l=> .tuple (R4 l)
 | .func f a b=> .func f (R4 a) (R4 b)
 |v=>v
def R4:List c8->List c8
 |[]=>[]
 |v::vs=>v.forget::R4 vs
end
def u0.forget:u0->u0
 | .dead=> .dead
 | .cells l=> .cells (R4 l)
 | .map es=> .map (es.map fun p=>(p.1,p.2.forget))
def Data.flat:Data->Bool
 | .slice _ _=>false
 |_=>true
def wU:List c8->Nat->Option (Nat×Nat×Nat×List Data)
 |[],_=>none
 | .own sz len xs::_,i=>some (i,sz,len,xs)
 |_::r,i=>wU r (i+1)
def MY (lim:F2)(entry s:Nat)(st:St):Option St :=
 match st.T[s]? with
 |some (.ptr b 0)=>match st.H[b]? with
  |some (.cells cs)=>match wU cs 0 with
   |some (i,sz,len,xs) =>
    if len=0 then some st else
    if entry=0/\lim.base=0/\lim.strict=0/\xs.all Data.flat=true then
     some ⟨R4 st.T,(st.H.map u0.forget).set b (.cells ((R4 cs).set i (.A8 st.H.length sz 0 len)))++[.cells (xs.map .d)]⟩
    else none
   |none=>none
  |_=>none
 |some (.own sz len xs) =>
  if len=0 then some st else
  if entry=0/\lim.base=0/\lim.strict=0/\xs.all Data.flat=true then
   some ⟨(R4 st.T).set s (.A8 st.H.length sz 0 len),st.H.map u0.forget++[.cells (xs.map .d)]⟩
  else none
 |_=>none
def nR (lim:F2)(entry s:Nat)(st:St):Option St :=
 match wG lim entry s st with
 |some r=>some r
 |none=>MY lim entry s st
def exec (E:Env)(lim:Nat):q9->St->Option (F7×St)
 | .skip,st=>some (.normal,st)
 | .region ops draw,st=>match Q4 E ops draw st.T st.H with
  |some r=>some (.normal,⟨r.T,r.H⟩)
  |none=>none
 | .seq a b,st=>match exec E lim a st with
  |some (.normal,st')=>exec E lim b st'
  |r=>r
 | .cond c a b,st=>match I5 st.T [] c with
  | .d (.bool true)=>exec E lim a st
  | .d (.bool false)=>exec E lim b st
  |_=>none
 | .test ops draw c a b,st=>match Q4 E ops draw st.T st.H with
  |some r=>match I5 r.T r.L c with
   | .d (.bool true)=>exec E lim a ⟨r.T,r.H⟩
   | .d (.bool false)=>exec E lim b ⟨r.T,r.H⟩
   |_=>none
  |none=>none
 | .block id body,st=>match exec E lim body st with
  |some (.exit id',st')=>if id' =id then some (.normal,st') else some (.exit id',st')
  |r=>r
 | .loop mask body,st=>gl (exec E lim body) mask E.lim.strict st.H.length lim st
 | .exit id,st=>some (.exit id,st)
 | .ret,st=>some (.ret,st)
 | .fz s,st=>match nR E.lim E.entry s st with
  |some st' =>some (.normal,st')
  |none=>none
 | .bad,_=>none
def jT (T:List c8)(H:o9):Cc->Option c8
 | .slot s=>T[s]?
 | .cell s none=>match T[s]? with
  |some (.ptr id off)=>match rd H id off 1 with
   |some [v]=>some v.J2
   |_=>none
  |_=>none
 | .cell s (some n)=>match T[s]? with
  |some (.ptr id off)=>match rd H id off n with
   |some vs=>some (.agg (vs.map c8.J2))
   |none=>none
  |_=>none
def aN (T:List c8)(H:o9):List Cc->Option (List c8)
 |[]=>some []
 |r::rs=>match jT T H r with
  |some v=>match aN T H rs with
   |some vs=>some (v::vs)
   |none=>none
  |none=>none
def j7:List c8->c8
 |[v]=>v
 |vs=> .tuple (vs.map c8.J2)
def bF (H:o9)(n:Nat):Nat->List c8->Option (List c8)
 |0,_=>none
 |_+1,[]=>some []
 |fuel+1,v::vs =>
  match bF H n fuel vs with
  |none=>none
  |some ws =>
   match v with
   | .A8 id sz lo len =>
    if id<n then some (.A8 id sz lo len::ws) else
    match rd H id lo (len * sz) with
    |some us=>match bF H n fuel us with
     |some us' =>match M6 us' with
      |some xs=>some (.d (.slice len xs)::ws)
      |none=>none
     |none=>none
    |none=>none
   | .agg l=>match bF H n fuel l with
    |some l' =>some (.agg l' ::ws)
    |none=>none
   | .tuple l=>match bF H n fuel l with
    |some l' =>some (.tuple l' ::ws)
    |none=>none
   |v=>some (v::ws)
structure Prog where
 fn:FuncId->Option s6
 idle:FuncId->Bool
 mode:FuncId->Nat
 cw:FuncId->Option (List c8->o9->F2->Option (c8×o9))
def Prog.prom (A:Prog)(f:FuncId):Bool:=match A.fn f with
 |some af=>af.bC
 |none=>false
def finish (bC:Bool)(n:Nat)(vs:List c8)(H:o9):Option (c8×o9) :=
 if bC then some (j7 vs,H) else
 match bF H n 1000000 [j7 vs] with
 |some [v]=>if v.K5<=n then some (v,H.take n) else none
 |_=>none
def fW (A:Prog)(cf:rZ)(lim:Nat)(af:s6)(args:List c8)(H:o9)(l:F2):Option (c8×o9) :=
 if args.length=af.nparams then
  match exec ⟨cf,A.prom,A.mode,A.idle,l,H.length⟩ lim af.body ⟨args++c9 (af.names.length - args.length) .any,H⟩ with
  |some (.exit _,_)=>none
  |some (_,st) =>
   match aN st.T st.H af.results with
   |some vs=>finish af.bC H.length vs st.H
   |none=>none
  |none=>none
 else none
def call (A:Prog):Nat->rZ
 |0=>fun _ _ _ _=>none
 |n+1=>fun f args H l =>
  match A.cw f with
  |some p=>p args H l
  |none=>match A.fn f with
   |some af=>fW A (call A n) n af args H l
   |none=>none
inductive Place where
 |slot (s:Nat)
 |loc (j:Nat)
 |cell (id off:Nat)
 |none
 |ret
 deriving DecidableEq
inductive Qe where
 |free
 |kg
 |held (n:Nat)
 |obj (id:Nat)
 |grow (n:Nat) (pl:Place)
 deriving DecidableEq
abbrev Gh:=Nat->Qe
abbrev R3:=Nat->Nat×Nat
def gX (G:Gh)(b o:Nat):Prop :=
 match G b with
 | .kg=>True
 | .held n=>o<n
 | .grow n _=>o<n
 |_=>False
abbrev ad (b o:Nat):Addr:=⟨b,o,Option.none⟩
mutual
def DR (G:Gh)(w:World):Data->Value->Prop
 | .bool b,v=>v= .bool b
 | .int k n,v=>v= .int k n
 | .str s,v=>v= .string ⟨s.toArray⟩
 | .slice len cells,v=>((v= .slice Option.none 0 0\/∃ a,v= .slice (some a) 0 0)/\len=0/\cells=[]) \/
   ∃ b o cap,v= .slice (some (ad b o)) len cap/\len<=cap/\dX G w b o cells
 | .br,v=>v= .pointer Option.none
 | .N9,v=>v= .nilFunc
 | .cu,v=>v= .map Option.none
 | .nilIface,v=>v= .nilIface
def dX (G:Gh)(w:World)(b:Nat):Nat->List Data->Prop
 |_,[]=>True
 |o,c::cs=>gX G b o/\(∃ x,w.cell? (ad b o)=some x/\DR G w c x)/\dX G w b (o+1) cs
end
def Lr (f:Nat×Nat)(n:Nat):Prop:=∀ o,o<n->¬ (f.1<=o/\o<f.2)
mutual
def VR (G:Gh)(I:R3)(N:Nat->Prop)(w:World):Place->c8->Value->Prop
 |_,.any,_=>True
 |_,.d x,v=>DR G w x v
 |_,.ptr id off,v=>N id/\v= .pointer (some (ad (I id).1 ((I id).2+off)))
 |_,.S7 cells,v=>∃ b o,v= .pointer (some (ad b o))/\dX G w b o cells
 |_,.A8 id sz lo len,v=>N id/\∃ cap,v= .slice (some (ad (I id).1 ((I id).2+lo))) len cap/\len<=cap /\
   ∃ c e f,w.heap[(I id).1]? =some (.cells c e f)/\(I id).2+lo+cap * sz<=c.size
 |pl,.own sz len cells,v=>cells.length=len * sz /\
   (((v= .slice Option.none 0 0\/∃ b o,v= .slice (some (ad b o)) 0 0)/\len=0) \/
    (pl≠ .none/\∃ b o cap c e f,v= .slice (some (ad b o)) len cap/\len<=cap/\w.heap[b]? =some (.cells c e f)/\o+cap * sz<=c.size/\Lr f c.size /\
     G b= .grow (o+len * sz) pl/\dX G w b o cells))
 |_,.N7,v=>v= .slice Option.none 0 0
 |_,.agg l,v=>∃ cs:Array Value,v= .agg cs/\J5 G I N w l cs.toList
 |_,.tuple l,v=>∃ cs:Array Value,v= .tuple cs/\J5 G I N w l cs.toList
 |_,.func f a b,v=>∃ x y:Array Value,v= .func (.func f) x y/\J5 G I N w a x.toList/\J5 G I N w b y.toList
 |_,.map id,v=>N id/\v= .map (some (I id).1)
def J5 (G:Gh)(I:R3)(N:Nat->Prop)(w:World):List c8->List Value->Prop
 |[],vs=>vs=[]
 |a::as,vs=>∃ x xs,vs=x::xs/\VR G I N w .none a x/\J5 G I N w as xs
end
def KD.val:KD->Value
 | .i k n=> .int k n
 | .s x=> .string ⟨x.toArray⟩
 | .b t=> .bool t
def Key.val:Key->Value
 | .int k n=> .int k n
 | .str x=> .string ⟨x.toArray⟩
 | .bool t=> .bool t
 | .st l=> .agg (l.map KD.val).toArray
def ER (G:Gh)(I:R3)(N:Nat->Prop)(w:World):List (Key×c8)->List MapEntry->Prop
 |[],es=>es=[]
 |(k,v)::r,es=>∃ e es',es=e::es' /\e.key=k.val/\VR G I N w .none v e.val/\ER G I N w r es'
structure GH (arr:Array MapEntry)(eS:Nat):Prop where
 old:∀ e ∈ arr.toList,e.born<eS
 nodup:(arr.toList.map (·.born)).Nodup
theorem GH.push {arr:Array MapEntry}{eS:Nat}(h:GH arr eS)(k v:Value):GH (arr.push { key:=k,val:=v,born:=eS }) (eS+1) where
 old e he:=by
  rw [Array.toList_push] at he
  rcases M4.1 he with he|he
  .exact Nat.lt_succ_of_lt (h.old e he)
  simp_all
 nodup:=by
  rw [Array.toList_push,List.map_append,List.nodup_append];refine ⟨h.nodup,by simp,fun a ha b hb=> ?_⟩;simp [F4,List.map_nil,q6] at hb;obtain ⟨e,he,rfl⟩:=F5.1 ha;have:=h.old e he;omega
theorem GH.modify {arr:Array MapEntry}{eS:Nat}(h:GH arr eS)(j:Nat)(g:MapEntry->MapEntry)(hg:∀ e,(g e).born=e.born):GH (arr.modify j g) eS:=by
 have e1:(arr.modify j g).toList.map (·.born)=arr.toList.map (·.born):=by
  apply List.ext_getElem?
  grind
 refine ⟨fun e he=> ?_,by rw [e1];exact h.nodup⟩;have:e.born ∈ arr.toList.map (·.born):=by
  grind
 obtain ⟨e',he',hb⟩:=F5.1 this;rw [<- hb];exact h.old e' he'
def OR (G:Gh)(I:R3)(N:Nat->Prop)(w:World)(id:Nat):u0->Prop
 | .dead=>True
 | .cells l=>N id/\∃ c e f,w.heap[(I id).1]? =some (.cells c e f)/\G (I id).1= .obj id/\Lr f c.size/\(I id).2+l.length<=c.size /\
   ∀ i x,l[i]? =some x->∃ v,c[(I id).2+i]? =some v/\VR G I N w (.cell id i) x v
 | .map es=>N id/\∃ arr eS,w.heap[(I id).1]? =some (.map arr eS)/\G (I id).1= .obj id/\ER G I N w es arr.toList/\GH arr eS
def HR (G:Gh)(I:R3)(N:Nat->Prop)(w:World)(H:o9):Prop:=∀ id o,H[id]? =some o->OR G I N w id o
def WF (G:Gh)(w:World):Prop:=∀ b,w.heap.size<=b->G b= .free
structure Sub (G:Gh)(w:World)(G' :Gh)(w' :World):Prop where
 kg:∀ b o:Nat,gX G b o->gX G' b o/\w'.cell? (ad b o)=w.cell? (ad b o)
 shape:∀ (b:Nat) (c:Array Value) (e:TypeId) (f:Nat×Nat),w.heap[b]? =some (Obj.cells c e f)->∃ c' :Array Value,w'.heap[b]? =some (Obj.cells c' e f)/\c'.size=c.size
class D9 where
 on:Prop
section
variable [D9]
structure Ext (G:Gh)(w:World)(G' :Gh)(w' :World):Prop where
 os:w'.os=w.os
 tape:w'.tape=w.tape
 output:w'.output=w.output
 drawn:D9.on->w.drawn<=w'.drawn
 size:w.heap.size<=w'.heap.size
 kg:∀ b o:Nat,gX G b o->gX G' b o/\w'.cell? (ad b o)=w.cell? (ad b o)
 still:∀ b:Nat,(G b= .kg\/∃ n,G b= .held n)->G' b=G b/\w'.heap[b]? =w.heap[b]?
 shape:∀ (b:Nat) (c:Array Value) (e:TypeId) (f:Nat×Nat),w.heap[b]? =some (Obj.cells c e f)->∃ c' :Array Value,w'.heap[b]? =some (Obj.cells c' e f)/\c'.size=c.size
def Ext.sub {G:Gh}{w:World}{G' :Gh}{w' :World}(h:Ext G w G' w'):Sub G w G' w' :=⟨h.kg,h.shape⟩
instance {G:Gh} {w:World} {G' :Gh} {w' :World}:CoeOut (Ext G w G' w') (Sub G w G' w'):=⟨Ext.sub⟩
theorem Ext.refl (G:Gh)(w:World):Ext G w G w :=
 ⟨rfl,rfl,rfl,fun _=>o5 _,o5 _,fun _ _ h=>⟨h,rfl⟩,fun _ _=>⟨rfl,rfl⟩,fun _ c _ _ h=>⟨c,h,rfl⟩⟩
theorem Ext.trans {G:Gh}{w:World}{G1:Gh}{w1:World}{G2:Gh}{w2:World}(h:Ext G w G1 w1)(k:Ext G1 w1 G2 w2):Ext G w G2 w2 where
 os:=k.os.trans h.os
 tape:=k.tape.trans h.tape
 output:=k.output.trans h.output
 drawn o:=B6 (h.drawn o) (k.drawn o)
 size:=B6 h.size k.size
 kg b o hi:=by
  obtain ⟨a1,a2⟩:=h.kg b o hi;obtain ⟨b1,b2⟩:=k.kg b o a1;simp_all
 still b hb:=by
  obtain ⟨a1,a2⟩:=h.still b hb;obtain ⟨b1,b2⟩:=k.still b (by simp_all);simp_all
 shape b c e f hc:=by
  obtain ⟨c1,h1,s1⟩:=h.shape b c e f hc;obtain ⟨c2,h2,s2⟩:=k.shape b c1 e f h1;simp_all
def Ext.drew {G:Gh}{w:World}{G' :Gh}{w' :World}(h:Ext G w G' w')(n:Nat)(hn:w'.drawn<=n):Ext G w G' { w' with drawn:=n } :=
 ⟨h.os,h.tape,h.output,fun o=>B6 (h.drawn o) hn,h.size,h.kg,h.still,h.shape⟩
end
mutual
theorem DR.mono {G:Gh}{w:World}{G' :Gh}{w' :World}
  (h:∀ b o,gX G b o->gX G' b o/\w'.cell? (ad b o)=w.cell? (ad b o)):∀ (d:Data) (v:Value),DR G w d v->DR G' w' d v
 | .bool _,_,hd=>by simp_all [DR]
 | .int _ _,_,hd=>by simp_all [DR]
 | .str _,_,hd=>by simp_all [DR]
 | .slice _ cells,_,hd=>by
  simp [DR] at hd ⊢
  rcases hd with hd|⟨b,o,cap,h1,h2,h3⟩
  .simp_all
  .exact Or.inr ⟨b,o,cap,h1,h2,dX.mono h b o cells h3⟩
 | .br,_,hd=>by simp_all [DR]
 | .N9,_,hd=>by simp_all [DR]
 | .cu,_,hd=>by simp_all [DR]
 | .nilIface,_,hd=>by simp_all [DR]
theorem dX.mono {G:Gh}{w:World}{G' :Gh}{w' :World}
  (h:∀ b o,gX G b o->gX G' b o/\w'.cell? (ad b o)=w.cell? (ad b o)) (b:Nat):∀ (o:Nat) (l:List Data),dX G w b o l->dX G' w' b o l
 |_,[],_=>by simp [dX]
 |o,c::cs,hd=>by
  obtain ⟨h1,⟨x,h2,h3⟩,h4⟩:=hd;obtain ⟨i1,i2⟩:=h b o h1;exact ⟨i1,⟨x,i2.trans h2,DR.mono h c x h3⟩,dX.mono h b (o+1) cs h4⟩
end
def bz (pl:Place)(G:Gh)(w:World)(G' :Gh)(w' :World):Prop :=
 ∀ b n,G b= .grow n pl->G' b= .grow n pl/\w'.heap[b]? =w.heap[b]?
mutual
theorem VR.mono {G:Gh}{I:R3}{N:Nat->Prop}{w:World}{G' :Gh}{I' :R3}{N' :Nat->Prop}{w' :World}(hx:Sub G w G' w')
  (hI:∀ id,N id->I' id=I id) (hN:∀ id,N id->N' id):∀ (pl:Place) (a:c8) (v:Value),(pl= .none\/bz pl G w G' w')->VR G I N w pl a v->VR G' I' N' w' pl a v
 |_,.any,_,_,_=>by simp [VR]
 |_,.d x,v,_,h=>by exact DR.mono hx.kg x v h
 |_,.ptr id off,v,_,h=>by
  simp_all [VR]
 |_,.S7 cells,v,_,h=>by
  obtain ⟨b,o,h1,h2⟩:=h;exact ⟨b,o,h1,dX.mono hx.kg b o cells h2⟩
 |_,.A8 id sz lo len,v,_,h=>by
  simp only [VR] at h ⊢;obtain ⟨h1,cap,h2,h3,c,e,f,h4,h5⟩:=h;obtain ⟨c',g1,g2⟩:=hx.shape _ c e f h4;simp_all
 |pl,.own sz len cells,v,hk,h=>by
  obtain ⟨h0,h⟩:=h;refine ⟨h0,?_⟩
  rcases h with h|⟨hp,b,o,cap,c,e,f,h1,h2,h3,h4,h5,h6,h7⟩
  .simp_all
  .rcases hk with hk|hk
   .simp_all
   .obtain ⟨k1,k2⟩:=hk b _ h6
    exact Or.inr ⟨hp,b,o,cap,c,e,f,h1,h2,k2.trans h3,h4,h5,k1,dX.mono hx.kg b o cells h7⟩
 |_,.N7,v,_,h=>by simp_all [VR]
 |_,.agg l,v,_,h=>by
  obtain ⟨cs,h1,h2⟩:=h;exact ⟨cs,h1,J5.mono hx hI hN l _ h2⟩
 |_,.tuple l,v,_,h=>by
  obtain ⟨cs,h1,h2⟩:=h;exact ⟨cs,h1,J5.mono hx hI hN l _ h2⟩
 |_,.func f a b,v,_,h=>by
  obtain ⟨x,y,h1,h2,h3⟩:=h;exact ⟨x,y,h1,J5.mono hx hI hN a _ h2,J5.mono hx hI hN b _ h3⟩
 |_,.map id,v,_,h=>by
  simp_all [VR]
theorem J5.mono {G:Gh}{I:R3}{N:Nat->Prop}{w:World}{G' :Gh}{I' :R3}{N' :Nat->Prop}{w' :World}(hx:Sub G w G' w')
  (hI:∀ id,N id->I' id=I id) (hN:∀ id,N id->N' id):∀ (l:List c8) (vs:List Value),J5 G I N w l vs->J5 G' I' N' w' l vs
 |[],_,h=>by grind [J5]
 |a::as,vs,h=>by
  obtain ⟨x,xs,h1,h2,h3⟩:=h;exact ⟨x,xs,h1,VR.mono hx hI hN .none a x (Or.inl rfl) h2,J5.mono hx hI hN as xs h3⟩
end
theorem ER.mono {G:Gh}{I:R3}{N:Nat->Prop}{w:World}{G' :Gh}{I' :R3}{N' :Nat->Prop}{w' :World}(hx:Sub G w G' w')
  (hI:∀ id,N id->I' id=I id) (hN:∀ id,N id->N' id):∀ (l:List (Key×c8)) (es:List MapEntry),ER G I N w l es->ER G' I' N' w' l es
 |[],_,h=>by grind [ER]
 |(k,v)::r,es,h=>by
  obtain ⟨e,es',h1,h2,h3,h4⟩:=h;exact ⟨e,es',h1,h2,VR.mono hx hI hN .none _ _ (Or.inl rfl) h3,ER.mono hx hI hN r es' h4⟩
theorem OR.mono {G:Gh}{I:R3}{N:Nat->Prop}{w:World}{G' :Gh}{I' :R3}{N' :Nat->Prop}{w' :World}(hx:Sub G w G' w')
  (hI:∀ id,N id->I' id=I id) (hN:∀ id,N id->N' id) (id:Nat) (o:u0)
  (hb:G (I id).1= .obj id->G' (I id).1= .obj id/\w'.heap[(I id).1]? =w.heap[(I id).1]?)
  (hc:∀ off,bz (.cell id off) G w G' w') (h:OR G I N w id o):OR G' I' N' w' id o:=by
 cases o with
 |dead=>simp [OR]
 |cells l =>
  grind [OR,VR.mono]
 |map es =>
  grind [OR,ER.mono]
theorem VR.J2 {G:Gh}{I:R3}{N:Nat->Prop}{w:World}{pl wW :Place}:∀ {a:c8} {v:Value},VR G I N w pl a v->VR G I N w wW a.J2 v
 | .any,_,_=>by simp [c8.J2,VR]
 | .d _,_,h=>by grind [c8.J2,VR]
 | .ptr _ _,_,h=>by grind [c8.J2,VR]
 | .S7 _,_,h=>by grind [c8.J2,VR]
 | .A8 _ _ _ _,_,h=>by grind [c8.J2,VR]
 | .own sz len cells,v,h=>by
  simp [c8.J2,VR,DR] at h ⊢;obtain ⟨h0,h⟩:=h
  rcases h with ⟨h1,h2⟩|⟨hp,b,o,cap,c,e,f,h1,h2,h3,h4,h5,h6,h7⟩
  all_goals (simp_all [dX]<;>grind)
 | .N7,v,h=>by
  simp_all [c8.J2,VR,DR,trivial]
 | .agg _,_,h=>by grind [c8.J2,VR]
 | .tuple _,_,h=>by grind [c8.J2,VR]
 | .func _ _ _,_,h=>by grind [c8.J2,VR]
 | .map _,_,h=>by grind [c8.J2,VR]
theorem VR.Qq {G:Gh}{I:R3}{N:Nat->Prop}{w:World}{pl wW :Place}{a:c8}{v:Value}(h:VR G I N w pl a v):VR G I N w wW a.Qq v:=by
 cases a
 case N7=>simp_all [c8.Qq,VR]
 all_goals exact h.J2
def SN {u:c8}(h:u.J2=u):u.Qq=u:=by
 cases u
 case N7=>rfl
 all_goals exact h
def EZ:Value->c8->Bool
 |_,.any=>true
 | .bool b,.d (.bool c)=>b==c
 | .int k n,.d (.int k' n')=>k==k' &&n==n'
 | .string s,.d (.str l)=>s.data.toList==l
 | .slice Option.none 0 0,.own _ 0 []=>true
 | .slice Option.none 0 0,.N7=>true
 | .slice Option.none 0 0,.d (.slice 0 [])=>true
 | .pointer Option.none,.d .br=>true
 | .map Option.none,.d .cu=>true
 | .nilFunc,.d .N9=>true
 | .nilIface,.d .nilIface=>true
 |_,_=>false
def consts:List Value->List c8->Bool
 |[],[]=>true
 |v::vs,a::as=>EZ v a&&consts vs as
 |_,_=>false
def ye:Value->c8->Bool
 | .agg cs,.agg l=>consts cs.toList l
 |v,a=>EZ v a
structure Cx where
 P:Program
 names:List Tmp
 ops:Array Oper
def Cx.ck (X:Cx)(D:Nat->Bool):Operand->y6->Bool
 | .tmp t,.slot s=>X.names[s]? ==some t
 | .tmp t,.loc j=>D j&&((X.ops[j]?).bind (·.dst))==some t&& !X.names.contains t
 | .const v,.const a=>ye v a
 | .func f,.const (.func g [] [])=>f==g
 |_,.const .any=>true
 |_,_=>false
def SF (ck:Operand->y6->Bool):List Operand->List y6->Bool
 |[],[]=>true
 |x::xs,y::ys=>ck x y&&SF ck xs ys
 |_,_=>false
def ckO (ck:Operand->y6->Bool):Option Operand->Option y6->Bool
 |none,none=>true
 |some x,some y=>ck x y
 |_,_=>false
def dc (P:Program)(t:TypeId):Option Bool :=
 match P.underlying t with
 |some (.struct _)=>some true
 |some (.array _ _)=>some true
 |some _=>some false
 |none=>none
def rN (P:Program)(t:TypeId):Option Nat->Bool
 |none=>dc P t==some false
 |some n=>dc P t==some true&&P.cellsOf t==n&&decide (0<n)
def nZ (P:Program)(t:TypeId)(sz:Nat):Bool :=
 match P.underlying t with
 |some (.slice e)=>P.cellsOf e==sz&&(P.info? e).isSome
 |_=>false
def eu (P:Program)(t:TypeId):CK->Bool
 | .i=>match P.underlying t with
  |some (.int _)=>true
  |_=>false
 | .s=>match P.underlying t with
  |some .string=>true
  |_=>false
 | .b=>match P.underlying t with
  |some .bool=>true
  |_=>false
def S3 (P:Program):List Field->Nat->List CK->Bool
 |[],_,[]=>true
 | f :: fs, n, k :: ks => f.name != "_" && eu P f.type k && f.offset == n && S3 P fs (n + 1) ks
 |_,_,_=>false
def iL (P:Program)(t:TypeId)(ks:List CK):Bool :=
 match P.underlying t with
 |some (.struct fs)=>S3 P fs.toList 0 ks&& !P.stoodInHeld t&& !P.eqGuardType P.depth t
 |_=>false
def dA (P:Program):List Field->Nat->List CK->Bool
 |[],_,[]=>true
 |[],_,_::_=>false
 | f :: fs, n, ks => f.name != "_" && f.offset == n &&
  (match P.underlying f.type with
  |some (.struct gs)=>(P.info? f.type).isSome&&P.cellsOf f.type==gs.size&&S3 P gs.toList 0 (ks.take gs.size)&& !P.stoodInHeld f.type&&dA P fs (n+gs.size) (ks.drop gs.size)
  |_=>(match ks with
   |k::r=>eu P f.type k&&dA P fs (n+1) r
   |[]=>false))
def wF (P:Program)(t:TypeId)(ks:List CK):Bool :=
 match P.underlying t with
 |some (.struct fs)=>dA P fs.toList 0 ks&& !P.stoodInHeld t&& !P.eqGuardType P.depth t
 |_=>false
def uY (P:Program)(t:TypeId):KK->Bool
 | .i=>eu P t .i
 | .s=>eu P t .s
 | .b=>eu P t .b
 | .st ks=>iL P t ks
def jD (P:Program)(ck:Operand->y6->Bool)(place:Nat->Option (Nat×Nat)):List (Nat×Operand)->List (Nat×Nat×y6)->Bool
 |[],[]=>true
 |(i,x)::r,(off,sz,y)::q=>place i==some (off,sz)&&ck x y&&jD P ck place r q
 |_,_=>false
def wE (P:Program)(fs:List Field):Option (List (Nat×Nat)):=fs.mapM fun f=>(P.info? f.type).map fun i=>(f.offset,i.size)
def BH (P:Program)(t:TypeId)(l:List c8):Bool :=
 match P.info? t with
 |some i=>match i.zero with
  |some z=>consts z.cells.toList l
  |none=>false
 |none=>false
def E4 (P:Program)(ck:Operand->y6->Bool)(o:Oper)(op:z6):Bool :=
 match o.op,op with
 | .pick c a b,.pick c' a' b' =>ck c c' &&ck a a' &&ck b b'
 | .load t x,.load n y=>ck x y&&rN P t n
 | .nilCheck x,.aU y=>ck x y
 | .binOp b _ x y _,.bin b' x' y' =>b==b' &&ck x x' &&ck y y'
 | .binOp b t x (.const (.slice Option.none 0 0)) _,.Au neg x' =>ck x x' &&(match P.underlying t with|some (.slice _)=>true|_=>false)&&(if neg then b== .neq else b== .eql)
 | .binOp b t x y _,.s8 neg x' y' =>ck x x' &&ck y y' &&(match P.underlying t with|some .bool=>true|_=>false)&&(if neg then b== .neq else b== .eql)
 | .binOp b t x y _,.Hv neg ks x' y' =>ck x x' &&ck y y' &&wF P t ks&&(if neg then b== .neq else b== .eql)
 | .unOp b _ x,.un b' x' =>b==b' &&ck x x'
 | .convert s d x,.mP k y=>ck x y&&(P.underlying s).isSome&&(match P.underlying d with|some (.int k')=>k==k' |_=>false)
 | .convert s d x,.jP y=>ck x y&&(match P.underlying s with|some (.slice e)=>(match P.underlying e with|some (.int .u8)=>true|_=>false)|_=>false)&&(match P.underlying d with|some .string=>true|_=>false)
 | .slice t x lo hi none,.Y8 sz y lo' hi' =>ck x y&&ckO ck lo lo' &&ckO ck hi hi' &&nZ P t sz&&decide (0<sz)
 | .fieldAddr s x f,.off k y=>ck x y&&(match P.underlying s with
  |some (.struct fs)=>(match fs[f]? with
   |some fd=>fd.offset==k&&decide (0<P.cellsOf fd.type)
   |none=>false)
  |_=>false)
 | .indexAddr t x i,.D5 sz y j=>ck x y&&ck i j&&nZ P t sz
 | .indexAddr t x i,.gJ n sz y j=>ck x y&&ck i j&&(match P.underlying t with|some (.array m e)=>m==n&&P.cellsOf e==sz&&(P.info? e).isSome|_=>false)
 | .index t x i,.J6 y j=>ck x y&&ck i j&&(match P.underlying t with|some .string=>true|_=>false)
 | .extract x i,.extract y j=>ck x y&&i==j
 | .call { callee:= .builtin .len,args,argTypes },.len y=>(match args[0]?,argTypes[0]? with
  |some x,some t=>ck x y&&(match P.underlying t with|some (.slice _)=>true|_=>false)
  |_,_=>false)
 | .call { callee:= .builtin .len,args,argTypes },.V5 y=>(match args[0]?,argTypes[0]? with
  |some x,some t=>ck x y&&(match P.underlying t with|some .string=>true|_=>false)
  |_,_=>false)
 | .call { callee:= .builtin .max,args,.. },.gL true ys=>SF ck args.toList ys&&decide (2<=ys.length)
 | .call { callee:= .builtin .min,args,.. },.gL false ys=>SF ck args.toList ys&&decide (2<=ys.length)
 | .makeFunc (.func f) first caps,.ay g first' ay9 =>f==g&&SF ck first.toList first' &&SF ck caps.toList ay9
 | .lookup t m k ok,.lookup kk zero Uy m' k' =>ok==Uy &&ck m m' &&ck k k' &&(match P.underlying t with
  |some (.map kt et)=>uY P kt kk&&(match P.info? et with
   |some i=>(match i.zero with
    |some z=>ye z zero
    |none=>false)
   |none=>false)
  |_=>false)
 | .build t parts,.build zero ps=>(match P.underlying t with
  |some (.struct fs)=>(match wE P fs.toList with
   |some places=>BH P t zero&&jD P ck (fun i=>places[i]?) parts.toList ps
   |none=>false)
  |some (.array _ e)=>(match P.info? e with
   |some i=>BH P t zero&&jD P ck (fun j=>some (j * i.size,i.size)) parts.toList ps
   |none=>false)
  |_=>false)
 |_,_=>false
theorem sH {G:Gh}{I:R3}{N:Nat->Prop}{w:World}:∀ (v:Value) (a:c8),EZ v a=true->VR G I N w .none a v:=by
 intro v a h;unfold EZ at h;split at h
 all_goals first
  |(done)
  |(simp at h;done)
  |(simp [VR,DR];done)
  |(simp only [VR,DR];simp_all;done)
  |skip
 .rename_i s l
  simp [VR,DR];have:s.data.toList=l:=by simpa using h
  subst this;simp
theorem ek {G:Gh}{I:R3}{N:Nat->Prop}{w:World}:∀ (vs:List Value) (l:List c8),consts vs l=true->J5 G I N w l vs
 |[],[],_=>by simp [J5]
 |v::vs,a::as,h=>by
  simp [consts,c7] at h;exact ⟨v,vs,rfl,sH v a h.1,ek vs as h.2⟩
 |[],_::_,h=>by simp [consts] at h
 |_::_,[],h=>by simp [consts] at h
def cF {G:Gh}{I:R3}{N:Nat->Prop}{w:World}(v:Value)(a:c8)(h:ye v a=true):VR G I N w .none a v:=by
 unfold ye at h
 grind [VR,ek,sH]
theorem U5 {w:World}{b:Nat}{c:Array Value}{e:TypeId}{f:Nat×Nat}(h:w.heap[b]? =some (.cells c e f))(o:Nat):w.cell? (ad b o)=c[o]? :=by
 simp [World.cell?,h]
theorem aK (b o n:Nat):(ad b o).add n=ad b (o+n):=by
 simp_all [Addr.add]
theorem dX.drop {G:Gh}{w:World}{b:Nat}:∀ (n o:Nat) (l:List Data),dX G w b o l->dX G w b (o+n) (l.drop n)
 |0,_,_,h=>by simpa using h
 |n+1,o,[],_=>by simp [dX]
 |n+1,o,c::cs,h=>by
  have:=dX.drop n (o+1) cs h.2.2
  grind
theorem dX.take {G:Gh}{w:World}{b:Nat}:∀ (n o:Nat) (l:List Data),dX G w b o l->dX G w b o (l.take n)
 |0,_,_,_=>by simp [dX]
 |n+1,o,[],_=>by simp [dX]
 |n+1,o,c::cs,h=>by
  simp_all [dX,List.take_succ_cons,dX.take]
theorem dX.vals {G:Gh}{I:R3}{N:Nat->Prop}{w:World}{b:Nat}:∀ (o:Nat) (l:List Data),dX G w b o l ->
  ∃ vs:List Value,vs.length=l.length/\(∀ j v,vs[j]? =some v->w.cell? (ad b (o+j))=some v)/\J5 G I N w (l.map .d) vs
 |_,[],_=>⟨[],rfl,by simp,by simp [J5]⟩
 |o,c::cs,h=>by
  obtain ⟨h1,⟨x,h2,h3⟩,h4⟩:=h;obtain ⟨vs,g1,g2,g3⟩:=dX.vals (I:=I) (N:=N) (o+1) cs h4;simp_all [J5,VR]<;>grind
theorem J5.length {G:Gh}{I:R3}{N:Nat->Prop}{w:World}:∀ (l:List c8) (vs:List Value),J5 G I N w l vs->vs.length=l.length
 |[],vs,h=>by simp_all [J5]
 |a::as,vs,h=>by
  obtain ⟨x,xs,h1,_,h3⟩:=h;subst h1;simp [J5.length as xs h3]
theorem HR.rd {G:Gh}{I:R3}{N:Nat->Prop}{w:World}{H:o9}(hH:HR G I N w H){id off n:Nat}{vs:List c8}(h:rd H id off n=some vs)(hn:0<n) :
  N id/\∃ xs:List Value,xs.length=n/\vs.length=n/\(∀ j v,xs[j]? =some v->w.cell? (ad (I id).1 ((I id).2+off+j))=some v) /\
   (∀ j a v,vs[j]? =some a->xs[j]? =some v->VR G I N w (.cell id (off+j)) a v):=by
 unfold x9.rd at h;split at h
 .rename_i l hl
  split at h
  .cases h
   have ho:=hH id _ hl;obtain ⟨hid,c,e,f,h1,h2,h3,h4,h5⟩:=ho
   .refine ⟨hid,(List.range n).map (fun j=>(c[(I id).2+off+j]?).getD default),by simp,by simp;omega,fun j v hj=> ?_,fun j a v ha hv=> ?_⟩
    .rw [U5 h1]
     grind
    .have hjn:j<n:=by
      grind
     grind
  .cases h
 .cases h
section
variable {P:Program} {w:World}
theorem info_of_underlying {t:TypeId}{d:TypeDesc}(h:P.underlying t=some d):(P.info? t).isSome=true:=by
 grind [Program.underlying]
theorem run_sizeOf {t:TypeId}(h:(P.info? t).isSome=true):(sizeOf t).run P w= .ok (P.cellsOf t) w:=by
 cases hi:P.info? t with
 |none=>simp_all
 |some i=>simp [sizeOf,typeInfo,hi,Program.cellsOf]
def bV {t:TypeId}{b:Bool}(h:dc P t=some b):(isAgg t).run P w= .ok b w:=by
 unfold dc at h;cases hu:P.underlying t with
 |none=>simp_all
 |some d=>cases d<;>simp [hu] at h<;>subst h<;>simp [isAgg,run_underlying hu]
def iO {t:TypeId}{sz:Nat}(h:nZ P t sz=true):∃ e,P.underlying t=some (.slice e)/\P.cellsOf e=sz/\(P.info? e).isSome=true:=by
 grind [nZ]
theorem R6 {G:Gh}{I:R3}{N:Nat->Prop}:∀ (l:List c8) (xs:List Value),xs.length=l.length ->
  (∀ (j:Nat) a v,l[j]? =some a->xs[j]? =some v->VR G I N w .none a v)->J5 G I N w l xs
 |[],xs,h,_=>by simp_all [J5]
 |a::as,[],h,_=>by simp at h
 |a::as,x::xs,h,hp=>by
  exact ⟨x,xs,rfl,hp 0 a x rfl rfl,R6 as xs (by simpa using h) fun j a' v ha hv=>hp (j+1) a' v (by simp_all) (by simp_all)⟩
theorem J5.get {G:Gh}{I:R3}{N:Nat->Prop}:∀ (l:List c8) (xs:List Value),J5 G I N w l xs->∀ (j:Nat) a,l[j]? =some a->∃ v,xs[j]? =some v/\VR G I N w .none a v
 |[],_,_,_,_,h=>by simp at h
 |a::as,xs,h,j,b,hb=>by
  obtain ⟨x,xs',h1,h2,h3⟩:=h;subst h1;cases j with
  |zero=>simp at hb;subst hb;exact ⟨x,rfl,h2⟩
  |succ j=>simpa using J5.get as xs' h3 j b (by simpa using hb)
def VR.place {G:Gh}{I:R3}{N:Nat->Prop}{a:c8}{x:Value}{pl:Place}(h:VR G I N w .none a x):VR G I N w pl a x:=by
 cases a with
 |own sz len cells =>
  simp_all [VR,absurd]
 |_=>simp_all [VR]
variable {ck:Operand->y6->Bool} {η:Operand->Value} {ρ:y6->c8} {G:Gh} {I:R3} {N:Nat->Prop} {H:o9}
abbrev Good (P:Program)(G:Gh)(I:R3)(N:Nat->Prop)(w:World)(η:Operand->Value)(o:Oper)(v:c8):Prop :=
 ∃ x,(execOp η o).run P w= .ok (.value x) w/\VR G I N w .none v x
abbrev cq (ck:Operand->y6->Bool)(G:Gh)(I:R3)(N:Nat->Prop)(w:World)(η:Operand->Value)(ρ:y6->c8):Prop :=
 ∀ x y,ck x y=true->VR G I N w .none (ρ y) (η x)
def Rt (hρ:cq ck G I N w η ρ){o:Oper}{c a b:y6}(hc:E4 P ck o (.pick c a b)=true){v:c8}{rs:List Nat}
  (h:n9 ρ H (.pick c a b)=some (v,rs)):Good P G I N w η o v:=by
 obtain ⟨dst,dW,ty,pos,after,guard⟩:=o;cases dW<;>simp [E4] at hc;rename_i c' a' b';have h1:=hρ _ _ hc.1.1;have h2:=hρ _ _ hc.1.2;have h3:=hρ _ _ hc.2;simp only [n9] at h;split at h
 .rename_i t ht
  simp at h;obtain ⟨rfl,rfl⟩:=h;rw [ht] at h1;simp only [VR,DR] at h1;refine ⟨if t then η a' else η b',by simp [execOp,h1,asBool],?_⟩;cases t<;>simpa
 .cases h
def Rr (hρ:cq ck G I N w η ρ)(hH:HR G I N w H){o:Oper}{n:Option Nat}{y:y6}(hc:E4 P ck o (.load n y)=true){v:c8}{rs:List Nat}
  (h:n9 ρ H (.load n y)=some (v,rs)):Good P G I N w η o v:=by
 obtain ⟨dst,dW,ty,pos,after,guard⟩:=o;cases dW<;>simp [E4] at hc;rename_i t x;have h1:=hρ _ _ hc.1;cases n with
 |none =>
  have ha:dc P t=some false:=by simp_all [rN]
  simp [n9] at h;split at h
  .rename_i id off hp
   rw [hp] at h1;simp [VR] at h1;split at h
   .rename_i u hu
    obtain ⟨rfl,rfl⟩:=h;obtain ⟨_,xs,g1,_,g3,g4⟩:=hH.rd hu (by omega);obtain ⟨z,rfl⟩:∃ z,xs=[z]:=by
     match xs,g1 with
     |[z],_=>simp_all
    have hz:=g3 0 z rfl;have hv:=g4 0 u z rfl rfl;refine ⟨z,?_,hv.J2⟩;simp_all [execOp,Instr.loadAt,Instr.sureAddr,loadVar,bV]
   .cases h
  .rename_i c cs hp
   obtain ⟨rfl,rfl⟩:=h;rw [hp] at h1;obtain ⟨b,off,g1,_,⟨z,g2,g3⟩,_⟩:=h1;refine ⟨z,?_,by simp_all [VR]⟩;simp_all [execOp,Instr.loadAt,Instr.sureAddr,loadVar,bV]
  .cases h
 |some n =>
  have ha:dc P t=some true/\P.cellsOf t=n/\0<n:=by simp_all [rN,and_assoc]
  have hs:(sizeOf t).run P w= .ok n w:=by
   grind [run_sizeOf,dc,info_of_underlying]
  simp [n9] at h;split at h
  .rename_i id off hp
   rw [hp] at h1;simp [VR] at h1;split at h
   .rename_i us hu
    obtain ⟨rfl,rfl⟩:=h;obtain ⟨_,xs,g1,g2,g3,g4⟩:=hH.rd hu (by omega);have hl:=run_loadCells_list (P:=P) w (ad (I id).1 ((I id).2+off)) xs (fun j v hj=>by simp_all [aK]);refine ⟨.agg xs.toArray,?_,?_⟩
    .simp_all [execOp,Instr.loadAt,Instr.sureAddr,loadVar,bV]
    .refine ⟨_,rfl,R6 _ _ (by simp [g1,g2]) fun j a v hj hv=> ?_⟩
     simp at hj hv;obtain ⟨a',ha',rfl⟩:=hj;exact (g4 j a' v ha' hv).J2
   .cases h
  .rename_i cells hp
   split at h
   .obtain ⟨rfl,rfl⟩:=h
    rw [hp] at h1;obtain ⟨b,off,g1,g2⟩:=h1;obtain ⟨xs,e1,e2,e3⟩:=dX.vals (I:=I) (N:=N) off _ (dX.take n off cells g2);have e1' :xs.length=n:=by simp_all
    have hl:=run_loadCells_list (P:=P) w (ad b off) xs (fun j v hj=>by simp_all [aK]);refine ⟨.agg xs.toArray,?_,?_⟩
    all_goals simp_all [execOp,Instr.loadAt,Instr.sureAddr,loadVar,bV,VR]
   .cases h
  .cases h
def My (hρ:cq ck G I N w η ρ){o:Oper}{y:y6}(hc:E4 P ck o (.aU y)=true){v:c8}{rs:List Nat}
  (h:n9 ρ H (.aU y)=some (v,rs)):Good P G I N w η o v:=by
 obtain ⟨dst,dW,ty,pos,after,guard⟩:=o;cases dW<;>simp [E4] at hc;rename_i x;have h1:=hρ _ _ hc;simp [n9] at h;split at h
 .rename_i id off hp
  obtain ⟨rfl,rfl⟩:=h;rw [hp] at h1;have h2:=h1;exact ⟨η x,by simp [execOp,h1.2],h2⟩
 .rename_i cells hp
  obtain ⟨rfl,rfl⟩:=h;rw [hp] at h1;have h2:=h1;obtain ⟨b,off,g1,g2⟩:=h1;exact ⟨η x,by simp [execOp,g1],h2⟩
 .rename_i f a b hp
  obtain ⟨rfl,rfl⟩:=h;rw [hp] at h1;have h2:=h1;obtain ⟨x',y',g1,g2,g3⟩:=h1;exact ⟨η x,by simp [execOp,g1],h2⟩
 .cases h
def Data.val:Data->Value
 | .bool b=> .bool b
 | .int k n=> .int k n
 | .str s=> .string ⟨s.toArray⟩
 | .br=> .pointer Option.none
 | .N9=> .nilFunc
 | .cu=> .map Option.none
 | .nilIface=> .nilIface
 | .slice _ _=> .slice Option.none 0 0
def Cj {b:BinOp}{x y r:Data}(h:J8 b x y=some r){u v:Value}(hu:DR G w x u)(hv:DR G w y v)(t:TypeId)(p q:Operand) :
  ∃ z,(do eqGuard b t p q u v;binOp b t u v).run P w= .ok z w/\DR G w r z:=by
 refine ⟨Data.val r,?_⟩;unfold J8 at h;split at h
 .rename_i k a k' c
  subst hu hv;have hg:(eqGuard b t p q (.int k a) (.int k' c)).run P w= .ok () w:=by simp_all [eqGuard]
  split at h
  .rename_i hsh
   unfold su at h;split at h
   .cases h
   .rename_i hneg
    cases b<;>simp [U6] at hsh<;>simp at h<;>subst h <;>
     exact ⟨by simp [hg,binOp,Op.shift,hneg,Data.val],by rfl⟩
  .rename_i hsh
   split at h
   .rename_i hk
    unfold ak at h;cases b<;>simp  at hsh<;>simp at h
    all_goals first
     |(subst h;simp_all [binOp,Op.intArith,Op.intCmp,Op.intBits,Data.val,DR])
     |(obtain ⟨h0,rfl⟩:=h;simp_all [binOp,Op.intDiv,Data.val,DR])
   .cases h
 .rename_i a c
  subst hu hv;have hg:(eqGuard b t p q (.string ⟨a.toArray⟩) (.string ⟨c.toArray⟩)).run P w= .ok () w:=by simp_all [eqGuard]
  unfold uC at h;cases b<;>simp at h
  all_goals first
   |(subst h;simp_all [binOp,Op.stringOp,Data.val,DR])
   |skip
  obtain ⟨h0,rfl⟩:=h;have aA8:(⟨a.toArray⟩++⟨c.toArray⟩:ByteArray)=⟨(a++c).toArray⟩:=by
   rfl
  refine ⟨?_,by rfl⟩
  .have hs:¬ (((⟨a.toArray⟩:ByteArray).size+(⟨c.toArray⟩:ByteArray).size:Nat):Int)>IntKind.i64.max:=by
    simp_all [ByteArray.size]<;>omega
   simp_all [Sem.run_bind,Result.andThen_ok,binOp,Op.stringOp,if_neg,Sem.run_pure,Data.val]
 .cases h
def UY (hρ:cq ck G I N w η ρ){o:Oper}{b:BinOp}{x y:y6}(hc:E4 P ck o (.bin b x y)=true){v:c8}{rs:List Nat}
  (h:n9 ρ H (.bin b x y)=some (v,rs)):Good P G I N w η o v:=by
 obtain ⟨dst,dW,ty,pos,after,guard⟩:=o;cases dW<;>simp [E4] at hc;rename_i b' t x' y' ty';obtain ⟨⟨rfl,hx⟩,hy⟩:=hc;have h1:=hρ _ _ hx;have h2:=hρ _ _ hy;simp [n9] at h;split at h
 .rename_i a c ha sU
  rw [ha] at h1;rw [sU] at h2;split at h
  .rename_i r hr
   obtain ⟨rfl,rfl⟩:=h;obtain ⟨z,g1,g2⟩:=Cj (P:=P) hr h1 h2 t x' y';exact ⟨z,by simp only [execOp];rw [Sem.run_bind,g1];rfl,by simp_all [VR]⟩
  .cases h
 .cases h
def sP (d:Nat){t e:TypeId}(he:P.underlying t=some (.slice e))(a:Addr)(l c:Nat):(Op.equalIn (d+1) t (.slice (some a) l c) (.slice Option.none 0 0)).run P w= .ok false w:=by
 simp [Op.equalIn,run_underlying he]
def xS {t e:TypeId}(he:P.underlying t=some (.slice e))(a:Addr)(l c:Nat):(Op.equal t (.slice (some a) l c) (.slice Option.none 0 0)).run P w= .ok false w:=sP 9999 he a l c
def xR (d:Nat){t:TypeId}{ms:Array (String×TypeId)}(he:P.underlying t=some (.interface ms)):(Op.equalIn (d+1) t .nilIface .nilIface).run P w= .ok true w:=by
 simp [Op.equalIn,run_underlying he]
def Co {t:TypeId}{ms:Array (String×TypeId)}(he:P.underlying t=some (.interface ms)):(Op.equal t .nilIface .nilIface).run P w= .ok true w:=xR 9999 he
def Fh (d:Nat){t:TypeId}(he:P.underlying t=some .bool)(a b:Bool):(Op.equalIn (d+1) t (.bool a) (.bool b)).run P w= .ok (a==b) w:=by
 simp [Op.equalIn,run_underlying he]
def LP {t:TypeId}(he:P.underlying t=some .bool)(a b:Bool):(Op.equal t (.bool a) (.bool b)).run P w= .ok (a==b) w:=Fh 9999 he a b
def Rs (hη:∀ v,η (.const v)=v)(hρ:cq ck G I N w η ρ){o:Oper}{neg:Bool}{x:y6}(hc:E4 P ck o (.Au neg x)=true){v:c8}{rs:List Nat}
  (h:n9 ρ H (.Au neg x)=some (v,rs)):Good P G I N w η o v:=by
 obtain ⟨dst,dW,ty,pos,after,guard⟩:=o;unfold E4 at hc;split at hc<;>try (cases hc)
 all_goals rename_i nU jl
 all_goals cases jl
 all_goals subst nU
 rename_i b t x' ty';simp [c7] at hc;obtain ⟨⟨hx,ht⟩,hb⟩:=hc;obtain ⟨e,he⟩:∃ e,P.underlying t=some (.slice e):=by
  grind
 have key:∃ a l c,η x' = .slice (some a) l c/\v= .d (.bool neg):=by
  simp [n9] at h
  .grind [VR,DR]
  all_goals grind [VR]
 obtain ⟨a,l,c,hx',rfl⟩:=key;refine ⟨.bool neg,?_,by simp [VR,DR]⟩;simp [execOp,hx',hη];cases neg<;>simp at hb<;>subst hb<;>simp [eqGuard,binOp]<;>simp [xS he]
def UZ (hρ:cq ck G I N w η ρ){o:Oper}{neg:Bool}{x y:y6}(hc:E4 P ck o (.s8 neg x y)=true){v:c8}{rs:List Nat}
  (h:n9 ρ H (.s8 neg x y)=some (v,rs)):Good P G I N w η o v:=by
 obtain ⟨dst,dW,ty,pos,after,guard⟩:=o;cases dW<;>simp [E4] at hc<;>try simp_all
 rename_i b t x' y' ty';obtain ⟨⟨⟨hx,hy⟩,ht⟩,hb⟩:=hc;have h1:=hρ _ _ hx;have h2:=hρ _ _ hy;have he:P.underlying t=some .bool:=by
  grind
 simp [n9] at h;split at h
 .rename_i a c ha sU
  obtain ⟨rfl,rfl⟩:=h;rw [ha] at h1;rw [sU] at h2;simp [VR,DR] at h1 h2;refine ⟨.bool (neg != (a==c)),?_,by simp [VR,DR]⟩;simp [execOp,h1,h2];cases neg<;>simp at hb<;>subst hb<;>simp [eqGuard,binOp]<;>simp [LP he]
 .cases h
def QX {t:TypeId}{k:CK}(h:eu P t k=true):dc P t=some false:=by
 simp_all [dc,eu]<;>grind
def run_part_plain {t:TypeId}{k:CK}(h:eu P t k=true)(cs:Array Value)(off:Nat)(v:Value)(hv:cs[off]? =some v):(part t cs off).run P w= .ok v w:=by
 simp [part,bV (QX h),hv]
def sD {k:CK}{a b:Data}{r:Bool}(h:Data.EU k a b=some r){u v:Value}(hu:DR G w a u)(hv:DR G w b v){t:TypeId}(ht:eu P t k=true)(d:Nat) :
  (Op.equalIn (d+1) t u v).run P w= .ok r w:=by
 unfold Data.EU at h;split at h
 .subst hu hv
  split at h
  .rename_i hkk
   subst hkk;simp at h;subst h;simp [eu] at ht;split at ht
   .rename_i k2 hk2;simp [Op.equalIn,run_underlying hk2]
   .cases ht
  .cases h
 .subst hu hv
  simp at h;subst h;simp [eu] at ht;split at ht
  .rename_i h2;simp [Op.equalIn,run_underlying h2,beq_toListBytes]
  .cases ht
 .subst hu hv
  simp at h;subst h;simp [eu] at ht;split at ht
  .rename_i h2;simp [Op.equalIn,run_underlying h2]
  .cases ht
 .cases h
theorem jR (d:Nat)(xs ys:Array Value):∀ (fs:List Field) (n:Nat) (ks:List CK) (a b:List c8) (r:Bool),S3 P fs n ks=true->P5 ks a b=some r ->
  (∀ (j:Nat) c,a[j]? =some c->∃ v,xs[n+j]? =some v/\VR G I N w .none c v)->(∀ (j:Nat) c,b[j]? =some c->∃ v,ys[n+j]? =some v/\VR G I N w .none c v) ->
  (Op.eqFields (d+1) xs ys fs).run P w= .ok r w
 |[],n,ks,a,b,r,hf,hc,_,_=>by
  cases ks with
  |nil =>
   unfold P5 at hc;simp_all [Op.eqFields]<;>grind
  |cons=>simp [S3] at hf
 |f::fs,n,[],a,b,r,hf,hc,_,_=>by simp [S3] at hf
 |f::fs,n,k::ks,a,b,r,hf,hc,ha,hb=>by
  simp [S3,c7,beq_iff_eq] at hf;obtain ⟨⟨⟨h1,h2⟩,h3⟩,h4⟩:=hf;unfold P5 at hc;split at hc
  .simp_all
  .rename_i k0 ks0 x a' y b' e1
   cases e1;split at hc
   .rename_i t ht
    split at hc
    .rename_i u hu
     obtain ⟨v1,g1,g2⟩:=ha 0 _ rfl;obtain ⟨v2,g3,g4⟩:=hb 0 _ rfl;have e1:=run_part_plain (w:=w) h2 xs n v1 g1;have e2:=run_part_plain (w:=w) h2 ys n v2 g3;have e3:=sD (P:=P) ht g2 g4 h2 d;have ih:=jR d xs ys fs (n+1) ks a' b' u h4 hu (fun j c hj=>by rw [show n+1+j=n+(j+1) from by omega];simp_all)
      (fun j c hj=>by rw [show n+1+j=n+(j+1) from by omega];simp_all)
     simp_all [Op.eqFields]<;>grind
    .cases hc
   .cases hc
  .cases hc
def tI {t:TypeId}{gs:Array Field}{m:Nat}(h:P.underlying t=some (.struct gs))(hi:(P.info? t).isSome=true)(hm:P.cellsOf t=m)(cs:Array Value)(off:Nat):(part t cs off).run P w= .ok (.agg (cs.extract off (off+m))) w:=by
 have h1:dc P t=some true:=by simp [dc,h]
 have h2:=run_sizeOf (w:=w) hi;rw [hm] at h2;simp [part,bV h1,h2]
theorem wz:∀ (m:Nat) (ks:List CK) (a b:List c8) (r:Bool),P5 ks a b=some r->m<=ks.length->∃ r1 r2,P5 (ks.take m) (a.take m) (b.take m)=some r1/\P5 (ks.drop m) (a.drop m) (b.drop m)=some r2/\r=(r1&&r2)
 |0,ks,a,b,r,h,_=>⟨true,r,by simp [P5],by simpa using h,by simp⟩
 |m+1,[],a,b,r,h,hm=>by simp at hm
 |m+1,k::ks,a,b,r,h,hm=>by
  unfold P5 at h;split at h
  .simp_all
  .rename_i k0 ks0 x a' y b' e1
   cases e1;split at h
   .rename_i t ht
    split at h
    .rename_i u hu
     simp at h;subst h;obtain ⟨r1,r2,e1,e2,e3⟩:=wz m ks a' b' u hu (by simpa using hm);exact ⟨t&&r1,r2,by simp [P5,ht,e1],by simpa using e2,by rw [e3,Bool.and_assoc]⟩
    .cases h
   .cases h
  .cases h
theorem nN {P:Program}:∀ (fs:List Field) (n:Nat) (ks:List CK),S3 P fs n ks=true->ks.length=fs.length
 |[],_,[],_=>rfl
 |[],_,_::_,h=>by simp [S3] at h
 |_::_,_,[],h=>by simp [S3] at h
 |f::fs,n,k::ks,h=>by
  simp only [S3,c7] at h;simp [nN fs _ ks h.2]
theorem iI (d:Nat)(xs ys:Array Value):∀ (fs:List Field) (n:Nat) (ks:List CK) (a b:List c8) (r:Bool),dA P fs n ks=true->P5 ks a b=some r ->
  (∀ (j:Nat) c,a[j]? =some c->∃ v,xs[n+j]? =some v/\VR G I N w .none c v)->(∀ (j:Nat) c,b[j]? =some c->∃ v,ys[n+j]? =some v/\VR G I N w .none c v) ->
  (Op.eqFields (d+2) xs ys fs).run P w= .ok r w
 |[],n,ks,a,b,r,hf,hc,_,_=>by
  cases ks with
  |nil =>
   unfold P5 at hc;split at hc<;>simp_all [Op.eqFields]
  |cons=>simp [dA] at hf
 |f::fs,n,ks,a,b,r,hf,hc,ha,hb=>by
  simp only [dA,c7,bne_iff_ne,beq_iff_eq] at hf;obtain ⟨⟨h1,h3⟩,hf⟩:=hf;split at hf
  .rename_i gs hgs
   simp only [c7,beq_iff_eq,n5] at hf;obtain ⟨⟨⟨⟨q1,q2⟩,q3⟩,q4⟩,q5⟩:=hf;have hl:=nN _ _ _ q3;have hm:gs.size<=ks.length:=by
    rw [List.length_take] at hl;simp at hl;omega
   obtain ⟨r1,r2,e1,e2,e3⟩:=wz gs.size ks a b r hc hm;have p1:=tI (w:=w) hgs q1 q2 xs n;have p2:=tI (w:=w) hgs q1 q2 ys n;have hff:P.fieldsOf f.type=gs:=by simp [Program.fieldsOf,hgs]
   have aB0:∀ (l:List c8) (zs:Array Value),(∀ (j:Nat) c,l[j]? =some c->∃ v,zs[n+j]? =some v/\VR G I N w .none c v)->∀ (j:Nat) c,(l.take gs.size)[j]? =some c->∃ v,(zs.extract n (n+gs.size))[0+j]? =some v/\VR G I N w .none c v:=by
    intro l zs hz j c hj;rw [List.getElem?_take] at hj;split at hj
    .rename_i hlt
     obtain ⟨v,g1,g2⟩:=hz j c hj;refine ⟨v,?_,g2⟩;have hsz:=(Array.getElem?_eq_some_iff.1 g1).1;rw [Array.getElem?_extract,if_pos (by omega),Nat.zero_add,g1]
    .cases hj
   have p3:=run_equalIn_struct (P:=P) w (d+1) f.type (xs.extract n (n+gs.size)) (ys.extract n (n+gs.size)) (by rw [hff];exact hgs) q4;rw [hff,jR (P:=P) (G:=G) (I:=I) (N:=N) d _ _ gs.toList 0 (ks.take gs.size) _ _ r1 q3 e1 (aB0 a xs ha) (aB0 b ys hb)] at p3;have ih:=iI d xs ys fs (n+gs.size) (ks.drop gs.size) (a.drop gs.size) (b.drop gs.size) r2 q5 e2 (fun j c hj=>by rw [List.getElem?_drop] at hj;rw [Nat.add_assoc];exact ha _ c hj) (fun j c hj=>by rw [List.getElem?_drop] at hj;rw [Nat.add_assoc];exact hb _ c hj);simp only [Op.eqFields,if_pos h1,Sem.run_bind,h3,p1,p2,p3,Result.andThen_ok];rw [e3];cases r1<;>simp [ih]
  .split at hf
   .rename_i k ks
    simp only [c7] at hf;obtain ⟨h2,h4⟩:=hf;unfold P5 at hc;split at hc
    .simp_all
    .rename_i k0 ks0 x a' y b' e1
     cases e1;split at hc
     .rename_i t ht
      split at hc
      .rename_i u hu
       simp at hc;subst hc;obtain ⟨v1,g1,g2⟩:=ha 0 _ rfl;obtain ⟨v2,g3,g4⟩:=hb 0 _ rfl;simp only [VR] at g2 g4;rw [Nat.add_zero] at g1 g3;have e1:=run_part_plain (w:=w) h2 xs n v1 g1;have e2:=run_part_plain (w:=w) h2 ys n v2 g3;have e3:=sD (P:=P) ht g2 g4 h2 (d+1);have ih:=iI d xs ys fs (n+1) ks a' b' u h4 hu (fun j c hj=>by rw [show n+1+j=n+(j+1) from by omega];exact ha (j+1) c (by simpa using hj))
        (fun j c hj=>by rw [show n+1+j=n+(j+1) from by omega];exact hb (j+1) c (by simpa using hj))
       simp only [Op.eqFields,if_pos h1,Sem.run_bind,h3,e1,e2,e3,Result.andThen_ok];cases t<;>simp [ih]
      .cases hc
     .cases hc
    .cases hc
   .cases hf
def Va (hρ:cq ck G I N w η ρ){o:Oper}{neg:Bool}{ks:List CK}{x y:y6}(hc:E4 P ck o (.Hv neg ks x y)=true){v:c8}{rs:List Nat}
  (h:n9 ρ H (.Hv neg ks x y)=some (v,rs)):Good P G I N w η o v:=by
 obtain ⟨dst,dW,ty,pos,after,guard⟩:=o;cases dW<;>simp only [E4,c7] at hc<;>try (cases hc;done)
 rename_i b t x' y' ty';obtain ⟨⟨⟨hx,hy⟩,ht⟩,hb⟩:=hc;have h1:=hρ _ _ hx;have h2:=hρ _ _ hy;unfold wF at ht;split at ht
 .rename_i fs uU
  simp only [c7,n5] at ht;simp only [n9] at h;split at h
  .rename_i a c ha sU
   split at h
   .rename_i r hr
    simp at h;obtain ⟨rfl,rfl⟩:=h;rw [ha] at h1;rw [sU] at h2;simp only [VR] at h1 h2;obtain ⟨xs,e1,e2⟩:=h1;obtain ⟨ys,e3,e4⟩:=h2;have hff:P.fieldsOf t=fs:=by simp [Program.fieldsOf,uU]
    have heq:=run_equalIn_struct (P:=P) w 9999 t xs ys (by rw [hff];exact uU) ht.1.2;rw [hff,iI (P:=P) (G:=G) (I:=I) (N:=N) 9997 xs ys fs.toList 0 ks a c r ht.1.1 hr
     (fun j u hu=>by obtain ⟨v,g1,g2⟩:=J5.get a _ e2 j u hu;exact ⟨v,by simpa using g1,g2⟩)
     (fun j u hu=>by obtain ⟨v,g1,g2⟩:=J5.get c _ e4 j u hu;exact ⟨v,by simpa using g1,g2⟩)] at heq
    refine ⟨.bool (neg != r),?_,by simp [VR,DR]⟩;simp only [execOp,e1,e3,Sem.run_bind,run_eqGuard_agg w b t x' y' xs ys ht.2,Result.andThen_ok];cases neg<;>simp at hb<;>subst hb
    .rw [run_eql_struct,heq];simp
    .rw [run_neq_struct,heq];simp
   .cases h
  .cases h
 .cases ht
end
section
variable {P:Program} {w:World} {ck:Operand->y6->Bool} {η:Operand->Value} {ρ:y6->c8} {G:Gh} {I:R3} {N:Nat->Prop} {H:o9}
def YX (hρ:cq ck G I N w η ρ){o:Oper}{b:UnOp}{x:y6}(hc:E4 P ck o (.un b x)=true){v:c8}{rs:List Nat}
  (h:n9 ρ H (.un b x)=some (v,rs)):Good P G I N w η o v:=by
 obtain ⟨dst,dW,ty,pos,after,guard⟩:=o;cases dW<;>simp [E4] at hc;rename_i b' t x';obtain ⟨rfl,hx⟩:=hc;have h1:=hρ _ _ hx;simp [n9] at h;split at h
 .rename_i a ha
  rw [ha] at h1;simp [VR] at h1;split at h
  .rename_i r hr
   obtain ⟨rfl,rfl⟩:=h;refine ⟨Data.val r,?_⟩;unfold Bv at hr;split at hr
   .simp [DR] at h1
    cases b' <;>simp at hr;subst hr;simp [execOp,h1,Op.unary,Op.intArith,Data.val,VR,DR]
   .simp [DR] at h1
    cases b' <;>simp at hr;subst hr;simp [execOp,h1,Op.unary,Data.val,VR,DR]
   .cases hr
  .cases h
 .cases h
def Mx (hρ:cq ck G I N w η ρ){o:Oper}{k:IntKind}{x:y6}(hc:E4 P ck o (.mP k x)=true){v:c8}{rs:List Nat}
  (h:n9 ρ H (.mP k x)=some (v,rs)):Good P G I N w η o v:=by
 obtain ⟨dst,dW,ty,pos,after,guard⟩:=o;cases dW<;>simp [E4] at hc<;>try simp_all
 obtain ⟨⟨hx,hs⟩,hd⟩:=hc;have h1:=hρ _ _ hx;obtain ⟨ds,hds⟩:=Option.isSome_iff_exists.1 hs;split at hd
 .simp [n9] at h
  split at h
  .rename_i k2 n ha
   obtain ⟨rfl,rfl⟩:=h;rw [ha] at h1;simp [VR,DR] at h1;refine ⟨.int k (k.wrap n),?_,by simp [VR,DR]⟩;simp_all [execOp,convert,run_underlying,Conv.intToInt]
  .cases h
 .cases hd
theorem ze:∀ (vs:List Value) (l:List Data) (bs:List UInt8),fV l=some bs->J5 G I N w (l.map .d) vs ->
  ∃ ns:List Int,vs=ns.map (Value.int .u8)/\bs=ns.map fun n=>UInt8.ofNat n.toNat
 |vs,[],bs,hb,hv=>by
  simp_all [fV,J5]
 |vs,a::as,bs,hb,hv=>by
  obtain ⟨x,xs,rfl,e2,e3⟩:=hv;unfold fV at hb;split at hb
  .simp_all
  .rename_i n r heq
   cases heq;split at hb
   .rename_i bs' QI
    simp at hb;subst hb;subst e2;obtain ⟨ns,rfl,rfl⟩:=ze xs as bs' QI e3;exact ⟨n::ns,rfl,rfl⟩
   .cases hb
  .cases hb
theorem foldl_push:∀ (ns:List Int) (s:ByteArray),(ns.foldl (fun r n=>r.push (UInt8.ofNat n.toNat)) s)=⟨(s.data.toList++ns.map fun n=>UInt8.ofNat n.toNat).toArray⟩
 |[],s=>by simp
 |n::ns,s=>by
  rw [List.foldl_cons,foldl_push ns];simp
def Jd (hρ:cq ck G I N w η ρ){o:Oper}{x:y6}(hc:E4 P ck o (.jP x)=true){v:c8}{rs:List Nat}
  (h:n9 ρ H (.jP x)=some (v,rs)):Good P G I N w η o v:=by
 obtain ⟨dst,dW,ty,pos,after,guard⟩:=o;cases dW<;>simp [E4] at hc<;>try simp_all
 rename_i s d x';obtain ⟨⟨hx,hs⟩,hd⟩:=hc;have h1:=hρ _ _ hx;split at hs
 .rename_i e he
  split at hs
  .rename_i hu8
   split at hd
   .rename_i TK
    simp [n9] at h;split at h
    .rename_i len cells ha
     split at h
     .rename_i hlen
      split at h
      .rename_i bs QI
       obtain ⟨rfl,rfl⟩:=h;rw [ha] at h1;refine ⟨.string ⟨bs.toArray⟩,?_,by simp [VR,DR]⟩
       rcases h1 with ⟨h1,h2,h3⟩|⟨b,off,cap,h1,h2,h3⟩
       .subst h3
        simp [fV] at QI;subst QI
        rcases h1 with h1|⟨a0,h1⟩
        .simp [execOp,h1,convert,run_underlying he,run_underlying TK,run_underlying hu8]
         rfl
        .have hl:(loadCells a0 0).run P w= .ok (([]:List Int).map (Value.int .u8)).toArray w:=by rfl
         simp [execOp,h1,Sem.run_bind,run_convert_bytes_string w s d e _ _ _ he hu8 TK];rfl
       .obtain ⟨vs,g1,g2,g3⟩:=dX.vals (I:=I) (N:=N) off cells h3
        have hl:=run_loadCells_list (P:=P) w (ad b off) vs (fun j v hj=>by simp_all [aK]);rw [g1,hlen] at hl;obtain ⟨ns,rfl,rfl⟩:=ze (G:=G) (I:=I) (N:=N) vs cells bs QI g3;simp only [execOp,h1,Sem.run_bind,run_convert_bytes_string w s d e _ _ _ he hu8 TK,run_bytesToString w (ad b off) len cap ns hl,foldl_push];simp
      .cases h
     .cases h
    .cases h
   .cases hd
  .cases hs
 .cases hs
def wq (hρ:cq ck G I N w η ρ){x:Option Operand}{y:Option y6}(hc:ckO ck x y=true){d:Nat}{n:Int}(h:W7 ρ d y=some n) :
  (x=none/\n=d)\/∃ x' k,x=some x' /\η x' = .int k n:=by
 cases y with
 |none =>
  grind [W7,ckO]
 |some y =>
  cases x with
  |none=>simp [ckO] at hc
  |some x =>
   grind [ckO,W7,VR,DR]
def vB (hρ:cq ck G I N w η ρ){lo hi:Option Operand}{lo' hi' :Option y6}(hl:ckO ck lo lo' =true)(hh:ckO ck hi hi' =true){len cap:Nat}{l h:Int}
  (bl:W7 ρ 0 lo' =some l) (bh:W7 ρ len hi' =some h) (h0:0<=l) (h1:l<=h) (h2:h<=len) (hcap:len<=cap) (b:Bool) :
  (Instr.sliceBounds b len cap (lo.map η) (hi.map η) none).run P w= .ok (l.toNat,h.toNat,cap) w:=by
 rcases wq hρ hl bl with ⟨rfl,rfl⟩|⟨x1,k1,rfl,e1⟩<;>rcases wq hρ hh bh with ⟨rfl,rfl⟩|⟨x2,k2,rfl,e2⟩
 .rfl
 .simp_all [Instr.sliceBounds,Instr.sliceBound,asIntOf]<;>omega
 all_goals (simp_all [Instr.sliceBounds,Instr.sliceBound,asIntOf]<;>grind)
def Jh (hρ:cq ck G I N w η ρ){o:Oper}{sz:Nat}{x:y6}{lo hi:Option y6}(hc:E4 P ck o (.Y8 sz x lo hi)=true){v:c8}{rs:List Nat}
  (h:n9 ρ H (.Y8 sz x lo hi)=some (v,rs)):Good P G I N w η o v:=by
 obtain ⟨dst,dW,ty,pos,after,guard⟩:=o;unfold E4 at hc;split at hc<;>try (cases hc)
 all_goals rename_i nU jl
 all_goals cases jl
 all_goals subst nU
 rename_i t x' lo' hi';simp only [c7] at hc;obtain ⟨⟨⟨⟨hx,hl⟩,hh⟩,ht⟩,hsz⟩:=hc;have h1:=hρ _ _ hx;obtain ⟨e,hu,Xp,hie⟩:=iO ht;have hsize:(sizeOf e).run P w= .ok sz w:=by simp_all [run_sizeOf]
 simp [n9] at h;split at h
 .rename_i len cells hs
  split at h
  .rename_i l hi2 bl bh
   split at h
   .rename_i hb
    obtain ⟨rfl,rfl⟩:=h;rw [hs] at h1
    rcases h1 with ⟨h1,h2,h3⟩|⟨b,off,cap,h1,h2,h3⟩
    .subst h2 h3
     have hrb:=vB (P:=P) hρ hl hh bl bh hb.1 hb.2.1 hb.2.2.1 (o5 0) true;have hl0:l=0:=by omega
     have hh0:hi2=0:=by omega
     subst hl0 hh0
     rcases h1 with h1|⟨a0,h1⟩
     .refine ⟨.slice none 0 0,?_,by simp [VR,DR]⟩
      simp only [execOp,h1,Instr.sliceAt,Sem.run_bind,run_underlying hu,Result.andThen_ok,Instr.slice];simp_all
     .refine ⟨.slice (some a0) 0 0,?_,by simp [VR,DR]⟩
      simp only [execOp,h1,Instr.sliceAt,Sem.run_bind,run_underlying hu,Result.andThen_ok,Instr.slice];simp_all
    .have hrb:=vB (P:=P) hρ hl hh bl bh hb.1 hb.2.1 hb.2.2.1 h2 true
     refine ⟨.slice (if cap=l.toNat then some (ad b off) else (some (ad b off)).map (·.add (l.toNat * sz))) (hi2.toNat - l.toNat) (cap - l.toNat),?_,?_⟩
     .simp only [execOp,h1,Instr.sliceAt,Sem.run_bind,run_underlying hu,Result.andThen_ok,Instr.slice]
      simp_all
     .simp only [VR,DR]
      have e1:(hi2 - l).toNat=hi2.toNat - l.toNat:=by omega
      by_cases hcl:cap=l.toNat
      .grind
      .refine Or.inr ⟨b,off+l.toNat * sz,cap - l.toNat,?_,by omega,dX.drop _ _ _ (dX.take _ _ _ h3)⟩
       simp_all [if_neg,aK]
   .cases h
  .cases h
 .rename_i id z a len hs
  split at h
  .rename_i l hi2 bl bh
   split at h
   .rename_i hb
    rw [hs] at h1;obtain ⟨g1,cap,g2,g3,c,e',f,g4,g5⟩:=h1;have hrb:=vB (P:=P) hρ hl hh bl bh hb.1 hb.2.1 hb.2.2.1 g3 true;have e1:(hi2 - l).toNat=hi2.toNat - l.toNat:=by omega
    have hrun:(execOp η ⟨dst,.slice t x' lo' hi' none,ty,pos,after,guard⟩).run P w =
      .ok (.value (.slice (if cap=l.toNat then some (ad (I id).1 ((I id).2+a)) else (some (ad (I id).1 ((I id).2+a))).map (·.add (l.toNat * sz))) (hi2.toNat - l.toNat) (cap - l.toNat))) w:=by
     simp only [execOp,g2,Instr.sliceAt,Sem.run_bind,run_underlying hu,Result.andThen_ok,Instr.slice];simp_all
    refine ⟨_,hrun,?_⟩;split at h
    .rename_i hlh
     obtain ⟨rfl,rfl⟩:=h;simp [VR,DR]
     by_cases hcl:cap=l.toNat
     all_goals simp_all [if_pos,Nat.sub_self,dX,if_neg,aK]
    .obtain ⟨rfl,rfl⟩:=h
     have hcl:¬ cap=l.toNat:=by omega
     refine ⟨g1,cap - l.toNat,?_,by omega,c,e',f,g4,?_⟩
     .simp_all [if_neg,aK,Nat.add_assoc]
     .have hz:z=sz:=hb.2.2.2
      subst hz;have:cap * z=(cap - l.toNat) * z+l.toNat * z:=by rw [<- Nat.add_mul];grind
      omega
   .cases h
  .cases h
 .cases h
end
section
variable {P:Program} {w:World} {ck:Operand->y6->Bool} {η:Operand->Value} {ρ:y6->c8} {G:Gh} {I:R3} {N:Nat->Prop} {H:o9}
def Vc (hρ:cq ck G I N w η ρ){o:Oper}{k:Nat}{x:y6}(hc:E4 P ck o (.off k x)=true){v:c8}{rs:List Nat}
  (h:n9 ρ H (.off k x)=some (v,rs)):Good P G I N w η o v:=by
 obtain ⟨dst,dW,ty,pos,after,guard⟩:=o;cases dW<;>simp [E4] at hc<;>try simp_all
 rename_i s x' f;obtain ⟨hx,hs⟩:=hc;split at hs
 .split at hs
  .rename_i fd hfd
   simp [c7,decide_eq_true_eq] at hs;have aB8:(P.info? fd.type).isSome=true:=by
    cases hi:P.info? fd.type with
    |none=>simp_all [Program.cellsOf]
    |some i=>rfl
   have hsz:(sizeOf fd.type).run P w= .ok (P.cellsOf fd.type) w:=run_sizeOf aB8;have hne:¬ P.cellsOf fd.type=0:=by omega
   have hrun:∀ b off,η x' = .pointer (some (ad b off))->(execOp η ⟨dst,.fieldAddr s x' f,ty,pos,after,guard⟩).run P w= .ok (.value (.pointer (some (ad b (off+k))))) w:=by
    simp_all [execOp,Instr.fieldAt,Sem.run_bind,run_underlying,Result.andThen_ok,Instr.sureAddr,Sem.run_pure,fieldPlace,if_neg,aK]
   simp [n9] at h;split at h
   .grind [VR,Nat.add_assoc]
   all_goals grind [VR,dX.drop]
  .cases hs
 .cases hs
def Rm (hρ:cq ck G I N w η ρ){o:Oper}{sz:Nat}{x i:y6}(hc:E4 P ck o (.D5 sz x i)=true){v:c8}{rs:List Nat}
  (h:n9 ρ H (.D5 sz x i)=some (v,rs)):Good P G I N w η o v:=by
 obtain ⟨dst,dW,ty,pos,after,guard⟩:=o;cases dW<;>simp [E4] at hc<;>try simp_all
 rename_i t x' i';obtain ⟨⟨hx,hi⟩,ht⟩:=hc;have h1:=hρ _ _ hx;have h2:=hρ _ _ hi;obtain ⟨e,hu,Xp,hie⟩:=iO ht;have hsize:(sizeOf e).run P w= .ok sz w:=by simp_all [run_sizeOf]
 have hrun:∀ (b off len cap:Nat) (k:IntKind) (n:Int),η x' = .slice (some (ad b off)) len cap->η i' = .int k n->0<=n->n<len ->
   (execOp η ⟨dst,.indexAddr t x' i',ty,pos,after,guard⟩).run P w= .ok (.value (.pointer (some (ad b (off+n.toNat * sz))))) w:=by
  intro b off len cap k n e1 e2 e3 e4;have hb:(0<=n/\n<(len:Int)):=⟨e3,e4⟩;simp [execOp,e1,e2,Instr.indexAt,run_underlying hu,asIntOf,hsize,hb,aK]
 simp [n9] at h;split at h
 .rename_i len cells k n hp hq
  split at h
  .rename_i hb
   obtain ⟨rfl,rfl⟩:=h;rw [hp] at h1;rw [hq] at h2
   rcases h1 with ⟨_,h0,_⟩|⟨b,off,cap,g1,g2,g3⟩
   .omega
   .exact ⟨_,hrun b off len cap k n g1 h2 hb.1 hb.2,by exact ⟨b,_,rfl,dX.drop _ _ _ g3⟩⟩
  .cases h
 all_goals grind [VR,DR,Nat.add_assoc]
def Ro (hρ:cq ck G I N w η ρ){o:Oper}{m sz:Nat}{x i:y6}(hc:E4 P ck o (.gJ m sz x i)=true){v:c8}{rs:List Nat}
  (h:n9 ρ H (.gJ m sz x i)=some (v,rs)):Good P G I N w η o v:=by
 obtain ⟨dst,dW,ty,pos,after,guard⟩:=o;cases dW<;>simp [E4] at hc<;>try simp_all
 rename_i t x' i';obtain ⟨⟨hx,hi⟩,ht⟩:=hc;have h1:=hρ _ _ hx;have h2:=hρ _ _ hi;split at ht
 .rename_i m' e hu
  simp [c7,beq_iff_eq] at ht;obtain ⟨⟨rfl,Xp⟩,hie⟩:=ht;have hsize:(sizeOf e).run P w= .ok sz w:=by simp_all [run_sizeOf]
  have hrun:∀ (b off:Nat) (k:IntKind) (n:Int),η x' = .pointer (some (ad b off))->η i' = .int k n->0<=n->n<m' ->
    (execOp η ⟨dst,.indexAddr t x' i',ty,pos,after,guard⟩).run P w= .ok (.value (.pointer (some (ad b (off+n.toNat * sz))))) w:=by
   intro b off k n e1 e2 e3 e4;have hb:(0<=n/\n<(m' :Int)):=⟨e3,e4⟩;simp [execOp,e1,e2,Instr.indexAt,run_underlying hu,asIntOf,hsize,hb,aK,Instr.sureAddr]
  simp [n9] at h;split at h
  .grind [VR,DR,Nat.add_assoc]
  .rename_i cells k n hp hq
   split at h
   .rename_i hb
    obtain ⟨rfl,rfl⟩:=h;rw [hp] at h1;rw [hq] at h2;obtain ⟨b,off,g1,g2⟩:=h1;exact ⟨_,hrun _ _ k n g1 h2 hb.1 hb.2,by exact ⟨b,_,rfl,dX.drop _ _ _ g2⟩⟩
   .cases h
  .cases h
 .cases ht
def Rp (hρ:cq ck G I N w η ρ){o:Oper}{x i:y6}(hc:E4 P ck o (.J6 x i)=true){v:c8}{rs:List Nat}
  (h:n9 ρ H (.J6 x i)=some (v,rs)):Good P G I N w η o v:=by
 obtain ⟨dst,dW,ty,pos,after,guard⟩:=o;cases dW<;>simp [E4] at hc<;>try simp_all
 obtain ⟨⟨hx,hi⟩,ht⟩:=hc;have h1:=hρ _ _ hx;have h2:=hρ _ _ hi;split at ht
 .simp [n9] at h
  split at h
  .rename_i s k n hp hq
   split at h
   .split at h
    .rename_i b hb
     obtain ⟨rfl,rfl⟩:=h;rw [hp] at h1;rw [hq] at h2;simp [VR,DR] at h1 h2;refine ⟨.int .u8 b.toNat,?_,by simp [VR,DR]⟩;have hsz:(⟨s.toArray⟩:ByteArray).size=s.length:=by rfl
     have hlt:n.toNat<s.length:=by
      grind
     have hg:(⟨s.toArray⟩:ByteArray)[n.toNat]? =some b:=by
      rw [getElem?_pos _ _ (by omega)];rw [l6 hlt] at hb;simp at hb;subst hb;rfl
     simp_all [execOp,Instr.index,run_underlying,asIntOf]
    .cases h
   .cases h
  .cases h
 .cases ht
def FK (hρ:cq ck G I N w η ρ){o:Oper}{x:y6}{i:Nat}(hc:E4 P ck o (.extract x i)=true){v:c8}{rs:List Nat}
  (h:n9 ρ H (.extract x i)=some (v,rs)):Good P G I N w η o v:=by
 obtain ⟨dst,dW,ty,pos,after,guard⟩:=o;cases dW<;>simp [E4] at hc;rename_i x' i';obtain ⟨hx,rfl⟩:=hc;have h1:=hρ _ _ hx;simp [n9] at h;split at h
 .rename_i vs hp
  split at h
  .rename_i u hu
   simp at h;obtain ⟨rfl,rfl⟩:=h;rw [hp] at h1;obtain ⟨cs,g1,g2⟩:=h1;obtain ⟨z,e1,e2⟩:=J5.get vs _ g2 i' u hu;refine ⟨z,?_,e2⟩;simp_all [execOp,Instr.extract]
  .cases h
 .cases h
def Vb (hρ:cq ck G I N w η ρ){o:Oper}{x:y6}(hc:E4 P ck o (.len x)=true){v:c8}{rs:List Nat}
  (h:n9 ρ H (.len x)=some (v,rs)):Good P G I N w η o v:=by
 obtain ⟨dst,dW,ty,pos,after,guard⟩:=o;unfold E4 at hc;split at hc<;>try (cases hc)
 all_goals rename_i nU jl
 all_goals cases jl
 rename_i args argTypes;split at hc
 .rename_i x' t ha hb
  simp [c7] at hc;obtain ⟨hx,ht⟩:=hc;split at ht
  .rename_i e hu
   have hrun:∀ a len cap,η x' = .slice a len cap->(execOp η ⟨dst,.call ⟨.builtin .len,args,argTypes⟩,ty,pos,after,guard⟩).run P w= .ok (.value (.int .i64 len)) w:=by
    intro a len cap hη;have h0:(args.map η)[0]? =some (.slice a len cap):=by simp [ha,hη]
    simp [execOp,resolve,invoke,builtin,Builtin.len_,hb,h0,run_underlying hu,goInt]
   simp [n9] at h
   .grind [VR,DR,i64]
   all_goals grind [VR,DR,i64]
  .cases ht
 .cases hc
def Rq (hρ:cq ck G I N w η ρ){o:Oper}{x:y6}(hc:E4 P ck o (.V5 x)=true){v:c8}{rs:List Nat}
  (h:n9 ρ H (.V5 x)=some (v,rs)):Good P G I N w η o v:=by
 obtain ⟨dst,dW,ty,pos,after,guard⟩:=o;unfold E4 at hc;split at hc<;>try (cases hc)
 all_goals rename_i nU jl
 all_goals cases jl
 all_goals subst nU
 rename_i args argTypes;split at hc
 .rename_i x' t ha hb
  simp [c7] at hc;obtain ⟨hx,ht⟩:=hc;have h1:=hρ _ _ hx;split at ht
  .rename_i hu
   simp [n9] at h;split at h
   .rename_i s hp
    obtain ⟨rfl,rfl⟩:=h;rw [hp] at h1;simp [VR,DR] at h1;have h0:(args.map η)[0]? =some (.string ⟨s.toArray⟩):=by simp [ha,h1]
    have hsz:(⟨s.toArray⟩:ByteArray).size=s.length:=by rfl
    refine ⟨.int .i64 s.length,?_,by rfl⟩;simp [execOp,resolve,invoke,builtin,Builtin.len_,hb,h0,run_underlying hu,goInt,hsz]
   .cases h
  .cases ht
 .cases hc
theorem ER.length:∀ (l:List (Key×c8)) (es:List MapEntry),ER G I N w l es->es.length=l.length
 |[],es,h=>by simp [ER] at h;simp [h]
 |(k,v)::r,es,h=>by
  simp only [ER] at h;obtain ⟨e,es',rfl,_,_,h4⟩:=h;simp [ER.length r es' h4]
theorem gZ (hρ:cq ck G I N w η ρ):∀ (xs:List Operand) (ys:List y6),SF ck xs ys=true->J5 G I N w (ys.map ρ) (xs.map η)
 |[],[],_=>by simp [J5]
 |x::xs,y::ys,h=>by
  simp [SF,c7] at h;exact ⟨_,_,rfl,hρ _ _ h.1,gZ hρ xs ys h.2⟩
 |[],_::_,h=>by simp [SF] at h
 |_::_,[],h=>by simp [SF] at h
def Jg (hρ:cq ck G I N w η ρ){o:Oper}{f:FuncId}{a b:List y6}(hc:E4 P ck o (.ay f a b)=true){v:c8}{rs:List Nat}
  (h:n9 ρ H (.ay f a b)=some (v,rs)):Good P G I N w η o v:=by
 obtain ⟨dst,dW,ty,pos,after,guard⟩:=o;unfold E4 at hc;split at hc<;>try (cases hc)
 all_goals rename_i nU jl
 all_goals cases jl
 all_goals subst nU
 rename_i f' first caps
 simp [c7,beq_iff_eq] at hc;obtain ⟨⟨rfl,h1⟩,h2⟩:=hc;obtain ⟨rfl,rfl⟩:=h;refine ⟨.func (.func f') (first.map η) (caps.map η),by rfl,?_⟩;exact ⟨_,_,rfl,by simpa using gZ hρ _ _ h1,by simpa using gZ hρ _ _ h2⟩
theorem Ao:∀ (as:List c8) (vs:List Value) (r:Data) (k:IntKind) (n:Int),ey true (.int k n) as=some r->J5 G I N w as vs ->
  ∃ m,r= .int k m/\(vs.foldlM Builtin.max2 (.int k n)).run P w= .ok (.int k m) w
 |[],vs,r,k,n,h,hv=>by
  simp_all [ey,J5]
 |x::xs,vs,r,k,n,h,hv=>by
  obtain ⟨u,us,rfl,e2,e3⟩:=hv;unfold ey at h;split at h
  .simp_all
  .rename_i b r' heq
   cases heq;split at h
   .rename_i c hc
    unfold ym at hc;split at hc
    .rename_i k1 x1 k2 y1 e1
     cases e1;simp at hc;subst hc;subst e2;obtain ⟨m,g1,g2⟩:=Ao xs us r k _ h e3;simp_all [List.foldlM_cons,Sem.run_bind,Builtin.max2,Sem.run_pure,Result.andThen_ok]
    .cases hc
   .cases h
  .cases h
theorem Ap:∀ (as:List c8) (vs:List Value) (r:Data) (k:IntKind) (n:Int),ey false (.int k n) as=some r->J5 G I N w as vs ->
  ∃ m,r= .int k m/\(vs.foldlM Builtin.min2 (.int k n)).run P w= .ok (.int k m) w
 |[],vs,r,k,n,h,hv=>by
  simp_all [ey,J5]
 |x::xs,vs,r,k,n,h,hv=>by
  obtain ⟨u,us,rfl,e2,e3⟩:=hv;unfold ey at h;split at h
  .simp_all
  .rename_i b r' heq
   cases heq;split at h
   .rename_i c hc
    unfold ym at hc;split at hc
    .rename_i k1 x1 k2 y1 e1
     cases e1;simp at hc;subst hc;subst e2;obtain ⟨m,g1,g2⟩:=Ap xs us r k _ h e3;simp_all [List.foldlM_cons,Sem.run_bind,Builtin.min2,Sem.run_pure,Result.andThen_ok]
    .cases hc
   .cases h
  .cases h
def Iw {b:Bool}{a r:Data}{l:List c8}(h:ey b a l=some r)(hne:l≠[]):∃ k n,a= .int k n:=by
 cases l with
 |nil=>simp_all
 |cons x xs =>
  unfold ey at h;simp_all [ym]<;>grind
def Jf (hρ:cq ck G I N w η ρ){o:Oper}{b:Bool}{ys:List y6}(hc:E4 P ck o (.gL b ys)=true){v:c8}{rs:List Nat}
  (h:n9 ρ H (.gL b ys)=some (v,rs)):Good P G I N w η o v:=by
 obtain ⟨dst,dW,ty,pos,after,guard⟩:=o;unfold E4 at hc;split at hc<;>try (cases hc)
 all_goals rename_i nU jl
 all_goals cases jl
 all_goals simp [c7] at hc
 all_goals obtain ⟨hc,hl⟩:=hc
 all_goals have h1:=gZ hρ _ _ hc
 all_goals simp [n9] at h
 all_goals split at h
 all_goals try (cases h)
 all_goals rename_i a r heq
 all_goals split at h
 all_goals rename_i c sU
 all_goals obtain ⟨rfl,rfl⟩:=h
 all_goals rw [heq] at h1
 all_goals obtain ⟨x,xs,e1,e2,e3⟩:=h1
 all_goals have hne:r≠[]:=fun hr=>by simp_all [List.length]<;>grind
 all_goals obtain ⟨k,n,rfl⟩:=Iw sU hne
 all_goals subst e2
 .obtain ⟨m,rfl,g2⟩:=Ao (P:=P) r xs c k n sU e3
  refine ⟨.int k m,?_,by simp [VR,DR]⟩;simp_all [execOp,resolve,invoke,builtin,Builtin.max_,Sem.run_bind,Sem.run_pure,Result.andThen_ok]
 .obtain ⟨m,rfl,g2⟩:=Ap (P:=P) r xs c k n sU e3
  refine ⟨.int k m,?_,by simp [VR,DR]⟩;simp_all [execOp,resolve,invoke,builtin,Builtin.min_,Sem.run_bind,Sem.run_pure,Result.andThen_ok]
def qp (R:Value->Bool->Prop):List MapEntry->Nat->Option (Nat×Value)->Prop
 |[],_,q=>q=none
 |e::es,i,q=>(R e.key true/\q=some (i,e.val))\/(R e.key false/\qp R es (i+1) q)
def mN (P:Program)(w:World)(t:TypeId)(d:TypeDesc)(u:Value):KK->Value->Bool->Prop
 | .st _,v,r=>(Op.equal t u v).run P w= .ok r w/\Instr.sameNow d u v=none
 |_,v,r=>Instr.sameNow d u v=some r
def NL {G:Gh}{w:World}{I:R3}{N:Nat->Prop}(l:List KD)(j:Nat)(c:c8)(h:(l.map KD.av)[j]? =some c):∃ v,(l.map KD.val).toArray[0+j]? =some v/\VR G I N w .none c v:=by
 simp only [List.getElem?_map,Option.map_eq_some_iff] at h;obtain ⟨x,hx,rfl⟩:=h;exact ⟨x.val,by simp [hx],by cases x<;>simp [KD.av,KD.val,VR,DR]⟩
def tJ {kk:KK}{a b:Key}{r:Bool}(h:Data.aT kk a b=some r){t:TypeId}{d:TypeDesc}(ht:uY P t kk=true)(hd:P.underlying t=some d):mN P w t d a.val kk b.val r:=by
 unfold Data.aT at h;split at h
 .split at h
  .rename_i hkk
   subst hkk;simp at h;subst h;simp only [uY,eu,hd] at ht;split at ht
   .rename_i hx;cases hx;simp [mN,Key.val,Instr.sameNow]
   .cases ht
  .cases h
 .simp at h;subst h
  simp only [uY,eu,hd] at ht;split at ht
  .rename_i hx;cases hx;simp [mN,Key.val,Instr.sameNow,beq_toListBytes]
  .cases ht
 .simp at h;subst h
  simp only [uY,eu,hd] at ht;split at ht
  .rename_i hx;cases hx;simp [mN,Key.val,Instr.sameNow]
  .cases ht
 .rename_i ks l m
  simp only [uY,iL,hd] at ht;split at ht
  .rename_i fs uU
   cases uU;simp only [c7,n5] at ht;have hff:P.fieldsOf t=fs:=by simp [Program.fieldsOf,hd]
   have heq:=run_equalIn_struct (P:=P) w 9999 t (l.map KD.val).toArray (m.map KD.val).toArray (by rw [hff];exact hd) ht.1.2;rw [hff,jR (P:=P) (G:=fun _=> .free) (I:=fun _=>(0,0)) (N:=fun _=>False) 9998 _ _ fs.toList 0 ks _ _ r ht.1.1 h (NL l) (NL m)] at heq;exact ⟨heq,by simp [Key.val,Instr.sameNow]⟩
  .cases ht
 .cases h
theorem Hz {kk:KK}{t:TypeId}{d:TypeDesc}(ht:uY P t kk=true)(hd:P.underlying t=some d){key:Key} :
  ∀ (l:List (Key×c8)) (es:List MapEntry) (i:Nat) (r:Option c8),ER G I N w l es->bB kk key l=some r ->
   ∃ q,qp (mN P w t d key.val kk) es i q/\(match r,q with
    |none,none=>True
    |some a,some (_,v)=>VR G I N w .none a v
    |_,_=>False)
 |[],es,i,r,hE,h=>by
  simp [ER] at hE;subst hE;simp [bB] at h;subst h;exact ⟨none,rfl,trivial⟩
 |(k',v')::rest,es,i,r,hE,h=>by
  simp only [ER] at hE;obtain ⟨e,es',rfl,h2,h3,h4⟩:=hE;unfold bB at h;split at h
  .rename_i hk
   simp at h;subst h;exact ⟨some (i,e.val),.inl ⟨h2 ▸ tJ hk ht hd,rfl⟩,h3⟩
  .rename_i hk
   obtain ⟨q,g1,g2⟩:=Hz ht hd rest es' (i+1) r h4 h;exact ⟨q,.inr ⟨h2 ▸ tJ hk ht hd,g1⟩,g2⟩
  .cases h
def nM {kk:KK}{t:TypeId}{d:TypeDesc}(hd:P.underlying t=some d){u:Value}{es:List MapEntry}{q:Option (Nat×Value)}(h:qp (mN P w t d u kk) es 0 q):(Instr.findKey t u es).run P w= .ok q w:=by
 have plain:(∀ v r,mN P w t d u kk v r->Instr.sameNow d u v=some r)->(Instr.findKey t u es).run P w= .ok q w:=by
  intro hp;have:∀ (es:List MapEntry) (i:Nat),qp (mN P w t d u kk) es i q->Instr.findNow d u es i=some q:=by
   intro es
   induction es with
   |nil=>intro i h;simp only [qp] at h;simp [Instr.findNow,h]
   |cons e es ih =>
    intro i h
    rcases h with ⟨h1,rfl⟩|⟨h1,h2⟩
    .simp [Instr.findNow,hp _ _ h1]
    .simp [Instr.findNow,hp _ _ h1,ih _ h2]
  simp [Instr.findKey,run_underlying hd,this es 0 h]
 cases kk with
 |i=>exact plain fun _ _ h=>h
 |s=>exact plain fun _ _ h=>h
 |b=>exact plain fun _ _ h=>h
 |st ks =>
  have ask:∀ (es:List MapEntry) (i:Nat),qp (mN P w t d u (.st ks)) es i q->(Instr.findAsking t u es i).run P w= .ok q w:=by
   intro es
   induction es with
   |nil=>intro i h;simp only [qp] at h;simp [Instr.findAsking,h]
   |cons e es ih =>
    intro i h
    rcases h with ⟨h1,rfl⟩|⟨h1,h2⟩
    .simp [Instr.findAsking,h1.1]
    .simp [Instr.findAsking,h1.1,ih _ h2]
  have:=ask es 0 h;cases es with
  |nil=>simp only [qp] at h;simp [Instr.findKey,run_underlying hd,Instr.findNow,h]
  |cons e es =>
   have h0:Instr.sameNow d u e.key=none:=by
    rcases h with ⟨h1,_⟩|⟨h1,_⟩<;>exact h1.2
   simp [Instr.findKey,run_underlying hd,Instr.findNow,h0,this]
def fN {k:CK}{t:TypeId}(ht:eu P t k=true)(b:Bool)(n:Nat)(u:Value):(Instr.checkKey b (n+1) t u).run P w= .ok () w:=by
 cases k<;>simp only [eu] at ht<;>split at ht<;>first|(cases ht;done)|(rename_i hu;simp [Instr.checkKey,run_underlying hu])
def iE {kk:KK}{t:TypeId}(ht:uY P t kk=true){key:Key}(hf:kk.fits key=true)(b:Bool)(n:Nat):(Instr.checkKey b (n+2) t key.val).run P w= .ok () w:=by
 have fields (l:List KD):∀ (fs:List Field) (n0:Nat) (ks:List CK) (m:List KD),S3 P fs n0 ks=true->(P5 ks (m.map KD.av) (m.map KD.av)).isSome=true->(∀ j x,m[j]? =some x->(l.map KD.val).toArray[n0+j]? =some x.val) ->
   Sem.run P (forIn fs PUnit.unit fun (f : Field) (_ : PUnit) => if f.name ≠ "_" then do
    let v <- part f.type (l.map KD.val).toArray f.offset
    Instr.checkKey b (n+1) f.type v
    pure (ForInStep.yield PUnit.unit) else pure (ForInStep.yield PUnit.unit)) w= .ok PUnit.unit w:=by
  intro fs
  induction fs with
  |nil=>intro n0 ks m _ _ _;simp
  |cons f fs ih =>
   intro n0 ks m hf hc hm;cases ks with
   |nil=>simp [S3] at hf
   |cons k ks =>
    simp only [S3,c7,bne_iff_ne,beq_iff_eq] at hf;obtain ⟨⟨⟨h1,h2⟩,h3⟩,h4⟩:=hf;cases m with
    |nil=>simp [P5] at hc
    |cons x m =>
     have mQ:(P5 ks (m.map KD.av) (m.map KD.av)).isSome=true:=by
      cases x<;>simp only [F4,KD.av,P5] at hc<;>split at hc<;>first|(split at hc<;>simp_all)|simp_all
     have e1:=run_part_plain (w:=w) h2 (l.map KD.val).toArray n0 x.val (hm 0 x rfl);simp only [List.forIn_cons,Sem.run_bind,if_pos h1,h3,e1,Result.andThen_ok,fN h2,Sem.run_pure];exact ih (n0+1) ks m h4 mQ fun j y hy=>by rw [show n0+1+j=n0+(j+1) from by omega];exact hm (j+1) y (by simpa using hy)
 cases kk with
 |i=>exact fN (k:= .i) ht b _ _
 |s=>exact fN (k:= .s) ht b _ _
 |b=>exact fN (k:= .b) ht b _ _
 |st ks =>
  simp only [uY,iL] at ht;split at ht
  .rename_i fs uU
   simp only [c7,n5] at ht;cases key<;>simp only [KK.fits,j3] at hf;rename_i l;rw [Instr.checkKey];simp only [Key.val,Sem.run_bind,run_underlying uU,Result.andThen_ok];rw [<- Array.forIn_toList,fields l fs.toList 0 ks l ht.1.1 hf (fun j x hj=>by simp [hj])];simp
  .cases ht
theorem NM:∀ (l:List c8) (r:List KD) (xs:List Value),Mf l=some r->J5 G I N w l xs->xs=r.map KD.val
 |[],r,xs,h,hv=>by simp [Mf] at h;subst h;simpa [J5] using hv
 |v::l,r,xs,h,hv=>by
  simp only [J5] at hv;obtain ⟨x,ys,rfl,h1,h2⟩:=hv;unfold Mf at h;split at h
  .rename_i e;cases e
  all_goals first|(cases h;done)|skip
  all_goals rename_i e;cases e
  all_goals split at h<;>first|(cases h;done)|skip
  all_goals
   rename_i r' hr;cases h;rw [NM _ r' ys hr h2];simp only [VR,DR] at h1;simp [h1,KD.val]
def FB {v:c8}{k:Key}{pl:Place}{x:Value}(h:v.Mg =some k)(hv:VR G I N w pl v x):x=k.val:=by
 unfold c8.Mg at h;split at h
 .cases h;simpa [VR,DR,Key.val] using hv
 .cases h;simpa [VR,DR,Key.val] using hv
 .cases h;simpa [VR,DR,Key.val] using hv
 .split at h
  .rename_i r hr
   cases h;simp only [VR] at hv;obtain ⟨cs,rfl,h2⟩:=hv;have:=NM _ r _ hr h2;simp [Key.val,<- this]
  .cases h
 .cases h
def NB {kk:KK}{k:Key}{r:Bool}(h:Data.aT kk k k=some r):kk.fits k=true:=by
 unfold Data.aT at h;unfold KK.fits;split at h<;>simp_all
def Je (hρ:cq ck G I N w η ρ)(hH:HR G I N w H){o:Oper}{kk:KK}{zero:c8}{ok:Bool}{m k:y6}(hc:E4 P ck o (.lookup kk zero ok m k)=true){v:c8}{rs:List Nat}
  (h:n9 ρ H (.lookup kk zero ok m k)=some (v,rs)):Good P G I N w η o v:=by
 obtain ⟨dst,dW,ty,pos,after,guard⟩:=o;cases dW<;>simp only [E4,c7,beq_iff_eq] at hc<;>try (cases hc;done)
 rename_i t m' k' Uy;obtain ⟨⟨⟨rfl,hm⟩,hk⟩,ht⟩:=hc;have h1:=hρ _ _ hm;have h2:=hρ _ _ hk;split at ht
 .rename_i kt et hu
  simp only [c7] at ht;obtain ⟨hkt,hz⟩:=ht;split at hz
  .rename_i it hit
   split at hz
   .rename_i z hzz
    have hzero:(zeroValue et).run P w= .ok z w:=by simp [zeroValue,typeInfo,hit,hzz]
    have hzr:VR G I N w .none zero z:=cF _ _ hz;obtain ⟨dk,hdk⟩:∃ d,P.underlying kt=some d:=by
     cases hd:P.underlying kt with
     |none=>cases kk<;>simp [uY,eu,iL,hd] at hkt
     |some d=>exact ⟨d,rfl⟩
    simp only [n9] at h;split at h
    .rename_i id key hp hq
     rw [hp] at h1;simp only [VR] at h1;have h2:=FB hq h2;split at h
     .rename_i es he
      split at h
      .rename_i r hr hfit
       simp at h;obtain ⟨rfl,rfl⟩:=h;have hO:=hH id _ he;simp only [OR] at hO;obtain ⟨_,arr,eS,g1,_,g3,_⟩:=hO;obtain ⟨q,f1,f2⟩:=Hz (P:=P) hkt hdk es arr.toList 0 r g3 hr;have hgo:(getObj (I id).1).run P w= .ok (.map arr eS) w:=by simp [getObj,Sem.run,g1]
       have hfk:(Instr.findKey kt (η k') arr.toList).run P w= .ok q w:=by rw [h2];exact nM hdk f1
       have hck:=fun b=>h2 ▸ iE (P:=P) (w:=w) hkt hfit b 9998
       cases r with
       |none =>
        cases q with
        |some q=>exact f2.elim
        |none =>
         refine ⟨if Uy then .tuple #[z,.bool false] else z,?_,?_⟩
         .cases Uy <;>simp [execOp,h1.2,Instr.lookup,run_underlying hu,hgo,hck,hfk,hzero]
         .cases Uy
          .simpa using hzr
          .simp only [VR,Option.getD_none,Option.isSome_none,if_true]
           exact ⟨_,rfl,by simp [J5,VR,DR,hzr]⟩
       |some a =>
        cases q with
        |none=>exact f2.elim
        |some q =>
         obtain ⟨qi,qv⟩:=q;refine ⟨if Uy then .tuple #[qv,.bool true] else qv,?_,?_⟩
         .cases Uy <;>simp [execOp,h1.2,Instr.lookup,run_underlying hu,hgo,hck,hfk]
         .cases Uy
          .simpa using f2
          .simp only [VR,Option.getD_some,Option.isSome_some,if_true]
           exact ⟨_,rfl,by simp [J5,VR,DR];exact f2⟩
      .cases h
     .cases h
    .rename_i key hp hq
     rw [hp] at h1;simp only [VR,DR] at h1;have h2:=FB hq h2;split at h
     .rename_i hkk
      simp at h;obtain ⟨rfl,rfl⟩:=h;have hck:=fun b=>h2 ▸ iE (P:=P) (w:=w) hkt (NB hkk) b 9998
      have hfk:(Instr.findKey kt (η k') []).run P w= .ok none w:=by simp [Instr.findKey,run_underlying hdk,Instr.findNow]
      refine ⟨if Uy then .tuple #[z,.bool false] else z,?_,?_⟩
      .cases Uy <;>simp [execOp,h1,Instr.lookup,run_underlying hu,hck,hfk,hzero]
      .cases Uy
       .simpa using hzr
       .simp only [VR,if_true]
        exact ⟨_,rfl,by simp [J5,VR,DR,hzr]⟩
     .cases h
    .cases h
   .cases hz
  .cases hz
 .cases ht
end
def Cu (vs:List Value):Prop:=∀ v ∈ vs,v.oneCell' =true
def N5 (l:List Value)(off:Nat)(vs:List Value):List Value:=l.take off++vs++l.drop (off+vs.length)
section
variable {P:Program} {w:World} {ck:Operand->y6->Bool} {η:Operand->Value} {ρ:y6->c8} {G:Gh} {I:R3} {N:Nat->Prop} {H:o9}
theorem J5.append:∀ (a:List c8) (xs:List Value) (b:List c8) (ys:List Value),J5 G I N w a xs->J5 G I N w b ys->J5 G I N w (a++b) (xs++ys)
 |[],xs,b,ys,h,k=>by simp_all [J5]
 |a::as,xs,b,ys,h,k=>by
  obtain ⟨x,xs',rfl,h2,h3⟩:=h;exact ⟨x,xs' ++ys,rfl,h2,J5.append as xs' b ys h3 k⟩
theorem J5.take:∀ (n:Nat) (a:List c8) (xs:List Value),J5 G I N w a xs->J5 G I N w (a.take n) (xs.take n)
 |0,_,_,_=>by simp [J5]
 |n+1,[],xs,h=>by simp_all [J5]
 |n+1,a::as,xs,h=>by
  obtain ⟨x,xs',rfl,h2,h3⟩:=h;exact ⟨x,xs'.take n,rfl,h2,J5.take n as xs' h3⟩
theorem J5.drop:∀ (n:Nat) (a:List c8) (xs:List Value),J5 G I N w a xs->J5 G I N w (a.drop n) (xs.drop n)
 |0,_,_,h=>by simpa using h
 |n+1,[],xs,h=>by simp_all [J5]
 |n+1,a::as,xs,h=>by
  obtain ⟨x,xs',rfl,h2,h3⟩:=h;exact J5.drop n as xs' h3
theorem J5.splice {a b:List c8}{xs ys:List Value}(h:J5 G I N w a xs)(k:J5 G I N w b ys)(off:Nat):J5 G I N w (splice a off b) (N5 xs off ys):=by
 grind [x9.splice,N5,J5.length,J5.append,J5.take,J5.drop]
theorem kP {a:c8}(ha:a.one=true){pl:Place}{x:Value}(h:VR G I N w pl a x):x.oneCell' =true/\x.cells= #[x]:=by
 cases a<;>simp [c8.one] at ha
 .rename_i d
  cases d<;>simp [VR] at h
  all_goals first
   |(subst h;exact ⟨rfl,rfl⟩)
   |(rcases h with ⟨h|⟨a0,h⟩,_⟩|⟨b,o,cap,h,_⟩<;>(subst h;exact ⟨rfl,rfl⟩))
 .obtain ⟨_,h⟩:=h;subst h;exact ⟨rfl,rfl⟩
 .obtain ⟨b,o,h,_⟩:=h;subst h;exact ⟨rfl,rfl⟩
 .obtain ⟨_,cap,h,_⟩:=h;subst h;exact ⟨rfl,rfl⟩
 .obtain ⟨_,h⟩:=h
  rcases h with ⟨h|⟨b,o,h⟩,_⟩|⟨_,b,o,cap,c,e,f,h,_⟩<;>(subst h;exact ⟨rfl,rfl⟩)
 .subst h;exact ⟨rfl,rfl⟩
 .obtain ⟨x,y,h,_⟩:=h;subst h;exact ⟨rfl,rfl⟩
 .obtain ⟨_,h⟩:=h;subst h;exact ⟨rfl,rfl⟩
theorem mq:∀ (l:List c8) (xs:List Value),l.all c8.one=true->J5 G I N w l xs->Cu xs
 |[],xs,_,h=>by subst h;intro v hv;cases hv
 |a::as,xs,ha,h=>by
  simp only [List.all_cons,c7] at ha;obtain ⟨x,xs',rfl,h2,h3⟩:=h;intro v hv
  rcases B4.1 hv with rfl|hv
  .grind [kP]
  .exact mq as xs' ha.2 h3 v hv
def wA {a:c8}{l:List c8}(ha:a.cells? =some l){x:Value}(h:VR G I N w .none a x):J5 G I N w l x.cells.toList/\Cu x.cells.toList:=by
 unfold c8.cells? at ha;split at ha
 .split at ha
  .rename_i hall
   simp at ha;subst ha;obtain ⟨cs,rfl,h2⟩:=h;exact ⟨h2,mq _ _ hall h2⟩
  .cases ha
 .split at ha
  .rename_i hone
   simp at ha;subst ha;obtain ⟨h1,h2⟩:=kP hone h;refine ⟨?_,fun v hv=> ?_⟩
   all_goals simp_all [J5]
  .cases ha
theorem CW (off:Nat):∀ (vs:List Value) (k:Nat) (cs:Array Value),off+k+vs.length<=cs.size ->
  ((vs.zipIdx k).foldl (fun (cs:Array Value) (p:Value×Nat)=>cs.setIfInBounds (off+p.2) p.1) cs).toList=cs.toList.take (off+k)++vs++cs.toList.drop (off+k+vs.length)
 |[],k,cs,_=>by simp
 |v::vs,k,cs,h=>by
  simp [p7] at h;rw [List.zipIdx_cons,List.foldl_cons,CW off vs (k+1) _ (by simp;omega)];have hlt:off+k<cs.toList.length:=by simp;omega
  simp [Array.toList_setIfInBounds];rw [show off+(k+1)=off+k+1 from by omega];rw [List.take_succ_eq_append_getElem (by simp_all)];rw [List.drop_set_of_lt (by omega)];simp [List.take_set_of_le (o5 _),p7]
  grind
def QE {off:Nat}{v:Value}{cs:Array Value}(h:off+v.cells.size<=cs.size) :
  v.cells.zipIdx.foldl (fun cs (c,j)=>cs.setIfInBounds (off+j) c) cs=(N5 cs.toList off v.cells.toList).toArray:=by
 have:=CW off v.cells.toList 0 cs (by simpa using h);have e:v.cells.zipIdx.foldl (fun cs (c,j)=>cs.setIfInBounds (off+j) c) cs=(v.cells.toList.zipIdx 0).foldl (fun (cs:Array Value) (p:Value×Nat)=>cs.setIfInBounds (off+p.2) p.1) cs:=by
  rw [<- Array.foldl_toList];simp
 grind [Array.toList_inj,N5]
theorem lV (hρ:cq ck G I N w η ρ){place:Nat->Option (Nat×Nat)}:∀ (parts:List (Nat×Operand)) (ps:List (Nat×Nat×y6)) (l cs:List c8) (xs:Array Value),
  jD P ck place parts ps=true->J5 G I N w l xs.toList->bA l (ps.map fun (o,s,x)=>(o,s,ρ x))=some cs ->
  ∃ ys:Array Value,Instr.fill place xs (parts.map fun (i,x)=>(i,η x))=some ys/\J5 G I N w cs ys.toList
 |[],[],l,cs,xs,_,hl,h=>by
  simp [bA] at h;subst h;exact ⟨xs,rfl,hl⟩
 |(i,x)::r,(off,sz,y)::q,l,cs,xs,hp,hl,h=>by
  simp [jD,c7,beq_iff_eq] at hp;obtain ⟨⟨h1,h2⟩,h3⟩:=hp;simp [F4,bA] at h;split at h
  .rename_i l' hl'
   split at h
   .obtain ⟨g1,g2⟩:=wA hl' (hρ _ _ h2)
    have hlen:(η x).cells.size=sz:=by
     have:=J5.length _ _ g1;simp_all
    have hlx:xs.size=l.length:=by
     have:=J5.length _ _ hl;omega
    have mY:J5 G I N w (splice l off l') ((N5 xs.toList off (η x).cells.toList).toArray).toList:=by
     simp_all [J5.splice]
    obtain ⟨ys,e1,e2⟩:=lV hρ r q _ cs _ h3 mY h;refine ⟨ys,?_,e2⟩;have hc:¬ ((η x).cells.size≠sz||off+(η x).cells.size>xs.size)=true:=by
     simp_all
    simp only [F4,Instr.fill,h1];rw [if_neg hc,QE (by omega)];exact e1
   .cases h
  .cases h
 |[],_::_,_,_,_,hp,_,_=>by simp [jD] at hp
 |_::_,[],_,_,_,hp,_,_=>by simp [jD] at hp
def mK {t:TypeId}{l:List c8}(h:BH P t l=true):∃ i z,P.info? t=some i/\i.zero=some z/\J5 G I N w l z.cells.toList:=by
 grind [BH,ek]
def Mw (hρ:cq ck G I N w η ρ){o:Oper}{zero:List c8}{ps:List (Nat×Nat×y6)}(hc:E4 P ck o (.build zero ps)=true){v:c8}{rs:List Nat}
  (h:n9 ρ H (.build zero ps)=some (v,rs)):Good P G I N w η o v:=by
 obtain ⟨dst,dW,ty,pos,after,guard⟩:=o;cases dW<;>simp [E4] at hc<;>try simp_all
 rename_i t parts;simp [n9] at h;split at h
 .rename_i cs hcs
  obtain ⟨rfl,rfl⟩:=h;have key:∃ ys:Array Value,P.built t (parts.toList.map fun (i,x)=>(i,η x))=some ys/\J5 G I N w cs ys.toList:=by
   split at hc
   .split at hc
    .simp [c7] at hc
     obtain ⟨it,z,e1,e2,e3⟩:=mK (G:=G) (I:=I) (N:=N) (w:=w) hc.1;obtain ⟨ys,f1,f2⟩:=lV hρ parts.toList ps zero cs z.cells hc.2 e3 hcs;simp_all [wE,Program.built]
    .cases hc
   .split at hc
    .simp [c7] at hc
     obtain ⟨it,z,e1,e2,e3⟩:=mK (G:=G) (I:=I) (N:=N) (w:=w) hc.1;obtain ⟨ys,f1,f2⟩:=lV hρ parts.toList ps zero cs z.cells hc.2 e3 hcs;simp_all [Program.built]
    .cases hc
   .cases hc
  obtain ⟨ys,e1,e2⟩:=key;refine ⟨.agg ys,?_,by simp_all [VR]⟩;simp_all [run_build,execOp,Sem.run_bind]
 .cases h
def MA (hη:∀ v,η (.const v)=v)(hρ:cq ck G I N w η ρ)(hH:HR G I N w H){o:Oper}{op:z6}(hc:E4 P ck o op=true){v:c8}{rs:List Nat}
  (h:n9 ρ H op=some (v,rs)):Good P G I N w η o v:=by
 cases op
 case pick=>exact Rt hρ hc h
 case build=>exact Mw hρ hc h
 case load=>exact Rr hρ hH hc h
 case aU=>exact My hρ hc h
 case bin=>exact UY hρ hc h
 case un=>exact YX hρ hc h
 case Au=>exact Rs hη hρ hc h
 case s8=>exact UZ hρ hc h
 case Hv=>exact Va hρ hc h
 case mP=>exact Mx hρ hc h
 case jP=>exact Jd hρ hc h
 case Y8=>exact Jh hρ hc h
 case off=>exact Vc hρ hc h
 case D5=>exact Rm hρ hc h
 case gJ=>exact Ro hρ hc h
 case J6=>exact Rp hρ hc h
 case extract=>exact FK hρ hc h
 case len=>exact Vb hρ hc h
 case V5=>exact Rq hρ hc h
 case gL=>exact Jf hρ hc h
 case ay=>exact Jg hρ hc h
 case lookup=>exact Je hρ hH hc h
 all_goals simp_all [E4]
end
variable [D9]
def iu (G:Gh)(b:Nat)(l:Qe):Gh:=fun x=>if x=b then l else G x
def Bz (I:R3)(id:Nat)(p:Nat×Nat):R3:=fun x=>if x=id then p else I x
@[simp] theorem oM (G:Gh) (b:Nat) (l:Qe):iu G b l b=l:=by simp [iu]
theorem K7 {G:Gh}{b:Nat}{l:Qe}{x:Nat}(h:x≠b):iu G b l x=G x:=by simp [iu,h]
@[simp] theorem dM (I:R3) (id:Nat) (p:Nat×Nat):Bz I id p id=p:=by simp [Bz]
def fI {I:R3}{id:Nat}{p:Nat×Nat}{x:Nat}(h:x≠id):Bz I id p x=I x:=by simp [Bz,h]
def kj (l:F2)(G:Gh)(w:World)(G' :Gh)(w' :World):Prop :=
 ∀ id,l.may id=false->(∀ b,G b= .obj id->G' b= .obj id/\w'.heap[b]? =w.heap[b]?)/\∀ off,bz (.cell id off) G w G' w'
theorem kj.refl (l:F2)(G:Gh)(w:World):kj l G w G w:=fun _ _=>⟨fun _ h=>⟨h,rfl⟩,fun _ _ _ h=>⟨h,rfl⟩⟩
theorem kj.trans {l:F2}{G:Gh}{w:World}{G1:Gh}{w1:World}{G2:Gh}{w2:World}(h:kj l G w G1 w1)(k:kj l G1 w1 G2 w2):kj l G w G2 w2:=by
 intro id hid;obtain ⟨h1,h2⟩:=h id hid;obtain ⟨k1,k2⟩:=k id hid;refine ⟨fun b hb=> ?_,fun off b n hb=> ?_⟩
 .simp_all
 .obtain ⟨a1,a2⟩:=h2 off b n hb
  obtain ⟨b1,b2⟩:=k2 off b n a1;simp_all
def Qc (l:F2)(H:o9):Prop :=
 ∀ id o,H[id]? =some o->(id<l.strict->o.K5<=id+1)/\(id<l.base->o.K5<=l.base)
def GK (_P:Program)(idle:FuncId->Bool)(d:Deferred):Prop :=
 ∃ f cap,d.target= .fn (.func f) cap/\idle f=true
structure RI (X:Cx)(l:F2)(S:Nat->Prop)(st:G4)(a:Act)(w:World)(G:Gh)(I:R3)(N:Nat->Prop):Prop where
 T:∀ (s:Nat) t,X.names[s]? =some t->VR G I N w (.slot s) (st.T.getD s .any) (a.tmps.getD t undef)
 L:∀ (j:Nat),S j->∀ d,(X.ops[j]?).bind (·.dst)=some d->X.names.contains d=false->VR G I N w (.loc j) (st.L.getD j .any) (a.tmps.getD d undef)
 H:HR G I N w st.H
 wf:WF G w
 V4:Qc l st.H
def EH {G:Gh}{b n:Nat}{pl wW :Place}(h:G b= .grow n pl)(x o:Nat):gX (iu G b (.grow n wW)) x o↔gX G x o:=by
 grind [gX,iu]
def Ext.relabel {G:Gh}{w:World}{b n:Nat}{pl wW :Place}(h:G b= .grow n pl):Ext G w (iu G b (.grow n wW)) w where
 os:=rfl
 tape:=rfl
 output:=rfl
 drawn _:=o5 _
 size:=o5 _
 kg x o hi:=⟨(EH h x o).2 hi,rfl⟩
 still x hx:=by
  grind [K7]
 shape _ c _ _ hc:=⟨c,hc,rfl⟩
def bz.relabel {G:Gh}{w:World}{b n:Nat}{pl wW q:Place}(h:G b= .grow n pl)(hq:q≠pl):bz q G w (iu G b (.grow n wW)) w:=by
 intro x m hx
 grind [K7]
structure jq (pl:Place)(G:Gh)(w:World)(G' :Gh):Prop where
 ext:Ext G w G' w
 keeps:∀ q,q≠pl->bz q G w G' w
 obj:∀ b id,G b= .obj id->G' b= .obj id
 wf:WF G w->WF G' w
theorem jq.refl (pl:Place)(G:Gh)(w:World):jq pl G w G:=⟨Ext.refl _ _,fun _ _ _ _ h=>⟨h,rfl⟩,fun _ _ h=>h,fun h=>h⟩
def iT {G:Gh}{I:R3}{N:Nat->Prop}{w:World}{pl wW :Place}(hp' :wW ≠ .none){sz len:Nat}{cells:List Data}{x:Value}(h:VR G I N w pl (.own sz len cells) x) :
  ∃ G',jq pl G w G' /\VR G' I N w wW (.own sz len cells) x:=by
 obtain ⟨hl,h⟩:=h
 rcases h with h|⟨hp,b,o,cap,c,e,f,h1,h2,h3,h4,h5,h6,h7⟩
 .exact ⟨G,jq.refl _ _ _,by simp_all [VR]⟩
 .refine ⟨iu G b (.grow (o+len * sz) wW),⟨Ext.relabel h6,fun q hq=>bz.relabel h6 hq,fun x id hx=> ?_,fun hwf x hx=> ?_⟩,?_⟩
  .grind [K7]
  .have:x≠b:=by
    grind
   rw [K7 this];exact hwf x hx
  .exact ⟨hl,Or.inr ⟨hp',b,o,cap,c,e,f,h1,h2,h3,h4,h5,oM _ _ _,dX.mono (Ext.relabel h6).kg b o cells h7⟩⟩
def O1 {α:Type}(l:List α)(i:Nat)(v d:α)(h:i<l.length):(l.set i v).getD i d=v:=by
 simp_all
theorem P8 {α:Type}(l:List α)(i j:Nat)(v d:α)(h:i≠j):(l.set i v).getD j d=l.getD j d:=by
 simp_all
theorem u7 {α:Type}{l:List α}{i:Nat}{v:α}(h:l[i]? =some v):i<l.length:=by
 grind
def aM {α:Type}{l:List α}{i:Nat}{v d:α}(h:l[i]? =some v):l.getD i d=v:=by simp_all
section
variable {X:Cx} {l:F2} {S:Nat->Prop} {st:G4} {a:Act} {w:World} {G:Gh} {I:R3} {N:Nat->Prop}
def HR.Iy {H:o9}{pl:Place}(hH:HR G I N w H){G' :Gh}(hm:jq pl G w G')(HY:∀ id off,pl≠ .cell id off):HR G' I N w H:=by
 intro id o ho;exact OR.mono hm.ext (fun _ _=>rfl) (fun _ h=>h) id o (fun h=>⟨hm.obj _ _ h,rfl⟩) (fun off=>hm.keeps _ (fun e=>HY id off e.symm)) (hH id o ho)
def RI.VS (h:RI X l S st a w G I N){s:Nat}{sz len:Nat}{cells:List Data}(hs:st.T[s]? =some (.own sz len cells))(o7:List Touch)
  {G' :Gh} (hm:jq (.slot s) G w G'):RI X l S { st with T:=st.T.set s (.d (.slice len cells)),o7 } a w G' I N where
 T s' t ht:=by
  by_cases he:s' =s
  .subst he
   have h1:=h.T s' t ht;rw [aM hs] at h1;rw [O1 _ _ _ _ (u7 hs)];have h2:VR G I N w (.slot s') (c8.J2 (.own sz len cells)) (a.tmps.getD t undef):=h1.J2;exact DR.mono hm.ext.kg _ _ h2
  .rw [P8 _ _ _ _ _ (fun e=>he e.symm)]
   exact VR.mono hm.ext (fun _ _=>rfl) (fun _ h=>h) _ _ _ (Or.inr (hm.keeps _ (fun e=>he (by cases e;rfl)))) (h.T s' t ht)
 L j hj d hd hn:=VR.mono hm.ext (fun _ _=>rfl) (fun _ h=>h) _ _ _ (Or.inr (hm.keeps _ (fun e=>by cases e))) (h.L j hj d hd hn)
 H:=h.H.Iy hm (fun _ _ e=>by cases e)
 wf:=hm.wf h.wf
 V4:=h.V4
def RI.OC (h:RI X l S st a w G I N){j0:Nat}{sz len:Nat}{cells:List Data}(hs:st.L[j0]? =some (.own sz len cells))
  {G' :Gh} (hm:jq (.loc j0) G w G'):RI X l S { st with L:=st.L.set j0 (.d (.slice len cells)) } a w G' I N where
 T s' t ht:=VR.mono hm.ext (fun _ _=>rfl) (fun _ h=>h) _ _ _ (Or.inr (hm.keeps _ (fun e=>by cases e))) (h.T s' t ht)
 L j hj d hd hn:=by
  by_cases he:j=j0
  .subst he
   have h1:=h.L j hj d hd hn;rw [aM hs] at h1;rw [O1 _ _ _ _ (u7 hs)];have h2:VR G I N w (.loc j) (c8.J2 (.own sz len cells)) (a.tmps.getD d undef):=h1.J2;exact DR.mono hm.ext.kg _ _ h2
  .rw [P8 _ _ _ _ _ (fun e=>he e.symm)]
   exact VR.mono hm.ext (fun _ _=>rfl) (fun _ h=>h) _ _ _ (Or.inr (hm.keeps _ (fun e=>he (by cases e;rfl)))) (h.L j hj d hd hn)
 H:=h.H.Iy hm (fun _ _ e=>by cases e)
 wf:=hm.wf h.wf
 V4:=h.V4
theorem lM:∀ (l:List c8) (i:Nat) (x:Data),A4 (l.set i (.d x))<=A4 l
 |[],_,_=>by simp
 |v::vs,0,x=>by grind [A4,c8.K5]
 |v::vs,i+1,x=>by
  have:=lM vs i x
  grind [A4]
def RI.VQ (h:RI X l S st a w G I N){id off:Nat}{cs:List c8}{sz len:Nat}{cells:List Data}(hid:st.H[id]? =some (.cells cs))(hs:cs[off]? =some (.own sz len cells))(o7:List Touch)
  {G' :Gh} (hm:jq (.cell id off) G w G'):RI X l S { st with H:=st.H.set id (.cells (cs.set off (.d (.slice len cells)))),o7 } a w G' I N where
 T s' t ht:=by
  exact VR.mono hm.ext (fun _ _=>rfl) (fun _ h=>h) _ _ _ (Or.inr (hm.keeps _ (fun e=>by cases e))) (h.T s' t ht)
 L j hj d hd hn:=by
  exact VR.mono hm.ext (fun _ _=>rfl) (fun _ h=>h) _ _ _ (Or.inr (hm.keeps _ (fun e=>by cases e))) (h.L j hj d hd hn)
 H:=by
  intro id' o ho
  by_cases he:id' =id
  .subst he
   rw [O0 (u7 hid)] at ho;cases ho;have hO:=h.H id' _ hid;obtain ⟨hN,c,e,f,h1,h2,h3,h4,h5⟩:=hO
   .refine ⟨hN,c,e,f,h1,hm.obj _ _ h2,h3,by simp_all,fun i x hx=> ?_⟩
    by_cases hi:i=off
    .subst hi
     rw [O0 (u7 hs)] at hx;cases hx;obtain ⟨v,g1,g2⟩:=h5 i _ hs;refine ⟨v,g1,?_⟩;have h2:VR G I N w (.cell id' i) (c8.J2 (.own sz len cells)) v:=g2.J2;exact DR.mono hm.ext.kg _ _ h2
    .rw [D3 (fun e=>hi e.symm)] at hx
     obtain ⟨v,g1,g2⟩:=h5 i x hx;exact ⟨v,g1,VR.mono hm.ext (fun _ _=>rfl) (fun _ h=>h) _ _ _ (Or.inr (hm.keeps _ (fun e=>hi (by cases e;rfl)))) g2⟩
  .rw [D3 (fun e=>he e.symm)] at ho
   exact OR.mono hm.ext (fun _ _=>rfl) (fun _ h=>h) id' o (fun h=>⟨hm.obj _ _ h,rfl⟩) (fun off' =>hm.keeps _ (fun e=>he (by cases e;rfl))) (h.H id' o ho)
 wf:=hm.wf h.wf
 V4:=by
  intro id' o ho
  by_cases he:id' =id
  .subst he
   rw [O0 (u7 hid)] at ho;obtain ⟨d1,d2⟩:=h.V4 id' _ hid
   grind [lM,u0.K5]
  .rw [D3 (fun e=>he e.symm)] at ho
   exact h.V4 id' o ho
end
end Go.x9
namespace Go.x9
variable [D9]
structure jr (w w' :World)(o:Obj):Prop where
 os:w'.os=w.os
 tape:w'.tape=w.tape
 output:w'.output=w.output
 drawn:w.drawn<=w'.drawn
 size:w'.heap.size=w.heap.size+1
 old:∀ b,b<w.heap.size->w'.heap[b]? =w.heap[b]?
 new:w'.heap[w.heap.size]? =some o
theorem jr.alloc (w:World)(o:Obj):jr w (w.alloc o) o :=
 ⟨rfl,rfl,rfl,o5 _,by simp,fun b hb=>RowKit.Below.heap_alloc w o b hb,by show (w.heap.push o)[w.heap.size]? =_;simp⟩
def jr.drew {w w' :World}{o:Obj}(h:jr w w' o)(n:Nat)(hn:w'.drawn<=n):jr w { w' with drawn:=n } o:=⟨h.os,h.tape,h.output,B6 h.drawn hn,h.size,h.old,h.new⟩
def aI {G:Gh}{w:World}(hwf:WF G w){b:Nat}(h:G b≠ .free):b<w.heap.size:=by
 rcases y4 b w.heap.size with h' |h'
 .exact h'
 .exact absurd (hwf b h') h
section
variable {G:Gh} {w w' :World} {ob:Obj}
theorem jr.cell (hn:jr w w' ob){b:Nat}(hb:b<w.heap.size)(o:Nat):w'.cell? (ad b o)=w.cell? (ad b o):=by
 simp [World.cell?,hn.old b hb]
def jr.ext (hn:jr w w' ob)(hwf:WF G w)(kI:Qe):Ext G w (iu G w.heap.size kI) w' where
 os:=hn.os
 tape:=hn.tape
 output:=hn.output
 drawn _:=hn.drawn
 size:=by rw [hn.size];omega
 kg b o hi:=by
  have hb:b<w.heap.size:=aI hwf (by intro e;simp [gX,e] at hi);have hne:b≠w.heap.size:=by omega
  refine ⟨?_,hn.cell hb o⟩;unfold gX at hi ⊢;rw [K7 hne];exact hi
 still b hb:=by
  have hlt:b<w.heap.size:=aI hwf (by rintro e;rw [e] at hb;rcases hb with hb|⟨n,hb⟩<;>cases hb);exact ⟨K7 (by omega),hn.old b hlt⟩
 shape b c e f hc:=by
  have hlt:b<w.heap.size:=by
   rcases y4 b w.heap.size with h|h
   .exact h
   .rw [Array.getElem?_eq_none h] at hc;cases hc
  exact ⟨c,by rw [hn.old b hlt];exact hc,rfl⟩
def jr.keeps (hn:jr w w' ob)(hwf:WF G w)(kI:Qe)(q:Place):bz q G w (iu G w.heap.size kI) w' :=by
 intro b n hb;have hlt:b<w.heap.size:=aI hwf (by rw [hb];simp);exact ⟨by grind [K7],hn.old b hlt⟩
def jr.Az (hn:jr w w' ob)(hwf:WF G w)(kI:Qe)(id:Nat):∀ b,G b= .obj id->(iu G w.heap.size kI) b= .obj id/\w'.heap[b]? =w.heap[b]? :=by
 intro b hb;have hlt:b<w.heap.size:=aI hwf (by rw [hb];simp);exact ⟨by grind [K7],hn.old b hlt⟩
def jr.wf (hn:jr w w' ob)(hwf:WF G w)(kI:Qe):WF (iu G w.heap.size kI) w' :=by
 intro b hb;rw [hn.size] at hb;rw [K7 (by omega)];exact hwf b (by omega)
def jr.ez (hn:jr w w' ob)(hwf:WF G w)(kI:Qe)(l:F2):kj l G w (iu G w.heap.size kI) w' :=
 fun id _=>⟨hn.Az hwf kI id,fun off=>hn.keeps hwf kI (.cell id off)⟩
def jr.hr (hn:jr w w' ob)(hwf:WF G w)(kI:Qe){I I' :R3}{N N' :Nat->Prop}{H:o9}(hI:∀ id,N id->I' id=I id)(hN:∀ id,N id->N' id)(h:HR G I N w H) :
  HR (iu G w.heap.size kI) I' N' w' H :=
 fun id o ho=>OR.mono (hn.ext hwf kI) hI hN id o (fun hb=>hn.Az hwf kI id _ hb) (fun _=>hn.keeps hwf kI _) (h id o ho)
def jr.vr (hn:jr w w' ob)(hwf:WF G w)(kI:Qe){I I' :R3}{N N' :Nat->Prop}(hI:∀ id,N id->I' id=I id)(hN:∀ id,N id->N' id){pl:Place}{a:c8}{x:Value}(h:VR G I N w pl a x) :
  VR (iu G w.heap.size kI) I' N' w' pl a x :=
 VR.mono (hn.ext hwf kI) hI hN pl a x (Or.inr (hn.keeps hwf kI pl)) h
end
structure cB (X:Cx)(l:F2)(S:Nat->Prop)(entry:Nat)(st:G4)(a:Act)(w:World)(G:Gh)(I:R3)(N:Nat->Prop)
  (st' :G4) (k:Nat) (x' :Value) (w' :World) (G' :Gh) (I' :R3) (N' :Nat->Prop):Prop where
 ri:RI X l S st' a w' G' I' N'
 val:VR G' I' N' w' (.loc k) (st'.L.getD k .any) x'
 ext:Ext G w G' w'
 ez:kj l G w G' w'
 ko:∀ id,N id->st'.o7.any (Touch.K0 id)=false->I' id=I id/\∀ b,G b= .obj id->G' b= .obj id/\w'.heap[b]? =w.heap[b]?
 inj:∀ id,id<entry->N id->I' id=I id
 mono:∀ id,N id->N' id
 len:st.H.length<=st'.H.length
 hle:∀ id o',id<l.base->st'.H[id]? =some o' ->o'.K5<=id+1\/∃ o,st.H[id]? =some o/\o'.K5<=o.K5
section
variable {P:Program} {X:Cx} {l:F2} {S:Nat->Prop} {st:G4} {a:Act} {w w' :World} {G:Gh} {I:R3} {N:Nat->Prop} {ob:Obj}
def RI.new (h:RI X l S st a w G I N)(hn:jr w w' ob)(kI:Qe):RI X l S st a w' (iu G w.heap.size kI) I N where
 T s t ht:=hn.vr h.wf kI (fun _ _=>rfl) (fun _ h=>h) (h.T s t ht)
 L j hj d hd hN:=hn.vr h.wf kI (fun _ _=>rfl) (fun _ h=>h) (h.L j hj d hd hN)
 H:=hn.hr h.wf kI (fun _ _=>rfl) (fun _ h=>h) h.H
 wf:=hn.wf h.wf kI
 V4:=h.V4
theorem RI.put (h:RI X l S st a w G I N){k:Nat}(hk:¬ S k)(v:c8):RI X l S (put st k v) a w G I N where
 T:=h.T
 L j hj d hd hN:=by
  have:k≠j:=by grind
  simp only [x9.put];rw [P8 _ _ _ _ _ this];exact h.L j hj d hd hN
 H:=h.H
 wf:=h.wf
 V4:=h.V4
def cB.same (h:RI X l S st a w G I N){k:Nat}(hk:¬ S k)(aF:k<st.L.length)(entry:Nat){v:c8}{x:Value}(hv:VR G I N w (.loc k) v x) :
  cB X l S entry st a w G I N (put st k v) k x w G I N where
 ri:=h.put hk v
 val:=by simp_all [x9.put,O1]
 ext:=Ext.refl _ _
 ez:=kj.refl _ _ _
 ko _ _ _:=⟨rfl,fun _ hb=>⟨hb,rfl⟩⟩
 inj _ _ _:=rfl
 mono _ h:=h
 len:=o5 _
 hle _ o _ ho:=Or.inr ⟨o,ho,o5 _⟩
def cB.fresh (h:RI X l S st a w G I N){k:Nat}(hk:¬ S k)(aF:k<st.L.length)(entry:Nat)(hn:jr w w' ob)(kI:Qe){v:c8}{x:Value}
  (hv:VR (iu G w.heap.size kI) I N w' (.loc k) v x):cB X l S entry st a w G I N (put st k v) k x w' (iu G w.heap.size kI) I N where
 ri:=(h.new hn kI).put hk v
 val:=by simp_all [x9.put,O1]
 ext:=hn.ext h.wf kI
 ez:=hn.ez h.wf kI l
 ko id _ _:=⟨rfl,hn.Az h.wf kI id⟩
 inj _ _ _:=rfl
 mono _ h:=h
 len:=o5 _
 hle _ o _ ho:=Or.inr ⟨o,ho,o5 _⟩
end
section
variable {G:Gh} {I:R3} {N:Nat->Prop} {w w' :World}
theorem fZ:∀ (cs:List c8) (xs:List Data) (vs:List Value),M6 cs=some xs->J5 G I N w cs vs ->
  xs.length=cs.length/\∀ (i:Nat) x,xs[i]? =some x->∃ v,vs[i]? =some v/\DR G w x v
 |[],xs,vs,h,_=>by
  simp_all [M6]
 |c::cs,xs,vs,h,hv=>by
  obtain ⟨v,vs',rfl,h2,h3⟩:=hv;unfold M6 at h;split at h
  .rename_i x hx
   split at h
   .rename_i ys hys
    simp at h;subst h;obtain ⟨g1,g2⟩:=fZ cs ys vs' hys h3;refine ⟨by simp [g1],fun i y hi=> ?_⟩;cases i with
    |zero =>
     unfold c8.data? at hx;split at hx
     .simp_all [VR]
     .have:=h2.J2 (wW := .none)
      simp_all [c8.J2,VR]
     .have:=h2.J2 (wW := .none)
      simp_all [c8.J2,VR]
     .cases hx
    |succ i=>simp_all
   .cases h
  .cases h
theorem yO {b:Nat}:∀ (o:Nat) (xs:List Data),(∀ (i:Nat) x,xs[i]? =some x->gX G b (o+i)/\∃ v,w.cell? (ad b (o+i))=some v/\DR G w x v)->dX G w b o xs
 |_,[],_=>by simp [dX]
 |o,x::xs,h=>by
  obtain ⟨h1,h2⟩:=h 0 x rfl;refine ⟨by omega,by omega,yO (o+1) xs fun i y hi=> ?_⟩;have:=h (i+1) y (by simp_all)
  grind
def Oa (hwf:WF G w){c:Array Value}{e:TypeId}{f:Nat×Nat}(hn:jr w w' (.cells c e f))(hf:Lr f c.size){cs:List c8}{xs:List Data}{vs:List Value}
  (hd:M6 cs=some xs) (hv:J5 G I N w cs vs) (hc:∀ (i:Nat) v,vs[i]? =some v->c[i]? =some v) {sz len cap:Nat} (hl:xs.length=len * sz) (hcap:len<=cap) (hsz:cap * sz<=c.size) {pl:Place} (hp:pl≠ .none) :
  VR (iu G w.heap.size (.grow (len * sz) pl)) I N w' pl (.own sz len xs) (.slice (some (ad w.heap.size 0)) len cap):=by
 refine ⟨hl,Or.inr ⟨hp,w.heap.size,0,cap,c,e,f,rfl,hcap,hn.new,by omega,hf,by simp,?_⟩⟩;obtain ⟨g1,g2⟩:=fZ cs xs vs hd hv;refine yO 0 xs fun i x hi=> ?_
 obtain ⟨v,e1,e2⟩:=g2 i x hi;have hlt:=u7 hi;refine ⟨by simp [gX];omega,v,?_,DR.mono (hn.ext hwf _).kg _ _ e2⟩;rw [U5 hn.new];simp_all
end
end Go.x9
namespace Go.x9
variable [D9]
def Gv (P:Program)(e:TypeId)(n:Nat):Option (List Value) :=
 if n=0 then some [] else
 match P.info? e with
 |some i=>match i.zero with
  |some z=>some ((Array.range n).map (z.cells[· % z.cells.size]!)).toList
  |none=>none
 |none=>none
def ec (P:Program)(ck:Operand->y6->Bool)(o:Oper)(op:z6):Bool :=
 match o.op,op with
 | .alloc t,.alloc zero=>BH P t zero
 | .box _ x,.box y=>ck x y
 | .makeMap _ none,.makeMap=>true
 | .buildSlice t n parts,.A2 sz len zero ps _=>n==len&&nZ P t sz&&decide (len * sz<=16777216)&&(match P.underlying t with
  |some (.slice e)=>(match Gv P e (len * sz) with
   |some zs=>consts zs zero&&jD P ck (fun i=>some (i * sz,sz)) parts.toList ps
   |none=>false)
  |_=>false)
 |_,_=>false
section
variable {P:Program} {X:Cx} {l:F2} {S:Nat->Prop} {st:G4} {a:Act} {w w' :World} {G:Gh} {I:R3} {N:Nat->Prop} {ob:Obj}
structure GJ (l:F2)(st:G4)(N:Nat->Prop)(y9:Option Nat):Prop where
 new:¬ N (newId st y9)
 inside:∀ i,y9=some i->i<st.H.length
 base:l.base<=newId st y9
 strict:l.strict<=newId st y9
def IB (st:G4)(y9:Option Nat)(o:u0):st.H.length<=(L7 st y9 o).H.length:=by
 cases y9<;>simp [L7]
theorem jC {st:G4}{y9:Option Nat}(hi:∀ i,y9=some i->i<st.H.length)(o:u0)(id:Nat)(o' :u0)(h:(L7 st y9 o).H[id]? =some o') :
  (id=newId st y9/\o' =o)\/(id≠newId st y9/\st.H[id]? =some o'):=by
 cases y9 with
 |none =>
  grind [L7,newId,Nat.lt_trichotomy,A7,List.getElem?_eq_none]
 |some i =>
  grind [L7,newId,O0,D3]
def cB.newObj (h:RI X l S st a w G I N){k:Nat}(hk:¬ S k)(aF:k<st.L.length)(entry:Nat){y9:Option Nat}(hid:GJ l st N y9)(hn:jr w w' ob)(o:u0)
  (ho:OR (iu G w.heap.size (.obj (newId st y9))) (Bz I (newId st y9) (w.heap.size,0)) (fun i=>N i\/i=newId st y9) w' (newId st y9) o) {v:c8} {x:Value}
  (hv:VR (iu G w.heap.size (.obj (newId st y9))) (Bz I (newId st y9) (w.heap.size,0)) (fun i=>N i\/i=newId st y9) w' (.loc k) v x) :
  cB X l S entry st a w G I N (put (L7 st y9 o) k v) k x w' (iu G w.heap.size (.obj (newId st y9))) (Bz I (newId st y9) (w.heap.size,0)) (fun i=>N i\/i=newId st y9):=by
 have hI:∀ id,N id->Bz I (newId st y9) (w.heap.size,0) id=I id:=fun id hN=>fI (by rintro rfl;exact hid.new hN)
 have hT:(L7 st y9 o).T=st.T:=by cases y9<;>rfl
 have hL:(L7 st y9 o).L=st.L:=by cases y9<;>rfl
 refine ⟨⟨?_,?_,?_,hn.wf h.wf _,?_⟩,?_,hn.ext h.wf _,hn.ez h.wf _ l,?_,?_,fun _ h=>Or.inl h,IB st y9 o,?_⟩
 .intro s t ht
  simp only [x9.put,hT];exact hn.vr h.wf _ hI (fun _ h=>Or.inl h) (h.T s t ht)
 .intro j hj d hd hN
  have:k≠j:=by grind
  simp only [x9.put,hL];rw [P8 _ _ _ _ _ this];exact hn.vr h.wf _ hI (fun _ h=>Or.inl h) (h.L j hj d hd hN)
 .intro id o' ho'
  rcases jC hid.inside o id o' ho' with ⟨rfl,rfl⟩|⟨hne,hold⟩
  .exact ho
  .exact OR.mono (hn.ext h.wf _).sub hI (fun _ h=>Or.inl h) id o' (fun hb=>hn.Az h.wf _ id _ hb) (fun _=>hn.keeps h.wf _ _) (h.H id o' hold)
 .intro id o' ho'
  rcases jC hid.inside o id o' ho' with ⟨rfl,rfl⟩|⟨hne,hold⟩
  .exact ⟨fun hx=>absurd hx (by have:=hid.strict;omega),fun hx=>absurd hx (by have:=hid.base;omega)⟩
  .exact h.V4 id o' hold
 .simp_all [x9.put,O1]
 .intro id hN _
  exact ⟨hI id hN,hn.Az h.wf _ id⟩
 .simp_all
 .intro id o' hb ho'
  rcases jC hid.inside o id o' ho' with ⟨rfl,rfl⟩|⟨hne,hold⟩
  .exact absurd hb (by have:=hid.base;omega)
  simp_all
def ny (n:Nat):Lr (0,0) n:=by intro o _ h;simp at h
def Ls (hwf:WF G w){c:Array Value}{e:TypeId}(hn:jr w w' (.cells c e)){id:Nat}(hid:¬ N id){cs:List c8}(hv:J5 G I N w cs c.toList) :
  OR (iu G w.heap.size (.obj id)) (Bz I id (w.heap.size,0)) (fun i=>N i\/i=id) w' id (.cells cs):=by
 simp only [OR];refine ⟨Or.inr trivial,c,e,(0,0),by simpa using hn.new,by simp,ny _,?_,fun i x hx=> ?_⟩
 .have:=J5.length _ _ hv
  simp_all
 .obtain ⟨v,g1,g2⟩:=J5.get cs _ hv i x hx
  refine ⟨v,by simp_all,?_⟩;exact (hn.vr hwf _ (fun j hj=>fI (by grind)) (fun _ h=>Or.inl h) g2).place
variable {ck:Operand->y6->Bool}
def Re (h:RI X l S st a w G I N){k:Nat}(hk:¬ S k)(aF:k<st.L.length)(entry:Nat){y9:Option Nat}(hid:GJ l st N y9){o:Oper}{zero:List c8}
  (hc:ec P ck o (.alloc zero)=true):∃ x w' G' I' N',(execOp a.eval o).run P w= .ok (.value x) w' /\
   cB X l S entry st a w G I N (put (L7 st y9 (.cells zero)) k (.ptr (newId st y9) 0)) k x w' G' I' N' /\(∀ i,N' i↔N i\/i=newId st y9):=by
 obtain ⟨dst,dW,ty,pos,after,guard⟩:=o;cases dW<;>simp [ec] at hc<;>try (cases hc)
 rename_i t;obtain ⟨it,z,e1,e2,e3⟩:=mK (G:=G) (I:=I) (N:=N) (w:=w) hc;have hz:(zeroValue t).run P w= .ok z w:=by simp [zeroValue,typeInfo,e1,e2]
 refine ⟨.pointer (some (ad w.heap.size 0)),w.alloc (.cells z.cells t),_,_,_,?_,cB.newObj h hk aF entry hid (jr.alloc w (.cells z.cells t)) (.cells zero) (Ls h.wf (jr.alloc w _) hid.new e3) ?_,fun i=>Iff.rfl⟩
 all_goals simp_all [execOp,Instr.alloc,newVar,newRow,VR,trivial]
def YF (h:RI X l S st a w G I N)(hρ:cq ck G I N w a.eval (I5 st.T st.L)){k:Nat}(hk:¬ S k)(aF:k<st.L.length)(entry:Nat){y9:Option Nat}(hid:GJ l st N y9){o:Oper}{y:y6}
  (hc:ec P ck o (.box y)=true) {cs:List c8} (hcs:(I5 st.T st.L y).cells? =some cs):∃ x w' G' I' N',(execOp a.eval o).run P w= .ok (.value x) w' /\
   cB X l S entry st a w G I N (put (L7 st y9 (.cells cs)) k (.ptr (newId st y9) 0)) k x w' G' I' N' /\(∀ i,N' i↔N i\/i=newId st y9):=by
 obtain ⟨dst,dW,ty,pos,after,guard⟩:=o;cases dW<;>simp [ec] at hc<;>try (cases hc)
 rename_i t x;obtain ⟨g1,_⟩:=wA hcs (hρ _ _ hc);refine ⟨.pointer (some (ad w.heap.size 0)),w.alloc (.cells (a.eval x).cells t),_,_,_,?_,cB.newObj h hk aF entry hid (jr.alloc w (.cells (a.eval x).cells t)) (.cells cs) (Ls h.wf (jr.alloc w _) hid.new g1) ?_,fun i=>Iff.rfl⟩
 all_goals simp_all [execOp,Instr.box,newVar,newRow,VR,trivial]
def YG (h:RI X l S st a w G I N){k:Nat}(hk:¬ S k)(aF:k<st.L.length)(entry:Nat){y9:Option Nat}(hid:GJ l st N y9){o:Oper}
  (hc:ec P ck o .makeMap=true):∃ x w' G' I' N',(execOp a.eval o).run P w= .ok (.value x) w' /\
   cB X l S entry st a w G I N (put (L7 st y9 (.map [])) k (.map (newId st y9))) k x w' G' I' N' /\(∀ i,N' i↔N i\/i=newId st y9):=by
 obtain ⟨dst,dW,ty,pos,after,guard⟩:=o;unfold ec at hc;split at hc<;>try (cases hc)
 all_goals try (rename_i nU jl;cases jl)
 rename_i t nU jl;subst nU;have hn:=jr.alloc w (.map #[] 0);refine ⟨.map (some w.heap.size),w.alloc (.map #[] 0),_,_,_,?_,cB.newObj h hk aF entry hid hn (.map []) ?_ ?_,fun i=>Iff.rfl⟩
 .rfl
 .simp only [OR]
  exact ⟨Or.inr trivial,#[],0,by simpa using hn.new,by simp,by simp [ER],⟨by simp,by simp⟩⟩
 simp_all [VR,trivial]
def oB (hρ:cq ck G I N w a.eval (I5 st.T st.L)){o:Oper}{sz len:Nat}{zero:List c8}{ps:List (Nat×Nat×y6)}{b:Bool}
  (hc:ec P ck o (.A2 sz len zero ps b)=true) {cs:List c8} (hcs:bA zero (ps.map fun (o,s,x)=>(o,s,I5 st.T st.L x))=some cs) :
  ∃ (ys:Array Value) (e:TypeId),(execOp a.eval o).run P w= .ok (.value (.slice (some (ad w.heap.size 0)) len len)) (w.alloc (.cells ys e))/\J5 G I N w cs ys.toList:=by
 obtain ⟨dst,dW,ty,pos,after,guard⟩:=o;cases dW<;>simp [ec,c7,beq_iff_eq,decide_eq_true_eq] at hc<;>try (cases hc;done)
 rename_i t n parts;obtain ⟨⟨⟨rfl,ht⟩,HZ⟩,hz⟩:=hc;obtain ⟨e,hu,Xp,hie⟩:=iO ht;have hsize:(sizeOf e).run P w= .ok sz w:=by simp_all [run_sizeOf]
 simp [hu] at hz;split at hz
 .rename_i zs hzs
  simp [c7] at hz;obtain ⟨TP,Ma⟩:=hz;have hzr:J5 G I N w zero zs:=ek _ _ TP;obtain ⟨ys,f1,f2⟩:=lV (P:=P) hρ parts.toList ps zero cs zs.toArray Ma (by omega) hcs;refine ⟨ys,e,?_,f2⟩;have hno:¬ n * sz>2 ^ 24:=by omega
  have al5:(parts.map fun (i,x)=>(i,a.eval x)).toList=parts.toList.map fun (i,x)=>(i,a.eval x):=by simp
  by_cases h0:n * sz=0
  .unfold Gv at hzs
   rw [if_pos h0] at hzs;simp only [execOp,Instr.buildSlice,Sem.run_bind,run_underlying hu,Result.andThen_ok,hsize,if_neg hno,if_pos h0,Sem.run_pure];have e1:(Array.range (n * sz)).map (fun x=>((#[]:Array Value)[x % (#[]:Array Value).size]!))= #[]:=by rw [h0];simp
   rw [e1];simp_all [newRow]
  .unfold Gv at hzs
   rw [if_neg h0] at hzs;split at hzs
   .split at hzs
    .rename_i z hzz
     simp only [Option.some.injEq] at hzs;have hzv:(zeroValue e).run P w= .ok z w:=by simp_all [zeroValue,typeInfo]
     have e1:(Array.range (n * sz)).map (fun x=>z.cells[x % z.cells.size]!)=zs.toArray:=by rw [<- hzs]
     simp [execOp,Instr.buildSlice,Sem.run_bind,run_underlying hu,Result.andThen_ok,hsize,if_neg hno,if_neg h0,Sem.run_pure,hzv,al5,e1,f1];simp [newRow]
    .cases hzs
   .cases hzs
 .cases hz
def Rf (h:RI X l S st a w G I N)(hρ:cq ck G I N w a.eval (I5 st.T st.L)){k:Nat}(hk:¬ S k)(aF:k<st.L.length)(entry:Nat){o:Oper}{sz len:Nat}{zero:List c8}{ps:List (Nat×Nat×y6)}
  (hc:ec P ck o (.A2 sz len zero ps false)=true) {v:c8} {rs:List Nat} (hp:n9 (I5 st.T st.L) st.H (.A2 sz len zero ps false)=some (v,rs)) :
  ∃ x w' G',(execOp a.eval o).run P w= .ok (.value x) w' /\cB X l S entry st a w G I N (put st k v) k x w' G' I N:=by
 simp [n9] at hp;split at hp
 .rename_i cs hcs
  split at hp
  .rename_i xs hxs
   split at hp
   .rename_i hl
    obtain ⟨rfl,rfl⟩:=hp;obtain ⟨ys,e,hrun,hvs⟩:=oB (P:=P) hρ hc hcs;have hn:=jr.alloc w (.cells ys e);have hlen:ys.size=len * sz:=by
     have h1:=J5.length _ _ hvs
     grind [fZ]
    exact ⟨_,_,_,hrun,cB.fresh h hk aF entry hn _ (Oa h.wf hn (ny _) hxs hvs (fun i v hi=>by simp_all) hl.2 (o5 _) (by omega) (by simp))⟩
   .cases hp
  .cases hp
 .cases hp
def FF (h:RI X l S st a w G I N)(hρ:cq ck G I N w a.eval (I5 st.T st.L)){k:Nat}(hk:¬ S k)(aF:k<st.L.length)(entry:Nat){y9:Option Nat}(hid:GJ l st N y9){o:Oper}{sz len:Nat}{zero:List c8}
  {ps:List (Nat×Nat×y6)} (hc:ec P ck o (.A2 sz len zero ps true)=true) {cs:List c8} (hcs:bA zero (ps.map fun (o,s,x)=>(o,s,I5 st.T st.L x))=some cs) (hl:cs.length=len * sz) :
  ∃ x w' G' I' N',(execOp a.eval o).run P w= .ok (.value x) w' /\
   cB X l S entry st a w G I N (put (L7 st y9 (.cells cs)) k (.A8 (newId st y9) sz 0 len)) k x w' G' I' N' /\(∀ i,N' i↔N i\/i=newId st y9):=by
 obtain ⟨ys,e,hrun,hvs⟩:=oB (P:=P) hρ hc hcs;have hn:=jr.alloc w (.cells ys e);have hlen:ys.size=len * sz:=by
  have h1:=J5.length _ _ hvs;simp_all
 refine ⟨_,_,_,_,_,hrun,cB.newObj h hk aF entry hid hn (.cells cs) (Ls h.wf hn hid.new hvs) ?_,fun i=>Iff.rfl⟩;simp only [VR];exact ⟨Or.inr trivial,len,by simp,o5 _,ys,e,(0,0),by simpa using hn.new,by simp;omega⟩
end
end Go.x9
namespace Go.x9
variable [D9]
section
variable {P:Program} {X:Cx} {l:F2} {S:Nat->Prop} {st:G4} {a:Act} {w w' :World} {G:Gh} {I:R3} {N:Nat->Prop} {D:Nat->Bool}
theorem RI.R7 (h:RI X l S st a w G I N)(hD:∀ j,D j=true->S j):cq (X.ck D) G I N w a.eval (I5 st.T st.L):=by
 intro x y hc;unfold Cx.ck at hc;split at hc
 .rename_i t s
  have ht:X.names[s]? =some t:=by simp_all
  exact (h.T s t ht).J2
 .rename_i t j
  simp only [c7,beq_iff_eq,n5] at hc;exact (h.L j (hD j hc.1.1) t hc.1.2 hc.2).J2
 .rename_i v b
  exact (cF v b hc).Qq
 all_goals simp_all [I5,c8.Qq,c8.J2,Act.eval,VR,J5]
theorem vW (st:G4)(y:y6):(E1 st y).2.H=st.H:=by
 simp_all [E1]<;>grind
theorem BF (st:G4)(y:y6):(E1 st y).2.L.length=st.L.length:=by
 simp_all [E1]<;>grind
structure Xf (X:Cx)(l:F2)(S:Nat->Prop)(st:G4)(y:y6)(a:Act)(w:World)(G:Gh)(I:R3)(N:Nat->Prop)(pl:Place)(x:Value)(G' :Gh):Prop where
 ri:RI X l S (E1 st y).2 a w G' I N
 val:VR G' I N w pl (E1 st y).1 x
 ext:Ext G w G' w
 keeps:∀ id off,bz (.cell id off) G w G' w
 obj:∀ b id,G b= .obj id->G' b= .obj id
theorem RI.E1 (h:RI X l S st a w G I N)(hD:∀ j,D j=true->S j){x:Operand}{y:y6}(hc:X.ck D x y=true){pl:Place}(hp:pl≠ .none) :
  ∃ G',Xf X l S st y a w G I N pl (a.eval x) G' :=by
 have hρ:=h.R7 hD x y hc;have simple:(x9.E1 st y).2=st->VR G I N w .none (x9.E1 st y).1 (a.eval x)->∃ G',Xf X l S st y a w G I N pl (a.eval x) G' :=
  fun h1 h2=>⟨G,by simp_all,h2.place,Ext.refl _ _,fun _ _ _ _ h=>⟨h,rfl⟩,fun _ _ h=>h⟩
 cases y with
 |slot s=>exact simple rfl hρ
 |const v =>
  refine simple rfl ?_;unfold Cx.ck at hc;split at hc
  .simp_all
  .simp_all
  .rename_i v' b heq
   cases heq;exact cF _ _ hc
  all_goals simp_all [I5,c8.Qq,c8.J2,x9.E1,VR]
 |loc j =>
  by_cases hown:∃ z len cells,st.L[j]? =some (.own z len cells)
  .obtain ⟨z,len,cells,hj⟩:=hown
   unfold Cx.ck at hc;split at hc
   .simp_all
   .rename_i t j' heq
    cases heq;simp only [c7,beq_iff_eq,n5] at hc;have h1:=h.L j (hD j hc.1.1) t hc.1.2 hc.2;rw [aM hj] at h1;obtain ⟨G',hm,hv⟩:=iT hp h1;refine ⟨G',?_,?_,hm.ext,fun id off=>hm.keeps _ (by simp),hm.obj⟩
    .simp [x9.E1,hj]
     exact h.OC hj hm
    simp_all [x9.E1,Act.eval]
   all_goals simp_all
  .by_cases hnil:st.L[j]? =some .N7
   .have e:x9.E1 st (.loc j)=(.N7,st):=by simp_all [x9.E1]
    refine simple (by rw [e]) ?_;unfold Cx.ck at hc;split at hc
    .simp_all
    .rename_i t j' heq
     cases heq;simp only [c7,beq_iff_eq,n5] at hc;have h1:=h.L j (hD j hc.1.1) t hc.1.2 hc.2;simp_all [aM,VR,Act.eval]
    all_goals simp_all
   simp_all [x9.E1,I5,absurd]
theorem run_storeCells_at (b o:Nat)(e:TypeId)(f:Nat×Nat):∀ (vs:List Value) (i:Nat) (cur:Array Value) (w:World),w.heap[b]? =some (.cells cur e f)->Lr f cur.size ->
  o+i+vs.length<=cur.size->Cu vs->(storeCells (ad b o) vs i).run P w= .ok () (w.setRow b (N5 cur.toList (o+i) vs).toArray)
 |[],i,cur,w,hg,hf,hl,_=>by
  simp [storeCells,N5,Nat.add_zero];cases w with
  |mk heap tape drawn os output =>
   simp_all [World.setRow]<;>grind
 |v::rest,i,cur,w,hg,hf,hl,h1=>by
  simp [p7] at hl;have hi:o+i<cur.size:=by omega
  have hcell:w.cell? (ad b (o+i))=some cur[o+i]:=by rw [U5 hg];simp
  have bG0:w.frozen? (ad b (o+i))=false:=by
   simp [World.frozen?];have:=hf (o+i) hi;simp_all
  have hst:(store ((ad b o).add i) v).run P w= .ok () (w.setRow b (cur.setIfInBounds (o+i) v)):=by
   rw [aK,run_store P w _ v _ (h1 v (by simp)),hcell]
   grind [setCell_eq_setRow]
  have ih:=run_storeCells_at b o e f rest (i+1) (cur.setIfInBounds (o+i) v) (w.setRow b (cur.setIfInBounds (o+i) v)) (setRow_heap w b cur _ e f hg) (by simp_all) (by simp;omega) (fun x hx=>h1 x (by simp [hx]));simp [storeCells,Sem.run_bind,hst,Result.andThen_ok,ih,setRow_setRow];have hlt:o+i<cur.toList.length:=by omega
  simp [N5,Array.toList_setIfInBounds];rw [show o+(i+1)=o+i+1 from by omega,List.take_succ_eq_append_getElem (by simp_all),List.drop_set_of_lt (by omega)];simp [List.take_set_of_le (o5 _),p7]
  grind
structure qq (id b:Nat)(w w' :World)(G:Gh):Prop where
 kI:G b= .obj id
 os:w'.os=w.os
 tape:w'.tape=w.tape
 output:w'.output=w.output
 drawn:w.drawn<=w'.drawn
 size:w'.heap.size=w.heap.size
 other:∀ b',b' ≠b->w'.heap[b']? =w.heap[b']?
 shape:∀ (c:Array Value) (e:TypeId) (f:Nat×Nat),w.heap[b]? =some (Obj.cells c e f)->∃ c' :Array Value,w'.heap[b]? =some (Obj.cells c' e f)/\c'.size=c.size
def qq.ext {id b:Nat}(h:qq id b w w' G):Ext G w G w' where
 os:=h.os
 tape:=h.tape
 output:=h.output
 drawn _:=h.drawn
 size:=by rw [h.size];omega
 kg b' o hi:=by
  have hne:b' ≠b:=by rintro rfl;simp [gX,h.kI] at hi
  exact ⟨hi,by simp [World.cell?,h.other b' hne]⟩
 still b' hb:=by
  have hne:b' ≠b:=by rintro rfl;rw [h.kI] at hb;simp_all
  exact ⟨rfl,h.other b' hne⟩
 shape b' c e f hc:=by
  by_cases hne:b' =b
  .subst hne;exact h.shape c e f hc
  .exact ⟨c,by rw [h.other b' hne];exact hc,rfl⟩
def qq.keeps {id b:Nat}(h:qq id b w w' G)(q:Place):bz q G w G w' :=by
 intro b' n hb;have hne:b' ≠b:=by rintro rfl;rw [h.kI] at hb;cases hb
 exact ⟨hb,h.other b' hne⟩
def qq.Az {id b:Nat}(h:qq id b w w' G){id' :Nat}(hne:id' ≠id):∀ b',G b' = .obj id' ->G b' = .obj id' /\w'.heap[b']? =w.heap[b']? :=by
 intro b' hb;have:b' ≠b:=by rintro rfl;rw [h.kI] at hb;simp_all
 exact ⟨hb,h.other b' this⟩
def cB.write {D1:Nat->Prop}(h:RI X l S st a w G I N){k:Nat}(hk:¬ S k)(aF:k<st.L.length)(entry:Nat){id b:Nat}(hw:qq id b w w' G){o:u0}{o0:u0}(h0:st.H[id]? =some o0)
  (ho:OR G I N w' id o) (hmay:l.may id=true) (uS:o.K5<=max o0.K5 (id+1)\/(l.base<=id/\l.strict<=id)) (hD:∀ i,D1 i↔N i) {v:c8} {x:Value} (hv:VR G I N w' (.loc k) v x) (o7:List Touch) (QU:o7.any (Touch.K0 id)=true) :
  cB X l S entry st a w G I N (put { st with H:=st.H.set id o,o7 } k v) k x w' G I D1:=by
 have hN:∀ i,N i->D1 i:=fun i hi=>(hD i).2 hi
 refine ⟨⟨?_,?_,?_,fun b' hb' =>h.wf b' (by rw [<- hw.size];exact hb'),?_⟩,?_,hw.ext,?_,?_,fun _ _ _=>rfl,hN,by simp [x9.put],?_⟩
 .intro s t ht
  exact VR.mono hw.ext (fun _ _=>rfl) hN _ _ _ (Or.inr (hw.keeps _)) (h.T s t ht)
 .intro j hj d hd hn
  have:k≠j:=by grind
  simp only [x9.put];rw [P8 _ _ _ _ _ this];exact VR.mono hw.ext (fun _ _=>rfl) hN _ _ _ (Or.inr (hw.keeps _)) (h.L j hj d hd hn)
 .intro id' o' ho'
  simp [x9.put] at ho'
  by_cases he:id' =id
  .subst he
   rw [O0 (u7 h0)] at ho';cases ho';exact OR.mono (Ext.refl _ _).sub (fun _ _=>rfl) hN _ _ (fun h=>⟨h,rfl⟩) (fun _ _ _ h=>⟨h,rfl⟩) ho
  .rw [D3 (fun e=>he e.symm)] at ho'
   exact OR.mono hw.ext (fun _ _=>rfl) hN id' o' (fun hb=>hw.Az he _ hb) (fun _=>hw.keeps _) (h.H id' o' ho')
 .intro id' o' ho'
  simp [x9.put] at ho'
  by_cases he:id' =id
  .subst he
   rw [O0 (u7 h0)] at ho';cases ho';obtain ⟨d1,d2⟩:=h.V4 id' _ h0;omega
  .rw [D3 (fun e=>he e.symm)] at ho'
   exact h.V4 id' o' ho'
 .simp only [x9.put]
  rw [O1 _ _ _ _ aF];exact VR.mono (Ext.refl _ _).sub (fun _ _=>rfl) hN _ _ _ (Or.inr (fun _ _ h=>⟨h,rfl⟩)) hv
 .intro id' hm
  have hne:id' ≠id:=by grind
  exact ⟨hw.Az hne,fun off=>hw.keeps _⟩
 .intro id' _ ht
  have hne:id' ≠id:=by grind [x9.put]
  exact ⟨rfl,hw.Az hne⟩
 .grind [x9.put]
end
end Go.x9
namespace Go.x9
variable [D9]
def MN (l:List c8)(off:Nat)(vs:List c8)(h:off+vs.length<=l.length)(i:Nat) :
  (splice l off vs)[i]? =if i<off then l[i]? else if i<off+vs.length then vs[i - off]? else l[i]? :=by
 unfold splice
 grind
def oE (l:List Value)(off:Nat)(vs:List Value)(h:off+vs.length<=l.length)(i:Nat) :
  (N5 l off vs)[i]? =if i<off then l[i]? else if i<off+vs.length then vs[i - off]? else l[i]? :=by
 unfold N5
 grind
def oF (l:List Value)(off:Nat)(vs:List Value)(h:off+vs.length<=l.length):(N5 l off vs).length=l.length:=by
 grind [N5]
def MO (l:List c8)(off:Nat)(vs:List c8)(h:off+vs.length<=l.length):(splice l off vs).length=l.length:=by
 grind [splice]
theorem fU:∀ (a b:List c8),A4 (a++b)=max (A4 a) (A4 b)
 |[],b=>by simp [A4]
 |v::vs,b=>by simp only [A5,A4,fU vs b];omega
theorem uE:∀ (n:Nat) (a:List c8),A4 (a.take n)<=A4 a
 |0,a=>by simp [A4]
 |n+1,[]=>by simp
 |n+1,v::vs=>by have:=uE n vs;grind [A4]
theorem uD:∀ (n:Nat) (a:List c8),A4 (a.drop n)<=A4 a
 |0,a=>by simp
 |n+1,[]=>by simp
 |n+1,v::vs=>by have:=uD n vs;grind [A4]
theorem wm (l:List c8)(off:Nat)(vs:List c8):A4 (splice l off vs)<=max (A4 l) (A4 vs):=by
 grind [splice,fU,uE,uD]
section
variable {P:Program} {X:Cx} {l:F2} {S:Nat->Prop} {st:G4} {a:Act} {w w' :World} {G:Gh} {I:R3} {N:Nat->Prop} {D:Nat->Bool}
def SA {v:c8}{cs:List c8}(hv:v.cells? =some cs){id off:Nat}{x:Value}(h:VR G I N w (.cell id off) v x) :
  x.cells.size=cs.length/\Cu x.cells.toList/\∀ (i:Nat) c,cs[i]? =some c->∃ u,x.cells.toList[i]? =some u/\VR G I N w (.cell id (off+i)) c u:=by
 unfold c8.cells? at hv;split at hv
 .split at hv
  .rename_i hall
   simp at hv;subst hv;obtain ⟨xs,rfl,h2⟩:=h;refine ⟨by simpa [Value.cells] using J5.length _ _ h2,mq _ _ hall h2,fun i c hc=> ?_⟩;obtain ⟨u,g1,g2⟩:=J5.get _ _ h2 i c hc;exact ⟨u,g1,g2.place⟩
  .cases hv
 .split at hv
  .rename_i hone
   simp at hv;subst hv;obtain ⟨h1,h2⟩:=kP hone h;rw [h2];refine ⟨rfl,fun u hu=> ?_,fun i c hc=> ?_⟩
   all_goals grind
  .cases hv
def cB.pre {entry:Nat}{st1 st' :G4}{G1 G' :Gh}{I' :R3}{N' :Nat->Prop}{k:Nat}{x:Value}(hx:Ext G w G1 w)(hk:∀ id off,bz (.cell id off) G w G1 w)(ho:∀ b id,G b= .obj id->G1 b= .obj id)
  (hH:st1.H=st.H) (h:cB X l S entry st1 a w G1 I N st' k x w' G' I' N'):cB X l S entry st a w G I N st' k x w' G' I' N' where
 ri:=h.ri
 val:=h.val
 ext:=hx.trans h.ext
 ez:=kj.trans (fun id _=>⟨fun b hb=>⟨ho b id hb,rfl⟩,hk id⟩) h.ez
 ko id hN ht:=by
  obtain ⟨h1,h2⟩:=h.ko id hN ht;simp_all
 inj:=h.inj
 mono:=h.mono
 len:=by rw [<- hH];exact h.len
 hle id o' hb ho' :=by
  have:=h.hle id o' hb ho';simp_all
def Ea {id b:Nat}{c:Array Value}{e:TypeId}{f:Nat×Nat}(hb:w.heap[b]? =some (.cells c e f))(hl:G b= .obj id){c' :Array Value}(hs:c'.size=c.size):qq id b w (w.setRow b c') G where
 kI:=hl
 os:=rfl
 tape:=rfl
 output:=rfl
 drawn:=o5 _
 size:=by simp
 other b' hne:=setRow_other w b b' c' hne
 shape c0 e0 f0 h0:=by
  grind [setRow_heap]
def CD {id:Nat}{l0:List c8}{off:Nat}{cs:List c8}{c:Array Value}{e:TypeId}{f:Nat×Nat}(hN:N id)(hb:w.heap[(I id).1]? =some (.cells c e f))(QL:G (I id).1= .obj id)(hf:Lr f c.size)
  (hsz:(I id).2+l0.length<=c.size) (hold:∀ (i:Nat) x,l0[i]? =some x->∃ v,c[(I id).2+i]? =some v/\VR G I N w (.cell id i) x v)
  (hfit:off+cs.length<=l0.length) {vs:List Value} (hlen:vs.length=cs.length) (hnew:∀ (i:Nat) x,cs[i]? =some x->∃ u,vs[i]? =some u/\VR G I N w (.cell id (off+i)) x u) :
  OR G I N (w.setRow (I id).1 (N5 c.toList ((I id).2+off) vs).toArray) id (.cells (splice l0 off cs)) /\
   qq id (I id).1 w (w.setRow (I id).1 (N5 c.toList ((I id).2+off) vs).toArray) G:=by
 have CY :(I id).2+off+vs.length<=c.toList.length:=by simp;omega
 have hsize:(N5 c.toList ((I id).2+off) vs).toArray.size=c.size:=by simp_all [oF]
 have hw:=Ea (G:=G) hb QL hsize;refine ⟨?_,hw⟩;refine ⟨hN,_,e,f,setRow_heap w _ c _ e f hb,QL,by simp_all,by simp_all [MO],fun i x hx=> ?_⟩;rw [MN _ _ _ hfit] at hx;have hg:(N5 c.toList ((I id).2+off) vs).toArray[(I id).2+i]? =(N5 c.toList ((I id).2+off) vs)[(I id).2+i]? :=by simp
 rw [hg,oE _ _ _ CY];have mono:∀ {pl:Place} {x:c8} {v:Value},VR G I N w pl x v->VR G I N (w.setRow (I id).1 (N5 c.toList ((I id).2+off) vs).toArray) pl x v :=
  fun h=>VR.mono hw.ext (fun _ _=>rfl) (fun _ h=>h) _ _ _ (Or.inr (hw.keeps _)) h
 by_cases h1:i<off
 .grind
 .all_goals grind
theorem HR.wr {H H' :o9}(hH:HR G I N w H){id off:Nat}{cs:List c8}(h:wr H id off cs=some H') :
  ∃ l0 c e f,H[id]? =some (.cells l0)/\H' =H.set id (.cells (splice l0 off cs))/\off+cs.length<=l0.length/\N id/\w.heap[(I id).1]? =some (.cells c e f)/\G (I id).1= .obj id/\Lr f c.size /\
   (I id).2+l0.length<=c.size/\∀ (i:Nat) x,l0[i]? =some x->∃ v,c[(I id).2+i]? =some v/\VR G I N w (.cell id i) x v:=by
 unfold x9.wr at h;split at h
 .rename_i l0 hl
  split at h
  .have ho:=hH id _ hl
   simp_all [OR]
  .cases h
 .cases h
def zl (P:Program)(ck:Operand->y6->Bool)(o:Oper)(op:z6):Bool :=
 match o.op,op with
 | .store t x y,.store n x' y' =>ck x x' &&ck y y' &&P.cellsOf t==n&&(P.info? t).isSome&&decide (0<n)
 |_,_=>false
def Qv (h:RI X l S st a w G I N)(hD:∀ j,D j=true->S j){k:Nat}(hk:¬ S k)(aF:k<st.L.length)(entry:Nat){o:Oper}{n:Nat}{x y:y6}(hc:zl P (X.ck D) o (.store n x y)=true){E:Env}(hE:E.lim=l)
  {st' :G4} (he:Q8 E k n st (I5 st.T st.L x) y=some st'):∃ w' G',(execOp a.eval o).run P w= .ok .skip w' /\cB X l S entry st a w G I N st' k undef w' G' I N:=by
 obtain ⟨dst,dW,ty,pos,after,guard⟩:=o;cases dW<;>simp [zl,c7,beq_iff_eq] at hc<;>try (cases hc;done)
 rename_i t x' y';obtain ⟨⟨⟨⟨hx,hy⟩,hn⟩,hi⟩,hpos⟩:=hc;have h1:=h.R7 hD _ _ hx;unfold Q8 at he;split at he
 .rename_i id off hp
  rw [hp] at h1;simp [VR] at h1;split at he
  .rename_i cs hcs
   split at he
   .split at he
    .rename_i H' hH'
     obtain ⟨G1,hX⟩:=h.E1 hD hy (pl:= .cell id off) (by simp);obtain ⟨c1,c2,c3⟩:=SA hcs hX.val;obtain ⟨l0,c,e,f,g1,g2,g3,g4,g5,g6,g7,g8,g9⟩:=hX.ri.H.wr hH';obtain ⟨hO,hW⟩:=CD g4 g5 g6 g7 g8 g9 g3 (vs:=(a.eval y').cells.toList) (by omega) c3;have hrun:(storeCells (ad (I id).1 ((I id).2+off)) (a.eval y').cells.toList).run P w= .ok () (w.setRow (I id).1 (N5 c.toList ((I id).2+off) (a.eval y').cells.toList).toArray):=by
      grind [run_storeCells_at]
     have hs:(sizeOf t).run P w= .ok n w:=by simp_all [run_sizeOf]
     have hsz:¬ ((a.eval y').cells.size≠n):=by omega
     have uS:(u0.cells (splice l0 off cs)).K5<=max (u0.cells l0).K5 (id+1)\/(l.base<=id/\l.strict<=id):=by
      grind [wm,u0.K5]
     have hM:=cB.write (D1:=N) hX.ri hk (by grind [BF]) entry hW g1 hO (by simp_all) uS (fun _=>Iff.rfl) (v:= .any) (x:=undef) (by simp [VR]) (.obj id::(E1 st y).2.o7) (by simp [Touch.K0]);refine ⟨w.setRow (I id).1 (N5 c.toList ((I id).2+off) (a.eval y').cells.toList).toArray,G1,?_,?_⟩
     .simp_all [execOp,Instr.storeAt,Instr.sureAddr,storeVar,Sem.run_bind,Sem.run_pure,Result.andThen_ok,if_neg]
     .have:=cB.pre (st:=st) hX.ext hX.keeps hX.obj (vW st y) hM
      simp_all
    .cases he
   .cases he
  .cases he
 .cases he
end
end Go.x9
namespace Go.x9
variable [D9]
structure PV (X:Cx)(j9:List p6)(S:Nat->Prop)(st:G4)(a:Act)(w:World)(I:R3):Prop where
 slot:∀ (j:Nat) ai s t d,S j->st.L[j]? ≠some (.tuple [])->j9[j]? =some ai->ai.op=z6.Q3 (.slot s)->X.names[s]? =some t->(X.ops[j]?).bind (·.dst)=some d->X.names.contains d=false ->
  st.o7.any (Touch.S4 s)=false->a.tmps.getD d undef=a.tmps.getD t undef
 cell:∀ (j:Nat) ai x id off d l0,S j->st.L[j]? ≠some (.tuple [])->j9[j]? =some ai->ai.op=z6.load none x->aV st x=some (id,off)->st.H[id]? =some (.cells l0)->off<l0.length ->
  st.o7.any (Touch.bP id off)=false->(X.ops[j]?).bind (·.dst)=some d->X.names.contains d=false->w.cell? (ad (I id).1 ((I id).2+off))=some (a.tmps.getD d undef)
structure Tk (X:Cx)(l:F2)(S:Nat->Prop)(st st1:G4)(a:Act)(w:World)(G:Gh)(I:R3)(N:Nat->Prop)(k:Nat)(v:c8)(x:Value)(G1:Gh):Prop where
 ri:RI X l S st1 a w G1 I N
 val:VR G1 I N w (.loc k) v x
 ext:Ext G w G1 w
 ez:kj l G w G1 w
 obj:∀ b id:Nat,G b= .obj id->G1 b= .obj id
 len:st1.H.length=st.H.length
 L:st1.L.length=st.L.length
 o7:∀ p,st.o7.any p=true->st1.o7.any p=true
 hle:∀ (id:Nat) (o' :u0),st1.H[id]? =some o' ->∃ o:u0,st.H[id]? =some o/\o'.K5<=o.K5
section
variable {P:Program} {X:Cx} {l:F2} {S:Nat->Prop} {st:G4} {a:Act} {w w' :World} {G:Gh} {I:R3} {N:Nat->Prop} {D:Nat->Bool} {j9:List p6}
def qI (h:RI X l S st a w G I N)(hpv:PV X j9 S st a w I)(hT:st.T.length=X.names.length)(hD:∀ j,D j=true->S j){k:Nat}(hk:¬ S k){x:Operand}{y:y6}(hc:X.ck D x y=true){sz len:Nat}
  {cells:List Data} {st1:G4} (ht:O8 l j9 st sz y=some (len,cells,st1)):∃ G1,Tk X l S st st1 a w G I N k (.own sz len cells) (a.eval x) G1:=by
 unfold O8 at ht;split at ht
 .split at ht
  .rename_i hz
   subst hz;simp at ht;obtain ⟨rfl,rfl,rfl⟩:=ht;refine ⟨G,h,?_,Ext.refl _ _,kj.refl _ _ _,fun _ _ h=>h,rfl,rfl,fun _ h=>h,fun _ o h=>⟨o,h,o5 _⟩⟩;unfold Cx.ck at hc;split at hc
   .simp_all
   .simp_all
   .rename_i v' b heq
    cases heq;exact (cF _ _ hc).place
   all_goals simp_all
  .cases ht
 .cases ht
 .cases ht
 .rename_i j
  have al0:∃ t,x= .tmp t/\D j=true/\(X.ops[j]?).bind (·.dst)=some t/\X.names.contains t=false:=by
   simp_all [Cx.ck]<;>grind
  obtain ⟨t,rfl,hDj,zX,HU⟩:=al0;have hSj:=hD j hDj;have hjk:j≠k:=by grind
  split at ht
  .rename_i z len' cells' hj
   split at ht
   .rename_i hz
    subst hz;simp at ht;obtain ⟨rfl,rfl,rfl⟩:=ht;have h1:=h.L j hSj t zX HU;rw [aM hj] at h1;obtain ⟨G',hm,hv⟩:=iT (wW := .loc k) (by simp) h1;exact ⟨G',h.OC hj hm,hv,hm.ext,fun id _=>⟨fun b hb=>⟨hm.obj b id hb,rfl⟩,fun off=>hm.keeps _ (by simp)⟩,hm.obj,rfl,by simp,fun _ h=>h,fun _ o h=>⟨o,h,o5 _⟩⟩
   .cases ht
  .rename_i bK3 aZ9 hj
   split at ht
   .rename_i ai hai
    unfold W8 at ht;split at ht
    .rename_i s hop
     split at ht
     .cases ht
     .split at ht
      .rename_i z len' cells' hs
       split at ht
       .rename_i hz
        simp at ht;obtain ⟨rfl,rfl,rfl⟩:=ht;obtain ⟨ts,hts⟩:∃ ts,X.names[s]? =some ts:=by
         grind
        have h1:=h.T s ts hts;rw [aM hs] at h1;have he:=hpv.slot j ai s ts t hSj (by rw [hj];simp) hai hop hts zX HU (by simp_all);obtain ⟨G',hm,hv⟩:=iT (wW := .loc k) (by simp) h1;refine ⟨G',h.VS hs _ hm,?_,hm.ext,fun id _=>⟨fun b hb=>⟨hm.obj b id hb,rfl⟩,fun off=>hm.keeps _ (by simp)⟩,hm.obj,rfl,rfl,fun p hp=>by simp_all,fun _ o h=>⟨o,h,o5 _⟩⟩;simp_all [Act.eval]
       .cases ht
      .cases ht
    .rename_i x' hop
     split at ht
     .rename_i id off Yo
      split at ht
      .cases ht
      .rename_i hun
       simp only [Bool.or_eq_true,n5,not_or,Bool.not_eq_true,Bool.not_eq_false] at hun;split at ht
       .rename_i cs hcs
        split at ht
        .rename_i z len' cells' hco
         split at ht
         .rename_i hz
          simp at ht;obtain ⟨rfl,rfl,rfl⟩:=ht;have hO:=h.H id _ hcs;obtain ⟨hN,c,e,f,g1,g2,g3,g4,g5⟩:=hO
          .obtain ⟨v,e1,e2⟩:=g5 off _ hco
           have he:=hpv.cell j ai x' id off t cs hSj (by rw [hj];simp) hai hop Yo hcs (u7 hco) hun.1 zX HU;rw [U5 g1,e1] at he;obtain ⟨G',hm,hv⟩:=iT (wW := .loc k) (by simp) e2;refine ⟨G',h.VQ hcs hco _ hm,?_,hm.ext,fun id' bG2 =>⟨fun b hb=>⟨hm.obj b id' hb,rfl⟩,fun off' =>hm.keeps _ ?_⟩,hm.obj,by simp,rfl,fun p hp=>by simp_all,fun id' o' ho' => ?_⟩
           .simp_all [Act.eval]
           .grind
           .by_cases hee:id' =id
            .grind [O0,u7,u0.K5,lM]
            grind
         .cases ht
        .cases ht
       .cases ht
     .cases ht
    .cases ht
   .cases ht
  .cases ht
def RG (P:Program)(t:TypeId):Bool :=
 match P.underlying t with
 |some (.slice _)=>true
 |some .string=>true
 |_=>false
def fR {t t2 e ty:TypeId}{i:TypeInfo}(hu:P.underlying t=some (.slice e))(hi:P.info? e=some i)(ht2:RG P t2=true)
  {base:Option Addr} {sLen sCap m:Nat} {x:Value} (hl:(Builtin.lenOf x).run P w= .ok m w) {nw:Array Value}
  (hnew:(Builtin.firstCells i.size m x).run P w= .ok nw w) (hle:sLen+m<=sCap):(Builtin.append_ #[t,t2] ty #[.slice base sLen sCap,x]).run P w =
   (match base with
    |some a=>((storeCells (a.add (sLen * i.size)) nw.toList).run P w).andThen fun _ w' => .ok (.slice base (sLen+m) sCap) w'
    |none=> .ok (.slice base (sLen+m) sCap) w):=by
 unfold RG at ht2;split at ht2
 .rename_i e2 h2
  cases base<;>simp [Builtin.append_,run_underlying hu,sizeOf,typeInfo,hi,run_underlying h2,hl,hnew,hle]
 .rename_i h2
  cases base<;>simp [Builtin.append_,run_underlying hu,sizeOf,typeInfo,hi,run_underlying h2,hl,hnew,hle]
 .cases ht2
def Cl (need old:Nat)(e:TypeId)(t:Nat):need<=(Question.appendCap need old e).cut t:=by
 simp [Question.cut]
def iU {t t2 e ty:TypeId}{i:TypeInfo}{z:Value}(hu:P.underlying t=some (.slice e))(hi:P.info? e=some i)(hz:i.zero=some z)(ht2:RG P t2=true)
  {base:Option Addr} {sLen sCap m:Nat} {x:Value} (hl:(Builtin.lenOf x).run P w= .ok m w) {nw old:Array Value}
  (hnew:(Builtin.firstCells i.size m x).run P w.drew= .ok nw w.drew) (hold:(Builtin.firstCells i.size sLen (.slice base sLen sCap)).run P w.drew= .ok old w.drew) (hgt:sCap<sLen+m)
  (h63:((sLen+m:Nat):Int)<=9223372036854775807) (hfit:Builtin.nextslicecap (sLen+m) sCap * i.bytes<=281474976710656) :
  ∃ cap,sLen+m<=cap/\(Builtin.append_ #[t,t2] ty #[.slice base sLen sCap,x]).run P w =
   .ok (.slice (some (ad w.heap.size 0)) (sLen+m) cap) (w.drew.alloc (.cells (old++nw++Builtin.zeroCells z.cells (cap - (sLen+m))) e)):=by
 refine ⟨(Question.appendCap (sLen+m) sCap e).cut (w.tape w.drawn (.appendCap (sLen+m) sCap e)),Cl _ _ _ _,?_⟩;have hn:¬ (sLen+m<=sCap):=by omega
 have h63' :¬ (9223372036854775807<((sLen:Int)+(m:Int))):=by omega
 have az8 :¬ (281474976710656<Builtin.nextslicecap (sLen+m) sCap * i.bytes):=by omega
 unfold RG at ht2;split at ht2
 .rename_i e2 h2
  simp [Builtin.append_,run_underlying hu,sizeOf,typeInfo,hi,run_underlying h2,hl,hn,h63',az8,Question.forced,hnew,hold,zeroValue,hz,newRow]
 .rename_i h2
  simp [Builtin.append_,run_underlying hu,sizeOf,typeInfo,hi,run_underlying h2,hl,hn,h63',az8,Question.forced,hnew,hold,zeroValue,hz,newRow]
 .cases ht2
end
end Go.x9
namespace Go.x9
variable [D9]
section
variable {P:Program} {X:Cx} {l:F2} {S:Nat->Prop} {st:G4} {a:Act} {w w' :World} {G:Gh} {I:R3} {N:Nat->Prop} {D:Nat->Bool} {j9:List p6}
theorem kA {w w2:World}(h:w2.heap=w.heap)(x:Addr):w2.cell? x=w.cell? x:=by simp [World.cell?,h]
def ew (x:Addr)(w:World):(loadCells x 0).run P w= .ok #[] w:=by rfl
def vL {H:o9}(hH:HR G I N w H){y:c8}{x:Value}(hv:VR G I N w .none y x){sz m:Nat}(hsz:0<sz){cs:List c8}(h:N4 H sz y=some (m,cs)) :
  ∃ vs:List Value,(Builtin.lenOf x).run P w= .ok m w/\(∀ w2:World,w2.heap=w.heap->(Builtin.firstCells sz m x).run P w2= .ok vs.toArray w2)/\J5 G I N w cs vs/\cs.length=m * sz:=by
 unfold N4 at h;split at h
 .rename_i len cells
  split at h
  .simp at h;obtain ⟨rfl,rfl⟩:=h
   rcases hv with ⟨rfl|⟨a0,rfl⟩,rfl,rfl⟩|⟨b,o,cap,rfl,h2,h3⟩
   .simp_all [Builtin.lenOf,Builtin.firstCells,J5]
   .simp_all [Builtin.lenOf,Builtin.firstCells,ew,J5]
   .obtain ⟨vs,g1,g2,g3⟩:=dX.vals (I:=I) (N:=N) o cells h3
    refine ⟨vs,by rfl,fun w2 Xs=> ?_,g3,by simp_all⟩;have:=run_loadCells_list (P:=P) w2 (ad b o) vs (fun j v hj=>by grind [aK,kA]);simp_all [Builtin.firstCells]
  .cases h
 .rename_i z len cells
  split at h
  .rename_i hz
   subst hz;simp at h;obtain ⟨rfl,rfl⟩:=h;have h0:=hv.J2 (wW := .none);simp only [VR] at hv
   rcases h0 with ⟨rfl|⟨a0,rfl⟩,rfl,rfl⟩|⟨b,o,cap,rfl,h2,h3⟩
   .simp_all [Builtin.lenOf,Builtin.firstCells,J5]
   .simp_all [Builtin.lenOf,Builtin.firstCells,ew,J5]
   .obtain ⟨vs,g1,g2,g3⟩:=dX.vals (I:=I) (N:=N) o cells h3
    refine ⟨vs,by rfl,fun w2 Xs=> ?_,g3,by simp_all⟩;have:=run_loadCells_list (P:=P) w2 (ad b o) vs (fun j v hj=>by simp_all);simp_all [Builtin.firstCells]
  .cases h
 .rename_i id z lo len
  split at h
  .rename_i hz
   subst hz;split at h
   .rename_i us Xq
    simp at h;obtain ⟨rfl,rfl⟩:=h;obtain ⟨_,cap,rfl,_⟩:=hv
    by_cases h0:len * z=0
    .have hlen:us=[]:=by
      grind [rd]
     simp_all [Builtin.lenOf,J5,Builtin.firstCells,ew]
    .obtain ⟨_,xs,g1,g2,g3,g4⟩:=hH.rd Xq (by omega)
     refine ⟨xs,by rfl,fun w2 Xs=> ?_,R6 _ _ (by simp [g1,g2]) fun j b v hj hv=> ?_,by simp_all⟩
     .have:=run_loadCells_list (P:=P) w2 (ad (I id).1 ((I id).2+lo)) xs (fun j v hj=>by grind [aK,kA])
      simp_all [Builtin.firstCells]
     .simp at hj
      obtain ⟨b',hb',rfl⟩:=hj;exact (g4 j b' v hb' hv).J2
   .cases h
  .cases h
 .rename_i s
  split at h
  .rename_i hz
   subst hz;simp at h;obtain ⟨rfl,rfl⟩:=h;subst hv;have hsize:(⟨s.toArray⟩:ByteArray).size=s.length:=by rfl
   refine ⟨s.map fun b=> .int .u8 b.toNat,by rfl,fun w2 _=> ?_,R6 _ _ (by simp) fun j b v hj hv=> ?_,by simp⟩
   .simp [Builtin.firstCells]
   grind [VR,DR]
  .cases h
 .cases h
def HK {b n n' :Nat}{pl:Place}(hl:G b= .grow n pl)(hn:n<=n'){c:Array Value}{e:TypeId}{f:Nat×Nat}(hb:w.heap[b]? =some (.cells c e f)){c' :Array Value}(hs:c'.size=c.size)
  (hc:∀ i,i<n->c'[i]? =c[i]?):Ext G w (iu G b (.grow n' pl)) (w.setRow b c') where
 os:=rfl
 tape:=rfl
 output:=rfl
 drawn _:=o5 _
 size:=by simp
 kg b' o hi:=by
  by_cases he:b' =b
  .subst he
   have ho:o<n:=by simp_all [gX]
   refine ⟨by simp [gX];omega,?_⟩;rw [U5 (setRow_heap w b' c c' e f hb),U5 hb];exact hc o ho
  simp_all [gX,K7,World.cell?,setRow_other]
 still b' hb' :=by
  grind [K7,setRow_other]
 shape b' c0 e0 f0 h0:=by
  grind [setRow_heap,setRow_other]
def mc {b n n' :Nat}{pl q:Place}(hl:G b= .grow n pl)(hq:q≠pl)(c' :Array Value):bz q G w (iu G b (.grow n' pl)) (w.setRow b c'):=by
 intro b' m hb'
 grind [K7,setRow_other]
def uR {b n n' :Nat}{pl:Place}(hl:G b= .grow n pl)(c' :Array Value)(id:Nat):∀ b',G b' = .obj id->(iu G b (.grow n' pl)) b' = .obj id/\(w.setRow b c').heap[b']? =w.heap[b']? :=by
 grind [K7,setRow_other]
theorem cB.grow (h:RI X l S st a w G I N){k:Nat}(hk:¬ S k)(aF:k<st.L.length)(entry:Nat){b n n' :Nat}(hl:G b= .grow n (.loc k))(hn:n<=n'){c:Array Value}{e:TypeId}{f:Nat×Nat}
  (hb:w.heap[b]? =some (.cells c e f)) {c' :Array Value} (hs:c'.size=c.size) (hc:∀ i,i<n->c'[i]? =c[i]?) {v:c8} {x:Value} (hv:VR (iu G b (.grow n' (.loc k))) I N (w.setRow b c') (.loc k) v x) :
  cB X l S entry st a w G I N (put st k v) k x (w.setRow b c') (iu G b (.grow n' (.loc k))) I N:=by
 have hx:=HK hl hn hb hs hc;refine ⟨⟨?_,?_,?_,?_,h.V4⟩,?_,hx,fun id _=>⟨uR hl c' id,fun off=>mc hl (by simp) c'⟩,fun id _ _=>⟨rfl,uR hl c' id⟩,fun _ _ _=>rfl,fun _ h=>h,o5 _,fun _ o _ ho=>Or.inr ⟨o,ho,o5 _⟩⟩
 .intro s t ht
  exact VR.mono hx (fun _ _=>rfl) (fun _ h=>h) _ _ _ (Or.inr (mc hl (by simp) c')) (h.T s t ht)
 .intro j hj d hd hn
  have:k≠j:=by grind
  simp only [x9.put];rw [P8 _ _ _ _ _ this];exact VR.mono hx (fun _ _=>rfl) (fun _ h=>h) _ _ _ (Or.inr (mc hl (by grind) c')) (h.L j hj d hd hn)
 .intro id o ho
  exact OR.mono hx (fun _ _=>rfl) (fun _ h=>h) id o (fun hb=>uR hl c' id _ hb) (fun off=>mc hl (by simp) c') (h.H id o ho)
 .intro b' hb'
  simp at hb';have hne:b' ≠b:=by grind
  rw [K7 hne];exact h.wf b' hb'
 simp_all [x9.put,O1]
theorem nJ:∀ (xs:List Data),M6 (xs.map .d)=some xs
 |[]=>rfl
 |x::xs=>by simp [M6,c8.data?,nJ xs]
def cB.YK {entry:Nat}{st1 st' :G4}{G1 G' :Gh}{I' :R3}{N' :Nat->Prop}{k:Nat}{x y:Value}{v:c8}(ht:Tk X l S st st1 a w G I N k v y G1)
  (h:cB X l S entry st1 a w G1 I N st' k x w' G' I' N'):cB X l S entry st a w G I N st' k x w' G' I' N' where
 ri:=h.ri
 val:=h.val
 ext:=ht.ext.trans h.ext
 ez:=kj.trans ht.ez h.ez
 ko id hN hh:=by
  obtain ⟨h1,h2⟩:=h.ko id hN hh;exact ⟨h1,fun b hb=>h2 b (ht.obj b id hb)⟩
 inj:=h.inj
 mono:=h.mono
 len:=by rw [<- ht.len];exact h.len
 hle id o' hb ho' :=by
  rcases h.hle id o' hb ho' with h1|⟨o,h1,h2⟩
  .omega
  .obtain ⟨o2,h3,h4⟩:=ht.hle id o h1
   grind
def gY (P:Program)(ck:Operand->y6->Bool)(o:Oper)(op:z6):Bool :=
 match o.op,op with
 | .call ⟨.builtin .append,args,argTypes⟩,.append sz bytes _ x' y' =>
  (match args.toList,argTypes.toList with
   |[x,y],[t,t2]=>ck x x' &&ck y y' &&RG P t2&&decide (0<sz)&&(match P.underlying t with
    |some (.slice e)=>(match P.info? e with
     |some i=>i.size==sz&&i.bytes==bytes&&decide (0<bytes)&&(match i.zero with|some z=>z.cells.size==sz|none=>false)
     |none=>false)
    |_=>false)
   |_,_=>false)
 |_,_=>false
def gH {ck:Operand->y6->Bool}{o:Oper}{sz bytes:Nat}{ob:Bool}{x' y' :y6}(h:gY P ck o (.append sz bytes ob x' y')=true) :
  ∃ x y t t2 e i z,o.op= .call ⟨.builtin .append,#[x,y],#[t,t2]⟩/\ck x x' =true/\ck y y' =true/\RG P t2=true/\0<sz/\P.underlying t=some (.slice e)/\P.info? e=some i/\i.size=sz/\i.bytes=bytes/\i.zero=some z/\z.cells.size=sz/\0<bytes:=by
 unfold gY at h;split at h
 .rename_i args argTypes sz' bytes' ob' x1 y1 nU jl
  cases jl;split at h
  .rename_i x y t t2 ha ht
   simp [c7,decide_eq_true_eq] at h;obtain ⟨⟨⟨⟨h1,h2⟩,h3⟩,h4⟩,h5⟩:=h;split at h5
   .rename_i e he
    split at h5
    .rename_i i hi
     simp [c7,beq_iff_eq,decide_eq_true_eq] at h5;obtain ⟨⟨⟨h6,h7⟩,h9⟩,h8⟩:=h5;split at h8
     .rename_i z hz
      refine ⟨x,y,t,t2,e,i,z,?_,h1,h2,h3,h4,he,hi,h6,h7,hz,by simp_all,h9⟩;simp_all<;>grind
     .cases h8
    .cases h5
   .cases h5
  .cases h
 .cases h
end
end Go.x9
namespace Go.x9
variable [D9]
section
variable {P:Program} {X:Cx} {l:F2} {S:Nat->Prop} {st:G4} {a:Act} {w w' :World} {G:Gh} {I:R3} {N:Nat->Prop} {D:Nat->Bool} {j9:List p6}
def vz {n bytes old:Nat}(h:roomFor n bytes=true)(hlt:old<n):Builtin.nextslicecap n old * bytes<=281474976710656:=by
 have h1:(2 * n+512) * bytes<=281474976710656:=by grind [roomFor]
 have h2:=nextslicecap_le hlt;exact B6 (Nat.mul_le_mul_right _ (by omega)) h1
def FQ {n bytes:Nat}(h:roomFor n bytes=true)(hb:0<bytes):((n:Nat):Int)<=9223372036854775807:=by
 have h1:(2 * n+512) * bytes<=281474976710656:=by grind [roomFor]
 have h2:(2 * n+512) * 1<=(2 * n+512) * bytes:=Nat.mul_le_mul_left _ hb;omega
def XA (hwf:WF G w){e:TypeId}{c:Array Value}(hn:jr w w' (.cells c e)){xs ys:List Data}{vo vn:List Value}(ho:J5 G I N w (xs.map .d) vo)(hy:J5 G I N w (ys.map .d) vn){rest:Array Value}
  (hc:c=vo.toArray++vn.toArray++rest) {sz n cap:Nat} (hl:(xs++ys).length=n * sz) (hcap:n<=cap) (hsz:cap * sz<=c.size) {pl:Place} (hp:pl≠ .none) :
  VR (iu G w.heap.size (.grow (n * sz) pl)) I N w' pl (.own sz n (xs++ys)) (.slice (some (ad w.heap.size 0)) n cap):=by
 refine Oa hwf hn (ny _) (nJ (xs++ys)) (vs:=vo++vn) (by simp_all [List.map_append,J5.append]) (fun i v hi=> ?_) hl hcap hsz hp
 grind
def yK (z:Array Value)(n:Nat):(Builtin.zeroCells z n).size=n * z.size:=by simp [Builtin.zeroCells]
def LN (h:RI X l S st a w G I N)(hpv:PV X j9 S st a w I)(hT:st.T.length=X.names.length)(hD:∀ j,D j=true->S j){k:Nat}(hk:¬ S k)(aF:k<st.L.length)(entry:Nat){o:Oper}{sz bytes:Nat}{x y:y6}
  (hc:gY P (X.ck D) o (.append sz bytes false x y)=true) {E:Env} (hE:E.lim=l) {y9:Option Nat} {st' :G4} (he:M8 E j9 y9 k sz bytes false st x (I5 st.T st.L y)=some st') :
  ∃ v w' G',(execOp a.eval o).run P w= .ok (.value v) w' /\cB X l S entry st a w G I N st' k v w' G' I N:=by
 obtain ⟨x0,y0,t,t2,e,i,z,hop,Sa,hcy,ht2,hsz,hu,hi,hsi,Yi,hz,hzs,hbp⟩:=gH hc;unfold M8 at he;rw [hE] at he;split at he
 .rename_i m cs hcs
  simp only [j3,if_false] at he;split at he
  .rename_i new hnew
   split at he
   .rename_i len cells st1 htk
    split at he
    .rename_i hroom
     simp at he;subst he;obtain ⟨vn,hl,hf,hvn,hcl⟩:=vL (P:=P) h.H (h.R7 hD _ _ hcy) hsz hcs;obtain ⟨G1,HL⟩:=qI h hpv hT hD hk Sa htk;have hdn:=fZ cs new vn hnew hvn;have bi0 :J5 G I N w (new.map .d) vn:=by
      grind [R6,J5.length,B0,VR]
     have am2:J5 G1 I N w (new.map .d) vn:=J5.mono HL.ext (fun _ _=>rfl) (fun _ h=>h) _ _ bi0;have aC4:new.length=m * sz:=by omega
     have Dc:vn.length=m * sz:=by grind [J5.length]
     have wI:(execOp a.eval o).run P w=((Builtin.append_ #[t,t2] o.type #[a.eval x0,a.eval y0]).run P w).andThen fun v w' => .ok (.value v) w' :=by
      simp_all [guard,execOp,resolve,invoke,builtin]
     have hval:=HL.val;simp only [VR] at hval;obtain ⟨hcells,hval⟩:=hval;subst hsi Yi;have out:∀ base sCap,a.eval x0= .slice base len sCap->sCap<len+m->(∃ vo:List Value,(∀ w2:World,w2.heap=w.heap->(Builtin.firstCells i.size len (.slice base len sCap)).run P w2= .ok vo.toArray w2)/\J5 G1 I N w (cells.map .d) vo) ->
       ∃ v w' G',(execOp a.eval o).run P w= .ok (.value v) w' /\cB X l S entry st a w G I N (put st1 k (.own i.size (len+m) (cells++new))) k v w' G' I N:=by
      rintro base sCap hx hlt ⟨vo,ho1,ho2⟩;obtain ⟨cap,hcap,hrun⟩:=iU (P:=P) (w:=w) (ty:=o.type) hu hi hz ht2 (base:=base) (sLen:=len) (sCap:=sCap) hl (hf w.drew rfl) (ho1 w.drew rfl) hlt (FQ hroom.1 hbp) (vz hroom.1 hlt);have hnb:jr w (w.drew.alloc (.cells (vo.toArray++vn.toArray++Builtin.zeroCells z.cells (cap - (len+m))) e)) (.cells (vo.toArray++vn.toArray++Builtin.zeroCells z.cells (cap - (len+m))) e):=by
       have:=jr.alloc w.drew (.cells (vo.toArray++vn.toArray++Builtin.zeroCells z.cells (cap - (len+m))) e);exact ⟨this.os,this.tape,this.output,B6 (Nat.le_succ _) this.drawn,this.size,this.old,this.new⟩
      have hvo:vo.length=len * i.size:=by grind [J5.length,B0]
      refine ⟨_,_,_,?_,cB.YK HL (cB.fresh HL.ri hk (by rw [HL.L];exact aF) entry hnb (.grow ((len+m) * i.size) (.loc k)) (XA HL.ri.wf hnb ho2 am2 rfl ?_ hcap ?_ (by simp)))⟩
      .simp_all
      .grind
      .simp only [Array.size_append,List.size_toArray,yK,hzs,hvo,Dc]
       have:cap * i.size=(len+m) * i.size+(cap - (len+m)) * i.size:=by rw [<- Nat.add_mul];simp_all
       grind
     rcases hval with ⟨hnil,aB9⟩|⟨_,b,off,cap,c,e',f,h1,h2,h3,h4,h5,h6,h7⟩
     .subst aB9
      have hc0:cells=[]:=by simp_all
      subst hc0;have hbase:∃ base:Option Addr,a.eval x0= .slice base 0 0/\(base=none\/∃ b o,base=some (ad b o)):=by
       grind
      obtain ⟨base,hx,hbb⟩:=hbase
      by_cases hm:m=0
      .subst hm
       have HU:new=[]:=by simp_all
       have hvv:vn=[]:=by simp_all
       subst HU hvv;have hrun:=fR (P:=P) (w:=w) (ty:=o.type) hu hi ht2 (base:=base) (sLen:=0) (sCap:=0) hl (hf w rfl) (o5 _);refine ⟨.slice base 0 0,w,G1,?_,cB.YK HL (cB.same HL.ri hk (by rw [HL.L];exact aF) entry ?_)⟩
       .rw [wI,hx,hrun]
        cases base<;>simp [storeCells]
       simp_all [VR]
      .refine out base 0 hx (by omega) ⟨[],fun w2 _=> ?_,by simp [J5]⟩
       cases base<;>simp [Builtin.firstCells,ew]
     .by_cases hfit:len+m<=cap
      .have hrun:=fR (P:=P) (w:=w) (ty:=o.type) hu hi ht2 (base:=some (ad b off)) (sLen:=len) (sCap:=cap) hl (hf w rfl) hfit
       have hsize:off+len * i.size+vn.length<=c.size:=by
        rw [Dc];have:(len+m) * i.size<=cap * i.size:=Nat.mul_le_mul_right _ hfit
        grind
       have hone:Cu vn:=by
        intro u hu';obtain ⟨j,hj,rfl⟩:=List.getElem_of_mem hu';have hj2:j<(new.map c8.d).length:=by grind
        obtain ⟨u',g1,g2⟩:=J5.get _ _ am2 j _ (l6 hj2);rw [l6 hj] at g1;cases g1;exact (kP (by simp [c8.one]) g2).1
       have hst:=run_storeCells_at (P:=P) b (off+len * i.size) e' f vn 0 c w h3 h5 (by omega) hone;simp only [Nat.add_zero] at hst;have CY :off+len * i.size+vn.length<=c.toList.length:=by omega
       have uT :(N5 c.toList (off+len * i.size) vn).toArray.size=c.size:=by simp_all [oF]
       have hkeep:∀ j,j<off+len * i.size->(N5 c.toList (off+len * i.size) vn).toArray[j]? =c[j]? :=by
        grind [N5]
       refine ⟨.slice (some (ad b off)) (len+m) cap,w.setRow b (N5 c.toList (off+len * i.size) vn).toArray,_,?_,
        cB.YK HL (cB.grow HL.ri hk (by rw [HL.L];exact aF) entry h6 (n' :=off+(len+m) * i.size) (by grind) h3 uT hkeep ?_)⟩
       .simp_all [aK,Result.andThen_ok]
       .have hx:=HK h6 (n' :=off+(len+m) * i.size) (by grind) h3 uT hkeep
        simp only [VR];refine ⟨by grind,Or.inr ⟨by simp,b,off,cap,_,e',f,rfl,hfit,setRow_heap w b c _ e' f h3,by omega,by simp_all,by simp,?_⟩⟩;refine yO off _ fun j d hj=> ?_
        have hjl:=u7 hj;rw [o8,hcells,aC4] at hjl;refine ⟨by simp_all [gX]<;>grind,?_⟩;rw [U5 (setRow_heap w b c _ e' f h3),show (N5 c.toList (off+len * i.size) vn).toArray[off+j]? =(N5 c.toList (off+len * i.size) vn)[off+j]? from by simp,oE _ _ _ CY]
        by_cases hjc:j<len * i.size
        .rw [if_pos (by omega)]
         rw [A7 (by omega)] at hj;obtain ⟨vs,q1,q2,q3⟩:=dX.vals (I:=I) (N:=N) off cells h7;have hjv:j<vs.length:=by omega
         have q4:=q2 j _ (l6 hjv);rw [U5 h3] at q4;refine ⟨vs[j],by simp_all,?_⟩;obtain ⟨u,r1,r2⟩:=J5.get _ _ q3 j (.d d) (by simp [hj]);rw [l6 hjv] at r1;cases r1;simp only [VR] at r2;exact DR.mono hx.kg _ _ r2
        .rw [if_neg (by omega),if_pos (by omega)]
         rw [s5 (by omega),hcells] at hj;obtain ⟨u,r1,r2⟩:=J5.get _ _ am2 (j - len * i.size) (.d d) (by simp [hj]);refine ⟨u,by grind,?_⟩;simp only [VR] at r2;exact DR.mono hx.kg _ _ r2
      .refine out (some (ad b off)) cap h1 (by omega) ?_
       obtain ⟨vs,q1,q2,q3⟩:=dX.vals (I:=I) (N:=N) off cells h7;refine ⟨vs,fun w2 Xs=> ?_,q3⟩;have:=run_loadCells_list (P:=P) w2 (ad b off) vs (fun j v hj=>by grind [aK,kA]);simp_all [Builtin.firstCells]
    .cases he
   .cases he
  .cases he
 .cases he
end
end Go.x9
namespace Go.x9.Z
abbrev k (n:Int):y6:= .const (.d (.int .i64 n))
abbrev kt:y6:= .const (.d (.bool true))
abbrev kf:y6:= .const (.d (.bool false))
abbrev z0:c8:= .d (.int .i64 0)
abbrev zs:c8:= .d (.str [])
abbrev zb:c8:= .d (.bool false)
abbrev w (n:Nat):c8:= .own n 0 []
abbrev l (n:Nat):y6:= .loc n
abbrev s (n:Nat):y6:= .slot n
abbrev i0 (o:z6):p6:=⟨o,none,none,[]⟩
abbrev i1 (o:z6)(d:Nat):p6:=⟨o,some d,none,[]⟩
abbrev it (o:z6)(j:Nat):p6:=⟨o,none,some (j,true),[]⟩
abbrev if_ (o:z6)(j:Nat):p6:=⟨o,none,some (j,false),[]⟩
abbrev i3 (o:z6)(u:List Nat):p6:=⟨o,none,none,u⟩
abbrev ms (n:Nat):p6:=⟨.Q3 (.slot n),none,none,[]⟩
abbrev ml (n:Nat):p6:=⟨.Q3 (.loc n),none,none,[]⟩
abbrev os (a n:Nat):p6:=⟨.off a (.slot n),none,none,[]⟩
abbrev ol (a n:Nat):p6:=⟨.off a (.loc n),none,none,[]⟩
abbrev ld (n:Nat):p6:=⟨.load none (.loc n),none,none,[]⟩
abbrev sq:=q9.seq
abbrev rg:=q9.region
abbrev te:=q9.test
abbrev sk:=q9.skip
def sh (t:s6){x:s6}(h:t=x:=by dsimp only [k,kt,kf,z0,zs,zb,w,l,s,i0,i1,it,if_,i3,ms,ml,os,ol,ld,sq,rg,te,sk]):{ x:s6 // t=x }:=⟨x,h⟩
abbrev p9 (x:List p6):q9:= .region x false
abbrev jU (x:List p6):q9:= .region x true
abbrev E2 (x:List p6)(c:y6)(a b:q9):q9:= .test x false c a b
abbrev Gs (x:List p6)(c:y6)(a b:q9):q9:= .test x true c a b
abbrev G5:y6:=k 0
abbrev gP:z6:= .Q3 G5
abbrev D0:y6:=l 0
abbrev kZ:z6:= .Q3 D0
abbrev D7:y6:=l 1
abbrev K2:y6:=k 1
abbrev zq4:z6:= .bin .add D0 K2
abbrev I8:y6:=l 2
abbrev ED:z6:= .Q3 D7
abbrev K3:y6:=l 3
abbrev ZT:z6:= .Q3 (.const (w 1))
abbrev cQ:z6:= .Q3 (s 0)
abbrev Q0:y6:=s 2
abbrev Gw:z6:= .load (some 8) Q0
abbrev A6:y6:=l 4
abbrev Ku:y6:= .const (.d (.int .i64 (-1)))
abbrev JW:z6:= .Q3 Ku
abbrev O2:y6:=s 6
abbrev W0:y6:=s 7
abbrev RS:q9:=E2 [i0 (.bin .lss (s 8) W0)] D0 sk (.exit 0)
abbrev A1:p6:=ld 0
abbrev xI:p6:=i1 ED 3
abbrev O3:p6:=ms 2
abbrev J7:p6:=ms 3
abbrev ZP:z6:= .len D7
abbrev U1:p6:=i0 ZP
abbrev eG:z6:= .Q3 K3
abbrev xG:p6:=i1 eG 2
abbrev KT:z6:= .bin .lss D0 G5
abbrev uk:p6:=i1 kZ 8
abbrev Ec:q9:=p9 [i0 (.bin .add (s 8) K2),uk]
abbrev au3:q9:=sq (p9 [i1 cQ 6,i1 (.len O2) 7,i1 gP 8]) (.block 0 (.loop [true,false,true,false,false,false,true,true,true,false,false,false] (sq RS (sq (.block 1 (sq (p9 [i0 (.D5 1 O2 (s 8)),A1,xI]) (sq (p9 [O3,J7,U1,i0 (.bin .add D0 I8),xG]) (E2 [O3,i0 KT] D7 (p9 [i0 (.bad),i0 (.bad)]) sk)))) Ec))))
abbrev qM:z6:= .Q3 kf
abbrev Cz:q9:=p9 [i1 qM 2]
abbrev oT:p6:=i1 gP 2
abbrev nh:q9:=p9 [oT]
abbrev s4:p6:=ms 0
abbrev Kl:q9:=p9 [s4,i1 (.len D0) 4,i1 gP 5]
abbrev R5:y6:=s 5
abbrev T9:y6:=s 4
abbrev Kb:q9:=E2 [i0 (.bin .lss R5 T9)] D0 sk (.exit 0)
abbrev F6:p6:=ms 5
abbrev jc:p6:=i1 kZ 3
abbrev RU:q9:=p9 [F6,jc]
abbrev B7:p6:=ms 1
abbrev Y2:p6:=ld 3
abbrev D2:y6:=l 5
abbrev lD:p6:=i1 kZ 2
abbrev ya:q9:=sq (p9 [J7,lD]) .ret
abbrev cm:p6:=i1 kZ 5
abbrev Ki:q9:=p9 [i0 (.bin .add R5 K2),cm]
abbrev Lh:q9:=sq (p9 [i1 JW 2]) .ret
abbrev au4:q9:=sq nh (sq (sq Kl (.block 0 (.loop [true,true,false,false,true,true] (sq Kb (sq (.block 1 (sq RU (E2 [B7,s4,J7,i0 (.D5 1 D7 I8),Y2,i0 (.bin .eql D0 A6)] D2 ya sk))) Ki))))) Lh)
abbrev Gx:z6:= .alloc [(w 4),(w 9),(w 3),(w 6),(w 4),(w 3),(w 2),(w 3)]
abbrev vX:q9:=p9 [i1 qM 1]
abbrev RO:z6:= .box (s 0)
abbrev H8:y6:=l 6
abbrev Gy:z6:= .load none A6
abbrev aO1:z6:= .A2 1 1 [zs] [(0,1,H8)] false
abbrev F9:p6:=ms 4
abbrev gG:p6:=i0 zq4
abbrev oS:p6:=i1 ED 4
abbrev xZ:q9:=p9 [F9,gG,oS]
abbrev aO2:z6:= .bin .lss D0 I8
abbrev dQ:p6:=os 1 1
abbrev Q5:p6:=ml 2
abbrev V3:y6:=s 1
abbrev ue:z6:= .off 1 V3
abbrev fh:p6:=it Gy 3
abbrev ah0:z6:= .pick K3 H8 kf
abbrev oV:p6:=i0 ah0
abbrev N6:y6:=l 9
abbrev uc:z6:= .load none N6
abbrev R2:y6:=l 10
abbrev jZ:y6:= .const zs
abbrev K9:y6:=l 8
abbrev Y3:y6:=l 11
abbrev X5:y6:=l 12
abbrev aO3:q9:=sq (p9 [dQ,A1,i0 (.bin .geq D7 (.const (.d (.int .i64 (-4294967296))))),Q5,it ue 3,fh,it (.bin .leq D2 (k 4294967296)) 3,oV,ml 7,it (.off 2 V3) 8,it uc 8,it (.bin .eql R2 jZ) 8,i0 (.pick K9 Y3 kf),i1 (.Q3 X5) 2]) .ret
abbrev fm:p6:=os 0 1
abbrev mM:z6:= .load none D0
abbrev T3:y6:=s 3
abbrev Y7:p6:=ml 0
abbrev aO8:z6:= .bin .eql D7 G5
abbrev jM:p6:=i0 aO8
abbrev I6:y6:=l 7
abbrev dN:z6:= .Q3 I6
abbrev R1:y6:=k 2
abbrev ah1:z6:= .pick K3 I6 kf
abbrev uo:p6:=i0 ah1
abbrev nj:z6:= .Q3 K9
abbrev au5:q9:=sq (p9 [fm,i1 mM 3]) (.block 0 (E2 [i0 (.bin .eql T3 G5),Y7] D7 (sq (p9 [dQ,A1,jM,Q5,it (.off 2 V3) 3,fh,it (.bin .eql D2 jZ) 3,oV,i1 dN 2]) .ret) (E2 [i0 (.bin .eql T3 K2),Y7] D7 aO3 (E2 [i0 (.bin .eql T3 R1),Y7] D7 (sq (p9 [dQ,A1,jM,Q5,it (.off 2 V3) 3,fh,it (.V5 D2) 3,it (.bin .leq H8 (k 32)) 3,uo,i1 nj 2]) .ret) sk))))
abbrev Nf:z6:= .load (some 8) T3
abbrev aO4:z6:= .bin .lss D0 K3
abbrev KS:q9:=E2 [i0 (.bin .lss (s 9) (s 8))] D0 sk (.exit 0)
abbrev lz:z6:= .Q3 K2
abbrev ZQ:z6:= .len I8
abbrev aO5:z6:= .bin .neq D0 G5
abbrev aO6:z6:= .bin .neq D7 jZ
abbrev uj:p6:=i1 ED 5
abbrev CA:q9:=p9 [F6,gG,uj]
abbrev RP:z6:= .alloc [zs,z0,zs,zs,(w 2),(w 5),(w 2),zb,(w 3)]
abbrev Lb:q9:=p9 [i0 (.bin .add (s 9) K2),i1 kZ 9]
abbrev cO:z6:= .Q3 I8
abbrev jL:p6:=i1 kZ 4
abbrev ff:y6:=k 16
abbrev au6:q9:=sq (p9 [i0 (.bin .eql Q0 (k 3)),jL]) (.cond T9 sk (sq (p9 [i0 (.bin .eql Q0 (k 9)),jL]) (.cond T9 sk (sq (p9 [i0 (.bin .eql Q0 (k 13)),jL]) (.cond T9 sk (p9 [i0 (.bin .eql Q0 ff),jL]))))))
abbrev Lc:z6:= .alloc [zs,z0,zs,zs,(w 1),z0,z0]
abbrev dm:z6:= .Q3 D2
abbrev uh:p6:=i1 RO 1
abbrev Gz:q9:=p9 [uh,i1 qM 2]
abbrev mL:z6:= .Q3 V3
abbrev GA:z6:= .append 1 16 false D0 I6
abbrev vY:z6:= .load none D2
abbrev jf:p6:=i0 aO2
abbrev RQ:q9:=E2 [J7,s4,U1,jf] K3 sk (.exit 0)
abbrev je:p6:=i1 gP 4
abbrev ux:q9:=p9 [je]
abbrev pz:z6:= .load none H8
abbrev aO7:z6:= .load (some 8) V3
abbrev ZR:z6:= .aU D0
abbrev BZ:p6:=i1 qM 3
abbrev Ld:q9:=sq (p9 [BZ]) .ret
abbrev fL:z6:= .Q3 A6
abbrev J4:p6:=ld 1
abbrev U0:p6:=i0 ZQ
abbrev dP:p6:=i0 aO4
abbrev EA:z6:= .D5 4 I8 K3
abbrev qT:p6:=i0 aO1
abbrev uf:p6:=i1 nj 3
abbrev au7:q9:=sq (E2 [F9,fm,J4,U0,dP] A6 sk (.exit 0)) (sq (.block 1 (p9 [J7,fm,J4,F9,i0 EA,ol 0 4,ld 5,qT,i0 GA,uf])) xZ)
abbrev au8:q9:=sq (E2 [F6,dQ,J4,U0,dP] A6 sk (.exit 2)) (sq (.block 3 (p9 [J7,dQ,J4,F6,i0 (.D5 9 I8 K3),ol 0 4,ld 5,qT,i0 GA,uf])) CA)
abbrev eM:p6:=i1 gP 3
abbrev GB:q9:=p9 [eM]
abbrev Lf:q9:=p9 [J7,gG,xI]
abbrev gA:z6:= .Q3 Q0
abbrev au9:q9:=sq (p9 [BZ]) (sq (p9 [s4,B7,i0 (.bin .geq D0 D7),Q5,it cQ 3,it gA 3,it (.bin .leq A6 D2) 3,oV,i1 dN 3]) .ret)
abbrev Z8:p6:=ml 1
abbrev ag9:z6:= .pick I8 A6 kf
abbrev qP:p6:=i0 ag9
abbrev av0:q9:=sq vX (sq (p9 [s4,i0 (.bin .geq D0 (.const (.d (.int .u8 97)))),Z8,it cQ 2,it (.bin .leq K3 (.const (.d (.int .u8 122)))) 2,qP,i1 dm 1]) .ret)
abbrev av1:q9:=sq vX (sq (p9 [s4,i0 (.bin .geq D0 (.const (.d (.int .u8 48)))),Z8,it cQ 2,it (.bin .leq K3 (.const (.d (.int .u8 57)))) 2,qP,i1 dm 1]) .ret)
abbrev oQ:q9:=sq Cz .ret
abbrev ZS:q9:=E2 [s4,i0 (.len D0),B7,U0,i0 (.bin .neq D7 K3)] A6 oQ sk
abbrev av2:q9:=sq (p9 [s4,J7,i0 (.Y8 5 D0 (some D7) none),i0 (.clear 5 [z0,z0,z0,z0,zb] I8)]) (sq (p9 [s4,J7,i0 (.Y8 5 D0 none (some D7)),i1 cO 2]) .ret)
abbrev GC:z6:= .Q3 (.const (w 5))
abbrev GD:z6:= .Q3 (.const (w 2))
abbrev pn:p6:=os 1 2
abbrev eO:p6:=os 0 2
abbrev Kh:z6:= .len A6
abbrev oU:p6:=i0 Kh
abbrev av3:q9:=p9 [pn,A1,B7,eO,Y2,oU,i0 (.bin .sub I8 D2),i0 (.D5 9 D7 H8),i0 (.load (some 9) I6),i1 RP 4,i0 (.store 9 T9 K9)]
abbrev Lg:q9:=p9 [oT,eM]
abbrev Xj:q9:=E2 [F9,s4,U1,jf] K3 sk (.exit 0)
abbrev RR:z6:= .build [z0,z0] [(0,1,D0),(1,1,D7)]
abbrev Ca:q9:=p9 [i1 gP 5]
abbrev N8:p6:=ms 6
abbrev xH:p6:=i1 ED 6
abbrev Ng:q9:=p9 [N8,gG,xH]
abbrev vZ:z6:= .load none R2
abbrev aO9:z6:= .load (some 2) D0
abbrev Nh:q9:=sq (p9 [i1 lz 2]) .ret
abbrev Ni:q9:=sq (p9 [i1 lz 4]) .ret
abbrev X6:y6:=l 13
abbrev Li:z6:= .box V3
abbrev aP0:z6:= .bin .eql D7 R1
abbrev CB:q9:=p9 [i1 ZT 3]
abbrev CC:z6:= .bin .eql H8 G5
abbrev lG:z6:= .Q3 H8
abbrev Xk:q9:=p9 [i1 mL 7,i1 (.len W0) 8,i1 gP 9]
abbrev eN:p6:=os 0 3
abbrev lB:p6:=i1 eG 4
abbrev gF:p6:=i0 aO5
abbrev Wj:q9:=sq (p9 [s4,eN,J4,i0 (.call 209 [D0,I8]),lB]) (E2 [F9,gF] D7 (sq (p9 [F9,lD]) .ret) sk)
abbrev mS:z6:= .alloc [z0,z0]
abbrev af8:z6:= .D5 1 D0 D7
abbrev Eb:z6:= .A2 1 1 [z0] [(0,1,D7)] false
abbrev OI:q9:=sq (p9 [i0 (.load (some 9) R5),i0 (.store 9 T9 D0)]) .ret
abbrev af9:z6:= .bin .eql D0 G5
abbrev aJ:p6:=i0 Gw
abbrev ah2:z6:= .extract I8 0
abbrev xL:p6:=i0 ah2
abbrev ah3:z6:= .extract I8 1
abbrev xK:p6:=i0 ah3
abbrev Wk:q9:=p9 [aJ,i0 (.call 101 [D0]),Z8,xL,xK,i0 (.extract I8 2),lB,ml 4,i1 dm 5]
abbrev eE:y6:=l 16
abbrev qL:z6:= .load none eE
abbrev ag0:z6:= .bin .lss D0 D7
abbrev U2:p6:=ms 8
abbrev Ed:q9:=p9 [U2,gG,i1 ED 8]
abbrev gQ:z6:= .Q3 T9
abbrev xy:q9:=p9 [i1 ZT 1]
abbrev oZ:p6:=i0 af8
abbrev U4:p6:=ld 2
abbrev Wl:q9:=Gs [s4,J7,oZ,U4,B7,J7,i0 (.D5 1 A6 D2),ld 6,i0 (.bin .neq K3 I6)] K9 oQ sk
abbrev Wm:q9:=p9 [O3,s4,O3,U0,i0 (.call 22 [D7,K3]),i0 (.D5 1 D0 A6),ld 5,os 3 5,i0 (.store 1 I6 H8)]
abbrev ag1:z6:= .un .not D7
abbrev ag2:z6:= .bin .gtr I8 G5
abbrev JX:q9:=sq (p9 [oT,i1 lz 3]) .ret
abbrev Wn:q9:=sq (p9 [i0 (.bin .eql Q0 K2),jc]) (.cond T3 sk (p9 [i0 (.bin .eql Q0 R1),jc]))
abbrev qO:p6:=i1 RO 2
abbrev Ee:q9:=p9 [qO,i1 ZT 3]
abbrev ag3:z6:= .D5 5 D0 D7
abbrev tX:z6:= .len D2
abbrev xB:z6:= .Q3 (k 5)
abbrev JY:q9:=sq (p9 [i1 xB 3]) .ret
abbrev BI:z6:= .A2 1 0 [] [] false
abbrev JZ:q9:=p9 [i1 (.alloc [z0,z0,zs]) 1]
abbrev OJ:q9:=E2 [i0 (.bin .lss W0 O2)] D0 sk (.exit 0)
abbrev Ka:q9:=p9 [qO,BZ]
abbrev ag4:z6:= .D5 1 D0 G5
abbrev OK:q9:=E2 [i0 (.bin .lss O2 R5)] D0 sk (.exit 0)
abbrev qN:z6:= .Q3 kt
abbrev Kc:q9:=sq (p9 [i1 qN 2]) .ret
abbrev Ke:q9:=sq (p9 [i1 qN 3]) .ret
abbrev ag5:z6:= .load (some 3) D0
abbrev Kf:q9:=sq (p9 [s4,lD]) .ret
abbrev aC:p6:=ms 10
abbrev Kg:q9:=p9 [aC,gG,i1 ED 10]
abbrev ag6:z6:= .bin .eql D7 K2
abbrev tY:z6:= .Q3 (k 3)
abbrev ag7:z6:= .un .not I8
abbrev kX:z6:= .Q3 T3
abbrev ag8:z6:= .D5 7 D7 I8
abbrev tZ:z6:= .load none K9
abbrev ua:z6:= .load none X5
abbrev X1:y6:=l 15
abbrev Ef:z6:= .append 1 8 false D0 D7
abbrev Eg:z6:= .append 1 8 false D0 I8
abbrev OL:q9:=p9 [i1 lz 3]
abbrev Wo:q9:=p9 [i0 (.D5 7 R5 W0),i0 (.load (some 7) D0),i1 Lc 4,i0 (.store 7 T9 D7)]
abbrev Z7:y6:=l 14
abbrev mT:z6:= .Q3 (s 8)
abbrev BJ:q9:=p9 [i1 gP 1]
abbrev um:p6:=i1 kZ 7
abbrev OM:q9:=p9 [i0 (.bin .add W0 K2),um]
abbrev ON:q9:=p9 [i0 (.bin .add O2 K2),i1 kZ 6]
abbrev kY:z6:= .len H8
abbrev Z2:y6:=s 10
abbrev Kj:q9:=p9 [uh,i1 ZT 2]
abbrev Kk:q9:=p9 [qO,eM]
abbrev BL:z6:= .bin .lss D0 I6
abbrev BM:z6:= .pick N6 X5 kf
abbrev Eh:z6:= .build [z0,z0,zs] []
abbrev Wp:q9:=E2 [i0 (.bin .eql Q0 (k 18)),Y7] D7 (sq (p9 [i1 tY 1]) .ret) sk
abbrev OO:z6:= .build [z0,z0] [(0,1,D7),(1,1,I8)]
abbrev oP:z6:= .Q3 O2
abbrev Ei:z6:= .call 22 [D0,(k 3)]
abbrev mU:z6:= .Q3 N6
abbrev OP:z6:= .A2 2 1 [z0,z0] [(0,2,I8)] false
abbrev OQ:z6:= .A2 2 1 [z0,z0] [(0,2,K3)] false
abbrev ud:q9:=sq nh .ret
abbrev Km:z6:= .Q3 (.const (.d .br))
abbrev Kn:z6:= .alloc [zs,(w 7),z0,z0]
abbrev Ej:q9:=p9 [i1 gP 8]
abbrev Ek:q9:=p9 [i1 gP 6]
abbrev Ko:q9:=p9 [F9,jc]
abbrev El:q9:=p9 [i1 ZT 2]
abbrev oR:z6:= .Q3 R5
abbrev BN:z6:= .D5 1 D0 I8
abbrev Wq:q9:=E2 [ms 12,gF] D7 (sq (p9 [ms 12,jc]) .ret) sk
abbrev BO:z6:= .load none Y3
abbrev cN:y6:=l 17
abbrev OS:q9:=sq (p9 [O3,i1 kZ 1]) .ret
abbrev Em:z6:= .load (some 2) I8
abbrev En:z6:= .bin .gtr D0 G5
abbrev Eo:z6:= .bin .add K3 H8
abbrev Ep:z6:= .bin .eql D0 K2
abbrev Er:z6:= .pick A6 I6 kf
abbrev xz:z6:= .off 1 T3
abbrev xA:z6:= .off 0 T3
abbrev BP:z6:= .load none I8
abbrev O9:p6:=ms 7
abbrev OT:q9:=p9 [O9,gG,i1 ED 7]
abbrev Kq:z6:= .alloc [zs,z0,(w 5)]
abbrev OU:q9:=p9 [i1 Li 2,BZ]
abbrev cg:y6:=l 18
abbrev gB:y6:=l 19
abbrev eD:y6:=s 11
abbrev OV:q9:=sq (p9 [i1 tY 3]) .ret
abbrev OW:q9:=sq (p9 [i1 qM 4]) .ret
abbrev Es:z6:= .load none cN
abbrev Wr:q9:=E2 [s4,i0 (.Au false D0)] D7 (sq xy .ret) sk
abbrev OX:q9:=sq (p9 [i1 JW 3]) .ret
abbrev OY:q9:=p9 [i1 RO 3,je]
abbrev Kr:q9:=p9 [i1 gP 10]
abbrev Ks:z6:= .load (some 2) O2
abbrev Kt:z6:= .load (some 2) T3
abbrev Et:z6:= .D5 2 D7 I8
abbrev Eu:z6:= .extract A6 0
abbrev Ev:z6:= .extract A6 1
abbrev BQ:q9:=sq vX .ret
abbrev Ws:q9:=E2 [F9,B7,U1,jf] K3 sk (.exit 0)
abbrev BR:z6:= .off 1 Q0
abbrev BS:z6:= .off 2 T3
abbrev BT:z6:= .off 4 V3
abbrev dO:y6:=l 20
abbrev Kv:q9:=p9 [i1 gP 7]
abbrev Kw:q9:=p9 [i1 ZT 4]
abbrev Wt:z6:= .build [z0,z0,z0,zs,z0] [(0,1,K2),(1,3,D7)]
abbrev Kx:z6:= .bin .sub H8 K2
abbrev Ky:z6:= .load (some 4) R5
abbrev BU:z6:= .Q3 R1
abbrev Wu:q9:=E2 [i0 (.bin .lss eD Z2)] D0 sk (.exit 2)
abbrev Wv:z6:= .A2 5 1 [z0,z0,z0,zs,z0] [(0,5,H8)] false
abbrev gC:y6:=l 22
abbrev gD:y6:=l 21
abbrev Ww:z6:= .A2 5 1 [z0,z0,z0,zs,z0] [(0,5,I8)] false
abbrev Kz:z6:= .load (some 7) K3
abbrev Wx:z6:= .A2 4 1 [zs,.N7,z0,z0] [(0,4,A6)] false
abbrev KA:z6:= .bin .eql I8 G5
abbrev KB:z6:= .bin .neq D7 G5
abbrev Wy:q9:=p9 [i0 (.D5 1 (s 9) eD),A1,uj]
abbrev Wz:q9:=p9 [i1 cQ 9,i1 (.len (s 9)) 10,i1 gP 11]
abbrev WA:q9:=p9 [N8,i0 (.bin .sub D0 K2),xH]
abbrev WB:z6:= .build [(w 1),(w 1)] [(0,1,D2),(1,1,K9)]
abbrev KC:z6:= .load none (l 26)
abbrev WC:y6:= .const (.d (.str [112,101,114,115,111,110]))
abbrev KE:z6:= .bin .geq D0 K3
abbrev KF:z6:= .pick K3 D2 kf
abbrev KG:z6:= .D5 1 D2 K2
abbrev Ew:z6:= .un .not K9
abbrev xC:z6:= .len Y3
abbrev xD:z6:= .Q3 Y3
abbrev lu:y6:=s 12
abbrev WD:q9:=p9 [i0 (.bin .add lu K2),i1 kZ 12]
abbrev WE:q9:=p9 [i0 (.bin .add (s 19) K2),i1 kZ 19]
abbrev WG:q9:=p9 [i0 (.bin .add (s 17) K2),i1 kZ 17]
abbrev WH:q9:=p9 [i1 cQ 4,i1 (.len T9) 5,i1 gP 6]
abbrev OZ:y6:= .const (.d (.str [116]))
abbrev Pa:y6:= .const (.d (.str [118]))
abbrev WI:q9:=sq (p9 [i0 (.call 19 []),i1 kZ 1]) .ret
abbrev WJ:q9:=p9 [i1 cQ 5,i1 (.len R5) 6,i1 gP 7]
abbrev WK:q9:=p9 [i0 (.bin .add Z2 K2),i1 kZ 10]
abbrev WL:q9:=p9 [i0 (.bin .add eD K2),i1 kZ 11]
abbrev gE:y6:=l 23
abbrev eH:y6:=k 4
abbrev KH:z6:= .Q3 eH
abbrev BV:z6:= .aU D7
abbrev KI:z6:= .D5 5 D0 G5
abbrev KJ:z6:= .load none Z7
abbrev BW:z6:= .Q3 W0
abbrev KL:z6:= .load none gB
abbrev WM:q9:=sq (p9 [B7,oT,jc]) .ret
abbrev Ey:q9:=sq GB .ret
abbrev Ez:z6:= .off 4 O2
abbrev uw:p6:=i0 af9
abbrev xJ:p6:=i1 ED 2
abbrev WN:q9:=sq (p9 [J7,uw,xJ]) .ret
abbrev KM:z6:= .D5 4 D7 I8
abbrev KN:z6:= .load none I6
abbrev xF:p6:=i1 Li 3
abbrev WO:q9:=p9 [qO,xF,i1 qM 4]
abbrev Pb:z6:= .bin .eql (l 24) G5
abbrev WQ:q9:=p9 [qO,xF,je]
abbrev Pc:z6:= .call 22 [D0,R1]
abbrev Pd:z6:= .call 22 [D7,R1]
abbrev WR:z6:= .A2 2 1 [z0,z0] [(0,2,D7)] false
abbrev KO:z6:= .extract K3 0
abbrev KP:z6:= .extract K3 1
abbrev WS:z6:= .A2 1 1 [(w 2)] [(0,1,D2)] false
abbrev WT:q9:=sq (p9 [eM,i1 lz 4]) .ret
abbrev Pe:z6:= .call 255 [D7,I8]
abbrev Pg:q9:=p9 [i1 GC 2]
abbrev Ph:q9:=p9 [i1 GD 5]
abbrev Pj:z6:= .load (some 4) T3
abbrev Pk:z6:= .pick X1 kt gB
abbrev WU:q9:=sq (p9 [i1 (.Q3 (k 7)) 4]) .ret
abbrev WV:q9:=p9 [i1 (.Q3 (.const .N7)) 1]
abbrev Pn:z6:= .call 54 [D0,D7]
abbrev WW:z6:= .A2 1 1 [z0] [(0,1,D2)] false
abbrev Po:z6:= .bin .eql D2 G5
abbrev Pp:z6:= .bin .neq H8 G5
abbrev Pr:z6:= .bin .gtr I6 G5
abbrev Pt:z6:= .load (some 2) K9
abbrev Pu:z6:= .bin .eql Y3 G5
abbrev Pv:z6:= .bin .gtr Y3 G5
abbrev KQ:z6:= .un .not Y3
abbrev Pw:z6:= .load (some 2) R5
abbrev Px:z6:= .bin .neq D2 jZ
abbrev Py:z6:= .bin .eql I8 R1
abbrev Pz:z6:= .bin .eql D0 R1
abbrev KR:q9:=sq OL .ret
abbrev PA:z6:= .pick I6 kt Z7
abbrev PB:z6:= .D5 1 W0 (s 9)
abbrev BX:z6:= .len K3
abbrev PC:z6:= .load (some 5) I8
abbrev WX:q9:=p9 [ms 13,gG,i1 ED 13]
abbrev gR:p6:=ms 11
abbrev WY:q9:=p9 [gR,gG,i1 ED 11]
abbrev PD:z6:= .load (some 2) K3
abbrev PE:z6:= .load (some 5) K3
abbrev PF:z6:= .bin .eql K3 A6
abbrev PG:z6:= .bin .geq I8 G5
abbrev PI:z6:= .store 1 H8 D2
abbrev PJ:z6:= .bin .add K2 D7
abbrev PK:z6:= .bin .add K2 I8
abbrev PL:z6:= .bin .sub I8 K2
abbrev PM:z6:= .bin .neq D0 K2
abbrev PN:z6:= .bin .eql I8 K2
abbrev PO:z6:= .pick A6 K9 kf
abbrev PR:z6:= .pick N6 X6 kf
abbrev KU:z6:= .un .not K3
abbrev KV:q9:=sq RU .ret
abbrev KW:z6:= .off 0 Q0
abbrev KX:z6:= .off 4 Q0
abbrev KY:z6:= .off 0 T9
abbrev PS:z6:= .bin .neq D0 D7
abbrev WZ:q9:=p9 [O3,gG,xJ]
abbrev PT:z6:= .D5 1 D2 H8
abbrev EB:z6:= .len I6
abbrev PU:z6:= .pick K3 kt K9
abbrev EC:z6:= .Q3 R2
abbrev PW:z6:= .store 1 K3 I8
abbrev KZ:z6:= .off 0 A6
abbrev Xa:q9:=p9 [uh,i1 GC 2]
abbrev Xb:q9:=p9 [qO,i1 GD 3]
abbrev La:z6:= .off 1 R5
abbrev Xc:q9:=sq (p9 [i1 tY 4]) .ret
abbrev Xd:q9:=sq (p9 [i1 xB 4]) .ret
abbrev Xe:q9:=sq (p9 [i1 xB 5]) .ret
abbrev Xg:q9:=sq (p9 [i1 BU 1]) .ret
abbrev PX:z6:= .load none gC
abbrev PY:z6:= .load none gD
abbrev Xh:q9:=sq (p9 [i1 KH 4]) .ret
abbrev Xi:q9:=sq (p9 [i1 KH 3]) .ret
abbrev bM:p6:=i0 ZR
abbrev lE:p6:=i0 ag1
abbrev W1:p6:=ml 3
abbrev jN:p6:=i0 aO6
abbrev jO:p6:=i0 Nf
abbrev lF:p6:=i0 aO7
abbrev oW:p6:=i0 ag7
abbrev ug:p6:=i1 cO 7
abbrev qQ:p6:=i0 ag3
abbrev qR:p6:=i0 ag0
abbrev pe:p6:=i0 aO9
abbrev xE:p6:=it mL 4
abbrev uq:p6:=i0 ag8
abbrev ur:p6:=i0 ag4
abbrev uu:p6:=i0 tX
abbrev uv:p6:=i0 ag2
abbrev mV:p6:=os 1 5
abbrev cn:p6:=ld 4
abbrev BY:p6:=if_ vY 4
abbrev qS:p6:=i0 aP0
abbrev pg:p6:=os 1 3
abbrev xM:p6:=i0 ag6
abbrev xN:p6:=i0 ag5
def Q6 (t:s6){x:s6}(h:t=x:=by dsimp only [G5,gP,D0,kZ,D7,K2,zq4,I8,ED,K3,ZT,cQ,Q0,Gw,A6,Ku,JW,O2,W0,RS,A1,xI,O3,J7,ZP,U1,eG,xG,KT,uk,Ec,au3,qM,Cz,oT,nh,s4,Kl,R5,T9,Kb,F6,jc,RU,B7,Y2,D2,lD,ya,cm,Ki,Lh,au4,Gx,vX,RO,H8,Gy,aO1,F9,gG,oS,xZ,aO2,dQ,Q5,V3,ue,fh,ah0,oV,N6,uc,R2,jZ,K9,Y3,X5,aO3,fm,mM,T3,Y7,aO8,jM,I6,dN,R1,ah1,uo,nj,au5,Nf,aO4,KS,lz,ZQ,aO5,aO6,uj,CA,RP,Lb,cO,jL,ff,au6,Lc,dm,uh,Gz,mL,GA,vY,jf,RQ,je,ux,pz,aO7,ZR,BZ,Ld,fL,J4,U0,dP,EA,qT,uf,au7,au8,eM,GB,Lf,gA,au9,Z8,ag9,qP,av0,av1,oQ,ZS,av2,GC,GD,pn,eO,Kh,oU,av3,Lg,Xj,RR,Ca,N8,xH,Ng,vZ,aO9,Nh,Ni,X6,Li,aP0,CB,CC,lG,Xk,eN,lB,gF,Wj,mS,af8,Eb,OI,af9,aJ,ah2,xL,ah3,xK,Wk,eE,qL,ag0,U2,Ed,gQ,xy,oZ,U4,Wl,Wm,ag1,ag2,JX,Wn,qO,Ee,ag3,tX,xB,JY,BI,JZ,OJ,Ka,ag4,OK,qN,Kc,Ke,ag5,Kf,aC,Kg,ag6,tY,ag7,kX,ag8,tZ,ua,X1,Ef,Eg,OL,Wo,Z7,mT,BJ,um,OM,ON,kY,Z2,Kj,Kk,BL,BM,Eh,Wp,OO,oP,Ei,mU,OP,OQ,ud,Km,Kn,Ej,Ek,Ko,El,oR,BN,Wq,BO,cN,OS,Em,En,Eo,Ep,Er,xz,xA,BP,O9,OT,Kq,OU,cg,gB,eD,OV,OW,Es,Wr,OX,OY,Kr,Ks,Kt,Et,Eu,Ev,BQ,Ws,BR,BS,BT,dO,Kv,Kw,Wt,Kx,Ky,BU,Wu,Wv,gC,gD,Ww,Kz,Wx,KA,KB,Wy,Wz,WA,WB,KC,WC,KE,KF,KG,Ew,xC,xD,lu,WD,WE,WG,WH,OZ,Pa,WI,WJ,WK,WL,gE,eH,KH,BV,KI,KJ,BW,KL,WM,Ey,Ez,uw,xJ,WN,KM,KN,xF,WO,Pb,WQ,Pc,Pd,WR,KO,KP,WS,WT,Pe,Pg,Ph,Pj,Pk,WU,WV,Pn,WW,Po,Pp,Pr,Pt,Pu,Pv,KQ,Pw,Px,Py,Pz,KR,PA,PB,BX,PC,WX,gR,WY,PD,PE,PF,PG,PI,PJ,PK,PL,PM,PN,PO,PR,KU,KV,KW,KX,KY,PS,WZ,PT,EB,PU,EC,PW,KZ,Xa,Xb,La,Xc,Xd,Xe,Xg,PX,PY,Xh,Xi,bM,lE,W1,jN,jO,lF,oW,ug,qQ,qR,pe,xE,uq,ur,uu,uv,mV,cn,BY,qS,pg,xM,xN,p9,jU,E2,Gs,k,kt,kf,z0,zs,zb,w,l,s,i0,i1,it,if_,i3,ms,ml,os,ol,ld,sq,rg,te,sk]):{ x:s6 // t=x }:=⟨x,h⟩
end Go.x9.Z


import Derived.Calls
import Derived.Below
import Derived.WalkKit
import Derived.Laws.BytesString
import Derived.Lib.Strings
import Derived.Laws.MakeOwn
set_option linter.all false
open Bool renaming and_eq_true → c7, false_eq_true → j4, not_eq_true' → o7
open List renaming cons_append → F8, getElem?_append_left → A8, getElem?_append_right → u9, getElem?_eq_getElem → n9, getElem?_set_ne → B5, getElem?_set_self → L0, length_append → k9, length_cons → p8, length_map → B9, map_cons → L8, mem_cons → B8, mem_map → L1, mem_singleton → s8, replicate → c9
open Nat renaming add_assoc → M6, beq → s7, le_refl → n5, le_trans → F9, lt_or_ge → A5
namespace Go.A2
inductive Data where
 |bool (b:Bool)
 |int (k:IntKind) (n:Int)
 |str (s:List UInt8)
 |slice (len:Nat) (cells:List Data)
 |cu
 |P5
 |dy
 |nilIface
 deriving Inhabited
inductive KD where
 |i (k:IntKind) (n:Int)
 |s (x:List UInt8)
 |b (b:Bool)
 deriving DecidableEq,Inhabited
inductive Key where
 |int (k:IntKind) (n:Int)
 |str (s:List UInt8)
 |bool (b:Bool)
 |st (l:List KD)
 deriving DecidableEq,Inhabited
inductive c8 where
 |any
 |d (x:Data)
 |ptr (id off:Nat)
 |T4 (cells:List Data)
 |B4 (id sz lo len:Nat)
 |own (sz len:Nat) (cells:List Data)
 |O2
 |agg (cells:List c8)
 |tuple (vs:List c8)
 |func (f:FuncId) (first caps:List c8)
 |map (id:Nat)
 deriving Inhabited
inductive A1 where
 |dead
 |cells (l:List c8)
 |map (es:List (Key×c8))
 deriving Inhabited
abbrev p9:=List A1
inductive y5 where
 |loc (j:Nat)
 |slot (s:Nat)
 |const (v:c8)
 deriving Inhabited
inductive CK where
 |i
 |s
 |b
 deriving DecidableEq,Inhabited
inductive KK where
 |i
 |s
 |b
 |st (ks:List CK)
 deriving DecidableEq,Inhabited
inductive x9 where
 |Q5 (x:y5)
 |pick (c a b:y5)
 |alloc (zero:List c8)
 |box (x:y5)
 |build (zero:List c8) (parts:List (Nat×Nat×y5))
 |F5 (sz len:Nat) (zero:List c8) (parts:List (Nat×Nat×y5)) (ob:Bool)
 |load (n:Option Nat) (x:y5)
 |store (n:Nat) (a x:y5)
 |aV (x:y5)
 |bin (op:BinOp) (x y:y5)
 |un (op:UnOp) (x:y5)
 |BB (neg:Bool) (x:y5)
 |s9 (neg:Bool) (x y:y5)
 |Ip (neg:Bool) (ks:List CK) (x y:y5)
 |oA (k:IntKind) (x:y5)
 |lu (x:y5)
 |aW (sz:Nat) (x:y5) (lo hi:Option y5)
 |off (k:Nat) (x:y5)
 |N8 (sz:Nat) (x i:y5)
 |gG (n sz:Nat) (x i:y5)
 |I9 (x i:y5)
 |extract (x:y5) (i:Nat)
 |len (x:y5)
 |W5 (x:y5)
 |append (sz bytes:Nat) (ob:Bool) (x y:y5)
 |rJ (x:Data)
 |own (sz:Nat) (x:y5)
 |iU (isMax:Bool) (xs:List y5)
 |clear (sz:Nat) (zero:List c8) (x:y5)
 |aT (f:FuncId) (first caps:List y5)
 |call (f:FuncId) (xs:List y5)
 |aO (x:y5) (xs:List y5)
 |makeMap
 |lookup (kk:KK) (zero:c8) (ok:Bool) (m k:y5)
 |eu (kk:KK) (m k v:y5)
 |defer (x:y5)
 |bad
 deriving Inhabited
structure o9 where
 op:x9
 dst:Option Nat:=none
 guard:Option (Nat×Bool):=none
 cD:List Nat:=[]
 deriving Inhabited
inductive q6 where
 |skip
 |region (ops:List o9) (draw:Bool)
 |seq (a b:q6)
 |cond (c:y5) (thn els:q6)
 |test (ops:List o9) (draw:Bool) (c:y5) (thn els:q6)
 |block (id:Nat) (body:q6)
 |loop (mask:List Bool) (body:q6)
 |exit (id:Nat)
 |ret
 |fz (s:Nat)
 |bad
 deriving Inhabited
inductive Dn where
 |slot (s:Nat)
 |cell (s:Nat) (n:Option Nat)
 deriving Inhabited
structure q9 where
 nparams:Nat
 names:List Nat
 body:q6
 results:List Dn
 aK:Bool:=false
 deriving Inhabited
def c8.J3:c8->c8
 | .own _ len cells=> .d (.slice len cells)
 | .O2=> .d (.slice 0 [])
 |v=>v
def c8.one:c8->Bool
 | .any=>false
 | .agg _=>false
 | .tuple _=>false
 |_=>true
def c8.cells? :c8->Option (List c8)
 | .agg l=>if l.all c8.one then some l else none
 |v=>if v.one then some [v] else none
def c8.data? :c8->Option Data
 | .d x=>some x
 | .own _ len cells=>some (.slice len cells)
 | .O2=>some (.slice 0 [])
 |_=>none
def O0 :List c8->Option (List Data)
 |[]=>some []
 |v::vs=>match v.data? with
  |some x=>match O0 vs with
   |some xs=>some (x::xs)
   |none=>none
  |none=>none
mutual
def c8.O5:c8->Nat
 | .ptr id _=>id+1
 | .B4 id _ _ _=>id+1
 | .map id=>id+1
 | .agg l=>C5 l
 | .tuple l=>C5 l
 | .func _ a b=>max (C5 a) (C5 b)
 |_=>0
def C5:List c8->Nat
 |[]=>0
 |v::vs=>max v.O5 (C5 vs)
end
mutual
def c8.kill (id:Nat):c8->c8
 | .ptr i o=>if i=id then .any else .ptr i o
 | .B4 i z l n=>if i=id then .any else .B4 i z l n
 | .map i=>if i=id then .any else .map i
 | .agg l=> .agg (I6 id l)
 | .tuple l=> .tuple (I6 id l)
 | .func f a b=> .func f (I6 id a) (I6 id b)
 |v=>v
def I6 (id:Nat):List c8->List c8
 |[]=>[]
 |v::vs=>v.kill id::I6 id vs
end
def A1.O5:A1->Nat
 | .dead=>0
 | .cells l=>C5 l
 | .map es=>C5 (es.map (·.2))
def ah:List A1->Nat->Bool
 |[],_=>true
 |o::os,k=>o.O5<=k+1&&ah os (k+1)
def Z9:List A1->Nat
 |[]=>0
 |o::os=>max o.O5 (Z9 os)
def A1.kill (id:Nat):A1->A1
 | .dead=> .dead
 | .cells l=> .cells (I6 id l)
 | .map es=> .map (es.map fun p=>(p.1,p.2.kill id))
def rd (H:p9)(id off n:Nat):Option (List c8) :=
 match H[id]? with
 |some (.cells l)=>if off+n<=l.length then some ((l.drop off).take n) else none
 |_=>none
def splice (l:List c8)(off:Nat)(vs:List c8):List c8:=l.take off++vs++l.drop (off+vs.length)
def wr (H:p9)(id off:Nat)(vs:List c8):Option p9 :=
 match H[id]? with
 |some (.cells l)=>if off+vs.length<=l.length then some (H.set id (.cells (splice l off vs))) else none
 |_=>none
def i64 (n:Int):c8:= .d (.int .i64 n)
def cq (op:BinOp)(k:IntKind)(a b:Int):Option Data :=
 match op with
 | .add=>some (.int k (k.wrap (a+b)))
 | .sub=>some (.int k (k.wrap (a - b)))
 | .mul=>some (.int k (k.wrap (a * b)))
 | .quo=>if b=0 then none else some (.int k (k.wrap (a.tdiv b)))
 | .rem=>if b=0 then none else some (.int k (a.tmod b))
 | .and=>some (.int k (k.wrap (BitVec.ofInt k.bits a&&&BitVec.ofInt k.bits b).toNat))
 | .or=>some (.int k (k.wrap (BitVec.ofInt k.bits a|||BitVec.ofInt k.bits b).toNat))
 | .xor=>some (.int k (k.wrap (BitVec.ofInt k.bits a ^^^ BitVec.ofInt k.bits b).toNat))
 | .eql=>some (.bool (a==b))
 | .neq=>some (.bool (a != b))
 | .lss=>some (.bool (a<b))
 | .leq=>some (.bool (a<=b))
 | .gtr=>some (.bool (a>b))
 | .geq=>some (.bool (a≥b))
 |_=>none
def Ar (op:BinOp)(k:IntKind)(a b:Int):Option Data :=
 if b<0 then none else
 match op with
 | .shl=>some (.int k (k.wrap (a * 2 ^ (min b.toNat k.bits))))
 | .shr=>some (.int k (a.fdiv (2 ^ (min b.toNat k.bits))))
 |_=>none
def wq (op:BinOp)(a b:List UInt8):Option Data :=
 match op with
 | .add=>if a.length+b.length<4611686018427387904 then some (.str (a++b)) else none
 | .eql=>some (.bool (a==b))
 | .neq=>some (.bool (!(a==b)))
 | .lss=>some (.bool (Op.bytesLess a b))
 | .leq=>some (.bool (Op.bytesLess a b||a==b))
 | .gtr=>some (.bool (!(Op.bytesLess a b||a==b)))
 | .geq=>some (.bool (!(Op.bytesLess a b)))
 |_=>none
def ak:BinOp->Bool
 | .shl=>true
 | .shr=>true
 |_=>false
def P4 (op:BinOp):Data->Data->Option Data
 | .int k a,.int k' b=>if ak op then Ar op k a b else if k=k' then cq op k a b else none
 | .str a,.str b=>wq op a b
 |_,_=>none
def Cu (op:UnOp):Data->Option Data
 | .int k n=>match op with
  | .neg=>some (.int k (k.wrap (0 - n)))
  |_=>none
 | .bool b=>match op with
  | .not=>some (.bool (!b))
  |_=>none
 |_=>none
def cg (cells:List c8):List (Nat×Nat×c8)->Option (List c8)
 |[]=>some cells
 |(off,sz,v)::rest=>match v.cells? with
  |some l=>if l.length=sz/\off+sz<=cells.length then cg (splice cells off l) rest else none
  |none=>none
def iw :List Data->Option (List UInt8)
 |[]=>some []
 | .int .u8 n::r=>match iw r with
  |some bs=>some (UInt8.ofNat n.toNat::bs)
  |none=>none
 |_=>none
def zS (isMax:Bool)(a b:Data):Option Data :=
 match a,b with
 | .int k x,.int _ y=>some (.int k (if isMax then (if y>x then y else x) else (if y<x then y else x)))
 |_,_=>none
def fN (isMax:Bool):Data->List c8->Option Data
 |a,[]=>some a
 |a,.d b::r=>match zS isMax a b with
  |some c=>fN isMax c r
  |none=>none
 |_,_=>none
def Data.Gu:CK->Data->Data->Option Bool
 | .i,.int k a,.int k' b=>if k=k' then some (a==b) else none
 | .s,.str a,.str b=>some (a==b)
 | .b,.bool a,.bool b=>some (a==b)
 |_,_,_=>none
def Q9:List CK->List c8->List c8->Option Bool
 |[],[],[]=>some true
 |k::ks,.d a::r,.d b::q=>match Data.Gu k a b with
  |some t=>match Q9 ks r q with
   |some u=>some (t&&u)
   |none=>none
  |none=>none
 |_,_,_=>none
def KD.av:KD->c8
 | .i k n=> .d (.int k n)
 | .s x=> .d (.str x)
 | .b t=> .d (.bool t)
def NI :List c8->Option (List KD)
 |[]=>some []
 | .d (.int k n)::vs=>match NI vs with
  |some r=>some (.i k n::r)
  |none=>none
 | .d (.str x)::vs=>match NI vs with
  |some r=>some (.s x::r)
  |none=>none
 | .d (.bool t)::vs=>match NI vs with
  |some r=>some (.b t::r)
  |none=>none
 |_=>none
def c8.NJ :c8->Option Key
 | .d (.int k n)=>some (.int k n)
 | .d (.str s)=>some (.str s)
 | .d (.bool b)=>some (.bool b)
 | .agg l=>match NI l with
  |some r=>some (.st r)
  |none=>none
 |_=>none
def Data.fI:KK->Key->Key->Option Bool
 | .i,.int k a,.int k' b=>if k=k' then some (a==b) else none
 | .s,.str a,.str b=>some (a==b)
 | .b,.bool a,.bool b=>some (a==b)
 | .st ks,.st l,.st m=>Q9 ks (l.map KD.av) (m.map KD.av)
 |_,_,_=>none
def KK.fits (kk:KK)(k:Key):Bool:=match kk,k with
 | .st ks,.st l=>(Q9 ks (l.map KD.av) (l.map KD.av)).isSome
 | .st _,_=>false
 |_,_=>true
def dZ (kk:KK)(k:Key):List (Key×c8)->Option (Option c8)
 |[]=>some none
 |(k',v)::r=>match Data.fI kk k k' with
  |some true=>some (some v)
  |some false=>dZ kk k r
  |none=>none
def gJ (kk:KK)(k:Key)(v:c8):List (Key×c8)->Option (List (Key×c8))
 |[]=>some [(k,v)]
 |(k',v')::r=>match Data.fI kk k k' with
  |some true=>some ((k,v)::r)
  |some false=>match gJ kk k v r with
   |some r' =>some ((k',v')::r')
   |none=>none
  |none=>none
def X4 (ρ:y5->c8)(dflt:Nat):Option y5->Option Int
 |none=>some dflt
 |some x=>match ρ x with
  | .d (.int _ n)=>some n
  |_=>none
def O7 (H:p9)(sz:Nat):c8->Option (Nat×List c8)
 | .d (.slice len cells)=>if cells.length=len * sz then some (len,cells.map .d) else none
 | .own z len cells=>if z=sz then some (len,cells.map .d) else none
 | .B4 id z lo len=>if z=sz then match rd H id lo (len * sz) with
   |some cs=>some (len,cs.map c8.J3)
   |none=>none
  else none
 | .d (.str s)=>if sz=1 then some (s.length,s.map fun b=> .d (.int .u8 b.toNat)) else none
 |_=>none
def o6 (ρ:y5->c8)(H:p9):x9->Option (c8×List Nat)
 | .pick c a b=>match ρ c with
  | .d (.bool t)=>some (if t then ρ a else ρ b,[])
  |_=>none
 | .build zero parts=>match cg zero (parts.map fun (o,s,x)=>(o,s,ρ x)) with
  |some cs=>some (.agg cs,[])
  |none=>none
 | .F5 sz len zero parts false=>match cg zero (parts.map fun (o,s,x)=>(o,s,ρ x)) with
  |some cs=>match O0 cs with
   |some xs=>if 0<sz/\xs.length=len * sz then some (.own sz len xs,[]) else none
   |none=>none
  |none=>none
 | .load none x=>match ρ x with
  | .ptr id off=>match rd H id off 1 with
   |some [v]=>some (v.J3,[id])
   |_=>none
  | .T4 (c::_)=>some (.d c,[])
  |_=>none
 | .load (some n) x=>match ρ x with
  | .ptr id off=>match rd H id off n with
   |some vs=>some (.agg (vs.map c8.J3),[id])
   |none=>none
  | .T4 cells=>if n<=cells.length then some (.agg ((cells.take n).map .d),[]) else none
  |_=>none
 | .aV x=>match ρ x with
  | .ptr id off=>some (.ptr id off,[])
  | .T4 cells=>some (.T4 cells,[])
  | .func f a b=>some (.func f a b,[])
  |_=>none
 | .bin op x y=>match ρ x,ρ y with
  | .d a,.d b=>match P4 op a b with
   |some r=>some (.d r,[])
   |none=>none
  |_,_=>none
 | .s9 neg x y=>match ρ x,ρ y with
  | .d (.bool a),.d (.bool b)=>some (.d (.bool (neg != (a==b))),[])
  |_,_=>none
 | .Ip neg ks x y=>match ρ x,ρ y with
  | .agg a,.agg b=>match Q9 ks a b with
   |some t=>some (.d (.bool (neg != t)),[])
   |none=>none
  |_,_=>none
 | .un op x=>match ρ x with
  | .d a=>match Cu op a with
   |some r=>some (.d r,[])
   |none=>none
  |_=>none
 | .BB neg x=>match ρ x with
  | .d (.slice len _)=>if 0<len then some (.d (.bool neg),[]) else none
  | .B4 _ _ _ _=>some (.d (.bool neg),[])
  |_=>none
 | .oA k x=>match ρ x with
  | .d (.int _ n)=>some (.d (.int k (k.wrap n)),[])
  |_=>none
 | .lu x=>match ρ x with
  | .d (.slice len cells)=>if cells.length=len then match iw cells with
    |some bs=>some (.d (.str bs),[])
    |none=>none
   else none
  |_=>none
 | .aW sz x lo hi=>match ρ x with
  | .d (.slice len cells)=>match X4 ρ 0 lo,X4 ρ len hi with
   |some l,some h=>if 0<=l/\l<=h/\h<=len/\cells.length=len * sz then
     some (.d (.slice (h - l).toNat ((cells.take (h.toNat * sz)).drop (l.toNat * sz))),[]) else none
   |_,_=>none
  | .B4 id z a len=>match X4 ρ 0 lo,X4 ρ len hi with
   |some l,some h=>if 0<=l/\l<=h/\h<=len/\z=sz then
     if l=h then some (.d (.slice 0 []),[]) else some (.B4 id sz (a+l.toNat * sz) (h - l).toNat,[]) else none
   |_,_=>none
  |_=>none
 | .off k x=>match ρ x with
  | .ptr id off=>some (.ptr id (off+k),[])
  | .T4 cells=>some (.T4 (cells.drop k),[])
  |_=>none
 | .N8 sz x i=>match ρ x,ρ i with
  | .d (.slice len cells),.d (.int _ i)=>if 0<=i/\i<len then some (.T4 (cells.drop (i.toNat * sz)),[]) else none
  | .B4 id z lo len,.d (.int _ i)=>if 0<=i/\i<len/\z=sz then some (.ptr id (lo+i.toNat * sz),[]) else none
  |_,_=>none
 | .gG n sz x i=>match ρ x,ρ i with
  | .ptr id off,.d (.int _ i)=>if 0<=i/\i<n then some (.ptr id (off+i.toNat * sz),[]) else none
  | .T4 cells,.d (.int _ i)=>if 0<=i/\i<n then some (.T4 (cells.drop (i.toNat * sz)),[]) else none
  |_,_=>none
 | .I9 x i=>match ρ x,ρ i with
  | .d (.str s),.d (.int _ i)=>if 0<=i then match s[i.toNat]? with
    |some b=>some (.d (.int .u8 b.toNat),[])
    |none=>none
   else none
  |_,_=>none
 | .extract x i=>match ρ x with
  | .tuple vs=>match vs[i]? with
   |some v=>some (v,[])
   |none=>none
  |_=>none
 | .len x=>match ρ x with
  | .d (.slice len _)=>some (i64 len,[])
  | .B4 _ _ _ len=>some (i64 len,[])
  |_=>none
 | .W5 x=>match ρ x with
  | .d (.str s)=>some (i64 s.length,[])
  |_=>none
 | .iU isMax xs=>match xs.map ρ with
  | .d a::r=>match fN isMax a r with
   |some c=>some (.d c,[])
   |none=>none
  |_=>none
 | .aT f first caps=>some (.func f (first.map ρ) (caps.map ρ),[])
 | .lookup kk zero ok m k=>match ρ m,(ρ k).NJ with
  | .map id,some key=>match H[id]? with
   |some (.map es)=>match dZ kk key es,kk.fits key with
    |some r,true=>some (if ok then .tuple [r.getD zero,.d (.bool r.isSome)] else r.getD zero,[id])
    |_,_=>none
   |_=>none
  | .d .dy,some key=>match Data.fI kk key key with
   |some true=>some (if ok then .tuple [zero,.d (.bool false)] else zero,[])
   |_=>none
  |_,_=>none
 |_=>none
inductive Touch where
 |slot (s:Nat)
 |obj (id:Nat)
 |cell (id off:Nat)
 |below (n:Nat)
 deriving Inhabited
structure H6 where
 T:List c8
 H:p9
 L:List c8
 p7:List Touch
def Touch.U9 (s:Nat):Touch->Bool
 | .slot t=>t==s
 |_=>false
def Touch.L4 (id:Nat):Touch->Bool
 | .obj i=>i==id
 | .below n=>id<n
 |_=>false
def Touch.cF (id off:Nat):Touch->Bool
 | .obj i=>i==id
 | .cell i o=>i==id&&o==off
 | .below n=>id<n
 |_=>false
def c8.SU:c8->c8
 | .O2=> .O2
 |v=>v.J3
def J2 (T L:List c8):y5->c8
 | .loc j=>(L.getD j .any).J3
 | .slot s=>(T.getD s .any).J3
 | .const v=>v.SU
def bJ (st:H6):y5->Option (Nat×Nat)
 | .loc m=>match st.L[m]? with
  |some (.ptr id off)=>some (id,off)
  |_=>none
 | .slot s=>if st.p7.any (Touch.U9 s) then none else match st.T[s]? with
  |some (.ptr id off)=>some (id,off)
  |_=>none
 | .const _=>none
structure H7 where
 VD:Nat
 Vu:Nat
 base:Nat
 strict:Nat
def H7.may (l:H7)(id:Nat):Bool:=decide (id<l.VD)||decide (l.Vu<=id)
def H7.pG (l:H7)(a b base strict:Nat):H7 :=
 if l.Vu<=l.VD then ⟨a,b,base,strict⟩ else ⟨min l.VD a,max l.Vu b,base,strict⟩
def X5 (l:H7)(st:H6)(sz:Nat):x9->Option (Nat×List Data×H6)
 | .Q5 (.slot s) =>
  if st.p7.any (Touch.U9 s) then none else
  match st.T[s]? with
  |some (.own z len cells)=>if z=sz then some (len,cells,{ st with T:=st.T.set s (.d (.slice len cells)),p7:= .slot s::st.p7 }) else none
  |_=>none
 | .load none x =>
  match bJ st x with
  |some (id,off) =>
   if st.p7.any (Touch.cF id off)|| !l.may id then none else
   match st.H[id]? with
   |some (.cells cs) =>
    match cs[off]? with
    |some (.own z len cells)=>if z=sz then some (len,cells,{ st with H:=st.H.set id (.cells (cs.set off (.d (.slice len cells)))),p7:= .cell id off::st.p7 }) else none
    |_=>none
   |_=>none
  |none=>none
 |_=>none
def Q3 (l:H7)(l5:List o9)(st:H6)(sz:Nat):y5->Option (Nat×List Data×H6)
 | .const (.own z len cells)=>if z=sz then some (len,cells,st) else none
 | .const _=>none
 | .slot _=>none
 | .loc j =>
  match st.L[j]? with
  |some (.own z len cells)=>if z=sz then some (len,cells,{ st with L:=st.L.set j (.d (.slice len cells)) }) else none
  |some (.d (.slice _ _))=>match l5[j]? with
   |some a=>X5 l st sz a.op
   |none=>none
  |_=>none
def roomFor (n bytes:Nat):Bool:=decide ((2 * n+512) * bytes<=281474976710656)
abbrev tU:=FuncId->List c8->p9->H7->Option (c8×p9)
def put (st:H6)(k:Nat)(v:c8):H6:={ st with L:=st.L.set k v }
def D8 (st:H6):y5->c8×H6
 | .loc j=>match st.L[j]? with
  |some (.own z len cells)=>(.own z len cells,{ st with L:=st.L.set j (.d (.slice len cells)) })
  |some .O2=>(.O2,st)
  |_=>(J2 st.T st.L (.loc j),st)
 | .const v=>(v,st)
 | .slot s=>(J2 st.T st.L (.slot s),st)
structure Env where
 cf:tU
 prom:FuncId->Bool
 mode:FuncId->Nat
 idle:FuncId->Bool
 lim:H7
 entry:Nat
def F6 (H:p9)(strict:Nat):Nat->Nat->Nat
 |0,n=>n
 |k+1,n=>if n<=strict then n else
  let m:=max n (Z9 ((H.take n).drop strict))
  if m=n then n else F6 H strict k m
def F7 (H:p9)(strict n:Nat):Nat :=
 if n<=strict then n else if ah ((H.take n).drop strict) strict then n else strict
def D0 (E:Env)(k:Nat)(f:FuncId)(args:List c8)(st:H6):Option H6 :=
 if E.prom f then
  match E.cf f args st.H E.lim with
  |some (v,H1)=>if st.H.length<=H1.length then some (put { st with H:=H1,p7:= .below H1.length::st.p7 } k v) else none
  |none=>none
 else
  let n:=F6 st.H E.lim.strict 8 (C5 args)
  if n<=st.H.length/\Z9 ((st.H.take n).drop E.lim.strict)<=n then
   match E.mode f with
   |0=>match E.cf f args (st.H.take n) { E.lim with base:=n,strict:=F7 st.H E.lim.strict n } with
    |some (v,H1)=>if H1.length=n then some (put { st with H:=H1++st.H.drop n,p7:= .below n::st.p7 } k v) else none
    |none=>none
   |1=>match E.cf f args (st.H.take n) ⟨0,n,n,F7 st.H E.lim.strict n⟩ with
    |some (v,H1)=>if H1.length=n then some (put st k v) else none
    |none=>none
   |_ =>
    let m:=(args.headD .any).O5
    match E.cf f args (st.H.take n) (E.lim.pG m n n (F7 st.H E.lim.strict n)) with
    |some (v,H1)=>if H1.length=n/\m<=n then some (put { st with H:=H1.take m++st.H.drop m,p7:= .below m::st.p7 } k v) else none
    |none=>none
  else none
def newId (st:H6)(z7:Option Nat):Nat:=z7.getD st.H.length
def M4 (st:H6)(z7:Option Nat)(o:A1):H6 :=
 match z7 with
 |none=>{ st with H:=st.H++[o] }
 |some i=>{ st with H:=st.H.set i o }
def S4 (E:Env)(k n:Nat)(st:H6)(a:c8)(x:y5):Option H6 :=
 match a with
 | .ptr id off =>
  match (D8 st x).1.cells? with
  |some l =>
   if l.length=n/\E.lim.may id/\(C5 l<=id+1\/(E.lim.base<=id/\E.lim.strict<=id)) then
    match wr (D8 st x).2.H id off l with
    |some H' =>some (put { (D8 st x).2 with H:=H',p7:= .obj id::(D8 st x).2.p7 } k .any)
    |none=>none
   else none
  |none=>none
 |_=>none
def U0 (E:Env)(k sz bytes:Nat)(st:H6)(id lo len:Nat)(y:c8):Option H6 :=
 if E.lim.base<=id/\E.entry<=id/\E.lim.may id then
  match st.H[id]?,O7 st.H sz y with
  |some (.cells l),some (m,cs) =>
   if lo=0/\len * sz=l.length/\roomFor (len+m) bytes/\C5 cs<=id/\cs.all c8.one/\0<sz then
    some (put { T:=I6 id st.T,H:=(st.H.take E.lim.base++(st.H.drop E.lim.base).map (A1.kill id)).set id (.cells (I6 id l++cs)),L:=I6 id st.L,p7:= .obj id::st.p7 } k (.B4 id sz lo (len+m)))
   else none
  |_,_=>none
 else none
def pU (l:H7)(st:H6):x9->Bool
 | .Q5 (.slot s)=> !st.p7.any (Touch.U9 s)&&(match st.T[s]? with
  |some .O2=>true
  |_=>false)
 | .load none x =>
  match bJ st x with
  |some (id,off)=> !st.p7.any (Touch.cF id off)&&l.may id&&(match st.H[id]? with
   |some (.cells cs)=>(match cs[off]? with
    |some .O2=>true
    |_=>false)
   |_=>false)
  |none=>false
 |_=>false
def isNil (l:H7)(l5:List o9)(st:H6):y5->Bool
 | .const .O2=>true
 | .loc j=>match st.L[j]? with
  |some .O2=>true
  |some (.d (.slice _ _))=>match l5[j]? with
   |some a=>pU l st a.op
   |none=>false
  |_=>false
 |_=>false
def O4 (E:Env)(l5:List o9)(z7:Option Nat)(k sz bytes:Nat)(ob:Bool)(st:H6)(x:y5)(y:c8):Option H6 :=
 match O7 st.H sz y with
 |some (m,cs) =>
  if ob then
   if isNil E.lim l5 st x/\roomFor m bytes/\0<sz then
    if m=0 then some (put st k .O2)
    else some (put (M4 st z7 (.cells cs)) k (.B4 (newId st z7) sz 0 m))
   else none
  else
   match O0 cs with
   |some new =>
    match Q3 E.lim l5 st sz x with
    |some (len,cells,st') =>
     if roomFor (len+m) bytes/\0<sz then some (put st' k (.own sz (len+m) (cells++new))) else none
    |none=>none
   |none=>none
 |none=>none
def Y4 (E:Env)(k sz:Nat)(zero:List c8)(st:H6):c8->Option H6
 | .B4 id z lo len =>
  if z=sz/\zero.length=sz/\C5 zero=0/\E.lim.may id then
   match wr st.H id lo ((c9 len zero).flatten) with
   |some H' =>some (put { st with H:=H',p7:= .obj id::st.p7 } k (.tuple []))
   |none=>none
  else none
 | .d (.slice 0 _)=>some (put st k (.tuple []))
 |_=>none
def V4 (E:Env)(k:Nat)(kk:KK)(st:H6)(m key v:c8):Option H6 :=
 match m,key.NJ with
 | .map id,some kd=>match st.H[id]? with
  |some (.map es) =>
   if v.O5<=id+1/\E.lim.may id then
    match Data.fI kk kd kd with
    |some true=>match gJ kk kd v es with
     |some es' =>some (put { st with H:=st.H.set id (.map es'),p7:= .obj id::st.p7 } k .any)
     |none=>none
    |_=>none
   else none
  |_=>none
 |_,_=>none
def F3 (E:Env)(l5:List o9)(z7:Option Nat)(k:Nat)(st:H6):x9->Option H6
 | .alloc zero=>some (put (M4 st z7 (.cells zero)) k (.ptr (newId st z7) 0))
 | .box x=>match (J2 st.T st.L x).cells? with
  |some l=>some (put (M4 st z7 (.cells l)) k (.ptr (newId st z7) 0))
  |none=>none
 | .makeMap=>some (put (M4 st z7 (.map [])) k (.map (newId st z7)))
 | .rJ x=>some (put st k (.d x))
 | .own sz x=>match Q3 E.lim l5 st sz x with
  |some (len,cells,st')=>some (put st' k (.own sz len cells))
  |none=>none
 | .F5 sz len zero parts true=>match cg zero (parts.map fun (o,s,x)=>(o,s,J2 st.T st.L x)) with
  |some cs=>if 0<sz/\cs.length=len * sz then some (put (M4 st z7 (.cells cs)) k (.B4 (newId st z7) sz 0 len)) else none
  |none=>none
 | .store n a x=>S4 E k n st (J2 st.T st.L a) x
 | .append sz bytes ob x y =>
  match J2 st.T st.L x with
  | .B4 id z lo len=>if z=sz then U0 E k sz bytes st id lo len (J2 st.T st.L y) else none
  |_=>O4 E l5 z7 k sz bytes ob st x (J2 st.T st.L y)
 | .clear sz zero x=>Y4 E k sz zero st (J2 st.T st.L x)
 | .call f xs=>D0 E k f (xs.map (J2 st.T st.L)) st
 | .aO x xs=>match J2 st.T st.L x with
  | .func f first caps=>D0 E k f (first++xs.map (J2 st.T st.L)++caps) st
  |_=>none
 | .eu kk m key v=>V4 E k kk st (J2 st.T st.L m) (J2 st.T st.L key) (J2 st.T st.L v)
 | .defer x=>match J2 st.T st.L x with
  | .func f _ _=>if E.idle f then some (put st k .any) else none
  |_=>none
 |_=>none
def x9.D9:x9->Bool
 | .alloc _=>true
 | .box _=>true
 | .makeMap=>true
 | .F5 _ _ _ _ b=>b
 | .store .. =>true
 | .append .. =>true
 | .call .. =>true
 | .aO .. =>true
 | .eu .. =>true
 | .clear .. =>true
 | .defer _=>true
 | .rJ _=>true
 | .own .. =>true
 |_=>false
def G5 (st:H6)(k:Nat):Option Nat->Option H6
 |none=>some st
 |some s =>
  if s<st.T.length then
   some { (D8 st (.loc k)).2 with T:=st.T.set s (D8 st (.loc k)).1,p7:= .slot s::st.p7 }
  else none
def X6 (st:H6)(k:Nat):Option Nat->Option H6
 |none=>some st
 |some s =>
  if s<st.T.length&&st.p7.any (Touch.U9 s) then
   some { (D8 st (.loc k)).2 with T:=st.T.set s (D8 st (.loc k)).1 }
  else none
def y4 (z7:Option Nat)(st:H6)(k:Nat)(dst:Option Nat):Option H6 :=
 match z7 with
 |none=>G5 st k dst
 |some _=>X6 st k dst
def z8 (L:List c8):Option (Nat×Bool)->Option Bool
 |none=>some true
 |some (j,want)=>match L[j]? with
  |some (.d (.bool b))=>some (b==want)
  |some (.tuple [])=>some false
  |_=>none
def E2 (E:Env)(l5:List o9)(z7:Option Nat)(k:Nat)(op:x9)(st:H6):Option (H6×List Nat) :=
 if op.D9 then
  match F3 E l5 z7 k st op with
  |some st' =>some (st',[])
  |none=>none
 else
  match op with
  | .Q5 x=>some (put (D8 st x).2 k (D8 st x).1,[])
  |op=>match o6 (J2 st.T st.L) st.H op with
   |some (v,rs)=>some (put st k v,rs)
   |none=>none
def z6 (E:Env)(l5:List o9)(z7:Option Nat)(k:Nat)(i:o9)(st:H6):Option (H6×List Nat) :=
 match z8 st.L i.guard with
 |some true =>
  match E2 E l5 z7 k i.op st with
  |some (st',rs)=>match y4 z7 st' k i.dst with
   |some st2=>some (st2,rs)
   |none=>none
  |none=>none
 |some false=>match y4 z7 (put st k (.tuple [])) k i.dst with
  |some st2=>some (st2,[])
  |none=>none
 |none=>none
def fQ (E:Env)(l5:List o9):List o9->Nat->H6->Option H6
 |[],_,st=>some st
 |i::is,k,st=>match z6 E l5 none k i st with
  |some (st',_)=>fQ E l5 is (k+1) st'
  |none=>none
def x9.B6:x9->Bool
 | .alloc _=>true
 | .box _=>true
 | .makeMap=>true
 | .F5 _ _ _ _ ob=>ob
 | .append _ _ ob _ _=>ob
 | .rJ _=>true
 |_=>false
def x9.makes:x9->Bool
 | .rJ _=>false
 |op=>op.B6
def K0 (hs:List Touch)(rs:List Nat):Bool:=hs.any fun t=>rs.any fun id=>t.L4 id
structure lZ where
 reads:List Nat
 JB:List Touch
 HB:Nat
 id:Nat
def L5 (E:Env)(st:H6):x9->Nat
 | .call f xs=>if E.prom f then st.H.length else F6 st.H E.lim.strict 8 (C5 (xs.map (J2 st.T st.L)))
 | .aO x xs=>match J2 st.T st.L x with
  | .func f first caps=>if E.prom f then st.H.length else F6 st.H E.lim.strict 8 (C5 (first++xs.map (J2 st.T st.L)++caps))
  |_=>0
 |_=>0
def I5 (st:H6):x9->Bool
 | .append _ _ _ x _=>match J2 st.T st.L x with
  | .B4 _ _ _ _=>true
  |_=>false
 |_=>false
def nY:Option Nat->List Touch
 |some n=>[.obj n]
 |none=>[]
def eO (E:Env)(i:o9)(z7:Option Nat)(st st' :H6)(rs:List Nat):lZ :=
 ⟨rs,nY z7++st'.p7.take (st'.p7.length - st.p7.length),L5 E st i.op,z7.getD 0⟩
def calm (st:H6)(op:x9)(a:o9):Bool:=match op,a.op with
 | .append _ _ _ x _,.Q5 (.slot s)=>a.dst.isNone&&a.guard.isNone&&(match J2 st.T st.L x,st.T[s]? with
  | .B4 id _ _ _,some (.ptr j _)=> !s7 j id
  |_,_=>false)
 |_,_=>false
def kL (E:Env)(l5:List o9)(z7:Option Nat)(k:Nat)(i:o9)(st:H6):Option (H6×lZ) :=
 if I5 st i.op&&l5.any (fun a=>a.cD.contains k&& !calm st i.op a) then none else
 match z6 E l5 z7 k i st with
 |some (st',rs)=>some (st',eO E i z7 st st' rs)
 |none=>none
def T3 (E:Env)(l5:List o9):List o9->Nat->Nat->H6->Option (H6×List lZ)
 |[],_,_,st=>some (st,[])
 |i::is,k,na,st=>match kL E l5 (if i.op.B6 then some na else none) k i st with
  |some (st',l) =>
   match T3 E l5 is (k+1) (if i.op.B6 then na+1 else na) st' with
   |some (st2,lg)=>some (st2,l::lg)
   |none=>none
  |none=>none
def ym (l5:List o9)(lg:List lZ):Bool :=
 (l5.zip lg).all fun (i,l)=>i.cD.all fun e=>match lg[e]? with
  |some le=> !K0 le.JB l.reads&&(!i.op.makes||decide (le.HB<=l.id))
  |none=>false
def aN (l5:List o9):p9:=(l5.filter (·.op.B6)).map fun _=> .dead
def slotsOf (l5:List o9):List Touch:=l5.filterMap fun i=>if i.op.B6 then i.dst.map .slot else none
def S2 (E:Env)(l5:List o9)(draw:Bool)(T:List c8)(H:p9):Option H6 :=
 if draw then
  match T3 E l5 l5 0 H.length ⟨T,H++aN l5,c9 l5.length .any,slotsOf l5⟩ with
  |some (st,lg)=>if ym l5 lg then some st else none
  |none=>none
 else fQ E l5 l5 0 ⟨T,H,c9 l5.length .any,[]⟩
inductive G7 where
 |normal
 |exit (id:Nat)
 |ret
 deriving Inhabited
structure St where
 T:List c8
 H:p9
def X1:List Bool->List c8->List c8
 |true::m,v::vs=>v::X1 m vs
 |false::m,_::vs=> .any::X1 m vs
 |[],_::vs=> .any::X1 [] vs
 |_,[]=>[]
def clean (mask:List Bool)(strict n:Nat)(st:St):St :=
 if C5 (X1 mask st.T)<=n/\Z9 ((st.H.take n).drop strict)<=n then ⟨X1 mask st.T,st.H.take n⟩ else ⟨X1 mask st.T,st.H⟩
def iE (body:St->Option (G7×St))(mask:List Bool)(strict n:Nat):Nat->St->Option (G7×St)
 |0,_=>none
 |k+1,st=>match body (clean mask strict n st) with
  |some (.normal,st')=>iE body mask strict n k st'
  |r=>r
def eS:List c8->Nat->Option (Nat×Nat×Nat×Nat×Nat)
 |[],_=>none
 | .B4 id sz lo len::_,i=>some (i,id,sz,lo,len)
 |_::r,i=>eS r (i+1)
def uw (lim:H7)(entry s:Nat)(st:St):Option St :=
 match st.T[s]? with
 |some (.ptr b 0)=>match st.H[b]? with
  |some (.cells cs)=>match eS cs 0 with
   |some (i,id,sz,lo,len)=>match rd st.H id lo (len * sz) with
    |some vs=>match O0 vs with
     |some xs =>
      if lim.base<=id/\entry<=id/\lim.may id=true/\lim.base<=b/\id≠b then
       some ⟨I6 id st.T,((st.H.take lim.base++(st.H.drop lim.base).map (A1.kill id)).set id .dead).set b (.cells ((I6 id cs).set i (.d (.slice len xs))))⟩
      else none
     |none=>none
    |none=>none
   |none=>none
  |_=>none
 |_=>none
mutual
def c8.forget:c8->c8
 | .d (.slice n [])=> .d (.slice n [])
 | .d (.slice _ (_::_))=> .any
 | .own _ _ _=> .any
 | .T4 _=> .any
 | .agg l=> .agg (R9 l)
 | .tuple l=> .tuple (R9 l)
 | .func f a b=> .func f (R9 a) (R9 b)
 |v=>v
def R9:List c8->List c8
 |[]=>[]
 |v::vs=>v.forget::R9 vs
end
def A1.forget:A1->A1
 | .dead=> .dead
 | .cells l=> .cells (R9 l)
 | .map es=> .map (es.map fun p=>(p.1,p.2.forget))
def Data.flat:Data->Bool
 | .slice _ _=>false
 |_=>true
def yp:List c8->Nat->Option (Nat×Nat×Nat×List Data)
 |[],_=>none
 | .own sz len xs::_,i=>some (i,sz,len,xs)
 |_::r,i=>yp r (i+1)
def Lh (lim:H7)(entry s:Nat)(st:St):Option St :=
 match st.T[s]? with
 |some (.ptr b 0)=>match st.H[b]? with
  |some (.cells cs)=>match yp cs 0 with
   |some (i,sz,len,xs) =>
    if len=0 then some st else
    if entry=0/\lim.base=0/\lim.strict=0/\xs.all Data.flat=true then
     some ⟨R9 st.T,(st.H.map A1.forget).set b (.cells ((R9 cs).set i (.B4 st.H.length sz 0 len)))++[.cells (xs.map .d)]⟩
    else none
   |none=>none
  |_=>none
 |some (.own sz len xs) =>
  if len=0 then some st else
  if entry=0/\lim.base=0/\lim.strict=0/\xs.all Data.flat=true then
   some ⟨(R9 st.T).set s (.B4 st.H.length sz 0 len),st.H.map A1.forget++[.cells (xs.map .d)]⟩
  else none
 |none=>if entry=0/\lim.base=0/\lim.strict=0 then some ⟨st.T,st.H++[.dead]⟩ else none
 |_=>none
def nQ (lim:H7)(entry s:Nat)(st:St):Option St :=
 match uw lim entry s st with
 |some r=>some r
 |none=>Lh lim entry s st
def exec (E:Env)(lim:Nat):q6->St->Option (G7×St)
 | .skip,st=>some (.normal,st)
 | .region ops draw,st=>match S2 E ops draw st.T st.H with
  |some r=>some (.normal,⟨r.T,r.H⟩)
  |none=>none
 | .seq a b,st=>match exec E lim a st with
  |some (.normal,st')=>exec E lim b st'
  |r=>r
 | .cond c a b,st=>match J2 st.T [] c with
  | .d (.bool true)=>exec E lim a st
  | .d (.bool false)=>exec E lim b st
  |_=>none
 | .test ops draw c a b,st=>match S2 E ops draw st.T st.H with
  |some r=>match J2 r.T r.L c with
   | .d (.bool true)=>exec E lim a ⟨r.T,r.H⟩
   | .d (.bool false)=>exec E lim b ⟨r.T,r.H⟩
   |_=>none
  |none=>none
 | .block id body,st=>match exec E lim body st with
  |some (.exit id',st')=>if id' =id then some (.normal,st') else some (.exit id',st')
  |r=>r
 | .loop mask body,st=>iE (exec E lim body) mask E.lim.strict st.H.length lim st
 | .exit id,st=>some (.exit id,st)
 | .ret,st=>some (.ret,st)
 | .fz s,st=>match nQ E.lim E.entry s st with
  |some st' =>some (.normal,st')
  |none=>none
 | .bad,_=>none
def lH (T:List c8)(H:p9):Dn->Option c8
 | .slot s=>T[s]?
 | .cell s none=>match T[s]? with
  |some (.ptr id off)=>match rd H id off 1 with
   |some [v]=>some v.J3
   |_=>none
  |_=>none
 | .cell s (some n)=>match T[s]? with
  |some (.ptr id off)=>match rd H id off n with
   |some vs=>some (.agg (vs.map c8.J3))
   |none=>none
  |_=>none
def cR (T:List c8)(H:p9):List Dn->Option (List c8)
 |[]=>some []
 |r::rs=>match lH T H r with
  |some v=>match cR T H rs with
   |some vs=>some (v::vs)
   |none=>none
  |none=>none
def j3:List c8->c8
 |[v]=>v
 |vs=> .tuple (vs.map c8.J3)
def cr (H:p9)(n:Nat):Nat->List c8->Option (List c8)
 |0,_=>none
 |_+1,[]=>some []
 |fuel+1,v::vs =>
  match cr H n fuel vs with
  |none=>none
  |some ws =>
   match v with
   | .B4 id sz lo len =>
    if id<n then some (.B4 id sz lo len::ws) else
    match rd H id lo (len * sz) with
    |some us=>match cr H n fuel us with
     |some us' =>match O0 us' with
      |some xs=>some (.d (.slice len xs)::ws)
      |none=>none
     |none=>none
    |none=>none
   | .agg l=>match cr H n fuel l with
    |some l' =>some (.agg l' ::ws)
    |none=>none
   | .tuple l=>match cr H n fuel l with
    |some l' =>some (.tuple l' ::ws)
    |none=>none
   |v=>some (v::ws)
structure Prog where
 fn:FuncId->Option q9
 idle:FuncId->Bool
 mode:FuncId->Nat
 fP:FuncId->Option (List c8->p9->H7->Option (c8×p9))
def Prog.prom (A:Prog)(f:FuncId):Bool:=match A.fn f with
 |some af=>af.aK
 |none=>false
def finish (aK:Bool)(n:Nat)(vs:List c8)(H:p9):Option (c8×p9) :=
 if aK then some (j3 vs,H) else
 match cr H n 1000000 [j3 vs] with
 |some [v]=>if v.O5<=n then some (v,H.take n) else none
 |_=>none
def iA (A:Prog)(cf:tU)(lim:Nat)(af:q9)(args:List c8)(H:p9)(l:H7):Option (c8×p9) :=
 if args.length=af.nparams then
  match exec ⟨cf,A.prom,A.mode,A.idle,l,H.length⟩ lim af.body ⟨args++c9 (af.names.length - args.length) .any,H⟩ with
  |some (.exit _,_)=>none
  |some (_,st) =>
   match cR st.T st.H af.results with
   |some vs=>finish af.aK H.length vs st.H
   |none=>none
  |none=>none
 else none
def call (A:Prog):Nat->tU
 |0=>fun _ _ _ _=>none
 |n+1=>fun f args H l =>
  match A.fP f with
  |some p=>p args H l
  |none=>match A.fn f with
   |some af=>iA A (call A n) n af args H l
   |none=>none
inductive Place where
 |slot (s:Nat)
 |loc (j:Nat)
 |cell (id off:Nat)
 |none
 |ret
 deriving DecidableEq
inductive SH where
 |free
 |lX
 |held (n:Nat)
 |obj (id:Nat)
 |grow (n:Nat) (pl:Place)
 deriving DecidableEq
abbrev Gh:=Nat->SH
abbrev S7:=Nat->Nat×Nat
def jv (G:Gh)(b o:Nat):Prop :=
 match G b with
 | .lX=>True
 | .held n=>o<n
 | .grow n _=>o<n
 |_=>False
abbrev ad (b o:Nat):Addr:=⟨b,o,Option.none⟩
mutual
def DR (G:Gh)(w:World):Data->Value->Prop
 | .bool b,v=>v= .bool b
 | .int k n,v=>v= .int k n
 | .str s,v=>v= .string ⟨s.toArray⟩
 | .slice len cells,v=>((v= .slice Option.none 0 0\/∃ a,v= .slice (some a) 0 0)/\len=0/\cells=[]) \/
   ∃ b o cap,v= .slice (some (ad b o)) len cap/\len<=cap/\fB G w b o cells
 | .cu,v=>v= .pointer Option.none
 | .P5,v=>v= .nilFunc
 | .dy,v=>v= .map Option.none
 | .nilIface,v=>v= .nilIface
def fB (G:Gh)(w:World)(b:Nat):Nat->List Data->Prop
 |_,[]=>True
 |o,c::cs=>jv G b o/\(∃ x,w.cell? (ad b o)=some x/\DR G w c x)/\fB G w b (o+1) cs
end
def MQ (f:Nat×Nat)(n:Nat):Prop:=∀ o,o<n->¬ (f.1<=o/\o<f.2)
mutual
def VR (G:Gh)(I:S7)(N:Nat->Prop)(w:World):Place->c8->Value->Prop
 |_,.any,_=>True
 |_,.d x,v=>DR G w x v
 |_,.ptr id off,v=>N id/\v= .pointer (some (ad (I id).1 ((I id).2+off)))
 |_,.T4 cells,v=>∃ b o,v= .pointer (some (ad b o))/\fB G w b o cells
 |_,.B4 id sz lo len,v=>N id/\∃ cap,v= .slice (some (ad (I id).1 ((I id).2+lo))) len cap/\len<=cap /\
   ∃ c e f,w.heap[(I id).1]? =some (.cells c e f)/\(I id).2+lo+cap * sz<=c.size
 |pl,.own sz len cells,v=>cells.length=len * sz /\
   (((v= .slice Option.none 0 0\/∃ b o,v= .slice (some (ad b o)) 0 0)/\len=0) \/
    (pl≠ .none/\∃ b o cap c e f,v= .slice (some (ad b o)) len cap/\len<=cap/\w.heap[b]? =some (.cells c e f)/\o+cap * sz<=c.size/\MQ f c.size /\
     G b= .grow (o+len * sz) pl/\fB G w b o cells))
 |_,.O2,v=>v= .slice Option.none 0 0
 |_,.agg l,v=>∃ cs:Array Value,v= .agg cs/\J4 G I N w l cs.toList
 |_,.tuple l,v=>∃ cs:Array Value,v= .tuple cs/\J4 G I N w l cs.toList
 |_,.func f a b,v=>∃ x y:Array Value,v= .func (.func f) x y/\J4 G I N w a x.toList/\J4 G I N w b y.toList
 |_,.map id,v=>N id/\v= .map (some (I id).1)
def J4 (G:Gh)(I:S7)(N:Nat->Prop)(w:World):List c8->List Value->Prop
 |[],vs=>vs=[]
 |a::as,vs=>∃ x xs,vs=x::xs/\VR G I N w .none a x/\J4 G I N w as xs
end
def KD.val:KD->Value
 | .i k n=> .int k n
 | .s x=> .string ⟨x.toArray⟩
 | .b t=> .bool t
def Key.val:Key->Value
 | .int k n=> .int k n
 | .str x=> .string ⟨x.toArray⟩
 | .bool t=> .bool t
 | .st l=> .agg (l.map KD.val).toArray
def ER (G:Gh)(I:S7)(N:Nat->Prop)(w:World):List (Key×c8)->List MapEntry->Prop
 |[],es=>es=[]
 |(k,v)::r,es=>∃ e es',es=e::es' /\e.key=k.val/\VR G I N w .none v e.val/\ER G I N w r es'
structure It (arr:Array MapEntry)(gm:Nat):Prop where
 old:∀ e ∈ arr.toList,e.born<gm
 nodup:(arr.toList.map (·.born)).Nodup
theorem It.push {arr:Array MapEntry}{gm:Nat}(h:It arr gm)(k v:Value):It (arr.push { key:=k,val:=v,born:=gm }) (gm+1) where
 old e he:=by
  rw [Array.toList_push] at he
  rcases List.mem_append.1 he with he|he
  .exact Nat.lt_succ_of_lt (h.old e he)
  simp_all
 nodup:=by
  rw [Array.toList_push,List.map_append,List.nodup_append];refine ⟨h.nodup,by simp,fun a ha b hb=> ?_⟩;simp [L8,List.map_nil,s8] at hb;obtain ⟨e,he,rfl⟩:=L1.1 ha;have:=h.old e he;omega
theorem It.modify {arr:Array MapEntry}{gm:Nat}(h:It arr gm)(j:Nat)(g:MapEntry->MapEntry)(hg:∀ e,(g e).born=e.born):It (arr.modify j g) gm:=by
 have e1:(arr.modify j g).toList.map (·.born)=arr.toList.map (·.born):=by
  apply List.ext_getElem?
  grind
 refine ⟨fun e he=> ?_,by rw [e1];exact h.nodup⟩;have:e.born ∈ arr.toList.map (·.born):=by
  grind
 obtain ⟨e',he',hb⟩:=L1.1 this;rw [<- hb];exact h.old e' he'
def OR (G:Gh)(I:S7)(N:Nat->Prop)(w:World)(id:Nat):A1->Prop
 | .dead=>True
 | .cells l=>N id/\∃ c e f,w.heap[(I id).1]? =some (.cells c e f)/\G (I id).1= .obj id/\MQ f c.size/\(I id).2+l.length<=c.size /\
   ∀ i x,l[i]? =some x->∃ v,c[(I id).2+i]? =some v/\VR G I N w (.cell id i) x v
 | .map es=>N id/\∃ arr gm,w.heap[(I id).1]? =some (.map arr gm)/\G (I id).1= .obj id/\ER G I N w es arr.toList/\It arr gm
def HR (G:Gh)(I:S7)(N:Nat->Prop)(w:World)(H:p9):Prop:=∀ id o,H[id]? =some o->OR G I N w id o
def WF (G:Gh)(w:World):Prop:=∀ b,w.heap.size<=b->G b= .free
structure Sub (G:Gh)(w:World)(G' :Gh)(w' :World):Prop where
 lX:∀ b o:Nat,jv G b o->jv G' b o/\w'.cell? (ad b o)=w.cell? (ad b o)
 shape:∀ (b:Nat) (c:Array Value) (e:TypeId) (f:Nat×Nat),w.heap[b]? =some (Obj.cells c e f)->∃ c' :Array Value,w'.heap[b]? =some (Obj.cells c' e f)/\c'.size=c.size
class C9 where
 on:Prop
section
variable [C9]
structure Ext (G:Gh)(w:World)(G' :Gh)(w' :World):Prop where
 os:w'.os=w.os
 tape:w'.tape=w.tape
 output:w'.output=w.output
 drawn:C9.on->w.drawn<=w'.drawn
 size:w.heap.size<=w'.heap.size
 lX:∀ b o:Nat,jv G b o->jv G' b o/\w'.cell? (ad b o)=w.cell? (ad b o)
 still:∀ b:Nat,(G b= .lX\/∃ n,G b= .held n)->G' b=G b/\w'.heap[b]? =w.heap[b]?
 shape:∀ (b:Nat) (c:Array Value) (e:TypeId) (f:Nat×Nat),w.heap[b]? =some (Obj.cells c e f)->∃ c' :Array Value,w'.heap[b]? =some (Obj.cells c' e f)/\c'.size=c.size
def Ext.sub {G:Gh}{w:World}{G' :Gh}{w' :World}(h:Ext G w G' w'):Sub G w G' w' :=⟨h.lX,h.shape⟩
instance {G:Gh} {w:World} {G' :Gh} {w' :World}:CoeOut (Ext G w G' w') (Sub G w G' w'):=⟨Ext.sub⟩
theorem Ext.refl (G:Gh)(w:World):Ext G w G w :=
 ⟨rfl,rfl,rfl,fun _=>n5 _,n5 _,fun _ _ h=>⟨h,rfl⟩,fun _ _=>⟨rfl,rfl⟩,fun _ c _ _ h=>⟨c,h,rfl⟩⟩
theorem Ext.trans {G:Gh}{w:World}{G1:Gh}{w1:World}{G2:Gh}{w2:World}(h:Ext G w G1 w1)(k:Ext G1 w1 G2 w2):Ext G w G2 w2 where
 os:=k.os.trans h.os
 tape:=k.tape.trans h.tape
 output:=k.output.trans h.output
 drawn o:=F9 (h.drawn o) (k.drawn o)
 size:=F9 h.size k.size
 lX b o hi:=by
  obtain ⟨a1,a2⟩:=h.lX b o hi;obtain ⟨b1,b2⟩:=k.lX b o a1;simp_all
 still b hb:=by
  obtain ⟨a1,a2⟩:=h.still b hb;obtain ⟨b1,b2⟩:=k.still b (by simp_all);simp_all
 shape b c e f hc:=by
  obtain ⟨c1,h1,s1⟩:=h.shape b c e f hc;obtain ⟨c2,h2,s2⟩:=k.shape b c1 e f h1;simp_all
def Ext.drew {G:Gh}{w:World}{G' :Gh}{w' :World}(h:Ext G w G' w')(n:Nat)(hn:w'.drawn<=n):Ext G w G' { w' with drawn:=n } :=
 ⟨h.os,h.tape,h.output,fun o=>F9 (h.drawn o) hn,h.size,h.lX,h.still,h.shape⟩
end
mutual
theorem DR.mono {G:Gh}{w:World}{G' :Gh}{w' :World}
  (h:∀ b o,jv G b o->jv G' b o/\w'.cell? (ad b o)=w.cell? (ad b o)):∀ (d:Data) (v:Value),DR G w d v->DR G' w' d v
 | .bool _,_,hd=>by simp_all [DR]
 | .int _ _,_,hd=>by simp_all [DR]
 | .str _,_,hd=>by simp_all [DR]
 | .slice _ cells,_,hd=>by
  simp [DR] at hd ⊢
  rcases hd with hd|⟨b,o,cap,h1,h2,h3⟩
  .simp_all
  .exact Or.inr ⟨b,o,cap,h1,h2,fB.mono h b o cells h3⟩
 | .cu,_,hd=>by simp_all [DR]
 | .P5,_,hd=>by simp_all [DR]
 | .dy,_,hd=>by simp_all [DR]
 | .nilIface,_,hd=>by simp_all [DR]
theorem fB.mono {G:Gh}{w:World}{G' :Gh}{w' :World}
  (h:∀ b o,jv G b o->jv G' b o/\w'.cell? (ad b o)=w.cell? (ad b o)) (b:Nat):∀ (o:Nat) (l:List Data),fB G w b o l->fB G' w' b o l
 |_,[],_=>by simp [fB]
 |o,c::cs,hd=>by
  obtain ⟨h1,⟨x,h2,h3⟩,h4⟩:=hd;obtain ⟨i1,i2⟩:=h b o h1;exact ⟨i1,⟨x,i2.trans h2,DR.mono h c x h3⟩,fB.mono h b (o+1) cs h4⟩
end
def bZ (pl:Place)(G:Gh)(w:World)(G' :Gh)(w' :World):Prop :=
 ∀ b n,G b= .grow n pl->G' b= .grow n pl/\w'.heap[b]? =w.heap[b]?
mutual
theorem VR.mono {G:Gh}{I:S7}{N:Nat->Prop}{w:World}{G' :Gh}{I' :S7}{N' :Nat->Prop}{w' :World}(hx:Sub G w G' w')
  (hI:∀ id,N id->I' id=I id) (hN:∀ id,N id->N' id):∀ (pl:Place) (a:c8) (v:Value),(pl= .none\/bZ pl G w G' w')->VR G I N w pl a v->VR G' I' N' w' pl a v
 |_,.any,_,_,_=>by simp [VR]
 |_,.d x,v,_,h=>by exact DR.mono hx.lX x v h
 |_,.ptr id off,v,_,h=>by
  simp_all [VR]
 |_,.T4 cells,v,_,h=>by
  obtain ⟨b,o,h1,h2⟩:=h;exact ⟨b,o,h1,fB.mono hx.lX b o cells h2⟩
 |_,.B4 id sz lo len,v,_,h=>by
  simp only [VR] at h ⊢;obtain ⟨h1,cap,h2,h3,c,e,f,h4,h5⟩:=h;obtain ⟨c',g1,g2⟩:=hx.shape _ c e f h4;simp_all
 |pl,.own sz len cells,v,hk,h=>by
  obtain ⟨h0,h⟩:=h;refine ⟨h0,?_⟩
  rcases h with h|⟨hp,b,o,cap,c,e,f,h1,h2,h3,h4,h5,h6,h7⟩
  .simp_all
  .rcases hk with hk|hk
   .simp_all
   .obtain ⟨k1,k2⟩:=hk b _ h6
    exact Or.inr ⟨hp,b,o,cap,c,e,f,h1,h2,k2.trans h3,h4,h5,k1,fB.mono hx.lX b o cells h7⟩
 |_,.O2,v,_,h=>by simp_all [VR]
 |_,.agg l,v,_,h=>by
  obtain ⟨cs,h1,h2⟩:=h;exact ⟨cs,h1,J4.mono hx hI hN l _ h2⟩
 |_,.tuple l,v,_,h=>by
  obtain ⟨cs,h1,h2⟩:=h;exact ⟨cs,h1,J4.mono hx hI hN l _ h2⟩
 |_,.func f a b,v,_,h=>by
  obtain ⟨x,y,h1,h2,h3⟩:=h;exact ⟨x,y,h1,J4.mono hx hI hN a _ h2,J4.mono hx hI hN b _ h3⟩
 |_,.map id,v,_,h=>by
  simp_all [VR]
theorem J4.mono {G:Gh}{I:S7}{N:Nat->Prop}{w:World}{G' :Gh}{I' :S7}{N' :Nat->Prop}{w' :World}(hx:Sub G w G' w')
  (hI:∀ id,N id->I' id=I id) (hN:∀ id,N id->N' id):∀ (l:List c8) (vs:List Value),J4 G I N w l vs->J4 G' I' N' w' l vs
 |[],_,h=>by grind [J4]
 |a::as,vs,h=>by
  obtain ⟨x,xs,h1,h2,h3⟩:=h;exact ⟨x,xs,h1,VR.mono hx hI hN .none a x (Or.inl rfl) h2,J4.mono hx hI hN as xs h3⟩
end
theorem ER.mono {G:Gh}{I:S7}{N:Nat->Prop}{w:World}{G' :Gh}{I' :S7}{N' :Nat->Prop}{w' :World}(hx:Sub G w G' w')
  (hI:∀ id,N id->I' id=I id) (hN:∀ id,N id->N' id):∀ (l:List (Key×c8)) (es:List MapEntry),ER G I N w l es->ER G' I' N' w' l es
 |[],_,h=>by grind [ER]
 |(k,v)::r,es,h=>by
  obtain ⟨e,es',h1,h2,h3,h4⟩:=h;exact ⟨e,es',h1,h2,VR.mono hx hI hN .none _ _ (Or.inl rfl) h3,ER.mono hx hI hN r es' h4⟩
theorem OR.mono {G:Gh}{I:S7}{N:Nat->Prop}{w:World}{G' :Gh}{I' :S7}{N' :Nat->Prop}{w' :World}(hx:Sub G w G' w')
  (hI:∀ id,N id->I' id=I id) (hN:∀ id,N id->N' id) (id:Nat) (o:A1)
  (hb:G (I id).1= .obj id->G' (I id).1= .obj id/\w'.heap[(I id).1]? =w.heap[(I id).1]?)
  (hc:∀ off,bZ (.cell id off) G w G' w') (h:OR G I N w id o):OR G' I' N' w' id o:=by
 cases o with
 |dead=>simp [OR]
 |cells l =>
  grind [OR,VR.mono]
 |map es =>
  grind [OR,ER.mono]
theorem VR.J3 {G:Gh}{I:S7}{N:Nat->Prop}{w:World}{pl yu :Place}:∀ {a:c8} {v:Value},VR G I N w pl a v->VR G I N w yu a.J3 v
 | .any,_,_=>by simp [c8.J3,VR]
 | .d _,_,h=>by grind [c8.J3,VR]
 | .ptr _ _,_,h=>by grind [c8.J3,VR]
 | .T4 _,_,h=>by grind [c8.J3,VR]
 | .B4 _ _ _ _,_,h=>by grind [c8.J3,VR]
 | .own sz len cells,v,h=>by
  simp [c8.J3,VR,DR] at h ⊢;obtain ⟨h0,h⟩:=h
  rcases h with ⟨h1,h2⟩|⟨hp,b,o,cap,c,e,f,h1,h2,h3,h4,h5,h6,h7⟩
  all_goals (simp_all [fB]<;>grind)
 | .O2,v,h=>by
  simp_all [c8.J3,VR,DR,trivial]
 | .agg _,_,h=>by grind [c8.J3,VR]
 | .tuple _,_,h=>by grind [c8.J3,VR]
 | .func _ _ _,_,h=>by grind [c8.J3,VR]
 | .map _,_,h=>by grind [c8.J3,VR]
theorem VR.SU {G:Gh}{I:S7}{N:Nat->Prop}{w:World}{pl yu :Place}{a:c8}{v:Value}(h:VR G I N w pl a v):VR G I N w yu a.SU v:=by
 cases a
 case O2=>simp_all [c8.SU,VR]
 all_goals exact h.J3
def Vi {u:c8}(h:u.J3=u):u.SU=u:=by
 cases u
 case O2=>rfl
 all_goals exact h
def Gz:Value->c8->Bool
 |_,.any=>true
 | .bool b,.d (.bool c)=>b==c
 | .int k n,.d (.int k' n')=>k==k' &&n==n'
 | .string s,.d (.str l)=>s.data.toList==l
 | .slice Option.none 0 0,.own _ 0 []=>true
 | .slice Option.none 0 0,.O2=>true
 | .slice Option.none 0 0,.d (.slice 0 [])=>true
 | .pointer Option.none,.d .cu=>true
 | .map Option.none,.d .dy=>true
 | .nilFunc,.d .P5=>true
 | .nilIface,.d .nilIface=>true
 |_,_=>false
def consts:List Value->List c8->Bool
 |[],[]=>true
 |v::vs,a::as=>Gz v a&&consts vs as
 |_,_=>false
def zN:Value->c8->Bool
 | .agg cs,.agg l=>consts cs.toList l
 |v,a=>Gz v a
structure Cx where
 P:Program
 names:List Tmp
 ops:Array Oper
def Cx.ck (X:Cx)(D:Nat->Bool):Operand->y5->Bool
 | .tmp t,.slot s=>X.names[s]? ==some t
 | .tmp t,.loc j=>D j&&((X.ops[j]?).bind (·.dst))==some t&& !X.names.contains t
 | .const v,.const a=>zN v a
 | .func f,.const (.func g [] [])=>f==g
 |_,.const .any=>true
 |_,_=>false
def Va (ck:Operand->y5->Bool):List Operand->List y5->Bool
 |[],[]=>true
 |x::xs,y::ys=>ck x y&&Va ck xs ys
 |_,_=>false
def ckO (ck:Operand->y5->Bool):Option Operand->Option y5->Bool
 |none,none=>true
 |some x,some y=>ck x y
 |_,_=>false
def ep (P:Program)(t:TypeId):Option Bool :=
 match P.underlying t with
 |some (.struct _)=>some true
 |some (.array _ _)=>some true
 |some _=>some false
 |none=>none
def tC (P:Program)(t:TypeId):Option Nat->Bool
 |none=>ep P t==some false
 |some n=>ep P t==some true&&P.cellsOf t==n&&decide (0<n)
def pO (P:Program)(t:TypeId)(sz:Nat):Bool :=
 match P.underlying t with
 |some (.slice e)=>P.cellsOf e==sz&&(P.info? e).isSome
 |_=>false
def fL (P:Program)(t:TypeId):CK->Bool
 | .i=>match P.underlying t with
  |some (.int _)=>true
  |_=>false
 | .s=>match P.underlying t with
  |some .string=>true
  |_=>false
 | .b=>match P.underlying t with
  |some .bool=>true
  |_=>false
def T7 (P:Program):List Field->Nat->List CK->Bool
 |[],_,[]=>true
 | f :: fs, n, k :: ks => f.name != "_" && fL P f.type k && f.offset == n && T7 P fs (n + 1) ks
 |_,_,_=>false
def jM (P:Program)(t:TypeId)(ks:List CK):Bool :=
 match P.underlying t with
 |some (.struct fs)=>T7 P fs.toList 0 ks&& !P.stoodInHeld t&& !P.eqGuardType P.depth t
 |_=>false
def eG (P:Program):List Field->Nat->List CK->Bool
 |[],_,[]=>true
 |[],_,_::_=>false
 | f :: fs, n, ks => f.name != "_" && f.offset == n &&
  (match P.underlying f.type with
  |some (.struct gs)=>(P.info? f.type).isSome&&P.cellsOf f.type==gs.size&&T7 P gs.toList 0 (ks.take gs.size)&& !P.stoodInHeld f.type&&eG P fs (n+gs.size) (ks.drop gs.size)
  |_=>(match ks with
   |k::r=>fL P f.type k&&eG P fs (n+1) r
   |[]=>false))
def xY (P:Program)(t:TypeId)(ks:List CK):Bool :=
 match P.underlying t with
 |some (.struct fs)=>eG P fs.toList 0 ks&& !P.stoodInHeld t&& !P.eqGuardType P.depth t
 |_=>false
def wU (P:Program)(t:TypeId):KK->Bool
 | .i=>fL P t .i
 | .s=>fL P t .s
 | .b=>fL P t .b
 | .st ks=>jM P t ks
def kI (P:Program)(ck:Operand->y5->Bool)(place:Nat->Option (Nat×Nat)):List (Nat×Operand)->List (Nat×Nat×y5)->Bool
 |[],[]=>true
 |(i,x)::r,(off,sz,y)::q=>place i==some (off,sz)&&ck x y&&kI P ck place r q
 |_,_=>false
def xW (P:Program)(fs:List Field):Option (List (Nat×Nat)):=fs.mapM fun f=>(P.info? f.type).map fun i=>(f.offset,i.size)
def CF (P:Program)(t:TypeId)(l:List c8):Bool :=
 match P.info? t with
 |some i=>match i.zero with
  |some z=>consts z.cells.toList l
  |none=>false
 |none=>false
def E3 (P:Program)(ck:Operand->y5->Bool)(o:Oper)(op:x9):Bool :=
 match o.op,op with
 | .pick c a b,.pick c' a' b' =>ck c c' &&ck a a' &&ck b b'
 | .load t x,.load n y=>ck x y&&tC P t n
 | .nilCheck x,.aV y=>ck x y
 | .binOp b _ x y _,.bin b' x' y' =>b==b' &&ck x x' &&ck y y'
 | .binOp b t x (.const (.slice Option.none 0 0)) _,.BB neg x' =>ck x x' &&(match P.underlying t with|some (.slice _)=>true|_=>false)&&(if neg then b== .neq else b== .eql)
 | .binOp b t x y _,.s9 neg x' y' =>ck x x' &&ck y y' &&(match P.underlying t with|some .bool=>true|_=>false)&&(if neg then b== .neq else b== .eql)
 | .binOp b t x y _,.Ip neg ks x' y' =>ck x x' &&ck y y' &&xY P t ks&&(if neg then b== .neq else b== .eql)
 | .unOp b _ x,.un b' x' =>b==b' &&ck x x'
 | .convert s d x,.oA k y=>ck x y&&(P.underlying s).isSome&&(match P.underlying d with|some (.int k')=>k==k' |_=>false)
 | .convert s d x,.lu y=>ck x y&&(match P.underlying s with|some (.slice e)=>(match P.underlying e with|some (.int .u8)=>true|_=>false)|_=>false)&&(match P.underlying d with|some .string=>true|_=>false)
 | .slice t x lo hi none,.aW sz y lo' hi' =>ck x y&&ckO ck lo lo' &&ckO ck hi hi' &&pO P t sz&&decide (0<sz)
 | .fieldAddr s x f,.off k y=>ck x y&&(match P.underlying s with
  |some (.struct fs)=>(match fs[f]? with
   |some fd=>fd.offset==k&&decide (0<P.cellsOf fd.type)
   |none=>false)
  |_=>false)
 | .indexAddr t x i,.N8 sz y j=>ck x y&&ck i j&&pO P t sz
 | .indexAddr t x i,.gG n sz y j=>ck x y&&ck i j&&(match P.underlying t with|some (.array m e)=>m==n&&P.cellsOf e==sz&&(P.info? e).isSome|_=>false)
 | .index t x i,.I9 y j=>ck x y&&ck i j&&(match P.underlying t with|some .string=>true|_=>false)
 | .extract x i,.extract y j=>ck x y&&i==j
 | .call { callee:= .builtin .len,args,argTypes },.len y=>(match args[0]?,argTypes[0]? with
  |some x,some t=>ck x y&&(match P.underlying t with|some (.slice _)=>true|_=>false)
  |_,_=>false)
 | .call { callee:= .builtin .len,args,argTypes },.W5 y=>(match args[0]?,argTypes[0]? with
  |some x,some t=>ck x y&&(match P.underlying t with|some .string=>true|_=>false)
  |_,_=>false)
 | .call { callee:= .builtin .max,args,.. },.iU true ys=>Va ck args.toList ys&&decide (2<=ys.length)
 | .call { callee:= .builtin .min,args,.. },.iU false ys=>Va ck args.toList ys&&decide (2<=ys.length)
 | .makeFunc (.func f) first caps,.aT g first' aO0 =>f==g&&Va ck first.toList first' &&Va ck caps.toList aO0
 | .lookup t m k ok,.lookup kk zero WK m' k' =>ok==WK &&ck m m' &&ck k k' &&(match P.underlying t with
  |some (.map kt et)=>wU P kt kk&&(match P.info? et with
   |some i=>(match i.zero with
    |some z=>zN z zero
    |none=>false)
   |none=>false)
  |_=>false)
 | .build t parts,.build zero ps=>(match P.underlying t with
  |some (.struct fs)=>(match xW P fs.toList with
   |some places=>CF P t zero&&kI P ck (fun i=>places[i]?) parts.toList ps
   |none=>false)
  |some (.array _ e)=>(match P.info? e with
   |some i=>CF P t zero&&kI P ck (fun j=>some (j * i.size,i.size)) parts.toList ps
   |none=>false)
  |_=>false)
 |_,_=>false
theorem uh {G:Gh}{I:S7}{N:Nat->Prop}{w:World}:∀ (v:Value) (a:c8),Gz v a=true->VR G I N w .none a v:=by
 intro v a h;unfold Gz at h;split at h
 all_goals first
  |(done)
  |(simp at h;done)
  |(simp [VR,DR];done)
  |(simp only [VR,DR];simp_all;done)
  |skip
 .rename_i s l
  simp [VR,DR];have:s.data.toList=l:=by simpa using h
  subst this;simp
theorem fG {G:Gh}{I:S7}{N:Nat->Prop}{w:World}:∀ (vs:List Value) (l:List c8),consts vs l=true->J4 G I N w l vs
 |[],[],_=>by simp [J4]
 |v::vs,a::as,h=>by
  simp [consts,c7] at h;exact ⟨v,vs,rfl,uh v a h.1,fG vs as h.2⟩
 |[],_::_,h=>by simp [consts] at h
 |_::_,[],h=>by simp [consts] at h
def dJ {G:Gh}{I:S7}{N:Nat->Prop}{w:World}(v:Value)(a:c8)(h:zN v a=true):VR G I N w .none a v:=by
 unfold zN at h
 grind [VR,fG,uh]
theorem V5 {w:World}{b:Nat}{c:Array Value}{e:TypeId}{f:Nat×Nat}(h:w.heap[b]? =some (.cells c e f))(o:Nat):w.cell? (ad b o)=c[o]? :=by
 simp [World.cell?,h]
theorem bw (b o n:Nat):(ad b o).add n=ad b (o+n):=by
 simp_all [Addr.add]
theorem fB.drop {G:Gh}{w:World}{b:Nat}:∀ (n o:Nat) (l:List Data),fB G w b o l->fB G w b (o+n) (l.drop n)
 |0,_,_,h=>by simpa using h
 |n+1,o,[],_=>by simp [fB]
 |n+1,o,c::cs,h=>by
  have:=fB.drop n (o+1) cs h.2.2
  grind
theorem fB.take {G:Gh}{w:World}{b:Nat}:∀ (n o:Nat) (l:List Data),fB G w b o l->fB G w b o (l.take n)
 |0,_,_,_=>by simp [fB]
 |n+1,o,[],_=>by simp [fB]
 |n+1,o,c::cs,h=>by
  simp_all [fB,List.take_succ_cons,fB.take]
theorem fB.vals {G:Gh}{I:S7}{N:Nat->Prop}{w:World}{b:Nat}:∀ (o:Nat) (l:List Data),fB G w b o l ->
  ∃ vs:List Value,vs.length=l.length/\(∀ j v,vs[j]? =some v->w.cell? (ad b (o+j))=some v)/\J4 G I N w (l.map .d) vs
 |_,[],_=>⟨[],rfl,by simp,by simp [J4]⟩
 |o,c::cs,h=>by
  obtain ⟨h1,⟨x,h2,h3⟩,h4⟩:=h;obtain ⟨vs,g1,g2,g3⟩:=fB.vals (I:=I) (N:=N) (o+1) cs h4;simp_all [J4,VR]<;>grind
theorem J4.length {G:Gh}{I:S7}{N:Nat->Prop}{w:World}:∀ (l:List c8) (vs:List Value),J4 G I N w l vs->vs.length=l.length
 |[],vs,h=>by simp_all [J4]
 |a::as,vs,h=>by
  obtain ⟨x,xs,h1,_,h3⟩:=h;subst h1;simp [J4.length as xs h3]
theorem HR.rd {G:Gh}{I:S7}{N:Nat->Prop}{w:World}{H:p9}(hH:HR G I N w H){id off n:Nat}{vs:List c8}(h:rd H id off n=some vs)(hn:0<n) :
  N id/\∃ xs:List Value,xs.length=n/\vs.length=n/\(∀ j v,xs[j]? =some v->w.cell? (ad (I id).1 ((I id).2+off+j))=some v) /\
   (∀ j a v,vs[j]? =some a->xs[j]? =some v->VR G I N w (.cell id (off+j)) a v):=by
 unfold A2.rd at h;split at h
 .rename_i l hl
  split at h
  .cases h
   have ho:=hH id _ hl;obtain ⟨hid,c,e,f,h1,h2,h3,h4,h5⟩:=ho
   .refine ⟨hid,(List.range n).map (fun j=>(c[(I id).2+off+j]?).getD default),by simp,by simp;omega,fun j v hj=> ?_,fun j a v ha hv=> ?_⟩
    .rw [V5 h1]
     grind
    .have hjn:j<n:=by
      grind
     grind
  .cases h
 .cases h
section
variable {P:Program} {w:World}
theorem info_of_underlying {t:TypeId}{d:TypeDesc}(h:P.underlying t=some d):(P.info? t).isSome=true:=by
 grind [Program.underlying]
theorem run_sizeOf {t:TypeId}(h:(P.info? t).isSome=true):(sizeOf t).run P w= .ok (P.cellsOf t) w:=by
 cases hi:P.info? t with
 |none=>simp_all
 |some i=>simp [sizeOf,typeInfo,hi,Program.cellsOf]
def cS {t:TypeId}{b:Bool}(h:ep P t=some b):(isAgg t).run P w= .ok b w:=by
 unfold ep at h;cases hu:P.underlying t with
 |none=>simp_all
 |some d=>cases d<;>simp [hu] at h<;>subst h<;>simp [isAgg,run_underlying hu]
def jR {t:TypeId}{sz:Nat}(h:pO P t sz=true):∃ e,P.underlying t=some (.slice e)/\P.cellsOf e=sz/\(P.info? e).isSome=true:=by
 grind [pO]
theorem T0 {G:Gh}{I:S7}{N:Nat->Prop}:∀ (l:List c8) (xs:List Value),xs.length=l.length ->
  (∀ (j:Nat) a v,l[j]? =some a->xs[j]? =some v->VR G I N w .none a v)->J4 G I N w l xs
 |[],xs,h,_=>by simp_all [J4]
 |a::as,[],h,_=>by simp at h
 |a::as,x::xs,h,hp=>by
  exact ⟨x,xs,rfl,hp 0 a x rfl rfl,T0 as xs (by simpa using h) fun j a' v ha hv=>hp (j+1) a' v (by simp_all) (by simp_all)⟩
theorem J4.get {G:Gh}{I:S7}{N:Nat->Prop}:∀ (l:List c8) (xs:List Value),J4 G I N w l xs->∀ (j:Nat) a,l[j]? =some a->∃ v,xs[j]? =some v/\VR G I N w .none a v
 |[],_,_,_,_,h=>by simp at h
 |a::as,xs,h,j,b,hb=>by
  obtain ⟨x,xs',h1,h2,h3⟩:=h;subst h1;cases j with
  |zero=>simp at hb;subst hb;exact ⟨x,rfl,h2⟩
  |succ j=>simpa using J4.get as xs' h3 j b (by simpa using hb)
def VR.place {G:Gh}{I:S7}{N:Nat->Prop}{a:c8}{x:Value}{pl:Place}(h:VR G I N w .none a x):VR G I N w pl a x:=by
 cases a with
 |own sz len cells =>
  simp_all [VR,absurd]
 |_=>simp_all [VR]
variable {ck:Operand->y5->Bool} {η:Operand->Value} {ρ:y5->c8} {G:Gh} {I:S7} {N:Nat->Prop} {H:p9}
abbrev Good (P:Program)(G:Gh)(I:S7)(N:Nat->Prop)(w:World)(η:Operand->Value)(o:Oper)(v:c8):Prop :=
 ∃ x,(execOp η o).run P w= .ok (.value x) w/\VR G I N w .none v x
abbrev dm (ck:Operand->y5->Bool)(G:Gh)(I:S7)(N:Nat->Prop)(w:World)(η:Operand->Value)(ρ:y5->c8):Prop :=
 ∀ x y,ck x y=true->VR G I N w .none (ρ y) (η x)
def TU (hρ:dm ck G I N w η ρ){o:Oper}{c a b:y5}(hc:E3 P ck o (.pick c a b)=true){v:c8}{rs:List Nat}
  (h:o6 ρ H (.pick c a b)=some (v,rs)):Good P G I N w η o v:=by
 obtain ⟨dst,fq,ty,pos,after,guard⟩:=o;cases fq<;>simp [E3] at hc;rename_i c' a' b';have h1:=hρ _ _ hc.1.1;have h2:=hρ _ _ hc.1.2;have h3:=hρ _ _ hc.2;simp only [o6] at h;split at h
 .rename_i t ht
  simp at h;obtain ⟨rfl,rfl⟩:=h;rw [ht] at h1;simp only [VR,DR] at h1;refine ⟨if t then η a' else η b',by simp [execOp,h1,asBool],?_⟩;cases t<;>simpa
 .cases h
def TS (hρ:dm ck G I N w η ρ)(hH:HR G I N w H){o:Oper}{n:Option Nat}{y:y5}(hc:E3 P ck o (.load n y)=true){v:c8}{rs:List Nat}
  (h:o6 ρ H (.load n y)=some (v,rs)):Good P G I N w η o v:=by
 obtain ⟨dst,fq,ty,pos,after,guard⟩:=o;cases fq<;>simp [E3] at hc;rename_i t x;have h1:=hρ _ _ hc.1;cases n with
 |none =>
  have ha:ep P t=some false:=by simp_all [tC]
  simp [o6] at h;split at h
  .rename_i id off hp
   rw [hp] at h1;simp [VR] at h1;split at h
   .rename_i u hu
    obtain ⟨rfl,rfl⟩:=h;obtain ⟨_,xs,g1,_,g3,g4⟩:=hH.rd hu (by omega);obtain ⟨z,rfl⟩:∃ z,xs=[z]:=by
     match xs,g1 with
     |[z],_=>simp_all
    have hz:=g3 0 z rfl;have hv:=g4 0 u z rfl rfl;refine ⟨z,?_,hv.J3⟩;simp_all [execOp,Instr.loadAt,Instr.sureAddr,loadVar,cS]
   .cases h
  .rename_i c cs hp
   obtain ⟨rfl,rfl⟩:=h;rw [hp] at h1;obtain ⟨b,off,g1,_,⟨z,g2,g3⟩,_⟩:=h1;refine ⟨z,?_,by simp_all [VR]⟩;simp_all [execOp,Instr.loadAt,Instr.sureAddr,loadVar,cS]
  .cases h
 |some n =>
  have ha:ep P t=some true/\P.cellsOf t=n/\0<n:=by simp_all [tC,and_assoc]
  have hs:(sizeOf t).run P w= .ok n w:=by
   grind [run_sizeOf,ep,info_of_underlying]
  simp [o6] at h;split at h
  .rename_i id off hp
   rw [hp] at h1;simp [VR] at h1;split at h
   .rename_i us hu
    obtain ⟨rfl,rfl⟩:=h;obtain ⟨_,xs,g1,g2,g3,g4⟩:=hH.rd hu (by omega);have hl:=run_loadCells_list (P:=P) w (ad (I id).1 ((I id).2+off)) xs (fun j v hj=>by simp_all [bw]);refine ⟨.agg xs.toArray,?_,?_⟩
    .simp_all [execOp,Instr.loadAt,Instr.sureAddr,loadVar,cS]
    .refine ⟨_,rfl,T0 _ _ (by simp [g1,g2]) fun j a v hj hv=> ?_⟩
     simp at hj hv;obtain ⟨a',ha',rfl⟩:=hj;exact (g4 j a' v ha' hv).J3
   .cases h
  .rename_i cells hp
   split at h
   .obtain ⟨rfl,rfl⟩:=h
    rw [hp] at h1;obtain ⟨b,off,g1,g2⟩:=h1;obtain ⟨xs,e1,e2,e3⟩:=fB.vals (I:=I) (N:=N) off _ (fB.take n off cells g2);have e1' :xs.length=n:=by simp_all
    have hl:=run_loadCells_list (P:=P) w (ad b off) xs (fun j v hj=>by simp_all [bw]);refine ⟨.agg xs.toArray,?_,?_⟩
    all_goals simp_all [execOp,Instr.loadAt,Instr.sureAddr,loadVar,cS,VR]
   .cases h
  .cases h
def NZ (hρ:dm ck G I N w η ρ){o:Oper}{y:y5}(hc:E3 P ck o (.aV y)=true){v:c8}{rs:List Nat}
  (h:o6 ρ H (.aV y)=some (v,rs)):Good P G I N w η o v:=by
 obtain ⟨dst,fq,ty,pos,after,guard⟩:=o;cases fq<;>simp [E3] at hc;rename_i x;have h1:=hρ _ _ hc;simp [o6] at h;split at h
 .rename_i id off hp
  obtain ⟨rfl,rfl⟩:=h;rw [hp] at h1;have h2:=h1;exact ⟨η x,by simp [execOp,h1.2],h2⟩
 .rename_i cells hp
  obtain ⟨rfl,rfl⟩:=h;rw [hp] at h1;have h2:=h1;obtain ⟨b,off,g1,g2⟩:=h1;exact ⟨η x,by simp [execOp,g1],h2⟩
 .rename_i f a b hp
  obtain ⟨rfl,rfl⟩:=h;rw [hp] at h1;have h2:=h1;obtain ⟨x',y',g1,g2,g3⟩:=h1;exact ⟨η x,by simp [execOp,g1],h2⟩
 .cases h
def Data.val:Data->Value
 | .bool b=> .bool b
 | .int k n=> .int k n
 | .str s=> .string ⟨s.toArray⟩
 | .cu=> .pointer Option.none
 | .P5=> .nilFunc
 | .dy=> .map Option.none
 | .nilIface=> .nilIface
 | .slice _ _=> .slice Option.none 0 0
def Dw {b:BinOp}{x y r:Data}(h:P4 b x y=some r){u v:Value}(hu:DR G w x u)(hv:DR G w y v)(t:TypeId)(p q:Operand) :
  ∃ z,(do eqGuard b t p q u v;binOp b t u v).run P w= .ok z w/\DR G w r z:=by
 refine ⟨Data.val r,?_⟩;unfold P4 at h;split at h
 .rename_i k a k' c
  subst hu hv;have hg:(eqGuard b t p q (.int k a) (.int k' c)).run P w= .ok () w:=by simp_all [eqGuard]
  split at h
  .rename_i hsh
   unfold Ar at h;split at h
   .cases h
   .rename_i hneg
    cases b<;>simp [ak] at hsh<;>simp at h<;>subst h <;>
     exact ⟨by simp [hg,binOp,Op.shift,hneg,Data.val],by rfl⟩
  .rename_i hsh
   split at h
   .rename_i hk
    unfold cq at h;cases b<;>simp  at hsh<;>simp at h
    all_goals first
     |(subst h;simp_all [binOp,Op.intArith,Op.intCmp,Op.intBits,Data.val,DR])
     |(obtain ⟨h0,rfl⟩:=h;simp_all [binOp,Op.intDiv,Data.val,DR])
   .cases h
 .rename_i a c
  subst hu hv;have hg:(eqGuard b t p q (.string ⟨a.toArray⟩) (.string ⟨c.toArray⟩)).run P w= .ok () w:=by simp_all [eqGuard]
  unfold wq at h;cases b<;>simp at h
  all_goals first
   |(subst h;simp_all [binOp,Op.stringOp,Data.val,DR])
   |skip
  obtain ⟨h0,rfl⟩:=h;have aP7:(⟨a.toArray⟩++⟨c.toArray⟩:ByteArray)=⟨(a++c).toArray⟩:=by
   rfl
  refine ⟨?_,by rfl⟩
  .have hs:¬ (((⟨a.toArray⟩:ByteArray).size+(⟨c.toArray⟩:ByteArray).size:Nat):Int)>IntKind.i64.max:=by
    simp_all [ByteArray.size]<;>omega
   simp_all [Sem.run_bind,Result.andThen_ok,binOp,Op.stringOp,if_neg,Sem.run_pure,Data.val]
 .cases h
def Xm (hρ:dm ck G I N w η ρ){o:Oper}{b:BinOp}{x y:y5}(hc:E3 P ck o (.bin b x y)=true){v:c8}{rs:List Nat}
  (h:o6 ρ H (.bin b x y)=some (v,rs)):Good P G I N w η o v:=by
 obtain ⟨dst,fq,ty,pos,after,guard⟩:=o;cases fq<;>simp [E3] at hc;rename_i b' t x' y' ty';obtain ⟨⟨rfl,hx⟩,hy⟩:=hc;have h1:=hρ _ _ hx;have h2:=hρ _ _ hy;simp [o6] at h;split at h
 .rename_i a c ha ux
  rw [ha] at h1;rw [ux] at h2;split at h
  .rename_i r hr
   obtain ⟨rfl,rfl⟩:=h;obtain ⟨z,g1,g2⟩:=Dw (P:=P) hr h1 h2 t x' y';exact ⟨z,by simp only [execOp];rw [Sem.run_bind,g1];rfl,by simp_all [VR]⟩
  .cases h
 .cases h
def uu (d:Nat){t e:TypeId}(he:P.underlying t=some (.slice e))(a:Addr)(l c:Nat):(Op.equalIn (d+1) t (.slice (some a) l c) (.slice Option.none 0 0)).run P w= .ok false w:=by
 simp [Op.equalIn,run_underlying he]
def zv {t e:TypeId}(he:P.underlying t=some (.slice e))(a:Addr)(l c:Nat):(Op.equal t (.slice (some a) l c) (.slice Option.none 0 0)).run P w= .ok false w:=uu 9999 he a l c
def zu (d:Nat){t:TypeId}{ms:Array (String×TypeId)}(he:P.underlying t=some (.interface ms)):(Op.equalIn (d+1) t .nilIface .nilIface).run P w= .ok true w:=by
 simp [Op.equalIn,run_underlying he]
def DD {t:TypeId}{ms:Array (String×TypeId)}(he:P.underlying t=some (.interface ms)):(Op.equal t .nilIface .nilIface).run P w= .ok true w:=zu 9999 he
def GJ (d:Nat){t:TypeId}(he:P.underlying t=some .bool)(a b:Bool):(Op.equalIn (d+1) t (.bool a) (.bool b)).run P w= .ok (a==b) w:=by
 simp [Op.equalIn,run_underlying he]
def Nq {t:TypeId}(he:P.underlying t=some .bool)(a b:Bool):(Op.equal t (.bool a) (.bool b)).run P w= .ok (a==b) w:=GJ 9999 he a b
def TT (hη:∀ v,η (.const v)=v)(hρ:dm ck G I N w η ρ){o:Oper}{neg:Bool}{x:y5}(hc:E3 P ck o (.BB neg x)=true){v:c8}{rs:List Nat}
  (h:o6 ρ H (.BB neg x)=some (v,rs)):Good P G I N w η o v:=by
 obtain ⟨dst,fq,ty,pos,after,guard⟩:=o;unfold E3 at hc;split at hc<;>try (cases hc)
 all_goals rename_i pI kA
 all_goals cases kA
 all_goals subst pI
 rename_i b t x' ty';simp [c7] at hc;obtain ⟨⟨hx,ht⟩,hb⟩:=hc;obtain ⟨e,he⟩:∃ e,P.underlying t=some (.slice e):=by
  grind
 have key:∃ a l c,η x' = .slice (some a) l c/\v= .d (.bool neg):=by
  simp [o6] at h
  .grind [VR,DR]
  all_goals grind [VR]
 obtain ⟨a,l,c,hx',rfl⟩:=key;refine ⟨.bool neg,?_,by simp [VR,DR]⟩;simp [execOp,hx',hη];cases neg<;>simp at hb<;>subst hb<;>simp [eqGuard,binOp]<;>simp [zv he]
def Xn (hρ:dm ck G I N w η ρ){o:Oper}{neg:Bool}{x y:y5}(hc:E3 P ck o (.s9 neg x y)=true){v:c8}{rs:List Nat}
  (h:o6 ρ H (.s9 neg x y)=some (v,rs)):Good P G I N w η o v:=by
 obtain ⟨dst,fq,ty,pos,after,guard⟩:=o;cases fq<;>simp [E3] at hc<;>try simp_all
 rename_i b t x' y' ty';obtain ⟨⟨⟨hx,hy⟩,ht⟩,hb⟩:=hc;have h1:=hρ _ _ hx;have h2:=hρ _ _ hy;have he:P.underlying t=some .bool:=by
  grind
 simp [o6] at h;split at h
 .rename_i a c ha ux
  obtain ⟨rfl,rfl⟩:=h;rw [ha] at h1;rw [ux] at h2;simp [VR,DR] at h1 h2;refine ⟨.bool (neg != (a==c)),?_,by simp [VR,DR]⟩;simp [execOp,h1,h2];cases neg<;>simp at hb<;>subst hb<;>simp [eqGuard,binOp]<;>simp [Nq he]
 .cases h
def TD {t:TypeId}{k:CK}(h:fL P t k=true):ep P t=some false:=by
 simp_all [ep,fL]<;>grind
def run_part_plain {t:TypeId}{k:CK}(h:fL P t k=true)(cs:Array Value)(off:Nat)(v:Value)(hv:cs[off]? =some v):(part t cs off).run P w= .ok v w:=by
 simp [part,cS (TD h),hv]
def uf {k:CK}{a b:Data}{r:Bool}(h:Data.Gu k a b=some r){u v:Value}(hu:DR G w a u)(hv:DR G w b v){t:TypeId}(ht:fL P t k=true)(d:Nat) :
  (Op.equalIn (d+1) t u v).run P w= .ok r w:=by
 unfold Data.Gu at h;split at h
 .subst hu hv
  split at h
  .rename_i hkk
   subst hkk;simp at h;subst h;simp [fL] at ht;split at ht
   .rename_i k2 hk2;simp [Op.equalIn,run_underlying hk2]
   .cases ht
  .cases h
 .subst hu hv
  simp at h;subst h;simp [fL] at ht;split at ht
  .rename_i h2;simp [Op.equalIn,run_underlying h2,beq_toListBytes]
  .cases ht
 .subst hu hv
  simp at h;subst h;simp [fL] at ht;split at ht
  .rename_i h2;simp [Op.equalIn,run_underlying h2]
  .cases ht
 .cases h
theorem lB (d:Nat)(xs ys:Array Value):∀ (fs:List Field) (n:Nat) (ks:List CK) (a b:List c8) (r:Bool),T7 P fs n ks=true->Q9 ks a b=some r ->
  (∀ (j:Nat) c,a[j]? =some c->∃ v,xs[n+j]? =some v/\VR G I N w .none c v)->(∀ (j:Nat) c,b[j]? =some c->∃ v,ys[n+j]? =some v/\VR G I N w .none c v) ->
  (Op.eqFields (d+1) xs ys fs).run P w= .ok r w
 |[],n,ks,a,b,r,hf,hc,_,_=>by
  cases ks with
  |nil =>
   unfold Q9 at hc;simp_all [Op.eqFields]<;>grind
  |cons=>simp [T7] at hf
 |f::fs,n,[],a,b,r,hf,hc,_,_=>by simp [T7] at hf
 |f::fs,n,k::ks,a,b,r,hf,hc,ha,hb=>by
  simp [T7,c7,beq_iff_eq] at hf;obtain ⟨⟨⟨h1,h2⟩,h3⟩,h4⟩:=hf;unfold Q9 at hc;split at hc
  .simp_all
  .rename_i k0 ks0 x a' y b' e1
   cases e1;split at hc
   .rename_i t ht
    split at hc
    .rename_i u hu
     obtain ⟨v1,g1,g2⟩:=ha 0 _ rfl;obtain ⟨v2,g3,g4⟩:=hb 0 _ rfl;have e1:=run_part_plain (w:=w) h2 xs n v1 g1;have e2:=run_part_plain (w:=w) h2 ys n v2 g3;have e3:=uf (P:=P) ht g2 g4 h2 d;have ih:=lB d xs ys fs (n+1) ks a' b' u h4 hu (fun j c hj=>by rw [show n+1+j=n+(j+1) from by omega];simp_all)
      (fun j c hj=>by rw [show n+1+j=n+(j+1) from by omega];simp_all)
     simp_all [Op.eqFields]<;>grind
    .cases hc
   .cases hc
  .cases hc
def uM {t:TypeId}{gs:Array Field}{m:Nat}(h:P.underlying t=some (.struct gs))(hi:(P.info? t).isSome=true)(hm:P.cellsOf t=m)(cs:Array Value)(off:Nat):(part t cs off).run P w= .ok (.agg (cs.extract off (off+m))) w:=by
 have h1:ep P t=some true:=by simp [ep,h]
 have h2:=run_sizeOf (w:=w) hi;rw [hm] at h2;simp [part,cS h1,h2]
theorem xR:∀ (m:Nat) (ks:List CK) (a b:List c8) (r:Bool),Q9 ks a b=some r->m<=ks.length->∃ r1 r2,Q9 (ks.take m) (a.take m) (b.take m)=some r1/\Q9 (ks.drop m) (a.drop m) (b.drop m)=some r2/\r=(r1&&r2)
 |0,ks,a,b,r,h,_=>⟨true,r,by simp [Q9],by simpa using h,by simp⟩
 |m+1,[],a,b,r,h,hm=>by simp at hm
 |m+1,k::ks,a,b,r,h,hm=>by
  unfold Q9 at h;split at h
  .simp_all
  .rename_i k0 ks0 x a' y b' e1
   cases e1;split at h
   .rename_i t ht
    split at h
    .rename_i u hu
     simp at h;subst h;obtain ⟨r1,r2,e1,e2,e3⟩:=xR m ks a' b' u hu (by simpa using hm);exact ⟨t&&r1,r2,by simp [Q9,ht,e1],by simpa using e2,by rw [e3,Bool.and_assoc]⟩
    .cases h
   .cases h
  .cases h
theorem pE {P:Program}:∀ (fs:List Field) (n:Nat) (ks:List CK),T7 P fs n ks=true->ks.length=fs.length
 |[],_,[],_=>rfl
 |[],_,_::_,h=>by simp [T7] at h
 |_::_,_,[],h=>by simp [T7] at h
 |f::fs,n,k::ks,h=>by
  simp only [T7,c7] at h;simp [pE fs _ ks h.2]
theorem jK (d:Nat)(xs ys:Array Value):∀ (fs:List Field) (n:Nat) (ks:List CK) (a b:List c8) (r:Bool),eG P fs n ks=true->Q9 ks a b=some r ->
  (∀ (j:Nat) c,a[j]? =some c->∃ v,xs[n+j]? =some v/\VR G I N w .none c v)->(∀ (j:Nat) c,b[j]? =some c->∃ v,ys[n+j]? =some v/\VR G I N w .none c v) ->
  (Op.eqFields (d+2) xs ys fs).run P w= .ok r w
 |[],n,ks,a,b,r,hf,hc,_,_=>by
  cases ks with
  |nil =>
   unfold Q9 at hc;split at hc<;>simp_all [Op.eqFields]
  |cons=>simp [eG] at hf
 |f::fs,n,ks,a,b,r,hf,hc,ha,hb=>by
  simp only [eG,c7,bne_iff_ne,beq_iff_eq] at hf;obtain ⟨⟨h1,h3⟩,hf⟩:=hf;split at hf
  .rename_i gs hgs
   simp only [c7,beq_iff_eq,o7] at hf;obtain ⟨⟨⟨⟨q1,q2⟩,q3⟩,q4⟩,q5⟩:=hf;have hl:=pE _ _ _ q3;have hm:gs.size<=ks.length:=by
    rw [List.length_take] at hl;simp at hl;omega
   obtain ⟨r1,r2,e1,e2,e3⟩:=xR gs.size ks a b r hc hm;have p1:=uM (w:=w) hgs q1 q2 xs n;have p2:=uM (w:=w) hgs q1 q2 ys n;have hff:P.fieldsOf f.type=gs:=by simp [Program.fieldsOf,hgs]
   have aP9:∀ (l:List c8) (zs:Array Value),(∀ (j:Nat) c,l[j]? =some c->∃ v,zs[n+j]? =some v/\VR G I N w .none c v)->∀ (j:Nat) c,(l.take gs.size)[j]? =some c->∃ v,(zs.extract n (n+gs.size))[0+j]? =some v/\VR G I N w .none c v:=by
    intro l zs hz j c hj;rw [List.getElem?_take] at hj;split at hj
    .rename_i hlt
     obtain ⟨v,g1,g2⟩:=hz j c hj;refine ⟨v,?_,g2⟩;have hsz:=(Array.getElem?_eq_some_iff.1 g1).1;rw [Array.getElem?_extract,if_pos (by omega),Nat.zero_add,g1]
    .cases hj
   have p3:=run_equalIn_struct (P:=P) w (d+1) f.type (xs.extract n (n+gs.size)) (ys.extract n (n+gs.size)) (by rw [hff];exact hgs) q4;rw [hff,lB (P:=P) (G:=G) (I:=I) (N:=N) d _ _ gs.toList 0 (ks.take gs.size) _ _ r1 q3 e1 (aP9 a xs ha) (aP9 b ys hb)] at p3;have ih:=jK d xs ys fs (n+gs.size) (ks.drop gs.size) (a.drop gs.size) (b.drop gs.size) r2 q5 e2 (fun j c hj=>by rw [List.getElem?_drop] at hj;rw [M6];exact ha _ c hj) (fun j c hj=>by rw [List.getElem?_drop] at hj;rw [M6];exact hb _ c hj);simp only [Op.eqFields,if_pos h1,Sem.run_bind,h3,p1,p2,p3,Result.andThen_ok];rw [e3];cases r1<;>simp [ih]
  .split at hf
   .rename_i k ks
    simp only [c7] at hf;obtain ⟨h2,h4⟩:=hf;unfold Q9 at hc;split at hc
    .simp_all
    .rename_i k0 ks0 x a' y b' e1
     cases e1;split at hc
     .rename_i t ht
      split at hc
      .rename_i u hu
       simp at hc;subst hc;obtain ⟨v1,g1,g2⟩:=ha 0 _ rfl;obtain ⟨v2,g3,g4⟩:=hb 0 _ rfl;simp only [VR] at g2 g4;rw [Nat.add_zero] at g1 g3;have e1:=run_part_plain (w:=w) h2 xs n v1 g1;have e2:=run_part_plain (w:=w) h2 ys n v2 g3;have e3:=uf (P:=P) ht g2 g4 h2 (d+1);have ih:=jK d xs ys fs (n+1) ks a' b' u h4 hu (fun j c hj=>by rw [show n+1+j=n+(j+1) from by omega];exact ha (j+1) c (by simpa using hj))
        (fun j c hj=>by rw [show n+1+j=n+(j+1) from by omega];exact hb (j+1) c (by simpa using hj))
       simp only [Op.eqFields,if_pos h1,Sem.run_bind,h3,e1,e2,e3,Result.andThen_ok];cases t<;>simp [ih]
      .cases hc
     .cases hc
    .cases hc
   .cases hf
def Xo (hρ:dm ck G I N w η ρ){o:Oper}{neg:Bool}{ks:List CK}{x y:y5}(hc:E3 P ck o (.Ip neg ks x y)=true){v:c8}{rs:List Nat}
  (h:o6 ρ H (.Ip neg ks x y)=some (v,rs)):Good P G I N w η o v:=by
 obtain ⟨dst,fq,ty,pos,after,guard⟩:=o;cases fq<;>simp only [E3,c7] at hc<;>try (cases hc;done)
 rename_i b t x' y' ty';obtain ⟨⟨⟨hx,hy⟩,ht⟩,hb⟩:=hc;have h1:=hρ _ _ hx;have h2:=hρ _ _ hy;unfold xY at ht;split at ht
 .rename_i fs GO
  simp only [c7,o7] at ht;simp only [o6] at h;split at h
  .rename_i a c ha ux
   split at h
   .rename_i r hr
    simp at h;obtain ⟨rfl,rfl⟩:=h;rw [ha] at h1;rw [ux] at h2;simp only [VR] at h1 h2;obtain ⟨xs,e1,e2⟩:=h1;obtain ⟨ys,e3,e4⟩:=h2;have hff:P.fieldsOf t=fs:=by simp [Program.fieldsOf,GO]
    have heq:=run_equalIn_struct (P:=P) w 9999 t xs ys (by rw [hff];exact GO) ht.1.2;rw [hff,jK (P:=P) (G:=G) (I:=I) (N:=N) 9997 xs ys fs.toList 0 ks a c r ht.1.1 hr
     (fun j u hu=>by obtain ⟨v,g1,g2⟩:=J4.get a _ e2 j u hu;exact ⟨v,by simpa using g1,g2⟩)
     (fun j u hu=>by obtain ⟨v,g1,g2⟩:=J4.get c _ e4 j u hu;exact ⟨v,by simpa using g1,g2⟩)] at heq
    refine ⟨.bool (neg != r),?_,by simp [VR,DR]⟩;simp only [execOp,e1,e3,Sem.run_bind,run_eqGuard_agg w b t x' y' xs ys ht.2,Result.andThen_ok];cases neg<;>simp at hb<;>subst hb
    .rw [run_eql_struct,heq];simp
    .rw [run_neq_struct,heq];simp
   .cases h
  .cases h
 .cases ht
end
section
variable {P:Program} {w:World} {ck:Operand->y5->Bool} {η:Operand->Value} {ρ:y5->c8} {G:Gh} {I:S7} {N:Nat->Prop} {H:p9}
def ah1 (hρ:dm ck G I N w η ρ){o:Oper}{b:UnOp}{x:y5}(hc:E3 P ck o (.un b x)=true){v:c8}{rs:List Nat}
  (h:o6 ρ H (.un b x)=some (v,rs)):Good P G I N w η o v:=by
 obtain ⟨dst,fq,ty,pos,after,guard⟩:=o;cases fq<;>simp [E3] at hc;rename_i b' t x';obtain ⟨rfl,hx⟩:=hc;have h1:=hρ _ _ hx;simp [o6] at h;split at h
 .rename_i a ha
  rw [ha] at h1;simp [VR] at h1;split at h
  .rename_i r hr
   obtain ⟨rfl,rfl⟩:=h;refine ⟨Data.val r,?_⟩;unfold Cu at hr;split at hr
   .simp [DR] at h1
    cases b' <;>simp at hr;subst hr;simp [execOp,h1,Op.unary,Op.intArith,Data.val,VR,DR]
   .simp [DR] at h1
    cases b' <;>simp at hr;subst hr;simp [execOp,h1,Op.unary,Data.val,VR,DR]
   .cases hr
  .cases h
 .cases h
def NY (hρ:dm ck G I N w η ρ){o:Oper}{k:IntKind}{x:y5}(hc:E3 P ck o (.oA k x)=true){v:c8}{rs:List Nat}
  (h:o6 ρ H (.oA k x)=some (v,rs)):Good P G I N w η o v:=by
 obtain ⟨dst,fq,ty,pos,after,guard⟩:=o;cases fq<;>simp [E3] at hc<;>try simp_all
 obtain ⟨⟨hx,hs⟩,hd⟩:=hc;have h1:=hρ _ _ hx;obtain ⟨ds,hds⟩:=Option.isSome_iff_exists.1 hs;split at hd
 .simp [o6] at h
  split at h
  .rename_i k2 n ha
   obtain ⟨rfl,rfl⟩:=h;rw [ha] at h1;simp [VR,DR] at h1;refine ⟨.int k (k.wrap n),?_,by simp [VR,DR]⟩;simp_all [execOp,convert,run_underlying,Conv.intToInt]
  .cases h
 .cases hd
theorem Ay:∀ (vs:List Value) (l:List Data) (bs:List UInt8),iw l=some bs->J4 G I N w (l.map .d) vs ->
  ∃ ns:List Int,vs=ns.map (Value.int .u8)/\bs=ns.map fun n=>UInt8.ofNat n.toNat
 |vs,[],bs,hb,hv=>by
  simp_all [iw,J4]
 |vs,a::as,bs,hb,hv=>by
  obtain ⟨x,xs,rfl,e2,e3⟩:=hv;unfold iw at hb;split at hb
  .simp_all
  .rename_i n r heq
   cases heq;split at hb
   .rename_i bs' Tq
    simp at hb;subst hb;subst e2;obtain ⟨ns,rfl,rfl⟩:=Ay xs as bs' Tq e3;exact ⟨n::ns,rfl,rfl⟩
   .cases hb
  .cases hb
theorem foldl_push:∀ (ns:List Int) (s:ByteArray),(ns.foldl (fun r n=>r.push (UInt8.ofNat n.toNat)) s)=⟨(s.data.toList++ns.map fun n=>UInt8.ofNat n.toNat).toArray⟩
 |[],s=>by simp
 |n::ns,s=>by
  rw [List.foldl_cons,foldl_push ns];simp
def Kx (hρ:dm ck G I N w η ρ){o:Oper}{x:y5}(hc:E3 P ck o (.lu x)=true){v:c8}{rs:List Nat}
  (h:o6 ρ H (.lu x)=some (v,rs)):Good P G I N w η o v:=by
 obtain ⟨dst,fq,ty,pos,after,guard⟩:=o;cases fq<;>simp [E3] at hc<;>try simp_all
 rename_i s d x';obtain ⟨⟨hx,hs⟩,hd⟩:=hc;have h1:=hρ _ _ hx;split at hs
 .rename_i e he
  split at hs
  .rename_i hu8
   split at hd
   .rename_i VY
    simp [o6] at h;split at h
    .rename_i len cells ha
     split at h
     .rename_i hlen
      split at h
      .rename_i bs Tq
       obtain ⟨rfl,rfl⟩:=h;rw [ha] at h1;refine ⟨.string ⟨bs.toArray⟩,?_,by simp [VR,DR]⟩
       rcases h1 with ⟨h1,h2,h3⟩|⟨b,off,cap,h1,h2,h3⟩
       .subst h3
        simp [iw] at Tq;subst Tq
        rcases h1 with h1|⟨a0,h1⟩
        .simp [execOp,h1,convert,run_underlying he,run_underlying VY,run_underlying hu8]
         rfl
        .have hl:(loadCells a0 0).run P w= .ok (([]:List Int).map (Value.int .u8)).toArray w:=by rfl
         simp [execOp,h1,Sem.run_bind,run_convert_bytes_string w s d e _ _ _ he hu8 VY];rfl
       .obtain ⟨vs,g1,g2,g3⟩:=fB.vals (I:=I) (N:=N) off cells h3
        have hl:=run_loadCells_list (P:=P) w (ad b off) vs (fun j v hj=>by simp_all [bw]);rw [g1,hlen] at hl;obtain ⟨ns,rfl,rfl⟩:=Ay (G:=G) (I:=I) (N:=N) vs cells bs Tq g3;simp only [execOp,h1,Sem.run_bind,run_convert_bytes_string w s d e _ _ _ he hu8 VY,run_bytesToString w (ad b off) len cap ns hl,foldl_push];simp
      .cases h
     .cases h
    .cases h
   .cases hd
  .cases hs
 .cases hs
def xO (hρ:dm ck G I N w η ρ){x:Option Operand}{y:Option y5}(hc:ckO ck x y=true){d:Nat}{n:Int}(h:X4 ρ d y=some n) :
  (x=none/\n=d)\/∃ x' k,x=some x' /\η x' = .int k n:=by
 cases y with
 |none =>
  grind [X4,ckO]
 |some y =>
  cases x with
  |none=>simp [ckO] at hc
  |some x =>
   grind [ckO,X4,VR,DR]
def xl (hρ:dm ck G I N w η ρ){lo hi:Option Operand}{lo' hi' :Option y5}(hl:ckO ck lo lo' =true)(hh:ckO ck hi hi' =true){len cap:Nat}{l h:Int}
  (bl:X4 ρ 0 lo' =some l) (bh:X4 ρ len hi' =some h) (h0:0<=l) (h1:l<=h) (h2:h<=len) (hcap:len<=cap) (b:Bool) :
  (Instr.sliceBounds b len cap (lo.map η) (hi.map η) none).run P w= .ok (l.toNat,h.toNat,cap) w:=by
 rcases xO hρ hl bl with ⟨rfl,rfl⟩|⟨x1,k1,rfl,e1⟩<;>rcases xO hρ hh bh with ⟨rfl,rfl⟩|⟨x2,k2,rfl,e2⟩
 .rfl
 .simp_all [Instr.sliceBounds,Instr.sliceBound,asIntOf]<;>omega
 all_goals (simp_all [Instr.sliceBounds,Instr.sliceBound,asIntOf]<;>grind)
def KB (hρ:dm ck G I N w η ρ){o:Oper}{sz:Nat}{x:y5}{lo hi:Option y5}(hc:E3 P ck o (.aW sz x lo hi)=true){v:c8}{rs:List Nat}
  (h:o6 ρ H (.aW sz x lo hi)=some (v,rs)):Good P G I N w η o v:=by
 obtain ⟨dst,fq,ty,pos,after,guard⟩:=o;unfold E3 at hc;split at hc<;>try (cases hc)
 all_goals rename_i pI kA
 all_goals cases kA
 all_goals subst pI
 rename_i t x' lo' hi';simp only [c7] at hc;obtain ⟨⟨⟨⟨hx,hl⟩,hh⟩,ht⟩,hsz⟩:=hc;have h1:=hρ _ _ hx;obtain ⟨e,hu,Tx,hie⟩:=jR ht;have hsize:(sizeOf e).run P w= .ok sz w:=by simp_all [run_sizeOf]
 simp [o6] at h;split at h
 .rename_i len cells hs
  split at h
  .rename_i l hi2 bl bh
   split at h
   .rename_i hb
    obtain ⟨rfl,rfl⟩:=h;rw [hs] at h1
    rcases h1 with ⟨h1,h2,h3⟩|⟨b,off,cap,h1,h2,h3⟩
    .subst h2 h3
     have hrb:=xl (P:=P) hρ hl hh bl bh hb.1 hb.2.1 hb.2.2.1 (n5 0) true;have hl0:l=0:=by omega
     have hh0:hi2=0:=by omega
     subst hl0 hh0
     rcases h1 with h1|⟨a0,h1⟩
     .refine ⟨.slice none 0 0,?_,by simp [VR,DR]⟩
      simp only [execOp,h1,Instr.sliceAt,Sem.run_bind,run_underlying hu,Result.andThen_ok,Instr.slice];simp_all
     .refine ⟨.slice (some a0) 0 0,?_,by simp [VR,DR]⟩
      simp only [execOp,h1,Instr.sliceAt,Sem.run_bind,run_underlying hu,Result.andThen_ok,Instr.slice];simp_all
    .have hrb:=xl (P:=P) hρ hl hh bl bh hb.1 hb.2.1 hb.2.2.1 h2 true
     refine ⟨.slice (if cap=l.toNat then some (ad b off) else (some (ad b off)).map (·.add (l.toNat * sz))) (hi2.toNat - l.toNat) (cap - l.toNat),?_,?_⟩
     .simp only [execOp,h1,Instr.sliceAt,Sem.run_bind,run_underlying hu,Result.andThen_ok,Instr.slice]
      simp_all
     .simp only [VR,DR]
      have e1:(hi2 - l).toNat=hi2.toNat - l.toNat:=by omega
      by_cases hcl:cap=l.toNat
      .grind
      .refine Or.inr ⟨b,off+l.toNat * sz,cap - l.toNat,?_,by omega,fB.drop _ _ _ (fB.take _ _ _ h3)⟩
       simp_all [if_neg,bw]
   .cases h
  .cases h
 .rename_i id z a len hs
  split at h
  .rename_i l hi2 bl bh
   split at h
   .rename_i hb
    rw [hs] at h1;obtain ⟨g1,cap,g2,g3,c,e',f,g4,g5⟩:=h1;have hrb:=xl (P:=P) hρ hl hh bl bh hb.1 hb.2.1 hb.2.2.1 g3 true;have e1:(hi2 - l).toNat=hi2.toNat - l.toNat:=by omega
    have hrun:(execOp η ⟨dst,.slice t x' lo' hi' none,ty,pos,after,guard⟩).run P w =
      .ok (.value (.slice (if cap=l.toNat then some (ad (I id).1 ((I id).2+a)) else (some (ad (I id).1 ((I id).2+a))).map (·.add (l.toNat * sz))) (hi2.toNat - l.toNat) (cap - l.toNat))) w:=by
     simp only [execOp,g2,Instr.sliceAt,Sem.run_bind,run_underlying hu,Result.andThen_ok,Instr.slice];simp_all
    refine ⟨_,hrun,?_⟩;split at h
    .rename_i hlh
     obtain ⟨rfl,rfl⟩:=h;simp [VR,DR]
     by_cases hcl:cap=l.toNat
     all_goals simp_all [if_pos,Nat.sub_self,fB,if_neg,bw]
    .obtain ⟨rfl,rfl⟩:=h
     have hcl:¬ cap=l.toNat:=by omega
     refine ⟨g1,cap - l.toNat,?_,by omega,c,e',f,g4,?_⟩
     .simp_all [if_neg,bw,M6]
     .have hz:z=sz:=hb.2.2.2
      subst hz;have:cap * z=(cap - l.toNat) * z+l.toNat * z:=by rw [<- Nat.add_mul];grind
      omega
   .cases h
  .cases h
 .cases h
end
section
variable {P:Program} {w:World} {ck:Operand->y5->Bool} {η:Operand->Value} {ρ:y5->c8} {G:Gh} {I:S7} {N:Nat->Prop} {H:p9}
def Xq (hρ:dm ck G I N w η ρ){o:Oper}{k:Nat}{x:y5}(hc:E3 P ck o (.off k x)=true){v:c8}{rs:List Nat}
  (h:o6 ρ H (.off k x)=some (v,rs)):Good P G I N w η o v:=by
 obtain ⟨dst,fq,ty,pos,after,guard⟩:=o;cases fq<;>simp [E3] at hc<;>try simp_all
 rename_i s x' f;obtain ⟨hx,hs⟩:=hc;split at hs
 .split at hs
  .rename_i fd hfd
   simp [c7,decide_eq_true_eq] at hs;have aQ7:(P.info? fd.type).isSome=true:=by
    cases hi:P.info? fd.type with
    |none=>simp_all [Program.cellsOf]
    |some i=>rfl
   have hsz:(sizeOf fd.type).run P w= .ok (P.cellsOf fd.type) w:=run_sizeOf aQ7;have hne:¬ P.cellsOf fd.type=0:=by omega
   have hrun:∀ b off,η x' = .pointer (some (ad b off))->(execOp η ⟨dst,.fieldAddr s x' f,ty,pos,after,guard⟩).run P w= .ok (.value (.pointer (some (ad b (off+k))))) w:=by
    simp_all [execOp,Instr.fieldAt,Sem.run_bind,run_underlying,Result.andThen_ok,Instr.sureAddr,Sem.run_pure,fieldPlace,if_neg,bw]
   simp [o6] at h;split at h
   .grind [VR,M6]
   all_goals grind [VR,fB.drop]
  .cases hs
 .cases hs
def TN (hρ:dm ck G I N w η ρ){o:Oper}{sz:Nat}{x i:y5}(hc:E3 P ck o (.N8 sz x i)=true){v:c8}{rs:List Nat}
  (h:o6 ρ H (.N8 sz x i)=some (v,rs)):Good P G I N w η o v:=by
 obtain ⟨dst,fq,ty,pos,after,guard⟩:=o;cases fq<;>simp [E3] at hc<;>try simp_all
 rename_i t x' i';obtain ⟨⟨hx,hi⟩,ht⟩:=hc;have h1:=hρ _ _ hx;have h2:=hρ _ _ hi;obtain ⟨e,hu,Tx,hie⟩:=jR ht;have hsize:(sizeOf e).run P w= .ok sz w:=by simp_all [run_sizeOf]
 have hrun:∀ (b off len cap:Nat) (k:IntKind) (n:Int),η x' = .slice (some (ad b off)) len cap->η i' = .int k n->0<=n->n<len ->
   (execOp η ⟨dst,.indexAddr t x' i',ty,pos,after,guard⟩).run P w= .ok (.value (.pointer (some (ad b (off+n.toNat * sz))))) w:=by
  intro b off len cap k n e1 e2 e3 e4;have hb:(0<=n/\n<(len:Int)):=⟨e3,e4⟩;simp [execOp,e1,e2,Instr.indexAt,run_underlying hu,asIntOf,hsize,hb,bw]
 simp [o6] at h;split at h
 .rename_i len cells k n hp hq
  split at h
  .rename_i hb
   obtain ⟨rfl,rfl⟩:=h;rw [hp] at h1;rw [hq] at h2
   rcases h1 with ⟨_,h0,_⟩|⟨b,off,cap,g1,g2,g3⟩
   .omega
   .exact ⟨_,hrun b off len cap k n g1 h2 hb.1 hb.2,by exact ⟨b,_,rfl,fB.drop _ _ _ g3⟩⟩
  .cases h
 all_goals grind [VR,DR,M6]
def TP (hρ:dm ck G I N w η ρ){o:Oper}{m sz:Nat}{x i:y5}(hc:E3 P ck o (.gG m sz x i)=true){v:c8}{rs:List Nat}
  (h:o6 ρ H (.gG m sz x i)=some (v,rs)):Good P G I N w η o v:=by
 obtain ⟨dst,fq,ty,pos,after,guard⟩:=o;cases fq<;>simp [E3] at hc<;>try simp_all
 rename_i t x' i';obtain ⟨⟨hx,hi⟩,ht⟩:=hc;have h1:=hρ _ _ hx;have h2:=hρ _ _ hi;split at ht
 .rename_i m' e hu
  simp [c7,beq_iff_eq] at ht;obtain ⟨⟨rfl,Tx⟩,hie⟩:=ht;have hsize:(sizeOf e).run P w= .ok sz w:=by simp_all [run_sizeOf]
  have hrun:∀ (b off:Nat) (k:IntKind) (n:Int),η x' = .pointer (some (ad b off))->η i' = .int k n->0<=n->n<m' ->
    (execOp η ⟨dst,.indexAddr t x' i',ty,pos,after,guard⟩).run P w= .ok (.value (.pointer (some (ad b (off+n.toNat * sz))))) w:=by
   intro b off k n e1 e2 e3 e4;have hb:(0<=n/\n<(m' :Int)):=⟨e3,e4⟩;simp [execOp,e1,e2,Instr.indexAt,run_underlying hu,asIntOf,hsize,hb,bw,Instr.sureAddr]
  simp [o6] at h;split at h
  .grind [VR,DR,M6]
  .rename_i cells k n hp hq
   split at h
   .rename_i hb
    obtain ⟨rfl,rfl⟩:=h;rw [hp] at h1;rw [hq] at h2;obtain ⟨b,off,g1,g2⟩:=h1;exact ⟨_,hrun _ _ k n g1 h2 hb.1 hb.2,by exact ⟨b,_,rfl,fB.drop _ _ _ g2⟩⟩
   .cases h
  .cases h
 .cases ht
def TQ (hρ:dm ck G I N w η ρ){o:Oper}{x i:y5}(hc:E3 P ck o (.I9 x i)=true){v:c8}{rs:List Nat}
  (h:o6 ρ H (.I9 x i)=some (v,rs)):Good P G I N w η o v:=by
 obtain ⟨dst,fq,ty,pos,after,guard⟩:=o;cases fq<;>simp [E3] at hc<;>try simp_all
 obtain ⟨⟨hx,hi⟩,ht⟩:=hc;have h1:=hρ _ _ hx;have h2:=hρ _ _ hi;split at ht
 .simp [o6] at h
  split at h
  .rename_i s k n hp hq
   split at h
   .split at h
    .rename_i b hb
     obtain ⟨rfl,rfl⟩:=h;rw [hp] at h1;rw [hq] at h2;simp [VR,DR] at h1 h2;refine ⟨.int .u8 b.toNat,?_,by simp [VR,DR]⟩;have hsz:(⟨s.toArray⟩:ByteArray).size=s.length:=by rfl
     have hlt:n.toNat<s.length:=by
      grind
     have hg:(⟨s.toArray⟩:ByteArray)[n.toNat]? =some b:=by
      rw [getElem?_pos _ _ (by omega)];rw [n9 hlt] at hb;simp at hb;subst hb;rfl
     simp_all [execOp,Instr.index,run_underlying,asIntOf]
    .cases h
   .cases h
  .cases h
 .cases ht
def Hs (hρ:dm ck G I N w η ρ){o:Oper}{x:y5}{i:Nat}(hc:E3 P ck o (.extract x i)=true){v:c8}{rs:List Nat}
  (h:o6 ρ H (.extract x i)=some (v,rs)):Good P G I N w η o v:=by
 obtain ⟨dst,fq,ty,pos,after,guard⟩:=o;cases fq<;>simp [E3] at hc;rename_i x' i';obtain ⟨hx,rfl⟩:=hc;have h1:=hρ _ _ hx;simp [o6] at h;split at h
 .rename_i vs hp
  split at h
  .rename_i u hu
   simp at h;obtain ⟨rfl,rfl⟩:=h;rw [hp] at h1;obtain ⟨cs,g1,g2⟩:=h1;obtain ⟨z,e1,e2⟩:=J4.get vs _ g2 i' u hu;refine ⟨z,?_,e2⟩;simp_all [execOp,Instr.extract]
  .cases h
 .cases h
def Xp (hρ:dm ck G I N w η ρ){o:Oper}{x:y5}(hc:E3 P ck o (.len x)=true){v:c8}{rs:List Nat}
  (h:o6 ρ H (.len x)=some (v,rs)):Good P G I N w η o v:=by
 obtain ⟨dst,fq,ty,pos,after,guard⟩:=o;unfold E3 at hc;split at hc<;>try (cases hc)
 all_goals rename_i pI kA
 all_goals cases kA
 rename_i args argTypes;split at hc
 .rename_i x' t ha hb
  simp [c7] at hc;obtain ⟨hx,ht⟩:=hc;split at ht
  .rename_i e hu
   have hrun:∀ a len cap,η x' = .slice a len cap->(execOp η ⟨dst,.call ⟨.builtin .len,args,argTypes⟩,ty,pos,after,guard⟩).run P w= .ok (.value (.int .i64 len)) w:=by
    intro a len cap hη;have h0:(args.map η)[0]? =some (.slice a len cap):=by simp [ha,hη]
    simp [execOp,resolve,invoke,builtin,Builtin.len_,hb,h0,run_underlying hu,goInt]
   simp [o6] at h
   .grind [VR,DR,i64]
   all_goals grind [VR,DR,i64]
  .cases ht
 .cases hc
def TR (hρ:dm ck G I N w η ρ){o:Oper}{x:y5}(hc:E3 P ck o (.W5 x)=true){v:c8}{rs:List Nat}
  (h:o6 ρ H (.W5 x)=some (v,rs)):Good P G I N w η o v:=by
 obtain ⟨dst,fq,ty,pos,after,guard⟩:=o;unfold E3 at hc;split at hc<;>try (cases hc)
 all_goals rename_i pI kA
 all_goals cases kA
 all_goals subst pI
 rename_i args argTypes;split at hc
 .rename_i x' t ha hb
  simp [c7] at hc;obtain ⟨hx,ht⟩:=hc;have h1:=hρ _ _ hx;split at ht
  .rename_i hu
   simp [o6] at h;split at h
   .rename_i s hp
    obtain ⟨rfl,rfl⟩:=h;rw [hp] at h1;simp [VR,DR] at h1;have h0:(args.map η)[0]? =some (.string ⟨s.toArray⟩):=by simp [ha,h1]
    have hsz:(⟨s.toArray⟩:ByteArray).size=s.length:=by rfl
    refine ⟨.int .i64 s.length,?_,by rfl⟩;simp [execOp,resolve,invoke,builtin,Builtin.len_,hb,h0,run_underlying hu,goInt,hsz]
   .cases h
  .cases ht
 .cases hc
theorem ER.length:∀ (l:List (Key×c8)) (es:List MapEntry),ER G I N w l es->es.length=l.length
 |[],es,h=>by simp [ER] at h;simp [h]
 |(k,v)::r,es,h=>by
  simp only [ER] at h;obtain ⟨e,es',rfl,_,_,h4⟩:=h;simp [ER.length r es' h4]
theorem jx (hρ:dm ck G I N w η ρ):∀ (xs:List Operand) (ys:List y5),Va ck xs ys=true->J4 G I N w (ys.map ρ) (xs.map η)
 |[],[],_=>by simp [J4]
 |x::xs,y::ys,h=>by
  simp [Va,c7] at h;exact ⟨_,_,rfl,hρ _ _ h.1,jx hρ xs ys h.2⟩
 |[],_::_,h=>by simp [Va] at h
 |_::_,[],h=>by simp [Va] at h
def KA (hρ:dm ck G I N w η ρ){o:Oper}{f:FuncId}{a b:List y5}(hc:E3 P ck o (.aT f a b)=true){v:c8}{rs:List Nat}
  (h:o6 ρ H (.aT f a b)=some (v,rs)):Good P G I N w η o v:=by
 obtain ⟨dst,fq,ty,pos,after,guard⟩:=o;unfold E3 at hc;split at hc<;>try (cases hc)
 all_goals rename_i pI kA
 all_goals cases kA
 all_goals subst pI
 rename_i f' first caps
 simp [c7,beq_iff_eq] at hc;obtain ⟨⟨rfl,h1⟩,h2⟩:=hc;obtain ⟨rfl,rfl⟩:=h;refine ⟨.func (.func f') (first.map η) (caps.map η),by rfl,?_⟩;exact ⟨_,_,rfl,by simpa using jx hρ _ _ h1,by simpa using jx hρ _ _ h2⟩
theorem By:∀ (as:List c8) (vs:List Value) (r:Data) (k:IntKind) (n:Int),fN true (.int k n) as=some r->J4 G I N w as vs ->
  ∃ m,r= .int k m/\(vs.foldlM Builtin.max2 (.int k n)).run P w= .ok (.int k m) w
 |[],vs,r,k,n,h,hv=>by
  simp_all [fN,J4]
 |x::xs,vs,r,k,n,h,hv=>by
  obtain ⟨u,us,rfl,e2,e3⟩:=hv;unfold fN at h;split at h
  .simp_all
  .rename_i b r' heq
   cases heq;split at h
   .rename_i c hc
    unfold zS at hc;split at hc
    .rename_i k1 x1 k2 y1 e1
     cases e1;simp at hc;subst hc;subst e2;obtain ⟨m,g1,g2⟩:=By xs us r k _ h e3;simp_all [List.foldlM_cons,Sem.run_bind,Builtin.max2,Sem.run_pure,Result.andThen_ok]
    .cases hc
   .cases h
  .cases h
theorem Bz:∀ (as:List c8) (vs:List Value) (r:Data) (k:IntKind) (n:Int),fN false (.int k n) as=some r->J4 G I N w as vs ->
  ∃ m,r= .int k m/\(vs.foldlM Builtin.min2 (.int k n)).run P w= .ok (.int k m) w
 |[],vs,r,k,n,h,hv=>by
  simp_all [fN,J4]
 |x::xs,vs,r,k,n,h,hv=>by
  obtain ⟨u,us,rfl,e2,e3⟩:=hv;unfold fN at h;split at h
  .simp_all
  .rename_i b r' heq
   cases heq;split at h
   .rename_i c hc
    unfold zS at hc;split at hc
    .rename_i k1 x1 k2 y1 e1
     cases e1;simp at hc;subst hc;subst e2;obtain ⟨m,g1,g2⟩:=Bz xs us r k _ h e3;simp_all [List.foldlM_cons,Sem.run_bind,Builtin.min2,Sem.run_pure,Result.andThen_ok]
    .cases hc
   .cases h
  .cases h
def JZ {b:Bool}{a r:Data}{l:List c8}(h:fN b a l=some r)(hne:l≠[]):∃ k n,a= .int k n:=by
 cases l with
 |nil=>simp_all
 |cons x xs =>
  unfold fN at h;simp_all [zS]<;>grind
def Kz (hρ:dm ck G I N w η ρ){o:Oper}{b:Bool}{ys:List y5}(hc:E3 P ck o (.iU b ys)=true){v:c8}{rs:List Nat}
  (h:o6 ρ H (.iU b ys)=some (v,rs)):Good P G I N w η o v:=by
 obtain ⟨dst,fq,ty,pos,after,guard⟩:=o;unfold E3 at hc;split at hc<;>try (cases hc)
 all_goals rename_i pI kA
 all_goals cases kA
 all_goals simp [c7] at hc
 all_goals obtain ⟨hc,hl⟩:=hc
 all_goals have h1:=jx hρ _ _ hc
 all_goals simp [o6] at h
 all_goals split at h
 all_goals try (cases h)
 all_goals rename_i a r heq
 all_goals split at h
 all_goals rename_i c ux
 all_goals obtain ⟨rfl,rfl⟩:=h
 all_goals rw [heq] at h1
 all_goals obtain ⟨x,xs,e1,e2,e3⟩:=h1
 all_goals have hne:r≠[]:=fun hr=>by simp_all [List.length]<;>grind
 all_goals obtain ⟨k,n,rfl⟩:=JZ ux hne
 all_goals subst e2
 .obtain ⟨m,rfl,g2⟩:=By (P:=P) r xs c k n ux e3
  refine ⟨.int k m,?_,by simp [VR,DR]⟩;simp_all [execOp,resolve,invoke,builtin,Builtin.max_,Sem.run_bind,Sem.run_pure,Result.andThen_ok]
 .obtain ⟨m,rfl,g2⟩:=Bz (P:=P) r xs c k n ux e3
  refine ⟨.int k m,?_,by simp [VR,DR]⟩;simp_all [execOp,resolve,invoke,builtin,Builtin.min_,Sem.run_bind,Sem.run_pure,Result.andThen_ok]
def rO (R:Value->Bool->Prop):List MapEntry->Nat->Option (Nat×Value)->Prop
 |[],_,q=>q=none
 |e::es,i,q=>(R e.key true/\q=some (i,e.val))\/(R e.key false/\rO R es (i+1) q)
def oz (P:Program)(w:World)(t:TypeId)(d:TypeDesc)(u:Value):KK->Value->Bool->Prop
 | .st _,v,r=>(Op.equal t u v).run P w= .ok r w/\Instr.sameNow d u v=none
 |_,v,r=>Instr.sameNow d u v=some r
def PE {G:Gh}{w:World}{I:S7}{N:Nat->Prop}(l:List KD)(j:Nat)(c:c8)(h:(l.map KD.av)[j]? =some c):∃ v,(l.map KD.val).toArray[0+j]? =some v/\VR G I N w .none c v:=by
 simp only [List.getElem?_map,Option.map_eq_some_iff] at h;obtain ⟨x,hx,rfl⟩:=h;exact ⟨x.val,by simp [hx],by cases x<;>simp [KD.av,KD.val,VR,DR]⟩
def uN {kk:KK}{a b:Key}{r:Bool}(h:Data.fI kk a b=some r){t:TypeId}{d:TypeDesc}(ht:wU P t kk=true)(hd:P.underlying t=some d):oz P w t d a.val kk b.val r:=by
 unfold Data.fI at h;split at h
 .split at h
  .rename_i hkk
   subst hkk;simp at h;subst h;simp only [wU,fL,hd] at ht;split at ht
   .rename_i hx;cases hx;simp [oz,Key.val,Instr.sameNow]
   .cases ht
  .cases h
 .simp at h;subst h
  simp only [wU,fL,hd] at ht;split at ht
  .rename_i hx;cases hx;simp [oz,Key.val,Instr.sameNow,beq_toListBytes]
  .cases ht
 .simp at h;subst h
  simp only [wU,fL,hd] at ht;split at ht
  .rename_i hx;cases hx;simp [oz,Key.val,Instr.sameNow]
  .cases ht
 .rename_i ks l m
  simp only [wU,jM,hd] at ht;split at ht
  .rename_i fs GO
   cases GO;simp only [c7,o7] at ht;have hff:P.fieldsOf t=fs:=by simp [Program.fieldsOf,hd]
   have heq:=run_equalIn_struct (P:=P) w 9999 t (l.map KD.val).toArray (m.map KD.val).toArray (by rw [hff];exact hd) ht.1.2;rw [hff,lB (P:=P) (G:=fun _=> .free) (I:=fun _=>(0,0)) (N:=fun _=>False) 9998 _ _ fs.toList 0 ks _ _ r ht.1.1 h (PE l) (PE m)] at heq;exact ⟨heq,by simp [Key.val,Instr.sameNow]⟩
  .cases ht
 .cases h
theorem Jm {kk:KK}{t:TypeId}{d:TypeDesc}(ht:wU P t kk=true)(hd:P.underlying t=some d){key:Key} :
  ∀ (l:List (Key×c8)) (es:List MapEntry) (i:Nat) (r:Option c8),ER G I N w l es->dZ kk key l=some r ->
   ∃ q,rO (oz P w t d key.val kk) es i q/\(match r,q with
    |none,none=>True
    |some a,some (_,v)=>VR G I N w .none a v
    |_,_=>False)
 |[],es,i,r,hE,h=>by
  simp [ER] at hE;subst hE;simp [dZ] at h;subst h;exact ⟨none,rfl,trivial⟩
 |(k',v')::rest,es,i,r,hE,h=>by
  simp only [ER] at hE;obtain ⟨e,es',rfl,h2,h3,h4⟩:=hE;unfold dZ at h;split at h
  .rename_i hk
   simp at h;subst h;exact ⟨some (i,e.val),.inl ⟨h2 ▸ uN hk ht hd,rfl⟩,h3⟩
  .rename_i hk
   obtain ⟨q,g1,g2⟩:=Jm ht hd rest es' (i+1) r h4 h;exact ⟨q,.inr ⟨h2 ▸ uN hk ht hd,g1⟩,g2⟩
  .cases h
def pz {kk:KK}{t:TypeId}{d:TypeDesc}(hd:P.underlying t=some d){u:Value}{es:List MapEntry}{q:Option (Nat×Value)}(h:rO (oz P w t d u kk) es 0 q):(Instr.findKey t u es).run P w= .ok q w:=by
 have plain:(∀ v r,oz P w t d u kk v r->Instr.sameNow d u v=some r)->(Instr.findKey t u es).run P w= .ok q w:=by
  intro hp;have:∀ (es:List MapEntry) (i:Nat),rO (oz P w t d u kk) es i q->Instr.findNow d u es i=some q:=by
   intro es
   induction es with
   |nil=>intro i h;simp only [rO] at h;simp [Instr.findNow,h]
   |cons e es ih =>
    intro i h
    rcases h with ⟨h1,rfl⟩|⟨h1,h2⟩
    .simp [Instr.findNow,hp _ _ h1]
    .simp [Instr.findNow,hp _ _ h1,ih _ h2]
  simp [Instr.findKey,run_underlying hd,this es 0 h]
 cases kk with
 |i=>exact plain fun _ _ h=>h
 |s=>exact plain fun _ _ h=>h
 |b=>exact plain fun _ _ h=>h
 |st ks =>
  have ask:∀ (es:List MapEntry) (i:Nat),rO (oz P w t d u (.st ks)) es i q->(Instr.findAsking t u es i).run P w= .ok q w:=by
   intro es
   induction es with
   |nil=>intro i h;simp only [rO] at h;simp [Instr.findAsking,h]
   |cons e es ih =>
    intro i h
    rcases h with ⟨h1,rfl⟩|⟨h1,h2⟩
    .simp [Instr.findAsking,h1.1]
    .simp [Instr.findAsking,h1.1,ih _ h2]
  have:=ask es 0 h;cases es with
  |nil=>simp only [rO] at h;simp [Instr.findKey,run_underlying hd,Instr.findNow,h]
  |cons e es =>
   have h0:Instr.sameNow d u e.key=none:=by
    rcases h with ⟨h1,_⟩|⟨h1,_⟩<;>exact h1.2
   simp [Instr.findKey,run_underlying hd,Instr.findNow,h0,this]
def gX {k:CK}{t:TypeId}(ht:fL P t k=true)(b:Bool)(n:Nat)(u:Value):(Instr.checkKey b (n+1) t u).run P w= .ok () w:=by
 cases k<;>simp only [fL] at ht<;>split at ht<;>first|(cases ht;done)|(rename_i hu;simp [Instr.checkKey,run_underlying hu])
def jI {kk:KK}{t:TypeId}(ht:wU P t kk=true){key:Key}(hf:kk.fits key=true)(b:Bool)(n:Nat):(Instr.checkKey b (n+2) t key.val).run P w= .ok () w:=by
 have fields (l:List KD):∀ (fs:List Field) (n0:Nat) (ks:List CK) (m:List KD),T7 P fs n0 ks=true->(Q9 ks (m.map KD.av) (m.map KD.av)).isSome=true->(∀ j x,m[j]? =some x->(l.map KD.val).toArray[n0+j]? =some x.val) ->
   Sem.run P (forIn fs PUnit.unit fun (f : Field) (_ : PUnit) => if f.name ≠ "_" then do
    let v <- part f.type (l.map KD.val).toArray f.offset
    Instr.checkKey b (n+1) f.type v
    pure (ForInStep.yield PUnit.unit) else pure (ForInStep.yield PUnit.unit)) w= .ok PUnit.unit w:=by
  intro fs
  induction fs with
  |nil=>intro n0 ks m _ _ _;simp
  |cons f fs ih =>
   intro n0 ks m hf hc hm;cases ks with
   |nil=>simp [T7] at hf
   |cons k ks =>
    simp only [T7,c7,bne_iff_ne,beq_iff_eq] at hf;obtain ⟨⟨⟨h1,h2⟩,h3⟩,h4⟩:=hf;cases m with
    |nil=>simp [Q9] at hc
    |cons x m =>
     have oC:(Q9 ks (m.map KD.av) (m.map KD.av)).isSome=true:=by
      cases x<;>simp only [L8,KD.av,Q9] at hc<;>split at hc<;>first|(split at hc<;>simp_all)|simp_all
     have e1:=run_part_plain (w:=w) h2 (l.map KD.val).toArray n0 x.val (hm 0 x rfl);simp only [List.forIn_cons,Sem.run_bind,if_pos h1,h3,e1,Result.andThen_ok,gX h2,Sem.run_pure];exact ih (n0+1) ks m h4 oC fun j y hy=>by rw [show n0+1+j=n0+(j+1) from by omega];exact hm (j+1) y (by simpa using hy)
 cases kk with
 |i=>exact gX (k:= .i) ht b _ _
 |s=>exact gX (k:= .s) ht b _ _
 |b=>exact gX (k:= .b) ht b _ _
 |st ks =>
  simp only [wU,jM] at ht;split at ht
  .rename_i fs GO
   simp only [c7,o7] at ht;cases key<;>simp only [KK.fits,j4] at hf;rename_i l;rw [Instr.checkKey];simp only [Key.val,Sem.run_bind,run_underlying GO,Result.andThen_ok];rw [<- Array.forIn_toList,fields l fs.toList 0 ks l ht.1.1 hf (fun j x hj=>by simp [hj])];simp
  .cases ht
theorem PF:∀ (l:List c8) (r:List KD) (xs:List Value),NI l=some r->J4 G I N w l xs->xs=r.map KD.val
 |[],r,xs,h,hv=>by simp [NI] at h;subst h;simpa [J4] using hv
 |v::l,r,xs,h,hv=>by
  simp only [J4] at hv;obtain ⟨x,ys,rfl,h1,h2⟩:=hv;unfold NI at h;split at h
  .rename_i e;cases e
  all_goals first|(cases h;done)|skip
  all_goals rename_i e;cases e
  all_goals split at h<;>first|(cases h;done)|skip
  all_goals
   rename_i r' hr;cases h;rw [PF _ r' ys hr h2];simp only [VR,DR] at h1;simp [h1,KD.val]
def GV {v:c8}{k:Key}{pl:Place}{x:Value}(h:v.NJ =some k)(hv:VR G I N w pl v x):x=k.val:=by
 unfold c8.NJ at h;split at h
 .cases h;simpa [VR,DR,Key.val] using hv
 .cases h;simpa [VR,DR,Key.val] using hv
 .cases h;simpa [VR,DR,Key.val] using hv
 .split at h
  .rename_i r hr
   cases h;simp only [VR] at hv;obtain ⟨cs,rfl,h2⟩:=hv;have:=PF _ r _ hr h2;simp [Key.val,<- this]
  .cases h
 .cases h
def Pj {kk:KK}{k:Key}{r:Bool}(h:Data.fI kk k k=some r):kk.fits k=true:=by
 unfold Data.fI at h;unfold KK.fits;split at h<;>simp_all
def Ky (hρ:dm ck G I N w η ρ)(hH:HR G I N w H){o:Oper}{kk:KK}{zero:c8}{ok:Bool}{m k:y5}(hc:E3 P ck o (.lookup kk zero ok m k)=true){v:c8}{rs:List Nat}
  (h:o6 ρ H (.lookup kk zero ok m k)=some (v,rs)):Good P G I N w η o v:=by
 obtain ⟨dst,fq,ty,pos,after,guard⟩:=o;cases fq<;>simp only [E3,c7,beq_iff_eq] at hc<;>try (cases hc;done)
 rename_i t m' k' WK;obtain ⟨⟨⟨rfl,hm⟩,hk⟩,ht⟩:=hc;have h1:=hρ _ _ hm;have h2:=hρ _ _ hk;split at ht
 .rename_i kt et hu
  simp only [c7] at ht;obtain ⟨hkt,hz⟩:=ht;split at hz
  .rename_i it hit
   split at hz
   .rename_i z hzz
    have hzero:(zeroValue et).run P w= .ok z w:=by simp [zeroValue,typeInfo,hit,hzz]
    have hzr:VR G I N w .none zero z:=dJ _ _ hz;obtain ⟨dk,hdk⟩:∃ d,P.underlying kt=some d:=by
     cases hd:P.underlying kt with
     |none=>cases kk<;>simp [wU,fL,jM,hd] at hkt
     |some d=>exact ⟨d,rfl⟩
    simp only [o6] at h;split at h
    .rename_i id key hp hq
     rw [hp] at h1;simp only [VR] at h1;have h2:=GV hq h2;split at h
     .rename_i es he
      split at h
      .rename_i r hr hfit
       simp at h;obtain ⟨rfl,rfl⟩:=h;have hO:=hH id _ he;simp only [OR] at hO;obtain ⟨_,arr,gm,g1,_,g3,_⟩:=hO;obtain ⟨q,f1,f2⟩:=Jm (P:=P) hkt hdk es arr.toList 0 r g3 hr;have hgo:(getObj (I id).1).run P w= .ok (.map arr gm) w:=by simp [getObj,Sem.run,g1]
       have hfk:(Instr.findKey kt (η k') arr.toList).run P w= .ok q w:=by rw [h2];exact pz hdk f1
       have hck:=fun b=>h2 ▸ jI (P:=P) (w:=w) hkt hfit b 9998
       cases r with
       |none =>
        cases q with
        |some q=>exact f2.elim
        |none =>
         refine ⟨if WK then .tuple #[z,.bool false] else z,?_,?_⟩
         .cases WK <;>simp [execOp,h1.2,Instr.lookup,run_underlying hu,hgo,hck,hfk,hzero]
         .cases WK
          .simpa using hzr
          .simp only [VR,Option.getD_none,Option.isSome_none,if_true]
           exact ⟨_,rfl,by simp [J4,VR,DR,hzr]⟩
       |some a =>
        cases q with
        |none=>exact f2.elim
        |some q =>
         obtain ⟨qi,qv⟩:=q;refine ⟨if WK then .tuple #[qv,.bool true] else qv,?_,?_⟩
         .cases WK <;>simp [execOp,h1.2,Instr.lookup,run_underlying hu,hgo,hck,hfk]
         .cases WK
          .simpa using f2
          .simp only [VR,Option.getD_some,Option.isSome_some,if_true]
           exact ⟨_,rfl,by simp [J4,VR,DR];exact f2⟩
      .cases h
     .cases h
    .rename_i key hp hq
     rw [hp] at h1;simp only [VR,DR] at h1;have h2:=GV hq h2;split at h
     .rename_i hkk
      simp at h;obtain ⟨rfl,rfl⟩:=h;have hck:=fun b=>h2 ▸ jI (P:=P) (w:=w) hkt (Pj hkk) b 9998
      have hfk:(Instr.findKey kt (η k') []).run P w= .ok none w:=by simp [Instr.findKey,run_underlying hdk,Instr.findNow]
      refine ⟨if WK then .tuple #[z,.bool false] else z,?_,?_⟩
      .cases WK <;>simp [execOp,h1,Instr.lookup,run_underlying hu,hck,hfk,hzero]
      .cases WK
       .simpa using hzr
       .simp only [VR,if_true]
        exact ⟨_,rfl,by simp [J4,VR,DR,hzr]⟩
     .cases h
    .cases h
   .cases hz
  .cases hz
 .cases ht
end
def DK (vs:List Value):Prop:=∀ v ∈ vs,v.oneCell' =true
def O8 (l:List Value)(off:Nat)(vs:List Value):List Value:=l.take off++vs++l.drop (off+vs.length)
section
variable {P:Program} {w:World} {ck:Operand->y5->Bool} {η:Operand->Value} {ρ:y5->c8} {G:Gh} {I:S7} {N:Nat->Prop} {H:p9}
theorem J4.append:∀ (a:List c8) (xs:List Value) (b:List c8) (ys:List Value),J4 G I N w a xs->J4 G I N w b ys->J4 G I N w (a++b) (xs++ys)
 |[],xs,b,ys,h,k=>by simp_all [J4]
 |a::as,xs,b,ys,h,k=>by
  obtain ⟨x,xs',rfl,h2,h3⟩:=h;exact ⟨x,xs' ++ys,rfl,h2,J4.append as xs' b ys h3 k⟩
theorem J4.take:∀ (n:Nat) (a:List c8) (xs:List Value),J4 G I N w a xs->J4 G I N w (a.take n) (xs.take n)
 |0,_,_,_=>by simp [J4]
 |n+1,[],xs,h=>by simp_all [J4]
 |n+1,a::as,xs,h=>by
  obtain ⟨x,xs',rfl,h2,h3⟩:=h;exact ⟨x,xs'.take n,rfl,h2,J4.take n as xs' h3⟩
theorem J4.drop:∀ (n:Nat) (a:List c8) (xs:List Value),J4 G I N w a xs->J4 G I N w (a.drop n) (xs.drop n)
 |0,_,_,h=>by simpa using h
 |n+1,[],xs,h=>by simp_all [J4]
 |n+1,a::as,xs,h=>by
  obtain ⟨x,xs',rfl,h2,h3⟩:=h;exact J4.drop n as xs' h3
theorem J4.splice {a b:List c8}{xs ys:List Value}(h:J4 G I N w a xs)(k:J4 G I N w b ys)(off:Nat):J4 G I N w (splice a off b) (O8 xs off ys):=by
 grind [A2.splice,O8,J4.length,J4.append,J4.take,J4.drop]
theorem mO {a:c8}(ha:a.one=true){pl:Place}{x:Value}(h:VR G I N w pl a x):x.oneCell' =true/\x.cells= #[x]:=by
 cases a<;>simp [c8.one] at ha
 .rename_i d
  cases d<;>simp [VR] at h
  all_goals first
   |(subst h;exact ⟨rfl,rfl⟩)
   |(rcases h with ⟨h|⟨a0,h⟩,_⟩|⟨b,o,cap,h,_⟩<;>(subst h;exact ⟨rfl,rfl⟩))
 .obtain ⟨_,h⟩:=h;subst h;exact ⟨rfl,rfl⟩
 .obtain ⟨b,o,h,_⟩:=h;subst h;exact ⟨rfl,rfl⟩
 .obtain ⟨_,cap,h,_⟩:=h;subst h;exact ⟨rfl,rfl⟩
 .obtain ⟨_,h⟩:=h
  rcases h with ⟨h|⟨b,o,h⟩,_⟩|⟨_,b,o,cap,c,e,f,h,_⟩<;>(subst h;exact ⟨rfl,rfl⟩)
 .subst h;exact ⟨rfl,rfl⟩
 .obtain ⟨x,y,h,_⟩:=h;subst h;exact ⟨rfl,rfl⟩
 .obtain ⟨_,h⟩:=h;subst h;exact ⟨rfl,rfl⟩
theorem nZ:∀ (l:List c8) (xs:List Value),l.all c8.one=true->J4 G I N w l xs->DK xs
 |[],xs,_,h=>by subst h;intro v hv;cases hv
 |a::as,xs,ha,h=>by
  simp only [List.all_cons,c7] at ha;obtain ⟨x,xs',rfl,h2,h3⟩:=h;intro v hv
  rcases B8.1 hv with rfl|hv
  .grind [mO]
  .exact nZ as xs' ha.2 h3 v hv
def xS {a:c8}{l:List c8}(ha:a.cells? =some l){x:Value}(h:VR G I N w .none a x):J4 G I N w l x.cells.toList/\DK x.cells.toList:=by
 unfold c8.cells? at ha;split at ha
 .split at ha
  .rename_i hall
   simp at ha;subst ha;obtain ⟨cs,rfl,h2⟩:=h;exact ⟨h2,nZ _ _ hall h2⟩
  .cases ha
 .split at ha
  .rename_i hone
   simp at ha;subst ha;obtain ⟨h1,h2⟩:=mO hone h;refine ⟨?_,fun v hv=> ?_⟩
   all_goals simp_all [J4]
  .cases ha
theorem En (off:Nat):∀ (vs:List Value) (k:Nat) (cs:Array Value),off+k+vs.length<=cs.size ->
  ((vs.zipIdx k).foldl (fun (cs:Array Value) (p:Value×Nat)=>cs.setIfInBounds (off+p.2) p.1) cs).toList=cs.toList.take (off+k)++vs++cs.toList.drop (off+k+vs.length)
 |[],k,cs,_=>by simp
 |v::vs,k,cs,h=>by
  simp [p8] at h;rw [List.zipIdx_cons,List.foldl_cons,En off vs (k+1) _ (by simp;omega)];have hlt:off+k<cs.toList.length:=by simp;omega
  simp [Array.toList_setIfInBounds];rw [show off+(k+1)=off+k+1 from by omega];rw [List.take_succ_eq_append_getElem (by simp_all)];rw [List.drop_set_of_lt (by omega)];simp [List.take_set_of_le (n5 _),p8]
  grind
def Tm {off:Nat}{v:Value}{cs:Array Value}(h:off+v.cells.size<=cs.size) :
  v.cells.zipIdx.foldl (fun cs (c,j)=>cs.setIfInBounds (off+j) c) cs=(O8 cs.toList off v.cells.toList).toArray:=by
 have:=En off v.cells.toList 0 cs (by simpa using h);have e:v.cells.zipIdx.foldl (fun cs (c,j)=>cs.setIfInBounds (off+j) c) cs=(v.cells.toList.zipIdx 0).foldl (fun (cs:Array Value) (p:Value×Nat)=>cs.setIfInBounds (off+p.2) p.1) cs:=by
  rw [<- Array.foldl_toList];simp
 grind [Array.toList_inj,O8]
theorem nL (hρ:dm ck G I N w η ρ){place:Nat->Option (Nat×Nat)}:∀ (parts:List (Nat×Operand)) (ps:List (Nat×Nat×y5)) (l cs:List c8) (xs:Array Value),
  kI P ck place parts ps=true->J4 G I N w l xs.toList->cg l (ps.map fun (o,s,x)=>(o,s,ρ x))=some cs ->
  ∃ ys:Array Value,Instr.fill place xs (parts.map fun (i,x)=>(i,η x))=some ys/\J4 G I N w cs ys.toList
 |[],[],l,cs,xs,_,hl,h=>by
  simp [cg] at h;subst h;exact ⟨xs,rfl,hl⟩
 |(i,x)::r,(off,sz,y)::q,l,cs,xs,hp,hl,h=>by
  simp [kI,c7,beq_iff_eq] at hp;obtain ⟨⟨h1,h2⟩,h3⟩:=hp;simp [L8,cg] at h;split at h
  .rename_i l' hl'
   split at h
   .obtain ⟨g1,g2⟩:=xS hl' (hρ _ _ h2)
    have hlen:(η x).cells.size=sz:=by
     have:=J4.length _ _ g1;simp_all
    have hlx:xs.size=l.length:=by
     have:=J4.length _ _ hl;omega
    have qU:J4 G I N w (splice l off l') ((O8 xs.toList off (η x).cells.toList).toArray).toList:=by
     simp_all [J4.splice]
    obtain ⟨ys,e1,e2⟩:=nL hρ r q _ cs _ h3 qU h;refine ⟨ys,?_,e2⟩;have hc:¬ ((η x).cells.size≠sz||off+(η x).cells.size>xs.size)=true:=by
     simp_all
    simp only [L8,Instr.fill,h1];rw [if_neg hc,Tm (by omega)];exact e1
   .cases h
  .cases h
 |[],_::_,_,_,_,hp,_,_=>by simp [kI] at hp
 |_::_,[],_,_,_,hp,_,_=>by simp [kI] at hp
def ox {t:TypeId}{l:List c8}(h:CF P t l=true):∃ i z,P.info? t=some i/\i.zero=some z/\J4 G I N w l z.cells.toList:=by
 grind [CF,fG]
def NX (hρ:dm ck G I N w η ρ){o:Oper}{zero:List c8}{ps:List (Nat×Nat×y5)}(hc:E3 P ck o (.build zero ps)=true){v:c8}{rs:List Nat}
  (h:o6 ρ H (.build zero ps)=some (v,rs)):Good P G I N w η o v:=by
 obtain ⟨dst,fq,ty,pos,after,guard⟩:=o;cases fq<;>simp [E3] at hc<;>try simp_all
 rename_i t parts;simp [o6] at h;split at h
 .rename_i cs hcs
  obtain ⟨rfl,rfl⟩:=h;have key:∃ ys:Array Value,P.built t (parts.toList.map fun (i,x)=>(i,η x))=some ys/\J4 G I N w cs ys.toList:=by
   split at hc
   .split at hc
    .simp [c7] at hc
     obtain ⟨it,z,e1,e2,e3⟩:=ox (G:=G) (I:=I) (N:=N) (w:=w) hc.1;obtain ⟨ys,f1,f2⟩:=nL hρ parts.toList ps zero cs z.cells hc.2 e3 hcs;simp_all [xW,Program.built]
    .cases hc
   .split at hc
    .simp [c7] at hc
     obtain ⟨it,z,e1,e2,e3⟩:=ox (G:=G) (I:=I) (N:=N) (w:=w) hc.1;obtain ⟨ys,f1,f2⟩:=nL hρ parts.toList ps zero cs z.cells hc.2 e3 hcs;simp_all [Program.built]
    .cases hc
   .cases hc
  obtain ⟨ys,e1,e2⟩:=key;refine ⟨.agg ys,?_,by simp_all [VR]⟩;simp_all [run_build,execOp,Sem.run_bind]
 .cases h
def Ob (hη:∀ v,η (.const v)=v)(hρ:dm ck G I N w η ρ)(hH:HR G I N w H){o:Oper}{op:x9}(hc:E3 P ck o op=true){v:c8}{rs:List Nat}
  (h:o6 ρ H op=some (v,rs)):Good P G I N w η o v:=by
 cases op
 case pick=>exact TU hρ hc h
 case build=>exact NX hρ hc h
 case load=>exact TS hρ hH hc h
 case aV=>exact NZ hρ hc h
 case bin=>exact Xm hρ hc h
 case un=>exact ah1 hρ hc h
 case BB=>exact TT hη hρ hc h
 case s9=>exact Xn hρ hc h
 case Ip=>exact Xo hρ hc h
 case oA=>exact NY hρ hc h
 case lu=>exact Kx hρ hc h
 case aW=>exact KB hρ hc h
 case off=>exact Xq hρ hc h
 case N8=>exact TN hρ hc h
 case gG=>exact TP hρ hc h
 case I9=>exact TQ hρ hc h
 case extract=>exact Hs hρ hc h
 case len=>exact Xp hρ hc h
 case W5=>exact TR hρ hc h
 case iU=>exact Kz hρ hc h
 case aT=>exact KA hρ hc h
 case lookup=>exact Ky hρ hH hc h
 all_goals simp_all [E3]
end
variable [C9]
def jD (G:Gh)(b:Nat)(l:SH):Gh:=fun x=>if x=b then l else G x
def Cz (I:S7)(id:Nat)(p:Nat×Nat):S7:=fun x=>if x=id then p else I x
@[simp] theorem qt (G:Gh) (b:Nat) (l:SH):jD G b l b=l:=by simp [jD]
theorem K7 {G:Gh}{b:Nat}{l:SH}{x:Nat}(h:x≠b):jD G b l x=G x:=by simp [jD,h]
@[simp] theorem eY (I:S7) (id:Nat) (p:Nat×Nat):Cz I id p id=p:=by simp [Cz]
def gP {I:S7}{id:Nat}{p:Nat×Nat}{x:Nat}(h:x≠id):Cz I id p x=I x:=by simp [Cz,h]
def mb (l:H7)(G:Gh)(w:World)(G' :Gh)(w' :World):Prop :=
 ∀ id,l.may id=false->(∀ b,G b= .obj id->G' b= .obj id/\w'.heap[b]? =w.heap[b]?)/\∀ off,bZ (.cell id off) G w G' w'
theorem mb.refl (l:H7)(G:Gh)(w:World):mb l G w G w:=fun _ _=>⟨fun _ h=>⟨h,rfl⟩,fun _ _ _ h=>⟨h,rfl⟩⟩
theorem mb.trans {l:H7}{G:Gh}{w:World}{G1:Gh}{w1:World}{G2:Gh}{w2:World}(h:mb l G w G1 w1)(k:mb l G1 w1 G2 w2):mb l G w G2 w2:=by
 intro id hid;obtain ⟨h1,h2⟩:=h id hid;obtain ⟨k1,k2⟩:=k id hid;refine ⟨fun b hb=> ?_,fun off b n hb=> ?_⟩
 .simp_all
 .obtain ⟨a1,a2⟩:=h2 off b n hb
  obtain ⟨b1,b2⟩:=k2 off b n a1;simp_all
def SG (l:H7)(H:p9):Prop :=
 ∀ id o,H[id]? =some o->(id<l.strict->o.O5<=id+1)/\(id<l.base->o.O5<=l.base)
def Iy (_P:Program)(idle:FuncId->Bool)(d:Deferred):Prop :=
 ∃ f cap,d.target= .fn (.func f) cap/\idle f=true
structure RI (X:Cx)(l:H7)(S:Nat->Prop)(st:H6)(a:Act)(w:World)(G:Gh)(I:S7)(N:Nat->Prop):Prop where
 T:∀ (s:Nat) t,X.names[s]? =some t->VR G I N w (.slot s) (st.T.getD s .any) (a.tmps.getD t undef)
 L:∀ (j:Nat),S j->∀ d,(X.ops[j]?).bind (·.dst)=some d->X.names.contains d=false->VR G I N w (.loc j) (st.L.getD j .any) (a.tmps.getD d undef)
 H:HR G I N w st.H
 wf:WF G w
 W4:SG l st.H
def Gg {G:Gh}{b n:Nat}{pl yu :Place}(h:G b= .grow n pl)(x o:Nat):jv (jD G b (.grow n yu)) x o↔jv G x o:=by
 grind [jv,jD]
def Ext.relabel {G:Gh}{w:World}{b n:Nat}{pl yu :Place}(h:G b= .grow n pl):Ext G w (jD G b (.grow n yu)) w where
 os:=rfl
 tape:=rfl
 output:=rfl
 drawn _:=n5 _
 size:=n5 _
 lX x o hi:=⟨(Gg h x o).2 hi,rfl⟩
 still x hx:=by
  grind [K7]
 shape _ c _ _ hc:=⟨c,hc,rfl⟩
def bZ.relabel {G:Gh}{w:World}{b n:Nat}{pl yu q:Place}(h:G b= .grow n pl)(hq:q≠pl):bZ q G w (jD G b (.grow n yu)) w:=by
 intro x m hx
 grind [K7]
structure kB (pl:Place)(G:Gh)(w:World)(G' :Gh):Prop where
 ext:Ext G w G' w
 keeps:∀ q,q≠pl->bZ q G w G' w
 obj:∀ b id,G b= .obj id->G' b= .obj id
 wf:WF G w->WF G' w
theorem kB.refl (pl:Place)(G:Gh)(w:World):kB pl G w G:=⟨Ext.refl _ _,fun _ _ _ _ h=>⟨h,rfl⟩,fun _ _ h=>h,fun h=>h⟩
def jV {G:Gh}{I:S7}{N:Nat->Prop}{w:World}{pl yu :Place}(hp' :yu ≠ .none){sz len:Nat}{cells:List Data}{x:Value}(h:VR G I N w pl (.own sz len cells) x) :
  ∃ G',kB pl G w G' /\VR G' I N w yu (.own sz len cells) x:=by
 obtain ⟨hl,h⟩:=h
 rcases h with h|⟨hp,b,o,cap,c,e,f,h1,h2,h3,h4,h5,h6,h7⟩
 .exact ⟨G,kB.refl _ _ _,by simp_all [VR]⟩
 .refine ⟨jD G b (.grow (o+len * sz) yu),⟨Ext.relabel h6,fun q hq=>bZ.relabel h6 hq,fun x id hx=> ?_,fun hwf x hx=> ?_⟩,?_⟩
  .grind [K7]
  .have:x≠b:=by
    grind
   rw [K7 this];exact hwf x hx
  .exact ⟨hl,Or.inr ⟨hp',b,o,cap,c,e,f,h1,h2,h3,h4,h5,qt _ _ _,fB.mono (Ext.relabel h6).lX b o cells h7⟩⟩
def P6 {α:Type}(l:List α)(i:Nat)(v d:α)(h:i<l.length):(l.set i v).getD i d=v:=by
 simp_all
theorem R2 {α:Type}(l:List α)(i j:Nat)(v d:α)(h:i≠j):(l.set i v).getD j d=l.getD j d:=by
 simp_all
theorem u7 {α:Type}{l:List α}{i:Nat}{v:α}(h:l[i]? =some v):i<l.length:=by
 grind
def bA {α:Type}{l:List α}{i:Nat}{v d:α}(h:l[i]? =some v):l.getD i d=v:=by simp_all
section
variable {X:Cx} {l:H7} {S:Nat->Prop} {st:H6} {a:Act} {w:World} {G:Gh} {I:S7} {N:Nat->Prop}
def HR.Ka {H:p9}{pl:Place}(hH:HR G I N w H){G' :Gh}(hm:kB pl G w G')(Bj:∀ id off,pl≠ .cell id off):HR G' I N w H:=by
 intro id o ho;exact OR.mono hm.ext (fun _ _=>rfl) (fun _ h=>h) id o (fun h=>⟨hm.obj _ _ h,rfl⟩) (fun off=>hm.keeps _ (fun e=>Bj id off e.symm)) (hH id o ho)
def RI.Yn (h:RI X l S st a w G I N){s:Nat}{sz len:Nat}{cells:List Data}(hs:st.T[s]? =some (.own sz len cells))(p7:List Touch)
  {G' :Gh} (hm:kB (.slot s) G w G'):RI X l S { st with T:=st.T.set s (.d (.slice len cells)),p7 } a w G' I N where
 T s' t ht:=by
  by_cases he:s' =s
  .subst he
   have h1:=h.T s' t ht;rw [bA hs] at h1;rw [P6 _ _ _ _ (u7 hs)];have h2:VR G I N w (.slot s') (c8.J3 (.own sz len cells)) (a.tmps.getD t undef):=h1.J3;exact DR.mono hm.ext.lX _ _ h2
  .rw [R2 _ _ _ _ _ (fun e=>he e.symm)]
   exact VR.mono hm.ext (fun _ _=>rfl) (fun _ h=>h) _ _ _ (Or.inr (hm.keeps _ (fun e=>he (by cases e;rfl)))) (h.T s' t ht)
 L j hj d hd hn:=VR.mono hm.ext (fun _ _=>rfl) (fun _ h=>h) _ _ _ (Or.inr (hm.keeps _ (fun e=>by cases e))) (h.L j hj d hd hn)
 H:=h.H.Ka hm (fun _ _ e=>by cases e)
 wf:=hm.wf h.wf
 W4:=h.W4
def RI.Qo (h:RI X l S st a w G I N){j0:Nat}{sz len:Nat}{cells:List Data}(hs:st.L[j0]? =some (.own sz len cells))
  {G' :Gh} (hm:kB (.loc j0) G w G'):RI X l S { st with L:=st.L.set j0 (.d (.slice len cells)) } a w G' I N where
 T s' t ht:=VR.mono hm.ext (fun _ _=>rfl) (fun _ h=>h) _ _ _ (Or.inr (hm.keeps _ (fun e=>by cases e))) (h.T s' t ht)
 L j hj d hd hn:=by
  by_cases he:j=j0
  .subst he
   have h1:=h.L j hj d hd hn;rw [bA hs] at h1;rw [P6 _ _ _ _ (u7 hs)];have h2:VR G I N w (.loc j) (c8.J3 (.own sz len cells)) (a.tmps.getD d undef):=h1.J3;exact DR.mono hm.ext.lX _ _ h2
  .rw [R2 _ _ _ _ _ (fun e=>he e.symm)]
   exact VR.mono hm.ext (fun _ _=>rfl) (fun _ h=>h) _ _ _ (Or.inr (hm.keeps _ (fun e=>he (by cases e;rfl)))) (h.L j hj d hd hn)
 H:=h.H.Ka hm (fun _ _ e=>by cases e)
 wf:=hm.wf h.wf
 W4:=h.W4
theorem nD:∀ (l:List c8) (i:Nat) (x:Data),C5 (l.set i (.d x))<=C5 l
 |[],_,_=>by simp
 |v::vs,0,x=>by grind [C5,c8.O5]
 |v::vs,i+1,x=>by
  have:=nD vs i x
  grind [C5]
def RI.Ym (h:RI X l S st a w G I N){id off:Nat}{cs:List c8}{sz len:Nat}{cells:List Data}(hid:st.H[id]? =some (.cells cs))(hs:cs[off]? =some (.own sz len cells))(p7:List Touch)
  {G' :Gh} (hm:kB (.cell id off) G w G'):RI X l S { st with H:=st.H.set id (.cells (cs.set off (.d (.slice len cells)))),p7 } a w G' I N where
 T s' t ht:=by
  exact VR.mono hm.ext (fun _ _=>rfl) (fun _ h=>h) _ _ _ (Or.inr (hm.keeps _ (fun e=>by cases e))) (h.T s' t ht)
 L j hj d hd hn:=by
  exact VR.mono hm.ext (fun _ _=>rfl) (fun _ h=>h) _ _ _ (Or.inr (hm.keeps _ (fun e=>by cases e))) (h.L j hj d hd hn)
 H:=by
  intro id' o ho
  by_cases he:id' =id
  .subst he
   rw [L0 (u7 hid)] at ho;cases ho;have hO:=h.H id' _ hid;obtain ⟨hN,c,e,f,h1,h2,h3,h4,h5⟩:=hO
   .refine ⟨hN,c,e,f,h1,hm.obj _ _ h2,h3,by simp_all,fun i x hx=> ?_⟩
    by_cases hi:i=off
    .subst hi
     rw [L0 (u7 hs)] at hx;cases hx;obtain ⟨v,g1,g2⟩:=h5 i _ hs;refine ⟨v,g1,?_⟩;have h2:VR G I N w (.cell id' i) (c8.J3 (.own sz len cells)) v:=g2.J3;exact DR.mono hm.ext.lX _ _ h2
    .rw [B5 (fun e=>hi e.symm)] at hx
     obtain ⟨v,g1,g2⟩:=h5 i x hx;exact ⟨v,g1,VR.mono hm.ext (fun _ _=>rfl) (fun _ h=>h) _ _ _ (Or.inr (hm.keeps _ (fun e=>hi (by cases e;rfl)))) g2⟩
  .rw [B5 (fun e=>he e.symm)] at ho
   exact OR.mono hm.ext (fun _ _=>rfl) (fun _ h=>h) id' o (fun h=>⟨hm.obj _ _ h,rfl⟩) (fun off' =>hm.keeps _ (fun e=>he (by cases e;rfl))) (h.H id' o ho)
 wf:=hm.wf h.wf
 W4:=by
  intro id' o ho
  by_cases he:id' =id
  .subst he
   rw [L0 (u7 hid)] at ho;obtain ⟨d1,d2⟩:=h.W4 id' _ hid
   grind [nD,A1.O5]
  .rw [B5 (fun e=>he e.symm)] at ho
   exact h.W4 id' o ho
end
end Go.A2
namespace Go.A2
variable [C9]
structure kC (w w' :World)(o:Obj):Prop where
 os:w'.os=w.os
 tape:w'.tape=w.tape
 output:w'.output=w.output
 drawn:w.drawn<=w'.drawn
 size:w'.heap.size=w.heap.size+1
 old:∀ b,b<w.heap.size->w'.heap[b]? =w.heap[b]?
 new:w'.heap[w.heap.size]? =some o
theorem kC.alloc (w:World)(o:Obj):kC w (w.alloc o) o :=
 ⟨rfl,rfl,rfl,n5 _,by simp,fun b hb=>RowKit.Below.heap_alloc w o b hb,by show (w.heap.push o)[w.heap.size]? =_;simp⟩
def kC.drew {w w' :World}{o:Obj}(h:kC w w' o)(n:Nat)(hn:w'.drawn<=n):kC w { w' with drawn:=n } o:=⟨h.os,h.tape,h.output,F9 h.drawn hn,h.size,h.old,h.new⟩
def br {G:Gh}{w:World}(hwf:WF G w){b:Nat}(h:G b≠ .free):b<w.heap.size:=by
 rcases A5 b w.heap.size with h' |h'
 .exact h'
 .exact absurd (hwf b h') h
section
variable {G:Gh} {w w' :World} {ob:Obj}
theorem kC.cell (hn:kC w w' ob){b:Nat}(hb:b<w.heap.size)(o:Nat):w'.cell? (ad b o)=w.cell? (ad b o):=by
 simp [World.cell?,hn.old b hb]
theorem kC.ext (hn:kC w w' ob)(hwf:WF G w)(mI:SH):Ext G w (jD G w.heap.size mI) w' where
 os:=hn.os
 tape:=hn.tape
 output:=hn.output
 drawn _:=hn.drawn
 size:=by rw [hn.size];omega
 lX b o hi:=by
  have hb:b<w.heap.size:=br hwf (by intro e;simp [jv,e] at hi);have hne:b≠w.heap.size:=by omega
  refine ⟨?_,hn.cell hb o⟩;unfold jv at hi ⊢;rw [K7 hne];exact hi
 still b hb:=by
  have hlt:b<w.heap.size:=br hwf (by rintro e;rw [e] at hb;rcases hb with hb|⟨n,hb⟩<;>cases hb);exact ⟨K7 (by omega),hn.old b hlt⟩
 shape b c e f hc:=by
  have hlt:b<w.heap.size:=by
   rcases A5 b w.heap.size with h|h
   .exact h
   .rw [Array.getElem?_eq_none h] at hc;cases hc
  exact ⟨c,by rw [hn.old b hlt];exact hc,rfl⟩
def kC.keeps (hn:kC w w' ob)(hwf:WF G w)(mI:SH)(q:Place):bZ q G w (jD G w.heap.size mI) w' :=by
 intro b n hb;have hlt:b<w.heap.size:=br hwf (by rw [hb];simp);exact ⟨by grind [K7],hn.old b hlt⟩
def kC.BE (hn:kC w w' ob)(hwf:WF G w)(mI:SH)(id:Nat):∀ b,G b= .obj id->(jD G w.heap.size mI) b= .obj id/\w'.heap[b]? =w.heap[b]? :=by
 intro b hb;have hlt:b<w.heap.size:=br hwf (by rw [hb];simp);exact ⟨by grind [K7],hn.old b hlt⟩
def kC.wf (hn:kC w w' ob)(hwf:WF G w)(mI:SH):WF (jD G w.heap.size mI) w' :=by
 intro b hb;rw [hn.size] at hb;rw [K7 (by omega)];exact hwf b (by omega)
def kC.fu (hn:kC w w' ob)(hwf:WF G w)(mI:SH)(l:H7):mb l G w (jD G w.heap.size mI) w' :=
 fun id _=>⟨hn.BE hwf mI id,fun off=>hn.keeps hwf mI (.cell id off)⟩
def kC.hr (hn:kC w w' ob)(hwf:WF G w)(mI:SH){I I' :S7}{N N' :Nat->Prop}{H:p9}(hI:∀ id,N id->I' id=I id)(hN:∀ id,N id->N' id)(h:HR G I N w H) :
  HR (jD G w.heap.size mI) I' N' w' H :=
 fun id o ho=>OR.mono (hn.ext hwf mI) hI hN id o (fun hb=>hn.BE hwf mI id _ hb) (fun _=>hn.keeps hwf mI _) (h id o ho)
def kC.vr (hn:kC w w' ob)(hwf:WF G w)(mI:SH){I I' :S7}{N N' :Nat->Prop}(hI:∀ id,N id->I' id=I id)(hN:∀ id,N id->N' id){pl:Place}{a:c8}{x:Value}(h:VR G I N w pl a x) :
  VR (jD G w.heap.size mI) I' N' w' pl a x :=
 VR.mono (hn.ext hwf mI) hI hN pl a x (Or.inr (hn.keeps hwf mI pl)) h
end
structure dG (X:Cx)(l:H7)(S:Nat->Prop)(entry:Nat)(st:H6)(a:Act)(w:World)(G:Gh)(I:S7)(N:Nat->Prop)
  (st' :H6) (k:Nat) (x' :Value) (w' :World) (G' :Gh) (I' :S7) (N' :Nat->Prop):Prop where
 ri:RI X l S st' a w' G' I' N'
 val:VR G' I' N' w' (.loc k) (st'.L.getD k .any) x'
 ext:Ext G w G' w'
 fu:mb l G w G' w'
 ko:∀ id,N id->st'.p7.any (Touch.L4 id)=false->I' id=I id/\∀ b,G b= .obj id->G' b= .obj id/\w'.heap[b]? =w.heap[b]?
 inj:∀ id,id<entry->N id->I' id=I id
 mono:∀ id,N id->N' id
 len:st.H.length<=st'.H.length
 hle:∀ id o',id<l.base->st'.H[id]? =some o' ->o'.O5<=id+1\/∃ o,st.H[id]? =some o/\o'.O5<=o.O5
section
variable {P:Program} {X:Cx} {l:H7} {S:Nat->Prop} {st:H6} {a:Act} {w w' :World} {G:Gh} {I:S7} {N:Nat->Prop} {ob:Obj}
def RI.new (h:RI X l S st a w G I N)(hn:kC w w' ob)(mI:SH):RI X l S st a w' (jD G w.heap.size mI) I N where
 T s t ht:=hn.vr h.wf mI (fun _ _=>rfl) (fun _ h=>h) (h.T s t ht)
 L j hj d hd hN:=hn.vr h.wf mI (fun _ _=>rfl) (fun _ h=>h) (h.L j hj d hd hN)
 H:=hn.hr h.wf mI (fun _ _=>rfl) (fun _ h=>h) h.H
 wf:=hn.wf h.wf mI
 W4:=h.W4
theorem RI.put (h:RI X l S st a w G I N){k:Nat}(hk:¬ S k)(v:c8):RI X l S (put st k v) a w G I N where
 T:=h.T
 L j hj d hd hN:=by
  have:k≠j:=by grind
  simp only [A2.put];rw [R2 _ _ _ _ _ this];exact h.L j hj d hd hN
 H:=h.H
 wf:=h.wf
 W4:=h.W4
def dG.same (h:RI X l S st a w G I N){k:Nat}(hk:¬ S k)(bS:k<st.L.length)(entry:Nat){v:c8}{x:Value}(hv:VR G I N w (.loc k) v x) :
  dG X l S entry st a w G I N (put st k v) k x w G I N where
 ri:=h.put hk v
 val:=by simp_all [A2.put,P6]
 ext:=Ext.refl _ _
 fu:=mb.refl _ _ _
 ko _ _ _:=⟨rfl,fun _ hb=>⟨hb,rfl⟩⟩
 inj _ _ _:=rfl
 mono _ h:=h
 len:=n5 _
 hle _ o _ ho:=Or.inr ⟨o,ho,n5 _⟩
def dG.fresh (h:RI X l S st a w G I N){k:Nat}(hk:¬ S k)(bS:k<st.L.length)(entry:Nat)(hn:kC w w' ob)(mI:SH){v:c8}{x:Value}
  (hv:VR (jD G w.heap.size mI) I N w' (.loc k) v x):dG X l S entry st a w G I N (put st k v) k x w' (jD G w.heap.size mI) I N where
 ri:=(h.new hn mI).put hk v
 val:=by simp_all [A2.put,P6]
 ext:=hn.ext h.wf mI
 fu:=hn.fu h.wf mI l
 ko id _ _:=⟨rfl,hn.BE h.wf mI id⟩
 inj _ _ _:=rfl
 mono _ h:=h
 len:=n5 _
 hle _ o _ ho:=Or.inr ⟨o,ho,n5 _⟩
end
section
variable {G:Gh} {I:S7} {N:Nat->Prop} {w w' :World}
theorem iC:∀ (cs:List c8) (xs:List Data) (vs:List Value),O0 cs=some xs->J4 G I N w cs vs ->
  xs.length=cs.length/\∀ (i:Nat) x,xs[i]? =some x->∃ v,vs[i]? =some v/\DR G w x v
 |[],xs,vs,h,_=>by
  simp_all [O0]
 |c::cs,xs,vs,h,hv=>by
  obtain ⟨v,vs',rfl,h2,h3⟩:=hv;unfold O0 at h;split at h
  .rename_i x hx
   split at h
   .rename_i ys hys
    simp at h;subst h;obtain ⟨g1,g2⟩:=iC cs ys vs' hys h3;refine ⟨by simp [g1],fun i y hi=> ?_⟩;cases i with
    |zero =>
     unfold c8.data? at hx;split at hx
     .simp_all [VR]
     .have:=h2.J3 (yu := .none)
      simp_all [c8.J3,VR]
     .have:=h2.J3 (yu := .none)
      simp_all [c8.J3,VR]
     .cases hx
    |succ i=>simp_all
   .cases h
  .cases h
theorem Am {b:Nat}:∀ (o:Nat) (xs:List Data),(∀ (i:Nat) x,xs[i]? =some x->jv G b (o+i)/\∃ v,w.cell? (ad b (o+i))=some v/\DR G w x v)->fB G w b o xs
 |_,[],_=>by simp [fB]
 |o,x::xs,h=>by
  obtain ⟨h1,h2⟩:=h 0 x rfl;refine ⟨by omega,by omega,Am (o+1) xs fun i y hi=> ?_⟩;have:=h (i+1) y (by simp_all)
  grind
def PR (hwf:WF G w){c:Array Value}{e:TypeId}{f:Nat×Nat}(hn:kC w w' (.cells c e f))(hf:MQ f c.size){cs:List c8}{xs:List Data}{vs:List Value}
  (hd:O0 cs=some xs) (hv:J4 G I N w cs vs) (hc:∀ (i:Nat) v,vs[i]? =some v->c[i]? =some v) {sz len cap:Nat} (hl:xs.length=len * sz) (hcap:len<=cap) (hsz:cap * sz<=c.size) {pl:Place} (hp:pl≠ .none) :
  VR (jD G w.heap.size (.grow (len * sz) pl)) I N w' pl (.own sz len xs) (.slice (some (ad w.heap.size 0)) len cap):=by
 refine ⟨hl,Or.inr ⟨hp,w.heap.size,0,cap,c,e,f,rfl,hcap,hn.new,by omega,hf,by simp,?_⟩⟩;obtain ⟨g1,g2⟩:=iC cs xs vs hd hv;refine Am 0 xs fun i x hi=> ?_
 obtain ⟨v,e1,e2⟩:=g2 i x hi;have hlt:=u7 hi;refine ⟨by simp [jv];omega,v,?_,DR.mono (hn.ext hwf _).lX _ _ e2⟩;rw [V5 hn.new];simp_all
end
end Go.A2
namespace Go.A2
variable [C9]
def Ie (P:Program)(e:TypeId)(n:Nat):Option (List Value) :=
 if n=0 then some [] else
 match P.info? e with
 |some i=>match i.zero with
  |some z=>some ((Array.range n).map (z.cells[· % z.cells.size]!)).toList
  |none=>none
 |none=>none
def fE (P:Program)(ck:Operand->y5->Bool)(o:Oper)(op:x9):Bool :=
 match o.op,op with
 | .alloc t,.alloc zero=>CF P t zero
 | .box _ x,.box y=>ck x y
 | .makeMap _ none,.makeMap=>true
 | .buildSlice t n parts,.F5 sz len zero ps _=>n==len&&pO P t sz&&decide (len * sz<=16777216)&&(match P.underlying t with
  |some (.slice e)=>(match Ie P e (len * sz) with
   |some zs=>consts zs zero&&kI P ck (fun i=>some (i * sz,sz)) parts.toList ps
   |none=>false)
  |_=>false)
 |_,_=>false
section
variable {P:Program} {X:Cx} {l:H7} {S:Nat->Prop} {st:H6} {a:Act} {w w' :World} {G:Gh} {I:S7} {N:Nat->Prop} {ob:Obj}
structure Iw (l:H7)(st:H6)(N:Nat->Prop)(z7:Option Nat):Prop where
 new:¬ N (newId st z7)
 inside:∀ i,z7=some i->i<st.H.length
 base:l.base<=newId st z7
 strict:l.strict<=newId st z7
def Ke (st:H6)(z7:Option Nat)(o:A1):st.H.length<=(M4 st z7 o).H.length:=by
 cases z7<;>simp [M4]
theorem kH {st:H6}{z7:Option Nat}(hi:∀ i,z7=some i->i<st.H.length)(o:A1)(id:Nat)(o' :A1)(h:(M4 st z7 o).H[id]? =some o') :
  (id=newId st z7/\o' =o)\/(id≠newId st z7/\st.H[id]? =some o'):=by
 cases z7 with
 |none =>
  grind [M4,newId,Nat.lt_trichotomy,A8,List.getElem?_eq_none]
 |some i =>
  grind [M4,newId,L0,B5]
def dG.newObj (h:RI X l S st a w G I N){k:Nat}(hk:¬ S k)(bS:k<st.L.length)(entry:Nat){z7:Option Nat}(hid:Iw l st N z7)(hn:kC w w' ob)(o:A1)
  (ho:OR (jD G w.heap.size (.obj (newId st z7))) (Cz I (newId st z7) (w.heap.size,0)) (fun i=>N i\/i=newId st z7) w' (newId st z7) o) {v:c8} {x:Value}
  (hv:VR (jD G w.heap.size (.obj (newId st z7))) (Cz I (newId st z7) (w.heap.size,0)) (fun i=>N i\/i=newId st z7) w' (.loc k) v x) :
  dG X l S entry st a w G I N (put (M4 st z7 o) k v) k x w' (jD G w.heap.size (.obj (newId st z7))) (Cz I (newId st z7) (w.heap.size,0)) (fun i=>N i\/i=newId st z7):=by
 have hI:∀ id,N id->Cz I (newId st z7) (w.heap.size,0) id=I id:=fun id hN=>gP (by rintro rfl;exact hid.new hN)
 have hT:(M4 st z7 o).T=st.T:=by cases z7<;>rfl
 have hL:(M4 st z7 o).L=st.L:=by cases z7<;>rfl
 refine ⟨⟨?_,?_,?_,hn.wf h.wf _,?_⟩,?_,hn.ext h.wf _,hn.fu h.wf _ l,?_,?_,fun _ h=>Or.inl h,Ke st z7 o,?_⟩
 .intro s t ht
  simp only [A2.put,hT];exact hn.vr h.wf _ hI (fun _ h=>Or.inl h) (h.T s t ht)
 .intro j hj d hd hN
  have:k≠j:=by grind
  simp only [A2.put,hL];rw [R2 _ _ _ _ _ this];exact hn.vr h.wf _ hI (fun _ h=>Or.inl h) (h.L j hj d hd hN)
 .intro id o' ho'
  rcases kH hid.inside o id o' ho' with ⟨rfl,rfl⟩|⟨hne,hold⟩
  .exact ho
  .exact OR.mono (hn.ext h.wf _).sub hI (fun _ h=>Or.inl h) id o' (fun hb=>hn.BE h.wf _ id _ hb) (fun _=>hn.keeps h.wf _ _) (h.H id o' hold)
 .intro id o' ho'
  rcases kH hid.inside o id o' ho' with ⟨rfl,rfl⟩|⟨hne,hold⟩
  .exact ⟨fun hx=>absurd hx (by have:=hid.strict;omega),fun hx=>absurd hx (by have:=hid.base;omega)⟩
  .exact h.W4 id o' hold
 .simp_all [A2.put,P6]
 .intro id hN _
  exact ⟨hI id hN,hn.BE h.wf _ id⟩
 .simp_all
 .intro id o' hb ho'
  rcases kH hid.inside o id o' ho' with ⟨rfl,rfl⟩|⟨hne,hold⟩
  .exact absurd hb (by have:=hid.base;omega)
  simp_all
def oR (n:Nat):MQ (0,0) n:=by intro o _ h;simp at h
def MR (hwf:WF G w){c:Array Value}{e:TypeId}(hn:kC w w' (.cells c e)){id:Nat}(hid:¬ N id){cs:List c8}(hv:J4 G I N w cs c.toList) :
  OR (jD G w.heap.size (.obj id)) (Cz I id (w.heap.size,0)) (fun i=>N i\/i=id) w' id (.cells cs):=by
 simp only [OR];refine ⟨Or.inr trivial,c,e,(0,0),by simpa using hn.new,by simp,oR _,?_,fun i x hx=> ?_⟩
 .have:=J4.length _ _ hv
  simp_all
 .obtain ⟨v,g1,g2⟩:=J4.get cs _ hv i x hx
  refine ⟨v,by simp_all,?_⟩;exact (hn.vr hwf _ (fun j hj=>gP (by grind)) (fun _ h=>Or.inl h) g2).place
variable {ck:Operand->y5->Bool}
def TH (h:RI X l S st a w G I N){k:Nat}(hk:¬ S k)(bS:k<st.L.length)(entry:Nat){z7:Option Nat}(hid:Iw l st N z7){o:Oper}{zero:List c8}
  (hc:fE P ck o (.alloc zero)=true):∃ x w' G' I' N',(execOp a.eval o).run P w= .ok (.value x) w' /\
   dG X l S entry st a w G I N (put (M4 st z7 (.cells zero)) k (.ptr (newId st z7) 0)) k x w' G' I' N' /\(∀ i,N' i↔N i\/i=newId st z7):=by
 obtain ⟨dst,fq,ty,pos,after,guard⟩:=o;cases fq<;>simp [fE] at hc<;>try (cases hc)
 rename_i t;obtain ⟨it,z,e1,e2,e3⟩:=ox (G:=G) (I:=I) (N:=N) (w:=w) hc;have hz:(zeroValue t).run P w= .ok z w:=by simp [zeroValue,typeInfo,e1,e2]
 refine ⟨.pointer (some (ad w.heap.size 0)),w.alloc (.cells z.cells t),_,_,_,?_,dG.newObj h hk bS entry hid (kC.alloc w (.cells z.cells t)) (.cells zero) (MR h.wf (kC.alloc w _) hid.new e3) ?_,fun i=>Iff.rfl⟩
 all_goals simp_all [execOp,Instr.alloc,newVar,newRow,VR,trivial]
def af3 (h:RI X l S st a w G I N)(hρ:dm ck G I N w a.eval (J2 st.T st.L)){k:Nat}(hk:¬ S k)(bS:k<st.L.length)(entry:Nat){z7:Option Nat}(hid:Iw l st N z7){o:Oper}{y:y5}
  (hc:fE P ck o (.box y)=true) {cs:List c8} (hcs:(J2 st.T st.L y).cells? =some cs):∃ x w' G' I' N',(execOp a.eval o).run P w= .ok (.value x) w' /\
   dG X l S entry st a w G I N (put (M4 st z7 (.cells cs)) k (.ptr (newId st z7) 0)) k x w' G' I' N' /\(∀ i,N' i↔N i\/i=newId st z7):=by
 obtain ⟨dst,fq,ty,pos,after,guard⟩:=o;cases fq<;>simp [fE] at hc<;>try (cases hc)
 rename_i t x;obtain ⟨g1,_⟩:=xS hcs (hρ _ _ hc);refine ⟨.pointer (some (ad w.heap.size 0)),w.alloc (.cells (a.eval x).cells t),_,_,_,?_,dG.newObj h hk bS entry hid (kC.alloc w (.cells (a.eval x).cells t)) (.cells cs) (MR h.wf (kC.alloc w _) hid.new g1) ?_,fun i=>Iff.rfl⟩
 all_goals simp_all [execOp,Instr.box,newVar,newRow,VR,trivial]
def af4 (h:RI X l S st a w G I N){k:Nat}(hk:¬ S k)(bS:k<st.L.length)(entry:Nat){z7:Option Nat}(hid:Iw l st N z7){o:Oper}
  (hc:fE P ck o .makeMap=true):∃ x w' G' I' N',(execOp a.eval o).run P w= .ok (.value x) w' /\
   dG X l S entry st a w G I N (put (M4 st z7 (.map [])) k (.map (newId st z7))) k x w' G' I' N' /\(∀ i,N' i↔N i\/i=newId st z7):=by
 obtain ⟨dst,fq,ty,pos,after,guard⟩:=o;unfold fE at hc;split at hc<;>try (cases hc)
 all_goals try (rename_i pI kA;cases kA)
 rename_i t pI kA;subst pI;have hn:=kC.alloc w (.map #[] 0);refine ⟨.map (some w.heap.size),w.alloc (.map #[] 0),_,_,_,?_,dG.newObj h hk bS entry hid hn (.map []) ?_ ?_,fun i=>Iff.rfl⟩
 .rfl
 .simp only [OR]
  exact ⟨Or.inr trivial,#[],0,by simpa using hn.new,by simp,by simp [ER],⟨by simp,by simp⟩⟩
 simp_all [VR,trivial]
def qc (hρ:dm ck G I N w a.eval (J2 st.T st.L)){o:Oper}{sz len:Nat}{zero:List c8}{ps:List (Nat×Nat×y5)}{b:Bool}
  (hc:fE P ck o (.F5 sz len zero ps b)=true) {cs:List c8} (hcs:cg zero (ps.map fun (o,s,x)=>(o,s,J2 st.T st.L x))=some cs) :
  ∃ (ys:Array Value) (e:TypeId),(execOp a.eval o).run P w= .ok (.value (.slice (some (ad w.heap.size 0)) len len)) (w.alloc (.cells ys e))/\J4 G I N w cs ys.toList:=by
 obtain ⟨dst,fq,ty,pos,after,guard⟩:=o;cases fq<;>simp [fE,c7,beq_iff_eq,decide_eq_true_eq] at hc<;>try (cases hc;done)
 rename_i t n parts;obtain ⟨⟨⟨rfl,ht⟩,hsm⟩,hz⟩:=hc;obtain ⟨e,hu,Tx,hie⟩:=jR ht;have hsize:(sizeOf e).run P w= .ok sz w:=by simp_all [run_sizeOf]
 simp [hu] at hz;split at hz
 .rename_i zs hzs
  simp [c7] at hz;obtain ⟨hz1,ZL⟩:=hz;have hzr:J4 G I N w zero zs:=fG _ _ hz1;obtain ⟨ys,f1,f2⟩:=nL (P:=P) hρ parts.toList ps zero cs zs.toArray ZL (by omega) hcs;refine ⟨ys,e,?_,f2⟩;have hno:¬ n * sz>2 ^ 24:=by omega
  have ay5:(parts.map fun (i,x)=>(i,a.eval x)).toList=parts.toList.map fun (i,x)=>(i,a.eval x):=by simp
  by_cases h0:n * sz=0
  .unfold Ie at hzs
   rw [if_pos h0] at hzs;simp only [execOp,Instr.buildSlice,Sem.run_bind,run_underlying hu,Result.andThen_ok,hsize,if_neg hno,if_pos h0,Sem.run_pure];have e1:(Array.range (n * sz)).map (fun x=>((#[]:Array Value)[x % (#[]:Array Value).size]!))= #[]:=by rw [h0];simp
   rw [e1];simp_all [newRow]
  .unfold Ie at hzs
   rw [if_neg h0] at hzs;split at hzs
   .split at hzs
    .rename_i z hzz
     simp only [Option.some.injEq] at hzs;have hzv:(zeroValue e).run P w= .ok z w:=by simp_all [zeroValue,typeInfo]
     have e1:(Array.range (n * sz)).map (fun x=>z.cells[x % z.cells.size]!)=zs.toArray:=by rw [<- hzs]
     simp [execOp,Instr.buildSlice,Sem.run_bind,run_underlying hu,Result.andThen_ok,hsize,if_neg hno,if_neg h0,Sem.run_pure,hzv,ay5,e1,f1];simp [newRow]
    .cases hzs
   .cases hzs
 .cases hz
def TI (h:RI X l S st a w G I N)(hρ:dm ck G I N w a.eval (J2 st.T st.L)){k:Nat}(hk:¬ S k)(bS:k<st.L.length)(entry:Nat){o:Oper}{sz len:Nat}{zero:List c8}{ps:List (Nat×Nat×y5)}
  (hc:fE P ck o (.F5 sz len zero ps false)=true) {v:c8} {rs:List Nat} (hp:o6 (J2 st.T st.L) st.H (.F5 sz len zero ps false)=some (v,rs)) :
  ∃ x w' G',(execOp a.eval o).run P w= .ok (.value x) w' /\dG X l S entry st a w G I N (put st k v) k x w' G' I N:=by
 simp [o6] at hp;split at hp
 .rename_i cs hcs
  split at hp
  .rename_i xs hxs
   split at hp
   .rename_i hl
    obtain ⟨rfl,rfl⟩:=hp;obtain ⟨ys,e,hrun,hvs⟩:=qc (P:=P) hρ hc hcs;have hn:=kC.alloc w (.cells ys e);have hlen:ys.size=len * sz:=by
     have h1:=J4.length _ _ hvs
     grind [iC]
    exact ⟨_,_,_,hrun,dG.fresh h hk bS entry hn _ (PR h.wf hn (oR _) hxs hvs (fun i v hi=>by simp_all) hl.2 (n5 _) (by omega) (by simp))⟩
   .cases hp
  .cases hp
 .cases hp
def Hf (h:RI X l S st a w G I N)(hρ:dm ck G I N w a.eval (J2 st.T st.L)){k:Nat}(hk:¬ S k)(bS:k<st.L.length)(entry:Nat){z7:Option Nat}(hid:Iw l st N z7){o:Oper}{sz len:Nat}{zero:List c8}
  {ps:List (Nat×Nat×y5)} (hc:fE P ck o (.F5 sz len zero ps true)=true) {cs:List c8} (hcs:cg zero (ps.map fun (o,s,x)=>(o,s,J2 st.T st.L x))=some cs) (hl:cs.length=len * sz) :
  ∃ x w' G' I' N',(execOp a.eval o).run P w= .ok (.value x) w' /\
   dG X l S entry st a w G I N (put (M4 st z7 (.cells cs)) k (.B4 (newId st z7) sz 0 len)) k x w' G' I' N' /\(∀ i,N' i↔N i\/i=newId st z7):=by
 obtain ⟨ys,e,hrun,hvs⟩:=qc (P:=P) hρ hc hcs;have hn:=kC.alloc w (.cells ys e);have hlen:ys.size=len * sz:=by
  have h1:=J4.length _ _ hvs;simp_all
 refine ⟨_,_,_,_,_,hrun,dG.newObj h hk bS entry hid hn (.cells cs) (MR h.wf hn hid.new hvs) ?_,fun i=>Iff.rfl⟩;simp only [VR];exact ⟨Or.inr trivial,len,by simp,n5 _,ys,e,(0,0),by simpa using hn.new,by simp;omega⟩
end
end Go.A2
namespace Go.A2
variable [C9]
section
variable {P:Program} {X:Cx} {l:H7} {S:Nat->Prop} {st:H6} {a:Act} {w w' :World} {G:Gh} {I:S7} {N:Nat->Prop} {D:Nat->Bool}
theorem RI.T1 (h:RI X l S st a w G I N)(hD:∀ j,D j=true->S j):dm (X.ck D) G I N w a.eval (J2 st.T st.L):=by
 intro x y hc;unfold Cx.ck at hc;split at hc
 .rename_i t s
  have ht:X.names[s]? =some t:=by simp_all
  exact (h.T s t ht).J3
 .rename_i t j
  simp only [c7,beq_iff_eq,o7] at hc;exact (h.L j (hD j hc.1.1) t hc.1.2 hc.2).J3
 .rename_i v b
  exact (dJ v b hc).SU
 all_goals simp_all [J2,c8.SU,c8.J3,Act.eval,VR,J4]
theorem xG (st:H6)(y:y5):(D8 st y).2.H=st.H:=by
 simp_all [D8]<;>grind
theorem CD (st:H6)(y:y5):(D8 st y).2.L.length=st.L.length:=by
 simp_all [D8]<;>grind
structure Xf (X:Cx)(l:H7)(S:Nat->Prop)(st:H6)(y:y5)(a:Act)(w:World)(G:Gh)(I:S7)(N:Nat->Prop)(pl:Place)(x:Value)(G' :Gh):Prop where
 ri:RI X l S (D8 st y).2 a w G' I N
 val:VR G' I N w pl (D8 st y).1 x
 ext:Ext G w G' w
 keeps:∀ id off,bZ (.cell id off) G w G' w
 obj:∀ b id,G b= .obj id->G' b= .obj id
theorem RI.D8 (h:RI X l S st a w G I N)(hD:∀ j,D j=true->S j){x:Operand}{y:y5}(hc:X.ck D x y=true){pl:Place}(hp:pl≠ .none) :
  ∃ G',Xf X l S st y a w G I N pl (a.eval x) G' :=by
 have hρ:=h.T1 hD x y hc;have simple:(A2.D8 st y).2=st->VR G I N w .none (A2.D8 st y).1 (a.eval x)->∃ G',Xf X l S st y a w G I N pl (a.eval x) G' :=
  fun h1 h2=>⟨G,by simp_all,h2.place,Ext.refl _ _,fun _ _ _ _ h=>⟨h,rfl⟩,fun _ _ h=>h⟩
 cases y with
 |slot s=>exact simple rfl hρ
 |const v =>
  refine simple rfl ?_;unfold Cx.ck at hc;split at hc
  .simp_all
  .simp_all
  .rename_i v' b heq
   cases heq;exact dJ _ _ hc
  all_goals simp_all [J2,c8.SU,c8.J3,A2.D8,VR]
 |loc j =>
  by_cases hown:∃ z len cells,st.L[j]? =some (.own z len cells)
  .obtain ⟨z,len,cells,hj⟩:=hown
   unfold Cx.ck at hc;split at hc
   .simp_all
   .rename_i t j' heq
    cases heq;simp only [c7,beq_iff_eq,o7] at hc;have h1:=h.L j (hD j hc.1.1) t hc.1.2 hc.2;rw [bA hj] at h1;obtain ⟨G',hm,hv⟩:=jV hp h1;refine ⟨G',?_,?_,hm.ext,fun id off=>hm.keeps _ (by simp),hm.obj⟩
    .simp [A2.D8,hj]
     exact h.Qo hj hm
    simp_all [A2.D8,Act.eval]
   all_goals simp_all
  .by_cases hnil:st.L[j]? =some .O2
   .have e:A2.D8 st (.loc j)=(.O2,st):=by simp_all [A2.D8]
    refine simple (by rw [e]) ?_;unfold Cx.ck at hc;split at hc
    .simp_all
    .rename_i t j' heq
     cases heq;simp only [c7,beq_iff_eq,o7] at hc;have h1:=h.L j (hD j hc.1.1) t hc.1.2 hc.2;simp_all [bA,VR,Act.eval]
    all_goals simp_all
   simp_all [A2.D8,J2,absurd]
theorem run_storeCells_at (b o:Nat)(e:TypeId)(f:Nat×Nat):∀ (vs:List Value) (i:Nat) (cur:Array Value) (w:World),w.heap[b]? =some (.cells cur e f)->MQ f cur.size ->
  o+i+vs.length<=cur.size->DK vs->(storeCells (ad b o) vs i).run P w= .ok () (w.setRow b (O8 cur.toList (o+i) vs).toArray)
 |[],i,cur,w,hg,hf,hl,_=>by
  simp [storeCells,O8,Nat.add_zero];cases w with
  |mk heap tape drawn os output =>
   simp_all [World.setRow]<;>grind
 |v::rest,i,cur,w,hg,hf,hl,h1=>by
  simp [p8] at hl;have hi:o+i<cur.size:=by omega
  have hcell:w.cell? (ad b (o+i))=some cur[o+i]:=by rw [V5 hg];simp
  have cd2:w.frozen? (ad b (o+i))=false:=by
   simp [World.frozen?];have:=hf (o+i) hi;simp_all
  have hst:(store ((ad b o).add i) v).run P w= .ok () (w.setRow b (cur.setIfInBounds (o+i) v)):=by
   rw [bw,run_store P w _ v _ (h1 v (by simp)),hcell]
   grind [setCell_eq_setRow]
  have ih:=run_storeCells_at b o e f rest (i+1) (cur.setIfInBounds (o+i) v) (w.setRow b (cur.setIfInBounds (o+i) v)) (setRow_heap w b cur _ e f hg) (by simp_all) (by simp;omega) (fun x hx=>h1 x (by simp [hx]));simp [storeCells,Sem.run_bind,hst,Result.andThen_ok,ih,setRow_setRow];have hlt:o+i<cur.toList.length:=by omega
  simp [O8,Array.toList_setIfInBounds];rw [show o+(i+1)=o+i+1 from by omega,List.take_succ_eq_append_getElem (by simp_all),List.drop_set_of_lt (by omega)];simp [List.take_set_of_le (n5 _),p8]
  grind
structure rP (id b:Nat)(w w' :World)(G:Gh):Prop where
 mI:G b= .obj id
 os:w'.os=w.os
 tape:w'.tape=w.tape
 output:w'.output=w.output
 drawn:w.drawn<=w'.drawn
 size:w'.heap.size=w.heap.size
 other:∀ b',b' ≠b->w'.heap[b']? =w.heap[b']?
 shape:∀ (c:Array Value) (e:TypeId) (f:Nat×Nat),w.heap[b]? =some (Obj.cells c e f)->∃ c' :Array Value,w'.heap[b]? =some (Obj.cells c' e f)/\c'.size=c.size
theorem rP.ext {id b:Nat}(h:rP id b w w' G):Ext G w G w' where
 os:=h.os
 tape:=h.tape
 output:=h.output
 drawn _:=h.drawn
 size:=by rw [h.size];omega
 lX b' o hi:=by
  have hne:b' ≠b:=by rintro rfl;simp [jv,h.mI] at hi
  exact ⟨hi,by simp [World.cell?,h.other b' hne]⟩
 still b' hb:=by
  have hne:b' ≠b:=by rintro rfl;rw [h.mI] at hb;simp_all
  exact ⟨rfl,h.other b' hne⟩
 shape b' c e f hc:=by
  by_cases hne:b' =b
  .subst hne;exact h.shape c e f hc
  .exact ⟨c,by rw [h.other b' hne];exact hc,rfl⟩
def rP.keeps {id b:Nat}(h:rP id b w w' G)(q:Place):bZ q G w G w' :=by
 intro b' n hb;have hne:b' ≠b:=by rintro rfl;rw [h.mI] at hb;cases hb
 exact ⟨hb,h.other b' hne⟩
def rP.BE {id b:Nat}(h:rP id b w w' G){id' :Nat}(hne:id' ≠id):∀ b',G b' = .obj id' ->G b' = .obj id' /\w'.heap[b']? =w.heap[b']? :=by
 intro b' hb;have:b' ≠b:=by rintro rfl;rw [h.mI] at hb;simp_all
 exact ⟨hb,h.other b' this⟩
def dG.write {D1:Nat->Prop}(h:RI X l S st a w G I N){k:Nat}(hk:¬ S k)(bS:k<st.L.length)(entry:Nat){id b:Nat}(hw:rP id b w w' G){o:A1}{o0:A1}(h0:st.H[id]? =some o0)
  (ho:OR G I N w' id o) (hmay:l.may id=true) (wP:o.O5<=max o0.O5 (id+1)\/(l.base<=id/\l.strict<=id)) (hD:∀ i,D1 i↔N i) {v:c8} {x:Value} (hv:VR G I N w' (.loc k) v x) (p7:List Touch) (Ty:p7.any (Touch.L4 id)=true) :
  dG X l S entry st a w G I N (put { st with H:=st.H.set id o,p7 } k v) k x w' G I D1:=by
 have hN:∀ i,N i->D1 i:=fun i hi=>(hD i).2 hi
 refine ⟨⟨?_,?_,?_,fun b' hb' =>h.wf b' (by rw [<- hw.size];exact hb'),?_⟩,?_,hw.ext,?_,?_,fun _ _ _=>rfl,hN,by simp [A2.put],?_⟩
 .intro s t ht
  exact VR.mono hw.ext (fun _ _=>rfl) hN _ _ _ (Or.inr (hw.keeps _)) (h.T s t ht)
 .intro j hj d hd hn
  have:k≠j:=by grind
  simp only [A2.put];rw [R2 _ _ _ _ _ this];exact VR.mono hw.ext (fun _ _=>rfl) hN _ _ _ (Or.inr (hw.keeps _)) (h.L j hj d hd hn)
 .intro id' o' ho'
  simp [A2.put] at ho'
  by_cases he:id' =id
  .subst he
   rw [L0 (u7 h0)] at ho';cases ho';exact OR.mono (Ext.refl _ _).sub (fun _ _=>rfl) hN _ _ (fun h=>⟨h,rfl⟩) (fun _ _ _ h=>⟨h,rfl⟩) ho
  .rw [B5 (fun e=>he e.symm)] at ho'
   exact OR.mono hw.ext (fun _ _=>rfl) hN id' o' (fun hb=>hw.BE he _ hb) (fun _=>hw.keeps _) (h.H id' o' ho')
 .intro id' o' ho'
  simp [A2.put] at ho'
  by_cases he:id' =id
  .subst he
   rw [L0 (u7 h0)] at ho';cases ho';obtain ⟨d1,d2⟩:=h.W4 id' _ h0;omega
  .rw [B5 (fun e=>he e.symm)] at ho'
   exact h.W4 id' o' ho'
 .simp only [A2.put]
  rw [P6 _ _ _ _ bS];exact VR.mono (Ext.refl _ _).sub (fun _ _=>rfl) hN _ _ _ (Or.inr (fun _ _ h=>⟨h,rfl⟩)) hv
 .intro id' hm
  have hne:id' ≠id:=by grind
  exact ⟨hw.BE hne,fun off=>hw.keeps _⟩
 .intro id' _ ht
  have hne:id' ≠id:=by grind [A2.put]
  exact ⟨rfl,hw.BE hne⟩
 .grind [A2.put]
end
end Go.A2
namespace Go.A2
variable [C9]
def Om (l:List c8)(off:Nat)(vs:List c8)(h:off+vs.length<=l.length)(i:Nat) :
  (splice l off vs)[i]? =if i<off then l[i]? else if i<off+vs.length then vs[i - off]? else l[i]? :=by
 unfold splice
 grind
def qg (l:List Value)(off:Nat)(vs:List Value)(h:off+vs.length<=l.length)(i:Nat) :
  (O8 l off vs)[i]? =if i<off then l[i]? else if i<off+vs.length then vs[i - off]? else l[i]? :=by
 unfold O8
 grind
def qh (l:List Value)(off:Nat)(vs:List Value)(h:off+vs.length<=l.length):(O8 l off vs).length=l.length:=by
 grind [O8]
def On (l:List c8)(off:Nat)(vs:List c8)(h:off+vs.length<=l.length):(splice l off vs).length=l.length:=by
 grind [splice]
theorem iu:∀ (a b:List c8),C5 (a++b)=max (C5 a) (C5 b)
 |[],b=>by simp [C5]
 |v::vs,b=>by simp only [F8,C5,iu vs b];omega
theorem wv:∀ (n:Nat) (a:List c8),C5 (a.take n)<=C5 a
 |0,a=>by simp [C5]
 |n+1,[]=>by simp
 |n+1,v::vs=>by have:=wv n vs;grind [C5]
theorem wu:∀ (n:Nat) (a:List c8),C5 (a.drop n)<=C5 a
 |0,a=>by simp
 |n+1,[]=>by simp
 |n+1,v::vs=>by have:=wu n vs;grind [C5]
theorem xM (l:List c8)(off:Nat)(vs:List c8):C5 (splice l off vs)<=max (C5 l) (C5 vs):=by
 grind [splice,iu,wv,wu]
section
variable {P:Program} {X:Cx} {l:H7} {S:Nat->Prop} {st:H6} {a:Act} {w w' :World} {G:Gh} {I:S7} {N:Nat->Prop} {D:Nat->Bool}
def UY {v:c8}{cs:List c8}(hv:v.cells? =some cs){id off:Nat}{x:Value}(h:VR G I N w (.cell id off) v x) :
  x.cells.size=cs.length/\DK x.cells.toList/\∀ (i:Nat) c,cs[i]? =some c->∃ u,x.cells.toList[i]? =some u/\VR G I N w (.cell id (off+i)) c u:=by
 unfold c8.cells? at hv;split at hv
 .split at hv
  .rename_i hall
   simp at hv;subst hv;obtain ⟨xs,rfl,h2⟩:=h;refine ⟨by simpa [Value.cells] using J4.length _ _ h2,nZ _ _ hall h2,fun i c hc=> ?_⟩;obtain ⟨u,g1,g2⟩:=J4.get _ _ h2 i c hc;exact ⟨u,g1,g2.place⟩
  .cases hv
 .split at hv
  .rename_i hone
   simp at hv;subst hv;obtain ⟨h1,h2⟩:=mO hone h;rw [h2];refine ⟨rfl,fun u hu=> ?_,fun i c hc=> ?_⟩
   all_goals grind
  .cases hv
def dG.pre {entry:Nat}{st1 st' :H6}{G1 G' :Gh}{I' :S7}{N' :Nat->Prop}{k:Nat}{x:Value}(hx:Ext G w G1 w)(hk:∀ id off,bZ (.cell id off) G w G1 w)(ho:∀ b id,G b= .obj id->G1 b= .obj id)
  (hH:st1.H=st.H) (h:dG X l S entry st1 a w G1 I N st' k x w' G' I' N'):dG X l S entry st a w G I N st' k x w' G' I' N' where
 ri:=h.ri
 val:=h.val
 ext:=hx.trans h.ext
 fu:=mb.trans (fun id _=>⟨fun b hb=>⟨ho b id hb,rfl⟩,hk id⟩) h.fu
 ko id hN ht:=by
  obtain ⟨h1,h2⟩:=h.ko id hN ht;simp_all
 inj:=h.inj
 mono:=h.mono
 len:=by rw [<- hH];exact h.len
 hle id o' hb ho' :=by
  have:=h.hle id o' hb ho';simp_all
def Fj {id b:Nat}{c:Array Value}{e:TypeId}{f:Nat×Nat}(hb:w.heap[b]? =some (.cells c e f))(hl:G b= .obj id){c' :Array Value}(hs:c'.size=c.size):rP id b w (w.setRow b c') G where
 mI:=hl
 os:=rfl
 tape:=rfl
 output:=rfl
 drawn:=n5 _
 size:=by simp
 other b' hne:=setRow_other w b b' c' hne
 shape c0 e0 f0 h0:=by
  grind [setRow_heap]
def DX {id:Nat}{l0:List c8}{off:Nat}{cs:List c8}{c:Array Value}{e:TypeId}{f:Nat×Nat}(hN:N id)(hb:w.heap[(I id).1]? =some (.cells c e f))(Tu:G (I id).1= .obj id)(hf:MQ f c.size)
  (hsz:(I id).2+l0.length<=c.size) (hold:∀ (i:Nat) x,l0[i]? =some x->∃ v,c[(I id).2+i]? =some v/\VR G I N w (.cell id i) x v)
  (hfit:off+cs.length<=l0.length) {vs:List Value} (hlen:vs.length=cs.length) (hnew:∀ (i:Nat) x,cs[i]? =some x->∃ u,vs[i]? =some u/\VR G I N w (.cell id (off+i)) x u) :
  OR G I N (w.setRow (I id).1 (O8 c.toList ((I id).2+off) vs).toArray) id (.cells (splice l0 off cs)) /\
   rP id (I id).1 w (w.setRow (I id).1 (O8 c.toList ((I id).2+off) vs).toArray) G:=by
 have Ep :(I id).2+off+vs.length<=c.toList.length:=by simp;omega
 have hsize:(O8 c.toList ((I id).2+off) vs).toArray.size=c.size:=by simp_all [qh]
 have hw:=Fj (G:=G) hb Tu hsize;refine ⟨?_,hw⟩;refine ⟨hN,_,e,f,setRow_heap w _ c _ e f hb,Tu,by simp_all,by simp_all [On],fun i x hx=> ?_⟩;rw [Om _ _ _ hfit] at hx;have hg:(O8 c.toList ((I id).2+off) vs).toArray[(I id).2+i]? =(O8 c.toList ((I id).2+off) vs)[(I id).2+i]? :=by simp
 rw [hg,qg _ _ _ Ep];have mono:∀ {pl:Place} {x:c8} {v:Value},VR G I N w pl x v->VR G I N (w.setRow (I id).1 (O8 c.toList ((I id).2+off) vs).toArray) pl x v :=
  fun h=>VR.mono hw.ext (fun _ _=>rfl) (fun _ h=>h) _ _ _ (Or.inr (hw.keeps _)) h
 by_cases h1:i<off
 .grind
 .all_goals grind
theorem HR.wr {H H' :p9}(hH:HR G I N w H){id off:Nat}{cs:List c8}(h:wr H id off cs=some H') :
  ∃ l0 c e f,H[id]? =some (.cells l0)/\H' =H.set id (.cells (splice l0 off cs))/\off+cs.length<=l0.length/\N id/\w.heap[(I id).1]? =some (.cells c e f)/\G (I id).1= .obj id/\MQ f c.size /\
   (I id).2+l0.length<=c.size/\∀ (i:Nat) x,l0[i]? =some x->∃ v,c[(I id).2+i]? =some v/\VR G I N w (.cell id i) x v:=by
 unfold A2.wr at h;split at h
 .rename_i l0 hl
  split at h
  .have ho:=hH id _ hl
   simp_all [OR]
  .cases h
 .cases h
def AG (P:Program)(ck:Operand->y5->Bool)(o:Oper)(op:x9):Bool :=
 match o.op,op with
 | .store t x y,.store n x' y' =>ck x x' &&ck y y' &&P.cellsOf t==n&&(P.info? t).isSome&&decide (0<n)
 |_,_=>false
def Td (h:RI X l S st a w G I N)(hD:∀ j,D j=true->S j){k:Nat}(hk:¬ S k)(bS:k<st.L.length)(entry:Nat){o:Oper}{n:Nat}{x y:y5}(hc:AG P (X.ck D) o (.store n x y)=true){E:Env}(hE:E.lim=l)
  {st' :H6} (he:S4 E k n st (J2 st.T st.L x) y=some st'):∃ w' G',(execOp a.eval o).run P w= .ok .skip w' /\dG X l S entry st a w G I N st' k undef w' G' I N:=by
 obtain ⟨dst,fq,ty,pos,after,guard⟩:=o;cases fq<;>simp [AG,c7,beq_iff_eq] at hc<;>try (cases hc;done)
 rename_i t x' y';obtain ⟨⟨⟨⟨hx,hy⟩,hn⟩,hi⟩,hpos⟩:=hc;have h1:=h.T1 hD _ _ hx;unfold S4 at he;split at he
 .rename_i id off hp
  rw [hp] at h1;simp [VR] at h1;split at he
  .rename_i cs hcs
   split at he
   .split at he
    .rename_i H' hH'
     obtain ⟨G1,hX⟩:=h.D8 hD hy (pl:= .cell id off) (by simp);obtain ⟨c1,c2,c3⟩:=UY hcs hX.val;obtain ⟨l0,c,e,f,g1,g2,g3,g4,g5,g6,g7,g8,g9⟩:=hX.ri.H.wr hH';obtain ⟨hO,hW⟩:=DX g4 g5 g6 g7 g8 g9 g3 (vs:=(a.eval y').cells.toList) (by omega) c3;have hrun:(storeCells (ad (I id).1 ((I id).2+off)) (a.eval y').cells.toList).run P w= .ok () (w.setRow (I id).1 (O8 c.toList ((I id).2+off) (a.eval y').cells.toList).toArray):=by
      grind [run_storeCells_at]
     have hs:(sizeOf t).run P w= .ok n w:=by simp_all [run_sizeOf]
     have hsz:¬ ((a.eval y').cells.size≠n):=by omega
     have wP:(A1.cells (splice l0 off cs)).O5<=max (A1.cells l0).O5 (id+1)\/(l.base<=id/\l.strict<=id):=by
      grind [xM,A1.O5]
     have hM:=dG.write (D1:=N) hX.ri hk (by grind [CD]) entry hW g1 hO (by simp_all) wP (fun _=>Iff.rfl) (v:= .any) (x:=undef) (by simp [VR]) (.obj id::(D8 st y).2.p7) (by simp [Touch.L4]);refine ⟨w.setRow (I id).1 (O8 c.toList ((I id).2+off) (a.eval y').cells.toList).toArray,G1,?_,?_⟩
     .simp_all [execOp,Instr.storeAt,Instr.sureAddr,storeVar,Sem.run_bind,Sem.run_pure,Result.andThen_ok,if_neg]
     .have:=dG.pre (st:=st) hX.ext hX.keeps hX.obj (xG st y) hM
      simp_all
    .cases he
   .cases he
  .cases he
 .cases he
end
end Go.A2
namespace Go.A2
variable [C9]
structure PV (X:Cx)(l5:List o9)(S:Nat->Prop)(st:H6)(a:Act)(w:World)(I:S7):Prop where
 slot:∀ (j:Nat) ai s t d,S j->st.L[j]? ≠some (.tuple [])->l5[j]? =some ai->ai.op=x9.Q5 (.slot s)->X.names[s]? =some t->(X.ops[j]?).bind (·.dst)=some d->X.names.contains d=false ->
  st.p7.any (Touch.U9 s)=false->a.tmps.getD d undef=a.tmps.getD t undef
 cell:∀ (j:Nat) ai x id off d l0,S j->st.L[j]? ≠some (.tuple [])->l5[j]? =some ai->ai.op=x9.load none x->bJ st x=some (id,off)->st.H[id]? =some (.cells l0)->off<l0.length ->
  st.p7.any (Touch.cF id off)=false->(X.ops[j]?).bind (·.dst)=some d->X.names.contains d=false->w.cell? (ad (I id).1 ((I id).2+off))=some (a.tmps.getD d undef)
structure Tk (X:Cx)(l:H7)(S:Nat->Prop)(st st1:H6)(a:Act)(w:World)(G:Gh)(I:S7)(N:Nat->Prop)(k:Nat)(v:c8)(x:Value)(G1:Gh):Prop where
 ri:RI X l S st1 a w G1 I N
 val:VR G1 I N w (.loc k) v x
 ext:Ext G w G1 w
 fu:mb l G w G1 w
 obj:∀ b id:Nat,G b= .obj id->G1 b= .obj id
 len:st1.H.length=st.H.length
 L:st1.L.length=st.L.length
 p7:∀ p,st.p7.any p=true->st1.p7.any p=true
 hle:∀ (id:Nat) (o' :A1),st1.H[id]? =some o' ->∃ o:A1,st.H[id]? =some o/\o'.O5<=o.O5
section
variable {P:Program} {X:Cx} {l:H7} {S:Nat->Prop} {st:H6} {a:Act} {w w' :World} {G:Gh} {I:S7} {N:Nat->Prop} {D:Nat->Bool} {l5:List o9}
def rZ (h:RI X l S st a w G I N)(hpv:PV X l5 S st a w I)(hT:st.T.length=X.names.length)(hD:∀ j,D j=true->S j){k:Nat}(hk:¬ S k){x:Operand}{y:y5}(hc:X.ck D x y=true){sz len:Nat}
  {cells:List Data} {st1:H6} (ht:Q3 l l5 st sz y=some (len,cells,st1)):∃ G1,Tk X l S st st1 a w G I N k (.own sz len cells) (a.eval x) G1:=by
 unfold Q3 at ht;split at ht
 .split at ht
  .rename_i hz
   subst hz;simp at ht;obtain ⟨rfl,rfl,rfl⟩:=ht;refine ⟨G,h,?_,Ext.refl _ _,mb.refl _ _ _,fun _ _ h=>h,rfl,rfl,fun _ h=>h,fun _ o h=>⟨o,h,n5 _⟩⟩;unfold Cx.ck at hc;split at hc
   .simp_all
   .simp_all
   .rename_i v' b heq
    cases heq;exact (dJ _ _ hc).place
   all_goals simp_all
  .cases ht
 .cases ht
 .cases ht
 .rename_i j
  have ay1:∃ t,x= .tmp t/\D j=true/\(X.ops[j]?).bind (·.dst)=some t/\X.names.contains t=false:=by
   simp_all [Cx.ck]<;>grind
  obtain ⟨t,rfl,hDj,Bi,JD⟩:=ay1;have hSj:=hD j hDj;have hjk:j≠k:=by grind
  split at ht
  .rename_i z len' cells' hj
   split at ht
   .rename_i hz
    subst hz;simp at ht;obtain ⟨rfl,rfl,rfl⟩:=ht;have h1:=h.L j hSj t Bi JD;rw [bA hj] at h1;obtain ⟨G',hm,hv⟩:=jV (yu := .loc k) (by simp) h1;exact ⟨G',h.Qo hj hm,hv,hm.ext,fun id _=>⟨fun b hb=>⟨hm.obj b id hb,rfl⟩,fun off=>hm.keeps _ (by simp)⟩,hm.obj,rfl,by simp,fun _ h=>h,fun _ o h=>⟨o,h,n5 _⟩⟩
   .cases ht
  .rename_i ch2 br8 hj
   split at ht
   .rename_i ai hai
    unfold X5 at ht;split at ht
    .rename_i s hop
     split at ht
     .cases ht
     .split at ht
      .rename_i z len' cells' hs
       split at ht
       .rename_i hz
        simp at ht;obtain ⟨rfl,rfl,rfl⟩:=ht;obtain ⟨ts,hts⟩:∃ ts,X.names[s]? =some ts:=by
         grind
        have h1:=h.T s ts hts;rw [bA hs] at h1;have he:=hpv.slot j ai s ts t hSj (by rw [hj];simp) hai hop hts Bi JD (by simp_all);obtain ⟨G',hm,hv⟩:=jV (yu := .loc k) (by simp) h1;refine ⟨G',h.Yn hs _ hm,?_,hm.ext,fun id _=>⟨fun b hb=>⟨hm.obj b id hb,rfl⟩,fun off=>hm.keeps _ (by simp)⟩,hm.obj,rfl,rfl,fun p hp=>by simp_all,fun _ o h=>⟨o,h,n5 _⟩⟩;simp_all [Act.eval]
       .cases ht
      .cases ht
    .rename_i x' hop
     split at ht
     .rename_i id off ad2
      split at ht
      .cases ht
      .rename_i hun
       simp only [Bool.or_eq_true,o7,not_or,Bool.not_eq_true,Bool.not_eq_false] at hun;split at ht
       .rename_i cs hcs
        split at ht
        .rename_i z len' cells' hco
         split at ht
         .rename_i hz
          simp at ht;obtain ⟨rfl,rfl,rfl⟩:=ht;have hO:=h.H id _ hcs;obtain ⟨hN,c,e,f,g1,g2,g3,g4,g5⟩:=hO
          .obtain ⟨v,e1,e2⟩:=g5 off _ hco
           have he:=hpv.cell j ai x' id off t cs hSj (by rw [hj];simp) hai hop ad2 hcs (u7 hco) hun.1 Bi JD;rw [V5 g1,e1] at he;obtain ⟨G',hm,hv⟩:=jV (yu := .loc k) (by simp) e2;refine ⟨G',h.Ym hcs hco _ hm,?_,hm.ext,fun id' cd4 =>⟨fun b hb=>⟨hm.obj b id' hb,rfl⟩,fun off' =>hm.keeps _ ?_⟩,hm.obj,by simp,rfl,fun p hp=>by simp_all,fun id' o' ho' => ?_⟩
           .simp_all [Act.eval]
           .grind
           .by_cases hee:id' =id
            .grind [L0,u7,A1.O5,nD]
            grind
         .cases ht
        .cases ht
       .cases ht
     .cases ht
    .cases ht
   .cases ht
  .cases ht
def Ui (P:Program)(t:TypeId):Bool :=
 match P.underlying t with
 |some (.slice _)=>true
 |some .string=>true
 |_=>false
def ig {t t2 e ty:TypeId}{i:TypeInfo}(hu:P.underlying t=some (.slice e))(hi:P.info? e=some i)(ht2:Ui P t2=true)
  {base:Option Addr} {sLen sCap m:Nat} {x:Value} (hl:(Builtin.lenOf x).run P w= .ok m w) {nw:Array Value}
  (hnew:(Builtin.firstCells i.size m x).run P w= .ok nw w) (hle:sLen+m<=sCap):(Builtin.append_ #[t,t2] ty #[.slice base sLen sCap,x]).run P w =
   (match base with
    |some a=>((storeCells (a.add (sLen * i.size)) nw.toList).run P w).andThen fun _ w' => .ok (.slice base (sLen+m) sCap) w'
    |none=> .ok (.slice base (sLen+m) sCap) w):=by
 unfold Ui at ht2;split at ht2
 .rename_i e2 h2
  cases base<;>simp [Builtin.append_,run_underlying hu,sizeOf,typeInfo,hi,run_underlying h2,hl,hnew,hle]
 .rename_i h2
  cases base<;>simp [Builtin.append_,run_underlying hu,sizeOf,typeInfo,hi,run_underlying h2,hl,hnew,hle]
 .cases ht2
def Dz (need old:Nat)(e:TypeId)(t:Nat):need<=(Question.appendCap need old e).cut t:=by
 simp [Question.cut]
def jY {t t2 e ty:TypeId}{i:TypeInfo}{z:Value}(hu:P.underlying t=some (.slice e))(hi:P.info? e=some i)(hz:i.zero=some z)(ht2:Ui P t2=true)
  {base:Option Addr} {sLen sCap m:Nat} {x:Value} (hl:(Builtin.lenOf x).run P w= .ok m w) {nw old:Array Value}
  (hnew:(Builtin.firstCells i.size m x).run P w.drew= .ok nw w.drew) (hold:(Builtin.firstCells i.size sLen (.slice base sLen sCap)).run P w.drew= .ok old w.drew) (hgt:sCap<sLen+m)
  (h63:((sLen+m:Nat):Int)<=9223372036854775807) (hfit:Builtin.nextslicecap (sLen+m) sCap * i.bytes<=281474976710656) :
  ∃ cap,sLen+m<=cap/\(Builtin.append_ #[t,t2] ty #[.slice base sLen sCap,x]).run P w =
   .ok (.slice (some (ad w.heap.size 0)) (sLen+m) cap) (w.drew.alloc (.cells (old++nw++Builtin.zeroCells z.cells (cap - (sLen+m))) e)):=by
 refine ⟨(Question.appendCap (sLen+m) sCap e).cut (w.tape w.drawn (.appendCap (sLen+m) sCap e)),Dz _ _ _ _,?_⟩;have hn:¬ (sLen+m<=sCap):=by omega
 have h63' :¬ (9223372036854775807<((sLen:Int)+(m:Int))):=by omega
 have aP0 :¬ (281474976710656<Builtin.nextslicecap (sLen+m) sCap * i.bytes):=by omega
 unfold Ui at ht2;split at ht2
 .rename_i e2 h2
  simp [Builtin.append_,run_underlying hu,sizeOf,typeInfo,hi,run_underlying h2,hl,hn,h63',aP0,Question.forced,hnew,hold,zeroValue,hz,newRow]
 .rename_i h2
  simp [Builtin.append_,run_underlying hu,sizeOf,typeInfo,hi,run_underlying h2,hl,hn,h63',aP0,Question.forced,hnew,hold,zeroValue,hz,newRow]
 .cases ht2
end
end Go.A2
namespace Go.A2
variable [C9]
section
variable {P:Program} {X:Cx} {l:H7} {S:Nat->Prop} {st:H6} {a:Act} {w w' :World} {G:Gh} {I:S7} {N:Nat->Prop} {D:Nat->Bool} {l5:List o9}
theorem mg {w w2:World}(h:w2.heap=w.heap)(x:Addr):w2.cell? x=w.cell? x:=by simp [World.cell?,h]
def fM (x:Addr)(w:World):(loadCells x 0).run P w= .ok #[] w:=by rfl
def xy {H:p9}(hH:HR G I N w H){y:c8}{x:Value}(hv:VR G I N w .none y x){sz m:Nat}(hsz:0<sz){cs:List c8}(h:O7 H sz y=some (m,cs)) :
  ∃ vs:List Value,(Builtin.lenOf x).run P w= .ok m w/\(∀ w2:World,w2.heap=w.heap->(Builtin.firstCells sz m x).run P w2= .ok vs.toArray w2)/\J4 G I N w cs vs/\cs.length=m * sz:=by
 unfold O7 at h;split at h
 .rename_i len cells
  split at h
  .simp at h;obtain ⟨rfl,rfl⟩:=h
   rcases hv with ⟨rfl|⟨a0,rfl⟩,rfl,rfl⟩|⟨b,o,cap,rfl,h2,h3⟩
   .simp_all [Builtin.lenOf,Builtin.firstCells,J4]
   .simp_all [Builtin.lenOf,Builtin.firstCells,fM,J4]
   .obtain ⟨vs,g1,g2,g3⟩:=fB.vals (I:=I) (N:=N) o cells h3
    refine ⟨vs,by rfl,fun w2 ZJ=> ?_,g3,by simp_all⟩;have:=run_loadCells_list (P:=P) w2 (ad b o) vs (fun j v hj=>by grind [bw,mg]);simp_all [Builtin.firstCells]
  .cases h
 .rename_i z len cells
  split at h
  .rename_i hz
   subst hz;simp at h;obtain ⟨rfl,rfl⟩:=h;have h0:=hv.J3 (yu := .none);simp only [VR] at hv
   rcases h0 with ⟨rfl|⟨a0,rfl⟩,rfl,rfl⟩|⟨b,o,cap,rfl,h2,h3⟩
   .simp_all [Builtin.lenOf,Builtin.firstCells,J4]
   .simp_all [Builtin.lenOf,Builtin.firstCells,fM,J4]
   .obtain ⟨vs,g1,g2,g3⟩:=fB.vals (I:=I) (N:=N) o cells h3
    refine ⟨vs,by rfl,fun w2 ZJ=> ?_,g3,by simp_all⟩;have:=run_loadCells_list (P:=P) w2 (ad b o) vs (fun j v hj=>by simp_all);simp_all [Builtin.firstCells]
  .cases h
 .rename_i id z lo len
  split at h
  .rename_i hz
   subst hz;split at h
   .rename_i us ZI
    simp at h;obtain ⟨rfl,rfl⟩:=h;obtain ⟨_,cap,rfl,_⟩:=hv
    by_cases h0:len * z=0
    .have hlen:us=[]:=by
      grind [rd]
     simp_all [Builtin.lenOf,J4,Builtin.firstCells,fM]
    .obtain ⟨_,xs,g1,g2,g3,g4⟩:=hH.rd ZI (by omega)
     refine ⟨xs,by rfl,fun w2 ZJ=> ?_,T0 _ _ (by simp [g1,g2]) fun j b v hj hv=> ?_,by simp_all⟩
     .have:=run_loadCells_list (P:=P) w2 (ad (I id).1 ((I id).2+lo)) xs (fun j v hj=>by grind [bw,mg])
      simp_all [Builtin.firstCells]
     .simp at hj
      obtain ⟨b',hb',rfl⟩:=hj;exact (g4 j b' v hb' hv).J3
   .cases h
  .cases h
 .rename_i s
  split at h
  .rename_i hz
   subst hz;simp at h;obtain ⟨rfl,rfl⟩:=h;subst hv;have hsize:(⟨s.toArray⟩:ByteArray).size=s.length:=by rfl
   refine ⟨s.map fun b=> .int .u8 b.toNat,by rfl,fun w2 _=> ?_,T0 _ _ (by simp) fun j b v hj hv=> ?_,by simp⟩
   .simp [Builtin.firstCells]
   grind [VR,DR]
  .cases h
 .cases h
def Jt {b n n' :Nat}{pl:Place}(hl:G b= .grow n pl)(hn:n<=n'){c:Array Value}{e:TypeId}{f:Nat×Nat}(hb:w.heap[b]? =some (.cells c e f)){c' :Array Value}(hs:c'.size=c.size)
  (hc:∀ i,i<n->c'[i]? =c[i]?):Ext G w (jD G b (.grow n' pl)) (w.setRow b c') where
 os:=rfl
 tape:=rfl
 output:=rfl
 drawn _:=n5 _
 size:=by simp
 lX b' o hi:=by
  by_cases he:b' =b
  .subst he
   have ho:o<n:=by simp_all [jv]
   refine ⟨by simp [jv];omega,?_⟩;rw [V5 (setRow_heap w b' c c' e f hb),V5 hb];exact hc o ho
  simp_all [jv,K7,World.cell?,setRow_other]
 still b' hb' :=by
  grind [K7,setRow_other]
 shape b' c0 e0 f0 h0:=by
  grind [setRow_heap,setRow_other]
def nR {b n n' :Nat}{pl q:Place}(hl:G b= .grow n pl)(hq:q≠pl)(c' :Array Value):bZ q G w (jD G b (.grow n' pl)) (w.setRow b c'):=by
 intro b' m hb'
 grind [K7,setRow_other]
def wO {b n n' :Nat}{pl:Place}(hl:G b= .grow n pl)(c' :Array Value)(id:Nat):∀ b',G b' = .obj id->(jD G b (.grow n' pl)) b' = .obj id/\(w.setRow b c').heap[b']? =w.heap[b']? :=by
 grind [K7,setRow_other]
theorem dG.grow (h:RI X l S st a w G I N){k:Nat}(hk:¬ S k)(bS:k<st.L.length)(entry:Nat){b n n' :Nat}(hl:G b= .grow n (.loc k))(hn:n<=n'){c:Array Value}{e:TypeId}{f:Nat×Nat}
  (hb:w.heap[b]? =some (.cells c e f)) {c' :Array Value} (hs:c'.size=c.size) (hc:∀ i,i<n->c'[i]? =c[i]?) {v:c8} {x:Value} (hv:VR (jD G b (.grow n' (.loc k))) I N (w.setRow b c') (.loc k) v x) :
  dG X l S entry st a w G I N (put st k v) k x (w.setRow b c') (jD G b (.grow n' (.loc k))) I N:=by
 have hx:=Jt hl hn hb hs hc;refine ⟨⟨?_,?_,?_,?_,h.W4⟩,?_,hx,fun id _=>⟨wO hl c' id,fun off=>nR hl (by simp) c'⟩,fun id _ _=>⟨rfl,wO hl c' id⟩,fun _ _ _=>rfl,fun _ h=>h,n5 _,fun _ o _ ho=>Or.inr ⟨o,ho,n5 _⟩⟩
 .intro s t ht
  exact VR.mono hx (fun _ _=>rfl) (fun _ h=>h) _ _ _ (Or.inr (nR hl (by simp) c')) (h.T s t ht)
 .intro j hj d hd hn
  have:k≠j:=by grind
  simp only [A2.put];rw [R2 _ _ _ _ _ this];exact VR.mono hx (fun _ _=>rfl) (fun _ h=>h) _ _ _ (Or.inr (nR hl (by grind) c')) (h.L j hj d hd hn)
 .intro id o ho
  exact OR.mono hx (fun _ _=>rfl) (fun _ h=>h) id o (fun hb=>wO hl c' id _ hb) (fun off=>nR hl (by simp) c') (h.H id o ho)
 .intro b' hb'
  simp at hb';have hne:b' ≠b:=by grind
  rw [K7 hne];exact h.wf b' hb'
 simp_all [A2.put,P6]
theorem pg:∀ (xs:List Data),O0 (xs.map .d)=some xs
 |[]=>rfl
 |x::xs=>by simp [O0,c8.data?,pg xs]
def dG.af8 {entry:Nat}{st1 st' :H6}{G1 G' :Gh}{I' :S7}{N' :Nat->Prop}{k:Nat}{x y:Value}{v:c8}(ht:Tk X l S st st1 a w G I N k v y G1)
  (h:dG X l S entry st1 a w G1 I N st' k x w' G' I' N'):dG X l S entry st a w G I N st' k x w' G' I' N' where
 ri:=h.ri
 val:=h.val
 ext:=ht.ext.trans h.ext
 fu:=mb.trans ht.fu h.fu
 ko id hN hh:=by
  obtain ⟨h1,h2⟩:=h.ko id hN hh;exact ⟨h1,fun b hb=>h2 b (ht.obj b id hb)⟩
 inj:=h.inj
 mono:=h.mono
 len:=by rw [<- ht.len];exact h.len
 hle id o' hb ho' :=by
  rcases h.hle id o' hb ho' with h1|⟨o,h1,h2⟩
  .omega
  .obtain ⟨o2,h3,h4⟩:=ht.hle id o h1
   grind
def jw (P:Program)(ck:Operand->y5->Bool)(o:Oper)(op:x9):Bool :=
 match o.op,op with
 | .call ⟨.builtin .append,args,argTypes⟩,.append sz bytes _ x' y' =>
  (match args.toList,argTypes.toList with
   |[x,y],[t,t2]=>ck x x' &&ck y y' &&Ui P t2&&decide (0<sz)&&(match P.underlying t with
    |some (.slice e)=>(match P.info? e with
     |some i=>i.size==sz&&i.bytes==bytes&&decide (0<bytes)&&(match i.zero with|some z=>z.cells.size==sz|none=>false)
     |none=>false)
    |_=>false)
   |_,_=>false)
 |_,_=>false
def iP {ck:Operand->y5->Bool}{o:Oper}{sz bytes:Nat}{ob:Bool}{x' y' :y5}(h:jw P ck o (.append sz bytes ob x' y')=true) :
  ∃ x y t t2 e i z,o.op= .call ⟨.builtin .append,#[x,y],#[t,t2]⟩/\ck x x' =true/\ck y y' =true/\Ui P t2=true/\0<sz/\P.underlying t=some (.slice e)/\P.info? e=some i/\i.size=sz/\i.bytes=bytes/\i.zero=some z/\z.cells.size=sz/\0<bytes:=by
 unfold jw at h;split at h
 .rename_i args argTypes sz' bytes' ob' x1 y1 pI kA
  cases kA;split at h
  .rename_i x y t t2 ha ht
   simp [c7,decide_eq_true_eq] at h;obtain ⟨⟨⟨⟨h1,h2⟩,h3⟩,h4⟩,h5⟩:=h;split at h5
   .rename_i e he
    split at h5
    .rename_i i hi
     simp [c7,beq_iff_eq,decide_eq_true_eq] at h5;obtain ⟨⟨⟨h6,h7⟩,h9⟩,h8⟩:=h5;split at h8
     .rename_i z hz
      refine ⟨x,y,t,t2,e,i,z,?_,h1,h2,h3,h4,he,hi,h6,h7,hz,by simp_all,h9⟩;simp_all<;>grind
     .cases h8
    .cases h5
   .cases h5
  .cases h
 .cases h
end
end Go.A2
namespace Go.A2
variable [C9]
section
variable {P:Program} {X:Cx} {l:H7} {S:Nat->Prop} {st:H6} {a:Act} {w w' :World} {G:Gh} {I:S7} {N:Nat->Prop} {D:Nat->Bool} {l5:List o9}
def xh {n bytes old:Nat}(h:roomFor n bytes=true)(hlt:old<n):Builtin.nextslicecap n old * bytes<=281474976710656:=by
 have h1:(2 * n+512) * bytes<=281474976710656:=by grind [roomFor]
 have h2:=nextslicecap_le hlt;exact F9 (Nat.mul_le_mul_right _ (by omega)) h1
def Hy {n bytes:Nat}(h:roomFor n bytes=true)(hb:0<bytes):((n:Nat):Int)<=9223372036854775807:=by
 have h1:(2 * n+512) * bytes<=281474976710656:=by grind [roomFor]
 have h2:(2 * n+512) * 1<=(2 * n+512) * bytes:=Nat.mul_le_mul_left _ hb;omega
def ZV (hwf:WF G w){e:TypeId}{c:Array Value}(hn:kC w w' (.cells c e)){xs ys:List Data}{vo vn:List Value}(ho:J4 G I N w (xs.map .d) vo)(hy:J4 G I N w (ys.map .d) vn){rest:Array Value}
  (hc:c=vo.toArray++vn.toArray++rest) {sz n cap:Nat} (hl:(xs++ys).length=n * sz) (hcap:n<=cap) (hsz:cap * sz<=c.size) {pl:Place} (hp:pl≠ .none) :
  VR (jD G w.heap.size (.grow (n * sz) pl)) I N w' pl (.own sz n (xs++ys)) (.slice (some (ad w.heap.size 0)) n cap):=by
 refine PR hwf hn (oR _) (pg (xs++ys)) (vs:=vo++vn) (by simp_all [List.map_append,J4.append]) (fun i v hi=> ?_) hl hcap hsz hp
 grind
def Ai (z:Array Value)(n:Nat):(Builtin.zeroCells z n).size=n * z.size:=by simp [Builtin.zeroCells]
def No (h:RI X l S st a w G I N)(hpv:PV X l5 S st a w I)(hT:st.T.length=X.names.length)(hD:∀ j,D j=true->S j){k:Nat}(hk:¬ S k)(bS:k<st.L.length)(entry:Nat){o:Oper}{sz bytes:Nat}{x y:y5}
  (hc:jw P (X.ck D) o (.append sz bytes false x y)=true) {E:Env} (hE:E.lim=l) {z7:Option Nat} {st' :H6} (he:O4 E l5 z7 k sz bytes false st x (J2 st.T st.L y)=some st') :
  ∃ v w' G',(execOp a.eval o).run P w= .ok (.value v) w' /\dG X l S entry st a w G I N st' k v w' G' I N:=by
 obtain ⟨x0,y0,t,t2,e,i,z,hop,UB,hcy,ht2,hsz,hu,hi,hsi,hbi,hz,hzs,hbp⟩:=iP hc;unfold O4 at he;rw [hE] at he;split at he
 .rename_i m cs hcs
  simp only [j4,if_false] at he;split at he
  .rename_i new hnew
   split at he
   .rename_i len cells st1 htk
    split at he
    .rename_i hroom
     simp at he;subst he;obtain ⟨vn,hl,hf,hvn,hcl⟩:=xy (P:=P) h.H (h.T1 hD _ _ hcy) hsz hcs;obtain ⟨G1,Ju⟩:=rZ h hpv hT hD hk UB htk;have hdn:=iC cs new vn hnew hvn;have bz2 :J4 G I N w (new.map .d) vn:=by
      grind [T0,J4.length,B9,VR]
     have az2:J4 G1 I N w (new.map .d) vn:=J4.mono Ju.ext (fun _ _=>rfl) (fun _ h=>h) _ _ bz2;have aR3:new.length=m * sz:=by omega
     have Eu:vn.length=m * sz:=by grind [J4.length]
     have yb:(execOp a.eval o).run P w=((Builtin.append_ #[t,t2] o.type #[a.eval x0,a.eval y0]).run P w).andThen fun v w' => .ok (.value v) w' :=by
      simp_all [guard,execOp,resolve,invoke,builtin]
     have hval:=Ju.val;simp only [VR] at hval;obtain ⟨hcells,hval⟩:=hval;subst hsi hbi;have out:∀ base sCap,a.eval x0= .slice base len sCap->sCap<len+m->(∃ vo:List Value,(∀ w2:World,w2.heap=w.heap->(Builtin.firstCells i.size len (.slice base len sCap)).run P w2= .ok vo.toArray w2)/\J4 G1 I N w (cells.map .d) vo) ->
       ∃ v w' G',(execOp a.eval o).run P w= .ok (.value v) w' /\dG X l S entry st a w G I N (put st1 k (.own i.size (len+m) (cells++new))) k v w' G' I N:=by
      rintro base sCap hx hlt ⟨vo,ho1,ho2⟩;obtain ⟨cap,hcap,hrun⟩:=jY (P:=P) (w:=w) (ty:=o.type) hu hi hz ht2 (base:=base) (sLen:=len) (sCap:=sCap) hl (hf w.drew rfl) (ho1 w.drew rfl) hlt (Hy hroom.1 hbp) (xh hroom.1 hlt);have hnb:kC w (w.drew.alloc (.cells (vo.toArray++vn.toArray++Builtin.zeroCells z.cells (cap - (len+m))) e)) (.cells (vo.toArray++vn.toArray++Builtin.zeroCells z.cells (cap - (len+m))) e):=by
       have:=kC.alloc w.drew (.cells (vo.toArray++vn.toArray++Builtin.zeroCells z.cells (cap - (len+m))) e);exact ⟨this.os,this.tape,this.output,F9 (Nat.le_succ _) this.drawn,this.size,this.old,this.new⟩
      have hvo:vo.length=len * i.size:=by grind [J4.length,B9]
      refine ⟨_,_,_,?_,dG.af8 Ju (dG.fresh Ju.ri hk (by rw [Ju.L];exact bS) entry hnb (.grow ((len+m) * i.size) (.loc k)) (ZV Ju.ri.wf hnb ho2 az2 rfl ?_ hcap ?_ (by simp)))⟩
      .simp_all
      .grind
      .simp only [Array.size_append,List.size_toArray,Ai,hzs,hvo,Eu]
       have:cap * i.size=(len+m) * i.size+(cap - (len+m)) * i.size:=by rw [<- Nat.add_mul];simp_all
       grind
     rcases hval with ⟨hnil,aQ9⟩|⟨_,b,off,cap,c,e',f,h1,h2,h3,h4,h5,h6,h7⟩
     .subst aQ9
      have hc0:cells=[]:=by simp_all
      subst hc0;have hbase:∃ base:Option Addr,a.eval x0= .slice base 0 0/\(base=none\/∃ b o,base=some (ad b o)):=by
       grind
      obtain ⟨base,hx,hbb⟩:=hbase
      by_cases hm:m=0
      .subst hm
       have JD:new=[]:=by simp_all
       have hvv:vn=[]:=by simp_all
       subst JD hvv;have hrun:=ig (P:=P) (w:=w) (ty:=o.type) hu hi ht2 (base:=base) (sLen:=0) (sCap:=0) hl (hf w rfl) (n5 _);refine ⟨.slice base 0 0,w,G1,?_,dG.af8 Ju (dG.same Ju.ri hk (by rw [Ju.L];exact bS) entry ?_)⟩
       .rw [yb,hx,hrun]
        cases base<;>simp [storeCells]
       simp_all [VR]
      .refine out base 0 hx (by omega) ⟨[],fun w2 _=> ?_,by simp [J4]⟩
       cases base<;>simp [Builtin.firstCells,fM]
     .by_cases hfit:len+m<=cap
      .have hrun:=ig (P:=P) (w:=w) (ty:=o.type) hu hi ht2 (base:=some (ad b off)) (sLen:=len) (sCap:=cap) hl (hf w rfl) hfit
       have hsize:off+len * i.size+vn.length<=c.size:=by
        rw [Eu];have:(len+m) * i.size<=cap * i.size:=Nat.mul_le_mul_right _ hfit
        grind
       have hone:DK vn:=by
        intro u hu';obtain ⟨j,hj,rfl⟩:=List.getElem_of_mem hu';have hj2:j<(new.map c8.d).length:=by grind
        obtain ⟨u',g1,g2⟩:=J4.get _ _ az2 j _ (n9 hj2);rw [n9 hj] at g1;cases g1;exact (mO (by simp [c8.one]) g2).1
       have hst:=run_storeCells_at (P:=P) b (off+len * i.size) e' f vn 0 c w h3 h5 (by omega) hone;simp only [Nat.add_zero] at hst;have Ep :off+len * i.size+vn.length<=c.toList.length:=by omega
       have wQ :(O8 c.toList (off+len * i.size) vn).toArray.size=c.size:=by simp_all [qh]
       have hkeep:∀ j,j<off+len * i.size->(O8 c.toList (off+len * i.size) vn).toArray[j]? =c[j]? :=by
        grind [O8]
       refine ⟨.slice (some (ad b off)) (len+m) cap,w.setRow b (O8 c.toList (off+len * i.size) vn).toArray,_,?_,
        dG.af8 Ju (dG.grow Ju.ri hk (by rw [Ju.L];exact bS) entry h6 (n' :=off+(len+m) * i.size) (by grind) h3 wQ hkeep ?_)⟩
       .simp_all [bw,Result.andThen_ok]
       .have hx:=Jt h6 (n' :=off+(len+m) * i.size) (by grind) h3 wQ hkeep
        simp only [VR];refine ⟨by grind,Or.inr ⟨by simp,b,off,cap,_,e',f,rfl,hfit,setRow_heap w b c _ e' f h3,by omega,by simp_all,by simp,?_⟩⟩;refine Am off _ fun j d hj=> ?_
        have hjl:=u7 hj;rw [k9,hcells,aR3] at hjl;refine ⟨by simp_all [jv]<;>grind,?_⟩;rw [V5 (setRow_heap w b c _ e' f h3),show (O8 c.toList (off+len * i.size) vn).toArray[off+j]? =(O8 c.toList (off+len * i.size) vn)[off+j]? from by simp,qg _ _ _ Ep]
        by_cases hjc:j<len * i.size
        .rw [if_pos (by omega)]
         rw [A8 (by omega)] at hj;obtain ⟨vs,q1,q2,q3⟩:=fB.vals (I:=I) (N:=N) off cells h7;have hjv:j<vs.length:=by omega
         have q4:=q2 j _ (n9 hjv);rw [V5 h3] at q4;refine ⟨vs[j],by simp_all,?_⟩;obtain ⟨u,r1,r2⟩:=J4.get _ _ q3 j (.d d) (by simp [hj]);rw [n9 hjv] at r1;cases r1;simp only [VR] at r2;exact DR.mono hx.lX _ _ r2
        .rw [if_neg (by omega),if_pos (by omega)]
         rw [u9 (by omega),hcells] at hj;obtain ⟨u,r1,r2⟩:=J4.get _ _ az2 (j - len * i.size) (.d d) (by simp [hj]);refine ⟨u,by grind,?_⟩;simp only [VR] at r2;exact DR.mono hx.lX _ _ r2
      .refine out (some (ad b off)) cap h1 (by omega) ?_
       obtain ⟨vs,q1,q2,q3⟩:=fB.vals (I:=I) (N:=N) off cells h7;refine ⟨vs,fun w2 ZJ=> ?_,q3⟩;have:=run_loadCells_list (P:=P) w2 (ad b off) vs (fun j v hj=>by grind [bw,mg]);simp_all [Builtin.firstCells]
    .cases he
   .cases he
  .cases he
 .cases he
end
end Go.A2
namespace Go.A2.Z
abbrev k (n:Int):y5:= .const (.d (.int .i64 n))
abbrev kt:y5:= .const (.d (.bool true))
abbrev kf:y5:= .const (.d (.bool false))
abbrev z0:c8:= .d (.int .i64 0)
abbrev zs:c8:= .d (.str [])
abbrev zb:c8:= .d (.bool false)
abbrev w (n:Nat):c8:= .own n 0 []
abbrev l (n:Nat):y5:= .loc n
abbrev s (n:Nat):y5:= .slot n
abbrev i0 (o:x9):o9:=⟨o,none,none,[]⟩
abbrev i1 (o:x9)(d:Nat):o9:=⟨o,some d,none,[]⟩
abbrev it (o:x9)(j:Nat):o9:=⟨o,none,some (j,true),[]⟩
abbrev if_ (o:x9)(j:Nat):o9:=⟨o,none,some (j,false),[]⟩
abbrev i3 (o:x9)(u:List Nat):o9:=⟨o,none,none,u⟩
abbrev ms (n:Nat):o9:=⟨.Q5 (.slot n),none,none,[]⟩
abbrev ml (n:Nat):o9:=⟨.Q5 (.loc n),none,none,[]⟩
abbrev os (a n:Nat):o9:=⟨.off a (.slot n),none,none,[]⟩
abbrev ol (a n:Nat):o9:=⟨.off a (.loc n),none,none,[]⟩
abbrev ld (n:Nat):o9:=⟨.load none (.loc n),none,none,[]⟩
abbrev sq:=q6.seq
abbrev rg:=q6.region
abbrev te:=q6.test
abbrev sk:=q6.skip
def sh (t:q9){x:q9}(h:t=x:=by dsimp only [k,kt,kf,z0,zs,zb,w,l,s,i0,i1,it,if_,i3,ms,ml,os,ol,ld,sq,rg,te,sk]):{ x:q9 // t=x }:=⟨x,h⟩
abbrev G4 (x:List o9):q6:= .region x false
abbrev bX (x:List o9):q6:= .region x true
abbrev P8 (x:List o9)(c:y5)(a b:q6):q6:= .test x false c a b
abbrev Dm (x:List o9)(c:y5)(a b:q6):q6:= .test x true c a b
abbrev u:Bool:=true
abbrev e:Bool:=false
abbrev sr (x:List o9)(c:q6):q6:= .seq (.region x false) c
abbrev su (x:List o9)(o:y5)(a b c:q6):q6:= .seq (.test x false o a b) c
abbrev blk:=q6.block
abbrev lop:=q6.loop
abbrev aR:=q6.exit
abbrev D4 (f:FuncId)(xs:List y5):o9:=⟨.call f xs,none,none,[]⟩
abbrev app (sz bytes:Nat)(ob:Bool)(x y:y5):o9:=⟨.append sz bytes ob x y,none,none,[]⟩
abbrev V6 (n:Nat)(a x:y5):o9:=⟨.store n a x,none,none,[]⟩
abbrev E9 (op:BinOp)(x y:y5):o9:=⟨.bin op x y,none,none,[]⟩
abbrev X8 (c a b:y5):o9:=⟨.pick c a b,none,none,[]⟩
abbrev gB (zero:List c8)(parts:List (Nat×Nat×y5)):o9:=⟨.build zero parts,none,none,[]⟩
abbrev bF (sz len:Nat)(zero:List c8)(parts:List (Nat×Nat×y5))(ob:Bool):o9:=⟨.F5 sz len zero parts ob,none,none,[]⟩
abbrev Z6 (sz:Nat)(x i:y5):o9:=⟨.N8 sz x i,none,none,[]⟩
abbrev eM (n:Option Nat)(x:y5):o9:=⟨.load n x,none,none,[]⟩
abbrev bC0 (k:Nat)(x:y5):o9:=⟨.off k x,none,none,[]⟩
abbrev UD (sz:Nat)(x:y5)(lo hi:Option y5):o9:=⟨.aW sz x lo hi,none,none,[]⟩
abbrev wL (x:y5)(i:Nat):o9:=⟨.extract x i,none,none,[]⟩
abbrev le0 (x:y5):o9:=⟨.W5 x,none,none,[]⟩
abbrev un0 (op:UnOp)(x:y5):o9:=⟨.un op x,none,none,[]⟩
abbrev br7 (zero:List c8):o9:=⟨.alloc zero,none,none,[]⟩
abbrev D7:y5:=k 0
abbrev mX:x9:= .Q5 D7
abbrev A9:y5:=l 0
abbrev A7:y5:=l 1
abbrev nA:x9:= .Q5 A9
abbrev E6:y5:=k 1
abbrev zq4:x9:= .bin .add A9 E6
abbrev p6:o9:=ms 0
abbrev gb:o9:=os 0 3
abbrev C6:o9:=ld 1
abbrev F0:y5:=l 2
abbrev H8:y5:=l 3
abbrev fV:x9:= .Q5 H8
abbrev kU:o9:=i1 fV 4
abbrev C7:o9:=ms 4
abbrev bf5:x9:= .bin .neq A9 D7
abbrev fZ:o9:=i0 bf5
abbrev kW:o9:=i1 nA 2
abbrev zq5:q6:=sq (G4 [p6,gb,C6,D4 209 [A9,F0],kU]) (P8 [C7,fZ] A7 (sr [C7,kW] .ret) sk)
abbrev bf:x9:= .Q5 (s 0)
abbrev V2:y5:=s 2
abbrev zq9:x9:= .load (some 8) V2
abbrev gT:x9:= .Q5 A7
abbrev y3:y5:=l 4
abbrev Ig:x9:= .Q5 (.const (w 1))
abbrev qD:o9:=i1 mX 2
abbrev jr:q6:=G4 [qD]
abbrev A4:y5:=l 5
abbrev Ur:x9:= .aV A9
abbrev D6:y5:=l 6
abbrev zG:y5:= .const (.d (.int .i64 (-1)))
abbrev F4:o9:=ms 3
abbrev rL:q6:=sq (G4 [F4,kW]) .ret
abbrev J5:y5:=s 6
abbrev W9:y5:=s 7
abbrev Fl:q6:=P8 [E9 .lss (s 8) W9] A9 sk (aR 0)
abbrev y9:o9:=ld 0
abbrev K9:o9:=ms 2
abbrev al0:x9:= .len A7
abbrev P9:o9:=i0 al0
abbrev sF:o9:=i1 fV 2
abbrev au5:x9:= .bin .lss A9 D7
abbrev zg:o9:=i0 au5
abbrev sK:o9:=i1 nA 8
abbrev Fs:q6:=G4 [E9 .add (s 8) E6,sK]
abbrev aI4:q6:=sq (G4 [i1 bf 6,i1 (.len J5) 7,i1 mX 8]) (blk 0 (lop [u,e,u,e,e,e,u,u,u,e,e,e] (sq Fl (sq (blk 1 (sr [Z6 1 J5 (s 8),y9,i1 gT 3] (sr [K9,F4,P9,E9 .add A9 F0,sF] (P8 [K9,zg] A7 (G4 [i0 (.bad),i0 (.bad)]) sk)))) Fs))))
abbrev sE:x9:= .Q5 kf
abbrev CM:q6:=G4 [i1 sE 2]
abbrev bf1:x9:= .bin .lss A9 H8
abbrev OF:x9:= .box (s 0)
abbrev bf2:x9:= .bin .lss A9 F0
abbrev aJ:y5:=s 3
abbrev Ih:x9:= .load (some 8) aJ
abbrev E8:y5:=l 7
abbrev Ii:x9:= .alloc [(w 4),(w 9),(w 3),(w 6),(w 4),(w 3),(w 2),(w 3)]
abbrev Ij:x9:= .alloc [zs,z0,zs,zs,(w 2),(w 5),(w 2),zb,(w 3)]
abbrev B3:o9:=ms 5
abbrev gh:o9:=i0 zq4
abbrev yY:o9:=i1 gT 5
abbrev vF:q6:=G4 [B3,gh,yY]
abbrev vJ:x9:= .len A9
abbrev vS:o9:=i1 mX 5
abbrev LQ:q6:=G4 [p6,i1 vJ 4,vS]
abbrev Q8:y5:=s 5
abbrev U5:y5:=s 4
abbrev LI:q6:=P8 [E9 .lss Q8 U5] A9 sk (aR 0)
abbrev jc:o9:=i1 nA 3
abbrev Ut:q6:=G4 [B3,jc]
abbrev u5:o9:=ms 1
abbrev Q1:o9:=ld 3
abbrev cE:o9:=i1 nA 5
abbrev LP:q6:=G4 [E9 .add Q8 E6,cE]
abbrev MI:q6:=sq (G4 [i1 (.Q5 zG) 2]) .ret
abbrev aI5:q6:=sq jr (sq (sq LQ (blk 0 (lop [u,u,e,e,u,u] (sq LI (sq (blk 1 (sq Ut (P8 [u5,p6,F4,Z6 1 A7 F0,Q1,E9 .eql A9 y3] A4 rL sk))) LP))))) MI)
abbrev Dc:x9:= .load none y3
abbrev G9:y5:=l 8
abbrev T8:y5:=s 1
abbrev dD:x9:= .Q5 T8
abbrev lS:x9:= .Q5 E6
abbrev al2:x9:= .len F0
abbrev CN:x9:= .F5 1 0 [] [] e
abbrev sD:x9:= .Q5 aJ
abbrev G6:y5:=l 9
abbrev L7:y5:=l 10
abbrev R8:y5:=l 11
abbrev qB:x9:= .Q5 R8
abbrev bf3:q6:=sq (bX [i0 CN,p6,F4,UD 1 A7 none (some F0),app 1 8 e A9 H8,i3 dD [4],i3 (.F5 1 1 [z0] [(0,1,A4)] e) [4],app 1 8 e y3 D6,i3 bf [4,7],i3 sD [4,7],i3 (.aW 1 G9 (some G6) none) [4,7],app 1 8 e E8 L7,i1 qB 2]) .ret
abbrev dg:o9:=i1 mX 3
abbrev DU:q6:=G4 [dg]
abbrev di:o9:=i0 bf2
abbrev S5:o9:=ml 3
abbrev sJ:o9:=it bf 4
abbrev vq:x9:= .load none E8
abbrev yV:o9:=it dD 4
abbrev Im:q6:=G4 [F4,gh,i1 gT 3]
abbrev LV:q6:=sq (G4 [p6,kW]) .ret
abbrev aI6:q6:=sq DU (sq (blk 0 (lop [u,u,e,u] (su [F4,p6,P9,di,S5,sJ,it sD 4,it (.N8 1 A4 D6) 4,it vq 4,yV,it (.bin .lss G9 G6) 4,X8 y3 L7 kf] R8 sk (aR 0) (blk 1 Im)))) (su [F4,p6,P9,di,S5,sJ,it sD 4,it (.N8 1 A4 D6) 4,it vq 4,yV,it (.bin .eql G9 G6) 4,X8 y3 L7 kf] R8 LV sk bf3))
abbrev bf4:x9:= .F5 1 1 [zs] [(0,1,D6)] e
abbrev gU:y5:= .const zs
abbrev cn:x9:= .Q5 F0
abbrev vK:q6:=G4 [i1 sE 1]
abbrev xH:y5:= .const (.d (.str [116,48]))
abbrev zH:x9:= .Q5 (.const (w 5))
abbrev rM:x9:= .load none A4
abbrev dV:o9:=os 1 1
abbrev Q0:o9:=ml 2
abbrev vz:x9:= .off 1 T8
abbrev fW:o9:=it Dc 3
abbrev at6:x9:= .pick H8 D6 kf
abbrev oI:o9:=i0 at6
abbrev CH:x9:= .load none G6
abbrev Df:o9:=it CH 8
abbrev S6:y5:=l 12
abbrev De:x9:= .Q5 S6
abbrev bf6:q6:=sq (G4 [dV,y9,E9 .geq A7 (.const (.d (.int .i64 (-4294967296)))),Q0,it vz 3,fW,it (.bin .leq A4 (k 4294967296)) 3,oI,ml 7,it (.off 2 T8) 8,Df,it (.bin .eql L7 gU) 8,X8 G9 R8 kf,i1 De 2]) .ret
abbrev fh:o9:=os 0 1
abbrev lU:x9:= .load none A9
abbrev J9:o9:=ml 0
abbrev bf9:x9:= .bin .eql A7 D7
abbrev je:o9:=i0 bf9
abbrev gV:x9:= .Q5 E8
abbrev M0:y5:=k 2
abbrev au4:x9:= .pick H8 E8 kf
abbrev vU:o9:=i0 au4
abbrev lV:x9:= .Q5 G9
abbrev sC:q6:=sq CM .ret
abbrev aI7:q6:=sq (sr [fh,i1 lU 3] (blk 0 (P8 [E9 .eql aJ D7,J9] A7 (sr [dV,y9,je,Q0,it (.off 2 T8) 3,fW,it (.bin .eql A4 gU) 3,oI,i1 gV 2] .ret) (P8 [E9 .eql aJ E6,J9] A7 bf6 (P8 [E9 .eql aJ M0,J9] A7 (sr [dV,y9,je,Q0,it (.off 2 T8) 3,fW,it (.W5 A4) 3,it (.bin .leq D6 (k 32)) 3,vU,i1 lV 2] .ret) sk))))) sC
abbrev ME:q6:=P8 [E9 .lss (s 9) (s 8)] A9 sk (aR 0)
abbrev oH:o9:=i1 gT 4
abbrev DS:q6:=G4 [C7,gh,oH]
abbrev zI:q6:=sq (G4 [i1 lS 2]) .ret
abbrev bf7:x9:= .load (some 8) T8
abbrev dF:x9:= .Q5 A4
abbrev MF:q6:=G4 [E9 .add (s 9) E6,i1 nA 9]
abbrev aG:y5:=k 3
abbrev kV:o9:=i1 nA 4
abbrev dU:y5:=k 16
abbrev aI8:q6:=sq (G4 [E9 .eql V2 aG,kV]) (.cond U5 sk (sr [E9 .eql V2 (k 9),kV] (.cond U5 sk (sr [E9 .eql V2 (k 13),kV] (.cond U5 sk (G4 [E9 .eql V2 dU,kV]))))))
abbrev MG:x9:= .alloc [zs,z0,zs,zs,(w 1),z0,z0]
abbrev nr:x9:= .load none D6
abbrev vO:o9:=i1 OF 1
abbrev Ik:q6:=G4 [vO,i1 sE 2]
abbrev iX:x9:= .Q5 y3
abbrev tM:q6:=G4 [vS]
abbrev ff:o9:=i1 mX 4
abbrev Di:q6:=G4 [ff]
abbrev al4:q6:=sq (G4 [E9 .eql V2 E6,jc]) (.cond aJ sk (G4 [E9 .eql V2 M0,jc]))
abbrev Il:x9:= .append 1 16 e A9 E8
abbrev DT:q6:=sq (G4 [i1 lS 4]) .ret
abbrev bu:o9:=os 1 3
abbrev FX:x9:= .extract D6 0
abbrev FY:x9:= .extract D6 1
abbrev aI9:q6:=sq (G4 [p6,bu,C6,os 2 3,Q1,D4 222 [A9,F0,y3],ml 5,i0 FX,i0 FY,ml 7,i1 lV 5]) (P8 [B3,fZ] A7 (sr [B3,kW] .ret) sk)
abbrev bf8:x9:= .bin .neq A7 gU
abbrev Us:q6:=P8 [F4,p6,P9,di] H8 sk (aR 0)
abbrev Dj:x9:= .Q5 (.const (w 2))
abbrev jt:x9:= .Q5 U5
abbrev I8:o9:=ms 6
abbrev vP:o9:=i1 gT 6
abbrev MH:q6:=G4 [I8,gh,vP]
abbrev R4:o9:=i0 al2
abbrev Z0:o9:=i0 bf1
abbrev FW:x9:= .N8 4 F0 H8
abbrev bM:o9:=ld 5
abbrev sO:o9:=i0 bf4
abbrev vM:o9:=i1 lV 3
abbrev aJ0:q6:=sq (P8 [C7,fh,C6,R4,Z0] y3 sk (aR 0)) (sq (blk 1 (G4 [F4,fh,C6,C7,i0 FW,ol 0 4,bM,sO,i0 Il,vM])) DS)
abbrev aJ1:q6:=sq (P8 [B3,dV,C6,R4,Z0] y3 sk (aR 2)) (sq (blk 3 (G4 [F4,dV,C6,B3,Z6 9 F0 H8,ol 0 4,bM,sO,i0 Il,vM])) vF)
abbrev T9:y5:=l 13
abbrev nx:x9:= .Q5 D6
abbrev sH:o9:=i1 OF 2
abbrev sx:x9:= .box T8
abbrev vL:o9:=i1 sx 3
abbrev Uu:q6:=G4 [sH,vL,ff]
abbrev Dg:o9:=i1 sE 3
abbrev iN:x9:= .Q5 V2
abbrev aJ2:q6:=sq (G4 [Dg]) (sr [p6,u5,E9 .geq A9 A7,Q0,it bf 3,it iN 3,it (.bin .leq y3 A4) 3,oI,i1 gV 3] .ret)
abbrev X9:o9:=ml 1
abbrev at5:x9:= .pick F0 y3 kf
abbrev qE:o9:=i0 at5
abbrev aJ3:q6:=sq vK (sr [p6,E9 .geq A9 (.const (.d (.int .u8 97))),X9,it bf 2,it (.bin .leq H8 (.const (.d (.int .u8 122)))) 2,qE,i1 dF 1] .ret)
abbrev aJ4:q6:=sq vK (sr [p6,E9 .geq A9 (.const (.d (.int .u8 48))),X9,it bf 2,it (.bin .leq H8 (.const (.d (.int .u8 57)))) 2,qE,i1 dF 1] .ret)
abbrev bg0:x9:= .N8 5 A9 A7
abbrev al6:q6:=P8 [p6,i0 vJ,u5,R4,E9 .neq A7 H8] y3 sC sk
abbrev aJ5:q6:=sq (G4 [p6,F4,UD 5 A9 (some A7) none,i0 (.clear 5 [z0,z0,z0,z0,zb] F0)]) (sr [p6,F4,UD 5 A9 none (some A7),i1 cn 2] .ret)
abbrev Uv:x9:= .F5 1 1 [z0] [(0,1,A7)] e
abbrev as4:x9:= .bin .sub F0 E6
abbrev as5:x9:= .bin .eql A9 D7
abbrev jf:o9:=os 1 2
abbrev aZ:o9:=os 0 2
abbrev LF:x9:= .len y3
abbrev kY:o9:=i0 LF
abbrev FQ:x9:= .bin .sub F0 A4
abbrev MB:x9:= .N8 9 A7 D6
abbrev Mv:x9:= .load (some 9) E8
abbrev YE:q6:=G4 [jf,y9,u5,aZ,Q1,kY,i0 FQ,i0 MB,i0 Mv,i1 Ij 4,V6 9 U5 G9]
abbrev yK:q6:=G4 [qD,dg]
abbrev as6:x9:= .N8 1 A9 A7
abbrev kQ:x9:= .load none G9
abbrev yL:y5:= .const (.d (.str [118,48]))
abbrev Lx:x9:= .build [z0,z0,z0,zs,z0] [(0,1,E6),(1,3,A7)]
abbrev qw:x9:= .bin .eql D6 D7
abbrev as7:x9:= .bin .eql A7 M0
abbrev Q7:y5:=l 14
abbrev kR:x9:= .load none H8
abbrev mY:x9:= .load none L7
abbrev Lz:x9:= .F5 5 1 [z0,z0,z0,zs,z0] [(0,5,F0)] e
abbrev as8:x9:= .store 1 E8 A4
abbrev sw:q6:=G4 [i1 Ig 3]
abbrev vi:q6:=G4 [i1 Ig 1]
abbrev CG:q6:=G4 [sH,i1 Ig 3]
abbrev X3:o9:=i0 zq9
abbrev LA:q6:=sq (G4 [X3,V6 8 aJ A9]) .ret
abbrev Fm:q6:=G4 [i1 (.alloc [z0,z0,zs]) 1]
abbrev as9:x9:= .un .not F0
abbrev kg:q6:=sq jr .ret
abbrev at0:x9:= .call 22 [A9,aG]
abbrev Fo:q6:=G4 [sH,Dg]
abbrev oE:x9:= .load none S6
abbrev Qw:q6:=sq (G4 [eM (some 9) Q8,V6 9 U5 A9]) .ret
abbrev Fp:q6:=sq (G4 [Dg]) .ret
abbrev at1:x9:= .load (some 2) A9
abbrev Fq:q6:=sq (G4 [C7,jc]) .ret
abbrev at2:x9:= .bin .gtr F0 D7
abbrev au7:x9:= .extract F0 0
abbrev zf:o9:=i0 au7
abbrev au8:x9:= .extract F0 1
abbrev ze:o9:=i0 au8
abbrev YF:q6:=G4 [X3,D4 101 [A9],X9,zf,ze,wL F0 2,kU,ml 4,i1 dF 5]
abbrev U4:y5:=l 15
abbrev Y9:y5:=l 16
abbrev sy:x9:= .load none Y9
abbrev Rk:y5:= .const (.d (.str [110,111,110,101]))
abbrev YG:x9:= .F5 1 4 [zs,zs,zs,zs] [(0,1,gU),(1,1,y3),(2,1,xH),(3,1,Rk)] e
abbrev nh:o9:=i0 as6
abbrev Q4:o9:=ld 2
abbrev YH:q6:=Dm [p6,F4,nh,Q4,u5,F4,Z6 1 y3 A4,ld 6,E9 .neq H8 E8] G9 sC sk
abbrev qI:o9:=os 3 5
abbrev My:x9:= .store 1 E8 D6
abbrev YI:q6:=G4 [K9,p6,K9,R4,D4 22 [A7,H8],Z6 1 A9 y3,bM,qI,i0 My]
abbrev at3:x9:= .un .not A7
abbrev Ft:x9:= .append 1 8 e A9 F0
abbrev qx:x9:= .Q5 aG
abbrev yM:x9:= .Q5 (k 5)
abbrev LB:x9:= .F5 2 1 [z0,z0] [(0,2,H8)] e
abbrev LD:q6:=sq (G4 [qD,i1 lS 3]) .ret
abbrev Fu:q6:=G4 [sH,dg]
abbrev yN:q6:=G4 [i1 Ig 2]
abbrev at4:x9:= .bin .lss A9 A7
abbrev Qx:x9:= .N8 1 A9 F0
abbrev vj:x9:= .len A4
abbrev LG:q6:=sq (G4 [i1 (.Q5 (k 7)) 2]) .ret
abbrev LH:q6:=sq (G4 [i1 (.Q5 (k 7)) 4]) .ret
abbrev yO:q6:=G4 [i1 mX 6]
abbrev yP:x9:= .aV A7
abbrev Qy:q6:=P8 [E9 .lss W9 J5] A9 sk (aR 0)
abbrev CI:x9:= .build [z0,z0,zs] []
abbrev at7:x9:= .N8 1 A9 D7
abbrev sA:x9:= .Q5 G6
abbrev Qz:q6:=P8 [E9 .lss J5 Q8] A9 sk (aR 0)
abbrev vG:x9:= .Q5 kt
abbrev LJ:q6:=sq (G4 [i1 vG 2]) .ret
abbrev at8:x9:= .load (some 3) A9
abbrev LK:q6:=sq (G4 [K9,i1 nA 1]) .ret
abbrev at9:x9:= .bin .eql A7 E6
abbrev au0:x9:= .bin .eql F0 D7
abbrev QA:q6:=G4 [I8,E9 .sub A9 E6,vP]
abbrev U6:o9:=ms 8
abbrev LL:q6:=G4 [U6,gh,i1 gT 8]
abbrev N4:o9:=ms 7
abbrev LM:q6:=G4 [N4,gh,i1 gT 7]
abbrev vk:x9:= .alloc [z0,z0]
abbrev au1:x9:= .N8 7 A7 F0
abbrev au2:x9:= .N8 2 A7 F0
abbrev au3:x9:= .N8 1 A7 H8
abbrev vm:x9:= .load none R8
abbrev QB:y5:= .const (.d (.str [112,101,114,115,111,110]))
abbrev Fv:x9:= .append 1 8 e A9 A7
abbrev kS:x9:= .len D6
abbrev yZ:o9:=i1 mX 9
abbrev QC:q6:=G4 [i1 dD 7,i1 (.len W9) 8,yZ]
abbrev QD:q6:=G4 [i1 lS 3]
abbrev YJ:q6:=G4 [Z6 7 Q8 W9,eM (some 7) A9,i1 MG 4,V6 7 U5 A7]
abbrev QE:q6:=G4 [sH,vL,i1 sE 4]
abbrev ay:y5:=l 17
abbrev vp:x9:= .load none F0
abbrev Z3:y5:=s 10
abbrev oF:x9:= .Q5 (s 8)
abbrev CJ:q6:=G4 [i1 mX 1]
abbrev vR:o9:=i1 nA 7
abbrev QF:q6:=G4 [E9 .add W9 E6,vR]
abbrev LN:q6:=G4 [vO,i1 Ig 2]
abbrev CL:x9:= .load (some 2) G9
abbrev qy:x9:= .off 2 aJ
abbrev qz:x9:= .off 0 V2
abbrev oG:x9:= .Q5 J5
abbrev QG:q6:=G4 [E9 .add J5 E6,i1 nA 6]
abbrev LO:q6:=sq (G4 [i1 yM 3]) .ret
abbrev Fw:x9:= .bin .gtr A9 D7
abbrev CO:x9:= .pick y3 E8 kf
abbrev CP:x9:= .pick y3 kt G9
abbrev CQ:x9:= .pick G6 S6 kf
abbrev au6:x9:= .len H8
abbrev YK:q6:=P8 [E9 .eql V2 (k 18),J9] A7 (sr [i1 qx 1] .ret) sk
abbrev QH:x9:= .build [z0,z0] [(0,1,A9),(1,1,A7)]
abbrev QI:x9:= .build [z0,z0] [(0,1,A7),(1,1,F0)]
abbrev aA:y5:=k 4
abbrev Fx:x9:= .call 22 [A7,aA]
abbrev Fy:x9:= .call 22 [F0,(k 5)]
abbrev CR:x9:= .N8 1 A4 E8
abbrev Fz:x9:= .call 22 [A7,M0]
abbrev FA:x9:= .call 22 [A9,M0]
abbrev aF:y5:=l 18
abbrev QJ:x9:= .F5 2 1 [z0,z0] [(0,2,F0)] e
abbrev FB:q6:=G4 [i1 Ig 4]
abbrev FC:q6:=G4 [i1 zH 2]
abbrev LR:x9:= .Q5 (.const (.d .cu))
abbrev LS:x9:= .alloc [zs,(w 7),z0,z0]
abbrev LU:x9:= .append 2 16 e A9 A7
abbrev QK:q6:=sq (G4 [i1 (.Q5 aA) 4]) .ret
abbrev dQ:y5:=l 19
abbrev FD:q6:=G4 [i1 mX 7]
abbrev FE:x9:= .load (some 2) D6
abbrev QL:q6:=sq (G4 [i1 (.Q5 zG) 3]) .ret
abbrev FF:x9:= .bin .sub D6 E6
abbrev qA:x9:= .Q5 L7
abbrev CU:x9:= .N8 3 F0 H8
abbrev QM:q6:=G4 [ms 13,gh,i1 gT 13]
abbrev dW:o9:=ms 11
abbrev QN:q6:=G4 [dW,gh,i1 gT 11]
abbrev aH:o9:=ms 10
abbrev QO:q6:=G4 [aH,gh,i1 gT 10]
abbrev jh:o9:=ms 12
abbrev YL:q6:=P8 [jh,fZ] A7 (sr [jh,jc] .ret) sk
abbrev vt:x9:= .off 1 aJ
abbrev vu:x9:= .off 0 aJ
abbrev vv:x9:= .off 1 V2
abbrev bK:y5:=l 20
abbrev QS:q6:=sq (G4 [i1 sE 4]) .ret
abbrev QT:q6:=sq (G4 [p6,kV]) .ret
abbrev FG:x9:= .store 1 D6 y3
abbrev FH:x9:= .bin .eql A9 E6
abbrev FI:x9:= .bin .neq A7 D7
abbrev YM:q6:=P8 [I8,fZ] A7 (sr [I8,kW] .ret) sk
abbrev yQ:y5:= .const .O2
abbrev fc:y5:=l 21
abbrev yR:q6:=sq Ut .ret
abbrev sB:y5:=k 1048576
abbrev dR:y5:=l 22
abbrev LW:x9:= .alloc [zs,z0,(w 5)]
abbrev YN:x9:= .F5 2 2 [z0,z0,z0,z0] [(0,2,y3),(2,2,G9)] e
abbrev CV:x9:= .un .not y3
abbrev CW:x9:= .un .not E8
abbrev QU:q6:=G4 [vO,i1 zH 2]
abbrev yS:x9:= .off 3 aJ
abbrev yT:x9:= .off 5 aJ
abbrev FJ:x9:= .load none Q7
abbrev QV:q6:=sq (G4 [i1 qx 3]) .ret
abbrev FK:x9:= .load none ay
abbrev FL:x9:= .load none fc
abbrev YO:q6:=P8 [p6,i0 (.BB e A9)] A7 (sq vi .ret) sk
abbrev QW:q6:=G4 [i1 OF 3,ff]
abbrev FM:x9:= .N8 4 A7 F0
abbrev FN:x9:= .N8 5 A7 F0
abbrev FO:x9:= .extract y3 0
abbrev FP:x9:= .extract y3 1
abbrev vA:x9:= .len E8
abbrev vB:x9:= .len G9
abbrev vD:x9:= .len R8
abbrev vE:x9:= .Q5 Q8
abbrev YP:q6:=P8 [C7,p6,P9,di] H8 sk (aR 0)
abbrev YQ:q6:=P8 [B3,C7,P9,di] H8 sk (aR 0)
abbrev YR:q6:=P8 [C7,u5,P9,di] H8 sk (aR 0)
abbrev CX:q6:=sq DU .ret
abbrev CY:x9:= .off 4 T8
abbrev fe:y5:=l 23
abbrev LX:q6:=G4 [i1 mX 8]
abbrev LY:x9:= .call 54 [A9,A7]
abbrev LZ:x9:= .call 86 [A7,H8]
abbrev Ma:x9:= .load (some 2) E8
abbrev Mb:x9:= .load (some 4) Q8
abbrev Mc:x9:= .load (some 2) aJ
abbrev CZ:x9:= .Q5 M0
abbrev jb:y5:=s 11
abbrev YS:q6:=P8 [E9 .lss jb Z3] A9 sk (aR 2)
abbrev yU:x9:= .Q5 W9
abbrev Md:x9:= .N8 1 W9 (s 9)
abbrev YT:q6:=G4 [Z6 1 (s 9) jb,y9,yY]
abbrev QX:x9:= .append 2 16 e A9 y3
abbrev YU:x9:= .F5 5 1 [z0,z0,z0,zs,z0] [(0,5,D6)] e
abbrev YV:x9:= .F5 5 1 [z0,z0,z0,zs,z0] [(0,5,A7)] e
abbrev Me:x9:= .load (some 2) F0
abbrev Mf:x9:= .load (some 2) H8
abbrev Mg:x9:= .load (some 5) H8
abbrev Mh:x9:= .load (some 7) H8
abbrev YW:x9:= .F5 4 1 [zs,.O2,z0,z0] [(0,4,y3)] e
abbrev Mi:x9:= .store 1 D6 A4
abbrev Mj:x9:= .bin .sub H8 E6
abbrev Mk:x9:= .store 1 G9 D6
abbrev Da:x9:= .aV A4
abbrev Db:x9:= .off 4 V2
abbrev YX:q6:=G4 [C7,B3,i0 Uv,i0 Ft,kU]
abbrev YY:q6:=G4 [i1 bf 9,i1 (.len (s 9)) 10,i1 mX 11]
abbrev YZ:x9:= .build [(w 1),(w 1)] [(0,1,A4),(1,1,G9)]
abbrev QY:q6:=G4 [B3,kV]
abbrev Ml:x9:= .bin .sub A9 H8
abbrev Mm:x9:= .store 1 y3 H8
abbrev Mn:x9:= .pick H8 A4 kf
abbrev Mo:x9:= .N8 1 A4 E6
abbrev FR:x9:= .un .not G9
abbrev mZ:y5:=s 12
abbrev Za:q6:=G4 [E9 .add mZ E6,i1 nA 12]
abbrev Zb:q6:=G4 [E9 .add (s 19) E6,i1 nA 19]
abbrev Zc:q6:=G4 [E9 .add (s 17) E6,i1 nA 17]
abbrev Zd:q6:=G4 [E9 .add jb E6,i1 nA 11]
abbrev zo:o9:=i0 at4
abbrev Ze:q6:=P8 [I8,B3,zo] F0 sk (aR 2)
abbrev Zf:q6:=G4 [i1 bf 4,i1 (.len U5) 5,i1 mX 6]
abbrev QZ:y5:= .const (.d (.str [116]))
abbrev Ra:y5:= .const (.d (.str [118]))
abbrev Rb:y5:= .const (.d (.str [120]))
abbrev Zg:q6:=G4 [i1 bf 5,i1 (.len Q8) 6,i1 mX 7]
abbrev Zh:q6:=G4 [E9 .add Z3 E6,i1 nA 10]
abbrev Mp:x9:= .N8 5 A9 D7
abbrev qH:o9:=i0 as5
abbrev vQ:o9:=i1 gT 2
abbrev Zi:q6:=sq (G4 [F4,qH,vQ]) .ret
abbrev Mq:x9:= .load none dQ
abbrev Zj:q6:=sq (G4 [u5,qD,jc]) .ret
abbrev FT:x9:= .un .not H8
abbrev FU:q6:=sq Di .ret
abbrev FV:x9:= .off 4 J5
abbrev kT:y5:=l 24
abbrev Zk:x9:= .call 41 [(.const (.d (.str [122]))),G6]
abbrev Rc:x9:= .call 22 [D6,aA]
abbrev Zl:q6:=P8 [I8,i0 Fw] A7 sk (aR 0)
abbrev de:y5:=k 8
abbrev Re:x9:= .call 22 [A9,(k 5)]
abbrev Zm:x9:= .build [z0,z0,z0,zs,z0] [(0,1,A9)]
abbrev FZ:x9:= .off 0 y3
abbrev Zn:x9:= .F5 2 1 [z0,z0] [(0,2,E8)] e
abbrev Dd:x9:= .Q5 T9
abbrev Ga:x9:= .off 1 Q8
abbrev Rf:x9:= .call 22 [F0,M0]
abbrev Rh:q6:=G4 [i1 yM 5]
abbrev Ri:x9:= .call 22 [F0,aA]
abbrev Rj:q6:=G4 [i1 vG 3]
abbrev Mr:x9:= .call 40 [A9]
abbrev Ms:x9:= .load none A7
abbrev Mt:x9:= .extract H8 0
abbrev Mu:x9:= .extract H8 1
abbrev Zo:x9:= .F5 1 1 [(w 2)] [(0,1,A4)] e
abbrev Zp:q6:=sq (G4 [dg,i1 lS 4]) .ret
abbrev Rl:q6:=G4 [i1 mX 11]
abbrev Rm:q6:=G4 [i1 mX 13]
abbrev Ro:q6:=G4 [i1 mX 10]
abbrev Rp:x9:= .call 125 [A9,A7]
abbrev Rq:x9:= .call 125 [A9,F0]
abbrev Rr:x9:= .call 255 [A7,F0]
abbrev Rs:x9:= .call 22 [F0,A4]
abbrev Rt:q6:=G4 [i1 zH 4]
abbrev Ru:q6:=G4 [i1 Dj 5]
abbrev Rv:x9:= .pick U4 kt dQ
abbrev Rw:x9:= .load (some 8) U5
abbrev RA:x9:= .bin .eql kT D7
abbrev Zq:q6:=sq (G4 [i1 (.Q5 (k 7)) 3]) .ret
abbrev Zr:q6:=sq (G4 [i1 (.Q5 aA) 2]) .ret
abbrev Zs:q6:=sq (G4 [i1 (.Q5 aA) 3]) .ret
abbrev RB:x9:= .call 22 [A9,F0]
abbrev RC:x9:= .load (some 3) y3
abbrev RD:x9:= .load (some 3) D6
abbrev Zt:q6:=sq (G4 [i1 (.Q5 zG) 1]) .ret
abbrev RE:x9:= .bin .neq A4 E6
abbrev RF:x9:= .bin .eql y3 D7
abbrev RG:x9:= .bin .neq D6 D7
abbrev RH:x9:= .bin .gtr E8 D7
abbrev RJ:x9:= .bin .neq A4 gU
abbrev RK:x9:= .load (some 2) L7
abbrev RL:x9:= .bin .eql R8 D7
abbrev RM:x9:= .bin .gtr R8 D7
abbrev Mw:x9:= .un .not R8
abbrev RN:x9:= .load (some 2) Q8
abbrev RO:x9:= .load (some 4) aJ
abbrev RP:x9:= .bin .eql F0 M0
abbrev RQ:x9:= .bin .eql A9 M0
abbrev RR:x9:= .pick E8 kt Q7
abbrev Gc:x9:= .Q5 U4
abbrev RS:x9:= .pick R8 kt U4
abbrev Mx:q6:=sq QD .ret
abbrev vI:y5:=k 1024
abbrev Zu:x9:= .F5 1 1 [z0] [(0,1,H8)] e
abbrev Zv:q6:=sq (G4 [I8,jc]) .ret
abbrev RU:x9:= .load (some 5) F0
abbrev RV:x9:= .bin .eql H8 y3
abbrev RW:x9:= .bin .add H8 D6
abbrev RX:x9:= .bin .add E6 A7
abbrev RY:x9:= .bin .add E6 F0
abbrev RZ:x9:= .bin .neq A9 E6
abbrev Sa:x9:= .bin .neq A7 E6
abbrev Sb:x9:= .bin .eql F0 E6
abbrev Sc:x9:= .bin .gtr A7 D7
abbrev Sd:x9:= .bin .geq F0 D7
abbrev Se:x9:= .bin .lss A9 E8
abbrev Sf:x9:= .pick y3 G9 kf
abbrev Sg:x9:= .pick A4 L7 kf
abbrev Si:x9:= .pick G6 T9 kf
abbrev Sj:x9:= .store 3 aJ E8
abbrev dX:o9:=ms 9
abbrev Zw:q6:=G4 [dX,gh,i1 gT 9]
abbrev Zx:q6:=G4 [K9,gh,vQ]
abbrev Mz:x9:= .off 0 U5
abbrev Sk:x9:= .load none (l 26)
abbrev Sl:x9:= .load none (l 27)
abbrev Sm:x9:= .bin .neq A9 A7
abbrev Sn:x9:= .bin .geq A9 H8
abbrev Sq:x9:= .store 1 A4 H8
abbrev Sr:x9:= .pick F0 kt A4
abbrev Ss:x9:= .N8 4 y3 A4
abbrev Su:x9:= .N8 3 y3 A4
abbrev Sv:x9:= .N8 5 A4 D6
abbrev Sw:x9:= .N8 2 A4 D6
abbrev Sx:x9:= .pick H8 kt G9
abbrev Sy:x9:= .pick H8 G9 kf
abbrev Sz:x9:= .store 1 H8 F0
abbrev MA:x9:= .aV y3
abbrev SA:x9:= .N8 2 H8 y3
abbrev SC:x9:= .N8 4 A7 D6
abbrev Zy:q6:=G4 [sH,i1 Dj 3]
abbrev MC:x9:= .off 4 aJ
abbrev MD:x9:= .off 2 V2
abbrev Zz:q6:=sq (G4 [i1 qx 4]) .ret
abbrev ZA:q6:=sq (G4 [i1 yM 2]) .ret
abbrev ZB:q6:=sq (G4 [i1 yM 4]) .ret
abbrev SE:x9:= .load none dR
abbrev ZC:q6:=sq (G4 [i1 CZ 1]) .ret
abbrev K8:o9:=i0 Ur
abbrev ga:o9:=i0 Ih
abbrev ki:o9:=i0 as9
abbrev iO:o9:=i0 bf7
abbrev qC:o9:=if_ rM 4
abbrev kX:o9:=i0 au6
abbrev V1:o9:=ld 4
abbrev nc:o9:=i0 at3
abbrev kj:o9:=i0 bg0
abbrev kr:o9:=i0 bf8
abbrev oJ:o9:=i0 as4
abbrev jg:o9:=ol 0 1
abbrev sG:o9:=i1 cn 7
abbrev qF:o9:=i0 as8
abbrev qG:o9:=i0 as7
abbrev vN:o9:=i1 iX 1
abbrev sM:o9:=i0 at2
abbrev sN:o9:=i0 at1
abbrev nj:o9:=os 6 2
abbrev nq:o9:=os 1 5
abbrev yW:o9:=i1 nx 2
abbrev yX:o9:=i1 cn 4
abbrev vW:o9:=i0 au3
abbrev vX:o9:=i0 au2
abbrev vY:o9:=i0 au1
abbrev vZ:o9:=i0 at7
abbrev we:o9:=i0 vj
abbrev wg:o9:=i0 at0
abbrev Dh:o9:=i1 sA 3
abbrev qJ:o9:=os 1 6
abbrev zh:o9:=i0 au0
abbrev zi:o9:=i0 at9
abbrev zj:o9:=i0 at8
abbrev zk:o9:=i0 yP
abbrev zl:o9:=i0 Qx
def O3 (t:q9){x:q9}(h:t=x:=by dsimp only [u,e,sr,su,blk,lop,aR,D4,app,V6,E9,X8,gB,bF,Z6,eM,bC0,UD,wL,le0,un0,br7,D7,mX,A9,A7,nA,E6,zq4,p6,gb,C6,F0,H8,fV,kU,C7,bf5,fZ,kW,zq5,bf,V2,zq9,gT,y3,Ig,qD,jr,A4,Ur,D6,zG,F4,rL,J5,W9,Fl,y9,K9,al0,P9,sF,au5,zg,sK,Fs,aI4,sE,CM,bf1,OF,bf2,aJ,Ih,E8,Ii,Ij,B3,gh,yY,vF,vJ,vS,LQ,Q8,U5,LI,jc,Ut,u5,Q1,cE,LP,MI,aI5,Dc,G9,T8,dD,lS,al2,CN,sD,G6,L7,R8,qB,bf3,dg,DU,di,S5,sJ,vq,yV,Im,LV,aI6,bf4,gU,cn,vK,xH,zH,rM,dV,Q0,vz,fW,at6,oI,CH,Df,S6,De,bf6,fh,lU,J9,bf9,je,gV,M0,au4,vU,lV,sC,aI7,ME,oH,DS,zI,bf7,dF,MF,aG,kV,dU,aI8,MG,nr,vO,Ik,iX,tM,ff,Di,al4,Il,DT,bu,FX,FY,aI9,bf8,Us,Dj,jt,I8,vP,MH,R4,Z0,FW,bM,sO,vM,aJ0,aJ1,T9,nx,sH,sx,vL,Uu,Dg,iN,aJ2,X9,at5,qE,aJ3,aJ4,bg0,al6,aJ5,Uv,as4,as5,jf,aZ,LF,kY,FQ,MB,Mv,YE,yK,as6,kQ,yL,Lx,qw,as7,Q7,kR,mY,Lz,as8,sw,vi,CG,X3,LA,Fm,as9,kg,at0,Fo,oE,Qw,Fp,at1,Fq,at2,au7,zf,au8,ze,YF,U4,Y9,sy,Rk,YG,nh,Q4,YH,qI,My,YI,at3,Ft,qx,yM,LB,LD,Fu,yN,at4,Qx,vj,LG,LH,yO,yP,Qy,CI,at7,sA,Qz,vG,LJ,at8,LK,at9,au0,QA,U6,LL,N4,LM,vk,au1,au2,au3,vm,QB,Fv,kS,yZ,QC,QD,YJ,QE,ay,vp,Z3,oF,CJ,vR,QF,LN,CL,qy,qz,oG,QG,LO,Fw,CO,CP,CQ,au6,YK,QH,QI,aA,Fx,Fy,CR,Fz,FA,aF,QJ,FB,FC,LR,LS,LU,QK,dQ,FD,FE,QL,FF,qA,CU,QM,dW,QN,aH,QO,jh,YL,vt,vu,vv,bK,QS,QT,FG,FH,FI,YM,yQ,fc,yR,sB,dR,LW,YN,CV,CW,QU,yS,yT,FJ,QV,FK,FL,YO,QW,FM,FN,FO,FP,vA,vB,vD,vE,YP,YQ,YR,CX,CY,fe,LX,LY,LZ,Ma,Mb,Mc,CZ,jb,YS,yU,Md,YT,QX,YU,YV,Me,Mf,Mg,Mh,YW,Mi,Mj,Mk,Da,Db,YX,YY,YZ,QY,Ml,Mm,Mn,Mo,FR,mZ,Za,Zb,Zc,Zd,zo,Ze,Zf,QZ,Ra,Rb,Zg,Zh,Mp,qH,vQ,Zi,Mq,Zj,FT,FU,FV,kT,Zk,Rc,Zl,de,Re,Zm,FZ,Zn,Dd,Ga,Rf,Rh,Ri,Rj,Mr,Ms,Mt,Mu,Zo,Zp,Rl,Rm,Ro,Rp,Rq,Rr,Rs,Rt,Ru,Rv,Rw,RA,Zq,Zr,Zs,RB,RC,RD,Zt,RE,RF,RG,RH,RJ,RK,RL,RM,Mw,RN,RO,RP,RQ,RR,Gc,RS,Mx,vI,Zu,Zv,RU,RV,RW,RX,RY,RZ,Sa,Sb,Sc,Sd,Se,Sf,Sg,Si,Sj,dX,Zw,Zx,Mz,Sk,Sl,Sm,Sn,Sq,Sr,Ss,Su,Sv,Sw,Sx,Sy,Sz,MA,SA,SC,Zy,MC,MD,Zz,ZA,ZB,SE,ZC,K8,ga,ki,iO,qC,kX,V1,nc,kj,kr,oJ,jg,sG,qF,qG,vN,sM,sN,nj,nq,yW,yX,vW,vX,vY,vZ,we,wg,Dh,qJ,zh,zi,zj,zk,zl,G4,bX,P8,Dm,k,kt,kf,z0,zs,zb,w,l,s,i0,i1,it,if_,i3,ms,ml,os,ol,ld,sq,rg,te,sk]):{ x:q9 // t=x }:=⟨x,h⟩
end Go.A2.Z


import Derived.Calls
import Derived.Below
import Derived.WalkKit
import Derived.Laws.BytesString
import Derived.Lib.Strings
import Derived.Laws.MakeOwn
set_option linter.all false
open Bool renaming and_eq_true→c8,false_eq_true→e8,not_eq_true'→o8,or_eq_false_iff→E5,true→W,false→F
open List renaming cons_append→G9,getElem?_append_left→s8,getElem?_append_right→q9,getElem?_eq_getElem→n5,getElem?_set_ne→q8,getElem?_set_self→C7,getElem_of_mem→O8,length_append→s9,length_cons→q7,length_map→C5,length_take→P7,map_cons→M8,mem_cons→C4,mem_singleton→y3,replicate→c9,length→O
open Nat renaming add_assoc→M9,beq→y7,ble→F0,eq_of_beq_eq_true→j4,le_of_ble_eq_true→l5,le_refl→o6,le_trans→A3,lt_or_ge→x9,mul_le_mul_right→K4
open Option renaming some→J,none→K
namespace Go
theorem V{p:Prop}(h:p:=by omega):p:=h
theorem U{p:Prop}(h:p:=by simp):p:=h
theorem M{p:Prop}(h:p:=by simp_all):p:=h
theorem D{p:Prop}(h:p:=by simp;omega):p:=h
end Go
namespace Go.B3
inductive Data where
 |bool (b:Bool)
 |int (k:IntKind) (n:Int)
 |str (s:List UInt8)
 |slice (len:Nat) (cells:List Data)
 |cZ
 |P5
 |dV
 |nilIface
 deriving Inhabited
inductive KD where
 |i (k:IntKind) (n:Int)
 |s (x:List UInt8)
 |b (b:Bool)
 deriving DecidableEq,Inhabited
inductive Key where
 |int (k:IntKind) (n:Int)
 |str (s:List UInt8)
 |bool (b:Bool)
 |st (l:List KD)
 deriving DecidableEq,Inhabited
inductive c7 where
 |any
 |d (x:Data)
 |ptr (id off:Nat)
 |U2 (cells:List Data)
 |s5 (id sz lo len:Nat)
 |own (sz len:Nat) (cells:List Data)
 |H7
 |agg (cells:List c7)
 |tuple (vs:List c7)
 |func (f:FuncId) (first caps:List c7)
 |map (id:Nat)
 deriving Inhabited
inductive B4 where
 |dead
 |cells (l:List c7)
 |map (es:List (Key×c7))
 deriving Inhabited
abbrev n9:=List B4
inductive z6 where
 |loc (j:Nat)
 |slot (s:Nat)
 |const (v:c7)
 deriving Inhabited
inductive CK where
 |i
 |s
 |b
 deriving DecidableEq,Inhabited
inductive KK where
 |i
 |s
 |b
 |st (ks:List CK)
 deriving DecidableEq,Inhabited
inductive s7 where
 |S1 (x:z6)
 |pick (c a b:z6)
 |alloc (zero:List c7)
 |box (x:z6)
 |build (zero:List c7) (parts:List (Nat×Nat×z6))
 |J3 (sz len:Nat) (zero:List c7) (parts:List (Nat×Nat×z6)) (ob:Bool)
 |load (n:Option Nat) (x:z6)
 |store (n:Nat) (a x:z6)
 |cH (x:z6)
 |bin (op:BinOp) (x y:z6)
 |un (op:UnOp) (x:z6)
 |AJ (neg:Bool) (x:z6)
 |A1 (neg:Bool) (x y:z6)
 |Bc (neg:Bool) (ks:List CK) (x y:z6)
 |pE (k:IntKind) (x:z6)
 |mH (x:z6)
 |Z0 (sz:Nat) (x:z6) (lo hi:Option z6)
 |off (k:Nat) (x:z6)
 |J4 (sz:Nat) (x i:z6)
 |jA (n sz:Nat) (x i:z6)
 |K6 (x i:z6)
 |extract (x:z6) (i:Nat)
 |fld (x:z6) (i:Nat)
 |len (x:z6)
 |Y0 (x:z6)
 |append (sz bytes:Nat) (ob:Bool) (x y:z6)
 |J9 (sz bytes:Nat) (x y:z6)
 |ug (x:Data)
 |own (sz:Nat) (x:z6)
 |iL (isMax:Bool) (xs:List z6)
 |clear (sz:Nat) (zero:List c7) (x:z6)
 |an (f:FuncId) (first caps:List z6)
 |call (f:FuncId) (xs:List z6)
 |Y2 (x:z6) (xs:List z6)
 |makeMap
 |jI (sz:Nat) (zero:List c7) (x y:z6)
 |lookup (kk:KK) (zero:c7) (ok:Bool) (m k:z6)
 |dU (kk:KK) (m k v:z6)
 |defer (x:z6)
 |bad
 deriving Inhabited
structure o4 where
 op:s7
 dst:Option Nat:=K
 guard:Option (Nat×Bool):=K
 dm:List Nat:=[]
 deriving Inhabited
inductive p6 where
 |skip
 |region (ops:List o4) (draw:Bool)
 |seq (a b:p6)
 |cond (c:z6) (thn els:p6)
 |test (ops:List o4) (draw:Bool) (c:z6) (thn els:p6)
 |block (id:Nat) (body:p6)
 |loop (mask:List Bool) (body:p6)
 |exit (id:Nat)
 |ret
 |fz (s:Nat)
 |bad
 deriving Inhabited
inductive EE where
 |slot (s:Nat)
 |cell (s:Nat) (n:Option Nat)
 deriving Inhabited
structure q6 where
 nparams:Nat
 names:List Nat
 body:p6
 results:List EE
 cI:Bool:=F
 deriving Inhabited
def c7.F4:c7->c7
 | .own _ len cells=> .d (.slice len cells)
 | .H7=> .d (.slice 0 [])
 |v=>v
def c7.one:c7->Bool
 | .any=>F
 | .agg _=>F
 | .tuple _=>F
 |_=>W
def c7.cells? :c7->Option (List c7)
 | .agg l=>if l.all c7.one then J l else K
 |v=>if v.one then J [v] else K
def c7.data? :c7->Option Data
 | .d x=>J x
 | .own _ len cells=>J (.slice len cells)
 | .H7=>J (.slice 0 [])
 |_=>K
def L5 :List c7->Option (List Data)
 |[]=>J []
 |v::vs=>match v.data? with
  |some x=>match L5 vs with
   |some xs=>J (x::xs)
   |none=>K
  |none=>K
mutual
def c7.K9:c7->Nat
 | .ptr id _=>id+1
 | .s5 id _ _ _=>id+1
 | .map id=>id+1
 | .agg l=>C0 l
 | .tuple l=>C0 l
 | .func _ a b=>max (C0 a) (C0 b)
 |_=>0
def C0:List c7->Nat
 |[]=>0
 |v::vs=>max v.K9 (C0 vs)
end
mutual
def c7.kill (id:Nat):c7->c7
 | .ptr i o=>if i=id then .any else .ptr i o
 | .s5 i z l n=>if i=id then .any else .s5 i z l n
 | .map i=>if i=id then .any else .map i
 | .agg l=> .agg (K1 id l)
 | .tuple l=> .tuple (K1 id l)
 | .func f a b=> .func f (K1 id a) (K1 id b)
 |v=>v
def K1 (id:Nat):List c7->List c7
 |[]=>[]
 |v::vs=>v.kill id::K1 id vs
end
def B4.K9:B4->Nat
 | .dead=>0
 | .cells l=>C0 l
 | .map es=>C0 (es.map (·.2))
def cU:List B4->Nat->Bool
 |[],_=>W
 |o::os,k=>o.K9<=k+1&&cU os (k+1)
def Q5:List B4->Nat
 |[]=>0
 |o::os=>max o.K9 (Q5 os)
def B4.kill (id:Nat):B4->B4
 | .dead=> .dead
 | .cells l=> .cells (K1 id l)
 | .map es=> .map (es.map λp=>(p.1,p.2.kill id))
def rd (H:n9)(id off n:Nat):Option (List c7) :=
 match H[id]? with
 |some (.cells l)=>if off+n<=O l then J ((l.drop off).take n) else K
 |_=>K
def splice (l:List c7)(off:Nat)(vs:List c7):List c7:=l.take off++vs++l.drop (off+O vs)
def wr (H:n9)(id off:Nat)(vs:List c7):Option n9 :=
 match H[id]? with
 |some (.cells l)=>if off+O vs<=O l then J (H.set id (.cells (splice l off vs))) else K
 |_=>K
def i64 (n:Int):c7:= .d (.int .i64 n)
def cC (op:BinOp)(k:IntKind)(a b:Int):Option Data :=
 match op with
 | .add=>J (.int k (k.wrap (a+b)))
 | .sub=>J (.int k (k.wrap (a - b)))
 | .mul=>J (.int k (k.wrap (a * b)))
 | .quo=>if b=0 then K else J (.int k (k.wrap (a.tdiv b)))
 | .rem=>if b=0 then K else J (.int k (a.tmod b))
 | .and=>J (.int k (k.wrap (BitVec.ofInt k.bits a&&&BitVec.ofInt k.bits b).toNat))
 | .or=>J (.int k (k.wrap (BitVec.ofInt k.bits a|||BitVec.ofInt k.bits b).toNat))
 | .xor=>J (.int k (k.wrap (BitVec.ofInt k.bits a ^^^ BitVec.ofInt k.bits b).toNat))
 | .eql=>J (.bool (a==b))
 | .neq=>J (.bool (a != b))
 | .lss=>J (.bool (a<b))
 | .leq=>J (.bool (a<=b))
 | .gtr=>J (.bool (a>b))
 | .geq=>J (.bool (a≥b))
 |_=>K
def BL (op:BinOp)(k:IntKind)(a b:Int):Option Data :=
 if b<0 then K else
 match op with
 | .shl=>J (.int k (k.wrap (a * 2 ^ (min b.toNat k.bits))))
 | .shr=>J (.int k (a.fdiv (2 ^ (min b.toNat k.bits))))
 |_=>K
def uc (op:BinOp)(a b:List UInt8):Option Data :=
 match op with
 | .add=>if O a+O b<4611686018427387904 then J (.str (a++b)) else K
 | .eql=>J (.bool (a==b))
 | .neq=>J (.bool (!(a==b)))
 | .lss=>J (.bool (Op.bytesLess a b))
 | .leq=>J (.bool (Op.bytesLess a b||a==b))
 | .gtr=>J (.bool (!(Op.bytesLess a b||a==b)))
 | .geq=>J (.bool (!(Op.bytesLess a b)))
 |_=>K
def aI:BinOp->Bool
 | .shl=>W
 | .shr=>W
 |_=>F
def O2 (op:BinOp):Data->Data->Option Data
 | .int k a,.int k' b=>if aI op then BL op k a b else if k=k' then cC op k a b else K
 | .str a,.str b=>uc op a b
 |_,_=>K
def DO (op:UnOp):Data->Option Data
 | .int k n=>match op with
  | .neg=>J (.int k (k.wrap (0 - n)))
  |_=>K
 | .bool b=>match op with
  | .not=>J (.bool (!b))
  |_=>K
 |_=>K
def bB (cells:List c7):List (Nat×Nat×c7)->Option (List c7)
 |[]=>J cells
 |(off,sz,v)::rest=>match v.cells? with
  |some l=>if O l=sz/\off+sz<=O cells then bB (splice cells off l) rest else K
  |none=>K
def je :List Data->Option (List UInt8)
 |[]=>J []
 | .int .u8 n::r=>match je r with
  |some bs=>J (UInt8.ofNat n.toNat::bs)
  |none=>K
 |_=>K
def Bh (isMax:Bool)(a b:Data):Option Data :=
 match a,b with
 | .int k x,.int _ y=>J (.int k (if isMax then (if y>x then y else x) else (if y<x then y else x)))
 |_,_=>K
def gF (isMax:Bool):Data->List c7->Option Data
 |a,[]=>J a
 |a,.d b::r=>match Bh isMax a b with
  |some c=>gF isMax c r
  |none=>K
 |_,_=>K
def Data.Is:CK->Data->Data->Option Bool
 | .i,.int k a,.int k' b=>if k=k' then J (a==b) else K
 | .s,.str a,.str b=>J (a==b)
 | .b,.bool a,.bool b=>J (a==b)
 |_,_,_=>K
def Q6:List CK->List c7->List c7->Option Bool
 |[],[],[]=>J W
 |k::ks,.d a::r,.d b::q=>match Data.Is k a b with
  |some t=>match Q6 ks r q with
   |some u=>J (t&&u)
   |none=>K
  |none=>K
 |_,_,_=>K
def KD.av:KD->c7
 | .i k n=> .d (.int k n)
 | .s x=> .d (.str x)
 | .b t=> .d (.bool t)
def Pu :List c7->Option (List KD)
 |[]=>J []
 | .d (.int k n)::vs=>match Pu vs with
  |some r=>J (.i k n::r)
  |none=>K
 | .d (.str x)::vs=>match Pu vs with
  |some r=>J (.s x::r)
  |none=>K
 | .d (.bool t)::vs=>match Pu vs with
  |some r=>J (.b t::r)
  |none=>K
 |_=>K
def c7.Pv :c7->Option Key
 | .d (.int k n)=>J (.int k n)
 | .d (.str s)=>J (.str s)
 | .d (.bool b)=>J (.bool b)
 | .agg l=>match Pu l with
  |some r=>J (.st r)
  |none=>K
 |_=>K
def Data.gA:KK->Key->Key->Option Bool
 | .i,.int k a,.int k' b=>if k=k' then J (a==b) else K
 | .s,.str a,.str b=>J (a==b)
 | .b,.bool a,.bool b=>J (a==b)
 | .st ks,.st l,.st m=>Q6 ks (l.map KD.av) (m.map KD.av)
 |_,_,_=>K
def KK.fits (kk:KK)(k:Key):Bool:=match kk,k with
 | .st ks,.st l=>(Q6 ks (l.map KD.av) (l.map KD.av)).isSome
 | .st _,_=>F
 |_,_=>W
def eV (kk:KK)(k:Key):List (Key×c7)->Option (Option c7)
 |[]=>J K
 |(k',v)::r=>match Data.gA kk k k' with
  |some W=>J (J v)
  |some F=>eV kk k r
  |none=>K
def iK (kk:KK)(k:Key)(v:c7):List (Key×c7)->Option (List (Key×c7))
 |[]=>J [(k,v)]
 |(k',v')::r=>match Data.gA kk k k' with
  |some W=>J ((k,v)::r)
  |some F=>match iK kk k v r with
   |some r' =>J ((k',v')::r')
   |none=>K
  |none=>K
def V2 (ρ:z6->c7)(dflt:Nat):Option z6->Option Int
 |none=>J dflt
 |some x=>match ρ x with
  | .d (.int _ n)=>J n
  |_=>K
def C1 (H:n9)(sz:Nat):c7->Option (Nat×List c7)
 | .d (.slice len cells)=>if O cells=len * sz then J (len,cells.map .d) else K
 | .own z len cells=>if z=sz then J (len,cells.map .d) else K
 | .s5 id z lo len=>if z=sz then match rd H id lo (len * sz) with
   |some cs=>J (len,cs.map c7.F4)
   |none=>K
  else K
 | .d (.str s)=>if sz=1 then J (O s,s.map λb=> .d (.int .u8 b.toNat)) else K
 |_=>K
def l8 (ρ:z6->c7)(H:n9):s7->Option (c7×List Nat)
 | .pick c a b=>match ρ c with
  | .d (.bool t)=>J (if t then ρ a else ρ b,[])
  |_=>K
 | .build zero parts=>match bB zero (parts.map λ(o,s,x)=>(o,s,ρ x)) with
  |some cs=>J (.agg cs,[])
  |none=>K
 | .J3 sz len zero parts F=>match bB zero (parts.map λ(o,s,x)=>(o,s,ρ x)) with
  |some cs=>match L5 cs with
   |some xs=>if 0<sz/\O xs=len * sz then J (.own sz len xs,[]) else K
   |none=>K
  |none=>K
 | .load K x=>match ρ x with
  | .ptr id off=>match rd H id off 1 with
   |some [v]=>J (v.F4,[id])
   |_=>K
  | .U2 (c::_)=>J (.d c,[])
  |_=>K
 | .load (J n) x=>match ρ x with
  | .ptr id off=>match rd H id off n with
   |some vs=>J (.agg (vs.map c7.F4),[id])
   |none=>K
  | .U2 cells=>if n<=O cells then J (.agg ((cells.take n).map .d),[]) else K
  |_=>K
 | .cH x=>match ρ x with
  | .ptr id off=>J (.ptr id off,[])
  | .U2 cells=>J (.U2 cells,[])
  | .func f a b=>J (.func f a b,[])
  |_=>K
 | .bin op x y=>match ρ x,ρ y with
  | .d a,.d b=>match O2 op a b with
   |some r=>J (.d r,[])
   |none=>K
  |_,_=>K
 | .A1 neg x y=>match ρ x,ρ y with
  | .d (.bool a),.d (.bool b)=>J (.d (.bool (neg != (a==b))),[])
  |_,_=>K
 | .Bc neg ks x y=>match ρ x,ρ y with
  | .agg a,.agg b=>match Q6 ks a b with
   |some t=>J (.d (.bool (neg != t)),[])
   |none=>K
  |_,_=>K
 | .un op x=>match ρ x with
  | .d a=>match DO op a with
   |some r=>J (.d r,[])
   |none=>K
  |_=>K
 | .AJ neg x=>match ρ x with
  | .d (.slice len _)=>if 0<len then J (.d (.bool neg),[]) else K
  | .s5 _ _ _ _=>J (.d (.bool neg),[])
  |_=>K
 | .pE k x=>match ρ x with
  | .d (.int _ n)=>J (.d (.int k (k.wrap n)),[])
  |_=>K
 | .mH x=>match ρ x with
  | .d (.slice len cells)=>if O cells=len then match je cells with
    |some bs=>J (.d (.str bs),[])
    |none=>K
   else K
  |_=>K
 | .Z0 sz x lo hi=>match ρ x with
  | .d (.slice len cells)=>match V2 ρ 0 lo,V2 ρ len hi with
   |some l,J h=>if 0<=l/\l<=h/\h<=len/\O cells=len * sz then
     J (.d (.slice (h - l).toNat ((cells.take (h.toNat * sz)).drop (l.toNat * sz))),[]) else K
   |_,_=>K
  | .s5 id z a len=>match V2 ρ 0 lo,V2 ρ len hi with
   |some l,J h=>if 0<=l/\l<=h/\h<=len/\z=sz then
     if l=h then J (.d (.slice 0 []),[]) else J (.s5 id sz (a+l.toNat * sz) (h - l).toNat,[]) else K
   |_,_=>K
  |_=>K
 | .off k x=>match ρ x with
  | .ptr id off=>J (.ptr id (off+k),[])
  | .U2 cells=>J (.U2 (cells.drop k),[])
  |_=>K
 | .J4 sz x i=>match ρ x,ρ i with
  | .d (.slice len cells),.d (.int _ i)=>if 0<=i/\i<len then J (.U2 (cells.drop (i.toNat * sz)),[]) else K
  | .s5 id z lo len,.d (.int _ i)=>if 0<=i/\i<len/\z=sz then J (.ptr id (lo+i.toNat * sz),[]) else K
  |_,_=>K
 | .jA n sz x i=>match ρ x,ρ i with
  | .ptr id off,.d (.int _ i)=>if 0<=i/\i<n then J (.ptr id (off+i.toNat * sz),[]) else K
  | .U2 cells,.d (.int _ i)=>if 0<=i/\i<n then J (.U2 (cells.drop (i.toNat * sz)),[]) else K
  |_,_=>K
 | .K6 x i=>match ρ x,ρ i with
  | .d (.str s),.d (.int _ i)=>if 0<=i then match s[i.toNat]? with
    |some b=>J (.d (.int .u8 b.toNat),[])
    |none=>K
   else K
  |_,_=>K
 | .extract x i=>match ρ x with
  | .tuple vs=>match vs[i]? with
   |some v=>J (v,[])
   |none=>K
  |_=>K
 | .fld x i=>match ρ x with
  | .agg vs=>match vs[i]? with
   |some v=>J (v,[])
   |none=>K
  |_=>K
 | .len x=>match ρ x with
  | .d (.slice len _)=>J (i64 len,[])
  | .s5 _ _ _ len=>J (i64 len,[])
  |_=>K
 | .Y0 x=>match ρ x with
  | .d (.str s)=>J (i64 (O s),[])
  |_=>K
 | .iL isMax xs=>match xs.map ρ with
  | .d a::r=>match gF isMax a r with
   |some c=>J (.d c,[])
   |none=>K
  |_=>K
 | .an f first caps=>J (.func f (first.map ρ) (caps.map ρ),[])
 | .lookup kk zero ok m k=>match ρ m,(ρ k).Pv with
  | .map id,J key=>match H[id]? with
   |some (.map es)=>match eV kk key es,kk.fits key with
    |some r,W=>J (if ok then .tuple [r.getD zero,.d (.bool r.isSome)] else r.getD zero,[id])
    |_,_=>K
   |_=>K
  | .d .dV,J key=>match Data.gA kk key key with
   |some W=>J (if ok then .tuple [zero,.d (.bool F)] else zero,[])
   |_=>K
  |_,_=>K
 |_=>K
inductive Touch where
 |slot (s:Nat)
 |obj (id:Nat)
 |cell (id off:Nat)
 |below (n:Nat)
 deriving Inhabited
structure G4 where
 T:List c7
 H:n9
 L:List c7
 o5:List Touch
def Touch.V7 (s:Nat):Touch->Bool
 | .slot t=>t==s
 |_=>F
def Touch.G8 (id:Nat):Touch->Bool
 | .obj i=>i==id
 | .below n=>id<n
 |_=>F
def Touch.aR (id off:Nat):Touch->Bool
 | .obj i=>i==id
 | .cell i o=>i==id&&o==off
 | .below n=>id<n
 |_=>F
def c7.UA:c7->c7
 | .H7=> .H7
 |v=>v.F4
def G5 (T L:List c7):z6->c7
 | .loc j=>(L.getD j .any).F4
 | .slot s=>(T.getD s .any).F4
 | .const v=>v.UA
def bF (st:G4):z6->Option (Nat×Nat)
 | .loc m=>match st.L[m]? with
  |some (.ptr id off)=>J (id,off)
  |_=>K
 | .slot s=>if st.o5.any (Touch.V7 s) then K else match st.T[s]? with
  |some (.ptr id off)=>J (id,off)
  |_=>K
 | .const _=>K
structure H8 where
 Xw:Nat
 Xo:Nat
 base:Nat
 strict:Nat
def H8.may (l:H8)(id:Nat):Bool:=decide (id<l.Xw)||decide (l.Xo<=id)
def H8.qD (l:H8)(a b base strict:Nat):H8 :=
 if l.Xo<=l.Xw then ⟨a,b,base,strict⟩ else ⟨min l.Xw a,max l.Xo b,base,strict⟩
def aJ (l:H8)(st:G4)(sz:Nat):s7->Option (Nat×List Data×G4)
 | .S1 (.slot s) =>
  if st.o5.any (Touch.V7 s) then K else
  match st.T[s]? with
  |some (.own z len cells)=>if z=sz then J (len,cells,{ st with T:=st.T.set s (.d (.slice len cells)),o5:= .slot s::st.o5 }) else K
  |_=>K
 | .load K x =>
  match bF st x with
  |some (id,off) =>
   if st.o5.any (Touch.aR id off)|| !l.may id then K else
   match st.H[id]? with
   |some (.cells cs) =>
    match cs[off]? with
    |some (.own z len cells)=>if z=sz then J (len,cells,{ st with H:=st.H.set id (.cells (cs.set off (.d (.slice len cells)))),o5:= .cell id off::st.o5 }) else K
    |_=>K
   |_=>K
  |none=>K
 |_=>K
def Q7 (l:H8)(j9:List o4)(st:G4)(sz:Nat):z6->Option (Nat×List Data×G4)
 | .const (.own z len cells)=>if z=sz then J (len,cells,st) else K
 | .const _=>K
 | .slot _=>K
 | .loc j =>
  match st.L[j]? with
  |some (.own z len cells)=>if z=sz then J (len,cells,{ st with L:=st.L.set j (.d (.slice len cells)) }) else K
  |some (.d (.slice _ _))=>match j9[j]? with
   |some a=>aJ l st sz a.op
   |none=>K
  |_=>K
def roomFor (n bytes:Nat):Bool:=decide ((2 * n+512) * bytes<=281474976710656)
abbrev uS:=FuncId->List c7->n9->H8->Option (c7×n9)
def put (st:G4)(k:Nat)(v:c7):G4:={ st with L:=st.L.set k v }
def F1 (st:G4):z6->c7×G4
 | .loc j=>match st.L[j]? with
  |some (.own z len cells)=>(.own z len cells,{ st with L:=st.L.set j (.d (.slice len cells)) })
  |some .H7=>(.H7,st)
  |_=>(G5 st.T st.L (.loc j),st)
 | .const v=>(v,st)
 | .slot s=>(G5 st.T st.L (.slot s),st)
structure Env where
 cf:uS
 prom:FuncId->Bool
 mode:FuncId->Nat
 idle:FuncId->Bool
 lim:H8
 entry:Nat
def I4 (H:n9)(strict:Nat):Nat->Nat->Nat
 |0,n=>n
 |k+1,n=>if n<=strict then n else
  let m:=max n (Q5 ((H.take n).drop strict))
  if m=n then n else I4 H strict k m
def I7 (H:n9)(strict n:Nat):Nat :=
 if n<=strict then n else if cU ((H.take n).drop strict) strict then n else strict
def D7 (E:Env)(k:Nat)(f:FuncId)(args:List c7)(st:G4):Option G4 :=
 if E.prom f then
  match E.cf f args st.H E.lim with
  |some (v,H1)=>if O st.H<=O H1 then J (put { st with H:=H1,o5:= .below (O H1)::st.o5 } k v) else K
  |none=>K
 else
  let n:=I4 st.H E.lim.strict 8 (C0 args)
  if n<=O st.H/\Q5 ((st.H.take n).drop E.lim.strict)<=n then
   match E.mode f with
   |0=>match E.cf f args (st.H.take n) { E.lim with base:=n,strict:=I7 st.H E.lim.strict n } with
    |some (v,H1)=>if O H1=n then J (put { st with H:=H1++st.H.drop n,o5:= .below n::st.o5 } k v) else K
    |none=>K
   |1=>match E.cf f args (st.H.take n) ⟨0,n,n,I7 st.H E.lim.strict n⟩ with
    |some (v,H1)=>if O H1=n then J (put st k v) else K
    |none=>K
   |_ =>
    let m:=(args.headD .any).K9
    match E.cf f args (st.H.take n) (E.lim.qD m n n (I7 st.H E.lim.strict n)) with
    |some (v,H1)=>if O H1=n/\m<=n then J (put { st with H:=H1.take m++st.H.drop m,o5:= .below m::st.o5 } k v) else K
    |none=>K
  else K
def newId (st:G4)(y4:Option Nat):Nat:=y4.getD (O st.H)
def E1 (st:G4)(y4:Option Nat)(o:B4):G4 :=
 match y4 with
 |none=>{ st with H:=st.H++[o] }
 |some i=>{ st with H:=st.H.set i o }
def R2 (E:Env)(k n:Nat)(st:G4)(a:c7)(x:z6):Option G4 :=
 match a with
 | .ptr id off =>
  match (F1 st x).1.cells? with
  |some l =>
   if O l=n/\E.lim.may id/\(C0 l<=id+1\/(E.lim.base<=id/\E.lim.strict<=id)) then
    match wr (F1 st x).2.H id off l with
    |some H' =>J (put { (F1 st x).2 with H:=H',o5:= .obj id::(F1 st x).2.o5 } k .any)
    |none=>K
   else K
  |none=>K
 |_=>K
def U8 (E:Env)(k sz bytes:Nat)(st:G4)(id lo len:Nat)(y:c7):Option G4 :=
 if E.lim.base<=id/\E.entry<=id/\E.lim.may id then
  match st.H[id]?,C1 st.H sz y with
  |some (.cells l),J (m,cs) =>
   if lo=0/\len * sz=O l/\roomFor (len+m) bytes/\C0 cs<=id/\cs.all c7.one/\0<sz then
    J (put { T:=K1 id st.T,H:=(st.H.take E.lim.base++(st.H.drop E.lim.base).map (B4.kill id)).set id (.cells (K1 id l++cs)),L:=K1 id st.L,o5:= .obj id::st.o5 } k (.s5 id sz lo (len+m)))
   else K
  |_,_=>K
 else K
def gG (l:H8)(st:G4):s7->Bool
 | .S1 (.slot s)=> !st.o5.any (Touch.V7 s)&&(match st.T[s]? with
  |some .H7=>W
  |_=>F)
 | .load K x =>
  match bF st x with
  |some (id,off)=> !st.o5.any (Touch.aR id off)&&l.may id&&(match st.H[id]? with
   |some (.cells cs)=>(match cs[off]? with
    |some .H7=>W
    |_=>F)
   |_=>F)
  |none=>F
 |_=>F
def isNil (l:H8)(j9:List o4)(st:G4):z6->Bool
 | .const .H7=>W
 | .loc j=>match st.L[j]? with
  |some .H7=>W
  |some (.d (.slice _ _))=>match j9[j]? with
   |some a=>gG l st a.op
   |none=>F
  |_=>F
 |_=>F
def K0 (E:Env)(j9:List o4)(y4:Option Nat)(k sz bytes:Nat)(ob:Bool)(st:G4)(x:z6)(y:c7):Option G4 :=
 match C1 st.H sz y with
 |some (m,cs) =>
  if ob then
   if isNil E.lim j9 st x/\roomFor m bytes/\0<sz then
    if m=0 then J (put st k .H7)
    else J (put (E1 st y4 (.cells cs)) k (.s5 (newId st y4) sz 0 m))
   else K
  else
   match L5 cs with
   |some new =>
    match Q7 E.lim j9 st sz x with
    |some (len,cells,st') =>
     if roomFor (len+m) bytes/\0<sz then J (put st' k (.own sz (len+m) (cells++new))) else K
    |none=>K
   |none=>K
 |none=>K
def U7 (E:Env)(y4:Option Nat)(k sz bytes:Nat)(st:G4)(id lo len:Nat)(y:c7):Option G4 :=
 if E.lim.may id then
  match st.H[id]?,C1 st.H sz y with
  |some (.cells l),J (m,cs) =>
   if lo=0/\len * sz=O l/\roomFor (len+m) bytes/\C0 cs<=newId st y4/\cs.all c7.one/\0<sz then
    J (put (E1 { st with H:=st.H.set id .dead,o5:= .obj id::st.o5 } y4 (.cells (l.map c7.F4++cs))) k (.s5 (newId st y4) sz lo (len+m)))
   else K
  |_,_=>K
 else K
def aj (E:Env)(k sz:Nat)(zero:List c7)(st:G4):c7->Option G4
 | .s5 id z lo len =>
  if z=sz/\O zero=sz/\C0 zero=0/\E.lim.may id then
   match wr st.H id lo ((c9 len zero).flatten) with
   |some H' =>J (put { st with H:=H',o5:= .obj id::st.o5 } k (.tuple []))
   |none=>K
  else K
 | .d (.slice 0 _)=>J (put st k (.tuple []))
 |_=>K
def W7 (E:Env)(k:Nat)(kk:KK)(st:G4)(m key v:c7):Option G4 :=
 match m,key.Pv with
 | .map id,J kd=>match st.H[id]? with
  |some (.map es) =>
   if v.K9<=id+1/\E.lim.may id then
    match Data.gA kk kd kd with
    |some W=>match iK kk kd v es with
     |some es' =>J (put { st with H:=st.H.set id (.map es'),o5:= .obj id::st.o5 } k .any)
     |none=>K
    |_=>K
   else K
  |_=>K
 |_,_=>K
def CI (sz:Nat)(zero:List c7):c7->c7->Option Nat
 | .d (.int .i64 n),.d (.int .i64 m)=>if n=m/\0<=n/\n<=1000000/\0<sz/\O zero=sz then J n.toNat else K
 |_,_=>K
def ir (st:G4)(r:Option G4):Option G4:=r.map λs=>{ s with o5:= .obj (O st.H)::s.o5 }
def qj {st s' r}(h:ir st r=J s'):∃s,r=J s/\s' ={ s with o5:= .obj (O st.H)::s.o5 }:=by
 cases r with
 |none=>cases h
 |some s=>cases h;exact ⟨s,rfl,rfl⟩
def D9 (E:Env)(j9:List o4)(y4:Option Nat)(k:Nat)(st:G4):s7->Option G4
 | .alloc zero=>J (put (E1 st y4 (.cells zero)) k (.ptr (newId st y4) 0))
 | .box x=>match (G5 st.T st.L x).cells? with
  |some l=>J (put (E1 st y4 (.cells l)) k (.ptr (newId st y4) 0))
  |none=>K
 | .makeMap=>J (put (E1 st y4 (.map [])) k (.map (newId st y4)))
 | .ug x=>J (put st k (.d x))
 | .own sz x=>match Q7 E.lim j9 st sz x with
  |some (len,cells,st')=>J (put st' k (.own sz len cells))
  |none=>K
 | .jI sz zero x y=>match CI sz zero (G5 st.T st.L x) (G5 st.T st.L y) with
  |some n=>J (put (E1 st y4 (.cells (c9 n zero).flatten)) k (.s5 (newId st y4) sz 0 n))
  |none=>K
 | .J3 sz len zero parts W=>match bB zero (parts.map λ(o,s,x)=>(o,s,G5 st.T st.L x)) with
  |some cs=>if 0<sz/\O cs=len * sz then J (put (E1 st y4 (.cells cs)) k (.s5 (newId st y4) sz 0 len)) else K
  |none=>K
 | .store n a x=>R2 E k n st (G5 st.T st.L a) x
 | .append sz bytes ob x y =>
  match G5 st.T st.L x with
  | .s5 id z lo len=>if z=sz then U8 E k sz bytes st id lo len (G5 st.T st.L y) else K
  |_=>K0 E j9 y4 k sz bytes ob st x (G5 st.T st.L y)
 | .J9 sz bytes x y =>
  ir st <| match G5 st.T st.L x with
  | .s5 id z lo len=>if z=sz then U7 E K k sz bytes st id lo len (G5 st.T st.L y) else K
  |_=>K0 E j9 K k sz bytes W st x (G5 st.T st.L y)
 | .clear sz zero x=>aj E k sz zero st (G5 st.T st.L x)
 | .call f xs=>D7 E k f (xs.map (G5 st.T st.L)) st
 | .Y2 x xs=>match G5 st.T st.L x with
  | .func f first caps=>D7 E k f (first++xs.map (G5 st.T st.L)++caps) st
  |_=>K
 | .dU kk m key v=>W7 E k kk st (G5 st.T st.L m) (G5 st.T st.L key) (G5 st.T st.L v)
 | .defer x=>match G5 st.T st.L x with
  | .func f _ _=>if E.idle f then J (put st k .any) else K
  |_=>K
 |_=>K
def s7.D4:s7->Bool
 | .alloc _=>W
 | .box _=>W
 | .makeMap=>W
 | .jI .. =>W
 | .J3 _ _ _ _ b=>b
 | .store .. =>W
 | .append .. =>W
 | .J9 .. =>W
 | .call .. =>W
 | .Y2 .. =>W
 | .dU .. =>W
 | .clear .. =>W
 | .defer _=>W
 | .ug _=>W
 | .own .. =>W
 |_=>F
def F2 (st:G4)(k:Nat):Option Nat->Option G4
 |none=>J st
 |some s =>
  if s<O st.T then
   J { (F1 st (.loc k)).2 with T:=st.T.set s (F1 st (.loc k)).1,o5:= .slot s::st.o5 }
  else K
def X2 (st:G4)(k:Nat):Option Nat->Option G4
 |none=>J st
 |some s =>
  if s<O st.T&&st.o5.any (Touch.V7 s) then
   J { (F1 st (.loc k)).2 with T:=st.T.set s (F1 st (.loc k)).1 }
  else K
def y8 (y4:Option Nat)(st:G4)(k:Nat)(dst:Option Nat):Option G4 :=
 match y4 with
 |none=>F2 st k dst
 |some _=>X2 st k dst
def A9 (L:List c7):Option (Nat×Bool)->Option Bool
 |none=>J W
 |some (j,want)=>match L[j]? with
  |some (.d (.bool b))=>J (b==want)
  |some (.tuple [])=>J F
  |_=>K
def D3 (E:Env)(j9:List o4)(y4:Option Nat)(k:Nat)(op:s7)(st:G4):Option (G4×List Nat) :=
 if op.D4 then
  match D9 E j9 y4 k st op with
  |some st' =>J (st',[])
  |none=>K
 else
  match op with
  | .S1 x=>J (put (F1 st x).2 k (F1 st x).1,[])
  |op=>match l8 (G5 st.T st.L) st.H op with
   |some (v,rs)=>J (put st k v,rs)
   |none=>K
def A2 (E:Env)(j9:List o4)(y4:Option Nat)(k:Nat)(i:o4)(st:G4):Option (G4×List Nat) :=
 match A9 st.L i.guard with
 |some W =>
  match D3 E j9 y4 k i.op st with
  |some (st',rs)=>match y8 y4 st' k i.dst with
   |some st2=>J (st2,rs)
   |none=>K
  |none=>K
 |some F=>match y8 y4 (put st k (.tuple [])) k i.dst with
  |some st2=>J (st2,[])
  |none=>K
 |none=>K
def gI (E:Env)(j9:List o4):List o4->Nat->G4->Option G4
 |[],_,st=>J st
 |i::is,k,st=>match A2 E j9 K k i st with
  |some (st',_)=>gI E j9 is (k+1) st'
  |none=>K
def s7.A6:s7->Bool
 | .alloc _=>W
 | .box _=>W
 | .makeMap=>W
 | .jI .. =>W
 | .J3 _ _ _ _ ob=>ob
 | .append _ _ ob _ _=>ob
 | .ug _=>W
 |_=>F
def s7.makes:s7->Bool
 | .ug _=>F
 |op=>op.A6
def I9 (hs:List Touch)(rs:List Nat):Bool:=hs.any λt=>rs.any λid=>t.G8 id
structure jx where
 reads:List Nat
 KZ:List Touch
 Jv:Nat
 id:Nat
def I6 (E:Env)(st:G4):s7->Nat
 | .call f xs=>if E.prom f then O st.H else I4 st.H E.lim.strict 8 (C0 (xs.map (G5 st.T st.L)))
 | .Y2 x xs=>match G5 st.T st.L x with
  | .func f first caps=>if E.prom f then O st.H else I4 st.H E.lim.strict 8 (C0 (first++xs.map (G5 st.T st.L)++caps))
  |_=>0
 | .J9 _ _ x y=>max (G5 st.T st.L x).K9 (G5 st.T st.L y).K9
 |_=>0
def F9 (st:G4):s7->Bool
 | .append _ _ _ x _=>match G5 st.T st.L x with
  | .s5 _ _ _ _=>W
  |_=>F
 |_=>F
def cD:Option Nat->List Touch
 |some n=>[.obj n]
 |none=>[]
def aM (E:Env)(i:o4)(y4:Option Nat)(st st' :G4)(rs:List Nat):jx :=
 ⟨rs,cD y4++st'.o5.take (O st'.o5 - O st.o5),I6 E st i.op,y4.getD 0⟩
def calm (st:G4)(op:s7)(a:o4):Bool:=match op,a.op with
 | .append _ _ _ x _,.S1 (.slot s)=>a.dst.isNone&&a.guard.isNone&&(match G5 st.T st.L x,st.T[s]? with
  | .s5 id _ _ _,J (.ptr j _)=> !y7 j id
  |_,_=>F)
 |_,_=>F
def lu (E:Env)(j9:List o4)(y4:Option Nat)(k:Nat)(i:o4)(st:G4):Option (G4×jx) :=
 if F9 st i.op&&j9.any (λa=>a.dm.contains k&& !calm st i.op a) then K else
 match A2 E j9 y4 k i st with
 |some (st',rs)=>J (st',aM E i y4 st st' rs)
 |none=>K
def R9 (E:Env)(j9:List o4):List o4->Nat->Nat->G4->Option (G4×List jx)
 |[],_,_,st=>J (st,[])
 |i::is,k,na,st=>match lu E j9 (if i.op.A6 then J na else K) k i st with
  |some (st',l) =>
   match R9 E j9 is (k+1) (if i.op.A6 then na+1 else na) st' with
   |some (st2,lg)=>J (st2,l::lg)
   |none=>K
  |none=>K
def fK (j9:List o4)(lg:List jx):Bool :=
 (j9.zip lg).all λ(i,l)=>i.dm.all λe=>match lg[e]? with
  |some le=> !I9 le.KZ l.reads&&(!i.op.makes||decide (le.Jv<=l.id))
  |none=>F
def Z2 (j9:List o4):n9:=(j9.filter (·.op.A6)).map λ_=> .dead
def slotsOf (j9:List o4):List Touch:=j9.filterMap λi=>if i.op.A6 then i.dst.map .slot else K
def S0 (E:Env)(j9:List o4)(draw:Bool)(T:List c7)(H:n9):Option G4 :=
 if draw then
  match R9 E j9 j9 0 (O H) ⟨T,H++Z2 j9,c9 (O j9) .any,slotsOf j9⟩ with
  |some (st,lg)=>if fK j9 lg then J st else K
  |none=>K
 else gI E j9 j9 0 ⟨T,H,c9 (O j9) .any,[]⟩
inductive E6 where
 |normal
 |exit (id:Nat)
 |ret
 deriving Inhabited
structure St where
 T:List c7
 H:n9
def U3:List Bool->List c7->List c7
 |true::m,v::vs=>v::U3 m vs
 |false::m,_::vs=> .any::U3 m vs
 |[],_::vs=> .any::U3 [] vs
 |_,[]=>[]
def clean (mask:List Bool)(strict n:Nat)(st:St):St :=
 if C0 (U3 mask st.T)<=n/\Q5 ((st.H.take n).drop strict)<=n then ⟨U3 mask st.T,st.H.take n⟩ else ⟨U3 mask st.T,st.H⟩
def ji (body:St->Option (E6×St))(mask:List Bool)(strict n:Nat):Nat->St->Option (E6×St)
 |0,_=>K
 |k+1,st=>match body (clean mask strict n st) with
  |some (.normal,st')=>ji body mask strict n k st'
  |r=>r
def gZ:List c7->Nat->Option (Nat×Nat×Nat×Nat×Nat)
 |[],_=>K
 | .s5 id sz lo len::_,i=>J (i,id,sz,lo,len)
 |_::r,i=>gZ r (i+1)
def Cv (lim:H8)(entry s:Nat)(st:St):Option St :=
 match st.T[s]? with
 |some (.ptr b 0)=>match st.H[b]? with
  |some (.cells cs)=>match gZ cs 0 with
   |some (i,id,sz,lo,len)=>match rd st.H id lo (len * sz) with
    |some vs=>match L5 vs with
     |some xs =>
      if lim.base<=id/\entry<=id/\lim.may id=W/\lim.base<=b/\id≠b then
       J ⟨K1 id st.T,((st.H.take lim.base++(st.H.drop lim.base).map (B4.kill id)).set id .dead).set b (.cells ((K1 id cs).set i (.d (.slice len xs))))⟩
      else K
     |none=>K
    |none=>K
   |none=>K
  |_=>K
 |_=>K
mutual
def c7.forget:c7->c7
 | .d (.slice n [])=> .d (.slice n [])
 | .d (.slice _ (_::_))=> .any
 | .own _ _ _=> .any
 | .U2 _=> .any
 | .agg l=> .agg (V6 l)
 | .tuple l=> .tuple (V6 l)
 | .func f a b=> .func f (V6 a) (V6 b)
 |v=>v
def V6:List c7->List c7
 |[]=>[]
 |v::vs=>v.forget::V6 vs
end
def B4.forget:B4->B4
 | .dead=> .dead
 | .cells l=> .cells (V6 l)
 | .map es=> .map (es.map λp=>(p.1,p.2.forget))
def Data.flat:Data->Bool
 | .slice _ _=>F
 |_=>W
def Gi:List c7->Nat->Option (Nat×Nat×Nat×List Data)
 |[],_=>K
 | .own sz len xs::_,i=>J (i,sz,len,xs)
 |_::r,i=>Gi r (i+1)
def Wf (lim:H8)(entry s:Nat)(st:St):Option St :=
 match st.T[s]? with
 |some (.ptr b 0)=>match st.H[b]? with
  |some (.cells cs)=>match Gi cs 0 with
   |some (i,sz,len,xs) =>
    if len=0 then J st else
    if entry=0/\lim.base=0/\lim.strict=0/\xs.all Data.flat=W then
     J ⟨V6 st.T,(st.H.map B4.forget).set b (.cells ((V6 cs).set i (.s5 (O st.H) sz 0 len)))++[.cells (xs.map .d)]⟩
    else K
   |none=>K
  |_=>K
 |some (.own sz len xs) =>
  if len=0 then J st else
  if entry=0/\lim.base=0/\lim.strict=0/\xs.all Data.flat=W then
   J ⟨(V6 st.T).set s (.s5 (O st.H) sz 0 len),st.H.map B4.forget++[.cells (xs.map .d)]⟩
  else K
 |none=>if entry=0/\lim.base=0/\lim.strict=0 then J ⟨st.T,st.H++[.dead]⟩ else K
 |_=>K
def uv (lim:H8)(entry s:Nat)(st:St):Option St :=
 match Cv lim entry s st with
 |some r=>J r
 |none=>Wf lim entry s st
def exec (E:Env)(lim:Nat):p6->St->Option (E6×St)
 | .skip,st=>J (.normal,st)
 | .region ops draw,st=>match S0 E ops draw st.T st.H with
  |some r=>J (.normal,⟨r.T,r.H⟩)
  |none=>K
 | .seq a b,st=>match exec E lim a st with
  |some (.normal,st')=>exec E lim b st'
  |r=>r
 | .cond c a b,st=>match G5 st.T [] c with
  | .d (.bool W)=>exec E lim a st
  | .d (.bool F)=>exec E lim b st
  |_=>K
 | .test ops draw c a b,st=>match S0 E ops draw st.T st.H with
  |some r=>match G5 r.T r.L c with
   | .d (.bool W)=>exec E lim a ⟨r.T,r.H⟩
   | .d (.bool F)=>exec E lim b ⟨r.T,r.H⟩
   |_=>K
  |none=>K
 | .block id body,st=>match exec E lim body st with
  |some (.exit id',st')=>if id' =id then J (.normal,st') else J (.exit id',st')
  |r=>r
 | .loop mask body,st=>ji (exec E lim body) mask E.lim.strict (O st.H) lim st
 | .exit id,st=>J (.exit id,st)
 | .ret,st=>J (.ret,st)
 | .fz s,st=>match uv E.lim E.entry s st with
  |some st' =>J (.normal,st')
  |none=>K
 | .bad,_=>K
def mP (T:List c7)(H:n9):EE->Option c7
 | .slot s=>T[s]?
 | .cell s K=>match T[s]? with
  |some (.ptr id off)=>match rd H id off 1 with
   |some [v]=>J v.F4
   |_=>K
  |_=>K
 | .cell s (J n)=>match T[s]? with
  |some (.ptr id off)=>match rd H id off n with
   |some vs=>J (.agg (vs.map c7.F4))
   |none=>K
  |_=>K
def bS (T:List c7)(H:n9):List EE->Option (List c7)
 |[]=>J []
 |r::rs=>match mP T H r with
  |some v=>match bS T H rs with
   |some vs=>J (v::vs)
   |none=>K
  |none=>K
def j5:List c7->c7
 |[v]=>v
 |vs=> .tuple (vs.map c7.F4)
def X4 (H:n9)(n:Nat):Nat->List c7->Option (List c7)
 |0,_=>K
 |_+1,[]=>J []
 |fuel+1,v::vs =>
  match X4 H n fuel vs with
  |none=>K
  |some ws =>
   match v with
   | .s5 id sz lo len =>
    if id<n then J (.s5 id sz lo len::ws) else
    match rd H id lo (len * sz) with
    |some us=>match X4 H n fuel us with
     |some us' =>match L5 us' with
      |some xs=>J (.d (.slice len xs)::ws)
      |none=>K
     |none=>K
    |none=>K
   | .agg l=>match X4 H n fuel l with
    |some l' =>J (.agg l' ::ws)
    |none=>K
   | .tuple l=>match X4 H n fuel l with
    |some l' =>J (.tuple l' ::ws)
    |none=>K
   |v=>J (v::ws)
structure Prog where
 fn:FuncId->Option q6
 idle:FuncId->Bool
 mode:FuncId->Nat
 gQ:FuncId->Option (List c7->n9->H8->Option (c7×n9))
def Prog.prom (A:Prog)(f:FuncId):Bool:=match A.fn f with
 |some af=>af.cI
 |none=>F
def finish (cI:Bool)(n:Nat)(vs:List c7)(H:n9):Option (c7×n9) :=
 if cI then J (j5 vs,H) else
 match X4 H n 1000000 [j5 vs] with
 |some [v]=>if v.K9<=n then J (v,H.take n) else K
 |_=>K
def jf (A:Prog)(cf:uS)(lim:Nat)(af:q6)(args:List c7)(H:n9)(l:H8):Option (c7×n9) :=
 if O args=af.nparams then
  match exec ⟨cf,A.prom,A.mode,A.idle,l,O H⟩ lim af.body ⟨args++c9 (O af.names - O args) .any,H⟩ with
  |some (.exit _,_)=>K
  |some (_,st) =>
   match bS st.T st.H af.results with
   |some vs=>finish af.cI (O H) vs st.H
   |none=>K
  |none=>K
 else K
def call (A:Prog):Nat->uS
 |0=>λ_ _ _ _=>K
 |n+1=>λf args H l =>
  match A.gQ f with
  |some p=>p args H l
  |none=>match A.fn f with
   |some af=>jf A (call A n) n af args H l
   |none=>K
inductive Place where
 |slot (s:Nat)
 |loc (j:Nat)
 |cell (id off:Nat)
 |none
 |ret
 deriving DecidableEq
inductive Um where
 |free
 |mM
 |held (n:Nat)
 |obj (id:Nat)
 |grow (n:Nat) (pl:Place)
 deriving DecidableEq
abbrev Gh:=Nat->Um
abbrev T0:=Nat->Nat×Nat
def jS (G:Gh)(b o:Nat):Prop :=
 match G b with
 | .mM=>True
 | .held n=>o<n
 | .grow n _=>o<n
 |_=>False
abbrev ad (b o:Nat):Addr:=⟨b,o,Option.none⟩
mutual
def DR (G:Gh)(w:World):Data->Value->Prop
 | .bool b,v=>v= .bool b
 | .int k n,v=>v= .int k n
 | .str s,v=>v= .string ⟨s.toArray⟩
 | .slice len cells,v=>((v= .slice Option.none 0 0\/∃a,v= .slice (J a) 0 0)/\len=0/\cells=[]) \/
   ∃b o cap,v= .slice (J (ad b o)) len cap/\len<=cap/\gl G w b o cells
 | .cZ,v=>v= .pointer Option.none
 | .P5,v=>v= .nilFunc
 | .dV,v=>v= .map Option.none
 | .nilIface,v=>v= .nilIface
def gl (G:Gh)(w:World)(b:Nat):Nat->List Data->Prop
 |_,[]=>True
 |o,c::cs=>jS G b o/\(∃x,w.cell? (ad b o)=J x/\DR G w c x)/\gl G w b (o+1) cs
end
def OC (f:Nat×Nat)(n:Nat):Prop:=∀o,o<n->¬ (f.1<=o/\o<f.2)
mutual
def VR (G:Gh)(I:T0)(N:Nat->Prop)(w:World):Place->c7->Value->Prop
 |_,.any,_=>True
 |_,.d x,v=>DR G w x v
 |_,.ptr id off,v=>N id/\v= .pointer (J (ad (I id).1 ((I id).2+off)))
 |_,.U2 cells,v=>∃b o,v= .pointer (J (ad b o))/\gl G w b o cells
 |_,.s5 id sz lo len,v=>N id/\∃cap,v= .slice (J (ad (I id).1 ((I id).2+lo))) len cap/\len<=cap /\
   ∃c e f,w.heap[(I id).1]? =J (.cells c e f)/\(I id).2+lo+cap * sz<=c.size
 |pl,.own sz len cells,v=>O cells=len * sz /\
   (((v= .slice Option.none 0 0\/∃b o,v= .slice (J (ad b o)) 0 0)/\len=0) \/
    (pl≠ .none/\∃b o cap c e f,v= .slice (J (ad b o)) len cap/\len<=cap/\w.heap[b]? =J (.cells c e f)/\o+cap * sz<=c.size/\OC f c.size /\
     G b= .grow (o+len * sz) pl/\gl G w b o cells))
 |_,.H7,v=>v= .slice Option.none 0 0
 |_,.agg l,v=>∃cs:Array Value,v= .agg cs/\J5 G I N w l cs.toList
 |_,.tuple l,v=>∃cs:Array Value,v= .tuple cs/\J5 G I N w l cs.toList
 |_,.func f a b,v=>∃x y:Array Value,v= .func (.func f) x y/\J5 G I N w a x.toList/\J5 G I N w b y.toList
 |_,.map id,v=>N id/\v= .map (J (I id).1)
def J5 (G:Gh)(I:T0)(N:Nat->Prop)(w:World):List c7->List Value->Prop
 |[],vs=>vs=[]
 |a::as,vs=>∃x xs,vs=x::xs/\VR G I N w .none a x/\J5 G I N w as xs
end
def KD.val:KD->Value
 | .i k n=> .int k n
 | .s x=> .string ⟨x.toArray⟩
 | .b t=> .bool t
def Key.val:Key->Value
 | .int k n=> .int k n
 | .str x=> .string ⟨x.toArray⟩
 | .bool t=> .bool t
 | .st l=> .agg (l.map KD.val).toArray
def ER (G:Gh)(I:T0)(N:Nat->Prop)(w:World):List (Key×c7)->List MapEntry->Prop
 |[],es=>es=[]
 |(k,v)::r,es=>∃e es',es=e::es' /\e.key=k.val/\VR G I N w .none v e.val/\ER G I N w r es'
structure Kf (arr:Array MapEntry)(gO:Nat):Prop where
 old:∀e∈arr.toList,e.born<gO
 nodup:(arr.toList.map (·.born)).Nodup
theorem Kf.push {arr gO}(h:Kf arr gO) k v:Kf (arr.push { key:=k,val:=v,born:=gO }) (gO+1) where
 old e he:=by
  rw [Array.toList_push] at he
  rcases List.mem_append.1 he with he|he
  .exact Nat.lt_succ_of_lt (h.old e he)
  simp_all
 nodup:=by
  rw [Array.toList_push,List.map_append,List.nodup_append];refine ⟨h.nodup,U,λa ha b hb=>?_⟩;simp [M8,List.map_nil,y3] at hb;obtain ⟨e,he,rfl⟩:=List.mem_map.1 ha;have:=h.old e he;omega
theorem Kf.modify {arr gO}(h:Kf arr gO) j g(hg:∀e,(g e).born=e.born):Kf (arr.modify j g) gO:=by
 have e1:(arr.modify j g).toList.map (·.born)=arr.toList.map (·.born):=by
  apply List.ext_getElem?
  grind
 refine ⟨λe he=>?_,by rw [e1];exact h.nodup⟩;have:e.born∈arr.toList.map (·.born):=by
  grind
 obtain ⟨e',he',hb⟩:=List.mem_map.1 this;rw [<- hb];exact h.old e' he'
def OR (G:Gh)(I:T0)(N:Nat->Prop)(w:World)(id:Nat):B4->Prop
 | .dead=>True
 | .cells l=>N id/\∃c e f,w.heap[(I id).1]? =J (.cells c e f)/\G (I id).1= .obj id/\OC f c.size/\(I id).2+O l<=c.size /\
   ∀i x,l[i]? =J x->∃v,c[(I id).2+i]? =J v/\VR G I N w (.cell id i) x v
 | .map es=>N id/\∃arr gO,w.heap[(I id).1]? =J (.map arr gO)/\G (I id).1= .obj id/\ER G I N w es arr.toList/\Kf arr gO
def HR (G:Gh)(I:T0)(N:Nat->Prop)(w:World)(H:n9):Prop:=∀id o,H[id]? =J o->OR G I N w id o
def WF (G:Gh)(w:World):Prop:=∀b,w.heap.size<=b->G b= .free
structure Sub (G:Gh)(w:World)(G' :Gh)(w' :World):Prop where
 mM:∀b o:Nat,jS G b o->jS G' b o/\w'.cell? (ad b o)=w.cell? (ad b o)
 shape:∀(b:Nat) (c:Array Value) (e:TypeId) (f:Nat×Nat),w.heap[b]? =J (Obj.cells c e f)->∃c' :Array Value,w'.heap[b]? =J (Obj.cells c' e f)/\c'.size=c.size
class E0 where
 on:Prop
section
variable [E0]
structure Ext (G:Gh)(w:World)(G' :Gh)(w' :World):Prop where
 os:w'.os=w.os
 tape:w'.tape=w.tape
 output:w'.output=w.output
 drawn:E0.on->w.drawn<=w'.drawn
 size:w.heap.size<=w'.heap.size
 mM:∀b o:Nat,jS G b o->jS G' b o/\w'.cell? (ad b o)=w.cell? (ad b o)
 still:∀b:Nat,(G b= .mM\/∃n,G b= .held n)->G' b=G b/\w'.heap[b]? =w.heap[b]?
 shape:∀(b:Nat) (c:Array Value) (e:TypeId) (f:Nat×Nat),w.heap[b]? =J (Obj.cells c e f)->∃c' :Array Value,w'.heap[b]? =J (Obj.cells c' e f)/\c'.size=c.size
def Ext.sub {G w G' w'}(h:Ext G w G' w'):Sub G w G' w' :=⟨h.mM,h.shape⟩
instance {G:Gh} {w:World} {G' :Gh} {w' :World}:CoeOut (Ext G w G' w') (Sub G w G' w'):=⟨Ext.sub⟩
theorem Ext.refl G w:Ext G w G w :=
 ⟨rfl,rfl,rfl,λ_=>o6 _,o6 _,λ_ _ h=>⟨h,rfl⟩,λ_ _=>⟨rfl,rfl⟩,λ_ c _ _ h=>⟨c,h,rfl⟩⟩
theorem Ext.trans {G w G1 w1 G2 w2}(h:Ext G w G1 w1)(k:Ext G1 w1 G2 w2):Ext G w G2 w2 where
 os:=k.os.trans h.os
 tape:=k.tape.trans h.tape
 output:=k.output.trans h.output
 drawn o:=A3 (h.drawn o) (k.drawn o)
 size:=A3 h.size k.size
 mM b o hi:=by
  obtain ⟨a1,a2⟩:=h.mM b o hi;obtain ⟨b1,b2⟩:=k.mM b o a1;simp_all
 still b hb:=by
  obtain ⟨a1,a2⟩:=h.still b hb;obtain ⟨b1,b2⟩:=k.still b M;simp_all
 shape b c e f hc:=by
  obtain ⟨c1,h1,s1⟩:=h.shape b c e f hc;obtain ⟨c2,h2,s2⟩:=k.shape b c1 e f h1;simp_all
def Ext.drew {G w G' w'}(h:Ext G w G' w') n(hn:w'.drawn<=n):Ext G w G' { w' with drawn:=n } :=
 ⟨h.os,h.tape,h.output,λo=>A3 (h.drawn o) hn,h.size,h.mM,h.still,h.shape⟩
end
mutual
theorem DR.mono {G:Gh}{w:World}{G' :Gh}{w' :World}
  (h:∀b o,jS G b o->jS G' b o/\w'.cell? (ad b o)=w.cell? (ad b o)):∀(d:Data) (v:Value),DR G w d v->DR G' w' d v
 | .bool _,_,hd=>by simp_all [DR]
 | .int _ _,_,hd=>by simp_all [DR]
 | .str _,_,hd=>by simp_all [DR]
 | .slice _ cells,_,hd=>by
  simp [DR] at hd ⊢
  rcases hd with hd|⟨b,o,cap,h1,h2,h3⟩
  .simp_all
  .exact Or.inr ⟨b,o,cap,h1,h2,gl.mono h b o cells h3⟩
 | .cZ,_,hd=>by simp_all [DR]
 | .P5,_,hd=>by simp_all [DR]
 | .dV,_,hd=>by simp_all [DR]
 | .nilIface,_,hd=>by simp_all [DR]
theorem gl.mono {G:Gh}{w:World}{G' :Gh}{w' :World}
  (h:∀b o,jS G b o->jS G' b o/\w'.cell? (ad b o)=w.cell? (ad b o)) (b:Nat):∀(o:Nat) (l:List Data),gl G w b o l->gl G' w' b o l
 |_,[],_=>by simp [gl]
 |o,c::cs,hd=>by
  obtain ⟨h1,⟨x,h2,h3⟩,h4⟩:=hd;obtain ⟨i1,i2⟩:=h b o h1;exact ⟨i1,⟨x,i2.trans h2,DR.mono h c x h3⟩,gl.mono h b (o+1) cs h4⟩
end
def bI (pl:Place)(G:Gh)(w:World)(G' :Gh)(w' :World):Prop :=
 ∀b n,G b= .grow n pl->G' b= .grow n pl/\w'.heap[b]? =w.heap[b]?
mutual
theorem VR.mono {G:Gh}{I:T0}{N:Nat->Prop}{w:World}{G' :Gh}{I' :T0}{N' :Nat->Prop}{w' :World}(hx:Sub G w G' w')
  (hI:∀id,N id->I' id=I id) (hN:∀id,N id->N' id):∀(pl:Place) (a:c7) (v:Value),(pl= .none\/bI pl G w G' w')->VR G I N w pl a v->VR G' I' N' w' pl a v
 |_,.any,_,_,_=>by simp [VR]
 |_,.d x,v,_,h=>by exact DR.mono hx.mM x v h
 |_,.ptr id off,v,_,h=>by
  simp_all [VR]
 |_,.U2 cells,v,_,h=>by
  obtain ⟨b,o,h1,h2⟩:=h;exact ⟨b,o,h1,gl.mono hx.mM b o cells h2⟩
 |_,.s5 id sz lo len,v,_,h=>by
  simp only [VR] at h ⊢;obtain ⟨h1,cap,h2,h3,c,e,f,h4,h5⟩:=h;obtain ⟨c',g1,g2⟩:=hx.shape _ c e f h4;simp_all
 |pl,.own sz len cells,v,hk,h=>by
  obtain ⟨h0,h⟩:=h;refine ⟨h0,?_⟩
  rcases h with h|⟨hp,b,o,cap,c,e,f,h1,h2,h3,h4,h5,h6,h7⟩
  .simp_all
  .rcases hk with hk|hk
   .simp_all
   .obtain ⟨k1,k2⟩:=hk b _ h6
    exact Or.inr ⟨hp,b,o,cap,c,e,f,h1,h2,k2.trans h3,h4,h5,k1,gl.mono hx.mM b o cells h7⟩
 |_,.H7,v,_,h=>by simp_all [VR]
 |_,.agg l,v,_,h=>by
  obtain ⟨cs,h1,h2⟩:=h;exact ⟨cs,h1,J5.mono hx hI hN l _ h2⟩
 |_,.tuple l,v,_,h=>by
  obtain ⟨cs,h1,h2⟩:=h;exact ⟨cs,h1,J5.mono hx hI hN l _ h2⟩
 |_,.func f a b,v,_,h=>by
  obtain ⟨x,y,h1,h2,h3⟩:=h;exact ⟨x,y,h1,J5.mono hx hI hN a _ h2,J5.mono hx hI hN b _ h3⟩
 |_,.map id,v,_,h=>by
  simp_all [VR]
theorem J5.mono {G:Gh}{I:T0}{N:Nat->Prop}{w:World}{G' :Gh}{I' :T0}{N' :Nat->Prop}{w' :World}(hx:Sub G w G' w')
  (hI:∀id,N id->I' id=I id) (hN:∀id,N id->N' id):∀(l:List c7) (vs:List Value),J5 G I N w l vs->J5 G' I' N' w' l vs
 |[],_,h=>by grind [J5]
 |a::as,vs,h=>by
  obtain ⟨x,xs,h1,h2,h3⟩:=h;exact ⟨x,xs,h1,VR.mono hx hI hN .none a x (Or.inl rfl) h2,J5.mono hx hI hN as xs h3⟩
end
theorem ER.mono {G I N w G' I' N' w'}(hx:Sub G w G' w')
  (hI:∀id,N id->I' id=I id) (hN:∀id,N id->N' id):∀ l es,ER G I N w l es->ER G' I' N' w' l es
 |[],_,h=>by grind [ER]
 |(k,v)::r,es,h=>by
  obtain ⟨e,es',h1,h2,h3,h4⟩:=h;exact ⟨e,es',h1,h2,VR.mono hx hI hN .none _ _ (Or.inl rfl) h3,ER.mono hx hI hN r es' h4⟩
theorem OR.mono {G I N w G' I' N' w'}(hx:Sub G w G' w')
  (hI:∀id,N id->I' id=I id) (hN:∀id,N id->N' id) id o
  (hb:G (I id).1= .obj id->G' (I id).1= .obj id/\w'.heap[(I id).1]? =w.heap[(I id).1]?)
  (hc:∀off,bI (.cell id off) G w G' w') (h:OR G I N w id o):OR G' I' N' w' id o:=by
 cases o with
 |dead=>simp [OR]
 |cells l =>
  grind [OR,VR.mono]
 |map es =>
  grind [OR,ER.mono]
theorem VR.F4 {G I N w pl zh}:∀{a v},VR G I N w pl a v->VR G I N w zh a.F4 v
 | .any,_,_=>by simp [c7.F4,VR]
 | .d _,_,h=>by grind [c7.F4,VR]
 | .ptr _ _,_,h=>by grind [c7.F4,VR]
 | .U2 _,_,h=>by grind [c7.F4,VR]
 | .s5 _ _ _ _,_,h=>by grind [c7.F4,VR]
 | .own sz len cells,v,h=>by
  simp [c7.F4,VR,DR] at h ⊢;obtain ⟨h0,h⟩:=h
  rcases h with ⟨h1,h2⟩|⟨hp,b,o,cap,c,e,f,h1,h2,h3,h4,h5,h6,h7⟩
  all_goals (simp_all [gl]<;>grind)
 | .H7,v,h=>by
  simp_all [c7.F4,VR,DR,trivial]
 | .agg _,_,h=>by grind [c7.F4,VR]
 | .tuple _,_,h=>by grind [c7.F4,VR]
 | .func _ _ _,_,h=>by grind [c7.F4,VR]
 | .map _,_,h=>by grind [c7.F4,VR]
theorem VR.UA {G I N w pl zh a v}(h:VR G I N w pl a v):VR G I N w zh a.UA v:=by
 cases a
 case H7=>simp_all [c7.UA,VR]
 all_goals exact h.F4
def Xc {u:c7}(h:u.F4=u):u.UA=u:=by
 cases u
 case H7=>rfl
 all_goals exact h
def Iw:Value->c7->Bool
 |_,.any=>W
 | .bool b,.d (.bool c)=>b==c
 | .int k n,.d (.int k' n')=>k==k' &&n==n'
 | .string s,.d (.str l)=>s.data.toList==l
 | .slice Option.none 0 0,.own _ 0 []=>W
 | .slice Option.none 0 0,.H7=>W
 | .slice Option.none 0 0,.d (.slice 0 [])=>W
 | .pointer Option.none,.d .cZ=>W
 | .map Option.none,.d .dV=>W
 | .nilFunc,.d .P5=>W
 | .nilIface,.d .nilIface=>W
 |_,_=>F
def consts:List Value->List c7->Bool
 |[],[]=>W
 |v::vs,a::as=>Iw v a&&consts vs as
 |_,_=>F
def Ba:Value->c7->Bool
 | .agg cs,.agg l=>consts cs.toList l
 |v,a=>Iw v a
structure Cx where
 P:Program
 names:List Tmp
 ops:Array Oper
def Cx.ck (X:Cx)(f9:Nat->Bool):Operand->z6->Bool
 | .tmp t,.slot s=>X.names[s]? ==J t
 | .tmp t,.loc j=>f9 j&&((X.ops[j]?).bind (·.dst))==J t&& !X.names.contains t
 | .const v,.const a=>Ba v a
 | .func f,.const (.func g [] [])=>f==g
 |_,.const .any=>W
 |_,_=>F
def WV (ck:Operand->z6->Bool):List Operand->List z6->Bool
 |[],[]=>W
 |x::xs,y::ys=>ck x y&&WV ck xs ys
 |_,_=>F
def ckO (ck:Operand->z6->Bool):Option Operand->Option z6->Bool
 |none,K=>W
 |some x,J y=>ck x y
 |_,_=>F
def dR (P:Program)(t:TypeId):Option Bool :=
 match P.underlying t with
 |some (.struct _)=>J W
 |some (.array _ _)=>J W
 |some _=>J F
 |none=>K
def uB (P:Program)(t:TypeId):Option Nat->Bool
 |none=>dR P t==J F
 |some n=>dR P t==J W&&P.cellsOf t==n&&decide (0<n)
def nC (P:Program)(t:TypeId)(sz:Nat):Bool :=
 match P.underlying t with
 |some (.slice e)=>P.cellsOf e==sz&&(P.info? e).isSome
 |_=>F
def gD (P:Program)(t:TypeId):CK->Bool
 | .i=>match P.underlying t with
  |some (.int _)=>W
  |_=>F
 | .s=>match P.underlying t with
  |some .string=>W
  |_=>F
 | .b=>match P.underlying t with
  |some .bool=>W
  |_=>F
def U6 (P:Program):List Field->Nat->List CK->Bool
 |[],_,[]=>W
 | f :: fs, n, k :: ks => f.name != "_" && gD P f.type k && f.offset == n && U6 P fs (n + 1) ks
 |_,_,_=>F
def kM (P:Program)(t:TypeId)(ks:List CK):Bool :=
 match P.underlying t with
 |some (.struct fs)=>U6 P fs.toList 0 ks&& !P.stoodInHeld t&& !P.eqGuardType P.depth t
 |_=>F
def fF (P:Program):List Field->Nat->List CK->Bool
 |[],_,[]=>W
 |[],_,_::_=>F
 | f :: fs, n, ks => f.name != "_" && f.offset == n &&
  (match P.underlying f.type with
  |some (.struct gs)=>(P.info? f.type).isSome&&P.cellsOf f.type==gs.size&&U6 P gs.toList 0 (ks.take gs.size)&& !P.stoodInHeld f.type&&fF P fs (n+gs.size) (ks.drop gs.size)
  |_=>(match ks with
   |k::r=>gD P f.type k&&fF P fs (n+1) r
   |[]=>F))
def yP (P:Program)(t:TypeId)(ks:List CK):Bool :=
 match P.underlying t with
 |some (.struct fs)=>fF P fs.toList 0 ks&& !P.stoodInHeld t&& !P.eqGuardType P.depth t
 |_=>F
def xJ (P:Program)(t:TypeId):KK->Bool
 | .i=>gD P t .i
 | .s=>gD P t .s
 | .b=>gD P t .b
 | .st ks=>kM P t ks
def lQ (P:Program)(ck:Operand->z6->Bool)(place:Nat->Option (Nat×Nat)):List (Nat×Operand)->List (Nat×Nat×z6)->Bool
 |[],[]=>W
 |(i,x)::r,(off,sz,y)::q=>place i==J (off,sz)&&ck x y&&lQ P ck place r q
 |_,_=>F
def yO (P:Program)(fs:List Field):Option (List (Nat×Nat)):=fs.mapM λf=>(P.info? f.type).map λi=>(f.offset,i.size)
def yu (P:Program)(t:TypeId)(l:List c7):Bool :=
 match P.info? t with
 |some i=>match i.zero with
  |some z=>consts z.cells.toList l
  |none=>F
 |none=>F
def E9 (P:Program)(ck:Operand->z6->Bool)(o:Oper)(op:s7):Bool :=
 match o.op,op with
 | .pick c a b,.pick c' a' b' =>ck c c' &&ck a a' &&ck b b'
 | .load t x,.load n y=>ck x y&&uB P t n
 | .nilCheck x,.cH y=>ck x y
 | .binOp b _ x y _,.bin b' x' y' =>b==b' &&ck x x' &&ck y y'
 | .binOp b t x (.const (.slice Option.none 0 0)) _,.AJ neg x' =>ck x x' &&(match P.underlying t with|some (.slice _)=>W|_=>F)&&(if neg then b== .neq else b== .eql)
 | .binOp b t x y _,.A1 neg x' y' =>ck x x' &&ck y y' &&(match P.underlying t with|some .bool=>W|_=>F)&&(if neg then b== .neq else b== .eql)
 | .binOp b t x y _,.Bc neg ks x' y' =>ck x x' &&ck y y' &&yP P t ks&&(if neg then b== .neq else b== .eql)
 | .unOp b _ x,.un b' x' =>b==b' &&ck x x'
 | .convert s d x,.pE k y=>ck x y&&(P.underlying s).isSome&&(match P.underlying d with|some (.int k')=>k==k' |_=>F)
 | .convert s d x,.mH y=>ck x y&&(match P.underlying s with|some (.slice e)=>(match P.underlying e with|some (.int .u8)=>W|_=>F)|_=>F)&&(match P.underlying d with|some .string=>W|_=>F)
 | .slice t x lo hi K,.Z0 sz y lo' hi' =>ck x y&&ckO ck lo lo' &&ckO ck hi hi' &&nC P t sz&&decide (0<sz)
 | .fieldAddr s x f,.off k y=>ck x y&&(match P.underlying s with
  |some (.struct fs)=>(match fs[f]? with
   |some fd=>fd.offset==k&&decide (0<P.cellsOf fd.type)
   |none=>F)
  |_=>F)
 | .indexAddr t x i,.J4 sz y j=>ck x y&&ck i j&&nC P t sz
 | .indexAddr t x i,.jA n sz y j=>ck x y&&ck i j&&(match P.underlying t with|some (.array m e)=>m==n&&P.cellsOf e==sz&&(P.info? e).isSome|_=>F)
 | .index t x i,.K6 y j=>ck x y&&ck i j&&(match P.underlying t with|some .string=>W|_=>F)
 | .extract x i,.extract y j=>ck x y&&i==j
 | .field t x f,.fld y j=>ck x y&&(match P.underlying t with
  |some (.struct fs)=>(match fs[f]? with
   |some fd=>fd.offset==j&&(dR P fd.type==J F)
   |none=>F)
  |_=>F)
 | .call { callee:= .builtin .len,args,argTypes },.len y=>(match args[0]?,argTypes[0]? with
  |some x,J t=>ck x y&&(match P.underlying t with|some (.slice _)=>W|_=>F)
  |_,_=>F)
 | .call { callee:= .builtin .len,args,argTypes },.Y0 y=>(match args[0]?,argTypes[0]? with
  |some x,J t=>ck x y&&(match P.underlying t with|some .string=>W|_=>F)
  |_,_=>F)
 | .call { callee:= .builtin .max,args,.. },.iL W ys=>WV ck args.toList ys&&decide (2<=O ys)
 | .call { callee:= .builtin .min,args,.. },.iL F ys=>WV ck args.toList ys&&decide (2<=O ys)
 | .makeFunc (.func f) first caps,.an g first' aW7 =>f==g&&WV ck first.toList first' &&WV ck caps.toList aW7
 | .lookup t m k ok,.lookup kk zero YE m' k' =>ok==YE &&ck m m' &&ck k k' &&(match P.underlying t with
  |some (.map kt et)=>xJ P kt kk&&(match P.info? et with
   |some i=>(match i.zero with
    |some z=>Ba z zero
    |none=>F)
   |none=>F)
  |_=>F)
 | .build t parts,.build zero ps=>(match P.underlying t with
  |some (.struct fs)=>(match yO P fs.toList with
   |some places=>yu P t zero&&lQ P ck (λi=>places[i]?) parts.toList ps
   |none=>F)
  |some (.array _ e)=>(match P.info? e with
   |some i=>yu P t zero&&lQ P ck (λj=>J (j * i.size,i.size)) parts.toList ps
   |none=>F)
  |_=>F)
 |_,_=>F
theorem vk {G I N w}:∀ v a,Iw v a=W->VR G I N w .none a v:=by
 intro v a h;unfold Iw at h;split at h
 all_goals first
  |(done)
  |(simp at h;done)
  |(simp [VR,DR];done)
  |(simp only [VR,DR];simp_all;done)
  |skip
 next s l=>
  simp [VR,DR];have:s.data.toList=l:=by simpa using h
  subst this;simp
theorem gq {G I N w}:∀ vs l,consts vs l=W->J5 G I N w l vs
 |[],[],_=>by simp [J5]
 |v::vs,a::as,h=>by
  simp [consts,c8] at h;exact ⟨v,vs,rfl,vk v a h.1,gq vs as h.2⟩
 |[],_::_,h=>by simp [consts] at h
 |_::_,[],h=>by simp [consts] at h
def ec {G I N w} v a(h:Ba v a=W):VR G I N w .none a v:=by
 unfold Ba at h
 grind [VR,gq,vk]
theorem U5 {w:World}{b c e f}(h:w.heap[b]? =J (.cells c e f)) o:w.cell? (ad b o)=c[o]? :=by
 simp [World.cell?,h]
theorem aX b o n:(ad b o).add n=ad b (o+n):=by
 simp_all [Addr.add]
theorem gl.drop {G w b}:∀ n o l,gl G w b o l->gl G w b (o+n) (l.drop n)
 |0,_,_,h=>by simpa using h
 |n+1,o,[],_=>by simp [gl]
 |n+1,o,c::cs,h=>by
  have:=gl.drop n (o+1) cs h.2.2
  grind
theorem gl.take {G w b}:∀ n o l,gl G w b o l->gl G w b o (l.take n)
 |0,_,_,_=>by simp [gl]
 |n+1,o,[],_=>by simp [gl]
 |n+1,o,c::cs,h=>by
  simp_all [gl,List.take_succ_cons,gl.take]
theorem gl.vals {G I N w b}:∀ o l,gl G w b o l ->
  ∃vs:List Value,O vs=O l/\(∀j v,vs[j]? =J v->w.cell? (ad b (o+j))=J v)/\J5 G I N w (l.map .d) vs
 |_,[],_=>⟨[],rfl,U,by simp [J5]⟩
 |o,c::cs,h=>by
  obtain ⟨h1,⟨x,h2,h3⟩,h4⟩:=h;obtain ⟨vs,g1,g2,g3⟩:=gl.vals (I:=I) (N:=N) (o+1) cs h4;simp_all [J5,VR]<;>grind
theorem J5.length {G I N w}:∀ l vs,J5 G I N w l vs->O vs=O l
 |[],vs,h=>by simp_all [J5]
 |a::as,vs,h=>by
  obtain ⟨x,xs,h1,_,h3⟩:=h;subst h1;simp [J5.length as xs h3]
theorem HR.rd {G I N w H}(hH:HR G I N w H){id off n vs}(h:rd H id off n=J vs)(hn:0<n) :
  N id/\∃xs:List Value,O xs=n/\O vs=n/\(∀j v,xs[j]? =J v->w.cell? (ad (I id).1 ((I id).2+off+j))=J v) /\
   (∀j a v,vs[j]? =J a->xs[j]? =J v->VR G I N w (.cell id (off+j)) a v):=by
 unfold B3.rd at h;split at h
 next l hl=>
  split at h
  .cases h
   have ho:=hH id _ hl;obtain ⟨hid,c,e,f,h1,h2,h3,h4,h5⟩:=ho
   .refine ⟨hid,(List.range n).map (λj=>(c[(I id).2+off+j]?).getD default),U,D,λj v hj=>?_,λj a v ha hv=>?_⟩
    .rw [U5 h1]
     grind
    .have hjn:j<n:=by
      grind
     grind
  .cases h
 .cases h
section
variable {P:Program} {w:World}
theorem info_of_underlying {t d}(h:P.underlying t=J d):(P.info? t).isSome=W:=by
 grind [Program.underlying]
theorem run_sizeOf {t}(h:(P.info? t).isSome=W):(sizeOf t).run P w= .ok (P.cellsOf t) w:=by
 cases hi:P.info? t with
 |none=>simp_all
 |some i=>simp [sizeOf,typeInfo,hi,Program.cellsOf]
def cu {t b}(h:dR P t=J b):(isAgg t).run P w= .ok b w:=by
 unfold dR at h;cases hu:P.underlying t with
 |none=>simp_all
 |some d=>cases d<;>simp [hu] at h<;>subst h<;>simp [isAgg,run_underlying hu]
def gw {t sz}(h:nC P t sz=W):∃e,P.underlying t=J (.slice e)/\P.cellsOf e=sz/\(P.info? e).isSome=W:=by
 grind [nC]
theorem T9 {G I N}:∀ l xs,O xs=O l ->
  (∀(j:Nat) a v,l[j]? =J a->xs[j]? =J v->VR G I N w .none a v)->J5 G I N w l xs
 |[],xs,h,_=>by simp_all [J5]
 |a::as,[],h,_=>by simp at h
 |a::as,x::xs,h,hp=>by
  exact ⟨x,xs,rfl,hp 0 a x rfl rfl,T9 as xs (by simpa using h) λj a' v ha hv=>hp (j+1) a' v M M⟩
theorem J5.get {G I N}:∀ l xs,J5 G I N w l xs->∀(j:Nat) a,l[j]? =J a->∃v,xs[j]? =J v/\VR G I N w .none a v
 |[],_,_,_,_,h=>by simp at h
 |a::as,xs,h,j,b,hb=>by
  obtain ⟨x,xs',h1,h2,h3⟩:=h;subst h1;cases j with
  |zero=>simp at hb;subst hb;exact ⟨x,rfl,h2⟩
  |succ j=>simpa using J5.get as xs' h3 j b (by simpa using hb)
def VR.place {G I N a x pl}(h:VR G I N w .none a x):VR G I N w pl a x:=by
 cases a with
 |own sz len cells =>
  simp_all [VR,absurd]
 |_=>simp_all [VR]
variable {ck:Operand->z6->Bool} {η:Operand->Value} {ρ:z6->c7} {G:Gh} {I:T0} {N:Nat->Prop} {H:n9}
abbrev Good (P:Program)(G:Gh)(I:T0)(N:Nat->Prop)(w:World)(η:Operand->Value)(o:Oper)(v:c7):Prop :=
 ∃x,(execOp η o).run P w= .ok (.value x) w/\VR G I N w .none v x
abbrev cS (ck:Operand->z6->Bool)(G:Gh)(I:T0)(N:Nat->Prop)(w:World)(η:Operand->Value)(ρ:z6->c7):Prop :=
 ∀x y,ck x y=W->VR G I N w .none (ρ y) (η x)
def VI (hρ:cS ck G I N w η ρ){o c a b}(hc:E9 P ck o (.pick c a b)=W){v rs}
  (h:l8 ρ H (.pick c a b)=J (v,rs)):Good P G I N w η o v:=by
 obtain ⟨dst,er,ty,pos,after,guard⟩:=o;cases er<;>simp [E9] at hc;rename_i c' a' b';have h1:=hρ _ _ hc.1.1;have h2:=hρ _ _ hc.1.2;have h3:=hρ _ _ hc.2;simp only [l8] at h;split at h
 next t ht=>
  simp at h;obtain ⟨rfl,rfl⟩:=h;rw [ht] at h1;simp only [VR,DR] at h1;refine ⟨if t then η a' else η b',by simp [execOp,h1,asBool],?_⟩;cases t<;>simpa
 .cases h
def VG (hρ:cS ck G I N w η ρ)(hH:HR G I N w H){o n y}(hc:E9 P ck o (.load n y)=W){v rs}
  (h:l8 ρ H (.load n y)=J (v,rs)):Good P G I N w η o v:=by
 obtain ⟨dst,er,ty,pos,after,guard⟩:=o;cases er<;>simp [E9] at hc;rename_i t x;have h1:=hρ _ _ hc.1;cases n with
 |none =>
  have ha:dR P t=J F:=by simp_all [uB]
  simp [l8] at h;split at h
  next id off hp=>
   rw [hp] at h1;simp [VR] at h1;split at h
   next u hu=>
    obtain ⟨rfl,rfl⟩:=h;obtain ⟨_,xs,g1,_,g3,g4⟩:=hH.rd hu V;obtain ⟨z,rfl⟩:∃z,xs=[z]:=by
     match xs,g1 with
     |[z],_=>simp_all
    have hz:=g3 0 z rfl;have hv:=g4 0 u z rfl rfl;refine ⟨z,?_,hv.F4⟩;simp_all [execOp,Instr.loadAt,Instr.sureAddr,loadVar,cu]
   .cases h
  next c cs hp=>
   obtain ⟨rfl,rfl⟩:=h;rw [hp] at h1;obtain ⟨b,off,g1,_,⟨z,g2,g3⟩,_⟩:=h1;refine ⟨z,?_,by simp_all [VR]⟩;simp_all [execOp,Instr.loadAt,Instr.sureAddr,loadVar,cu]
  .cases h
 |some n =>
  have ha:dR P t=J W/\P.cellsOf t=n/\0<n:=by simp_all [uB,and_assoc]
  have hs:(sizeOf t).run P w= .ok n w:=by
   grind [run_sizeOf,dR,info_of_underlying]
  simp [l8] at h;split at h
  next id off hp=>
   rw [hp] at h1;simp [VR] at h1;split at h
   next us hu=>
    obtain ⟨rfl,rfl⟩:=h;obtain ⟨_,xs,g1,g2,g3,g4⟩:=hH.rd hu V;have hl:=run_loadCells_list (P:=P) w (ad (I id).1 ((I id).2+off)) xs (λj v hj=>by simp_all [aX]);refine ⟨.agg xs.toArray,?_,?_⟩
    .simp_all [execOp,Instr.loadAt,Instr.sureAddr,loadVar,cu]
    .refine ⟨_,rfl,T9 _ _ (by simp [g1,g2]) λj a v hj hv=>?_⟩
     simp at hj hv;obtain ⟨a',ha',rfl⟩:=hj;exact (g4 j a' v ha' hv).F4
   .cases h
  next cells hp=>
   split at h
   .obtain ⟨rfl,rfl⟩:=h
    rw [hp] at h1;obtain ⟨b,off,g1,g2⟩:=h1;obtain ⟨xs,e1,e2,e3⟩:=gl.vals (I:=I) (N:=N) off _ (gl.take n off cells g2);have e1' :O xs=n:=M
    have hl:=run_loadCells_list (P:=P) w (ad b off) xs (λj v hj=>by simp_all [aX]);refine ⟨.agg xs.toArray,?_,?_⟩
    all_goals simp_all [execOp,Instr.loadAt,Instr.sureAddr,loadVar,cu,VR]
   .cases h
  .cases h
def PL (hρ:cS ck G I N w η ρ){o y}(hc:E9 P ck o (.cH y)=W){v rs}
  (h:l8 ρ H (.cH y)=J (v,rs)):Good P G I N w η o v:=by
 obtain ⟨dst,er,ty,pos,after,guard⟩:=o;cases er<;>simp [E9] at hc;rename_i x;have h1:=hρ _ _ hc;simp [l8] at h;split at h
 next id off hp=>
  obtain ⟨rfl,rfl⟩:=h;rw [hp] at h1;have h2:=h1;exact ⟨η x,by simp [execOp,h1.2],h2⟩
 next cells hp=>
  obtain ⟨rfl,rfl⟩:=h;rw [hp] at h1;have h2:=h1;obtain ⟨b,off,g1,g2⟩:=h1;exact ⟨η x,by simp [execOp,g1],h2⟩
 next f a b hp=>
  obtain ⟨rfl,rfl⟩:=h;rw [hp] at h1;have h2:=h1;obtain ⟨x',y',g1,g2,g3⟩:=h1;exact ⟨η x,by simp [execOp,g1],h2⟩
 .cases h
def Data.val:Data->Value
 | .bool b=> .bool b
 | .int k n=> .int k n
 | .str s=> .string ⟨s.toArray⟩
 | .cZ=> .pointer Option.none
 | .P5=> .nilFunc
 | .dV=> .map Option.none
 | .nilIface=> .nilIface
 | .slice _ _=> .slice Option.none 0 0
def EM {b x y r}(h:O2 b x y=J r){u v}(hu:DR G w x u)(hv:DR G w y v) t p q :
  ∃z,(do eqGuard b t p q u v;binOp b t u v).run P w= .ok z w/\DR G w r z:=by
 refine ⟨Data.val r,?_⟩;unfold O2 at h;split at h
 next k a k' c=>
  subst hu hv;have hg:(eqGuard b t p q (.int k a) (.int k' c)).run P w= .ok () w:=by simp_all [eqGuard]
  split at h
  next hsh=>
   unfold BL at h;split at h
   .cases h
   next hneg=>
    cases b<;>simp [aI] at hsh<;>simp at h<;>subst h <;>
     exact ⟨by simp [hg,binOp,Op.shift,hneg,Data.val],by rfl⟩
  next hsh=>
   split at h
   next hk=>
    unfold cC at h;cases b<;>simp  at hsh<;>simp at h
    all_goals first
     |(subst h;simp_all [binOp,Op.intArith,Op.intCmp,Op.intBits,Data.val,DR])
     |(obtain ⟨h0,rfl⟩:=h;simp_all [binOp,Op.intDiv,Data.val,DR])
   .cases h
 next a c=>
  subst hu hv;have hg:(eqGuard b t p q (.string ⟨a.toArray⟩) (.string ⟨c.toArray⟩)).run P w= .ok () w:=by simp_all [eqGuard]
  unfold uc at h;cases b<;>simp at h
  all_goals first
   |(subst h;simp_all [binOp,Op.stringOp,Data.val,DR])
   |skip
  obtain ⟨h0,rfl⟩:=h;have aY7:(⟨a.toArray⟩++⟨c.toArray⟩:ByteArray)=⟨(a++c).toArray⟩:=by
   rfl
  refine ⟨?_,by rfl⟩
  .have hs:¬ (((⟨a.toArray⟩:ByteArray).size+(⟨c.toArray⟩:ByteArray).size:Nat):Int)>IntKind.i64.max:=by
    simp_all [ByteArray.size]<;>omega
   simp_all [Sem.run_bind,Result.andThen_ok,binOp,Op.stringOp,if_neg,Sem.run_pure,Data.val]
 .cases h
def YX (hρ:cS ck G I N w η ρ){o b x y}(hc:E9 P ck o (.bin b x y)=W){v rs}
  (h:l8 ρ H (.bin b x y)=J (v,rs)):Good P G I N w η o v:=by
 obtain ⟨dst,er,ty,pos,after,guard⟩:=o;cases er<;>simp [E9] at hc;rename_i b' t x' y' ty';obtain ⟨⟨rfl,hx⟩,hy⟩:=hc;have h1:=hρ _ _ hx;have h2:=hρ _ _ hy;simp [l8] at h;split at h
 next a c ha uw=>
  rw [ha] at h1;rw [uw] at h2;split at h
  next r hr=>
   obtain ⟨rfl,rfl⟩:=h;obtain ⟨z,g1,g2⟩:=EM (P:=P) hr h1 h2 t x' y';exact ⟨z,by simp only [execOp];rw [Sem.run_bind,g1];rfl,by simp_all [VR]⟩
  .cases h
 .cases h
def vt d{t e}(he:P.underlying t=J (.slice e)) a l c:(Op.equalIn (d+1) t (.slice (J a) l c) (.slice Option.none 0 0)).run P w= .ok F w:=by
 simp [Op.equalIn,run_underlying he]
def AA {t e}(he:P.underlying t=J (.slice e)) a l c:(Op.equal t (.slice (J a) l c) (.slice Option.none 0 0)).run P w= .ok F w:=vt 9999 he a l c
def Az d{t ms}(he:P.underlying t=J (.interface ms)):(Op.equalIn (d+1) t .nilIface .nilIface).run P w= .ok W w:=by
 simp [Op.equalIn,run_underlying he]
def EU {t ms}(he:P.underlying t=J (.interface ms)):(Op.equal t .nilIface .nilIface).run P w= .ok W w:=Az 9999 he
def IJ d{t}(he:P.underlying t=J .bool) a b:(Op.equalIn (d+1) t (.bool a) (.bool b)).run P w= .ok (a==b) w:=by
 simp [Op.equalIn,run_underlying he]
def OY {t}(he:P.underlying t=J .bool) a b:(Op.equal t (.bool a) (.bool b)).run P w= .ok (a==b) w:=IJ 9999 he a b
def VH (hη:∀v,η (.const v)=v)(hρ:cS ck G I N w η ρ){o neg x}(hc:E9 P ck o (.AJ neg x)=W){v rs}
  (h:l8 ρ H (.AJ neg x)=J (v,rs)):Good P G I N w η o v:=by
 obtain ⟨dst,er,ty,pos,after,guard⟩:=o;unfold E9 at hc;split at hc<;>try (cases hc)
 all_goals rename_i qF lK
 all_goals cases lK
 all_goals subst qF
 rename_i b t x' ty';simp [c8] at hc;obtain ⟨⟨hx,ht⟩,hb⟩:=hc;obtain ⟨e,he⟩:∃e,P.underlying t=J (.slice e):=by
  grind
 have key:∃a l c,η x' = .slice (J a) l c/\v= .d (.bool neg):=by
  simp [l8] at h
  .grind [VR,DR]
  all_goals grind [VR]
 obtain ⟨a,l,c,hx',rfl⟩:=key;refine ⟨.bool neg,?_,by simp [VR,DR]⟩;simp [execOp,hx',hη];cases neg<;>simp at hb<;>subst hb<;>simp [eqGuard,binOp]<;>simp [AA he]
def YY (hρ:cS ck G I N w η ρ){o neg x y}(hc:E9 P ck o (.A1 neg x y)=W){v rs}
  (h:l8 ρ H (.A1 neg x y)=J (v,rs)):Good P G I N w η o v:=by
 obtain ⟨dst,er,ty,pos,after,guard⟩:=o;cases er<;>simp [E9] at hc<;>try simp_all
 rename_i b t x' y' ty';obtain ⟨⟨⟨hx,hy⟩,ht⟩,hb⟩:=hc;have h1:=hρ _ _ hx;have h2:=hρ _ _ hy;have he:P.underlying t=J .bool:=by
  grind
 simp [l8] at h;split at h
 next a c ha uw=>
  obtain ⟨rfl,rfl⟩:=h;rw [ha] at h1;rw [uw] at h2;simp [VR,DR] at h1 h2;refine ⟨.bool (neg != (a==c)),?_,by simp [VR,DR]⟩;simp [execOp,h1,h2];cases neg<;>simp at hb<;>subst hb<;>simp [eqGuard,binOp]<;>simp [OY he]
 .cases h
def Vh {t k}(h:gD P t k=W):dR P t=J F:=by
 simp_all [dR,gD]<;>grind
def run_part_plain {t k}(h:gD P t k=W) cs off v(hv:cs[off]? =J v):(part t cs off).run P w= .ok v w:=by
 simp [part,cu (Vh h),hv]
def vg {k a b r}(h:Data.Is k a b=J r){u v}(hu:DR G w a u)(hv:DR G w b v){t}(ht:gD P t k=W) d :
  (Op.equalIn (d+1) t u v).run P w= .ok r w:=by
 unfold Data.Is at h;split at h
 .subst hu hv
  split at h
  next hkk=>
   subst hkk;simp at h;subst h;simp [gD] at ht;split at ht
   .rename_i k2 hk2;simp [Op.equalIn,run_underlying hk2]
   .cases ht
  .cases h
 .subst hu hv
  simp at h;subst h;simp [gD] at ht;split at ht
  .rename_i h2;simp [Op.equalIn,run_underlying h2,beq_toListBytes]
  .cases ht
 .subst hu hv
  simp at h;subst h;simp [gD] at ht;split at ht
  .rename_i h2;simp [Op.equalIn,run_underlying h2]
  .cases ht
 .cases h
theorem mJ d xs ys:∀ fs n ks a b r,U6 P fs n ks=W->Q6 ks a b=J r ->
  (∀ j c,a[j]? =J c->∃v,xs[n+j]? =J v/\VR G I N w .none c v)->(∀ j c,b[j]? =J c->∃v,ys[n+j]? =J v/\VR G I N w .none c v) ->
  (Op.eqFields (d+1) xs ys fs).run P w= .ok r w
 |[],n,ks,a,b,r,hf,hc,_,_=>by
  cases ks with
  |nil =>
   unfold Q6 at hc;simp_all [Op.eqFields]<;>grind
  |cons=>simp [U6] at hf
 |f::fs,n,[],a,b,r,hf,hc,_,_=>by simp [U6] at hf
 |f::fs,n,k::ks,a,b,r,hf,hc,ha,hb=>by
  simp [U6,c8,beq_iff_eq] at hf;obtain ⟨⟨⟨h1,h2⟩,h3⟩,h4⟩:=hf;unfold Q6 at hc;split at hc
  .simp_all
  next k0 ks0 x a' y b' e1=>
   cases e1;split at hc
   next t ht=>
    split at hc
    next u hu=>
     obtain ⟨v1,g1,g2⟩:=ha 0 _ rfl;obtain ⟨v2,g3,g4⟩:=hb 0 _ rfl;have e1:=run_part_plain (w:=w) h2 xs n v1 g1;have e2:=run_part_plain (w:=w) h2 ys n v2 g3;have e3:=vg (P:=P) ht g2 g4 h2 d;have ih:=mJ d xs ys fs (n+1) ks a' b' u h4 hu (λj c hj=>by rw [show n+1+j=n+(j+1) from by omega];simp_all)
      (λj c hj=>by rw [show n+1+j=n+(j+1) from by omega];simp_all)
     simp_all [Op.eqFields]<;>grind
    .cases hc
   .cases hc
  .cases hc
def vS {t gs m}(h:P.underlying t=J (.struct gs))(hi:(P.info? t).isSome=W)(hm:P.cellsOf t=m) cs off:(part t cs off).run P w= .ok (.agg (cs.extract off (off+m))) w:=by
 have h1:dR P t=J W:=by simp [dR,h]
 have h2:=run_sizeOf (w:=w) hi;rw [hm] at h2;simp [part,cu h1,h2]
theorem yK:∀ m ks a b r,Q6 ks a b=J r->m<=O ks->∃r1 r2,Q6 (ks.take m) (a.take m) (b.take m)=J r1/\Q6 (ks.drop m) (a.drop m) (b.drop m)=J r2/\r=(r1&&r2)
 |0,ks,a,b,r,h,_=>⟨W,r,by simp [Q6],by simpa using h,U⟩
 |m+1,[],a,b,r,h,hm=>by simp at hm
 |m+1,k::ks,a,b,r,h,hm=>by
  unfold Q6 at h;split at h
  .simp_all
  next k0 ks0 x a' y b' e1=>
   cases e1;split at h
   next t ht=>
    split at h
    next u hu=>
     simp at h;subst h;obtain ⟨r1,r2,e1,e2,e3⟩:=yK m ks a' b' u hu (by simpa using hm);exact ⟨t&&r1,r2,by simp [Q6,ht,e1],by simpa using e2,by rw [e3,Bool.and_assoc]⟩
    .cases h
   .cases h
  .cases h
theorem qC {P}:∀ fs n ks,U6 P fs n ks=W->O ks=O fs
 |[],_,[],_=>rfl
 |[],_,_::_,h=>by simp [U6] at h
 |_::_,_,[],h=>by simp [U6] at h
 |f::fs,n,k::ks,h=>by
  simp only [U6,c8] at h;simp [qC fs _ ks h.2]
theorem kK d xs ys:∀ fs n ks a b r,fF P fs n ks=W->Q6 ks a b=J r ->
  (∀ j c,a[j]? =J c->∃v,xs[n+j]? =J v/\VR G I N w .none c v)->(∀ j c,b[j]? =J c->∃v,ys[n+j]? =J v/\VR G I N w .none c v) ->
  (Op.eqFields (d+2) xs ys fs).run P w= .ok r w
 |[],n,ks,a,b,r,hf,hc,_,_=>by
  cases ks with
  |nil =>
   unfold Q6 at hc;split at hc<;>simp_all [Op.eqFields]
  |cons=>simp [fF] at hf
 |f::fs,n,ks,a,b,r,hf,hc,ha,hb=>by
  simp only [fF,c8,bne_iff_ne,beq_iff_eq] at hf;obtain ⟨⟨h1,h3⟩,hf⟩:=hf;split at hf
  next gs hgs=>
   simp only [c8,beq_iff_eq,o8] at hf;obtain ⟨⟨⟨⟨q1,q2⟩,q3⟩,q4⟩,q5⟩:=hf;have hl:=qC _ _ _ q3;have hm:gs.size<=O ks:=by
    rw [P7] at hl;simp at hl;omega
   obtain ⟨r1,r2,e1,e2,e3⟩:=yK gs.size ks a b r hc hm;have p1:=vS (w:=w) hgs q1 q2 xs n;have p2:=vS (w:=w) hgs q1 q2 ys n;have hff:P.fieldsOf f.type=gs:=by simp [Program.fieldsOf,hgs]
   have XL:∀(l:List c7) (zs:Array Value),(∀(j:Nat) c,l[j]? =J c->∃v,zs[n+j]? =J v/\VR G I N w .none c v)->∀(j:Nat) c,(l.take gs.size)[j]? =J c->∃v,(zs.extract n (n+gs.size))[0+j]? =J v/\VR G I N w .none c v:=by
    intro l zs hz j c hj;rw [List.getElem?_take] at hj;split at hj
    next hlt=>
     obtain ⟨v,g1,g2⟩:=hz j c hj;refine ⟨v,?_,g2⟩;have hsz:=(Array.getElem?_eq_some_iff.1 g1).1;rw [Array.getElem?_extract,if_pos V,Nat.zero_add,g1]
    .cases hj
   have p3:=run_equalIn_struct (P:=P) w (d+1) f.type (xs.extract n (n+gs.size)) (ys.extract n (n+gs.size)) (by rw [hff];exact hgs) q4;rw [hff,mJ (P:=P) (G:=G) (I:=I) (N:=N) d _ _ gs.toList 0 (ks.take gs.size) _ _ r1 q3 e1 (XL a xs ha) (XL b ys hb)] at p3;have ih:=kK d xs ys fs (n+gs.size) (ks.drop gs.size) (a.drop gs.size) (b.drop gs.size) r2 q5 e2 (λj c hj=>by rw [List.getElem?_drop] at hj;rw [M9];exact ha _ c hj) (λj c hj=>by rw [List.getElem?_drop] at hj;rw [M9];exact hb _ c hj);simp only [Op.eqFields,if_pos h1,Sem.run_bind,h3,p1,p2,p3,Result.andThen_ok];rw [e3];cases r1<;>simp [ih]
  .split at hf
   next k ks=>
    simp only [c8] at hf;obtain ⟨h2,h4⟩:=hf;unfold Q6 at hc;split at hc
    .simp_all
    next k0 ks0 x a' y b' e1=>
     cases e1;split at hc
     next t ht=>
      split at hc
      next u hu=>
       simp at hc;subst hc;obtain ⟨v1,g1,g2⟩:=ha 0 _ rfl;obtain ⟨v2,g3,g4⟩:=hb 0 _ rfl;simp only [VR] at g2 g4;rw [Nat.add_zero] at g1 g3;have e1:=run_part_plain (w:=w) h2 xs n v1 g1;have e2:=run_part_plain (w:=w) h2 ys n v2 g3;have e3:=vg (P:=P) ht g2 g4 h2 (d+1);have ih:=kK d xs ys fs (n+1) ks a' b' u h4 hu (λj c hj=>by rw [show n+1+j=n+(j+1) from by omega];exact ha (j+1) c (by simpa using hj))
        (λj c hj=>by rw [show n+1+j=n+(j+1) from by omega];exact hb (j+1) c (by simpa using hj))
       simp only [Op.eqFields,if_pos h1,Sem.run_bind,h3,e1,e2,e3,Result.andThen_ok];cases t<;>simp [ih]
      .cases hc
     .cases hc
    .cases hc
   .cases hf
def YZ (hρ:cS ck G I N w η ρ){o neg ks x y}(hc:E9 P ck o (.Bc neg ks x y)=W){v rs}
  (h:l8 ρ H (.Bc neg ks x y)=J (v,rs)):Good P G I N w η o v:=by
 obtain ⟨dst,er,ty,pos,after,guard⟩:=o;cases er<;>simp only [E9,c8] at hc<;>try (cases hc;done)
 rename_i b t x' y' ty';obtain ⟨⟨⟨hx,hy⟩,ht⟩,hb⟩:=hc;have h1:=hρ _ _ hx;have h2:=hρ _ _ hy;unfold yP at ht;split at ht
 next fs Wp=>
  simp only [c8,o8] at ht;simp only [l8] at h;split at h
  next a c ha uw=>
   split at h
   next r hr=>
    simp at h;obtain ⟨rfl,rfl⟩:=h;rw [ha] at h1;rw [uw] at h2;simp only [VR] at h1 h2;obtain ⟨xs,e1,e2⟩:=h1;obtain ⟨ys,e3,e4⟩:=h2;have hff:P.fieldsOf t=fs:=by simp [Program.fieldsOf,Wp]
    have heq:=run_equalIn_struct (P:=P) w 9999 t xs ys (by rw [hff];exact Wp) ht.1.2;rw [hff,kK (P:=P) (G:=G) (I:=I) (N:=N) 9997 xs ys fs.toList 0 ks a c r ht.1.1 hr
     (λj u hu=>by obtain ⟨v,g1,g2⟩:=J5.get a _ e2 j u hu;exact ⟨v,by simpa using g1,g2⟩)
     (λj u hu=>by obtain ⟨v,g1,g2⟩:=J5.get c _ e4 j u hu;exact ⟨v,by simpa using g1,g2⟩)] at heq
    refine ⟨.bool (neg != r),?_,by simp [VR,DR]⟩;simp only [execOp,e1,e3,Sem.run_bind,run_eqGuard_agg w b t x' y' xs ys ht.2,Result.andThen_ok];cases neg<;>simp at hb<;>subst hb
    .rw [run_eql_struct,heq];simp
    .rw [run_neq_struct,heq];simp
   .cases h
  .cases h
 .cases ht
end
section
variable {P:Program} {w:World} {ck:Operand->z6->Bool} {η:Operand->Value} {ρ:z6->c7} {G:Gh} {I:T0} {N:Nat->Prop} {H:n9}
def as0 (hρ:cS ck G I N w η ρ){o b x}(hc:E9 P ck o (.un b x)=W){v rs}
  (h:l8 ρ H (.un b x)=J (v,rs)):Good P G I N w η o v:=by
 obtain ⟨dst,er,ty,pos,after,guard⟩:=o;cases er<;>simp [E9] at hc;rename_i b' t x';obtain ⟨rfl,hx⟩:=hc;have h1:=hρ _ _ hx;simp [l8] at h;split at h
 next a ha=>
  rw [ha] at h1;simp [VR] at h1;split at h
  next r hr=>
   obtain ⟨rfl,rfl⟩:=h;refine ⟨Data.val r,?_⟩;unfold DO at hr;split at hr
   .simp [DR] at h1
    cases b' <;>simp at hr;subst hr;simp [execOp,h1,Op.unary,Op.intArith,Data.val,VR,DR]
   .simp [DR] at h1
    cases b' <;>simp at hr;subst hr;simp [execOp,h1,Op.unary,Data.val,VR,DR]
   .cases hr
  .cases h
 .cases h
def PK (hρ:cS ck G I N w η ρ){o k x}(hc:E9 P ck o (.pE k x)=W){v rs}
  (h:l8 ρ H (.pE k x)=J (v,rs)):Good P G I N w η o v:=by
 obtain ⟨dst,er,ty,pos,after,guard⟩:=o;cases er<;>simp [E9] at hc<;>try simp_all
 obtain ⟨⟨hx,hs⟩,hd⟩:=hc;have h1:=hρ _ _ hx;obtain ⟨ds,hds⟩:=Option.isSome_iff_exists.1 hs;split at hd
 .simp [l8] at h
  split at h
  next k2 n ha=>
   obtain ⟨rfl,rfl⟩:=h;rw [ha] at h1;simp [VR,DR] at h1;refine ⟨.int k (k.wrap n),?_,by simp [VR,DR]⟩;simp_all [execOp,convert,run_underlying,Conv.intToInt]
  .cases h
 .cases hd
theorem BR:∀ vs l bs,je l=J bs->J5 G I N w (l.map .d) vs ->
  ∃ns:List Int,vs=ns.map (Value.int .u8)/\bs=ns.map λn=>UInt8.ofNat n.toNat
 |vs,[],bs,hb,hv=>by
  simp_all [je,J5]
 |vs,a::as,bs,hb,hv=>by
  obtain ⟨x,xs,rfl,e2,e3⟩:=hv;unfold je at hb;split at hb
  .simp_all
  next n r heq=>
   cases heq;split at hb
   next bs' Rf=>
    simp at hb;subst hb;subst e2;obtain ⟨ns,rfl,rfl⟩:=BR xs as bs' Rf e3;exact ⟨n::ns,rfl,rfl⟩
   .cases hb
  .cases hb
theorem foldl_push:∀(ns:List Int) (s:ByteArray),(ns.foldl (λr n=>r.push (UInt8.ofNat n.toNat)) s)=⟨(s.data.toList++ns.map λn=>UInt8.ofNat n.toNat).toArray⟩
 |[],s=>U
 |n::ns,s=>by
  rw [List.foldl_cons,foldl_push ns];simp
def LW (hρ:cS ck G I N w η ρ){o x}(hc:E9 P ck o (.mH x)=W){v rs}
  (h:l8 ρ H (.mH x)=J (v,rs)):Good P G I N w η o v:=by
 obtain ⟨dst,er,ty,pos,after,guard⟩:=o;cases er<;>simp [E9] at hc<;>try simp_all
 rename_i s d x';obtain ⟨⟨hx,hs⟩,hd⟩:=hc;have h1:=hρ _ _ hx;split at hs
 next e he=>
  split at hs
  next hu8=>
   split at hd
   next XV=>
    simp [l8] at h;split at h
    next len cells ha=>
     split at h
     next hlen=>
      split at h
      next bs Rf=>
       obtain ⟨rfl,rfl⟩:=h;rw [ha] at h1;refine ⟨.string ⟨bs.toArray⟩,?_,by simp [VR,DR]⟩
       rcases h1 with ⟨h1,h2,h3⟩|⟨b,off,cap,h1,h2,h3⟩
       .subst h3
        simp [je] at Rf;subst Rf
        rcases h1 with h1|⟨a0,h1⟩
        .simp [execOp,h1,convert,run_underlying he,run_underlying XV,run_underlying hu8]
         rfl
        .have hl:(loadCells a0 0).run P w= .ok (([]:List Int).map (Value.int .u8)).toArray w:=by rfl
         simp [execOp,h1,Sem.run_bind,run_convert_bytes_string w s d e _ _ _ he hu8 XV];rfl
       .obtain ⟨vs,g1,g2,g3⟩:=gl.vals (I:=I) (N:=N) off cells h3
        have hl:=run_loadCells_list (P:=P) w (ad b off) vs (λj v hj=>by simp_all [aX]);rw [g1,hlen] at hl;obtain ⟨ns,rfl,rfl⟩:=BR (G:=G) (I:=I) (N:=N) vs cells bs Rf g3;simp only [execOp,h1,Sem.run_bind,run_convert_bytes_string w s d e _ _ _ he hu8 XV,run_bytesToString w (ad b off) len cap ns hl,foldl_push];simp
      .cases h
     .cases h
    .cases h
   .cases hd
  .cases hs
 .cases hs
def yH (hρ:cS ck G I N w η ρ){x y}(hc:ckO ck x y=W){d n}(h:V2 ρ d y=J n) :
  (x=K/\n=d)\/∃x' k,x=J x' /\η x' = .int k n:=by
 cases y with
 |none =>
  grind [V2,ckO]
 |some y =>
  cases x with
  |none=>simp [ckO] at hc
  |some x =>
   grind [ckO,V2,VR,DR]
def xR (hρ:cS ck G I N w η ρ){lo hi lo' hi'}(hl:ckO ck lo lo' =W)(hh:ckO ck hi hi' =W){len cap l h}
  (bl:V2 ρ 0 lo' =J l) (bh:V2 ρ len hi' =J h) (h0:0<=l) (h1:l<=h) (h2:h<=len) (hcap:len<=cap) b :
  (Instr.sliceBounds b len cap (lo.map η) (hi.map η) K).run P w= .ok (l.toNat,h.toNat,cap) w:=by
 rcases yH hρ hl bl with ⟨rfl,rfl⟩|⟨x1,k1,rfl,e1⟩<;>rcases yH hρ hh bh with ⟨rfl,rfl⟩|⟨x2,k2,rfl,e2⟩
 .rfl
 .simp_all [Instr.sliceBounds,Instr.sliceBound,asIntOf]<;>omega
 all_goals (simp_all [Instr.sliceBounds,Instr.sliceBound,asIntOf]<;>grind)
def Ma (hρ:cS ck G I N w η ρ){o sz x lo hi}(hc:E9 P ck o (.Z0 sz x lo hi)=W){v rs}
  (h:l8 ρ H (.Z0 sz x lo hi)=J (v,rs)):Good P G I N w η o v:=by
 obtain ⟨dst,er,ty,pos,after,guard⟩:=o;unfold E9 at hc;split at hc<;>try (cases hc)
 all_goals rename_i qF lK
 all_goals cases lK
 all_goals subst qF
 rename_i t x' lo' hi';simp only [c8] at hc;obtain ⟨⟨⟨⟨hx,hl⟩,hh⟩,ht⟩,hsz⟩:=hc;have h1:=hρ _ _ hx;obtain ⟨e,hu,XU,hie⟩:=gw ht;have hsize:(sizeOf e).run P w= .ok sz w:=by simp_all [run_sizeOf]
 simp [l8] at h;split at h
 next len cells hs=>
  split at h
  next l hi2 bl bh=>
   split at h
   next hb=>
    obtain ⟨rfl,rfl⟩:=h;rw [hs] at h1
    rcases h1 with ⟨h1,h2,h3⟩|⟨b,off,cap,h1,h2,h3⟩
    .subst h2 h3
     have hrb:=xR (P:=P) hρ hl hh bl bh hb.1 hb.2.1 hb.2.2.1 (o6 0) W;have hl0:l=0:=V
     have hh0:hi2=0:=V
     subst hl0 hh0
     rcases h1 with h1|⟨a0,h1⟩
     .refine ⟨.slice K 0 0,?_,by simp [VR,DR]⟩
      simp only [execOp,h1,Instr.sliceAt,Sem.run_bind,run_underlying hu,Result.andThen_ok,Instr.slice];simp_all
     .refine ⟨.slice (J a0) 0 0,?_,by simp [VR,DR]⟩
      simp only [execOp,h1,Instr.sliceAt,Sem.run_bind,run_underlying hu,Result.andThen_ok,Instr.slice];simp_all
    .have hrb:=xR (P:=P) hρ hl hh bl bh hb.1 hb.2.1 hb.2.2.1 h2 W
     refine ⟨.slice (if cap=l.toNat then J (ad b off) else (J (ad b off)).map (·.add (l.toNat * sz))) (hi2.toNat - l.toNat) (cap - l.toNat),?_,?_⟩
     .simp only [execOp,h1,Instr.sliceAt,Sem.run_bind,run_underlying hu,Result.andThen_ok,Instr.slice]
      simp_all
     .simp only [VR,DR]
      have e1:(hi2 - l).toNat=hi2.toNat - l.toNat:=V
      by_cases hcl:cap=l.toNat
      .grind
      .refine Or.inr ⟨b,off+l.toNat * sz,cap - l.toNat,?_,V,gl.drop _ _ _ (gl.take _ _ _ h3)⟩
       simp_all [if_neg,aX]
   .cases h
  .cases h
 next id z a len hs=>
  split at h
  next l hi2 bl bh=>
   split at h
   next hb=>
    rw [hs] at h1;obtain ⟨g1,cap,g2,g3,c,e',f,g4,g5⟩:=h1;have hrb:=xR (P:=P) hρ hl hh bl bh hb.1 hb.2.1 hb.2.2.1 g3 W;have e1:(hi2 - l).toNat=hi2.toNat - l.toNat:=V
    have hrun:(execOp η ⟨dst,.slice t x' lo' hi' K,ty,pos,after,guard⟩).run P w =
      .ok (.value (.slice (if cap=l.toNat then J (ad (I id).1 ((I id).2+a)) else (J (ad (I id).1 ((I id).2+a))).map (·.add (l.toNat * sz))) (hi2.toNat - l.toNat) (cap - l.toNat))) w:=by
     simp only [execOp,g2,Instr.sliceAt,Sem.run_bind,run_underlying hu,Result.andThen_ok,Instr.slice];simp_all
    refine ⟨_,hrun,?_⟩;split at h
    next hlh=>
     obtain ⟨rfl,rfl⟩:=h;simp [VR,DR]
     by_cases hcl:cap=l.toNat
     all_goals simp_all [if_pos,Nat.sub_self,gl,if_neg,aX]
    .obtain ⟨rfl,rfl⟩:=h
     have hcl:¬ cap=l.toNat:=V
     refine ⟨g1,cap - l.toNat,?_,V,c,e',f,g4,?_⟩
     .simp_all [if_neg,aX,M9]
     .have hz:z=sz:=hb.2.2.2
      subst hz;have:cap * z=(cap - l.toNat) * z+l.toNat * z:=by rw [<- Nat.add_mul];grind
      omega
   .cases h
  .cases h
 .cases h
end
section
variable {P:Program} {w:World} {ck:Operand->z6->Bool} {η:Operand->Value} {ρ:z6->c7} {G:Gh} {I:T0} {N:Nat->Prop} {H:n9}
def Zc (hρ:cS ck G I N w η ρ){o k x}(hc:E9 P ck o (.off k x)=W){v rs}
  (h:l8 ρ H (.off k x)=J (v,rs)):Good P G I N w η o v:=by
 obtain ⟨dst,er,ty,pos,after,guard⟩:=o;cases er<;>simp [E9] at hc<;>try simp_all
 rename_i s x' f;obtain ⟨hx,hs⟩:=hc;split at hs
 .split at hs
  next fd hfd=>
   simp [c8,decide_eq_true_eq] at hs;have aZ6:(P.info? fd.type).isSome=W:=by
    cases hi:P.info? fd.type with
    |none=>simp_all [Program.cellsOf]
    |some i=>rfl
   have hsz:(sizeOf fd.type).run P w= .ok (P.cellsOf fd.type) w:=run_sizeOf aZ6;have hne:¬ P.cellsOf fd.type=0:=V
   have hrun:∀b off,η x' = .pointer (J (ad b off))->(execOp η ⟨dst,.fieldAddr s x' f,ty,pos,after,guard⟩).run P w= .ok (.value (.pointer (J (ad b (off+k))))) w:=by
    simp_all [execOp,Instr.fieldAt,Sem.run_bind,run_underlying,Result.andThen_ok,Instr.sureAddr,Sem.run_pure,fieldPlace,if_neg,aX]
   simp [l8] at h;split at h
   .grind [VR,M9]
   all_goals grind [VR,gl.drop]
  .cases hs
 .cases hs
def VC (hρ:cS ck G I N w η ρ){o sz x i}(hc:E9 P ck o (.J4 sz x i)=W){v rs}
  (h:l8 ρ H (.J4 sz x i)=J (v,rs)):Good P G I N w η o v:=by
 obtain ⟨dst,er,ty,pos,after,guard⟩:=o;cases er<;>simp [E9] at hc<;>try simp_all
 rename_i t x' i';obtain ⟨⟨hx,hi⟩,ht⟩:=hc;have h1:=hρ _ _ hx;have h2:=hρ _ _ hi;obtain ⟨e,hu,XU,hie⟩:=gw ht;have hsize:(sizeOf e).run P w= .ok sz w:=by simp_all [run_sizeOf]
 have hrun:∀(b off len cap:Nat) (k:IntKind) (n:Int),η x' = .slice (J (ad b off)) len cap->η i' = .int k n->0<=n->n<len ->
   (execOp η ⟨dst,.indexAddr t x' i',ty,pos,after,guard⟩).run P w= .ok (.value (.pointer (J (ad b (off+n.toNat * sz))))) w:=by
  intro b off len cap k n e1 e2 e3 e4;have hb:(0<=n/\n<(len:Int)):=⟨e3,e4⟩;simp [execOp,e1,e2,Instr.indexAt,run_underlying hu,asIntOf,hsize,hb,aX]
 simp [l8] at h;split at h
 next len cells k n hp hq=>
  split at h
  next hb=>
   obtain ⟨rfl,rfl⟩:=h;rw [hp] at h1;rw [hq] at h2
   rcases h1 with ⟨_,h0,_⟩|⟨b,off,cap,g1,g2,g3⟩
   .omega
   .exact ⟨_,hrun b off len cap k n g1 h2 hb.1 hb.2,by exact ⟨b,_,rfl,gl.drop _ _ _ g3⟩⟩
  .cases h
 all_goals grind [VR,DR,M9]
def VD (hρ:cS ck G I N w η ρ){o m sz x i}(hc:E9 P ck o (.jA m sz x i)=W){v rs}
  (h:l8 ρ H (.jA m sz x i)=J (v,rs)):Good P G I N w η o v:=by
 obtain ⟨dst,er,ty,pos,after,guard⟩:=o;cases er<;>simp [E9] at hc<;>try simp_all
 rename_i t x' i';obtain ⟨⟨hx,hi⟩,ht⟩:=hc;have h1:=hρ _ _ hx;have h2:=hρ _ _ hi;split at ht
 next m' e hu=>
  simp [c8,beq_iff_eq] at ht;obtain ⟨⟨rfl,XU⟩,hie⟩:=ht;have hsize:(sizeOf e).run P w= .ok sz w:=by simp_all [run_sizeOf]
  have hrun:∀(b off:Nat) (k:IntKind) (n:Int),η x' = .pointer (J (ad b off))->η i' = .int k n->0<=n->n<m' ->
    (execOp η ⟨dst,.indexAddr t x' i',ty,pos,after,guard⟩).run P w= .ok (.value (.pointer (J (ad b (off+n.toNat * sz))))) w:=by
   intro b off k n e1 e2 e3 e4;have hb:(0<=n/\n<(m' :Int)):=⟨e3,e4⟩;simp [execOp,e1,e2,Instr.indexAt,run_underlying hu,asIntOf,hsize,hb,aX,Instr.sureAddr]
  simp [l8] at h;split at h
  .grind [VR,DR,M9]
  next cells k n hp hq=>
   split at h
   next hb=>
    obtain ⟨rfl,rfl⟩:=h;rw [hp] at h1;rw [hq] at h2;obtain ⟨b,off,g1,g2⟩:=h1;exact ⟨_,hrun _ _ k n g1 h2 hb.1 hb.2,by exact ⟨b,_,rfl,gl.drop _ _ _ g2⟩⟩
   .cases h
  .cases h
 .cases ht
def VE (hρ:cS ck G I N w η ρ){o x i}(hc:E9 P ck o (.K6 x i)=W){v rs}
  (h:l8 ρ H (.K6 x i)=J (v,rs)):Good P G I N w η o v:=by
 obtain ⟨dst,er,ty,pos,after,guard⟩:=o;cases er<;>simp [E9] at hc<;>try simp_all
 obtain ⟨⟨hx,hi⟩,ht⟩:=hc;have h1:=hρ _ _ hx;have h2:=hρ _ _ hi;split at ht
 .simp [l8] at h
  split at h
  next s k n hp hq=>
   split at h
   .split at h
    next b hb=>
     obtain ⟨rfl,rfl⟩:=h;rw [hp] at h1;rw [hq] at h2;simp [VR,DR] at h1 h2;refine ⟨.int .u8 b.toNat,?_,by simp [VR,DR]⟩;have hsz:(⟨s.toArray⟩:ByteArray).size=O s:=by rfl
     have hlt:n.toNat<O s:=by
      grind
     have hg:(⟨s.toArray⟩:ByteArray)[n.toNat]? =J b:=by
      rw [getElem?_pos _ _ V];rw [n5 hlt] at hb;simp at hb;subst hb;rfl
     simp_all [execOp,Instr.index,run_underlying,asIntOf]
    .cases h
   .cases h
  .cases h
 .cases ht
def Jl (hρ:cS ck G I N w η ρ){o x i}(hc:E9 P ck o (.extract x i)=W){v rs}
  (h:l8 ρ H (.extract x i)=J (v,rs)):Good P G I N w η o v:=by
 obtain ⟨dst,er,ty,pos,after,guard⟩:=o;cases er<;>simp [E9] at hc;rename_i x' i';obtain ⟨hx,rfl⟩:=hc;have h1:=hρ _ _ hx;simp [l8] at h;split at h
 next vs hp=>
  split at h
  next u hu=>
   simp at h;obtain ⟨rfl,rfl⟩:=h;rw [hp] at h1;obtain ⟨cs,g1,g2⟩:=h1;obtain ⟨z,e1,e2⟩:=J5.get vs _ g2 i' u hu;refine ⟨z,?_,e2⟩;simp_all [execOp,Instr.extract]
  .cases h
 .cases h
def Za (hρ:cS ck G I N w η ρ){o x i}(hc:E9 P ck o (.fld x i)=W){v rs}
  (h:l8 ρ H (.fld x i)=J (v,rs)):Good P G I N w η o v:=by
 obtain ⟨dst,er,ty,pos,after,guard⟩:=o;cases er<;>simp [E9] at hc;rename_i t x' f;obtain ⟨hx,hf⟩:=hc;split at hf
 next fs hu=>
  split at hf
  next fd hfd=>
   simp at hf;obtain ⟨rfl,ha⟩:=hf;have h1:=hρ _ _ hx;simp only [l8] at h;split at h
   next vs hp=>
    split at h
    next u hu'=>
     simp at h;obtain ⟨rfl,rfl⟩:=h;rw [hp] at h1;simp only [VR] at h1;obtain ⟨cs,g1,g2⟩:=h1;obtain ⟨z,e1,e2⟩:=J5.get vs _ g2 _ u hu';refine ⟨z,?_,e2⟩;have e3:cs[fd.offset]? =J z:=by simpa using e1
     simp [execOp,Instr.field,asAgg,part,g1,run_underlying hu,hfd,cu ha,e3]
    .cases h
   .cases h
  .cases hf
 .cases hf
def Zb (hρ:cS ck G I N w η ρ){o x}(hc:E9 P ck o (.len x)=W){v rs}
  (h:l8 ρ H (.len x)=J (v,rs)):Good P G I N w η o v:=by
 obtain ⟨dst,er,ty,pos,after,guard⟩:=o;unfold E9 at hc;split at hc<;>try (cases hc)
 all_goals rename_i qF lK
 all_goals cases lK
 rename_i args argTypes;split at hc
 next x' t ha hb=>
  simp [c8] at hc;obtain ⟨hx,ht⟩:=hc;split at ht
  next e hu=>
   have hrun:∀a len cap,η x' = .slice a len cap->(execOp η ⟨dst,.call ⟨.builtin .len,args,argTypes⟩,ty,pos,after,guard⟩).run P w= .ok (.value (.int .i64 len)) w:=by
    intro a len cap hη;have h0:(args.map η)[0]? =J (.slice a len cap):=by simp [ha,hη]
    simp [execOp,resolve,invoke,builtin,Builtin.len_,hb,h0,run_underlying hu,goInt]
   simp [l8] at h
   .grind [VR,DR,i64]
   all_goals grind [VR,DR,i64]
  .cases ht
 .cases hc
def VF (hρ:cS ck G I N w η ρ){o x}(hc:E9 P ck o (.Y0 x)=W){v rs}
  (h:l8 ρ H (.Y0 x)=J (v,rs)):Good P G I N w η o v:=by
 obtain ⟨dst,er,ty,pos,after,guard⟩:=o;unfold E9 at hc;split at hc<;>try (cases hc)
 all_goals rename_i qF lK
 all_goals cases lK
 all_goals subst qF
 rename_i args argTypes;split at hc
 next x' t ha hb=>
  simp [c8] at hc;obtain ⟨hx,ht⟩:=hc;have h1:=hρ _ _ hx;split at ht
  next hu=>
   simp [l8] at h;split at h
   next s hp=>
    obtain ⟨rfl,rfl⟩:=h;rw [hp] at h1;simp [VR,DR] at h1;have h0:(args.map η)[0]? =J (.string ⟨s.toArray⟩):=by simp [ha,h1]
    have hsz:(⟨s.toArray⟩:ByteArray).size=O s:=by rfl
    refine ⟨.int .i64 (O s),?_,by rfl⟩;simp [execOp,resolve,invoke,builtin,Builtin.len_,hb,h0,run_underlying hu,goInt,hsz]
   .cases h
  .cases ht
 .cases hc
theorem ER.length:∀ l es,ER G I N w l es->O es=O l
 |[],es,h=>by simp [ER] at h;simp [h]
 |(k,v)::r,es,h=>by
  simp only [ER] at h;obtain ⟨e,es',rfl,_,_,h4⟩:=h;simp [ER.length r es' h4]
theorem kj (hρ:cS ck G I N w η ρ):∀ xs ys,WV ck xs ys=W->J5 G I N w (ys.map ρ) (xs.map η)
 |[],[],_=>by simp [J5]
 |x::xs,y::ys,h=>by
  simp [WV,c8] at h;exact ⟨_,_,rfl,hρ _ _ h.1,kj hρ xs ys h.2⟩
 |[],_::_,h=>by simp [WV] at h
 |_::_,[],h=>by simp [WV] at h
def LZ (hρ:cS ck G I N w η ρ){o f a b}(hc:E9 P ck o (.an f a b)=W){v rs}
  (h:l8 ρ H (.an f a b)=J (v,rs)):Good P G I N w η o v:=by
 obtain ⟨dst,er,ty,pos,after,guard⟩:=o;unfold E9 at hc;split at hc<;>try (cases hc)
 all_goals rename_i qF lK
 all_goals cases lK
 all_goals subst qF
 rename_i f' first caps
 simp [c8,beq_iff_eq] at hc;obtain ⟨⟨rfl,h1⟩,h2⟩:=hc;obtain ⟨rfl,rfl⟩:=h;refine ⟨.func (.func f') (first.map η) (caps.map η),by rfl,?_⟩;exact ⟨_,_,rfl,by simpa using kj hρ _ _ h1,by simpa using kj hρ _ _ h2⟩
theorem CR:∀ as vs r k n,gF W (.int k n) as=J r->J5 G I N w as vs ->
  ∃m,r= .int k m/\(vs.foldlM Builtin.max2 (.int k n)).run P w= .ok (.int k m) w
 |[],vs,r,k,n,h,hv=>by
  simp_all [gF,J5]
 |x::xs,vs,r,k,n,h,hv=>by
  obtain ⟨u,us,rfl,e2,e3⟩:=hv;unfold gF at h;split at h
  .simp_all
  next b r' heq=>
   cases heq;split at h
   next c hc=>
    unfold Bh at hc;split at hc
    next k1 x1 k2 y1 e1=>
     cases e1;simp at hc;subst hc;subst e2;obtain ⟨m,g1,g2⟩:=CR xs us r k _ h e3;simp_all [List.foldlM_cons,Sem.run_bind,Builtin.max2,Sem.run_pure,Result.andThen_ok]
    .cases hc
   .cases h
  .cases h
theorem CU:∀ as vs r k n,gF F (.int k n) as=J r->J5 G I N w as vs ->
  ∃m,r= .int k m/\(vs.foldlM Builtin.min2 (.int k n)).run P w= .ok (.int k m) w
 |[],vs,r,k,n,h,hv=>by
  simp_all [gF,J5]
 |x::xs,vs,r,k,n,h,hv=>by
  obtain ⟨u,us,rfl,e2,e3⟩:=hv;unfold gF at h;split at h
  .simp_all
  next b r' heq=>
   cases heq;split at h
   next c hc=>
    unfold Bh at hc;split at hc
    next k1 x1 k2 y1 e1=>
     cases e1;simp at hc;subst hc;subst e2;obtain ⟨m,g1,g2⟩:=CU xs us r k _ h e3;simp_all [List.foldlM_cons,Sem.run_bind,Builtin.min2,Sem.run_pure,Result.andThen_ok]
    .cases hc
   .cases h
  .cases h
def LD {b a r l}(h:gF b a l=J r)(hne:l≠[]):∃k n,a= .int k n:=by
 cases l with
 |nil=>simp_all
 |cons x xs =>
  unfold gF at h;simp_all [Bh]<;>grind
def LY (hρ:cS ck G I N w η ρ){o b ys}(hc:E9 P ck o (.iL b ys)=W){v rs}
  (h:l8 ρ H (.iL b ys)=J (v,rs)):Good P G I N w η o v:=by
 obtain ⟨dst,er,ty,pos,after,guard⟩:=o;unfold E9 at hc;split at hc<;>try (cases hc)
 all_goals rename_i qF lK
 all_goals cases lK
 all_goals simp [c8] at hc
 all_goals obtain ⟨hc,hl⟩:=hc
 all_goals have h1:=kj hρ _ _ hc
 all_goals simp [l8] at h
 all_goals split at h
 all_goals try (cases h)
 all_goals rename_i a r heq
 all_goals split at h
 all_goals rename_i c uw
 all_goals obtain ⟨rfl,rfl⟩:=h
 all_goals rw [heq] at h1
 all_goals obtain ⟨x,xs,e1,e2,e3⟩:=h1
 all_goals have hne:r≠[]:=λhr=>by simp_all [List.length]<;>grind
 all_goals obtain ⟨k,n,rfl⟩:=LD uw hne
 all_goals subst e2
 .obtain ⟨m,rfl,g2⟩:=CR (P:=P) r xs c k n uw e3
  refine ⟨.int k m,?_,by simp [VR,DR]⟩;simp_all [execOp,resolve,invoke,builtin,Builtin.max_,Sem.run_bind,Sem.run_pure,Result.andThen_ok]
 .obtain ⟨m,rfl,g2⟩:=CU (P:=P) r xs c k n uw e3
  refine ⟨.int k m,?_,by simp [VR,DR]⟩;simp_all [execOp,resolve,invoke,builtin,Builtin.min_,Sem.run_bind,Sem.run_pure,Result.andThen_ok]
def ta (R:Value->Bool->Prop):List MapEntry->Nat->Option (Nat×Value)->Prop
 |[],_,q=>q=K
 |e::es,i,q=>(R e.key W/\q=J (i,e.val))\/(R e.key F/\ta R es (i+1) q)
def pn (P:Program)(w:World)(t:TypeId)(d:TypeDesc)(u:Value):KK->Value->Bool->Prop
 | .st _,v,r=>(Op.equal t u v).run P w= .ok r w/\Instr.sameNow d u v=K
 |_,v,r=>Instr.sameNow d u v=J r
def RA {G w I N}(l:List KD) j c(h:(l.map KD.av)[j]? =J c):∃v,(l.map KD.val).toArray[0+j]? =J v/\VR G I N w .none c v:=by
 simp only [List.getElem?_map,Option.map_eq_some_iff] at h;obtain ⟨x,hx,rfl⟩:=h;exact ⟨x.val,by simp [hx],by cases x<;>simp [KD.av,KD.val,VR,DR]⟩
def vU {kk a b r}(h:Data.gA kk a b=J r){t d}(ht:xJ P t kk=W)(hd:P.underlying t=J d):pn P w t d a.val kk b.val r:=by
 unfold Data.gA at h;split at h
 .split at h
  next hkk=>
   subst hkk;simp at h;subst h;simp only [xJ,gD,hd] at ht;split at ht
   .rename_i hx;cases hx;simp [pn,Key.val,Instr.sameNow]
   .cases ht
  .cases h
 .simp at h;subst h
  simp only [xJ,gD,hd] at ht;split at ht
  .rename_i hx;cases hx;simp [pn,Key.val,Instr.sameNow,beq_toListBytes]
  .cases ht
 .simp at h;subst h
  simp only [xJ,gD,hd] at ht;split at ht
  .rename_i hx;cases hx;simp [pn,Key.val,Instr.sameNow]
  .cases ht
 next ks l m=>
  simp only [xJ,kM,hd] at ht;split at ht
  next fs Wp=>
   cases Wp;simp only [c8,o8] at ht;have hff:P.fieldsOf t=fs:=by simp [Program.fieldsOf,hd]
   have heq:=run_equalIn_struct (P:=P) w 9999 t (l.map KD.val).toArray (m.map KD.val).toArray (by rw [hff];exact hd) ht.1.2;rw [hff,mJ (P:=P) (G:=λ_=> .free) (I:=λ_=>(0,0)) (N:=λ_=>False) 9998 _ _ fs.toList 0 ks _ _ r ht.1.1 h (RA l) (RA m)] at heq;exact ⟨heq,by simp [Key.val,Instr.sameNow]⟩
  .cases ht
 .cases h
theorem KO {kk t d}(ht:xJ P t kk=W)(hd:P.underlying t=J d){key} :
  ∀ l es i r,ER G I N w l es->eV kk key l=J r ->
   ∃q,ta (pn P w t d key.val kk) es i q/\(match r,q with
    |none,K=>True
    |some a,J (_,v)=>VR G I N w .none a v
    |_,_=>False)
 |[],es,i,r,hE,h=>by
  simp [ER] at hE;subst hE;simp [eV] at h;subst h;exact ⟨K,rfl,trivial⟩
 |(k',v')::rest,es,i,r,hE,h=>by
  simp only [ER] at hE;obtain ⟨e,es',rfl,h2,h3,h4⟩:=hE;unfold eV at h;split at h
  next hk=>
   simp at h;subst h;exact ⟨J (i,e.val),.inl ⟨h2 ▸ vU hk ht hd,rfl⟩,h3⟩
  next hk=>
   obtain ⟨q,g1,g2⟩:=KO ht hd rest es' (i+1) r h4 h;exact ⟨q,.inr ⟨h2 ▸ vU hk ht hd,g1⟩,g2⟩
  .cases h
def qB {kk t d}(hd:P.underlying t=J d){u es q}(h:ta (pn P w t d u kk) es 0 q):(Instr.findKey t u es).run P w= .ok q w:=by
 have plain:(∀v r,pn P w t d u kk v r->Instr.sameNow d u v=J r)->(Instr.findKey t u es).run P w= .ok q w:=by
  intro hp;have:∀(es:List MapEntry) (i:Nat),ta (pn P w t d u kk) es i q->Instr.findNow d u es i=J q:=by
   intro es
   induction es with
   |nil=>intro i h;simp only [ta] at h;simp [Instr.findNow,h]
   |cons e es ih =>
    intro i h
    rcases h with ⟨h1,rfl⟩|⟨h1,h2⟩
    .simp [Instr.findNow,hp _ _ h1]
    .simp [Instr.findNow,hp _ _ h1,ih _ h2]
  simp [Instr.findKey,run_underlying hd,this es 0 h]
 cases kk with
 |i=>exact plain λ_ _ h=>h
 |s=>exact plain λ_ _ h=>h
 |b=>exact plain λ_ _ h=>h
 |st ks =>
  have ask:∀(es:List MapEntry) (i:Nat),ta (pn P w t d u (.st ks)) es i q->(Instr.findAsking t u es i).run P w= .ok q w:=by
   intro es
   induction es with
   |nil=>intro i h;simp only [ta] at h;simp [Instr.findAsking,h]
   |cons e es ih =>
    intro i h
    rcases h with ⟨h1,rfl⟩|⟨h1,h2⟩
    .simp [Instr.findAsking,h1.1]
    .simp [Instr.findAsking,h1.1,ih _ h2]
  have:=ask es 0 h;cases es with
  |nil=>simp only [ta] at h;simp [Instr.findKey,run_underlying hd,Instr.findNow,h]
  |cons e es =>
   have h0:Instr.sameNow d u e.key=K:=by
    rcases h with ⟨h1,_⟩|⟨h1,_⟩<;>exact h1.2
   simp [Instr.findKey,run_underlying hd,Instr.findNow,h0,this]
def iV {k t}(ht:gD P t k=W) b n u:(Instr.checkKey b (n+1) t u).run P w= .ok () w:=by
 cases k<;>simp only [gD] at ht<;>split at ht<;>first|(cases ht;done)|(rename_i hu;simp [Instr.checkKey,run_underlying hu])
def kI {kk t}(ht:xJ P t kk=W){key}(hf:kk.fits key=W) b n:(Instr.checkKey b (n+2) t key.val).run P w= .ok () w:=by
 have fields (l:List KD):∀(fs:List Field) (n0:Nat) (ks:List CK) (m:List KD),U6 P fs n0 ks=W->(Q6 ks (m.map KD.av) (m.map KD.av)).isSome=W->(∀j x,m[j]? =J x->(l.map KD.val).toArray[n0+j]? =J x.val) ->
   Sem.run P (forIn fs PUnit.unit λ(f : Field) (_ : PUnit) => if f.name ≠ "_" then do
    let v <- part f.type (l.map KD.val).toArray f.offset
    Instr.checkKey b (n+1) f.type v
    pure (ForInStep.yield PUnit.unit) else pure (ForInStep.yield PUnit.unit)) w= .ok PUnit.unit w:=by
  intro fs
  induction fs with
  |nil=>intro n0 ks m _ _ _;simp
  |cons f fs ih =>
   intro n0 ks m hf hc hm;cases ks with
   |nil=>simp [U6] at hf
   |cons k ks =>
    simp only [U6,c8,bne_iff_ne,beq_iff_eq] at hf;obtain ⟨⟨⟨h1,h2⟩,h3⟩,h4⟩:=hf;cases m with
    |nil=>simp [Q6] at hc
    |cons x m =>
     have pG:(Q6 ks (m.map KD.av) (m.map KD.av)).isSome=W:=by
      cases x<;>simp only [M8,KD.av,Q6] at hc<;>split at hc<;>first|(split at hc<;>simp_all)|simp_all
     have e1:=run_part_plain (w:=w) h2 (l.map KD.val).toArray n0 x.val (hm 0 x rfl);simp only [List.forIn_cons,Sem.run_bind,if_pos h1,h3,e1,Result.andThen_ok,iV h2,Sem.run_pure];exact ih (n0+1) ks m h4 pG λj y hy=>by rw [show n0+1+j=n0+(j+1) from by omega];exact hm (j+1) y (by simpa using hy)
 cases kk with
 |i=>exact iV (k:= .i) ht b _ _
 |s=>exact iV (k:= .s) ht b _ _
 |b=>exact iV (k:= .b) ht b _ _
 |st ks =>
  simp only [xJ,kM] at ht;split at ht
  next fs Wp=>
   simp only [c8,o8] at ht;cases key<;>simp only [KK.fits,e8] at hf;rename_i l;rw [Instr.checkKey];simp only [Key.val,Sem.run_bind,run_underlying Wp,Result.andThen_ok];rw [<- Array.forIn_toList,fields l fs.toList 0 ks l ht.1.1 hf (λj x hj=>by simp [hj])];simp
  .cases ht
theorem RB:∀ l r xs,Pu l=J r->J5 G I N w l xs->xs=r.map KD.val
 |[],r,xs,h,hv=>by simp [Pu] at h;subst h;simpa [J5] using hv
 |v::l,r,xs,h,hv=>by
  simp only [J5] at hv;obtain ⟨x,ys,rfl,h1,h2⟩:=hv;unfold Pu at h;split at h
  .rename_i e;cases e
  all_goals first|(cases h;done)|skip
  all_goals rename_i e;cases e
  all_goals split at h<;>first|(cases h;done)|skip
  all_goals
   rename_i r' hr;cases h;rw [RB _ r' ys hr h2];simp only [VR,DR] at h1;simp [h1,KD.val]
def IV {v k pl x}(h:v.Pv =J k)(hv:VR G I N w pl v x):x=k.val:=by
 unfold c7.Pv at h;split at h
 .cases h;simpa [VR,DR,Key.val] using hv
 .cases h;simpa [VR,DR,Key.val] using hv
 .cases h;simpa [VR,DR,Key.val] using hv
 .split at h
  next r hr=>
   cases h;simp only [VR] at hv;obtain ⟨cs,rfl,h2⟩:=hv;have:=RB _ r _ hr h2;simp [Key.val,<- this]
  .cases h
 .cases h
def Ra {kk k r}(h:Data.gA kk k k=J r):kk.fits k=W:=by
 unfold Data.gA at h;unfold KK.fits;split at h<;>simp_all
def LX (hρ:cS ck G I N w η ρ)(hH:HR G I N w H){o kk zero ok m k}(hc:E9 P ck o (.lookup kk zero ok m k)=W){v rs}
  (h:l8 ρ H (.lookup kk zero ok m k)=J (v,rs)):Good P G I N w η o v:=by
 obtain ⟨dst,er,ty,pos,after,guard⟩:=o;cases er<;>simp only [E9,c8,beq_iff_eq] at hc<;>try (cases hc;done)
 rename_i t m' k' YE;obtain ⟨⟨⟨rfl,hm⟩,hk⟩,ht⟩:=hc;have h1:=hρ _ _ hm;have h2:=hρ _ _ hk;split at ht
 next kt et hu=>
  simp only [c8] at ht;obtain ⟨hkt,hz⟩:=ht;split at hz
  next it hit=>
   split at hz
   next z hzz=>
    have hzero:(zeroValue et).run P w= .ok z w:=by simp [zeroValue,typeInfo,hit,hzz]
    have hzr:VR G I N w .none zero z:=ec _ _ hz;obtain ⟨dk,hdk⟩:∃d,P.underlying kt=J d:=by
     cases hd:P.underlying kt with
     |none=>cases kk<;>simp [xJ,gD,kM,hd] at hkt
     |some d=>exact ⟨d,rfl⟩
    simp only [l8] at h;split at h
    next id key hp hq=>
     rw [hp] at h1;simp only [VR] at h1;have h2:=IV hq h2;split at h
     next es he=>
      split at h
      next r hr hfit=>
       simp at h;obtain ⟨rfl,rfl⟩:=h;have hO:=hH id _ he;simp only [OR] at hO;obtain ⟨_,arr,gO,g1,_,g3,_⟩:=hO;obtain ⟨q,f1,f2⟩:=KO (P:=P) hkt hdk es arr.toList 0 r g3 hr;have hgo:(getObj (I id).1).run P w= .ok (.map arr gO) w:=by simp [getObj,Sem.run,g1]
       have hfk:(Instr.findKey kt (η k') arr.toList).run P w= .ok q w:=by rw [h2];exact qB hdk f1
       have hck:=λb=>h2 ▸ kI (P:=P) (w:=w) hkt hfit b 9998
       cases r with
       |none =>
        cases q with
        |some q=>exact f2.elim
        |none =>
         refine ⟨if YE then .tuple #[z,.bool F] else z,?_,?_⟩
         .cases YE <;>simp [execOp,h1.2,Instr.lookup,run_underlying hu,hgo,hck,hfk,hzero]
         .cases YE
          .simpa using hzr
          .simp only [VR,Option.getD_none,Option.isSome_none,if_true]
           exact ⟨_,rfl,by simp [J5,VR,DR,hzr]⟩
       |some a =>
        cases q with
        |none=>exact f2.elim
        |some q =>
         obtain ⟨qi,qv⟩:=q;refine ⟨if YE then .tuple #[qv,.bool W] else qv,?_,?_⟩
         .cases YE <;>simp [execOp,h1.2,Instr.lookup,run_underlying hu,hgo,hck,hfk]
         .cases YE
          .simpa using f2
          .simp only [VR,Option.getD_some,Option.isSome_some,if_true]
           exact ⟨_,rfl,by simp [J5,VR,DR];exact f2⟩
      .cases h
     .cases h
    next key hp hq=>
     rw [hp] at h1;simp only [VR,DR] at h1;have h2:=IV hq h2;split at h
     next hkk=>
      simp at h;obtain ⟨rfl,rfl⟩:=h;have hck:=λb=>h2 ▸ kI (P:=P) (w:=w) hkt (Ra hkk) b 9998
      have hfk:(Instr.findKey kt (η k') []).run P w= .ok K w:=by simp [Instr.findKey,run_underlying hdk,Instr.findNow]
      refine ⟨if YE then .tuple #[z,.bool F] else z,?_,?_⟩
      .cases YE <;>simp [execOp,h1,Instr.lookup,run_underlying hu,hck,hfk,hzero]
      .cases YE
       .simpa using hzr
       .simp only [VR,if_true]
        exact ⟨_,rfl,by simp [J5,VR,DR,hzr]⟩
     .cases h
    .cases h
   .cases hz
  .cases hz
 .cases ht
end
def Ff (vs:List Value):Prop:=∀v∈vs,v.oneCell' =W
def L6 (l:List Value)(off:Nat)(vs:List Value):List Value:=l.take off++vs++l.drop (off+O vs)
section
variable {P:Program} {w:World} {ck:Operand->z6->Bool} {η:Operand->Value} {ρ:z6->c7} {G:Gh} {I:T0} {N:Nat->Prop} {H:n9}
theorem J5.append:∀ a xs b ys,J5 G I N w a xs->J5 G I N w b ys->J5 G I N w (a++b) (xs++ys)
 |[],xs,b,ys,h,k=>by simp_all [J5]
 |a::as,xs,b,ys,h,k=>by
  obtain ⟨x,xs',rfl,h2,h3⟩:=h;exact ⟨x,xs' ++ys,rfl,h2,J5.append as xs' b ys h3 k⟩
theorem J5.take:∀ n a xs,J5 G I N w a xs->J5 G I N w (a.take n) (xs.take n)
 |0,_,_,_=>by simp [J5]
 |n+1,[],xs,h=>by simp_all [J5]
 |n+1,a::as,xs,h=>by
  obtain ⟨x,xs',rfl,h2,h3⟩:=h;exact ⟨x,xs'.take n,rfl,h2,J5.take n as xs' h3⟩
theorem J5.drop:∀ n a xs,J5 G I N w a xs->J5 G I N w (a.drop n) (xs.drop n)
 |0,_,_,h=>by simpa using h
 |n+1,[],xs,h=>by simp_all [J5]
 |n+1,a::as,xs,h=>by
  obtain ⟨x,xs',rfl,h2,h3⟩:=h;exact J5.drop n as xs' h3
theorem J5.splice {a b xs ys}(h:J5 G I N w a xs)(k:J5 G I N w b ys) off:J5 G I N w (splice a off b) (L6 xs off ys):=by
 grind [B3.splice,L6,J5.length,J5.append,J5.take,J5.drop]
theorem nK {a}(ha:a.one=W){pl x}(h:VR G I N w pl a x):x.oneCell' =W/\x.cells= #[x]:=by
 cases a<;>simp [c7.one] at ha
 next d=>
  cases d<;>simp [VR] at h
  all_goals first
   |(subst h;exact ⟨rfl,rfl⟩)
   |(rcases h with ⟨h|⟨a0,h⟩,_⟩|⟨b,o,cap,h,_⟩<;>(subst h;exact ⟨rfl,rfl⟩))
 .obtain ⟨_,h⟩:=h;subst h;exact ⟨rfl,rfl⟩
 .obtain ⟨b,o,h,_⟩:=h;subst h;exact ⟨rfl,rfl⟩
 .obtain ⟨_,cap,h,_⟩:=h;subst h;exact ⟨rfl,rfl⟩
 .obtain ⟨_,h⟩:=h
  rcases h with ⟨h|⟨b,o,h⟩,_⟩|⟨_,b,o,cap,c,e,f,h,_⟩<;>(subst h;exact ⟨rfl,rfl⟩)
 .subst h;exact ⟨rfl,rfl⟩
 .obtain ⟨x,y,h,_⟩:=h;subst h;exact ⟨rfl,rfl⟩
 .obtain ⟨_,h⟩:=h;subst h;exact ⟨rfl,rfl⟩
theorem oL:∀ l xs,l.all c7.one=W->J5 G I N w l xs->Ff xs
 |[],xs,_,h=>by subst h;intro v hv;cases hv
 |a::as,xs,ha,h=>by
  simp only [List.all_cons,c8] at ha;obtain ⟨x,xs',rfl,h2,h3⟩:=h;intro v hv
  rcases C4.1 hv with rfl|hv
  .grind [nK]
  .exact oL as xs' ha.2 h3 v hv
def yL {a l}(ha:a.cells? =J l){x}(h:VR G I N w .none a x):J5 G I N w l x.cells.toList/\Ff x.cells.toList:=by
 unfold c7.cells? at ha;split at ha
 .split at ha
  next hall=>
   simp at ha;subst ha;obtain ⟨cs,rfl,h2⟩:=h;exact ⟨h2,oL _ _ hall h2⟩
  .cases ha
 .split at ha
  next hone=>
   simp at ha;subst ha;obtain ⟨h1,h2⟩:=nK hone h;refine ⟨?_,λv hv=>?_⟩
   all_goals simp_all [J5]
  .cases ha
theorem FJ off:∀ vs k cs,off+k+O vs<=cs.size ->
  ((vs.zipIdx k).foldl (λ(cs:Array Value) (p:Value×Nat)=>cs.setIfInBounds (off+p.2) p.1) cs).toList=cs.toList.take (off+k)++vs++cs.toList.drop (off+k+O vs)
 |[],k,cs,_=>U
 |v::vs,k,cs,h=>by
  simp [q7] at h;rw [List.zipIdx_cons,List.foldl_cons,FJ off vs (k+1) _ D];have hlt:off+k<O cs.toList:=D
  simp [Array.toList_setIfInBounds];rw [show off+(k+1)=off+k+1 from by omega];rw [List.take_succ_eq_append_getElem M];rw [List.drop_set_of_lt V];simp [List.take_set_of_le (o6 _),q7]
  grind
def UO {off}{v:Value}{cs}(h:off+v.cells.size<=cs.size) :
  v.cells.zipIdx.foldl (λcs (c,j)=>cs.setIfInBounds (off+j) c) cs=(L6 cs.toList off v.cells.toList).toArray:=by
 have:=FJ off v.cells.toList 0 cs (by simpa using h);have e:v.cells.zipIdx.foldl (λcs (c,j)=>cs.setIfInBounds (off+j) c) cs=(v.cells.toList.zipIdx 0).foldl (λ(cs:Array Value) (p:Value×Nat)=>cs.setIfInBounds (off+p.2) p.1) cs:=by
  rw [<- Array.foldl_toList];simp
 grind [Array.toList_inj,L6]
theorem oB (hρ:cS ck G I N w η ρ){place}:∀ parts ps l cs xs,
  lQ P ck place parts ps=W->J5 G I N w l xs.toList->bB l (ps.map λ(o,s,x)=>(o,s,ρ x))=J cs ->
  ∃ys:Array Value,Instr.fill place xs (parts.map λ(i,x)=>(i,η x))=J ys/\J5 G I N w cs ys.toList
 |[],[],l,cs,xs,_,hl,h=>by
  simp [bB] at h;subst h;exact ⟨xs,rfl,hl⟩
 |(i,x)::r,(off,sz,y)::q,l,cs,xs,hp,hl,h=>by
  simp [lQ,c8,beq_iff_eq] at hp;obtain ⟨⟨h1,h2⟩,h3⟩:=hp;simp [M8,bB] at h;split at h
  next l' hl'=>
   split at h
   .obtain ⟨g1,g2⟩:=yL hl' (hρ _ _ h2)
    have hlen:(η x).cells.size=sz:=by
     have:=J5.length _ _ g1;simp_all
    have hlx:xs.size=O l:=by
     have:=J5.length _ _ hl;omega
    have sC:J5 G I N w (splice l off l') ((L6 xs.toList off (η x).cells.toList).toArray).toList:=by
     simp_all [J5.splice]
    obtain ⟨ys,e1,e2⟩:=oB hρ r q _ cs _ h3 sC h;refine ⟨ys,?_,e2⟩;have hc:¬ ((η x).cells.size≠sz||off+(η x).cells.size>xs.size)=W:=by
     simp_all
    simp only [M8,Instr.fill,h1];rw [if_neg hc,UO V];exact e1
   .cases h
  .cases h
 |[],_::_,_,_,_,hp,_,_=>by simp [lQ] at hp
 |_::_,[],_,_,_,hp,_,_=>by simp [lQ] at hp
def jZ {t l}(h:yu P t l=W):∃i z,P.info? t=J i/\i.zero=J z/\J5 G I N w l z.cells.toList:=by
 grind [yu,gq]
def PJ (hρ:cS ck G I N w η ρ){o zero ps}(hc:E9 P ck o (.build zero ps)=W){v rs}
  (h:l8 ρ H (.build zero ps)=J (v,rs)):Good P G I N w η o v:=by
 obtain ⟨dst,er,ty,pos,after,guard⟩:=o;cases er<;>simp [E9] at hc<;>try simp_all
 rename_i t parts;simp [l8] at h;split at h
 next cs hcs=>
  obtain ⟨rfl,rfl⟩:=h;have key:∃ys:Array Value,P.built t (parts.toList.map λ(i,x)=>(i,η x))=J ys/\J5 G I N w cs ys.toList:=by
   split at hc
   .split at hc
    .simp [c8] at hc
     obtain ⟨it,z,e1,e2,e3⟩:=jZ (G:=G) (I:=I) (N:=N) (w:=w) hc.1;obtain ⟨ys,f1,f2⟩:=oB hρ parts.toList ps zero cs z.cells hc.2 e3 hcs;simp_all [yO,Program.built]
    .cases hc
   .split at hc
    .simp [c8] at hc
     obtain ⟨it,z,e1,e2,e3⟩:=jZ (G:=G) (I:=I) (N:=N) (w:=w) hc.1;obtain ⟨ys,f1,f2⟩:=oB hρ parts.toList ps zero cs z.cells hc.2 e3 hcs;simp_all [Program.built]
    .cases hc
   .cases hc
  obtain ⟨ys,e1,e2⟩:=key;refine ⟨.agg ys,?_,by simp_all [VR]⟩;simp_all [run_build,execOp,Sem.run_bind]
 .cases h
def PN (hη:∀v,η (.const v)=v)(hρ:cS ck G I N w η ρ)(hH:HR G I N w H){o op}(hc:E9 P ck o op=W){v rs}
  (h:l8 ρ H op=J (v,rs)):Good P G I N w η o v:=by
 cases op
 case pick=>exact VI hρ hc h
 case build=>exact PJ hρ hc h
 case load=>exact VG hρ hH hc h
 case cH=>exact PL hρ hc h
 case bin=>exact YX hρ hc h
 case un=>exact as0 hρ hc h
 case AJ=>exact VH hη hρ hc h
 case A1=>exact YY hρ hc h
 case Bc=>exact YZ hρ hc h
 case pE=>exact PK hρ hc h
 case mH=>exact LW hρ hc h
 case Z0=>exact Ma hρ hc h
 case off=>exact Zc hρ hc h
 case J4=>exact VC hρ hc h
 case jA=>exact VD hρ hc h
 case K6=>exact VE hρ hc h
 case extract=>exact Jl hρ hc h
 case fld=>exact Za hρ hc h
 case len=>exact Zb hρ hc h
 case Y0=>exact VF hρ hc h
 case iL=>exact LY hρ hc h
 case an=>exact LZ hρ hc h
 case lookup=>exact LX hρ hH hc h
 all_goals (unfold E9 at hc;split at hc<;>first|(cases hc;done)|(rename_i h1 h2;cases h2;done)|(rename_i h2;cases h2;done))
end
variable [E0]
def gR (G:Gh)(b:Nat)(l:Um):Gh:=λx=>if x=b then l else G x
def rE (I:T0)(id:Nat)(p:Nat×Nat):T0:=λx=>if x=id then p else I x
@[simp] theorem rG G b l:gR G b l b=l:=by simp [gR]
theorem J1 {G b l x}(h:x≠b):gR G b l x=G x:=by simp [gR,h]
@[simp] theorem Y5 I id p:rE I id p id=p:=by simp [rE]
def dn {I id p x}(h:x≠id):rE I id p x=I x:=by simp [rE,h]
def mX (l:H8)(G:Gh)(w:World)(G' :Gh)(w' :World):Prop :=
 ∀id,l.may id=F->(∀b,G b= .obj id->G' b= .obj id/\w'.heap[b]? =w.heap[b]?)/\∀off,bI (.cell id off) G w G' w'
theorem mX.refl l G w:mX l G w G w:=λ_ _=>⟨λ_ h=>⟨h,rfl⟩,λ_ _ _ h=>⟨h,rfl⟩⟩
theorem mX.trans {l G w G1 w1 G2 w2}(h:mX l G w G1 w1)(k:mX l G1 w1 G2 w2):mX l G w G2 w2:=by
 intro id hid;obtain ⟨h1,h2⟩:=h id hid;obtain ⟨k1,k2⟩:=k id hid;refine ⟨λb hb=>?_,λoff b n hb=>?_⟩
 .simp_all
 .obtain ⟨a1,a2⟩:=h2 off b n hb
  obtain ⟨b1,b2⟩:=k2 off b n a1;simp_all
def Ul (l:H8)(H:n9):Prop :=
 ∀id o,H[id]? =J o->(id<l.strict->o.K9<=id+1)/\(id<l.base->o.K9<=l.base)
def Kh (_P:Program)(idle:FuncId->Bool)(d:Deferred):Prop :=
 ∃f cap,d.target= .fn (.func f) cap/\idle f=W
structure RI (X:Cx)(l:H8)(S:Nat->Prop)(st:G4)(a:Act)(w:World)(G:Gh)(I:T0)(N:Nat->Prop):Prop where
 T:∀(s:Nat) t,X.names[s]? =J t->VR G I N w (.slot s) (st.T.getD s .any) (a.tmps.getD t undef)
 L:∀(j:Nat),S j->∀d,(X.ops[j]?).bind (·.dst)=J d->X.names.contains d=F->VR G I N w (.loc j) (st.L.getD j .any) (a.tmps.getD d undef)
 H:HR G I N w st.H
 wf:WF G w
 W9:Ul l st.H
def Ih {G b n pl zh}(h:G b= .grow n pl) x o:jS (gR G b (.grow n zh)) x o↔jS G x o:=by
 grind [jS,gR]
def Ext.relabel {G w b n pl zh}(h:G b= .grow n pl):Ext G w (gR G b (.grow n zh)) w where
 os:=rfl
 tape:=rfl
 output:=rfl
 drawn _:=o6 _
 size:=o6 _
 mM x o hi:=⟨(Ih h x o).2 hi,rfl⟩
 still x hx:=by
  grind [J1]
 shape _ c _ _ hc:=⟨c,hc,rfl⟩
def bI.relabel {G w b n pl zh q}(h:G b= .grow n pl)(hq:q≠pl):bI q G w (gR G b (.grow n zh)) w:=by
 intro x m hx
 grind [J1]
structure lM (pl:Place)(G:Gh)(w:World)(G' :Gh):Prop where
 ext:Ext G w G' w
 keeps:∀q,q≠pl->bI q G w G' w
 obj:∀b id,G b= .obj id->G' b= .obj id
 wf:WF G w->WF G' w
theorem lM.refl pl G w:lM pl G w G:=⟨Ext.refl _ _,λ_ _ _ _ h=>⟨h,rfl⟩,λ_ _ h=>h,λh=>h⟩
def kW {G I N w pl zh}(hp' :zh ≠ .none){sz len cells x}(h:VR G I N w pl (.own sz len cells) x) :
  ∃G',lM pl G w G' /\VR G' I N w zh (.own sz len cells) x:=by
 obtain ⟨hl,h⟩:=h
 rcases h with h|⟨hp,b,o,cap,c,e,f,h1,h2,h3,h4,h5,h6,h7⟩
 .exact ⟨G,lM.refl _ _ _,by simp_all [VR]⟩
 .refine ⟨gR G b (.grow (o+len * sz) zh),⟨Ext.relabel h6,λq hq=>bI.relabel h6 hq,λx id hx=>?_,λhwf x hx=>?_⟩,?_⟩
  .grind [J1]
  .have:x≠b:=by
    grind
   rw [J1 this];exact hwf x hx
  .exact ⟨hl,Or.inr ⟨hp',b,o,cap,c,e,f,h1,h2,h3,h4,h5,rG _ _ _,gl.mono (Ext.relabel h6).mM b o cells h7⟩⟩
def O3 {α:Type} l i(v d:α)(h:i<O l):(l.set i v).getD i d=v:=by
 simp_all
theorem P0 {α:Type}(l:List α) i j v d(h:i≠j):(l.set i v).getD j d=l.getD j d:=by
 simp_all
theorem y9 {α:Type}{l i}{v:α}(h:l[i]? =J v):i<O l:=by
 grind
def bQ {α:Type}{l:List α}{i v d}(h:l[i]? =J v):l.getD i d=v:=M
section
variable {X:Cx} {l:H8} {S:Nat->Prop} {st:G4} {a:Act} {w:World} {G:Gh} {I:T0} {N:Nat->Prop}
def HR.LF {H pl}(hH:HR G I N w H){G'}(hm:lM pl G w G')(AF:∀id off,pl≠ .cell id off):HR G' I N w H:=by
 intro id o ho;exact OR.mono hm.ext (λ_ _=>rfl) (λ_ h=>h) id o (λh=>⟨hm.obj _ _ h,rfl⟩) (λoff=>hm.keeps _ (λe=>AF id off e.symm)) (hH id o ho)
def RI.aa1 (h:RI X l S st a w G I N){s sz len cells}(hs:st.T[s]? =J (.own sz len cells)) o5
  {G'} (hm:lM (.slot s) G w G'):RI X l S { st with T:=st.T.set s (.d (.slice len cells)),o5 } a w G' I N where
 T s' t ht:=by
  by_cases he:s' =s
  .subst he
   have h1:=h.T s' t ht;rw [bQ hs] at h1;rw [O3 _ _ _ _ (y9 hs)];have h2:VR G I N w (.slot s') (c7.F4 (.own sz len cells)) (a.tmps.getD t undef):=h1.F4;exact DR.mono hm.ext.mM _ _ h2
  .rw [P0 _ _ _ _ _ (λe=>he e.symm)]
   exact VR.mono hm.ext (λ_ _=>rfl) (λ_ h=>h) _ _ _ (Or.inr (hm.keeps _ (λe=>he (by cases e;rfl)))) (h.T s' t ht)
 L j hj d hd hn:=VR.mono hm.ext (λ_ _=>rfl) (λ_ h=>h) _ _ _ (Or.inr (hm.keeps _ (λe=>by cases e))) (h.L j hj d hd hn)
 H:=h.H.LF hm (λ_ _ e=>by cases e)
 wf:=hm.wf h.wf
 W9:=h.W9
def RI.Sm (h:RI X l S st a w G I N){j0 sz len cells}(hs:st.L[j0]? =J (.own sz len cells))
  {G'} (hm:lM (.loc j0) G w G'):RI X l S { st with L:=st.L.set j0 (.d (.slice len cells)) } a w G' I N where
 T s' t ht:=VR.mono hm.ext (λ_ _=>rfl) (λ_ h=>h) _ _ _ (Or.inr (hm.keeps _ (λe=>by cases e))) (h.T s' t ht)
 L j hj d hd hn:=by
  by_cases he:j=j0
  .subst he
   have h1:=h.L j hj d hd hn;rw [bQ hs] at h1;rw [O3 _ _ _ _ (y9 hs)];have h2:VR G I N w (.loc j) (c7.F4 (.own sz len cells)) (a.tmps.getD d undef):=h1.F4;exact DR.mono hm.ext.mM _ _ h2
  .rw [P0 _ _ _ _ _ (λe=>he e.symm)]
   exact VR.mono hm.ext (λ_ _=>rfl) (λ_ h=>h) _ _ _ (Or.inr (hm.keeps _ (λe=>he (by cases e;rfl)))) (h.L j hj d hd hn)
 H:=h.H.LF hm (λ_ _ e=>by cases e)
 wf:=hm.wf h.wf
 W9:=h.W9
theorem oq:∀ l i x,C0 (l.set i (.d x))<=C0 l
 |[],_,_=>U
 |v::vs,0,x=>by grind [C0,c7.K9]
 |v::vs,i+1,x=>by
  have:=oq vs i x
  grind [C0]
def RI.aa0 (h:RI X l S st a w G I N){id off cs sz len cells}(hid:st.H[id]? =J (.cells cs))(hs:cs[off]? =J (.own sz len cells)) o5
  {G'} (hm:lM (.cell id off) G w G'):RI X l S { st with H:=st.H.set id (.cells (cs.set off (.d (.slice len cells)))),o5 } a w G' I N where
 T s' t ht:=by
  exact VR.mono hm.ext (λ_ _=>rfl) (λ_ h=>h) _ _ _ (Or.inr (hm.keeps _ (λe=>by cases e))) (h.T s' t ht)
 L j hj d hd hn:=by
  exact VR.mono hm.ext (λ_ _=>rfl) (λ_ h=>h) _ _ _ (Or.inr (hm.keeps _ (λe=>by cases e))) (h.L j hj d hd hn)
 H:=by
  intro id' o ho
  by_cases he:id' =id
  .subst he
   rw [C7 (y9 hid)] at ho;cases ho;have hO:=h.H id' _ hid;obtain ⟨hN,c,e,f,h1,h2,h3,h4,h5⟩:=hO
   .refine ⟨hN,c,e,f,h1,hm.obj _ _ h2,h3,M,λi x hx=>?_⟩
    by_cases hi:i=off
    .subst hi
     rw [C7 (y9 hs)] at hx;cases hx;obtain ⟨v,g1,g2⟩:=h5 i _ hs;refine ⟨v,g1,?_⟩;have h2:VR G I N w (.cell id' i) (c7.F4 (.own sz len cells)) v:=g2.F4;exact DR.mono hm.ext.mM _ _ h2
    .rw [q8 (λe=>hi e.symm)] at hx
     obtain ⟨v,g1,g2⟩:=h5 i x hx;exact ⟨v,g1,VR.mono hm.ext (λ_ _=>rfl) (λ_ h=>h) _ _ _ (Or.inr (hm.keeps _ (λe=>hi (by cases e;rfl)))) g2⟩
  .rw [q8 (λe=>he e.symm)] at ho
   exact OR.mono hm.ext (λ_ _=>rfl) (λ_ h=>h) id' o (λh=>⟨hm.obj _ _ h,rfl⟩) (λoff' =>hm.keeps _ (λe=>he (by cases e;rfl))) (h.H id' o ho)
 wf:=hm.wf h.wf
 W9:=by
  intro id' o ho
  by_cases he:id' =id
  .subst he
   rw [C7 (y9 hid)] at ho;obtain ⟨d1,d2⟩:=h.W9 id' _ hid
   grind [oq,B4.K9]
  .rw [q8 (λe=>he e.symm)] at ho
   exact h.W9 id' o ho
end
end Go.B3
namespace Go.B3
variable [E0]
structure kE (w w' :World)(o:Obj):Prop where
 os:w'.os=w.os
 tape:w'.tape=w.tape
 output:w'.output=w.output
 drawn:w.drawn<=w'.drawn
 size:w'.heap.size=w.heap.size+1
 old:∀b,b<w.heap.size->w'.heap[b]? =w.heap[b]?
 new:w'.heap[w.heap.size]? =J o
theorem kE.alloc w o:kE w (w.alloc o) o :=
 ⟨rfl,rfl,rfl,o6 _,U,λb hb=>RowKit.Below.heap_alloc w o b hb,by show (w.heap.push o)[w.heap.size]? =_;simp⟩
def kE.drew {w w' o}(h:kE w w' o) n(hn:w'.drawn<=n):kE w { w' with drawn:=n } o:=⟨h.os,h.tape,h.output,A3 h.drawn hn,h.size,h.old,h.new⟩
def bJ {G w}(hwf:WF G w){b}(h:G b≠ .free):b<w.heap.size:=by
 rcases x9 b w.heap.size with h' |h'
 .exact h'
 .exact absurd (hwf b h') h
section
variable {G:Gh} {w w' :World} {ob:Obj}
theorem kE.cell (hn:kE w w' ob){b}(hb:b<w.heap.size) o:w'.cell? (ad b o)=w.cell? (ad b o):=by
 simp [World.cell?,hn.old b hb]
theorem kE.ext (hn:kE w w' ob)(hwf:WF G w) mV:Ext G w (gR G w.heap.size mV) w' where
 os:=hn.os
 tape:=hn.tape
 output:=hn.output
 drawn _:=hn.drawn
 size:=by rw [hn.size];omega
 mM b o hi:=by
  have hb:b<w.heap.size:=bJ hwf (by intro e;simp [jS,e] at hi);have hne:b≠w.heap.size:=V
  refine ⟨?_,hn.cell hb o⟩;unfold jS at hi ⊢;rw [J1 hne];exact hi
 still b hb:=by
  have hlt:b<w.heap.size:=bJ hwf (by rintro e;rw [e] at hb;rcases hb with hb|⟨n,hb⟩<;>cases hb);exact ⟨J1 V,hn.old b hlt⟩
 shape b c e f hc:=by
  have hlt:b<w.heap.size:=by
   rcases x9 b w.heap.size with h|h
   .exact h
   .rw [Array.getElem?_eq_none h] at hc;cases hc
  exact ⟨c,by rw [hn.old b hlt];exact hc,rfl⟩
def kE.keeps (hn:kE w w' ob)(hwf:WF G w) mV q:bI q G w (gR G w.heap.size mV) w' :=by
 intro b n hb;have hlt:b<w.heap.size:=bJ hwf (by rw [hb];simp);exact ⟨by grind [J1],hn.old b hlt⟩
def kE.AL (hn:kE w w' ob)(hwf:WF G w) mV id:∀b,G b= .obj id->(gR G w.heap.size mV) b= .obj id/\w'.heap[b]? =w.heap[b]? :=by
 intro b hb;have hlt:b<w.heap.size:=bJ hwf (by rw [hb];simp);exact ⟨by grind [J1],hn.old b hlt⟩
def kE.wf (hn:kE w w' ob)(hwf:WF G w) mV:WF (gR G w.heap.size mV) w' :=by
 intro b hb;rw [hn.size] at hb;rw [J1 V];exact hwf b V
def kE.ew (hn:kE w w' ob)(hwf:WF G w) mV l:mX l G w (gR G w.heap.size mV) w' :=
 λid _=>⟨hn.AL hwf mV id,λoff=>hn.keeps hwf mV (.cell id off)⟩
def kE.hr (hn:kE w w' ob)(hwf:WF G w) mV{I I' N N' H}(hI:∀id,N id->I' id=I id)(hN:∀id,N id->N' id)(h:HR G I N w H) :
  HR (gR G w.heap.size mV) I' N' w' H :=
 λid o ho=>OR.mono (hn.ext hwf mV) hI hN id o (λhb=>hn.AL hwf mV id _ hb) (λ_=>hn.keeps hwf mV _) (h id o ho)
def kE.vr (hn:kE w w' ob)(hwf:WF G w) mV{I I' N N'}(hI:∀id,N id->I' id=I id)(hN:∀id,N id->N' id){pl a x}(h:VR G I N w pl a x) :
  VR (gR G w.heap.size mV) I' N' w' pl a x :=
 VR.mono (hn.ext hwf mV) hI hN pl a x (Or.inr (hn.keeps hwf mV pl)) h
end
structure cB (X:Cx)(l:H8)(S:Nat->Prop)(entry:Nat)(st:G4)(a:Act)(w:World)(G:Gh)(I:T0)(N:Nat->Prop)
  (st' :G4) (k:Nat) (x' :Value) (w' :World) (G' :Gh) (I' :T0) (N' :Nat->Prop):Prop where
 ri:RI X l S st' a w' G' I' N'
 val:VR G' I' N' w' (.loc k) (st'.L.getD k .any) x'
 ext:Ext G w G' w'
 ew:mX l G w G' w'
 ko:∀id,N id->st'.o5.any (Touch.G8 id)=F->I' id=I id/\∀b,G b= .obj id->G' b= .obj id/\w'.heap[b]? =w.heap[b]?
 inj:∀id,id<entry->N id->I' id=I id
 mono:∀id,N id->N' id
 len:O st.H<=O st'.H
 hle:∀id o',id<l.base->st'.H[id]? =J o' ->o'.K9<=id+1\/∃o,st.H[id]? =J o/\o'.K9<=o.K9
section
variable {P:Program} {X:Cx} {l:H8} {S:Nat->Prop} {st:G4} {a:Act} {w w' :World} {G:Gh} {I:T0} {N:Nat->Prop} {ob:Obj}
theorem cB.o5 {S entry st' k x' G' I' N'}(h:cB X l S entry st a w G I N st' k x' w' G' I' N') p:cB X l S entry st a w G I N { st' with o5:=p::st'.o5 } k x' w' G' I' N' where
 ri:=⟨h.ri.T,h.ri.L,h.ri.H,h.ri.wf,h.ri.W9⟩
 val:=h.val
 ext:=h.ext
 ew:=h.ew
 ko id hN ht:=h.ko id hN (by simp only [List.any_cons,E5] at ht;exact ht.2)
 inj:=h.inj
 mono:=h.mono
 len:=h.len
 hle:=h.hle
def RI.new (h:RI X l S st a w G I N)(hn:kE w w' ob) mV:RI X l S st a w' (gR G w.heap.size mV) I N where
 T s t ht:=hn.vr h.wf mV (λ_ _=>rfl) (λ_ h=>h) (h.T s t ht)
 L j hj d hd hN:=hn.vr h.wf mV (λ_ _=>rfl) (λ_ h=>h) (h.L j hj d hd hN)
 H:=hn.hr h.wf mV (λ_ _=>rfl) (λ_ h=>h) h.H
 wf:=hn.wf h.wf mV
 W9:=h.W9
theorem RI.put (h:RI X l S st a w G I N){k}(hk:¬ S k) v:RI X l S (put st k v) a w G I N where
 T:=h.T
 L j hj d hd hN:=by
  have:k≠j:=by grind
  simp only [B3.put];rw [P0 _ _ _ _ _ this];exact h.L j hj d hd hN
 H:=h.H
 wf:=h.wf
 W9:=h.W9
def cB.same (h:RI X l S st a w G I N){k}(hk:¬ S k)(br:k<O st.L) entry{v x}(hv:VR G I N w (.loc k) v x) :
  cB X l S entry st a w G I N (put st k v) k x w G I N where
 ri:=h.put hk v
 val:=by simp_all [B3.put,O3]
 ext:=Ext.refl _ _
 ew:=mX.refl _ _ _
 ko _ _ _:=⟨rfl,λ_ hb=>⟨hb,rfl⟩⟩
 inj _ _ _:=rfl
 mono _ h:=h
 len:=o6 _
 hle _ o _ ho:=Or.inr ⟨o,ho,o6 _⟩
def cB.fresh (h:RI X l S st a w G I N){k}(hk:¬ S k)(br:k<O st.L) entry(hn:kE w w' ob) mV{v x}
  (hv:VR (gR G w.heap.size mV) I N w' (.loc k) v x):cB X l S entry st a w G I N (put st k v) k x w' (gR G w.heap.size mV) I N where
 ri:=(h.new hn mV).put hk v
 val:=by simp_all [B3.put,O3]
 ext:=hn.ext h.wf mV
 ew:=hn.ew h.wf mV l
 ko id _ _:=⟨rfl,hn.AL h.wf mV id⟩
 inj _ _ _:=rfl
 mono _ h:=h
 len:=o6 _
 hle _ o _ ho:=Or.inr ⟨o,ho,o6 _⟩
end
section
variable {G:Gh} {I:T0} {N:Nat->Prop} {w w' :World}
theorem jg:∀ cs xs vs,L5 cs=J xs->J5 G I N w cs vs ->
  O xs=O cs/\∀(i:Nat) x,xs[i]? =J x->∃v,vs[i]? =J v/\DR G w x v
 |[],xs,vs,h,_=>by
  simp_all [L5]
 |c::cs,xs,vs,h,hv=>by
  obtain ⟨v,vs',rfl,h2,h3⟩:=hv;unfold L5 at h;split at h
  next x hx=>
   split at h
   next ys hys=>
    simp at h;subst h;obtain ⟨g1,g2⟩:=jg cs ys vs' hys h3;refine ⟨by simp [g1],λi y hi=>?_⟩;cases i with
    |zero =>
     unfold c7.data? at hx;split at hx
     .simp_all [VR]
     .have:=h2.F4 (zh := .none)
      simp_all [c7.F4,VR]
     .have:=h2.F4 (zh := .none)
      simp_all [c7.F4,VR]
     .cases hx
    |succ i=>simp_all
   .cases h
  .cases h
theorem BD {b}:∀ o xs,(∀ i x,xs[i]? =J x->jS G b (o+i)/\∃v,w.cell? (ad b (o+i))=J v/\DR G w x v)->gl G w b o xs
 |_,[],_=>by simp [gl]
 |o,x::xs,h=>by
  obtain ⟨h1,h2⟩:=h 0 x rfl;refine ⟨V,V,BD (o+1) xs λi y hi=>?_⟩;have:=h (i+1) y M
  grind
def RN (hwf:WF G w){c e f}(hn:kE w w' (.cells c e f))(hf:OC f c.size){cs xs vs}
  (hd:L5 cs=J xs) (hv:J5 G I N w cs vs) (hc:∀(i:Nat) v,vs[i]? =J v->c[i]? =J v) {sz len cap} (hl:O xs=len * sz) (hcap:len<=cap) (hsz:cap * sz<=c.size) {pl} (hp:pl≠ .none) :
  VR (gR G w.heap.size (.grow (len * sz) pl)) I N w' pl (.own sz len xs) (.slice (J (ad w.heap.size 0)) len cap):=by
 refine ⟨hl,Or.inr ⟨hp,w.heap.size,0,cap,c,e,f,rfl,hcap,hn.new,V,hf,U,?_⟩⟩;obtain ⟨g1,g2⟩:=jg cs xs vs hd hv;refine BD 0 xs λi x hi=>?_
 obtain ⟨v,e1,e2⟩:=g2 i x hi;have hlt:=y9 hi;refine ⟨by simp [jS];omega,v,?_,DR.mono (hn.ext hwf _).mM _ _ e2⟩;rw [U5 hn.new];simp_all
end
end Go.B3
namespace Go.B3
variable [E0]
def JW (P:Program)(e:TypeId)(n:Nat):Option (List Value) :=
 if n=0 then J [] else
 match P.info? e with
 |some i=>match i.zero with
  |some z=>J ((Array.range n).map (z.cells[· % z.cells.size]!)).toList
  |none=>K
 |none=>K
def cT (P:Program)(ck:Operand->z6->Bool)(o:Oper)(op:s7):Bool :=
 match o.op,op with
 | .alloc t,.alloc zero=>yu P t zero
 | .box _ x,.box y=>ck x y
 | .makeMap _ K,.makeMap=>W
 | .makeSlice t n c,.jI sz zero x y=>ck n x&&ck c y&&nC P t sz&&(match P.underlying t with
  |some (.slice e)=>yu P e zero&&(match P.info? e with
   |some i=>y7 i.size sz&&F0 i.bytes 1000
   |none=>F)
  |_=>F)
 | .buildSlice t n parts,.J3 sz len zero ps _=>n==len&&nC P t sz&&decide (len * sz<=16777216)&&(match P.underlying t with
  |some (.slice e)=>(match JW P e (len * sz) with
   |some zs=>consts zs zero&&lQ P ck (λi=>J (i * sz,sz)) parts.toList ps
   |none=>F)
  |_=>F)
 |_,_=>F
section
variable {P:Program} {X:Cx} {l:H8} {S:Nat->Prop} {st:G4} {a:Act} {w w' :World} {G:Gh} {I:T0} {N:Nat->Prop} {ob:Obj}
structure Aw (l:H8)(st:G4)(N:Nat->Prop)(y4:Option Nat):Prop where
 new:¬ N (newId st y4)
 inside:∀i,y4=J i->i<O st.H
 base:l.base<=newId st y4
 strict:l.strict<=newId st y4
def LI st y4 o:O st.H<=O (E1 st y4 o).H:=by
 cases y4<;>simp [E1]
theorem jk {st y4}(hi:∀i,y4=J i->i<O st.H) o id o'(h:(E1 st y4 o).H[id]? =J o') :
  (id=newId st y4/\o' =o)\/(id≠newId st y4/\st.H[id]? =J o'):=by
 cases y4 with
 |none =>
  grind [E1,newId,Nat.lt_trichotomy,s8,List.getElem?_eq_none]
 |some i =>
  grind [E1,newId,C7,q8]
def cB.newObj (h:RI X l S st a w G I N){k}(hk:¬ S k)(br:k<O st.L) entry{y4}(hid:Aw l st N y4)(hn:kE w w' ob) o
  (ho:OR (gR G w.heap.size (.obj (newId st y4))) (rE I (newId st y4) (w.heap.size,0)) (λi=>N i\/i=newId st y4) w' (newId st y4) o) {v x}
  (hv:VR (gR G w.heap.size (.obj (newId st y4))) (rE I (newId st y4) (w.heap.size,0)) (λi=>N i\/i=newId st y4) w' (.loc k) v x) :
  cB X l S entry st a w G I N (put (E1 st y4 o) k v) k x w' (gR G w.heap.size (.obj (newId st y4))) (rE I (newId st y4) (w.heap.size,0)) (λi=>N i\/i=newId st y4):=by
 have hI:∀id,N id->rE I (newId st y4) (w.heap.size,0) id=I id:=λid hN=>dn (by rintro rfl;exact hid.new hN)
 have hT:(E1 st y4 o).T=st.T:=by cases y4<;>rfl
 have hL:(E1 st y4 o).L=st.L:=by cases y4<;>rfl
 refine ⟨⟨?_,?_,?_,hn.wf h.wf _,?_⟩,?_,hn.ext h.wf _,hn.ew h.wf _ l,?_,?_,λ_ h=>Or.inl h,LI st y4 o,?_⟩
 .intro s t ht
  simp only [B3.put,hT];exact hn.vr h.wf _ hI (λ_ h=>Or.inl h) (h.T s t ht)
 .intro j hj d hd hN
  have:k≠j:=by grind
  simp only [B3.put,hL];rw [P0 _ _ _ _ _ this];exact hn.vr h.wf _ hI (λ_ h=>Or.inl h) (h.L j hj d hd hN)
 .intro id o' ho'
  rcases jk hid.inside o id o' ho' with ⟨rfl,rfl⟩|⟨hne,hold⟩
  .exact ho
  .exact OR.mono (hn.ext h.wf _).sub hI (λ_ h=>Or.inl h) id o' (λhb=>hn.AL h.wf _ id _ hb) (λ_=>hn.keeps h.wf _ _) (h.H id o' hold)
 .intro id o' ho'
  rcases jk hid.inside o id o' ho' with ⟨rfl,rfl⟩|⟨hne,hold⟩
  .exact ⟨λhx=>absurd hx (by have:=hid.strict;omega),λhx=>absurd hx (by have:=hid.base;omega)⟩
  .exact h.W9 id o' hold
 .simp_all [B3.put,O3]
 .intro id hN _
  exact ⟨hI id hN,hn.AL h.wf _ id⟩
 .simp_all
 .intro id o' hb ho'
  rcases jk hid.inside o id o' ho' with ⟨rfl,rfl⟩|⟨hne,hold⟩
  .exact absurd hb (by have:=hid.base;omega)
  simp_all
def og n:OC (0,0) n:=by intro o _ h;simp at h
def Ik (hwf:WF G w){c e}(hn:kE w w' (.cells c e)){id}(hid:¬ N id){cs}(hv:J5 G I N w cs c.toList) :
  OR (gR G w.heap.size (.obj id)) (rE I id (w.heap.size,0)) (λi=>N i\/i=id) w' id (.cells cs):=by
 simp only [OR];refine ⟨Or.inr trivial,c,e,(0,0),by simpa using hn.new,U,og _,?_,λi x hx=>?_⟩
 .have:=J5.length _ _ hv
  simp_all
 .let ⟨v,g1,g2⟩:=J5.get cs _ hv i x hx
  refine ⟨v,M,?_⟩;exact (hn.vr hwf _ (λj hj=>dn (by grind)) (λ_ h=>Or.inl h) g2).place
variable {ck:Operand->z6->Bool}
def Vp (h:RI X l S st a w G I N){k}(hk:¬ S k)(br:k<O st.L) entry{y4}(hid:Aw l st N y4){o zero}
  (hc:cT P ck o (.alloc zero)=W):∃x w' G' I' N',(execOp a.eval o).run P w= .ok (.value x) w' /\
   cB X l S entry st a w G I N (put (E1 st y4 (.cells zero)) k (.ptr (newId st y4) 0)) k x w' G' I' N' /\(∀i,N' i↔N i\/i=newId st y4):=by
 let ⟨dst,er,ty,pos,after,guard⟩:=o
 cases er<;>simp [cT] at hc<;>try (cases hc)
 rename_i t
 let ⟨it,z,e1,e2,e3⟩:=jZ (G:=G) (I:=I) (N:=N) (w:=w) hc
 have hz:(zeroValue t).run P w= .ok z w:=by simp [zeroValue,typeInfo,e1,e2]
 refine ⟨.pointer (J (ad w.heap.size 0)),w.alloc (.cells z.cells t),_,_,_,?_,cB.newObj h hk br entry hid (kE.alloc w (.cells z.cells t)) (.cells zero) (Ik h.wf (kE.alloc w _) hid.new e3) ?_,λi=>Iff.rfl⟩
 all_goals simp_all [execOp,Instr.alloc,newVar,newRow,VR,trivial]
def ap9 (h:RI X l S st a w G I N)(hρ:cS ck G I N w a.eval (G5 st.T st.L)){k}(hk:¬ S k)(br:k<O st.L) entry{y4}(hid:Aw l st N y4){o y}
  (hc:cT P ck o (.box y)=W) {cs} (hcs:(G5 st.T st.L y).cells? =J cs):∃x w' G' I' N',(execOp a.eval o).run P w= .ok (.value x) w' /\
   cB X l S entry st a w G I N (put (E1 st y4 (.cells cs)) k (.ptr (newId st y4) 0)) k x w' G' I' N' /\(∀i,N' i↔N i\/i=newId st y4):=by
 let ⟨dst,er,ty,pos,after,guard⟩:=o
 cases er<;>simp [cT] at hc<;>try (cases hc)
 rename_i t x
 let ⟨g1,_⟩:=yL hcs (hρ _ _ hc)
 refine ⟨.pointer (J (ad w.heap.size 0)),w.alloc (.cells (a.eval x).cells t),_,_,_,?_,cB.newObj h hk br entry hid (kE.alloc w (.cells (a.eval x).cells t)) (.cells cs) (Ik h.wf (kE.alloc w _) hid.new g1) ?_,λi=>Iff.rfl⟩
 all_goals simp_all [execOp,Instr.box,newVar,newRow,VR,trivial]
def aq0 (h:RI X l S st a w G I N){k}(hk:¬ S k)(br:k<O st.L) entry{y4}(hid:Aw l st N y4){o}
  (hc:cT P ck o .makeMap=W):∃x w' G' I' N',(execOp a.eval o).run P w= .ok (.value x) w' /\
   cB X l S entry st a w G I N (put (E1 st y4 (.map [])) k (.map (newId st y4))) k x w' G' I' N' /\(∀i,N' i↔N i\/i=newId st y4):=by
 let ⟨dst,er,ty,pos,after,guard⟩:=o
 unfold cT at hc;split at hc<;>try (cases hc)
 all_goals try (rename_i qF lK;cases lK)
 rename_i t qF lK;subst qF;have hn:=kE.alloc w (.map #[] 0);refine ⟨.map (J w.heap.size),w.alloc (.map #[] 0),_,_,_,?_,cB.newObj h hk br entry hid hn (.map []) ?_ ?_,λi=>Iff.rfl⟩
 .rfl
 .simp only [OR]
  exact ⟨Or.inr trivial,#[],0,by simpa using hn.new,U,by simp [ER],⟨U,U⟩⟩
 simp_all [VR,trivial]
theorem CH z:∀n,(madeCells z (n * z.size)).toList=(c9 n z.toList).flatten:=by
 intro n
 by_cases h0:z.size=0
 .simp_all [List.eq_nil_of_length_eq_zero,c9,List.replicate_succ,List.flatten_cons,madeCells]
 .induction n with
  |zero=>simp [madeCells]
  |succ n ih =>
   have e:(c9 (n+1) z.toList).flatten=(c9 n z.toList).flatten++z.toList:=by
    simp_all [List.replicate_succ',List.flatten_append]
   rw [e,<- ih];apply List.ext_getElem
   .grind [madeCells]
   .intro i h1 h2
    have h1' :i<(n+1) * z.size:=by simp_all [madeCells]
    rw [Nat.add_mul,Nat.one_mul] at h1'
    rcases x9 i (n * z.size) with h|h
    .grind [List.getElem_append_left,madeCells]
    .rw [List.getElem_append_right M]
     have hm:i % z.size=i - n * z.size:=by
      have e2:i=(i - n * z.size)+n * z.size:=V
      have e3:i % z.size=((i - n * z.size)+n * z.size) % z.size:=congrArg (· % z.size) e2;rw [e3,Nat.add_mul_mod_self_right,Nat.mod_eq_of_lt V]
     grind [madeCells]
theorem Ki {zero zs}(h:J5 G I N w zero zs):∀n,J5 G I N w (c9 n zero).flatten (c9 n zs).flatten
 |0=>by simp [J5]
 |n+1=>J5.append _ _ _ _ h (Ki h n)
def LA {sz zero x y n}(h:CI sz zero x y=J n):x= .d (.int .i64 n)/\y= .d (.int .i64 n)/\n<=1000000/\0<sz/\O zero=sz:=by
 simp_all [CI]<;>grind
def Vq (h:RI X l S st a w G I N)(hρ:cS ck G I N w a.eval (G5 st.T st.L)){k}(hk:¬ S k)(br:k<O st.L) entry{y4}(hid:Aw l st N y4){o sz zero x y}
  (hc:cT P ck o (.jI sz zero x y)=W) {n} (hn:CI sz zero (G5 st.T st.L x) (G5 st.T st.L y)=J n) :
  ∃x w' G' I' N',(execOp a.eval o).run P w= .ok (.value x) w' /\
   cB X l S entry st a w G I N (put (E1 st y4 (.cells (c9 n zero).flatten)) k (.s5 (newId st y4) sz 0 n)) k x w' G' I' N' /\(∀i,N' i↔N i\/i=newId st y4):=by
 let ⟨dst,er,ty,pos,after,guard⟩:=o
 cases er<;>simp [cT,c8] at hc<;>try (cases hc;done)
 rename_i t c1 c2
 let ⟨⟨⟨h1,h2⟩,ht⟩,hz⟩:=hc
 let ⟨e,hu,XU,hie⟩:=gw ht
 let ⟨e1,e2,hb,hsz,hzl⟩:=LA hn
 simp [hu,c8] at hz
 let ⟨hz1,Pn⟩:=hz
 let ⟨it,z,f1,f2,f3⟩:=jZ (G:=G) (I:=I) (N:=N) (w:=w) hz1
 rw [f1] at Pn;simp only [c8] at Pn;have s1:it.size=sz:=j4 Pn.1;have s2:it.bytes<=1000:=l5 Pn.2;have g1:=hρ _ _ h1;have g2:=hρ _ _ h2;rw [e1] at g1;rw [e2] at g2;simp [VR,DR] at g1 g2;have hzs:z.cells.size=sz:=by
  have:=J5.length _ _ f3;simp_all
 have hb' :(it.bytes:Int) * (n:Int)<=281474976710656:=by
  have h:it.bytes * n<=1000 * 1000000:=Nat.mul_le_mul s2 hb;omega
 have hr:=run_make (P:=P) w t e it z hu f1 f2 .i64 .i64 n n V (Int.le_refl _) hb' V;have hcs:J5 G I N w (c9 n zero).flatten (madeCells z.cells (n * it.size)).toList:=by
  grind [CH,Ki]
 have hnw:=kE.alloc w (.cells (madeCells z.cells (n * it.size)) e);refine ⟨.slice (J (ad w.heap.size 0)) n n,_,_,_,_,?_,cB.newObj h hk br entry hid hnw (.cells (c9 n zero).flatten) (Ik h.wf hnw hid.new hcs) ?_,λi=>Iff.rfl⟩
 .simp_all [execOp,ad]
 .simp only [VR]
  exact ⟨Or.inr trivial,n,U,o6 _,madeCells z.cells (n * it.size),e,(0,0),by simpa using hnw.new,by simp [size_madeCells,s1]⟩
def qT (hρ:cS ck G I N w a.eval (G5 st.T st.L)){o sz len zero ps b}
  (hc:cT P ck o (.J3 sz len zero ps b)=W) {cs} (hcs:bB zero (ps.map λ(o,s,x)=>(o,s,G5 st.T st.L x))=J cs) :
  ∃(ys:Array Value) (e:TypeId),(execOp a.eval o).run P w= .ok (.value (.slice (J (ad w.heap.size 0)) len len)) (w.alloc (.cells ys e))/\J5 G I N w cs ys.toList:=by
 let ⟨dst,er,ty,pos,after,guard⟩:=o
 cases er<;>simp [cT,c8,beq_iff_eq,decide_eq_true_eq] at hc<;>try (cases hc;done)
 rename_i t n parts
 let ⟨⟨⟨rfl,ht⟩,hsm⟩,hz⟩:=hc
 let ⟨e,hu,XU,hie⟩:=gw ht
 have hsize:(sizeOf e).run P w= .ok sz w:=by simp_all [run_sizeOf]
 simp [hu] at hz;split at hz
 next zs hzs=>
  simp [c8] at hz
  let ⟨hz1,Pn⟩:=hz
  have hzr:J5 G I N w zero zs:=gq _ _ hz1
  let ⟨ys,f1,f2⟩:=oB (P:=P) hρ parts.toList ps zero cs zs.toArray Pn V hcs
  refine ⟨ys,e,?_,f2⟩;have hno:¬ n * sz>2 ^ 24:=V
  have aK1:(parts.map λ(i,x)=>(i,a.eval x)).toList=parts.toList.map λ(i,x)=>(i,a.eval x):=U
  by_cases h0:n * sz=0
  .unfold JW at hzs
   rw [if_pos h0] at hzs;simp only [execOp,Instr.buildSlice,Sem.run_bind,run_underlying hu,Result.andThen_ok,hsize,if_neg hno,if_pos h0,Sem.run_pure];have e1:(Array.range (n * sz)).map (λx=>((#[]:Array Value)[x % (#[]:Array Value).size]!))= #[]:=by rw [h0];simp
   rw [e1];simp_all [newRow]
  .unfold JW at hzs
   rw [if_neg h0] at hzs;split at hzs
   .split at hzs
    next z hzz=>
     simp only [Option.some.injEq] at hzs;have hzv:(zeroValue e).run P w= .ok z w:=by simp_all [zeroValue,typeInfo]
     have e1:(Array.range (n * sz)).map (λx=>z.cells[x % z.cells.size]!)=zs.toArray:=by rw [<- hzs]
     simp [execOp,Instr.buildSlice,Sem.run_bind,run_underlying hu,Result.andThen_ok,hsize,if_neg hno,if_neg h0,Sem.run_pure,hzv,aK1,e1,f1];simp [newRow]
    .cases hzs
   .cases hzs
 .cases hz
def Vr (h:RI X l S st a w G I N)(hρ:cS ck G I N w a.eval (G5 st.T st.L)){k}(hk:¬ S k)(br:k<O st.L) entry{o sz len zero ps}
  (hc:cT P ck o (.J3 sz len zero ps F)=W) {v rs} (hp:l8 (G5 st.T st.L) st.H (.J3 sz len zero ps F)=J (v,rs)) :
  ∃x w' G',(execOp a.eval o).run P w= .ok (.value x) w' /\cB X l S entry st a w G I N (put st k v) k x w' G' I N:=by
 simp [l8] at hp;split at hp
 next cs hcs=>
  split at hp
  next xs hxs=>
   split at hp
   next hl=>
    obtain ⟨rfl,rfl⟩:=hp
    let ⟨ys,e,hrun,hvs⟩:=qT (P:=P) hρ hc hcs
    have hn:=kE.alloc w (.cells ys e);have hlen:ys.size=len * sz:=by
     have h1:=J5.length _ _ hvs
     grind [jg]
    exact ⟨_,_,_,hrun,cB.fresh h hk br entry hn _ (RN h.wf hn (og _) hxs hvs (λi v hi=>M) hl.2 (o6 _) V U)⟩
   .cases hp
  .cases hp
 .cases hp
def IY (h:RI X l S st a w G I N)(hρ:cS ck G I N w a.eval (G5 st.T st.L)){k}(hk:¬ S k)(br:k<O st.L) entry{y4}(hid:Aw l st N y4){o sz len zero ps} (hc:cT P ck o (.J3 sz len zero ps W)=W) {cs} (hcs:bB zero (ps.map λ(o,s,x)=>(o,s,G5 st.T st.L x))=J cs) (hl:O cs=len * sz) :
  ∃x w' G' I' N',(execOp a.eval o).run P w= .ok (.value x) w' /\
   cB X l S entry st a w G I N (put (E1 st y4 (.cells cs)) k (.s5 (newId st y4) sz 0 len)) k x w' G' I' N' /\(∀i,N' i↔N i\/i=newId st y4):=by
 let ⟨ys,e,hrun,hvs⟩:=qT (P:=P) hρ hc hcs
 have hn:=kE.alloc w (.cells ys e);have hlen:ys.size=len * sz:=by
  have h1:=J5.length _ _ hvs;simp_all
 refine ⟨_,_,_,_,_,hrun,cB.newObj h hk br entry hid hn (.cells cs) (Ik h.wf hn hid.new hvs) ?_,λi=>Iff.rfl⟩;simp only [VR];exact ⟨Or.inr trivial,len,U,o6 _,ys,e,(0,0),by simpa using hn.new,D⟩
end
end Go.B3
namespace Go.B3
variable [E0]
section
variable {P:Program} {X:Cx} {l:H8} {S:Nat->Prop} {st:G4} {a:Act} {w w' :World} {G:Gh} {I:T0} {N:Nat->Prop} {f9:Nat->Bool}
theorem RI.R4 (h:RI X l S st a w G I N)(hD:∀j,f9 j=W->S j):cS (X.ck f9) G I N w a.eval (G5 st.T st.L):=by
 intro x y hc;unfold Cx.ck at hc;split at hc
 next t s=>
  have ht:X.names[s]? =J t:=M
  exact (h.T s t ht).F4
 next t j=>
  simp only [c8,beq_iff_eq,o8] at hc;exact (h.L j (hD j hc.1.1) t hc.1.2 hc.2).F4
 next v b=>
  exact (ec v b hc).UA
 all_goals simp_all [G5,c7.UA,c7.F4,Act.eval,VR,J5]
theorem yq st y:(F1 st y).2.H=st.H:=by
 simp_all [F1]<;>grind
theorem DV st y:O (F1 st y).2.L=O st.L:=by
 simp_all [F1]<;>grind
structure Xf (X:Cx)(l:H8)(S:Nat->Prop)(st:G4)(y:z6)(a:Act)(w:World)(G:Gh)(I:T0)(N:Nat->Prop)(pl:Place)(x:Value)(G' :Gh):Prop where
 ri:RI X l S (F1 st y).2 a w G' I N
 val:VR G' I N w pl (F1 st y).1 x
 ext:Ext G w G' w
 keeps:∀id off,bI (.cell id off) G w G' w
 obj:∀b id,G b= .obj id->G' b= .obj id
theorem RI.F1 (h:RI X l S st a w G I N)(hD:∀j,f9 j=W->S j){x y}(hc:X.ck f9 x y=W){pl}(hp:pl≠ .none) :
  ∃G',Xf X l S st y a w G I N pl (a.eval x) G' :=by
 have hρ:=h.R4 hD x y hc;have simple:(B3.F1 st y).2=st->VR G I N w .none (B3.F1 st y).1 (a.eval x)->∃G',Xf X l S st y a w G I N pl (a.eval x) G' :=
  λh1 h2=>⟨G,M,h2.place,Ext.refl _ _,λ_ _ _ _ h=>⟨h,rfl⟩,λ_ _ h=>h⟩
 cases y with
 |slot s=>exact simple rfl hρ
 |const v =>
  refine simple rfl ?_;unfold Cx.ck at hc;split at hc
  .simp_all
  .simp_all
  next v' b heq=>
   cases heq;exact ec _ _ hc
  all_goals simp_all [G5,c7.UA,c7.F4,B3.F1,VR]
 |loc j =>
  by_cases hown:∃z len cells,st.L[j]? =J (.own z len cells)
  .obtain ⟨z,len,cells,hj⟩:=hown
   unfold Cx.ck at hc;split at hc
   .simp_all
   next t j' heq=>
    cases heq;simp only [c8,beq_iff_eq,o8] at hc;have h1:=h.L j (hD j hc.1.1) t hc.1.2 hc.2;rw [bQ hj] at h1;obtain ⟨G',hm,hv⟩:=kW hp h1;refine ⟨G',?_,?_,hm.ext,λid off=>hm.keeps _ U,hm.obj⟩
    .simp [B3.F1,hj]
     exact h.Sm hj hm
    simp_all [B3.F1,Act.eval]
   all_goals simp_all
  .by_cases hnil:st.L[j]? =J .H7
   .have e:B3.F1 st (.loc j)=(.H7,st):=by simp_all [B3.F1]
    refine simple (by rw [e]) ?_;unfold Cx.ck at hc;split at hc
    .simp_all
    next t j' heq=>
     cases heq;simp only [c8,beq_iff_eq,o8] at hc;have h1:=h.L j (hD j hc.1.1) t hc.1.2 hc.2;simp_all [bQ,VR,Act.eval]
    all_goals simp_all
   simp_all [B3.F1,G5,absurd]
theorem run_storeCells_at b o e f:∀ vs i cur w,w.heap[b]? =J (.cells cur e f)->OC f cur.size ->
  o+i+O vs<=cur.size->Ff vs->(storeCells (ad b o) vs i).run P w= .ok () (w.setRow b (L6 cur.toList (o+i) vs).toArray)
 |[],i,cur,w,hg,hf,hl,_=>by
  simp [storeCells,L6,Nat.add_zero];cases w with
  |mk heap tape drawn os output =>
   simp_all [World.setRow]<;>grind
 |v::rest,i,cur,w,hg,hf,hl,h1=>by
  simp [q7] at hl;have hi:o+i<cur.size:=V
  have hcell:w.cell? (ad b (o+i))=J cur[o+i]:=by rw [U5 hg];simp
  have cp4:w.frozen? (ad b (o+i))=F:=by
   simp [World.frozen?];have:=hf (o+i) hi;simp_all
  have hst:(store ((ad b o).add i) v).run P w= .ok () (w.setRow b (cur.setIfInBounds (o+i) v)):=by
   rw [aX,run_store P w _ v _ (h1 v U),hcell]
   grind [setCell_eq_setRow]
  have ih:=run_storeCells_at b o e f rest (i+1) (cur.setIfInBounds (o+i) v) (w.setRow b (cur.setIfInBounds (o+i) v)) (setRow_heap w b cur _ e f hg) M D (λx hx=>h1 x (by simp [hx]));simp [storeCells,Sem.run_bind,hst,Result.andThen_ok,ih,setRow_setRow];have hlt:o+i<O cur.toList:=V
  simp [L6,Array.toList_setIfInBounds];rw [show o+(i+1)=o+i+1 from by omega,List.take_succ_eq_append_getElem M,List.drop_set_of_lt V];simp [List.take_set_of_le (o6 _),q7]
  grind
structure tf (id b:Nat)(w w' :World)(G:Gh):Prop where
 mV:G b= .obj id
 os:w'.os=w.os
 tape:w'.tape=w.tape
 output:w'.output=w.output
 drawn:w.drawn<=w'.drawn
 size:w'.heap.size=w.heap.size
 other:∀b',b' ≠b->w'.heap[b']? =w.heap[b']?
 shape:∀(c:Array Value) (e:TypeId) (f:Nat×Nat),w.heap[b]? =J (Obj.cells c e f)->∃c' :Array Value,w'.heap[b]? =J (Obj.cells c' e f)/\c'.size=c.size
theorem tf.ext {id b}(h:tf id b w w' G):Ext G w G w' where
 os:=h.os
 tape:=h.tape
 output:=h.output
 drawn _:=h.drawn
 size:=by rw [h.size];omega
 mM b' o hi:=by
  have hne:b' ≠b:=by rintro rfl;simp [jS,h.mV] at hi
  exact ⟨hi,by simp [World.cell?,h.other b' hne]⟩
 still b' hb:=by
  have hne:b' ≠b:=by rintro rfl;rw [h.mV] at hb;simp_all
  exact ⟨rfl,h.other b' hne⟩
 shape b' c e f hc:=by
  by_cases hne:b' =b
  .subst hne;exact h.shape c e f hc
  .exact ⟨c,by rw [h.other b' hne];exact hc,rfl⟩
def tf.keeps {id b}(h:tf id b w w' G) q:bI q G w G w' :=by
 intro b' n hb;have hne:b' ≠b:=by rintro rfl;rw [h.mV] at hb;cases hb
 exact ⟨hb,h.other b' hne⟩
def tf.AL {id b}(h:tf id b w w' G){id'}(hne:id' ≠id):∀b',G b' = .obj id' ->G b' = .obj id' /\w'.heap[b']? =w.heap[b']? :=by
 intro b' hb;have:b' ≠b:=by rintro rfl;rw [h.mV] at hb;simp_all
 exact ⟨hb,h.other b' this⟩
def cB.write {D1}(h:RI X l S st a w G I N){k}(hk:¬ S k)(br:k<O st.L) entry{id b}(hw:tf id b w w' G){o o0}(h0:st.H[id]? =J o0)
  (ho:OR G I N w' id o) (hmay:l.may id=W) (xE:o.K9<=max o0.K9 (id+1)\/(l.base<=id/\l.strict<=id)) (hD:∀i,D1 i↔N i) {v x} (hv:VR G I N w' (.loc k) v x) o5 (Pj:o5.any (Touch.G8 id)=W) :
  cB X l S entry st a w G I N (put { st with H:=st.H.set id o,o5 } k v) k x w' G I D1:=by
 have hN:∀i,N i->D1 i:=λi hi=>(hD i).2 hi
 refine ⟨⟨?_,?_,?_,λb' hb' =>h.wf b' (by rw [<- hw.size];exact hb'),?_⟩,?_,hw.ext,?_,?_,λ_ _ _=>rfl,hN,by simp [B3.put],?_⟩
 .intro s t ht
  exact VR.mono hw.ext (λ_ _=>rfl) hN _ _ _ (Or.inr (hw.keeps _)) (h.T s t ht)
 .intro j hj d hd hn
  have:k≠j:=by grind
  simp only [B3.put];rw [P0 _ _ _ _ _ this];exact VR.mono hw.ext (λ_ _=>rfl) hN _ _ _ (Or.inr (hw.keeps _)) (h.L j hj d hd hn)
 .intro id' o' ho'
  simp [B3.put] at ho'
  by_cases he:id' =id
  .subst he
   rw [C7 (y9 h0)] at ho';cases ho';exact OR.mono (Ext.refl _ _).sub (λ_ _=>rfl) hN _ _ (λh=>⟨h,rfl⟩) (λ_ _ _ h=>⟨h,rfl⟩) ho
  .rw [q8 (λe=>he e.symm)] at ho'
   exact OR.mono hw.ext (λ_ _=>rfl) hN id' o' (λhb=>hw.AL he _ hb) (λ_=>hw.keeps _) (h.H id' o' ho')
 .intro id' o' ho'
  simp [B3.put] at ho'
  by_cases he:id' =id
  .subst he
   rw [C7 (y9 h0)] at ho';cases ho';obtain ⟨d1,d2⟩:=h.W9 id' _ h0;omega
  .rw [q8 (λe=>he e.symm)] at ho'
   exact h.W9 id' o' ho'
 .simp only [B3.put]
  rw [O3 _ _ _ _ br];exact VR.mono (Ext.refl _ _).sub (λ_ _=>rfl) hN _ _ _ (Or.inr (λ_ _ h=>⟨h,rfl⟩)) hv
 .intro id' hm
  have hne:id' ≠id:=by grind
  exact ⟨hw.AL hne,λoff=>hw.keeps _⟩
 .intro id' _ ht
  have hne:id' ≠id:=by grind [B3.put]
  exact ⟨rfl,hw.AL hne⟩
 .grind [B3.put]
end
end Go.B3
namespace Go.B3
variable [E0]
def Qc l off vs(h:off+O vs<=O l) i :
  (splice l off vs)[i]? =if i<off then l[i]? else if i<off+O vs then vs[i - off]? else l[i]? :=by
 unfold splice
 grind
def lV l off vs(h:off+O vs<=O l) i :
  (L6 l off vs)[i]? =if i<off then l[i]? else if i<off+O vs then vs[i - off]? else l[i]? :=by
 unfold L6
 grind
def lX l off vs(h:off+O vs<=O l):O (L6 l off vs)=O l:=by
 grind [L6]
def Qd l off vs(h:off+O vs<=O l):O (splice l off vs)=O l:=by
 grind [splice]
theorem jc:∀ a b,C0 (a++b)=max (C0 a) (C0 b)
 |[],b=>by simp [C0]
 |v::vs,b=>by simp only [G9,C0,jc vs b];omega
theorem si:∀ n a,C0 (a.take n)<=C0 a
 |0,a=>by simp [C0]
 |n+1,[]=>U
 |n+1,v::vs=>by have:=si n vs;grind [C0]
theorem sg:∀ n a,C0 (a.drop n)<=C0 a
 |0,a=>U
 |n+1,[]=>U
 |n+1,v::vs=>by have:=sg n vs;grind [C0]
theorem yF l off vs:C0 (splice l off vs)<=max (C0 l) (C0 vs):=by
 grind [splice,jc,si,sg]
section
variable {P:Program} {X:Cx} {l:H8} {S:Nat->Prop} {st:G4} {a:Act} {w w' :World} {G:Gh} {I:T0} {N:Nat->Prop} {f9:Nat->Bool}
def WS {v cs}(hv:v.cells? =J cs){id off x}(h:VR G I N w (.cell id off) v x) :
  x.cells.size=O cs/\Ff x.cells.toList/\∀ i c,cs[i]? =J c->∃u,x.cells.toList[i]? =J u/\VR G I N w (.cell id (off+i)) c u:=by
 unfold c7.cells? at hv;split at hv
 .split at hv
  next hall=>
   simp at hv;subst hv;obtain ⟨xs,rfl,h2⟩:=h;refine ⟨by simpa [Value.cells] using J5.length _ _ h2,oL _ _ hall h2,λi c hc=>?_⟩;obtain ⟨u,g1,g2⟩:=J5.get _ _ h2 i c hc;exact ⟨u,g1,g2.place⟩
  .cases hv
 .split at hv
  next hone=>
   simp at hv;subst hv;obtain ⟨h1,h2⟩:=nK hone h;rw [h2];refine ⟨rfl,λu hu=>?_,λi c hc=>?_⟩
   all_goals grind
  .cases hv
def cB.pre {entry st1 st' G1 G' I' N' k x}(hx:Ext G w G1 w)(hk:∀id off,bI (.cell id off) G w G1 w)(ho:∀b id,G b= .obj id->G1 b= .obj id)
  (hH:st1.H=st.H) (h:cB X l S entry st1 a w G1 I N st' k x w' G' I' N'):cB X l S entry st a w G I N st' k x w' G' I' N' where
 ri:=h.ri
 val:=h.val
 ext:=hx.trans h.ext
 ew:=mX.trans (λid _=>⟨λb hb=>⟨ho b id hb,rfl⟩,hk id⟩) h.ew
 ko id hN ht:=by
  obtain ⟨h1,h2⟩:=h.ko id hN ht;simp_all
 inj:=h.inj
 mono:=h.mono
 len:=by rw [<- hH];exact h.len
 hle id o' hb ho' :=by
  have:=h.hle id o' hb ho';simp_all
def yo {id b c e f}(hb:w.heap[b]? =J (.cells c e f))(hl:G b= .obj id){c'}(hs:c'.size=c.size):tf id b w (w.setRow b c') G where
 mV:=hl
 os:=rfl
 tape:=rfl
 output:=rfl
 drawn:=o6 _
 size:=U
 other b' hne:=setRow_other w b b' c' hne
 shape c0 e0 f0 h0:=by
  grind [setRow_heap]
def Fu {id l0 off cs c e f}(hN:N id)(hb:w.heap[(I id).1]? =J (.cells c e f))(La:G (I id).1= .obj id)(hf:OC f c.size)
  (hsz:(I id).2+O l0<=c.size) (hold:∀ i x,l0[i]? =J x->∃v,c[(I id).2+i]? =J v/\VR G I N w (.cell id i) x v)
  (hfit:off+O cs<=O l0) {vs} (hlen:O vs=O cs) (hnew:∀ i x,cs[i]? =J x->∃u,vs[i]? =J u/\VR G I N w (.cell id (off+i)) x u) :
  OR G I N (w.setRow (I id).1 (L6 c.toList ((I id).2+off) vs).toArray) id (.cells (splice l0 off cs)) /\
   tf id (I id).1 w (w.setRow (I id).1 (L6 c.toList ((I id).2+off) vs).toArray) G:=by
 have yR :(I id).2+off+O vs<=O c.toList:=D
 have hsize:(L6 c.toList ((I id).2+off) vs).toArray.size=c.size:=by simp_all [lX]
 have hw:=yo (G:=G) hb La hsize;refine ⟨?_,hw⟩;refine ⟨hN,_,e,f,setRow_heap w _ c _ e f hb,La,M,by simp_all [Qd],λi x hx=>?_⟩;rw [Qc _ _ _ hfit] at hx;have hg:(L6 c.toList ((I id).2+off) vs).toArray[(I id).2+i]? =(L6 c.toList ((I id).2+off) vs)[(I id).2+i]? :=U
 rw [hg,lV _ _ _ yR];have mono:∀{pl:Place} {x:c7} {v:Value},VR G I N w pl x v->VR G I N (w.setRow (I id).1 (L6 c.toList ((I id).2+off) vs).toArray) pl x v :=
  λh=>VR.mono hw.ext (λ_ _=>rfl) (λ_ h=>h) _ _ _ (Or.inr (hw.keeps _)) h
 by_cases h1:i<off
 .grind
 .all_goals grind
theorem HR.wr {H H'}(hH:HR G I N w H){id off cs}(h:wr H id off cs=J H') :
  ∃l0 c e f,H[id]? =J (.cells l0)/\H' =H.set id (.cells (splice l0 off cs))/\off+O cs<=O l0/\N id/\w.heap[(I id).1]? =J (.cells c e f)/\G (I id).1= .obj id/\OC f c.size /\
   (I id).2+O l0<=c.size/\∀ i x,l0[i]? =J x->∃v,c[(I id).2+i]? =J v/\VR G I N w (.cell id i) x v:=by
 unfold B3.wr at h;split at h
 next l0 hl=>
  split at h
  .have ho:=hH id _ hl
   simp_all [OR]
  .cases h
 .cases h
def BY (P:Program)(ck:Operand->z6->Bool)(o:Oper)(op:s7):Bool :=
 match o.op,op with
 | .store t x y,.store n x' y' =>ck x x' &&ck y y' &&P.cellsOf t==n&&(P.info? t).isSome&&decide (0<n)
 |_,_=>F
def UG (h:RI X l S st a w G I N)(hD:∀j,f9 j=W->S j){k}(hk:¬ S k)(br:k<O st.L) entry{o n x y}(hc:BY P (X.ck f9) o (.store n x y)=W){E}(hE:E.lim=l)
  {st'} (he:R2 E k n st (G5 st.T st.L x) y=J st'):∃w' G',(execOp a.eval o).run P w= .ok .skip w' /\cB X l S entry st a w G I N st' k undef w' G' I N:=by
 obtain ⟨dst,er,ty,pos,after,guard⟩:=o;cases er<;>simp [BY,c8,beq_iff_eq] at hc<;>try (cases hc;done)
 rename_i t x' y';obtain ⟨⟨⟨⟨hx,hy⟩,hn⟩,hi⟩,hpos⟩:=hc;have h1:=h.R4 hD _ _ hx;unfold R2 at he;split at he
 next id off hp=>
  rw [hp] at h1;simp [VR] at h1;split at he
  next cs hcs=>
   split at he
   .split at he
    next H' hH'=>
     obtain ⟨G1,hX⟩:=h.F1 hD hy (pl:= .cell id off) U;obtain ⟨c1,c2,c3⟩:=WS hcs hX.val;obtain ⟨l0,c,e,f,g1,g2,g3,g4,g5,g6,g7,g8,g9⟩:=hX.ri.H.wr hH';obtain ⟨hO,hW⟩:=Fu g4 g5 g6 g7 g8 g9 g3 (vs:=(a.eval y').cells.toList) V c3;have hrun:(storeCells (ad (I id).1 ((I id).2+off)) (a.eval y').cells.toList).run P w= .ok () (w.setRow (I id).1 (L6 c.toList ((I id).2+off) (a.eval y').cells.toList).toArray):=by
      grind [run_storeCells_at]
     have hs:(sizeOf t).run P w= .ok n w:=by simp_all [run_sizeOf]
     have hsz:¬ ((a.eval y').cells.size≠n):=V
     have xE:(B4.cells (splice l0 off cs)).K9<=max (B4.cells l0).K9 (id+1)\/(l.base<=id/\l.strict<=id):=by
      grind [yF,B4.K9]
     have hM:=cB.write (D1:=N) hX.ri hk (by grind [DV]) entry hW g1 hO M xE (λ_=>Iff.rfl) (v:= .any) (x:=undef) (by simp [VR]) (.obj id::(F1 st y).2.o5) (by simp [Touch.G8]);refine ⟨w.setRow (I id).1 (L6 c.toList ((I id).2+off) (a.eval y').cells.toList).toArray,G1,?_,?_⟩
     .simp_all [execOp,Instr.storeAt,Instr.sureAddr,storeVar,Sem.run_bind,Sem.run_pure,Result.andThen_ok,if_neg]
     .have:=cB.pre (st:=st) hX.ext hX.keeps hX.obj (yq st y) hM
      simp_all
    .cases he
   .cases he
  .cases he
 .cases he
end
end Go.B3
namespace Go.B3
variable [E0]
structure PV (X:Cx)(j9:List o4)(S:Nat->Prop)(st:G4)(a:Act)(w:World)(I:T0):Prop where
 slot:∀(j:Nat) ai s t d,S j->st.L[j]? ≠J (.tuple [])->j9[j]? =J ai->ai.op=s7.S1 (.slot s)->X.names[s]? =J t->(X.ops[j]?).bind (·.dst)=J d->X.names.contains d=F ->
  st.o5.any (Touch.V7 s)=F->a.tmps.getD d undef=a.tmps.getD t undef
 cell:∀(j:Nat) ai x id off d l0,S j->st.L[j]? ≠J (.tuple [])->j9[j]? =J ai->ai.op=s7.load K x->bF st x=J (id,off)->st.H[id]? =J (.cells l0)->off<O l0 ->
  st.o5.any (Touch.aR id off)=F->(X.ops[j]?).bind (·.dst)=J d->X.names.contains d=F->w.cell? (ad (I id).1 ((I id).2+off))=J (a.tmps.getD d undef)
structure Tk (X:Cx)(l:H8)(S:Nat->Prop)(st st1:G4)(a:Act)(w:World)(G:Gh)(I:T0)(N:Nat->Prop)(k:Nat)(v:c7)(x:Value)(G1:Gh):Prop where
 ri:RI X l S st1 a w G1 I N
 val:VR G1 I N w (.loc k) v x
 ext:Ext G w G1 w
 ew:mX l G w G1 w
 obj:∀b id:Nat,G b= .obj id->G1 b= .obj id
 len:O st1.H=O st.H
 L:O st1.L=O st.L
 o5:∀p,st.o5.any p=W->st1.o5.any p=W
 hle:∀(id:Nat) (o' :B4),st1.H[id]? =J o' ->∃o:B4,st.H[id]? =J o/\o'.K9<=o.K9
section
variable {P:Program} {X:Cx} {l:H8} {S:Nat->Prop} {st:G4} {a:Act} {w w' :World} {G:Gh} {I:T0} {N:Nat->Prop} {f9:Nat->Bool} {j9:List o4}
def tI (h:RI X l S st a w G I N)(hpv:PV X j9 S st a w I)(hT:O st.T=O X.names)(hD:∀j,f9 j=W->S j){k}(hk:¬ S k){x y}(hc:X.ck f9 x y=W){sz len cells st1} (ht:Q7 l j9 st sz y=J (len,cells,st1)):∃G1,Tk X l S st st1 a w G I N k (.own sz len cells) (a.eval x) G1:=by
 unfold Q7 at ht;split at ht
 .split at ht
  next hz=>
   subst hz;simp at ht;obtain ⟨rfl,rfl,rfl⟩:=ht;refine ⟨G,h,?_,Ext.refl _ _,mX.refl _ _ _,λ_ _ h=>h,rfl,rfl,λ_ h=>h,λ_ o h=>⟨o,h,o6 _⟩⟩;unfold Cx.ck at hc;split at hc
   .simp_all
   .simp_all
   next v' b heq=>
    cases heq;exact (ec _ _ hc).place
   all_goals simp_all
  .cases ht
 .cases ht
 .cases ht
 next j=>
  have aJ5:∃t,x= .tmp t/\f9 j=W/\(X.ops[j]?).bind (·.dst)=J t/\X.names.contains t=F:=by
   simp_all [Cx.ck]<;>grind
  obtain ⟨t,rfl,hDj,Cw,Lc⟩:=aJ5;have hSj:=hD j hDj;have hjk:j≠k:=by grind
  split at ht
  next z len' cells' hj=>
   split at ht
   next hz=>
    subst hz;simp at ht;obtain ⟨rfl,rfl,rfl⟩:=ht;have h1:=h.L j hSj t Cw Lc;rw [bQ hj] at h1;obtain ⟨G',hm,hv⟩:=kW (zh := .loc k) U h1;exact ⟨G',h.Sm hj hm,hv,hm.ext,λid _=>⟨λb hb=>⟨hm.obj b id hb,rfl⟩,λoff=>hm.keeps _ U⟩,hm.obj,rfl,U,λ_ h=>h,λ_ o h=>⟨o,h,o6 _⟩⟩
   .cases ht
  next ct8 bB8 hj=>
   split at ht
   next ai hai=>
    unfold aJ at ht;split at ht
    next s hop=>
     split at ht
     .cases ht
     .split at ht
      next z len' cells' hs=>
       split at ht
       next hz=>
        simp at ht;obtain ⟨rfl,rfl,rfl⟩:=ht;obtain ⟨ts,hts⟩:∃ts,X.names[s]? =J ts:=by
         grind
        have h1:=h.T s ts hts;rw [bQ hs] at h1;have he:=hpv.slot j ai s ts t hSj (by rw [hj];simp) hai hop hts Cw Lc M;obtain ⟨G',hm,hv⟩:=kW (zh := .loc k) U h1;refine ⟨G',h.aa1 hs _ hm,?_,hm.ext,λid _=>⟨λb hb=>⟨hm.obj b id hb,rfl⟩,λoff=>hm.keeps _ U⟩,hm.obj,rfl,rfl,λp hp=>M,λ_ o h=>⟨o,h,o6 _⟩⟩;simp_all [Act.eval]
       .cases ht
      .cases ht
    next x' hop=>
     split at ht
     next id off an5=>
      split at ht
      .cases ht
      next hun=>
       simp only [Bool.or_eq_true,o8,not_or,Bool.not_eq_true,Bool.not_eq_false] at hun;split at ht
       next cs hcs=>
        split at ht
        next z len' cells' hco=>
         split at ht
         next hz=>
          simp at ht;obtain ⟨rfl,rfl,rfl⟩:=ht;have hO:=h.H id _ hcs;obtain ⟨hN,c,e,f,g1,g2,g3,g4,g5⟩:=hO
          .obtain ⟨v,e1,e2⟩:=g5 off _ hco
           have he:=hpv.cell j ai x' id off t cs hSj (by rw [hj];simp) hai hop an5 hcs (y9 hco) hun.1 Cw Lc;rw [U5 g1,e1] at he;obtain ⟨G',hm,hv⟩:=kW (zh := .loc k) U e2;refine ⟨G',h.aa0 hcs hco _ hm,?_,hm.ext,λid' cp7 =>⟨λb hb=>⟨hm.obj b id' hb,rfl⟩,λoff' =>hm.keeps _ ?_⟩,hm.obj,U,rfl,λp hp=>M,λid' o' ho' =>?_⟩
           .simp_all [Act.eval]
           .grind
           .by_cases hee:id' =id
            .grind [C7,y9,B4.K9,oq]
            grind
         .cases ht
        .cases ht
       .cases ht
     .cases ht
    .cases ht
   .cases ht
  .cases ht
def VZ (P:Program)(t:TypeId):Bool :=
 match P.underlying t with
 |some (.slice _)=>W
 |some .string=>W
 |_=>F
def eC {t t2 e ty i}(hu:P.underlying t=J (.slice e))(hi:P.info? e=J i)(ht2:VZ P t2=W)
  {base sLen sCap m x} (hl:(Builtin.lenOf x).run P w= .ok m w) {nw}
  (hnew:(Builtin.firstCells i.size m x).run P w= .ok nw w) (hle:sLen+m<=sCap):(Builtin.append_ #[t,t2] ty #[.slice base sLen sCap,x]).run P w =
   (match base with
    |some a=>((storeCells (a.add (sLen * i.size)) nw.toList).run P w).andThen λ_ w' => .ok (.slice base (sLen+m) sCap) w'
    |none=> .ok (.slice base (sLen+m) sCap) w):=by
 unfold VZ at ht2;split at ht2
 next e2 h2=>
  cases base<;>simp [Builtin.append_,run_underlying hu,sizeOf,typeInfo,hi,run_underlying h2,hl,hnew,hle]
 next h2=>
  cases base<;>simp [Builtin.append_,run_underlying hu,sizeOf,typeInfo,hi,run_underlying h2,hl,hnew,hle]
 .cases ht2
def EO need old e t:need<=(Question.appendCap need old e).cut t:=by
 simp [Question.cut]
def gJ {t t2 e ty i z}(hu:P.underlying t=J (.slice e))(hi:P.info? e=J i)(hz:i.zero=J z)(ht2:VZ P t2=W)
  {base sLen sCap m x} (hl:(Builtin.lenOf x).run P w= .ok m w) {nw old}
  (hnew:(Builtin.firstCells i.size m x).run P w.drew= .ok nw w.drew) (hold:(Builtin.firstCells i.size sLen (.slice base sLen sCap)).run P w.drew= .ok old w.drew) (hgt:sCap<sLen+m)
  (h63:((sLen+m:Nat):Int)<=9223372036854775807) (hfit:Builtin.nextslicecap (sLen+m) sCap * i.bytes<=281474976710656) :
  ∃cap,sLen+m<=cap/\(Builtin.append_ #[t,t2] ty #[.slice base sLen sCap,x]).run P w =
   .ok (.slice (J (ad w.heap.size 0)) (sLen+m) cap) (w.drew.alloc (.cells (old++nw++Builtin.zeroCells z.cells (cap - (sLen+m))) e)):=by
 refine ⟨(Question.appendCap (sLen+m) sCap e).cut (w.tape w.drawn (.appendCap (sLen+m) sCap e)),EO _ _ _ _,?_⟩;have hn:¬ (sLen+m<=sCap):=V
 have h63' :¬ (9223372036854775807<((sLen:Int)+(m:Int))):=V
 have aX6 :¬ (281474976710656<Builtin.nextslicecap (sLen+m) sCap * i.bytes):=V
 unfold VZ at ht2;split at ht2
 next e2 h2=>
  simp [Builtin.append_,run_underlying hu,sizeOf,typeInfo,hi,run_underlying h2,hl,hn,h63',aX6,Question.forced,hnew,hold,zeroValue,hz,newRow]
 next h2=>
  simp [Builtin.append_,run_underlying hu,sizeOf,typeInfo,hi,run_underlying h2,hl,hn,h63',aX6,Question.forced,hnew,hold,zeroValue,hz,newRow]
 .cases ht2
end
end Go.B3
namespace Go.B3
variable [E0]
section
variable {P:Program} {X:Cx} {l:H8} {S:Nat->Prop} {st:G4} {a:Act} {w w' :World} {G:Gh} {I:T0} {N:Nat->Prop} {f9:Nat->Bool} {j9:List o4}
theorem ki {w w2:World}(h:w2.heap=w.heap) x:w2.cell? x=w.cell? x:=by simp [World.cell?,h]
def gE x w:(loadCells x 0).run P w= .ok #[] w:=by rfl
def sM {H}(hH:HR G I N w H){y x}(hv:VR G I N w .none y x){sz m}(hsz:0<sz){cs}(h:C1 H sz y=J (m,cs)) :
  ∃vs:List Value,(Builtin.lenOf x).run P w= .ok m w/\(∀w2,w2.heap=w.heap->(Builtin.firstCells sz m x).run P w2= .ok vs.toArray w2)/\J5 G I N w cs vs/\O cs=m * sz:=by
 unfold C1 at h;split at h
 next len cells=>
  split at h
  .simp at h;obtain ⟨rfl,rfl⟩:=h
   rcases hv with ⟨rfl|⟨a0,rfl⟩,rfl,rfl⟩|⟨b,o,cap,rfl,h2,h3⟩
   .simp_all [Builtin.lenOf,Builtin.firstCells,J5]
   .simp_all [Builtin.lenOf,Builtin.firstCells,gE,J5]
   .obtain ⟨vs,g1,g2,g3⟩:=gl.vals (I:=I) (N:=N) o cells h3
    refine ⟨vs,by rfl,λw2 XX=>?_,g3,M⟩;have:=run_loadCells_list (P:=P) w2 (ad b o) vs (λj v hj=>by grind [aX,ki]);simp_all [Builtin.firstCells]
  .cases h
 next z len cells=>
  split at h
  next hz=>
   subst hz;simp at h;obtain ⟨rfl,rfl⟩:=h;have h0:=hv.F4 (zh := .none);simp only [VR] at hv
   rcases h0 with ⟨rfl|⟨a0,rfl⟩,rfl,rfl⟩|⟨b,o,cap,rfl,h2,h3⟩
   .simp_all [Builtin.lenOf,Builtin.firstCells,J5]
   .simp_all [Builtin.lenOf,Builtin.firstCells,gE,J5]
   .obtain ⟨vs,g1,g2,g3⟩:=gl.vals (I:=I) (N:=N) o cells h3
    refine ⟨vs,by rfl,λw2 XX=>?_,g3,M⟩;have:=run_loadCells_list (P:=P) w2 (ad b o) vs (λj v hj=>M);simp_all [Builtin.firstCells]
  .cases h
 next id z lo len=>
  split at h
  next hz=>
   subst hz;split at h
   next us hus=>
    simp at h;obtain ⟨rfl,rfl⟩:=h;obtain ⟨_,cap,rfl,_⟩:=hv
    by_cases h0:len * z=0
    .have hlen:us=[]:=by
      grind [rd]
     simp_all [Builtin.lenOf,J5,Builtin.firstCells,gE]
    .obtain ⟨_,xs,g1,g2,g3,g4⟩:=hH.rd hus V
     refine ⟨xs,by rfl,λw2 XX=>?_,T9 _ _ (by simp [g1,g2]) λj b v hj hv=>?_,M⟩
     .have:=run_loadCells_list (P:=P) w2 (ad (I id).1 ((I id).2+lo)) xs (λj v hj=>by grind [aX,ki])
      simp_all [Builtin.firstCells]
     .simp at hj
      obtain ⟨b',hb',rfl⟩:=hj;exact (g4 j b' v hb' hv).F4
   .cases h
  .cases h
 next s=>
  split at h
  next hz=>
   subst hz;simp at h;obtain ⟨rfl,rfl⟩:=h;subst hv;have hsize:(⟨s.toArray⟩:ByteArray).size=O s:=by rfl
   refine ⟨s.map λb=> .int .u8 b.toNat,by rfl,λw2 _=>?_,T9 _ _ U λj b v hj hv=>?_,U⟩
   .simp [Builtin.firstCells]
   grind [VR,DR]
  .cases h
 .cases h
def KT {b n n' pl}(hl:G b= .grow n pl)(hn:n<=n'){c e f}(hb:w.heap[b]? =J (.cells c e f)){c'}(hs:c'.size=c.size)
  (hc:∀i,i<n->c'[i]? =c[i]?):Ext G w (gR G b (.grow n' pl)) (w.setRow b c') where
 os:=rfl
 tape:=rfl
 output:=rfl
 drawn _:=o6 _
 size:=U
 mM b' o hi:=by
  by_cases he:b' =b
  .subst he
   have ho:o<n:=by simp_all [jS]
   refine ⟨by simp [jS];omega,?_⟩;rw [U5 (setRow_heap w b' c c' e f hb),U5 hb];exact hc o ho
  simp_all [jS,J1,World.cell?,setRow_other]
 still b' hb' :=by
  grind [J1,setRow_other]
 shape b' c0 e0 f0 h0:=by
  grind [setRow_heap,setRow_other]
def oG {b n n' pl q}(hl:G b= .grow n pl)(hq:q≠pl) c':bI q G w (gR G b (.grow n' pl)) (w.setRow b c'):=by
 intro b' m hb'
 grind [J1,setRow_other]
def xD {b n n' pl}(hl:G b= .grow n pl) c' id:∀b',G b' = .obj id->(gR G b (.grow n' pl)) b' = .obj id/\(w.setRow b c').heap[b']? =w.heap[b']? :=by
 grind [J1,setRow_other]
theorem cB.grow (h:RI X l S st a w G I N){k}(hk:¬ S k)(br:k<O st.L) entry{b n n'}(hl:G b= .grow n (.loc k))(hn:n<=n'){c e f}
  (hb:w.heap[b]? =J (.cells c e f)) {c'} (hs:c'.size=c.size) (hc:∀i,i<n->c'[i]? =c[i]?) {v x} (hv:VR (gR G b (.grow n' (.loc k))) I N (w.setRow b c') (.loc k) v x) :
  cB X l S entry st a w G I N (put st k v) k x (w.setRow b c') (gR G b (.grow n' (.loc k))) I N:=by
 have hx:=KT hl hn hb hs hc;refine ⟨⟨?_,?_,?_,?_,h.W9⟩,?_,hx,λid _=>⟨xD hl c' id,λoff=>oG hl U c'⟩,λid _ _=>⟨rfl,xD hl c' id⟩,λ_ _ _=>rfl,λ_ h=>h,o6 _,λ_ o _ ho=>Or.inr ⟨o,ho,o6 _⟩⟩
 .intro s t ht
  exact VR.mono hx (λ_ _=>rfl) (λ_ h=>h) _ _ _ (Or.inr (oG hl U c')) (h.T s t ht)
 .intro j hj d hd hn
  have:k≠j:=by grind
  simp only [B3.put];rw [P0 _ _ _ _ _ this];exact VR.mono hx (λ_ _=>rfl) (λ_ h=>h) _ _ _ (Or.inr (oG hl (by grind) c')) (h.L j hj d hd hn)
 .intro id o ho
  exact OR.mono hx (λ_ _=>rfl) (λ_ h=>h) id o (λhb=>xD hl c' id _ hb) (λoff=>oG hl U c') (h.H id o ho)
 .intro b' hb'
  simp at hb';have hne:b' ≠b:=by grind
  rw [J1 hne];exact h.wf b' hb'
 simp_all [B3.put,O3]
theorem qx:∀ xs,L5 (xs.map .d)=J xs
 |[]=>rfl
 |x::xs=>by simp [L5,c7.data?,qx xs]
def cB.aq8 {entry st1 st' G1 G' I' N' k x y v}(ht:Tk X l S st st1 a w G I N k v y G1)
  (h:cB X l S entry st1 a w G1 I N st' k x w' G' I' N'):cB X l S entry st a w G I N st' k x w' G' I' N' where
 ri:=h.ri
 val:=h.val
 ext:=ht.ext.trans h.ext
 ew:=mX.trans ht.ew h.ew
 ko id hN hh:=by
  obtain ⟨h1,h2⟩:=h.ko id hN hh;exact ⟨h1,λb hb=>h2 b (ht.obj b id hb)⟩
 inj:=h.inj
 mono:=h.mono
 len:=by rw [<- ht.len];exact h.len
 hle id o' hb ho' :=by
  rcases h.hle id o' hb ho' with h1|⟨o,h1,h2⟩
  .omega
  .obtain ⟨o2,h3,h4⟩:=ht.hle id o h1
   grind
def fA (P:Program)(ck:Operand->z6->Bool)(o:Oper)(op:s7):Bool :=
 match o.op,op with
 | .call ⟨.builtin .append,args,argTypes⟩,.append sz bytes _ x' y' =>
  (match args.toList,argTypes.toList with
   |[x,y],[t,t2]=>ck x x' &&ck y y' &&VZ P t2&&decide (0<sz)&&(match P.underlying t with
    |some (.slice e)=>(match P.info? e with
     |some i=>i.size==sz&&i.bytes==bytes&&decide (0<bytes)&&(match i.zero with|some z=>z.cells.size==sz|none=>F)
     |none=>F)
    |_=>F)
   |_,_=>F)
 |_,_=>F
def eP {ck o sz bytes ob x' y'}(h:fA P ck o (.append sz bytes ob x' y')=W) :
  ∃x y t t2 e i z,o.op= .call ⟨.builtin .append,#[x,y],#[t,t2]⟩/\ck x x' =W/\ck y y' =W/\VZ P t2=W/\0<sz/\P.underlying t=J (.slice e)/\P.info? e=J i/\i.size=sz/\i.bytes=bytes/\i.zero=J z/\z.cells.size=sz/\0<bytes:=by
 unfold fA at h;split at h
 next args argTypes sz' bytes' ob' x1 y1 qF lK=>
  cases lK;split at h
  next x y t t2 ha ht=>
   simp [c8,decide_eq_true_eq] at h;obtain ⟨⟨⟨⟨h1,h2⟩,h3⟩,h4⟩,h5⟩:=h;split at h5
   next e he=>
    split at h5
    next i hi=>
     simp [c8,beq_iff_eq,decide_eq_true_eq] at h5;obtain ⟨⟨⟨h6,h7⟩,h9⟩,h8⟩:=h5;split at h8
     next z hz=>
      refine ⟨x,y,t,t2,e,i,z,?_,h1,h2,h3,h4,he,hi,h6,h7,hz,M,h9⟩;simp_all<;>grind
     .cases h8
    .cases h5
   .cases h5
  .cases h
 .cases h
end
end Go.B3
namespace Go.B3
variable [E0]
section
variable {P:Program} {X:Cx} {l:H8} {S:Nat->Prop} {st:G4} {a:Act} {w w' :World} {G:Gh} {I:T0} {N:Nat->Prop} {f9:Nat->Bool} {j9:List o4}
def sJ {n bytes old}(h:roomFor n bytes=W)(hlt:old<n):Builtin.nextslicecap n old * bytes<=281474976710656:=by
 have h1:(2 * n+512) * bytes<=281474976710656:=by grind [roomFor]
 have h2:=nextslicecap_le hlt;exact A3 (K4 _ V) h1
def Bm {n bytes}(h:roomFor n bytes=W)(hb:0<bytes):((n:Nat):Int)<=9223372036854775807:=by
 have h1:(2 * n+512) * bytes<=281474976710656:=by grind [roomFor]
 have h2:(2 * n+512) * 1<=(2 * n+512) * bytes:=Nat.mul_le_mul_left _ hb;omega
def ak0 (hwf:WF G w){e c}(hn:kE w w' (.cells c e)){xs ys vo vn}(ho:J5 G I N w (xs.map .d) vo)(hy:J5 G I N w (ys.map .d) vn){rest}
  (hc:c=vo.toArray++vn.toArray++rest) {sz n cap} (hl:O (xs++ys)=n * sz) (hcap:n<=cap) (hsz:cap * sz<=c.size) {pl} (hp:pl≠ .none) :
  VR (gR G w.heap.size (.grow (n * sz) pl)) I N w' pl (.own sz n (xs++ys)) (.slice (J (ad w.heap.size 0)) n cap):=by
 refine RN hwf hn (og _) (qx (xs++ys)) (vs:=vo++vn) (by simp_all [List.map_append,J5.append]) (λi v hi=>?_) hl hcap hsz hp
 grind
def wu z n:(Builtin.zeroCells z n).size=n * z.size:=by simp [Builtin.zeroCells]
def OW (h:RI X l S st a w G I N)(hpv:PV X j9 S st a w I)(hT:O st.T=O X.names)(hD:∀j,f9 j=W->S j){k}(hk:¬ S k)(br:k<O st.L) entry{o sz bytes x y}
  (hc:fA P (X.ck f9) o (.append sz bytes F x y)=W) {E} (hE:E.lim=l) {y4 st'} (he:K0 E j9 y4 k sz bytes F st x (G5 st.T st.L y)=J st') :
  ∃v w' G',(execOp a.eval o).run P w= .ok (.value v) w' /\cB X l S entry st a w G I N st' k v w' G' I N:=by
 obtain ⟨x0,y0,t,t2,e,i,z,hop,Ri,hcy,ht2,hsz,hu,hi,hsi,XK,hz,hzs,hbp⟩:=eP hc;unfold K0 at he;rw [hE] at he;split at he
 next m cs hcs=>
  simp only [e8,if_false] at he;split at he
  next new hnew=>
   split at he
   next len cells st1 htk=>
    split at he
    next hroom=>
     simp at he;subst he;obtain ⟨vn,hl,hf,Ws,hcl⟩:=sM (P:=P) h.H (h.R4 hD _ _ hcy) hsz hcs;obtain ⟨G1,KU⟩:=tI h hpv hT hD hk Ri htk;have hdn:=jg cs new vn hnew Ws;have bI9 :J5 G I N w (new.map .d) vn:=by
      grind [T9,J5.length,C5,VR]
     have aK7:J5 G1 I N w (new.map .d) vn:=J5.mono KU.ext (λ_ _=>rfl) (λ_ h=>h) _ _ bI9;have ba2:O new=m * sz:=V
     have yU:O vn=m * sz:=by grind [J5.length]
     have vA:(execOp a.eval o).run P w=((Builtin.append_ #[t,t2] o.type #[a.eval x0,a.eval y0]).run P w).andThen λv w' => .ok (.value v) w' :=by
      simp_all [guard,execOp,resolve,invoke,builtin]
     have hval:=KU.val;simp only [VR] at hval;obtain ⟨hcells,hval⟩:=hval;subst hsi XK;have out:∀base sCap,a.eval x0= .slice base len sCap->sCap<len+m->(∃vo:List Value,(∀w2:World,w2.heap=w.heap->(Builtin.firstCells i.size len (.slice base len sCap)).run P w2= .ok vo.toArray w2)/\J5 G1 I N w (cells.map .d) vo) ->
       ∃v w' G',(execOp a.eval o).run P w= .ok (.value v) w' /\cB X l S entry st a w G I N (put st1 k (.own i.size (len+m) (cells++new))) k v w' G' I N:=by
      rintro base sCap hx hlt ⟨vo,ho1,ho2⟩;obtain ⟨cap,hcap,hrun⟩:=gJ (P:=P) (w:=w) (ty:=o.type) hu hi hz ht2 (base:=base) (sLen:=len) (sCap:=sCap) hl (hf w.drew rfl) (ho1 w.drew rfl) hlt (Bm hroom.1 hbp) (sJ hroom.1 hlt);have hnb:kE w (w.drew.alloc (.cells (vo.toArray++vn.toArray++Builtin.zeroCells z.cells (cap - (len+m))) e)) (.cells (vo.toArray++vn.toArray++Builtin.zeroCells z.cells (cap - (len+m))) e):=by
       have:=kE.alloc w.drew (.cells (vo.toArray++vn.toArray++Builtin.zeroCells z.cells (cap - (len+m))) e);exact ⟨this.os,this.tape,this.output,A3 (Nat.le_succ _) this.drawn,this.size,this.old,this.new⟩
      have hvo:O vo=len * i.size:=by grind [J5.length,C5]
      refine ⟨_,_,_,?_,cB.aq8 KU (cB.fresh KU.ri hk (by rw [KU.L];exact br) entry hnb (.grow ((len+m) * i.size) (.loc k)) (ak0 KU.ri.wf hnb ho2 aK7 rfl ?_ hcap ?_ U))⟩
      .simp_all
      .grind
      .simp only [Array.size_append,List.size_toArray,wu,hzs,hvo,yU]
       have:cap * i.size=(len+m) * i.size+(cap - (len+m)) * i.size:=by rw [<- Nat.add_mul];simp_all
       grind
     rcases hval with ⟨hnil,aZ7⟩|⟨_,b,off,cap,c,e',f,h1,h2,h3,h4,h5,h6,h7⟩
     .subst aZ7
      have hc0:cells=[]:=M
      subst hc0;have hbase:∃base:Option Addr,a.eval x0= .slice base 0 0/\(base=K\/∃b o,base=J (ad b o)):=by
       grind
      obtain ⟨base,hx,hbb⟩:=hbase
      by_cases hm:m=0
      .subst hm
       have Lc:new=[]:=M
       have hvv:vn=[]:=M
       subst Lc hvv;have hrun:=eC (P:=P) (w:=w) (ty:=o.type) hu hi ht2 (base:=base) (sLen:=0) (sCap:=0) hl (hf w rfl) (o6 _);refine ⟨.slice base 0 0,w,G1,?_,cB.aq8 KU (cB.same KU.ri hk (by rw [KU.L];exact br) entry ?_)⟩
       .rw [vA,hx,hrun]
        cases base<;>simp [storeCells]
       simp_all [VR]
      .refine out base 0 hx V ⟨[],λw2 _=>?_,by simp [J5]⟩
       cases base<;>simp [Builtin.firstCells,gE]
     .by_cases hfit:len+m<=cap
      .have hrun:=eC (P:=P) (w:=w) (ty:=o.type) hu hi ht2 (base:=J (ad b off)) (sLen:=len) (sCap:=cap) hl (hf w rfl) hfit
       have hsize:off+len * i.size+O vn<=c.size:=by
        rw [yU];have:(len+m) * i.size<=cap * i.size:=K4 _ hfit
        grind
       have hone:Ff vn:=by
        intro u hu';obtain ⟨j,hj,rfl⟩:=O8 hu';have hj2:j<O (new.map c7.d):=by grind
        obtain ⟨u',g1,g2⟩:=J5.get _ _ aK7 j _ (n5 hj2);rw [n5 hj] at g1;cases g1;exact (nK (by simp [c7.one]) g2).1
       have hst:=run_storeCells_at (P:=P) b (off+len * i.size) e' f vn 0 c w h3 h5 V hone;simp only [Nat.add_zero] at hst;have yR :off+len * i.size+O vn<=O c.toList:=V
       have ux :(L6 c.toList (off+len * i.size) vn).toArray.size=c.size:=by simp_all [lX]
       have hkeep:∀j,j<off+len * i.size->(L6 c.toList (off+len * i.size) vn).toArray[j]? =c[j]? :=by
        grind [L6]
       refine ⟨.slice (J (ad b off)) (len+m) cap,w.setRow b (L6 c.toList (off+len * i.size) vn).toArray,_,?_,
        cB.aq8 KU (cB.grow KU.ri hk (by rw [KU.L];exact br) entry h6 (n' :=off+(len+m) * i.size) (by grind) h3 ux hkeep ?_)⟩
       .simp_all [aX,Result.andThen_ok]
       .have hx:=KT h6 (n' :=off+(len+m) * i.size) (by grind) h3 ux hkeep
        simp only [VR];refine ⟨by grind,Or.inr ⟨U,b,off,cap,_,e',f,rfl,hfit,setRow_heap w b c _ e' f h3,V,M,U,?_⟩⟩;refine BD off _ λj d hj=>?_
        have hjl:=y9 hj;rw [s9,hcells,ba2] at hjl;refine ⟨by simp_all [jS]<;>grind,?_⟩;rw [U5 (setRow_heap w b c _ e' f h3),show (L6 c.toList (off+len * i.size) vn).toArray[off+j]? =(L6 c.toList (off+len * i.size) vn)[off+j]? from by simp,lV _ _ _ yR]
        by_cases Rk:j<len * i.size
        .rw [if_pos V]
         rw [s8 V] at hj;obtain ⟨vs,q1,q2,q3⟩:=gl.vals (I:=I) (N:=N) off cells h7;have hjv:j<O vs:=V
         have q4:=q2 j _ (n5 hjv);rw [U5 h3] at q4;refine ⟨vs[j],M,?_⟩;obtain ⟨u,r1,r2⟩:=J5.get _ _ q3 j (.d d) (by simp [hj]);rw [n5 hjv] at r1;cases r1;simp only [VR] at r2;exact DR.mono hx.mM _ _ r2
        .rw [if_neg V,if_pos V]
         rw [q9 V,hcells] at hj;obtain ⟨u,r1,r2⟩:=J5.get _ _ aK7 (j - len * i.size) (.d d) (by simp [hj]);refine ⟨u,by grind,?_⟩;simp only [VR] at r2;exact DR.mono hx.mM _ _ r2
      .refine out (J (ad b off)) cap h1 V ?_
       obtain ⟨vs,q1,q2,q3⟩:=gl.vals (I:=I) (N:=N) off cells h7;refine ⟨vs,λw2 XX=>?_,q3⟩;have:=run_loadCells_list (P:=P) w2 (ad b off) vs (λj v hj=>by grind [aX,ki]);simp_all [Builtin.firstCells]
    .cases he
   .cases he
  .cases he
 .cases he
end
end Go.B3
namespace Go.B3.d7
abbrev k (n:Int):z6:= .const (.d (.int .i64 n))
abbrev kt:z6:= .const (.d (.bool W))
abbrev kf:z6:= .const (.d (.bool F))
abbrev z0:c7:= .d (.int .i64 0)
abbrev zs:c7:= .d (.str [])
abbrev zb:c7:= .d (.bool F)
abbrev w (n:Nat):c7:= .own n 0 []
abbrev l (n:Nat):z6:= .loc n
abbrev s (n:Nat):z6:= .slot n
abbrev i0 (o:s7):o4:=⟨o,K,K,[]⟩
abbrev i1 (o:s7)(d:Nat):o4:=⟨o,J d,K,[]⟩
abbrev it (o:s7)(j:Nat):o4:=⟨o,K,J (j,W),[]⟩
abbrev if_ (o:s7)(j:Nat):o4:=⟨o,K,J (j,F),[]⟩
abbrev i3 (o:s7)(u:List Nat):o4:=⟨o,K,K,u⟩
abbrev ms (n:Nat):o4:=⟨.S1 (.slot n),K,K,[]⟩
abbrev ml (n:Nat):o4:=⟨.S1 (.loc n),K,K,[]⟩
abbrev os (a n:Nat):o4:=⟨.off a (.slot n),K,K,[]⟩
abbrev ol (a n:Nat):o4:=⟨.off a (.loc n),K,K,[]⟩
abbrev ld (n:Nat):o4:=⟨.load K (.loc n),K,K,[]⟩
abbrev sq:=p6.seq
abbrev rg:=p6.region
abbrev te:=p6.test
abbrev sk:=p6.skip
def sh t{x}(h:t=x:=by dsimp only [k,kt,kf,z0,zs,zb,w,l,s,i0,i1,it,if_,i3,ms,ml,os,ol,ld,sq,rg,te,sk]):{ x:q6 // t=x }:=⟨x,h⟩
abbrev F7 (x:List o4):p6:= .region x F
abbrev eB (x:List o4):p6:= .region x W
abbrev R6 (x:List o4)(c:z6)(a b:p6):p6:= .test x F c a b
abbrev pZ (x:List o4)(c:z6)(a b:p6):p6:= .test x W c a b
abbrev u:Bool:=W
abbrev e:Bool:=F
abbrev sr (x:List o4)(c:p6):p6:= .seq (.region x F) c
abbrev su (x:List o4)(o:z6)(a b c:p6):p6:= .seq (.test x F o a b) c
abbrev blk:=p6.block
abbrev lop:=p6.loop
abbrev Y9:=p6.exit
abbrev D6 (f:FuncId)(xs:List z6):o4:=⟨.call f xs,K,K,[]⟩
abbrev app (sz bytes:Nat)(ob:Bool)(x y:z6):o4:=⟨.append sz bytes ob x y,K,K,[]⟩
abbrev R5 (n:Nat)(a x:z6):o4:=⟨.store n a x,K,K,[]⟩
abbrev G6 (op:BinOp)(x y:z6):o4:=⟨.bin op x y,K,K,[]⟩
abbrev W8 (c a b:z6):o4:=⟨.pick c a b,K,K,[]⟩
abbrev lJ (zero:List c7)(parts:List (Nat×Nat×z6)):o4:=⟨.build zero parts,K,K,[]⟩
abbrev fZ (sz len:Nat)(zero:List c7)(parts:List (Nat×Nat×z6))(ob:Bool):o4:=⟨.J3 sz len zero parts ob,K,K,[]⟩
abbrev U9 (sz:Nat)(x i:z6):o4:=⟨.J4 sz x i,K,K,[]⟩
abbrev bD (n:Option Nat)(x:z6):o4:=⟨.load n x,K,K,[]⟩
abbrev bL4 (k:Nat)(x:z6):o4:=⟨.off k x,K,K,[]⟩
abbrev ZF (sz:Nat)(x:z6)(lo hi:Option z6):o4:=⟨.Z0 sz x lo hi,K,K,[]⟩
abbrev vu (x:z6)(i:Nat):o4:=⟨.extract x i,K,K,[]⟩
abbrev le0 (x:z6):o4:=⟨.Y0 x,K,K,[]⟩
abbrev un0 (op:UnOp)(x:z6):o4:=⟨.un op x,K,K,[]⟩
abbrev bB5 (zero:List c7):o4:=⟨.alloc zero,K,K,[]⟩
abbrev D8:z6:=k 0
abbrev jv:s7:= .S1 D8
abbrev B9:z6:=l 0
abbrev jE:s7:= .S1 B9
abbrev C3:z6:=l 1
abbrev E7:z6:=k 1
abbrev zq4:s7:= .bin .add B9 E7
abbrev o9:o4:=ms 0
abbrev aW:o4:=os 0 3
abbrev C8:o4:=ld 1
abbrev E4:z6:=l 2
abbrev F3:z6:=l 3
abbrev lE:s7:= .S1 F3
abbrev mA:o4:=i1 lE 4
abbrev D0:o4:=ms 4
abbrev bn8:s7:= .bin .neq B9 D8
abbrev eN:o4:=i0 bn8
abbrev mC:o4:=i1 jE 2
abbrev zq5:p6:=sq (F7 [o9,aW,C8,D6 209 [B9,E4],mA]) (R6 [D0,eN] C3 (sr [D0,mC] .ret) sk)
abbrev Z1:z6:=s 2
abbrev zq7:s7:= .load (J 8) Z1
abbrev AV:s7:= .S1 C3
abbrev z7:z6:=l 4
abbrev AO:s7:= .S1 (.const (w 1))
abbrev Q3:s7:= .S1 (s 0)
abbrev rO:o4:=i1 jv 2
abbrev iS:p6:=F7 [rO]
abbrev yw:s7:= .alloc [(w 4),(w 9),(w 3),(w 6),(w 4),(w 3),(w 2),(w 3)]
abbrev B7:z6:=l 5
abbrev Qs:s7:= .S1 (.const (.d (.int .i64 (-1))))
abbrev Wj:s7:= .box (s 0)
abbrev D2:z6:=l 6
abbrev bn4:s7:= .bin .lss B9 E4
abbrev AP:s7:= .S1 kf
abbrev aK:z6:=s 3
abbrev Qt:s7:= .load (J 8) aK
abbrev Fp:s7:= .load K z7
abbrev T8:z6:=s 6
abbrev An:o4:=i1 jv 8
abbrev X8:z6:=s 8
abbrev R3:z6:=s 7
abbrev GL:p6:=R6 [G6 .lss X8 R3] B9 sk (Y9 0)
abbrev y5:o4:=ld 0
abbrev wM:o4:=i1 AV 3
abbrev J6:o4:=ms 2
abbrev K2:o4:=ms 3
abbrev ax0:s7:= .len C3
abbrev N9:o4:=i0 ax0
abbrev nW:o4:=i1 lE 2
abbrev aE7:s7:= .bin .lss B9 D8
abbrev wS:o4:=i0 aE7
abbrev tX:o4:=i1 jE 8
abbrev GQ:p6:=F7 [G6 .add X8 E7,tX]
abbrev aS0:p6:=sq (F7 [i1 Q3 6,i1 (.len T8) 7,An]) (blk 0 (lop [u,e,u,e,e,e,u,u,u,e,e,e] (sq GL (sq (blk 1 (sr [U9 1 T8 X8,y5,wM] (sr [J6,K2,N9,G6 .add B9 E4,nW] (R6 [J6,wS] C3 (F7 [i0 (.bad),i0 (.bad)]) sk)))) GQ))))
abbrev bn5:s7:= .bin .lss B9 F3
abbrev E2:z6:=l 7
abbrev C2:o4:=ms 5
abbrev jR:o4:=i0 zq4
abbrev tW:o4:=i1 AV 5
abbrev uM:p6:=F7 [C2,jR,tW]
abbrev GN:s7:= .len B9
abbrev tZ:o4:=i1 jv 5
abbrev GZ:p6:=F7 [o9,i1 GN 4,tZ]
abbrev S6:z6:=s 5
abbrev T5:z6:=s 4
abbrev GM:p6:=R6 [G6 .lss S6 T5] B9 sk (Y9 0)
abbrev ig:o4:=i1 jE 3
abbrev Qv:p6:=F7 [C2,ig]
abbrev z8:o4:=ms 1
abbrev aF5:s7:= .J4 1 C3 E4
abbrev wN:o4:=i0 aF5
abbrev L8:o4:=ld 3
abbrev yy:p6:=sq (F7 [K2,mC]) .ret
abbrev bM:o4:=i1 jE 5
abbrev GR:p6:=F7 [G6 .add S6 E7,bM]
abbrev wv:p6:=sq (F7 [i1 Qs 2]) .ret
abbrev aS1:p6:=sq iS (sq (sq GZ (blk 0 (lop [u,u,e,e,u,u] (sq GM (sq (blk 1 (sq Qv (R6 [z8,o9,K2,wN,L8,G6 .eql B9 z7] B7 yy sk))) GR))))) wv)
abbrev JX:s7:= .alloc [zs,z0,zs,zs,(w 2),(w 5),(w 2),zb,(w 3)]
abbrev Fq:p6:=R6 [G6 .lss (s 9) X8] B9 sk (Y9 0)
abbrev mB:o4:=i1 AV 4
abbrev wF:p6:=F7 [D0,jR,mB]
abbrev F8:z6:=l 8
abbrev pV:s7:= .S1 E7
abbrev pX:s7:= .load K B7
abbrev yx:p6:=F7 [i1 AP 2]
abbrev AQ:s7:= .S1 (.const (w 2))
abbrev bn6:s7:= .J3 1 1 [zs] [(0,1,D2)] e
abbrev K8:z6:=l 10
abbrev X7:z6:=s 1
abbrev dX:s7:= .S1 X7
abbrev ax1:s7:= .len E4
abbrev gh:s7:= .load K B9
abbrev wJ:o4:=i1 AP 3
abbrev L3:o4:=ml 2
abbrev cM:s7:= .S1 Z1
abbrev aE1:s7:= .pick F3 D2 kf
abbrev nX:o4:=i0 aE1
abbrev bG:s7:= .S1 E2
abbrev ax2:p6:=sq (F7 [wJ]) (sr [o9,z8,G6 .geq B9 C3,L3,it Q3 3,it cM 3,it (.bin .leq z7 B7) 3,nX,i1 bG 3] .ret)
abbrev Ee:s7:= .J3 1 0 [] [] e
abbrev jL:s7:= .S1 aK
abbrev F6:z6:=l 9
abbrev S4:z6:=l 11
abbrev Ac:s7:= .S1 S4
abbrev bn7:p6:=sq (eB [i0 Ee,o9,K2,ZF 1 C3 K (J E4),app 1 8 e B9 F3,i3 dX [4],i3 (.J3 1 1 [z0] [(0,1,B7)] e) [4],app 1 8 e z7 D2,i3 Q3 [4,7],i3 jL [4,7],i3 (.Z0 1 F8 (J F6) K) [4,7],app 1 8 e E2 K8,i1 Ac 2]) .ret
abbrev cO:o4:=i1 jv 3
abbrev Ft:p6:=F7 [cO]
abbrev bP:o4:=i0 bn4
abbrev S5:o4:=ml 3
abbrev nQ:s7:= .load K E2
abbrev Ae:o4:=it dX 4
abbrev zN:p6:=F7 [K2,jR,wM]
abbrev TH:p6:=sq (F7 [o9,mC]) .ret
abbrev aS2:p6:=sq Ft (sq (blk 0 (lop [u,u,e,u] (su [K2,o9,N9,bP,S5,it Q3 4,it jL 4,it (.J4 1 B7 D2) 4,it nQ 4,Ae,it (.bin .lss F8 F6) 4,W8 z7 K8 kf] S4 sk (Y9 0) (blk 1 zN)))) (su [K2,o9,N9,bP,S5,it Q3 4,it jL 4,it (.J4 1 B7 D2) 4,it nQ 4,Ae,it (.bin .eql F8 F6) 4,W8 z7 K8 kf] S4 TH sk bn7))
abbrev Fs:p6:=F7 [G6 .add (s 9) E7,i1 jE 9]
abbrev wK:o4:=i1 Wj 2
abbrev wX:s7:= .box X7
abbrev Af:o4:=i1 wX 3
abbrev fT:o4:=i1 jv 4
abbrev Ot:p6:=F7 [wK,Af,fT]
abbrev aF:o4:=os 0 2
abbrev N8:o4:=ld 2
abbrev rK:s7:= .off 1 Z1
abbrev mh:s7:= .off 1 aK
abbrev aS3:p6:=sq Ot (sq (eB [aF,y5,aW,N8,D6 83 [C3,F3],i3 rK [4],i3 pX [4],i3 mh [4],i3 nQ [4],D6 83 [D2,F8],fZ 1 2 [z0,z0] [(0,1,z7),(1,1,F6)] e,D6 82 [K8],i1 Ac 4]) .ret)
abbrev uN:p6:=F7 [fT]
abbrev dJ:z6:= .const zs
abbrev bn9:s7:= .bin .neq C3 dJ
abbrev fU:o4:=os 1 1
abbrev wC:s7:= .off 1 X7
abbrev eM:o4:=it Fp 3
abbrev MV:s7:= .load K F6
abbrev Ad:o4:=it MV 8
abbrev Oc:s7:= .pick F8 S4 kf
abbrev Q1:z6:=l 12
abbrev Ab:s7:= .S1 Q1
abbrev bo0:p6:=sq (F7 [fU,y5,G6 .geq C3 (.const (.d (.int .i64 (-4294967296)))),L3,it wC 3,eM,it (.bin .leq B7 (k 4294967296)) 3,nX,ml 7,it (.off 2 X7) 8,Ad,it (.bin .eql K8 dJ) 8,i0 Oc,i1 Ab 2]) .ret
abbrev fV:o4:=os 0 1
abbrev W4:o4:=ml 0
abbrev bo3:s7:= .bin .eql C3 D8
abbrev iq:o4:=i0 bo3
abbrev N4:z6:=k 2
abbrev aE9:s7:= .pick F3 E2 kf
abbrev wQ:o4:=i0 aE9
abbrev mU:s7:= .S1 F8
abbrev wG:p6:=sq yx .ret
abbrev aS4:p6:=sq (sr [fV,i1 gh 3] (blk 0 (R6 [G6 .eql aK D8,W4] C3 (sr [fU,y5,iq,L3,it (.off 2 X7) 3,eM,it (.bin .eql B7 dJ) 3,nX,i1 bG 2] .ret) (R6 [G6 .eql aK E7,W4] C3 bo0 (R6 [G6 .eql aK N4,W4] C3 (sr [fU,y5,iq,L3,it (.off 2 X7) 3,eM,it (.Y0 B7) 3,it (.bin .leq D2 (k 32)) 3,wQ,i1 mU 2] .ret) sk))))) wG
abbrev yz:p6:=sq (F7 [wJ]) .ret
abbrev cm:s7:= .S1 E4
abbrev kg:s7:= .load K D2
abbrev EA:p6:=sq (F7 [D0,ig]) .ret
abbrev AR:p6:=F7 [i1 AP 1]
abbrev AS:p6:=sq (F7 [i1 pV 2]) .ret
abbrev AU:p6:=sq (F7 [i1 pV 4]) .ret
abbrev ax4:s7:= .cH B9
abbrev E8:o4:=ms 6
abbrev Ak:o4:=i1 AV 6
abbrev EB:p6:=F7 [E8,jR,Ak]
abbrev dA:s7:= .S1 B7
abbrev Qu:p6:=R6 [K2,o9,N9,bP] F3 sk (Y9 0)
abbrev rW:p6:=F7 [tZ]
abbrev bo1:s7:= .load (J 8) X7
abbrev cN:z6:=k 3
abbrev pI:o4:=i1 jE 4
abbrev fR:z6:=k 16
abbrev aS5:p6:=sq (F7 [G6 .eql Z1 cN,pI]) (.cond T5 sk (sr [G6 .eql Z1 (k 9),pI] (.cond T5 sk (sr [G6 .eql Z1 (k 13),pI] (.cond T5 sk (F7 [G6 .eql Z1 fR,pI]))))))
abbrev mT:s7:= .S1 z7
abbrev Oo:s7:= .alloc [zs,z0,zs,zs,(w 1),z0,z0]
abbrev bo2:s7:= .J4 1 B9 C3
abbrev gN:s7:= .S1 T5
abbrev S7:z6:=l 13
abbrev JY:s7:= .append 1 16 e B9 E2
abbrev cg:o4:=os 1 3
abbrev HS:s7:= .extract D2 0
abbrev HT:s7:= .extract D2 1
abbrev aS6:p6:=sq (F7 [o9,cg,C8,os 2 3,L8,D6 222 [B9,E4,z7],ml 5,i0 HS,i0 HT,ml 7,i1 mU 5]) (R6 [C2,eN] C3 (sr [C2,mC] .ret) sk)
abbrev bo4:s7:= .bin .eql C3 N4
abbrev yA:s7:= .load K S4
abbrev gT:s7:= .S1 S6
abbrev bo5:s7:= .bin .eql B9 D8
abbrev iT:s7:= .S1 D2
abbrev sY:s7:= .load K Q1
abbrev P4:o4:=i0 ax1
abbrev aD:o4:=i0 bn5
abbrev Ew:s7:= .J4 4 E4 F3
abbrev aG:o4:=ld 5
abbrev rU:o4:=i0 bn6
abbrev tT:o4:=i1 mU 3
abbrev aS7:p6:=sq (R6 [D0,fV,C8,P4,aD] z7 sk (Y9 0)) (sq (blk 1 (F7 [K2,fV,C8,D0,i0 Ew,ol 0 4,aG,rU,i0 JY,tT])) wF)
abbrev aS8:p6:=sq (R6 [C2,fU,C8,P4,aD] z7 sk (Y9 2)) (sq (blk 3 (F7 [K2,fU,C8,C2,U9 9 E4 F3,ol 0 4,aG,rU,i0 JY,tT])) uM)
abbrev X6:z6:=l 16
abbrev wY:s7:= .load K X6
abbrev Ou:p6:=F7 [i1 AO 3]
abbrev aD4:s7:= .bin .eql C3 E7
abbrev P3:z6:=l 14
abbrev Y6:o4:=ml 1
abbrev aE4:s7:= .pick E4 z7 kf
abbrev rP:o4:=i0 aE4
abbrev ab5:p6:=sq AR (sr [o9,G6 .geq B9 (.const (.d (.int .u8 97))),Y6,it Q3 2,it (.bin .leq F3 (.const (.d (.int .u8 122)))) 2,rP,i1 dA 1] .ret)
abbrev DX:s7:= .len z7
abbrev ab6:p6:=sq AR (sr [o9,G6 .geq B9 (.const (.d (.int .u8 48))),Y6,it Q3 2,it (.bin .leq F3 (.const (.d (.int .u8 57)))) 2,rP,i1 dA 1] .ret)
abbrev zI:p6:=F7 [wK,i1 AO 3]
abbrev wL:o4:=i1 Wj 1
abbrev zJ:p6:=F7 [wL,i1 AP 2]
abbrev zK:p6:=F7 [wK,wJ]
abbrev aD5:s7:= .load (J 2) B9
abbrev zL:s7:= .build [z0,z0,zs] []
abbrev zM:p6:=F7 [rO,cO]
abbrev tL:s7:= .load K F8
abbrev aD6:s7:= .un .not E4
abbrev jP:o4:=os 1 2
abbrev ij:o4:=i0 DX
abbrev Oa:s7:= .bin .sub E4 B7
abbrev ab7:p6:=F7 [jP,y5,z8,aF,L8,ij,i0 Oa,U9 9 C3 D2,bD (J 9) E2,i1 JX 4,R5 9 T5 F8]
abbrev Q0:z6:=l 15
abbrev DY:s7:= .alloc [z0,z0,zs]
abbrev rH:p6:=F7 [i1 jv 6]
abbrev K5:o4:=ms 7
abbrev DZ:p6:=F7 [K5,jR,i1 AV 7]
abbrev Sx:s7:= .J4 1 B9 E4
abbrev nP:s7:= .load K K8
abbrev aD7:s7:= .load (J 3) B9
abbrev aD8:s7:= .bin .gtr E4 D8
abbrev MN:p6:=R6 [G6 .lss T8 S6] B9 sk (Y9 0)
abbrev eH:s7:= .S1 T8
abbrev lF:o4:=i0 bo1
abbrev wI:o4:=i1 mT 3
abbrev ab8:p6:=sq (F7 [wJ]) (sq (eB [lF,o9,D6 71 [B9,C3],i3 (.load K Z1) [2],D6 72 [E4,F3],wI]) .ret)
abbrev Ea:p6:=sq (F7 [i1 AP 4]) .ret
abbrev tM:s7:= .bin .eql D2 D8
abbrev Am:o4:=i1 jv 9
abbrev MO:p6:=F7 [i1 dX 7,i1 (.len R3) 8,Am]
abbrev aD9:s7:= .un .not C3
abbrev lD:p6:=sq iS .ret
abbrev GO:s7:= .J3 1 1 [z0] [(0,1,C3)] e
abbrev Sy:p6:=sq (F7 [bD (J 9) S6,R5 9 T5 B9]) .ret
abbrev GP:p6:=sq (F7 [J6,i1 jE 1]) .ret
abbrev hU:s7:= .len D2
abbrev zP:s7:= .S1 (k 5)
abbrev T6:o4:=i0 zq7
abbrev aF3:s7:= .extract E4 0
abbrev wP:o4:=i0 aF3
abbrev aF4:s7:= .extract E4 1
abbrev wO:o4:=i0 aF4
abbrev ab9:p6:=F7 [T6,D6 101 [B9],Y6,wP,wO,vu E4 2,mA,ml 4,i1 dA 5]
abbrev zQ:p6:=F7 [i1 AO 1]
abbrev Al:o4:=i1 jE 6
abbrev MP:p6:=F7 [G6 .add T8 E7,Al]
abbrev W0:z6:=l 17
abbrev aE0:s7:= .bin .lss B9 C3
abbrev cn:o4:=ms 9
abbrev GS:p6:=F7 [cn,jR,i1 AV 9]
abbrev T7:o4:=ms 8
abbrev GU:p6:=F7 [T7,jR,i1 AV 8]
abbrev GV:p6:=F7 [J6,jR,i1 AV 2]
abbrev rI:s7:= .alloc [z0,z0]
abbrev Eb:s7:= .alloc [zs,(w 7),z0,z0]
abbrev gM:o4:=i0 bo2
abbrev fW:o4:=ld 6
abbrev ac0:p6:=pZ [o9,K2,gM,N8,z8,K2,U9 1 z7 B7,fW,G6 .neq F3 E2] F8 wG sk
abbrev MQ:s7:= .build [z0,z0] [(0,1,B9),(1,1,C3)]
abbrev HI:s7:= .call 22 [C3,F3]
abbrev HK:s7:= .J4 1 B9 z7
abbrev oa:o4:=os 3 5
abbrev ac3:p6:=F7 [J6,o9,J6,P4,i0 HI,i0 HK,aG,oa,R5 1 E2 D2]
abbrev MR:p6:=F7 [wK,Af,i1 AP 4]
abbrev rV:o4:=ol 1 4
abbrev Ob:s7:= .bin .lss B9 E2
abbrev ac4:p6:=R6 [C2,aF,C8,z8,i0 Ew,rV,aG,i0 hU,i0 Ob] F8 sk (Y9 0)
abbrev GW:p6:=F7 [wL,i1 AO 2]
abbrev me:s7:= .off 0 aK
abbrev mg:s7:= .off 2 aK
abbrev tN:s7:= .load K W0
abbrev aE2:s7:= .load (J 2) E4
abbrev aE3:s7:= .pick z7 kt F8
abbrev Z3:z6:=l 18
abbrev rJ:s7:= .S1 cN
abbrev Ec:s7:= .S1 (k 7)
abbrev MS:s7:= .J3 2 1 [z0,z0] [(0,2,C3)] e
abbrev MT:s7:= .J3 2 1 [z0,z0] [(0,2,F3)] e
abbrev MU:p6:=sq (F7 [rO,i1 pV 3]) .ret
abbrev GX:p6:=sq (F7 [i1 Qs 3]) .ret
abbrev GY:p6:=F7 [wK,cO]
abbrev zR:p6:=F7 [i1 AO 2]
abbrev ac5:p6:=sq (F7 [G6 .eql Z1 E7,ig]) (.cond aK sk (F7 [G6 .eql Z1 N4,ig]))
abbrev aV:z6:=l 19
abbrev wz:s7:= .load K aV
abbrev dx:z6:=l 21
abbrev wA:s7:= .load K dx
abbrev tO:s7:= .len B7
abbrev jK:s7:= .S1 F6
abbrev W1:z6:=s 10
abbrev Sz:p6:=R6 [D0,z8,N9,bP] F3 sk (Y9 0)
abbrev zS:p6:=F7 [i1 jv 7]
abbrev zT:p6:=F7 [i1 jv 1]
abbrev zU:s7:= .load (J 8) S6
abbrev ac6:p6:=R6 [D0,o9,K2,wN,L8,ij,G6 .lss B9 B7] D2 sk (Y9 2)
abbrev aE5:s7:= .J4 1 B9 D8
abbrev SA:p6:=R6 [G6 .lss R3 T8] B9 sk (Y9 0)
abbrev aC:z6:=l 20
abbrev rL:s7:= .S1 kt
abbrev MW:p6:=sq (F7 [i1 rL 3]) .ret
abbrev bH:o4:=ms 10
abbrev MX:p6:=F7 [bH,jR,i1 AV 10]
abbrev aE6:s7:= .bin .eql E4 D8
abbrev nR:s7:= .S1 X8
abbrev aE8:s7:= .J4 7 C3 E4
abbrev He:s7:= .append 1 8 e B9 C3
abbrev Hf:s7:= .append 1 8 e B9 E4
abbrev SC:p6:=F7 [i1 pV 3]
abbrev Ed:s7:= .load (J 8) T5
abbrev ic:z6:=s 11
abbrev SE:p6:=F7 [G6 .add ic E7,i1 jE 11]
abbrev ac7:p6:=F7 [U9 7 S6 R3,bD (J 7) B9,i1 Oo 4,R5 7 T5 C3]
abbrev wB:s7:= .load K C3
abbrev MY:p6:=F7 [wK,i1 AQ 3]
abbrev MZ:p6:=F7 [i1 wX 2,wJ]
abbrev zV:s7:= .load K P3
abbrev Na:p6:=sq (F7 [i1 zP 4]) .ret
abbrev Nb:p6:=sq (F7 [i1 zP 3]) .ret
abbrev tY:o4:=i1 jE 7
abbrev SF:p6:=F7 [G6 .add R3 E7,tY]
abbrev Nc:p6:=sq (F7 [i1 Ec 2]) .ret
abbrev Nd:p6:=sq (F7 [i1 Ec 4]) .ret
abbrev Hg:z6:= .const (.d (.str [98]))
abbrev mD:o4:=i0 aD9
abbrev ac8:p6:=R6 [T6,D6 46 [B9],mD] E4 (sr [i1 AQ 3] .ret) sk
abbrev jN:o4:=i0 GN
abbrev ac9:p6:=R6 [o9,jN,z8,P4,G6 .neq C3 F3] z7 wG sk
abbrev Ef:s7:= .bin .gtr B9 D8
abbrev Eg:s7:= .bin .geq E4 D8
abbrev Eh:s7:= .pick F6 Q1 kf
abbrev bp:z6:=l 22
abbrev Hh:s7:= .J3 3 0 [] [] u
abbrev aF0:s7:= .J4 2 B9 C3
abbrev aF1:s7:= .J4 2 C3 E4
abbrev SG:s7:= .un .not E2
abbrev ad0:p6:=R6 [G6 .eql Z1 (k 18),W4] C3 (sr [i1 rJ 1] .ret) sk
abbrev Hi:s7:= .call 22 [B9,cN]
abbrev Ei:s7:= .pick F3 B7 kf
abbrev pH:s7:= .len E2
abbrev tP:s7:= .off 3 aK
abbrev tQ:s7:= .off 5 aK
abbrev tR:s7:= .off 0 Z1
abbrev Hj:s7:= .load (J 12) T5
abbrev dw:z6:=l 23
abbrev aF2:s7:= .call 40 [B9]
abbrev zW:s7:= .load K E4
abbrev ad1:p6:=F7 [C2,bD (J 2) X8,D6 92 [B9,C3],i1 cm 5]
abbrev Hl:p6:=F7 [i1 AQ 5]
abbrev Nf:s7:= .S1 (.const (.d .cZ))
abbrev dM:z6:=k 4
abbrev HL:s7:= .S1 dM
abbrev SH:p6:=sq (F7 [i1 HL 4]) .ret
abbrev Ho:s7:= .S1 (.const (w 5))
abbrev rM:z6:=k 1048576
abbrev Hp:p6:=F7 [Am]
abbrev Hq:p6:=F7 [An]
abbrev Ng:p6:=F7 [C2,pI]
abbrev Nh:p6:=F7 [E8,pI]
abbrev Hr:s7:= .bin .neq D2 D8
abbrev Hs:s7:= .load (J 2) E2
abbrev Ht:s7:= .load (J 3) K8
abbrev Hu:s7:= .load (J 2) Z1
abbrev Hv:s7:= .bin .eql B9 N4
abbrev ad2:p6:=sq (F7 [bD (J 12) R3,R5 12 T8 B9]) .ret
abbrev Ej:s7:= .J4 4 C3 E4
abbrev Ek:s7:= .extract z7 0
abbrev El:s7:= .extract z7 1
abbrev ad3:p6:=R6 [ms 12,eN] C3 (sr [ms 12,ig] .ret) sk
abbrev Ni:z6:= .const (.d (.str [116]))
abbrev SI:p6:=sq (F7 [E8,ig]) .ret
abbrev Hw:s7:= .store 1 D2 B7
abbrev Hx:s7:= .bin .neq C3 D8
abbrev Hy:s7:= .bin .add E7 E4
abbrev Hz:s7:= .bin .sub E4 E7
abbrev HA:s7:= .bin .eql B9 E7
abbrev HB:s7:= .pick z7 E2 kf
abbrev ad4:p6:=R6 [E8,eN] C3 (sr [E8,mC] .ret) sk
abbrev dK:z6:=l 24
abbrev zX:p6:=sq uN .ret
abbrev Em:s7:= .load K F3
abbrev HC:s7:= .J4 3 z7 B7
abbrev HE:s7:= .pick F3 F8 kf
abbrev tS:s7:= .S1 K8
abbrev Nj:s7:= .alloc [zs,z0,(w 5)]
abbrev wD:s7:= .S1 R3
abbrev En:s7:= .un .not z7
abbrev Eo:s7:= .un .not S4
abbrev zY:s7:= .off 1 S6
abbrev Nk:p6:=F7 [i1 DY 1]
abbrev SJ:p6:=sq (F7 [i1 rJ 3]) .ret
abbrev SK:p6:=sq (F7 [i1 rL 2]) .ret
abbrev ad5:p6:=R6 [o9,i0 (.AJ e B9)] C3 (sq zQ .ret) sk
abbrev Aj:o4:=i1 Wj 3
abbrev SL:p6:=F7 [Aj,fT]
abbrev ad6:s7:= .alloc [z0,z0,z0,z0,(w 3),z0,z0,zs,z0,z0,z0,zs]
abbrev Nl:p6:=F7 [i1 jv 10]
abbrev Nn:p6:=F7 [i1 AO 4]
abbrev No:p6:=F7 [i1 AQ 4]
abbrev Np:s7:= .pick Q0 kt aV
abbrev HF:s7:= .J4 4 C3 F3
abbrev HG:s7:= .J4 3 E4 F3
abbrev wE:s7:= .len S4
abbrev zZ:s7:= .box Z1
abbrev ad7:p6:=R6 [D0,o9,N9,bP] F3 sk (Y9 0)
abbrev ad8:p6:=R6 [J6,o9,N9,bP] F3 sk (Y9 0)
abbrev Ep:p6:=sq Ft .ret
abbrev Er:s7:= .off 4 X7
abbrev Nq:s7:= .alloc [zs,zs,z0]
abbrev Aa:s7:= .S1 (s 9)
abbrev Nr:s7:= .call 54 [B9,C3]
abbrev aF6:s7:= .cH C3
abbrev Ns:s7:= .load (J 2) D2
abbrev Nt:s7:= .bin .eql B7 D8
abbrev ad9:s7:= .build [z0,z0,z0,zs,z0] [(0,1,E7),(1,3,C3)]
abbrev Nu:s7:= .bin .sub D2 E7
abbrev Nv:s7:= .load (J 4) S6
abbrev Nw:s7:= .load (J 3) Z1
abbrev Nx:s7:= .pick E2 kt P3
abbrev Es:s7:= .S1 N4
abbrev Ny:s7:= .J4 1 R3 (s 9)
abbrev ae0:p6:=R6 [G6 .lss ic W1] B9 sk (Y9 2)
abbrev ae1:s7:= .J3 5 1 [z0,z0,z0,zs,z0] [(0,5,D2)] e
abbrev ae2:p6:=sq (F7 [i0 zL,R5 3 Z1 B9]) .ret
abbrev ae3:p6:=sq (F7 [i0 zL,R5 3 T8 B9]) .ret
abbrev ae4:s7:= .J3 5 1 [z0,z0,z0,zs,z0] [(0,5,E4)] e
abbrev Nz:s7:= .load (J 2) F3
abbrev NA:s7:= .load (J 7) F3
abbrev ae5:p6:=F7 [U9 1 (s 9) ic,y5,tW]
abbrev ae6:s7:= .J3 4 1 [zs,.H7,z0,z0] [(0,4,z7)] e
abbrev NB:s7:= .bin .eql F3 z7
abbrev NC:s7:= .bin .geq C3 D8
abbrev SM:s7:= .bin .sub B9 E7
abbrev ND:s7:= .bin .neq C3 E7
abbrev NG:s7:= .pick z7 F8 kf
abbrev SN:s7:= .append 2 16 e B9 C3
abbrev ae7:p6:=F7 [i1 Q3 9,i1 (.len (s 9)) 10,i1 jv 11]
abbrev Et:s7:= .off 4 aK
abbrev Eu:s7:= .off 4 Z1
abbrev ae8:s7:= .build [(w 1),(w 1)] [(0,1,B7),(1,1,F8)]
abbrev ae9:z6:= .const (.d (.str [112,101,114,115,111,110]))
abbrev ia:z6:=l 25
abbrev NH:s7:= .load K (l 26)
abbrev NI:s7:= .bin .sub B9 F3
abbrev NJ:s7:= .J4 1 B7 E7
abbrev HJ:s7:= .un .not F8
abbrev NK:s7:= .pick F3 kt F6
abbrev NL:s7:= .J4 3 F8 F6
abbrev NM:s7:= .store 3 Z1 C3
abbrev af0:p6:=F7 [i1 Q3 4,i1 (.len T5) 5,i1 jv 6]
abbrev af1:p6:=F7 [G6 .add (s 28) E7,i1 jE 28]
abbrev af2:p6:=F7 [G6 .add (s 31) E7,i1 jE 31]
abbrev af3:p6:=F7 [G6 .add (s 16) E7,i1 jE 16]
abbrev nV:z6:=s 14
abbrev af4:p6:=F7 [G6 .add nV E7,i1 jE 14]
abbrev jM:z6:=s 12
abbrev af5:p6:=F7 [G6 .add jM E7,i1 jE 12]
abbrev af6:p6:=F7 [G6 .add (s 19) E7,i1 jE 19]
abbrev af7:p6:=F7 [G6 .add (s 17) E7,i1 jE 17]
abbrev af8:p6:=F7 [i1 Q3 5,i1 (.len S6) 6,i1 jv 7]
abbrev wW:o4:=i0 aE0
abbrev af9:p6:=R6 [E8,C2,wW] E4 sk (Y9 2)
abbrev ag0:p6:=sq (F7 [D6 27 [],ig]) .ret
abbrev ag1:p6:=F7 [G6 .add W1 E7,i1 jE 10]
abbrev NN:s7:= .J4 2 F3 z7
abbrev NO:s7:= .J4 5 B9 D8
abbrev NP:s7:= .load K Z3
abbrev Ev:s7:= .S1 X6
abbrev NQ:s7:= .load K aC
abbrev NR:s7:= .load K dw
abbrev SP:z6:= .const (.d (.str [97]))
abbrev SQ:s7:= .J3 3 0 [] [] e
abbrev ag2:p6:=sq (F7 [z8,rO,ig]) .ret
abbrev HM:s7:= .un .not F3
abbrev HN:p6:=sq AR .ret
abbrev HO:p6:=sq Qv .ret
abbrev HP:p6:=sq Ou .ret
abbrev HQ:s7:= .off 3 T5
abbrev ag3:s7:= .build [z0,z0] [(0,1,B7),(1,1,D2)]
abbrev nZ:o4:=i0 bo5
abbrev ag4:p6:=sq (F7 [K2,nZ,i1 AV 2]) .ret
abbrev mj:z6:=l 27
abbrev NS:s7:= .J4 3 B9 C3
abbrev NT:s7:= .J4 5 B9 C3
abbrev NU:s7:= .J4 3 C3 E4
abbrev aF7:s7:= .len F3
abbrev ag5:s7:= .build [z0,z0] [(0,1,C3),(1,1,E4)]
abbrev ag6:p6:=F7 [Aj,i1 zZ 4,tZ]
abbrev HU:s7:= .off 0 z7
abbrev ag7:s7:= .J3 2 1 [z0,z0] [(0,2,z7)] e
abbrev HV:s7:= .off 0 B7
abbrev Ey:s7:= .len F8
abbrev HW:s7:= .off 8 aK
abbrev HX:s7:= .off 4 T8
abbrev SR:s7:= .call 22 [B9,N4]
abbrev SU:s7:= .call 22 [C3,N4]
abbrev SX:p6:=F7 [i1 zP 5]
abbrev NV:s7:= .extract F3 0
abbrev NW:s7:= .extract F3 1
abbrev ag8:s7:= .J3 1 1 [(w 2)] [(0,1,B7)] e
abbrev ag9:p6:=sq (F7 [cO,i1 pV 4]) .ret
abbrev NX:s7:= .un .not Z3
abbrev SY:s7:= .S1 (.const (w 12))
abbrev SZ:s7:= .call 125 [B9,C3]
abbrev Tc:s7:= .call 125 [B9,E4]
abbrev Td:s7:= .call 255 [C3,E4]
abbrev Te:p6:=F7 [i1 Qs 4]
abbrev Tf:s7:= .load (J 12) aK
abbrev Tg:s7:= .load (J 3) P3
abbrev Th:s7:= .bin .neq B7 dJ
abbrev Ti:s7:= .pick Q0 dw kf
abbrev Tj:s7:= .bin .eql dK D8
abbrev mq:z6:=l 28
abbrev fS:z6:=k 8
abbrev Tl:s7:= .call 22 [B9,E4]
abbrev Tm:s7:= .call 86 [C3,F3]
abbrev Tn:s7:= .load (J 3) z7
abbrev To:s7:= .bin .eql z7 B7
abbrev Tp:s7:= .load (J 3) D2
abbrev ah0:s7:= .J3 1 1 [z0] [(0,1,D8)] e
abbrev Tq:s7:= .bin .gtr B7 D8
abbrev Ts:s7:= .bin .lss z7 D8
abbrev Tt:s7:= .bin .neq B7 E7
abbrev Tu:s7:= .bin .eql E2 E7
abbrev Tv:s7:= .bin .gtr E2 D8
abbrev Tw:s7:= .load (J 3) F8
abbrev Tx:s7:= .load (J 2) F8
abbrev Ty:s7:= .bin .eql S4 D8
abbrev Tz:s7:= .bin .gtr S4 D8
abbrev TA:s7:= .load (J 2) S6
abbrev TB:s7:= .load (J 3) S6
abbrev TC:s7:= .load (J 4) aK
abbrev NY:s7:= .un .not S7
abbrev TD:s7:= .pick S4 P3 kf
abbrev TE:s7:= .pick S4 kt Q0
abbrev TF:s7:= .bin .eql E4 N4
abbrev TG:s7:= .J4 1 Z3 aC
abbrev NZ:p6:=sq SC .ret
abbrev ah1:p6:=sq (F7 [o9,i1 jE 1]) .ret
abbrev TI:s7:= .load (J 4) C3
abbrev TJ:s7:= .load (J 3) C3
abbrev TK:s7:= .load (J 2) C3
abbrev TL:s7:= .load (J 4) F3
abbrev ah2:p6:=F7 [ms 13,jR,i1 AV 13]
abbrev eO:o4:=ms 11
abbrev ah3:p6:=F7 [eO,jR,i1 AV 11]
abbrev TM:s7:= .bin .add E4 B7
abbrev TN:s7:= .bin .add F3 D2
abbrev TP:s7:= .bin .gtr C3 D8
abbrev TQ:s7:= .bin .geq B9 D8
abbrev TR:s7:= .bin .add E7 C3
abbrev TS:s7:= .bin .neq B9 E7
abbrev TT:s7:= .bin .eql E4 E7
abbrev TU:s7:= .store 1 S4 K8
abbrev TV:s7:= .store 3 aK E2
abbrev TW:s7:= .pick K8 S7 kf
abbrev TX:s7:= .pick F6 kt S7
abbrev TY:s7:= .pick F6 S7 kf
abbrev ah4:p6:=F7 [E8,i0 SM,Ak]
abbrev nU:z6:=l 29
abbrev rN:z6:=l 31
abbrev Od:z6:= .const .H7
abbrev Oe:s7:= .off 0 R3
abbrev Of:s7:= .off 0 T5
abbrev TZ:s7:= .bin .neq B9 C3
abbrev Ua:s7:= .bin .geq B9 F3
abbrev Ub:s7:= .store 1 z7 F3
abbrev Uc:s7:= .J4 4 z7 B7
abbrev Ud:s7:= .pick F3 kt D2
abbrev Ue:s7:= .J4 1 z7 D2
abbrev HY:s7:= .S1 S7
abbrev ah5:p6:=F7 [wL,i1 DY 2]
abbrev ah6:s7:= .alloc [zs,zs,z0,z0,z0,z0]
abbrev Uf:s7:= .store 1 F3 E4
abbrev Og:s7:= .cH z7
abbrev ah7:p6:=F7 [Aj,i1 AQ 4]
abbrev Oh:s7:= .off 2 S6
abbrev Oi:s7:= .off 3 S6
abbrev Oj:s7:= .off 9 aK
abbrev Ol:s7:= .off 2 Z1
abbrev Om:s7:= .off 8 Z1
abbrev On:s7:= .off 1 T8
abbrev ah8:p6:=sq (F7 [i1 zP 2]) .ret
abbrev ah9:p6:=sq (F7 [i1 rJ 4]) .ret
abbrev ai0:p6:=sq (F7 [i1 Ec 3]) .ret
abbrev ai1:p6:=sq (F7 [i1 Ec 5]) .ret
abbrev Ug:s7:= .load K bp
abbrev ai2:p6:=sq (F7 [i1 rL 1]) .ret
abbrev ai3:p6:=sq (F7 [i1 rL 4]) .ret
abbrev ai4:p6:=sq (F7 [i1 Es 1]) .ret
abbrev ai5:p6:=sq (F7 [i1 HL 2]) .ret
abbrev ai6:p6:=sq (F7 [i1 HL 3]) .ret
abbrev Uh:s7:= .load K mj
abbrev Ui:s7:= .load K rN
abbrev Z7:o4:=i0 ax4
abbrev bZ:o4:=i0 Qt
abbrev mz:o4:=if_ pX 4
abbrev jr:o4:=i0 aD6
abbrev jO:o4:=i0 bn9
abbrev nY:o4:=i0 aD4
abbrev mE:o4:=i0 bo4
abbrev pJ:o4:=i0 aD5
abbrev jQ:o4:=ol 0 1
abbrev wH:o4:=if_ Fp 3
abbrev tU:o4:=i1 cm 7
abbrev tV:o4:=i1 lE 6
abbrev rQ:o4:=i0 aD8
abbrev rR:o4:=i0 aD7
abbrev rS:o4:=i0 Sx
abbrev lG:o4:=os 1 5
abbrev mF:o4:=os 6 2
abbrev Ez:o4:=if_ SG 4
abbrev cQ:o4:=ld 4
abbrev Ag:o4:=i1 mT 1
abbrev Ah:o4:=i1 lE 3
abbrev Ai:o4:=i1 pV 5
abbrev wR:o4:=i0 aE8
abbrev wT:o4:=i0 aE5
abbrev wU:o4:=i0 aE3
abbrev wV:o4:=i0 aE2
abbrev pQ:o4:=os 1 6
abbrev pT:o4:=ol 0 2
abbrev HZ:o4:=if_ yA 10
abbrev Ia:o4:=if_ tL 7
abbrev Ao:o4:=i0 aF7
abbrev Ap:o4:=i0 aF6
abbrev Aq:o4:=i0 aF2
abbrev Ar:o4:=i0 aF1
abbrev As:o4:=i0 aF0
abbrev Au:o4:=i0 aE6
abbrev Av:o4:=i0 tO
set_option maxRecDepth 99999 in
def M4 t{x}(h:t=x:=by dsimp only [u,e,sr,su,blk,lop,Y9,D6,app,R5,G6,W8,lJ,fZ,U9,bD,bL4,ZF,vu,le0,un0,bB5,D8,jv,B9,jE,C3,E7,zq4,o9,aW,C8,E4,F3,lE,mA,D0,bn8,eN,mC,zq5,Z1,zq7,AV,z7,AO,Q3,rO,iS,yw,B7,Qs,Wj,D2,bn4,AP,aK,Qt,Fp,T8,An,X8,R3,GL,y5,wM,J6,K2,ax0,N9,nW,aE7,wS,tX,GQ,aS0,bn5,E2,C2,jR,tW,uM,GN,tZ,GZ,S6,T5,GM,ig,Qv,z8,aF5,wN,L8,yy,bM,GR,wv,aS1,JX,Fq,mB,wF,F8,pV,pX,yx,AQ,bn6,K8,X7,dX,ax1,gh,wJ,L3,cM,aE1,nX,bG,ax2,Ee,jL,F6,S4,Ac,bn7,cO,Ft,bP,S5,nQ,Ae,zN,TH,aS2,Fs,wK,wX,Af,fT,Ot,aF,N8,rK,mh,aS3,uN,dJ,bn9,fU,wC,eM,MV,Ad,Oc,Q1,Ab,bo0,fV,W4,bo3,iq,N4,aE9,wQ,mU,wG,aS4,yz,cm,kg,EA,AR,AS,AU,ax4,E8,Ak,EB,dA,Qu,rW,bo1,cN,pI,fR,aS5,mT,Oo,bo2,gN,S7,JY,cg,HS,HT,aS6,bo4,yA,gT,bo5,iT,sY,P4,aD,Ew,aG,rU,tT,aS7,aS8,X6,wY,Ou,aD4,P3,Y6,aE4,rP,ab5,DX,ab6,zI,wL,zJ,zK,aD5,zL,zM,tL,aD6,jP,ij,Oa,ab7,Q0,DY,rH,K5,DZ,Sx,nP,aD7,aD8,MN,eH,lF,wI,ab8,Ea,tM,Am,MO,aD9,lD,GO,Sy,GP,hU,zP,T6,aF3,wP,aF4,wO,ab9,zQ,Al,MP,W0,aE0,cn,GS,T7,GU,GV,rI,Eb,gM,fW,ac0,MQ,HI,HK,oa,ac3,MR,rV,Ob,ac4,GW,me,mg,tN,aE2,aE3,Z3,rJ,Ec,MS,MT,MU,GX,GY,zR,ac5,aV,wz,dx,wA,tO,jK,W1,Sz,zS,zT,zU,ac6,aE5,SA,aC,rL,MW,bH,MX,aE6,nR,aE8,He,Hf,SC,Ed,ic,SE,ac7,wB,MY,MZ,zV,Na,Nb,tY,SF,Nc,Nd,Hg,mD,ac8,jN,ac9,Ef,Eg,Eh,bp,Hh,aF0,aF1,SG,ad0,Hi,Ei,pH,tP,tQ,tR,Hj,dw,aF2,zW,ad1,Hl,Nf,dM,HL,SH,Ho,rM,Hp,Hq,Ng,Nh,Hr,Hs,Ht,Hu,Hv,ad2,Ej,Ek,El,ad3,Ni,SI,Hw,Hx,Hy,Hz,HA,HB,ad4,dK,zX,Em,HC,HE,tS,Nj,wD,En,Eo,zY,Nk,SJ,SK,ad5,Aj,SL,ad6,Nl,Nn,No,Np,HF,HG,wE,zZ,ad7,ad8,Ep,Er,Nq,Aa,Nr,aF6,Ns,Nt,ad9,Nu,Nv,Nw,Nx,Es,Ny,ae0,ae1,ae2,ae3,ae4,Nz,NA,ae5,ae6,NB,NC,SM,ND,NG,SN,ae7,Et,Eu,ae8,ae9,ia,NH,NI,NJ,HJ,NK,NL,NM,af0,af1,af2,af3,nV,af4,jM,af5,af6,af7,af8,wW,af9,ag0,ag1,NN,NO,NP,Ev,NQ,NR,SP,SQ,ag2,HM,HN,HO,HP,HQ,ag3,nZ,ag4,mj,NS,NT,NU,aF7,ag5,ag6,HU,ag7,HV,Ey,HW,HX,SR,SU,SX,NV,NW,ag8,ag9,NX,SY,SZ,Tc,Td,Te,Tf,Tg,Th,Ti,Tj,mq,fS,Tl,Tm,Tn,To,Tp,ah0,Tq,Ts,Tt,Tu,Tv,Tw,Tx,Ty,Tz,TA,TB,TC,NY,TD,TE,TF,TG,NZ,ah1,TI,TJ,TK,TL,ah2,eO,ah3,TM,TN,TP,TQ,TR,TS,TT,TU,TV,TW,TX,TY,ah4,nU,rN,Od,Oe,Of,TZ,Ua,Ub,Uc,Ud,Ue,HY,ah5,ah6,Uf,Og,ah7,Oh,Oi,Oj,Ol,Om,On,ah8,ah9,ai0,ai1,Ug,ai2,ai3,ai4,ai5,ai6,Uh,Ui,Z7,bZ,mz,jr,jO,nY,mE,pJ,jQ,wH,tU,tV,rQ,rR,rS,lG,mF,Ez,cQ,Ag,Ah,Ai,wR,wT,wU,wV,pQ,pT,HZ,Ia,Ao,Ap,Aq,Ar,As,Au,Av,F7,eB,R6,pZ,k,kt,kf,z0,zs,zb,w,l,s,i0,i1,it,if_,i3,ms,ml,os,ol,ld,sq,rg,te,sk]):{ x:q6 // t=x }:=⟨x,h⟩
end Go.B3.d7


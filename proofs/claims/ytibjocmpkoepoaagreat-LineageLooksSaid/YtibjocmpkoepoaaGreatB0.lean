import Derived.Calls
import Derived.Below
import Derived.WalkKit
import Derived.Laws.BytesString
import Derived.Lib.Strings
import Derived.Laws.MakeOwn
set_option linter.all false
open Bool renaming and_eq_true→c7,false_eq_true→j4,not_eq_true'→p6,true→W,false→F
open List renaming cons_append→A8,getElem?_append_left→B9,getElem?_append_right→y3,getElem?_eq_getElem→o6,getElem?_set_ne→D0,getElem?_set_self→N6,getElem_of_mem→R3,length_append→n5,length_cons→p8,length_map→A7,map_cons→K0,mem_append→D7,mem_cons→B6,mem_map→J4,mem_singleton→q8,replicate→c9,length→O
open Nat renaming add_assoc→O8,beq→u5,le_refl→l6,le_trans→C9,lt_or_ge→A5
open Option renaming some→J,none→K
namespace Go
theorem V{p:Prop}(h:p:=by omega):p:=h
theorem U{p:Prop}(h:p:=by simp):p:=h
theorem M{p:Prop}(h:p:=by simp_all):p:=h
theorem D{p:Prop}(h:p:=by simp;omega):p:=h
end Go
namespace Go.A1
inductive Data where
 |bool (b:Bool)
 |int (k:IntKind) (n:Int)
 |str (s:List UInt8)
 |slice (len:Nat) (cells:List Data)
 |dg
 |R2
 |ew
 |nilIface
 deriving Inhabited
inductive KD where
 |i (k:IntKind) (n:Int)
 |s (x:List UInt8)
 |b (b:Bool)
 deriving DecidableEq,Inhabited
inductive Key where
 |int (k:IntKind) (n:Int)
 |str (s:List UInt8)
 |bool (b:Bool)
 |st (l:List KD)
 deriving DecidableEq,Inhabited
inductive c8 where
 |any
 |d (x:Data)
 |ptr (id off:Nat)
 |U9 (cells:List Data)
 |B8 (id sz lo len:Nat)
 |own (sz len:Nat) (cells:List Data)
 |P9
 |agg (cells:List c8)
 |tuple (vs:List c8)
 |func (f:FuncId) (first caps:List c8)
 |map (id:Nat)
 deriving Inhabited
inductive y6 where
 |dead
 |cells (l:List c8)
 |map (es:List (Key×c8))
 deriving Inhabited
abbrev q6:=List y6
inductive y7 where
 |loc (j:Nat)
 |slot (s:Nat)
 |const (v:c8)
 deriving Inhabited
inductive CK where
 |i
 |s
 |b
 deriving DecidableEq,Inhabited
inductive KK where
 |i
 |s
 |b
 |st (ks:List CK)
 deriving DecidableEq,Inhabited
inductive x9 where
 |Q5 (x:y7)
 |pick (c a b:y7)
 |alloc (zero:List c8)
 |box (x:y7)
 |build (zero:List c8) (parts:List (Nat×Nat×y7))
 |H6 (sz len:Nat) (zero:List c8) (parts:List (Nat×Nat×y7)) (ob:Bool)
 |load (n:Option Nat) (x:y7)
 |store (n:Nat) (a x:y7)
 |bG (x:y7)
 |bin (op:BinOp) (x y:y7)
 |un (op:UnOp) (x:y7)
 |DS (neg:Bool) (x:y7)
 |u7 (neg:Bool) (x y:y7)
 |Gi (neg:Bool) (ks:List CK) (x y:y7)
 |ql (k:IntKind) (x:y7)
 |mO (x:y7)
 |aJ (sz:Nat) (x:y7) (lo hi:Option y7)
 |off (k:Nat) (x:y7)
 |O4 (sz:Nat) (x i:y7)
 |iE (n sz:Nat) (x i:y7)
 |K9 (x i:y7)
 |extract (x:y7) (i:Nat)
 |len (x:y7)
 |X8 (x:y7)
 |append (sz bytes:Nat) (ob:Bool) (x y:y7)
 |qz (x:Data)
 |own (sz:Nat) (x:y7)
 |jJ (isMax:Bool) (xs:List y7)
 |clear (sz:Nat) (zero:List c8) (x:y7)
 |bE (f:FuncId) (first caps:List y7)
 |call (f:FuncId) (xs:List y7)
 |bC (x:y7) (xs:List y7)
 |makeMap
 |lookup (kk:KK) (zero:c8) (ok:Bool) (m k:y7)
 |fA (kk:KK) (m k v:y7)
 |defer (x:y7)
 |bad
 deriving Inhabited
structure p7 where
 op:x9
 dst:Option Nat:=K
 guard:Option (Nat×Bool):=K
 cB:List Nat:=[]
 deriving Inhabited
inductive q7 where
 |skip
 |region (ops:List p7) (draw:Bool)
 |seq (a b:q7)
 |cond (c:y7) (thn els:q7)
 |test (ops:List p7) (draw:Bool) (c:y7) (thn els:q7)
 |block (id:Nat) (body:q7)
 |loop (mask:List Bool) (body:q7)
 |exit (id:Nat)
 |ret
 |fz (s:Nat)
 |bad
 deriving Inhabited
inductive FR where
 |slot (s:Nat)
 |cell (s:Nat) (n:Option Nat)
 deriving Inhabited
structure q9 where
 nparams:Nat
 names:List Nat
 body:q7
 results:List FR
 bw:Bool:=F
 deriving Inhabited
def c8.K7:c8->c8
 | .own _ len cells=> .d (.slice len cells)
 | .P9=> .d (.slice 0 [])
 |v=>v
def c8.one:c8->Bool
 | .any=>F
 | .agg _=>F
 | .tuple _=>F
 |_=>W
def c8.cells? :c8->Option (List c8)
 | .agg l=>if l.all c8.one then J l else K
 |v=>if v.one then J [v] else K
def c8.data? :c8->Option Data
 | .d x=>J x
 | .own _ len cells=>J (.slice len cells)
 | .P9=>J (.slice 0 [])
 |_=>K
def P7 :List c8->Option (List Data)
 |[]=>J []
 |v::vs=>match v.data? with
  |some x=>match P7 vs with
   |some xs=>J (x::xs)
   |none=>K
  |none=>K
mutual
def c8.L7:c8->Nat
 | .ptr id _=>id+1
 | .B8 id _ _ _=>id+1
 | .map id=>id+1
 | .agg l=>C5 l
 | .tuple l=>C5 l
 | .func _ a b=>max (C5 a) (C5 b)
 |_=>0
def C5:List c8->Nat
 |[]=>0
 |v::vs=>max v.L7 (C5 vs)
end
mutual
def c8.kill (id:Nat):c8->c8
 | .ptr i o=>if i=id then .any else .ptr i o
 | .B8 i z l n=>if i=id then .any else .B8 i z l n
 | .map i=>if i=id then .any else .map i
 | .agg l=> .agg (K6 id l)
 | .tuple l=> .tuple (K6 id l)
 | .func f a b=> .func f (K6 id a) (K6 id b)
 |v=>v
def K6 (id:Nat):List c8->List c8
 |[]=>[]
 |v::vs=>v.kill id::K6 id vs
end
def y6.L7:y6->Nat
 | .dead=>0
 | .cells l=>C5 l
 | .map es=>C5 (es.map (·.2))
def aQ:List y6->Nat->Bool
 |[],_=>W
 |o::os,k=>o.L7<=k+1&&aQ os (k+1)
def P0:List y6->Nat
 |[]=>0
 |o::os=>max o.L7 (P0 os)
def y6.kill (id:Nat):y6->y6
 | .dead=> .dead
 | .cells l=> .cells (K6 id l)
 | .map es=> .map (es.map λp=>(p.1,p.2.kill id))
def rd (H:q6)(id off n:Nat):Option (List c8) :=
 match H[id]? with
 |some (.cells l)=>if off+n<=O l then J ((l.drop off).take n) else K
 |_=>K
def splice (l:List c8)(off:Nat)(vs:List c8):List c8:=l.take off++vs++l.drop (off+O vs)
def wr (H:q6)(id off:Nat)(vs:List c8):Option q6 :=
 match H[id]? with
 |some (.cells l)=>if off+O vs<=O l then J (H.set id (.cells (splice l off vs))) else K
 |_=>K
def i64 (n:Int):c8:= .d (.int .i64 n)
def cZ (op:BinOp)(k:IntKind)(a b:Int):Option Data :=
 match op with
 | .add=>J (.int k (k.wrap (a+b)))
 | .sub=>J (.int k (k.wrap (a - b)))
 | .mul=>J (.int k (k.wrap (a * b)))
 | .quo=>if b=0 then K else J (.int k (k.wrap (a.tdiv b)))
 | .rem=>if b=0 then K else J (.int k (a.tmod b))
 | .and=>J (.int k (k.wrap (BitVec.ofInt k.bits a&&&BitVec.ofInt k.bits b).toNat))
 | .or=>J (.int k (k.wrap (BitVec.ofInt k.bits a|||BitVec.ofInt k.bits b).toNat))
 | .xor=>J (.int k (k.wrap (BitVec.ofInt k.bits a ^^^ BitVec.ofInt k.bits b).toNat))
 | .eql=>J (.bool (a==b))
 | .neq=>J (.bool (a != b))
 | .lss=>J (.bool (a<b))
 | .leq=>J (.bool (a<=b))
 | .gtr=>J (.bool (a>b))
 | .geq=>J (.bool (a≥b))
 |_=>K
def Cy (op:BinOp)(k:IntKind)(a b:Int):Option Data :=
 if b<0 then K else
 match op with
 | .shl=>J (.int k (k.wrap (a * 2 ^ (min b.toNat k.bits))))
 | .shr=>J (.int k (a.fdiv (2 ^ (min b.toNat k.bits))))
 |_=>K
def yq (op:BinOp)(a b:List UInt8):Option Data :=
 match op with
 | .add=>if O a+O b<4611686018427387904 then J (.str (a++b)) else K
 | .eql=>J (.bool (a==b))
 | .neq=>J (.bool (!(a==b)))
 | .lss=>J (.bool (Op.bytesLess a b))
 | .leq=>J (.bool (Op.bytesLess a b||a==b))
 | .gtr=>J (.bool (!(Op.bytesLess a b||a==b)))
 | .geq=>J (.bool (!(Op.bytesLess a b)))
 |_=>K
def aT:BinOp->Bool
 | .shl=>W
 | .shr=>W
 |_=>F
def Q9 (op:BinOp):Data->Data->Option Data
 | .int k a,.int k' b=>if aT op then Cy op k a b else if k=k' then cZ op k a b else K
 | .str a,.str b=>yq op a b
 |_,_=>K
def ES (op:UnOp):Data->Option Data
 | .int k n=>match op with
  | .neg=>J (.int k (k.wrap (0 - n)))
  |_=>K
 | .bool b=>match op with
  | .not=>J (.bool (!b))
  |_=>K
 |_=>K
def cS (cells:List c8):List (Nat×Nat×c8)->Option (List c8)
 |[]=>J cells
 |(off,sz,v)::rest=>match v.cells? with
  |some l=>if O l=sz/\off+sz<=O cells then cS (splice cells off l) rest else K
  |none=>K
def jg :List Data->Option (List UInt8)
 |[]=>J []
 | .int .u8 n::r=>match jg r with
  |some bs=>J (UInt8.ofNat n.toNat::bs)
  |none=>K
 |_=>K
def BR (isMax:Bool)(a b:Data):Option Data :=
 match a,b with
 | .int k x,.int _ y=>J (.int k (if isMax then (if y>x then y else x) else (if y<x then y else x)))
 |_,_=>K
def gH (isMax:Bool):Data->List c8->Option Data
 |a,[]=>J a
 |a,.d b::r=>match BR isMax a b with
  |some c=>gH isMax c r
  |none=>K
 |_,_=>K
def Data.Jm:CK->Data->Data->Option Bool
 | .i,.int k a,.int k' b=>if k=k' then J (a==b) else K
 | .s,.str a,.str b=>J (a==b)
 | .b,.bool a,.bool b=>J (a==b)
 |_,_,_=>K
def S5:List CK->List c8->List c8->Option Bool
 |[],[],[]=>J W
 |k::ks,.d a::r,.d b::q=>match Data.Jm k a b with
  |some t=>match S5 ks r q with
   |some u=>J (t&&u)
   |none=>K
  |none=>K
 |_,_,_=>K
def KD.av:KD->c8
 | .i k n=> .d (.int k n)
 | .s x=> .d (.str x)
 | .b t=> .d (.bool t)
def QL :List c8->Option (List KD)
 |[]=>J []
 | .d (.int k n)::vs=>match QL vs with
  |some r=>J (.i k n::r)
  |none=>K
 | .d (.str x)::vs=>match QL vs with
  |some r=>J (.s x::r)
  |none=>K
 | .d (.bool t)::vs=>match QL vs with
  |some r=>J (.b t::r)
  |none=>K
 |_=>K
def c8.QM :c8->Option Key
 | .d (.int k n)=>J (.int k n)
 | .d (.str s)=>J (.str s)
 | .d (.bool b)=>J (.bool b)
 | .agg l=>match QL l with
  |some r=>J (.st r)
  |none=>K
 |_=>K
def Data.eM:KK->Key->Key->Option Bool
 | .i,.int k a,.int k' b=>if k=k' then J (a==b) else K
 | .s,.str a,.str b=>J (a==b)
 | .b,.bool a,.bool b=>J (a==b)
 | .st ks,.st l,.st m=>S5 ks (l.map KD.av) (m.map KD.av)
 |_,_,_=>K
def KK.fits (kk:KK)(k:Key):Bool:=match kk,k with
 | .st ks,.st l=>(S5 ks (l.map KD.av) (l.map KD.av)).isSome
 | .st _,_=>F
 |_,_=>W
def cT (kk:KK)(k:Key):List (Key×c8)->Option (Option c8)
 |[]=>J K
 |(k',v)::r=>match Data.eM kk k k' with
  |some W=>J (J v)
  |some F=>cT kk k r
  |none=>K
def fu (kk:KK)(k:Key)(v:c8):List (Key×c8)->Option (List (Key×c8))
 |[]=>J [(k,v)]
 |(k',v')::r=>match Data.eM kk k k' with
  |some W=>J ((k,v)::r)
  |some F=>match fu kk k v r with
   |some r' =>J ((k',v')::r')
   |none=>K
  |none=>K
def Y9 (ρ:y7->c8)(dflt:Nat):Option y7->Option Int
 |none=>J dflt
 |some x=>match ρ x with
  | .d (.int _ n)=>J n
  |_=>K
def Q3 (H:q6)(sz:Nat):c8->Option (Nat×List c8)
 | .d (.slice len cells)=>if O cells=len * sz then J (len,cells.map .d) else K
 | .own z len cells=>if z=sz then J (len,cells.map .d) else K
 | .B8 id z lo len=>if z=sz then match rd H id lo (len * sz) with
   |some cs=>J (len,cs.map c8.K7)
   |none=>K
  else K
 | .d (.str s)=>if sz=1 then J (O s,s.map λb=> .d (.int .u8 b.toNat)) else K
 |_=>K
def o7 (ρ:y7->c8)(H:q6):x9->Option (c8×List Nat)
 | .pick c a b=>match ρ c with
  | .d (.bool t)=>J (if t then ρ a else ρ b,[])
  |_=>K
 | .build zero parts=>match cS zero (parts.map λ(o,s,x)=>(o,s,ρ x)) with
  |some cs=>J (.agg cs,[])
  |none=>K
 | .H6 sz len zero parts F=>match cS zero (parts.map λ(o,s,x)=>(o,s,ρ x)) with
  |some cs=>match P7 cs with
   |some xs=>if 0<sz/\O xs=len * sz then J (.own sz len xs,[]) else K
   |none=>K
  |none=>K
 | .load K x=>match ρ x with
  | .ptr id off=>match rd H id off 1 with
   |some [v]=>J (v.K7,[id])
   |_=>K
  | .U9 (c::_)=>J (.d c,[])
  |_=>K
 | .load (J n) x=>match ρ x with
  | .ptr id off=>match rd H id off n with
   |some vs=>J (.agg (vs.map c8.K7),[id])
   |none=>K
  | .U9 cells=>if n<=O cells then J (.agg ((cells.take n).map .d),[]) else K
  |_=>K
 | .bG x=>match ρ x with
  | .ptr id off=>J (.ptr id off,[])
  | .U9 cells=>J (.U9 cells,[])
  | .func f a b=>J (.func f a b,[])
  |_=>K
 | .bin op x y=>match ρ x,ρ y with
  | .d a,.d b=>match Q9 op a b with
   |some r=>J (.d r,[])
   |none=>K
  |_,_=>K
 | .u7 neg x y=>match ρ x,ρ y with
  | .d (.bool a),.d (.bool b)=>J (.d (.bool (neg != (a==b))),[])
  |_,_=>K
 | .Gi neg ks x y=>match ρ x,ρ y with
  | .agg a,.agg b=>match S5 ks a b with
   |some t=>J (.d (.bool (neg != t)),[])
   |none=>K
  |_,_=>K
 | .un op x=>match ρ x with
  | .d a=>match ES op a with
   |some r=>J (.d r,[])
   |none=>K
  |_=>K
 | .DS neg x=>match ρ x with
  | .d (.slice len _)=>if 0<len then J (.d (.bool neg),[]) else K
  | .B8 _ _ _ _=>J (.d (.bool neg),[])
  |_=>K
 | .ql k x=>match ρ x with
  | .d (.int _ n)=>J (.d (.int k (k.wrap n)),[])
  |_=>K
 | .mO x=>match ρ x with
  | .d (.slice len cells)=>if O cells=len then match jg cells with
    |some bs=>J (.d (.str bs),[])
    |none=>K
   else K
  |_=>K
 | .aJ sz x lo hi=>match ρ x with
  | .d (.slice len cells)=>match Y9 ρ 0 lo,Y9 ρ len hi with
   |some l,J h=>if 0<=l/\l<=h/\h<=len/\O cells=len * sz then
     J (.d (.slice (h - l).toNat ((cells.take (h.toNat * sz)).drop (l.toNat * sz))),[]) else K
   |_,_=>K
  | .B8 id z a len=>match Y9 ρ 0 lo,Y9 ρ len hi with
   |some l,J h=>if 0<=l/\l<=h/\h<=len/\z=sz then
     if l=h then J (.d (.slice 0 []),[]) else J (.B8 id sz (a+l.toNat * sz) (h - l).toNat,[]) else K
   |_,_=>K
  |_=>K
 | .off k x=>match ρ x with
  | .ptr id off=>J (.ptr id (off+k),[])
  | .U9 cells=>J (.U9 (cells.drop k),[])
  |_=>K
 | .O4 sz x i=>match ρ x,ρ i with
  | .d (.slice len cells),.d (.int _ i)=>if 0<=i/\i<len then J (.U9 (cells.drop (i.toNat * sz)),[]) else K
  | .B8 id z lo len,.d (.int _ i)=>if 0<=i/\i<len/\z=sz then J (.ptr id (lo+i.toNat * sz),[]) else K
  |_,_=>K
 | .iE n sz x i=>match ρ x,ρ i with
  | .ptr id off,.d (.int _ i)=>if 0<=i/\i<n then J (.ptr id (off+i.toNat * sz),[]) else K
  | .U9 cells,.d (.int _ i)=>if 0<=i/\i<n then J (.U9 (cells.drop (i.toNat * sz)),[]) else K
  |_,_=>K
 | .K9 x i=>match ρ x,ρ i with
  | .d (.str s),.d (.int _ i)=>if 0<=i then match s[i.toNat]? with
    |some b=>J (.d (.int .u8 b.toNat),[])
    |none=>K
   else K
  |_,_=>K
 | .extract x i=>match ρ x with
  | .tuple vs=>match vs[i]? with
   |some v=>J (v,[])
   |none=>K
  |_=>K
 | .len x=>match ρ x with
  | .d (.slice len _)=>J (i64 len,[])
  | .B8 _ _ _ len=>J (i64 len,[])
  |_=>K
 | .X8 x=>match ρ x with
  | .d (.str s)=>J (i64 (O s),[])
  |_=>K
 | .jJ isMax xs=>match xs.map ρ with
  | .d a::r=>match gH isMax a r with
   |some c=>J (.d c,[])
   |none=>K
  |_=>K
 | .bE f first caps=>J (.func f (first.map ρ) (caps.map ρ),[])
 | .lookup kk zero ok m k=>match ρ m,(ρ k).QM with
  | .map id,J key=>match H[id]? with
   |some (.map es)=>match cT kk key es,kk.fits key with
    |some r,W=>J (if ok then .tuple [r.getD zero,.d (.bool r.isSome)] else r.getD zero,[id])
    |_,_=>K
   |_=>K
  | .d .ew,J key=>match Data.eM kk key key with
   |some W=>J (if ok then .tuple [zero,.d (.bool F)] else zero,[])
   |_=>K
  |_,_=>K
 |_=>K
inductive Touch where
 |slot (s:Nat)
 |obj (id:Nat)
 |cell (id off:Nat)
 |below (n:Nat)
 deriving Inhabited
structure I9 where
 T:List c8
 H:q6
 L:List c8
 o9:List Touch
def Touch.V5 (s:Nat):Touch->Bool
 | .slot t=>t==s
 |_=>F
def Touch.L5 (id:Nat):Touch->Bool
 | .obj i=>i==id
 | .below n=>id<n
 |_=>F
def Touch.dD (id off:Nat):Touch->Bool
 | .obj i=>i==id
 | .cell i o=>i==id&&o==off
 | .below n=>id<n
 |_=>F
def c8.Wk:c8->c8
 | .P9=> .P9
 |v=>v.K7
def K4 (T L:List c8):y7->c8
 | .loc j=>(L.getD j .any).K7
 | .slot s=>(T.getD s .any).K7
 | .const v=>v.Wk
def cA (st:I9):y7->Option (Nat×Nat)
 | .loc m=>match st.L[m]? with
  |some (.ptr id off)=>J (id,off)
  |_=>K
 | .slot s=>if st.o9.any (Touch.V5 s) then K else match st.T[s]? with
  |some (.ptr id off)=>J (id,off)
  |_=>K
 | .const _=>K
structure I7 where
 XU:Nat
 XT:Nat
 base:Nat
 strict:Nat
def I7.may (l:I7)(id:Nat):Bool:=decide (id<l.XU)||decide (l.XT<=id)
def I7.qT (l:I7)(a b base strict:Nat):I7 :=
 if l.XT<=l.XU then ⟨a,b,base,strict⟩ else ⟨min l.XU a,max l.XT b,base,strict⟩
def Z3 (l:I7)(st:I9)(sz:Nat):x9->Option (Nat×List Data×I9)
 | .Q5 (.slot s) =>
  if st.o9.any (Touch.V5 s) then K else
  match st.T[s]? with
  |some (.own z len cells)=>if z=sz then J (len,cells,{ st with T:=st.T.set s (.d (.slice len cells)),o9:= .slot s::st.o9 }) else K
  |_=>K
 | .load K x =>
  match cA st x with
  |some (id,off) =>
   if st.o9.any (Touch.dD id off)|| !l.may id then K else
   match st.H[id]? with
   |some (.cells cs) =>
    match cs[off]? with
    |some (.own z len cells)=>if z=sz then J (len,cells,{ st with H:=st.H.set id (.cells (cs.set off (.d (.slice len cells)))),o9:= .cell id off::st.o9 }) else K
    |_=>K
   |_=>K
  |none=>K
 |_=>K
def R8 (l:I7)(l5:List p7)(st:I9)(sz:Nat):y7->Option (Nat×List Data×I9)
 | .const (.own z len cells)=>if z=sz then J (len,cells,st) else K
 | .const _=>K
 | .slot _=>K
 | .loc j =>
  match st.L[j]? with
  |some (.own z len cells)=>if z=sz then J (len,cells,{ st with L:=st.L.set j (.d (.slice len cells)) }) else K
  |some (.d (.slice _ _))=>match l5[j]? with
   |some a=>Z3 l st sz a.op
   |none=>K
  |_=>K
def roomFor (n bytes:Nat):Bool:=decide ((2 * n+512) * bytes<=281474976710656)
abbrev vR:=FuncId->List c8->q6->I7->Option (c8×q6)
def put (st:I9)(k:Nat)(v:c8):I9:={ st with L:=st.L.set k v }
def E7 (st:I9):y7->c8×I9
 | .loc j=>match st.L[j]? with
  |some (.own z len cells)=>(.own z len cells,{ st with L:=st.L.set j (.d (.slice len cells)) })
  |some .P9=>(.P9,st)
  |_=>(K4 st.T st.L (.loc j),st)
 | .const v=>(v,st)
 | .slot s=>(K4 st.T st.L (.slot s),st)
structure Env where
 cf:vR
 prom:FuncId->Bool
 mode:FuncId->Nat
 idle:FuncId->Bool
 lim:I7
 entry:Nat
def G6 (H:q6)(strict:Nat):Nat->Nat->Nat
 |0,n=>n
 |k+1,n=>if n<=strict then n else
  let m:=max n (P0 ((H.take n).drop strict))
  if m=n then n else G6 H strict k m
def E9 (H:q6)(strict n:Nat):Nat :=
 if n<=strict then n else if aQ ((H.take n).drop strict) strict then n else strict
def D5 (E:Env)(k:Nat)(f:FuncId)(args:List c8)(st:I9):Option I9 :=
 if E.prom f then
  match E.cf f args st.H E.lim with
  |some (v,H1)=>if O st.H<=O H1 then J (put { st with H:=H1,o9:= .below (O H1)::st.o9 } k v) else K
  |none=>K
 else
  let n:=G6 st.H E.lim.strict 8 (C5 args)
  if n<=O st.H/\P0 ((st.H.take n).drop E.lim.strict)<=n then
   match E.mode f with
   |0=>match E.cf f args (st.H.take n) { E.lim with base:=n,strict:=E9 st.H E.lim.strict n } with
    |some (v,H1)=>if O H1=n then J (put { st with H:=H1++st.H.drop n,o9:= .below n::st.o9 } k v) else K
    |none=>K
   |1=>match E.cf f args (st.H.take n) ⟨0,n,n,E9 st.H E.lim.strict n⟩ with
    |some (v,H1)=>if O H1=n then J (put st k v) else K
    |none=>K
   |_ =>
    let m:=(args.headD .any).L7
    match E.cf f args (st.H.take n) (E.lim.qT m n n (E9 st.H E.lim.strict n)) with
    |some (v,H1)=>if O H1=n/\m<=n then J (put { st with H:=H1.take m++st.H.drop m,o9:= .below m::st.o9 } k v) else K
    |none=>K
  else K
def newId (st:I9)(A4:Option Nat):Nat:=A4.getD (O st.H)
def N7 (st:I9)(A4:Option Nat)(o:y6):I9 :=
 match A4 with
 |none=>{ st with H:=st.H++[o] }
 |some i=>{ st with H:=st.H.set i o }
def U2 (E:Env)(k n:Nat)(st:I9)(a:c8)(x:y7):Option I9 :=
 match a with
 | .ptr id off =>
  match (E7 st x).1.cells? with
  |some l =>
   if O l=n/\E.lim.may id/\(C5 l<=id+1\/(E.lim.base<=id/\E.lim.strict<=id)) then
    match wr (E7 st x).2.H id off l with
    |some H' =>J (put { (E7 st x).2 with H:=H',o9:= .obj id::(E7 st x).2.o9 } k .any)
    |none=>K
   else K
  |none=>K
 |_=>K
def V6 (E:Env)(k sz bytes:Nat)(st:I9)(id lo len:Nat)(y:c8):Option I9 :=
 if E.lim.base<=id/\E.entry<=id/\E.lim.may id then
  match st.H[id]?,Q3 st.H sz y with
  |some (.cells l),J (m,cs) =>
   if lo=0/\len * sz=O l/\roomFor (len+m) bytes/\C5 cs<=id/\cs.all c8.one/\0<sz then
    J (put { T:=K6 id st.T,H:=(st.H.take E.lim.base++(st.H.drop E.lim.base).map (y6.kill id)).set id (.cells (K6 id l++cs)),L:=K6 id st.L,o9:= .obj id::st.o9 } k (.B8 id sz lo (len+m)))
   else K
  |_,_=>K
 else K
def rF (l:I7)(st:I9):x9->Bool
 | .Q5 (.slot s)=> !st.o9.any (Touch.V5 s)&&(match st.T[s]? with
  |some .P9=>W
  |_=>F)
 | .load K x =>
  match cA st x with
  |some (id,off)=> !st.o9.any (Touch.dD id off)&&l.may id&&(match st.H[id]? with
   |some (.cells cs)=>(match cs[off]? with
    |some .P9=>W
    |_=>F)
   |_=>F)
  |none=>F
 |_=>F
def isNil (l:I7)(l5:List p7)(st:I9):y7->Bool
 | .const .P9=>W
 | .loc j=>match st.L[j]? with
  |some .P9=>W
  |some (.d (.slice _ _))=>match l5[j]? with
   |some a=>rF l st a.op
   |none=>F
  |_=>F
 |_=>F
def Q1 (E:Env)(l5:List p7)(A4:Option Nat)(k sz bytes:Nat)(ob:Bool)(st:I9)(x:y7)(y:c8):Option I9 :=
 match Q3 st.H sz y with
 |some (m,cs) =>
  if ob then
   if isNil E.lim l5 st x/\roomFor m bytes/\0<sz then
    if m=0 then J (put st k .P9)
    else J (put (N7 st A4 (.cells cs)) k (.B8 (newId st A4) sz 0 m))
   else K
  else
   match P7 cs with
   |some new =>
    match R8 E.lim l5 st sz x with
    |some (len,cells,st') =>
     if roomFor (len+m) bytes/\0<sz then J (put st' k (.own sz (len+m) (cells++new))) else K
    |none=>K
   |none=>K
 |none=>K
def ah (E:Env)(k sz:Nat)(zero:List c8)(st:I9):c8->Option I9
 | .B8 id z lo len =>
  if z=sz/\O zero=sz/\C5 zero=0/\E.lim.may id then
   match wr st.H id lo ((c9 len zero).flatten) with
   |some H' =>J (put { st with H:=H',o9:= .obj id::st.o9 } k (.tuple []))
   |none=>K
  else K
 | .d (.slice 0 _)=>J (put st k (.tuple []))
 |_=>K
def W9 (E:Env)(k:Nat)(kk:KK)(st:I9)(m key v:c8):Option I9 :=
 match m,key.QM with
 | .map id,J kd=>match st.H[id]? with
  |some (.map es) =>
   if v.L7<=id+1/\E.lim.may id then
    match Data.eM kk kd kd with
    |some W=>match fu kk kd v es with
     |some es' =>J (put { st with H:=st.H.set id (.map es'),o9:= .obj id::st.o9 } k .any)
     |none=>K
    |_=>K
   else K
  |_=>K
 |_,_=>K
def F9 (E:Env)(l5:List p7)(A4:Option Nat)(k:Nat)(st:I9):x9->Option I9
 | .alloc zero=>J (put (N7 st A4 (.cells zero)) k (.ptr (newId st A4) 0))
 | .box x=>match (K4 st.T st.L x).cells? with
  |some l=>J (put (N7 st A4 (.cells l)) k (.ptr (newId st A4) 0))
  |none=>K
 | .makeMap=>J (put (N7 st A4 (.map [])) k (.map (newId st A4)))
 | .qz x=>J (put st k (.d x))
 | .own sz x=>match R8 E.lim l5 st sz x with
  |some (len,cells,st')=>J (put st' k (.own sz len cells))
  |none=>K
 | .H6 sz len zero parts W=>match cS zero (parts.map λ(o,s,x)=>(o,s,K4 st.T st.L x)) with
  |some cs=>if 0<sz/\O cs=len * sz then J (put (N7 st A4 (.cells cs)) k (.B8 (newId st A4) sz 0 len)) else K
  |none=>K
 | .store n a x=>U2 E k n st (K4 st.T st.L a) x
 | .append sz bytes ob x y =>
  match K4 st.T st.L x with
  | .B8 id z lo len=>if z=sz then V6 E k sz bytes st id lo len (K4 st.T st.L y) else K
  |_=>Q1 E l5 A4 k sz bytes ob st x (K4 st.T st.L y)
 | .clear sz zero x=>ah E k sz zero st (K4 st.T st.L x)
 | .call f xs=>D5 E k f (xs.map (K4 st.T st.L)) st
 | .bC x xs=>match K4 st.T st.L x with
  | .func f first caps=>D5 E k f (first++xs.map (K4 st.T st.L)++caps) st
  |_=>K
 | .fA kk m key v=>W9 E k kk st (K4 st.T st.L m) (K4 st.T st.L key) (K4 st.T st.L v)
 | .defer x=>match K4 st.T st.L x with
  | .func f _ _=>if E.idle f then J (put st k .any) else K
  |_=>K
 |_=>K
def x9.D6:x9->Bool
 | .alloc _=>W
 | .box _=>W
 | .makeMap=>W
 | .H6 _ _ _ _ b=>b
 | .store .. =>W
 | .append .. =>W
 | .call .. =>W
 | .bC .. =>W
 | .fA .. =>W
 | .clear .. =>W
 | .defer _=>W
 | .qz _=>W
 | .own .. =>W
 |_=>F
def F2 (st:I9)(k:Nat):Option Nat->Option I9
 |none=>J st
 |some s =>
  if s<O st.T then
   J { (E7 st (.loc k)).2 with T:=st.T.set s (E7 st (.loc k)).1,o9:= .slot s::st.o9 }
  else K
def Y5 (st:I9)(k:Nat):Option Nat->Option I9
 |none=>J st
 |some s =>
  if s<O st.T&&st.o9.any (Touch.V5 s) then
   J { (E7 st (.loc k)).2 with T:=st.T.set s (E7 st (.loc k)).1 }
  else K
def u9 (A4:Option Nat)(st:I9)(k:Nat)(dst:Option Nat):Option I9 :=
 match A4 with
 |none=>F2 st k dst
 |some _=>Y5 st k dst
def y8 (L:List c8):Option (Nat×Bool)->Option Bool
 |none=>J W
 |some (j,want)=>match L[j]? with
  |some (.d (.bool b))=>J (b==want)
  |some (.tuple [])=>J F
  |_=>K
def E1 (E:Env)(l5:List p7)(A4:Option Nat)(k:Nat)(op:x9)(st:I9):Option (I9×List Nat) :=
 if op.D6 then
  match F9 E l5 A4 k st op with
  |some st' =>J (st',[])
  |none=>K
 else
  match op with
  | .Q5 x=>J (put (E7 st x).2 k (E7 st x).1,[])
  |op=>match o7 (K4 st.T st.L) st.H op with
   |some (v,rs)=>J (put st k v,rs)
   |none=>K
def z6 (E:Env)(l5:List p7)(A4:Option Nat)(k:Nat)(i:p7)(st:I9):Option (I9×List Nat) :=
 match y8 st.L i.guard with
 |some W =>
  match E1 E l5 A4 k i.op st with
  |some (st',rs)=>match u9 A4 st' k i.dst with
   |some st2=>J (st2,rs)
   |none=>K
  |none=>K
 |some F=>match u9 A4 (put st k (.tuple [])) k i.dst with
  |some st2=>J (st2,[])
  |none=>K
 |none=>K
def gK (E:Env)(l5:List p7):List p7->Nat->I9->Option I9
 |[],_,st=>J st
 |i::is,k,st=>match z6 E l5 K k i st with
  |some (st',_)=>gK E l5 is (k+1) st'
  |none=>K
def x9.B0:x9->Bool
 | .alloc _=>W
 | .box _=>W
 | .makeMap=>W
 | .H6 _ _ _ _ ob=>ob
 | .append _ _ ob _ _=>ob
 | .qz _=>W
 |_=>F
def x9.makes:x9->Bool
 | .qz _=>F
 |op=>op.B0
def J2 (hs:List Touch)(rs:List Nat):Bool:=hs.any λt=>rs.any λid=>t.L5 id
structure lQ where
 reads:List Nat
 JH:List Touch
 Km:Nat
 id:Nat
def M9 (E:Env)(st:I9):x9->Nat
 | .call f xs=>if E.prom f then O st.H else G6 st.H E.lim.strict 8 (C5 (xs.map (K4 st.T st.L)))
 | .bC x xs=>match K4 st.T st.L x with
  | .func f first caps=>if E.prom f then O st.H else G6 st.H E.lim.strict 8 (C5 (first++xs.map (K4 st.T st.L)++caps))
  |_=>0
 |_=>0
def I5 (st:I9):x9->Bool
 | .append _ _ _ x _=>match K4 st.T st.L x with
  | .B8 _ _ _ _=>W
  |_=>F
 |_=>F
def iI:Option Nat->List Touch
 |some n=>[.obj n]
 |none=>[]
def eO (E:Env)(i:p7)(A4:Option Nat)(st st' :I9)(rs:List Nat):lQ :=
 ⟨rs,iI A4++st'.o9.take (O st'.o9 - O st.o9),M9 E st i.op,A4.getD 0⟩
def calm (st:I9)(op:x9)(a:p7):Bool:=match op,a.op with
 | .append _ _ _ x _,.Q5 (.slot s)=>a.dst.isNone&&a.guard.isNone&&(match K4 st.T st.L x,st.T[s]? with
  | .B8 id _ _ _,J (.ptr j _)=> !u5 j id
  |_,_=>F)
 |_,_=>F
def lD (E:Env)(l5:List p7)(A4:Option Nat)(k:Nat)(i:p7)(st:I9):Option (I9×lQ) :=
 if I5 st i.op&&l5.any (λa=>a.cB.contains k&& !calm st i.op a) then K else
 match z6 E l5 A4 k i st with
 |some (st',rs)=>J (st',eO E i A4 st st' rs)
 |none=>K
def S6 (E:Env)(l5:List p7):List p7->Nat->Nat->I9->Option (I9×List lQ)
 |[],_,_,st=>J (st,[])
 |i::is,k,na,st=>match lD E l5 (if i.op.B0 then J na else K) k i st with
  |some (st',l) =>
   match S6 E l5 is (k+1) (if i.op.B0 then na+1 else na) st' with
   |some (st2,lg)=>J (st2,l::lg)
   |none=>K
  |none=>K
def ud (l5:List p7)(lg:List lQ):Bool :=
 (l5.zip lg).all λ(i,l)=>i.cB.all λe=>match lg[e]? with
  |some le=> !J2 le.JH l.reads&&(!i.op.makes||decide (le.Km<=l.id))
  |none=>F
def aO (l5:List p7):q6:=(l5.filter (·.op.B0)).map λ_=> .dead
def slotsOf (l5:List p7):List Touch:=l5.filterMap λi=>if i.op.B0 then i.dst.map .slot else K
def T5 (E:Env)(l5:List p7)(draw:Bool)(T:List c8)(H:q6):Option I9 :=
 if draw then
  match S6 E l5 l5 0 (O H) ⟨T,H++aO l5,c9 (O l5) .any,slotsOf l5⟩ with
  |some (st,lg)=>if ud l5 lg then J st else K
  |none=>K
 else gK E l5 l5 0 ⟨T,H,c9 (O l5) .any,[]⟩
inductive I6 where
 |normal
 |exit (id:Nat)
 |ret
 deriving Inhabited
structure St where
 T:List c8
 H:q6
def V4:List Bool->List c8->List c8
 |true::m,v::vs=>v::V4 m vs
 |false::m,_::vs=> .any::V4 m vs
 |[],_::vs=> .any::V4 [] vs
 |_,[]=>[]
def clean (mask:List Bool)(strict n:Nat)(st:St):St :=
 if C5 (V4 mask st.T)<=n/\P0 ((st.H.take n).drop strict)<=n then ⟨V4 mask st.T,st.H.take n⟩ else ⟨V4 mask st.T,st.H⟩
def jl (body:St->Option (I6×St))(mask:List Bool)(strict n:Nat):Nat->St->Option (I6×St)
 |0,_=>K
 |k+1,st=>match body (clean mask strict n st) with
  |some (.normal,st')=>jl body mask strict n k st'
  |r=>r
def fN:List c8->Nat->Option (Nat×Nat×Nat×Nat×Nat)
 |[],_=>K
 | .B8 id sz lo len::_,i=>J (i,id,sz,lo,len)
 |_::r,i=>fN r (i+1)
def wG (lim:I7)(entry s:Nat)(st:St):Option St :=
 match st.T[s]? with
 |some (.ptr b 0)=>match st.H[b]? with
  |some (.cells cs)=>match fN cs 0 with
   |some (i,id,sz,lo,len)=>match rd st.H id lo (len * sz) with
    |some vs=>match P7 vs with
     |some xs =>
      if lim.base<=id/\entry<=id/\lim.may id=W/\lim.base<=b/\id≠b then
       J ⟨K6 id st.T,((st.H.take lim.base++(st.H.drop lim.base).map (y6.kill id)).set id .dead).set b (.cells ((K6 id cs).set i (.d (.slice len xs))))⟩
      else K
     |none=>K
    |none=>K
   |none=>K
  |_=>K
 |_=>K
mutual
def c8.forget:c8->c8
 | .d (.slice n [])=> .d (.slice n [])
 | .d (.slice _ (_::_))=> .any
 | .own _ _ _=> .any
 | .U9 _=> .any
 | .agg l=> .agg (T8 l)
 | .tuple l=> .tuple (T8 l)
 | .func f a b=> .func f (T8 a) (T8 b)
 |v=>v
def T8:List c8->List c8
 |[]=>[]
 |v::vs=>v.forget::T8 vs
end
def y6.forget:y6->y6
 | .dead=> .dead
 | .cells l=> .cells (T8 l)
 | .map es=> .map (es.map λp=>(p.1,p.2.forget))
def Data.flat:Data->Bool
 | .slice _ _=>F
 |_=>W
def Ar:List c8->Nat->Option (Nat×Nat×Nat×List Data)
 |[],_=>K
 | .own sz len xs::_,i=>J (i,sz,len,xs)
 |_::r,i=>Ar r (i+1)
def NY (lim:I7)(entry s:Nat)(st:St):Option St :=
 match st.T[s]? with
 |some (.ptr b 0)=>match st.H[b]? with
  |some (.cells cs)=>match Ar cs 0 with
   |some (i,sz,len,xs) =>
    if len=0 then J st else
    if entry=0/\lim.base=0/\lim.strict=0/\xs.all Data.flat=W then
     J ⟨T8 st.T,(st.H.map y6.forget).set b (.cells ((T8 cs).set i (.B8 (O st.H) sz 0 len)))++[.cells (xs.map .d)]⟩
    else K
   |none=>K
  |_=>K
 |some (.own sz len xs) =>
  if len=0 then J st else
  if entry=0/\lim.base=0/\lim.strict=0/\xs.all Data.flat=W then
   J ⟨(T8 st.T).set s (.B8 (O st.H) sz 0 len),st.H.map y6.forget++[.cells (xs.map .d)]⟩
  else K
 |none=>if entry=0/\lim.base=0/\lim.strict=0 then J ⟨st.T,st.H++[.dead]⟩ else K
 |_=>K
def pE (lim:I7)(entry s:Nat)(st:St):Option St :=
 match wG lim entry s st with
 |some r=>J r
 |none=>NY lim entry s st
def exec (E:Env)(lim:Nat):q7->St->Option (I6×St)
 | .skip,st=>J (.normal,st)
 | .region ops draw,st=>match T5 E ops draw st.T st.H with
  |some r=>J (.normal,⟨r.T,r.H⟩)
  |none=>K
 | .seq a b,st=>match exec E lim a st with
  |some (.normal,st')=>exec E lim b st'
  |r=>r
 | .cond c a b,st=>match K4 st.T [] c with
  | .d (.bool W)=>exec E lim a st
  | .d (.bool F)=>exec E lim b st
  |_=>K
 | .test ops draw c a b,st=>match T5 E ops draw st.T st.H with
  |some r=>match K4 r.T r.L c with
   | .d (.bool W)=>exec E lim a ⟨r.T,r.H⟩
   | .d (.bool F)=>exec E lim b ⟨r.T,r.H⟩
   |_=>K
  |none=>K
 | .block id body,st=>match exec E lim body st with
  |some (.exit id',st')=>if id' =id then J (.normal,st') else J (.exit id',st')
  |r=>r
 | .loop mask body,st=>jl (exec E lim body) mask E.lim.strict (O st.H) lim st
 | .exit id,st=>J (.exit id,st)
 | .ret,st=>J (.ret,st)
 | .fz s,st=>match pE E.lim E.entry s st with
  |some st' =>J (.normal,st')
  |none=>K
 | .bad,_=>K
def kZ (T:List c8)(H:q6):FR->Option c8
 | .slot s=>T[s]?
 | .cell s K=>match T[s]? with
  |some (.ptr id off)=>match rd H id off 1 with
   |some [v]=>J v.K7
   |_=>K
  |_=>K
 | .cell s (J n)=>match T[s]? with
  |some (.ptr id off)=>match rd H id off n with
   |some vs=>J (.agg (vs.map c8.K7))
   |none=>K
  |_=>K
def bz (T:List c8)(H:q6):List FR->Option (List c8)
 |[]=>J []
 |r::rs=>match kZ T H r with
  |some v=>match bz T H rs with
   |some vs=>J (v::vs)
   |none=>K
  |none=>K
def j3:List c8->c8
 |[v]=>v
 |vs=> .tuple (vs.map c8.K7)
def cV (H:q6)(n:Nat):Nat->List c8->Option (List c8)
 |0,_=>K
 |_+1,[]=>J []
 |fuel+1,v::vs =>
  match cV H n fuel vs with
  |none=>K
  |some ws =>
   match v with
   | .B8 id sz lo len =>
    if id<n then J (.B8 id sz lo len::ws) else
    match rd H id lo (len * sz) with
    |some us=>match cV H n fuel us with
     |some us' =>match P7 us' with
      |some xs=>J (.d (.slice len xs)::ws)
      |none=>K
     |none=>K
    |none=>K
   | .agg l=>match cV H n fuel l with
    |some l' =>J (.agg l' ::ws)
    |none=>K
   | .tuple l=>match cV H n fuel l with
    |some l' =>J (.tuple l' ::ws)
    |none=>K
   |v=>J (v::ws)
structure Prog where
 fn:FuncId->Option q9
 idle:FuncId->Bool
 mode:FuncId->Nat
 cM:FuncId->Option (List c8->q6->I7->Option (c8×q6))
def Prog.prom (A:Prog)(f:FuncId):Bool:=match A.fn f with
 |some af=>af.bw
 |none=>F
def finish (bw:Bool)(n:Nat)(vs:List c8)(H:q6):Option (c8×q6) :=
 if bw then J (j3 vs,H) else
 match cV H n 1000000 [j3 vs] with
 |some [v]=>if v.L7<=n then J (v,H.take n) else K
 |_=>K
def jh (A:Prog)(cf:vR)(lim:Nat)(af:q9)(args:List c8)(H:q6)(l:I7):Option (c8×q6) :=
 if O args=af.nparams then
  match exec ⟨cf,A.prom,A.mode,A.idle,l,O H⟩ lim af.body ⟨args++c9 (O af.names - O args) .any,H⟩ with
  |some (.exit _,_)=>K
  |some (_,st) =>
   match bz st.T st.H af.results with
   |some vs=>finish af.bw (O H) vs st.H
   |none=>K
  |none=>K
 else K
def call (A:Prog):Nat->vR
 |0=>λ_ _ _ _=>K
 |n+1=>λf args H l =>
  match A.cM f with
  |some p=>p args H l
  |none=>match A.fn f with
   |some af=>jh A (call A n) n af args H l
   |none=>K
inductive Place where
 |slot (s:Nat)
 |loc (j:Nat)
 |cell (id off:Nat)
 |none
 |ret
 deriving DecidableEq
inductive Wb where
 |free
 |nj
 |held (n:Nat)
 |obj (id:Nat)
 |grow (n:Nat) (pl:Place)
 deriving DecidableEq
abbrev Gh:=Nat->Wb
abbrev U3:=Nat->Nat×Nat
def kA (G:Gh)(b o:Nat):Prop :=
 match G b with
 | .nj=>True
 | .held n=>o<n
 | .grow n _=>o<n
 |_=>False
abbrev ad (b o:Nat):Addr:=⟨b,o,Option.none⟩
mutual
def DR (G:Gh)(w:World):Data->Value->Prop
 | .bool b,v=>v= .bool b
 | .int k n,v=>v= .int k n
 | .str s,v=>v= .string ⟨s.toArray⟩
 | .slice len cells,v=>((v= .slice Option.none 0 0\/∃a,v= .slice (J a) 0 0)/\len=0/\cells=[]) \/
   ∃b o cap,v= .slice (J (ad b o)) len cap/\len<=cap/\gq G w b o cells
 | .dg,v=>v= .pointer Option.none
 | .R2,v=>v= .nilFunc
 | .ew,v=>v= .map Option.none
 | .nilIface,v=>v= .nilIface
def gq (G:Gh)(w:World)(b:Nat):Nat->List Data->Prop
 |_,[]=>True
 |o,c::cs=>kA G b o/\(∃x,w.cell? (ad b o)=J x/\DR G w c x)/\gq G w b (o+1) cs
end
def Qa (f:Nat×Nat)(n:Nat):Prop:=∀o,o<n->¬ (f.1<=o/\o<f.2)
mutual
def VR (G:Gh)(I:U3)(N:Nat->Prop)(w:World):Place->c8->Value->Prop
 |_,.any,_=>True
 |_,.d x,v=>DR G w x v
 |_,.ptr id off,v=>N id/\v= .pointer (J (ad (I id).1 ((I id).2+off)))
 |_,.U9 cells,v=>∃b o,v= .pointer (J (ad b o))/\gq G w b o cells
 |_,.B8 id sz lo len,v=>N id/\∃cap,v= .slice (J (ad (I id).1 ((I id).2+lo))) len cap/\len<=cap /\
   ∃c e f,w.heap[(I id).1]? =J (.cells c e f)/\(I id).2+lo+cap * sz<=c.size
 |pl,.own sz len cells,v=>O cells=len * sz /\
   (((v= .slice Option.none 0 0\/∃b o,v= .slice (J (ad b o)) 0 0)/\len=0) \/
    (pl≠ .none/\∃b o cap c e f,v= .slice (J (ad b o)) len cap/\len<=cap/\w.heap[b]? =J (.cells c e f)/\o+cap * sz<=c.size/\Qa f c.size /\
     G b= .grow (o+len * sz) pl/\gq G w b o cells))
 |_,.P9,v=>v= .slice Option.none 0 0
 |_,.agg l,v=>∃cs:Array Value,v= .agg cs/\L3 G I N w l cs.toList
 |_,.tuple l,v=>∃cs:Array Value,v= .tuple cs/\L3 G I N w l cs.toList
 |_,.func f a b,v=>∃x y:Array Value,v= .func (.func f) x y/\L3 G I N w a x.toList/\L3 G I N w b y.toList
 |_,.map id,v=>N id/\v= .map (J (I id).1)
def L3 (G:Gh)(I:U3)(N:Nat->Prop)(w:World):List c8->List Value->Prop
 |[],vs=>vs=[]
 |a::as,vs=>∃x xs,vs=x::xs/\VR G I N w .none a x/\L3 G I N w as xs
end
def KD.val:KD->Value
 | .i k n=> .int k n
 | .s x=> .string ⟨x.toArray⟩
 | .b t=> .bool t
def Key.val:Key->Value
 | .int k n=> .int k n
 | .str x=> .string ⟨x.toArray⟩
 | .bool t=> .bool t
 | .st l=> .agg (l.map KD.val).toArray
def ER (G:Gh)(I:U3)(N:Nat->Prop)(w:World):List (Key×c8)->List MapEntry->Prop
 |[],es=>es=[]
 |(k,v)::r,es=>∃e es',es=e::es' /\e.key=k.val/\VR G I N w .none v e.val/\ER G I N w r es'
structure La (arr:Array MapEntry)(gW:Nat):Prop where
 old:∀e∈arr.toList,e.born<gW
 nodup:(arr.toList.map (·.born)).Nodup
theorem La.push {arr:Array MapEntry}{gW:Nat}(h:La arr gW)(k v:Value):La (arr.push { key:=k,val:=v,born:=gW }) (gW+1) where
 old e he:=by
  rw [Array.toList_push] at he
  rcases D7.1 he with he|he
  .exact Nat.lt_succ_of_lt (h.old e he)
  simp_all
 nodup:=by
  rw [Array.toList_push,List.map_append,List.nodup_append];refine ⟨h.nodup,U,λa ha b hb=>?_⟩;simp [K0,List.map_nil,q8] at hb;obtain ⟨e,he,rfl⟩:=J4.1 ha;have:=h.old e he;omega
theorem La.modify {arr:Array MapEntry}{gW:Nat}(h:La arr gW)(j:Nat)(g:MapEntry->MapEntry)(hg:∀e,(g e).born=e.born):La (arr.modify j g) gW:=by
 have e1:(arr.modify j g).toList.map (·.born)=arr.toList.map (·.born):=by
  apply List.ext_getElem?
  grind
 refine ⟨λe he=>?_,by rw [e1];exact h.nodup⟩;have:e.born∈arr.toList.map (·.born):=by
  grind
 obtain ⟨e',he',hb⟩:=J4.1 this;rw [<- hb];exact h.old e' he'
def OR (G:Gh)(I:U3)(N:Nat->Prop)(w:World)(id:Nat):y6->Prop
 | .dead=>True
 | .cells l=>N id/\∃c e f,w.heap[(I id).1]? =J (.cells c e f)/\G (I id).1= .obj id/\Qa f c.size/\(I id).2+O l<=c.size /\
   ∀i x,l[i]? =J x->∃v,c[(I id).2+i]? =J v/\VR G I N w (.cell id i) x v
 | .map es=>N id/\∃arr gW,w.heap[(I id).1]? =J (.map arr gW)/\G (I id).1= .obj id/\ER G I N w es arr.toList/\La arr gW
def HR (G:Gh)(I:U3)(N:Nat->Prop)(w:World)(H:q6):Prop:=∀id o,H[id]? =J o->OR G I N w id o
def WF (G:Gh)(w:World):Prop:=∀b,w.heap.size<=b->G b= .free
structure Sub (G:Gh)(w:World)(G' :Gh)(w' :World):Prop where
 nj:∀b o:Nat,kA G b o->kA G' b o/\w'.cell? (ad b o)=w.cell? (ad b o)
 shape:∀(b:Nat) (c:Array Value) (e:TypeId) (f:Nat×Nat),w.heap[b]? =J (Obj.cells c e f)->∃c' :Array Value,w'.heap[b]? =J (Obj.cells c' e f)/\c'.size=c.size
class E5 where
 on:Prop
section
variable [E5]
structure Ext (G:Gh)(w:World)(G' :Gh)(w' :World):Prop where
 os:w'.os=w.os
 tape:w'.tape=w.tape
 output:w'.output=w.output
 drawn:E5.on->w.drawn<=w'.drawn
 size:w.heap.size<=w'.heap.size
 nj:∀b o:Nat,kA G b o->kA G' b o/\w'.cell? (ad b o)=w.cell? (ad b o)
 still:∀b:Nat,(G b= .nj\/∃n,G b= .held n)->G' b=G b/\w'.heap[b]? =w.heap[b]?
 shape:∀(b:Nat) (c:Array Value) (e:TypeId) (f:Nat×Nat),w.heap[b]? =J (Obj.cells c e f)->∃c' :Array Value,w'.heap[b]? =J (Obj.cells c' e f)/\c'.size=c.size
def Ext.sub {G:Gh}{w:World}{G' :Gh}{w' :World}(h:Ext G w G' w'):Sub G w G' w' :=⟨h.nj,h.shape⟩
instance {G:Gh} {w:World} {G' :Gh} {w' :World}:CoeOut (Ext G w G' w') (Sub G w G' w'):=⟨Ext.sub⟩
theorem Ext.refl (G:Gh)(w:World):Ext G w G w :=
 ⟨rfl,rfl,rfl,λ_=>l6 _,l6 _,λ_ _ h=>⟨h,rfl⟩,λ_ _=>⟨rfl,rfl⟩,λ_ c _ _ h=>⟨c,h,rfl⟩⟩
theorem Ext.trans {G:Gh}{w:World}{G1:Gh}{w1:World}{G2:Gh}{w2:World}(h:Ext G w G1 w1)(k:Ext G1 w1 G2 w2):Ext G w G2 w2 where
 os:=k.os.trans h.os
 tape:=k.tape.trans h.tape
 output:=k.output.trans h.output
 drawn o:=C9 (h.drawn o) (k.drawn o)
 size:=C9 h.size k.size
 nj b o hi:=by
  obtain ⟨a1,a2⟩:=h.nj b o hi;obtain ⟨b1,b2⟩:=k.nj b o a1;simp_all
 still b hb:=by
  obtain ⟨a1,a2⟩:=h.still b hb;obtain ⟨b1,b2⟩:=k.still b M;simp_all
 shape b c e f hc:=by
  obtain ⟨c1,h1,s1⟩:=h.shape b c e f hc;obtain ⟨c2,h2,s2⟩:=k.shape b c1 e f h1;simp_all
def Ext.drew {G:Gh}{w:World}{G' :Gh}{w' :World}(h:Ext G w G' w')(n:Nat)(hn:w'.drawn<=n):Ext G w G' { w' with drawn:=n } :=
 ⟨h.os,h.tape,h.output,λo=>C9 (h.drawn o) hn,h.size,h.nj,h.still,h.shape⟩
end
mutual
theorem DR.mono {G:Gh}{w:World}{G' :Gh}{w' :World}
  (h:∀b o,kA G b o->kA G' b o/\w'.cell? (ad b o)=w.cell? (ad b o)):∀(d:Data) (v:Value),DR G w d v->DR G' w' d v
 | .bool _,_,hd=>by simp_all [DR]
 | .int _ _,_,hd=>by simp_all [DR]
 | .str _,_,hd=>by simp_all [DR]
 | .slice _ cells,_,hd=>by
  simp [DR] at hd ⊢
  rcases hd with hd|⟨b,o,cap,h1,h2,h3⟩
  .simp_all
  .exact Or.inr ⟨b,o,cap,h1,h2,gq.mono h b o cells h3⟩
 | .dg,_,hd=>by simp_all [DR]
 | .R2,_,hd=>by simp_all [DR]
 | .ew,_,hd=>by simp_all [DR]
 | .nilIface,_,hd=>by simp_all [DR]
theorem gq.mono {G:Gh}{w:World}{G' :Gh}{w' :World}
  (h:∀b o,kA G b o->kA G' b o/\w'.cell? (ad b o)=w.cell? (ad b o)) (b:Nat):∀(o:Nat) (l:List Data),gq G w b o l->gq G' w' b o l
 |_,[],_=>by simp [gq]
 |o,c::cs,hd=>by
  obtain ⟨h1,⟨x,h2,h3⟩,h4⟩:=hd;obtain ⟨i1,i2⟩:=h b o h1;exact ⟨i1,⟨x,i2.trans h2,DR.mono h c x h3⟩,gq.mono h b (o+1) cs h4⟩
end
def cR (pl:Place)(G:Gh)(w:World)(G' :Gh)(w' :World):Prop :=
 ∀b n,G b= .grow n pl->G' b= .grow n pl/\w'.heap[b]? =w.heap[b]?
mutual
theorem VR.mono {G:Gh}{I:U3}{N:Nat->Prop}{w:World}{G' :Gh}{I' :U3}{N' :Nat->Prop}{w' :World}(hx:Sub G w G' w')
  (hI:∀id,N id->I' id=I id) (hN:∀id,N id->N' id):∀(pl:Place) (a:c8) (v:Value),(pl= .none\/cR pl G w G' w')->VR G I N w pl a v->VR G' I' N' w' pl a v
 |_,.any,_,_,_=>by simp [VR]
 |_,.d x,v,_,h=>by exact DR.mono hx.nj x v h
 |_,.ptr id off,v,_,h=>by
  simp_all [VR]
 |_,.U9 cells,v,_,h=>by
  obtain ⟨b,o,h1,h2⟩:=h;exact ⟨b,o,h1,gq.mono hx.nj b o cells h2⟩
 |_,.B8 id sz lo len,v,_,h=>by
  simp only [VR] at h ⊢;obtain ⟨h1,cap,h2,h3,c,e,f,h4,h5⟩:=h;obtain ⟨c',g1,g2⟩:=hx.shape _ c e f h4;simp_all
 |pl,.own sz len cells,v,hk,h=>by
  obtain ⟨h0,h⟩:=h;refine ⟨h0,?_⟩
  rcases h with h|⟨hp,b,o,cap,c,e,f,h1,h2,h3,h4,h5,h6,h7⟩
  .simp_all
  .rcases hk with hk|hk
   .simp_all
   .obtain ⟨k1,k2⟩:=hk b _ h6
    exact Or.inr ⟨hp,b,o,cap,c,e,f,h1,h2,k2.trans h3,h4,h5,k1,gq.mono hx.nj b o cells h7⟩
 |_,.P9,v,_,h=>by simp_all [VR]
 |_,.agg l,v,_,h=>by
  obtain ⟨cs,h1,h2⟩:=h;exact ⟨cs,h1,L3.mono hx hI hN l _ h2⟩
 |_,.tuple l,v,_,h=>by
  obtain ⟨cs,h1,h2⟩:=h;exact ⟨cs,h1,L3.mono hx hI hN l _ h2⟩
 |_,.func f a b,v,_,h=>by
  obtain ⟨x,y,h1,h2,h3⟩:=h;exact ⟨x,y,h1,L3.mono hx hI hN a _ h2,L3.mono hx hI hN b _ h3⟩
 |_,.map id,v,_,h=>by
  simp_all [VR]
theorem L3.mono {G:Gh}{I:U3}{N:Nat->Prop}{w:World}{G' :Gh}{I' :U3}{N' :Nat->Prop}{w' :World}(hx:Sub G w G' w')
  (hI:∀id,N id->I' id=I id) (hN:∀id,N id->N' id):∀(l:List c8) (vs:List Value),L3 G I N w l vs->L3 G' I' N' w' l vs
 |[],_,h=>by grind [L3]
 |a::as,vs,h=>by
  obtain ⟨x,xs,h1,h2,h3⟩:=h;exact ⟨x,xs,h1,VR.mono hx hI hN .none a x (Or.inl rfl) h2,L3.mono hx hI hN as xs h3⟩
end
theorem ER.mono {G:Gh}{I:U3}{N:Nat->Prop}{w:World}{G' :Gh}{I' :U3}{N' :Nat->Prop}{w' :World}(hx:Sub G w G' w')
  (hI:∀id,N id->I' id=I id) (hN:∀id,N id->N' id):∀(l:List (Key×c8)) (es:List MapEntry),ER G I N w l es->ER G' I' N' w' l es
 |[],_,h=>by grind [ER]
 |(k,v)::r,es,h=>by
  obtain ⟨e,es',h1,h2,h3,h4⟩:=h;exact ⟨e,es',h1,h2,VR.mono hx hI hN .none _ _ (Or.inl rfl) h3,ER.mono hx hI hN r es' h4⟩
theorem OR.mono {G:Gh}{I:U3}{N:Nat->Prop}{w:World}{G' :Gh}{I' :U3}{N' :Nat->Prop}{w' :World}(hx:Sub G w G' w')
  (hI:∀id,N id->I' id=I id) (hN:∀id,N id->N' id) (id:Nat) (o:y6)
  (hb:G (I id).1= .obj id->G' (I id).1= .obj id/\w'.heap[(I id).1]? =w.heap[(I id).1]?)
  (hc:∀off,cR (.cell id off) G w G' w') (h:OR G I N w id o):OR G' I' N' w' id o:=by
 cases o with
 |dead=>simp [OR]
 |cells l =>
  grind [OR,VR.mono]
 |map es =>
  grind [OR,ER.mono]
theorem VR.K7 {G:Gh}{I:U3}{N:Nat->Prop}{w:World}{pl Av :Place}:∀{a:c8} {v:Value},VR G I N w pl a v->VR G I N w Av a.K7 v
 | .any,_,_=>by simp [c8.K7,VR]
 | .d _,_,h=>by grind [c8.K7,VR]
 | .ptr _ _,_,h=>by grind [c8.K7,VR]
 | .U9 _,_,h=>by grind [c8.K7,VR]
 | .B8 _ _ _ _,_,h=>by grind [c8.K7,VR]
 | .own sz len cells,v,h=>by
  simp [c8.K7,VR,DR] at h ⊢;obtain ⟨h0,h⟩:=h
  rcases h with ⟨h1,h2⟩|⟨hp,b,o,cap,c,e,f,h1,h2,h3,h4,h5,h6,h7⟩
  all_goals (simp_all [gq]<;>grind)
 | .P9,v,h=>by
  simp_all [c8.K7,VR,DR,trivial]
 | .agg _,_,h=>by grind [c8.K7,VR]
 | .tuple _,_,h=>by grind [c8.K7,VR]
 | .func _ _ _,_,h=>by grind [c8.K7,VR]
 | .map _,_,h=>by grind [c8.K7,VR]
theorem VR.Wk {G:Gh}{I:U3}{N:Nat->Prop}{w:World}{pl Av :Place}{a:c8}{v:Value}(h:VR G I N w pl a v):VR G I N w Av a.Wk v:=by
 cases a
 case P9=>simp_all [c8.Wk,VR]
 all_goals exact h.K7
def YK {u:c8}(h:u.K7=u):u.Wk=u:=by
 cases u
 case P9=>rfl
 all_goals exact h
def Jr:Value->c8->Bool
 |_,.any=>W
 | .bool b,.d (.bool c)=>b==c
 | .int k n,.d (.int k' n')=>k==k' &&n==n'
 | .string s,.d (.str l)=>s.data.toList==l
 | .slice Option.none 0 0,.own _ 0 []=>W
 | .slice Option.none 0 0,.P9=>W
 | .slice Option.none 0 0,.d (.slice 0 [])=>W
 | .pointer Option.none,.d .dg=>W
 | .map Option.none,.d .ew=>W
 | .nilFunc,.d .R2=>W
 | .nilIface,.d .nilIface=>W
 |_,_=>F
def consts:List Value->List c8->Bool
 |[],[]=>W
 |v::vs,a::as=>Jr v a&&consts vs as
 |_,_=>F
def BM:Value->c8->Bool
 | .agg cs,.agg l=>consts cs.toList l
 |v,a=>Jr v a
structure Cx where
 P:Program
 names:List Tmp
 ops:Array Oper
def Cx.ck (X:Cx)(i6:Nat->Bool):Operand->y7->Bool
 | .tmp t,.slot s=>X.names[s]? ==J t
 | .tmp t,.loc j=>i6 j&&((X.ops[j]?).bind (·.dst))==J t&& !X.names.contains t
 | .const v,.const a=>BM v a
 | .func f,.const (.func g [] [])=>f==g
 |_,.const .any=>W
 |_,_=>F
def Yy (ck:Operand->y7->Bool):List Operand->List y7->Bool
 |[],[]=>W
 |x::xs,y::ys=>ck x y&&Yy ck xs ys
 |_,_=>F
def ckO (ck:Operand->y7->Bool):Option Operand->Option y7->Bool
 |none,K=>W
 |some x,J y=>ck x y
 |_,_=>F
def fm (P:Program)(t:TypeId):Option Bool :=
 match P.underlying t with
 |some (.struct _)=>J W
 |some (.array _ _)=>J W
 |some _=>J F
 |none=>K
def vj (P:Program)(t:TypeId):Option Nat->Bool
 |none=>fm P t==J F
 |some n=>fm P t==J W&&P.cellsOf t==n&&decide (0<n)
def rj (P:Program)(t:TypeId)(sz:Nat):Bool :=
 match P.underlying t with
 |some (.slice e)=>P.cellsOf e==sz&&(P.info? e).isSome
 |_=>F
def gF (P:Program)(t:TypeId):CK->Bool
 | .i=>match P.underlying t with
  |some (.int _)=>W
  |_=>F
 | .s=>match P.underlying t with
  |some .string=>W
  |_=>F
 | .b=>match P.underlying t with
  |some .bool=>W
  |_=>F
def V3 (P:Program):List Field->Nat->List CK->Bool
 |[],_,[]=>W
 | f :: fs, n, k :: ks => f.name != "_" && gF P f.type k && f.offset == n && V3 P fs (n + 1) ks
 |_,_,_=>F
def kO (P:Program)(t:TypeId)(ks:List CK):Bool :=
 match P.underlying t with
 |some (.struct fs)=>V3 P fs.toList 0 ks&& !P.stoodInHeld t&& !P.eqGuardType P.depth t
 |_=>F
def fK (P:Program):List Field->Nat->List CK->Bool
 |[],_,[]=>W
 |[],_,_::_=>F
 | f :: fs, n, ks => f.name != "_" && f.offset == n &&
  (match P.underlying f.type with
  |some (.struct gs)=>(P.info? f.type).isSome&&P.cellsOf f.type==gs.size&&V3 P gs.toList 0 (ks.take gs.size)&& !P.stoodInHeld f.type&&fK P fs (n+gs.size) (ks.drop gs.size)
  |_=>(match ks with
   |k::r=>gF P f.type k&&fK P fs (n+1) r
   |[]=>F))
def Ac (P:Program)(t:TypeId)(ks:List CK):Bool :=
 match P.underlying t with
 |some (.struct fs)=>fK P fs.toList 0 ks&& !P.stoodInHeld t&& !P.eqGuardType P.depth t
 |_=>F
def yU (P:Program)(t:TypeId):KK->Bool
 | .i=>gF P t .i
 | .s=>gF P t .s
 | .b=>gF P t .b
 | .st ks=>kO P t ks
def mq (P:Program)(ck:Operand->y7->Bool)(place:Nat->Option (Nat×Nat)):List (Nat×Operand)->List (Nat×Nat×y7)->Bool
 |[],[]=>W
 |(i,x)::r,(off,sz,y)::q=>place i==J (off,sz)&&ck x y&&mq P ck place r q
 |_,_=>F
def Ab (P:Program)(fs:List Field):Option (List (Nat×Nat)):=fs.mapM λf=>(P.info? f.type).map λi=>(f.offset,i.size)
def Fe (P:Program)(t:TypeId)(l:List c8):Bool :=
 match P.info? t with
 |some i=>match i.zero with
  |some z=>consts z.cells.toList l
  |none=>F
 |none=>F
def G5 (P:Program)(ck:Operand->y7->Bool)(o:Oper)(op:x9):Bool :=
 match o.op,op with
 | .pick c a b,.pick c' a' b' =>ck c c' &&ck a a' &&ck b b'
 | .load t x,.load n y=>ck x y&&vj P t n
 | .nilCheck x,.bG y=>ck x y
 | .binOp b _ x y _,.bin b' x' y' =>b==b' &&ck x x' &&ck y y'
 | .binOp b t x (.const (.slice Option.none 0 0)) _,.DS neg x' =>ck x x' &&(match P.underlying t with|some (.slice _)=>W|_=>F)&&(if neg then b== .neq else b== .eql)
 | .binOp b t x y _,.u7 neg x' y' =>ck x x' &&ck y y' &&(match P.underlying t with|some .bool=>W|_=>F)&&(if neg then b== .neq else b== .eql)
 | .binOp b t x y _,.Gi neg ks x' y' =>ck x x' &&ck y y' &&Ac P t ks&&(if neg then b== .neq else b== .eql)
 | .unOp b _ x,.un b' x' =>b==b' &&ck x x'
 | .convert s d x,.ql k y=>ck x y&&(P.underlying s).isSome&&(match P.underlying d with|some (.int k')=>k==k' |_=>F)
 | .convert s d x,.mO y=>ck x y&&(match P.underlying s with|some (.slice e)=>(match P.underlying e with|some (.int .u8)=>W|_=>F)|_=>F)&&(match P.underlying d with|some .string=>W|_=>F)
 | .slice t x lo hi K,.aJ sz y lo' hi' =>ck x y&&ckO ck lo lo' &&ckO ck hi hi' &&rj P t sz&&decide (0<sz)
 | .fieldAddr s x f,.off k y=>ck x y&&(match P.underlying s with
  |some (.struct fs)=>(match fs[f]? with
   |some fd=>fd.offset==k&&decide (0<P.cellsOf fd.type)
   |none=>F)
  |_=>F)
 | .indexAddr t x i,.O4 sz y j=>ck x y&&ck i j&&rj P t sz
 | .indexAddr t x i,.iE n sz y j=>ck x y&&ck i j&&(match P.underlying t with|some (.array m e)=>m==n&&P.cellsOf e==sz&&(P.info? e).isSome|_=>F)
 | .index t x i,.K9 y j=>ck x y&&ck i j&&(match P.underlying t with|some .string=>W|_=>F)
 | .extract x i,.extract y j=>ck x y&&i==j
 | .call { callee:= .builtin .len,args,argTypes },.len y=>(match args[0]?,argTypes[0]? with
  |some x,J t=>ck x y&&(match P.underlying t with|some (.slice _)=>W|_=>F)
  |_,_=>F)
 | .call { callee:= .builtin .len,args,argTypes },.X8 y=>(match args[0]?,argTypes[0]? with
  |some x,J t=>ck x y&&(match P.underlying t with|some .string=>W|_=>F)
  |_,_=>F)
 | .call { callee:= .builtin .max,args,.. },.jJ W ys=>Yy ck args.toList ys&&decide (2<=O ys)
 | .call { callee:= .builtin .min,args,.. },.jJ F ys=>Yy ck args.toList ys&&decide (2<=O ys)
 | .makeFunc (.func f) first caps,.bE g first' bk3 =>f==g&&Yy ck first.toList first' &&Yy ck caps.toList bk3
 | .lookup t m k ok,.lookup kk zero ok' m' k' =>ok==ok' &&ck m m' &&ck k k' &&(match P.underlying t with
  |some (.map kt et)=>yU P kt kk&&(match P.info? et with
   |some i=>(match i.zero with
    |some z=>BM z zero
    |none=>F)
   |none=>F)
  |_=>F)
 | .build t parts,.build zero ps=>(match P.underlying t with
  |some (.struct fs)=>(match Ab P fs.toList with
   |some places=>Fe P t zero&&mq P ck (λi=>places[i]?) parts.toList ps
   |none=>F)
  |some (.array _ e)=>(match P.info? e with
   |some i=>Fe P t zero&&mq P ck (λj=>J (j * i.size,i.size)) parts.toList ps
   |none=>F)
  |_=>F)
 |_,_=>F
theorem wq {G:Gh}{I:U3}{N:Nat->Prop}{w:World}:∀(v:Value) (a:c8),Jr v a=W->VR G I N w .none a v:=by
 intro v a h;unfold Jr at h;split at h
 all_goals first
  |(done)
  |(simp at h;done)
  |(simp [VR,DR];done)
  |(simp only [VR,DR];simp_all;done)
  |skip
 next s l=>
  simp [VR,DR];have:s.data.toList=l:=by simpa using h
  subst this;simp
theorem gC {G:Gh}{I:U3}{N:Nat->Prop}{w:World}:∀(vs:List Value) (l:List c8),consts vs l=W->L3 G I N w l vs
 |[],[],_=>by simp [L3]
 |v::vs,a::as,h=>by
  simp [consts,c7] at h;exact ⟨v,vs,rfl,wq v a h.1,gC vs as h.2⟩
 |[],_::_,h=>by simp [consts] at h
 |_::_,[],h=>by simp [consts] at h
def eC {G:Gh}{I:U3}{N:Nat->Prop}{w:World}(v:Value)(a:c8)(h:BM v a=W):VR G I N w .none a v:=by
 unfold BM at h
 grind [VR,gC,wq]
theorem X0 {w:World}{b:Nat}{c:Array Value}{e:TypeId}{f:Nat×Nat}(h:w.heap[b]? =J (.cells c e f))(o:Nat):w.cell? (ad b o)=c[o]? :=by
 simp [World.cell?,h]
theorem bX (b o n:Nat):(ad b o).add n=ad b (o+n):=by
 simp_all [Addr.add]
theorem gq.drop {G:Gh}{w:World}{b:Nat}:∀(n o:Nat) (l:List Data),gq G w b o l->gq G w b (o+n) (l.drop n)
 |0,_,_,h=>by simpa using h
 |n+1,o,[],_=>by simp [gq]
 |n+1,o,c::cs,h=>by
  have:=gq.drop n (o+1) cs h.2.2
  grind
theorem gq.take {G:Gh}{w:World}{b:Nat}:∀(n o:Nat) (l:List Data),gq G w b o l->gq G w b o (l.take n)
 |0,_,_,_=>by simp [gq]
 |n+1,o,[],_=>by simp [gq]
 |n+1,o,c::cs,h=>by
  simp_all [gq,List.take_succ_cons,gq.take]
theorem gq.vals {G:Gh}{I:U3}{N:Nat->Prop}{w:World}{b:Nat}:∀(o:Nat) (l:List Data),gq G w b o l ->
  ∃vs:List Value,O vs=O l/\(∀j v,vs[j]? =J v->w.cell? (ad b (o+j))=J v)/\L3 G I N w (l.map .d) vs
 |_,[],_=>⟨[],rfl,U,by simp [L3]⟩
 |o,c::cs,h=>by
  obtain ⟨h1,⟨x,h2,h3⟩,h4⟩:=h;obtain ⟨vs,g1,g2,g3⟩:=gq.vals (I:=I) (N:=N) (o+1) cs h4;simp_all [L3,VR]<;>grind
theorem L3.length {G:Gh}{I:U3}{N:Nat->Prop}{w:World}:∀(l:List c8) (vs:List Value),L3 G I N w l vs->O vs=O l
 |[],vs,h=>by simp_all [L3]
 |a::as,vs,h=>by
  obtain ⟨x,xs,h1,_,h3⟩:=h;subst h1;simp [L3.length as xs h3]
theorem HR.rd {G:Gh}{I:U3}{N:Nat->Prop}{w:World}{H:q6}(hH:HR G I N w H){id off n:Nat}{vs:List c8}(h:rd H id off n=J vs)(hn:0<n) :
  N id/\∃xs:List Value,O xs=n/\O vs=n/\(∀j v,xs[j]? =J v->w.cell? (ad (I id).1 ((I id).2+off+j))=J v) /\
   (∀j a v,vs[j]? =J a->xs[j]? =J v->VR G I N w (.cell id (off+j)) a v):=by
 unfold A1.rd at h;split at h
 next l hl=>
  split at h
  .cases h
   have ho:=hH id _ hl;obtain ⟨hid,c,e,f,h1,h2,h3,h4,h5⟩:=ho
   .refine ⟨hid,(List.range n).map (λj=>(c[(I id).2+off+j]?).getD default),U,D,λj v hj=>?_,λj a v ha hv=>?_⟩
    .rw [X0 h1]
     grind
    .have hjn:j<n:=by
      grind
     grind
  .cases h
 .cases h
section
variable {P:Program} {w:World}
theorem info_of_underlying {t:TypeId}{d:TypeDesc}(h:P.underlying t=J d):(P.info? t).isSome=W:=by
 grind [Program.underlying]
theorem run_sizeOf {t:TypeId}(h:(P.info? t).isSome=W):(sizeOf t).run P w= .ok (P.cellsOf t) w:=by
 cases hi:P.info? t with
 |none=>simp_all
 |some i=>simp [sizeOf,typeInfo,hi,Program.cellsOf]
def dP {t:TypeId}{b:Bool}(h:fm P t=J b):(isAgg t).run P w= .ok b w:=by
 unfold fm at h;cases hu:P.underlying t with
 |none=>simp_all
 |some d=>cases d<;>simp [hu] at h<;>subst h<;>simp [isAgg,run_underlying hu]
def kS {t:TypeId}{sz:Nat}(h:rj P t sz=W):∃e,P.underlying t=J (.slice e)/\P.cellsOf e=sz/\(P.info? e).isSome=W:=by
 grind [rj]
theorem U4 {G:Gh}{I:U3}{N:Nat->Prop}:∀(l:List c8) (xs:List Value),O xs=O l ->
  (∀(j:Nat) a v,l[j]? =J a->xs[j]? =J v->VR G I N w .none a v)->L3 G I N w l xs
 |[],xs,h,_=>by simp_all [L3]
 |a::as,[],h,_=>by simp at h
 |a::as,x::xs,h,hp=>by
  exact ⟨x,xs,rfl,hp 0 a x rfl rfl,U4 as xs (by simpa using h) λj a' v ha hv=>hp (j+1) a' v M M⟩
theorem L3.get {G:Gh}{I:U3}{N:Nat->Prop}:∀(l:List c8) (xs:List Value),L3 G I N w l xs->∀(j:Nat) a,l[j]? =J a->∃v,xs[j]? =J v/\VR G I N w .none a v
 |[],_,_,_,_,h=>by simp at h
 |a::as,xs,h,j,b,hb=>by
  obtain ⟨x,xs',h1,h2,h3⟩:=h;subst h1;cases j with
  |zero=>simp at hb;subst hb;exact ⟨x,rfl,h2⟩
  |succ j=>simpa using L3.get as xs' h3 j b (by simpa using hb)
def VR.place {G:Gh}{I:U3}{N:Nat->Prop}{a:c8}{x:Value}{pl:Place}(h:VR G I N w .none a x):VR G I N w pl a x:=by
 cases a with
 |own sz len cells =>
  simp_all [VR,absurd]
 |_=>simp_all [VR]
variable {ck:Operand->y7->Bool} {η:Operand->Value} {ρ:y7->c8} {G:Gh} {I:U3} {N:Nat->Prop} {H:q6}
abbrev Good (P:Program)(G:Gh)(I:U3)(N:Nat->Prop)(w:World)(η:Operand->Value)(o:Oper)(v:c8):Prop :=
 ∃x,(execOp η o).run P w= .ok (.value x) w/\VR G I N w .none v x
abbrev ee (ck:Operand->y7->Bool)(G:Gh)(I:U3)(N:Nat->Prop)(w:World)(η:Operand->Value)(ρ:y7->c8):Prop :=
 ∀x y,ck x y=W->VR G I N w .none (ρ y) (η x)
def Xm (hρ:ee ck G I N w η ρ){o:Oper}{c a b:y7}(hc:G5 P ck o (.pick c a b)=W){v:c8}{rs:List Nat}
  (h:o7 ρ H (.pick c a b)=J (v,rs)):Good P G I N w η o v:=by
 obtain ⟨dst,gh,ty,pos,after,guard⟩:=o;cases gh<;>simp [G5] at hc;rename_i c' a' b';have h1:=hρ _ _ hc.1.1;have h2:=hρ _ _ hc.1.2;have h3:=hρ _ _ hc.2;simp only [o7] at h;split at h
 next t ht=>
  simp at h;obtain ⟨rfl,rfl⟩:=h;rw [ht] at h1;simp only [VR,DR] at h1;refine ⟨if t then η a' else η b',by simp [execOp,h1,asBool],?_⟩;cases t<;>simpa
 .cases h
def Xk (hρ:ee ck G I N w η ρ)(hH:HR G I N w H){o:Oper}{n:Option Nat}{y:y7}(hc:G5 P ck o (.load n y)=W){v:c8}{rs:List Nat}
  (h:o7 ρ H (.load n y)=J (v,rs)):Good P G I N w η o v:=by
 obtain ⟨dst,gh,ty,pos,after,guard⟩:=o;cases gh<;>simp [G5] at hc;rename_i t x;have h1:=hρ _ _ hc.1;cases n with
 |none =>
  have ha:fm P t=J F:=by simp_all [vj]
  simp [o7] at h;split at h
  next id off hp=>
   rw [hp] at h1;simp [VR] at h1;split at h
   next u hu=>
    obtain ⟨rfl,rfl⟩:=h;obtain ⟨_,xs,g1,_,g3,g4⟩:=hH.rd hu V;obtain ⟨z,rfl⟩:∃z,xs=[z]:=by
     match xs,g1 with
     |[z],_=>simp_all
    have hz:=g3 0 z rfl;have hv:=g4 0 u z rfl rfl;refine ⟨z,?_,hv.K7⟩;simp_all [execOp,Instr.loadAt,Instr.sureAddr,loadVar,dP]
   .cases h
  next c cs hp=>
   obtain ⟨rfl,rfl⟩:=h;rw [hp] at h1;obtain ⟨b,off,g1,_,⟨z,g2,g3⟩,_⟩:=h1;refine ⟨z,?_,by simp_all [VR]⟩;simp_all [execOp,Instr.loadAt,Instr.sureAddr,loadVar,dP]
  .cases h
 |some n =>
  have ha:fm P t=J W/\P.cellsOf t=n/\0<n:=by simp_all [vj,and_assoc]
  have hs:(sizeOf t).run P w= .ok n w:=by
   grind [run_sizeOf,fm,info_of_underlying]
  simp [o7] at h;split at h
  next id off hp=>
   rw [hp] at h1;simp [VR] at h1;split at h
   next us hu=>
    obtain ⟨rfl,rfl⟩:=h;obtain ⟨_,xs,g1,g2,g3,g4⟩:=hH.rd hu V;have hl:=run_loadCells_list (P:=P) w (ad (I id).1 ((I id).2+off)) xs (λj v hj=>by simp_all [bX]);refine ⟨.agg xs.toArray,?_,?_⟩
    .simp_all [execOp,Instr.loadAt,Instr.sureAddr,loadVar,dP]
    .refine ⟨_,rfl,U4 _ _ (by simp [g1,g2]) λj a v hj hv=>?_⟩
     simp at hj hv;obtain ⟨a',ha',rfl⟩:=hj;exact (g4 j a' v ha' hv).K7
   .cases h
  next cells hp=>
   split at h
   .obtain ⟨rfl,rfl⟩:=h
    rw [hp] at h1;obtain ⟨b,off,g1,g2⟩:=h1;obtain ⟨xs,e1,e2,e3⟩:=gq.vals (I:=I) (N:=N) off _ (gq.take n off cells g2);have e1' :O xs=n:=M
    have hl:=run_loadCells_list (P:=P) w (ad b off) xs (λj v hj=>by simp_all [bX]);refine ⟨.agg xs.toArray,?_,?_⟩
    all_goals simp_all [execOp,Instr.loadAt,Instr.sureAddr,loadVar,dP,VR]
   .cases h
  .cases h
def Ri (hρ:ee ck G I N w η ρ){o:Oper}{y:y7}(hc:G5 P ck o (.bG y)=W){v:c8}{rs:List Nat}
  (h:o7 ρ H (.bG y)=J (v,rs)):Good P G I N w η o v:=by
 obtain ⟨dst,gh,ty,pos,after,guard⟩:=o;cases gh<;>simp [G5] at hc;rename_i x;have h1:=hρ _ _ hc;simp [o7] at h;split at h
 next id off hp=>
  obtain ⟨rfl,rfl⟩:=h;rw [hp] at h1;have h2:=h1;exact ⟨η x,by simp [execOp,h1.2],h2⟩
 next cells hp=>
  obtain ⟨rfl,rfl⟩:=h;rw [hp] at h1;have h2:=h1;obtain ⟨b,off,g1,g2⟩:=h1;exact ⟨η x,by simp [execOp,g1],h2⟩
 next f a b hp=>
  obtain ⟨rfl,rfl⟩:=h;rw [hp] at h1;have h2:=h1;obtain ⟨x',y',g1,g2,g3⟩:=h1;exact ⟨η x,by simp [execOp,g1],h2⟩
 .cases h
def Data.val:Data->Value
 | .bool b=> .bool b
 | .int k n=> .int k n
 | .str s=> .string ⟨s.toArray⟩
 | .dg=> .pointer Option.none
 | .R2=> .nilFunc
 | .ew=> .map Option.none
 | .nilIface=> .nilIface
 | .slice _ _=> .slice Option.none 0 0
def Ga {b:BinOp}{x y r:Data}(h:Q9 b x y=J r){u v:Value}(hu:DR G w x u)(hv:DR G w y v)(t:TypeId)(p q:Operand) :
  ∃z,(do eqGuard b t p q u v;binOp b t u v).run P w= .ok z w/\DR G w r z:=by
 refine ⟨Data.val r,?_⟩;unfold Q9 at h;split at h
 next k a k' c=>
  subst hu hv;have hg:(eqGuard b t p q (.int k a) (.int k' c)).run P w= .ok () w:=by simp_all [eqGuard]
  split at h
  next hsh=>
   unfold Cy at h;split at h
   .cases h
   next hneg=>
    cases b<;>simp [aT] at hsh<;>simp at h<;>subst h <;>
     exact ⟨by simp [hg,binOp,Op.shift,hneg,Data.val],by rfl⟩
  next hsh=>
   split at h
   next hk=>
    unfold cZ at h;cases b<;>simp  at hsh<;>simp at h
    all_goals first
     |(subst h;simp_all [binOp,Op.intArith,Op.intCmp,Op.intBits,Data.val,DR])
     |(obtain ⟨h0,rfl⟩:=h;simp_all [binOp,Op.intDiv,Data.val,DR])
   .cases h
 next a c=>
  subst hu hv;have hg:(eqGuard b t p q (.string ⟨a.toArray⟩) (.string ⟨c.toArray⟩)).run P w= .ok () w:=by simp_all [eqGuard]
  unfold yq at h;cases b<;>simp at h
  all_goals first
   |(subst h;simp_all [binOp,Op.stringOp,Data.val,DR])
   |skip
  obtain ⟨h0,rfl⟩:=h;have bm4:(⟨a.toArray⟩++⟨c.toArray⟩:ByteArray)=⟨(a++c).toArray⟩:=by
   rfl
  refine ⟨?_,by rfl⟩
  .have hs:¬ (((⟨a.toArray⟩:ByteArray).size+(⟨c.toArray⟩:ByteArray).size:Nat):Int)>IntKind.i64.max:=by
    simp_all [ByteArray.size]<;>omega
   simp_all [Sem.run_bind,Result.andThen_ok,binOp,Op.stringOp,if_neg,Sem.run_pure,Data.val]
 .cases h
def ae6 (hρ:ee ck G I N w η ρ){o:Oper}{b:BinOp}{x y:y7}(hc:G5 P ck o (.bin b x y)=W){v:c8}{rs:List Nat}
  (h:o7 ρ H (.bin b x y)=J (v,rs)):Good P G I N w η o v:=by
 obtain ⟨dst,gh,ty,pos,after,guard⟩:=o;cases gh<;>simp [G5] at hc;rename_i b' t x' y' ty';obtain ⟨⟨rfl,hx⟩,hy⟩:=hc;have h1:=hρ _ _ hx;have h2:=hρ _ _ hy;simp [o7] at h;split at h
 next a c ha wH=>
  rw [ha] at h1;rw [wH] at h2;split at h
  next r hr=>
   obtain ⟨rfl,rfl⟩:=h;obtain ⟨z,g1,g2⟩:=Ga (P:=P) hr h1 h2 t x' y';exact ⟨z,by simp only [execOp];rw [Sem.run_bind,g1];rfl,by simp_all [VR]⟩
  .cases h
 .cases h
def wD (d:Nat){t e:TypeId}(he:P.underlying t=J (.slice e))(a:Addr)(l c:Nat):(Op.equalIn (d+1) t (.slice (J a) l c) (.slice Option.none 0 0)).run P w= .ok F w:=by
 simp [Op.equalIn,run_underlying he]
def Bx {t e:TypeId}(he:P.underlying t=J (.slice e))(a:Addr)(l c:Nat):(Op.equal t (.slice (J a) l c) (.slice Option.none 0 0)).run P w= .ok F w:=wD 9999 he a l c
def Bw (d:Nat){t:TypeId}{ms:Array (String×TypeId)}(he:P.underlying t=J (.interface ms)):(Op.equalIn (d+1) t .nilIface .nilIface).run P w= .ok W w:=by
 simp [Op.equalIn,run_underlying he]
def Gj {t:TypeId}{ms:Array (String×TypeId)}(he:P.underlying t=J (.interface ms)):(Op.equal t .nilIface .nilIface).run P w= .ok W w:=Bw 9999 he
def JB (d:Nat){t:TypeId}(he:P.underlying t=J .bool)(a b:Bool):(Op.equalIn (d+1) t (.bool a) (.bool b)).run P w= .ok (a==b) w:=by
 simp [Op.equalIn,run_underlying he]
def Qx {t:TypeId}(he:P.underlying t=J .bool)(a b:Bool):(Op.equal t (.bool a) (.bool b)).run P w= .ok (a==b) w:=JB 9999 he a b
def Xl (hη:∀v,η (.const v)=v)(hρ:ee ck G I N w η ρ){o:Oper}{neg:Bool}{x:y7}(hc:G5 P ck o (.DS neg x)=W){v:c8}{rs:List Nat}
  (h:o7 ρ H (.DS neg x)=J (v,rs)):Good P G I N w η o v:=by
 obtain ⟨dst,gh,ty,pos,after,guard⟩:=o;unfold G5 at hc;split at hc<;>try (cases hc)
 all_goals rename_i qV lU
 all_goals cases lU
 all_goals subst qV
 rename_i b t x' ty';simp [c7] at hc;obtain ⟨⟨hx,ht⟩,hb⟩:=hc;obtain ⟨e,he⟩:∃e,P.underlying t=J (.slice e):=by
  grind
 have key:∃a l c,η x' = .slice (J a) l c/\v= .d (.bool neg):=by
  simp [o7] at h
  .grind [VR,DR]
  all_goals grind [VR]
 obtain ⟨a,l,c,hx',rfl⟩:=key;refine ⟨.bool neg,?_,by simp [VR,DR]⟩;simp [execOp,hx',hη];cases neg<;>simp at hb<;>subst hb<;>simp [eqGuard,binOp]<;>simp [Bx he]
def ae7 (hρ:ee ck G I N w η ρ){o:Oper}{neg:Bool}{x y:y7}(hc:G5 P ck o (.u7 neg x y)=W){v:c8}{rs:List Nat}
  (h:o7 ρ H (.u7 neg x y)=J (v,rs)):Good P G I N w η o v:=by
 obtain ⟨dst,gh,ty,pos,after,guard⟩:=o;cases gh<;>simp [G5] at hc<;>try simp_all
 rename_i b t x' y' ty';obtain ⟨⟨⟨hx,hy⟩,ht⟩,hb⟩:=hc;have h1:=hρ _ _ hx;have h2:=hρ _ _ hy;have he:P.underlying t=J .bool:=by
  grind
 simp [o7] at h;split at h
 next a c ha wH=>
  obtain ⟨rfl,rfl⟩:=h;rw [ha] at h1;rw [wH] at h2;simp [VR,DR] at h1 h2;refine ⟨.bool (neg != (a==c)),?_,by simp [VR,DR]⟩;simp [execOp,h1,h2];cases neg<;>simp at hb<;>subst hb<;>simp [eqGuard,binOp]<;>simp [Qx he]
 .cases h
def WQ {t:TypeId}{k:CK}(h:gF P t k=W):fm P t=J F:=by
 simp_all [fm,gF]<;>grind
def run_part_plain {t:TypeId}{k:CK}(h:gF P t k=W)(cs:Array Value)(off:Nat)(v:Value)(hv:cs[off]? =J v):(part t cs off).run P w= .ok v w:=by
 simp [part,dP (WQ h),hv]
def wk {k:CK}{a b:Data}{r:Bool}(h:Data.Jm k a b=J r){u v:Value}(hu:DR G w a u)(hv:DR G w b v){t:TypeId}(ht:gF P t k=W)(d:Nat) :
  (Op.equalIn (d+1) t u v).run P w= .ok r w:=by
 unfold Data.Jm at h;split at h
 .subst hu hv
  split at h
  next hkk=>
   subst hkk;simp at h;subst h;simp [gF] at ht;split at ht
   .rename_i k2 hk2;simp [Op.equalIn,run_underlying hk2]
   .cases ht
  .cases h
 .subst hu hv
  simp at h;subst h;simp [gF] at ht;split at ht
  .rename_i h2;simp [Op.equalIn,run_underlying h2,beq_toListBytes]
  .cases ht
 .subst hu hv
  simp at h;subst h;simp [gF] at ht;split at ht
  .rename_i h2;simp [Op.equalIn,run_underlying h2]
  .cases ht
 .cases h
theorem mQ (d:Nat)(xs ys:Array Value):∀(fs:List Field) (n:Nat) (ks:List CK) (a b:List c8) (r:Bool),V3 P fs n ks=W->S5 ks a b=J r ->
  (∀(j:Nat) c,a[j]? =J c->∃v,xs[n+j]? =J v/\VR G I N w .none c v)->(∀(j:Nat) c,b[j]? =J c->∃v,ys[n+j]? =J v/\VR G I N w .none c v) ->
  (Op.eqFields (d+1) xs ys fs).run P w= .ok r w
 |[],n,ks,a,b,r,hf,hc,_,_=>by
  cases ks with
  |nil =>
   unfold S5 at hc;simp_all [Op.eqFields]<;>grind
  |cons=>simp [V3] at hf
 |f::fs,n,[],a,b,r,hf,hc,_,_=>by simp [V3] at hf
 |f::fs,n,k::ks,a,b,r,hf,hc,ha,hb=>by
  simp [V3,c7,beq_iff_eq] at hf;obtain ⟨⟨⟨h1,h2⟩,h3⟩,h4⟩:=hf;unfold S5 at hc;split at hc
  .simp_all
  next k0 ks0 x a' y b' e1=>
   cases e1;split at hc
   next t ht=>
    split at hc
    next u hu=>
     obtain ⟨v1,g1,g2⟩:=ha 0 _ rfl;obtain ⟨v2,g3,g4⟩:=hb 0 _ rfl;have e1:=run_part_plain (w:=w) h2 xs n v1 g1;have e2:=run_part_plain (w:=w) h2 ys n v2 g3;have e3:=wk (P:=P) ht g2 g4 h2 d;have ih:=mQ d xs ys fs (n+1) ks a' b' u h4 hu (λj c hj=>by rw [show n+1+j=n+(j+1) from by omega];simp_all)
      (λj c hj=>by rw [show n+1+j=n+(j+1) from by omega];simp_all)
     simp_all [Op.eqFields]<;>grind
    .cases hc
   .cases hc
  .cases hc
def xh {t:TypeId}{gs:Array Field}{m:Nat}(h:P.underlying t=J (.struct gs))(hi:(P.info? t).isSome=W)(hm:P.cellsOf t=m)(cs:Array Value)(off:Nat):(part t cs off).run P w= .ok (.agg (cs.extract off (off+m))) w:=by
 have h1:fm P t=J W:=by simp [fm,h]
 have h2:=run_sizeOf (w:=w) hi;rw [hm] at h2;simp [part,dP h1,h2]
theorem zX:∀(m:Nat) (ks:List CK) (a b:List c8) (r:Bool),S5 ks a b=J r->m<=O ks->∃r1 r2,S5 (ks.take m) (a.take m) (b.take m)=J r1/\S5 (ks.drop m) (a.drop m) (b.drop m)=J r2/\r=(r1&&r2)
 |0,ks,a,b,r,h,_=>⟨W,r,by simp [S5],by simpa using h,U⟩
 |m+1,[],a,b,r,h,hm=>by simp at hm
 |m+1,k::ks,a,b,r,h,hm=>by
  unfold S5 at h;split at h
  .simp_all
  next k0 ks0 x a' y b' e1=>
   cases e1;split at h
   next t ht=>
    split at h
    next u hu=>
     simp at h;subst h;obtain ⟨r1,r2,e1,e2,e3⟩:=zX m ks a' b' u hu (by simpa using hm);exact ⟨t&&r1,r2,by simp [S5,ht,e1],by simpa using e2,by rw [e3,Bool.and_assoc]⟩
    .cases h
   .cases h
  .cases h
theorem qR {P:Program}:∀(fs:List Field) (n:Nat) (ks:List CK),V3 P fs n ks=W->O ks=O fs
 |[],_,[],_=>rfl
 |[],_,_::_,h=>by simp [V3] at h
 |_::_,_,[],h=>by simp [V3] at h
 |f::fs,n,k::ks,h=>by
  simp only [V3,c7] at h;simp [qR fs _ ks h.2]
theorem kN (d:Nat)(xs ys:Array Value):∀(fs:List Field) (n:Nat) (ks:List CK) (a b:List c8) (r:Bool),fK P fs n ks=W->S5 ks a b=J r ->
  (∀(j:Nat) c,a[j]? =J c->∃v,xs[n+j]? =J v/\VR G I N w .none c v)->(∀(j:Nat) c,b[j]? =J c->∃v,ys[n+j]? =J v/\VR G I N w .none c v) ->
  (Op.eqFields (d+2) xs ys fs).run P w= .ok r w
 |[],n,ks,a,b,r,hf,hc,_,_=>by
  cases ks with
  |nil =>
   unfold S5 at hc;split at hc<;>simp_all [Op.eqFields]
  |cons=>simp [fK] at hf
 |f::fs,n,ks,a,b,r,hf,hc,ha,hb=>by
  simp only [fK,c7,bne_iff_ne,beq_iff_eq] at hf;obtain ⟨⟨h1,h3⟩,hf⟩:=hf;split at hf
  next gs hgs=>
   simp only [c7,beq_iff_eq,p6] at hf;obtain ⟨⟨⟨⟨q1,q2⟩,q3⟩,q4⟩,q5⟩:=hf;have hl:=qR _ _ _ q3;have hm:gs.size<=O ks:=by
    rw [List.length_take] at hl;simp at hl;omega
   obtain ⟨r1,r2,e1,e2,e3⟩:=zX gs.size ks a b r hc hm;have p1:=xh (w:=w) hgs q1 q2 xs n;have p2:=xh (w:=w) hgs q1 q2 ys n;have hff:P.fieldsOf f.type=gs:=by simp [Program.fieldsOf,hgs]
   have bm6:∀(l:List c8) (zs:Array Value),(∀(j:Nat) c,l[j]? =J c->∃v,zs[n+j]? =J v/\VR G I N w .none c v)->∀(j:Nat) c,(l.take gs.size)[j]? =J c->∃v,(zs.extract n (n+gs.size))[0+j]? =J v/\VR G I N w .none c v:=by
    intro l zs hz j c hj;rw [List.getElem?_take] at hj;split at hj
    next hlt=>
     obtain ⟨v,g1,g2⟩:=hz j c hj;refine ⟨v,?_,g2⟩;have hsz:=(Array.getElem?_eq_some_iff.1 g1).1;rw [Array.getElem?_extract,if_pos V,Nat.zero_add,g1]
    .cases hj
   have p3:=run_equalIn_struct (P:=P) w (d+1) f.type (xs.extract n (n+gs.size)) (ys.extract n (n+gs.size)) (by rw [hff];exact hgs) q4;rw [hff,mQ (P:=P) (G:=G) (I:=I) (N:=N) d _ _ gs.toList 0 (ks.take gs.size) _ _ r1 q3 e1 (bm6 a xs ha) (bm6 b ys hb)] at p3;have ih:=kN d xs ys fs (n+gs.size) (ks.drop gs.size) (a.drop gs.size) (b.drop gs.size) r2 q5 e2 (λj c hj=>by rw [List.getElem?_drop] at hj;rw [O8];exact ha _ c hj) (λj c hj=>by rw [List.getElem?_drop] at hj;rw [O8];exact hb _ c hj);simp only [Op.eqFields,if_pos h1,Sem.run_bind,h3,p1,p2,p3,Result.andThen_ok];rw [e3];cases r1<;>simp [ih]
  .split at hf
   next k ks=>
    simp only [c7] at hf;obtain ⟨h2,h4⟩:=hf;unfold S5 at hc;split at hc
    .simp_all
    next k0 ks0 x a' y b' e1=>
     cases e1;split at hc
     next t ht=>
      split at hc
      next u hu=>
       simp at hc;subst hc;obtain ⟨v1,g1,g2⟩:=ha 0 _ rfl;obtain ⟨v2,g3,g4⟩:=hb 0 _ rfl;simp only [VR] at g2 g4;rw [Nat.add_zero] at g1 g3;have e1:=run_part_plain (w:=w) h2 xs n v1 g1;have e2:=run_part_plain (w:=w) h2 ys n v2 g3;have e3:=wk (P:=P) ht g2 g4 h2 (d+1);have ih:=kN d xs ys fs (n+1) ks a' b' u h4 hu (λj c hj=>by rw [show n+1+j=n+(j+1) from by omega];exact ha (j+1) c (by simpa using hj))
        (λj c hj=>by rw [show n+1+j=n+(j+1) from by omega];exact hb (j+1) c (by simpa using hj))
       simp only [Op.eqFields,if_pos h1,Sem.run_bind,h3,e1,e2,e3,Result.andThen_ok];cases t<;>simp [ih]
      .cases hc
     .cases hc
    .cases hc
   .cases hf
def ae8 (hρ:ee ck G I N w η ρ){o:Oper}{neg:Bool}{ks:List CK}{x y:y7}(hc:G5 P ck o (.Gi neg ks x y)=W){v:c8}{rs:List Nat}
  (h:o7 ρ H (.Gi neg ks x y)=J (v,rs)):Good P G I N w η o v:=by
 obtain ⟨dst,gh,ty,pos,after,guard⟩:=o;cases gh<;>simp only [G5,c7] at hc<;>try (cases hc;done)
 rename_i b t x' y' ty';obtain ⟨⟨⟨hx,hy⟩,ht⟩,hb⟩:=hc;have h1:=hρ _ _ hx;have h2:=hρ _ _ hy;unfold Ac at ht;split at ht
 next fs BO=>
  simp only [c7,p6] at ht;simp only [o7] at h;split at h
  next a c ha wH=>
   split at h
   next r hr=>
    simp at h;obtain ⟨rfl,rfl⟩:=h;rw [ha] at h1;rw [wH] at h2;simp only [VR] at h1 h2;obtain ⟨xs,e1,e2⟩:=h1;obtain ⟨ys,e3,e4⟩:=h2;have hff:P.fieldsOf t=fs:=by simp [Program.fieldsOf,BO]
    have heq:=run_equalIn_struct (P:=P) w 9999 t xs ys (by rw [hff];exact BO) ht.1.2;rw [hff,kN (P:=P) (G:=G) (I:=I) (N:=N) 9997 xs ys fs.toList 0 ks a c r ht.1.1 hr
     (λj u hu=>by obtain ⟨v,g1,g2⟩:=L3.get a _ e2 j u hu;exact ⟨v,by simpa using g1,g2⟩)
     (λj u hu=>by obtain ⟨v,g1,g2⟩:=L3.get c _ e4 j u hu;exact ⟨v,by simpa using g1,g2⟩)] at heq
    refine ⟨.bool (neg != r),?_,by simp [VR,DR]⟩;simp only [execOp,e1,e3,Sem.run_bind,run_eqGuard_agg w b t x' y' xs ys ht.2,Result.andThen_ok];cases neg<;>simp at hb<;>subst hb
    .rw [run_eql_struct,heq];simp
    .rw [run_neq_struct,heq];simp
   .cases h
  .cases h
 .cases ht
end
section
variable {P:Program} {w:World} {ck:Operand->y7->Bool} {η:Operand->Value} {ρ:y7->c8} {G:Gh} {I:U3} {N:Nat->Prop} {H:q6}
def aC4 (hρ:ee ck G I N w η ρ){o:Oper}{b:UnOp}{x:y7}(hc:G5 P ck o (.un b x)=W){v:c8}{rs:List Nat}
  (h:o7 ρ H (.un b x)=J (v,rs)):Good P G I N w η o v:=by
 obtain ⟨dst,gh,ty,pos,after,guard⟩:=o;cases gh<;>simp [G5] at hc;rename_i b' t x';obtain ⟨rfl,hx⟩:=hc;have h1:=hρ _ _ hx;simp [o7] at h;split at h
 next a ha=>
  rw [ha] at h1;simp [VR] at h1;split at h
  next r hr=>
   obtain ⟨rfl,rfl⟩:=h;refine ⟨Data.val r,?_⟩;unfold ES at hr;split at hr
   .simp [DR] at h1
    cases b' <;>simp at hr;subst hr;simp [execOp,h1,Op.unary,Op.intArith,Data.val,VR,DR]
   .simp [DR] at h1
    cases b' <;>simp at hr;subst hr;simp [execOp,h1,Op.unary,Data.val,VR,DR]
   .cases hr
  .cases h
 .cases h
def Rh (hρ:ee ck G I N w η ρ){o:Oper}{k:IntKind}{x:y7}(hc:G5 P ck o (.ql k x)=W){v:c8}{rs:List Nat}
  (h:o7 ρ H (.ql k x)=J (v,rs)):Good P G I N w η o v:=by
 obtain ⟨dst,gh,ty,pos,after,guard⟩:=o;cases gh<;>simp [G5] at hc<;>try simp_all
 obtain ⟨⟨hx,hs⟩,hd⟩:=hc;have h1:=hρ _ _ hx;obtain ⟨ds,hds⟩:=Option.isSome_iff_exists.1 hs;split at hd
 .simp [o7] at h
  split at h
  next k2 n ha=>
   obtain ⟨rfl,rfl⟩:=h;rw [ha] at h1;simp [VR,DR] at h1;refine ⟨.int k (k.wrap n),?_,by simp [VR,DR]⟩;simp_all [execOp,convert,run_underlying,Conv.intToInt]
  .cases h
 .cases hd
theorem CF:∀(vs:List Value) (l:List Data) (bs:List UInt8),jg l=J bs->L3 G I N w (l.map .d) vs ->
  ∃ns:List Int,vs=ns.map (Value.int .u8)/\bs=ns.map λn=>UInt8.ofNat n.toNat
 |vs,[],bs,hb,hv=>by
  simp_all [jg,L3]
 |vs,a::as,bs,hb,hv=>by
  obtain ⟨x,xs,rfl,e2,e3⟩:=hv;unfold jg at hb;split at hb
  .simp_all
  next n r heq=>
   cases heq;split at hb
   next bs' WD=>
    simp at hb;subst hb;subst e2;obtain ⟨ns,rfl,rfl⟩:=CF xs as bs' WD e3;exact ⟨n::ns,rfl,rfl⟩
   .cases hb
  .cases hb
theorem foldl_push:∀(ns:List Int) (s:ByteArray),(ns.foldl (λr n=>r.push (UInt8.ofNat n.toNat)) s)=⟨(s.data.toList++ns.map λn=>UInt8.ofNat n.toNat).toArray⟩
 |[],s=>U
 |n::ns,s=>by
  rw [List.foldl_cons,foldl_push ns];simp
def Nj (hρ:ee ck G I N w η ρ){o:Oper}{x:y7}(hc:G5 P ck o (.mO x)=W){v:c8}{rs:List Nat}
  (h:o7 ρ H (.mO x)=J (v,rs)):Good P G I N w η o v:=by
 obtain ⟨dst,gh,ty,pos,after,guard⟩:=o;cases gh<;>simp [G5] at hc<;>try simp_all
 rename_i s d x';obtain ⟨⟨hx,hs⟩,hd⟩:=hc;have h1:=hρ _ _ hx;split at hs
 next e he=>
  split at hs
  next hu8=>
   split at hd
   next Zw=>
    simp [o7] at h;split at h
    next len cells ha=>
     split at h
     next hlen=>
      split at h
      next bs WD=>
       obtain ⟨rfl,rfl⟩:=h;rw [ha] at h1;refine ⟨.string ⟨bs.toArray⟩,?_,by simp [VR,DR]⟩
       rcases h1 with ⟨h1,h2,h3⟩|⟨b,off,cap,h1,h2,h3⟩
       .subst h3
        simp [jg] at WD;subst WD
        rcases h1 with h1|⟨a0,h1⟩
        .simp [execOp,h1,convert,run_underlying he,run_underlying Zw,run_underlying hu8]
         rfl
        .have hl:(loadCells a0 0).run P w= .ok (([]:List Int).map (Value.int .u8)).toArray w:=by rfl
         simp [execOp,h1,Sem.run_bind,run_convert_bytes_string w s d e _ _ _ he hu8 Zw];rfl
       .obtain ⟨vs,g1,g2,g3⟩:=gq.vals (I:=I) (N:=N) off cells h3
        have hl:=run_loadCells_list (P:=P) w (ad b off) vs (λj v hj=>by simp_all [bX]);rw [g1,hlen] at hl;obtain ⟨ns,rfl,rfl⟩:=CF (G:=G) (I:=I) (N:=N) vs cells bs WD g3;simp only [execOp,h1,Sem.run_bind,run_convert_bytes_string w s d e _ _ _ he hu8 Zw,run_bytesToString w (ad b off) len cap ns hl,foldl_push];simp
      .cases h
     .cases h
    .cases h
   .cases hd
  .cases hs
 .cases hs
def zU (hρ:ee ck G I N w η ρ){x:Option Operand}{y:Option y7}(hc:ckO ck x y=W){d:Nat}{n:Int}(h:Y9 ρ d y=J n) :
  (x=K/\n=d)\/∃x' k,x=J x' /\η x' = .int k n:=by
 cases y with
 |none =>
  grind [Y9,ckO]
 |some y =>
  cases x with
  |none=>simp [ckO] at hc
  |some x =>
   grind [ckO,Y9,VR,DR]
def zl (hρ:ee ck G I N w η ρ){lo hi:Option Operand}{lo' hi' :Option y7}(hl:ckO ck lo lo' =W)(hh:ckO ck hi hi' =W){len cap:Nat}{l h:Int}
  (bl:Y9 ρ 0 lo' =J l) (bh:Y9 ρ len hi' =J h) (h0:0<=l) (h1:l<=h) (h2:h<=len) (hcap:len<=cap) (b:Bool) :
  (Instr.sliceBounds b len cap (lo.map η) (hi.map η) K).run P w= .ok (l.toNat,h.toNat,cap) w:=by
 rcases zU hρ hl bl with ⟨rfl,rfl⟩|⟨x1,k1,rfl,e1⟩<;>rcases zU hρ hh bh with ⟨rfl,rfl⟩|⟨x2,k2,rfl,e2⟩
 .rfl
 .simp_all [Instr.sliceBounds,Instr.sliceBound,asIntOf]<;>omega
 all_goals (simp_all [Instr.sliceBounds,Instr.sliceBound,asIntOf]<;>grind)
def No (hρ:ee ck G I N w η ρ){o:Oper}{sz:Nat}{x:y7}{lo hi:Option y7}(hc:G5 P ck o (.aJ sz x lo hi)=W){v:c8}{rs:List Nat}
  (h:o7 ρ H (.aJ sz x lo hi)=J (v,rs)):Good P G I N w η o v:=by
 obtain ⟨dst,gh,ty,pos,after,guard⟩:=o;unfold G5 at hc;split at hc<;>try (cases hc)
 all_goals rename_i qV lU
 all_goals cases lU
 all_goals subst qV
 rename_i t x' lo' hi';simp only [c7] at hc;obtain ⟨⟨⟨⟨hx,hl⟩,hh⟩,ht⟩,hsz⟩:=hc;have h1:=hρ _ _ hx;obtain ⟨e,hu,WJ,hie⟩:=kS ht;have hsize:(sizeOf e).run P w= .ok sz w:=by simp_all [run_sizeOf]
 simp [o7] at h;split at h
 next len cells hs=>
  split at h
  next l hi2 bl bh=>
   split at h
   next hb=>
    obtain ⟨rfl,rfl⟩:=h;rw [hs] at h1
    rcases h1 with ⟨h1,h2,h3⟩|⟨b,off,cap,h1,h2,h3⟩
    .subst h2 h3
     have hrb:=zl (P:=P) hρ hl hh bl bh hb.1 hb.2.1 hb.2.2.1 (l6 0) W;have hl0:l=0:=V
     have hh0:hi2=0:=V
     subst hl0 hh0
     rcases h1 with h1|⟨a0,h1⟩
     .refine ⟨.slice K 0 0,?_,by simp [VR,DR]⟩
      simp only [execOp,h1,Instr.sliceAt,Sem.run_bind,run_underlying hu,Result.andThen_ok,Instr.slice];simp_all
     .refine ⟨.slice (J a0) 0 0,?_,by simp [VR,DR]⟩
      simp only [execOp,h1,Instr.sliceAt,Sem.run_bind,run_underlying hu,Result.andThen_ok,Instr.slice];simp_all
    .have hrb:=zl (P:=P) hρ hl hh bl bh hb.1 hb.2.1 hb.2.2.1 h2 W
     refine ⟨.slice (if cap=l.toNat then J (ad b off) else (J (ad b off)).map (·.add (l.toNat * sz))) (hi2.toNat - l.toNat) (cap - l.toNat),?_,?_⟩
     .simp only [execOp,h1,Instr.sliceAt,Sem.run_bind,run_underlying hu,Result.andThen_ok,Instr.slice]
      simp_all
     .simp only [VR,DR]
      have e1:(hi2 - l).toNat=hi2.toNat - l.toNat:=V
      by_cases hcl:cap=l.toNat
      .grind
      .refine Or.inr ⟨b,off+l.toNat * sz,cap - l.toNat,?_,V,gq.drop _ _ _ (gq.take _ _ _ h3)⟩
       simp_all [if_neg,bX]
   .cases h
  .cases h
 next id z a len hs=>
  split at h
  next l hi2 bl bh=>
   split at h
   next hb=>
    rw [hs] at h1;obtain ⟨g1,cap,g2,g3,c,e',f,g4,g5⟩:=h1;have hrb:=zl (P:=P) hρ hl hh bl bh hb.1 hb.2.1 hb.2.2.1 g3 W;have e1:(hi2 - l).toNat=hi2.toNat - l.toNat:=V
    have hrun:(execOp η ⟨dst,.slice t x' lo' hi' K,ty,pos,after,guard⟩).run P w =
      .ok (.value (.slice (if cap=l.toNat then J (ad (I id).1 ((I id).2+a)) else (J (ad (I id).1 ((I id).2+a))).map (·.add (l.toNat * sz))) (hi2.toNat - l.toNat) (cap - l.toNat))) w:=by
     simp only [execOp,g2,Instr.sliceAt,Sem.run_bind,run_underlying hu,Result.andThen_ok,Instr.slice];simp_all
    refine ⟨_,hrun,?_⟩;split at h
    next hlh=>
     obtain ⟨rfl,rfl⟩:=h;simp [VR,DR]
     by_cases hcl:cap=l.toNat
     all_goals simp_all [if_pos,Nat.sub_self,gq,if_neg,bX]
    .obtain ⟨rfl,rfl⟩:=h
     have hcl:¬ cap=l.toNat:=V
     refine ⟨g1,cap - l.toNat,?_,V,c,e',f,g4,?_⟩
     .simp_all [if_neg,bX,O8]
     .have hz:z=sz:=hb.2.2.2
      subst hz;have:cap * z=(cap - l.toNat) * z+l.toNat * z:=by rw [<- Nat.add_mul];grind
      omega
   .cases h
  .cases h
 .cases h
end
section
variable {P:Program} {w:World} {ck:Operand->y7->Bool} {η:Operand->Value} {ρ:y7->c8} {G:Gh} {I:U3} {N:Nat->Prop} {H:q6}
def af0 (hρ:ee ck G I N w η ρ){o:Oper}{k:Nat}{x:y7}(hc:G5 P ck o (.off k x)=W){v:c8}{rs:List Nat}
  (h:o7 ρ H (.off k x)=J (v,rs)):Good P G I N w η o v:=by
 obtain ⟨dst,gh,ty,pos,after,guard⟩:=o;cases gh<;>simp [G5] at hc<;>try simp_all
 rename_i s x' f;obtain ⟨hx,hs⟩:=hc;split at hs
 .split at hs
  next fd hfd=>
   simp [c7,decide_eq_true_eq] at hs;have bn5:(P.info? fd.type).isSome=W:=by
    cases hi:P.info? fd.type with
    |none=>simp_all [Program.cellsOf]
    |some i=>rfl
   have hsz:(sizeOf fd.type).run P w= .ok (P.cellsOf fd.type) w:=run_sizeOf bn5;have hne:¬ P.cellsOf fd.type=0:=V
   have hrun:∀b off,η x' = .pointer (J (ad b off))->(execOp η ⟨dst,.fieldAddr s x' f,ty,pos,after,guard⟩).run P w= .ok (.value (.pointer (J (ad b (off+k))))) w:=by
    simp_all [execOp,Instr.fieldAt,Sem.run_bind,run_underlying,Result.andThen_ok,Instr.sureAddr,Sem.run_pure,fieldPlace,if_neg,bX]
   simp [o7] at h;split at h
   .grind [VR,O8]
   all_goals grind [VR,gq.drop]
  .cases hs
 .cases hs
def Xg (hρ:ee ck G I N w η ρ){o:Oper}{sz:Nat}{x i:y7}(hc:G5 P ck o (.O4 sz x i)=W){v:c8}{rs:List Nat}
  (h:o7 ρ H (.O4 sz x i)=J (v,rs)):Good P G I N w η o v:=by
 obtain ⟨dst,gh,ty,pos,after,guard⟩:=o;cases gh<;>simp [G5] at hc<;>try simp_all
 rename_i t x' i';obtain ⟨⟨hx,hi⟩,ht⟩:=hc;have h1:=hρ _ _ hx;have h2:=hρ _ _ hi;obtain ⟨e,hu,WJ,hie⟩:=kS ht;have hsize:(sizeOf e).run P w= .ok sz w:=by simp_all [run_sizeOf]
 have hrun:∀(b off len cap:Nat) (k:IntKind) (n:Int),η x' = .slice (J (ad b off)) len cap->η i' = .int k n->0<=n->n<len ->
   (execOp η ⟨dst,.indexAddr t x' i',ty,pos,after,guard⟩).run P w= .ok (.value (.pointer (J (ad b (off+n.toNat * sz))))) w:=by
  intro b off len cap k n e1 e2 e3 e4;have hb:(0<=n/\n<(len:Int)):=⟨e3,e4⟩;simp [execOp,e1,e2,Instr.indexAt,run_underlying hu,asIntOf,hsize,hb,bX]
 simp [o7] at h;split at h
 next len cells k n hp hq=>
  split at h
  next hb=>
   obtain ⟨rfl,rfl⟩:=h;rw [hp] at h1;rw [hq] at h2
   rcases h1 with ⟨_,h0,_⟩|⟨b,off,cap,g1,g2,g3⟩
   .omega
   .exact ⟨_,hrun b off len cap k n g1 h2 hb.1 hb.2,by exact ⟨b,_,rfl,gq.drop _ _ _ g3⟩⟩
  .cases h
 all_goals grind [VR,DR,O8]
def Xh (hρ:ee ck G I N w η ρ){o:Oper}{m sz:Nat}{x i:y7}(hc:G5 P ck o (.iE m sz x i)=W){v:c8}{rs:List Nat}
  (h:o7 ρ H (.iE m sz x i)=J (v,rs)):Good P G I N w η o v:=by
 obtain ⟨dst,gh,ty,pos,after,guard⟩:=o;cases gh<;>simp [G5] at hc<;>try simp_all
 rename_i t x' i';obtain ⟨⟨hx,hi⟩,ht⟩:=hc;have h1:=hρ _ _ hx;have h2:=hρ _ _ hi;split at ht
 next m' e hu=>
  simp [c7,beq_iff_eq] at ht;obtain ⟨⟨rfl,WJ⟩,hie⟩:=ht;have hsize:(sizeOf e).run P w= .ok sz w:=by simp_all [run_sizeOf]
  have hrun:∀(b off:Nat) (k:IntKind) (n:Int),η x' = .pointer (J (ad b off))->η i' = .int k n->0<=n->n<m' ->
    (execOp η ⟨dst,.indexAddr t x' i',ty,pos,after,guard⟩).run P w= .ok (.value (.pointer (J (ad b (off+n.toNat * sz))))) w:=by
   intro b off k n e1 e2 e3 e4;have hb:(0<=n/\n<(m' :Int)):=⟨e3,e4⟩;simp [execOp,e1,e2,Instr.indexAt,run_underlying hu,asIntOf,hsize,hb,bX,Instr.sureAddr]
  simp [o7] at h;split at h
  .grind [VR,DR,O8]
  next cells k n hp hq=>
   split at h
   next hb=>
    obtain ⟨rfl,rfl⟩:=h;rw [hp] at h1;rw [hq] at h2;obtain ⟨b,off,g1,g2⟩:=h1;exact ⟨_,hrun _ _ k n g1 h2 hb.1 hb.2,by exact ⟨b,_,rfl,gq.drop _ _ _ g2⟩⟩
   .cases h
  .cases h
 .cases ht
def Xi (hρ:ee ck G I N w η ρ){o:Oper}{x i:y7}(hc:G5 P ck o (.K9 x i)=W){v:c8}{rs:List Nat}
  (h:o7 ρ H (.K9 x i)=J (v,rs)):Good P G I N w η o v:=by
 obtain ⟨dst,gh,ty,pos,after,guard⟩:=o;cases gh<;>simp [G5] at hc<;>try simp_all
 obtain ⟨⟨hx,hi⟩,ht⟩:=hc;have h1:=hρ _ _ hx;have h2:=hρ _ _ hi;split at ht
 .simp [o7] at h
  split at h
  next s k n hp hq=>
   split at h
   .split at h
    next b hb=>
     obtain ⟨rfl,rfl⟩:=h;rw [hp] at h1;rw [hq] at h2;simp [VR,DR] at h1 h2;refine ⟨.int .u8 b.toNat,?_,by simp [VR,DR]⟩;have hsz:(⟨s.toArray⟩:ByteArray).size=O s:=by rfl
     have hlt:n.toNat<O s:=by
      grind
     have hg:(⟨s.toArray⟩:ByteArray)[n.toNat]? =J b:=by
      rw [getElem?_pos _ _ V];rw [o6 hlt] at hb;simp at hb;subst hb;rfl
     simp_all [execOp,Instr.index,run_underlying,asIntOf]
    .cases h
   .cases h
  .cases h
 .cases ht
def Kc (hρ:ee ck G I N w η ρ){o:Oper}{x:y7}{i:Nat}(hc:G5 P ck o (.extract x i)=W){v:c8}{rs:List Nat}
  (h:o7 ρ H (.extract x i)=J (v,rs)):Good P G I N w η o v:=by
 obtain ⟨dst,gh,ty,pos,after,guard⟩:=o;cases gh<;>simp [G5] at hc;rename_i x' i';obtain ⟨hx,rfl⟩:=hc;have h1:=hρ _ _ hx;simp [o7] at h;split at h
 next vs hp=>
  split at h
  next u hu=>
   simp at h;obtain ⟨rfl,rfl⟩:=h;rw [hp] at h1;obtain ⟨cs,g1,g2⟩:=h1;obtain ⟨z,e1,e2⟩:=L3.get vs _ g2 i' u hu;refine ⟨z,?_,e2⟩;simp_all [execOp,Instr.extract]
  .cases h
 .cases h
def ae9 (hρ:ee ck G I N w η ρ){o:Oper}{x:y7}(hc:G5 P ck o (.len x)=W){v:c8}{rs:List Nat}
  (h:o7 ρ H (.len x)=J (v,rs)):Good P G I N w η o v:=by
 obtain ⟨dst,gh,ty,pos,after,guard⟩:=o;unfold G5 at hc;split at hc<;>try (cases hc)
 all_goals rename_i qV lU
 all_goals cases lU
 rename_i args argTypes;split at hc
 next x' t ha hb=>
  simp [c7] at hc;obtain ⟨hx,ht⟩:=hc;split at ht
  next e hu=>
   have hrun:∀a len cap,η x' = .slice a len cap->(execOp η ⟨dst,.call ⟨.builtin .len,args,argTypes⟩,ty,pos,after,guard⟩).run P w= .ok (.value (.int .i64 len)) w:=by
    intro a len cap hη;have h0:(args.map η)[0]? =J (.slice a len cap):=by simp [ha,hη]
    simp [execOp,resolve,invoke,builtin,Builtin.len_,hb,h0,run_underlying hu,goInt]
   simp [o7] at h
   .grind [VR,DR,i64]
   all_goals grind [VR,DR,i64]
  .cases ht
 .cases hc
def Xj (hρ:ee ck G I N w η ρ){o:Oper}{x:y7}(hc:G5 P ck o (.X8 x)=W){v:c8}{rs:List Nat}
  (h:o7 ρ H (.X8 x)=J (v,rs)):Good P G I N w η o v:=by
 obtain ⟨dst,gh,ty,pos,after,guard⟩:=o;unfold G5 at hc;split at hc<;>try (cases hc)
 all_goals rename_i qV lU
 all_goals cases lU
 all_goals subst qV
 rename_i args argTypes;split at hc
 next x' t ha hb=>
  simp [c7] at hc;obtain ⟨hx,ht⟩:=hc;have h1:=hρ _ _ hx;split at ht
  next hu=>
   simp [o7] at h;split at h
   next s hp=>
    obtain ⟨rfl,rfl⟩:=h;rw [hp] at h1;simp [VR,DR] at h1;have h0:(args.map η)[0]? =J (.string ⟨s.toArray⟩):=by simp [ha,h1]
    have hsz:(⟨s.toArray⟩:ByteArray).size=O s:=by rfl
    refine ⟨.int .i64 (O s),?_,by rfl⟩;simp [execOp,resolve,invoke,builtin,Builtin.len_,hb,h0,run_underlying hu,goInt,hsz]
   .cases h
  .cases ht
 .cases hc
theorem ER.length:∀(l:List (Key×c8)) (es:List MapEntry),ER G I N w l es->O es=O l
 |[],es,h=>by simp [ER] at h;simp [h]
 |(k,v)::r,es,h=>by
  simp only [ER] at h;obtain ⟨e,es',rfl,_,_,h4⟩:=h;simp [ER.length r es' h4]
theorem kC (hρ:ee ck G I N w η ρ):∀(xs:List Operand) (ys:List y7),Yy ck xs ys=W->L3 G I N w (ys.map ρ) (xs.map η)
 |[],[],_=>by simp [L3]
 |x::xs,y::ys,h=>by
  simp [Yy,c7] at h;exact ⟨_,_,rfl,hρ _ _ h.1,kC hρ xs ys h.2⟩
 |[],_::_,h=>by simp [Yy] at h
 |_::_,[],h=>by simp [Yy] at h
def Nn (hρ:ee ck G I N w η ρ){o:Oper}{f:FuncId}{a b:List y7}(hc:G5 P ck o (.bE f a b)=W){v:c8}{rs:List Nat}
  (h:o7 ρ H (.bE f a b)=J (v,rs)):Good P G I N w η o v:=by
 obtain ⟨dst,gh,ty,pos,after,guard⟩:=o;unfold G5 at hc;split at hc<;>try (cases hc)
 all_goals rename_i qV lU
 all_goals cases lU
 all_goals subst qV
 rename_i f' first caps
 simp [c7,beq_iff_eq] at hc;obtain ⟨⟨rfl,h1⟩,h2⟩:=hc;obtain ⟨rfl,rfl⟩:=h;refine ⟨.func (.func f') (first.map η) (caps.map η),by rfl,?_⟩;exact ⟨_,_,rfl,by simpa using kC hρ _ _ h1,by simpa using kC hρ _ _ h2⟩
theorem DN:∀(as:List c8) (vs:List Value) (r:Data) (k:IntKind) (n:Int),gH W (.int k n) as=J r->L3 G I N w as vs ->
  ∃m,r= .int k m/\(vs.foldlM Builtin.max2 (.int k n)).run P w= .ok (.int k m) w
 |[],vs,r,k,n,h,hv=>by
  simp_all [gH,L3]
 |x::xs,vs,r,k,n,h,hv=>by
  obtain ⟨u,us,rfl,e2,e3⟩:=hv;unfold gH at h;split at h
  .simp_all
  next b r' heq=>
   cases heq;split at h
   next c hc=>
    unfold BR at hc;split at hc
    next k1 x1 k2 y1 e1=>
     cases e1;simp at hc;subst hc;subst e2;obtain ⟨m,g1,g2⟩:=DN xs us r k _ h e3;simp_all [List.foldlM_cons,Sem.run_bind,Builtin.max2,Sem.run_pure,Result.andThen_ok]
    .cases hc
   .cases h
  .cases h
theorem DO:∀(as:List c8) (vs:List Value) (r:Data) (k:IntKind) (n:Int),gH F (.int k n) as=J r->L3 G I N w as vs ->
  ∃m,r= .int k m/\(vs.foldlM Builtin.min2 (.int k n)).run P w= .ok (.int k m) w
 |[],vs,r,k,n,h,hv=>by
  simp_all [gH,L3]
 |x::xs,vs,r,k,n,h,hv=>by
  obtain ⟨u,us,rfl,e2,e3⟩:=hv;unfold gH at h;split at h
  .simp_all
  next b r' heq=>
   cases heq;split at h
   next c hc=>
    unfold BR at hc;split at hc
    next k1 x1 k2 y1 e1=>
     cases e1;simp at hc;subst hc;subst e2;obtain ⟨m,g1,g2⟩:=DO xs us r k _ h e3;simp_all [List.foldlM_cons,Sem.run_bind,Builtin.min2,Sem.run_pure,Result.andThen_ok]
    .cases hc
   .cases h
  .cases h
def ML {b:Bool}{a r:Data}{l:List c8}(h:gH b a l=J r)(hne:l≠[]):∃k n,a= .int k n:=by
 cases l with
 |nil=>simp_all
 |cons x xs =>
  unfold gH at h;simp_all [BR]<;>grind
def Nl (hρ:ee ck G I N w η ρ){o:Oper}{b:Bool}{ys:List y7}(hc:G5 P ck o (.jJ b ys)=W){v:c8}{rs:List Nat}
  (h:o7 ρ H (.jJ b ys)=J (v,rs)):Good P G I N w η o v:=by
 obtain ⟨dst,gh,ty,pos,after,guard⟩:=o;unfold G5 at hc;split at hc<;>try (cases hc)
 all_goals rename_i qV lU
 all_goals cases lU
 all_goals simp [c7] at hc
 all_goals obtain ⟨hc,hl⟩:=hc
 all_goals have h1:=kC hρ _ _ hc
 all_goals simp [o7] at h
 all_goals split at h
 all_goals try (cases h)
 all_goals rename_i a r heq
 all_goals split at h
 all_goals rename_i c wH
 all_goals obtain ⟨rfl,rfl⟩:=h
 all_goals rw [heq] at h1
 all_goals obtain ⟨x,xs,e1,e2,e3⟩:=h1
 all_goals have hne:r≠[]:=λhr=>by simp_all [List.length]<;>grind
 all_goals obtain ⟨k,n,rfl⟩:=ML wH hne
 all_goals subst e2
 .obtain ⟨m,rfl,g2⟩:=DN (P:=P) r xs c k n wH e3
  refine ⟨.int k m,?_,by simp [VR,DR]⟩;simp_all [execOp,resolve,invoke,builtin,Builtin.max_,Sem.run_bind,Sem.run_pure,Result.andThen_ok]
 .obtain ⟨m,rfl,g2⟩:=DO (P:=P) r xs c k n wH e3
  refine ⟨.int k m,?_,by simp [VR,DR]⟩;simp_all [execOp,resolve,invoke,builtin,Builtin.min_,Sem.run_bind,Sem.run_pure,Result.andThen_ok]
def tT (R:Value->Bool->Prop):List MapEntry->Nat->Option (Nat×Value)->Prop
 |[],_,q=>q=K
 |e::es,i,q=>(R e.key W/\q=J (i,e.val))\/(R e.key F/\tT R es (i+1) q)
def qj (P:Program)(w:World)(t:TypeId)(d:TypeDesc)(u:Value):KK->Value->Bool->Prop
 | .st _,v,r=>(Op.equal t u v).run P w= .ok r w/\Instr.sameNow d u v=K
 |_,v,r=>Instr.sameNow d u v=J r
def Te {G:Gh}{w:World}{I:U3}{N:Nat->Prop}(l:List KD)(j:Nat)(c:c8)(h:(l.map KD.av)[j]? =J c):∃v,(l.map KD.val).toArray[0+j]? =J v/\VR G I N w .none c v:=by
 simp only [List.getElem?_map,Option.map_eq_some_iff] at h;obtain ⟨x,hx,rfl⟩:=h;exact ⟨x.val,by simp [hx],by cases x<;>simp [KD.av,KD.val,VR,DR]⟩
def xk {kk:KK}{a b:Key}{r:Bool}(h:Data.eM kk a b=J r){t:TypeId}{d:TypeDesc}(ht:yU P t kk=W)(hd:P.underlying t=J d):qj P w t d a.val kk b.val r:=by
 unfold Data.eM at h;split at h
 .split at h
  next hkk=>
   subst hkk;simp at h;subst h;simp only [yU,gF,hd] at ht;split at ht
   .rename_i hx;cases hx;simp [qj,Key.val,Instr.sameNow]
   .cases ht
  .cases h
 .simp at h;subst h
  simp only [yU,gF,hd] at ht;split at ht
  .rename_i hx;cases hx;simp [qj,Key.val,Instr.sameNow,beq_toListBytes]
  .cases ht
 .simp at h;subst h
  simp only [yU,gF,hd] at ht;split at ht
  .rename_i hx;cases hx;simp [qj,Key.val,Instr.sameNow]
  .cases ht
 next ks l m=>
  simp only [yU,kO,hd] at ht;split at ht
  next fs BO=>
   cases BO;simp only [c7,p6] at ht;have hff:P.fieldsOf t=fs:=by simp [Program.fieldsOf,hd]
   have heq:=run_equalIn_struct (P:=P) w 9999 t (l.map KD.val).toArray (m.map KD.val).toArray (by rw [hff];exact hd) ht.1.2;rw [hff,mQ (P:=P) (G:=λ_=> .free) (I:=λ_=>(0,0)) (N:=λ_=>False) 9998 _ _ fs.toList 0 ks _ _ r ht.1.1 h (Te l) (Te m)] at heq;exact ⟨heq,by simp [Key.val,Instr.sameNow]⟩
  .cases ht
 .cases h
theorem LQ {kk:KK}{t:TypeId}{d:TypeDesc}(ht:yU P t kk=W)(hd:P.underlying t=J d){key:Key} :
  ∀(l:List (Key×c8)) (es:List MapEntry) (i:Nat) (r:Option c8),ER G I N w l es->cT kk key l=J r ->
   ∃q,tT (qj P w t d key.val kk) es i q/\(match r,q with
    |none,K=>True
    |some a,J (_,v)=>VR G I N w .none a v
    |_,_=>False)
 |[],es,i,r,hE,h=>by
  simp [ER] at hE;subst hE;simp [cT] at h;subst h;exact ⟨K,rfl,trivial⟩
 |(k',v')::rest,es,i,r,hE,h=>by
  simp only [ER] at hE;obtain ⟨e,es',rfl,h2,h3,h4⟩:=hE;unfold cT at h;split at h
  next hk=>
   simp at h;subst h;exact ⟨J (i,e.val),.inl ⟨h2 ▸ xk hk ht hd,rfl⟩,h3⟩
  next hk=>
   obtain ⟨q,g1,g2⟩:=LQ ht hd rest es' (i+1) r h4 h;exact ⟨q,.inr ⟨h2 ▸ xk hk ht hd,g1⟩,g2⟩
  .cases h
def qQ {kk:KK}{t:TypeId}{d:TypeDesc}(hd:P.underlying t=J d){u:Value}{es:List MapEntry}{q:Option (Nat×Value)}(h:tT (qj P w t d u kk) es 0 q):(Instr.findKey t u es).run P w= .ok q w:=by
 have plain:(∀v r,qj P w t d u kk v r->Instr.sameNow d u v=J r)->(Instr.findKey t u es).run P w= .ok q w:=by
  intro hp;have:∀(es:List MapEntry) (i:Nat),tT (qj P w t d u kk) es i q->Instr.findNow d u es i=J q:=by
   intro es
   induction es with
   |nil=>intro i h;simp only [tT] at h;simp [Instr.findNow,h]
   |cons e es ih =>
    intro i h
    rcases h with ⟨h1,rfl⟩|⟨h1,h2⟩
    .simp [Instr.findNow,hp _ _ h1]
    .simp [Instr.findNow,hp _ _ h1,ih _ h2]
  simp [Instr.findKey,run_underlying hd,this es 0 h]
 cases kk with
 |i=>exact plain λ_ _ h=>h
 |s=>exact plain λ_ _ h=>h
 |b=>exact plain λ_ _ h=>h
 |st ks =>
  have ask:∀(es:List MapEntry) (i:Nat),tT (qj P w t d u (.st ks)) es i q->(Instr.findAsking t u es i).run P w= .ok q w:=by
   intro es
   induction es with
   |nil=>intro i h;simp only [tT] at h;simp [Instr.findAsking,h]
   |cons e es ih =>
    intro i h
    rcases h with ⟨h1,rfl⟩|⟨h1,h2⟩
    .simp [Instr.findAsking,h1.1]
    .simp [Instr.findAsking,h1.1,ih _ h2]
  have:=ask es 0 h;cases es with
  |nil=>simp only [tT] at h;simp [Instr.findKey,run_underlying hd,Instr.findNow,h]
  |cons e es =>
   have h0:Instr.sameNow d u e.key=K:=by
    rcases h with ⟨h1,_⟩|⟨h1,_⟩<;>exact h1.2
   simp [Instr.findKey,run_underlying hd,Instr.findNow,h0,this]
def iV {k:CK}{t:TypeId}(ht:gF P t k=W)(b:Bool)(n:Nat)(u:Value):(Instr.checkKey b (n+1) t u).run P w= .ok () w:=by
 cases k<;>simp only [gF] at ht<;>split at ht<;>first|(cases ht;done)|(rename_i hu;simp [Instr.checkKey,run_underlying hu])
def kL {kk:KK}{t:TypeId}(ht:yU P t kk=W){key:Key}(hf:kk.fits key=W)(b:Bool)(n:Nat):(Instr.checkKey b (n+2) t key.val).run P w= .ok () w:=by
 have fields (l:List KD):∀(fs:List Field) (n0:Nat) (ks:List CK) (m:List KD),V3 P fs n0 ks=W->(S5 ks (m.map KD.av) (m.map KD.av)).isSome=W->(∀j x,m[j]? =J x->(l.map KD.val).toArray[n0+j]? =J x.val) ->
   Sem.run P (forIn fs PUnit.unit λ(f : Field) (_ : PUnit) => if f.name ≠ "_" then do
    let v <- part f.type (l.map KD.val).toArray f.offset
    Instr.checkKey b (n+1) f.type v
    pure (ForInStep.yield PUnit.unit) else pure (ForInStep.yield PUnit.unit)) w= .ok PUnit.unit w:=by
  intro fs
  induction fs with
  |nil=>intro n0 ks m _ _ _;simp
  |cons f fs ih =>
   intro n0 ks m hf hc hm;cases ks with
   |nil=>simp [V3] at hf
   |cons k ks =>
    simp only [V3,c7,bne_iff_ne,beq_iff_eq] at hf;obtain ⟨⟨⟨h1,h2⟩,h3⟩,h4⟩:=hf;cases m with
    |nil=>simp [S5] at hc
    |cons x m =>
     have qn:(S5 ks (m.map KD.av) (m.map KD.av)).isSome=W:=by
      cases x<;>simp only [K0,KD.av,S5] at hc<;>split at hc<;>first|(split at hc<;>simp_all)|simp_all
     have e1:=run_part_plain (w:=w) h2 (l.map KD.val).toArray n0 x.val (hm 0 x rfl);simp only [List.forIn_cons,Sem.run_bind,if_pos h1,h3,e1,Result.andThen_ok,iV h2,Sem.run_pure];exact ih (n0+1) ks m h4 qn λj y hy=>by rw [show n0+1+j=n0+(j+1) from by omega];exact hm (j+1) y (by simpa using hy)
 cases kk with
 |i=>exact iV (k:= .i) ht b _ _
 |s=>exact iV (k:= .s) ht b _ _
 |b=>exact iV (k:= .b) ht b _ _
 |st ks =>
  simp only [yU,kO] at ht;split at ht
  next fs BO=>
   simp only [c7,p6] at ht;cases key<;>simp only [KK.fits,j4] at hf;rename_i l;rw [Instr.checkKey];simp only [Key.val,Sem.run_bind,run_underlying BO,Result.andThen_ok];rw [<- Array.forIn_toList,fields l fs.toList 0 ks l ht.1.1 hf (λj x hj=>by simp [hj])];simp
  .cases ht
theorem Tf:∀(l:List c8) (r:List KD) (xs:List Value),QL l=J r->L3 G I N w l xs->xs=r.map KD.val
 |[],r,xs,h,hv=>by simp [QL] at h;subst h;simpa [L3] using hv
 |v::l,r,xs,h,hv=>by
  simp only [L3] at hv;obtain ⟨x,ys,rfl,h1,h2⟩:=hv;unfold QL at h;split at h
  .rename_i e;cases e
  all_goals first|(cases h;done)|skip
  all_goals rename_i e;cases e
  all_goals split at h<;>first|(cases h;done)|skip
  all_goals
   rename_i r' hr;cases h;rw [Tf _ r' ys hr h2];simp only [VR,DR] at h1;simp [h1,KD.val]
def JO {v:c8}{k:Key}{pl:Place}{x:Value}(h:v.QM =J k)(hv:VR G I N w pl v x):x=k.val:=by
 unfold c8.QM at h;split at h
 .cases h;simpa [VR,DR,Key.val] using hv
 .cases h;simpa [VR,DR,Key.val] using hv
 .cases h;simpa [VR,DR,Key.val] using hv
 .split at h
  next r hr=>
   cases h;simp only [VR] at hv;obtain ⟨cs,rfl,h2⟩:=hv;have:=Tf _ r _ hr h2;simp [Key.val,<- this]
  .cases h
 .cases h
def SF {kk:KK}{k:Key}{r:Bool}(h:Data.eM kk k k=J r):kk.fits k=W:=by
 unfold Data.eM at h;unfold KK.fits;split at h<;>simp_all
def Nk (hρ:ee ck G I N w η ρ)(hH:HR G I N w H){o:Oper}{kk:KK}{zero:c8}{ok:Bool}{m k:y7}(hc:G5 P ck o (.lookup kk zero ok m k)=W){v:c8}{rs:List Nat}
  (h:o7 ρ H (.lookup kk zero ok m k)=J (v,rs)):Good P G I N w η o v:=by
 obtain ⟨dst,gh,ty,pos,after,guard⟩:=o;cases gh<;>simp only [G5,c7,beq_iff_eq] at hc<;>try (cases hc;done)
 rename_i t m' k' ok';obtain ⟨⟨⟨rfl,hm⟩,hk⟩,ht⟩:=hc;have h1:=hρ _ _ hm;have h2:=hρ _ _ hk;split at ht
 next kt et hu=>
  simp only [c7] at ht;obtain ⟨hkt,hz⟩:=ht;split at hz
  next it hit=>
   split at hz
   next z hzz=>
    have hzero:(zeroValue et).run P w= .ok z w:=by simp [zeroValue,typeInfo,hit,hzz]
    have hzr:VR G I N w .none zero z:=eC _ _ hz;obtain ⟨dk,hdk⟩:∃d,P.underlying kt=J d:=by
     cases hd:P.underlying kt with
     |none=>cases kk<;>simp [yU,gF,kO,hd] at hkt
     |some d=>exact ⟨d,rfl⟩
    simp only [o7] at h;split at h
    next id key hp hq=>
     rw [hp] at h1;simp only [VR] at h1;have h2:=JO hq h2;split at h
     next es he=>
      split at h
      next r hr hfit=>
       simp at h;obtain ⟨rfl,rfl⟩:=h;have hO:=hH id _ he;simp only [OR] at hO;obtain ⟨_,arr,gW,g1,_,g3,_⟩:=hO;obtain ⟨q,f1,f2⟩:=LQ (P:=P) hkt hdk es arr.toList 0 r g3 hr;have hgo:(getObj (I id).1).run P w= .ok (.map arr gW) w:=by simp [getObj,Sem.run,g1]
       have hfk:(Instr.findKey kt (η k') arr.toList).run P w= .ok q w:=by rw [h2];exact qQ hdk f1
       have hck:=λb=>h2 ▸ kL (P:=P) (w:=w) hkt hfit b 9998
       cases r with
       |none =>
        cases q with
        |some q=>exact f2.elim
        |none =>
         refine ⟨if ok' then .tuple #[z,.bool F] else z,?_,?_⟩
         .cases ok' <;>simp [execOp,h1.2,Instr.lookup,run_underlying hu,hgo,hck,hfk,hzero]
         .cases ok'
          .simpa using hzr
          .simp only [VR,Option.getD_none,Option.isSome_none,if_true]
           exact ⟨_,rfl,by simp [L3,VR,DR,hzr]⟩
       |some a =>
        cases q with
        |none=>exact f2.elim
        |some q =>
         obtain ⟨qi,qv⟩:=q;refine ⟨if ok' then .tuple #[qv,.bool W] else qv,?_,?_⟩
         .cases ok' <;>simp [execOp,h1.2,Instr.lookup,run_underlying hu,hgo,hck,hfk]
         .cases ok'
          .simpa using f2
          .simp only [VR,Option.getD_some,Option.isSome_some,if_true]
           exact ⟨_,rfl,by simp [L3,VR,DR];exact f2⟩
      .cases h
     .cases h
    next key hp hq=>
     rw [hp] at h1;simp only [VR,DR] at h1;have h2:=JO hq h2;split at h
     next hkk=>
      simp at h;obtain ⟨rfl,rfl⟩:=h;have hck:=λb=>h2 ▸ kL (P:=P) (w:=w) hkt (SF hkk) b 9998
      have hfk:(Instr.findKey kt (η k') []).run P w= .ok K w:=by simp [Instr.findKey,run_underlying hdk,Instr.findNow]
      refine ⟨if ok' then .tuple #[z,.bool F] else z,?_,?_⟩
      .cases ok' <;>simp [execOp,h1,Instr.lookup,run_underlying hu,hck,hfk,hzero]
      .cases ok'
       .simpa using hzr
       .simp only [VR,if_true]
        exact ⟨_,rfl,by simp [L3,VR,DR,hzr]⟩
     .cases h
    .cases h
   .cases hz
  .cases hz
 .cases ht
end
def Gq (vs:List Value):Prop:=∀v∈vs,v.oneCell' =W
def Q4 (l:List Value)(off:Nat)(vs:List Value):List Value:=l.take off++vs++l.drop (off+O vs)
section
variable {P:Program} {w:World} {ck:Operand->y7->Bool} {η:Operand->Value} {ρ:y7->c8} {G:Gh} {I:U3} {N:Nat->Prop} {H:q6}
theorem L3.append:∀(a:List c8) (xs:List Value) (b:List c8) (ys:List Value),L3 G I N w a xs->L3 G I N w b ys->L3 G I N w (a++b) (xs++ys)
 |[],xs,b,ys,h,k=>by simp_all [L3]
 |a::as,xs,b,ys,h,k=>by
  obtain ⟨x,xs',rfl,h2,h3⟩:=h;exact ⟨x,xs' ++ys,rfl,h2,L3.append as xs' b ys h3 k⟩
theorem L3.take:∀(n:Nat) (a:List c8) (xs:List Value),L3 G I N w a xs->L3 G I N w (a.take n) (xs.take n)
 |0,_,_,_=>by simp [L3]
 |n+1,[],xs,h=>by simp_all [L3]
 |n+1,a::as,xs,h=>by
  obtain ⟨x,xs',rfl,h2,h3⟩:=h;exact ⟨x,xs'.take n,rfl,h2,L3.take n as xs' h3⟩
theorem L3.drop:∀(n:Nat) (a:List c8) (xs:List Value),L3 G I N w a xs->L3 G I N w (a.drop n) (xs.drop n)
 |0,_,_,h=>by simpa using h
 |n+1,[],xs,h=>by simp_all [L3]
 |n+1,a::as,xs,h=>by
  obtain ⟨x,xs',rfl,h2,h3⟩:=h;exact L3.drop n as xs' h3
theorem L3.splice {a b:List c8}{xs ys:List Value}(h:L3 G I N w a xs)(k:L3 G I N w b ys)(off:Nat):L3 G I N w (splice a off b) (Q4 xs off ys):=by
 grind [A1.splice,Q4,L3.length,L3.append,L3.take,L3.drop]
theorem oa {a:c8}(ha:a.one=W){pl:Place}{x:Value}(h:VR G I N w pl a x):x.oneCell' =W/\x.cells= #[x]:=by
 cases a<;>simp [c8.one] at ha
 next d=>
  cases d<;>simp [VR] at h
  all_goals first
   |(subst h;exact ⟨rfl,rfl⟩)
   |(rcases h with ⟨h|⟨a0,h⟩,_⟩|⟨b,o,cap,h,_⟩<;>(subst h;exact ⟨rfl,rfl⟩))
 .obtain ⟨_,h⟩:=h;subst h;exact ⟨rfl,rfl⟩
 .obtain ⟨b,o,h,_⟩:=h;subst h;exact ⟨rfl,rfl⟩
 .obtain ⟨_,cap,h,_⟩:=h;subst h;exact ⟨rfl,rfl⟩
 .obtain ⟨_,h⟩:=h
  rcases h with ⟨h|⟨b,o,h⟩,_⟩|⟨_,b,o,cap,c,e,f,h,_⟩<;>(subst h;exact ⟨rfl,rfl⟩)
 .subst h;exact ⟨rfl,rfl⟩
 .obtain ⟨x,y,h,_⟩:=h;subst h;exact ⟨rfl,rfl⟩
 .obtain ⟨_,h⟩:=h;subst h;exact ⟨rfl,rfl⟩
theorem pO:∀(l:List c8) (xs:List Value),l.all c8.one=W->L3 G I N w l xs->Gq xs
 |[],xs,_,h=>by subst h;intro v hv;cases hv
 |a::as,xs,ha,h=>by
  simp only [List.all_cons,c7] at ha;obtain ⟨x,xs',rfl,h2,h3⟩:=h;intro v hv
  rcases B6.1 hv with rfl|hv
  .grind [oa]
  .exact pO as xs' ha.2 h3 v hv
def zY {a:c8}{l:List c8}(ha:a.cells? =J l){x:Value}(h:VR G I N w .none a x):L3 G I N w l x.cells.toList/\Gq x.cells.toList:=by
 unfold c8.cells? at ha;split at ha
 .split at ha
  next hall=>
   simp at ha;subst ha;obtain ⟨cs,rfl,h2⟩:=h;exact ⟨h2,pO _ _ hall h2⟩
  .cases ha
 .split at ha
  next hone=>
   simp at ha;subst ha;obtain ⟨h1,h2⟩:=oa hone h;refine ⟨?_,λv hv=>?_⟩
   all_goals simp_all [L3]
  .cases ha
theorem GS (off:Nat):∀(vs:List Value) (k:Nat) (cs:Array Value),off+k+O vs<=cs.size ->
  ((vs.zipIdx k).foldl (λ(cs:Array Value) (p:Value×Nat)=>cs.setIfInBounds (off+p.2) p.1) cs).toList=cs.toList.take (off+k)++vs++cs.toList.drop (off+k+O vs)
 |[],k,cs,_=>U
 |v::vs,k,cs,h=>by
  simp [p8] at h;rw [List.zipIdx_cons,List.foldl_cons,GS off vs (k+1) _ D];have hlt:off+k<O cs.toList:=D
  simp [Array.toList_setIfInBounds];rw [show off+(k+1)=off+k+1 from by omega];rw [List.take_succ_eq_append_getElem M];rw [List.drop_set_of_lt V];simp [List.take_set_of_le (l6 _),p8]
  grind
def Wy {off:Nat}{v:Value}{cs:Array Value}(h:off+v.cells.size<=cs.size) :
  v.cells.zipIdx.foldl (λcs (c,j)=>cs.setIfInBounds (off+j) c) cs=(Q4 cs.toList off v.cells.toList).toArray:=by
 have:=GS off v.cells.toList 0 cs (by simpa using h);have e:v.cells.zipIdx.foldl (λcs (c,j)=>cs.setIfInBounds (off+j) c) cs=(v.cells.toList.zipIdx 0).foldl (λ(cs:Array Value) (p:Value×Nat)=>cs.setIfInBounds (off+p.2) p.1) cs:=by
  rw [<- Array.foldl_toList];simp
 grind [Array.toList_inj,Q4]
theorem oZ (hρ:ee ck G I N w η ρ){place:Nat->Option (Nat×Nat)}:∀(parts:List (Nat×Operand)) (ps:List (Nat×Nat×y7)) (l cs:List c8) (xs:Array Value),
  mq P ck place parts ps=W->L3 G I N w l xs.toList->cS l (ps.map λ(o,s,x)=>(o,s,ρ x))=J cs ->
  ∃ys:Array Value,Instr.fill place xs (parts.map λ(i,x)=>(i,η x))=J ys/\L3 G I N w cs ys.toList
 |[],[],l,cs,xs,_,hl,h=>by
  simp [cS] at h;subst h;exact ⟨xs,rfl,hl⟩
 |(i,x)::r,(off,sz,y)::q,l,cs,xs,hp,hl,h=>by
  simp [mq,c7,beq_iff_eq] at hp;obtain ⟨⟨h1,h2⟩,h3⟩:=hp;simp [K0,cS] at h;split at h
  next l' hl'=>
   split at h
   .obtain ⟨g1,g2⟩:=zY hl' (hρ _ _ h2)
    have hlen:(η x).cells.size=sz:=by
     have:=L3.length _ _ g1;simp_all
    have hlx:xs.size=O l:=by
     have:=L3.length _ _ hl;omega
    have pH:L3 G I N w (splice l off l') ((Q4 xs.toList off (η x).cells.toList).toArray).toList:=by
     simp_all [L3.splice]
    obtain ⟨ys,e1,e2⟩:=oZ hρ r q _ cs _ h3 pH h;refine ⟨ys,?_,e2⟩;have hc:¬ ((η x).cells.size≠sz||off+(η x).cells.size>xs.size)=W:=by
     simp_all
    simp only [K0,Instr.fill,h1];rw [if_neg hc,Wy V];exact e1
   .cases h
  .cases h
 |[],_::_,_,_,_,hp,_,_=>by simp [mq] at hp
 |_::_,[],_,_,_,hp,_,_=>by simp [mq] at hp
def qg {t:TypeId}{l:List c8}(h:Fe P t l=W):∃i z,P.info? t=J i/\i.zero=J z/\L3 G I N w l z.cells.toList:=by
 grind [Fe,gC]
def Rf (hρ:ee ck G I N w η ρ){o:Oper}{zero:List c8}{ps:List (Nat×Nat×y7)}(hc:G5 P ck o (.build zero ps)=W){v:c8}{rs:List Nat}
  (h:o7 ρ H (.build zero ps)=J (v,rs)):Good P G I N w η o v:=by
 obtain ⟨dst,gh,ty,pos,after,guard⟩:=o;cases gh<;>simp [G5] at hc<;>try simp_all
 rename_i t parts;simp [o7] at h;split at h
 next cs hcs=>
  obtain ⟨rfl,rfl⟩:=h;have key:∃ys:Array Value,P.built t (parts.toList.map λ(i,x)=>(i,η x))=J ys/\L3 G I N w cs ys.toList:=by
   split at hc
   .split at hc
    .simp [c7] at hc
     obtain ⟨it,z,e1,e2,e3⟩:=qg (G:=G) (I:=I) (N:=N) (w:=w) hc.1;obtain ⟨ys,f1,f2⟩:=oZ hρ parts.toList ps zero cs z.cells hc.2 e3 hcs;simp_all [Ab,Program.built]
    .cases hc
   .split at hc
    .simp [c7] at hc
     obtain ⟨it,z,e1,e2,e3⟩:=qg (G:=G) (I:=I) (N:=N) (w:=w) hc.1;obtain ⟨ys,f1,f2⟩:=oZ hρ parts.toList ps zero cs z.cells hc.2 e3 hcs;simp_all [Program.built]
    .cases hc
   .cases hc
  obtain ⟨ys,e1,e2⟩:=key;refine ⟨.agg ys,?_,by simp_all [VR]⟩;simp_all [run_build,execOp,Sem.run_bind]
 .cases h
def Rk (hη:∀v,η (.const v)=v)(hρ:ee ck G I N w η ρ)(hH:HR G I N w H){o:Oper}{op:x9}(hc:G5 P ck o op=W){v:c8}{rs:List Nat}
  (h:o7 ρ H op=J (v,rs)):Good P G I N w η o v:=by
 cases op
 case pick=>exact Xm hρ hc h
 case build=>exact Rf hρ hc h
 case load=>exact Xk hρ hH hc h
 case bG=>exact Ri hρ hc h
 case bin=>exact ae6 hρ hc h
 case un=>exact aC4 hρ hc h
 case DS=>exact Xl hη hρ hc h
 case u7=>exact ae7 hρ hc h
 case Gi=>exact ae8 hρ hc h
 case ql=>exact Rh hρ hc h
 case mO=>exact Nj hρ hc h
 case aJ=>exact No hρ hc h
 case off=>exact af0 hρ hc h
 case O4=>exact Xg hρ hc h
 case iE=>exact Xh hρ hc h
 case K9=>exact Xi hρ hc h
 case extract=>exact Kc hρ hc h
 case len=>exact ae9 hρ hc h
 case X8=>exact Xj hρ hc h
 case jJ=>exact Nl hρ hc h
 case bE=>exact Nn hρ hc h
 case lookup=>exact Nk hρ hH hc h
 all_goals simp_all [G5]
end
variable [E5]
def kH (G:Gh)(b:Nat)(l:Wb):Gh:=λx=>if x=b then l else G x
def EW (I:U3)(id:Nat)(p:Nat×Nat):U3:=λx=>if x=id then p else I x
@[simp] theorem sj (G:Gh) (b:Nat) (l:Wb):kH G b l b=l:=by simp [kH]
theorem M5 {G:Gh}{b:Nat}{l:Wb}{x:Nat}(h:x≠b):kH G b l x=G x:=by simp [kH,h]
@[simp] theorem fR (I:U3) (id:Nat) (p:Nat×Nat):EW I id p id=p:=by simp [EW]
def iN {I:U3}{id:Nat}{p:Nat×Nat}{x:Nat}(h:x≠id):EW I id p x=I x:=by simp [EW,h]
def nr (l:I7)(G:Gh)(w:World)(G' :Gh)(w' :World):Prop :=
 ∀id,l.may id=F->(∀b,G b= .obj id->G' b= .obj id/\w'.heap[b]? =w.heap[b]?)/\∀off,cR (.cell id off) G w G' w'
theorem nr.refl (l:I7)(G:Gh)(w:World):nr l G w G w:=λ_ _=>⟨λ_ h=>⟨h,rfl⟩,λ_ _ _ h=>⟨h,rfl⟩⟩
theorem nr.trans {l:I7}{G:Gh}{w:World}{G1:Gh}{w1:World}{G2:Gh}{w2:World}(h:nr l G w G1 w1)(k:nr l G1 w1 G2 w2):nr l G w G2 w2:=by
 intro id hid;obtain ⟨h1,h2⟩:=h id hid;obtain ⟨k1,k2⟩:=k id hid;refine ⟨λb hb=>?_,λoff b n hb=>?_⟩
 .simp_all
 .obtain ⟨a1,a2⟩:=h2 off b n hb
  obtain ⟨b1,b2⟩:=k2 off b n a1;simp_all
def Wa (l:I7)(H:q6):Prop :=
 ∀id o,H[id]? =J o->(id<l.strict->o.L7<=id+1)/\(id<l.base->o.L7<=l.base)
def Lf (_P:Program)(idle:FuncId->Bool)(d:Deferred):Prop :=
 ∃f cap,d.target= .fn (.func f) cap/\idle f=W
structure RI (X:Cx)(l:I7)(S:Nat->Prop)(st:I9)(a:Act)(w:World)(G:Gh)(I:U3)(N:Nat->Prop):Prop where
 T:∀(s:Nat) t,X.names[s]? =J t->VR G I N w (.slot s) (st.T.getD s .any) (a.tmps.getD t undef)
 L:∀(j:Nat),S j->∀d,(X.ops[j]?).bind (·.dst)=J d->X.names.contains d=F->VR G I N w (.loc j) (st.L.getD j .any) (a.tmps.getD d undef)
 H:HR G I N w st.H
 wf:WF G w
 X7:Wa l st.H
def IZ {G:Gh}{b n:Nat}{pl Av :Place}(h:G b= .grow n pl)(x o:Nat):kA (kH G b (.grow n Av)) x o↔kA G x o:=by
 grind [kA,kH]
def Ext.relabel {G:Gh}{w:World}{b n:Nat}{pl Av :Place}(h:G b= .grow n pl):Ext G w (kH G b (.grow n Av)) w where
 os:=rfl
 tape:=rfl
 output:=rfl
 drawn _:=l6 _
 size:=l6 _
 nj x o hi:=⟨(IZ h x o).2 hi,rfl⟩
 still x hx:=by
  grind [M5]
 shape _ c _ _ hc:=⟨c,hc,rfl⟩
def cR.relabel {G:Gh}{w:World}{b n:Nat}{pl Av q:Place}(h:G b= .grow n pl)(hq:q≠pl):cR q G w (kH G b (.grow n Av)) w:=by
 intro x m hx
 grind [M5]
structure lY (pl:Place)(G:Gh)(w:World)(G' :Gh):Prop where
 ext:Ext G w G' w
 keeps:∀q,q≠pl->cR q G w G' w
 obj:∀b id,G b= .obj id->G' b= .obj id
 wf:WF G w->WF G' w
theorem lY.refl (pl:Place)(G:Gh)(w:World):lY pl G w G:=⟨Ext.refl _ _,λ_ _ _ _ h=>⟨h,rfl⟩,λ_ _ h=>h,λh=>h⟩
def kW {G:Gh}{I:U3}{N:Nat->Prop}{w:World}{pl Av :Place}(hp' :Av ≠ .none){sz len:Nat}{cells:List Data}{x:Value}(h:VR G I N w pl (.own sz len cells) x) :
  ∃G',lY pl G w G' /\VR G' I N w Av (.own sz len cells) x:=by
 obtain ⟨hl,h⟩:=h
 rcases h with h|⟨hp,b,o,cap,c,e,f,h1,h2,h3,h4,h5,h6,h7⟩
 .exact ⟨G,lY.refl _ _ _,by simp_all [VR]⟩
 .refine ⟨kH G b (.grow (o+len * sz) Av),⟨Ext.relabel h6,λq hq=>cR.relabel h6 hq,λx id hx=>?_,λhwf x hx=>?_⟩,?_⟩
  .grind [M5]
  .have:x≠b:=by
    grind
   rw [M5 this];exact hwf x hx
  .exact ⟨hl,Or.inr ⟨hp',b,o,cap,c,e,f,h1,h2,h3,h4,h5,sj _ _ _,gq.mono (Ext.relabel h6).nj b o cells h7⟩⟩
def R4 {α:Type}(l:List α)(i:Nat)(v d:α)(h:i<O l):(l.set i v).getD i d=v:=by
 simp_all
theorem S9 {α:Type}(l:List α)(i j:Nat)(v d:α)(h:i≠j):(l.set i v).getD j d=l.getD j d:=by
 simp_all
theorem y5 {α:Type}{l:List α}{i:Nat}{v:α}(h:l[i]? =J v):i<O l:=by
 grind
def bZ {α:Type}{l:List α}{i:Nat}{v d:α}(h:l[i]? =J v):l.getD i d=v:=M
section
variable {X:Cx} {l:I7} {S:Nat->Prop} {st:I9} {a:Act} {w:World} {G:Gh} {I:U3} {N:Nat->Prop}
def HR.MM {H:q6}{pl:Place}(hH:HR G I N w H){G' :Gh}(hm:lY pl G w G')(Du:∀id off,pl≠ .cell id off):HR G' I N w H:=by
 intro id o ho;exact OR.mono hm.ext (λ_ _=>rfl) (λ_ h=>h) id o (λh=>⟨hm.obj _ _ h,rfl⟩) (λoff=>hm.keeps _ (λe=>Du id off e.symm)) (hH id o ho)
def RI.ak6 (h:RI X l S st a w G I N){s:Nat}{sz len:Nat}{cells:List Data}(hs:st.T[s]? =J (.own sz len cells))(o9:List Touch)
  {G' :Gh} (hm:lY (.slot s) G w G'):RI X l S { st with T:=st.T.set s (.d (.slice len cells)),o9 } a w G' I N where
 T s' t ht:=by
  by_cases he:s' =s
  .subst he
   have h1:=h.T s' t ht;rw [bZ hs] at h1;rw [R4 _ _ _ _ (y5 hs)];have h2:VR G I N w (.slot s') (c8.K7 (.own sz len cells)) (a.tmps.getD t undef):=h1.K7;exact DR.mono hm.ext.nj _ _ h2
  .rw [S9 _ _ _ _ _ (λe=>he e.symm)]
   exact VR.mono hm.ext (λ_ _=>rfl) (λ_ h=>h) _ _ _ (Or.inr (hm.keeps _ (λe=>he (by cases e;rfl)))) (h.T s' t ht)
 L j hj d hd hn:=VR.mono hm.ext (λ_ _=>rfl) (λ_ h=>h) _ _ _ (Or.inr (hm.keeps _ (λe=>by cases e))) (h.L j hj d hd hn)
 H:=h.H.MM hm (λ_ _ e=>by cases e)
 wf:=hm.wf h.wf
 X7:=h.X7
def RI.TS (h:RI X l S st a w G I N){j0:Nat}{sz len:Nat}{cells:List Data}(hs:st.L[j0]? =J (.own sz len cells))
  {G' :Gh} (hm:lY (.loc j0) G w G'):RI X l S { st with L:=st.L.set j0 (.d (.slice len cells)) } a w G' I N where
 T s' t ht:=VR.mono hm.ext (λ_ _=>rfl) (λ_ h=>h) _ _ _ (Or.inr (hm.keeps _ (λe=>by cases e))) (h.T s' t ht)
 L j hj d hd hn:=by
  by_cases he:j=j0
  .subst he
   have h1:=h.L j hj d hd hn;rw [bZ hs] at h1;rw [R4 _ _ _ _ (y5 hs)];have h2:VR G I N w (.loc j) (c8.K7 (.own sz len cells)) (a.tmps.getD d undef):=h1.K7;exact DR.mono hm.ext.nj _ _ h2
  .rw [S9 _ _ _ _ _ (λe=>he e.symm)]
   exact VR.mono hm.ext (λ_ _=>rfl) (λ_ h=>h) _ _ _ (Or.inr (hm.keeps _ (λe=>he (by cases e;rfl)))) (h.L j hj d hd hn)
 H:=h.H.MM hm (λ_ _ e=>by cases e)
 wf:=hm.wf h.wf
 X7:=h.X7
theorem oQ:∀(l:List c8) (i:Nat) (x:Data),C5 (l.set i (.d x))<=C5 l
 |[],_,_=>U
 |v::vs,0,x=>by grind [C5,c8.L7]
 |v::vs,i+1,x=>by
  have:=oQ vs i x
  grind [C5]
def RI.ak5 (h:RI X l S st a w G I N){id off:Nat}{cs:List c8}{sz len:Nat}{cells:List Data}(hid:st.H[id]? =J (.cells cs))(hs:cs[off]? =J (.own sz len cells))(o9:List Touch)
  {G' :Gh} (hm:lY (.cell id off) G w G'):RI X l S { st with H:=st.H.set id (.cells (cs.set off (.d (.slice len cells)))),o9 } a w G' I N where
 T s' t ht:=by
  exact VR.mono hm.ext (λ_ _=>rfl) (λ_ h=>h) _ _ _ (Or.inr (hm.keeps _ (λe=>by cases e))) (h.T s' t ht)
 L j hj d hd hn:=by
  exact VR.mono hm.ext (λ_ _=>rfl) (λ_ h=>h) _ _ _ (Or.inr (hm.keeps _ (λe=>by cases e))) (h.L j hj d hd hn)
 H:=by
  intro id' o ho
  by_cases he:id' =id
  .subst he
   rw [N6 (y5 hid)] at ho;cases ho;have hO:=h.H id' _ hid;obtain ⟨hN,c,e,f,h1,h2,h3,h4,h5⟩:=hO
   .refine ⟨hN,c,e,f,h1,hm.obj _ _ h2,h3,M,λi x hx=>?_⟩
    by_cases hi:i=off
    .subst hi
     rw [N6 (y5 hs)] at hx;cases hx;obtain ⟨v,g1,g2⟩:=h5 i _ hs;refine ⟨v,g1,?_⟩;have h2:VR G I N w (.cell id' i) (c8.K7 (.own sz len cells)) v:=g2.K7;exact DR.mono hm.ext.nj _ _ h2
    .rw [D0 (λe=>hi e.symm)] at hx
     obtain ⟨v,g1,g2⟩:=h5 i x hx;exact ⟨v,g1,VR.mono hm.ext (λ_ _=>rfl) (λ_ h=>h) _ _ _ (Or.inr (hm.keeps _ (λe=>hi (by cases e;rfl)))) g2⟩
  .rw [D0 (λe=>he e.symm)] at ho
   exact OR.mono hm.ext (λ_ _=>rfl) (λ_ h=>h) id' o (λh=>⟨hm.obj _ _ h,rfl⟩) (λoff' =>hm.keeps _ (λe=>he (by cases e;rfl))) (h.H id' o ho)
 wf:=hm.wf h.wf
 X7:=by
  intro id' o ho
  by_cases he:id' =id
  .subst he
   rw [N6 (y5 hid)] at ho;obtain ⟨d1,d2⟩:=h.X7 id' _ hid
   grind [oQ,y6.L7]
  .rw [D0 (λe=>he e.symm)] at ho
   exact h.X7 id' o ho
end
end Go.A1
namespace Go.A1
variable [E5]
structure lZ (w w' :World)(o:Obj):Prop where
 os:w'.os=w.os
 tape:w'.tape=w.tape
 output:w'.output=w.output
 drawn:w.drawn<=w'.drawn
 size:w'.heap.size=w.heap.size+1
 old:∀b,b<w.heap.size->w'.heap[b]? =w.heap[b]?
 new:w'.heap[w.heap.size]? =J o
theorem lZ.alloc (w:World)(o:Obj):lZ w (w.alloc o) o :=
 ⟨rfl,rfl,rfl,l6 _,U,λb hb=>RowKit.Below.heap_alloc w o b hb,by show (w.heap.push o)[w.heap.size]? =_;simp⟩
def lZ.drew {w w' :World}{o:Obj}(h:lZ w w' o)(n:Nat)(hn:w'.drawn<=n):lZ w { w' with drawn:=n } o:=⟨h.os,h.tape,h.output,C9 h.drawn hn,h.size,h.old,h.new⟩
def bT {G:Gh}{w:World}(hwf:WF G w){b:Nat}(h:G b≠ .free):b<w.heap.size:=by
 rcases A5 b w.heap.size with h' |h'
 .exact h'
 .exact absurd (hwf b h') h
section
variable {G:Gh} {w w' :World} {ob:Obj}
theorem lZ.cell (hn:lZ w w' ob){b:Nat}(hb:b<w.heap.size)(o:Nat):w'.cell? (ad b o)=w.cell? (ad b o):=by
 simp [World.cell?,hn.old b hb]
theorem lZ.ext (hn:lZ w w' ob)(hwf:WF G w)(nQ:Wb):Ext G w (kH G w.heap.size nQ) w' where
 os:=hn.os
 tape:=hn.tape
 output:=hn.output
 drawn _:=hn.drawn
 size:=by rw [hn.size];omega
 nj b o hi:=by
  have hb:b<w.heap.size:=bT hwf (by intro e;simp [kA,e] at hi);have hne:b≠w.heap.size:=V
  refine ⟨?_,hn.cell hb o⟩;unfold kA at hi ⊢;rw [M5 hne];exact hi
 still b hb:=by
  have hlt:b<w.heap.size:=bT hwf (by rintro e;rw [e] at hb;rcases hb with hb|⟨n,hb⟩<;>cases hb);exact ⟨M5 V,hn.old b hlt⟩
 shape b c e f hc:=by
  have hlt:b<w.heap.size:=by
   rcases A5 b w.heap.size with h|h
   .exact h
   .rw [Array.getElem?_eq_none h] at hc;cases hc
  exact ⟨c,by rw [hn.old b hlt];exact hc,rfl⟩
def lZ.keeps (hn:lZ w w' ob)(hwf:WF G w)(nQ:Wb)(q:Place):cR q G w (kH G w.heap.size nQ) w' :=by
 intro b n hb;have hlt:b<w.heap.size:=bT hwf (by rw [hb];simp);exact ⟨by grind [M5],hn.old b hlt⟩
def lZ.DW (hn:lZ w w' ob)(hwf:WF G w)(nQ:Wb)(id:Nat):∀b,G b= .obj id->(kH G w.heap.size nQ) b= .obj id/\w'.heap[b]? =w.heap[b]? :=by
 intro b hb;have hlt:b<w.heap.size:=bT hwf (by rw [hb];simp);exact ⟨by grind [M5],hn.old b hlt⟩
def lZ.wf (hn:lZ w w' ob)(hwf:WF G w)(nQ:Wb):WF (kH G w.heap.size nQ) w' :=by
 intro b hb;rw [hn.size] at hb;rw [M5 V];exact hwf b V
def lZ.gj (hn:lZ w w' ob)(hwf:WF G w)(nQ:Wb)(l:I7):nr l G w (kH G w.heap.size nQ) w' :=
 λid _=>⟨hn.DW hwf nQ id,λoff=>hn.keeps hwf nQ (.cell id off)⟩
def lZ.hr (hn:lZ w w' ob)(hwf:WF G w)(nQ:Wb){I I' :U3}{N N' :Nat->Prop}{H:q6}(hI:∀id,N id->I' id=I id)(hN:∀id,N id->N' id)(h:HR G I N w H) :
  HR (kH G w.heap.size nQ) I' N' w' H :=
 λid o ho=>OR.mono (hn.ext hwf nQ) hI hN id o (λhb=>hn.DW hwf nQ id _ hb) (λ_=>hn.keeps hwf nQ _) (h id o ho)
def lZ.vr (hn:lZ w w' ob)(hwf:WF G w)(nQ:Wb){I I' :U3}{N N' :Nat->Prop}(hI:∀id,N id->I' id=I id)(hN:∀id,N id->N' id){pl:Place}{a:c8}{x:Value}(h:VR G I N w pl a x) :
  VR (kH G w.heap.size nQ) I' N' w' pl a x :=
 VR.mono (hn.ext hwf nQ) hI hN pl a x (Or.inr (hn.keeps hwf nQ pl)) h
end
structure ez (X:Cx)(l:I7)(S:Nat->Prop)(entry:Nat)(st:I9)(a:Act)(w:World)(G:Gh)(I:U3)(N:Nat->Prop)
  (st' :I9) (k:Nat) (x' :Value) (w' :World) (G' :Gh) (I' :U3) (N' :Nat->Prop):Prop where
 ri:RI X l S st' a w' G' I' N'
 val:VR G' I' N' w' (.loc k) (st'.L.getD k .any) x'
 ext:Ext G w G' w'
 gj:nr l G w G' w'
 ko:∀id,N id->st'.o9.any (Touch.L5 id)=F->I' id=I id/\∀b,G b= .obj id->G' b= .obj id/\w'.heap[b]? =w.heap[b]?
 inj:∀id,id<entry->N id->I' id=I id
 mono:∀id,N id->N' id
 len:O st.H<=O st'.H
 hle:∀id o',id<l.base->st'.H[id]? =J o' ->o'.L7<=id+1\/∃o,st.H[id]? =J o/\o'.L7<=o.L7
section
variable {P:Program} {X:Cx} {l:I7} {S:Nat->Prop} {st:I9} {a:Act} {w w' :World} {G:Gh} {I:U3} {N:Nat->Prop} {ob:Obj}
def RI.new (h:RI X l S st a w G I N)(hn:lZ w w' ob)(nQ:Wb):RI X l S st a w' (kH G w.heap.size nQ) I N where
 T s t ht:=hn.vr h.wf nQ (λ_ _=>rfl) (λ_ h=>h) (h.T s t ht)
 L j hj d hd hN:=hn.vr h.wf nQ (λ_ _=>rfl) (λ_ h=>h) (h.L j hj d hd hN)
 H:=hn.hr h.wf nQ (λ_ _=>rfl) (λ_ h=>h) h.H
 wf:=hn.wf h.wf nQ
 X7:=h.X7
theorem RI.put (h:RI X l S st a w G I N){k:Nat}(hk:¬ S k)(v:c8):RI X l S (put st k v) a w G I N where
 T:=h.T
 L j hj d hd hN:=by
  have:k≠j:=by grind
  simp only [A1.put];rw [S9 _ _ _ _ _ this];exact h.L j hj d hd hN
 H:=h.H
 wf:=h.wf
 X7:=h.X7
def ez.same (h:RI X l S st a w G I N){k:Nat}(hk:¬ S k)(bQ:k<O st.L)(entry:Nat){v:c8}{x:Value}(hv:VR G I N w (.loc k) v x) :
  ez X l S entry st a w G I N (put st k v) k x w G I N where
 ri:=h.put hk v
 val:=by simp_all [A1.put,R4]
 ext:=Ext.refl _ _
 gj:=nr.refl _ _ _
 ko _ _ _:=⟨rfl,λ_ hb=>⟨hb,rfl⟩⟩
 inj _ _ _:=rfl
 mono _ h:=h
 len:=l6 _
 hle _ o _ ho:=Or.inr ⟨o,ho,l6 _⟩
def ez.fresh (h:RI X l S st a w G I N){k:Nat}(hk:¬ S k)(bQ:k<O st.L)(entry:Nat)(hn:lZ w w' ob)(nQ:Wb){v:c8}{x:Value}
  (hv:VR (kH G w.heap.size nQ) I N w' (.loc k) v x):ez X l S entry st a w G I N (put st k v) k x w' (kH G w.heap.size nQ) I N where
 ri:=(h.new hn nQ).put hk v
 val:=by simp_all [A1.put,R4]
 ext:=hn.ext h.wf nQ
 gj:=hn.gj h.wf nQ l
 ko id _ _:=⟨rfl,hn.DW h.wf nQ id⟩
 inj _ _ _:=rfl
 mono _ h:=h
 len:=l6 _
 hle _ o _ ho:=Or.inr ⟨o,ho,l6 _⟩
end
section
variable {G:Gh} {I:U3} {N:Nat->Prop} {w w' :World}
theorem jj:∀(cs:List c8) (xs:List Data) (vs:List Value),P7 cs=J xs->L3 G I N w cs vs ->
  O xs=O cs/\∀(i:Nat) x,xs[i]? =J x->∃v,vs[i]? =J v/\DR G w x v
 |[],xs,vs,h,_=>by
  simp_all [P7]
 |c::cs,xs,vs,h,hv=>by
  obtain ⟨v,vs',rfl,h2,h3⟩:=hv;unfold P7 at h;split at h
  next x hx=>
   split at h
   next ys hys=>
    simp at h;subst h;obtain ⟨g1,g2⟩:=jj cs ys vs' hys h3;refine ⟨by simp [g1],λi y hi=>?_⟩;cases i with
    |zero =>
     unfold c8.data? at hx;split at hx
     .simp_all [VR]
     .have:=h2.K7 (Av := .none)
      simp_all [c8.K7,VR]
     .have:=h2.K7 (Av := .none)
      simp_all [c8.K7,VR]
     .cases hx
    |succ i=>simp_all
   .cases h
  .cases h
theorem Cp {b:Nat}:∀(o:Nat) (xs:List Data),(∀(i:Nat) x,xs[i]? =J x->kA G b (o+i)/\∃v,w.cell? (ad b (o+i))=J v/\DR G w x v)->gq G w b o xs
 |_,[],_=>by simp [gq]
 |o,x::xs,h=>by
  obtain ⟨h1,h2⟩:=h 0 x rfl;refine ⟨V,V,Cp (o+1) xs λi y hi=>?_⟩;have:=h (i+1) y M
  grind
def Ts (hwf:WF G w){c:Array Value}{e:TypeId}{f:Nat×Nat}(hn:lZ w w' (.cells c e f))(hf:Qa f c.size){cs:List c8}{xs:List Data}{vs:List Value}
  (hd:P7 cs=J xs) (hv:L3 G I N w cs vs) (hc:∀(i:Nat) v,vs[i]? =J v->c[i]? =J v) {sz len cap:Nat} (hl:O xs=len * sz) (hcap:len<=cap) (hsz:cap * sz<=c.size) {pl:Place} (hp:pl≠ .none) :
  VR (kH G w.heap.size (.grow (len * sz) pl)) I N w' pl (.own sz len xs) (.slice (J (ad w.heap.size 0)) len cap):=by
 refine ⟨hl,Or.inr ⟨hp,w.heap.size,0,cap,c,e,f,rfl,hcap,hn.new,V,hf,U,?_⟩⟩;obtain ⟨g1,g2⟩:=jj cs xs vs hd hv;refine Cp 0 xs λi x hi=>?_
 obtain ⟨v,e1,e2⟩:=g2 i x hi;have hlt:=y5 hi;refine ⟨by simp [kA];omega,v,?_,DR.mono (hn.ext hwf _).nj _ _ e2⟩;rw [X0 hn.new];simp_all
end
end Go.A1
namespace Go.A1
variable [E5]
def KN (P:Program)(e:TypeId)(n:Nat):Option (List Value) :=
 if n=0 then J [] else
 match P.info? e with
 |some i=>match i.zero with
  |some z=>J ((Array.range n).map (z.cells[· % z.cells.size]!)).toList
  |none=>K
 |none=>K
def gA (P:Program)(ck:Operand->y7->Bool)(o:Oper)(op:x9):Bool :=
 match o.op,op with
 | .alloc t,.alloc zero=>Fe P t zero
 | .box _ x,.box y=>ck x y
 | .makeMap _ K,.makeMap=>W
 | .buildSlice t n parts,.H6 sz len zero ps _=>n==len&&rj P t sz&&decide (len * sz<=16777216)&&(match P.underlying t with
  |some (.slice e)=>(match KN P e (len * sz) with
   |some zs=>consts zs zero&&mq P ck (λi=>J (i * sz,sz)) parts.toList ps
   |none=>F)
  |_=>F)
 |_,_=>F
section
variable {P:Program} {X:Cx} {l:I7} {S:Nat->Prop} {st:I9} {a:Act} {w w' :World} {G:Gh} {I:U3} {N:Nat->Prop} {ob:Obj}
structure Ld (l:I7)(st:I9)(N:Nat->Prop)(A4:Option Nat):Prop where
 new:¬ N (newId st A4)
 inside:∀i,A4=J i->i<O st.H
 base:l.base<=newId st A4
 strict:l.strict<=newId st A4
def MP (st:I9)(A4:Option Nat)(o:y6):O st.H<=O (N7 st A4 o).H:=by
 cases A4<;>simp [N7]
theorem mh {st:I9}{A4:Option Nat}(hi:∀i,A4=J i->i<O st.H)(o:y6)(id:Nat)(o' :y6)(h:(N7 st A4 o).H[id]? =J o') :
  (id=newId st A4/\o' =o)\/(id≠newId st A4/\st.H[id]? =J o'):=by
 cases A4 with
 |none =>
  grind [N7,newId,Nat.lt_trichotomy,B9,List.getElem?_eq_none]
 |some i =>
  grind [N7,newId,N6,D0]
def ez.newObj (h:RI X l S st a w G I N){k:Nat}(hk:¬ S k)(bQ:k<O st.L)(entry:Nat){A4:Option Nat}(hid:Ld l st N A4)(hn:lZ w w' ob)(o:y6)
  (ho:OR (kH G w.heap.size (.obj (newId st A4))) (EW I (newId st A4) (w.heap.size,0)) (λi=>N i\/i=newId st A4) w' (newId st A4) o) {v:c8} {x:Value}
  (hv:VR (kH G w.heap.size (.obj (newId st A4))) (EW I (newId st A4) (w.heap.size,0)) (λi=>N i\/i=newId st A4) w' (.loc k) v x) :
  ez X l S entry st a w G I N (put (N7 st A4 o) k v) k x w' (kH G w.heap.size (.obj (newId st A4))) (EW I (newId st A4) (w.heap.size,0)) (λi=>N i\/i=newId st A4):=by
 have hI:∀id,N id->EW I (newId st A4) (w.heap.size,0) id=I id:=λid hN=>iN (by rintro rfl;exact hid.new hN)
 have hT:(N7 st A4 o).T=st.T:=by cases A4<;>rfl
 have hL:(N7 st A4 o).L=st.L:=by cases A4<;>rfl
 refine ⟨⟨?_,?_,?_,hn.wf h.wf _,?_⟩,?_,hn.ext h.wf _,hn.gj h.wf _ l,?_,?_,λ_ h=>Or.inl h,MP st A4 o,?_⟩
 .intro s t ht
  simp only [A1.put,hT];exact hn.vr h.wf _ hI (λ_ h=>Or.inl h) (h.T s t ht)
 .intro j hj d hd hN
  have:k≠j:=by grind
  simp only [A1.put,hL];rw [S9 _ _ _ _ _ this];exact hn.vr h.wf _ hI (λ_ h=>Or.inl h) (h.L j hj d hd hN)
 .intro id o' ho'
  rcases mh hid.inside o id o' ho' with ⟨rfl,rfl⟩|⟨hne,hold⟩
  .exact ho
  .exact OR.mono (hn.ext h.wf _).sub hI (λ_ h=>Or.inl h) id o' (λhb=>hn.DW h.wf _ id _ hb) (λ_=>hn.keeps h.wf _ _) (h.H id o' hold)
 .intro id o' ho'
  rcases mh hid.inside o id o' ho' with ⟨rfl,rfl⟩|⟨hne,hold⟩
  .exact ⟨λhx=>absurd hx (by have:=hid.strict;omega),λhx=>absurd hx (by have:=hid.base;omega)⟩
  .exact h.X7 id o' hold
 .simp_all [A1.put,R4]
 .intro id hN _
  exact ⟨hI id hN,hn.DW h.wf _ id⟩
 .simp_all
 .intro id o' hb ho'
  rcases mh hid.inside o id o' ho' with ⟨rfl,rfl⟩|⟨hne,hold⟩
  .exact absurd hb (by have:=hid.base;omega)
  simp_all
def qG (n:Nat):Qa (0,0) n:=by intro o _ h;simp at h
def Qb (hwf:WF G w){c:Array Value}{e:TypeId}(hn:lZ w w' (.cells c e)){id:Nat}(hid:¬ N id){cs:List c8}(hv:L3 G I N w cs c.toList) :
  OR (kH G w.heap.size (.obj id)) (EW I id (w.heap.size,0)) (λi=>N i\/i=id) w' id (.cells cs):=by
 simp only [OR];refine ⟨Or.inr trivial,c,e,(0,0),by simpa using hn.new,U,qG _,?_,λi x hx=>?_⟩
 .have:=L3.length _ _ hv
  simp_all
 .let ⟨v,g1,g2⟩:=L3.get cs _ hv i x hx
  refine ⟨v,M,?_⟩;exact (hn.vr hwf _ (λj hj=>iN (by grind)) (λ_ h=>Or.inl h) g2).place
variable {ck:Operand->y7->Bool}
def WV (h:RI X l S st a w G I N){k:Nat}(hk:¬ S k)(bQ:k<O st.L)(entry:Nat){A4:Option Nat}(hid:Ld l st N A4){o:Oper}{zero:List c8}
  (hc:gA P ck o (.alloc zero)=W):∃x w' G' I' N',(execOp a.eval o).run P w= .ok (.value x) w' /\
   ez X l S entry st a w G I N (put (N7 st A4 (.cells zero)) k (.ptr (newId st A4) 0)) k x w' G' I' N' /\(∀i,N' i↔N i\/i=newId st A4):=by
 let ⟨dst,gh,ty,pos,after,guard⟩:=o
 cases gh<;>simp [gA] at hc<;>try (cases hc)
 rename_i t
 let ⟨it,z,e1,e2,e3⟩:=qg (G:=G) (I:=I) (N:=N) (w:=w) hc
 have hz:(zeroValue t).run P w= .ok z w:=by simp [zeroValue,typeInfo,e1,e2]
 refine ⟨.pointer (J (ad w.heap.size 0)),w.alloc (.cells z.cells t),_,_,_,?_,ez.newObj h hk bQ entry hid (lZ.alloc w (.cells z.cells t)) (.cells zero) (Qb h.wf (lZ.alloc w _) hid.new e3) ?_,λi=>Iff.rfl⟩
 all_goals simp_all [execOp,Instr.alloc,newVar,newRow,VR,trivial]
def aA4 (h:RI X l S st a w G I N)(hρ:ee ck G I N w a.eval (K4 st.T st.L)){k:Nat}(hk:¬ S k)(bQ:k<O st.L)(entry:Nat){A4:Option Nat}(hid:Ld l st N A4){o:Oper}{y:y7}
  (hc:gA P ck o (.box y)=W) {cs:List c8} (hcs:(K4 st.T st.L y).cells? =J cs):∃x w' G' I' N',(execOp a.eval o).run P w= .ok (.value x) w' /\
   ez X l S entry st a w G I N (put (N7 st A4 (.cells cs)) k (.ptr (newId st A4) 0)) k x w' G' I' N' /\(∀i,N' i↔N i\/i=newId st A4):=by
 let ⟨dst,gh,ty,pos,after,guard⟩:=o
 cases gh<;>simp [gA] at hc<;>try (cases hc)
 rename_i t x
 let ⟨g1,_⟩:=zY hcs (hρ _ _ hc)
 refine ⟨.pointer (J (ad w.heap.size 0)),w.alloc (.cells (a.eval x).cells t),_,_,_,?_,ez.newObj h hk bQ entry hid (lZ.alloc w (.cells (a.eval x).cells t)) (.cells cs) (Qb h.wf (lZ.alloc w _) hid.new g1) ?_,λi=>Iff.rfl⟩
 all_goals simp_all [execOp,Instr.box,newVar,newRow,VR,trivial]
def aA5 (h:RI X l S st a w G I N){k:Nat}(hk:¬ S k)(bQ:k<O st.L)(entry:Nat){A4:Option Nat}(hid:Ld l st N A4){o:Oper}
  (hc:gA P ck o .makeMap=W):∃x w' G' I' N',(execOp a.eval o).run P w= .ok (.value x) w' /\
   ez X l S entry st a w G I N (put (N7 st A4 (.map [])) k (.map (newId st A4))) k x w' G' I' N' /\(∀i,N' i↔N i\/i=newId st A4):=by
 let ⟨dst,gh,ty,pos,after,guard⟩:=o
 unfold gA at hc;split at hc<;>try (cases hc)
 all_goals try (rename_i qV lU;cases lU)
 rename_i t qV lU;subst qV;have hn:=lZ.alloc w (.map #[] 0);refine ⟨.map (J w.heap.size),w.alloc (.map #[] 0),_,_,_,?_,ez.newObj h hk bQ entry hid hn (.map []) ?_ ?_,λi=>Iff.rfl⟩
 .rfl
 .simp only [OR]
  exact ⟨Or.inr trivial,#[],0,by simpa using hn.new,U,by simp [ER],⟨U,U⟩⟩
 simp_all [VR,trivial]
def rO (hρ:ee ck G I N w a.eval (K4 st.T st.L)){o:Oper}{sz len:Nat}{zero:List c8}{ps:List (Nat×Nat×y7)}{b:Bool}
  (hc:gA P ck o (.H6 sz len zero ps b)=W) {cs:List c8} (hcs:cS zero (ps.map λ(o,s,x)=>(o,s,K4 st.T st.L x))=J cs) :
  ∃(ys:Array Value) (e:TypeId),(execOp a.eval o).run P w= .ok (.value (.slice (J (ad w.heap.size 0)) len len)) (w.alloc (.cells ys e))/\L3 G I N w cs ys.toList:=by
 let ⟨dst,gh,ty,pos,after,guard⟩:=o
 cases gh<;>simp [gA,c7,beq_iff_eq,decide_eq_true_eq] at hc<;>try (cases hc;done)
 rename_i t n parts
 let ⟨⟨⟨rfl,ht⟩,Mk⟩,hz⟩:=hc
 let ⟨e,hu,WJ,hie⟩:=kS ht
 have hsize:(sizeOf e).run P w= .ok sz w:=by simp_all [run_sizeOf]
 simp [hu] at hz;split at hz
 next zs hzs=>
  simp [c7] at hz
  let ⟨hz1,hz2⟩:=hz
  have hzr:L3 G I N w zero zs:=gC _ _ hz1
  let ⟨ys,f1,f2⟩:=oZ (P:=P) hρ parts.toList ps zero cs zs.toArray hz2 V hcs
  refine ⟨ys,e,?_,f2⟩;have hno:¬ n * sz>2 ^ 24:=V
  have aU4:(parts.map λ(i,x)=>(i,a.eval x)).toList=parts.toList.map λ(i,x)=>(i,a.eval x):=U
  by_cases h0:n * sz=0
  .unfold KN at hzs
   rw [if_pos h0] at hzs;simp only [execOp,Instr.buildSlice,Sem.run_bind,run_underlying hu,Result.andThen_ok,hsize,if_neg hno,if_pos h0,Sem.run_pure];have e1:(Array.range (n * sz)).map (λx=>((#[]:Array Value)[x % (#[]:Array Value).size]!))= #[]:=by rw [h0];simp
   rw [e1];simp_all [newRow]
  .unfold KN at hzs
   rw [if_neg h0] at hzs;split at hzs
   .split at hzs
    next z hzz=>
     simp only [Option.some.injEq] at hzs;have hzv:(zeroValue e).run P w= .ok z w:=by simp_all [zeroValue,typeInfo]
     have e1:(Array.range (n * sz)).map (λx=>z.cells[x % z.cells.size]!)=zs.toArray:=by rw [<- hzs]
     simp [execOp,Instr.buildSlice,Sem.run_bind,run_underlying hu,Result.andThen_ok,hsize,if_neg hno,if_neg h0,Sem.run_pure,hzv,aU4,e1,f1];simp [newRow]
    .cases hzs
   .cases hzs
 .cases hz
def WW (h:RI X l S st a w G I N)(hρ:ee ck G I N w a.eval (K4 st.T st.L)){k:Nat}(hk:¬ S k)(bQ:k<O st.L)(entry:Nat){o:Oper}{sz len:Nat}{zero:List c8}{ps:List (Nat×Nat×y7)}
  (hc:gA P ck o (.H6 sz len zero ps F)=W) {v:c8} {rs:List Nat} (hp:o7 (K4 st.T st.L) st.H (.H6 sz len zero ps F)=J (v,rs)) :
  ∃x w' G',(execOp a.eval o).run P w= .ok (.value x) w' /\ez X l S entry st a w G I N (put st k v) k x w' G' I N:=by
 simp [o7] at hp;split at hp
 next cs hcs=>
  split at hp
  next xs hxs=>
   split at hp
   next hl=>
    obtain ⟨rfl,rfl⟩:=hp
    let ⟨ys,e,hrun,hvs⟩:=rO (P:=P) hρ hc hcs
    have hn:=lZ.alloc w (.cells ys e);have hlen:ys.size=len * sz:=by
     have h1:=L3.length _ _ hvs
     grind [jj]
    exact ⟨_,_,_,hrun,ez.fresh h hk bQ entry hn _ (Ts h.wf hn (qG _) hxs hvs (λi v hi=>M) hl.2 (l6 _) V U)⟩
   .cases hp
  .cases hp
 .cases hp
def JU (h:RI X l S st a w G I N)(hρ:ee ck G I N w a.eval (K4 st.T st.L)){k:Nat}(hk:¬ S k)(bQ:k<O st.L)(entry:Nat){A4:Option Nat}(hid:Ld l st N A4){o:Oper}{sz len:Nat}{zero:List c8}
  {ps:List (Nat×Nat×y7)} (hc:gA P ck o (.H6 sz len zero ps W)=W) {cs:List c8} (hcs:cS zero (ps.map λ(o,s,x)=>(o,s,K4 st.T st.L x))=J cs) (hl:O cs=len * sz) :
  ∃x w' G' I' N',(execOp a.eval o).run P w= .ok (.value x) w' /\
   ez X l S entry st a w G I N (put (N7 st A4 (.cells cs)) k (.B8 (newId st A4) sz 0 len)) k x w' G' I' N' /\(∀i,N' i↔N i\/i=newId st A4):=by
 let ⟨ys,e,hrun,hvs⟩:=rO (P:=P) hρ hc hcs
 have hn:=lZ.alloc w (.cells ys e);have hlen:ys.size=len * sz:=by
  have h1:=L3.length _ _ hvs;simp_all
 refine ⟨_,_,_,_,_,hrun,ez.newObj h hk bQ entry hid hn (.cells cs) (Qb h.wf hn hid.new hvs) ?_,λi=>Iff.rfl⟩;simp only [VR];exact ⟨Or.inr trivial,len,U,l6 _,ys,e,(0,0),by simpa using hn.new,D⟩
end
end Go.A1
namespace Go.A1
variable [E5]
section
variable {P:Program} {X:Cx} {l:I7} {S:Nat->Prop} {st:I9} {a:Act} {w w' :World} {G:Gh} {I:U3} {N:Nat->Prop} {i6:Nat->Bool}
theorem RI.U5 (h:RI X l S st a w G I N)(hD:∀j,i6 j=W->S j):ee (X.ck i6) G I N w a.eval (K4 st.T st.L):=by
 intro x y hc;unfold Cx.ck at hc;split at hc
 next t s=>
  have ht:X.names[s]? =J t:=M
  exact (h.T s t ht).K7
 next t j=>
  simp only [c7,beq_iff_eq,p6] at hc;exact (h.L j (hD j hc.1.1) t hc.1.2 hc.2).K7
 next v b=>
  exact (eC v b hc).Wk
 all_goals simp_all [K4,c8.Wk,c8.K7,Act.eval,VR,L3]
theorem zH (st:I9)(y:y7):(E7 st y).2.H=st.H:=by
 simp_all [E7]<;>grind
theorem Fb (st:I9)(y:y7):O (E7 st y).2.L=O st.L:=by
 simp_all [E7]<;>grind
structure Xf (X:Cx)(l:I7)(S:Nat->Prop)(st:I9)(y:y7)(a:Act)(w:World)(G:Gh)(I:U3)(N:Nat->Prop)(pl:Place)(x:Value)(G' :Gh):Prop where
 ri:RI X l S (E7 st y).2 a w G' I N
 val:VR G' I N w pl (E7 st y).1 x
 ext:Ext G w G' w
 keeps:∀id off,cR (.cell id off) G w G' w
 obj:∀b id,G b= .obj id->G' b= .obj id
theorem RI.E7 (h:RI X l S st a w G I N)(hD:∀j,i6 j=W->S j){x:Operand}{y:y7}(hc:X.ck i6 x y=W){pl:Place}(hp:pl≠ .none) :
  ∃G',Xf X l S st y a w G I N pl (a.eval x) G' :=by
 have hρ:=h.U5 hD x y hc;have simple:(A1.E7 st y).2=st->VR G I N w .none (A1.E7 st y).1 (a.eval x)->∃G',Xf X l S st y a w G I N pl (a.eval x) G' :=
  λh1 h2=>⟨G,M,h2.place,Ext.refl _ _,λ_ _ _ _ h=>⟨h,rfl⟩,λ_ _ h=>h⟩
 cases y with
 |slot s=>exact simple rfl hρ
 |const v =>
  refine simple rfl ?_;unfold Cx.ck at hc;split at hc
  .simp_all
  .simp_all
  next v' b heq=>
   cases heq;exact eC _ _ hc
  all_goals simp_all [K4,c8.Wk,c8.K7,A1.E7,VR]
 |loc j =>
  by_cases hown:∃z len cells,st.L[j]? =J (.own z len cells)
  .obtain ⟨z,len,cells,hj⟩:=hown
   unfold Cx.ck at hc;split at hc
   .simp_all
   next t j' heq=>
    cases heq;simp only [c7,beq_iff_eq,p6] at hc;have h1:=h.L j (hD j hc.1.1) t hc.1.2 hc.2;rw [bZ hj] at h1;obtain ⟨G',hm,hv⟩:=kW hp h1;refine ⟨G',?_,?_,hm.ext,λid off=>hm.keeps _ U,hm.obj⟩
    .simp [A1.E7,hj]
     exact h.TS hj hm
    simp_all [A1.E7,Act.eval]
   all_goals simp_all
  .by_cases hnil:st.L[j]? =J .P9
   .have e:A1.E7 st (.loc j)=(.P9,st):=by simp_all [A1.E7]
    refine simple (by rw [e]) ?_;unfold Cx.ck at hc;split at hc
    .simp_all
    next t j' heq=>
     cases heq;simp only [c7,beq_iff_eq,p6] at hc;have h1:=h.L j (hD j hc.1.1) t hc.1.2 hc.2;simp_all [bZ,VR,Act.eval]
    all_goals simp_all
   simp_all [A1.E7,K4,absurd]
theorem run_storeCells_at (b o:Nat)(e:TypeId)(f:Nat×Nat):∀(vs:List Value) (i:Nat) (cur:Array Value) (w:World),w.heap[b]? =J (.cells cur e f)->Qa f cur.size ->
  o+i+O vs<=cur.size->Gq vs->(storeCells (ad b o) vs i).run P w= .ok () (w.setRow b (Q4 cur.toList (o+i) vs).toArray)
 |[],i,cur,w,hg,hf,hl,_=>by
  simp [storeCells,Q4,Nat.add_zero];cases w with
  |mk heap tape drawn os output =>
   simp_all [World.setRow]<;>grind
 |v::rest,i,cur,w,hg,hf,hl,h1=>by
  simp [p8] at hl;have hi:o+i<cur.size:=V
  have hcell:w.cell? (ad b (o+i))=J cur[o+i]:=by rw [X0 hg];simp
  have cE6:w.frozen? (ad b (o+i))=F:=by
   simp [World.frozen?];have:=hf (o+i) hi;simp_all
  have hst:(store ((ad b o).add i) v).run P w= .ok () (w.setRow b (cur.setIfInBounds (o+i) v)):=by
   rw [bX,run_store P w _ v _ (h1 v U),hcell]
   grind [setCell_eq_setRow]
  have ih:=run_storeCells_at b o e f rest (i+1) (cur.setIfInBounds (o+i) v) (w.setRow b (cur.setIfInBounds (o+i) v)) (setRow_heap w b cur _ e f hg) M D (λx hx=>h1 x (by simp [hx]));simp [storeCells,Sem.run_bind,hst,Result.andThen_ok,ih,setRow_setRow];have hlt:o+i<O cur.toList:=V
  simp [Q4,Array.toList_setIfInBounds];rw [show o+(i+1)=o+i+1 from by omega,List.take_succ_eq_append_getElem M,List.drop_set_of_lt V];simp [List.take_set_of_le (l6 _),p8]
  grind
structure tU (id b:Nat)(w w' :World)(G:Gh):Prop where
 nQ:G b= .obj id
 os:w'.os=w.os
 tape:w'.tape=w.tape
 output:w'.output=w.output
 drawn:w.drawn<=w'.drawn
 size:w'.heap.size=w.heap.size
 other:∀b',b' ≠b->w'.heap[b']? =w.heap[b']?
 shape:∀(c:Array Value) (e:TypeId) (f:Nat×Nat),w.heap[b]? =J (Obj.cells c e f)->∃c' :Array Value,w'.heap[b]? =J (Obj.cells c' e f)/\c'.size=c.size
theorem tU.ext {id b:Nat}(h:tU id b w w' G):Ext G w G w' where
 os:=h.os
 tape:=h.tape
 output:=h.output
 drawn _:=h.drawn
 size:=by rw [h.size];omega
 nj b' o hi:=by
  have hne:b' ≠b:=by rintro rfl;simp [kA,h.nQ] at hi
  exact ⟨hi,by simp [World.cell?,h.other b' hne]⟩
 still b' hb:=by
  have hne:b' ≠b:=by rintro rfl;rw [h.nQ] at hb;simp_all
  exact ⟨rfl,h.other b' hne⟩
 shape b' c e f hc:=by
  by_cases hne:b' =b
  .subst hne;exact h.shape c e f hc
  .exact ⟨c,by rw [h.other b' hne];exact hc,rfl⟩
def tU.keeps {id b:Nat}(h:tU id b w w' G)(q:Place):cR q G w G w' :=by
 intro b' n hb;have hne:b' ≠b:=by rintro rfl;rw [h.nQ] at hb;cases hb
 exact ⟨hb,h.other b' hne⟩
def tU.DW {id b:Nat}(h:tU id b w w' G){id' :Nat}(hne:id' ≠id):∀b',G b' = .obj id' ->G b' = .obj id' /\w'.heap[b']? =w.heap[b']? :=by
 intro b' hb;have:b' ≠b:=by rintro rfl;rw [h.nQ] at hb;simp_all
 exact ⟨hb,h.other b' this⟩
def ez.write {D1:Nat->Prop}(h:RI X l S st a w G I N){k:Nat}(hk:¬ S k)(bQ:k<O st.L)(entry:Nat){id b:Nat}(hw:tU id b w w' G){o:y6}{o0:y6}(h0:st.H[id]? =J o0)
  (ho:OR G I N w' id o) (hmay:l.may id=W) (yO:o.L7<=max o0.L7 (id+1)\/(l.base<=id/\l.strict<=id)) (hD:∀i,D1 i↔N i) {v:c8} {x:Value} (hv:VR G I N w' (.loc k) v x) (o9:List Touch) (WK:o9.any (Touch.L5 id)=W) :
  ez X l S entry st a w G I N (put { st with H:=st.H.set id o,o9 } k v) k x w' G I D1:=by
 have hN:∀i,N i->D1 i:=λi hi=>(hD i).2 hi
 refine ⟨⟨?_,?_,?_,λb' hb' =>h.wf b' (by rw [<- hw.size];exact hb'),?_⟩,?_,hw.ext,?_,?_,λ_ _ _=>rfl,hN,by simp [A1.put],?_⟩
 .intro s t ht
  exact VR.mono hw.ext (λ_ _=>rfl) hN _ _ _ (Or.inr (hw.keeps _)) (h.T s t ht)
 .intro j hj d hd hn
  have:k≠j:=by grind
  simp only [A1.put];rw [S9 _ _ _ _ _ this];exact VR.mono hw.ext (λ_ _=>rfl) hN _ _ _ (Or.inr (hw.keeps _)) (h.L j hj d hd hn)
 .intro id' o' ho'
  simp [A1.put] at ho'
  by_cases he:id' =id
  .subst he
   rw [N6 (y5 h0)] at ho';cases ho';exact OR.mono (Ext.refl _ _).sub (λ_ _=>rfl) hN _ _ (λh=>⟨h,rfl⟩) (λ_ _ _ h=>⟨h,rfl⟩) ho
  .rw [D0 (λe=>he e.symm)] at ho'
   exact OR.mono hw.ext (λ_ _=>rfl) hN id' o' (λhb=>hw.DW he _ hb) (λ_=>hw.keeps _) (h.H id' o' ho')
 .intro id' o' ho'
  simp [A1.put] at ho'
  by_cases he:id' =id
  .subst he
   rw [N6 (y5 h0)] at ho';cases ho';obtain ⟨d1,d2⟩:=h.X7 id' _ h0;omega
  .rw [D0 (λe=>he e.symm)] at ho'
   exact h.X7 id' o' ho'
 .simp only [A1.put]
  rw [R4 _ _ _ _ bQ];exact VR.mono (Ext.refl _ _).sub (λ_ _=>rfl) hN _ _ _ (Or.inr (λ_ _ h=>⟨h,rfl⟩)) hv
 .intro id' hm
  have hne:id' ≠id:=by grind
  exact ⟨hw.DW hne,λoff=>hw.keeps _⟩
 .intro id' _ ht
  have hne:id' ≠id:=by grind [A1.put]
  exact ⟨rfl,hw.DW hne⟩
 .grind [A1.put]
end
end Go.A1
namespace Go.A1
variable [E5]
def Rw (l:List c8)(off:Nat)(vs:List c8)(h:off+O vs<=O l)(i:Nat) :
  (splice l off vs)[i]? =if i<off then l[i]? else if i<off+O vs then vs[i - off]? else l[i]? :=by
 unfold splice
 grind
def rS (l:List Value)(off:Nat)(vs:List Value)(h:off+O vs<=O l)(i:Nat) :
  (Q4 l off vs)[i]? =if i<off then l[i]? else if i<off+O vs then vs[i - off]? else l[i]? :=by
 unfold Q4
 grind
def rU (l:List Value)(off:Nat)(vs:List Value)(h:off+O vs<=O l):O (Q4 l off vs)=O l:=by
 grind [Q4]
def RA (l:List c8)(off:Nat)(vs:List c8)(h:off+O vs<=O l):O (splice l off vs)=O l:=by
 grind [splice]
theorem jf:∀(a b:List c8),C5 (a++b)=max (C5 a) (C5 b)
 |[],b=>by simp [C5]
 |v::vs,b=>by simp only [A8,C5,jf vs b];omega
theorem yw:∀(n:Nat) (a:List c8),C5 (a.take n)<=C5 a
 |0,a=>by simp [C5]
 |n+1,[]=>U
 |n+1,v::vs=>by have:=yw n vs;grind [C5]
theorem yu:∀(n:Nat) (a:List c8),C5 (a.drop n)<=C5 a
 |0,a=>U
 |n+1,[]=>U
 |n+1,v::vs=>by have:=yu n vs;grind [C5]
theorem zS (l:List c8)(off:Nat)(vs:List c8):C5 (splice l off vs)<=max (C5 l) (C5 vs):=by
 grind [splice,jf,yw,yu]
section
variable {P:Program} {X:Cx} {l:I7} {S:Nat->Prop} {st:I9} {a:Act} {w w' :World} {G:Gh} {I:U3} {N:Nat->Prop} {i6:Nat->Bool}
def Yw {v:c8}{cs:List c8}(hv:v.cells? =J cs){id off:Nat}{x:Value}(h:VR G I N w (.cell id off) v x) :
  x.cells.size=O cs/\Gq x.cells.toList/\∀(i:Nat) c,cs[i]? =J c->∃u,x.cells.toList[i]? =J u/\VR G I N w (.cell id (off+i)) c u:=by
 unfold c8.cells? at hv;split at hv
 .split at hv
  next hall=>
   simp at hv;subst hv;obtain ⟨xs,rfl,h2⟩:=h;refine ⟨by simpa [Value.cells] using L3.length _ _ h2,pO _ _ hall h2,λi c hc=>?_⟩;obtain ⟨u,g1,g2⟩:=L3.get _ _ h2 i c hc;exact ⟨u,g1,g2.place⟩
  .cases hv
 .split at hv
  next hone=>
   simp at hv;subst hv;obtain ⟨h1,h2⟩:=oa hone h;rw [h2];refine ⟨rfl,λu hu=>?_,λi c hc=>?_⟩
   all_goals grind
  .cases hv
def ez.pre {entry:Nat}{st1 st' :I9}{G1 G' :Gh}{I' :U3}{N' :Nat->Prop}{k:Nat}{x:Value}(hx:Ext G w G1 w)(hk:∀id off,cR (.cell id off) G w G1 w)(ho:∀b id,G b= .obj id->G1 b= .obj id)
  (hH:st1.H=st.H) (h:ez X l S entry st1 a w G1 I N st' k x w' G' I' N'):ez X l S entry st a w G I N st' k x w' G' I' N' where
 ri:=h.ri
 val:=h.val
 ext:=hx.trans h.ext
 gj:=nr.trans (λid _=>⟨λb hb=>⟨ho b id hb,rfl⟩,hk id⟩) h.gj
 ko id hN ht:=by
  obtain ⟨h1,h2⟩:=h.ko id hN ht;simp_all
 inj:=h.inj
 mono:=h.mono
 len:=by rw [<- hH];exact h.len
 hle id o' hb ho' :=by
  have:=h.hle id o' hb ho';simp_all
def Ie {id b:Nat}{c:Array Value}{e:TypeId}{f:Nat×Nat}(hb:w.heap[b]? =J (.cells c e f))(hl:G b= .obj id){c' :Array Value}(hs:c'.size=c.size):tU id b w (w.setRow b c') G where
 nQ:=hl
 os:=rfl
 tape:=rfl
 output:=rfl
 drawn:=l6 _
 size:=U
 other b' hne:=setRow_other w b b' c' hne
 shape c0 e0 f0 h0:=by
  grind [setRow_heap]
def GA {id:Nat}{l0:List c8}{off:Nat}{cs:List c8}{c:Array Value}{e:TypeId}{f:Nat×Nat}(hN:N id)(hb:w.heap[(I id).1]? =J (.cells c e f))(WG:G (I id).1= .obj id)(hf:Qa f c.size)
  (hsz:(I id).2+O l0<=c.size) (hold:∀(i:Nat) x,l0[i]? =J x->∃v,c[(I id).2+i]? =J v/\VR G I N w (.cell id i) x v)
  (hfit:off+O cs<=O l0) {vs:List Value} (hlen:O vs=O cs) (hnew:∀(i:Nat) x,cs[i]? =J x->∃u,vs[i]? =J u/\VR G I N w (.cell id (off+i)) x u) :
  OR G I N (w.setRow (I id).1 (Q4 c.toList ((I id).2+off) vs).toArray) id (.cells (splice l0 off cs)) /\
   tU id (I id).1 w (w.setRow (I id).1 (Q4 c.toList ((I id).2+off) vs).toArray) G:=by
 have GV :(I id).2+off+O vs<=O c.toList:=D
 have hsize:(Q4 c.toList ((I id).2+off) vs).toArray.size=c.size:=by simp_all [rU]
 have hw:=Ie (G:=G) hb WG hsize;refine ⟨?_,hw⟩;refine ⟨hN,_,e,f,setRow_heap w _ c _ e f hb,WG,M,by simp_all [RA],λi x hx=>?_⟩;rw [Rw _ _ _ hfit] at hx;have hg:(Q4 c.toList ((I id).2+off) vs).toArray[(I id).2+i]? =(Q4 c.toList ((I id).2+off) vs)[(I id).2+i]? :=U
 rw [hg,rS _ _ _ GV];have mono:∀{pl:Place} {x:c8} {v:Value},VR G I N w pl x v->VR G I N (w.setRow (I id).1 (Q4 c.toList ((I id).2+off) vs).toArray) pl x v :=
  λh=>VR.mono hw.ext (λ_ _=>rfl) (λ_ h=>h) _ _ _ (Or.inr (hw.keeps _)) h
 by_cases h1:i<off
 .grind
 .all_goals grind
theorem HR.wr {H H' :q6}(hH:HR G I N w H){id off:Nat}{cs:List c8}(h:wr H id off cs=J H') :
  ∃l0 c e f,H[id]? =J (.cells l0)/\H' =H.set id (.cells (splice l0 off cs))/\off+O cs<=O l0/\N id/\w.heap[(I id).1]? =J (.cells c e f)/\G (I id).1= .obj id/\Qa f c.size /\
   (I id).2+O l0<=c.size/\∀(i:Nat) x,l0[i]? =J x->∃v,c[(I id).2+i]? =J v/\VR G I N w (.cell id i) x v:=by
 unfold A1.wr at h;split at h
 next l0 hl=>
  split at h
  .have ho:=hH id _ hl
   simp_all [OR]
  .cases h
 .cases h
def CN (P:Program)(ck:Operand->y7->Bool)(o:Oper)(op:x9):Bool :=
 match o.op,op with
 | .store t x y,.store n x' y' =>ck x x' &&ck y y' &&P.cellsOf t==n&&(P.info? t).isSome&&decide (0<n)
 |_,_=>F
def Wp (h:RI X l S st a w G I N)(hD:∀j,i6 j=W->S j){k:Nat}(hk:¬ S k)(bQ:k<O st.L)(entry:Nat){o:Oper}{n:Nat}{x y:y7}(hc:CN P (X.ck i6) o (.store n x y)=W){E:Env}(hE:E.lim=l)
  {st' :I9} (he:U2 E k n st (K4 st.T st.L x) y=J st'):∃w' G',(execOp a.eval o).run P w= .ok .skip w' /\ez X l S entry st a w G I N st' k undef w' G' I N:=by
 obtain ⟨dst,gh,ty,pos,after,guard⟩:=o;cases gh<;>simp [CN,c7,beq_iff_eq] at hc<;>try (cases hc;done)
 rename_i t x' y';obtain ⟨⟨⟨⟨hx,hy⟩,hn⟩,hi⟩,hpos⟩:=hc;have h1:=h.U5 hD _ _ hx;unfold U2 at he;split at he
 next id off hp=>
  rw [hp] at h1;simp [VR] at h1;split at he
  next cs hcs=>
   split at he
   .split at he
    next H' hH'=>
     obtain ⟨G1,hX⟩:=h.E7 hD hy (pl:= .cell id off) U;obtain ⟨c1,c2,c3⟩:=Yw hcs hX.val;obtain ⟨l0,c,e,f,g1,g2,g3,g4,g5,g6,g7,g8,g9⟩:=hX.ri.H.wr hH';obtain ⟨hO,hW⟩:=GA g4 g5 g6 g7 g8 g9 g3 (vs:=(a.eval y').cells.toList) V c3;have hrun:(storeCells (ad (I id).1 ((I id).2+off)) (a.eval y').cells.toList).run P w= .ok () (w.setRow (I id).1 (Q4 c.toList ((I id).2+off) (a.eval y').cells.toList).toArray):=by
      grind [run_storeCells_at]
     have hs:(sizeOf t).run P w= .ok n w:=by simp_all [run_sizeOf]
     have hsz:¬ ((a.eval y').cells.size≠n):=V
     have yO:(y6.cells (splice l0 off cs)).L7<=max (y6.cells l0).L7 (id+1)\/(l.base<=id/\l.strict<=id):=by
      grind [zS,y6.L7]
     have hM:=ez.write (D1:=N) hX.ri hk (by grind [Fb]) entry hW g1 hO M yO (λ_=>Iff.rfl) (v:= .any) (x:=undef) (by simp [VR]) (.obj id::(E7 st y).2.o9) (by simp [Touch.L5]);refine ⟨w.setRow (I id).1 (Q4 c.toList ((I id).2+off) (a.eval y').cells.toList).toArray,G1,?_,?_⟩
     .simp_all [execOp,Instr.storeAt,Instr.sureAddr,storeVar,Sem.run_bind,Sem.run_pure,Result.andThen_ok,if_neg]
     .have:=ez.pre (st:=st) hX.ext hX.keeps hX.obj (zH st y) hM
      simp_all
    .cases he
   .cases he
  .cases he
 .cases he
end
end Go.A1
namespace Go.A1
variable [E5]
structure PV (X:Cx)(l5:List p7)(S:Nat->Prop)(st:I9)(a:Act)(w:World)(I:U3):Prop where
 slot:∀(j:Nat) ai s t d,S j->st.L[j]? ≠J (.tuple [])->l5[j]? =J ai->ai.op=x9.Q5 (.slot s)->X.names[s]? =J t->(X.ops[j]?).bind (·.dst)=J d->X.names.contains d=F ->
  st.o9.any (Touch.V5 s)=F->a.tmps.getD d undef=a.tmps.getD t undef
 cell:∀(j:Nat) ai x id off d l0,S j->st.L[j]? ≠J (.tuple [])->l5[j]? =J ai->ai.op=x9.load K x->cA st x=J (id,off)->st.H[id]? =J (.cells l0)->off<O l0 ->
  st.o9.any (Touch.dD id off)=F->(X.ops[j]?).bind (·.dst)=J d->X.names.contains d=F->w.cell? (ad (I id).1 ((I id).2+off))=J (a.tmps.getD d undef)
structure Tk (X:Cx)(l:I7)(S:Nat->Prop)(st st1:I9)(a:Act)(w:World)(G:Gh)(I:U3)(N:Nat->Prop)(k:Nat)(v:c8)(x:Value)(G1:Gh):Prop where
 ri:RI X l S st1 a w G1 I N
 val:VR G1 I N w (.loc k) v x
 ext:Ext G w G1 w
 gj:nr l G w G1 w
 obj:∀b id:Nat,G b= .obj id->G1 b= .obj id
 len:O st1.H=O st.H
 L:O st1.L=O st.L
 o9:∀p,st.o9.any p=W->st1.o9.any p=W
 hle:∀(id:Nat) (o' :y6),st1.H[id]? =J o' ->∃o:y6,st.H[id]? =J o/\o'.L7<=o.L7
section
variable {P:Program} {X:Cx} {l:I7} {S:Nat->Prop} {st:I9} {a:Act} {w w' :World} {G:Gh} {I:U3} {N:Nat->Prop} {i6:Nat->Bool} {l5:List p7}
def ug (h:RI X l S st a w G I N)(hpv:PV X l5 S st a w I)(hT:O st.T=O X.names)(hD:∀j,i6 j=W->S j){k:Nat}(hk:¬ S k){x:Operand}{y:y7}(hc:X.ck i6 x y=W){sz len:Nat}
  {cells:List Data} {st1:I9} (ht:R8 l l5 st sz y=J (len,cells,st1)):∃G1,Tk X l S st st1 a w G I N k (.own sz len cells) (a.eval x) G1:=by
 unfold R8 at ht;split at ht
 .split at ht
  next hz=>
   subst hz;simp at ht;obtain ⟨rfl,rfl,rfl⟩:=ht;refine ⟨G,h,?_,Ext.refl _ _,nr.refl _ _ _,λ_ _ h=>h,rfl,rfl,λ_ h=>h,λ_ o h=>⟨o,h,l6 _⟩⟩;unfold Cx.ck at hc;split at hc
   .simp_all
   .simp_all
   next v' b heq=>
    cases heq;exact (eC _ _ hc).place
   all_goals simp_all
  .cases ht
 .cases ht
 .cases ht
 next j=>
  have aU0:∃t,x= .tmp t/\i6 j=W/\(X.ops[j]?).bind (·.dst)=J t/\X.names.contains t=F:=by
   simp_all [Cx.ck]<;>grind
  obtain ⟨t,rfl,hDj,Dt,Mg⟩:=aU0;have hSj:=hD j hDj;have hjk:j≠k:=by grind
  split at ht
  next z len' cells' hj=>
   split at ht
   next hz=>
    subst hz;simp at ht;obtain ⟨rfl,rfl,rfl⟩:=ht;have h1:=h.L j hSj t Dt Mg;rw [bZ hj] at h1;obtain ⟨G',hm,hv⟩:=kW (Av := .loc k) U h1;exact ⟨G',h.TS hj hm,hv,hm.ext,λid _=>⟨λb hb=>⟨hm.obj b id hb,rfl⟩,λoff=>hm.keeps _ U⟩,hm.obj,rfl,U,λ_ h=>h,λ_ o h=>⟨o,h,l6 _⟩⟩
   .cases ht
  next cJ0 bR2 hj=>
   split at ht
   next ai hai=>
    unfold Z3 at ht;split at ht
    next s hop=>
     split at ht
     .cases ht
     .split at ht
      next z len' cells' hs=>
       split at ht
       next hz=>
        simp at ht;obtain ⟨rfl,rfl,rfl⟩:=ht;obtain ⟨ts,hts⟩:∃ts,X.names[s]? =J ts:=by
         grind
        have h1:=h.T s ts hts;rw [bZ hs] at h1;have he:=hpv.slot j ai s ts t hSj (by rw [hj];simp) hai hop hts Dt Mg M;obtain ⟨G',hm,hv⟩:=kW (Av := .loc k) U h1;refine ⟨G',h.ak6 hs _ hm,?_,hm.ext,λid _=>⟨λb hb=>⟨hm.obj b id hb,rfl⟩,λoff=>hm.keeps _ U⟩,hm.obj,rfl,rfl,λp hp=>M,λ_ o h=>⟨o,h,l6 _⟩⟩;simp_all [Act.eval]
       .cases ht
      .cases ht
    next x' hop=>
     split at ht
     next id off ay1=>
      split at ht
      .cases ht
      next hun=>
       simp only [Bool.or_eq_true,p6,not_or,Bool.not_eq_true,Bool.not_eq_false] at hun;split at ht
       next cs hcs=>
        split at ht
        next z len' cells' hco=>
         split at ht
         next hz=>
          simp at ht;obtain ⟨rfl,rfl,rfl⟩:=ht;have hO:=h.H id _ hcs;obtain ⟨hN,c,e,f,g1,g2,g3,g4,g5⟩:=hO
          .obtain ⟨v,e1,e2⟩:=g5 off _ hco
           have he:=hpv.cell j ai x' id off t cs hSj (by rw [hj];simp) hai hop ay1 hcs (y5 hco) hun.1 Dt Mg;rw [X0 g1,e1] at he;obtain ⟨G',hm,hv⟩:=kW (Av := .loc k) U e2;refine ⟨G',h.ak5 hcs hco _ hm,?_,hm.ext,λid' cE8 =>⟨λb hb=>⟨hm.obj b id' hb,rfl⟩,λoff' =>hm.keeps _ ?_⟩,hm.obj,U,rfl,λp hp=>M,λid' o' ho' =>?_⟩
           .simp_all [Act.eval]
           .grind
           .by_cases hee:id' =id
            .grind [N6,y5,y6.L7,oQ]
            grind
         .cases ht
        .cases ht
       .cases ht
     .cases ht
    .cases ht
   .cases ht
  .cases ht
def XA (P:Program)(t:TypeId):Bool :=
 match P.underlying t with
 |some (.slice _)=>W
 |some .string=>W
 |_=>F
def ja {t t2 e ty:TypeId}{i:TypeInfo}(hu:P.underlying t=J (.slice e))(hi:P.info? e=J i)(ht2:XA P t2=W)
  {base:Option Addr} {sLen sCap m:Nat} {x:Value} (hl:(Builtin.lenOf x).run P w= .ok m w) {nw:Array Value}
  (hnew:(Builtin.firstCells i.size m x).run P w= .ok nw w) (hle:sLen+m<=sCap):(Builtin.append_ #[t,t2] ty #[.slice base sLen sCap,x]).run P w =
   (match base with
    |some a=>((storeCells (a.add (sLen * i.size)) nw.toList).run P w).andThen λ_ w' => .ok (.slice base (sLen+m) sCap) w'
    |none=> .ok (.slice base (sLen+m) sCap) w):=by
 unfold XA at ht2;split at ht2
 next e2 h2=>
  cases base<;>simp [Builtin.append_,run_underlying hu,sizeOf,typeInfo,hi,run_underlying h2,hl,hnew,hle]
 next h2=>
  cases base<;>simp [Builtin.append_,run_underlying hu,sizeOf,typeInfo,hi,run_underlying h2,hl,hnew,hle]
 .cases ht2
def Gd (need old:Nat)(e:TypeId)(t:Nat):need<=(Question.appendCap need old e).cut t:=by
 simp [Question.cut]
def lu {t t2 e ty:TypeId}{i:TypeInfo}{z:Value}(hu:P.underlying t=J (.slice e))(hi:P.info? e=J i)(hz:i.zero=J z)(ht2:XA P t2=W)
  {base:Option Addr} {sLen sCap m:Nat} {x:Value} (hl:(Builtin.lenOf x).run P w= .ok m w) {nw old:Array Value}
  (hnew:(Builtin.firstCells i.size m x).run P w.drew= .ok nw w.drew) (hold:(Builtin.firstCells i.size sLen (.slice base sLen sCap)).run P w.drew= .ok old w.drew) (hgt:sCap<sLen+m)
  (h63:((sLen+m:Nat):Int)<=9223372036854775807) (hfit:Builtin.nextslicecap (sLen+m) sCap * i.bytes<=281474976710656) :
  ∃cap,sLen+m<=cap/\(Builtin.append_ #[t,t2] ty #[.slice base sLen sCap,x]).run P w =
   .ok (.slice (J (ad w.heap.size 0)) (sLen+m) cap) (w.drew.alloc (.cells (old++nw++Builtin.zeroCells z.cells (cap - (sLen+m))) e)):=by
 refine ⟨(Question.appendCap (sLen+m) sCap e).cut (w.tape w.drawn (.appendCap (sLen+m) sCap e)),Gd _ _ _ _,?_⟩;have hn:¬ (sLen+m<=sCap):=V
 have h63' :¬ (9223372036854775807<((sLen:Int)+(m:Int))):=V
 have bl5 :¬ (281474976710656<Builtin.nextslicecap (sLen+m) sCap * i.bytes):=V
 unfold XA at ht2;split at ht2
 next e2 h2=>
  simp [Builtin.append_,run_underlying hu,sizeOf,typeInfo,hi,run_underlying h2,hl,hn,h63',bl5,Question.forced,hnew,hold,zeroValue,hz,newRow]
 next h2=>
  simp [Builtin.append_,run_underlying hu,sizeOf,typeInfo,hi,run_underlying h2,hl,hn,h63',bl5,Question.forced,hnew,hold,zeroValue,hz,newRow]
 .cases ht2
end
end Go.A1
namespace Go.A1
variable [E5]
section
variable {P:Program} {X:Cx} {l:I7} {S:Nat->Prop} {st:I9} {a:Act} {w w' :World} {G:Gh} {I:U3} {N:Nat->Prop} {i6:Nat->Bool} {l5:List p7}
theorem nB {w w2:World}(h:w2.heap=w.heap)(x:Addr):w2.cell? x=w.cell? x:=by simp [World.cell?,h]
def gG (x:Addr)(w:World):(loadCells x 0).run P w= .ok #[] w:=by rfl
def zx {H:q6}(hH:HR G I N w H){y:c8}{x:Value}(hv:VR G I N w .none y x){sz m:Nat}(hsz:0<sz){cs:List c8}(h:Q3 H sz y=J (m,cs)) :
  ∃vs:List Value,(Builtin.lenOf x).run P w= .ok m w/\(∀w2:World,w2.heap=w.heap->(Builtin.firstCells sz m x).run P w2= .ok vs.toArray w2)/\L3 G I N w cs vs/\O cs=m * sz:=by
 unfold Q3 at h;split at h
 next len cells=>
  split at h
  .simp at h;obtain ⟨rfl,rfl⟩:=h
   rcases hv with ⟨rfl|⟨a0,rfl⟩,rfl,rfl⟩|⟨b,o,cap,rfl,h2,h3⟩
   .simp_all [Builtin.lenOf,Builtin.firstCells,L3]
   .simp_all [Builtin.lenOf,Builtin.firstCells,gG,L3]
   .obtain ⟨vs,g1,g2,g3⟩:=gq.vals (I:=I) (N:=N) o cells h3
    refine ⟨vs,by rfl,λw2 hw2=>?_,g3,M⟩;have:=run_loadCells_list (P:=P) w2 (ad b o) vs (λj v hj=>by grind [bX,nB]);simp_all [Builtin.firstCells]
  .cases h
 next z len cells=>
  split at h
  next hz=>
   subst hz;simp at h;obtain ⟨rfl,rfl⟩:=h;have h0:=hv.K7 (Av := .none);simp only [VR] at hv
   rcases h0 with ⟨rfl|⟨a0,rfl⟩,rfl,rfl⟩|⟨b,o,cap,rfl,h2,h3⟩
   .simp_all [Builtin.lenOf,Builtin.firstCells,L3]
   .simp_all [Builtin.lenOf,Builtin.firstCells,gG,L3]
   .obtain ⟨vs,g1,g2,g3⟩:=gq.vals (I:=I) (N:=N) o cells h3
    refine ⟨vs,by rfl,λw2 hw2=>?_,g3,M⟩;have:=run_loadCells_list (P:=P) w2 (ad b o) vs (λj v hj=>M);simp_all [Builtin.firstCells]
  .cases h
 next id z lo len=>
  split at h
  next hz=>
   subst hz;split at h
   next us hus=>
    simp at h;obtain ⟨rfl,rfl⟩:=h;obtain ⟨_,cap,rfl,_⟩:=hv
    by_cases h0:len * z=0
    .have hlen:us=[]:=by
      grind [rd]
     simp_all [Builtin.lenOf,L3,Builtin.firstCells,gG]
    .obtain ⟨_,xs,g1,g2,g3,g4⟩:=hH.rd hus V
     refine ⟨xs,by rfl,λw2 hw2=>?_,U4 _ _ (by simp [g1,g2]) λj b v hj hv=>?_,M⟩
     .have:=run_loadCells_list (P:=P) w2 (ad (I id).1 ((I id).2+lo)) xs (λj v hj=>by grind [bX,nB])
      simp_all [Builtin.firstCells]
     .simp at hj
      obtain ⟨b',hb',rfl⟩:=hj;exact (g4 j b' v hb' hv).K7
   .cases h
  .cases h
 next s=>
  split at h
  next hz=>
   subst hz;simp at h;obtain ⟨rfl,rfl⟩:=h;subst hv;have hsize:(⟨s.toArray⟩:ByteArray).size=O s:=by rfl
   refine ⟨s.map λb=> .int .u8 b.toNat,by rfl,λw2 _=>?_,U4 _ _ U λj b v hj hv=>?_,U⟩
   .simp [Builtin.firstCells]
   grind [VR,DR]
  .cases h
 .cases h
def LY {b n n' :Nat}{pl:Place}(hl:G b= .grow n pl)(hn:n<=n'){c:Array Value}{e:TypeId}{f:Nat×Nat}(hb:w.heap[b]? =J (.cells c e f)){c' :Array Value}(hs:c'.size=c.size)
  (hc:∀i,i<n->c'[i]? =c[i]?):Ext G w (kH G b (.grow n' pl)) (w.setRow b c') where
 os:=rfl
 tape:=rfl
 output:=rfl
 drawn _:=l6 _
 size:=U
 nj b' o hi:=by
  by_cases he:b' =b
  .subst he
   have ho:o<n:=by simp_all [kA]
   refine ⟨by simp [kA];omega,?_⟩;rw [X0 (setRow_heap w b' c c' e f hb),X0 hb];exact hc o ho
  simp_all [kA,M5,World.cell?,setRow_other]
 still b' hb' :=by
  grind [M5,setRow_other]
 shape b' c0 e0 f0 h0:=by
  grind [setRow_heap,setRow_other]
def pF {b n n' :Nat}{pl q:Place}(hl:G b= .grow n pl)(hq:q≠pl)(c' :Array Value):cR q G w (kH G b (.grow n' pl)) (w.setRow b c'):=by
 intro b' m hb'
 grind [M5,setRow_other]
def yN {b n n' :Nat}{pl:Place}(hl:G b= .grow n pl)(c' :Array Value)(id:Nat):∀b',G b' = .obj id->(kH G b (.grow n' pl)) b' = .obj id/\(w.setRow b c').heap[b']? =w.heap[b']? :=by
 grind [M5,setRow_other]
theorem ez.grow (h:RI X l S st a w G I N){k:Nat}(hk:¬ S k)(bQ:k<O st.L)(entry:Nat){b n n' :Nat}(hl:G b= .grow n (.loc k))(hn:n<=n'){c:Array Value}{e:TypeId}{f:Nat×Nat}
  (hb:w.heap[b]? =J (.cells c e f)) {c' :Array Value} (hs:c'.size=c.size) (hc:∀i,i<n->c'[i]? =c[i]?) {v:c8} {x:Value} (hv:VR (kH G b (.grow n' (.loc k))) I N (w.setRow b c') (.loc k) v x) :
  ez X l S entry st a w G I N (put st k v) k x (w.setRow b c') (kH G b (.grow n' (.loc k))) I N:=by
 have hx:=LY hl hn hb hs hc;refine ⟨⟨?_,?_,?_,?_,h.X7⟩,?_,hx,λid _=>⟨yN hl c' id,λoff=>pF hl U c'⟩,λid _ _=>⟨rfl,yN hl c' id⟩,λ_ _ _=>rfl,λ_ h=>h,l6 _,λ_ o _ ho=>Or.inr ⟨o,ho,l6 _⟩⟩
 .intro s t ht
  exact VR.mono hx (λ_ _=>rfl) (λ_ h=>h) _ _ _ (Or.inr (pF hl U c')) (h.T s t ht)
 .intro j hj d hd hn
  have:k≠j:=by grind
  simp only [A1.put];rw [S9 _ _ _ _ _ this];exact VR.mono hx (λ_ _=>rfl) (λ_ h=>h) _ _ _ (Or.inr (pF hl (by grind) c')) (h.L j hj d hd hn)
 .intro id o ho
  exact OR.mono hx (λ_ _=>rfl) (λ_ h=>h) id o (λhb=>yN hl c' id _ hb) (λoff=>pF hl U c') (h.H id o ho)
 .intro b' hb'
  simp at hb';have hne:b' ≠b:=by grind
  rw [M5 hne];exact h.wf b' hb'
 simp_all [A1.put,R4]
theorem qN:∀(xs:List Data),P7 (xs.map .d)=J xs
 |[]=>rfl
 |x::xs=>by simp [P7,c8.data?,qN xs]
def ez.aB0 {entry:Nat}{st1 st' :I9}{G1 G' :Gh}{I' :U3}{N' :Nat->Prop}{k:Nat}{x y:Value}{v:c8}(ht:Tk X l S st st1 a w G I N k v y G1)
  (h:ez X l S entry st1 a w G1 I N st' k x w' G' I' N'):ez X l S entry st a w G I N st' k x w' G' I' N' where
 ri:=h.ri
 val:=h.val
 ext:=ht.ext.trans h.ext
 gj:=nr.trans ht.gj h.gj
 ko id hN hh:=by
  obtain ⟨h1,h2⟩:=h.ko id hN hh;exact ⟨h1,λb hb=>h2 b (ht.obj b id hb)⟩
 inj:=h.inj
 mono:=h.mono
 len:=by rw [<- ht.len];exact h.len
 hle id o' hb ho' :=by
  rcases h.hle id o' hb ho' with h1|⟨o,h1,h2⟩
  .omega
  .obtain ⟨o2,h3,h4⟩:=ht.hle id o h1
   grind
def kB (P:Program)(ck:Operand->y7->Bool)(o:Oper)(op:x9):Bool :=
 match o.op,op with
 | .call ⟨.builtin .append,args,argTypes⟩,.append sz bytes _ x' y' =>
  (match args.toList,argTypes.toList with
   |[x,y],[t,t2]=>ck x x' &&ck y y' &&XA P t2&&decide (0<sz)&&(match P.underlying t with
    |some (.slice e)=>(match P.info? e with
     |some i=>i.size==sz&&i.bytes==bytes&&decide (0<bytes)&&(match i.zero with|some z=>z.cells.size==sz|none=>F)
     |none=>F)
    |_=>F)
   |_,_=>F)
 |_,_=>F
def jE {ck:Operand->y7->Bool}{o:Oper}{sz bytes:Nat}{ob:Bool}{x' y' :y7}(h:kB P ck o (.append sz bytes ob x' y')=W) :
  ∃x y t t2 e i z,o.op= .call ⟨.builtin .append,#[x,y],#[t,t2]⟩/\ck x x' =W/\ck y y' =W/\XA P t2=W/\0<sz/\P.underlying t=J (.slice e)/\P.info? e=J i/\i.size=sz/\i.bytes=bytes/\i.zero=J z/\z.cells.size=sz/\0<bytes:=by
 unfold kB at h;split at h
 next args argTypes sz' bytes' ob' x1 y1 qV lU=>
  cases lU;split at h
  next x y t t2 ha ht=>
   simp [c7,decide_eq_true_eq] at h;obtain ⟨⟨⟨⟨h1,h2⟩,h3⟩,h4⟩,h5⟩:=h;split at h5
   next e he=>
    split at h5
    next i hi=>
     simp [c7,beq_iff_eq,decide_eq_true_eq] at h5;obtain ⟨⟨⟨h6,h7⟩,h9⟩,h8⟩:=h5;split at h8
     next z hz=>
      refine ⟨x,y,t,t2,e,i,z,?_,h1,h2,h3,h4,he,hi,h6,h7,hz,M,h9⟩;simp_all<;>grind
     .cases h8
    .cases h5
   .cases h5
  .cases h
 .cases h
end
end Go.A1
namespace Go.A1
variable [E5]
section
variable {P:Program} {X:Cx} {l:I7} {S:Nat->Prop} {st:I9} {a:Act} {w w' :World} {G:Gh} {I:U3} {N:Nat->Prop} {i6:Nat->Bool} {l5:List p7}
def zj {n bytes old:Nat}(h:roomFor n bytes=W)(hlt:old<n):Builtin.nextslicecap n old * bytes<=281474976710656:=by
 have h1:(2 * n+512) * bytes<=281474976710656:=by grind [roomFor]
 have h2:=nextslicecap_le hlt;exact C9 (Nat.mul_le_mul_right _ V) h1
def Kj {n bytes:Nat}(h:roomFor n bytes=W)(hb:0<bytes):((n:Nat):Int)<=9223372036854775807:=by
 have h1:(2 * n+512) * bytes<=281474976710656:=by grind [roomFor]
 have h2:(2 * n+512) * 1<=(2 * n+512) * bytes:=Nat.mul_le_mul_left _ hb;omega
def au3 (hwf:WF G w){e:TypeId}{c:Array Value}(hn:lZ w w' (.cells c e)){xs ys:List Data}{vo vn:List Value}(ho:L3 G I N w (xs.map .d) vo)(hy:L3 G I N w (ys.map .d) vn){rest:Array Value}
  (hc:c=vo.toArray++vn.toArray++rest) {sz n cap:Nat} (hl:O (xs++ys)=n * sz) (hcap:n<=cap) (hsz:cap * sz<=c.size) {pl:Place} (hp:pl≠ .none) :
  VR (kH G w.heap.size (.grow (n * sz) pl)) I N w' pl (.own sz n (xs++ys)) (.slice (J (ad w.heap.size 0)) n cap):=by
 refine Ts hwf hn (qG _) (qN (xs++ys)) (vs:=vo++vn) (by simp_all [List.map_append,L3.append]) (λi v hi=>?_) hl hcap hsz hp
 grind
def Cl (z:Array Value)(n:Nat):(Builtin.zeroCells z n).size=n * z.size:=by simp [Builtin.zeroCells]
def Qv (h:RI X l S st a w G I N)(hpv:PV X l5 S st a w I)(hT:O st.T=O X.names)(hD:∀j,i6 j=W->S j){k:Nat}(hk:¬ S k)(bQ:k<O st.L)(entry:Nat){o:Oper}{sz bytes:Nat}{x y:y7}
  (hc:kB P (X.ck i6) o (.append sz bytes F x y)=W) {E:Env} (hE:E.lim=l) {A4:Option Nat} {st' :I9} (he:Q1 E l5 A4 k sz bytes F st x (K4 st.T st.L y)=J st') :
  ∃v w' G',(execOp a.eval o).run P w= .ok (.value v) w' /\ez X l S entry st a w G I N st' k v w' G' I N:=by
 obtain ⟨x0,y0,t,t2,e,i,z,hop,XZ,hcy,ht2,hsz,hu,hi,hsi,hbi,hz,hzs,hbp⟩:=jE hc;unfold Q1 at he;rw [hE] at he;split at he
 next m cs hcs=>
  simp only [j4,if_false] at he;split at he
  next new hnew=>
   split at he
   next len cells st1 htk=>
    split at he
    next hroom=>
     simp at he;subst he;obtain ⟨vn,hl,hf,hvn,hcl⟩:=zx (P:=P) h.H (h.U5 hD _ _ hcy) hsz hcs;obtain ⟨G1,LZ⟩:=ug h hpv hT hD hk XZ htk;have hdn:=jj cs new vn hnew hvn;have bY8 :L3 G I N w (new.map .d) vn:=by
      grind [U4,L3.length,A7,VR]
     have aV0:L3 G1 I N w (new.map .d) vn:=L3.mono LZ.ext (λ_ _=>rfl) (λ_ h=>h) _ _ bY8;have bo2:O new=m * sz:=V
     have GZ:O vn=m * sz:=by grind [L3.length]
     have Ae:(execOp a.eval o).run P w=((Builtin.append_ #[t,t2] o.type #[a.eval x0,a.eval y0]).run P w).andThen λv w' => .ok (.value v) w' :=by
      simp_all [guard,execOp,resolve,invoke,builtin]
     have hval:=LZ.val;simp only [VR] at hval;obtain ⟨hcells,hval⟩:=hval;subst hsi hbi;have out:∀base sCap,a.eval x0= .slice base len sCap->sCap<len+m->(∃vo:List Value,(∀w2:World,w2.heap=w.heap->(Builtin.firstCells i.size len (.slice base len sCap)).run P w2= .ok vo.toArray w2)/\L3 G1 I N w (cells.map .d) vo) ->
       ∃v w' G',(execOp a.eval o).run P w= .ok (.value v) w' /\ez X l S entry st a w G I N (put st1 k (.own i.size (len+m) (cells++new))) k v w' G' I N:=by
      rintro base sCap hx hlt ⟨vo,ho1,ho2⟩;obtain ⟨cap,hcap,hrun⟩:=lu (P:=P) (w:=w) (ty:=o.type) hu hi hz ht2 (base:=base) (sLen:=len) (sCap:=sCap) hl (hf w.drew rfl) (ho1 w.drew rfl) hlt (Kj hroom.1 hbp) (zj hroom.1 hlt);have hnb:lZ w (w.drew.alloc (.cells (vo.toArray++vn.toArray++Builtin.zeroCells z.cells (cap - (len+m))) e)) (.cells (vo.toArray++vn.toArray++Builtin.zeroCells z.cells (cap - (len+m))) e):=by
       have:=lZ.alloc w.drew (.cells (vo.toArray++vn.toArray++Builtin.zeroCells z.cells (cap - (len+m))) e);exact ⟨this.os,this.tape,this.output,C9 (Nat.le_succ _) this.drawn,this.size,this.old,this.new⟩
      have hvo:O vo=len * i.size:=by grind [L3.length,A7]
      refine ⟨_,_,_,?_,ez.aB0 LZ (ez.fresh LZ.ri hk (by rw [LZ.L];exact bQ) entry hnb (.grow ((len+m) * i.size) (.loc k)) (au3 LZ.ri.wf hnb ho2 aV0 rfl ?_ hcap ?_ U))⟩
      .simp_all
      .grind
      .simp only [Array.size_append,List.size_toArray,Cl,hzs,hvo,GZ]
       have:cap * i.size=(len+m) * i.size+(cap - (len+m)) * i.size:=by rw [<- Nat.add_mul];simp_all
       grind
     rcases hval with ⟨hnil,bn7⟩|⟨_,b,off,cap,c,e',f,h1,h2,h3,h4,h5,h6,h7⟩
     .subst bn7
      have hc0:cells=[]:=M
      subst hc0;have hbase:∃base:Option Addr,a.eval x0= .slice base 0 0/\(base=K\/∃b o,base=J (ad b o)):=by
       grind
      obtain ⟨base,hx,hbb⟩:=hbase
      by_cases hm:m=0
      .subst hm
       have Mg:new=[]:=M
       have hvv:vn=[]:=M
       subst Mg hvv;have hrun:=ja (P:=P) (w:=w) (ty:=o.type) hu hi ht2 (base:=base) (sLen:=0) (sCap:=0) hl (hf w rfl) (l6 _);refine ⟨.slice base 0 0,w,G1,?_,ez.aB0 LZ (ez.same LZ.ri hk (by rw [LZ.L];exact bQ) entry ?_)⟩
       .rw [Ae,hx,hrun]
        cases base<;>simp [storeCells]
       simp_all [VR]
      .refine out base 0 hx V ⟨[],λw2 _=>?_,by simp [L3]⟩
       cases base<;>simp [Builtin.firstCells,gG]
     .by_cases hfit:len+m<=cap
      .have hrun:=ja (P:=P) (w:=w) (ty:=o.type) hu hi ht2 (base:=J (ad b off)) (sLen:=len) (sCap:=cap) hl (hf w rfl) hfit
       have hsize:off+len * i.size+O vn<=c.size:=by
        rw [GZ];have:(len+m) * i.size<=cap * i.size:=Nat.mul_le_mul_right _ hfit
        grind
       have hone:Gq vn:=by
        intro u hu';obtain ⟨j,hj,rfl⟩:=R3 hu';have hj2:j<O (new.map c8.d):=by grind
        obtain ⟨u',g1,g2⟩:=L3.get _ _ aV0 j _ (o6 hj2);rw [o6 hj] at g1;cases g1;exact (oa (by simp [c8.one]) g2).1
       have hst:=run_storeCells_at (P:=P) b (off+len * i.size) e' f vn 0 c w h3 h5 V hone;simp only [Nat.add_zero] at hst;have GV :off+len * i.size+O vn<=O c.toList:=V
       have yP :(Q4 c.toList (off+len * i.size) vn).toArray.size=c.size:=by simp_all [rU]
       have hkeep:∀j,j<off+len * i.size->(Q4 c.toList (off+len * i.size) vn).toArray[j]? =c[j]? :=by
        grind [Q4]
       refine ⟨.slice (J (ad b off)) (len+m) cap,w.setRow b (Q4 c.toList (off+len * i.size) vn).toArray,_,?_,
        ez.aB0 LZ (ez.grow LZ.ri hk (by rw [LZ.L];exact bQ) entry h6 (n' :=off+(len+m) * i.size) (by grind) h3 yP hkeep ?_)⟩
       .simp_all [bX,Result.andThen_ok]
       .have hx:=LY h6 (n' :=off+(len+m) * i.size) (by grind) h3 yP hkeep
        simp only [VR];refine ⟨by grind,Or.inr ⟨U,b,off,cap,_,e',f,rfl,hfit,setRow_heap w b c _ e' f h3,V,M,U,?_⟩⟩;refine Cp off _ λj d hj=>?_
        have hjl:=y5 hj;rw [n5,hcells,bo2] at hjl;refine ⟨by simp_all [kA]<;>grind,?_⟩;rw [X0 (setRow_heap w b c _ e' f h3),show (Q4 c.toList (off+len * i.size) vn).toArray[off+j]? =(Q4 c.toList (off+len * i.size) vn)[off+j]? from by simp,rS _ _ _ GV]
        by_cases hjc:j<len * i.size
        .rw [if_pos V]
         rw [B9 V] at hj;obtain ⟨vs,q1,q2,q3⟩:=gq.vals (I:=I) (N:=N) off cells h7;have hjv:j<O vs:=V
         have q4:=q2 j _ (o6 hjv);rw [X0 h3] at q4;refine ⟨vs[j],M,?_⟩;obtain ⟨u,r1,r2⟩:=L3.get _ _ q3 j (.d d) (by simp [hj]);rw [o6 hjv] at r1;cases r1;simp only [VR] at r2;exact DR.mono hx.nj _ _ r2
        .rw [if_neg V,if_pos V]
         rw [y3 V,hcells] at hj;obtain ⟨u,r1,r2⟩:=L3.get _ _ aV0 (j - len * i.size) (.d d) (by simp [hj]);refine ⟨u,by grind,?_⟩;simp only [VR] at r2;exact DR.mono hx.nj _ _ r2
      .refine out (J (ad b off)) cap h1 V ?_
       obtain ⟨vs,q1,q2,q3⟩:=gq.vals (I:=I) (N:=N) off cells h7;refine ⟨vs,λw2 hw2=>?_,q3⟩;have:=run_loadCells_list (P:=P) w2 (ad b off) vs (λj v hj=>by grind [bX,nB]);simp_all [Builtin.firstCells]
    .cases he
   .cases he
  .cases he
 .cases he
end
end Go.A1
namespace Go.A1.d9
abbrev k (n:Int):y7:= .const (.d (.int .i64 n))
abbrev kt:y7:= .const (.d (.bool W))
abbrev kf:y7:= .const (.d (.bool F))
abbrev z0:c8:= .d (.int .i64 0)
abbrev zs:c8:= .d (.str [])
abbrev zb:c8:= .d (.bool F)
abbrev w (n:Nat):c8:= .own n 0 []
abbrev l (n:Nat):y7:= .loc n
abbrev s (n:Nat):y7:= .slot n
abbrev i0 (o:x9):p7:=⟨o,K,K,[]⟩
abbrev i1 (o:x9)(d:Nat):p7:=⟨o,J d,K,[]⟩
abbrev it (o:x9)(j:Nat):p7:=⟨o,K,J (j,W),[]⟩
abbrev if_ (o:x9)(j:Nat):p7:=⟨o,K,J (j,F),[]⟩
abbrev i3 (o:x9)(u:List Nat):p7:=⟨o,K,K,u⟩
abbrev ms (n:Nat):p7:=⟨.Q5 (.slot n),K,K,[]⟩
abbrev ml (n:Nat):p7:=⟨.Q5 (.loc n),K,K,[]⟩
abbrev os (a n:Nat):p7:=⟨.off a (.slot n),K,K,[]⟩
abbrev ol (a n:Nat):p7:=⟨.off a (.loc n),K,K,[]⟩
abbrev ld (n:Nat):p7:=⟨.load K (.loc n),K,K,[]⟩
abbrev sq:=q7.seq
abbrev rg:=q7.region
abbrev te:=q7.test
abbrev sk:=q7.skip
def sh (t:q9){x:q9}(h:t=x:=by dsimp only [k,kt,kf,z0,zs,zb,w,l,s,i0,i1,it,if_,i3,ms,ml,os,ol,ld,sq,rg,te,sk]):{ x:q9 // t=x }:=⟨x,h⟩
abbrev H7 (x:List p7):q7:= .region x F
abbrev cr (x:List p7):q7:= .region x W
abbrev Q6 (x:List p7)(c:y7)(a b:q7):q7:= .test x F c a b
abbrev vP (x:List p7)(c:y7)(a b:q7):q7:= .test x W c a b
abbrev u:Bool:=W
abbrev e:Bool:=F
abbrev sr (x:List p7)(c:q7):q7:= .seq (.region x F) c
abbrev su (x:List p7)(o:y7)(a b c:q7):q7:= .seq (.test x F o a b) c
abbrev blk:=q7.block
abbrev lop:=q7.loop
abbrev aR:=q7.exit
abbrev E3 (f:FuncId)(xs:List y7):p7:=⟨.call f xs,K,K,[]⟩
abbrev app (sz bytes:Nat)(ob:Bool)(x y:y7):p7:=⟨.append sz bytes ob x y,K,K,[]⟩
abbrev X1 (n:Nat)(a x:y7):p7:=⟨.store n a x,K,K,[]⟩
abbrev H9 (op:BinOp)(x y:y7):p7:=⟨.bin op x y,K,K,[]⟩
abbrev Y0 (c a b:y7):p7:=⟨.pick c a b,K,K,[]⟩
abbrev gV (zero:List c8)(parts:List (Nat×Nat×y7)):p7:=⟨.build zero parts,K,K,[]⟩
abbrev cu (sz len:Nat)(zero:List c8)(parts:List (Nat×Nat×y7))(ob:Bool):p7:=⟨.H6 sz len zero parts ob,K,K,[]⟩
abbrev aI (sz:Nat)(x i:y7):p7:=⟨.O4 sz x i,K,K,[]⟩
abbrev fo (n:Option Nat)(x:y7):p7:=⟨.load n x,K,K,[]⟩
abbrev cc2 (k:Nat)(x:y7):p7:=⟨.off k x,K,K,[]⟩
abbrev Rs (sz:Nat)(x:y7)(lo hi:Option y7):p7:=⟨.aJ sz x lo hi,K,K,[]⟩
abbrev yI (x:y7)(i:Nat):p7:=⟨.extract x i,K,K,[]⟩
abbrev le0 (x:y7):p7:=⟨.X8 x,K,K,[]⟩
abbrev un0 (op:UnOp)(x:y7):p7:=⟨.un op x,K,K,[]⟩
abbrev bR1 (zero:List c8):p7:=⟨.alloc zero,K,K,[]⟩
abbrev F5:y7:=k 0
abbrev oy:x9:= .Q5 F5
abbrev B7:y7:=l 0
abbrev A9:y7:=l 1
abbrev oL:x9:= .Q5 B7
abbrev F7:y7:=k 1
abbrev zq4:x9:= .bin .add B7 F7
abbrev p9:p7:=ms 0
abbrev gR:p7:=os 0 3
abbrev D8:p7:=ld 1
abbrev G7:y7:=l 2
abbrev I8:y7:=l 3
abbrev gp:x9:= .Q5 I8
abbrev lG:p7:=i1 gp 4
abbrev C8:p7:=ms 4
abbrev bD9:x9:= .bin .neq B7 F5
abbrev gQ:p7:=i0 bD9
abbrev mJ:p7:=i1 oL 2
abbrev zq5:q7:=sq (H7 [p9,gR,D8,E3 209 [B7,G7],lG]) (Q6 [C8,gQ] A9 (sr [C8,mJ] .ret) sk)
abbrev V7:y7:=s 2
abbrev VY:x9:= .load (J 8) V7
abbrev bP:x9:= .Q5 (s 0)
abbrev lV:x9:= .Q5 A9
abbrev KO:x9:= .Q5 (.const (w 1))
abbrev y4:y7:=l 4
abbrev A6:y7:=l 5
abbrev uy:x9:= .Q5 kf
abbrev zI:q7:=H7 [i1 uy 2]
abbrev sG:p7:=i1 oy 2
abbrev kz:q7:=H7 [sG]
abbrev bD5:x9:= .bin .lss B7 G7
abbrev XM:x9:= .bG B7
abbrev E8:y7:=l 6
abbrev RQ:x9:= .box (s 0)
abbrev BE:y7:= .const (.d (.int .i64 (-1)))
abbrev bD6:x9:= .bin .lss B7 I8
abbrev F1:p7:=ms 3
abbrev tP:q7:=sq (H7 [F1,mJ]) .ret
abbrev J7:y7:=s 6
abbrev Be:p7:=i1 oy 8
abbrev X6:y7:=s 7
abbrev RS:q7:=Q6 [H9 .lss (s 8) X6] B7 sk (aR 0)
abbrev A2:p7:=ld 0
abbrev ya:p7:=i1 lV 3
abbrev N9:p7:=ms 2
abbrev aG8:x9:= .len A9
abbrev P5:p7:=i0 aG8
abbrev uz:p7:=i1 gp 2
abbrev aQ4:x9:= .bin .lss B7 F5
abbrev Bj:p7:=i0 aQ4
abbrev uE:p7:=i1 oL 8
abbrev Ff:q7:=H7 [H9 .add (s 8) F7,uE]
abbrev bf0:q7:=sq (H7 [i1 bP 6,i1 (.len J7) 7,Be]) (blk 0 (lop [u,e,u,e,e,e,u,u,u,e,e,e] (sq RS (sq (blk 1 (sr [aI 1 J7 (s 8),A2,ya] (sr [N9,F1,P5,H9 .add B7 G7,uz] (Q6 [N9,Bj] A9 (H7 [i0 (.bad),i0 (.bad)]) sk)))) Ff))))
abbrev B4:p7:=ms 5
abbrev gT:p7:=i0 zq4
abbrev uD:p7:=i1 lV 5
abbrev tQ:q7:=H7 [B4,gT,uD]
abbrev Uw:x9:= .len B7
abbrev uF:p7:=i0 Uw
abbrev u0:p7:=ms 1
abbrev aG9:x9:= .len G7
abbrev S3:p7:=i0 aG9
abbrev qt:q7:=sq zI .ret
abbrev Ov:q7:=Q6 [p9,uF,u0,S3,H9 .neq A9 I8] y4 qt sk
abbrev ec:p7:=i1 oy 3
abbrev FP:q7:=H7 [ec]
abbrev bK:p7:=i0 bD5
abbrev RR:q7:=Q6 [F1,p9,P5,bK] I8 sk (aR 0)
abbrev aO8:x9:= .O4 1 B7 A9
abbrev mL:p7:=i0 aO8
abbrev Q8:p7:=ld 2
abbrev PJ:x9:= .O4 1 y4 A6
abbrev F8:y7:=l 7
abbrev G8:y7:=l 8
abbrev Gy:q7:=H7 [F1,gT,ya]
abbrev xU:x9:= .Q5 kt
abbrev Im:q7:=sq (H7 [i1 xU 2]) .ret
abbrev bf1:q7:=sq zI (sq Ov (sq (sq FP (blk 0 (lop [u,u,e,u] (sq RR (sq (blk 1 (vP [p9,F1,mL,Q8,u0,F1,i0 PJ,ld 6,H9 .neq I8 F8] G8 qt sk)) Gy))))) Im))
abbrev KP:x9:= .alloc [zs,z0,zs,zs,(w 2),(w 5),(w 2),zb,(w 3)]
abbrev V0:y7:=s 1
abbrev cQ:x9:= .Q5 V0
abbrev yc:p7:=i1 oy 5
abbrev OO:q7:=H7 [p9,i1 Uw 4,yc]
abbrev S4:y7:=s 5
abbrev W6:y7:=s 4
abbrev OH:q7:=Q6 [H9 .lss S4 W6] B7 sk (aR 0)
abbrev jA:p7:=i1 oL 3
abbrev XN:q7:=H7 [B4,jA]
abbrev R7:p7:=ld 3
abbrev dA:p7:=i1 oL 5
abbrev ON:q7:=H7 [H9 .add S4 F7,dA]
abbrev AN:q7:=sq (H7 [i1 (.Q5 BE) 2]) .ret
abbrev bf2:q7:=sq kz (sq (sq OO (blk 0 (lop [u,u,e,e,u,u] (sq OH (sq (blk 1 (sq XN (Q6 [u0,p9,F1,aI 1 A9 G7,R7,H9 .eql B7 y4] A6 tP sk))) ON))))) AN)
abbrev FF:x9:= .load K y4
abbrev bu:y7:=s 3
abbrev Pv:x9:= .load (J 8) bu
abbrev FJ:x9:= .Q5 (.const (w 2))
abbrev oD:p7:=i1 lV 4
abbrev zJ:q7:=H7 [C8,gT,oD]
abbrev L1:y7:=l 10
abbrev zK:x9:= .Q5 (.const (w 5))
abbrev PC:x9:= .alloc [(w 4),(w 9),(w 3),(w 6),(w 4),(w 3),(w 2),(w 3)]
abbrev dZ:y7:=s 9
abbrev KQ:q7:=Q6 [H9 .lss dZ (s 8)] B7 sk (aR 0)
abbrev mZ:x9:= .Q5 F7
abbrev Fs:x9:= .H6 1 0 [] [] e
abbrev sD:x9:= .Q5 bu
abbrev G9:y7:=l 9
abbrev R5:y7:=l 11
abbrev qu:x9:= .Q5 R5
abbrev bD7:q7:=sq (cr [i0 Fs,p9,F1,Rs 1 A9 K (J G7),app 1 8 e B7 I8,i3 cQ [4],i3 (.H6 1 1 [z0] [(0,1,A6)] e) [4],app 1 8 e y4 E8,i3 bP [4,7],i3 sD [4,7],i3 (.aJ 1 G8 (J G9) K) [4,7],app 1 8 e F8 L1,i1 qu 2]) .ret
abbrev T7:p7:=ml 3
abbrev qw:p7:=it bP 4
abbrev uv:x9:= .load K F8
abbrev Ba:p7:=it cQ 4
abbrev OU:q7:=sq (H7 [p9,mJ]) .ret
abbrev bf3:q7:=sq FP (sq (blk 0 (lop [u,u,e,u] (su [F1,p9,P5,bK,T7,qw,it sD 4,it (.O4 1 A6 E8) 4,it uv 4,Ba,it (.bin .lss G8 G9) 4,Y0 y4 L1 kf] R5 sk (aR 0) (blk 1 Gy)))) (su [F1,p9,P5,bK,T7,qw,it sD 4,it (.O4 1 A6 E8) 4,it uv 4,Ba,it (.bin .eql G8 G9) 4,Y0 y4 L1 kf] R5 OU sk bD7))
abbrev bD8:x9:= .H6 1 1 [zs] [(0,1,E8)] e
abbrev cD:x9:= .Q5 G7
abbrev iQ:y7:= .const zs
abbrev zL:y7:= .const (.d (.str [116,48]))
abbrev tR:x9:= .load K A6
abbrev eY:p7:=os 1 1
abbrev Q0:p7:=ml 2
abbrev xO:x9:= .off 1 V0
abbrev gP:p7:=it FF 3
abbrev aP3:x9:= .pick I8 E8 kf
abbrev oF:p7:=i0 aP3
abbrev Fi:x9:= .load K G9
abbrev FL:p7:=it Fi 8
abbrev T6:y7:=l 12
abbrev xS:x9:= .Q5 T6
abbrev bE0:q7:=sq (H7 [eY,A2,H9 .geq A9 (.const (.d (.int .i64 (-4294967296)))),Q0,it xO 3,gP,it (.bin .leq A6 (k 4294967296)) 3,oF,ml 7,it (.off 2 V0) 8,FL,it (.bin .eql L1 iQ) 8,Y0 G8 R5 kf,i1 xS 2]) .ret
abbrev fW:p7:=os 0 1
abbrev nc:x9:= .load K B7
abbrev L9:p7:=ml 0
abbrev bE3:x9:= .bin .eql A9 F5
abbrev jQ:p7:=i0 bE3
abbrev iT:x9:= .Q5 F8
abbrev N5:y7:=k 2
abbrev aQ2:x9:= .pick I8 F8 kf
abbrev ye:p7:=i0 aQ2
abbrev nh:x9:= .Q5 G8
abbrev bf4:q7:=sq (sr [fW,i1 nc 3] (blk 0 (Q6 [H9 .eql bu F5,L9] A9 (sr [eY,A2,jQ,Q0,it (.off 2 V0) 3,gP,it (.bin .eql A6 iQ) 3,oF,i1 iT 2] .ret) (Q6 [H9 .eql bu F7,L9] A9 bE0 (Q6 [H9 .eql bu N5,L9] A9 (sr [eY,A2,jQ,Q0,it (.off 2 V0) 3,gP,it (.X8 A6) 3,it (.bin .leq E8 (k 32)) 3,ye,i1 nh 2] .ret) sk))))) qt
abbrev KR:q7:=H7 [H9 .add dZ F7,i1 oL 9]
abbrev zM:q7:=H7 [i1 uy 1]
abbrev BF:q7:=sq (H7 [i1 mZ 2]) .ret
abbrev fV:p7:=i1 oy 4
abbrev ym:q7:=H7 [fV]
abbrev bE1:x9:= .load (J 8) V0
abbrev dR:x9:= .Q5 A6
abbrev sQ:q7:=H7 [yc]
abbrev bf:y7:=k 3
abbrev oE:p7:=i1 oL 4
abbrev eW:y7:=k 16
abbrev bf5:q7:=sq (H7 [H9 .eql V7 bf,oE]) (.cond W6 sk (sr [H9 .eql V7 (k 9),oE] (.cond W6 sk (sr [H9 .eql V7 (k 13),oE] (.cond W6 sk (H7 [H9 .eql V7 eW,oE]))))))
abbrev PO:x9:= .alloc [zs,z0,zs,zs,(w 1),z0,z0]
abbrev iS:x9:= .Q5 y4
abbrev oJ:x9:= .load K E8
abbrev xZ:p7:=i1 RQ 1
abbrev KS:q7:=H7 [xZ,i1 uy 2]
abbrev hU:x9:= .Q5 W6
abbrev aH1:q7:=sq (H7 [H9 .eql V7 F7,jA]) (.cond bu sk (H7 [H9 .eql V7 N5,jA]))
abbrev KT:x9:= .append 1 16 e B7 F8
abbrev Gx:q7:=sq (H7 [i1 mZ 4]) .ret
abbrev J8:p7:=ms 6
abbrev uC:p7:=i1 lV 6
abbrev KU:q7:=H7 [J8,gT,uC]
abbrev bM:p7:=os 1 3
abbrev IT:x9:= .extract E8 0
abbrev IU:x9:= .extract E8 1
abbrev bf6:q7:=sq (H7 [p9,bM,D8,os 2 3,R7,E3 222 [B7,G7,y4],ml 5,i0 IT,i0 IU,ml 7,i1 nh 5]) (Q6 [B4,gQ] A9 (sr [B4,mJ] .ret) sk)
abbrev FO:x9:= .box V0
abbrev bE2:x9:= .bin .neq A9 iQ
abbrev uB:p7:=i1 RQ 2
abbrev KV:q7:=H7 [uB,i1 KO 3]
abbrev lX:x9:= .Q5 E8
abbrev U8:y7:=l 13
abbrev FM:p7:=i1 uy 3
abbrev PR:q7:=sq (H7 [FM]) .ret
abbrev Z6:p7:=i0 bD6
abbrev IS:x9:= .O4 4 G7 I8
abbrev bW:p7:=ld 5
abbrev uH:p7:=i0 bD8
abbrev xW:p7:=i1 nh 3
abbrev bf7:q7:=sq (Q6 [C8,fW,D8,S3,Z6] y4 sk (aR 0)) (sq (blk 1 (H7 [F1,fW,D8,C8,i0 IS,ol 0 4,bW,uH,i0 KT,xW])) zJ)
abbrev bf8:q7:=sq (Q6 [B4,eY,D8,S3,Z6] y4 sk (aR 2)) (sq (blk 3 (H7 [F1,eY,D8,B4,aI 9 G7 I8,ol 0 4,bW,uH,i0 KT,xW])) tQ)
abbrev Z7:p7:=ml 1
abbrev aP5:x9:= .pick G7 y4 kf
abbrev sH:p7:=i0 aP5
abbrev bf9:q7:=sq zM (sr [p9,H9 .geq B7 (.const (.d (.int .u8 97))),Z7,it bP 2,it (.bin .leq I8 (.const (.d (.int .u8 122)))) 2,sH,i1 dR 1] .ret)
abbrev ir:x9:= .Q5 V7
abbrev bg0:q7:=sq (H7 [FM]) (sr [p9,u0,H9 .geq B7 A9,Q0,it bP 3,it ir 3,it (.bin .leq y4 A6) 3,oF,i1 iT 3] .ret)
abbrev bg1:q7:=sq zM (sr [p9,H9 .geq B7 (.const (.d (.int .u8 48))),Z7,it bP 2,it (.bin .leq I8 (.const (.d (.int .u8 57)))) 2,sH,i1 dR 1] .ret)
abbrev bE4:x9:= .O4 5 B7 A9
abbrev am5:q7:=sq (H7 [p9,F1,Rs 5 B7 (J A9) K,i0 (.clear 5 [z0,z0,z0,z0,zb] G7)]) (sr [p9,F1,Rs 5 B7 K (J A9),i1 cD 2] .ret)
abbrev Ig:x9:= .H6 1 1 [z0] [(0,1,A9)] e
abbrev Fg:q7:=H7 [uB,FM]
abbrev aO3:x9:= .load (J 2) B7
abbrev Fh:q7:=sq (H7 [C8,jA]) .ret
abbrev aO4:x9:= .bin .sub G7 F7
abbrev aO5:x9:= .bin .eql B7 F5
abbrev jR:p7:=os 1 2
abbrev bg:p7:=os 0 2
abbrev OE:x9:= .len y4
abbrev mK:p7:=i0 OE
abbrev IK:x9:= .bin .sub G7 A6
abbrev PL:x9:= .O4 9 A9 E8
abbrev PD:x9:= .load (J 9) F8
abbrev am6:q7:=H7 [jR,A2,u0,bg,R7,mK,i0 IK,i0 PL,i0 PD,i1 KP 4,X1 9 W6 G8]
abbrev AO:q7:=H7 [sG,ec]
abbrev am7:x9:= .O4 2 A9 G7
abbrev mG:x9:= .load K G8
abbrev S0:y7:=l 14
abbrev AP:y7:= .const (.d (.str [118,48]))
abbrev Ow:x9:= .build [z0,z0,z0,zs,z0] [(0,1,F7),(1,3,A9)]
abbrev sw:x9:= .bin .eql E8 F5
abbrev aO6:x9:= .bin .eql A9 N5
abbrev xX:p7:=i1 FO 3
abbrev Ih:q7:=H7 [uB,xX,fV]
abbrev mH:x9:= .load K I8
abbrev aO7:x9:= .un .not A9
abbrev oz:x9:= .load K L1
abbrev Ox:x9:= .H6 5 1 [z0,z0,z0,zs,z0] [(0,5,G7)] e
abbrev aO9:x9:= .store 1 F8 A6
abbrev um:q7:=H7 [i1 KO 3]
abbrev xH:q7:=H7 [i1 KO 1]
abbrev Oy:q7:=H7 [J8,H9 .sub B7 F7,uC]
abbrev T4:p7:=i0 VY
abbrev Oz:q7:=sq (H7 [T4,X1 8 bu B7]) .ret
abbrev U6:y7:=l 15
abbrev Ii:q7:=H7 [i1 (.alloc [z0,z0,zs]) 1]
abbrev OA:q7:=H7 [i1 cQ 7,i1 (.len X6) 8,i1 oy 9]
abbrev aP0:x9:= .un .not G7
abbrev lE:q7:=sq kz .ret
abbrev aP1:x9:= .call 22 [B7,bf]
abbrev qq:x9:= .load K T6
abbrev OB:q7:=H7 [uB,xX,i1 uy 4]
abbrev TY:q7:=sq (H7 [fo (J 9) S4,X1 9 W6 B7]) .ret
abbrev aP2:x9:= .bin .gtr G7 F5
abbrev aQ6:x9:= .extract G7 0
abbrev Bh:p7:=i0 aQ6
abbrev aQ7:x9:= .extract G7 1
abbrev Bf:p7:=i0 aQ7
abbrev am8:q7:=H7 [T4,E3 101 [B7],Z7,Bh,Bf,yI G7 2,lG,ml 4,i1 dR 5]
abbrev O2:p7:=ms 7
abbrev Ij:q7:=H7 [O2,gT,i1 lV 7]
abbrev Y7:y7:=l 16
abbrev uo:x9:= .load K Y7
abbrev UL:y7:= .const (.d (.str [110,111,110,101]))
abbrev am9:x9:= .H6 1 4 [zs,zs,zs,zs] [(0,1,iQ),(1,1,y4),(2,1,zL),(3,1,UL)] e
abbrev uq:x9:= .alloc [z0,z0]
abbrev xI:q7:=H7 [i1 oy 6]
abbrev xJ:x9:= .load (J 2) bu
abbrev sO:p7:=os 3 5
abbrev PG:x9:= .store 1 F8 E8
abbrev an0:q7:=H7 [N9,p9,N9,S3,E3 22 [A9,I8],aI 1 B7 y4,bW,sO,i0 PG]
abbrev Ik:x9:= .append 1 8 e B7 G7
abbrev an1:x9:= .load (J 2) I8
abbrev sx:x9:= .Q5 bf
abbrev AQ:x9:= .Q5 (k 5)
abbrev OC:x9:= .H6 2 1 [z0,z0] [(0,2,I8)] e
abbrev OD:q7:=sq (H7 [sG,i1 mZ 3]) .ret
abbrev Il:q7:=H7 [uB,ec]
abbrev AR:q7:=H7 [i1 KO 4]
abbrev AS:q7:=H7 [i1 KO 2]
abbrev aP4:x9:= .bin .lss B7 A9
abbrev TZ:x9:= .O4 1 B7 G7
abbrev xK:x9:= .len A6
abbrev ur:x9:= .load K R5
abbrev OF:q7:=sq (H7 [i1 (.Q5 (k 7)) 2]) .ret
abbrev OG:q7:=sq (H7 [i1 (.Q5 (k 7)) 4]) .ret
abbrev Ua:q7:=Q6 [C8,p9,P5,bK] I8 sk (aR 0)
abbrev Ub:q7:=Q6 [C8,u0,P5,bK] I8 sk (aR 0)
abbrev AU:x9:= .bG A9
abbrev Uc:q7:=Q6 [H9 .lss X6 J7] B7 sk (aR 0)
abbrev Fj:x9:= .build [z0,z0,zs] []
abbrev aP6:x9:= .O4 1 B7 F5
abbrev lF:x9:= .len E8
abbrev uu:x9:= .Q5 G9
abbrev Ud:q7:=Q6 [H9 .lss J7 S4] B7 sk (aR 0)
abbrev Z5:y7:=l 17
abbrev aP7:x9:= .load (J 3) B7
abbrev OI:q7:=sq (H7 [N9,i1 oL 1]) .ret
abbrev aP8:x9:= .bin .eql A9 F7
abbrev aP9:x9:= .bin .eql G7 F5
abbrev oA:x9:= .Q5 (s 8)
abbrev U7:p7:=ms 8
abbrev OJ:q7:=H7 [U7,gT,i1 lV 8]
abbrev oB:x9:= .Q5 J7
abbrev aQ0:x9:= .O4 7 A9 G7
abbrev aQ1:x9:= .O4 1 A9 I8
abbrev Ue:y7:= .const (.d (.str [112,101,114,115,111,110]))
abbrev Io:x9:= .append 1 8 e B7 A9
abbrev Uf:q7:=H7 [i1 mZ 3]
abbrev an2:q7:=H7 [aI 7 S4 X6,fo (J 7) B7,i1 PO 4,X1 7 W6 A9]
abbrev xL:x9:= .load K G7
abbrev aQ3:x9:= .len I8
abbrev aH:y7:=s 10
abbrev Fl:q7:=H7 [i1 oy 7]
abbrev Fm:q7:=H7 [i1 oy 1]
abbrev Fo:x9:= .load (J 2) E8
abbrev OK:q7:=H7 [xZ,i1 KO 2]
abbrev yb:p7:=i1 oL 7
abbrev Ug:q7:=H7 [H9 .add X6 F7,yb]
abbrev Fp:x9:= .load (J 2) F8
abbrev Fq:x9:= .load (J 2) G8
abbrev OL:q7:=H7 [uB,i1 FJ 3]
abbrev sy:x9:= .off 2 bu
abbrev sA:x9:= .off 0 V7
abbrev Uh:q7:=H7 [H9 .add J7 F7,i1 oL 6]
abbrev OM:q7:=sq (H7 [i1 AQ 3]) .ret
abbrev Ft:x9:= .load (J 2) G7
abbrev Ip:x9:= .bin .gtr B7 F5
abbrev Fu:x9:= .pick y4 F8 kf
abbrev Fv:x9:= .pick y4 kt G8
abbrev Fw:x9:= .pick G9 T6 kf
abbrev aQ5:x9:= .O4 5 A9 G7
abbrev an3:q7:=Q6 [H9 .eql V7 (k 18),L9] A9 (sr [i1 sx 1] .ret) sk
abbrev bJ:y7:=k 4
abbrev Ui:x9:= .build [z0,z0] [(0,1,B7),(1,1,A9)]
abbrev Uj:x9:= .build [z0,z0] [(0,1,A9),(1,1,G7)]
abbrev Iq:x9:= .call 22 [G7,(k 5)]
abbrev Fx:x9:= .O4 1 A6 F8
abbrev uw:x9:= .off 0 bu
abbrev Ir:x9:= .call 22 [A9,N5]
abbrev Is:x9:= .call 22 [B7,N5]
abbrev sN:p7:=i0 aO3
abbrev an4:q7:=H7 [aI 2 J7 (s 8),sN,i1 uq 5,X1 2 S4 A9]
abbrev It:x9:= .call 22 [A9,bJ]
abbrev aZ:y7:=l 18
abbrev Uk:x9:= .H6 2 1 [z0,z0] [(0,2,G7)] e
abbrev Iu:x9:= .load (J 8) W6
abbrev Iv:q7:=H7 [i1 FJ 3]
abbrev Iw:q7:=H7 [i1 zK 2]
abbrev OP:x9:= .Q5 (.const (.d .dg))
abbrev OQ:x9:= .alloc [zs,(w 7),z0,z0]
abbrev OS:x9:= .append 2 16 e B7 A9
abbrev Ul:q7:=sq (H7 [i1 (.Q5 bJ) 4]) .ret
abbrev eU:y7:=l 19
abbrev OT:q7:=H7 [i1 xU 3]
abbrev Um:q7:=sq (H7 [i1 (.Q5 BE) 3]) .ret
abbrev Iy:x9:= .bin .sub E8 F7
abbrev sB:x9:= .Q5 L1
abbrev sC:x9:= .Q5 S4
abbrev Fy:x9:= .O4 3 G7 I8
abbrev Un:q7:=H7 [ms 13,gT,i1 lV 13]
abbrev eZ:p7:=ms 11
abbrev Uo:q7:=H7 [eZ,gT,i1 lV 11]
abbrev bp:p7:=ms 10
abbrev Up:q7:=H7 [bp,gT,i1 lV 10]
abbrev jT:p7:=ms 12
abbrev an5:q7:=Q6 [jT,gQ] A9 (sr [jT,jA] .ret) sk
abbrev xM:x9:= .off 1 bu
abbrev xN:x9:= .off 1 V7
abbrev cC:y7:=l 20
abbrev Uq:q7:=sq (H7 [i1 uy 4]) .ret
abbrev Ur:q7:=sq (H7 [p9,oE]) .ret
abbrev Iz:x9:= .store 1 E8 y4
abbrev IA:x9:= .bin .eql B7 F7
abbrev IB:x9:= .bin .neq A9 F5
abbrev an6:q7:=Q6 [J8,gQ] A9 (sr [J8,mJ] .ret) sk
abbrev AV:y7:= .const .P9
abbrev fT:y7:=l 21
abbrev bV:p7:=ms 9
abbrev Us:q7:=H7 [bV,gT,i1 lV 9]
abbrev AW:q7:=sq XN .ret
abbrev Fz:x9:= .call 40 [B7]
abbrev ux:y7:=k 1048576
abbrev IC:x9:= .O4 2 A6 E8
abbrev eV:y7:=l 22
abbrev OV:x9:= .alloc [zs,z0,(w 5)]
abbrev an7:x9:= .H6 2 2 [z0,z0,z0,z0] [(0,2,y4),(2,2,G8)] e
abbrev FA:x9:= .un .not y4
abbrev FB:x9:= .un .not F8
abbrev Ut:q7:=H7 [xZ,i1 zK 2]
abbrev AX:x9:= .off 3 bu
abbrev AY:x9:= .off 5 bu
abbrev ID:x9:= .load K S0
abbrev Uu:q7:=sq (H7 [i1 sx 3]) .ret
abbrev IE:x9:= .load K Z5
abbrev IF:x9:= .load K fT
abbrev an8:q7:=Q6 [p9,i0 (.DS e B7)] A9 (sq xH .ret) sk
abbrev Uv:q7:=H7 [i1 RQ 3,fV]
abbrev OW:q7:=H7 [i1 FJ 5]
abbrev OX:q7:=H7 [i1 FJ 4]
abbrev OY:q7:=H7 [i1 zK 4]
abbrev IG:x9:= .O4 4 A9 G7
abbrev II:x9:= .extract y4 0
abbrev IJ:x9:= .extract y4 1
abbrev xP:x9:= .len F8
abbrev xQ:x9:= .len G8
abbrev xR:x9:= .len R5
abbrev an9:q7:=Q6 [B4,u0,P5,bK] I8 sk (aR 0)
abbrev ao0:q7:=Q6 [B4,C8,P5,bK] I8 sk (aR 0)
abbrev FC:q7:=sq FP .ret
abbrev FD:x9:= .off 4 V0
abbrev fU:y7:=l 23
abbrev OZ:q7:=H7 [Be]
abbrev Pa:x9:= .call 54 [B7,A9]
abbrev Pb:x9:= .call 86 [A9,I8]
abbrev Pc:x9:= .load (J 2) y4
abbrev Pd:x9:= .load (J 4) S4
abbrev Pe:x9:= .load (J 2) V7
abbrev FE:x9:= .Q5 N5
abbrev jO:y7:=s 11
abbrev ao1:q7:=Q6 [H9 .lss jO aH] B7 sk (aR 2)
abbrev AZ:x9:= .Q5 X6
abbrev Pg:x9:= .O4 1 X6 dZ
abbrev ao2:q7:=H7 [aI 1 dZ jO,A2,uD]
abbrev Ux:x9:= .append 2 16 e B7 y4
abbrev ao3:x9:= .H6 5 1 [z0,z0,z0,zs,z0] [(0,5,E8)] e
abbrev ao4:x9:= .H6 5 1 [z0,z0,z0,zs,z0] [(0,5,A9)] e
abbrev Ph:x9:= .load (J 5) I8
abbrev Pj:x9:= .load (J 7) I8
abbrev ao5:x9:= .H6 4 1 [zs,.P9,z0,z0] [(0,4,y4)] e
abbrev Pk:x9:= .store 1 E8 A6
abbrev Pn:x9:= .bin .sub I8 F7
abbrev Po:x9:= .store 1 G8 E8
abbrev ao6:q7:=H7 [C8,B4,i0 Ig,i0 Ik,lG]
abbrev FG:x9:= .bG A6
abbrev FH:x9:= .off 4 V7
abbrev ao7:q7:=H7 [i1 bP 9,i1 (.len dZ) 10,i1 oy 11]
abbrev ao8:x9:= .build [(w 1),(w 1)] [(0,1,A6),(1,1,G8)]
abbrev Uy:q7:=H7 [J8,oE]
abbrev Uz:q7:=H7 [B4,oE]
abbrev Pp:x9:= .bin .sub B7 I8
abbrev Pr:x9:= .store 1 y4 I8
abbrev Pt:x9:= .pick I8 A6 kf
abbrev Pu:x9:= .O4 1 A6 F7
abbrev IL:x9:= .un .not G8
abbrev oC:y7:=s 12
abbrev ao9:q7:=H7 [H9 .add oC F7,i1 oL 12]
abbrev ap0:q7:=H7 [H9 .add (s 19) F7,i1 oL 19]
abbrev ap2:q7:=H7 [H9 .add (s 17) F7,i1 oL 17]
abbrev ap3:q7:=H7 [H9 .add jO F7,i1 oL 11]
abbrev Bp:p7:=i0 aP4
abbrev ap4:q7:=Q6 [J8,B4,Bp] G7 sk (aR 2)
abbrev ap5:q7:=H7 [i1 bP 4,i1 (.len W6) 5,i1 oy 6]
abbrev UA:y7:= .const (.d (.str [116]))
abbrev UB:y7:= .const (.d (.str [118]))
abbrev UC:y7:= .const (.d (.str [120]))
abbrev ap6:q7:=H7 [i1 bP 5,i1 (.len S4) 6,i1 oy 7]
abbrev ap7:q7:=H7 [H9 .add aH F7,i1 oL 10]
abbrev Pw:x9:= .O4 5 B7 F5
abbrev sM:p7:=i0 aO5
abbrev Bd:p7:=i1 lV 2
abbrev ap8:q7:=sq (H7 [F1,sM,Bd]) .ret
abbrev FI:x9:= .Q5 U6
abbrev Px:x9:= .load K eU
abbrev UD:x9:= .H6 2 0 [] [] e
abbrev ap9:q7:=sq (H7 [u0,sG,jA]) .ret
abbrev IM:x9:= .un .not I8
abbrev IP:q7:=sq ym .ret
abbrev IQ:x9:= .off 4 J7
abbrev mI:y7:=l 24
abbrev aq0:x9:= .call 41 [(.const (.d (.str [122]))),G9]
abbrev UE:x9:= .call 22 [L1,bJ]
abbrev UF:x9:= .call 22 [E8,bJ]
abbrev aq1:q7:=H7 [uB,xX,i1 zK 4]
abbrev aq2:q7:=Q6 [J8,i0 Ip] A9 sk (aR 0)
abbrev dY:y7:=k 8
abbrev UG:x9:= .call 22 [B7,(k 5)]
abbrev aq3:x9:= .build [z0,z0,z0,zs,z0] [(0,1,B7)]
abbrev IV:x9:= .off 0 y4
abbrev aq4:x9:= .H6 2 1 [z0,z0] [(0,2,A6)] e
abbrev aq5:x9:= .H6 2 1 [z0,z0] [(0,2,F8)] e
abbrev FK:x9:= .Q5 U8
abbrev IW:x9:= .off 1 S4
abbrev UH:x9:= .call 22 [G7,N5]
abbrev UI:q7:=H7 [i1 AQ 5]
abbrev UJ:x9:= .call 22 [B7,bJ]
abbrev UK:x9:= .call 22 [G7,bJ]
abbrev Py:x9:= .load K A9
abbrev Pz:x9:= .extract I8 0
abbrev PA:x9:= .extract I8 1
abbrev aq6:x9:= .H6 1 1 [(w 2)] [(0,1,A6)] e
abbrev aq7:q7:=sq (H7 [ec,i1 mZ 4]) .ret
abbrev PB:x9:= .un .not S0
abbrev UM:q7:=H7 [i1 oy 11]
abbrev UN:q7:=H7 [i1 oy 13]
abbrev UO:q7:=H7 [i1 oy 10]
abbrev UP:x9:= .call 125 [B7,A9]
abbrev UQ:x9:= .call 125 [B7,G7]
abbrev UR:x9:= .call 255 [A9,G7]
abbrev US:x9:= .call 22 [G7,A6]
abbrev UT:x9:= .pick U6 kt eU
abbrev UU:x9:= .bin .eql mI F5
abbrev aq8:q7:=sq (H7 [i1 (.Q5 (k 7)) 3]) .ret
abbrev aq9:q7:=sq (H7 [i1 (.Q5 bJ) 2]) .ret
abbrev ar0:q7:=sq (H7 [i1 (.Q5 bJ) 3]) .ret
abbrev UW:q7:=H7 [i1 oy 9]
abbrev UX:x9:= .call 48 [B7,A9]
abbrev UY:x9:= .call 22 [B7,G7]
abbrev UZ:x9:= .load (J 3) y4
abbrev Va:x9:= .load (J 3) E8
abbrev ar1:q7:=sq (H7 [i1 (.Q5 BE) 1]) .ret
abbrev Vb:x9:= .bin .neq A6 F7
abbrev Vc:x9:= .bin .eql y4 F5
abbrev Vd:x9:= .bin .neq E8 F5
abbrev Ve:x9:= .bin .add y4 F8
abbrev Vf:x9:= .bin .gtr F8 F5
abbrev Vg:x9:= .load (J 2) L1
abbrev Vh:x9:= .bin .neq A6 iQ
abbrev Vi:x9:= .bin .eql R5 F5
abbrev Vj:x9:= .bin .gtr R5 F5
abbrev PE:x9:= .un .not R5
abbrev Vk:x9:= .load (J 2) S4
abbrev Vl:x9:= .load (J 4) bu
abbrev Vm:x9:= .bin .eql G7 N5
abbrev Vn:x9:= .bin .eql B7 N5
abbrev Vo:x9:= .pick F8 kt S0
abbrev Vp:x9:= .pick R5 kt U6
abbrev PF:q7:=sq Uf .ret
abbrev xT:y7:=k 1024
abbrev ar2:x9:= .H6 1 1 [z0] [(0,1,G7)] e
abbrev ar3:x9:= .H6 1 1 [z0] [(0,1,I8)] e
abbrev ar4:q7:=sq (H7 [u0,jA]) .ret
abbrev ar5:q7:=sq (H7 [J8,jA]) .ret
abbrev Vq:x9:= .load (J 5) G7
abbrev Vr:x9:= .bin .eql I8 y4
abbrev Vs:x9:= .bin .add I8 E8
abbrev Vt:x9:= .bin .add F7 A9
abbrev Vu:x9:= .bin .add F7 G7
abbrev Vv:x9:= .bin .neq B7 F7
abbrev Vx:x9:= .bin .neq A9 F7
abbrev Vy:x9:= .bin .eql G7 F7
abbrev Vz:x9:= .bin .geq B7 F5
abbrev VA:x9:= .bin .gtr A9 F5
abbrev VB:x9:= .bin .geq A9 F5
abbrev VC:x9:= .bin .geq G7 F5
abbrev VD:x9:= .bin .lss B7 F8
abbrev VE:x9:= .pick y4 G8 kf
abbrev VF:x9:= .pick G8 U8 kf
abbrev VG:x9:= .pick G9 U8 kf
abbrev VH:x9:= .store 3 bu F8
abbrev ar6:q7:=H7 [N9,gT,Bd]
abbrev PI:x9:= .off 0 W6
abbrev VI:x9:= .load K (l 26)
abbrev VJ:x9:= .load K (l 27)
abbrev VK:x9:= .bin .neq B7 A9
abbrev VL:x9:= .bin .geq B7 I8
abbrev VM:x9:= .store 1 A6 I8
abbrev VN:x9:= .pick G7 kt A6
abbrev VO:x9:= .O4 4 y4 A6
abbrev VP:x9:= .O4 3 y4 A6
abbrev VQ:x9:= .O4 5 A6 E8
abbrev VS:x9:= .pick I8 kt G8
abbrev VT:x9:= .pick I8 G8 kf
abbrev ar7:q7:=H7 [i1 FO 2,FM]
abbrev VU:x9:= .store 1 I8 G7
abbrev PK:x9:= .bG y4
abbrev VV:x9:= .O4 2 I8 y4
abbrev VW:x9:= .O4 4 A9 E8
abbrev PM:x9:= .off 4 bu
abbrev PN:x9:= .off 2 V7
abbrev ar8:q7:=sq (H7 [i1 sx 4]) .ret
abbrev ar9:q7:=sq (H7 [i1 AQ 2]) .ret
abbrev as0:q7:=sq (H7 [i1 AQ 4]) .ret
abbrev VX:x9:= .load K eV
abbrev as1:q7:=sq (H7 [i1 FE 1]) .ret
abbrev M6:p7:=i0 XM
abbrev jP:p7:=i0 aO7
abbrev lH:p7:=i0 aQ3
abbrev lJ:p7:=i0 aP0
abbrev jB:p7:=i0 bE1
abbrev jC:p7:=i0 Pv
abbrev W0:p7:=ld 4
abbrev sE:p7:=if_ tR 4
abbrev oG:p7:=i0 am7
abbrev lK:p7:=i0 bE4
abbrev lM:p7:=i0 bE2
abbrev qx:p7:=i0 aO4
abbrev jS:p7:=ol 0 1
abbrev uA:p7:=i1 cD 7
abbrev sJ:p7:=i0 aO9
abbrev sK:p7:=i0 aO6
abbrev xY:p7:=i1 iS 1
abbrev uG:p7:=i0 aP2
abbrev oH:p7:=os 6 2
abbrev oI:p7:=os 1 5
abbrev Bb:p7:=i1 lX 2
abbrev Bc:p7:=i1 cD 4
abbrev yf:p7:=i0 aQ1
abbrev yg:p7:=i0 aQ0
abbrev yh:p7:=i0 aP6
abbrev yj:p7:=i0 xK
abbrev yl:p7:=i0 aP1
abbrev FN:p7:=i1 uu 3
abbrev sP:p7:=os 1 6
abbrev Bi:p7:=i0 aQ5
abbrev Bk:p7:=i0 aP9
abbrev Bl:p7:=i0 aP8
abbrev Bm:p7:=i0 aP7
abbrev Bn:p7:=i0 AU
abbrev Bo:p7:=i0 TZ
abbrev Bq:p7:=i0 an1
def O5 (t:q9){x:q9}(h:t=x:=by dsimp only [u,e,sr,su,blk,lop,aR,E3,app,X1,H9,Y0,gV,cu,aI,fo,cc2,Rs,yI,le0,un0,bR1,F5,oy,B7,A9,oL,F7,zq4,p9,gR,D8,G7,I8,gp,lG,C8,bD9,gQ,mJ,zq5,V7,VY,bP,lV,KO,y4,A6,uy,zI,sG,kz,bD5,XM,E8,RQ,BE,bD6,F1,tP,J7,Be,X6,RS,A2,ya,N9,aG8,P5,uz,aQ4,Bj,uE,Ff,bf0,B4,gT,uD,tQ,Uw,uF,u0,aG9,S3,qt,Ov,ec,FP,bK,RR,aO8,mL,Q8,PJ,F8,G8,Gy,xU,Im,bf1,KP,V0,cQ,yc,OO,S4,W6,OH,jA,XN,R7,dA,ON,AN,bf2,FF,bu,Pv,FJ,oD,zJ,L1,zK,PC,dZ,KQ,mZ,Fs,sD,G9,R5,qu,bD7,T7,qw,uv,Ba,OU,bf3,bD8,cD,iQ,zL,tR,eY,Q0,xO,gP,aP3,oF,Fi,FL,T6,xS,bE0,fW,nc,L9,bE3,jQ,iT,N5,aQ2,ye,nh,bf4,KR,zM,BF,fV,ym,bE1,dR,sQ,bf,oE,eW,bf5,PO,iS,oJ,xZ,KS,hU,aH1,KT,Gx,J8,uC,KU,bM,IT,IU,bf6,FO,bE2,uB,KV,lX,U8,FM,PR,Z6,IS,bW,uH,xW,bf7,bf8,Z7,aP5,sH,bf9,ir,bg0,bg1,bE4,am5,Ig,Fg,aO3,Fh,aO4,aO5,jR,bg,OE,mK,IK,PL,PD,am6,AO,am7,mG,S0,AP,Ow,sw,aO6,xX,Ih,mH,aO7,oz,Ox,aO9,um,xH,Oy,T4,Oz,U6,Ii,OA,aP0,lE,aP1,qq,OB,TY,aP2,aQ6,Bh,aQ7,Bf,am8,O2,Ij,Y7,uo,UL,am9,uq,xI,xJ,sO,PG,an0,Ik,an1,sx,AQ,OC,OD,Il,AR,AS,aP4,TZ,xK,ur,OF,OG,Ua,Ub,AU,Uc,Fj,aP6,lF,uu,Ud,Z5,aP7,OI,aP8,aP9,oA,U7,OJ,oB,aQ0,aQ1,Ue,Io,Uf,an2,xL,aQ3,aH,Fl,Fm,Fo,OK,yb,Ug,Fp,Fq,OL,sy,sA,Uh,OM,Ft,Ip,Fu,Fv,Fw,aQ5,an3,bJ,Ui,Uj,Iq,Fx,uw,Ir,Is,sN,an4,It,aZ,Uk,Iu,Iv,Iw,OP,OQ,OS,Ul,eU,OT,Um,Iy,sB,sC,Fy,Un,eZ,Uo,bp,Up,jT,an5,xM,xN,cC,Uq,Ur,Iz,IA,IB,an6,AV,fT,bV,Us,AW,Fz,ux,IC,eV,OV,an7,FA,FB,Ut,AX,AY,ID,Uu,IE,IF,an8,Uv,OW,OX,OY,IG,II,IJ,xP,xQ,xR,an9,ao0,FC,FD,fU,OZ,Pa,Pb,Pc,Pd,Pe,FE,jO,ao1,AZ,Pg,ao2,Ux,ao3,ao4,Ph,Pj,ao5,Pk,Pn,Po,ao6,FG,FH,ao7,ao8,Uy,Uz,Pp,Pr,Pt,Pu,IL,oC,ao9,ap0,ap2,ap3,Bp,ap4,ap5,UA,UB,UC,ap6,ap7,Pw,sM,Bd,ap8,FI,Px,UD,ap9,IM,IP,IQ,mI,aq0,UE,UF,aq1,aq2,dY,UG,aq3,IV,aq4,aq5,FK,IW,UH,UI,UJ,UK,Py,Pz,PA,aq6,aq7,PB,UM,UN,UO,UP,UQ,UR,US,UT,UU,aq8,aq9,ar0,UW,UX,UY,UZ,Va,ar1,Vb,Vc,Vd,Ve,Vf,Vg,Vh,Vi,Vj,PE,Vk,Vl,Vm,Vn,Vo,Vp,PF,xT,ar2,ar3,ar4,ar5,Vq,Vr,Vs,Vt,Vu,Vv,Vx,Vy,Vz,VA,VB,VC,VD,VE,VF,VG,VH,ar6,PI,VI,VJ,VK,VL,VM,VN,VO,VP,VQ,VS,VT,ar7,VU,PK,VV,VW,PM,PN,ar8,ar9,as0,VX,as1,M6,jP,lH,lJ,jB,jC,W0,sE,oG,lK,lM,qx,jS,uA,sJ,sK,xY,uG,oH,oI,Bb,Bc,yf,yg,yh,yj,yl,FN,sP,Bi,Bk,Bl,Bm,Bn,Bo,Bq,H7,cr,Q6,vP,k,kt,kf,z0,zs,zb,w,l,s,i0,i1,it,if_,i3,ms,ml,os,ol,ld,sq,rg,te,sk]):{ x:q9 // t=x }:=⟨x,h⟩
end Go.A1.d9


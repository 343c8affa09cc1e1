import Derived.Calls
import Derived.Below
import Derived.WalkKit
import Derived.Laws.BytesString
import Derived.Lib.Strings
import Derived.Laws.MakeOwn
set_option linter.all false
open Bool renaming and_eq_true→c9,false_eq_true→j6,not_eq_true'→o3,or_eq_false_iff→C7,true→W,false→F
open List renaming cons_append→x7,getElem?_append_left→s9,getElem?_append_right→s5,getElem?_eq_getElem→n9,getElem?_set_ne→x5,getElem?_set_self→E0,getElem_of_mem→E9,length_append→k8,length_cons→o8,length_map→A1,length_take→K0,map_cons→E8,mem_append→A5,mem_singleton→L1,replicate→c8,replicate_succ→L3,length→O
open Nat renaming add_assoc→K1,le_of_ble_eq_true→j4,le_refl→j9,le_trans→p7,lt_or_ge→y7,mul_le_mul_right→E1
open Option renaming some→J,none→K
namespace Go
theorem V{p:Prop}(h:p:=by omega):p:=h
theorem U{p:Prop}(h:p:=by simp):p:=h
theorem M{p:Prop}(h:p:=by simp_all):p:=h
theorem D{p:Prop}(h:p:=by simp;omega):p:=h
end Go
namespace Go.y9
inductive Data where
 |bool (b:Bool)
 |int (k:IntKind) (n:Int)
 |str (s:List UInt8)
 |slice (len:Nat) (cells:List Data)
 |dK
 |gB
 |jl
 |nilIface
 deriving Inhabited
inductive KD where
 |i (k:IntKind) (n:Int)
 |s (x:List UInt8)
 |b (b:Bool)
 deriving DecidableEq,Inhabited
inductive Key where
 |int (k:IntKind) (n:Int)
 |str (s:List UInt8)
 |bool (b:Bool)
 |st (l:List KD)
 deriving DecidableEq,Inhabited
inductive c7 where
 |any
 |d (x:Data)
 |ptr (id off:Nat)
 |Y4 (cells:List Data)
 |r7 (id sz lo len:Nat)
 |own (sz len:Nat) (cells:List Data)
 |N9
 |agg (cells:List c7)
 |tuple (vs:List c7)
 |func (f:FuncId) (first caps:List c7)
 |map (id:Nat)
 deriving Inhabited
inductive s6 where
 |dead
 |cells (l:List c7)
 |map (es:List (Key×c7))
 deriving Inhabited
abbrev k9:=List s6
inductive A3 where
 |loc (j:Nat)
 |slot (s:Nat)
 |const (v:c7)
 deriving Inhabited
inductive CK where
 |i
 |s
 |b
 deriving DecidableEq,Inhabited
inductive KK where
 |i
 |s
 |b
 |st (ks:List CK)
 deriving DecidableEq,Inhabited
inductive F0 where
 |dJ (x:A3)
 |pick (c a b:A3)
 |alloc (zero:List c7)
 |box (x:A3)
 |build (zero:List c7) (parts:List (Nat×Nat×A3))
 |M8 (sz len:Nat) (zero:List c7) (parts:List (Nat×Nat×A3)) (ob:Bool)
 |load (n:Option Nat) (x:A3)
 |store (n:Nat) (a x:A3)
 |oT (x:A3)
 |bin (op:BinOp) (x y:A3)
 |un (op:UnOp) (x:A3)
 |xJ (neg:Bool) (x:A3)
 |x4 (neg:Bool) (x y:A3)
 |NL (neg:Bool) (ks:List CK) (x y:A3)
 |ox (k:IntKind) (x:A3)
 |kz (x:A3)
 |bE (sz:Nat) (x:A3) (lo hi:Option A3)
 |off (k:Nat) (x:A3)
 |gN (sz:Nat) (x i:A3)
 |tw (n sz:Nat) (x i:A3)
 |F7 (x i:A3)
 |extract (x:A3) (i:Nat)
 |NR (x:A3) (i:Nat)
 |len (x:A3)
 |U2 (x:A3)
 |append (sz bytes:Nat) (ob:Bool) (x y:A3)
 |M3 (sz bytes:Nat) (x y:A3)
 |mW (x:Data)
 |own (sz:Nat) (x:A3)
 |gQ (isMax:Bool) (xs:List A3)
 |clear (sz:Nat) (zero:List c7) (x:A3)
 |jk (f:FuncId) (first caps:List A3)
 |call (f:FuncId) (xs:List A3)
 |bJ (x:A3) (xs:List A3)
 |makeMap
 |gw (sz:Nat) (zero:List c7) (x y:A3)
 |lookup (kk:KK) (zero:c7) (ok:Bool) (m k:A3)
 |dI (kk:KK) (m k v:A3)
 |defer (x:A3)
 |bad
 deriving Inhabited
structure x9 where
 op:F0
 dst:Option Nat:=K
 guard:Option (Nat×Bool):=K
 Y2:List Nat:=[]
 deriving Inhabited
inductive K7 where
 |skip
 |region (ops:List x9) (draw:Bool)
 |seq (a b:K7)
 |cond (c:A3) (thn els:K7)
 |test (ops:List x9) (draw:Bool) (c:A3) (thn els:K7)
 |block (id:Nat) (body:K7)
 |loop (mask:List Bool) (body:K7)
 |exit (id:Nat)
 |ret
 |fz (s:Nat)
 |bad
 deriving Inhabited
inductive Eo where
 |slot (s:Nat)
 |cell (s:Nat) (n:Option Nat)
 deriving Inhabited
structure p6 where
 nparams:Nat
 names:List Nat
 body:K7
 results:List Eo
 eY:Bool:=F
 deriving Inhabited
def c7.I7:c7->c7
 | .own _ len cells=> .d (.slice len cells)
 | .N9=> .d (.slice 0 [])
 |v=>v
def c7.one:c7->Bool
 | .any=>F
 | .agg _=>F
 | .tuple _=>F
 |_=>W
def c7.cells? :c7->Option (List c7)
 | .agg l=>if l.all c7.one then J l else K
 |v=>if v.one then J [v] else K
def c7.data? :c7->Option Data
 | .d x=>J x
 | .own _ len cells=>J (.slice len cells)
 | .N9=>J (.slice 0 [])
 |_=>K
def H7 :List c7->Option (List Data)
 |[]=>J []
 |v::vs=>match v.data? with
  |some x=>match H7 vs with
   |some xs=>J (x::xs)
   |none=>K
  |none=>K
mutual
def c7.F4:c7->Nat
 | .ptr id _=>id+1
 | .r7 id _ _ _=>id+1
 | .map id=>id+1
 | .agg l=>A2 l
 | .tuple l=>A2 l
 | .func _ a b=>max (A2 a) (A2 b)
 |_=>0
def A2:List c7->Nat
 |[]=>0
 |v::vs=>max v.F4 (A2 vs)
end
mutual
def c7.kill (id:Nat):c7->c7
 | .ptr i o=>if i=id then .any else .ptr i o
 | .r7 i z l n=>if i=id then .any else .r7 i z l n
 | .map i=>if i=id then .any else .map i
 | .agg l=> .agg (K8 id l)
 | .tuple l=> .tuple (K8 id l)
 | .func f a b=> .func f (K8 id a) (K8 id b)
 |v=>v
def K8 (id:Nat):List c7->List c7
 |[]=>[]
 |v::vs=>v.kill id::K8 id vs
end
def s6.F4:s6->Nat
 | .dead=>0
 | .cells l=>A2 l
 | .map es=>A2 (es.map (·.2))
def T7:List s6->Nat->Bool
 |[],_=>W
 |o::os,k=>o.F4<=k+1&&T7 os (k+1)
def D3:List s6->Nat
 |[]=>0
 |o::os=>max o.F4 (D3 os)
def s6.kill (id:Nat):s6->s6
 | .dead=> .dead
 | .cells l=> .cells (K8 id l)
 | .map es=> .map (es.map λp=>(p.1,p.2.kill id))
def rd (H:k9)(id off n:Nat):Option (List c7) :=
 match H[id]? with
 |some (.cells l)=>if off+n<=O l then J ((l.drop off).take n) else K
 |_=>K
def splice (l:List c7)(off:Nat)(vs:List c7):List c7:=l.take off++vs++l.drop (off+O vs)
def wr (H:k9)(id off:Nat)(vs:List c7):Option k9 :=
 match H[id]? with
 |some (.cells l)=>if off+O vs<=O l then J (H.set id (.cells (splice l off vs))) else K
 |_=>K
def i64 (n:Int):c7:= .d (.int .i64 n)
def W4 (op:BinOp)(k:IntKind)(a b:Int):Option Data :=
 match op with
 | .add=>J (.int k (k.wrap (a+b)))
 | .sub=>J (.int k (k.wrap (a - b)))
 | .mul=>J (.int k (k.wrap (a * b)))
 | .quo=>if b=0 then K else J (.int k (k.wrap (a.tdiv b)))
 | .rem=>if b=0 then K else J (.int k (a.tmod b))
 | .and=>J (.int k (k.wrap (BitVec.ofInt k.bits a&&&BitVec.ofInt k.bits b).toNat))
 | .or=>J (.int k (k.wrap (BitVec.ofInt k.bits a|||BitVec.ofInt k.bits b).toNat))
 | .xor=>J (.int k (k.wrap (BitVec.ofInt k.bits a ^^^ BitVec.ofInt k.bits b).toNat))
 | .eql=>J (.bool (a==b))
 | .neq=>J (.bool (a != b))
 | .lss=>J (.bool (a<b))
 | .leq=>J (.bool (a<=b))
 | .gtr=>J (.bool (a>b))
 | .geq=>J (.bool (a≥b))
 |_=>K
def uo (op:BinOp)(k:IntKind)(a b:Int):Option Data :=
 if b<0 then K else
 match op with
 | .shl=>J (.int k (k.wrap (a * 2 ^ (min b.toNat k.bits))))
 | .shr=>J (.int k (a.fdiv (2 ^ (min b.toNat k.bits))))
 |_=>K
def qq (op:BinOp)(a b:List UInt8):Option Data :=
 match op with
 | .add=>if O a+O b<4611686018427387904 then J (.str (a++b)) else K
 | .eql=>J (.bool (a==b))
 | .neq=>J (.bool (!(a==b)))
 | .lss=>J (.bool (Op.bytesLess a b))
 | .leq=>J (.bool (Op.bytesLess a b||a==b))
 | .gtr=>J (.bool (!(Op.bytesLess a b||a==b)))
 | .geq=>J (.bool (!(Op.bytesLess a b)))
 |_=>K
def Q8:BinOp->Bool
 | .shl=>W
 | .shr=>W
 |_=>F
def H8 (op:BinOp):Data->Data->Option Data
 | .int k a,.int k' b=>if Q8 op then uo op k a b else if k=k' then W4 op k a b else K
 | .str a,.str b=>qq op a b
 |_,_=>K
def FO (op:UnOp):Data->Option Data
 | .int k n=>match op with
  | .neg=>J (.int k (k.wrap (0 - n)))
  |_=>K
 | .bool b=>match op with
  | .not=>J (.bool (!b))
  |_=>K
 |_=>K
def T4 (cells:List c7):List (Nat×Nat×c7)->Option (List c7)
 |[]=>J cells
 |(off,sz,v)::rest=>match v.cells? with
  |some l=>if O l=sz/\off+sz<=O cells then T4 (splice cells off l) rest else K
  |none=>K
def ic :List Data->Option (List UInt8)
 |[]=>J []
 | .int .u8 n::r=>match ic r with
  |some bs=>J (UInt8.ofNat n.toNat::bs)
  |none=>K
 |_=>K
def tW (isMax:Bool)(a b:Data):Option Data :=
 match a,b with
 | .int k x,.int _ y=>J (.int k (if isMax then (if y>x then y else x) else (if y<x then y else x)))
 |_,_=>K
def cG (isMax:Bool):Data->List c7->Option Data
 |a,[]=>J a
 |a,.d b::r=>match tW isMax a b with
  |some c=>cG isMax c r
  |none=>K
 |_,_=>K
def Data.zX:CK->Data->Data->Option Bool
 | .i,.int k a,.int k' b=>if k=k' then J (a==b) else K
 | .s,.str a,.str b=>J (a==b)
 | .b,.bool a,.bool b=>J (a==b)
 |_,_,_=>K
def M7:List CK->List c7->List c7->Option Bool
 |[],[],[]=>J W
 |k::ks,.d a::r,.d b::q=>match Data.zX k a b with
  |some t=>match M7 ks r q with
   |some u=>J (t&&u)
   |none=>K
  |none=>K
 |_,_,_=>K
def KD.av:KD->c7
 | .i k n=> .d (.int k n)
 | .s x=> .d (.str x)
 | .b t=> .d (.bool t)
def Fi :List c7->Option (List KD)
 |[]=>J []
 | .d (.int k n)::vs=>match Fi vs with
  |some r=>J (.i k n::r)
  |none=>K
 | .d (.str x)::vs=>match Fi vs with
  |some r=>J (.s x::r)
  |none=>K
 | .d (.bool t)::vs=>match Fi vs with
  |some r=>J (.b t::r)
  |none=>K
 |_=>K
def c7.Fj :c7->Option Key
 | .d (.int k n)=>J (.int k n)
 | .d (.str s)=>J (.str s)
 | .d (.bool b)=>J (.bool b)
 | .agg l=>match Fi l with
  |some r=>J (.st r)
  |none=>K
 |_=>K
def Data.aP:KK->Key->Key->Option Bool
 | .i,.int k a,.int k' b=>if k=k' then J (a==b) else K
 | .s,.str a,.str b=>J (a==b)
 | .b,.bool a,.bool b=>J (a==b)
 | .st ks,.st l,.st m=>M7 ks (l.map KD.av) (m.map KD.av)
 |_,_,_=>K
def KK.fits (kk:KK)(k:Key):Bool:=match kk,k with
 | .st ks,.st l=>(M7 ks (l.map KD.av) (l.map KD.av)).isSome
 | .st _,_=>F
 |_,_=>W
def Z8 (kk:KK)(k:Key):List (Key×c7)->Option (Option c7)
 |[]=>J K
 |(k',v)::r=>match Data.aP kk k k' with
  |some W=>J (J v)
  |some F=>Z8 kk k r
  |none=>K
def bA (kk:KK)(k:Key)(v:c7):List (Key×c7)->Option (List (Key×c7))
 |[]=>J [(k,v)]
 |(k',v')::r=>match Data.aP kk k k' with
  |some W=>J ((k,v)::r)
  |some F=>match bA kk k v r with
   |some r' =>J ((k',v')::r')
   |none=>K
  |none=>K
def S6 (ρ:A3->c7)(dflt:Nat):Option A3->Option Int
 |none=>J dflt
 |some x=>match ρ x with
  | .d (.int _ n)=>J n
  |_=>K
def B4 (H:k9)(sz:Nat):c7->Option (Nat×List c7)
 | .d (.slice len cells)=>if O cells=len * sz then J (len,cells.map .d) else K
 | .own z len cells=>if z=sz then J (len,cells.map .d) else K
 | .r7 id z lo len=>if z=sz then match rd H id lo (len * sz) with
   |some cs=>J (len,cs.map c7.I7)
   |none=>K
  else K
 | .d (.str s)=>if sz=1 then J (O s,s.map λb=> .d (.int .u8 b.toNat)) else K
 |_=>K
def l5 (ρ:A3->c7)(H:k9):F0->Option (c7×List Nat)
 | .pick c a b=>match ρ c with
  | .d (.bool t)=>J (if t then ρ a else ρ b,[])
  |_=>K
 | .build zero parts=>match T4 zero (parts.map λ(o,s,x)=>(o,s,ρ x)) with
  |some cs=>J (.agg cs,[])
  |none=>K
 | .M8 sz len zero parts F=>match T4 zero (parts.map λ(o,s,x)=>(o,s,ρ x)) with
  |some cs=>match H7 cs with
   |some xs=>if 0<sz/\O xs=len * sz then J (.own sz len xs,[]) else K
   |none=>K
  |none=>K
 | .load K x=>match ρ x with
  | .ptr id off=>match rd H id off 1 with
   |some [v]=>J (v.I7,[id])
   |_=>K
  | .Y4 (c::_)=>J (.d c,[])
  |_=>K
 | .load (J n) x=>match ρ x with
  | .ptr id off=>match rd H id off n with
   |some vs=>J (.agg (vs.map c7.I7),[id])
   |none=>K
  | .Y4 cells=>if n<=O cells then J (.agg ((cells.take n).map .d),[]) else K
  |_=>K
 | .oT x=>match ρ x with
  | .ptr id off=>J (.ptr id off,[])
  | .Y4 cells=>J (.Y4 cells,[])
  | .func f a b=>J (.func f a b,[])
  |_=>K
 | .bin op x y=>match ρ x,ρ y with
  | .d a,.d b=>match H8 op a b with
   |some r=>J (.d r,[])
   |none=>K
  |_,_=>K
 | .x4 neg x y=>match ρ x,ρ y with
  | .d (.bool a),.d (.bool b)=>J (.d (.bool (neg != (a==b))),[])
  |_,_=>K
 | .NL neg ks x y=>match ρ x,ρ y with
  | .agg a,.agg b=>match M7 ks a b with
   |some t=>J (.d (.bool (neg != t)),[])
   |none=>K
  |_,_=>K
 | .un op x=>match ρ x with
  | .d a=>match FO op a with
   |some r=>J (.d r,[])
   |none=>K
  |_=>K
 | .xJ neg x=>match ρ x with
  | .d (.slice len _)=>if 0<len then J (.d (.bool neg),[]) else K
  | .r7 _ _ _ _=>J (.d (.bool neg),[])
  |_=>K
 | .ox k x=>match ρ x with
  | .d (.int _ n)=>J (.d (.int k (k.wrap n)),[])
  |_=>K
 | .kz x=>match ρ x with
  | .d (.slice len cells)=>if O cells=len then match ic cells with
    |some bs=>J (.d (.str bs),[])
    |none=>K
   else K
  |_=>K
 | .bE sz x lo hi=>match ρ x with
  | .d (.slice len cells)=>match S6 ρ 0 lo,S6 ρ len hi with
   |some l,J h=>if 0<=l/\l<=h/\h<=len/\O cells=len * sz then
     J (.d (.slice (h - l).toNat ((cells.take (h.toNat * sz)).drop (l.toNat * sz))),[]) else K
   |_,_=>K
  | .r7 id z a len=>match S6 ρ 0 lo,S6 ρ len hi with
   |some l,J h=>if 0<=l/\l<=h/\h<=len/\z=sz then
     if l=h then J (.d (.slice 0 []),[]) else J (.r7 id sz (a+l.toNat * sz) (h - l).toNat,[]) else K
   |_,_=>K
  |_=>K
 | .off k x=>match ρ x with
  | .ptr id off=>J (.ptr id (off+k),[])
  | .Y4 cells=>J (.Y4 (cells.drop k),[])
  |_=>K
 | .gN sz x i=>match ρ x,ρ i with
  | .d (.slice len cells),.d (.int _ i)=>if 0<=i/\i<len then J (.Y4 (cells.drop (i.toNat * sz)),[]) else K
  | .r7 id z lo len,.d (.int _ i)=>if 0<=i/\i<len/\z=sz then J (.ptr id (lo+i.toNat * sz),[]) else K
  |_,_=>K
 | .tw n sz x i=>match ρ x,ρ i with
  | .ptr id off,.d (.int _ i)=>if 0<=i/\i<n then J (.ptr id (off+i.toNat * sz),[]) else K
  | .Y4 cells,.d (.int _ i)=>if 0<=i/\i<n then J (.Y4 (cells.drop (i.toNat * sz)),[]) else K
  |_,_=>K
 | .F7 x i=>match ρ x,ρ i with
  | .d (.str s),.d (.int _ i)=>if 0<=i then match s[i.toNat]? with
    |some b=>J (.d (.int .u8 b.toNat),[])
    |none=>K
   else K
  |_,_=>K
 | .extract x i=>match ρ x with
  | .tuple vs=>match vs[i]? with
   |some v=>J (v,[])
   |none=>K
  |_=>K
 | .NR x i=>match ρ x with
  | .agg vs=>match vs[i]? with
   |some v=>J (v,[])
   |none=>K
  |_=>K
 | .len x=>match ρ x with
  | .d (.slice len _)=>J (i64 len,[])
  | .r7 _ _ _ len=>J (i64 len,[])
  |_=>K
 | .U2 x=>match ρ x with
  | .d (.str s)=>J (i64 (O s),[])
  |_=>K
 | .gQ isMax xs=>match xs.map ρ with
  | .d a::r=>match cG isMax a r with
   |some c=>J (.d c,[])
   |none=>K
  |_=>K
 | .jk f first caps=>J (.func f (first.map ρ) (caps.map ρ),[])
 | .lookup kk zero ok m k=>match ρ m,(ρ k).Fj with
  | .map id,J key=>match H[id]? with
   |some (.map es)=>match Z8 kk key es,kk.fits key with
    |some r,W=>J (if ok then .tuple [r.getD zero,.d (.bool r.isSome)] else r.getD zero,[id])
    |_,_=>K
   |_=>K
  | .d .jl,J key=>match Data.aP kk key key with
   |some W=>J (if ok then .tuple [zero,.d (.bool F)] else zero,[])
   |_=>K
  |_,_=>K
 |_=>K
inductive Touch where
 |slot (s:Nat)
 |obj (id:Nat)
 |cell (id off:Nat)
 |below (n:Nat)
 deriving Inhabited
structure F5 where
 T:List c7
 H:k9
 L:List c7
 l6:List Touch
def Touch.P9 (s:Nat):Touch->Bool
 | .slot t=>t==s
 |_=>F
def Touch.E3 (id:Nat):Touch->Bool
 | .obj i=>i==id
 | .below n=>id<n
 |_=>F
def Touch.V0 (id off:Nat):Touch->Bool
 | .obj i=>i==id
 | .cell i o=>i==id&&o==off
 | .below n=>id<n
 |_=>F
def c7.Jx:c7->c7
 | .N9=> .N9
 |v=>v.I7
def F1 (T L:List c7):A3->c7
 | .loc j=>(L.getD j .any).I7
 | .slot s=>(T.getD s .any).I7
 | .const v=>v.Jx
def Y9 (st:F5):A3->Option (Nat×Nat)
 | .loc m=>match st.L[m]? with
  |some (.ptr id off)=>J (id,off)
  |_=>K
 | .slot s=>if st.l6.any (Touch.P9 s) then K else match st.T[s]? with
  |some (.ptr id off)=>J (id,off)
  |_=>K
 | .const _=>K
structure F9 where
 Ef:Nat
 Ee:Nat
 base:Nat
 strict:Nat
def F9.may (l:F9)(id:Nat):Bool:=decide (id<l.Ef)||decide (l.Ee<=id)
def F9.fM (l:F9)(a b base strict:Nat):F9 :=
 if l.Ee<=l.Ef then ⟨a,b,base,strict⟩ else ⟨min l.Ef a,max l.Ee b,base,strict⟩
def W0 (l:F9)(st:F5)(sz:Nat):F0->Option (Nat×List Data×F5)
 | .dJ (.slot s) =>
  if st.l6.any (Touch.P9 s) then K else
  match st.T[s]? with
  |some (.own z len cells)=>if z=sz then J (len,cells,{ st with T:=st.T.set s (.d (.slice len cells)),l6:= .slot s::st.l6 }) else K
  |_=>K
 | .load K x =>
  match Y9 st x with
  |some (id,off) =>
   if st.l6.any (Touch.V0 id off)|| !l.may id then K else
   match st.H[id]? with
   |some (.cells cs) =>
    match cs[off]? with
    |some (.own z len cells)=>if z=sz then J (len,cells,{ st with H:=st.H.set id (.cells (cs.set off (.d (.slice len cells)))),l6:= .cell id off::st.l6 }) else K
    |_=>K
   |_=>K
  |none=>K
 |_=>K
def O6 (l:F9)(j8:List x9)(st:F5)(sz:Nat):A3->Option (Nat×List Data×F5)
 | .const (.own z len cells)=>if z=sz then J (len,cells,st) else K
 | .const _=>K
 | .slot _=>K
 | .loc j =>
  match st.L[j]? with
  |some (.own z len cells)=>if z=sz then J (len,cells,{ st with L:=st.L.set j (.d (.slice len cells)) }) else K
  |some (.d (.slice _ _))=>match j8[j]? with
   |some a=>W0 l st sz a.op
   |none=>K
  |_=>K
def roomFor (n bytes:Nat):Bool:=decide ((2 * n+512) * bytes<=281474976710656)
abbrev nW:=FuncId->List c7->k9->F9->Option (c7×k9)
def put (st:F5)(k:Nat)(v:c7):F5:={ st with L:=st.L.set k v }
def E2 (st:F5):A3->c7×F5
 | .loc j=>match st.L[j]? with
  |some (.own z len cells)=>(.own z len cells,{ st with L:=st.L.set j (.d (.slice len cells)) })
  |some .N9=>(.N9,st)
  |_=>(F1 st.T st.L (.loc j),st)
 | .const v=>(v,st)
 | .slot s=>(F1 st.T st.L (.slot s),st)
structure Env where
 cf:nW
 prom:FuncId->Bool
 mode:FuncId->Nat
 idle:FuncId->Bool
 lim:F9
 entry:Nat
def D4 (H:k9)(strict:Nat):Nat->Nat->Nat
 |0,n=>n
 |k+1,n=>if n<=strict then n else
  let m:=max n (D3 ((H.take n).drop strict))
  if m=n then n else D4 H strict k m
def A6 (H:k9)(strict n:Nat):Nat :=
 if n<=strict then n else if T7 ((H.take n).drop strict) strict then n else strict
def B7 (E:Env)(k:Nat)(f:FuncId)(args:List c7)(st:F5):Option F5 :=
 if E.prom f then
  match E.cf f args st.H E.lim with
  |some (v,H1)=>if O st.H<=O H1 then J (put { st with H:=H1,l6:= .below (O H1)::st.l6 } k v) else K
  |none=>K
 else
  let n:=D4 st.H E.lim.strict 8 (A2 args)
  if n<=O st.H/\D3 ((st.H.take n).drop E.lim.strict)<=n then
   match E.mode f with
   |0=>match E.cf f args (st.H.take n) { E.lim with base:=n,strict:=A6 st.H E.lim.strict n } with
    |some (v,H1)=>if O H1=n then J (put { st with H:=H1++st.H.drop n,l6:= .below n::st.l6 } k v) else K
    |none=>K
   |1=>match E.cf f args (st.H.take n) ⟨0,n,n,A6 st.H E.lim.strict n⟩ with
    |some (v,H1)=>if O H1=n then J (put st k v) else K
    |none=>K
   |_ =>
    let m:=(args.headD .any).F4
    match E.cf f args (st.H.take n) (E.lim.fM m n n (A6 st.H E.lim.strict n)) with
    |some (v,H1)=>if O H1=n/\m<=n then J (put { st with H:=H1.take m++st.H.drop m,l6:= .below m::st.l6 } k v) else K
    |none=>K
  else K
def newId (st:F5)(z6:Option Nat):Nat:=z6.getD (O st.H)
def C8 (st:F5)(z6:Option Nat)(o:s6):F5 :=
 match z6 with
 |none=>{ st with H:=st.H++[o] }
 |some i=>{ st with H:=st.H.set i o }
def O4 (E:Env)(k n:Nat)(st:F5)(a:c7)(x:A3):Option F5 :=
 match a with
 | .ptr id off =>
  match (E2 st x).1.cells? with
  |some l =>
   if O l=n/\E.lim.may id/\(A2 l<=id+1\/(E.lim.base<=id/\E.lim.strict<=id)) then
    match wr (E2 st x).2.H id off l with
    |some H' =>J (put { (E2 st x).2 with H:=H',l6:= .obj id::(E2 st x).2.l6 } k .any)
    |none=>K
   else K
  |none=>K
 |_=>K
def S0 (E:Env)(k sz bytes:Nat)(st:F5)(id lo len:Nat)(y:c7):Option F5 :=
 if E.lim.base<=id/\E.entry<=id/\E.lim.may id then
  match st.H[id]?,B4 st.H sz y with
  |some (.cells l),J (m,cs) =>
   if lo=0/\len * sz=O l/\roomFor (len+m) bytes/\A2 cs<=id/\cs.all c7.one/\0<sz then
    J (put { T:=K8 id st.T,H:=(st.H.take E.lim.base++(st.H.drop E.lim.base).map (s6.kill id)).set id (.cells (K8 id l++cs)),L:=K8 id st.L,l6:= .obj id::st.l6 } k (.r7 id sz lo (len+m)))
   else K
  |_,_=>K
 else K
def eG (l:F9)(st:F5):F0->Bool
 | .dJ (.slot s)=> !st.l6.any (Touch.P9 s)&&(match st.T[s]? with
  |some .N9=>W
  |_=>F)
 | .load K x =>
  match Y9 st x with
  |some (id,off)=> !st.l6.any (Touch.V0 id off)&&l.may id&&(match st.H[id]? with
   |some (.cells cs)=>(match cs[off]? with
    |some .N9=>W
    |_=>F)
   |_=>F)
  |none=>F
 |_=>F
def isNil (l:F9)(j8:List x9)(st:F5):A3->Bool
 | .const .N9=>W
 | .loc j=>match st.L[j]? with
  |some .N9=>W
  |some (.d (.slice _ _))=>match j8[j]? with
   |some a=>eG l st a.op
   |none=>F
  |_=>F
 |_=>F
def J1 (E:Env)(j8:List x9)(z6:Option Nat)(k sz bytes:Nat)(ob:Bool)(st:F5)(x:A3)(y:c7):Option F5 :=
 match B4 st.H sz y with
 |some (m,cs) =>
  if ob then
   if isNil E.lim j8 st x/\roomFor m bytes/\0<sz then
    if m=0 then J (put st k .N9)
    else J (put (C8 st z6 (.cells cs)) k (.r7 (newId st z6) sz 0 m))
   else K
  else
   match H7 cs with
   |some new =>
    match O6 E.lim j8 st sz x with
    |some (len,cells,st') =>
     if roomFor (len+m) bytes/\0<sz then J (put st' k (.own sz (len+m) (cells++new))) else K
    |none=>K
   |none=>K
 |none=>K
def Q0 (E:Env)(z6:Option Nat)(k sz bytes:Nat)(st:F5)(id lo len:Nat)(y:c7):Option F5 :=
 if E.lim.may id then
  match st.H[id]?,B4 st.H sz y with
  |some (.cells l),J (m,cs) =>
   if lo=0/\len * sz=O l/\roomFor (len+m) bytes/\A2 cs<=newId st z6/\cs.all c7.one/\0<sz then
    J (put (C8 { st with H:=st.H.set id .dead,l6:= .obj id::st.l6 } z6 (.cells (l.map c7.I7++cs))) k (.r7 (newId st z6) sz lo (len+m)))
   else K
  |_,_=>K
 else K
def T6 (E:Env)(k sz:Nat)(zero:List c7)(st:F5):c7->Option F5
 | .r7 id z lo len =>
  if z=sz/\O zero=sz/\A2 zero=0/\E.lim.may id then
   match wr st.H id lo ((c8 len zero).flatten) with
   |some H' =>J (put { st with H:=H',l6:= .obj id::st.l6 } k (.tuple []))
   |none=>K
  else K
 | .d (.slice 0 _)=>J (put st k (.tuple []))
 |_=>K
def Q6 (E:Env)(k:Nat)(kk:KK)(st:F5)(m key v:c7):Option F5 :=
 match m,key.Fj with
 | .map id,J kd=>match st.H[id]? with
  |some (.map es) =>
   if v.F4<=id+1/\E.lim.may id then
    match Data.aP kk kd kd with
    |some W=>match bA kk kd v es with
     |some es' =>J (put { st with H:=st.H.set id (.map es'),l6:= .obj id::st.l6 } k .any)
     |none=>K
    |_=>K
   else K
  |_=>K
 |_,_=>K
def oL (sz:Nat)(zero:List c7):c7->c7->Option Nat
 | .d (.int .i64 n),.d (.int .i64 m)=>if n=m/\0<=n/\n<=1000000/\0<sz/\O zero=sz then J n.toNat else K
 |_,_=>K
def dm (st:F5)(r:Option F5):Option F5:=r.map λs=>{ s with l6:= .obj (O st.H)::s.l6 }
def jU {st s' :F5}{r:Option F5}(h:dm st r=J s'):∃s,r=J s/\s' ={ s with l6:= .obj (O st.H)::s.l6 }:=by
 cases r with
 |none=>cases h
 |some s=>cases h;exact ⟨s,rfl,rfl⟩
def B9 (E:Env)(j8:List x9)(z6:Option Nat)(k:Nat)(st:F5):F0->Option F5
 | .alloc zero=>J (put (C8 st z6 (.cells zero)) k (.ptr (newId st z6) 0))
 | .box x=>match (F1 st.T st.L x).cells? with
  |some l=>J (put (C8 st z6 (.cells l)) k (.ptr (newId st z6) 0))
  |none=>K
 | .makeMap=>J (put (C8 st z6 (.map [])) k (.map (newId st z6)))
 | .mW x=>J (put st k (.d x))
 | .own sz x=>match O6 E.lim j8 st sz x with
  |some (len,cells,st')=>J (put st' k (.own sz len cells))
  |none=>K
 | .gw sz zero x y=>match oL sz zero (F1 st.T st.L x) (F1 st.T st.L y) with
  |some n=>J (put (C8 st z6 (.cells (c8 n zero).flatten)) k (.r7 (newId st z6) sz 0 n))
  |none=>K
 | .M8 sz len zero parts W=>match T4 zero (parts.map λ(o,s,x)=>(o,s,F1 st.T st.L x)) with
  |some cs=>if 0<sz/\O cs=len * sz then J (put (C8 st z6 (.cells cs)) k (.r7 (newId st z6) sz 0 len)) else K
  |none=>K
 | .store n a x=>O4 E k n st (F1 st.T st.L a) x
 | .append sz bytes ob x y =>
  match F1 st.T st.L x with
  | .r7 id z lo len=>if z=sz then S0 E k sz bytes st id lo len (F1 st.T st.L y) else K
  |_=>J1 E j8 z6 k sz bytes ob st x (F1 st.T st.L y)
 | .M3 sz bytes x y =>
  dm st <| match F1 st.T st.L x with
  | .r7 id z lo len=>if z=sz then Q0 E K k sz bytes st id lo len (F1 st.T st.L y) else K
  |_=>J1 E j8 K k sz bytes W st x (F1 st.T st.L y)
 | .clear sz zero x=>T6 E k sz zero st (F1 st.T st.L x)
 | .call f xs=>B7 E k f (xs.map (F1 st.T st.L)) st
 | .bJ x xs=>match F1 st.T st.L x with
  | .func f first caps=>B7 E k f (first++xs.map (F1 st.T st.L)++caps) st
  |_=>K
 | .dI kk m key v=>Q6 E k kk st (F1 st.T st.L m) (F1 st.T st.L key) (F1 st.T st.L v)
 | .defer x=>match F1 st.T st.L x with
  | .func f _ _=>if E.idle f then J (put st k .any) else K
  |_=>K
 |_=>K
def F0.A9:F0->Bool
 | .alloc _=>W
 | .box _=>W
 | .makeMap=>W
 | .gw .. =>W
 | .M8 _ _ _ _ b=>b
 | .store .. =>W
 | .append .. =>W
 | .M3 .. =>W
 | .call .. =>W
 | .bJ .. =>W
 | .dI .. =>W
 | .clear .. =>W
 | .defer _=>W
 | .mW _=>W
 | .own .. =>W
 |_=>F
def C9 (st:F5)(k:Nat):Option Nat->Option F5
 |none=>J st
 |some s =>
  if s<O st.T then
   J { (E2 st (.loc k)).2 with T:=st.T.set s (E2 st (.loc k)).1,l6:= .slot s::st.l6 }
  else K
def Q4 (st:F5)(k:Nat):Option Nat->Option F5
 |none=>J st
 |some s =>
  if s<O st.T&&st.l6.any (Touch.P9 s) then
   J { (E2 st (.loc k)).2 with T:=st.T.set s (E2 st (.loc k)).1 }
  else K
def s8 (z6:Option Nat)(st:F5)(k:Nat)(dst:Option Nat):Option F5 :=
 match z6 with
 |none=>C9 st k dst
 |some _=>Q4 st k dst
def y5 (L:List c7):Option (Nat×Bool)->Option Bool
 |none=>J W
 |some (j,want)=>match L[j]? with
  |some (.d (.bool b))=>J (b==want)
  |some (.tuple [])=>J F
  |_=>K
def B1 (E:Env)(j8:List x9)(z6:Option Nat)(k:Nat)(op:F0)(st:F5):Option (F5×List Nat) :=
 if op.A9 then
  match B9 E j8 z6 k st op with
  |some st' =>J (st',[])
  |none=>K
 else
  match op with
  | .dJ x=>J (put (E2 st x).2 k (E2 st x).1,[])
  |op=>match l5 (F1 st.T st.L) st.H op with
   |some (v,rs)=>J (put st k v,rs)
   |none=>K
def x8 (E:Env)(j8:List x9)(z6:Option Nat)(k:Nat)(i:x9)(st:F5):Option (F5×List Nat) :=
 match y5 st.L i.guard with
 |some W =>
  match B1 E j8 z6 k i.op st with
  |some (st',rs)=>match s8 z6 st' k i.dst with
   |some st2=>J (st2,rs)
   |none=>K
  |none=>K
 |some F=>match s8 z6 (put st k (.tuple [])) k i.dst with
  |some st2=>J (st2,[])
  |none=>K
 |none=>K
def eH (E:Env)(j8:List x9):List x9->Nat->F5->Option F5
 |[],_,st=>J st
 |i::is,k,st=>match x8 E j8 K k i st with
  |some (st',_)=>eH E j8 is (k+1) st'
  |none=>K
def F0.y3:F0->Bool
 | .alloc _=>W
 | .box _=>W
 | .makeMap=>W
 | .gw .. =>W
 | .M8 _ _ _ _ ob=>ob
 | .append _ _ ob _ _=>ob
 | .mW _=>W
 |_=>F
def F0.makes:F0->Bool
 | .mW _=>F
 |op=>op.y3
def E6 (hs:List Touch)(rs:List Nat):Bool:=hs.any λt=>rs.any λid=>t.E3 id
structure cT where
 reads:List Nat
 Co:List Touch
 Je:Nat
 id:Nat
def F8 (E:Env)(st:F5):F0->Nat
 | .call f xs=>if E.prom f then O st.H else D4 st.H E.lim.strict 8 (A2 (xs.map (F1 st.T st.L)))
 | .bJ x xs=>match F1 st.T st.L x with
  | .func f first caps=>if E.prom f then O st.H else D4 st.H E.lim.strict 8 (A2 (first++xs.map (F1 st.T st.L)++caps))
  |_=>0
 | .M3 _ _ x y=>max (F1 st.T st.L x).F4 (F1 st.T st.L y).F4
 |_=>0
def F2 (st:F5):F0->Bool
 | .append _ _ _ x _=>match F1 st.T st.L x with
  | .r7 _ _ _ _=>W
  |_=>F
 |_=>F
def W8:Option Nat->List Touch
 |some n=>[.obj n]
 |none=>[]
def T0 (E:Env)(i:x9)(z6:Option Nat)(st st' :F5)(rs:List Nat):cT :=
 ⟨rs,W8 z6++st'.l6.take (O st'.l6 - O st.l6),F8 E st i.op,z6.getD 0⟩
def calm (st:F5)(op:F0)(a:x9):Bool:=match op,a.op with
 | .append _ _ _ x _,.dJ (.slot s)=>a.dst.isNone&&a.guard.isNone&&(match F1 st.T st.L x,st.T[s]? with
  | .r7 id _ _ _,J (.ptr j _)=> !Nat.beq j id
  |_,_=>F)
 |_,_=>F
def eS (E:Env)(j8:List x9)(z6:Option Nat)(k:Nat)(i:x9)(st:F5):Option (F5×cT) :=
 if F2 st i.op&&j8.any (λa=>a.Y2.contains k&& !calm st i.op a) then K else
 match x8 E j8 z6 k i st with
 |some (st',rs)=>J (st',T0 E i z6 st st' rs)
 |none=>K
def M4 (E:Env)(j8:List x9):List x9->Nat->Nat->F5->Option (F5×List cT)
 |[],_,_,st=>J (st,[])
 |i::is,k,na,st=>match eS E j8 (if i.op.y3 then J na else K) k i st with
  |some (st',l) =>
   match M4 E j8 is (k+1) (if i.op.y3 then na+1 else na) st' with
   |some (st2,lg)=>J (st2,l::lg)
   |none=>K
  |none=>K
def aT (j8:List x9)(lg:List cT):Bool :=
 (j8.zip lg).all λ(i,l)=>i.Y2.all λe=>match lg[e]? with
  |some le=> !E6 le.Co l.reads&&(!i.op.makes||decide (le.Je<=l.id))
  |none=>F
def S8 (j8:List x9):k9:=(j8.filter (·.op.y3)).map λ_=> .dead
def slotsOf (j8:List x9):List Touch:=j8.filterMap λi=>if i.op.y3 then i.dst.map .slot else K
def P0 (E:Env)(j8:List x9)(draw:Bool)(T:List c7)(H:k9):Option F5 :=
 if draw then
  match M4 E j8 j8 0 (O H) ⟨T,H++S8 j8,c8 (O j8) .any,slotsOf j8⟩ with
  |some (st,lg)=>if aT j8 lg then J st else K
  |none=>K
 else eH E j8 j8 0 ⟨T,H,c8 (O j8) .any,[]⟩
inductive G6 where
 |normal
 |exit (id:Nat)
 |ret
 deriving Inhabited
structure St where
 T:List c7
 H:k9
def P8:List Bool->List c7->List c7
 |true::m,v::vs=>v::P8 m vs
 |false::m,_::vs=> .any::P8 m vs
 |[],_::vs=> .any::P8 [] vs
 |_,[]=>[]
def clean (mask:List Bool)(strict n:Nat)(st:St):St :=
 if A2 (P8 mask st.T)<=n/\D3 ((st.H.take n).drop strict)<=n then ⟨P8 mask st.T,st.H.take n⟩ else ⟨P8 mask st.T,st.H⟩
def iG (body:St->Option (G6×St))(mask:List Bool)(strict n:Nat):Nat->St->Option (G6×St)
 |0,_=>K
 |k+1,st=>match body (clean mask strict n st) with
  |some (.normal,st')=>iG body mask strict n k st'
  |r=>r
def pE:List c7->Nat->Option (Nat×Nat×Nat×Nat×Nat)
 |[],_=>K
 | .r7 id sz lo len::_,i=>J (i,id,sz,lo,len)
 |_::r,i=>pE r (i+1)
def oF (lim:F9)(entry s:Nat)(st:St):Option St :=
 match st.T[s]? with
 |some (.ptr b 0)=>match st.H[b]? with
  |some (.cells cs)=>match pE cs 0 with
   |some (i,id,sz,lo,len)=>match rd st.H id lo (len * sz) with
    |some vs=>match H7 vs with
     |some xs =>
      if lim.base<=id/\entry<=id/\lim.may id=W/\lim.base<=b/\id≠b then
       J ⟨K8 id st.T,((st.H.take lim.base++(st.H.drop lim.base).map (s6.kill id)).set id .dead).set b (.cells ((K8 id cs).set i (.d (.slice len xs))))⟩
      else K
     |none=>K
    |none=>K
   |none=>K
  |_=>K
 |_=>K
mutual
def c7.forget:c7->c7
 | .d (.slice n [])=> .d (.slice n [])
 | .d (.slice _ (_::_))=> .any
 | .own _ _ _=> .any
 | .Y4 _=> .any
 | .agg l=> .agg (N5 l)
 | .tuple l=> .tuple (N5 l)
 | .func f a b=> .func f (N5 a) (N5 b)
 |v=>v
def N5:List c7->List c7
 |[]=>[]
 |v::vs=>v.forget::N5 vs
end
def s6.forget:s6->s6
 | .dead=> .dead
 | .cells l=> .cells (N5 l)
 | .map es=> .map (es.map λp=>(p.1,p.2.forget))
def Data.flat:Data->Bool
 | .slice _ _=>F
 |_=>W
def sG:List c7->Nat->Option (Nat×Nat×Nat×List Data)
 |[],_=>K
 | .own sz len xs::_,i=>J (i,sz,len,xs)
 |_::r,i=>sG r (i+1)
def DQ (lim:F9)(entry s:Nat)(st:St):Option St :=
 match st.T[s]? with
 |some (.ptr b 0)=>match st.H[b]? with
  |some (.cells cs)=>match sG cs 0 with
   |some (i,sz,len,xs) =>
    if len=0 then J st else
    if entry=0/\lim.base=0/\lim.strict=0/\xs.all Data.flat=W then
     J ⟨N5 st.T,(st.H.map s6.forget).set b (.cells ((N5 cs).set i (.r7 (O st.H) sz 0 len)))++[.cells (xs.map .d)]⟩
    else K
   |none=>K
  |_=>K
 |some (.own sz len xs) =>
  if len=0 then J st else
  if entry=0/\lim.base=0/\lim.strict=0/\xs.all Data.flat=W then
   J ⟨(N5 st.T).set s (.r7 (O st.H) sz 0 len),st.H.map s6.forget++[.cells (xs.map .d)]⟩
  else K
 |none=>if entry=0/\lim.base=0/\lim.strict=0 then J ⟨st.T,st.H++[.dead]⟩ else K
 |_=>K
def jN (lim:F9)(entry s:Nat)(st:St):Option St :=
 match oF lim entry s st with
 |some r=>J r
 |none=>DQ lim entry s st
def exec (E:Env)(lim:Nat):K7->St->Option (G6×St)
 | .skip,st=>J (.normal,st)
 | .region ops draw,st=>match P0 E ops draw st.T st.H with
  |some r=>J (.normal,⟨r.T,r.H⟩)
  |none=>K
 | .seq a b,st=>match exec E lim a st with
  |some (.normal,st')=>exec E lim b st'
  |r=>r
 | .cond c a b,st=>match F1 st.T [] c with
  | .d (.bool W)=>exec E lim a st
  | .d (.bool F)=>exec E lim b st
  |_=>K
 | .test ops draw c a b,st=>match P0 E ops draw st.T st.H with
  |some r=>match F1 r.T r.L c with
   | .d (.bool W)=>exec E lim a ⟨r.T,r.H⟩
   | .d (.bool F)=>exec E lim b ⟨r.T,r.H⟩
   |_=>K
  |none=>K
 | .block id body,st=>match exec E lim body st with
  |some (.exit id',st')=>if id' =id then J (.normal,st') else J (.exit id',st')
  |r=>r
 | .loop mask body,st=>iG (exec E lim body) mask E.lim.strict (O st.H) lim st
 | .exit id,st=>J (.exit id,st)
 | .ret,st=>J (.ret,st)
 | .fz s,st=>match jN E.lim E.entry s st with
  |some st' =>J (.normal,st')
  |none=>K
 | .bad,_=>K
def jq (T:List c7)(H:k9):Eo->Option c7
 | .slot s=>T[s]?
 | .cell s K=>match T[s]? with
  |some (.ptr id off)=>match rd H id off 1 with
   |some [v]=>J v.I7
   |_=>K
  |_=>K
 | .cell s (J n)=>match T[s]? with
  |some (.ptr id off)=>match rd H id off n with
   |some vs=>J (.agg (vs.map c7.I7))
   |none=>K
  |_=>K
def V2 (T:List c7)(H:k9):List Eo->Option (List c7)
 |[]=>J []
 |r::rs=>match jq T H r with
  |some v=>match V2 T H rs with
   |some vs=>J (v::vs)
   |none=>K
  |none=>K
def j5:List c7->c7
 |[v]=>v
 |vs=> .tuple (vs.map c7.I7)
def X6 (H:k9)(n:Nat):Nat->List c7->Option (List c7)
 |0,_=>K
 |_+1,[]=>J []
 |fuel+1,v::vs =>
  match X6 H n fuel vs with
  |none=>K
  |some ws =>
   match v with
   | .r7 id sz lo len =>
    if id<n then J (.r7 id sz lo len::ws) else
    match rd H id lo (len * sz) with
    |some us=>match X6 H n fuel us with
     |some us' =>match H7 us' with
      |some xs=>J (.d (.slice len xs)::ws)
      |none=>K
     |none=>K
    |none=>K
   | .agg l=>match X6 H n fuel l with
    |some l' =>J (.agg l' ::ws)
    |none=>K
   | .tuple l=>match X6 H n fuel l with
    |some l' =>J (.tuple l' ::ws)
    |none=>K
   |v=>J (v::ws)
structure Prog where
 fn:FuncId->Option p6
 idle:FuncId->Bool
 mode:FuncId->Nat
 aB:FuncId->Option (List c7->k9->F9->Option (c7×k9))
def Prog.prom (A:Prog)(f:FuncId):Bool:=match A.fn f with
 |some af=>af.eY
 |none=>F
def finish (eY:Bool)(n:Nat)(vs:List c7)(H:k9):Option (c7×k9) :=
 if eY then J (j5 vs,H) else
 match X6 H n 1000000 [j5 vs] with
 |some [v]=>if v.F4<=n then J (v,H.take n) else K
 |_=>K
def dZ (A:Prog)(cf:nW)(lim:Nat)(af:p6)(args:List c7)(H:k9)(l:F9):Option (c7×k9) :=
 if O args=af.nparams then
  match exec ⟨cf,A.prom,A.mode,A.idle,l,O H⟩ lim af.body ⟨args++c8 (O af.names - O args) .any,H⟩ with
  |some (.exit _,_)=>K
  |some (_,st) =>
   match V2 st.T st.H af.results with
   |some vs=>finish af.eY (O H) vs st.H
   |none=>K
  |none=>K
 else K
def call (A:Prog):Nat->nW
 |0=>λ_ _ _ _=>K
 |n+1=>λf args H l =>
  match A.aB f with
  |some p=>p args H l
  |none=>match A.fn f with
   |some af=>dZ A (call A n) n af args H l
   |none=>K
inductive Place where
 |slot (s:Nat)
 |loc (j:Nat)
 |cell (id off:Nat)
 |none
 |ret
 deriving DecidableEq
inductive HB where
 |free
 |gO
 |held (n:Nat)
 |obj (id:Nat)
 |grow (n:Nat) (pl:Place)
 deriving DecidableEq
abbrev Gh:=Nat->HB
abbrev O5:=Nat->Nat×Nat
def eT (G:Gh)(b o:Nat):Prop :=
 match G b with
 | .gO=>True
 | .held n=>o<n
 | .grow n _=>o<n
 |_=>False
abbrev ad (b o:Nat):Addr:=⟨b,o,Option.none⟩
mutual
def DR (G:Gh)(w:World):Data->Value->Prop
 | .bool b,v=>v= .bool b
 | .int k n,v=>v= .int k n
 | .str s,v=>v= .string ⟨s.toArray⟩
 | .slice len cells,v=>((v= .slice Option.none 0 0\/∃a,v= .slice (J a) 0 0)/\len=0/\cells=[]) \/
   ∃b o cap,v= .slice (J (ad b o)) len cap/\len<=cap/\cS G w b o cells
 | .dK,v=>v= .pointer Option.none
 | .gB,v=>v= .nilFunc
 | .jl,v=>v= .map Option.none
 | .nilIface,v=>v= .nilIface
def cS (G:Gh)(w:World)(b:Nat):Nat->List Data->Prop
 |_,[]=>True
 |o,c::cs=>eT G b o/\(∃x,w.cell? (ad b o)=J x/\DR G w c x)/\cS G w b (o+1) cs
end
def Et (f:Nat×Nat)(n:Nat):Prop:=∀o,o<n->¬ (f.1<=o/\o<f.2)
mutual
def VR (G:Gh)(I:O5)(N:Nat->Prop)(w:World):Place->c7->Value->Prop
 |_,.any,_=>True
 |_,.d x,v=>DR G w x v
 |_,.ptr id off,v=>N id/\v= .pointer (J (ad (I id).1 ((I id).2+off)))
 |_,.Y4 cells,v=>∃b o,v= .pointer (J (ad b o))/\cS G w b o cells
 |_,.r7 id sz lo len,v=>N id/\∃cap,v= .slice (J (ad (I id).1 ((I id).2+lo))) len cap/\len<=cap /\
   ∃c e f,w.heap[(I id).1]? =J (.cells c e f)/\(I id).2+lo+cap * sz<=c.size
 |pl,.own sz len cells,v=>O cells=len * sz /\
   (((v= .slice Option.none 0 0\/∃b o,v= .slice (J (ad b o)) 0 0)/\len=0) \/
    (pl≠ .none/\∃b o cap c e f,v= .slice (J (ad b o)) len cap/\len<=cap/\w.heap[b]? =J (.cells c e f)/\o+cap * sz<=c.size/\Et f c.size /\
     G b= .grow (o+len * sz) pl/\cS G w b o cells))
 |_,.N9,v=>v= .slice Option.none 0 0
 |_,.agg l,v=>∃cs:Array Value,v= .agg cs/\H6 G I N w l cs.toList
 |_,.tuple l,v=>∃cs:Array Value,v= .tuple cs/\H6 G I N w l cs.toList
 |_,.func f a b,v=>∃x y:Array Value,v= .func (.func f) x y/\H6 G I N w a x.toList/\H6 G I N w b y.toList
 |_,.map id,v=>N id/\v= .map (J (I id).1)
def H6 (G:Gh)(I:O5)(N:Nat->Prop)(w:World):List c7->List Value->Prop
 |[],vs=>vs=[]
 |a::as,vs=>∃x xs,vs=x::xs/\VR G I N w .none a x/\H6 G I N w as xs
end
def KD.val:KD->Value
 | .i k n=> .int k n
 | .s x=> .string ⟨x.toArray⟩
 | .b t=> .bool t
def Key.val:Key->Value
 | .int k n=> .int k n
 | .str x=> .string ⟨x.toArray⟩
 | .bool t=> .bool t
 | .st l=> .agg (l.map KD.val).toArray
def ER (G:Gh)(I:O5)(N:Nat->Prop)(w:World):List (Key×c7)->List MapEntry->Prop
 |[],es=>es=[]
 |(k,v)::r,es=>∃e es',es=e::es' /\e.key=k.val/\VR G I N w .none v e.val/\ER G I N w r es'
structure Bq (arr:Array MapEntry)(cV:Nat):Prop where
 old:∀e∈arr.toList,e.born<cV
 nodup:(arr.toList.map (·.born)).Nodup
theorem Bq.push {arr:Array MapEntry}{cV:Nat}(h:Bq arr cV)(k v:Value):Bq (arr.push { key:=k,val:=v,born:=cV }) (cV+1) where
 old e he:=by
  rw [Array.toList_push] at he
  rcases A5.1 he with he|he
  .exact Nat.lt_succ_of_lt (h.old e he)
  simp_all
 nodup:=by
  rw [Array.toList_push,List.map_append,List.nodup_append];refine ⟨h.nodup,U,λa ha b hb=>?_⟩;simp [E8,List.map_nil,L1] at hb;obtain ⟨e,he,rfl⟩:=List.mem_map.1 ha;have:=h.old e he;omega
theorem Bq.modify {arr:Array MapEntry}{cV:Nat}(h:Bq arr cV)(j:Nat)(g:MapEntry->MapEntry)(hg:∀e,(g e).born=e.born):Bq (arr.modify j g) cV:=by
 have e1:(arr.modify j g).toList.map (·.born)=arr.toList.map (·.born):=by
  apply List.ext_getElem?
  grind
 refine ⟨λe he=>?_,by rw [e1];exact h.nodup⟩;have:e.born∈arr.toList.map (·.born):=by
  grind
 obtain ⟨e',he',hb⟩:=List.mem_map.1 this;rw [<- hb];exact h.old e' he'
def OR (G:Gh)(I:O5)(N:Nat->Prop)(w:World)(id:Nat):s6->Prop
 | .dead=>True
 | .cells l=>N id/\∃c e f,w.heap[(I id).1]? =J (.cells c e f)/\G (I id).1= .obj id/\Et f c.size/\(I id).2+O l<=c.size /\
   ∀i x,l[i]? =J x->∃v,c[(I id).2+i]? =J v/\VR G I N w (.cell id i) x v
 | .map es=>N id/\∃arr cV,w.heap[(I id).1]? =J (.map arr cV)/\G (I id).1= .obj id/\ER G I N w es arr.toList/\Bq arr cV
def HR (G:Gh)(I:O5)(N:Nat->Prop)(w:World)(H:k9):Prop:=∀id o,H[id]? =J o->OR G I N w id o
def WF (G:Gh)(w:World):Prop:=∀b,w.heap.size<=b->G b= .free
structure Sub (G:Gh)(w:World)(G' :Gh)(w' :World):Prop where
 gO:∀b o:Nat,eT G b o->eT G' b o/\w'.cell? (ad b o)=w.cell? (ad b o)
 shape:∀(b:Nat) (c:Array Value) (e:TypeId) (f:Nat×Nat),w.heap[b]? =J (Obj.cells c e f)->∃c' :Array Value,w'.heap[b]? =J (Obj.cells c' e f)/\c'.size=c.size
class D2 where
 on:Prop
section
variable [D2]
structure Ext (G:Gh)(w:World)(G' :Gh)(w' :World):Prop where
 os:w'.os=w.os
 tape:w'.tape=w.tape
 output:w'.output=w.output
 drawn:D2.on->w.drawn<=w'.drawn
 size:w.heap.size<=w'.heap.size
 gO:∀b o:Nat,eT G b o->eT G' b o/\w'.cell? (ad b o)=w.cell? (ad b o)
 still:∀b:Nat,(G b= .gO\/∃n,G b= .held n)->G' b=G b/\w'.heap[b]? =w.heap[b]?
 shape:∀(b:Nat) (c:Array Value) (e:TypeId) (f:Nat×Nat),w.heap[b]? =J (Obj.cells c e f)->∃c' :Array Value,w'.heap[b]? =J (Obj.cells c' e f)/\c'.size=c.size
def Ext.sub {G:Gh}{w:World}{G' :Gh}{w' :World}(h:Ext G w G' w'):Sub G w G' w' :=⟨h.gO,h.shape⟩
instance {G:Gh} {w:World} {G' :Gh} {w' :World}:CoeOut (Ext G w G' w') (Sub G w G' w'):=⟨Ext.sub⟩
theorem Ext.refl (G:Gh)(w:World):Ext G w G w :=
 ⟨rfl,rfl,rfl,λ_=>j9 _,j9 _,λ_ _ h=>⟨h,rfl⟩,λ_ _=>⟨rfl,rfl⟩,λ_ c _ _ h=>⟨c,h,rfl⟩⟩
theorem Ext.trans {G:Gh}{w:World}{G1:Gh}{w1:World}{G2:Gh}{w2:World}(h:Ext G w G1 w1)(k:Ext G1 w1 G2 w2):Ext G w G2 w2 where
 os:=k.os.trans h.os
 tape:=k.tape.trans h.tape
 output:=k.output.trans h.output
 drawn o:=p7 (h.drawn o) (k.drawn o)
 size:=p7 h.size k.size
 gO b o hi:=by
  obtain ⟨a1,a2⟩:=h.gO b o hi;obtain ⟨b1,b2⟩:=k.gO b o a1;simp_all
 still b hb:=by
  obtain ⟨a1,a2⟩:=h.still b hb;obtain ⟨b1,b2⟩:=k.still b M;simp_all
 shape b c e f hc:=by
  obtain ⟨c1,h1,s1⟩:=h.shape b c e f hc;obtain ⟨c2,h2,s2⟩:=k.shape b c1 e f h1;simp_all
def Ext.drew {G:Gh}{w:World}{G' :Gh}{w' :World}(h:Ext G w G' w')(n:Nat)(hn:w'.drawn<=n):Ext G w G' { w' with drawn:=n } :=
 ⟨h.os,h.tape,h.output,λo=>p7 (h.drawn o) hn,h.size,h.gO,h.still,h.shape⟩
end
mutual
theorem DR.mono {G:Gh}{w:World}{G' :Gh}{w' :World}
  (h:∀b o,eT G b o->eT G' b o/\w'.cell? (ad b o)=w.cell? (ad b o)):∀(d:Data) (v:Value),DR G w d v->DR G' w' d v
 | .bool _,_,hd=>by simp_all [DR]
 | .int _ _,_,hd=>by simp_all [DR]
 | .str _,_,hd=>by simp_all [DR]
 | .slice _ cells,_,hd=>by
  simp [DR] at hd ⊢
  rcases hd with hd|⟨b,o,cap,h1,h2,h3⟩
  .simp_all
  .exact Or.inr ⟨b,o,cap,h1,h2,cS.mono h b o cells h3⟩
 | .dK,_,hd=>by simp_all [DR]
 | .gB,_,hd=>by simp_all [DR]
 | .jl,_,hd=>by simp_all [DR]
 | .nilIface,_,hd=>by simp_all [DR]
theorem cS.mono {G:Gh}{w:World}{G' :Gh}{w' :World}
  (h:∀b o,eT G b o->eT G' b o/\w'.cell? (ad b o)=w.cell? (ad b o)) (b:Nat):∀(o:Nat) (l:List Data),cS G w b o l->cS G' w' b o l
 |_,[],_=>by simp [cS]
 |o,c::cs,hd=>by
  obtain ⟨h1,⟨x,h2,h3⟩,h4⟩:=hd;obtain ⟨i1,i2⟩:=h b o h1;exact ⟨i1,⟨x,i2.trans h2,DR.mono h c x h3⟩,cS.mono h b (o+1) cs h4⟩
end
def X7 (pl:Place)(G:Gh)(w:World)(G' :Gh)(w' :World):Prop :=
 ∀b n,G b= .grow n pl->G' b= .grow n pl/\w'.heap[b]? =w.heap[b]?
mutual
theorem VR.mono {G:Gh}{I:O5}{N:Nat->Prop}{w:World}{G' :Gh}{I' :O5}{N' :Nat->Prop}{w' :World}(hx:Sub G w G' w')
  (hI:∀id,N id->I' id=I id) (hN:∀id,N id->N' id):∀(pl:Place) (a:c7) (v:Value),(pl= .none\/X7 pl G w G' w')->VR G I N w pl a v->VR G' I' N' w' pl a v
 |_,.any,_,_,_=>by simp [VR]
 |_,.d x,v,_,h=>by exact DR.mono hx.gO x v h
 |_,.ptr id off,v,_,h=>by
  simp_all [VR]
 |_,.Y4 cells,v,_,h=>by
  obtain ⟨b,o,h1,h2⟩:=h;exact ⟨b,o,h1,cS.mono hx.gO b o cells h2⟩
 |_,.r7 id sz lo len,v,_,h=>by
  simp only [VR] at h ⊢;obtain ⟨h1,cap,h2,h3,c,e,f,h4,h5⟩:=h;obtain ⟨c',g1,g2⟩:=hx.shape _ c e f h4;simp_all
 |pl,.own sz len cells,v,hk,h=>by
  obtain ⟨h0,h⟩:=h;refine ⟨h0,?_⟩
  rcases h with h|⟨hp,b,o,cap,c,e,f,h1,h2,h3,h4,h5,h6,h7⟩
  .simp_all
  .rcases hk with hk|hk
   .simp_all
   .obtain ⟨k1,k2⟩:=hk b _ h6
    exact Or.inr ⟨hp,b,o,cap,c,e,f,h1,h2,k2.trans h3,h4,h5,k1,cS.mono hx.gO b o cells h7⟩
 |_,.N9,v,_,h=>by simp_all [VR]
 |_,.agg l,v,_,h=>by
  obtain ⟨cs,h1,h2⟩:=h;exact ⟨cs,h1,H6.mono hx hI hN l _ h2⟩
 |_,.tuple l,v,_,h=>by
  obtain ⟨cs,h1,h2⟩:=h;exact ⟨cs,h1,H6.mono hx hI hN l _ h2⟩
 |_,.func f a b,v,_,h=>by
  obtain ⟨x,y,h1,h2,h3⟩:=h;exact ⟨x,y,h1,H6.mono hx hI hN a _ h2,H6.mono hx hI hN b _ h3⟩
 |_,.map id,v,_,h=>by
  simp_all [VR]
theorem H6.mono {G:Gh}{I:O5}{N:Nat->Prop}{w:World}{G' :Gh}{I' :O5}{N' :Nat->Prop}{w' :World}(hx:Sub G w G' w')
  (hI:∀id,N id->I' id=I id) (hN:∀id,N id->N' id):∀(l:List c7) (vs:List Value),H6 G I N w l vs->H6 G' I' N' w' l vs
 |[],_,h=>by grind [H6]
 |a::as,vs,h=>by
  obtain ⟨x,xs,h1,h2,h3⟩:=h;exact ⟨x,xs,h1,VR.mono hx hI hN .none a x (Or.inl rfl) h2,H6.mono hx hI hN as xs h3⟩
end
theorem ER.mono {G:Gh}{I:O5}{N:Nat->Prop}{w:World}{G' :Gh}{I' :O5}{N' :Nat->Prop}{w' :World}(hx:Sub G w G' w')
  (hI:∀id,N id->I' id=I id) (hN:∀id,N id->N' id):∀(l:List (Key×c7)) (es:List MapEntry),ER G I N w l es->ER G' I' N' w' l es
 |[],_,h=>by grind [ER]
 |(k,v)::r,es,h=>by
  obtain ⟨e,es',h1,h2,h3,h4⟩:=h;exact ⟨e,es',h1,h2,VR.mono hx hI hN .none _ _ (Or.inl rfl) h3,ER.mono hx hI hN r es' h4⟩
theorem OR.mono {G:Gh}{I:O5}{N:Nat->Prop}{w:World}{G' :Gh}{I' :O5}{N' :Nat->Prop}{w' :World}(hx:Sub G w G' w')
  (hI:∀id,N id->I' id=I id) (hN:∀id,N id->N' id) (id:Nat) (o:s6)
  (hb:G (I id).1= .obj id->G' (I id).1= .obj id/\w'.heap[(I id).1]? =w.heap[(I id).1]?)
  (hc:∀off,X7 (.cell id off) G w G' w') (h:OR G I N w id o):OR G' I' N' w' id o:=by
 cases o with
 |dead=>simp [OR]
 |cells l =>
  grind [OR,VR.mono]
 |map es =>
  grind [OR,ER.mono]
theorem VR.I7 {G:Gh}{I:O5}{N:Nat->Prop}{w:World}{pl tK :Place}:∀{a:c7} {v:Value},VR G I N w pl a v->VR G I N w tK a.I7 v
 | .any,_,_=>by simp [c7.I7,VR]
 | .d _,_,h=>by grind [c7.I7,VR]
 | .ptr _ _,_,h=>by grind [c7.I7,VR]
 | .Y4 _,_,h=>by grind [c7.I7,VR]
 | .r7 _ _ _ _,_,h=>by grind [c7.I7,VR]
 | .own sz len cells,v,h=>by
  simp [c7.I7,VR,DR] at h ⊢;obtain ⟨h0,h⟩:=h
  rcases h with ⟨h1,h2⟩|⟨hp,b,o,cap,c,e,f,h1,h2,h3,h4,h5,h6,h7⟩
  all_goals (simp_all [cS]<;>grind)
 | .N9,v,h=>by
  simp_all [c7.I7,VR,DR,trivial]
 | .agg _,_,h=>by grind [c7.I7,VR]
 | .tuple _,_,h=>by grind [c7.I7,VR]
 | .func _ _ _,_,h=>by grind [c7.I7,VR]
 | .map _,_,h=>by grind [c7.I7,VR]
theorem VR.Jx {G:Gh}{I:O5}{N:Nat->Prop}{w:World}{pl tK :Place}{a:c7}{v:Value}(h:VR G I N w pl a v):VR G I N w tK a.Jx v:=by
 cases a
 case N9=>simp_all [c7.Jx,VR]
 all_goals exact h.I7
def Km {u:c7}(h:u.I7=u):u.Jx=u:=by
 cases u
 case N9=>rfl
 all_goals exact h
def Ac:Value->c7->Bool
 |_,.any=>W
 | .bool b,.d (.bool c)=>b==c
 | .int k n,.d (.int k' n')=>k==k' &&n==n'
 | .string s,.d (.str l)=>s.data.toList==l
 | .slice Option.none 0 0,.own _ 0 []=>W
 | .slice Option.none 0 0,.N9=>W
 | .slice Option.none 0 0,.d (.slice 0 [])=>W
 | .pointer Option.none,.d .dK=>W
 | .map Option.none,.d .jl=>W
 | .nilFunc,.d .gB=>W
 | .nilIface,.d .nilIface=>W
 |_,_=>F
def consts:List Value->List c7->Bool
 |[],[]=>W
 |v::vs,a::as=>Ac v a&&consts vs as
 |_,_=>F
def tT:Value->c7->Bool
 | .agg cs,.agg l=>consts cs.toList l
 |v,a=>Ac v a
structure Cx where
 P:Program
 names:List Tmp
 ops:Array Oper
def Cx.ck (X:Cx)(d9:Nat->Bool):Operand->A3->Bool
 | .tmp t,.slot s=>X.names[s]? ==J t
 | .tmp t,.loc j=>d9 j&&((X.ops[j]?).bind (·.dst))==J t&& !X.names.contains t
 | .const v,.const a=>tT v a
 | .func f,.const (.func g [] [])=>f==g
 |_,.const .any=>W
 |_,_=>F
def Kc (ck:Operand->A3->Bool):List Operand->List A3->Bool
 |[],[]=>W
 |x::xs,y::ys=>ck x y&&Kc ck xs ys
 |_,_=>F
def PZ (ck:Operand->A3->Bool):Option Operand->Option A3->Bool
 |none,K=>W
 |some x,J y=>ck x y
 |_,_=>F
def aI (P:Program)(t:TypeId):Option Bool :=
 match P.underlying t with
 |some (.struct _)=>J W
 |some (.array _ _)=>J W
 |some _=>J F
 |none=>K
def nF (P:Program)(t:TypeId):Option Nat->Bool
 |none=>aI P t==J F
 |some n=>aI P t==J W&&P.cellsOf t==n&&decide (0<n)
def iE (P:Program)(t:TypeId)(sz:Nat):Bool :=
 match P.underlying t with
 |some (.slice e)=>P.cellsOf e==sz&&(P.info? e).isSome
 |_=>F
def cE (P:Program)(t:TypeId):CK->Bool
 | .i=>match P.underlying t with
  |some (.int _)=>W
  |_=>F
 | .s=>match P.underlying t with
  |some .string=>W
  |_=>F
 | .b=>match P.underlying t with
  |some .bool=>W
  |_=>F
def P7 (P:Program):List Field->Nat->List CK->Bool
 |[],_,[]=>W
 | f :: fs, n, k :: ks => f.name != "_" && cE P f.type k && f.offset == n && P7 P fs (n + 1) ks
 |_,_,_=>F
def fK (P:Program)(t:TypeId)(ks:List CK):Bool :=
 match P.underlying t with
 |some (.struct fs)=>P7 P fs.toList 0 ks&& !P.stoodInHeld t&& !P.eqGuardType P.depth t
 |_=>F
def bS (P:Program):List Field->Nat->List CK->Bool
 |[],_,[]=>W
 |[],_,_::_=>F
 | f :: fs, n, ks => f.name != "_" && f.offset == n &&
  (match P.underlying f.type with
  |some (.struct gs)=>(P.info? f.type).isSome&&P.cellsOf f.type==gs.size&&P7 P gs.toList 0 (ks.take gs.size)&& !P.stoodInHeld f.type&&bS P fs (n+gs.size) (ks.drop gs.size)
  |_=>(match ks with
   |k::r=>cE P f.type k&&bS P fs (n+1) r
   |[]=>F))
def si (P:Program)(t:TypeId)(ks:List CK):Bool :=
 match P.underlying t with
 |some (.struct fs)=>bS P fs.toList 0 ks&& !P.stoodInHeld t&& !P.eqGuardType P.depth t
 |_=>F
def qL (P:Program)(t:TypeId):KK->Bool
 | .i=>cE P t .i
 | .s=>cE P t .s
 | .b=>cE P t .b
 | .st ks=>fK P t ks
def gC (P:Program)(ck:Operand->A3->Bool)(place:Nat->Option (Nat×Nat)):List (Nat×Operand)->List (Nat×Nat×A3)->Bool
 |[],[]=>W
 |(i,x)::r,(off,sz,y)::q=>place i==J (off,sz)&&ck x y&&gC P ck place r q
 |_,_=>F
def rZ (P:Program)(fs:List Field):Option (List (Nat×Nat)):=fs.mapM λf=>(P.info? f.type).map λi=>(f.offset,i.size)
def rJ (P:Program)(t:TypeId)(l:List c7):Bool :=
 match P.info? t with
 |some i=>match i.zero with
  |some z=>consts z.cells.toList l
  |none=>F
 |none=>F
def D8 (P:Program)(ck:Operand->A3->Bool)(o:Oper)(op:F0):Bool :=
 match o.op,op with
 | .pick c a b,.pick c' a' b' =>ck c c' &&ck a a' &&ck b b'
 | .load t x,.load n y=>ck x y&&nF P t n
 | .nilCheck x,.oT y=>ck x y
 | .binOp b _ x y _,.bin b' x' y' =>b==b' &&ck x x' &&ck y y'
 | .binOp b t x (.const (.slice Option.none 0 0)) _,.xJ neg x' =>ck x x' &&(match P.underlying t with|some (.slice _)=>W|_=>F)&&(if neg then b== .neq else b== .eql)
 | .binOp b t x y _,.x4 neg x' y' =>ck x x' &&ck y y' &&(match P.underlying t with|some .bool=>W|_=>F)&&(if neg then b== .neq else b== .eql)
 | .binOp b t x y _,.NL neg ks x' y' =>ck x x' &&ck y y' &&si P t ks&&(if neg then b== .neq else b== .eql)
 | .unOp b _ x,.un b' x' =>b==b' &&ck x x'
 | .convert s d x,.ox k y=>ck x y&&(P.underlying s).isSome&&(match P.underlying d with|some (.int k')=>k==k' |_=>F)
 | .convert s d x,.kz y=>ck x y&&(match P.underlying s with|some (.slice e)=>(match P.underlying e with|some (.int .u8)=>W|_=>F)|_=>F)&&(match P.underlying d with|some .string=>W|_=>F)
 | .slice t x lo hi K,.bE sz y lo' hi' =>ck x y&&PZ ck lo lo' &&PZ ck hi hi' &&iE P t sz&&decide (0<sz)
 | .fieldAddr s x f,.off k y=>ck x y&&(match P.underlying s with
  |some (.struct fs)=>(match fs[f]? with
   |some fd=>fd.offset==k&&decide (0<P.cellsOf fd.type)
   |none=>F)
  |_=>F)
 | .indexAddr t x i,.gN sz y j=>ck x y&&ck i j&&iE P t sz
 | .indexAddr t x i,.tw n sz y j=>ck x y&&ck i j&&(match P.underlying t with|some (.array m e)=>m==n&&P.cellsOf e==sz&&(P.info? e).isSome|_=>F)
 | .index t x i,.F7 y j=>ck x y&&ck i j&&(match P.underlying t with|some .string=>W|_=>F)
 | .extract x i,.extract y j=>ck x y&&i==j
 | .field t x f,.NR y j=>ck x y&&(match P.underlying t with
  |some (.struct fs)=>(match fs[f]? with
   |some fd=>fd.offset==j&&(aI P fd.type==J F)
   |none=>F)
  |_=>F)
 | .call { callee:= .builtin .len,args,argTypes },.len y=>(match args[0]?,argTypes[0]? with
  |some x,J t=>ck x y&&(match P.underlying t with|some (.slice _)=>W|_=>F)
  |_,_=>F)
 | .call { callee:= .builtin .len,args,argTypes },.U2 y=>(match args[0]?,argTypes[0]? with
  |some x,J t=>ck x y&&(match P.underlying t with|some .string=>W|_=>F)
  |_,_=>F)
 | .call { callee:= .builtin .max,args,.. },.gQ W ys=>Kc ck args.toList ys&&decide (2<=O ys)
 | .call { callee:= .builtin .min,args,.. },.gQ F ys=>Kc ck args.toList ys&&decide (2<=O ys)
 | .makeFunc (.func f) first caps,.jk g first' UG =>f==g&&Kc ck first.toList first' &&Kc ck caps.toList UG
 | .lookup t m k ok,.lookup kk zero LL m' k' =>ok==LL &&ck m m' &&ck k k' &&(match P.underlying t with
  |some (.map kt et)=>qL P kt kk&&(match P.info? et with
   |some i=>(match i.zero with
    |some z=>tT z zero
    |none=>F)
   |none=>F)
  |_=>F)
 | .build t parts,.build zero ps=>(match P.underlying t with
  |some (.struct fs)=>(match rZ P fs.toList with
   |some places=>rJ P t zero&&gC P ck (λi=>places[i]?) parts.toList ps
   |none=>F)
  |some (.array _ e)=>(match P.info? e with
   |some i=>rJ P t zero&&gC P ck (λj=>J (j * i.size,i.size)) parts.toList ps
   |none=>F)
  |_=>F)
 |_,_=>F
theorem ov {G:Gh}{I:O5}{N:Nat->Prop}{w:World}:∀(v:Value) (a:c7),Ac v a=W->VR G I N w .none a v:=by
 intro v a h;unfold Ac at h;split at h
 all_goals first
  |(done)
  |(simp at h;done)
  |(simp [VR,DR];done)
  |(simp only [VR,DR];simp_all;done)
  |skip
 next s l=>
  simp [VR,DR];have:s.data.toList=l:=by simpa using h
  subst this;simp
theorem cB {G:Gh}{I:O5}{N:Nat->Prop}{w:World}:∀(vs:List Value) (l:List c7),consts vs l=W->H6 G I N w l vs
 |[],[],_=>by simp [H6]
 |v::vs,a::as,h=>by
  simp [consts,c9] at h;exact ⟨v,vs,rfl,ov v a h.1,cB vs as h.2⟩
 |[],_::_,h=>by simp [consts] at h
 |_::_,[],h=>by simp [consts] at h
def aM {G:Gh}{I:O5}{N:Nat->Prop}{w:World}(v:Value)(a:c7)(h:tT v a=W):VR G I N w .none a v:=by
 unfold tT at h
 grind [VR,cB,ov]
theorem P6 {w:World}{b:Nat}{c:Array Value}{e:TypeId}{f:Nat×Nat}(h:w.heap[b]? =J (.cells c e f))(o:Nat):w.cell? (ad b o)=c[o]? :=by
 simp [World.cell?,h]
theorem W3 (b o n:Nat):(ad b o).add n=ad b (o+n):=by
 simp_all [Addr.add]
theorem cS.drop {G:Gh}{w:World}{b:Nat}:∀(n o:Nat) (l:List Data),cS G w b o l->cS G w b (o+n) (l.drop n)
 |0,_,_,h=>by simpa using h
 |n+1,o,[],_=>by simp [cS]
 |n+1,o,c::cs,h=>by
  have:=cS.drop n (o+1) cs h.2.2
  grind
theorem cS.take {G:Gh}{w:World}{b:Nat}:∀(n o:Nat) (l:List Data),cS G w b o l->cS G w b o (l.take n)
 |0,_,_,_=>by simp [cS]
 |n+1,o,[],_=>by simp [cS]
 |n+1,o,c::cs,h=>by
  simp_all [cS,List.take_succ_cons,cS.take]
theorem cS.vals {G:Gh}{I:O5}{N:Nat->Prop}{w:World}{b:Nat}:∀(o:Nat) (l:List Data),cS G w b o l ->
  ∃vs:List Value,O vs=O l/\(∀j v,vs[j]? =J v->w.cell? (ad b (o+j))=J v)/\H6 G I N w (l.map .d) vs
 |_,[],_=>⟨[],rfl,U,by simp [H6]⟩
 |o,c::cs,h=>by
  obtain ⟨h1,⟨x,h2,h3⟩,h4⟩:=h;obtain ⟨vs,g1,g2,g3⟩:=cS.vals (I:=I) (N:=N) (o+1) cs h4;simp_all [H6,VR]<;>grind
theorem H6.length {G:Gh}{I:O5}{N:Nat->Prop}{w:World}:∀(l:List c7) (vs:List Value),H6 G I N w l vs->O vs=O l
 |[],vs,h=>by simp_all [H6]
 |a::as,vs,h=>by
  obtain ⟨x,xs,h1,_,h3⟩:=h;subst h1;simp [H6.length as xs h3]
theorem HR.rd {G:Gh}{I:O5}{N:Nat->Prop}{w:World}{H:k9}(hH:HR G I N w H){id off n:Nat}{vs:List c7}(h:rd H id off n=J vs)(hn:0<n) :
  N id/\∃xs:List Value,O xs=n/\O vs=n/\(∀j v,xs[j]? =J v->w.cell? (ad (I id).1 ((I id).2+off+j))=J v) /\
   (∀j a v,vs[j]? =J a->xs[j]? =J v->VR G I N w (.cell id (off+j)) a v):=by
 unfold y9.rd at h;split at h
 next l hl=>
  split at h
  .cases h
   have ho:=hH id _ hl;obtain ⟨hid,c,e,f,h1,h2,h3,h4,h5⟩:=ho
   .refine ⟨hid,(List.range n).map (λj=>(c[(I id).2+off+j]?).getD default),U,D,λj v hj=>?_,λj a v ha hv=>?_⟩
    .rw [P6 h1]
     grind
    .have hjn:j<n:=by
      grind
     grind
  .cases h
 .cases h
section
variable {P:Program} {w:World}
theorem info_of_underlying {t:TypeId}{d:TypeDesc}(h:P.underlying t=J d):(P.info? t).isSome=W:=by
 grind [Program.underlying]
theorem run_sizeOf {t:TypeId}(h:(P.info? t).isSome=W):(sizeOf t).run P w= .ok (P.cellsOf t) w:=by
 cases hi:P.info? t with
 |none=>simp_all
 |some i=>simp [sizeOf,typeInfo,hi,Program.cellsOf]
def Z4 {t:TypeId}{b:Bool}(h:aI P t=J b):(isAgg t).run P w= .ok b w:=by
 unfold aI at h;cases hu:P.underlying t with
 |none=>simp_all
 |some d=>cases d<;>simp [hu] at h<;>subst h<;>simp [isAgg,run_underlying hu]
def cC {t:TypeId}{sz:Nat}(h:iE P t sz=W):∃e,P.underlying t=J (.slice e)/\P.cellsOf e=sz/\(P.info? e).isSome=W:=by
 grind [iE]
theorem O8 {G:Gh}{I:O5}{N:Nat->Prop}:∀(l:List c7) (xs:List Value),O xs=O l ->
  (∀(j:Nat) a v,l[j]? =J a->xs[j]? =J v->VR G I N w .none a v)->H6 G I N w l xs
 |[],xs,h,_=>by simp_all [H6]
 |a::as,[],h,_=>by simp at h
 |a::as,x::xs,h,hp=>by
  exact ⟨x,xs,rfl,hp 0 a x rfl rfl,O8 as xs (by simpa using h) λj a' v ha hv=>hp (j+1) a' v M M⟩
theorem H6.get {G:Gh}{I:O5}{N:Nat->Prop}:∀(l:List c7) (xs:List Value),H6 G I N w l xs->∀(j:Nat) a,l[j]? =J a->∃v,xs[j]? =J v/\VR G I N w .none a v
 |[],_,_,_,_,h=>by simp at h
 |a::as,xs,h,j,b,hb=>by
  obtain ⟨x,xs',h1,h2,h3⟩:=h;subst h1;cases j with
  |zero=>simp at hb;subst hb;exact ⟨x,rfl,h2⟩
  |succ j=>simpa using H6.get as xs' h3 j b (by simpa using hb)
def VR.place {G:Gh}{I:O5}{N:Nat->Prop}{a:c7}{x:Value}{pl:Place}(h:VR G I N w .none a x):VR G I N w pl a x:=by
 cases a with
 |own sz len cells =>
  simp_all [VR,absurd]
 |_=>simp_all [VR]
variable {ck:Operand->A3->Bool} {η:Operand->Value} {ρ:A3->c7} {G:Gh} {I:O5} {N:Nat->Prop} {H:k9}
abbrev Good (P:Program)(G:Gh)(I:O5)(N:Nat->Prop)(w:World)(η:Operand->Value)(o:Oper)(v:c7):Prop :=
 ∃x,(execOp η o).run P w= .ok (.value x) w/\VR G I N w .none v x
abbrev ah (ck:Operand->A3->Bool)(G:Gh)(I:O5)(N:Nat->Prop)(w:World)(η:Operand->Value)(ρ:A3->c7):Prop :=
 ∀x y,ck x y=W->VR G I N w .none (ρ y) (η x)
def Jd (hρ:ah ck G I N w η ρ){o:Oper}{c a b:A3}(hc:D8 P ck o (.pick c a b)=W){v:c7}{rs:List Nat}
  (h:l5 ρ H (.pick c a b)=J (v,rs)):Good P G I N w η o v:=by
 obtain ⟨dst,aU,ty,pos,after,guard⟩:=o;cases aU<;>simp [D8] at hc;rename_i c' a' b';have h1:=hρ _ _ hc.1.1;have h2:=hρ _ _ hc.1.2;have h3:=hρ _ _ hc.2;simp only [l5] at h;split at h
 next t ht=>
  simp at h;obtain ⟨rfl,rfl⟩:=h;rw [ht] at h1;simp only [VR,DR] at h1;refine ⟨if t then η a' else η b',by simp [execOp,h1,asBool],?_⟩;cases t<;>simpa
 .cases h
def Jb (hρ:ah ck G I N w η ρ)(hH:HR G I N w H){o:Oper}{n:Option Nat}{y:A3}(hc:D8 P ck o (.load n y)=W){v:c7}{rs:List Nat}
  (h:l5 ρ H (.load n y)=J (v,rs)):Good P G I N w η o v:=by
 obtain ⟨dst,aU,ty,pos,after,guard⟩:=o;cases aU<;>simp [D8] at hc;rename_i t x;have h1:=hρ _ _ hc.1;cases n with
 |none =>
  have ha:aI P t=J F:=by simp_all [nF]
  simp [l5] at h;split at h
  next id off hp=>
   rw [hp] at h1;simp [VR] at h1;split at h
   next u hu=>
    obtain ⟨rfl,rfl⟩:=h;obtain ⟨_,xs,g1,_,g3,g4⟩:=hH.rd hu V;obtain ⟨z,rfl⟩:∃z,xs=[z]:=by
     match xs,g1 with
     |[z],_=>simp_all
    have hz:=g3 0 z rfl;have hv:=g4 0 u z rfl rfl;refine ⟨z,?_,hv.I7⟩;simp_all [execOp,Instr.loadAt,Instr.sureAddr,loadVar,Z4]
   .cases h
  next c cs hp=>
   obtain ⟨rfl,rfl⟩:=h;rw [hp] at h1;obtain ⟨b,off,g1,_,⟨z,g2,g3⟩,_⟩:=h1;refine ⟨z,?_,by simp_all [VR]⟩;simp_all [execOp,Instr.loadAt,Instr.sureAddr,loadVar,Z4]
  .cases h
 |some n =>
  have ha:aI P t=J W/\P.cellsOf t=n/\0<n:=by simp_all [nF,and_assoc]
  have hs:(sizeOf t).run P w= .ok n w:=by
   grind [run_sizeOf,aI,info_of_underlying]
  simp [l5] at h;split at h
  next id off hp=>
   rw [hp] at h1;simp [VR] at h1;split at h
   next us hu=>
    obtain ⟨rfl,rfl⟩:=h;obtain ⟨_,xs,g1,g2,g3,g4⟩:=hH.rd hu V;have hl:=run_loadCells_list (P:=P) w (ad (I id).1 ((I id).2+off)) xs (λj v hj=>by simp_all [W3]);refine ⟨.agg xs.toArray,?_,?_⟩
    .simp_all [execOp,Instr.loadAt,Instr.sureAddr,loadVar,Z4]
    .refine ⟨_,rfl,O8 _ _ (by simp [g1,g2]) λj a v hj hv=>?_⟩
     simp at hj hv;obtain ⟨a',TZ,rfl⟩:=hj;exact (g4 j a' v TZ hv).I7
   .cases h
  next cells hp=>
   split at h
   .obtain ⟨rfl,rfl⟩:=h
    rw [hp] at h1;obtain ⟨b,off,g1,g2⟩:=h1;obtain ⟨xs,e1,e2,e3⟩:=cS.vals (I:=I) (N:=N) off _ (cS.take n off cells g2);have e1' :O xs=n:=M
    have hl:=run_loadCells_list (P:=P) w (ad b off) xs (λj v hj=>by simp_all [W3]);refine ⟨.agg xs.toArray,?_,?_⟩
    all_goals simp_all [execOp,Instr.loadAt,Instr.sureAddr,loadVar,Z4,VR]
   .cases h
  .cases h
def Fz (hρ:ah ck G I N w η ρ){o:Oper}{y:A3}(hc:D8 P ck o (.oT y)=W){v:c7}{rs:List Nat}
  (h:l5 ρ H (.oT y)=J (v,rs)):Good P G I N w η o v:=by
 obtain ⟨dst,aU,ty,pos,after,guard⟩:=o;cases aU<;>simp [D8] at hc;rename_i x;have h1:=hρ _ _ hc;simp [l5] at h;split at h
 next id off hp=>
  obtain ⟨rfl,rfl⟩:=h;rw [hp] at h1;have h2:=h1;exact ⟨η x,by simp [execOp,h1.2],h2⟩
 next cells hp=>
  obtain ⟨rfl,rfl⟩:=h;rw [hp] at h1;have h2:=h1;obtain ⟨b,off,g1,g2⟩:=h1;exact ⟨η x,by simp [execOp,g1],h2⟩
 next f a b hp=>
  obtain ⟨rfl,rfl⟩:=h;rw [hp] at h1;have h2:=h1;obtain ⟨x',y',g1,g2,g3⟩:=h1;exact ⟨η x,by simp [execOp,g1],h2⟩
 .cases h
def Data.val:Data->Value
 | .bool b=> .bool b
 | .int k n=> .int k n
 | .str s=> .string ⟨s.toArray⟩
 | .dK=> .pointer Option.none
 | .gB=> .nilFunc
 | .jl=> .map Option.none
 | .nilIface=> .nilIface
 | .slice _ _=> .slice Option.none 0 0
def xq {b:BinOp}{x y r:Data}(h:H8 b x y=J r){u v:Value}(hu:DR G w x u)(hv:DR G w y v)(t:TypeId)(p q:Operand) :
  ∃z,(do eqGuard b t p q u v;binOp b t u v).run P w= .ok z w/\DR G w r z:=by
 refine ⟨Data.val r,?_⟩;unfold H8 at h;split at h
 next k a k' c=>
  subst hu hv;have hg:(eqGuard b t p q (.int k a) (.int k' c)).run P w= .ok () w:=by simp_all [eqGuard]
  split at h
  next hsh=>
   unfold uo at h;split at h
   .cases h
   next hneg=>
    cases b<;>simp [Q8] at hsh<;>simp at h<;>subst h <;>
     exact ⟨by simp [hg,binOp,Op.shift,hneg,Data.val],by rfl⟩
  next hsh=>
   split at h
   next hk=>
    unfold W4 at h;cases b<;>simp  at hsh<;>simp at h
    all_goals first
     |(subst h;simp_all [binOp,Op.intArith,Op.intCmp,Op.intBits,Data.val,DR])
     |(obtain ⟨h0,rfl⟩:=h;simp_all [binOp,Op.intDiv,Data.val,DR])
   .cases h
 next a c=>
  subst hu hv;have hg:(eqGuard b t p q (.string ⟨a.toArray⟩) (.string ⟨c.toArray⟩)).run P w= .ok () w:=by simp_all [eqGuard]
  unfold qq at h;cases b<;>simp at h
  all_goals first
   |(subst h;simp_all [binOp,Op.stringOp,Data.val,DR])
   |skip
  obtain ⟨h0,rfl⟩:=h;have aP5:(⟨a.toArray⟩++⟨c.toArray⟩:ByteArray)=⟨(a++c).toArray⟩:=by
   rfl
  refine ⟨?_,by rfl⟩
  .have hs:¬ (((⟨a.toArray⟩:ByteArray).size+(⟨c.toArray⟩:ByteArray).size:Nat):Int)>IntKind.i64.max:=by
    simp_all [ByteArray.size]<;>omega
   simp_all [Sem.run_bind,Result.andThen_ok,binOp,Op.stringOp,if_neg,Sem.run_pure,Data.val]
 .cases h
def Mi (hρ:ah ck G I N w η ρ){o:Oper}{b:BinOp}{x y:A3}(hc:D8 P ck o (.bin b x y)=W){v:c7}{rs:List Nat}
  (h:l5 ρ H (.bin b x y)=J (v,rs)):Good P G I N w η o v:=by
 obtain ⟨dst,aU,ty,pos,after,guard⟩:=o;cases aU<;>simp [D8] at hc;rename_i b' t x' y' ty';obtain ⟨⟨rfl,hx⟩,hy⟩:=hc;have h1:=hρ _ _ hx;have h2:=hρ _ _ hy;simp [l5] at h;split at h
 next a c ha nR=>
  rw [ha] at h1;rw [nR] at h2;split at h
  next r hr=>
   obtain ⟨rfl,rfl⟩:=h;obtain ⟨z,g1,g2⟩:=xq (P:=P) hr h1 h2 t x' y';exact ⟨z,by simp only [execOp];rw [Sem.run_bind,g1];rfl,by simp_all [VR]⟩
  .cases h
 .cases h
def oC (d:Nat){t e:TypeId}(he:P.underlying t=J (.slice e))(a:Addr)(l c:Nat):(Op.equalIn (d+1) t (.slice (J a) l c) (.slice Option.none 0 0)).run P w= .ok F w:=by
 simp [Op.equalIn,run_underlying he]
def tj {t e:TypeId}(he:P.underlying t=J (.slice e))(a:Addr)(l c:Nat):(Op.equal t (.slice (J a) l c) (.slice Option.none 0 0)).run P w= .ok F w:=oC 9999 he a l c
def th (d:Nat){t:TypeId}{ms:Array (String×TypeId)}(he:P.underlying t=J (.interface ms)):(Op.equalIn (d+1) t .nilIface .nilIface).run P w= .ok W w:=by
 simp [Op.equalIn,run_underlying he]
def xB {t:TypeId}{ms:Array (String×TypeId)}(he:P.underlying t=J (.interface ms)):(Op.equal t .nilIface .nilIface).run P w= .ok W w:=th 9999 he
def Ak (d:Nat){t:TypeId}(he:P.underlying t=J .bool)(a b:Bool):(Op.equalIn (d+1) t (.bool a) (.bool b)).run P w= .ok (a==b) w:=by
 simp [Op.equalIn,run_underlying he]
def ES {t:TypeId}(he:P.underlying t=J .bool)(a b:Bool):(Op.equal t (.bool a) (.bool b)).run P w= .ok (a==b) w:=Ak 9999 he a b
def Jc (VT:∀v,η (.const v)=v)(hρ:ah ck G I N w η ρ){o:Oper}{neg:Bool}{x:A3}(hc:D8 P ck o (.xJ neg x)=W){v:c7}{rs:List Nat}
  (h:l5 ρ H (.xJ neg x)=J (v,rs)):Good P G I N w η o v:=by
 obtain ⟨dst,aU,ty,pos,after,guard⟩:=o;unfold D8 at hc;split at hc<;>try (cases hc)
 all_goals rename_i kE ga
 all_goals cases ga
 all_goals subst kE
 rename_i b t x' ty';simp [c9] at hc;obtain ⟨⟨hx,ht⟩,hb⟩:=hc;obtain ⟨e,he⟩:∃e,P.underlying t=J (.slice e):=by
  grind
 have key:∃a l c,η x' = .slice (J a) l c/\v= .d (.bool neg):=by
  simp [l5] at h
  .grind [VR,DR]
  all_goals grind [VR]
 obtain ⟨a,l,c,hx',rfl⟩:=key;refine ⟨.bool neg,?_,by simp [VR,DR]⟩;simp [execOp,hx',VT];cases neg<;>simp at hb<;>subst hb<;>simp [eqGuard,binOp]<;>simp [tj he]
def Mj (hρ:ah ck G I N w η ρ){o:Oper}{neg:Bool}{x y:A3}(hc:D8 P ck o (.x4 neg x y)=W){v:c7}{rs:List Nat}
  (h:l5 ρ H (.x4 neg x y)=J (v,rs)):Good P G I N w η o v:=by
 obtain ⟨dst,aU,ty,pos,after,guard⟩:=o;cases aU<;>simp [D8] at hc<;>try simp_all
 rename_i b t x' y' ty';obtain ⟨⟨⟨hx,hy⟩,ht⟩,hb⟩:=hc;have h1:=hρ _ _ hx;have h2:=hρ _ _ hy;have he:P.underlying t=J .bool:=by
  grind
 simp [l5] at h;split at h
 next a c ha nR=>
  obtain ⟨rfl,rfl⟩:=h;rw [ha] at h1;rw [nR] at h2;simp [VR,DR] at h1 h2;refine ⟨.bool (neg != (a==c)),?_,by simp [VR,DR]⟩;simp [execOp,h1,h2];cases neg<;>simp at hb<;>subst hb<;>simp [eqGuard,binOp]<;>simp [ES he]
 .cases h
def IC {t:TypeId}{k:CK}(h:cE P t k=W):aI P t=J F:=by
 simp_all [aI,cE]<;>grind
def run_part_plain {t:TypeId}{k:CK}(h:cE P t k=W)(cs:Array Value)(off:Nat)(v:Value)(hv:cs[off]? =J v):(part t cs off).run P w= .ok v w:=by
 simp [part,Z4 (IC h),hv]
def oo {k:CK}{a b:Data}{r:Bool}(h:Data.zX k a b=J r){u v:Value}(hu:DR G w a u)(hv:DR G w b v){t:TypeId}(ht:cE P t k=W)(d:Nat) :
  (Op.equalIn (d+1) t u v).run P w= .ok r w:=by
 unfold Data.zX at h;split at h
 .subst hu hv
  split at h
  next hkk=>
   subst hkk;simp at h;subst h;simp [cE] at ht;split at ht
   .rename_i k2 hk2;simp [Op.equalIn,run_underlying hk2]
   .cases ht
  .cases h
 .subst hu hv
  simp at h;subst h;simp [cE] at ht;split at ht
  .rename_i h2;simp [Op.equalIn,run_underlying h2,beq_toListBytes]
  .cases ht
 .subst hu hv
  simp at h;subst h;simp [cE] at ht;split at ht
  .rename_i h2;simp [Op.equalIn,run_underlying h2]
  .cases ht
 .cases h
theorem gL (d:Nat)(xs ys:Array Value):∀(fs:List Field) (n:Nat) (ks:List CK) (a b:List c7) (r:Bool),P7 P fs n ks=W->M7 ks a b=J r ->
  (∀(j:Nat) c,a[j]? =J c->∃v,xs[n+j]? =J v/\VR G I N w .none c v)->(∀(j:Nat) c,b[j]? =J c->∃v,ys[n+j]? =J v/\VR G I N w .none c v) ->
  (Op.eqFields (d+1) xs ys fs).run P w= .ok r w
 |[],n,ks,a,b,r,hf,hc,_,_=>by
  cases ks with
  |nil =>
   unfold M7 at hc;simp_all [Op.eqFields]<;>grind
  |cons=>simp [P7] at hf
 |f::fs,n,[],a,b,r,hf,hc,_,_=>by simp [P7] at hf
 |f::fs,n,k::ks,a,b,r,hf,hc,ha,hb=>by
  simp [P7,c9,beq_iff_eq] at hf;obtain ⟨⟨⟨h1,h2⟩,h3⟩,h4⟩:=hf;unfold M7 at hc;split at hc
  .simp_all
  next k0 ks0 x a' y b' e1=>
   cases e1;split at hc
   next t ht=>
    split at hc
    next u hu=>
     obtain ⟨v1,g1,g2⟩:=ha 0 _ rfl;obtain ⟨v2,g3,g4⟩:=hb 0 _ rfl;have e1:=run_part_plain (w:=w) h2 xs n v1 g1;have e2:=run_part_plain (w:=w) h2 ys n v2 g3;have e3:=oo (P:=P) ht g2 g4 h2 d;have ih:=gL d xs ys fs (n+1) ks a' b' u h4 hu (λj c hj=>by rw [show n+1+j=n+(j+1) from by omega];simp_all)
      (λj c hj=>by rw [show n+1+j=n+(j+1) from by omega];simp_all)
     simp_all [Op.eqFields]<;>grind
    .cases hc
   .cases hc
  .cases hc
def pJ {t:TypeId}{gs:Array Field}{m:Nat}(h:P.underlying t=J (.struct gs))(hi:(P.info? t).isSome=W)(hm:P.cellsOf t=m)(cs:Array Value)(off:Nat):(part t cs off).run P w= .ok (.agg (cs.extract off (off+m))) w:=by
 have h1:aI P t=J W:=by simp [aI,h]
 have h2:=run_sizeOf (w:=w) hi;rw [hm] at h2;simp [part,Z4 h1,h2]
theorem rU:∀(m:Nat) (ks:List CK) (a b:List c7) (r:Bool),M7 ks a b=J r->m<=O ks->∃r1 r2,M7 (ks.take m) (a.take m) (b.take m)=J r1/\M7 (ks.drop m) (a.drop m) (b.drop m)=J r2/\r=(r1&&r2)
 |0,ks,a,b,r,h,_=>⟨W,r,by simp [M7],by simpa using h,U⟩
 |m+1,[],a,b,r,h,hm=>by simp at hm
 |m+1,k::ks,a,b,r,h,hm=>by
  unfold M7 at h;split at h
  .simp_all
  next k0 ks0 x a' y b' e1=>
   cases e1;split at h
   next t ht=>
    split at h
    next u hu=>
     simp at h;subst h;obtain ⟨r1,r2,e1,e2,e3⟩:=rU m ks a' b' u hu (by simpa using hm);exact ⟨t&&r1,r2,by simp [M7,ht,e1],by simpa using e2,by rw [e3,Bool.and_assoc]⟩
    .cases h
   .cases h
  .cases h
theorem kC {P:Program}:∀(fs:List Field) (n:Nat) (ks:List CK),P7 P fs n ks=W->O ks=O fs
 |[],_,[],_=>rfl
 |[],_,_::_,h=>by simp [P7] at h
 |_::_,_,[],h=>by simp [P7] at h
 |f::fs,n,k::ks,h=>by
  simp only [P7,c9] at h;simp [kC fs _ ks h.2]
theorem fJ (d:Nat)(xs ys:Array Value):∀(fs:List Field) (n:Nat) (ks:List CK) (a b:List c7) (r:Bool),bS P fs n ks=W->M7 ks a b=J r ->
  (∀(j:Nat) c,a[j]? =J c->∃v,xs[n+j]? =J v/\VR G I N w .none c v)->(∀(j:Nat) c,b[j]? =J c->∃v,ys[n+j]? =J v/\VR G I N w .none c v) ->
  (Op.eqFields (d+2) xs ys fs).run P w= .ok r w
 |[],n,ks,a,b,r,hf,hc,_,_=>by
  cases ks with
  |nil =>
   unfold M7 at hc;split at hc<;>simp_all [Op.eqFields]
  |cons=>simp [bS] at hf
 |f::fs,n,ks,a,b,r,hf,hc,ha,hb=>by
  simp only [bS,c9,bne_iff_ne,beq_iff_eq] at hf;obtain ⟨⟨h1,h3⟩,hf⟩:=hf;split at hf
  next gs XZ=>
   simp only [c9,beq_iff_eq,o3] at hf;obtain ⟨⟨⟨⟨q1,q2⟩,q3⟩,q4⟩,q5⟩:=hf;have hl:=kC _ _ _ q3;have hm:gs.size<=O ks:=by
    rw [K0] at hl;simp at hl;omega
   obtain ⟨r1,r2,e1,e2,e3⟩:=rU gs.size ks a b r hc hm;have p1:=pJ (w:=w) XZ q1 q2 xs n;have p2:=pJ (w:=w) XZ q1 q2 ys n;have Qi:P.fieldsOf f.type=gs:=by simp [Program.fieldsOf,XZ]
   have KS:∀(l:List c7) (zs:Array Value),(∀(j:Nat) c,l[j]? =J c->∃v,zs[n+j]? =J v/\VR G I N w .none c v)->∀(j:Nat) c,(l.take gs.size)[j]? =J c->∃v,(zs.extract n (n+gs.size))[0+j]? =J v/\VR G I N w .none c v:=by
    intro l zs hz j c hj;rw [List.getElem?_take] at hj;split at hj
    next hlt=>
     obtain ⟨v,g1,g2⟩:=hz j c hj;refine ⟨v,?_,g2⟩;have hsz:=(Array.getElem?_eq_some_iff.1 g1).1;rw [Array.getElem?_extract,if_pos V,Nat.zero_add,g1]
    .cases hj
   have p3:=run_equalIn_struct (P:=P) w (d+1) f.type (xs.extract n (n+gs.size)) (ys.extract n (n+gs.size)) (by rw [Qi];exact XZ) q4;rw [Qi,gL (P:=P) (G:=G) (I:=I) (N:=N) d _ _ gs.toList 0 (ks.take gs.size) _ _ r1 q3 e1 (KS a xs ha) (KS b ys hb)] at p3;have ih:=fJ d xs ys fs (n+gs.size) (ks.drop gs.size) (a.drop gs.size) (b.drop gs.size) r2 q5 e2 (λj c hj=>by rw [List.getElem?_drop] at hj;rw [K1];exact ha _ c hj) (λj c hj=>by rw [List.getElem?_drop] at hj;rw [K1];exact hb _ c hj);simp only [Op.eqFields,if_pos h1,Sem.run_bind,h3,p1,p2,p3,Result.andThen_ok];rw [e3];cases r1<;>simp [ih]
  .split at hf
   next k ks=>
    simp only [c9] at hf;obtain ⟨h2,h4⟩:=hf;unfold M7 at hc;split at hc
    .simp_all
    next k0 ks0 x a' y b' e1=>
     cases e1;split at hc
     next t ht=>
      split at hc
      next u hu=>
       simp at hc;subst hc;obtain ⟨v1,g1,g2⟩:=ha 0 _ rfl;obtain ⟨v2,g3,g4⟩:=hb 0 _ rfl;simp only [VR] at g2 g4;rw [Nat.add_zero] at g1 g3;have e1:=run_part_plain (w:=w) h2 xs n v1 g1;have e2:=run_part_plain (w:=w) h2 ys n v2 g3;have e3:=oo (P:=P) ht g2 g4 h2 (d+1);have ih:=fJ d xs ys fs (n+1) ks a' b' u h4 hu (λj c hj=>by rw [show n+1+j=n+(j+1) from by omega];exact ha (j+1) c (by simpa using hj))
        (λj c hj=>by rw [show n+1+j=n+(j+1) from by omega];exact hb (j+1) c (by simpa using hj))
       simp only [Op.eqFields,if_pos h1,Sem.run_bind,h3,e1,e2,e3,Result.andThen_ok];cases t<;>simp [ih]
      .cases hc
     .cases hc
    .cases hc
   .cases hf
def Mk (hρ:ah ck G I N w η ρ){o:Oper}{neg:Bool}{ks:List CK}{x y:A3}(hc:D8 P ck o (.NL neg ks x y)=W){v:c7}{rs:List Nat}
  (h:l5 ρ H (.NL neg ks x y)=J (v,rs)):Good P G I N w η o v:=by
 obtain ⟨dst,aU,ty,pos,after,guard⟩:=o;cases aU<;>simp only [D8,c9] at hc<;>try (cases hc;done)
 rename_i b t x' y' ty';obtain ⟨⟨⟨hx,hy⟩,ht⟩,hb⟩:=hc;have h1:=hρ _ _ hx;have h2:=hρ _ _ hy;unfold si at ht;split at ht
 next fs yE=>
  simp only [c9,o3] at ht;simp only [l5] at h;split at h
  next a c ha nR=>
   split at h
   next r hr=>
    simp at h;obtain ⟨rfl,rfl⟩:=h;rw [ha] at h1;rw [nR] at h2;simp only [VR] at h1 h2;obtain ⟨xs,e1,e2⟩:=h1;obtain ⟨ys,e3,e4⟩:=h2;have Qi:P.fieldsOf t=fs:=by simp [Program.fieldsOf,yE]
    have heq:=run_equalIn_struct (P:=P) w 9999 t xs ys (by rw [Qi];exact yE) ht.1.2;rw [Qi,fJ (P:=P) (G:=G) (I:=I) (N:=N) 9997 xs ys fs.toList 0 ks a c r ht.1.1 hr
     (λj u hu=>by obtain ⟨v,g1,g2⟩:=H6.get a _ e2 j u hu;exact ⟨v,by simpa using g1,g2⟩)
     (λj u hu=>by obtain ⟨v,g1,g2⟩:=H6.get c _ e4 j u hu;exact ⟨v,by simpa using g1,g2⟩)] at heq
    refine ⟨.bool (neg != r),?_,by simp [VR,DR]⟩;simp only [execOp,e1,e3,Sem.run_bind,run_eqGuard_agg w b t x' y' xs ys ht.2,Result.andThen_ok];cases neg<;>simp at hb<;>subst hb
    .rw [run_eql_struct,heq];simp
    .rw [run_neq_struct,heq];simp
   .cases h
  .cases h
 .cases ht
end
section
variable {P:Program} {w:World} {ck:Operand->A3->Bool} {η:Operand->Value} {ρ:A3->c7} {G:Gh} {I:O5} {N:Nat->Prop} {H:k9}
def Pd (hρ:ah ck G I N w η ρ){o:Oper}{b:UnOp}{x:A3}(hc:D8 P ck o (.un b x)=W){v:c7}{rs:List Nat}
  (h:l5 ρ H (.un b x)=J (v,rs)):Good P G I N w η o v:=by
 obtain ⟨dst,aU,ty,pos,after,guard⟩:=o;cases aU<;>simp [D8] at hc;rename_i b' t x';obtain ⟨rfl,hx⟩:=hc;have h1:=hρ _ _ hx;simp [l5] at h;split at h
 next a ha=>
  rw [ha] at h1;simp [VR] at h1;split at h
  next r hr=>
   obtain ⟨rfl,rfl⟩:=h;refine ⟨Data.val r,?_⟩;unfold FO at hr;split at hr
   .simp [DR] at h1
    cases b' <;>simp at hr;subst hr;simp [execOp,h1,Op.unary,Op.intArith,Data.val,VR,DR]
   .simp [DR] at h1
    cases b' <;>simp at hr;subst hr;simp [execOp,h1,Op.unary,Data.val,VR,DR]
   .cases hr
  .cases h
 .cases h
def Fy (hρ:ah ck G I N w η ρ){o:Oper}{k:IntKind}{x:A3}(hc:D8 P ck o (.ox k x)=W){v:c7}{rs:List Nat}
  (h:l5 ρ H (.ox k x)=J (v,rs)):Good P G I N w η o v:=by
 obtain ⟨dst,aU,ty,pos,after,guard⟩:=o;cases aU<;>simp [D8] at hc<;>try simp_all
 obtain ⟨⟨hx,hs⟩,hd⟩:=hc;have h1:=hρ _ _ hx;obtain ⟨ds,hds⟩:=Option.isSome_iff_exists.1 hs;split at hd
 .simp [l5] at h
  split at h
  next k2 n ha=>
   obtain ⟨rfl,rfl⟩:=h;rw [ha] at h1;simp [VR,DR] at h1;refine ⟨.int k (k.wrap n),?_,by simp [VR,DR]⟩;simp_all [execOp,convert,run_underlying,Conv.intToInt]
  .cases h
 .cases hd
theorem uv:∀(vs:List Value) (l:List Data) (bs:List UInt8),ic l=J bs->H6 G I N w (l.map .d) vs ->
  ∃ns:List Int,vs=ns.map (Value.int .u8)/\bs=ns.map λn=>UInt8.ofNat n.toNat
 |vs,[],bs,hb,hv=>by
  simp_all [ic,H6]
 |vs,a::as,bs,hb,hv=>by
  obtain ⟨x,xs,rfl,e2,e3⟩:=hv;unfold ic at hb;split at hb
  .simp_all
  next n r heq=>
   cases heq;split at hb
   next bs' Qg=>
    simp at hb;subst hb;subst e2;obtain ⟨ns,rfl,rfl⟩:=uv xs as bs' Qg e3;exact ⟨n::ns,rfl,rfl⟩
   .cases hb
  .cases hb
theorem foldl_push:∀(ns:List Int) (s:ByteArray),(ns.foldl (λr n=>r.push (UInt8.ofNat n.toNat)) s)=⟨(s.data.toList++ns.map λn=>UInt8.ofNat n.toNat).toArray⟩
 |[],s=>U
 |n::ns,s=>by
  rw [List.foldl_cons,foldl_push ns];simp
def Dq (hρ:ah ck G I N w η ρ){o:Oper}{x:A3}(hc:D8 P ck o (.kz x)=W){v:c7}{rs:List Nat}
  (h:l5 ρ H (.kz x)=J (v,rs)):Good P G I N w η o v:=by
 obtain ⟨dst,aU,ty,pos,after,guard⟩:=o;cases aU<;>simp [D8] at hc<;>try simp_all
 rename_i s d x';obtain ⟨⟨hx,hs⟩,hd⟩:=hc;have h1:=hρ _ _ hx;split at hs
 next e he=>
  split at hs
  next hu8=>
   split at hd
   next Ld=>
    simp [l5] at h;split at h
    next len cells ha=>
     split at h
     next hlen=>
      split at h
      next bs Qg=>
       obtain ⟨rfl,rfl⟩:=h;rw [ha] at h1;refine ⟨.string ⟨bs.toArray⟩,?_,by simp [VR,DR]⟩
       rcases h1 with ⟨h1,h2,h3⟩|⟨b,off,cap,h1,h2,h3⟩
       .subst h3
        simp [ic] at Qg;subst Qg
        rcases h1 with h1|⟨a0,h1⟩
        .simp [execOp,h1,convert,run_underlying he,run_underlying Ld,run_underlying hu8]
         rfl
        .have hl:(loadCells a0 0).run P w= .ok (([]:List Int).map (Value.int .u8)).toArray w:=by rfl
         simp [execOp,h1,Sem.run_bind,run_convert_bytes_string w s d e _ _ _ he hu8 Ld];rfl
       .obtain ⟨vs,g1,g2,g3⟩:=cS.vals (I:=I) (N:=N) off cells h3
        have hl:=run_loadCells_list (P:=P) w (ad b off) vs (λj v hj=>by simp_all [W3]);rw [g1,hlen] at hl;obtain ⟨ns,rfl,rfl⟩:=uv (G:=G) (I:=I) (N:=N) vs cells bs Qg g3;simp only [execOp,h1,Sem.run_bind,run_convert_bytes_string w s d e _ _ _ he hu8 Ld,run_bytesToString w (ad b off) len cap ns hl,foldl_push];simp
      .cases h
     .cases h
    .cases h
   .cases hd
  .cases hs
 .cases hs
def rQ (hρ:ah ck G I N w η ρ){x:Option Operand}{y:Option A3}(hc:PZ ck x y=W){d:Nat}{n:Int}(h:S6 ρ d y=J n) :
  (x=K/\n=d)\/∃x' k,x=J x' /\η x' = .int k n:=by
 cases y with
 |none =>
  grind [S6,PZ]
 |some y =>
  cases x with
  |none=>simp [PZ] at hc
  |some x =>
   grind [PZ,S6,VR,DR]
def qW (hρ:ah ck G I N w η ρ){lo hi:Option Operand}{lo' hi' :Option A3}(hl:PZ ck lo lo' =W)(hh:PZ ck hi hi' =W){len cap:Nat}{l h:Int}
  (bl:S6 ρ 0 lo' =J l) (bh:S6 ρ len hi' =J h) (h0:0<=l) (h1:l<=h) (h2:h<=len) (hcap:len<=cap) (b:Bool) :
  (Instr.sliceBounds b len cap (lo.map η) (hi.map η) K).run P w= .ok (l.toNat,h.toNat,cap) w:=by
 rcases rQ hρ hl bl with ⟨rfl,rfl⟩|⟨x1,k1,rfl,e1⟩<;>rcases rQ hρ hh bh with ⟨rfl,rfl⟩|⟨x2,k2,rfl,e2⟩
 .rfl
 .simp_all [Instr.sliceBounds,Instr.sliceBound,asIntOf]<;>omega
 all_goals (simp_all [Instr.sliceBounds,Instr.sliceBound,asIntOf]<;>grind)
def Du (hρ:ah ck G I N w η ρ){o:Oper}{sz:Nat}{x:A3}{lo hi:Option A3}(hc:D8 P ck o (.bE sz x lo hi)=W){v:c7}{rs:List Nat}
  (h:l5 ρ H (.bE sz x lo hi)=J (v,rs)):Good P G I N w η o v:=by
 obtain ⟨dst,aU,ty,pos,after,guard⟩:=o;unfold D8 at hc;split at hc<;>try (cases hc)
 all_goals rename_i kE ga
 all_goals cases ga
 all_goals subst kE
 rename_i t x' lo' hi';simp only [c9] at hc;obtain ⟨⟨⟨⟨hx,hl⟩,hh⟩,ht⟩,hsz⟩:=hc;have h1:=hρ _ _ hx;obtain ⟨e,hu,Of,hie⟩:=cC ht;have hsize:(sizeOf e).run P w= .ok sz w:=by simp_all [run_sizeOf]
 simp [l5] at h;split at h
 next len cells hs=>
  split at h
  next l hi2 bl bh=>
   split at h
   next hb=>
    obtain ⟨rfl,rfl⟩:=h;rw [hs] at h1
    rcases h1 with ⟨h1,h2,h3⟩|⟨b,off,cap,h1,h2,h3⟩
    .subst h2 h3
     have hrb:=qW (P:=P) hρ hl hh bl bh hb.1 hb.2.1 hb.2.2.1 (j9 0) W;have hl0:l=0:=V
     have hh0:hi2=0:=V
     subst hl0 hh0
     rcases h1 with h1|⟨a0,h1⟩
     .refine ⟨.slice K 0 0,?_,by simp [VR,DR]⟩
      simp only [execOp,h1,Instr.sliceAt,Sem.run_bind,run_underlying hu,Result.andThen_ok,Instr.slice];simp_all
     .refine ⟨.slice (J a0) 0 0,?_,by simp [VR,DR]⟩
      simp only [execOp,h1,Instr.sliceAt,Sem.run_bind,run_underlying hu,Result.andThen_ok,Instr.slice];simp_all
    .have hrb:=qW (P:=P) hρ hl hh bl bh hb.1 hb.2.1 hb.2.2.1 h2 W
     refine ⟨.slice (if cap=l.toNat then J (ad b off) else (J (ad b off)).map (·.add (l.toNat * sz))) (hi2.toNat - l.toNat) (cap - l.toNat),?_,?_⟩
     .simp only [execOp,h1,Instr.sliceAt,Sem.run_bind,run_underlying hu,Result.andThen_ok,Instr.slice]
      simp_all
     .simp only [VR,DR]
      have e1:(hi2 - l).toNat=hi2.toNat - l.toNat:=V
      by_cases hcl:cap=l.toNat
      .grind
      .refine Or.inr ⟨b,off+l.toNat * sz,cap - l.toNat,?_,V,cS.drop _ _ _ (cS.take _ _ _ h3)⟩
       simp_all [if_neg,W3]
   .cases h
  .cases h
 next id z a len hs=>
  split at h
  next l hi2 bl bh=>
   split at h
   next hb=>
    rw [hs] at h1;obtain ⟨g1,cap,g2,g3,c,e',f,g4,g5⟩:=h1;have hrb:=qW (P:=P) hρ hl hh bl bh hb.1 hb.2.1 hb.2.2.1 g3 W;have e1:(hi2 - l).toNat=hi2.toNat - l.toNat:=V
    have hrun:(execOp η ⟨dst,.slice t x' lo' hi' K,ty,pos,after,guard⟩).run P w =
      .ok (.value (.slice (if cap=l.toNat then J (ad (I id).1 ((I id).2+a)) else (J (ad (I id).1 ((I id).2+a))).map (·.add (l.toNat * sz))) (hi2.toNat - l.toNat) (cap - l.toNat))) w:=by
     simp only [execOp,g2,Instr.sliceAt,Sem.run_bind,run_underlying hu,Result.andThen_ok,Instr.slice];simp_all
    refine ⟨_,hrun,?_⟩;split at h
    next hlh=>
     obtain ⟨rfl,rfl⟩:=h;simp [VR,DR]
     by_cases hcl:cap=l.toNat
     all_goals simp_all [if_pos,Nat.sub_self,cS,if_neg,W3]
    .obtain ⟨rfl,rfl⟩:=h
     have hcl:¬ cap=l.toNat:=V
     refine ⟨g1,cap - l.toNat,?_,V,c,e',f,g4,?_⟩
     .simp_all [if_neg,W3,K1]
     .have hz:z=sz:=hb.2.2.2
      subst hz;have:cap * z=(cap - l.toNat) * z+l.toNat * z:=by rw [<- Nat.add_mul];grind
      omega
   .cases h
  .cases h
 .cases h
end
section
variable {P:Program} {w:World} {ck:Operand->A3->Bool} {η:Operand->Value} {ρ:A3->c7} {G:Gh} {I:O5} {N:Nat->Prop} {H:k9}
def Mn (hρ:ah ck G I N w η ρ){o:Oper}{k:Nat}{x:A3}(hc:D8 P ck o (.off k x)=W){v:c7}{rs:List Nat}
  (h:l5 ρ H (.off k x)=J (v,rs)):Good P G I N w η o v:=by
 obtain ⟨dst,aU,ty,pos,after,guard⟩:=o;cases aU<;>simp [D8] at hc<;>try simp_all
 rename_i s x' f;obtain ⟨hx,hs⟩:=hc;split at hs
 .split at hs
  next fd hfd=>
   simp [c9,decide_eq_true_eq] at hs;have Vs:(P.info? fd.type).isSome=W:=by
    cases hi:P.info? fd.type with
    |none=>simp_all [Program.cellsOf]
    |some i=>rfl
   have hsz:(sizeOf fd.type).run P w= .ok (P.cellsOf fd.type) w:=run_sizeOf Vs;have hne:¬ P.cellsOf fd.type=0:=V
   have hrun:∀b off,η x' = .pointer (J (ad b off))->(execOp η ⟨dst,.fieldAddr s x' f,ty,pos,after,guard⟩).run P w= .ok (.value (.pointer (J (ad b (off+k))))) w:=by
    simp_all [execOp,Instr.fieldAt,Sem.run_bind,run_underlying,Result.andThen_ok,Instr.sureAddr,Sem.run_pure,fieldPlace,if_neg,W3]
   simp [l5] at h;split at h
   .grind [VR,K1]
   all_goals grind [VR,cS.drop]
  .cases hs
 .cases hs
def IX (hρ:ah ck G I N w η ρ){o:Oper}{sz:Nat}{x i:A3}(hc:D8 P ck o (.gN sz x i)=W){v:c7}{rs:List Nat}
  (h:l5 ρ H (.gN sz x i)=J (v,rs)):Good P G I N w η o v:=by
 obtain ⟨dst,aU,ty,pos,after,guard⟩:=o;cases aU<;>simp [D8] at hc<;>try simp_all
 rename_i t x' i';obtain ⟨⟨hx,hi⟩,ht⟩:=hc;have h1:=hρ _ _ hx;have h2:=hρ _ _ hi;obtain ⟨e,hu,Of,hie⟩:=cC ht;have hsize:(sizeOf e).run P w= .ok sz w:=by simp_all [run_sizeOf]
 have hrun:∀(b off len cap:Nat) (k:IntKind) (n:Int),η x' = .slice (J (ad b off)) len cap->η i' = .int k n->0<=n->n<len ->
   (execOp η ⟨dst,.indexAddr t x' i',ty,pos,after,guard⟩).run P w= .ok (.value (.pointer (J (ad b (off+n.toNat * sz))))) w:=by
  intro b off len cap k n e1 e2 e3 e4;have hb:(0<=n/\n<(len:Int)):=⟨e3,e4⟩;simp [execOp,e1,e2,Instr.indexAt,run_underlying hu,asIntOf,hsize,hb,W3]
 simp [l5] at h;split at h
 next len cells k n hp hq=>
  split at h
  next hb=>
   obtain ⟨rfl,rfl⟩:=h;rw [hp] at h1;rw [hq] at h2
   rcases h1 with ⟨_,h0,_⟩|⟨b,off,cap,g1,g2,g3⟩
   .omega
   .exact ⟨_,hrun b off len cap k n g1 h2 hb.1 hb.2,by exact ⟨b,_,rfl,cS.drop _ _ _ g3⟩⟩
  .cases h
 all_goals grind [VR,DR,K1]
def IY (hρ:ah ck G I N w η ρ){o:Oper}{m sz:Nat}{x i:A3}(hc:D8 P ck o (.tw m sz x i)=W){v:c7}{rs:List Nat}
  (h:l5 ρ H (.tw m sz x i)=J (v,rs)):Good P G I N w η o v:=by
 obtain ⟨dst,aU,ty,pos,after,guard⟩:=o;cases aU<;>simp [D8] at hc<;>try simp_all
 rename_i t x' i';obtain ⟨⟨hx,hi⟩,ht⟩:=hc;have h1:=hρ _ _ hx;have h2:=hρ _ _ hi;split at ht
 next m' e hu=>
  simp [c9,beq_iff_eq] at ht;obtain ⟨⟨rfl,Of⟩,hie⟩:=ht;have hsize:(sizeOf e).run P w= .ok sz w:=by simp_all [run_sizeOf]
  have hrun:∀(b off:Nat) (k:IntKind) (n:Int),η x' = .pointer (J (ad b off))->η i' = .int k n->0<=n->n<m' ->
    (execOp η ⟨dst,.indexAddr t x' i',ty,pos,after,guard⟩).run P w= .ok (.value (.pointer (J (ad b (off+n.toNat * sz))))) w:=by
   intro b off k n e1 e2 e3 e4;have hb:(0<=n/\n<(m' :Int)):=⟨e3,e4⟩;simp [execOp,e1,e2,Instr.indexAt,run_underlying hu,asIntOf,hsize,hb,W3,Instr.sureAddr]
  simp [l5] at h;split at h
  .grind [VR,DR,K1]
  next cells k n hp hq=>
   split at h
   next hb=>
    obtain ⟨rfl,rfl⟩:=h;rw [hp] at h1;rw [hq] at h2;obtain ⟨b,off,g1,g2⟩:=h1;exact ⟨_,hrun _ _ k n g1 h2 hb.1 hb.2,by exact ⟨b,_,rfl,cS.drop _ _ _ g2⟩⟩
   .cases h
  .cases h
 .cases ht
def IZ (hρ:ah ck G I N w η ρ){o:Oper}{x i:A3}(hc:D8 P ck o (.F7 x i)=W){v:c7}{rs:List Nat}
  (h:l5 ρ H (.F7 x i)=J (v,rs)):Good P G I N w η o v:=by
 obtain ⟨dst,aU,ty,pos,after,guard⟩:=o;cases aU<;>simp [D8] at hc<;>try simp_all
 obtain ⟨⟨hx,hi⟩,ht⟩:=hc;have h1:=hρ _ _ hx;have h2:=hρ _ _ hi;split at ht
 .simp [l5] at h
  split at h
  next s k n hp hq=>
   split at h
   .split at h
    next b hb=>
     obtain ⟨rfl,rfl⟩:=h;rw [hp] at h1;rw [hq] at h2;simp [VR,DR] at h1 h2;refine ⟨.int .u8 b.toNat,?_,by simp [VR,DR]⟩;have hsz:(⟨s.toArray⟩:ByteArray).size=O s:=by rfl
     have hlt:n.toNat<O s:=by
      grind
     have hg:(⟨s.toArray⟩:ByteArray)[n.toNat]? =J b:=by
      rw [getElem?_pos _ _ V];rw [n9 hlt] at hb;simp at hb;subst hb;rfl
     simp_all [execOp,Instr.index,run_underlying,asIntOf]
    .cases h
   .cases h
  .cases h
 .cases ht
def AN (hρ:ah ck G I N w η ρ){o:Oper}{x:A3}{i:Nat}(hc:D8 P ck o (.extract x i)=W){v:c7}{rs:List Nat}
  (h:l5 ρ H (.extract x i)=J (v,rs)):Good P G I N w η o v:=by
 obtain ⟨dst,aU,ty,pos,after,guard⟩:=o;cases aU<;>simp [D8] at hc;rename_i x' i';obtain ⟨hx,rfl⟩:=hc;have h1:=hρ _ _ hx;simp [l5] at h;split at h
 next vs hp=>
  split at h
  next u hu=>
   simp at h;obtain ⟨rfl,rfl⟩:=h;rw [hp] at h1;obtain ⟨cs,g1,g2⟩:=h1;obtain ⟨z,e1,e2⟩:=H6.get vs _ g2 i' u hu;refine ⟨z,?_,e2⟩;simp_all [execOp,Instr.extract]
  .cases h
 .cases h
def Ml (hρ:ah ck G I N w η ρ){o:Oper}{x:A3}{i:Nat}(hc:D8 P ck o (.NR x i)=W){v:c7}{rs:List Nat}
  (h:l5 ρ H (.NR x i)=J (v,rs)):Good P G I N w η o v:=by
 obtain ⟨dst,aU,ty,pos,after,guard⟩:=o;cases aU<;>simp [D8] at hc;rename_i t x' f;obtain ⟨hx,hf⟩:=hc;split at hf
 next fs hu=>
  split at hf
  next fd hfd=>
   simp at hf;obtain ⟨rfl,ha⟩:=hf;have h1:=hρ _ _ hx;simp only [l5] at h;split at h
   next vs hp=>
    split at h
    next u VL=>
     simp at h;obtain ⟨rfl,rfl⟩:=h;rw [hp] at h1;simp only [VR] at h1;obtain ⟨cs,g1,g2⟩:=h1;obtain ⟨z,e1,e2⟩:=H6.get vs _ g2 _ u VL;refine ⟨z,?_,e2⟩;have e3:cs[fd.offset]? =J z:=by simpa using e1
     simp [execOp,Instr.field,asAgg,part,g1,run_underlying hu,hfd,Z4 ha,e3]
    .cases h
   .cases h
  .cases hf
 .cases hf
def Mm (hρ:ah ck G I N w η ρ){o:Oper}{x:A3}(hc:D8 P ck o (.len x)=W){v:c7}{rs:List Nat}
  (h:l5 ρ H (.len x)=J (v,rs)):Good P G I N w η o v:=by
 obtain ⟨dst,aU,ty,pos,after,guard⟩:=o;unfold D8 at hc;split at hc<;>try (cases hc)
 all_goals rename_i kE ga
 all_goals cases ga
 rename_i args argTypes;split at hc
 next x' t ha hb=>
  simp [c9] at hc;obtain ⟨hx,ht⟩:=hc;split at ht
  next e hu=>
   have hrun:∀a len cap,η x' = .slice a len cap->(execOp η ⟨dst,.call ⟨.builtin .len,args,argTypes⟩,ty,pos,after,guard⟩).run P w= .ok (.value (.int .i64 len)) w:=by
    intro a len cap VT;have h0:(args.map η)[0]? =J (.slice a len cap):=by simp [ha,VT]
    simp [execOp,resolve,invoke,builtin,Builtin.len_,hb,h0,run_underlying hu,goInt]
   simp [l5] at h
   .grind [VR,DR,i64]
   all_goals grind [VR,DR,i64]
  .cases ht
 .cases hc
def Ja (hρ:ah ck G I N w η ρ){o:Oper}{x:A3}(hc:D8 P ck o (.U2 x)=W){v:c7}{rs:List Nat}
  (h:l5 ρ H (.U2 x)=J (v,rs)):Good P G I N w η o v:=by
 obtain ⟨dst,aU,ty,pos,after,guard⟩:=o;unfold D8 at hc;split at hc<;>try (cases hc)
 all_goals rename_i kE ga
 all_goals cases ga
 all_goals subst kE
 rename_i args argTypes;split at hc
 next x' t ha hb=>
  simp [c9] at hc;obtain ⟨hx,ht⟩:=hc;have h1:=hρ _ _ hx;split at ht
  next hu=>
   simp [l5] at h;split at h
   next s hp=>
    obtain ⟨rfl,rfl⟩:=h;rw [hp] at h1;simp [VR,DR] at h1;have h0:(args.map η)[0]? =J (.string ⟨s.toArray⟩):=by simp [ha,h1]
    have hsz:(⟨s.toArray⟩:ByteArray).size=O s:=by rfl
    refine ⟨.int .i64 (O s),?_,by rfl⟩;simp [execOp,resolve,invoke,builtin,Builtin.len_,hb,h0,run_underlying hu,goInt,hsz]
   .cases h
  .cases ht
 .cases hc
theorem ER.length:∀(l:List (Key×c7)) (es:List MapEntry),ER G I N w l es->O es=O l
 |[],es,h=>by simp [ER] at h;simp [h]
 |(k,v)::r,es,h=>by
  simp only [ER] at h;obtain ⟨e,es',rfl,_,_,h4⟩:=h;simp [ER.length r es' h4]
theorem fm (hρ:ah ck G I N w η ρ):∀(xs:List Operand) (ys:List A3),Kc ck xs ys=W->H6 G I N w (ys.map ρ) (xs.map η)
 |[],[],_=>by simp [H6]
 |x::xs,y::ys,h=>by
  simp [Kc,c9] at h;exact ⟨_,_,rfl,hρ _ _ h.1,fm hρ xs ys h.2⟩
 |[],_::_,h=>by simp [Kc] at h
 |_::_,[],h=>by simp [Kc] at h
def Dt (hρ:ah ck G I N w η ρ){o:Oper}{f:FuncId}{a b:List A3}(hc:D8 P ck o (.jk f a b)=W){v:c7}{rs:List Nat}
  (h:l5 ρ H (.jk f a b)=J (v,rs)):Good P G I N w η o v:=by
 obtain ⟨dst,aU,ty,pos,after,guard⟩:=o;unfold D8 at hc;split at hc<;>try (cases hc)
 all_goals rename_i kE ga
 all_goals cases ga
 all_goals subst kE
 rename_i f' first caps
 simp [c9,beq_iff_eq] at hc;obtain ⟨⟨rfl,h1⟩,h2⟩:=hc;obtain ⟨rfl,rfl⟩:=h;refine ⟨.func (.func f') (first.map η) (caps.map η),by rfl,?_⟩;exact ⟨_,_,rfl,by simpa using fm hρ _ _ h1,by simpa using fm hρ _ _ h2⟩
theorem vK:∀(as:List c7) (vs:List Value) (r:Data) (k:IntKind) (n:Int),cG W (.int k n) as=J r->H6 G I N w as vs ->
  ∃m,r= .int k m/\(vs.foldlM Builtin.max2 (.int k n)).run P w= .ok (.int k m) w
 |[],vs,r,k,n,h,hv=>by
  simp_all [cG,H6]
 |x::xs,vs,r,k,n,h,hv=>by
  obtain ⟨u,us,rfl,e2,e3⟩:=hv;unfold cG at h;split at h
  .simp_all
  next b r' heq=>
   cases heq;split at h
   next c hc=>
    unfold tW at hc;split at hc
    next k1 x1 k2 y1 e1=>
     cases e1;simp at hc;subst hc;subst e2;obtain ⟨m,g1,g2⟩:=vK xs us r k _ h e3;simp_all [List.foldlM_cons,Sem.run_bind,Builtin.max2,Sem.run_pure,Result.andThen_ok]
    .cases hc
   .cases h
  .cases h
theorem vM:∀(as:List c7) (vs:List Value) (r:Data) (k:IntKind) (n:Int),cG F (.int k n) as=J r->H6 G I N w as vs ->
  ∃m,r= .int k m/\(vs.foldlM Builtin.min2 (.int k n)).run P w= .ok (.int k m) w
 |[],vs,r,k,n,h,hv=>by
  simp_all [cG,H6]
 |x::xs,vs,r,k,n,h,hv=>by
  obtain ⟨u,us,rfl,e2,e3⟩:=hv;unfold cG at h;split at h
  .simp_all
  next b r' heq=>
   cases heq;split at h
   next c hc=>
    unfold tW at hc;split at hc
    next k1 x1 k2 y1 e1=>
     cases e1;simp at hc;subst hc;subst e2;obtain ⟨m,g1,g2⟩:=vM xs us r k _ h e3;simp_all [List.foldlM_cons,Sem.run_bind,Builtin.min2,Sem.run_pure,Result.andThen_ok]
    .cases hc
   .cases h
  .cases h
def CU {b:Bool}{a r:Data}{l:List c7}(h:cG b a l=J r)(hne:l≠[]):∃k n,a= .int k n:=by
 cases l with
 |nil=>simp_all
 |cons x xs =>
  unfold cG at h;simp_all [tW]<;>grind
def Ds (hρ:ah ck G I N w η ρ){o:Oper}{b:Bool}{ys:List A3}(hc:D8 P ck o (.gQ b ys)=W){v:c7}{rs:List Nat}
  (h:l5 ρ H (.gQ b ys)=J (v,rs)):Good P G I N w η o v:=by
 obtain ⟨dst,aU,ty,pos,after,guard⟩:=o;unfold D8 at hc;split at hc<;>try (cases hc)
 all_goals rename_i kE ga
 all_goals cases ga
 all_goals simp [c9] at hc
 all_goals obtain ⟨hc,hl⟩:=hc
 all_goals have h1:=fm hρ _ _ hc
 all_goals simp [l5] at h
 all_goals split at h
 all_goals try (cases h)
 all_goals rename_i a r heq
 all_goals split at h
 all_goals rename_i c nR
 all_goals obtain ⟨rfl,rfl⟩:=h
 all_goals rw [heq] at h1
 all_goals obtain ⟨x,xs,e1,e2,e3⟩:=h1
 all_goals have hne:r≠[]:=λhr=>by simp_all [List.length]<;>grind
 all_goals obtain ⟨k,n,rfl⟩:=CU nR hne
 all_goals subst e2
 .obtain ⟨m,rfl,g2⟩:=vK (P:=P) r xs c k n nR e3
  refine ⟨.int k m,?_,by simp [VR,DR]⟩;simp_all [execOp,resolve,invoke,builtin,Builtin.max_,Sem.run_bind,Sem.run_pure,Result.andThen_ok]
 .obtain ⟨m,rfl,g2⟩:=vM (P:=P) r xs c k n nR e3
  refine ⟨.int k m,?_,by simp [VR,DR]⟩;simp_all [execOp,resolve,invoke,builtin,Builtin.min_,Sem.run_bind,Sem.run_pure,Result.andThen_ok]
def mA (R:Value->Bool->Prop):List MapEntry->Nat->Option (Nat×Value)->Prop
 |[],_,q=>q=K
 |e::es,i,q=>(R e.key W/\q=J (i,e.val))\/(R e.key F/\mA R es (i+1) q)
def jE (P:Program)(w:World)(t:TypeId)(d:TypeDesc)(u:Value):KK->Value->Bool->Prop
 | .st _,v,r=>(Op.equal t u v).run P w= .ok r w/\Instr.sameNow d u v=K
 |_,v,r=>Instr.sameNow d u v=J r
def GS {G:Gh}{w:World}{I:O5}{N:Nat->Prop}(l:List KD)(j:Nat)(c:c7)(h:(l.map KD.av)[j]? =J c):∃v,(l.map KD.val).toArray[0+j]? =J v/\VR G I N w .none c v:=by
 simp only [List.getElem?_map,Option.map_eq_some_iff] at h;obtain ⟨x,hx,rfl⟩:=h;exact ⟨x.val,by simp [hx],by cases x<;>simp [KD.av,KD.val,VR,DR]⟩
def pO {kk:KK}{a b:Key}{r:Bool}(h:Data.aP kk a b=J r){t:TypeId}{d:TypeDesc}(ht:qL P t kk=W)(hd:P.underlying t=J d):jE P w t d a.val kk b.val r:=by
 unfold Data.aP at h;split at h
 .split at h
  next hkk=>
   subst hkk;simp at h;subst h;simp only [qL,cE,hd] at ht;split at ht
   .rename_i hx;cases hx;simp [jE,Key.val,Instr.sameNow]
   .cases ht
  .cases h
 .simp at h;subst h
  simp only [qL,cE,hd] at ht;split at ht
  .rename_i hx;cases hx;simp [jE,Key.val,Instr.sameNow,beq_toListBytes]
  .cases ht
 .simp at h;subst h
  simp only [qL,cE,hd] at ht;split at ht
  .rename_i hx;cases hx;simp [jE,Key.val,Instr.sameNow]
  .cases ht
 next ks l m=>
  simp only [qL,fK,hd] at ht;split at ht
  next fs yE=>
   cases yE;simp only [c9,o3] at ht;have Qi:P.fieldsOf t=fs:=by simp [Program.fieldsOf,hd]
   have heq:=run_equalIn_struct (P:=P) w 9999 t (l.map KD.val).toArray (m.map KD.val).toArray (by rw [Qi];exact hd) ht.1.2;rw [Qi,gL (P:=P) (G:=λ_=> .free) (I:=λ_=>(0,0)) (N:=λ_=>False) 9998 _ _ fs.toList 0 ks _ _ r ht.1.1 h (GS l) (GS m)] at heq;exact ⟨heq,by simp [Key.val,Instr.sameNow]⟩
  .cases ht
 .cases h
theorem Cc {kk:KK}{t:TypeId}{d:TypeDesc}(ht:qL P t kk=W)(hd:P.underlying t=J d){key:Key} :
  ∀(l:List (Key×c7)) (es:List MapEntry) (i:Nat) (r:Option c7),ER G I N w l es->Z8 kk key l=J r ->
   ∃q,mA (jE P w t d key.val kk) es i q/\(match r,q with
    |none,K=>True
    |some a,J (_,v)=>VR G I N w .none a v
    |_,_=>False)
 |[],es,i,r,hE,h=>by
  simp [ER] at hE;subst hE;simp [Z8] at h;subst h;exact ⟨K,rfl,trivial⟩
 |(k',v')::rest,es,i,r,hE,h=>by
  simp only [ER] at hE;obtain ⟨e,es',rfl,h2,h3,h4⟩:=hE;unfold Z8 at h;split at h
  next hk=>
   simp at h;subst h;exact ⟨J (i,e.val),.inl ⟨h2 ▸ pO hk ht hd,rfl⟩,h3⟩
  next hk=>
   obtain ⟨q,g1,g2⟩:=Cc ht hd rest es' (i+1) r h4 h;exact ⟨q,.inr ⟨h2 ▸ pO hk ht hd,g1⟩,g2⟩
  .cases h
def kB {kk:KK}{t:TypeId}{d:TypeDesc}(hd:P.underlying t=J d){u:Value}{es:List MapEntry}{q:Option (Nat×Value)}(h:mA (jE P w t d u kk) es 0 q):(Instr.findKey t u es).run P w= .ok q w:=by
 have plain:(∀v r,jE P w t d u kk v r->Instr.sameNow d u v=J r)->(Instr.findKey t u es).run P w= .ok q w:=by
  intro hp;have:∀(es:List MapEntry) (i:Nat),mA (jE P w t d u kk) es i q->Instr.findNow d u es i=J q:=by
   intro es
   induction es with
   |nil=>intro i h;simp only [mA] at h;simp [Instr.findNow,h]
   |cons e es ih =>
    intro i h
    rcases h with ⟨h1,rfl⟩|⟨h1,h2⟩
    .simp [Instr.findNow,hp _ _ h1]
    .simp [Instr.findNow,hp _ _ h1,ih _ h2]
  simp [Instr.findKey,run_underlying hd,this es 0 h]
 cases kk with
 |i=>exact plain λ_ _ h=>h
 |s=>exact plain λ_ _ h=>h
 |b=>exact plain λ_ _ h=>h
 |st ks =>
  have ask:∀(es:List MapEntry) (i:Nat),mA (jE P w t d u (.st ks)) es i q->(Instr.findAsking t u es i).run P w= .ok q w:=by
   intro es
   induction es with
   |nil=>intro i h;simp only [mA] at h;simp [Instr.findAsking,h]
   |cons e es ih =>
    intro i h
    rcases h with ⟨h1,rfl⟩|⟨h1,h2⟩
    .simp [Instr.findAsking,h1.1]
    .simp [Instr.findAsking,h1.1,ih _ h2]
  have:=ask es 0 h;cases es with
  |nil=>simp only [mA] at h;simp [Instr.findKey,run_underlying hd,Instr.findNow,h]
  |cons e es =>
   have h0:Instr.sameNow d u e.key=K:=by
    rcases h with ⟨h1,_⟩|⟨h1,_⟩<;>exact h1.2
   simp [Instr.findKey,run_underlying hd,Instr.findNow,h0,this]
def dQ {k:CK}{t:TypeId}(ht:cE P t k=W)(b:Bool)(n:Nat)(u:Value):(Instr.checkKey b (n+1) t u).run P w= .ok () w:=by
 cases k<;>simp only [cE] at ht<;>split at ht<;>first|(cases ht;done)|(rename_i hu;simp [Instr.checkKey,run_underlying hu])
def fG {kk:KK}{t:TypeId}(ht:qL P t kk=W){key:Key}(hf:kk.fits key=W)(b:Bool)(n:Nat):(Instr.checkKey b (n+2) t key.val).run P w= .ok () w:=by
 have fields (l:List KD):∀(fs:List Field) (n0:Nat) (ks:List CK) (m:List KD),P7 P fs n0 ks=W->(M7 ks (m.map KD.av) (m.map KD.av)).isSome=W->(∀j x,m[j]? =J x->(l.map KD.val).toArray[n0+j]? =J x.val) ->
   Sem.run P (forIn fs PUnit.unit λ(f : Field) (_ : PUnit) => if f.name ≠ "_" then do
    let v <- part f.type (l.map KD.val).toArray f.offset
    Instr.checkKey b (n+1) f.type v
    pure (ForInStep.yield PUnit.unit) else pure (ForInStep.yield PUnit.unit)) w= .ok PUnit.unit w:=by
  intro fs
  induction fs with
  |nil=>intro n0 ks m _ _ _;simp
  |cons f fs ih =>
   intro n0 ks m hf hc hm;cases ks with
   |nil=>simp [P7] at hf
   |cons k ks =>
    simp only [P7,c9,bne_iff_ne,beq_iff_eq] at hf;obtain ⟨⟨⟨h1,h2⟩,h3⟩,h4⟩:=hf;cases m with
    |nil=>simp [M7] at hc
    |cons x m =>
     have oG:(M7 ks (m.map KD.av) (m.map KD.av)).isSome=W:=by
      cases x<;>simp only [E8,KD.av,M7] at hc<;>split at hc<;>first|(split at hc<;>simp_all)|simp_all
     have e1:=run_part_plain (w:=w) h2 (l.map KD.val).toArray n0 x.val (hm 0 x rfl);simp only [List.forIn_cons,Sem.run_bind,if_pos h1,h3,e1,Result.andThen_ok,dQ h2,Sem.run_pure];exact ih (n0+1) ks m h4 oG λj y hy=>by rw [show n0+1+j=n0+(j+1) from by omega];exact hm (j+1) y (by simpa using hy)
 cases kk with
 |i=>exact dQ (k:= .i) ht b _ _
 |s=>exact dQ (k:= .s) ht b _ _
 |b=>exact dQ (k:= .b) ht b _ _
 |st ks =>
  simp only [qL,fK] at ht;split at ht
  next fs yE=>
   simp only [c9,o3] at ht;cases key<;>simp only [KK.fits,j6] at hf;rename_i l;rw [Instr.checkKey];simp only [Key.val,Sem.run_bind,run_underlying yE,Result.andThen_ok];rw [<- Array.forIn_toList,fields l fs.toList 0 ks l ht.1.1 hf (λj x hj=>by simp [hj])];simp
  .cases ht
theorem GU:∀(l:List c7) (r:List KD) (xs:List Value),Fi l=J r->H6 G I N w l xs->xs=r.map KD.val
 |[],r,xs,h,hv=>by simp [Fi] at h;subst h;simpa [H6] using hv
 |v::l,r,xs,h,hv=>by
  simp only [H6] at hv;obtain ⟨x,ys,rfl,h1,h2⟩:=hv;unfold Fi at h;split at h
  .rename_i e;cases e
  all_goals first|(cases h;done)|skip
  all_goals rename_i e;cases e
  all_goals split at h<;>first|(cases h;done)|skip
  all_goals
   rename_i r' hr;cases h;rw [GU _ r' ys hr h2];simp only [VR,DR] at h1;simp [h1,KD.val]
def AA {v:c7}{k:Key}{pl:Place}{x:Value}(h:v.Fj =J k)(hv:VR G I N w pl v x):x=k.val:=by
 unfold c7.Fj at h;split at h
 .cases h;simpa [VR,DR,Key.val] using hv
 .cases h;simpa [VR,DR,Key.val] using hv
 .cases h;simpa [VR,DR,Key.val] using hv
 .split at h
  next r hr=>
   cases h;simp only [VR] at hv;obtain ⟨cs,rfl,h2⟩:=hv;have:=GU _ r _ hr h2;simp [Key.val,<- this]
  .cases h
 .cases h
def GA {kk:KK}{k:Key}{r:Bool}(h:Data.aP kk k k=J r):kk.fits k=W:=by
 unfold Data.aP at h;unfold KK.fits;split at h<;>simp_all
def Dr (hρ:ah ck G I N w η ρ)(hH:HR G I N w H){o:Oper}{kk:KK}{zero:c7}{ok:Bool}{m k:A3}(hc:D8 P ck o (.lookup kk zero ok m k)=W){v:c7}{rs:List Nat}
  (h:l5 ρ H (.lookup kk zero ok m k)=J (v,rs)):Good P G I N w η o v:=by
 obtain ⟨dst,aU,ty,pos,after,guard⟩:=o;cases aU<;>simp only [D8,c9,beq_iff_eq] at hc<;>try (cases hc;done)
 rename_i t m' k' LL;obtain ⟨⟨⟨rfl,hm⟩,hk⟩,ht⟩:=hc;have h1:=hρ _ _ hm;have h2:=hρ _ _ hk;split at ht
 next kt et hu=>
  simp only [c9] at ht;obtain ⟨Ya,hz⟩:=ht;split at hz
  next it hit=>
   split at hz
   next z hzz=>
    have hzero:(zeroValue et).run P w= .ok z w:=by simp [zeroValue,typeInfo,hit,hzz]
    have VS:VR G I N w .none zero z:=aM _ _ hz;obtain ⟨dk,hdk⟩:∃d,P.underlying kt=J d:=by
     cases hd:P.underlying kt with
     |none=>cases kk<;>simp [qL,cE,fK,hd] at Ya
     |some d=>exact ⟨d,rfl⟩
    simp only [l5] at h;split at h
    next id key hp hq=>
     rw [hp] at h1;simp only [VR] at h1;have h2:=AA hq h2;split at h
     next es he=>
      split at h
      next r hr hfit=>
       simp at h;obtain ⟨rfl,rfl⟩:=h;have hO:=hH id _ he;simp only [OR] at hO;obtain ⟨_,arr,cV,g1,_,g3,_⟩:=hO;obtain ⟨q,f1,f2⟩:=Cc (P:=P) Ya hdk es arr.toList 0 r g3 hr;have Vr:(getObj (I id).1).run P w= .ok (.map arr cV) w:=by simp [getObj,Sem.run,g1]
       have Qj:(Instr.findKey kt (η k') arr.toList).run P w= .ok q w:=by rw [h2];exact kB hdk f1
       have hck:=λb=>h2 ▸ fG (P:=P) (w:=w) Ya hfit b 9998
       cases r with
       |none =>
        cases q with
        |some q=>exact f2.elim
        |none =>
         refine ⟨if LL then .tuple #[z,.bool F] else z,?_,?_⟩
         .cases LL <;>simp [execOp,h1.2,Instr.lookup,run_underlying hu,Vr,hck,Qj,hzero]
         .cases LL
          .simpa using VS
          .simp only [VR,Option.getD_none,Option.isSome_none,if_true]
           exact ⟨_,rfl,by simp [H6,VR,DR,VS]⟩
       |some a =>
        cases q with
        |none=>exact f2.elim
        |some q =>
         obtain ⟨qi,qv⟩:=q;refine ⟨if LL then .tuple #[qv,.bool W] else qv,?_,?_⟩
         .cases LL <;>simp [execOp,h1.2,Instr.lookup,run_underlying hu,Vr,hck,Qj]
         .cases LL
          .simpa using f2
          .simp only [VR,Option.getD_some,Option.isSome_some,if_true]
           exact ⟨_,rfl,by simp [H6,VR,DR];exact f2⟩
      .cases h
     .cases h
    next key hp hq=>
     rw [hp] at h1;simp only [VR,DR] at h1;have h2:=AA hq h2;split at h
     next hkk=>
      simp at h;obtain ⟨rfl,rfl⟩:=h;have hck:=λb=>h2 ▸ fG (P:=P) (w:=w) Ya (GA hkk) b 9998
      have Qj:(Instr.findKey kt (η k') []).run P w= .ok K w:=by simp [Instr.findKey,run_underlying hdk,Instr.findNow]
      refine ⟨if LL then .tuple #[z,.bool F] else z,?_,?_⟩
      .cases LL <;>simp [execOp,h1,Instr.lookup,run_underlying hu,hck,Qj,hzero]
      .cases LL
       .simpa using VS
       .simp only [VR,if_true]
        exact ⟨_,rfl,by simp [H6,VR,DR,VS]⟩
     .cases h
    .cases h
   .cases hz
  .cases hz
 .cases ht
end
def Df (vs:List Value):Prop:=∀v∈vs,v.oneCell' =W
def I9 (l:List Value)(off:Nat)(vs:List Value):List Value:=l.take off++vs++l.drop (off+O vs)
section
variable {P:Program} {w:World} {ck:Operand->A3->Bool} {η:Operand->Value} {ρ:A3->c7} {G:Gh} {I:O5} {N:Nat->Prop} {H:k9}
theorem H6.append:∀(a:List c7) (xs:List Value) (b:List c7) (ys:List Value),H6 G I N w a xs->H6 G I N w b ys->H6 G I N w (a++b) (xs++ys)
 |[],xs,b,ys,h,k=>by simp_all [H6]
 |a::as,xs,b,ys,h,k=>by
  obtain ⟨x,xs',rfl,h2,h3⟩:=h;exact ⟨x,xs' ++ys,rfl,h2,H6.append as xs' b ys h3 k⟩
theorem H6.take:∀(n:Nat) (a:List c7) (xs:List Value),H6 G I N w a xs->H6 G I N w (a.take n) (xs.take n)
 |0,_,_,_=>by simp [H6]
 |n+1,[],xs,h=>by simp_all [H6]
 |n+1,a::as,xs,h=>by
  obtain ⟨x,xs',rfl,h2,h3⟩:=h;exact ⟨x,xs'.take n,rfl,h2,H6.take n as xs' h3⟩
theorem H6.drop:∀(n:Nat) (a:List c7) (xs:List Value),H6 G I N w a xs->H6 G I N w (a.drop n) (xs.drop n)
 |0,_,_,h=>by simpa using h
 |n+1,[],xs,h=>by simp_all [H6]
 |n+1,a::as,xs,h=>by
  obtain ⟨x,xs',rfl,h2,h3⟩:=h;exact H6.drop n as xs' h3
theorem H6.splice {a b:List c7}{xs ys:List Value}(h:H6 G I N w a xs)(k:H6 G I N w b ys)(off:Nat):H6 G I N w (splice a off b) (I9 xs off ys):=by
 grind [y9.splice,I9,H6.length,H6.append,H6.take,H6.drop]
theorem iJ {a:c7}(ha:a.one=W){pl:Place}{x:Value}(h:VR G I N w pl a x):x.oneCell' =W/\x.cells= #[x]:=by
 cases a<;>simp [c7.one] at ha
 next d=>
  cases d<;>simp [VR] at h
  all_goals first
   |(subst h;exact ⟨rfl,rfl⟩)
   |(rcases h with ⟨h|⟨a0,h⟩,_⟩|⟨b,o,cap,h,_⟩<;>(subst h;exact ⟨rfl,rfl⟩))
 .obtain ⟨_,h⟩:=h;subst h;exact ⟨rfl,rfl⟩
 .obtain ⟨b,o,h,_⟩:=h;subst h;exact ⟨rfl,rfl⟩
 .obtain ⟨_,cap,h,_⟩:=h;subst h;exact ⟨rfl,rfl⟩
 .obtain ⟨_,h⟩:=h
  rcases h with ⟨h|⟨b,o,h⟩,_⟩|⟨_,b,o,cap,c,e,f,h,_⟩<;>(subst h;exact ⟨rfl,rfl⟩)
 .subst h;exact ⟨rfl,rfl⟩
 .obtain ⟨x,y,h,_⟩:=h;subst h;exact ⟨rfl,rfl⟩
 .obtain ⟨_,h⟩:=h;subst h;exact ⟨rfl,rfl⟩
theorem jm:∀(l:List c7) (xs:List Value),l.all c7.one=W->H6 G I N w l xs->Df xs
 |[],xs,_,h=>by subst h;intro v hv;cases hv
 |a::as,xs,ha,h=>by
  simp only [List.all_cons,c9] at ha;obtain ⟨x,xs',rfl,h2,h3⟩:=h;intro v hv
  rcases List.mem_cons.1 hv with rfl|hv
  .grind [iJ]
  .exact jm as xs' ha.2 h3 v hv
def rV {a:c7}{l:List c7}(ha:a.cells? =J l){x:Value}(h:VR G I N w .none a x):H6 G I N w l x.cells.toList/\Df x.cells.toList:=by
 unfold c7.cells? at ha;split at ha
 .split at ha
  next hall=>
   simp at ha;subst ha;obtain ⟨cs,rfl,h2⟩:=h;exact ⟨h2,jm _ _ hall h2⟩
  .cases ha
 .split at ha
  next hone=>
   simp at ha;subst ha;obtain ⟨h1,h2⟩:=iJ hone h;refine ⟨?_,λv hv=>?_⟩
   all_goals simp_all [H6]
  .cases ha
theorem yC (off:Nat):∀(vs:List Value) (k:Nat) (cs:Array Value),off+k+O vs<=cs.size ->
  ((vs.zipIdx k).foldl (λ(cs:Array Value) (p:Value×Nat)=>cs.setIfInBounds (off+p.2) p.1) cs).toList=cs.toList.take (off+k)++vs++cs.toList.drop (off+k+O vs)
 |[],k,cs,_=>U
 |v::vs,k,cs,h=>by
  simp [o8] at h;rw [List.zipIdx_cons,List.foldl_cons,yC off vs (k+1) _ D];have hlt:off+k<O cs.toList:=D
  simp [Array.toList_setIfInBounds];rw [show off+(k+1)=off+k+1 from by omega];rw [List.take_succ_eq_append_getElem M];rw [List.drop_set_of_lt V];simp [List.take_set_of_le (j9 _),o8]
  grind
def Ij {off:Nat}{v:Value}{cs:Array Value}(h:off+v.cells.size<=cs.size) :
  v.cells.zipIdx.foldl (λcs (c,j)=>cs.setIfInBounds (off+j) c) cs=(I9 cs.toList off v.cells.toList).toArray:=by
 have:=yC off v.cells.toList 0 cs (by simpa using h);have e:v.cells.zipIdx.foldl (λcs (c,j)=>cs.setIfInBounds (off+j) c) cs=(v.cells.toList.zipIdx 0).foldl (λ(cs:Array Value) (p:Value×Nat)=>cs.setIfInBounds (off+p.2) p.1) cs:=by
  rw [<- Array.foldl_toList];simp
 grind [Array.toList_inj,I9]
theorem jc (hρ:ah ck G I N w η ρ){place:Nat->Option (Nat×Nat)}:∀(parts:List (Nat×Operand)) (ps:List (Nat×Nat×A3)) (l cs:List c7) (xs:Array Value),
  gC P ck place parts ps=W->H6 G I N w l xs.toList->T4 l (ps.map λ(o,s,x)=>(o,s,ρ x))=J cs ->
  ∃ys:Array Value,Instr.fill place xs (parts.map λ(i,x)=>(i,η x))=J ys/\H6 G I N w cs ys.toList
 |[],[],l,cs,xs,_,hl,h=>by
  simp [T4] at h;subst h;exact ⟨xs,rfl,hl⟩
 |(i,x)::r,(off,sz,y)::q,l,cs,xs,hp,hl,h=>by
  simp [gC,c9,beq_iff_eq] at hp;obtain ⟨⟨h1,h2⟩,h3⟩:=hp;simp [E8,T4] at h;split at h
  next l' hl'=>
   split at h
   .obtain ⟨g1,g2⟩:=rV hl' (hρ _ _ h2)
    have hlen:(η x).cells.size=sz:=by
     have:=H6.length _ _ g1;simp_all
    have hlx:xs.size=O l:=by
     have:=H6.length _ _ hl;omega
    have jH:H6 G I N w (splice l off l') ((I9 xs.toList off (η x).cells.toList).toArray).toList:=by
     simp_all [H6.splice]
    obtain ⟨ys,e1,e2⟩:=jc hρ r q _ cs _ h3 jH h;refine ⟨ys,?_,e2⟩;have hc:¬ ((η x).cells.size≠sz||off+(η x).cells.size>xs.size)=W:=by
     simp_all
    simp only [E8,Instr.fill,h1];rw [if_neg hc,Ij V];exact e1
   .cases h
  .cases h
 |[],_::_,_,_,_,hp,_,_=>by simp [gC] at hp
 |_::_,[],_,_,_,hp,_,_=>by simp [gC] at hp
def fe {t:TypeId}{l:List c7}(h:rJ P t l=W):∃i z,P.info? t=J i/\i.zero=J z/\H6 G I N w l z.cells.toList:=by
 grind [rJ,cB]
def Fx (hρ:ah ck G I N w η ρ){o:Oper}{zero:List c7}{ps:List (Nat×Nat×A3)}(hc:D8 P ck o (.build zero ps)=W){v:c7}{rs:List Nat}
  (h:l5 ρ H (.build zero ps)=J (v,rs)):Good P G I N w η o v:=by
 obtain ⟨dst,aU,ty,pos,after,guard⟩:=o;cases aU<;>simp [D8] at hc<;>try simp_all
 rename_i t parts;simp [l5] at h;split at h
 next cs hcs=>
  obtain ⟨rfl,rfl⟩:=h;have key:∃ys:Array Value,P.built t (parts.toList.map λ(i,x)=>(i,η x))=J ys/\H6 G I N w cs ys.toList:=by
   split at hc
   .split at hc
    .simp [c9] at hc
     obtain ⟨it,z,e1,e2,e3⟩:=fe (G:=G) (I:=I) (N:=N) (w:=w) hc.1;obtain ⟨ys,f1,f2⟩:=jc hρ parts.toList ps zero cs z.cells hc.2 e3 hcs;simp_all [rZ,Program.built]
    .cases hc
   .split at hc
    .simp [c9] at hc
     obtain ⟨it,z,e1,e2,e3⟩:=fe (G:=G) (I:=I) (N:=N) (w:=w) hc.1;obtain ⟨ys,f1,f2⟩:=jc hρ parts.toList ps zero cs z.cells hc.2 e3 hcs;simp_all [Program.built]
    .cases hc
   .cases hc
  obtain ⟨ys,e1,e2⟩:=key;refine ⟨.agg ys,?_,by simp_all [VR]⟩;simp_all [run_build,execOp,Sem.run_bind]
 .cases h
def FB (VT:∀v,η (.const v)=v)(hρ:ah ck G I N w η ρ)(hH:HR G I N w H){o:Oper}{op:F0}(hc:D8 P ck o op=W){v:c7}{rs:List Nat}
  (h:l5 ρ H op=J (v,rs)):Good P G I N w η o v:=by
 cases op
 case pick=>exact Jd hρ hc h
 case build=>exact Fx hρ hc h
 case load=>exact Jb hρ hH hc h
 case oT=>exact Fz hρ hc h
 case bin=>exact Mi hρ hc h
 case un=>exact Pd hρ hc h
 case xJ=>exact Jc VT hρ hc h
 case x4=>exact Mj hρ hc h
 case NL=>exact Mk hρ hc h
 case ox=>exact Fy hρ hc h
 case kz=>exact Dq hρ hc h
 case bE=>exact Du hρ hc h
 case off=>exact Mn hρ hc h
 case gN=>exact IX hρ hc h
 case tw=>exact IY hρ hc h
 case F7=>exact IZ hρ hc h
 case extract=>exact AN hρ hc h
 case NR=>exact Ml hρ hc h
 case len=>exact Mm hρ hc h
 case U2=>exact Ja hρ hc h
 case gQ=>exact Ds hρ hc h
 case jk=>exact Dt hρ hc h
 case lookup=>exact Dr hρ hH hc h
 all_goals (unfold D8 at hc;split at hc<;>first|(cases hc;done)|(rename_i h1 h2;cases h2;done)|(rename_i h2;cases h2;done))
end
variable [D2]
def dc (G:Gh)(b:Nat)(l:HB):Gh:=λx=>if x=b then l else G x
def lu (I:O5)(id:Nat)(p:Nat×Nat):O5:=λx=>if x=id then p else I x
@[simp] theorem lz (G:Gh) (b:Nat) (l:HB):dc G b l b=l:=by simp [dc]
theorem G5 {G:Gh}{b:Nat}{l:HB}{x:Nat}(h:x≠b):dc G b l x=G x:=by simp [dc,h]
@[simp] theorem S3 (I:O5) (id:Nat) (p:Nat×Nat):lu I id p id=p:=by simp [lu]
def ay {I:O5}{id:Nat}{p:Nat×Nat}{x:Nat}(h:x≠id):lu I id p x=I x:=by simp [lu,h]
def hU (l:F9)(G:Gh)(w:World)(G' :Gh)(w' :World):Prop :=
 ∀id,l.may id=F->(∀b,G b= .obj id->G' b= .obj id/\w'.heap[b]? =w.heap[b]?)/\∀off,X7 (.cell id off) G w G' w'
theorem hU.refl (l:F9)(G:Gh)(w:World):hU l G w G w:=λ_ _=>⟨λ_ h=>⟨h,rfl⟩,λ_ _ _ h=>⟨h,rfl⟩⟩
theorem hU.trans {l:F9}{G:Gh}{w:World}{G1:Gh}{w1:World}{G2:Gh}{w2:World}(h:hU l G w G1 w1)(k:hU l G1 w1 G2 w2):hU l G w G2 w2:=by
 intro id hid;obtain ⟨h1,h2⟩:=h id hid;obtain ⟨k1,k2⟩:=k id hid;refine ⟨λb hb=>?_,λoff b n hb=>?_⟩
 .simp_all
 .obtain ⟨a1,a2⟩:=h2 off b n hb
  obtain ⟨b1,b2⟩:=k2 off b n a1;simp_all
def HA (l:F9)(H:k9):Prop :=
 ∀id o,H[id]? =J o->(id<l.strict->o.F4<=id+1)/\(id<l.base->o.F4<=l.base)
def Bs (_P:Program)(idle:FuncId->Bool)(d:Deferred):Prop :=
 ∃f cap,d.target= .fn (.func f) cap/\idle f=W
structure RI (X:Cx)(l:F9)(S:Nat->Prop)(st:F5)(a:Act)(w:World)(G:Gh)(I:O5)(N:Nat->Prop):Prop where
 T:∀(s:Nat) t,X.names[s]? =J t->VR G I N w (.slot s) (st.T.getD s .any) (a.tmps.getD t undef)
 L:∀(j:Nat),S j->∀d,(X.ops[j]?).bind (·.dst)=J d->X.names.contains d=F->VR G I N w (.loc j) (st.L.getD j .any) (a.tmps.getD d undef)
 H:HR G I N w st.H
 wf:WF G w
 Q7:HA l st.H
def zH {G:Gh}{b n:Nat}{pl tK :Place}(h:G b= .grow n pl)(x o:Nat):eT (dc G b (.grow n tK)) x o↔eT G x o:=by
 grind [eT,dc]
def Ext.relabel {G:Gh}{w:World}{b n:Nat}{pl tK :Place}(h:G b= .grow n pl):Ext G w (dc G b (.grow n tK)) w where
 os:=rfl
 tape:=rfl
 output:=rfl
 drawn _:=j9 _
 size:=j9 _
 gO x o hi:=⟨(zH h x o).2 hi,rfl⟩
 still x hx:=by
  grind [G5]
 shape _ c _ _ hc:=⟨c,hc,rfl⟩
def X7.relabel {G:Gh}{w:World}{b n:Nat}{pl tK q:Place}(h:G b= .grow n pl)(hq:q≠pl):X7 q G w (dc G b (.grow n tK)) w:=by
 intro x m hx
 grind [G5]
structure gb (pl:Place)(G:Gh)(w:World)(G' :Gh):Prop where
 ext:Ext G w G' w
 keeps:∀q,q≠pl->X7 q G w G' w
 obj:∀b id,G b= .obj id->G' b= .obj id
 wf:WF G w->WF G' w
theorem gb.refl (pl:Place)(G:Gh)(w:World):gb pl G w G:=⟨Ext.refl _ _,λ_ _ _ _ h=>⟨h,rfl⟩,λ_ _ h=>h,λh=>h⟩
def fT {G:Gh}{I:O5}{N:Nat->Prop}{w:World}{pl tK :Place}(hp' :tK ≠ .none){sz len:Nat}{cells:List Data}{x:Value}(h:VR G I N w pl (.own sz len cells) x) :
  ∃G',gb pl G w G' /\VR G' I N w tK (.own sz len cells) x:=by
 obtain ⟨hl,h⟩:=h
 rcases h with h|⟨hp,b,o,cap,c,e,f,h1,h2,h3,h4,h5,h6,h7⟩
 .exact ⟨G,gb.refl _ _ _,by simp_all [VR]⟩
 .refine ⟨dc G b (.grow (o+len * sz) tK),⟨Ext.relabel h6,λq hq=>X7.relabel h6 hq,λx id hx=>?_,λhwf x hx=>?_⟩,?_⟩
  .grind [G5]
  .have:x≠b:=by
    grind
   rw [G5 this];exact hwf x hx
  .exact ⟨hl,Or.inr ⟨hp',b,o,cap,c,e,f,h1,h2,h3,h4,h5,lz _ _ _,cS.mono (Ext.relabel h6).gO b o cells h7⟩⟩
def K5 {α:Type}(l:List α)(i:Nat)(v d:α)(h:i<O l):(l.set i v).getD i d=v:=by
 simp_all
theorem L5 {α:Type}(l:List α)(i j:Nat)(v d:α)(h:i≠j):(l.set i v).getD j d=l.getD j d:=by
 simp_all
theorem y8 {α:Type}{l:List α}{i:Nat}{v:α}(h:l[i]? =J v):i<O l:=by
 grind
def Y3 {α:Type}{l:List α}{i:Nat}{v d:α}(h:l[i]? =J v):l.getD i d=v:=M
section
variable {X:Cx} {l:F9} {S:Nat->Prop} {st:F5} {a:Act} {w:World} {G:Gh} {I:O5} {N:Nat->Prop}
def HR.CV {H:k9}{pl:Place}(hH:HR G I N w H){G' :Gh}(hm:gb pl G w G')(oJ:∀id off,pl≠ .cell id off):HR G' I N w H:=by
 intro id o ho;exact OR.mono hm.ext (λ_ _=>rfl) (λ_ h=>h) id o (λh=>⟨hm.obj _ _ h,rfl⟩) (λoff=>hm.keeps _ (λe=>oJ id off e.symm)) (hH id o ho)
def RI.MN (h:RI X l S st a w G I N){s:Nat}{sz len:Nat}{cells:List Data}(hs:st.T[s]? =J (.own sz len cells))(l6:List Touch)
  {G' :Gh} (hm:gb (.slot s) G w G'):RI X l S { st with T:=st.T.set s (.d (.slice len cells)),l6 } a w G' I N where
 T s' t ht:=by
  by_cases he:s' =s
  .subst he
   have h1:=h.T s' t ht;rw [Y3 hs] at h1;rw [K5 _ _ _ _ (y8 hs)];have h2:VR G I N w (.slot s') (c7.I7 (.own sz len cells)) (a.tmps.getD t undef):=h1.I7;exact DR.mono hm.ext.gO _ _ h2
  .rw [L5 _ _ _ _ _ (λe=>he e.symm)]
   exact VR.mono hm.ext (λ_ _=>rfl) (λ_ h=>h) _ _ _ (Or.inr (hm.keeps _ (λe=>he (by cases e;rfl)))) (h.T s' t ht)
 L j hj d hd hn:=VR.mono hm.ext (λ_ _=>rfl) (λ_ h=>h) _ _ _ (Or.inr (hm.keeps _ (λe=>by cases e))) (h.L j hj d hd hn)
 H:=h.H.CV hm (λ_ _ e=>by cases e)
 wf:=hm.wf h.wf
 Q7:=h.Q7
def RI.Hv (h:RI X l S st a w G I N){j0:Nat}{sz len:Nat}{cells:List Data}(hs:st.L[j0]? =J (.own sz len cells))
  {G' :Gh} (hm:gb (.loc j0) G w G'):RI X l S { st with L:=st.L.set j0 (.d (.slice len cells)) } a w G' I N where
 T s' t ht:=VR.mono hm.ext (λ_ _=>rfl) (λ_ h=>h) _ _ _ (Or.inr (hm.keeps _ (λe=>by cases e))) (h.T s' t ht)
 L j hj d hd hn:=by
  by_cases he:j=j0
  .subst he
   have h1:=h.L j hj d hd hn;rw [Y3 hs] at h1;rw [K5 _ _ _ _ (y8 hs)];have h2:VR G I N w (.loc j) (c7.I7 (.own sz len cells)) (a.tmps.getD d undef):=h1.I7;exact DR.mono hm.ext.gO _ _ h2
  .rw [L5 _ _ _ _ _ (λe=>he e.symm)]
   exact VR.mono hm.ext (λ_ _=>rfl) (λ_ h=>h) _ _ _ (Or.inr (hm.keeps _ (λe=>he (by cases e;rfl)))) (h.L j hj d hd hn)
 H:=h.H.CV hm (λ_ _ e=>by cases e)
 wf:=hm.wf h.wf
 Q7:=h.Q7
theorem iU:∀(l:List c7) (i:Nat) (x:Data),A2 (l.set i (.d x))<=A2 l
 |[],_,_=>U
 |v::vs,0,x=>by grind [A2,c7.F4]
 |v::vs,i+1,x=>by
  have:=iU vs i x
  grind [A2]
def RI.MM (h:RI X l S st a w G I N){id off:Nat}{cs:List c7}{sz len:Nat}{cells:List Data}(hid:st.H[id]? =J (.cells cs))(hs:cs[off]? =J (.own sz len cells))(l6:List Touch)
  {G' :Gh} (hm:gb (.cell id off) G w G'):RI X l S { st with H:=st.H.set id (.cells (cs.set off (.d (.slice len cells)))),l6 } a w G' I N where
 T s' t ht:=by
  exact VR.mono hm.ext (λ_ _=>rfl) (λ_ h=>h) _ _ _ (Or.inr (hm.keeps _ (λe=>by cases e))) (h.T s' t ht)
 L j hj d hd hn:=by
  exact VR.mono hm.ext (λ_ _=>rfl) (λ_ h=>h) _ _ _ (Or.inr (hm.keeps _ (λe=>by cases e))) (h.L j hj d hd hn)
 H:=by
  intro id' o ho
  by_cases he:id' =id
  .subst he
   rw [E0 (y8 hid)] at ho;cases ho;have hO:=h.H id' _ hid;obtain ⟨hN,c,e,f,h1,h2,h3,h4,h5⟩:=hO
   .refine ⟨hN,c,e,f,h1,hm.obj _ _ h2,h3,M,λi x hx=>?_⟩
    by_cases hi:i=off
    .subst hi
     rw [E0 (y8 hs)] at hx;cases hx;obtain ⟨v,g1,g2⟩:=h5 i _ hs;refine ⟨v,g1,?_⟩;have h2:VR G I N w (.cell id' i) (c7.I7 (.own sz len cells)) v:=g2.I7;exact DR.mono hm.ext.gO _ _ h2
    .rw [x5 (λe=>hi e.symm)] at hx
     obtain ⟨v,g1,g2⟩:=h5 i x hx;exact ⟨v,g1,VR.mono hm.ext (λ_ _=>rfl) (λ_ h=>h) _ _ _ (Or.inr (hm.keeps _ (λe=>hi (by cases e;rfl)))) g2⟩
  .rw [x5 (λe=>he e.symm)] at ho
   exact OR.mono hm.ext (λ_ _=>rfl) (λ_ h=>h) id' o (λh=>⟨hm.obj _ _ h,rfl⟩) (λoff' =>hm.keeps _ (λe=>he (by cases e;rfl))) (h.H id' o ho)
 wf:=hm.wf h.wf
 Q7:=by
  intro id' o ho
  by_cases he:id' =id
  .subst he
   rw [E0 (y8 hid)] at ho;obtain ⟨d1,d2⟩:=h.Q7 id' _ hid
   grind [iU,s6.F4]
  .rw [x5 (λe=>he e.symm)] at ho
   exact h.Q7 id' o ho
end
end Go.y9
namespace Go.y9
variable [D2]
structure fF (w w' :World)(o:Obj):Prop where
 os:w'.os=w.os
 tape:w'.tape=w.tape
 output:w'.output=w.output
 drawn:w.drawn<=w'.drawn
 size:w'.heap.size=w.heap.size+1
 old:∀b,b<w.heap.size->w'.heap[b]? =w.heap[b]?
 new:w'.heap[w.heap.size]? =J o
theorem fF.alloc (w:World)(o:Obj):fF w (w.alloc o) o :=
 ⟨rfl,rfl,rfl,j9 _,U,λb hb=>RowKit.Below.heap_alloc w o b hb,by show (w.heap.push o)[w.heap.size]? =_;simp⟩
def fF.drew {w w' :World}{o:Obj}(h:fF w w' o)(n:Nat)(hn:w'.drawn<=n):fF w { w' with drawn:=n } o:=⟨h.os,h.tape,h.output,p7 h.drawn hn,h.size,h.old,h.new⟩
def Y0 {G:Gh}{w:World}(hwf:WF G w){b:Nat}(h:G b≠ .free):b<w.heap.size:=by
 rcases y7 b w.heap.size with h' |h'
 .exact h'
 .exact absurd (hwf b h') h
section
variable {G:Gh} {w w' :World} {ob:Obj}
theorem fF.cell (hn:fF w w' ob){b:Nat}(hb:b<w.heap.size)(o:Nat):w'.cell? (ad b o)=w.cell? (ad b o):=by
 simp [World.cell?,hn.old b hb]
theorem fF.ext (hn:fF w w' ob)(hwf:WF G w)(gX:HB):Ext G w (dc G w.heap.size gX) w' where
 os:=hn.os
 tape:=hn.tape
 output:=hn.output
 drawn _:=hn.drawn
 size:=by rw [hn.size];omega
 gO b o hi:=by
  have hb:b<w.heap.size:=Y0 hwf (by intro e;simp [eT,e] at hi);have hne:b≠w.heap.size:=V
  refine ⟨?_,hn.cell hb o⟩;unfold eT at hi ⊢;rw [G5 hne];exact hi
 still b hb:=by
  have hlt:b<w.heap.size:=Y0 hwf (by rintro e;rw [e] at hb;rcases hb with hb|⟨n,hb⟩<;>cases hb);exact ⟨G5 V,hn.old b hlt⟩
 shape b c e f hc:=by
  have hlt:b<w.heap.size:=by
   rcases y7 b w.heap.size with h|h
   .exact h
   .rw [Array.getElem?_eq_none h] at hc;cases hc
  exact ⟨c,by rw [hn.old b hlt];exact hc,rfl⟩
def fF.keeps (hn:fF w w' ob)(hwf:WF G w)(gX:HB)(q:Place):X7 q G w (dc G w.heap.size gX) w' :=by
 intro b n hb;have hlt:b<w.heap.size:=Y0 hwf (by rw [hb];simp);exact ⟨by grind [G5],hn.old b hlt⟩
def fF.tF (hn:fF w w' ob)(hwf:WF G w)(gX:HB)(id:Nat):∀b,G b= .obj id->(dc G w.heap.size gX) b= .obj id/\w'.heap[b]? =w.heap[b]? :=by
 intro b hb;have hlt:b<w.heap.size:=Y0 hwf (by rw [hb];simp);exact ⟨by grind [G5],hn.old b hlt⟩
def fF.wf (hn:fF w w' ob)(hwf:WF G w)(gX:HB):WF (dc G w.heap.size gX) w' :=by
 intro b hb;rw [hn.size] at hb;rw [G5 V];exact hwf b V
def fF.aV (hn:fF w w' ob)(hwf:WF G w)(gX:HB)(l:F9):hU l G w (dc G w.heap.size gX) w' :=
 λid _=>⟨hn.tF hwf gX id,λoff=>hn.keeps hwf gX (.cell id off)⟩
def fF.hr (hn:fF w w' ob)(hwf:WF G w)(gX:HB){I I' :O5}{N N' :Nat->Prop}{H:k9}(hI:∀id,N id->I' id=I id)(hN:∀id,N id->N' id)(h:HR G I N w H) :
  HR (dc G w.heap.size gX) I' N' w' H :=
 λid o ho=>OR.mono (hn.ext hwf gX) hI hN id o (λhb=>hn.tF hwf gX id _ hb) (λ_=>hn.keeps hwf gX _) (h id o ho)
def fF.vr (hn:fF w w' ob)(hwf:WF G w)(gX:HB){I I' :O5}{N N' :Nat->Prop}(hI:∀id,N id->I' id=I id)(hN:∀id,N id->N' id){pl:Place}{a:c7}{x:Value}(h:VR G I N w pl a x) :
  VR (dc G w.heap.size gX) I' N' w' pl a x :=
 VR.mono (hn.ext hwf gX) hI hN pl a x (Or.inr (hn.keeps hwf gX pl)) h
end
structure Z6 (X:Cx)(l:F9)(S:Nat->Prop)(entry:Nat)(st:F5)(a:Act)(w:World)(G:Gh)(I:O5)(N:Nat->Prop)
  (st' :F5) (k:Nat) (x' :Value) (w' :World) (G' :Gh) (I' :O5) (N' :Nat->Prop):Prop where
 ri:RI X l S st' a w' G' I' N'
 val:VR G' I' N' w' (.loc k) (st'.L.getD k .any) x'
 ext:Ext G w G' w'
 aV:hU l G w G' w'
 ko:∀id,N id->st'.l6.any (Touch.E3 id)=F->I' id=I id/\∀b,G b= .obj id->G' b= .obj id/\w'.heap[b]? =w.heap[b]?
 inj:∀id,id<entry->N id->I' id=I id
 mono:∀id,N id->N' id
 len:O st.H<=O st'.H
 hle:∀id o',id<l.base->st'.H[id]? =J o' ->o'.F4<=id+1\/∃o,st.H[id]? =J o/\o'.F4<=o.F4
section
variable {P:Program} {X:Cx} {l:F9} {S:Nat->Prop} {st:F5} {a:Act} {w w' :World} {G:Gh} {I:O5} {N:Nat->Prop} {ob:Obj}
theorem Z6.l6 {S:Nat->Prop}{entry:Nat}{st' :F5}{k:Nat}{x' :Value}{G' :Gh}{I' :O5}{N' :Nat->Prop}(h:Z6 X l S entry st a w G I N st' k x' w' G' I' N')(p:Touch):Z6 X l S entry st a w G I N { st' with l6:=p::st'.l6 } k x' w' G' I' N' where
 ri:=⟨h.ri.T,h.ri.L,h.ri.H,h.ri.wf,h.ri.Q7⟩
 val:=h.val
 ext:=h.ext
 aV:=h.aV
 ko id hN ht:=h.ko id hN (by simp only [List.any_cons,C7] at ht;exact ht.2)
 inj:=h.inj
 mono:=h.mono
 len:=h.len
 hle:=h.hle
def RI.new (h:RI X l S st a w G I N)(hn:fF w w' ob)(gX:HB):RI X l S st a w' (dc G w.heap.size gX) I N where
 T s t ht:=hn.vr h.wf gX (λ_ _=>rfl) (λ_ h=>h) (h.T s t ht)
 L j hj d hd hN:=hn.vr h.wf gX (λ_ _=>rfl) (λ_ h=>h) (h.L j hj d hd hN)
 H:=hn.hr h.wf gX (λ_ _=>rfl) (λ_ h=>h) h.H
 wf:=hn.wf h.wf gX
 Q7:=h.Q7
theorem RI.put (h:RI X l S st a w G I N){k:Nat}(hk:¬ S k)(v:c7):RI X l S (put st k v) a w G I N where
 T:=h.T
 L j hj d hd hN:=by
  have:k≠j:=by grind
  simp only [y9.put];rw [L5 _ _ _ _ _ this];exact h.L j hj d hd hN
 H:=h.H
 wf:=h.wf
 Q7:=h.Q7
def Z6.same (h:RI X l S st a w G I N){k:Nat}(hk:¬ S k)(U8:k<O st.L)(entry:Nat){v:c7}{x:Value}(hv:VR G I N w (.loc k) v x) :
  Z6 X l S entry st a w G I N (put st k v) k x w G I N where
 ri:=h.put hk v
 val:=by simp_all [y9.put,K5]
 ext:=Ext.refl _ _
 aV:=hU.refl _ _ _
 ko _ _ _:=⟨rfl,λ_ hb=>⟨hb,rfl⟩⟩
 inj _ _ _:=rfl
 mono _ h:=h
 len:=j9 _
 hle _ o _ ho:=Or.inr ⟨o,ho,j9 _⟩
def Z6.fresh (h:RI X l S st a w G I N){k:Nat}(hk:¬ S k)(U8:k<O st.L)(entry:Nat)(hn:fF w w' ob)(gX:HB){v:c7}{x:Value}
  (hv:VR (dc G w.heap.size gX) I N w' (.loc k) v x):Z6 X l S entry st a w G I N (put st k v) k x w' (dc G w.heap.size gX) I N where
 ri:=(h.new hn gX).put hk v
 val:=by simp_all [y9.put,K5]
 ext:=hn.ext h.wf gX
 aV:=hn.aV h.wf gX l
 ko id _ _:=⟨rfl,hn.tF h.wf gX id⟩
 inj _ _ _:=rfl
 mono _ h:=h
 len:=j9 _
 hle _ o _ ho:=Or.inr ⟨o,ho,j9 _⟩
end
section
variable {G:Gh} {I:O5} {N:Nat->Prop} {w w' :World}
theorem gp:∀(cs:List c7) (xs:List Data) (vs:List Value),H7 cs=J xs->H6 G I N w cs vs ->
  O xs=O cs/\∀(i:Nat) x,xs[i]? =J x->∃v,vs[i]? =J v/\DR G w x v
 |[],xs,vs,h,_=>by
  simp_all [H7]
 |c::cs,xs,vs,h,hv=>by
  obtain ⟨v,vs',rfl,h2,h3⟩:=hv;unfold H7 at h;split at h
  next x hx=>
   split at h
   next ys hys=>
    simp at h;subst h;obtain ⟨g1,g2⟩:=gp cs ys vs' hys h3;refine ⟨by simp [g1],λi y hi=>?_⟩;cases i with
    |zero =>
     unfold c7.data? at hx;split at hx
     .simp_all [VR]
     .have:=h2.I7 (tK := .none)
      simp_all [c7.I7,VR]
     .have:=h2.I7 (tK := .none)
      simp_all [c7.I7,VR]
     .cases hx
    |succ i=>simp_all
   .cases h
  .cases h
theorem uh {b:Nat}:∀(o:Nat) (xs:List Data),(∀(i:Nat) x,xs[i]? =J x->eT G b (o+i)/\∃v,w.cell? (ad b (o+i))=J v/\DR G w x v)->cS G w b o xs
 |_,[],_=>by simp [cS]
 |o,x::xs,h=>by
  obtain ⟨h1,h2⟩:=h 0 x rfl;refine ⟨V,V,uh (o+1) xs λi y hi=>?_⟩;have:=h (i+1) y M
  grind
def Hg (hwf:WF G w){c:Array Value}{e:TypeId}{f:Nat×Nat}(hn:fF w w' (.cells c e f))(hf:Et f c.size){cs:List c7}{xs:List Data}{vs:List Value}
  (hd:H7 cs=J xs) (hv:H6 G I N w cs vs) (hc:∀(i:Nat) v,vs[i]? =J v->c[i]? =J v) {sz len cap:Nat} (hl:O xs=len * sz) (hcap:len<=cap) (hsz:cap * sz<=c.size) {pl:Place} (hp:pl≠ .none) :
  VR (dc G w.heap.size (.grow (len * sz) pl)) I N w' pl (.own sz len xs) (.slice (J (ad w.heap.size 0)) len cap):=by
 refine ⟨hl,Or.inr ⟨hp,w.heap.size,0,cap,c,e,f,rfl,hcap,hn.new,V,hf,U,?_⟩⟩;obtain ⟨g1,g2⟩:=gp cs xs vs hd hv;refine uh 0 xs λi x hi=>?_
 obtain ⟨v,e1,e2⟩:=g2 i x hi;have hlt:=y8 hi;refine ⟨by simp [eT];omega,v,?_,DR.mono (hn.ext hwf _).gO _ _ e2⟩;rw [P6 hn.new];simp_all
end
end Go.y9
namespace Go.y9
variable [D2]
def Bj (P:Program)(e:TypeId)(n:Nat):Option (List Value) :=
 if n=0 then J [] else
 match P.info? e with
 |some i=>match i.zero with
  |some z=>J ((Array.range n).map (z.cells[· % z.cells.size]!)).toList
  |none=>K
 |none=>K
def aj (P:Program)(ck:Operand->A3->Bool)(o:Oper)(op:F0):Bool :=
 match o.op,op with
 | .alloc t,.alloc zero=>rJ P t zero
 | .box _ x,.box y=>ck x y
 | .makeMap _ K,.makeMap=>W
 | .makeSlice t n c,.gw sz zero x y=>ck n x&&ck c y&&iE P t sz&&(match P.underlying t with
  |some (.slice e)=>rJ P e zero&&(match P.info? e with
   |some i=>Nat.beq i.size sz&&Nat.ble i.bytes 1000
   |none=>F)
  |_=>F)
 | .buildSlice t n parts,.M8 sz len zero ps _=>n==len&&iE P t sz&&decide (len * sz<=16777216)&&(match P.underlying t with
  |some (.slice e)=>(match Bj P e (len * sz) with
   |some zs=>consts zs zero&&gC P ck (λi=>J (i * sz,sz)) parts.toList ps
   |none=>F)
  |_=>F)
 |_,_=>F
section
variable {P:Program} {X:Cx} {l:F9} {S:Nat->Prop} {st:F5} {a:Act} {w w' :World} {G:Gh} {I:O5} {N:Nat->Prop} {ob:Obj}
structure ta (l:F9)(st:F5)(N:Nat->Prop)(z6:Option Nat):Prop where
 new:¬ N (newId st z6)
 inside:∀i,z6=J i->i<O st.H
 base:l.base<=newId st z6
 strict:l.strict<=newId st z6
def CW (st:F5)(z6:Option Nat)(o:s6):O st.H<=O (C8 st z6 o).H:=by
 cases z6<;>simp [C8]
theorem eo {st:F5}{z6:Option Nat}(hi:∀i,z6=J i->i<O st.H)(o:s6)(id:Nat)(o' :s6)(h:(C8 st z6 o).H[id]? =J o') :
  (id=newId st z6/\o' =o)\/(id≠newId st z6/\st.H[id]? =J o'):=by
 cases z6 with
 |none =>
  grind [C8,newId,Nat.lt_trichotomy,s9,List.getElem?_eq_none]
 |some i =>
  grind [C8,newId,E0,x5]
def Z6.newObj (h:RI X l S st a w G I N){k:Nat}(hk:¬ S k)(U8:k<O st.L)(entry:Nat){z6:Option Nat}(hid:ta l st N z6)(hn:fF w w' ob)(o:s6)
  (ho:OR (dc G w.heap.size (.obj (newId st z6))) (lu I (newId st z6) (w.heap.size,0)) (λi=>N i\/i=newId st z6) w' (newId st z6) o) {v:c7} {x:Value}
  (hv:VR (dc G w.heap.size (.obj (newId st z6))) (lu I (newId st z6) (w.heap.size,0)) (λi=>N i\/i=newId st z6) w' (.loc k) v x) :
  Z6 X l S entry st a w G I N (put (C8 st z6 o) k v) k x w' (dc G w.heap.size (.obj (newId st z6))) (lu I (newId st z6) (w.heap.size,0)) (λi=>N i\/i=newId st z6):=by
 have hI:∀id,N id->lu I (newId st z6) (w.heap.size,0) id=I id:=λid hN=>ay (by rintro rfl;exact hid.new hN)
 have hT:(C8 st z6 o).T=st.T:=by cases z6<;>rfl
 have hL:(C8 st z6 o).L=st.L:=by cases z6<;>rfl
 refine ⟨⟨?_,?_,?_,hn.wf h.wf _,?_⟩,?_,hn.ext h.wf _,hn.aV h.wf _ l,?_,?_,λ_ h=>Or.inl h,CW st z6 o,?_⟩
 .intro s t ht
  simp only [y9.put,hT];exact hn.vr h.wf _ hI (λ_ h=>Or.inl h) (h.T s t ht)
 .intro j hj d hd hN
  have:k≠j:=by grind
  simp only [y9.put,hL];rw [L5 _ _ _ _ _ this];exact hn.vr h.wf _ hI (λ_ h=>Or.inl h) (h.L j hj d hd hN)
 .intro id o' ho'
  rcases eo hid.inside o id o' ho' with ⟨rfl,rfl⟩|⟨hne,hold⟩
  .exact ho
  .exact OR.mono (hn.ext h.wf _).sub hI (λ_ h=>Or.inl h) id o' (λhb=>hn.tF h.wf _ id _ hb) (λ_=>hn.keeps h.wf _ _) (h.H id o' hold)
 .intro id o' ho'
  rcases eo hid.inside o id o' ho' with ⟨rfl,rfl⟩|⟨hne,hold⟩
  .exact ⟨λhx=>absurd hx (by have:=hid.strict;omega),λhx=>absurd hx (by have:=hid.base;omega)⟩
  .exact h.Q7 id o' hold
 .simp_all [y9.put,K5]
 .intro id hN _
  exact ⟨hI id hN,hn.tF h.wf _ id⟩
 .simp_all
 .intro id o' hb ho'
  rcases eo hid.inside o id o' ho' with ⟨rfl,rfl⟩|⟨hne,hold⟩
  .exact absurd hb (by have:=hid.base;omega)
  simp_all
def iR (n:Nat):Et (0,0) n:=by intro o _ h;simp at h
def zK (hwf:WF G w){c:Array Value}{e:TypeId}(hn:fF w w' (.cells c e)){id:Nat}(hid:¬ N id){cs:List c7}(hv:H6 G I N w cs c.toList) :
  OR (dc G w.heap.size (.obj id)) (lu I id (w.heap.size,0)) (λi=>N i\/i=id) w' id (.cells cs):=by
 simp only [OR];refine ⟨Or.inr trivial,c,e,(0,0),by simpa using hn.new,U,iR _,?_,λi x hx=>?_⟩
 .have:=H6.length _ _ hv
  simp_all
 .let ⟨v,g1,g2⟩:=H6.get cs _ hv i x hx
  refine ⟨v,M,?_⟩;exact (hn.vr hwf _ (λj hj=>ay (by grind)) (λ_ h=>Or.inl h) g2).place
variable {ck:Operand->A3->Bool}
def IK (h:RI X l S st a w G I N){k:Nat}(hk:¬ S k)(U8:k<O st.L)(entry:Nat){z6:Option Nat}(hid:ta l st N z6){o:Oper}{zero:List c7}
  (hc:aj P ck o (.alloc zero)=W):∃x w' G' I' N',(execOp a.eval o).run P w= .ok (.value x) w' /\
   Z6 X l S entry st a w G I N (put (C8 st z6 (.cells zero)) k (.ptr (newId st z6) 0)) k x w' G' I' N' /\(∀i,N' i↔N i\/i=newId st z6):=by
 let ⟨dst,aU,ty,pos,after,guard⟩:=o
 cases aU<;>simp [aj] at hc<;>try (cases hc)
 rename_i t
 let ⟨it,z,e1,e2,e3⟩:=fe (G:=G) (I:=I) (N:=N) (w:=w) hc
 have hz:(zeroValue t).run P w= .ok z w:=by simp [zeroValue,typeInfo,e1,e2]
 refine ⟨.pointer (J (ad w.heap.size 0)),w.alloc (.cells z.cells t),_,_,_,?_,Z6.newObj h hk U8 entry hid (fF.alloc w (.cells z.cells t)) (.cells zero) (zK h.wf (fF.alloc w _) hid.new e3) ?_,λi=>Iff.rfl⟩
 all_goals simp_all [execOp,Instr.alloc,newVar,newRow,VR,trivial]
def OD (h:RI X l S st a w G I N)(hρ:ah ck G I N w a.eval (F1 st.T st.L)){k:Nat}(hk:¬ S k)(U8:k<O st.L)(entry:Nat){z6:Option Nat}(hid:ta l st N z6){o:Oper}{y:A3}
  (hc:aj P ck o (.box y)=W) {cs:List c7} (hcs:(F1 st.T st.L y).cells? =J cs):∃x w' G' I' N',(execOp a.eval o).run P w= .ok (.value x) w' /\
   Z6 X l S entry st a w G I N (put (C8 st z6 (.cells cs)) k (.ptr (newId st z6) 0)) k x w' G' I' N' /\(∀i,N' i↔N i\/i=newId st z6):=by
 let ⟨dst,aU,ty,pos,after,guard⟩:=o
 cases aU<;>simp [aj] at hc<;>try (cases hc)
 rename_i t x
 let ⟨g1,_⟩:=rV hcs (hρ _ _ hc)
 refine ⟨.pointer (J (ad w.heap.size 0)),w.alloc (.cells (a.eval x).cells t),_,_,_,?_,Z6.newObj h hk U8 entry hid (fF.alloc w (.cells (a.eval x).cells t)) (.cells cs) (zK h.wf (fF.alloc w _) hid.new g1) ?_,λi=>Iff.rfl⟩
 all_goals simp_all [execOp,Instr.box,newVar,newRow,VR,trivial]
def OE (h:RI X l S st a w G I N){k:Nat}(hk:¬ S k)(U8:k<O st.L)(entry:Nat){z6:Option Nat}(hid:ta l st N z6){o:Oper}
  (hc:aj P ck o .makeMap=W):∃x w' G' I' N',(execOp a.eval o).run P w= .ok (.value x) w' /\
   Z6 X l S entry st a w G I N (put (C8 st z6 (.map [])) k (.map (newId st z6))) k x w' G' I' N' /\(∀i,N' i↔N i\/i=newId st z6):=by
 let ⟨dst,aU,ty,pos,after,guard⟩:=o
 unfold aj at hc;split at hc<;>try (cases hc)
 all_goals try (rename_i kE ga;cases ga)
 rename_i t kE ga;subst kE;have hn:=fF.alloc w (.map #[] 0);refine ⟨.map (J w.heap.size),w.alloc (.map #[] 0),_,_,_,?_,Z6.newObj h hk U8 entry hid hn (.map []) ?_ ?_,λi=>Iff.rfl⟩
 .rfl
 .simp only [OR]
  exact ⟨Or.inr trivial,#[],0,by simpa using hn.new,U,by simp [ER],⟨U,U⟩⟩
 simp_all [VR,trivial]
theorem vA (z:Array Value):∀n:Nat,(madeCells z (n * z.size)).toList=(c8 n z.toList).flatten:=by
 intro n
 by_cases h0:z.size=0
 .simp_all [List.eq_nil_of_length_eq_zero,c8,L3,List.flatten_cons,madeCells]
 .induction n with
  |zero=>simp [madeCells]
  |succ n ih =>
   have e:(c8 (n+1) z.toList).flatten=(c8 n z.toList).flatten++z.toList:=by
    simp_all [List.replicate_succ',List.flatten_append]
   rw [e,<- ih];apply List.ext_getElem
   .grind [madeCells]
   .intro i h1 h2
    have h1' :i<(n+1) * z.size:=by simp_all [madeCells]
    rw [Nat.add_mul,Nat.one_mul] at h1'
    rcases y7 i (n * z.size) with h|h
    .grind [List.getElem_append_left,madeCells]
    .rw [List.getElem_append_right M]
     have hm:i % z.size=i - n * z.size:=by
      have e2:i=(i - n * z.size)+n * z.size:=V
      have e3:i % z.size=((i - n * z.size)+n * z.size) % z.size:=congrArg (· % z.size) e2;rw [e3,Nat.add_mul_mod_self_right,Nat.mod_eq_of_lt V]
     grind [madeCells]
theorem Bt {zero:List c7}{zs:List Value}(h:H6 G I N w zero zs):∀n:Nat,H6 G I N w (c8 n zero).flatten (c8 n zs).flatten
 |0=>by simp [H6]
 |n+1=>H6.append _ _ _ _ h (Bt h n)
def CJ {sz:Nat}{zero:List c7}{x y:c7}{n:Nat}(h:oL sz zero x y=J n):x= .d (.int .i64 n)/\y= .d (.int .i64 n)/\n<=1000000/\0<sz/\O zero=sz:=by
 simp_all [oL]<;>grind
def IL (h:RI X l S st a w G I N)(hρ:ah ck G I N w a.eval (F1 st.T st.L)){k:Nat}(hk:¬ S k)(U8:k<O st.L)(entry:Nat){z6:Option Nat}(hid:ta l st N z6){o:Oper}{sz:Nat}{zero:List c7}{x y:A3}
  (hc:aj P ck o (.gw sz zero x y)=W) {n:Nat} (hn:oL sz zero (F1 st.T st.L x) (F1 st.T st.L y)=J n) :
  ∃x w' G' I' N',(execOp a.eval o).run P w= .ok (.value x) w' /\
   Z6 X l S entry st a w G I N (put (C8 st z6 (.cells (c8 n zero).flatten)) k (.r7 (newId st z6) sz 0 n)) k x w' G' I' N' /\(∀i,N' i↔N i\/i=newId st z6):=by
 let ⟨dst,aU,ty,pos,after,guard⟩:=o
 cases aU<;>simp [aj,c9] at hc<;>try (cases hc;done)
 rename_i t c1 c2
 let ⟨⟨⟨h1,h2⟩,ht⟩,hz⟩:=hc
 let ⟨e,hu,Of,hie⟩:=cC ht
 let ⟨e1,e2,hb,hsz,hzl⟩:=CJ hn
 simp [hu,c9] at hz
 let ⟨Ol,Cu⟩:=hz
 let ⟨it,z,f1,f2,f3⟩:=fe (G:=G) (I:=I) (N:=N) (w:=w) Ol
 rw [f1] at Cu;simp only [c9] at Cu;have s1:it.size=sz:=Nat.eq_of_beq_eq_true Cu.1;have s2:it.bytes<=1000:=j4 Cu.2;have g1:=hρ _ _ h1;have g2:=hρ _ _ h2;rw [e1] at g1;rw [e2] at g2;simp [VR,DR] at g1 g2;have hzs:z.cells.size=sz:=by
  have:=H6.length _ _ f3;simp_all
 have hb' :(it.bytes:Int) * (n:Int)<=281474976710656:=by
  have h:it.bytes * n<=1000 * 1000000:=Nat.mul_le_mul s2 hb;omega
 have hr:=run_make (P:=P) w t e it z hu f1 f2 .i64 .i64 n n V (Int.le_refl _) hb' V;have hcs:H6 G I N w (c8 n zero).flatten (madeCells z.cells (n * it.size)).toList:=by
  grind [vA,Bt]
 have Yd:=fF.alloc w (.cells (madeCells z.cells (n * it.size)) e);refine ⟨.slice (J (ad w.heap.size 0)) n n,_,_,_,_,?_,Z6.newObj h hk U8 entry hid Yd (.cells (c8 n zero).flatten) (zK h.wf Yd hid.new hcs) ?_,λi=>Iff.rfl⟩
 .simp_all [execOp,ad]
 .simp only [VR]
  exact ⟨Or.inr trivial,n,U,j9 _,madeCells z.cells (n * it.size),e,(0,0),by simpa using Yd.new,by simp [size_madeCells,s1]⟩
def kT (hρ:ah ck G I N w a.eval (F1 st.T st.L)){o:Oper}{sz len:Nat}{zero:List c7}{ps:List (Nat×Nat×A3)}{b:Bool}
  (hc:aj P ck o (.M8 sz len zero ps b)=W) {cs:List c7} (hcs:T4 zero (ps.map λ(o,s,x)=>(o,s,F1 st.T st.L x))=J cs) :
  ∃(ys:Array Value) (e:TypeId),(execOp a.eval o).run P w= .ok (.value (.slice (J (ad w.heap.size 0)) len len)) (w.alloc (.cells ys e))/\H6 G I N w cs ys.toList:=by
 let ⟨dst,aU,ty,pos,after,guard⟩:=o
 cases aU<;>simp [aj,c9,beq_iff_eq,decide_eq_true_eq] at hc<;>try (cases hc;done)
 rename_i t n parts
 let ⟨⟨⟨rfl,ht⟩,JE⟩,hz⟩:=hc
 let ⟨e,hu,Of,hie⟩:=cC ht
 have hsize:(sizeOf e).run P w= .ok sz w:=by simp_all [run_sizeOf]
 simp [hu] at hz;split at hz
 next zs hzs=>
  simp [c9] at hz
  let ⟨Ol,Cu⟩:=hz
  have VS:H6 G I N w zero zs:=cB _ _ Ol
  let ⟨ys,f1,f2⟩:=jc (P:=P) hρ parts.toList ps zero cs zs.toArray Cu V hcs
  refine ⟨ys,e,?_,f2⟩;have hno:¬ n * sz>2 ^ 24:=V
  have Sn:(parts.map λ(i,x)=>(i,a.eval x)).toList=parts.toList.map λ(i,x)=>(i,a.eval x):=U
  by_cases h0:n * sz=0
  .unfold Bj at hzs
   rw [if_pos h0] at hzs;simp only [execOp,Instr.buildSlice,Sem.run_bind,run_underlying hu,Result.andThen_ok,hsize,if_neg hno,if_pos h0,Sem.run_pure];have e1:(Array.range (n * sz)).map (λx=>((#[]:Array Value)[x % (#[]:Array Value).size]!))= #[]:=by rw [h0];simp
   rw [e1];simp_all [newRow]
  .unfold Bj at hzs
   rw [if_neg h0] at hzs;split at hzs
   .split at hzs
    next z hzz=>
     simp only [Option.some.injEq] at hzs;have hzv:(zeroValue e).run P w= .ok z w:=by simp_all [zeroValue,typeInfo]
     have e1:(Array.range (n * sz)).map (λx=>z.cells[x % z.cells.size]!)=zs.toArray:=by rw [<- hzs]
     simp [execOp,Instr.buildSlice,Sem.run_bind,run_underlying hu,Result.andThen_ok,hsize,if_neg hno,if_neg h0,Sem.run_pure,hzv,Sn,e1,f1];simp [newRow]
    .cases hzs
   .cases hzs
 .cases hz
def IM (h:RI X l S st a w G I N)(hρ:ah ck G I N w a.eval (F1 st.T st.L)){k:Nat}(hk:¬ S k)(U8:k<O st.L)(entry:Nat){o:Oper}{sz len:Nat}{zero:List c7}{ps:List (Nat×Nat×A3)}
  (hc:aj P ck o (.M8 sz len zero ps F)=W) {v:c7} {rs:List Nat} (hp:l5 (F1 st.T st.L) st.H (.M8 sz len zero ps F)=J (v,rs)) :
  ∃x w' G',(execOp a.eval o).run P w= .ok (.value x) w' /\Z6 X l S entry st a w G I N (put st k v) k x w' G' I N:=by
 simp [l5] at hp;split at hp
 next cs hcs=>
  split at hp
  next xs hxs=>
   split at hp
   next hl=>
    obtain ⟨rfl,rfl⟩:=hp
    let ⟨ys,e,hrun,hvs⟩:=kT (P:=P) hρ hc hcs
    have hn:=fF.alloc w (.cells ys e);have hlen:ys.size=len * sz:=by
     have h1:=H6.length _ _ hvs
     grind [gp]
    exact ⟨_,_,_,hrun,Z6.fresh h hk U8 entry hn _ (Hg h.wf hn (iR _) hxs hvs (λi v hi=>M) hl.2 (j9 _) V U)⟩
   .cases hp
  .cases hp
 .cases hp
def AE (h:RI X l S st a w G I N)(hρ:ah ck G I N w a.eval (F1 st.T st.L)){k:Nat}(hk:¬ S k)(U8:k<O st.L)(entry:Nat){z6:Option Nat}(hid:ta l st N z6){o:Oper}{sz len:Nat}{zero:List c7}
  {ps:List (Nat×Nat×A3)} (hc:aj P ck o (.M8 sz len zero ps W)=W) {cs:List c7} (hcs:T4 zero (ps.map λ(o,s,x)=>(o,s,F1 st.T st.L x))=J cs) (hl:O cs=len * sz) :
  ∃x w' G' I' N',(execOp a.eval o).run P w= .ok (.value x) w' /\
   Z6 X l S entry st a w G I N (put (C8 st z6 (.cells cs)) k (.r7 (newId st z6) sz 0 len)) k x w' G' I' N' /\(∀i,N' i↔N i\/i=newId st z6):=by
 let ⟨ys,e,hrun,hvs⟩:=kT (P:=P) hρ hc hcs
 have hn:=fF.alloc w (.cells ys e);have hlen:ys.size=len * sz:=by
  have h1:=H6.length _ _ hvs;simp_all
 refine ⟨_,_,_,_,_,hrun,Z6.newObj h hk U8 entry hid hn (.cells cs) (zK h.wf hn hid.new hvs) ?_,λi=>Iff.rfl⟩;simp only [VR];exact ⟨Or.inr trivial,len,U,j9 _,ys,e,(0,0),by simpa using hn.new,D⟩
end
end Go.y9
namespace Go.y9
variable [D2]
section
variable {P:Program} {X:Cx} {l:F9} {S:Nat->Prop} {st:F5} {a:Act} {w w' :World} {G:Gh} {I:O5} {N:Nat->Prop} {d9:Nat->Bool}
theorem RI.M9 (h:RI X l S st a w G I N)(hD:∀j,d9 j=W->S j):ah (X.ck d9) G I N w a.eval (F1 st.T st.L):=by
 intro x y hc;unfold Cx.ck at hc;split at hc
 next t s=>
  have ht:X.names[s]? =J t:=M
  exact (h.T s t ht).I7
 next t j=>
  simp only [c9,beq_iff_eq,o3] at hc;exact (h.L j (hD j hc.1.1) t hc.1.2 hc.2).I7
 next v b=>
  exact (aM v b hc).Jx
 all_goals simp_all [F1,c7.Jx,c7.I7,Act.eval,VR,H6]
theorem rI (st:F5)(y:A3):(E2 st y).2.H=st.H:=by
 simp_all [E2]<;>grind
theorem wV (st:F5)(y:A3):O (E2 st y).2.L=O st.L:=by
 simp_all [E2]<;>grind
structure Xf (X:Cx)(l:F9)(S:Nat->Prop)(st:F5)(y:A3)(a:Act)(w:World)(G:Gh)(I:O5)(N:Nat->Prop)(pl:Place)(x:Value)(G' :Gh):Prop where
 ri:RI X l S (E2 st y).2 a w G' I N
 val:VR G' I N w pl (E2 st y).1 x
 ext:Ext G w G' w
 keeps:∀id off,X7 (.cell id off) G w G' w
 obj:∀b id,G b= .obj id->G' b= .obj id
theorem RI.E2 (h:RI X l S st a w G I N)(hD:∀j,d9 j=W->S j){x:Operand}{y:A3}(hc:X.ck d9 x y=W){pl:Place}(hp:pl≠ .none) :
  ∃G',Xf X l S st y a w G I N pl (a.eval x) G' :=by
 have hρ:=h.M9 hD x y hc;have simple:(y9.E2 st y).2=st->VR G I N w .none (y9.E2 st y).1 (a.eval x)->∃G',Xf X l S st y a w G I N pl (a.eval x) G' :=
  λh1 h2=>⟨G,M,h2.place,Ext.refl _ _,λ_ _ _ _ h=>⟨h,rfl⟩,λ_ _ h=>h⟩
 cases y with
 |slot s=>exact simple rfl hρ
 |const v =>
  refine simple rfl ?_;unfold Cx.ck at hc;split at hc
  .simp_all
  .simp_all
  next v' b heq=>
   cases heq;exact aM _ _ hc
  all_goals simp_all [F1,c7.Jx,c7.I7,y9.E2,VR]
 |loc j =>
  by_cases hown:∃z len cells,st.L[j]? =J (.own z len cells)
  .obtain ⟨z,len,cells,hj⟩:=hown
   unfold Cx.ck at hc;split at hc
   .simp_all
   next t j' heq=>
    cases heq;simp only [c9,beq_iff_eq,o3] at hc;have h1:=h.L j (hD j hc.1.1) t hc.1.2 hc.2;rw [Y3 hj] at h1;obtain ⟨G',hm,hv⟩:=fT hp h1;refine ⟨G',?_,?_,hm.ext,λid off=>hm.keeps _ U,hm.obj⟩
    .simp [y9.E2,hj]
     exact h.Hv hj hm
    simp_all [y9.E2,Act.eval]
   all_goals simp_all
  .by_cases hnil:st.L[j]? =J .N9
   .have e:y9.E2 st (.loc j)=(.N9,st):=by simp_all [y9.E2]
    refine simple (by rw [e]) ?_;unfold Cx.ck at hc;split at hc
    .simp_all
    next t j' heq=>
     cases heq;simp only [c9,beq_iff_eq,o3] at hc;have h1:=h.L j (hD j hc.1.1) t hc.1.2 hc.2;simp_all [Y3,VR,Act.eval]
    all_goals simp_all
   simp_all [y9.E2,F1,absurd]
theorem run_storeCells_at (b o:Nat)(e:TypeId)(f:Nat×Nat):∀(vs:List Value) (i:Nat) (cur:Array Value) (w:World),w.heap[b]? =J (.cells cur e f)->Et f cur.size ->
  o+i+O vs<=cur.size->Df vs->(storeCells (ad b o) vs i).run P w= .ok () (w.setRow b (I9 cur.toList (o+i) vs).toArray)
 |[],i,cur,w,hg,hf,hl,_=>by
  simp [storeCells,I9,Nat.add_zero];cases w with
  |mk heap tape drawn os output =>
   simp_all [World.setRow]<;>grind
 |v::rest,i,cur,w,hg,hf,hl,h1=>by
  simp [o8] at hl;have hi:o+i<cur.size:=V
  have hcell:w.cell? (ad b (o+i))=J cur[o+i]:=by rw [P6 hg];simp
  have aQ9:w.frozen? (ad b (o+i))=F:=by
   simp [World.frozen?];have:=hf (o+i) hi;simp_all
  have hst:(store ((ad b o).add i) v).run P w= .ok () (w.setRow b (cur.setIfInBounds (o+i) v)):=by
   rw [W3,run_store P w _ v _ (h1 v U),hcell]
   grind [setCell_eq_setRow]
  have ih:=run_storeCells_at b o e f rest (i+1) (cur.setIfInBounds (o+i) v) (w.setRow b (cur.setIfInBounds (o+i) v)) (setRow_heap w b cur _ e f hg) M D (λx hx=>h1 x (by simp [hx]));simp [storeCells,Sem.run_bind,hst,Result.andThen_ok,ih,setRow_setRow];have hlt:o+i<O cur.toList:=V
  simp [I9,Array.toList_setIfInBounds];rw [show o+(i+1)=o+i+1 from by omega,List.take_succ_eq_append_getElem M,List.drop_set_of_lt V];simp [List.take_set_of_le (j9 _),o8]
  grind
structure mB (id b:Nat)(w w' :World)(G:Gh):Prop where
 gX:G b= .obj id
 os:w'.os=w.os
 tape:w'.tape=w.tape
 output:w'.output=w.output
 drawn:w.drawn<=w'.drawn
 size:w'.heap.size=w.heap.size
 other:∀b',b' ≠b->w'.heap[b']? =w.heap[b']?
 shape:∀(c:Array Value) (e:TypeId) (f:Nat×Nat),w.heap[b]? =J (Obj.cells c e f)->∃c' :Array Value,w'.heap[b]? =J (Obj.cells c' e f)/\c'.size=c.size
theorem mB.ext {id b:Nat}(h:mB id b w w' G):Ext G w G w' where
 os:=h.os
 tape:=h.tape
 output:=h.output
 drawn _:=h.drawn
 size:=by rw [h.size];omega
 gO b' o hi:=by
  have hne:b' ≠b:=by rintro rfl;simp [eT,h.gX] at hi
  exact ⟨hi,by simp [World.cell?,h.other b' hne]⟩
 still b' hb:=by
  have hne:b' ≠b:=by rintro rfl;rw [h.gX] at hb;simp_all
  exact ⟨rfl,h.other b' hne⟩
 shape b' c e f hc:=by
  by_cases hne:b' =b
  .subst hne;exact h.shape c e f hc
  .exact ⟨c,by rw [h.other b' hne];exact hc,rfl⟩
def mB.keeps {id b:Nat}(h:mB id b w w' G)(q:Place):X7 q G w G w' :=by
 intro b' n hb;have hne:b' ≠b:=by rintro rfl;rw [h.gX] at hb;cases hb
 exact ⟨hb,h.other b' hne⟩
def mB.tF {id b:Nat}(h:mB id b w w' G){id' :Nat}(hne:id' ≠id):∀b',G b' = .obj id' ->G b' = .obj id' /\w'.heap[b']? =w.heap[b']? :=by
 intro b' hb;have:b' ≠b:=by rintro rfl;rw [h.gX] at hb;simp_all
 exact ⟨hb,h.other b' this⟩
def Z6.write {D1:Nat->Prop}(h:RI X l S st a w G I N){k:Nat}(hk:¬ S k)(U8:k<O st.L)(entry:Nat){id b:Nat}(hw:mB id b w w' G){o:s6}{o0:s6}(h0:st.H[id]? =J o0)
  (ho:OR G I N w' id o) (hmay:l.may id=W) (qH:o.F4<=max o0.F4 (id+1)\/(l.base<=id/\l.strict<=id)) (hD:∀i,D1 i↔N i) {v:c7} {x:Value} (hv:VR G I N w' (.loc k) v x) (l6:List Touch) (Fe:l6.any (Touch.E3 id)=W) :
  Z6 X l S entry st a w G I N (put { st with H:=st.H.set id o,l6 } k v) k x w' G I D1:=by
 have hN:∀i,N i->D1 i:=λi hi=>(hD i).2 hi
 refine ⟨⟨?_,?_,?_,λb' hb' =>h.wf b' (by rw [<- hw.size];exact hb'),?_⟩,?_,hw.ext,?_,?_,λ_ _ _=>rfl,hN,by simp [y9.put],?_⟩
 .intro s t ht
  exact VR.mono hw.ext (λ_ _=>rfl) hN _ _ _ (Or.inr (hw.keeps _)) (h.T s t ht)
 .intro j hj d hd hn
  have:k≠j:=by grind
  simp only [y9.put];rw [L5 _ _ _ _ _ this];exact VR.mono hw.ext (λ_ _=>rfl) hN _ _ _ (Or.inr (hw.keeps _)) (h.L j hj d hd hn)
 .intro id' o' ho'
  simp [y9.put] at ho'
  by_cases he:id' =id
  .subst he
   rw [E0 (y8 h0)] at ho';cases ho';exact OR.mono (Ext.refl _ _).sub (λ_ _=>rfl) hN _ _ (λh=>⟨h,rfl⟩) (λ_ _ _ h=>⟨h,rfl⟩) ho
  .rw [x5 (λe=>he e.symm)] at ho'
   exact OR.mono hw.ext (λ_ _=>rfl) hN id' o' (λhb=>hw.tF he _ hb) (λ_=>hw.keeps _) (h.H id' o' ho')
 .intro id' o' ho'
  simp [y9.put] at ho'
  by_cases he:id' =id
  .subst he
   rw [E0 (y8 h0)] at ho';cases ho';obtain ⟨d1,d2⟩:=h.Q7 id' _ h0;omega
  .rw [x5 (λe=>he e.symm)] at ho'
   exact h.Q7 id' o' ho'
 .simp only [y9.put]
  rw [K5 _ _ _ _ U8];exact VR.mono (Ext.refl _ _).sub (λ_ _=>rfl) hN _ _ _ (Or.inr (λ_ _ h=>⟨h,rfl⟩)) hv
 .intro id' hm
  have hne:id' ≠id:=by grind
  exact ⟨hw.tF hne,λoff=>hw.keeps _⟩
 .intro id' _ ht
  have hne:id' ≠id:=by grind [y9.put]
  exact ⟨rfl,hw.tF hne⟩
 .grind [y9.put]
end
end Go.y9
namespace Go.y9
variable [D2]
def FH (l:List c7)(off:Nat)(vs:List c7)(h:off+O vs<=O l)(i:Nat) :
  (splice l off vs)[i]? =if i<off then l[i]? else if i<off+O vs then vs[i - off]? else l[i]? :=by
 unfold splice
 grind
def gF (l:List Value)(off:Nat)(vs:List Value)(h:off+O vs<=O l)(i:Nat) :
  (I9 l off vs)[i]? =if i<off then l[i]? else if i<off+O vs then vs[i - off]? else l[i]? :=by
 unfold I9
 grind
def gG (l:List Value)(off:Nat)(vs:List Value)(h:off+O vs<=O l):O (I9 l off vs)=O l:=by
 grind [I9]
def FI (l:List c7)(off:Nat)(vs:List c7)(h:off+O vs<=O l):O (splice l off vs)=O l:=by
 grind [splice]
theorem dY:∀(a b:List c7),A2 (a++b)=max (A2 a) (A2 b)
 |[],b=>by simp [A2]
 |v::vs,b=>by simp only [x7,A2,dY vs b];omega
theorem lF:∀(n:Nat) (a:List c7),A2 (a.take n)<=A2 a
 |0,a=>by simp [A2]
 |n+1,[]=>U
 |n+1,v::vs=>by have:=lF n vs;grind [A2]
theorem lE:∀(n:Nat) (a:List c7),A2 (a.drop n)<=A2 a
 |0,a=>U
 |n+1,[]=>U
 |n+1,v::vs=>by have:=lE n vs;grind [A2]
theorem rO (l:List c7)(off:Nat)(vs:List c7):A2 (splice l off vs)<=max (A2 l) (A2 vs):=by
 grind [splice,dY,lF,lE]
section
variable {P:Program} {X:Cx} {l:F9} {S:Nat->Prop} {st:F5} {a:Act} {w w' :World} {G:Gh} {I:O5} {N:Nat->Prop} {d9:Nat->Bool}
def JZ {v:c7}{cs:List c7}(hv:v.cells? =J cs){id off:Nat}{x:Value}(h:VR G I N w (.cell id off) v x) :
  x.cells.size=O cs/\Df x.cells.toList/\∀(i:Nat) c,cs[i]? =J c->∃u,x.cells.toList[i]? =J u/\VR G I N w (.cell id (off+i)) c u:=by
 unfold c7.cells? at hv;split at hv
 .split at hv
  next hall=>
   simp at hv;subst hv;obtain ⟨xs,rfl,h2⟩:=h;refine ⟨by simpa [Value.cells] using H6.length _ _ h2,jm _ _ hall h2,λi c hc=>?_⟩;obtain ⟨u,g1,g2⟩:=H6.get _ _ h2 i c hc;exact ⟨u,g1,g2.place⟩
  .cases hv
 .split at hv
  next hone=>
   simp at hv;subst hv;obtain ⟨h1,h2⟩:=iJ hone h;rw [h2];refine ⟨rfl,λu hu=>?_,λi c hc=>?_⟩
   all_goals grind
  .cases hv
def Z6.pre {entry:Nat}{st1 st' :F5}{G1 G' :Gh}{I' :O5}{N' :Nat->Prop}{k:Nat}{x:Value}(hx:Ext G w G1 w)(hk:∀id off,X7 (.cell id off) G w G1 w)(ho:∀b id,G b= .obj id->G1 b= .obj id)
  (hH:st1.H=st.H) (h:Z6 X l S entry st1 a w G1 I N st' k x w' G' I' N'):Z6 X l S entry st a w G I N st' k x w' G' I' N' where
 ri:=h.ri
 val:=h.val
 ext:=hx.trans h.ext
 aV:=hU.trans (λid _=>⟨λb hb=>⟨ho b id hb,rfl⟩,hk id⟩) h.aV
 ko id hN ht:=by
  obtain ⟨h1,h2⟩:=h.ko id hN ht;simp_all
 inj:=h.inj
 mono:=h.mono
 len:=by rw [<- hH];exact h.len
 hle id o' hb ho' :=by
  have:=h.hle id o' hb ho';simp_all
def rH {id b:Nat}{c:Array Value}{e:TypeId}{f:Nat×Nat}(hb:w.heap[b]? =J (.cells c e f))(hl:G b= .obj id){c' :Array Value}(hs:c'.size=c.size):mB id b w (w.setRow b c') G where
 gX:=hl
 os:=rfl
 tape:=rfl
 output:=rfl
 drawn:=j9 _
 size:=U
 other b' hne:=setRow_other w b b' c' hne
 shape c0 e0 f0 h0:=by
  grind [setRow_heap]
def xT {id:Nat}{l0:List c7}{off:Nat}{cs:List c7}{c:Array Value}{e:TypeId}{f:Nat×Nat}(hN:N id)(hb:w.heap[(I id).1]? =J (.cells c e f))(Cp:G (I id).1= .obj id)(hf:Et f c.size)
  (hsz:(I id).2+O l0<=c.size) (hold:∀(i:Nat) x,l0[i]? =J x->∃v,c[(I id).2+i]? =J v/\VR G I N w (.cell id i) x v)
  (hfit:off+O cs<=O l0) {vs:List Value} (hlen:O vs=O cs) (hnew:∀(i:Nat) x,cs[i]? =J x->∃u,vs[i]? =J u/\VR G I N w (.cell id (off+i)) x u) :
  OR G I N (w.setRow (I id).1 (I9 c.toList ((I id).2+off) vs).toArray) id (.cells (splice l0 off cs)) /\
   mB id (I id).1 w (w.setRow (I id).1 (I9 c.toList ((I id).2+off) vs).toArray) G:=by
 have sq :(I id).2+off+O vs<=O c.toList:=D
 have hsize:(I9 c.toList ((I id).2+off) vs).toArray.size=c.size:=by simp_all [gG]
 have hw:=rH (G:=G) hb Cp hsize;refine ⟨?_,hw⟩;refine ⟨hN,_,e,f,setRow_heap w _ c _ e f hb,Cp,M,by simp_all [FI],λi x hx=>?_⟩;rw [FH _ _ _ hfit] at hx;have hg:(I9 c.toList ((I id).2+off) vs).toArray[(I id).2+i]? =(I9 c.toList ((I id).2+off) vs)[(I id).2+i]? :=U
 rw [hg,gF _ _ _ sq];have mono:∀{pl:Place} {x:c7} {v:Value},VR G I N w pl x v->VR G I N (w.setRow (I id).1 (I9 c.toList ((I id).2+off) vs).toArray) pl x v :=
  λh=>VR.mono hw.ext (λ_ _=>rfl) (λ_ h=>h) _ _ _ (Or.inr (hw.keeps _)) h
 by_cases h1:i<off
 .grind
 .all_goals grind
theorem HR.wr {H H' :k9}(hH:HR G I N w H){id off:Nat}{cs:List c7}(h:wr H id off cs=J H') :
  ∃l0 c e f,H[id]? =J (.cells l0)/\H' =H.set id (.cells (splice l0 off cs))/\off+O cs<=O l0/\N id/\w.heap[(I id).1]? =J (.cells c e f)/\G (I id).1= .obj id/\Et f c.size /\
   (I id).2+O l0<=c.size/\∀(i:Nat) x,l0[i]? =J x->∃v,c[(I id).2+i]? =J v/\VR G I N w (.cell id i) x v:=by
 unfold y9.wr at h;split at h
 next l0 hl=>
  split at h
  .have ho:=hH id _ hl
   simp_all [OR]
  .cases h
 .cases h
def uD (P:Program)(ck:Operand->A3->Bool)(o:Oper)(op:F0):Bool :=
 match o.op,op with
 | .store t x y,.store n x' y' =>ck x x' &&ck y y' &&P.cellsOf t==n&&(P.info? t).isSome&&decide (0<n)
 |_,_=>F
def HY (h:RI X l S st a w G I N)(hD:∀j,d9 j=W->S j){k:Nat}(hk:¬ S k)(U8:k<O st.L)(entry:Nat){o:Oper}{n:Nat}{x y:A3}(hc:uD P (X.ck d9) o (.store n x y)=W){E:Env}(hE:E.lim=l)
  {st' :F5} (he:O4 E k n st (F1 st.T st.L x) y=J st'):∃w' G',(execOp a.eval o).run P w= .ok .skip w' /\Z6 X l S entry st a w G I N st' k undef w' G' I N:=by
 obtain ⟨dst,aU,ty,pos,after,guard⟩:=o;cases aU<;>simp [uD,c9,beq_iff_eq] at hc<;>try (cases hc;done)
 rename_i t x' y';obtain ⟨⟨⟨⟨hx,hy⟩,hn⟩,hi⟩,hpos⟩:=hc;have h1:=h.M9 hD _ _ hx;unfold O4 at he;split at he
 next id off hp=>
  rw [hp] at h1;simp [VR] at h1;split at he
  next cs hcs=>
   split at he
   .split at he
    next H' hH'=>
     obtain ⟨G1,hX⟩:=h.E2 hD hy (pl:= .cell id off) U;obtain ⟨c1,c2,c3⟩:=JZ hcs hX.val;obtain ⟨l0,c,e,f,g1,g2,g3,g4,g5,g6,g7,g8,g9⟩:=hX.ri.H.wr hH';obtain ⟨hO,hW⟩:=xT g4 g5 g6 g7 g8 g9 g3 (vs:=(a.eval y').cells.toList) V c3;have hrun:(storeCells (ad (I id).1 ((I id).2+off)) (a.eval y').cells.toList).run P w= .ok () (w.setRow (I id).1 (I9 c.toList ((I id).2+off) (a.eval y').cells.toList).toArray):=by
      grind [run_storeCells_at]
     have hs:(sizeOf t).run P w= .ok n w:=by simp_all [run_sizeOf]
     have hsz:¬ ((a.eval y').cells.size≠n):=V
     have qH:(s6.cells (splice l0 off cs)).F4<=max (s6.cells l0).F4 (id+1)\/(l.base<=id/\l.strict<=id):=by
      grind [rO,s6.F4]
     have hM:=Z6.write (D1:=N) hX.ri hk (by grind [wV]) entry hW g1 hO M qH (λ_=>Iff.rfl) (v:= .any) (x:=undef) (by simp [VR]) (.obj id::(E2 st y).2.l6) (by simp [Touch.E3]);refine ⟨w.setRow (I id).1 (I9 c.toList ((I id).2+off) (a.eval y').cells.toList).toArray,G1,?_,?_⟩
     .simp_all [execOp,Instr.storeAt,Instr.sureAddr,storeVar,Sem.run_bind,Sem.run_pure,Result.andThen_ok,if_neg]
     .have:=Z6.pre (st:=st) hX.ext hX.keeps hX.obj (rI st y) hM
      simp_all
    .cases he
   .cases he
  .cases he
 .cases he
end
end Go.y9
namespace Go.y9
variable [D2]
structure PV (X:Cx)(j8:List x9)(S:Nat->Prop)(st:F5)(a:Act)(w:World)(I:O5):Prop where
 slot:∀(j:Nat) ai s t d,S j->st.L[j]? ≠J (.tuple [])->j8[j]? =J ai->ai.op=F0.dJ (.slot s)->X.names[s]? =J t->(X.ops[j]?).bind (·.dst)=J d->X.names.contains d=F ->
  st.l6.any (Touch.P9 s)=F->a.tmps.getD d undef=a.tmps.getD t undef
 cell:∀(j:Nat) ai x id off d l0,S j->st.L[j]? ≠J (.tuple [])->j8[j]? =J ai->ai.op=F0.load K x->Y9 st x=J (id,off)->st.H[id]? =J (.cells l0)->off<O l0 ->
  st.l6.any (Touch.V0 id off)=F->(X.ops[j]?).bind (·.dst)=J d->X.names.contains d=F->w.cell? (ad (I id).1 ((I id).2+off))=J (a.tmps.getD d undef)
structure Tk (X:Cx)(l:F9)(S:Nat->Prop)(st st1:F5)(a:Act)(w:World)(G:Gh)(I:O5)(N:Nat->Prop)(k:Nat)(v:c7)(x:Value)(G1:Gh):Prop where
 ri:RI X l S st1 a w G1 I N
 val:VR G1 I N w (.loc k) v x
 ext:Ext G w G1 w
 aV:hU l G w G1 w
 obj:∀b id:Nat,G b= .obj id->G1 b= .obj id
 len:O st1.H=O st.H
 L:O st1.L=O st.L
 l6:∀p,st.l6.any p=W->st1.l6.any p=W
 hle:∀(id:Nat) (o' :s6),st1.H[id]? =J o' ->∃o:s6,st.H[id]? =J o/\o'.F4<=o.F4
section
variable {P:Program} {X:Cx} {l:F9} {S:Nat->Prop} {st:F5} {a:Act} {w w' :World} {G:Gh} {I:O5} {N:Nat->Prop} {d9:Nat->Bool} {j8:List x9}
def mN (h:RI X l S st a w G I N)(hpv:PV X j8 S st a w I)(hT:O st.T=O X.names)(hD:∀j,d9 j=W->S j){k:Nat}(hk:¬ S k){x:Operand}{y:A3}(hc:X.ck d9 x y=W){sz len:Nat}
  {cells:List Data} {st1:F5} (ht:O6 l j8 st sz y=J (len,cells,st1)):∃G1,Tk X l S st st1 a w G I N k (.own sz len cells) (a.eval x) G1:=by
 unfold O6 at ht;split at ht
 .split at ht
  next hz=>
   subst hz;simp at ht;obtain ⟨rfl,rfl,rfl⟩:=ht;refine ⟨G,h,?_,Ext.refl _ _,hU.refl _ _ _,λ_ _ h=>h,rfl,rfl,λ_ h=>h,λ_ o h=>⟨o,h,j9 _⟩⟩;unfold Cx.ck at hc;split at hc
   .simp_all
   .simp_all
   next v' b heq=>
    cases heq;exact (aM _ _ hc).place
   all_goals simp_all
  .cases ht
 .cases ht
 .cases ht
 next j=>
  have Si:∃t,x= .tmp t/\d9 j=W/\(X.ops[j]?).bind (·.dst)=J t/\X.names.contains t=F:=by
   simp_all [Cx.ck]<;>grind
  obtain ⟨t,rfl,hDj,vi,Aq⟩:=Si;have RR:=hD j hDj;have hjk:j≠k:=by grind
  split at ht
  next z len' cells' hj=>
   split at ht
   next hz=>
    subst hz;simp at ht;obtain ⟨rfl,rfl,rfl⟩:=ht;have h1:=h.L j RR t vi Aq;rw [Y3 hj] at h1;obtain ⟨G',hm,hv⟩:=fT (tK := .loc k) U h1;exact ⟨G',h.Hv hj hm,hv,hm.ext,λid _=>⟨λb hb=>⟨hm.obj b id hb,rfl⟩,λoff=>hm.keeps _ U⟩,hm.obj,rfl,U,λ_ h=>h,λ_ o h=>⟨o,h,j9 _⟩⟩
   .cases ht
  next aV4 ac7 hj=>
   split at ht
   next ai hai=>
    unfold W0 at ht;split at ht
    next s hop=>
     split at ht
     .cases ht
     .split at ht
      next z len' cells' hs=>
       split at ht
       next hz=>
        simp at ht;obtain ⟨rfl,rfl,rfl⟩:=ht;obtain ⟨ts,hts⟩:∃ts,X.names[s]? =J ts:=by
         grind
        have h1:=h.T s ts hts;rw [Y3 hs] at h1;have he:=hpv.slot j ai s ts t RR (by rw [hj];simp) hai hop hts vi Aq M;obtain ⟨G',hm,hv⟩:=fT (tK := .loc k) U h1;refine ⟨G',h.MN hs _ hm,?_,hm.ext,λid _=>⟨λb hb=>⟨hm.obj b id hb,rfl⟩,λoff=>hm.keeps _ U⟩,hm.obj,rfl,rfl,λp hp=>M,λ_ o h=>⟨o,h,j9 _⟩⟩;simp_all [Act.eval]
       .cases ht
      .cases ht
    next x' hop=>
     split at ht
     next id off Oe=>
      split at ht
      .cases ht
      next hun=>
       simp only [Bool.or_eq_true,o3,not_or,Bool.not_eq_true,Bool.not_eq_false] at hun;split at ht
       next cs hcs=>
        split at ht
        next z len' cells' Bk=>
         split at ht
         next hz=>
          simp at ht;obtain ⟨rfl,rfl,rfl⟩:=ht;have hO:=h.H id _ hcs;obtain ⟨hN,c,e,f,g1,g2,g3,g4,g5⟩:=hO
          .obtain ⟨v,e1,e2⟩:=g5 off _ Bk
           have he:=hpv.cell j ai x' id off t cs RR (by rw [hj];simp) hai hop Oe hcs (y8 Bk) hun.1 vi Aq;rw [P6 g1,e1] at he;obtain ⟨G',hm,hv⟩:=fT (tK := .loc k) U e2;refine ⟨G',h.MM hcs Bk _ hm,?_,hm.ext,λid' aR2 =>⟨λb hb=>⟨hm.obj b id' hb,rfl⟩,λoff' =>hm.keeps _ ?_⟩,hm.obj,U,rfl,λp hp=>M,λid' o' ho' =>?_⟩
           .simp_all [Act.eval]
           .grind
           .by_cases hee:id' =id
            .grind [E0,y8,s6.F4,iU]
            grind
         .cases ht
        .cases ht
       .cases ht
     .cases ht
    .cases ht
   .cases ht
  .cases ht
def Jn (P:Program)(t:TypeId):Bool :=
 match P.underlying t with
 |some (.slice _)=>W
 |some .string=>W
 |_=>F
def aX {t t2 e ty:TypeId}{i:TypeInfo}(hu:P.underlying t=J (.slice e))(hi:P.info? e=J i)(ht2:Jn P t2=W)
  {base:Option Addr} {sLen sCap m:Nat} {x:Value} (hl:(Builtin.lenOf x).run P w= .ok m w) {nw:Array Value}
  (hnew:(Builtin.firstCells i.size m x).run P w= .ok nw w) (hle:sLen+m<=sCap):(Builtin.append_ #[t,t2] ty #[.slice base sLen sCap,x]).run P w =
   (match base with
    |some a=>((storeCells (a.add (sLen * i.size)) nw.toList).run P w).andThen λ_ w' => .ok (.slice base (sLen+m) sCap) w'
    |none=> .ok (.slice base (sLen+m) sCap) w):=by
 unfold Jn at ht2;split at ht2
 next e2 h2=>
  cases base<;>simp [Builtin.append_,run_underlying hu,sizeOf,typeInfo,hi,run_underlying h2,hl,hnew,hle]
 next h2=>
  cases base<;>simp [Builtin.append_,run_underlying hu,sizeOf,typeInfo,hi,run_underlying h2,hl,hnew,hle]
 .cases ht2
def xx (need old:Nat)(e:TypeId)(t:Nat):need<=(Question.appendCap need old e).cut t:=by
 simp [Question.cut]
def cI {t t2 e ty:TypeId}{i:TypeInfo}{z:Value}(hu:P.underlying t=J (.slice e))(hi:P.info? e=J i)(hz:i.zero=J z)(ht2:Jn P t2=W)
  {base:Option Addr} {sLen sCap m:Nat} {x:Value} (hl:(Builtin.lenOf x).run P w= .ok m w) {nw old:Array Value}
  (hnew:(Builtin.firstCells i.size m x).run P w.drew= .ok nw w.drew) (hold:(Builtin.firstCells i.size sLen (.slice base sLen sCap)).run P w.drew= .ok old w.drew) (hgt:sCap<sLen+m)
  (h63:((sLen+m:Nat):Int)<=9223372036854775807) (hfit:Builtin.nextslicecap (sLen+m) sCap * i.bytes<=281474976710656) :
  ∃cap,sLen+m<=cap/\(Builtin.append_ #[t,t2] ty #[.slice base sLen sCap,x]).run P w =
   .ok (.slice (J (ad w.heap.size 0)) (sLen+m) cap) (w.drew.alloc (.cells (old++nw++Builtin.zeroCells z.cells (cap - (sLen+m))) e)):=by
 refine ⟨(Question.appendCap (sLen+m) sCap e).cut (w.tape w.drawn (.appendCap (sLen+m) sCap e)),xx _ _ _ _,?_⟩;have hn:¬ (sLen+m<=sCap):=V
 have h63' :¬ (9223372036854775807<((sLen:Int)+(m:Int))):=V
 have UW :¬ (281474976710656<Builtin.nextslicecap (sLen+m) sCap * i.bytes):=V
 unfold Jn at ht2;split at ht2
 next e2 h2=>
  simp [Builtin.append_,run_underlying hu,sizeOf,typeInfo,hi,run_underlying h2,hl,hn,h63',UW,Question.forced,hnew,hold,zeroValue,hz,newRow]
 next h2=>
  simp [Builtin.append_,run_underlying hu,sizeOf,typeInfo,hi,run_underlying h2,hl,hn,h63',UW,Question.forced,hnew,hold,zeroValue,hz,newRow]
 .cases ht2
end
end Go.y9
namespace Go.y9
variable [D2]
section
variable {P:Program} {X:Cx} {l:F9} {S:Nat->Prop} {st:F5} {a:Act} {w w' :World} {G:Gh} {I:O5} {N:Nat->Prop} {d9:Nat->Bool} {j8:List x9}
theorem fh {w w2:World}(h:w2.heap=w.heap)(x:Addr):w2.cell? x=w.cell? x:=by simp [World.cell?,h]
def cF (x:Addr)(w:World):(loadCells x 0).run P w= .ok #[] w:=by rfl
def lX {H:k9}(hH:HR G I N w H){y:c7}{x:Value}(hv:VR G I N w .none y x){sz m:Nat}(hsz:0<sz){cs:List c7}(h:B4 H sz y=J (m,cs)) :
  ∃vs:List Value,(Builtin.lenOf x).run P w= .ok m w/\(∀w2:World,w2.heap=w.heap->(Builtin.firstCells sz m x).run P w2= .ok vs.toArray w2)/\H6 G I N w cs vs/\O cs=m * sz:=by
 unfold B4 at h;split at h
 next len cells=>
  split at h
  .simp at h;obtain ⟨rfl,rfl⟩:=h
   rcases hv with ⟨rfl|⟨a0,rfl⟩,rfl,rfl⟩|⟨b,o,cap,rfl,h2,h3⟩
   .simp_all [Builtin.lenOf,Builtin.firstCells,H6]
   .simp_all [Builtin.lenOf,Builtin.firstCells,cF,H6]
   .obtain ⟨vs,g1,g2,g3⟩:=cS.vals (I:=I) (N:=N) o cells h3
    refine ⟨vs,by rfl,λw2 Iw=>?_,g3,M⟩;have:=run_loadCells_list (P:=P) w2 (ad b o) vs (λj v hj=>by grind [W3,fh]);simp_all [Builtin.firstCells]
  .cases h
 next z len cells=>
  split at h
  next hz=>
   subst hz;simp at h;obtain ⟨rfl,rfl⟩:=h;have h0:=hv.I7 (tK := .none);simp only [VR] at hv
   rcases h0 with ⟨rfl|⟨a0,rfl⟩,rfl,rfl⟩|⟨b,o,cap,rfl,h2,h3⟩
   .simp_all [Builtin.lenOf,Builtin.firstCells,H6]
   .simp_all [Builtin.lenOf,Builtin.firstCells,cF,H6]
   .obtain ⟨vs,g1,g2,g3⟩:=cS.vals (I:=I) (N:=N) o cells h3
    refine ⟨vs,by rfl,λw2 Iw=>?_,g3,M⟩;have:=run_loadCells_list (P:=P) w2 (ad b o) vs (λj v hj=>M);simp_all [Builtin.firstCells]
  .cases h
 next id z lo len=>
  split at h
  next hz=>
   subst hz;split at h
   next us Ue=>
    simp at h;obtain ⟨rfl,rfl⟩:=h;obtain ⟨_,cap,rfl,_⟩:=hv
    by_cases h0:len * z=0
    .have hlen:us=[]:=by
      grind [rd]
     simp_all [Builtin.lenOf,H6,Builtin.firstCells,cF]
    .obtain ⟨_,xs,g1,g2,g3,g4⟩:=hH.rd Ue V
     refine ⟨xs,by rfl,λw2 Iw=>?_,O8 _ _ (by simp [g1,g2]) λj b v hj hv=>?_,M⟩
     .have:=run_loadCells_list (P:=P) w2 (ad (I id).1 ((I id).2+lo)) xs (λj v hj=>by grind [W3,fh])
      simp_all [Builtin.firstCells]
     .simp at hj
      obtain ⟨b',hb',rfl⟩:=hj;exact (g4 j b' v hb' hv).I7
   .cases h
  .cases h
 next s=>
  split at h
  next hz=>
   subst hz;simp at h;obtain ⟨rfl,rfl⟩:=h;subst hv;have hsize:(⟨s.toArray⟩:ByteArray).size=O s:=by rfl
   refine ⟨s.map λb=> .int .u8 b.toNat,by rfl,λw2 _=>?_,O8 _ _ U λj b v hj hv=>?_,U⟩
   .simp [Builtin.firstCells]
   grind [VR,DR]
  .cases h
 .cases h
def Cj {b n n' :Nat}{pl:Place}(hl:G b= .grow n pl)(hn:n<=n'){c:Array Value}{e:TypeId}{f:Nat×Nat}(hb:w.heap[b]? =J (.cells c e f)){c' :Array Value}(hs:c'.size=c.size)
  (hc:∀i,i<n->c'[i]? =c[i]?):Ext G w (dc G b (.grow n' pl)) (w.setRow b c') where
 os:=rfl
 tape:=rfl
 output:=rfl
 drawn _:=j9 _
 size:=U
 gO b' o hi:=by
  by_cases he:b' =b
  .subst he
   have ho:o<n:=by simp_all [eT]
   refine ⟨by simp [eT];omega,?_⟩;rw [P6 (setRow_heap w b' c c' e f hb),P6 hb];exact hc o ho
  simp_all [eT,G5,World.cell?,setRow_other]
 still b' hb' :=by
  grind [G5,setRow_other]
 shape b' c0 e0 f0 h0:=by
  grind [setRow_heap,setRow_other]
def jg {b n n' :Nat}{pl q:Place}(hl:G b= .grow n pl)(hq:q≠pl)(c' :Array Value):X7 q G w (dc G b (.grow n' pl)) (w.setRow b c'):=by
 intro b' m hb'
 grind [G5,setRow_other]
def qF {b n n' :Nat}{pl:Place}(hl:G b= .grow n pl)(c' :Array Value)(id:Nat):∀b',G b' = .obj id->(dc G b (.grow n' pl)) b' = .obj id/\(w.setRow b c').heap[b']? =w.heap[b']? :=by
 grind [G5,setRow_other]
theorem Z6.grow (h:RI X l S st a w G I N){k:Nat}(hk:¬ S k)(U8:k<O st.L)(entry:Nat){b n n' :Nat}(hl:G b= .grow n (.loc k))(hn:n<=n'){c:Array Value}{e:TypeId}{f:Nat×Nat}
  (hb:w.heap[b]? =J (.cells c e f)) {c' :Array Value} (hs:c'.size=c.size) (hc:∀i,i<n->c'[i]? =c[i]?) {v:c7} {x:Value} (hv:VR (dc G b (.grow n' (.loc k))) I N (w.setRow b c') (.loc k) v x) :
  Z6 X l S entry st a w G I N (put st k v) k x (w.setRow b c') (dc G b (.grow n' (.loc k))) I N:=by
 have hx:=Cj hl hn hb hs hc;refine ⟨⟨?_,?_,?_,?_,h.Q7⟩,?_,hx,λid _=>⟨qF hl c' id,λoff=>jg hl U c'⟩,λid _ _=>⟨rfl,qF hl c' id⟩,λ_ _ _=>rfl,λ_ h=>h,j9 _,λ_ o _ ho=>Or.inr ⟨o,ho,j9 _⟩⟩
 .intro s t ht
  exact VR.mono hx (λ_ _=>rfl) (λ_ h=>h) _ _ _ (Or.inr (jg hl U c')) (h.T s t ht)
 .intro j hj d hd hn
  have:k≠j:=by grind
  simp only [y9.put];rw [L5 _ _ _ _ _ this];exact VR.mono hx (λ_ _=>rfl) (λ_ h=>h) _ _ _ (Or.inr (jg hl (by grind) c')) (h.L j hj d hd hn)
 .intro id o ho
  exact OR.mono hx (λ_ _=>rfl) (λ_ h=>h) id o (λhb=>qF hl c' id _ hb) (λoff=>jg hl U c') (h.H id o ho)
 .intro b' hb'
  simp at hb';have hne:b' ≠b:=by grind
  rw [G5 hne];exact h.wf b' hb'
 simp_all [y9.put,K5]
theorem rX:∀(xs:List Data),H7 (xs.map .d)=J xs
 |[]=>rfl
 |x::xs=>by simp [H7,c7.data?,rX xs]
def Z6.OK {entry:Nat}{st1 st' :F5}{G1 G' :Gh}{I' :O5}{N' :Nat->Prop}{k:Nat}{x y:Value}{v:c7}(ht:Tk X l S st st1 a w G I N k v y G1)
  (h:Z6 X l S entry st1 a w G1 I N st' k x w' G' I' N'):Z6 X l S entry st a w G I N st' k x w' G' I' N' where
 ri:=h.ri
 val:=h.val
 ext:=ht.ext.trans h.ext
 aV:=hU.trans ht.aV h.aV
 ko id hN hh:=by
  obtain ⟨h1,h2⟩:=h.ko id hN hh;exact ⟨h1,λb hb=>h2 b (ht.obj b id hb)⟩
 inj:=h.inj
 mono:=h.mono
 len:=by rw [<- ht.len];exact h.len
 hle id o' hb ho' :=by
  rcases h.hle id o' hb ho' with h1|⟨o,h1,h2⟩
  .omega
  .obtain ⟨o2,h3,h4⟩:=ht.hle id o h1
   grind
def bK (P:Program)(ck:Operand->A3->Bool)(o:Oper)(op:F0):Bool :=
 match o.op,op with
 | .call ⟨.builtin .append,args,argTypes⟩,.append sz bytes _ x' y' =>
  (match args.toList,argTypes.toList with
   |[x,y],[t,t2]=>ck x x' &&ck y y' &&Jn P t2&&decide (0<sz)&&(match P.underlying t with
    |some (.slice e)=>(match P.info? e with
     |some i=>i.size==sz&&i.bytes==bytes&&decide (0<bytes)&&(match i.zero with|some z=>z.cells.size==sz|none=>F)
     |none=>F)
    |_=>F)
   |_,_=>F)
 |_,_=>F
def bg {ck:Operand->A3->Bool}{o:Oper}{sz bytes:Nat}{ob:Bool}{x' y' :A3}(h:bK P ck o (.append sz bytes ob x' y')=W) :
  ∃x y t t2 e i z,o.op= .call ⟨.builtin .append,#[x,y],#[t,t2]⟩/\ck x x' =W/\ck y y' =W/\Jn P t2=W/\0<sz/\P.underlying t=J (.slice e)/\P.info? e=J i/\i.size=sz/\i.bytes=bytes/\i.zero=J z/\z.cells.size=sz/\0<bytes:=by
 unfold bK at h;split at h
 next args argTypes sz' bytes' ob' x1 y1 kE ga=>
  cases ga;split at h
  next x y t t2 ha ht=>
   simp [c9,decide_eq_true_eq] at h;obtain ⟨⟨⟨⟨h1,h2⟩,h3⟩,h4⟩,h5⟩:=h;split at h5
   next e he=>
    split at h5
    next i hi=>
     simp [c9,beq_iff_eq,decide_eq_true_eq] at h5;obtain ⟨⟨⟨h6,h7⟩,h9⟩,h8⟩:=h5;split at h8
     next z hz=>
      refine ⟨x,y,t,t2,e,i,z,?_,h1,h2,h3,h4,he,hi,h6,h7,hz,M,h9⟩;simp_all<;>grind
     .cases h8
    .cases h5
   .cases h5
  .cases h
 .cases h
end
end Go.y9
namespace Go.y9
variable [D2]
section
variable {P:Program} {X:Cx} {l:F9} {S:Nat->Prop} {st:F5} {a:Act} {w w' :World} {G:Gh} {I:O5} {N:Nat->Prop} {d9:Nat->Bool} {j8:List x9}
def lQ {n bytes old:Nat}(h:roomFor n bytes=W)(hlt:old<n):Builtin.nextslicecap n old * bytes<=281474976710656:=by
 have h1:(2 * n+512) * bytes<=281474976710656:=by grind [roomFor]
 have h2:=nextslicecap_le hlt;exact p7 (E1 _ V) h1
def ud {n bytes:Nat}(h:roomFor n bytes=W)(hb:0<bytes):((n:Nat):Int)<=9223372036854775807:=by
 have h1:(2 * n+512) * bytes<=281474976710656:=by grind [roomFor]
 have h2:(2 * n+512) * 1<=(2 * n+512) * bytes:=Nat.mul_le_mul_left _ hb;omega
def Nx (hwf:WF G w){e:TypeId}{c:Array Value}(hn:fF w w' (.cells c e)){xs ys:List Data}{vo vn:List Value}(ho:H6 G I N w (xs.map .d) vo)(hy:H6 G I N w (ys.map .d) vn){rest:Array Value}
  (hc:c=vo.toArray++vn.toArray++rest) {sz n cap:Nat} (hl:O (xs++ys)=n * sz) (hcap:n<=cap) (hsz:cap * sz<=c.size) {pl:Place} (hp:pl≠ .none) :
  VR (dc G w.heap.size (.grow (n * sz) pl)) I N w' pl (.own sz n (xs++ys)) (.slice (J (ad w.heap.size 0)) n cap):=by
 refine Hg hwf hn (iR _) (rX (xs++ys)) (vs:=vo++vn) (by simp_all [List.map_append,H6.append]) (λi v hi=>?_) hl hcap hsz hp
 grind
def qh (z:Array Value)(n:Nat):(Builtin.zeroCells z n).size=n * z.size:=by simp [Builtin.zeroCells]
def EO (h:RI X l S st a w G I N)(hpv:PV X j8 S st a w I)(hT:O st.T=O X.names)(hD:∀j,d9 j=W->S j){k:Nat}(hk:¬ S k)(U8:k<O st.L)(entry:Nat){o:Oper}{sz bytes:Nat}{x y:A3}
  (hc:bK P (X.ck d9) o (.append sz bytes F x y)=W) {E:Env} (hE:E.lim=l) {z6:Option Nat} {st' :F5} (he:J1 E j8 z6 k sz bytes F st x (F1 st.T st.L y)=J st') :
  ∃v w' G',(execOp a.eval o).run P w= .ok (.value v) w' /\Z6 X l S entry st a w G I N st' k v w' G' I N:=by
 obtain ⟨x0,y0,t,t2,e,i,z,hop,RZ,Sa,ht2,hsz,hu,hi,hsi,KR,hz,hzs,RX⟩:=bg hc;unfold J1 at he;rw [hE] at he;split at he
 next m cs hcs=>
  simp only [j6,if_false] at he;split at he
  next new hnew=>
   split at he
   next len cells st1 htk=>
    split at he
    next hroom=>
     simp at he;subst he;obtain ⟨vn,hl,hf,JF,hcl⟩:=lX (P:=P) h.H (h.M9 hD _ _ Sa) hsz hcs;obtain ⟨G1,Ck⟩:=mN h hpv hT hD hk RZ htk;have hdn:=gp cs new vn hnew JF;have ak3 :H6 G I N w (new.map .d) vn:=by
      grind [O8,H6.length,A1,VR]
     have Sw:H6 G1 I N w (new.map .d) vn:=H6.mono Ck.ext (λ_ _=>rfl) (λ_ h=>h) _ _ ak3;have Vz:O new=m * sz:=V
     have sy:O vn=m * sz:=by grind [H6.length]
     have oH:(execOp a.eval o).run P w=((Builtin.append_ #[t,t2] o.type #[a.eval x0,a.eval y0]).run P w).andThen λv w' => .ok (.value v) w' :=by
      simp_all [guard,execOp,resolve,invoke,builtin]
     have hval:=Ck.val;simp only [VR] at hval;obtain ⟨hcells,hval⟩:=hval;subst hsi KR;have out:∀base sCap,a.eval x0= .slice base len sCap->sCap<len+m->(∃vo:List Value,(∀w2:World,w2.heap=w.heap->(Builtin.firstCells i.size len (.slice base len sCap)).run P w2= .ok vo.toArray w2)/\H6 G1 I N w (cells.map .d) vo) ->
       ∃v w' G',(execOp a.eval o).run P w= .ok (.value v) w' /\Z6 X l S entry st a w G I N (put st1 k (.own i.size (len+m) (cells++new))) k v w' G' I N:=by
      rintro base sCap hx hlt ⟨vo,Qq,Sl⟩;obtain ⟨cap,hcap,hrun⟩:=cI (P:=P) (w:=w) (ty:=o.type) hu hi hz ht2 (base:=base) (sLen:=len) (sCap:=sCap) hl (hf w.drew rfl) (Qq w.drew rfl) hlt (ud hroom.1 RX) (lQ hroom.1 hlt);have hnb:fF w (w.drew.alloc (.cells (vo.toArray++vn.toArray++Builtin.zeroCells z.cells (cap - (len+m))) e)) (.cells (vo.toArray++vn.toArray++Builtin.zeroCells z.cells (cap - (len+m))) e):=by
       have:=fF.alloc w.drew (.cells (vo.toArray++vn.toArray++Builtin.zeroCells z.cells (cap - (len+m))) e);exact ⟨this.os,this.tape,this.output,p7 (Nat.le_succ _) this.drawn,this.size,this.old,this.new⟩
      have hvo:O vo=len * i.size:=by grind [H6.length,A1]
      refine ⟨_,_,_,?_,Z6.OK Ck (Z6.fresh Ck.ri hk (by rw [Ck.L];exact U8) entry hnb (.grow ((len+m) * i.size) (.loc k)) (Nx Ck.ri.wf hnb Sl Sw rfl ?_ hcap ?_ U))⟩
      .simp_all
      .grind
      .simp only [Array.size_append,List.size_toArray,qh,hzs,hvo,sy]
       have:cap * i.size=(len+m) * i.size+(cap - (len+m)) * i.size:=by rw [<- Nat.add_mul];simp_all
       grind
     rcases hval with ⟨hnil,Vt⟩|⟨_,b,off,cap,c,e',f,h1,h2,h3,h4,h5,h6,h7⟩
     .subst Vt
      have hc0:cells=[]:=M
      subst hc0;have hbase:∃base:Option Addr,a.eval x0= .slice base 0 0/\(base=K\/∃b o,base=J (ad b o)):=by
       grind
      obtain ⟨base,hx,hbb⟩:=hbase
      by_cases hm:m=0
      .subst hm
       have Aq:new=[]:=M
       have hvv:vn=[]:=M
       subst Aq hvv;have hrun:=aX (P:=P) (w:=w) (ty:=o.type) hu hi ht2 (base:=base) (sLen:=0) (sCap:=0) hl (hf w rfl) (j9 _);refine ⟨.slice base 0 0,w,G1,?_,Z6.OK Ck (Z6.same Ck.ri hk (by rw [Ck.L];exact U8) entry ?_)⟩
       .rw [oH,hx,hrun]
        cases base<;>simp [storeCells]
       simp_all [VR]
      .refine out base 0 hx V ⟨[],λw2 _=>?_,by simp [H6]⟩
       cases base<;>simp [Builtin.firstCells,cF]
     .by_cases hfit:len+m<=cap
      .have hrun:=aX (P:=P) (w:=w) (ty:=o.type) hu hi ht2 (base:=J (ad b off)) (sLen:=len) (sCap:=cap) hl (hf w rfl) hfit
       have hsize:off+len * i.size+O vn<=c.size:=by
        rw [sy];have:(len+m) * i.size<=cap * i.size:=E1 _ hfit
        grind
       have hone:Df vn:=by
        intro u VL;obtain ⟨j,hj,rfl⟩:=E9 VL;have hj2:j<O (new.map c7.d):=by grind
        obtain ⟨u',g1,g2⟩:=H6.get _ _ Sw j _ (n9 hj2);rw [n9 hj] at g1;cases g1;exact (iJ (by simp [c7.one]) g2).1
       have hst:=run_storeCells_at (P:=P) b (off+len * i.size) e' f vn 0 c w h3 h5 V hone;simp only [Nat.add_zero] at hst;have sq :off+len * i.size+O vn<=O c.toList:=V
       have jP :(I9 c.toList (off+len * i.size) vn).toArray.size=c.size:=by simp_all [gG]
       have hkeep:∀j,j<off+len * i.size->(I9 c.toList (off+len * i.size) vn).toArray[j]? =c[j]? :=by
        grind [I9]
       refine ⟨.slice (J (ad b off)) (len+m) cap,w.setRow b (I9 c.toList (off+len * i.size) vn).toArray,_,?_,
        Z6.OK Ck (Z6.grow Ck.ri hk (by rw [Ck.L];exact U8) entry h6 (n' :=off+(len+m) * i.size) (by grind) h3 jP hkeep ?_)⟩
       .simp_all [W3,Result.andThen_ok]
       .have hx:=Cj h6 (n' :=off+(len+m) * i.size) (by grind) h3 jP hkeep
        simp only [VR];refine ⟨by grind,Or.inr ⟨U,b,off,cap,_,e',f,rfl,hfit,setRow_heap w b c _ e' f h3,V,M,U,?_⟩⟩;refine uh off _ λj d hj=>?_
        have hjl:=y8 hj;rw [k8,hcells,Vz] at hjl;refine ⟨by simp_all [eT]<;>grind,?_⟩;rw [P6 (setRow_heap w b c _ e' f h3),show (I9 c.toList (off+len * i.size) vn).toArray[off+j]? =(I9 c.toList (off+len * i.size) vn)[off+j]? from by simp,gF _ _ _ sq]
        by_cases GI:j<len * i.size
        .rw [if_pos V]
         rw [s9 V] at hj;obtain ⟨vs,q1,q2,q3⟩:=cS.vals (I:=I) (N:=N) off cells h7;have hjv:j<O vs:=V
         have q4:=q2 j _ (n9 hjv);rw [P6 h3] at q4;refine ⟨vs[j],M,?_⟩;obtain ⟨u,r1,r2⟩:=H6.get _ _ q3 j (.d d) (by simp [hj]);rw [n9 hjv] at r1;cases r1;simp only [VR] at r2;exact DR.mono hx.gO _ _ r2
        .rw [if_neg V,if_pos V]
         rw [s5 V,hcells] at hj;obtain ⟨u,r1,r2⟩:=H6.get _ _ Sw (j - len * i.size) (.d d) (by simp [hj]);refine ⟨u,by grind,?_⟩;simp only [VR] at r2;exact DR.mono hx.gO _ _ r2
      .refine out (J (ad b off)) cap h1 V ?_
       obtain ⟨vs,q1,q2,q3⟩:=cS.vals (I:=I) (N:=N) off cells h7;refine ⟨vs,λw2 Iw=>?_,q3⟩;have:=run_loadCells_list (P:=P) w2 (ad b off) vs (λj v hj=>by grind [W3,fh]);simp_all [Builtin.firstCells]
    .cases he
   .cases he
  .cases he
 .cases he
end
end Go.y9
namespace Go.y9.d5
abbrev P (α:Type):=List Nat->α×List Nat
section
variable {α β γ δ ε ζ:Type}
def pu (x:α):P α:=λt=>(x,t)
def m1 (f:α->β)(p:P α):P β:=λt=>match p t with
 |(x,t)=>(f x,t)
def ap (p:P (α->β))(q:P α):P β:=λt=>match p t with
 |(f,t)=>match q t with
  |(x,t)=>(f x,t)
def m2 (f:α->β->γ)(p:P α)(q:P β):P γ:=ap (m1 f p) q
def m3 (f:α->β->γ->δ)(p:P α)(q:P β)(r:P γ):P δ:=ap (m2 f p q) r
def m4 (f:α->β->γ->δ->ε)(p:P α)(q:P β)(r:P γ)(s:P δ):P ε:=ap (m3 f p q r) s
def Jy (f:Nat->P α):P α:=λt=>match t with
 |[]=>f 0 []
 |k::t=>f k t
def mn (p:P α):List Nat->P (List α)
 |[],t=>([],t)
 |_::f,t=>match t with
  |[]=>([],t)
  |k::r=>if k=74 then ([],r) else match p t with
   |(x,t)=>match mn p f t with
    |(l,t)=>(x::l,t)
def ls (p:P α):P (List α):=λt=>mn p t t
end
def nt:P Nat
 |[]=>(0,[])
 |k::t=>if k<44 then (k,t) else match t with
  |[]=>(0,[])
  |j::t=>(44 * (k - 44)+j,t)
def bo:P Bool:=m1 (λk=>k==1) nt
def ik:P IntKind:=Jy fun|0=>pu .i64|1=>pu .u64|_=>pu .u8
def bop:P BinOp:=Jy fun|0=>pu .add|1=>pu .sub|2=>pu .mul|3=>pu .quo|4=>pu .rem|5=>pu .and|6=>pu .or|7=>pu .xor|8=>pu .shl|9=>pu .shr|10=>pu .andNot|11=>pu .eql|12=>pu .neq|13=>pu .lss|14=>pu .leq|15=>pu .gtr|_=>pu .geq
def uop:P UnOp:=Jy fun|0=>pu .neg|1=>pu .xor|2=>pu .not|_=>pu .plus
def tI (k:Nat):Int:=k.repeat (·+1) 0
def st:P (List UInt8):=ls (m1 (·.repeat (·+1) 0) nt)
def opt {α:Type}(p:P α):P (Option α):=Jy fun|0=>pu K|_=>m1 J p
def big:P Int:=m1 (·.foldl (44 * ·+tI ·) 0) (ls nt)
def dat:List Nat->P Data
 |[]=>pu .dK
 |_::f=>Jy fun|0=>m1 .bool bo|1=>m1 (λk=> .int .i64 (tI k)) nt|2=>m1 (λk=> .int .i64 (0 - tI k)) nt|3=>m2 (λk n=> .int k (tI n)) ik nt|4=>m1 .str st|5=>m2 .slice nt (ls (dat f))|6=>pu .dK|7=>pu .gB|8=>pu .jl|9=>pu .nilIface|10=>m1 (.int .i64) big|_=>m1 (λn=> .int .i64 (0 - n)) big
def val:List Nat->P c7
 |[]=>pu .any
 |_::f=>Jy fun|0=>m1 (λn=> .own n 0 []) nt|1=>m1 .d (dat f)|2=>pu .any|3=>pu .N9|4=>m2 .ptr nt nt|5=>m1 .agg (ls (val f))|6=>m3 .func nt (ls (val f)) (ls (val f))|_=>m3 .own nt nt (ls (dat f))
def va:P c7:=λt=>val t t
def od:P A3
 |[]=>(.loc 0,[])
 |k::t=>if k<22 then (.loc k,t) else if k<40 then (.slot (k - 22),t) else if k<57 then (.const (.d (.int .i64 (tI (if k<44 then k - 40 else k - 41)))),t) else (Jy fun|0=>m1 .loc nt|1=>m1 .slot nt|2=>pu (.const (.d (.bool F)))|3=>pu (.const (.d (.bool W)))|4=>pu (.const (.d (.str [])))|_=>m1 .const va) ((k - 57)::t)
def tr:P (Nat×Nat×A3):=m3 (λa b c=>(a,b,c)) nt nt od
def ck:P CK:=Jy fun|0=>pu .i|1=>pu .s|_=>pu .b
def kk:P KK:=Jy fun|0=>pu .i|1=>pu .s|2=>pu .b|_=>m1 .st (ls ck)
def op:P F0:=Jy fun|0=>m1 .dJ od|1=>m1 (.load K) od|2=>m3 .bin bop od od|3=>m2 .off nt od|4=>m2 .call nt (ls od)|5=>m3 .gN nt od od|6=>m1 .len od|7=>m3 .pick od od od|8=>m3 .store nt od od|9=>ap (m4 .M8 nt nt (ls va) (ls tr)) bo|10=>m1 .box od|11=>m1 .alloc (ls va)|12=>m2 .un uop od|13=>ap (m4 .append nt nt bo od) od|14=>m2 .build (ls va) (ls tr)|15=>m2 .extract od nt|16=>m1 .oT od|17=>m4 .bE nt od (opt od) (opt od)|18=>m4 .NL bo (ls ck) od od|19=>m4 .tw nt nt od od|20=>m3 .jk nt (ls od) (ls od)|21=>m2 .bJ od (ls od)|22=>m4 .M3 nt nt od od|23=>m1 .defer od|24=>m1 .U2 od|25=>m2 .F7 od od|26=>m4 .dI kk od od od|27=>ap (m4 .lookup kk va bo od) od|28=>m2 .gQ bo (ls od)|29=>m2 .xJ bo od|30=>m4 .gw nt (ls va) od od|31=>m2 .ox ik od|32=>m1 .kz od|33=>m2 .NR od nt|34=>m2 .own nt od|35=>m3 .x4 bo od od|36=>m3 .clear nt (ls va) od|37=>m2 .load (m1 J nt) od|39=>pu .makeMap|_=>pu .bad
def ins:List Nat->P x9
 |[],t=>(default,t)
 |_::f,t=>match t with
  |[]=>(default,[])
  |k::t=>if k<45 then m1 (λo=>⟨o,K,K,[]⟩) op (k::t) else if k<46 then ap (m1 (λd i=>⟨i.op,J d,i.guard,i.Y2⟩) nt) (ins f) t else if k<47 then ap (m1 (λd i=>⟨i.op,i.dst,J (d,W),i.Y2⟩) nt) (ins f) t else if k<48 then ap (m1 (λd i=>⟨i.op,i.dst,J (d,F),i.Y2⟩) nt) (ins f) t else ap (m1 (λd i=>⟨i.op,i.dst,i.guard,d⟩) (ls nt)) (ins f) t
def is:P (List x9):=ls λt=>ins t t
def bits (k:Nat):List Bool:=[k % 2==1,k / 2 % 2==1,k / 4 % 2==1,k / 8 % 2==1,k / 16 % 2==1]
def msk:P (List Bool):=m2 (λn l=>(l.flatMap bits).take n) nt (ls nt)
def Ki:List Nat->P K7
 |[]=>pu .bad
 |_::f=>Jy fun|0=>m2 .seq (Ki f) (Ki f)|1=>m2 .region is (pu F)|2=>m2 .region is (pu W)|3=>ap (m4 .test is (pu F) od (Ki f)) (Ki f)|4=>pu .skip|5=>pu .ret|6=>m2 .block nt (Ki f)|7=>m1 .exit nt|8=>m2 .loop msk (Ki f)|9=>m3 .cond od (Ki f) (Ki f)|10=>m1 .fz nt|_=>ap (m4 .test is (pu W) od (Ki f)) (Ki f)
def res:P Eo:=Jy fun|0=>m1 .slot nt|_=>m2 .cell nt (opt nt)
def fn:P p6:=ap (m4 .mk nt (ls nt) (λt=>Ki t t) (ls res)) bo
def sg:List Nat:=[0,1,6,0,0,0,4,2,12]
def ex (T:List (List Nat)):List Nat->List Nat
 |[]=>[]
 |k::t=>if k<48 then (T[(sg[k - 36]?).getD 0]?).getD []++ex T t else if k<123 then (k - 48)::ex T t else match t with
  |[]=>[]
  |j::t=>(T[(k - 124) / 2 * 75+(j - 48)]?).getD []++ex T t
def mkT (l:List Nat):List (List Nat):=(l.foldl (λs k=>if k=46 then (s.1++[ex s.1 s.2.reverse],[]) else (s.1,k::s.2)) ([],[])).1
def M6 (s:String){l:List Char}(hl:s= .ofList l:=by rfl){x:List (List Nat)}(h:mkT (l.map Char.toNat)=x:=by cbv):{ x:List (List Nat) // s= .ofList l/\mkT (l.map Char.toNat)=x }:=⟨x,hl,h⟩
set_option maxRecDepth 100000 in
def tb : List (List Nat) := (M6 "z01.101.01].1101.]30.z54.z030.0Xz.201.200.00z.14z.110.]40.4z0.01z.608.81.006.|9Y].51.z1.]20.78.0H.401.:F.35.4`.z8.<2.02z0.301._:.z540.32=.02z.4F.$]20.331.|310.0I.|501.01z0..z9.0L.+40.4_.$0F.4].z0|S.z047.4a.32;.37.+20.n11.]7.30I.z0=.2@.zz.9:.30G.z5|O.U8H.2;1.30H.0M.k0.18.]4.]50.|B%.38.z001.|7|@.X7.+30.120.z50.612.415.2=0.%%._7.6z.102.G^.57.02^.$]2.03z0.1162.90.50.8z.U2._4.]|9.4z1.61.|:9.z02.3z4.0z.|82.z5~B.67.]8.10|s.]60.0N.]6.n14^.^?.^9.52..~A|J.^;.1i.I_.|7%.911.9z.|VX.|d|z.kz._8.:z.|3~J.;|;.U3.|3%4z.6^.*0.|845.]3.~7=.347.2z.6|G.%10.5z.~C~9.U8I.|510.4$.").1
def dec (l:List Char):p6:=(fn (ex tb (l.map Char.toNat))).1
def un (s:String){l:List Char}(hl:s= .ofList l:=by rfl){x:p6}(h:dec l=x:=by cbv):{ x:p6 // s= .ofList l/\dec l=x }:=⟨x,hl,h⟩
end Go.y9.d5


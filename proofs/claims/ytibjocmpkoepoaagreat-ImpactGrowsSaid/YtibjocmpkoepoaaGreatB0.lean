import Derived.Calls
import Derived.Below
import Derived.WalkKit
import Derived.Laws.BytesString
import Derived.Lib.Strings
import Derived.Laws.MakeOwn
set_option linter.all false
open Bool renaming and_eq_true→c9,false_eq_true→j5,not_eq_true'→o5,or_eq_false_iff→D5,true→W,false→F
open List renaming cons_append→x6,getElem?_append_left→y8,getElem?_append_right→x7,getElem?_eq_getElem→n9,getElem?_set_ne→x3,getElem?_set_self→E9,getElem_of_mem→L5,length_append→l5,length_cons→o8,length_map→A9,length_take→P3,map_cons→G4,mem_append→N9,replicate→c8,replicate_succ→O8,length→O
open Nat renaming le_of_ble_eq_true→j6,le_refl→k9,le_trans→s5,lt_or_ge→A7,mul_le_mul_right→I8
open Option renaming some→J,none→K
namespace Go
theorem V{p:Prop}(h:p:=by omega):p:=h
theorem U{p:Prop}(h:p:=by simp):p:=h
theorem M{p:Prop}(h:p:=by simp_all):p:=h
theorem D{p:Prop}(h:p:=by simp;omega):p:=h
end Go
namespace Go.A5
inductive Data where
 |bool (b:Bool)
 |int (k:IntKind) (n:Int)
 |str (s:List UInt8)
 |slice (len:Nat) (cells:List Data)
 |iT
 |T0
 |jV
 |nilIface
 deriving Inhabited
inductive KD where
 |i (k:IntKind) (n:Int)
 |s (x:List UInt8)
 |b (b:Bool)
 deriving DecidableEq,Inhabited
inductive Key where
 |int (k:IntKind) (n:Int)
 |str (s:List UInt8)
 |bool (b:Bool)
 |st (l:List KD)
 deriving DecidableEq,Inhabited
inductive c7 where
 |any
 |d (x:Data)
 |ptr (id off:Nat)
 |bP (cells:List Data)
 |s6 (id sz lo len:Nat)
 |own (sz len:Nat) (cells:List Data)
 |N7
 |agg (cells:List c7)
 |tuple (vs:List c7)
 |func (f:FuncId) (first caps:List c7)
 |map (id:Nat)
 deriving Inhabited
inductive x4 where
 |dead
 |cells (l:List c7)
 |map (es:List (Key×c7))
 deriving Inhabited
abbrev j9:=List x4
inductive y4 where
 |loc (j:Nat)
 |slot (s:Nat)
 |const (v:c7)
 deriving Inhabited
inductive CK where
 |i
 |s
 |b
 deriving DecidableEq,Inhabited
inductive KK where
 |i
 |s
 |b
 |st (ks:List CK)
 deriving DecidableEq,Inhabited
inductive s8 where
 |S0 (x:y4)
 |pick (c a b:y4)
 |alloc (zero:List c7)
 |box (x:y4)
 |build (zero:List c7) (parts:List (Nat×Nat×y4))
 |J8 (sz len:Nat) (zero:List c7) (parts:List (Nat×Nat×y4)) (ob:Bool)
 |load (n:Option Nat) (x:y4)
 |store (n:Nat) (a x:y4)
 |dh (x:y4)
 |bin (op:BinOp) (x y:y4)
 |un (op:UnOp) (x:y4)
 |BH (neg:Bool) (x:y4)
 |x5 (neg:Bool) (x y:y4)
 |Dx (neg:Bool) (ks:List CK) (x y:y4)
 |rM (k:IntKind) (x:y4)
 |pG (x:y4)
 |ay (sz:Nat) (x:y4) (lo hi:Option y4)
 |off (k:Nat) (x:y4)
 |L2 (sz:Nat) (x i:y4)
 |iQ (n sz:Nat) (x i:y4)
 |J5 (x i:y4)
 |extract (x:y4) (i:Nat)
 |Yv (x:y4) (i:Nat)
 |len (x:y4)
 |Y8 (x:y4)
 |append (sz bytes:Nat) (ob:Bool) (x y:y4)
 |K3 (sz bytes:Nat) (x y:y4)
 |sP (x:Data)
 |own (sz:Nat) (x:y4)
 |gT (isMax:Bool) (xs:List y4)
 |clear (sz:Nat) (zero:List c7) (x:y4)
 |an (f:FuncId) (first caps:List y4)
 |call (f:FuncId) (xs:List y4)
 |X9 (x:y4) (xs:List y4)
 |makeMap
 |iY (sz:Nat) (zero:List c7) (x y:y4)
 |lookup (kk:KK) (zero:c7) (ok:Bool) (m k:y4)
 |dF (kk:KK) (m k v:y4)
 |defer (x:y4)
 |bad
 deriving Inhabited
structure o3 where
 op:s8
 dst:Option Nat:=K
 guard:Option (Nat×Bool):=K
 cR:List Nat:=[]
 deriving Inhabited
inductive p7 where
 |skip
 |region (ops:List o3) (draw:Bool)
 |seq (a b:p7)
 |cond (c:y4) (thn els:p7)
 |test (ops:List o3) (draw:Bool) (c:y4) (thn els:p7)
 |block (id:Nat) (body:p7)
 |loop (mask:List Bool) (body:p7)
 |exit (id:Nat)
 |ret
 |fz (s:Nat)
 |bad
 deriving Inhabited
inductive Rp where
 |slot (s:Nat)
 |cell (s:Nat) (n:Option Nat)
 deriving Inhabited
structure r7 where
 nparams:Nat
 names:List Nat
 body:p7
 results:List Rp
 jx:Bool:=F
 deriving Inhabited
def c7.K9:c7->c7
 | .own _ len cells=> .d (.slice len cells)
 | .N7=> .d (.slice 0 [])
 |v=>v
def c7.one:c7->Bool
 | .any=>F
 | .agg _=>F
 | .tuple _=>F
 |_=>W
def c7.cells? :c7->Option (List c7)
 | .agg l=>if l.all c7.one then J l else K
 |v=>if v.one then J [v] else K
def c7.data? :c7->Option Data
 | .d x=>J x
 | .own _ len cells=>J (.slice len cells)
 | .N7=>J (.slice 0 [])
 |_=>K
def L1 :List c7->Option (List Data)
 |[]=>J []
 |v::vs=>match v.data? with
  |some x=>match L1 vs with
   |some xs=>J (x::xs)
   |none=>K
  |none=>K
mutual
def c7.J4:c7->Nat
 | .ptr id _=>id+1
 | .s6 id _ _ _=>id+1
 | .map id=>id+1
 | .agg l=>A8 l
 | .tuple l=>A8 l
 | .func _ a b=>max (A8 a) (A8 b)
 |_=>0
def A8:List c7->Nat
 |[]=>0
 |v::vs=>max v.J4 (A8 vs)
end
mutual
def c7.kill (id:Nat):c7->c7
 | .ptr i o=>if i=id then .any else .ptr i o
 | .s6 i z l n=>if i=id then .any else .s6 i z l n
 | .map i=>if i=id then .any else .map i
 | .agg l=> .agg (O6 id l)
 | .tuple l=> .tuple (O6 id l)
 | .func f a b=> .func f (O6 id a) (O6 id b)
 |v=>v
def O6 (id:Nat):List c7->List c7
 |[]=>[]
 |v::vs=>v.kill id::O6 id vs
end
def x4.J4:x4->Nat
 | .dead=>0
 | .cells l=>A8 l
 | .map es=>A8 (es.map (·.2))
def ah:List x4->Nat->Bool
 |[],_=>W
 |o::os,k=>o.J4<=k+1&&ah os (k+1)
def F3:List x4->Nat
 |[]=>0
 |o::os=>max o.J4 (F3 os)
def x4.kill (id:Nat):x4->x4
 | .dead=> .dead
 | .cells l=> .cells (O6 id l)
 | .map es=> .map (es.map λp=>(p.1,p.2.kill id))
def rd (H:j9)(id off n:Nat):Option (List c7) :=
 match H[id]? with
 |some (.cells l)=>if off+n<=O l then J ((l.drop off).take n) else K
 |_=>K
def splice (l:List c7)(off:Nat)(vs:List c7):List c7:=l.take off++vs++l.drop (off+O vs)
def wr (H:j9)(id off:Nat)(vs:List c7):Option j9 :=
 match H[id]? with
 |some (.cells l)=>if off+O vs<=O l then J (H.set id (.cells (splice l off vs))) else K
 |_=>K
def i64 (n:Int):c7:= .d (.int .i64 n)
def cw (op:BinOp)(k:IntKind)(a b:Int):Option Data :=
 match op with
 | .add=>J (.int k (k.wrap (a+b)))
 | .sub=>J (.int k (k.wrap (a - b)))
 | .mul=>J (.int k (k.wrap (a * b)))
 | .quo=>if b=0 then K else J (.int k (k.wrap (a.tdiv b)))
 | .rem=>if b=0 then K else J (.int k (a.tmod b))
 | .and=>J (.int k (k.wrap (BitVec.ofInt k.bits a&&&BitVec.ofInt k.bits b).toNat))
 | .or=>J (.int k (k.wrap (BitVec.ofInt k.bits a|||BitVec.ofInt k.bits b).toNat))
 | .xor=>J (.int k (k.wrap (BitVec.ofInt k.bits a ^^^ BitVec.ofInt k.bits b).toNat))
 | .eql=>J (.bool (a==b))
 | .neq=>J (.bool (a != b))
 | .lss=>J (.bool (a<b))
 | .leq=>J (.bool (a<=b))
 | .gtr=>J (.bool (a>b))
 | .geq=>J (.bool (a≥b))
 |_=>K
def Av (op:BinOp)(k:IntKind)(a b:Int):Option Data :=
 if b<0 then K else
 match op with
 | .shl=>J (.int k (k.wrap (a * 2 ^ (min b.toNat k.bits))))
 | .shr=>J (.int k (a.fdiv (2 ^ (min b.toNat k.bits))))
 |_=>K
def vZ (op:BinOp)(a b:List UInt8):Option Data :=
 match op with
 | .add=>if O a+O b<4611686018427387904 then J (.str (a++b)) else K
 | .eql=>J (.bool (a==b))
 | .neq=>J (.bool (!(a==b)))
 | .lss=>J (.bool (Op.bytesLess a b))
 | .leq=>J (.bool (Op.bytesLess a b||a==b))
 | .gtr=>J (.bool (!(Op.bytesLess a b||a==b)))
 | .geq=>J (.bool (!(Op.bytesLess a b)))
 |_=>K
def Z5:BinOp->Bool
 | .shl=>W
 | .shr=>W
 |_=>F
def M1 (op:BinOp):Data->Data->Option Data
 | .int k a,.int k' b=>if Z5 op then Av op k a b else if k=k' then cw op k a b else K
 | .str a,.str b=>vZ op a b
 |_,_=>K
def NR (op:UnOp):Data->Option Data
 | .int k n=>match op with
  | .neg=>J (.int k (k.wrap (0 - n)))
  |_=>K
 | .bool b=>match op with
  | .not=>J (.bool (!b))
  |_=>K
 |_=>K
def Z7 (cells:List c7):List (Nat×Nat×c7)->Option (List c7)
 |[]=>J cells
 |(off,sz,v)::rest=>match v.cells? with
  |some l=>if O l=sz/\off+sz<=O cells then Z7 (splice cells off l) rest else K
  |none=>K
def mq :List Data->Option (List UInt8)
 |[]=>J []
 | .int .u8 n::r=>match mq r with
  |some bs=>J (UInt8.ofNat n.toNat::bs)
  |none=>K
 |_=>K
def Af (isMax:Bool)(a b:Data):Option Data :=
 match a,b with
 | .int k x,.int _ y=>J (.int k (if isMax then (if y>x then y else x) else (if y<x then y else x)))
 |_,_=>K
def gh (isMax:Bool):Data->List c7->Option Data
 |a,[]=>J a
 |a,.d b::r=>match Af isMax a b with
  |some c=>gh isMax c r
  |none=>K
 |_,_=>K
def Data.GP:CK->Data->Data->Option Bool
 | .i,.int k a,.int k' b=>if k=k' then J (a==b) else K
 | .s,.str a,.str b=>J (a==b)
 | .b,.bool a,.bool b=>J (a==b)
 |_,_,_=>K
def Q9:List CK->List c7->List c7->Option Bool
 |[],[],[]=>J W
 |k::ks,.d a::r,.d b::q=>match Data.GP k a b with
  |some t=>match Q9 ks r q with
   |some u=>J (t&&u)
   |none=>K
  |none=>K
 |_,_,_=>K
def KD.av:KD->c7
 | .i k n=> .d (.int k n)
 | .s x=> .d (.str x)
 | .b t=> .d (.bool t)
def Nk :List c7->Option (List KD)
 |[]=>J []
 | .d (.int k n)::vs=>match Nk vs with
  |some r=>J (.i k n::r)
  |none=>K
 | .d (.str x)::vs=>match Nk vs with
  |some r=>J (.s x::r)
  |none=>K
 | .d (.bool t)::vs=>match Nk vs with
  |some r=>J (.b t::r)
  |none=>K
 |_=>K
def c7.Nl :c7->Option Key
 | .d (.int k n)=>J (.int k n)
 | .d (.str s)=>J (.str s)
 | .d (.bool b)=>J (.bool b)
 | .agg l=>match Nk l with
  |some r=>J (.st r)
  |none=>K
 |_=>K
def Data.dK:KK->Key->Key->Option Bool
 | .i,.int k a,.int k' b=>if k=k' then J (a==b) else K
 | .s,.str a,.str b=>J (a==b)
 | .b,.bool a,.bool b=>J (a==b)
 | .st ks,.st l,.st m=>Q9 ks (l.map KD.av) (m.map KD.av)
 |_,_,_=>K
def KK.fits (kk:KK)(k:Key):Bool:=match kk,k with
 | .st ks,.st l=>(Q9 ks (l.map KD.av) (l.map KD.av)).isSome
 | .st _,_=>F
 |_,_=>W
def cA (kk:KK)(k:Key):List (Key×c7)->Option (Option c7)
 |[]=>J K
 |(k',v)::r=>match Data.dK kk k k' with
  |some W=>J (J v)
  |some F=>cA kk k r
  |none=>K
def eE (kk:KK)(k:Key)(v:c7):List (Key×c7)->Option (List (Key×c7))
 |[]=>J [(k,v)]
 |(k',v')::r=>match Data.dK kk k k' with
  |some W=>J ((k,v)::r)
  |some F=>match eE kk k v r with
   |some r' =>J ((k',v')::r')
   |none=>K
  |none=>K
def Y5 (ρ:y4->c7)(dflt:Nat):Option y4->Option Int
 |none=>J dflt
 |some x=>match ρ x with
  | .d (.int _ n)=>J n
  |_=>K
def C7 (H:j9)(sz:Nat):c7->Option (Nat×List c7)
 | .d (.slice len cells)=>if O cells=len * sz then J (len,cells.map .d) else K
 | .own z len cells=>if z=sz then J (len,cells.map .d) else K
 | .s6 id z lo len=>if z=sz then match rd H id lo (len * sz) with
   |some cs=>J (len,cs.map c7.K9)
   |none=>K
  else K
 | .d (.str s)=>if sz=1 then J (O s,s.map λb=> .d (.int .u8 b.toNat)) else K
 |_=>K
def k8 (ρ:y4->c7)(H:j9):s8->Option (c7×List Nat)
 | .pick c a b=>match ρ c with
  | .d (.bool t)=>J (if t then ρ a else ρ b,[])
  |_=>K
 | .build zero parts=>match Z7 zero (parts.map λ(o,s,x)=>(o,s,ρ x)) with
  |some cs=>J (.agg cs,[])
  |none=>K
 | .J8 sz len zero parts F=>match Z7 zero (parts.map λ(o,s,x)=>(o,s,ρ x)) with
  |some cs=>match L1 cs with
   |some xs=>if 0<sz/\O xs=len * sz then J (.own sz len xs,[]) else K
   |none=>K
  |none=>K
 | .load K x=>match ρ x with
  | .ptr id off=>match rd H id off 1 with
   |some [v]=>J (v.K9,[id])
   |_=>K
  | .bP (c::_)=>J (.d c,[])
  |_=>K
 | .load (J n) x=>match ρ x with
  | .ptr id off=>match rd H id off n with
   |some vs=>J (.agg (vs.map c7.K9),[id])
   |none=>K
  | .bP cells=>if n<=O cells then J (.agg ((cells.take n).map .d),[]) else K
  |_=>K
 | .dh x=>match ρ x with
  | .ptr id off=>J (.ptr id off,[])
  | .bP cells=>J (.bP cells,[])
  | .func f a b=>J (.func f a b,[])
  |_=>K
 | .bin op x y=>match ρ x,ρ y with
  | .d a,.d b=>match M1 op a b with
   |some r=>J (.d r,[])
   |none=>K
  |_,_=>K
 | .x5 neg x y=>match ρ x,ρ y with
  | .d (.bool a),.d (.bool b)=>J (.d (.bool (neg != (a==b))),[])
  |_,_=>K
 | .Dx neg ks x y=>match ρ x,ρ y with
  | .agg a,.agg b=>match Q9 ks a b with
   |some t=>J (.d (.bool (neg != t)),[])
   |none=>K
  |_,_=>K
 | .un op x=>match ρ x with
  | .d a=>match NR op a with
   |some r=>J (.d r,[])
   |none=>K
  |_=>K
 | .BH neg x=>match ρ x with
  | .d (.slice len _)=>if 0<len then J (.d (.bool neg),[]) else K
  | .s6 _ _ _ _=>J (.d (.bool neg),[])
  |_=>K
 | .rM k x=>match ρ x with
  | .d (.int _ n)=>J (.d (.int k (k.wrap n)),[])
  |_=>K
 | .pG x=>match ρ x with
  | .d (.slice len cells)=>if O cells=len then match mq cells with
    |some bs=>J (.d (.str bs),[])
    |none=>K
   else K
  |_=>K
 | .ay sz x lo hi=>match ρ x with
  | .d (.slice len cells)=>match Y5 ρ 0 lo,Y5 ρ len hi with
   |some l,J h=>if 0<=l/\l<=h/\h<=len/\O cells=len * sz then
     J (.d (.slice (h - l).toNat ((cells.take (h.toNat * sz)).drop (l.toNat * sz))),[]) else K
   |_,_=>K
  | .s6 id z a len=>match Y5 ρ 0 lo,Y5 ρ len hi with
   |some l,J h=>if 0<=l/\l<=h/\h<=len/\z=sz then
     if l=h then J (.d (.slice 0 []),[]) else J (.s6 id sz (a+l.toNat * sz) (h - l).toNat,[]) else K
   |_,_=>K
  |_=>K
 | .off k x=>match ρ x with
  | .ptr id off=>J (.ptr id (off+k),[])
  | .bP cells=>J (.bP (cells.drop k),[])
  |_=>K
 | .L2 sz x i=>match ρ x,ρ i with
  | .d (.slice len cells),.d (.int _ i)=>if 0<=i/\i<len then J (.bP (cells.drop (i.toNat * sz)),[]) else K
  | .s6 id z lo len,.d (.int _ i)=>if 0<=i/\i<len/\z=sz then J (.ptr id (lo+i.toNat * sz),[]) else K
  |_,_=>K
 | .iQ n sz x i=>match ρ x,ρ i with
  | .ptr id off,.d (.int _ i)=>if 0<=i/\i<n then J (.ptr id (off+i.toNat * sz),[]) else K
  | .bP cells,.d (.int _ i)=>if 0<=i/\i<n then J (.bP (cells.drop (i.toNat * sz)),[]) else K
  |_,_=>K
 | .J5 x i=>match ρ x,ρ i with
  | .d (.str s),.d (.int _ i)=>if 0<=i then match s[i.toNat]? with
    |some b=>J (.d (.int .u8 b.toNat),[])
    |none=>K
   else K
  |_,_=>K
 | .extract x i=>match ρ x with
  | .tuple vs=>match vs[i]? with
   |some v=>J (v,[])
   |none=>K
  |_=>K
 | .Yv x i=>match ρ x with
  | .agg vs=>match vs[i]? with
   |some v=>J (v,[])
   |none=>K
  |_=>K
 | .len x=>match ρ x with
  | .d (.slice len _)=>J (i64 len,[])
  | .s6 _ _ _ len=>J (i64 len,[])
  |_=>K
 | .Y8 x=>match ρ x with
  | .d (.str s)=>J (i64 (O s),[])
  |_=>K
 | .gT isMax xs=>match xs.map ρ with
  | .d a::r=>match gh isMax a r with
   |some c=>J (.d c,[])
   |none=>K
  |_=>K
 | .an f first caps=>J (.func f (first.map ρ) (caps.map ρ),[])
 | .lookup kk zero ok m k=>match ρ m,(ρ k).Nl with
  | .map id,J key=>match H[id]? with
   |some (.map es)=>match cA kk key es,kk.fits key with
    |some r,W=>J (if ok then .tuple [r.getD zero,.d (.bool r.isSome)] else r.getD zero,[id])
    |_,_=>K
   |_=>K
  | .d .jV,J key=>match Data.dK kk key key with
   |some W=>J (if ok then .tuple [zero,.d (.bool F)] else zero,[])
   |_=>K
  |_,_=>K
 |_=>K
inductive Touch where
 |slot (s:Nat)
 |obj (id:Nat)
 |cell (id off:Nat)
 |below (n:Nat)
 deriving Inhabited
structure I5 where
 T:List c7
 H:j9
 L:List c7
 l6:List Touch
def Touch.U8 (s:Nat):Touch->Bool
 | .slot t=>t==s
 |_=>F
def Touch.F7 (id:Nat):Touch->Bool
 | .obj i=>i==id
 | .below n=>id<n
 |_=>F
def Touch.aO (id off:Nat):Touch->Bool
 | .obj i=>i==id
 | .cell i o=>i==id&&o==off
 | .below n=>id<n
 |_=>F
def c7.Tm:c7->c7
 | .N7=> .N7
 |v=>v.K9
def G7 (T L:List c7):y4->c7
 | .loc j=>(L.getD j .any).K9
 | .slot s=>(T.getD s .any).K9
 | .const v=>v.Tm
def bU (st:I5):y4->Option (Nat×Nat)
 | .loc m=>match st.L[m]? with
  |some (.ptr id off)=>J (id,off)
  |_=>K
 | .slot s=>if st.l6.any (Touch.U8 s) then K else match st.T[s]? with
  |some (.ptr id off)=>J (id,off)
  |_=>K
 | .const _=>K
structure J2 where
 Mo:Nat
 Mn:Nat
 base:Nat
 strict:Nat
def J2.may (l:J2)(id:Nat):Bool:=decide (id<l.Mo)||decide (l.Mn<=id)
def J2.jR (l:J2)(a b base strict:Nat):J2 :=
 if l.Mn<=l.Mo then ⟨a,b,base,strict⟩ else ⟨min l.Mo a,max l.Mn b,base,strict⟩
def aZ (l:J2)(st:I5)(sz:Nat):s8->Option (Nat×List Data×I5)
 | .S0 (.slot s) =>
  if st.l6.any (Touch.U8 s) then K else
  match st.T[s]? with
  |some (.own z len cells)=>if z=sz then J (len,cells,{ st with T:=st.T.set s (.d (.slice len cells)),l6:= .slot s::st.l6 }) else K
  |_=>K
 | .load K x =>
  match bU st x with
  |some (id,off) =>
   if st.l6.any (Touch.aO id off)|| !l.may id then K else
   match st.H[id]? with
   |some (.cells cs) =>
    match cs[off]? with
    |some (.own z len cells)=>if z=sz then J (len,cells,{ st with H:=st.H.set id (.cells (cs.set off (.d (.slice len cells)))),l6:= .cell id off::st.l6 }) else K
    |_=>K
   |_=>K
  |none=>K
 |_=>K
def T1 (l:J2)(j8:List o3)(st:I5)(sz:Nat):y4->Option (Nat×List Data×I5)
 | .const (.own z len cells)=>if z=sz then J (len,cells,st) else K
 | .const _=>K
 | .slot _=>K
 | .loc j =>
  match st.L[j]? with
  |some (.own z len cells)=>if z=sz then J (len,cells,{ st with L:=st.L.set j (.d (.slice len cells)) }) else K
  |some (.d (.slice _ _))=>match j8[j]? with
   |some a=>aZ l st sz a.op
   |none=>K
  |_=>K
def roomFor (n bytes:Nat):Bool:=decide ((2 * n+512) * bytes<=281474976710656)
abbrev tR:=FuncId->List c7->j9->J2->Option (c7×j9)
def put (st:I5)(k:Nat)(v:c7):I5:={ st with L:=st.L.set k v }
def F6 (st:I5):y4->c7×I5
 | .loc j=>match st.L[j]? with
  |some (.own z len cells)=>(.own z len cells,{ st with L:=st.L.set j (.d (.slice len cells)) })
  |some .N7=>(.N7,st)
  |_=>(G7 st.T st.L (.loc j),st)
 | .const v=>(v,st)
 | .slot s=>(G7 st.T st.L (.slot s),st)
structure Env where
 cf:tR
 prom:FuncId->Bool
 mode:FuncId->Nat
 idle:FuncId->Bool
 lim:J2
 entry:Nat
def E6 (H:j9)(strict:Nat):Nat->Nat->Nat
 |0,n=>n
 |k+1,n=>if n<=strict then n else
  let m:=max n (F3 ((H.take n).drop strict))
  if m=n then n else E6 H strict k m
def B5 (H:j9)(strict n:Nat):Nat :=
 if n<=strict then n else if ah ((H.take n).drop strict) strict then n else strict
def C9 (E:Env)(k:Nat)(f:FuncId)(args:List c7)(st:I5):Option I5 :=
 if E.prom f then
  match E.cf f args st.H E.lim with
  |some (v,H1)=>if O st.H<=O H1 then J (put { st with H:=H1,l6:= .below (O H1)::st.l6 } k v) else K
  |none=>K
 else
  let n:=E6 st.H E.lim.strict 8 (A8 args)
  if n<=O st.H/\F3 ((st.H.take n).drop E.lim.strict)<=n then
   match E.mode f with
   |0=>match E.cf f args (st.H.take n) { E.lim with base:=n,strict:=B5 st.H E.lim.strict n } with
    |some (v,H1)=>if O H1=n then J (put { st with H:=H1++st.H.drop n,l6:= .below n::st.l6 } k v) else K
    |none=>K
   |1=>match E.cf f args (st.H.take n) ⟨0,n,n,B5 st.H E.lim.strict n⟩ with
    |some (v,H1)=>if O H1=n then J (put st k v) else K
    |none=>K
   |_ =>
    let m:=(args.headD .any).J4
    match E.cf f args (st.H.take n) (E.lim.jR m n n (B5 st.H E.lim.strict n)) with
    |some (v,H1)=>if O H1=n/\m<=n then J (put { st with H:=H1.take m++st.H.drop m,l6:= .below m::st.l6 } k v) else K
    |none=>K
  else K
def newId (st:I5)(A6:Option Nat):Nat:=A6.getD (O st.H)
def E1 (st:I5)(A6:Option Nat)(o:x4):I5 :=
 match A6 with
 |none=>{ st with H:=st.H++[o] }
 |some i=>{ st with H:=st.H.set i o }
def S6 (E:Env)(k n:Nat)(st:I5)(a:c7)(x:y4):Option I5 :=
 match a with
 | .ptr id off =>
  match (F6 st x).1.cells? with
  |some l =>
   if O l=n/\E.lim.may id/\(A8 l<=id+1\/(E.lim.base<=id/\E.lim.strict<=id)) then
    match wr (F6 st x).2.H id off l with
    |some H' =>J (put { (F6 st x).2 with H:=H',l6:= .obj id::(F6 st x).2.l6 } k .any)
    |none=>K
   else K
  |none=>K
 |_=>K
def X8 (E:Env)(k sz bytes:Nat)(st:I5)(id lo len:Nat)(y:c7):Option I5 :=
 if E.lim.base<=id/\E.entry<=id/\E.lim.may id then
  match st.H[id]?,C7 st.H sz y with
  |some (.cells l),J (m,cs) =>
   if lo=0/\len * sz=O l/\roomFor (len+m) bytes/\A8 cs<=id/\cs.all c7.one/\0<sz then
    J (put { T:=O6 id st.T,H:=(st.H.take E.lim.base++(st.H.drop E.lim.base).map (x4.kill id)).set id (.cells (O6 id l++cs)),L:=O6 id st.L,l6:= .obj id::st.l6 } k (.s6 id sz lo (len+m)))
   else K
  |_,_=>K
 else K
def iS (l:J2)(st:I5):s8->Bool
 | .S0 (.slot s)=> !st.l6.any (Touch.U8 s)&&(match st.T[s]? with
  |some .N7=>W
  |_=>F)
 | .load K x =>
  match bU st x with
  |some (id,off)=> !st.l6.any (Touch.aO id off)&&l.may id&&(match st.H[id]? with
   |some (.cells cs)=>(match cs[off]? with
    |some .N7=>W
    |_=>F)
   |_=>F)
  |none=>F
 |_=>F
def isNil (l:J2)(j8:List o3)(st:I5):y4->Bool
 | .const .N7=>W
 | .loc j=>match st.L[j]? with
  |some .N7=>W
  |some (.d (.slice _ _))=>match j8[j]? with
   |some a=>iS l st a.op
   |none=>F
  |_=>F
 |_=>F
def L8 (E:Env)(j8:List o3)(A6:Option Nat)(k sz bytes:Nat)(ob:Bool)(st:I5)(x:y4)(y:c7):Option I5 :=
 match C7 st.H sz y with
 |some (m,cs) =>
  if ob then
   if isNil E.lim j8 st x/\roomFor m bytes/\0<sz then
    if m=0 then J (put st k .N7)
    else J (put (E1 st A6 (.cells cs)) k (.s6 (newId st A6) sz 0 m))
   else K
  else
   match L1 cs with
   |some new =>
    match T1 E.lim j8 st sz x with
    |some (len,cells,st') =>
     if roomFor (len+m) bytes/\0<sz then J (put st' k (.own sz (len+m) (cells++new))) else K
    |none=>K
   |none=>K
 |none=>K
def U9 (E:Env)(A6:Option Nat)(k sz bytes:Nat)(st:I5)(id lo len:Nat)(y:c7):Option I5 :=
 if E.lim.may id then
  match st.H[id]?,C7 st.H sz y with
  |some (.cells l),J (m,cs) =>
   if lo=0/\len * sz=O l/\roomFor (len+m) bytes/\A8 cs<=newId st A6/\cs.all c7.one/\0<sz then
    J (put (E1 { st with H:=st.H.set id .dead,l6:= .obj id::st.l6 } A6 (.cells (l.map c7.K9++cs))) k (.s6 (newId st A6) sz lo (len+m)))
   else K
  |_,_=>K
 else K
def aa (E:Env)(k sz:Nat)(zero:List c7)(st:I5):c7->Option I5
 | .s6 id z lo len =>
  if z=sz/\O zero=sz/\A8 zero=0/\E.lim.may id then
   match wr st.H id lo ((c8 len zero).flatten) with
   |some H' =>J (put { st with H:=H',l6:= .obj id::st.l6 } k (.tuple []))
   |none=>K
  else K
 | .d (.slice 0 _)=>J (put st k (.tuple []))
 |_=>K
def V8 (E:Env)(k:Nat)(kk:KK)(st:I5)(m key v:c7):Option I5 :=
 match m,key.Nl with
 | .map id,J kd=>match st.H[id]? with
  |some (.map es) =>
   if v.J4<=id+1/\E.lim.may id then
    match Data.dK kk kd kd with
    |some W=>match eE kk kd v es with
     |some es' =>J (put { st with H:=st.H.set id (.map es'),l6:= .obj id::st.l6 } k .any)
     |none=>K
    |_=>K
   else K
  |_=>K
 |_,_=>K
def uB (sz:Nat)(zero:List c7):c7->c7->Option Nat
 | .d (.int .i64 n),.d (.int .i64 m)=>if n=m/\0<=n/\n<=1000000/\0<sz/\O zero=sz then J n.toNat else K
 |_,_=>K
def gL (st:I5)(r:Option I5):Option I5:=r.map λs=>{ s with l6:= .obj (O st.H)::s.l6 }
def oQ {st s' :I5}{r:Option I5}(h:gL st r=J s'):∃s,r=J s/\s' ={ s with l6:= .obj (O st.H)::s.l6 }:=by
 cases r with
 |none=>cases h
 |some s=>cases h;exact ⟨s,rfl,rfl⟩
def D3 (E:Env)(j8:List o3)(A6:Option Nat)(k:Nat)(st:I5):s8->Option I5
 | .alloc zero=>J (put (E1 st A6 (.cells zero)) k (.ptr (newId st A6) 0))
 | .box x=>match (G7 st.T st.L x).cells? with
  |some l=>J (put (E1 st A6 (.cells l)) k (.ptr (newId st A6) 0))
  |none=>K
 | .makeMap=>J (put (E1 st A6 (.map [])) k (.map (newId st A6)))
 | .sP x=>J (put st k (.d x))
 | .own sz x=>match T1 E.lim j8 st sz x with
  |some (len,cells,st')=>J (put st' k (.own sz len cells))
  |none=>K
 | .iY sz zero x y=>match uB sz zero (G7 st.T st.L x) (G7 st.T st.L y) with
  |some n=>J (put (E1 st A6 (.cells (c8 n zero).flatten)) k (.s6 (newId st A6) sz 0 n))
  |none=>K
 | .J8 sz len zero parts W=>match Z7 zero (parts.map λ(o,s,x)=>(o,s,G7 st.T st.L x)) with
  |some cs=>if 0<sz/\O cs=len * sz then J (put (E1 st A6 (.cells cs)) k (.s6 (newId st A6) sz 0 len)) else K
  |none=>K
 | .store n a x=>S6 E k n st (G7 st.T st.L a) x
 | .append sz bytes ob x y =>
  match G7 st.T st.L x with
  | .s6 id z lo len=>if z=sz then X8 E k sz bytes st id lo len (G7 st.T st.L y) else K
  |_=>L8 E j8 A6 k sz bytes ob st x (G7 st.T st.L y)
 | .K3 sz bytes x y =>
  gL st <| match G7 st.T st.L x with
  | .s6 id z lo len=>if z=sz then U9 E K k sz bytes st id lo len (G7 st.T st.L y) else K
  |_=>L8 E j8 K k sz bytes W st x (G7 st.T st.L y)
 | .clear sz zero x=>aa E k sz zero st (G7 st.T st.L x)
 | .call f xs=>C9 E k f (xs.map (G7 st.T st.L)) st
 | .X9 x xs=>match G7 st.T st.L x with
  | .func f first caps=>C9 E k f (first++xs.map (G7 st.T st.L)++caps) st
  |_=>K
 | .dF kk m key v=>V8 E k kk st (G7 st.T st.L m) (G7 st.T st.L key) (G7 st.T st.L v)
 | .defer x=>match G7 st.T st.L x with
  | .func f _ _=>if E.idle f then J (put st k .any) else K
  |_=>K
 |_=>K
def s8.B7:s8->Bool
 | .alloc _=>W
 | .box _=>W
 | .makeMap=>W
 | .iY .. =>W
 | .J8 _ _ _ _ b=>b
 | .store .. =>W
 | .append .. =>W
 | .K3 .. =>W
 | .call .. =>W
 | .X9 .. =>W
 | .dF .. =>W
 | .clear .. =>W
 | .defer _=>W
 | .sP _=>W
 | .own .. =>W
 |_=>F
def E2 (st:I5)(k:Nat):Option Nat->Option I5
 |none=>J st
 |some s =>
  if s<O st.T then
   J { (F6 st (.loc k)).2 with T:=st.T.set s (F6 st (.loc k)).1,l6:= .slot s::st.l6 }
  else K
def V4 (st:I5)(k:Nat):Option Nat->Option I5
 |none=>J st
 |some s =>
  if s<O st.T&&st.l6.any (Touch.U8 s) then
   J { (F6 st (.loc k)).2 with T:=st.T.set s (F6 st (.loc k)).1 }
  else K
def s7 (A6:Option Nat)(st:I5)(k:Nat)(dst:Option Nat):Option I5 :=
 match A6 with
 |none=>E2 st k dst
 |some _=>V4 st k dst
def y9 (L:List c7):Option (Nat×Bool)->Option Bool
 |none=>J W
 |some (j,want)=>match L[j]? with
  |some (.d (.bool b))=>J (b==want)
  |some (.tuple [])=>J F
  |_=>K
def B8 (E:Env)(j8:List o3)(A6:Option Nat)(k:Nat)(op:s8)(st:I5):Option (I5×List Nat) :=
 if op.B7 then
  match D3 E j8 A6 k st op with
  |some st' =>J (st',[])
  |none=>K
 else
  match op with
  | .S0 x=>J (put (F6 st x).2 k (F6 st x).1,[])
  |op=>match k8 (G7 st.T st.L) st.H op with
   |some (v,rs)=>J (put st k v,rs)
   |none=>K
def y3 (E:Env)(j8:List o3)(A6:Option Nat)(k:Nat)(i:o3)(st:I5):Option (I5×List Nat) :=
 match y9 st.L i.guard with
 |some W =>
  match B8 E j8 A6 k i.op st with
  |some (st',rs)=>match s7 A6 st' k i.dst with
   |some st2=>J (st2,rs)
   |none=>K
  |none=>K
 |some F=>match s7 A6 (put st k (.tuple [])) k i.dst with
  |some st2=>J (st2,[])
  |none=>K
 |none=>K
def iU (E:Env)(j8:List o3):List o3->Nat->I5->Option I5
 |[],_,st=>J st
 |i::is,k,st=>match y3 E j8 K k i st with
  |some (st',_)=>iU E j8 is (k+1) st'
  |none=>K
def s8.y7:s8->Bool
 | .alloc _=>W
 | .box _=>W
 | .makeMap=>W
 | .iY .. =>W
 | .J8 _ _ _ _ ob=>ob
 | .append _ _ ob _ _=>ob
 | .sP _=>W
 |_=>F
def s8.makes:s8->Bool
 | .sP _=>F
 |op=>op.y7
def G6 (hs:List Touch)(rs:List Nat):Bool:=hs.any λt=>rs.any λid=>t.F7 id
structure gC where
 reads:List Nat
 Jm:List Touch
 SP:Nat
 id:Nat
def J1 (E:Env)(st:I5):s8->Nat
 | .call f xs=>if E.prom f then O st.H else E6 st.H E.lim.strict 8 (A8 (xs.map (G7 st.T st.L)))
 | .X9 x xs=>match G7 st.T st.L x with
  | .func f first caps=>if E.prom f then O st.H else E6 st.H E.lim.strict 8 (A8 (first++xs.map (G7 st.T st.L)++caps))
  |_=>0
 | .K3 _ _ x y=>max (G7 st.T st.L x).J4 (G7 st.T st.L y).J4
 |_=>0
def G9 (st:I5):s8->Bool
 | .append _ _ _ x _=>match G7 st.T st.L x with
  | .s6 _ _ _ _=>W
  |_=>F
 |_=>F
def bw:Option Nat->List Touch
 |some n=>[.obj n]
 |none=>[]
def Y9 (E:Env)(i:o3)(A6:Option Nat)(st st' :I5)(rs:List Nat):gC :=
 ⟨rs,bw A6++st'.l6.take (O st'.l6 - O st.l6),J1 E st i.op,A6.getD 0⟩
def calm (st:I5)(op:s8)(a:o3):Bool:=match op,a.op with
 | .append _ _ _ x _,.S0 (.slot s)=>a.dst.isNone&&a.guard.isNone&&(match G7 st.T st.L x,st.T[s]? with
  | .s6 id _ _ _,J (.ptr j _)=> !Nat.beq j id
  |_,_=>F)
 |_,_=>F
def ja (E:Env)(j8:List o3)(A6:Option Nat)(k:Nat)(i:o3)(st:I5):Option (I5×gC) :=
 if G9 st i.op&&j8.any (λa=>a.cR.contains k&& !calm st i.op a) then K else
 match y3 E j8 A6 k i st with
 |some (st',rs)=>J (st',Y9 E i A6 st st' rs)
 |none=>K
def Q1 (E:Env)(j8:List o3):List o3->Nat->Nat->I5->Option (I5×List gC)
 |[],_,_,st=>J (st,[])
 |i::is,k,na,st=>match ja E j8 (if i.op.y7 then J na else K) k i st with
  |some (st',l) =>
   match Q1 E j8 is (k+1) (if i.op.y7 then na+1 else na) st' with
   |some (st2,lg)=>J (st2,l::lg)
   |none=>K
  |none=>K
def dN (j8:List o3)(lg:List gC):Bool :=
 (j8.zip lg).all λ(i,l)=>i.cR.all λe=>match lg[e]? with
  |some le=> !G6 le.Jm l.reads&&(!i.op.makes||decide (le.SP<=l.id))
  |none=>F
def Y7 (j8:List o3):j9:=(j8.filter (·.op.y7)).map λ_=> .dead
def slotsOf (j8:List o3):List Touch:=j8.filterMap λi=>if i.op.y7 then i.dst.map .slot else K
def T9 (E:Env)(j8:List o3)(draw:Bool)(T:List c7)(H:j9):Option I5 :=
 if draw then
  match Q1 E j8 j8 0 (O H) ⟨T,H++Y7 j8,c8 (O j8) .any,slotsOf j8⟩ with
  |some (st,lg)=>if dN j8 lg then J st else K
  |none=>K
 else iU E j8 j8 0 ⟨T,H,c8 (O j8) .any,[]⟩
inductive J6 where
 |normal
 |exit (id:Nat)
 |ret
 deriving Inhabited
structure St where
 T:List c7
 H:j9
def U7:List Bool->List c7->List c7
 |true::m,v::vs=>v::U7 m vs
 |false::m,_::vs=> .any::U7 m vs
 |[],_::vs=> .any::U7 [] vs
 |_,[]=>[]
def clean (mask:List Bool)(strict n:Nat)(st:St):St :=
 if A8 (U7 mask st.T)<=n/\F3 ((st.H.take n).drop strict)<=n then ⟨U7 mask st.T,st.H.take n⟩ else ⟨U7 mask st.T,st.H⟩
def mL (body:St->Option (J6×St))(mask:List Bool)(strict n:Nat):Nat->St->Option (J6×St)
 |0,_=>K
 |k+1,st=>match body (clean mask strict n st) with
  |some (.normal,st')=>mL body mask strict n k st'
  |r=>r
def uN:List c7->Nat->Option (Nat×Nat×Nat×Nat×Nat)
 |[],_=>K
 | .s6 id sz lo len::_,i=>J (i,id,sz,lo,len)
 |_::r,i=>uN r (i+1)
def uu (lim:J2)(entry s:Nat)(st:St):Option St :=
 match st.T[s]? with
 |some (.ptr b 0)=>match st.H[b]? with
  |some (.cells cs)=>match uN cs 0 with
   |some (i,id,sz,lo,len)=>match rd st.H id lo (len * sz) with
    |some vs=>match L1 vs with
     |some xs =>
      if lim.base<=id/\entry<=id/\lim.may id=W/\lim.base<=b/\id≠b then
       J ⟨O6 id st.T,((st.H.take lim.base++(st.H.drop lim.base).map (x4.kill id)).set id .dead).set b (.cells ((O6 id cs).set i (.d (.slice len xs))))⟩
      else K
     |none=>K
    |none=>K
   |none=>K
  |_=>K
 |_=>K
mutual
def c7.forget:c7->c7
 | .d (.slice n [])=> .d (.slice n [])
 | .d (.slice _ (_::_))=> .any
 | .own _ _ _=> .any
 | .bP _=> .any
 | .agg l=> .agg (S9 l)
 | .tuple l=> .tuple (S9 l)
 | .func f a b=> .func f (S9 a) (S9 b)
 |v=>v
def S9:List c7->List c7
 |[]=>[]
 |v::vs=>v.forget::S9 vs
end
def x4.forget:x4->x4
 | .dead=> .dead
 | .cells l=> .cells (S9 l)
 | .map es=> .map (es.map λp=>(p.1,p.2.forget))
def Data.flat:Data->Bool
 | .slice _ _=>F
 |_=>W
def ye:List c7->Nat->Option (Nat×Nat×Nat×List Data)
 |[],_=>K
 | .own sz len xs::_,i=>J (i,sz,len,xs)
 |_::r,i=>ye r (i+1)
def KJ (lim:J2)(entry s:Nat)(st:St):Option St :=
 match st.T[s]? with
 |some (.ptr b 0)=>match st.H[b]? with
  |some (.cells cs)=>match ye cs 0 with
   |some (i,sz,len,xs) =>
    if len=0 then J st else
    if entry=0/\lim.base=0/\lim.strict=0/\xs.all Data.flat=W then
     J ⟨S9 st.T,(st.H.map x4.forget).set b (.cells ((S9 cs).set i (.s6 (O st.H) sz 0 len)))++[.cells (xs.map .d)]⟩
    else K
   |none=>K
  |_=>K
 |some (.own sz len xs) =>
  if len=0 then J st else
  if entry=0/\lim.base=0/\lim.strict=0/\xs.all Data.flat=W then
   J ⟨(S9 st.T).set s (.s6 (O st.H) sz 0 len),st.H.map x4.forget++[.cells (xs.map .d)]⟩
  else K
 |none=>if entry=0/\lim.base=0/\lim.strict=0 then J ⟨st.T,st.H++[.dead]⟩ else K
 |_=>K
def oH (lim:J2)(entry s:Nat)(st:St):Option St :=
 match uu lim entry s st with
 |some r=>J r
 |none=>KJ lim entry s st
def exec (E:Env)(lim:Nat):p7->St->Option (J6×St)
 | .skip,st=>J (.normal,st)
 | .region ops draw,st=>match T9 E ops draw st.T st.H with
  |some r=>J (.normal,⟨r.T,r.H⟩)
  |none=>K
 | .seq a b,st=>match exec E lim a st with
  |some (.normal,st')=>exec E lim b st'
  |r=>r
 | .cond c a b,st=>match G7 st.T [] c with
  | .d (.bool W)=>exec E lim a st
  | .d (.bool F)=>exec E lim b st
  |_=>K
 | .test ops draw c a b,st=>match T9 E ops draw st.T st.H with
  |some r=>match G7 r.T r.L c with
   | .d (.bool W)=>exec E lim a ⟨r.T,r.H⟩
   | .d (.bool F)=>exec E lim b ⟨r.T,r.H⟩
   |_=>K
  |none=>K
 | .block id body,st=>match exec E lim body st with
  |some (.exit id',st')=>if id' =id then J (.normal,st') else J (.exit id',st')
  |r=>r
 | .loop mask body,st=>mL (exec E lim body) mask E.lim.strict (O st.H) lim st
 | .exit id,st=>J (.exit id,st)
 | .ret,st=>J (.ret,st)
 | .fz s,st=>match oH E.lim E.entry s st with
  |some st' =>J (.normal,st')
  |none=>K
 | .bad,_=>K
def qf (T:List c7)(H:j9):Rp->Option c7
 | .slot s=>T[s]?
 | .cell s K=>match T[s]? with
  |some (.ptr id off)=>match rd H id off 1 with
   |some [v]=>J v.K9
   |_=>K
  |_=>K
 | .cell s (J n)=>match T[s]? with
  |some (.ptr id off)=>match rd H id off n with
   |some vs=>J (.agg (vs.map c7.K9))
   |none=>K
  |_=>K
def cB (T:List c7)(H:j9):List Rp->Option (List c7)
 |[]=>J []
 |r::rs=>match qf T H r with
  |some v=>match cB T H rs with
   |some vs=>J (v::vs)
   |none=>K
  |none=>K
def j4:List c7->c7
 |[v]=>v
 |vs=> .tuple (vs.map c7.K9)
def cH (H:j9)(n:Nat):Nat->List c7->Option (List c7)
 |0,_=>K
 |_+1,[]=>J []
 |fuel+1,v::vs =>
  match cH H n fuel vs with
  |none=>K
  |some ws =>
   match v with
   | .s6 id sz lo len =>
    if id<n then J (.s6 id sz lo len::ws) else
    match rd H id lo (len * sz) with
    |some us=>match cH H n fuel us with
     |some us' =>match L1 us' with
      |some xs=>J (.d (.slice len xs)::ws)
      |none=>K
     |none=>K
    |none=>K
   | .agg l=>match cH H n fuel l with
    |some l' =>J (.agg l' ::ws)
    |none=>K
   | .tuple l=>match cH H n fuel l with
    |some l' =>J (.tuple l' ::ws)
    |none=>K
   |v=>J (v::ws)
structure Prog where
 fn:FuncId->Option r7
 idle:FuncId->Bool
 mode:FuncId->Nat
 dR:FuncId->Option (List c7->j9->J2->Option (c7×j9))
def Prog.prom (A:Prog)(f:FuncId):Bool:=match A.fn f with
 |some af=>af.jx
 |none=>F
def finish (jx:Bool)(n:Nat)(vs:List c7)(H:j9):Option (c7×j9) :=
 if jx then J (j4 vs,H) else
 match cH H n 1000000 [j4 vs] with
 |some [v]=>if v.J4<=n then J (v,H.take n) else K
 |_=>K
def iA (A:Prog)(cf:tR)(lim:Nat)(af:r7)(args:List c7)(H:j9)(l:J2):Option (c7×j9) :=
 if O args=af.nparams then
  match exec ⟨cf,A.prom,A.mode,A.idle,l,O H⟩ lim af.body ⟨args++c8 (O af.names - O args) .any,H⟩ with
  |some (.exit _,_)=>K
  |some (_,st) =>
   match cB st.T st.H af.results with
   |some vs=>finish af.jx (O H) vs st.H
   |none=>K
  |none=>K
 else K
def call (A:Prog):Nat->tR
 |0=>λ_ _ _ _=>K
 |n+1=>λf args H l =>
  match A.dR f with
  |some p=>p args H l
  |none=>match A.fn f with
   |some af=>iA A (call A n) n af args H l
   |none=>K
inductive Place where
 |slot (s:Nat)
 |loc (j:Nat)
 |cell (id off:Nat)
 |none
 |ret
 deriving DecidableEq
inductive Rs where
 |free
 |lK
 |held (n:Nat)
 |obj (id:Nat)
 |grow (n:Nat) (pl:Place)
 deriving DecidableEq
abbrev Gh:=Nat->Rs
abbrev S8:=Nat->Nat×Nat
def jm (G:Gh)(b o:Nat):Prop :=
 match G b with
 | .lK=>True
 | .held n=>o<n
 | .grow n _=>o<n
 |_=>False
abbrev ad (b o:Nat):Addr:=⟨b,o,Option.none⟩
mutual
def DR (G:Gh)(w:World):Data->Value->Prop
 | .bool b,v=>v= .bool b
 | .int k n,v=>v= .int k n
 | .str s,v=>v= .string ⟨s.toArray⟩
 | .slice len cells,v=>((v= .slice Option.none 0 0\/∃a,v= .slice (J a) 0 0)/\len=0/\cells=[]) \/
   ∃b o cap,v= .slice (J (ad b o)) len cap/\len<=cap/\gB G w b o cells
 | .iT,v=>v= .pointer Option.none
 | .T0,v=>v= .nilFunc
 | .jV,v=>v= .map Option.none
 | .nilIface,v=>v= .nilIface
def gB (G:Gh)(w:World)(b:Nat):Nat->List Data->Prop
 |_,[]=>True
 |o,c::cs=>jm G b o/\(∃x,w.cell? (ad b o)=J x/\DR G w c x)/\gB G w b (o+1) cs
end
def Mz (f:Nat×Nat)(n:Nat):Prop:=∀o,o<n->¬ (f.1<=o/\o<f.2)
mutual
def VR (G:Gh)(I:S8)(N:Nat->Prop)(w:World):Place->c7->Value->Prop
 |_,.any,_=>True
 |_,.d x,v=>DR G w x v
 |_,.ptr id off,v=>N id/\v= .pointer (J (ad (I id).1 ((I id).2+off)))
 |_,.bP cells,v=>∃b o,v= .pointer (J (ad b o))/\gB G w b o cells
 |_,.s6 id sz lo len,v=>N id/\∃cap,v= .slice (J (ad (I id).1 ((I id).2+lo))) len cap/\len<=cap /\
   ∃c e f,w.heap[(I id).1]? =J (.cells c e f)/\(I id).2+lo+cap * sz<=c.size
 |pl,.own sz len cells,v=>O cells=len * sz /\
   (((v= .slice Option.none 0 0\/∃b o,v= .slice (J (ad b o)) 0 0)/\len=0) \/
    (pl≠ .none/\∃b o cap c e f,v= .slice (J (ad b o)) len cap/\len<=cap/\w.heap[b]? =J (.cells c e f)/\o+cap * sz<=c.size/\Mz f c.size /\
     G b= .grow (o+len * sz) pl/\gB G w b o cells))
 |_,.N7,v=>v= .slice Option.none 0 0
 |_,.agg l,v=>∃cs:Array Value,v= .agg cs/\K1 G I N w l cs.toList
 |_,.tuple l,v=>∃cs:Array Value,v= .tuple cs/\K1 G I N w l cs.toList
 |_,.func f a b,v=>∃x y:Array Value,v= .func (.func f) x y/\K1 G I N w a x.toList/\K1 G I N w b y.toList
 |_,.map id,v=>N id/\v= .map (J (I id).1)
def K1 (G:Gh)(I:S8)(N:Nat->Prop)(w:World):List c7->List Value->Prop
 |[],vs=>vs=[]
 |a::as,vs=>∃x xs,vs=x::xs/\VR G I N w .none a x/\K1 G I N w as xs
end
def KD.val:KD->Value
 | .i k n=> .int k n
 | .s x=> .string ⟨x.toArray⟩
 | .b t=> .bool t
def Key.val:Key->Value
 | .int k n=> .int k n
 | .str x=> .string ⟨x.toArray⟩
 | .bool t=> .bool t
 | .st l=> .agg (l.map KD.val).toArray
def ER (G:Gh)(I:S8)(N:Nat->Prop)(w:World):List (Key×c7)->List MapEntry->Prop
 |[],es=>es=[]
 |(k,v)::r,es=>∃e es',es=e::es' /\e.key=k.val/\VR G I N w .none v e.val/\ER G I N w r es'
structure Il (arr:Array MapEntry)(gE:Nat):Prop where
 old:∀e∈arr.toList,e.born<gE
 nodup:(arr.toList.map (·.born)).Nodup
theorem Il.push {arr:Array MapEntry}{gE:Nat}(h:Il arr gE)(k v:Value):Il (arr.push { key:=k,val:=v,born:=gE }) (gE+1) where
 old e he:=by
  rw [Array.toList_push] at he
  rcases N9.1 he with he|he
  .exact Nat.lt_succ_of_lt (h.old e he)
  simp_all
 nodup:=by
  rw [Array.toList_push,List.map_append,List.nodup_append];refine ⟨h.nodup,U,λa ha b hb=>?_⟩;simp [G4,List.map_nil,List.mem_singleton] at hb;obtain ⟨e,he,rfl⟩:=List.mem_map.1 ha;have:=h.old e he;omega
theorem Il.modify {arr:Array MapEntry}{gE:Nat}(h:Il arr gE)(j:Nat)(g:MapEntry->MapEntry)(hg:∀e,(g e).born=e.born):Il (arr.modify j g) gE:=by
 have e1:(arr.modify j g).toList.map (·.born)=arr.toList.map (·.born):=by
  apply List.ext_getElem?
  grind
 refine ⟨λe he=>?_,by rw [e1];exact h.nodup⟩;have:e.born∈arr.toList.map (·.born):=by
  grind
 obtain ⟨e',he',hb⟩:=List.mem_map.1 this;rw [<- hb];exact h.old e' he'
def OR (G:Gh)(I:S8)(N:Nat->Prop)(w:World)(id:Nat):x4->Prop
 | .dead=>True
 | .cells l=>N id/\∃c e f,w.heap[(I id).1]? =J (.cells c e f)/\G (I id).1= .obj id/\Mz f c.size/\(I id).2+O l<=c.size /\
   ∀i x,l[i]? =J x->∃v,c[(I id).2+i]? =J v/\VR G I N w (.cell id i) x v
 | .map es=>N id/\∃arr gE,w.heap[(I id).1]? =J (.map arr gE)/\G (I id).1= .obj id/\ER G I N w es arr.toList/\Il arr gE
def HR (G:Gh)(I:S8)(N:Nat->Prop)(w:World)(H:j9):Prop:=∀id o,H[id]? =J o->OR G I N w id o
def WF (G:Gh)(w:World):Prop:=∀b,w.heap.size<=b->G b= .free
structure Sub (G:Gh)(w:World)(G' :Gh)(w' :World):Prop where
 lK:∀b o:Nat,jm G b o->jm G' b o/\w'.cell? (ad b o)=w.cell? (ad b o)
 shape:∀(b:Nat) (c:Array Value) (e:TypeId) (f:Nat×Nat),w.heap[b]? =J (Obj.cells c e f)->∃c' :Array Value,w'.heap[b]? =J (Obj.cells c' e f)/\c'.size=c.size
class E3 where
 on:Prop
section
variable [E3]
structure Ext (G:Gh)(w:World)(G' :Gh)(w' :World):Prop where
 os:w'.os=w.os
 tape:w'.tape=w.tape
 output:w'.output=w.output
 drawn:E3.on->w.drawn<=w'.drawn
 size:w.heap.size<=w'.heap.size
 lK:∀b o:Nat,jm G b o->jm G' b o/\w'.cell? (ad b o)=w.cell? (ad b o)
 still:∀b:Nat,(G b= .lK\/∃n,G b= .held n)->G' b=G b/\w'.heap[b]? =w.heap[b]?
 shape:∀(b:Nat) (c:Array Value) (e:TypeId) (f:Nat×Nat),w.heap[b]? =J (Obj.cells c e f)->∃c' :Array Value,w'.heap[b]? =J (Obj.cells c' e f)/\c'.size=c.size
def Ext.sub {G:Gh}{w:World}{G' :Gh}{w' :World}(h:Ext G w G' w'):Sub G w G' w' :=⟨h.lK,h.shape⟩
instance {G:Gh} {w:World} {G' :Gh} {w' :World}:CoeOut (Ext G w G' w') (Sub G w G' w'):=⟨Ext.sub⟩
theorem Ext.refl (G:Gh)(w:World):Ext G w G w :=
 ⟨rfl,rfl,rfl,λ_=>k9 _,k9 _,λ_ _ h=>⟨h,rfl⟩,λ_ _=>⟨rfl,rfl⟩,λ_ c _ _ h=>⟨c,h,rfl⟩⟩
theorem Ext.trans {G:Gh}{w:World}{G1:Gh}{w1:World}{G2:Gh}{w2:World}(h:Ext G w G1 w1)(k:Ext G1 w1 G2 w2):Ext G w G2 w2 where
 os:=k.os.trans h.os
 tape:=k.tape.trans h.tape
 output:=k.output.trans h.output
 drawn o:=s5 (h.drawn o) (k.drawn o)
 size:=s5 h.size k.size
 lK b o hi:=by
  obtain ⟨a1,a2⟩:=h.lK b o hi;obtain ⟨b1,b2⟩:=k.lK b o a1;simp_all
 still b hb:=by
  obtain ⟨a1,a2⟩:=h.still b hb;obtain ⟨b1,b2⟩:=k.still b M;simp_all
 shape b c e f hc:=by
  obtain ⟨c1,h1,s1⟩:=h.shape b c e f hc;obtain ⟨c2,h2,s2⟩:=k.shape b c1 e f h1;simp_all
def Ext.drew {G:Gh}{w:World}{G' :Gh}{w' :World}(h:Ext G w G' w')(n:Nat)(hn:w'.drawn<=n):Ext G w G' { w' with drawn:=n } :=
 ⟨h.os,h.tape,h.output,λo=>s5 (h.drawn o) hn,h.size,h.lK,h.still,h.shape⟩
end
mutual
theorem DR.mono {G:Gh}{w:World}{G' :Gh}{w' :World}
  (h:∀b o,jm G b o->jm G' b o/\w'.cell? (ad b o)=w.cell? (ad b o)):∀(d:Data) (v:Value),DR G w d v->DR G' w' d v
 | .bool _,_,hd=>by simp_all [DR]
 | .int _ _,_,hd=>by simp_all [DR]
 | .str _,_,hd=>by simp_all [DR]
 | .slice _ cells,_,hd=>by
  simp [DR] at hd ⊢
  rcases hd with hd|⟨b,o,cap,h1,h2,h3⟩
  .simp_all
  .exact Or.inr ⟨b,o,cap,h1,h2,gB.mono h b o cells h3⟩
 | .iT,_,hd=>by simp_all [DR]
 | .T0,_,hd=>by simp_all [DR]
 | .jV,_,hd=>by simp_all [DR]
 | .nilIface,_,hd=>by simp_all [DR]
theorem gB.mono {G:Gh}{w:World}{G' :Gh}{w' :World}
  (h:∀b o,jm G b o->jm G' b o/\w'.cell? (ad b o)=w.cell? (ad b o)) (b:Nat):∀(o:Nat) (l:List Data),gB G w b o l->gB G' w' b o l
 |_,[],_=>by simp [gB]
 |o,c::cs,hd=>by
  obtain ⟨h1,⟨x,h2,h3⟩,h4⟩:=hd;obtain ⟨i1,i2⟩:=h b o h1;exact ⟨i1,⟨x,i2.trans h2,DR.mono h c x h3⟩,gB.mono h b (o+1) cs h4⟩
end
def bE (pl:Place)(G:Gh)(w:World)(G' :Gh)(w' :World):Prop :=
 ∀b n,G b= .grow n pl->G' b= .grow n pl/\w'.heap[b]? =w.heap[b]?
mutual
theorem VR.mono {G:Gh}{I:S8}{N:Nat->Prop}{w:World}{G' :Gh}{I' :S8}{N' :Nat->Prop}{w' :World}(hx:Sub G w G' w')
  (hI:∀id,N id->I' id=I id) (hN:∀id,N id->N' id):∀(pl:Place) (a:c7) (v:Value),(pl= .none\/bE pl G w G' w')->VR G I N w pl a v->VR G' I' N' w' pl a v
 |_,.any,_,_,_=>by simp [VR]
 |_,.d x,v,_,h=>by exact DR.mono hx.lK x v h
 |_,.ptr id off,v,_,h=>by
  simp_all [VR]
 |_,.bP cells,v,_,h=>by
  obtain ⟨b,o,h1,h2⟩:=h;exact ⟨b,o,h1,gB.mono hx.lK b o cells h2⟩
 |_,.s6 id sz lo len,v,_,h=>by
  simp only [VR] at h ⊢;obtain ⟨h1,cap,h2,h3,c,e,f,h4,h5⟩:=h;obtain ⟨c',g1,g2⟩:=hx.shape _ c e f h4;simp_all
 |pl,.own sz len cells,v,hk,h=>by
  obtain ⟨h0,h⟩:=h;refine ⟨h0,?_⟩
  rcases h with h|⟨hp,b,o,cap,c,e,f,h1,h2,h3,h4,h5,h6,h7⟩
  .simp_all
  .rcases hk with hk|hk
   .simp_all
   .obtain ⟨k1,k2⟩:=hk b _ h6
    exact Or.inr ⟨hp,b,o,cap,c,e,f,h1,h2,k2.trans h3,h4,h5,k1,gB.mono hx.lK b o cells h7⟩
 |_,.N7,v,_,h=>by simp_all [VR]
 |_,.agg l,v,_,h=>by
  obtain ⟨cs,h1,h2⟩:=h;exact ⟨cs,h1,K1.mono hx hI hN l _ h2⟩
 |_,.tuple l,v,_,h=>by
  obtain ⟨cs,h1,h2⟩:=h;exact ⟨cs,h1,K1.mono hx hI hN l _ h2⟩
 |_,.func f a b,v,_,h=>by
  obtain ⟨x,y,h1,h2,h3⟩:=h;exact ⟨x,y,h1,K1.mono hx hI hN a _ h2,K1.mono hx hI hN b _ h3⟩
 |_,.map id,v,_,h=>by
  simp_all [VR]
theorem K1.mono {G:Gh}{I:S8}{N:Nat->Prop}{w:World}{G' :Gh}{I' :S8}{N' :Nat->Prop}{w' :World}(hx:Sub G w G' w')
  (hI:∀id,N id->I' id=I id) (hN:∀id,N id->N' id):∀(l:List c7) (vs:List Value),K1 G I N w l vs->K1 G' I' N' w' l vs
 |[],_,h=>by grind [K1]
 |a::as,vs,h=>by
  obtain ⟨x,xs,h1,h2,h3⟩:=h;exact ⟨x,xs,h1,VR.mono hx hI hN .none a x (Or.inl rfl) h2,K1.mono hx hI hN as xs h3⟩
end
theorem ER.mono {G:Gh}{I:S8}{N:Nat->Prop}{w:World}{G' :Gh}{I' :S8}{N' :Nat->Prop}{w' :World}(hx:Sub G w G' w')
  (hI:∀id,N id->I' id=I id) (hN:∀id,N id->N' id):∀(l:List (Key×c7)) (es:List MapEntry),ER G I N w l es->ER G' I' N' w' l es
 |[],_,h=>by grind [ER]
 |(k,v)::r,es,h=>by
  obtain ⟨e,es',h1,h2,h3,h4⟩:=h;exact ⟨e,es',h1,h2,VR.mono hx hI hN .none _ _ (Or.inl rfl) h3,ER.mono hx hI hN r es' h4⟩
theorem OR.mono {G:Gh}{I:S8}{N:Nat->Prop}{w:World}{G' :Gh}{I' :S8}{N' :Nat->Prop}{w' :World}(hx:Sub G w G' w')
  (hI:∀id,N id->I' id=I id) (hN:∀id,N id->N' id) (id:Nat) (o:x4)
  (hb:G (I id).1= .obj id->G' (I id).1= .obj id/\w'.heap[(I id).1]? =w.heap[(I id).1]?)
  (hc:∀off,bE (.cell id off) G w G' w') (h:OR G I N w id o):OR G' I' N' w' id o:=by
 cases o with
 |dead=>simp [OR]
 |cells l =>
  grind [OR,VR.mono]
 |map es =>
  grind [OR,ER.mono]
theorem VR.K9 {G:Gh}{I:S8}{N:Nat->Prop}{w:World}{pl zP :Place}:∀{a:c7} {v:Value},VR G I N w pl a v->VR G I N w zP a.K9 v
 | .any,_,_=>by simp [c7.K9,VR]
 | .d _,_,h=>by grind [c7.K9,VR]
 | .ptr _ _,_,h=>by grind [c7.K9,VR]
 | .bP _,_,h=>by grind [c7.K9,VR]
 | .s6 _ _ _ _,_,h=>by grind [c7.K9,VR]
 | .own sz len cells,v,h=>by
  simp [c7.K9,VR,DR] at h ⊢;obtain ⟨h0,h⟩:=h
  rcases h with ⟨h1,h2⟩|⟨hp,b,o,cap,c,e,f,h1,h2,h3,h4,h5,h6,h7⟩
  all_goals (simp_all [gB]<;>grind)
 | .N7,v,h=>by
  simp_all [c7.K9,VR,DR,trivial]
 | .agg _,_,h=>by grind [c7.K9,VR]
 | .tuple _,_,h=>by grind [c7.K9,VR]
 | .func _ _ _,_,h=>by grind [c7.K9,VR]
 | .map _,_,h=>by grind [c7.K9,VR]
theorem VR.Tm {G:Gh}{I:S8}{N:Nat->Prop}{w:World}{pl zP :Place}{a:c7}{v:Value}(h:VR G I N w pl a v):VR G I N w zP a.Tm v:=by
 cases a
 case N7=>simp_all [c7.Tm,VR]
 all_goals exact h.K9
def TZ {u:c7}(h:u.K9=u):u.Tm=u:=by
 cases u
 case N7=>rfl
 all_goals exact h
def GV:Value->c7->Bool
 |_,.any=>W
 | .bool b,.d (.bool c)=>b==c
 | .int k n,.d (.int k' n')=>k==k' &&n==n'
 | .string s,.d (.str l)=>s.data.toList==l
 | .slice Option.none 0 0,.own _ 0 []=>W
 | .slice Option.none 0 0,.N7=>W
 | .slice Option.none 0 0,.d (.slice 0 [])=>W
 | .pointer Option.none,.d .iT=>W
 | .map Option.none,.d .jV=>W
 | .nilFunc,.d .T0=>W
 | .nilIface,.d .nilIface=>W
 |_,_=>F
def consts:List Value->List c7->Bool
 |[],[]=>W
 |v::vs,a::as=>GV v a&&consts vs as
 |_,_=>F
def Ac:Value->c7->Bool
 | .agg cs,.agg l=>consts cs.toList l
 |v,a=>GV v a
structure Cx where
 P:Program
 names:List Tmp
 ops:Array Oper
def Cx.ck (X:Cx)(d8:Nat->Bool):Operand->y4->Bool
 | .tmp t,.slot s=>X.names[s]? ==J t
 | .tmp t,.loc j=>d8 j&&((X.ops[j]?).bind (·.dst))==J t&& !X.names.contains t
 | .const v,.const a=>Ac v a
 | .func f,.const (.func g [] [])=>f==g
 |_,.const .any=>W
 |_,_=>F
def TP (ck:Operand->y4->Bool):List Operand->List y4->Bool
 |[],[]=>W
 |x::xs,y::ys=>ck x y&&TP ck xs ys
 |_,_=>F
def ckO (ck:Operand->y4->Bool):Option Operand->Option y4->Bool
 |none,K=>W
 |some x,J y=>ck x y
 |_,_=>F
def dB (P:Program)(t:TypeId):Option Bool :=
 match P.underlying t with
 |some (.struct _)=>J W
 |some (.array _ _)=>J W
 |some _=>J F
 |none=>K
def tv (P:Program)(t:TypeId):Option Nat->Bool
 |none=>dB P t==J F
 |some n=>dB P t==J W&&P.cellsOf t==n&&decide (0<n)
def mJ (P:Program)(t:TypeId)(sz:Nat):Bool :=
 match P.underlying t with
 |some (.slice e)=>P.cellsOf e==sz&&(P.info? e).isSome
 |_=>F
def gb (P:Program)(t:TypeId):CK->Bool
 | .i=>match P.underlying t with
  |some (.int _)=>W
  |_=>F
 | .s=>match P.underlying t with
  |some .string=>W
  |_=>F
 | .b=>match P.underlying t with
  |some .bool=>W
  |_=>F
def U6 (P:Program):List Field->Nat->List CK->Bool
 |[],_,[]=>W
 | f :: fs, n, k :: ks => f.name != "_" && gb P f.type k && f.offset == n && U6 P fs (n + 1) ks
 |_,_,_=>F
def jP (P:Program)(t:TypeId)(ks:List CK):Bool :=
 match P.underlying t with
 |some (.struct fs)=>U6 P fs.toList 0 ks&& !P.stoodInHeld t&& !P.eqGuardType P.depth t
 |_=>F
def eY (P:Program):List Field->Nat->List CK->Bool
 |[],_,[]=>W
 |[],_,_::_=>F
 | f :: fs, n, ks => f.name != "_" && f.offset == n &&
  (match P.underlying f.type with
  |some (.struct gs)=>(P.info? f.type).isSome&&P.cellsOf f.type==gs.size&&U6 P gs.toList 0 (ks.take gs.size)&& !P.stoodInHeld f.type&&eY P fs (n+gs.size) (ks.drop gs.size)
  |_=>(match ks with
   |k::r=>gb P f.type k&&eY P fs (n+1) r
   |[]=>F))
def xM (P:Program)(t:TypeId)(ks:List CK):Bool :=
 match P.underlying t with
 |some (.struct fs)=>eY P fs.toList 0 ks&& !P.stoodInHeld t&& !P.eqGuardType P.depth t
 |_=>F
def wI (P:Program)(t:TypeId):KK->Bool
 | .i=>gb P t .i
 | .s=>gb P t .s
 | .b=>gb P t .b
 | .st ks=>jP P t ks
def kO (P:Program)(ck:Operand->y4->Bool)(place:Nat->Option (Nat×Nat)):List (Nat×Operand)->List (Nat×Nat×y4)->Bool
 |[],[]=>W
 |(i,x)::r,(off,sz,y)::q=>place i==J (off,sz)&&ck x y&&kO P ck place r q
 |_,_=>F
def xK (P:Program)(fs:List Field):Option (List (Nat×Nat)):=fs.mapM λf=>(P.info? f.type).map λi=>(f.offset,i.size)
def xh (P:Program)(t:TypeId)(l:List c7):Bool :=
 match P.info? t with
 |some i=>match i.zero with
  |some z=>consts z.cells.toList l
  |none=>F
 |none=>F
def E8 (P:Program)(ck:Operand->y4->Bool)(o:Oper)(op:s8):Bool :=
 match o.op,op with
 | .pick c a b,.pick c' a' b' =>ck c c' &&ck a a' &&ck b b'
 | .load t x,.load n y=>ck x y&&tv P t n
 | .nilCheck x,.dh y=>ck x y
 | .binOp b _ x y _,.bin b' x' y' =>b==b' &&ck x x' &&ck y y'
 | .binOp b t x (.const (.slice Option.none 0 0)) _,.BH neg x' =>ck x x' &&(match P.underlying t with|some (.slice _)=>W|_=>F)&&(if neg then b== .neq else b== .eql)
 | .binOp b t x y _,.x5 neg x' y' =>ck x x' &&ck y y' &&(match P.underlying t with|some .bool=>W|_=>F)&&(if neg then b== .neq else b== .eql)
 | .binOp b t x y _,.Dx neg ks x' y' =>ck x x' &&ck y y' &&xM P t ks&&(if neg then b== .neq else b== .eql)
 | .unOp b _ x,.un b' x' =>b==b' &&ck x x'
 | .convert s d x,.rM k y=>ck x y&&(P.underlying s).isSome&&(match P.underlying d with|some (.int k')=>k==k' |_=>F)
 | .convert s d x,.pG y=>ck x y&&(match P.underlying s with|some (.slice e)=>(match P.underlying e with|some (.int .u8)=>W|_=>F)|_=>F)&&(match P.underlying d with|some .string=>W|_=>F)
 | .slice t x lo hi K,.ay sz y lo' hi' =>ck x y&&ckO ck lo lo' &&ckO ck hi hi' &&mJ P t sz&&decide (0<sz)
 | .fieldAddr s x f,.off k y=>ck x y&&(match P.underlying s with
  |some (.struct fs)=>(match fs[f]? with
   |some fd=>fd.offset==k&&decide (0<P.cellsOf fd.type)
   |none=>F)
  |_=>F)
 | .indexAddr t x i,.L2 sz y j=>ck x y&&ck i j&&mJ P t sz
 | .indexAddr t x i,.iQ n sz y j=>ck x y&&ck i j&&(match P.underlying t with|some (.array m e)=>m==n&&P.cellsOf e==sz&&(P.info? e).isSome|_=>F)
 | .index t x i,.J5 y j=>ck x y&&ck i j&&(match P.underlying t with|some .string=>W|_=>F)
 | .extract x i,.extract y j=>ck x y&&i==j
 | .field t x f,.Yv y j=>ck x y&&(match P.underlying t with
  |some (.struct fs)=>(match fs[f]? with
   |some fd=>fd.offset==j&&(dB P fd.type==J F)
   |none=>F)
  |_=>F)
 | .call { callee:= .builtin .len,args,argTypes },.len y=>(match args[0]?,argTypes[0]? with
  |some x,J t=>ck x y&&(match P.underlying t with|some (.slice _)=>W|_=>F)
  |_,_=>F)
 | .call { callee:= .builtin .len,args,argTypes },.Y8 y=>(match args[0]?,argTypes[0]? with
  |some x,J t=>ck x y&&(match P.underlying t with|some .string=>W|_=>F)
  |_,_=>F)
 | .call { callee:= .builtin .max,args,.. },.gT W ys=>TP ck args.toList ys&&decide (2<=O ys)
 | .call { callee:= .builtin .min,args,.. },.gT F ys=>TP ck args.toList ys&&decide (2<=O ys)
 | .makeFunc (.func f) first caps,.an g first' aA2 =>f==g&&TP ck first.toList first' &&TP ck caps.toList aA2
 | .lookup t m k ok,.lookup kk zero Vn m' k' =>ok==Vn &&ck m m' &&ck k k' &&(match P.underlying t with
  |some (.map kt et)=>wI P kt kk&&(match P.info? et with
   |some i=>(match i.zero with
    |some z=>Ac z zero
    |none=>F)
   |none=>F)
  |_=>F)
 | .build t parts,.build zero ps=>(match P.underlying t with
  |some (.struct fs)=>(match xK P fs.toList with
   |some places=>xh P t zero&&kO P ck (λi=>places[i]?) parts.toList ps
   |none=>F)
  |some (.array _ e)=>(match P.info? e with
   |some i=>xh P t zero&&kO P ck (λj=>J (j * i.size,i.size)) parts.toList ps
   |none=>F)
  |_=>F)
 |_,_=>F
theorem ue {G:Gh}{I:S8}{N:Nat->Prop}{w:World}:∀(v:Value) (a:c7),GV v a=W->VR G I N w .none a v:=by
 intro v a h;unfold GV at h;split at h
 all_goals first
  |(done)
  |(simp at h;done)
  |(simp [VR,DR];done)
  |(simp only [VR,DR];simp_all;done)
  |skip
 next s l=>
  simp [VR,DR];have:s.data.toList=l:=by simpa using h
  subst this;simp
theorem fW {G:Gh}{I:S8}{N:Nat->Prop}{w:World}:∀(vs:List Value) (l:List c7),consts vs l=W->K1 G I N w l vs
 |[],[],_=>by simp [K1]
 |v::vs,a::as,h=>by
  simp [consts,c9] at h;exact ⟨v,vs,rfl,ue v a h.1,fW vs as h.2⟩
 |[],_::_,h=>by simp [consts] at h
 |_::_,[],h=>by simp [consts] at h
def dH {G:Gh}{I:S8}{N:Nat->Prop}{w:World}(v:Value)(a:c7)(h:Ac v a=W):VR G I N w .none a v:=by
 unfold Ac at h
 grind [VR,fW,ue]
theorem U5 {w:World}{b:Nat}{c:Array Value}{e:TypeId}{f:Nat×Nat}(h:w.heap[b]? =J (.cells c e f))(o:Nat):w.cell? (ad b o)=c[o]? :=by
 simp [World.cell?,h]
theorem bp (b o n:Nat):(ad b o).add n=ad b (o+n):=by
 simp_all [Addr.add]
theorem gB.drop {G:Gh}{w:World}{b:Nat}:∀(n o:Nat) (l:List Data),gB G w b o l->gB G w b (o+n) (l.drop n)
 |0,_,_,h=>by simpa using h
 |n+1,o,[],_=>by simp [gB]
 |n+1,o,c::cs,h=>by
  have:=gB.drop n (o+1) cs h.2.2
  grind
theorem gB.take {G:Gh}{w:World}{b:Nat}:∀(n o:Nat) (l:List Data),gB G w b o l->gB G w b o (l.take n)
 |0,_,_,_=>by simp [gB]
 |n+1,o,[],_=>by simp [gB]
 |n+1,o,c::cs,h=>by
  simp_all [gB,List.take_succ_cons,gB.take]
theorem gB.vals {G:Gh}{I:S8}{N:Nat->Prop}{w:World}{b:Nat}:∀(o:Nat) (l:List Data),gB G w b o l ->
  ∃vs:List Value,O vs=O l/\(∀j v,vs[j]? =J v->w.cell? (ad b (o+j))=J v)/\K1 G I N w (l.map .d) vs
 |_,[],_=>⟨[],rfl,U,by simp [K1]⟩
 |o,c::cs,h=>by
  obtain ⟨h1,⟨x,h2,h3⟩,h4⟩:=h;obtain ⟨vs,g1,g2,g3⟩:=gB.vals (I:=I) (N:=N) (o+1) cs h4;simp_all [K1,VR]<;>grind
theorem K1.length {G:Gh}{I:S8}{N:Nat->Prop}{w:World}:∀(l:List c7) (vs:List Value),K1 G I N w l vs->O vs=O l
 |[],vs,h=>by simp_all [K1]
 |a::as,vs,h=>by
  obtain ⟨x,xs,h1,_,h3⟩:=h;subst h1;simp [K1.length as xs h3]
theorem HR.rd {G:Gh}{I:S8}{N:Nat->Prop}{w:World}{H:j9}(hH:HR G I N w H){id off n:Nat}{vs:List c7}(h:rd H id off n=J vs)(hn:0<n) :
  N id/\∃xs:List Value,O xs=n/\O vs=n/\(∀j v,xs[j]? =J v->w.cell? (ad (I id).1 ((I id).2+off+j))=J v) /\
   (∀j a v,vs[j]? =J a->xs[j]? =J v->VR G I N w (.cell id (off+j)) a v):=by
 unfold A5.rd at h;split at h
 next l hl=>
  split at h
  .cases h
   have ho:=hH id _ hl;obtain ⟨hid,c,e,f,h1,h2,h3,h4,h5⟩:=ho
   .refine ⟨hid,(List.range n).map (λj=>(c[(I id).2+off+j]?).getD default),U,D,λj v hj=>?_,λj a v ha hv=>?_⟩
    .rw [U5 h1]
     grind
    .have hjn:j<n:=by
      grind
     grind
  .cases h
 .cases h
section
variable {P:Program} {w:World}
theorem info_of_underlying {t:TypeId}{d:TypeDesc}(h:P.underlying t=J d):(P.info? t).isSome=W:=by
 grind [Program.underlying]
theorem run_sizeOf {t:TypeId}(h:(P.info? t).isSome=W):(sizeOf t).run P w= .ok (P.cellsOf t) w:=by
 cases hi:P.info? t with
 |none=>simp_all
 |some i=>simp [sizeOf,typeInfo,hi,Program.cellsOf]
def cq {t:TypeId}{b:Bool}(h:dB P t=J b):(isAgg t).run P w= .ok b w:=by
 unfold dB at h;cases hu:P.underlying t with
 |none=>simp_all
 |some d=>cases d<;>simp [hu] at h<;>subst h<;>simp [isAgg,run_underlying hu]
def fZ {t:TypeId}{sz:Nat}(h:mJ P t sz=W):∃e,P.underlying t=J (.slice e)/\P.cellsOf e=sz/\(P.info? e).isSome=W:=by
 grind [mJ]
theorem T7 {G:Gh}{I:S8}{N:Nat->Prop}:∀(l:List c7) (xs:List Value),O xs=O l ->
  (∀(j:Nat) a v,l[j]? =J a->xs[j]? =J v->VR G I N w .none a v)->K1 G I N w l xs
 |[],xs,h,_=>by simp_all [K1]
 |a::as,[],h,_=>by simp at h
 |a::as,x::xs,h,hp=>by
  exact ⟨x,xs,rfl,hp 0 a x rfl rfl,T7 as xs (by simpa using h) λj a' v ha hv=>hp (j+1) a' v M M⟩
theorem K1.get {G:Gh}{I:S8}{N:Nat->Prop}:∀(l:List c7) (xs:List Value),K1 G I N w l xs->∀(j:Nat) a,l[j]? =J a->∃v,xs[j]? =J v/\VR G I N w .none a v
 |[],_,_,_,_,h=>by simp at h
 |a::as,xs,h,j,b,hb=>by
  obtain ⟨x,xs',h1,h2,h3⟩:=h;subst h1;cases j with
  |zero=>simp at hb;subst hb;exact ⟨x,rfl,h2⟩
  |succ j=>simpa using K1.get as xs' h3 j b (by simpa using hb)
def VR.place {G:Gh}{I:S8}{N:Nat->Prop}{a:c7}{x:Value}{pl:Place}(h:VR G I N w .none a x):VR G I N w pl a x:=by
 cases a with
 |own sz len cells =>
  simp_all [VR,absurd]
 |_=>simp_all [VR]
variable {ck:Operand->y4->Bool} {η:Operand->Value} {ρ:y4->c7} {G:Gh} {I:S8} {N:Nat->Prop} {H:j9}
abbrev Good (P:Program)(G:Gh)(I:S8)(N:Nat->Prop)(w:World)(η:Operand->Value)(o:Oper)(v:c7):Prop :=
 ∃x,(execOp η o).run P w= .ok (.value x) w/\VR G I N w .none v x
abbrev cI (ck:Operand->y4->Bool)(G:Gh)(I:S8)(N:Nat->Prop)(w:World)(η:Operand->Value)(ρ:y4->c7):Prop :=
 ∀x y,ck x y=W->VR G I N w .none (ρ y) (η x)
def SO (hρ:cI ck G I N w η ρ){o:Oper}{c a b:y4}(hc:E8 P ck o (.pick c a b)=W){v:c7}{rs:List Nat}
  (h:k8 ρ H (.pick c a b)=J (v,rs)):Good P G I N w η o v:=by
 obtain ⟨dst,dP,ty,pos,after,guard⟩:=o;cases dP<;>simp [E8] at hc;rename_i c' a' b';have h1:=hρ _ _ hc.1.1;have h2:=hρ _ _ hc.1.2;have h3:=hρ _ _ hc.2;simp only [k8] at h;split at h
 next t ht=>
  simp at h;obtain ⟨rfl,rfl⟩:=h;rw [ht] at h1;simp only [VR,DR] at h1;refine ⟨if t then η a' else η b',by simp [execOp,h1,asBool],?_⟩;cases t<;>simpa
 .cases h
def SM (hρ:cI ck G I N w η ρ)(hH:HR G I N w H){o:Oper}{n:Option Nat}{y:y4}(hc:E8 P ck o (.load n y)=W){v:c7}{rs:List Nat}
  (h:k8 ρ H (.load n y)=J (v,rs)):Good P G I N w η o v:=by
 obtain ⟨dst,dP,ty,pos,after,guard⟩:=o;cases dP<;>simp [E8] at hc;rename_i t x;have h1:=hρ _ _ hc.1;cases n with
 |none =>
  have ha:dB P t=J F:=by simp_all [tv]
  simp [k8] at h;split at h
  next id off hp=>
   rw [hp] at h1;simp [VR] at h1;split at h
   next u hu=>
    obtain ⟨rfl,rfl⟩:=h;obtain ⟨_,xs,g1,_,g3,g4⟩:=hH.rd hu V;obtain ⟨z,rfl⟩:∃z,xs=[z]:=by
     match xs,g1 with
     |[z],_=>simp_all
    have hz:=g3 0 z rfl;have hv:=g4 0 u z rfl rfl;refine ⟨z,?_,hv.K9⟩;simp_all [execOp,Instr.loadAt,Instr.sureAddr,loadVar,cq]
   .cases h
  next c cs hp=>
   obtain ⟨rfl,rfl⟩:=h;rw [hp] at h1;obtain ⟨b,off,g1,_,⟨z,g2,g3⟩,_⟩:=h1;refine ⟨z,?_,by simp_all [VR]⟩;simp_all [execOp,Instr.loadAt,Instr.sureAddr,loadVar,cq]
  .cases h
 |some n =>
  have ha:dB P t=J W/\P.cellsOf t=n/\0<n:=by simp_all [tv,and_assoc]
  have hs:(sizeOf t).run P w= .ok n w:=by
   grind [run_sizeOf,dB,info_of_underlying]
  simp [k8] at h;split at h
  next id off hp=>
   rw [hp] at h1;simp [VR] at h1;split at h
   next us hu=>
    obtain ⟨rfl,rfl⟩:=h;obtain ⟨_,xs,g1,g2,g3,g4⟩:=hH.rd hu V;have hl:=run_loadCells_list (P:=P) w (ad (I id).1 ((I id).2+off)) xs (λj v hj=>by simp_all [bp]);refine ⟨.agg xs.toArray,?_,?_⟩
    .simp_all [execOp,Instr.loadAt,Instr.sureAddr,loadVar,cq]
    .refine ⟨_,rfl,T7 _ _ (by simp [g1,g2]) λj a v hj hv=>?_⟩
     simp at hj hv;obtain ⟨a',ha',rfl⟩:=hj;exact (g4 j a' v ha' hv).K9
   .cases h
  next cells hp=>
   split at h
   .obtain ⟨rfl,rfl⟩:=h
    rw [hp] at h1;obtain ⟨b,off,g1,g2⟩:=h1;obtain ⟨xs,e1,e2,e3⟩:=gB.vals (I:=I) (N:=N) off _ (gB.take n off cells g2);have e1' :O xs=n:=M
    have hl:=run_loadCells_list (P:=P) w (ad b off) xs (λj v hj=>by simp_all [bp]);refine ⟨.agg xs.toArray,?_,?_⟩
    all_goals simp_all [execOp,Instr.loadAt,Instr.sureAddr,loadVar,cq,VR]
   .cases h
  .cases h
def Nz (hρ:cI ck G I N w η ρ){o:Oper}{y:y4}(hc:E8 P ck o (.dh y)=W){v:c7}{rs:List Nat}
  (h:k8 ρ H (.dh y)=J (v,rs)):Good P G I N w η o v:=by
 obtain ⟨dst,dP,ty,pos,after,guard⟩:=o;cases dP<;>simp [E8] at hc;rename_i x;have h1:=hρ _ _ hc;simp [k8] at h;split at h
 next id off hp=>
  obtain ⟨rfl,rfl⟩:=h;rw [hp] at h1;have h2:=h1;exact ⟨η x,by simp [execOp,h1.2],h2⟩
 next cells hp=>
  obtain ⟨rfl,rfl⟩:=h;rw [hp] at h1;have h2:=h1;obtain ⟨b,off,g1,g2⟩:=h1;exact ⟨η x,by simp [execOp,g1],h2⟩
 next f a b hp=>
  obtain ⟨rfl,rfl⟩:=h;rw [hp] at h1;have h2:=h1;obtain ⟨x',y',g1,g2,g3⟩:=h1;exact ⟨η x,by simp [execOp,g1],h2⟩
 .cases h
def Data.val:Data->Value
 | .bool b=> .bool b
 | .int k n=> .int k n
 | .str s=> .string ⟨s.toArray⟩
 | .iT=> .pointer Option.none
 | .T0=> .nilFunc
 | .jV=> .map Option.none
 | .nilIface=> .nilIface
 | .slice _ _=> .slice Option.none 0 0
def Dq {b:BinOp}{x y r:Data}(h:M1 b x y=J r){u v:Value}(hu:DR G w x u)(hv:DR G w y v)(t:TypeId)(p q:Operand) :
  ∃z,(do eqGuard b t p q u v;binOp b t u v).run P w= .ok z w/\DR G w r z:=by
 refine ⟨Data.val r,?_⟩;unfold M1 at h;split at h
 next k a k' c=>
  subst hu hv;have hg:(eqGuard b t p q (.int k a) (.int k' c)).run P w= .ok () w:=by simp_all [eqGuard]
  split at h
  next hsh=>
   unfold Av at h;split at h
   .cases h
   next hneg=>
    cases b<;>simp [Z5] at hsh<;>simp at h<;>subst h <;>
     exact ⟨by simp [hg,binOp,Op.shift,hneg,Data.val],by rfl⟩
  next hsh=>
   split at h
   next hk=>
    unfold cw at h;cases b<;>simp  at hsh<;>simp at h
    all_goals first
     |(subst h;simp_all [binOp,Op.intArith,Op.intCmp,Op.intBits,Data.val,DR])
     |(obtain ⟨h0,rfl⟩:=h;simp_all [binOp,Op.intDiv,Data.val,DR])
   .cases h
 next a c=>
  subst hu hv;have hg:(eqGuard b t p q (.string ⟨a.toArray⟩) (.string ⟨c.toArray⟩)).run P w= .ok () w:=by simp_all [eqGuard]
  unfold vZ at h;cases b<;>simp at h
  all_goals first
   |(subst h;simp_all [binOp,Op.stringOp,Data.val,DR])
   |skip
  obtain ⟨h0,rfl⟩:=h;have bQ5:(⟨a.toArray⟩++⟨c.toArray⟩:ByteArray)=⟨(a++c).toArray⟩:=by
   rfl
  refine ⟨?_,by rfl⟩
  .have hs:¬ (((⟨a.toArray⟩:ByteArray).size+(⟨c.toArray⟩:ByteArray).size:Nat):Int)>IntKind.i64.max:=by
    simp_all [ByteArray.size]<;>omega
   simp_all [Sem.run_bind,Result.andThen_ok,binOp,Op.stringOp,if_neg,Sem.run_pure,Data.val]
 .cases h
def VH (hρ:cI ck G I N w η ρ){o:Oper}{b:BinOp}{x y:y4}(hc:E8 P ck o (.bin b x y)=W){v:c7}{rs:List Nat}
  (h:k8 ρ H (.bin b x y)=J (v,rs)):Good P G I N w η o v:=by
 obtain ⟨dst,dP,ty,pos,after,guard⟩:=o;cases dP<;>simp [E8] at hc;rename_i b' t x' y' ty';obtain ⟨⟨rfl,hx⟩,hy⟩:=hc;have h1:=hρ _ _ hx;have h2:=hρ _ _ hy;simp [k8] at h;split at h
 next a c ha tN=>
  rw [ha] at h1;rw [tN] at h2;split at h
  next r hr=>
   obtain ⟨rfl,rfl⟩:=h;obtain ⟨z,g1,g2⟩:=Dq (P:=P) hr h1 h2 t x' y';exact ⟨z,by simp only [execOp];rw [Sem.run_bind,g1];rfl,by simp_all [VR]⟩
  .cases h
 .cases h
def uk (d:Nat){t e:TypeId}(he:P.underlying t=J (.slice e))(a:Addr)(l c:Nat):(Op.equalIn (d+1) t (.slice (J a) l c) (.slice Option.none 0 0)).run P w= .ok F w:=by
 simp [Op.equalIn,run_underlying he]
def zG {t e:TypeId}(he:P.underlying t=J (.slice e))(a:Addr)(l c:Nat):(Op.equal t (.slice (J a) l c) (.slice Option.none 0 0)).run P w= .ok F w:=uk 9999 he a l c
def zD (d:Nat){t:TypeId}{ms:Array (String×TypeId)}(he:P.underlying t=J (.interface ms)):(Op.equalIn (d+1) t .nilIface .nilIface).run P w= .ok W w:=by
 simp [Op.equalIn,run_underlying he]
def Dy {t:TypeId}{ms:Array (String×TypeId)}(he:P.underlying t=J (.interface ms)):(Op.equal t .nilIface .nilIface).run P w= .ok W w:=zD 9999 he
def Hf (d:Nat){t:TypeId}(he:P.underlying t=J .bool)(a b:Bool):(Op.equalIn (d+1) t (.bool a) (.bool b)).run P w= .ok (a==b) w:=by
 simp [Op.equalIn,run_underlying he]
def MU {t:TypeId}(he:P.underlying t=J .bool)(a b:Bool):(Op.equal t (.bool a) (.bool b)).run P w= .ok (a==b) w:=Hf 9999 he a b
def SN (hη:∀v,η (.const v)=v)(hρ:cI ck G I N w η ρ){o:Oper}{neg:Bool}{x:y4}(hc:E8 P ck o (.BH neg x)=W){v:c7}{rs:List Nat}
  (h:k8 ρ H (.BH neg x)=J (v,rs)):Good P G I N w η o v:=by
 obtain ⟨dst,dP,ty,pos,after,guard⟩:=o;unfold E8 at hc;split at hc<;>try (cases hc)
 all_goals rename_i pQ kB
 all_goals cases kB
 all_goals subst pQ
 rename_i b t x' ty';simp [c9] at hc;obtain ⟨⟨hx,ht⟩,hb⟩:=hc;obtain ⟨e,he⟩:∃e,P.underlying t=J (.slice e):=by
  grind
 have key:∃a l c,η x' = .slice (J a) l c/\v= .d (.bool neg):=by
  simp [k8] at h
  .grind [VR,DR]
  all_goals grind [VR]
 obtain ⟨a,l,c,hx',rfl⟩:=key;refine ⟨.bool neg,?_,by simp [VR,DR]⟩;simp [execOp,hx',hη];cases neg<;>simp at hb<;>subst hb<;>simp [eqGuard,binOp]<;>simp [zG he]
def VI (hρ:cI ck G I N w η ρ){o:Oper}{neg:Bool}{x y:y4}(hc:E8 P ck o (.x5 neg x y)=W){v:c7}{rs:List Nat}
  (h:k8 ρ H (.x5 neg x y)=J (v,rs)):Good P G I N w η o v:=by
 obtain ⟨dst,dP,ty,pos,after,guard⟩:=o;cases dP<;>simp [E8] at hc<;>try simp_all
 rename_i b t x' y' ty';obtain ⟨⟨⟨hx,hy⟩,ht⟩,hb⟩:=hc;have h1:=hρ _ _ hx;have h2:=hρ _ _ hy;have he:P.underlying t=J .bool:=by
  grind
 simp [k8] at h;split at h
 next a c ha tN=>
  obtain ⟨rfl,rfl⟩:=h;rw [ha] at h1;rw [tN] at h2;simp [VR,DR] at h1 h2;refine ⟨.bool (neg != (a==c)),?_,by simp [VR,DR]⟩;simp [execOp,h1,h2];cases neg<;>simp at hb<;>subst hb<;>simp [eqGuard,binOp]<;>simp [MU he]
 .cases h
def Sq {t:TypeId}{k:CK}(h:gb P t k=W):dB P t=J F:=by
 simp_all [dB,gb]<;>grind
def run_part_plain {t:TypeId}{k:CK}(h:gb P t k=W)(cs:Array Value)(off:Nat)(v:Value)(hv:cs[off]? =J v):(part t cs off).run P w= .ok v w:=by
 simp [part,cq (Sq h),hv]
def tZ {k:CK}{a b:Data}{r:Bool}(h:Data.GP k a b=J r){u v:Value}(hu:DR G w a u)(hv:DR G w b v){t:TypeId}(ht:gb P t k=W)(d:Nat) :
  (Op.equalIn (d+1) t u v).run P w= .ok r w:=by
 unfold Data.GP at h;split at h
 .subst hu hv
  split at h
  next hkk=>
   subst hkk;simp at h;subst h;simp [gb] at ht;split at ht
   .rename_i k2 hk2;simp [Op.equalIn,run_underlying hk2]
   .cases ht
  .cases h
 .subst hu hv
  simp at h;subst h;simp [gb] at ht;split at ht
  .rename_i h2;simp [Op.equalIn,run_underlying h2,beq_toListBytes]
  .cases ht
 .subst hu hv
  simp at h;subst h;simp [gb] at ht;split at ht
  .rename_i h2;simp [Op.equalIn,run_underlying h2]
  .cases ht
 .cases h
theorem lH (d:Nat)(xs ys:Array Value):∀(fs:List Field) (n:Nat) (ks:List CK) (a b:List c7) (r:Bool),U6 P fs n ks=W->Q9 ks a b=J r ->
  (∀(j:Nat) c,a[j]? =J c->∃v,xs[n+j]? =J v/\VR G I N w .none c v)->(∀(j:Nat) c,b[j]? =J c->∃v,ys[n+j]? =J v/\VR G I N w .none c v) ->
  (Op.eqFields (d+1) xs ys fs).run P w= .ok r w
 |[],n,ks,a,b,r,hf,hc,_,_=>by
  cases ks with
  |nil =>
   unfold Q9 at hc;simp_all [Op.eqFields]<;>grind
  |cons=>simp [U6] at hf
 |f::fs,n,[],a,b,r,hf,hc,_,_=>by simp [U6] at hf
 |f::fs,n,k::ks,a,b,r,hf,hc,ha,hb=>by
  simp [U6,c9,beq_iff_eq] at hf;obtain ⟨⟨⟨h1,h2⟩,h3⟩,h4⟩:=hf;unfold Q9 at hc;split at hc
  .simp_all
  next k0 ks0 x a' y b' e1=>
   cases e1;split at hc
   next t ht=>
    split at hc
    next u hu=>
     obtain ⟨v1,g1,g2⟩:=ha 0 _ rfl;obtain ⟨v2,g3,g4⟩:=hb 0 _ rfl;have e1:=run_part_plain (w:=w) h2 xs n v1 g1;have e2:=run_part_plain (w:=w) h2 ys n v2 g3;have e3:=tZ (P:=P) ht g2 g4 h2 d;have ih:=lH d xs ys fs (n+1) ks a' b' u h4 hu (λj c hj=>by rw [show n+1+j=n+(j+1) from by omega];simp_all)
      (λj c hj=>by rw [show n+1+j=n+(j+1) from by omega];simp_all)
     simp_all [Op.eqFields]<;>grind
    .cases hc
   .cases hc
  .cases hc
def uR {t:TypeId}{gs:Array Field}{m:Nat}(h:P.underlying t=J (.struct gs))(hi:(P.info? t).isSome=W)(hm:P.cellsOf t=m)(cs:Array Value)(off:Nat):(part t cs off).run P w= .ok (.agg (cs.extract off (off+m))) w:=by
 have h1:dB P t=J W:=by simp [dB,h]
 have h2:=run_sizeOf (w:=w) hi;rw [hm] at h2;simp [part,cq h1,h2]
theorem xF:∀(m:Nat) (ks:List CK) (a b:List c7) (r:Bool),Q9 ks a b=J r->m<=O ks->∃r1 r2,Q9 (ks.take m) (a.take m) (b.take m)=J r1/\Q9 (ks.drop m) (a.drop m) (b.drop m)=J r2/\r=(r1&&r2)
 |0,ks,a,b,r,h,_=>⟨W,r,by simp [Q9],by simpa using h,U⟩
 |m+1,[],a,b,r,h,hm=>by simp at hm
 |m+1,k::ks,a,b,r,h,hm=>by
  unfold Q9 at h;split at h
  .simp_all
  next k0 ks0 x a' y b' e1=>
   cases e1;split at h
   next t ht=>
    split at h
    next u hu=>
     simp at h;subst h;obtain ⟨r1,r2,e1,e2,e3⟩:=xF m ks a' b' u hu (by simpa using hm);exact ⟨t&&r1,r2,by simp [Q9,ht,e1],by simpa using e2,by rw [e3,Bool.and_assoc]⟩
    .cases h
   .cases h
  .cases h
theorem pJ {P:Program}:∀(fs:List Field) (n:Nat) (ks:List CK),U6 P fs n ks=W->O ks=O fs
 |[],_,[],_=>rfl
 |[],_,_::_,h=>by simp [U6] at h
 |_::_,_,[],h=>by simp [U6] at h
 |f::fs,n,k::ks,h=>by
  simp only [U6,c9] at h;simp [pJ fs _ ks h.2]
theorem jO (d:Nat)(xs ys:Array Value):∀(fs:List Field) (n:Nat) (ks:List CK) (a b:List c7) (r:Bool),eY P fs n ks=W->Q9 ks a b=J r ->
  (∀(j:Nat) c,a[j]? =J c->∃v,xs[n+j]? =J v/\VR G I N w .none c v)->(∀(j:Nat) c,b[j]? =J c->∃v,ys[n+j]? =J v/\VR G I N w .none c v) ->
  (Op.eqFields (d+2) xs ys fs).run P w= .ok r w
 |[],n,ks,a,b,r,hf,hc,_,_=>by
  cases ks with
  |nil =>
   unfold Q9 at hc;split at hc<;>simp_all [Op.eqFields]
  |cons=>simp [eY] at hf
 |f::fs,n,ks,a,b,r,hf,hc,ha,hb=>by
  simp only [eY,c9,bne_iff_ne,beq_iff_eq] at hf;obtain ⟨⟨h1,h3⟩,hf⟩:=hf;split at hf
  next gs hgs=>
   simp only [c9,beq_iff_eq,o5] at hf;obtain ⟨⟨⟨⟨q1,q2⟩,q3⟩,q4⟩,q5⟩:=hf;have hl:=pJ _ _ _ q3;have hm:gs.size<=O ks:=by
    rw [P3] at hl;simp at hl;omega
   obtain ⟨r1,r2,e1,e2,e3⟩:=xF gs.size ks a b r hc hm;have p1:=uR (w:=w) hgs q1 q2 xs n;have p2:=uR (w:=w) hgs q1 q2 ys n;have hff:P.fieldsOf f.type=gs:=by simp [Program.fieldsOf,hgs]
   have UA:∀(l:List c7) (zs:Array Value),(∀(j:Nat) c,l[j]? =J c->∃v,zs[n+j]? =J v/\VR G I N w .none c v)->∀(j:Nat) c,(l.take gs.size)[j]? =J c->∃v,(zs.extract n (n+gs.size))[0+j]? =J v/\VR G I N w .none c v:=by
    intro l zs hz j c hj;rw [List.getElem?_take] at hj;split at hj
    next hlt=>
     obtain ⟨v,g1,g2⟩:=hz j c hj;refine ⟨v,?_,g2⟩;have hsz:=(Array.getElem?_eq_some_iff.1 g1).1;rw [Array.getElem?_extract,if_pos V,Nat.zero_add,g1]
    .cases hj
   have p3:=run_equalIn_struct (P:=P) w (d+1) f.type (xs.extract n (n+gs.size)) (ys.extract n (n+gs.size)) (by rw [hff];exact hgs) q4;rw [hff,lH (P:=P) (G:=G) (I:=I) (N:=N) d _ _ gs.toList 0 (ks.take gs.size) _ _ r1 q3 e1 (UA a xs ha) (UA b ys hb)] at p3;have ih:=jO d xs ys fs (n+gs.size) (ks.drop gs.size) (a.drop gs.size) (b.drop gs.size) r2 q5 e2 (λj c hj=>by rw [List.getElem?_drop] at hj;rw [Nat.add_assoc];exact ha _ c hj) (λj c hj=>by rw [List.getElem?_drop] at hj;rw [Nat.add_assoc];exact hb _ c hj);simp only [Op.eqFields,if_pos h1,Sem.run_bind,h3,p1,p2,p3,Result.andThen_ok];rw [e3];cases r1<;>simp [ih]
  .split at hf
   next k ks=>
    simp only [c9] at hf;obtain ⟨h2,h4⟩:=hf;unfold Q9 at hc;split at hc
    .simp_all
    next k0 ks0 x a' y b' e1=>
     cases e1;split at hc
     next t ht=>
      split at hc
      next u hu=>
       simp at hc;subst hc;obtain ⟨v1,g1,g2⟩:=ha 0 _ rfl;obtain ⟨v2,g3,g4⟩:=hb 0 _ rfl;simp only [VR] at g2 g4;rw [Nat.add_zero] at g1 g3;have e1:=run_part_plain (w:=w) h2 xs n v1 g1;have e2:=run_part_plain (w:=w) h2 ys n v2 g3;have e3:=tZ (P:=P) ht g2 g4 h2 (d+1);have ih:=jO d xs ys fs (n+1) ks a' b' u h4 hu (λj c hj=>by rw [show n+1+j=n+(j+1) from by omega];exact ha (j+1) c (by simpa using hj))
        (λj c hj=>by rw [show n+1+j=n+(j+1) from by omega];exact hb (j+1) c (by simpa using hj))
       simp only [Op.eqFields,if_pos h1,Sem.run_bind,h3,e1,e2,e3,Result.andThen_ok];cases t<;>simp [ih]
      .cases hc
     .cases hc
    .cases hc
   .cases hf
def VJ (hρ:cI ck G I N w η ρ){o:Oper}{neg:Bool}{ks:List CK}{x y:y4}(hc:E8 P ck o (.Dx neg ks x y)=W){v:c7}{rs:List Nat}
  (h:k8 ρ H (.Dx neg ks x y)=J (v,rs)):Good P G I N w η o v:=by
 obtain ⟨dst,dP,ty,pos,after,guard⟩:=o;cases dP<;>simp only [E8,c9] at hc<;>try (cases hc;done)
 rename_i b t x' y' ty';obtain ⟨⟨⟨hx,hy⟩,ht⟩,hb⟩:=hc;have h1:=hρ _ _ hx;have h2:=hρ _ _ hy;unfold xM at ht;split at ht
 next fs Ig=>
  simp only [c9,o5] at ht;simp only [k8] at h;split at h
  next a c ha tN=>
   split at h
   next r hr=>
    simp at h;obtain ⟨rfl,rfl⟩:=h;rw [ha] at h1;rw [tN] at h2;simp only [VR] at h1 h2;obtain ⟨xs,e1,e2⟩:=h1;obtain ⟨ys,e3,e4⟩:=h2;have hff:P.fieldsOf t=fs:=by simp [Program.fieldsOf,Ig]
    have heq:=run_equalIn_struct (P:=P) w 9999 t xs ys (by rw [hff];exact Ig) ht.1.2;rw [hff,jO (P:=P) (G:=G) (I:=I) (N:=N) 9997 xs ys fs.toList 0 ks a c r ht.1.1 hr
     (λj u hu=>by obtain ⟨v,g1,g2⟩:=K1.get a _ e2 j u hu;exact ⟨v,by simpa using g1,g2⟩)
     (λj u hu=>by obtain ⟨v,g1,g2⟩:=K1.get c _ e4 j u hu;exact ⟨v,by simpa using g1,g2⟩)] at heq
    refine ⟨.bool (neg != r),?_,by simp [VR,DR]⟩;simp only [execOp,e1,e3,Sem.run_bind,run_eqGuard_agg w b t x' y' xs ys ht.2,Result.andThen_ok];cases neg<;>simp at hb<;>subst hb
    .rw [run_eql_struct,heq];simp
    .rw [run_neq_struct,heq];simp
   .cases h
  .cases h
 .cases ht
end
section
variable {P:Program} {w:World} {ck:Operand->y4->Bool} {η:Operand->Value} {ρ:y4->c7} {G:Gh} {I:S8} {N:Nat->Prop} {H:j9}
def ZE (hρ:cI ck G I N w η ρ){o:Oper}{b:UnOp}{x:y4}(hc:E8 P ck o (.un b x)=W){v:c7}{rs:List Nat}
  (h:k8 ρ H (.un b x)=J (v,rs)):Good P G I N w η o v:=by
 obtain ⟨dst,dP,ty,pos,after,guard⟩:=o;cases dP<;>simp [E8] at hc;rename_i b' t x';obtain ⟨rfl,hx⟩:=hc;have h1:=hρ _ _ hx;simp [k8] at h;split at h
 next a ha=>
  rw [ha] at h1;simp [VR] at h1;split at h
  next r hr=>
   obtain ⟨rfl,rfl⟩:=h;refine ⟨Data.val r,?_⟩;unfold NR at hr;split at hr
   .simp [DR] at h1
    cases b' <;>simp at hr;subst hr;simp [execOp,h1,Op.unary,Op.intArith,Data.val,VR,DR]
   .simp [DR] at h1
    cases b' <;>simp at hr;subst hr;simp [execOp,h1,Op.unary,Data.val,VR,DR]
   .cases hr
  .cases h
 .cases h
def Ny (hρ:cI ck G I N w η ρ){o:Oper}{k:IntKind}{x:y4}(hc:E8 P ck o (.rM k x)=W){v:c7}{rs:List Nat}
  (h:k8 ρ H (.rM k x)=J (v,rs)):Good P G I N w η o v:=by
 obtain ⟨dst,dP,ty,pos,after,guard⟩:=o;cases dP<;>simp [E8] at hc<;>try simp_all
 obtain ⟨⟨hx,hs⟩,hd⟩:=hc;have h1:=hρ _ _ hx;obtain ⟨ds,hds⟩:=Option.isSome_iff_exists.1 hs;split at hd
 .simp [k8] at h
  split at h
  next k2 n ha=>
   obtain ⟨rfl,rfl⟩:=h;rw [ha] at h1;simp [VR,DR] at h1;refine ⟨.int k (k.wrap n),?_,by simp [VR,DR]⟩;simp_all [execOp,convert,run_underlying,Conv.intToInt]
  .cases h
 .cases hd
theorem AB:∀(vs:List Value) (l:List Data) (bs:List UInt8),mq l=J bs->K1 G I N w (l.map .d) vs ->
  ∃ns:List Int,vs=ns.map (Value.int .u8)/\bs=ns.map λn=>UInt8.ofNat n.toNat
 |vs,[],bs,hb,hv=>by
  simp_all [mq,K1]
 |vs,a::as,bs,hb,hv=>by
  obtain ⟨x,xs,rfl,e2,e3⟩:=hv;unfold mq at hb;split at hb
  .simp_all
  next n r heq=>
   cases heq;split at hb
   next bs' hbs=>
    simp at hb;subst hb;subst e2;obtain ⟨ns,rfl,rfl⟩:=AB xs as bs' hbs e3;exact ⟨n::ns,rfl,rfl⟩
   .cases hb
  .cases hb
theorem foldl_push:∀(ns:List Int) (s:ByteArray),(ns.foldl (λr n=>r.push (UInt8.ofNat n.toNat)) s)=⟨(s.data.toList++ns.map λn=>UInt8.ofNat n.toNat).toArray⟩
 |[],s=>U
 |n::ns,s=>by
  rw [List.foldl_cons,foldl_push ns];simp
def Ke (hρ:cI ck G I N w η ρ){o:Oper}{x:y4}(hc:E8 P ck o (.pG x)=W){v:c7}{rs:List Nat}
  (h:k8 ρ H (.pG x)=J (v,rs)):Good P G I N w η o v:=by
 obtain ⟨dst,dP,ty,pos,after,guard⟩:=o;cases dP<;>simp [E8] at hc<;>try simp_all
 rename_i s d x';obtain ⟨⟨hx,hs⟩,hd⟩:=hc;have h1:=hρ _ _ hx;split at hs
 next e he=>
  split at hs
  next hu8=>
   split at hd
   next UJ=>
    simp [k8] at h;split at h
    next len cells ha=>
     split at h
     next hlen=>
      split at h
      next bs hbs=>
       obtain ⟨rfl,rfl⟩:=h;rw [ha] at h1;refine ⟨.string ⟨bs.toArray⟩,?_,by simp [VR,DR]⟩
       rcases h1 with ⟨h1,h2,h3⟩|⟨b,off,cap,h1,h2,h3⟩
       .subst h3
        simp [mq] at hbs;subst hbs
        rcases h1 with h1|⟨a0,h1⟩
        .simp [execOp,h1,convert,run_underlying he,run_underlying UJ,run_underlying hu8]
         rfl
        .have hl:(loadCells a0 0).run P w= .ok (([]:List Int).map (Value.int .u8)).toArray w:=by rfl
         simp [execOp,h1,Sem.run_bind,run_convert_bytes_string w s d e _ _ _ he hu8 UJ];rfl
       .obtain ⟨vs,g1,g2,g3⟩:=gB.vals (I:=I) (N:=N) off cells h3
        have hl:=run_loadCells_list (P:=P) w (ad b off) vs (λj v hj=>by simp_all [bp]);rw [g1,hlen] at hl;obtain ⟨ns,rfl,rfl⟩:=AB (G:=G) (I:=I) (N:=N) vs cells bs hbs g3;simp only [execOp,h1,Sem.run_bind,run_convert_bytes_string w s d e _ _ _ he hu8 UJ,run_bytesToString w (ad b off) len cap ns hl,foldl_push];simp
      .cases h
     .cases h
    .cases h
   .cases hd
  .cases hs
 .cases hs
def xC (hρ:cI ck G I N w η ρ){x:Option Operand}{y:Option y4}(hc:ckO ck x y=W){d:Nat}{n:Int}(h:Y5 ρ d y=J n) :
  (x=K/\n=d)\/∃x' k,x=J x' /\η x' = .int k n:=by
 cases y with
 |none =>
  grind [Y5,ckO]
 |some y =>
  cases x with
  |none=>simp [ckO] at hc
  |some x =>
   grind [ckO,Y5,VR,DR]
def wQ (hρ:cI ck G I N w η ρ){lo hi:Option Operand}{lo' hi' :Option y4}(hl:ckO ck lo lo' =W)(hh:ckO ck hi hi' =W){len cap:Nat}{l h:Int}
  (bl:Y5 ρ 0 lo' =J l) (bh:Y5 ρ len hi' =J h) (h0:0<=l) (h1:l<=h) (h2:h<=len) (hcap:len<=cap) (b:Bool) :
  (Instr.sliceBounds b len cap (lo.map η) (hi.map η) K).run P w= .ok (l.toNat,h.toNat,cap) w:=by
 rcases xC hρ hl bl with ⟨rfl,rfl⟩|⟨x1,k1,rfl,e1⟩<;>rcases xC hρ hh bh with ⟨rfl,rfl⟩|⟨x2,k2,rfl,e2⟩
 .rfl
 .simp_all [Instr.sliceBounds,Instr.sliceBound,asIntOf]<;>omega
 all_goals (simp_all [Instr.sliceBounds,Instr.sliceBound,asIntOf]<;>grind)
def Ki (hρ:cI ck G I N w η ρ){o:Oper}{sz:Nat}{x:y4}{lo hi:Option y4}(hc:E8 P ck o (.ay sz x lo hi)=W){v:c7}{rs:List Nat}
  (h:k8 ρ H (.ay sz x lo hi)=J (v,rs)):Good P G I N w η o v:=by
 obtain ⟨dst,dP,ty,pos,after,guard⟩:=o;unfold E8 at hc;split at hc<;>try (cases hc)
 all_goals rename_i pQ kB
 all_goals cases kB
 all_goals subst pQ
 rename_i t x' lo' hi';simp only [c9] at hc;obtain ⟨⟨⟨⟨hx,hl⟩,hh⟩,ht⟩,hsz⟩:=hc;have h1:=hρ _ _ hx;obtain ⟨e,hu,YO,hie⟩:=fZ ht;have hsize:(sizeOf e).run P w= .ok sz w:=by simp_all [run_sizeOf]
 simp [k8] at h;split at h
 next len cells hs=>
  split at h
  next l hi2 bl bh=>
   split at h
   next hb=>
    obtain ⟨rfl,rfl⟩:=h;rw [hs] at h1
    rcases h1 with ⟨h1,h2,h3⟩|⟨b,off,cap,h1,h2,h3⟩
    .subst h2 h3
     have hrb:=wQ (P:=P) hρ hl hh bl bh hb.1 hb.2.1 hb.2.2.1 (k9 0) W;have hl0:l=0:=V
     have hh0:hi2=0:=V
     subst hl0 hh0
     rcases h1 with h1|⟨a0,h1⟩
     .refine ⟨.slice K 0 0,?_,by simp [VR,DR]⟩
      simp only [execOp,h1,Instr.sliceAt,Sem.run_bind,run_underlying hu,Result.andThen_ok,Instr.slice];simp_all
     .refine ⟨.slice (J a0) 0 0,?_,by simp [VR,DR]⟩
      simp only [execOp,h1,Instr.sliceAt,Sem.run_bind,run_underlying hu,Result.andThen_ok,Instr.slice];simp_all
    .have hrb:=wQ (P:=P) hρ hl hh bl bh hb.1 hb.2.1 hb.2.2.1 h2 W
     refine ⟨.slice (if cap=l.toNat then J (ad b off) else (J (ad b off)).map (·.add (l.toNat * sz))) (hi2.toNat - l.toNat) (cap - l.toNat),?_,?_⟩
     .simp only [execOp,h1,Instr.sliceAt,Sem.run_bind,run_underlying hu,Result.andThen_ok,Instr.slice]
      simp_all
     .simp only [VR,DR]
      have e1:(hi2 - l).toNat=hi2.toNat - l.toNat:=V
      by_cases hcl:cap=l.toNat
      .grind
      .refine Or.inr ⟨b,off+l.toNat * sz,cap - l.toNat,?_,V,gB.drop _ _ _ (gB.take _ _ _ h3)⟩
       simp_all [if_neg,bp]
   .cases h
  .cases h
 next id z a len hs=>
  split at h
  next l hi2 bl bh=>
   split at h
   next hb=>
    rw [hs] at h1;obtain ⟨g1,cap,g2,g3,c,e',f,g4,g5⟩:=h1;have hrb:=wQ (P:=P) hρ hl hh bl bh hb.1 hb.2.1 hb.2.2.1 g3 W;have e1:(hi2 - l).toNat=hi2.toNat - l.toNat:=V
    have hrun:(execOp η ⟨dst,.slice t x' lo' hi' K,ty,pos,after,guard⟩).run P w =
      .ok (.value (.slice (if cap=l.toNat then J (ad (I id).1 ((I id).2+a)) else (J (ad (I id).1 ((I id).2+a))).map (·.add (l.toNat * sz))) (hi2.toNat - l.toNat) (cap - l.toNat))) w:=by
     simp only [execOp,g2,Instr.sliceAt,Sem.run_bind,run_underlying hu,Result.andThen_ok,Instr.slice];simp_all
    refine ⟨_,hrun,?_⟩;split at h
    next hlh=>
     obtain ⟨rfl,rfl⟩:=h;simp [VR,DR]
     by_cases hcl:cap=l.toNat
     all_goals simp_all [if_pos,Nat.sub_self,gB,if_neg,bp]
    .obtain ⟨rfl,rfl⟩:=h
     have hcl:¬ cap=l.toNat:=V
     refine ⟨g1,cap - l.toNat,?_,V,c,e',f,g4,?_⟩
     .simp_all [if_neg,bp,Nat.add_assoc]
     .have hz:z=sz:=hb.2.2.2
      subst hz;have:cap * z=(cap - l.toNat) * z+l.toNat * z:=by rw [<- Nat.add_mul];grind
      omega
   .cases h
  .cases h
 .cases h
end
section
variable {P:Program} {w:World} {ck:Operand->y4->Bool} {η:Operand->Value} {ρ:y4->c7} {G:Gh} {I:S8} {N:Nat->Prop} {H:j9}
def VM (hρ:cI ck G I N w η ρ){o:Oper}{k:Nat}{x:y4}(hc:E8 P ck o (.off k x)=W){v:c7}{rs:List Nat}
  (h:k8 ρ H (.off k x)=J (v,rs)):Good P G I N w η o v:=by
 obtain ⟨dst,dP,ty,pos,after,guard⟩:=o;cases dP<;>simp [E8] at hc<;>try simp_all
 rename_i s x' f;obtain ⟨hx,hs⟩:=hc;split at hs
 .split at hs
  next fd hfd=>
   simp [c9,decide_eq_true_eq] at hs;have aD7:(P.info? fd.type).isSome=W:=by
    cases hi:P.info? fd.type with
    |none=>simp_all [Program.cellsOf]
    |some i=>rfl
   have hsz:(sizeOf fd.type).run P w= .ok (P.cellsOf fd.type) w:=run_sizeOf aD7;have hne:¬ P.cellsOf fd.type=0:=V
   have hrun:∀b off,η x' = .pointer (J (ad b off))->(execOp η ⟨dst,.fieldAddr s x' f,ty,pos,after,guard⟩).run P w= .ok (.value (.pointer (J (ad b (off+k))))) w:=by
    simp_all [execOp,Instr.fieldAt,Sem.run_bind,run_underlying,Result.andThen_ok,Instr.sureAddr,Sem.run_pure,fieldPlace,if_neg,bp]
   simp [k8] at h;split at h
   .grind [VR,Nat.add_assoc]
   all_goals grind [VR,gB.drop]
  .cases hs
 .cases hs
def SI (hρ:cI ck G I N w η ρ){o:Oper}{sz:Nat}{x i:y4}(hc:E8 P ck o (.L2 sz x i)=W){v:c7}{rs:List Nat}
  (h:k8 ρ H (.L2 sz x i)=J (v,rs)):Good P G I N w η o v:=by
 obtain ⟨dst,dP,ty,pos,after,guard⟩:=o;cases dP<;>simp [E8] at hc<;>try simp_all
 rename_i t x' i';obtain ⟨⟨hx,hi⟩,ht⟩:=hc;have h1:=hρ _ _ hx;have h2:=hρ _ _ hi;obtain ⟨e,hu,YO,hie⟩:=fZ ht;have hsize:(sizeOf e).run P w= .ok sz w:=by simp_all [run_sizeOf]
 have hrun:∀(b off len cap:Nat) (k:IntKind) (n:Int),η x' = .slice (J (ad b off)) len cap->η i' = .int k n->0<=n->n<len ->
   (execOp η ⟨dst,.indexAddr t x' i',ty,pos,after,guard⟩).run P w= .ok (.value (.pointer (J (ad b (off+n.toNat * sz))))) w:=by
  intro b off len cap k n e1 e2 e3 e4;have hb:(0<=n/\n<(len:Int)):=⟨e3,e4⟩;simp [execOp,e1,e2,Instr.indexAt,run_underlying hu,asIntOf,hsize,hb,bp]
 simp [k8] at h;split at h
 next len cells k n hp hq=>
  split at h
  next hb=>
   obtain ⟨rfl,rfl⟩:=h;rw [hp] at h1;rw [hq] at h2
   rcases h1 with ⟨_,h0,_⟩|⟨b,off,cap,g1,g2,g3⟩
   .omega
   .exact ⟨_,hrun b off len cap k n g1 h2 hb.1 hb.2,by exact ⟨b,_,rfl,gB.drop _ _ _ g3⟩⟩
  .cases h
 all_goals grind [VR,DR,Nat.add_assoc]
def SJ (hρ:cI ck G I N w η ρ){o:Oper}{m sz:Nat}{x i:y4}(hc:E8 P ck o (.iQ m sz x i)=W){v:c7}{rs:List Nat}
  (h:k8 ρ H (.iQ m sz x i)=J (v,rs)):Good P G I N w η o v:=by
 obtain ⟨dst,dP,ty,pos,after,guard⟩:=o;cases dP<;>simp [E8] at hc<;>try simp_all
 rename_i t x' i';obtain ⟨⟨hx,hi⟩,ht⟩:=hc;have h1:=hρ _ _ hx;have h2:=hρ _ _ hi;split at ht
 next m' e hu=>
  simp [c9,beq_iff_eq] at ht;obtain ⟨⟨rfl,YO⟩,hie⟩:=ht;have hsize:(sizeOf e).run P w= .ok sz w:=by simp_all [run_sizeOf]
  have hrun:∀(b off:Nat) (k:IntKind) (n:Int),η x' = .pointer (J (ad b off))->η i' = .int k n->0<=n->n<m' ->
    (execOp η ⟨dst,.indexAddr t x' i',ty,pos,after,guard⟩).run P w= .ok (.value (.pointer (J (ad b (off+n.toNat * sz))))) w:=by
   intro b off k n e1 e2 e3 e4;have hb:(0<=n/\n<(m' :Int)):=⟨e3,e4⟩;simp [execOp,e1,e2,Instr.indexAt,run_underlying hu,asIntOf,hsize,hb,bp,Instr.sureAddr]
  simp [k8] at h;split at h
  .grind [VR,DR,Nat.add_assoc]
  next cells k n hp hq=>
   split at h
   next hb=>
    obtain ⟨rfl,rfl⟩:=h;rw [hp] at h1;rw [hq] at h2;obtain ⟨b,off,g1,g2⟩:=h1;exact ⟨_,hrun _ _ k n g1 h2 hb.1 hb.2,by exact ⟨b,_,rfl,gB.drop _ _ _ g2⟩⟩
   .cases h
  .cases h
 .cases ht
def SK (hρ:cI ck G I N w η ρ){o:Oper}{x i:y4}(hc:E8 P ck o (.J5 x i)=W){v:c7}{rs:List Nat}
  (h:k8 ρ H (.J5 x i)=J (v,rs)):Good P G I N w η o v:=by
 obtain ⟨dst,dP,ty,pos,after,guard⟩:=o;cases dP<;>simp [E8] at hc<;>try simp_all
 obtain ⟨⟨hx,hi⟩,ht⟩:=hc;have h1:=hρ _ _ hx;have h2:=hρ _ _ hi;split at ht
 .simp [k8] at h
  split at h
  next s k n hp hq=>
   split at h
   .split at h
    next b hb=>
     obtain ⟨rfl,rfl⟩:=h;rw [hp] at h1;rw [hq] at h2;simp [VR,DR] at h1 h2;refine ⟨.int .u8 b.toNat,?_,by simp [VR,DR]⟩;have hsz:(⟨s.toArray⟩:ByteArray).size=O s:=by rfl
     have hlt:n.toNat<O s:=by
      grind
     have hg:(⟨s.toArray⟩:ByteArray)[n.toNat]? =J b:=by
      rw [getElem?_pos _ _ V];rw [n9 hlt] at hb;simp at hb;subst hb;rfl
     simp_all [execOp,Instr.index,run_underlying,asIntOf]
    .cases h
   .cases h
  .cases h
 .cases ht
def HG (hρ:cI ck G I N w η ρ){o:Oper}{x:y4}{i:Nat}(hc:E8 P ck o (.extract x i)=W){v:c7}{rs:List Nat}
  (h:k8 ρ H (.extract x i)=J (v,rs)):Good P G I N w η o v:=by
 obtain ⟨dst,dP,ty,pos,after,guard⟩:=o;cases dP<;>simp [E8] at hc;rename_i x' i';obtain ⟨hx,rfl⟩:=hc;have h1:=hρ _ _ hx;simp [k8] at h;split at h
 next vs hp=>
  split at h
  next u hu=>
   simp at h;obtain ⟨rfl,rfl⟩:=h;rw [hp] at h1;obtain ⟨cs,g1,g2⟩:=h1;obtain ⟨z,e1,e2⟩:=K1.get vs _ g2 i' u hu;refine ⟨z,?_,e2⟩;simp_all [execOp,Instr.extract]
  .cases h
 .cases h
def VK (hρ:cI ck G I N w η ρ){o:Oper}{x:y4}{i:Nat}(hc:E8 P ck o (.Yv x i)=W){v:c7}{rs:List Nat}
  (h:k8 ρ H (.Yv x i)=J (v,rs)):Good P G I N w η o v:=by
 obtain ⟨dst,dP,ty,pos,after,guard⟩:=o;cases dP<;>simp [E8] at hc;rename_i t x' f;obtain ⟨hx,hf⟩:=hc;split at hf
 next fs hu=>
  split at hf
  next fd hfd=>
   simp at hf;obtain ⟨rfl,ha⟩:=hf;have h1:=hρ _ _ hx;simp only [k8] at h;split at h
   next vs hp=>
    split at h
    next u hu'=>
     simp at h;obtain ⟨rfl,rfl⟩:=h;rw [hp] at h1;simp only [VR] at h1;obtain ⟨cs,g1,g2⟩:=h1;obtain ⟨z,e1,e2⟩:=K1.get vs _ g2 _ u hu';refine ⟨z,?_,e2⟩;have e3:cs[fd.offset]? =J z:=by simpa using e1
     simp [execOp,Instr.field,asAgg,part,g1,run_underlying hu,hfd,cq ha,e3]
    .cases h
   .cases h
  .cases hf
 .cases hf
def VL (hρ:cI ck G I N w η ρ){o:Oper}{x:y4}(hc:E8 P ck o (.len x)=W){v:c7}{rs:List Nat}
  (h:k8 ρ H (.len x)=J (v,rs)):Good P G I N w η o v:=by
 obtain ⟨dst,dP,ty,pos,after,guard⟩:=o;unfold E8 at hc;split at hc<;>try (cases hc)
 all_goals rename_i pQ kB
 all_goals cases kB
 rename_i args argTypes;split at hc
 next x' t ha hb=>
  simp [c9] at hc;obtain ⟨hx,ht⟩:=hc;split at ht
  next e hu=>
   have hrun:∀a len cap,η x' = .slice a len cap->(execOp η ⟨dst,.call ⟨.builtin .len,args,argTypes⟩,ty,pos,after,guard⟩).run P w= .ok (.value (.int .i64 len)) w:=by
    intro a len cap hη;have h0:(args.map η)[0]? =J (.slice a len cap):=by simp [ha,hη]
    simp [execOp,resolve,invoke,builtin,Builtin.len_,hb,h0,run_underlying hu,goInt]
   simp [k8] at h
   .grind [VR,DR,i64]
   all_goals grind [VR,DR,i64]
  .cases ht
 .cases hc
def SL (hρ:cI ck G I N w η ρ){o:Oper}{x:y4}(hc:E8 P ck o (.Y8 x)=W){v:c7}{rs:List Nat}
  (h:k8 ρ H (.Y8 x)=J (v,rs)):Good P G I N w η o v:=by
 obtain ⟨dst,dP,ty,pos,after,guard⟩:=o;unfold E8 at hc;split at hc<;>try (cases hc)
 all_goals rename_i pQ kB
 all_goals cases kB
 all_goals subst pQ
 rename_i args argTypes;split at hc
 next x' t ha hb=>
  simp [c9] at hc;obtain ⟨hx,ht⟩:=hc;have h1:=hρ _ _ hx;split at ht
  next hu=>
   simp [k8] at h;split at h
   next s hp=>
    obtain ⟨rfl,rfl⟩:=h;rw [hp] at h1;simp [VR,DR] at h1;have h0:(args.map η)[0]? =J (.string ⟨s.toArray⟩):=by simp [ha,h1]
    have hsz:(⟨s.toArray⟩:ByteArray).size=O s:=by rfl
    refine ⟨.int .i64 (O s),?_,by rfl⟩;simp [execOp,resolve,invoke,builtin,Builtin.len_,hb,h0,run_underlying hu,goInt,hsz]
   .cases h
  .cases ht
 .cases hc
theorem ER.length:∀(l:List (Key×c7)) (es:List MapEntry),ER G I N w l es->O es=O l
 |[],es,h=>by simp [ER] at h;simp [h]
 |(k,v)::r,es,h=>by
  simp only [ER] at h;obtain ⟨e,es',rfl,_,_,h4⟩:=h;simp [ER.length r es' h4]
theorem jD (hρ:cI ck G I N w η ρ):∀(xs:List Operand) (ys:List y4),TP ck xs ys=W->K1 G I N w (ys.map ρ) (xs.map η)
 |[],[],_=>by simp [K1]
 |x::xs,y::ys,h=>by
  simp [TP,c9] at h;exact ⟨_,_,rfl,hρ _ _ h.1,jD hρ xs ys h.2⟩
 |[],_::_,h=>by simp [TP] at h
 |_::_,[],h=>by simp [TP] at h
def Kh (hρ:cI ck G I N w η ρ){o:Oper}{f:FuncId}{a b:List y4}(hc:E8 P ck o (.an f a b)=W){v:c7}{rs:List Nat}
  (h:k8 ρ H (.an f a b)=J (v,rs)):Good P G I N w η o v:=by
 obtain ⟨dst,dP,ty,pos,after,guard⟩:=o;unfold E8 at hc;split at hc<;>try (cases hc)
 all_goals rename_i pQ kB
 all_goals cases kB
 all_goals subst pQ
 rename_i f' first caps
 simp [c9,beq_iff_eq] at hc;obtain ⟨⟨rfl,h1⟩,h2⟩:=hc;obtain ⟨rfl,rfl⟩:=h;refine ⟨.func (.func f') (first.map η) (caps.map η),by rfl,?_⟩;exact ⟨_,_,rfl,by simpa using jD hρ _ _ h1,by simpa using jD hρ _ _ h2⟩
theorem BC:∀(as:List c7) (vs:List Value) (r:Data) (k:IntKind) (n:Int),gh W (.int k n) as=J r->K1 G I N w as vs ->
  ∃m,r= .int k m/\(vs.foldlM Builtin.max2 (.int k n)).run P w= .ok (.int k m) w
 |[],vs,r,k,n,h,hv=>by
  simp_all [gh,K1]
 |x::xs,vs,r,k,n,h,hv=>by
  obtain ⟨u,us,rfl,e2,e3⟩:=hv;unfold gh at h;split at h
  .simp_all
  next b r' heq=>
   cases heq;split at h
   next c hc=>
    unfold Af at hc;split at hc
    next k1 x1 k2 y1 e1=>
     cases e1;simp at hc;subst hc;subst e2;obtain ⟨m,g1,g2⟩:=BC xs us r k _ h e3;simp_all [List.foldlM_cons,Sem.run_bind,Builtin.max2,Sem.run_pure,Result.andThen_ok]
    .cases hc
   .cases h
  .cases h
theorem BD:∀(as:List c7) (vs:List Value) (r:Data) (k:IntKind) (n:Int),gh F (.int k n) as=J r->K1 G I N w as vs ->
  ∃m,r= .int k m/\(vs.foldlM Builtin.min2 (.int k n)).run P w= .ok (.int k m) w
 |[],vs,r,k,n,h,hv=>by
  simp_all [gh,K1]
 |x::xs,vs,r,k,n,h,hv=>by
  obtain ⟨u,us,rfl,e2,e3⟩:=hv;unfold gh at h;split at h
  .simp_all
  next b r' heq=>
   cases heq;split at h
   next c hc=>
    unfold Af at hc;split at hc
    next k1 x1 k2 y1 e1=>
     cases e1;simp at hc;subst hc;subst e2;obtain ⟨m,g1,g2⟩:=BD xs us r k _ h e3;simp_all [List.foldlM_cons,Sem.run_bind,Builtin.min2,Sem.run_pure,Result.andThen_ok]
    .cases hc
   .cases h
  .cases h
def JK {b:Bool}{a r:Data}{l:List c7}(h:gh b a l=J r)(hne:l≠[]):∃k n,a= .int k n:=by
 cases l with
 |nil=>simp_all
 |cons x xs =>
  unfold gh at h;simp_all [Af]<;>grind
def Kg (hρ:cI ck G I N w η ρ){o:Oper}{b:Bool}{ys:List y4}(hc:E8 P ck o (.gT b ys)=W){v:c7}{rs:List Nat}
  (h:k8 ρ H (.gT b ys)=J (v,rs)):Good P G I N w η o v:=by
 obtain ⟨dst,dP,ty,pos,after,guard⟩:=o;unfold E8 at hc;split at hc<;>try (cases hc)
 all_goals rename_i pQ kB
 all_goals cases kB
 all_goals simp [c9] at hc
 all_goals obtain ⟨hc,hl⟩:=hc
 all_goals have h1:=jD hρ _ _ hc
 all_goals simp [k8] at h
 all_goals split at h
 all_goals try (cases h)
 all_goals rename_i a r heq
 all_goals split at h
 all_goals rename_i c tN
 all_goals obtain ⟨rfl,rfl⟩:=h
 all_goals rw [heq] at h1
 all_goals obtain ⟨x,xs,e1,e2,e3⟩:=h1
 all_goals have hne:r≠[]:=λhr=>by simp_all [List.length]<;>grind
 all_goals obtain ⟨k,n,rfl⟩:=JK tN hne
 all_goals subst e2
 .obtain ⟨m,rfl,g2⟩:=BC (P:=P) r xs c k n tN e3
  refine ⟨.int k m,?_,by simp [VR,DR]⟩;simp_all [execOp,resolve,invoke,builtin,Builtin.max_,Sem.run_bind,Sem.run_pure,Result.andThen_ok]
 .obtain ⟨m,rfl,g2⟩:=BD (P:=P) r xs c k n tN e3
  refine ⟨.int k m,?_,by simp [VR,DR]⟩;simp_all [execOp,resolve,invoke,builtin,Builtin.min_,Sem.run_bind,Sem.run_pure,Result.andThen_ok]
def rI (R:Value->Bool->Prop):List MapEntry->Nat->Option (Nat×Value)->Prop
 |[],_,q=>q=K
 |e::es,i,q=>(R e.key W/\q=J (i,e.val))\/(R e.key F/\rI R es (i+1) q)
def oq (P:Program)(w:World)(t:TypeId)(d:TypeDesc)(u:Value):KK->Value->Bool->Prop
 | .st _,v,r=>(Op.equal t u v).run P w= .ok r w/\Instr.sameNow d u v=K
 |_,v,r=>Instr.sameNow d u v=J r
def OV {G:Gh}{w:World}{I:S8}{N:Nat->Prop}(l:List KD)(j:Nat)(c:c7)(h:(l.map KD.av)[j]? =J c):∃v,(l.map KD.val).toArray[0+j]? =J v/\VR G I N w .none c v:=by
 simp only [List.getElem?_map,Option.map_eq_some_iff] at h;obtain ⟨x,hx,rfl⟩:=h;exact ⟨x.val,by simp [hx],by cases x<;>simp [KD.av,KD.val,VR,DR]⟩
def uS {kk:KK}{a b:Key}{r:Bool}(h:Data.dK kk a b=J r){t:TypeId}{d:TypeDesc}(ht:wI P t kk=W)(hd:P.underlying t=J d):oq P w t d a.val kk b.val r:=by
 unfold Data.dK at h;split at h
 .split at h
  next hkk=>
   subst hkk;simp at h;subst h;simp only [wI,gb,hd] at ht;split at ht
   .rename_i hx;cases hx;simp [oq,Key.val,Instr.sameNow]
   .cases ht
  .cases h
 .simp at h;subst h
  simp only [wI,gb,hd] at ht;split at ht
  .rename_i hx;cases hx;simp [oq,Key.val,Instr.sameNow,beq_toListBytes]
  .cases ht
 .simp at h;subst h
  simp only [wI,gb,hd] at ht;split at ht
  .rename_i hx;cases hx;simp [oq,Key.val,Instr.sameNow]
  .cases ht
 next ks l m=>
  simp only [wI,jP,hd] at ht;split at ht
  next fs Ig=>
   cases Ig;simp only [c9,o5] at ht;have hff:P.fieldsOf t=fs:=by simp [Program.fieldsOf,hd]
   have heq:=run_equalIn_struct (P:=P) w 9999 t (l.map KD.val).toArray (m.map KD.val).toArray (by rw [hff];exact hd) ht.1.2;rw [hff,lH (P:=P) (G:=λ_=> .free) (I:=λ_=>(0,0)) (N:=λ_=>False) 9998 _ _ fs.toList 0 ks _ _ r ht.1.1 h (OV l) (OV m)] at heq;exact ⟨heq,by simp [Key.val,Instr.sameNow]⟩
  .cases ht
 .cases h
theorem Jb {kk:KK}{t:TypeId}{d:TypeDesc}(ht:wI P t kk=W)(hd:P.underlying t=J d){key:Key} :
  ∀(l:List (Key×c7)) (es:List MapEntry) (i:Nat) (r:Option c7),ER G I N w l es->cA kk key l=J r ->
   ∃q,rI (oq P w t d key.val kk) es i q/\(match r,q with
    |none,K=>True
    |some a,J (_,v)=>VR G I N w .none a v
    |_,_=>False)
 |[],es,i,r,hE,h=>by
  simp [ER] at hE;subst hE;simp [cA] at h;subst h;exact ⟨K,rfl,trivial⟩
 |(k',v')::rest,es,i,r,hE,h=>by
  simp only [ER] at hE;obtain ⟨e,es',rfl,h2,h3,h4⟩:=hE;unfold cA at h;split at h
  next hk=>
   simp at h;subst h;exact ⟨J (i,e.val),.inl ⟨h2 ▸ uS hk ht hd,rfl⟩,h3⟩
  next hk=>
   obtain ⟨q,g1,g2⟩:=Jb ht hd rest es' (i+1) r h4 h;exact ⟨q,.inr ⟨h2 ▸ uS hk ht hd,g1⟩,g2⟩
  .cases h
def pI {kk:KK}{t:TypeId}{d:TypeDesc}(hd:P.underlying t=J d){u:Value}{es:List MapEntry}{q:Option (Nat×Value)}(h:rI (oq P w t d u kk) es 0 q):(Instr.findKey t u es).run P w= .ok q w:=by
 have plain:(∀v r,oq P w t d u kk v r->Instr.sameNow d u v=J r)->(Instr.findKey t u es).run P w= .ok q w:=by
  intro hp;have:∀(es:List MapEntry) (i:Nat),rI (oq P w t d u kk) es i q->Instr.findNow d u es i=J q:=by
   intro es
   induction es with
   |nil=>intro i h;simp only [rI] at h;simp [Instr.findNow,h]
   |cons e es ih =>
    intro i h
    rcases h with ⟨h1,rfl⟩|⟨h1,h2⟩
    .simp [Instr.findNow,hp _ _ h1]
    .simp [Instr.findNow,hp _ _ h1,ih _ h2]
  simp [Instr.findKey,run_underlying hd,this es 0 h]
 cases kk with
 |i=>exact plain λ_ _ h=>h
 |s=>exact plain λ_ _ h=>h
 |b=>exact plain λ_ _ h=>h
 |st ks =>
  have ask:∀(es:List MapEntry) (i:Nat),rI (oq P w t d u (.st ks)) es i q->(Instr.findAsking t u es i).run P w= .ok q w:=by
   intro es
   induction es with
   |nil=>intro i h;simp only [rI] at h;simp [Instr.findAsking,h]
   |cons e es ih =>
    intro i h
    rcases h with ⟨h1,rfl⟩|⟨h1,h2⟩
    .simp [Instr.findAsking,h1.1]
    .simp [Instr.findAsking,h1.1,ih _ h2]
  have:=ask es 0 h;cases es with
  |nil=>simp only [rI] at h;simp [Instr.findKey,run_underlying hd,Instr.findNow,h]
  |cons e es =>
   have h0:Instr.sameNow d u e.key=K:=by
    rcases h with ⟨h1,_⟩|⟨h1,_⟩<;>exact h1.2
   simp [Instr.findKey,run_underlying hd,Instr.findNow,h0,this]
def ia {k:CK}{t:TypeId}(ht:gb P t k=W)(b:Bool)(n:Nat)(u:Value):(Instr.checkKey b (n+1) t u).run P w= .ok () w:=by
 cases k<;>simp only [gb] at ht<;>split at ht<;>first|(cases ht;done)|(rename_i hu;simp [Instr.checkKey,run_underlying hu])
def jM {kk:KK}{t:TypeId}(ht:wI P t kk=W){key:Key}(hf:kk.fits key=W)(b:Bool)(n:Nat):(Instr.checkKey b (n+2) t key.val).run P w= .ok () w:=by
 have fields (l:List KD):∀(fs:List Field) (n0:Nat) (ks:List CK) (m:List KD),U6 P fs n0 ks=W->(Q9 ks (m.map KD.av) (m.map KD.av)).isSome=W->(∀j x,m[j]? =J x->(l.map KD.val).toArray[n0+j]? =J x.val) ->
   Sem.run P (forIn fs PUnit.unit λ(f : Field) (_ : PUnit) => if f.name ≠ "_" then do
    let v <- part f.type (l.map KD.val).toArray f.offset
    Instr.checkKey b (n+1) f.type v
    pure (ForInStep.yield PUnit.unit) else pure (ForInStep.yield PUnit.unit)) w= .ok PUnit.unit w:=by
  intro fs
  induction fs with
  |nil=>intro n0 ks m _ _ _;simp
  |cons f fs ih =>
   intro n0 ks m hf hc hm;cases ks with
   |nil=>simp [U6] at hf
   |cons k ks =>
    simp only [U6,c9,bne_iff_ne,beq_iff_eq] at hf;obtain ⟨⟨⟨h1,h2⟩,h3⟩,h4⟩:=hf;cases m with
    |nil=>simp [Q9] at hc
    |cons x m =>
     have uv:(Q9 ks (m.map KD.av) (m.map KD.av)).isSome=W:=by
      cases x<;>simp only [G4,KD.av,Q9] at hc<;>split at hc<;>first|(split at hc<;>simp_all)|simp_all
     have e1:=run_part_plain (w:=w) h2 (l.map KD.val).toArray n0 x.val (hm 0 x rfl);simp only [List.forIn_cons,Sem.run_bind,if_pos h1,h3,e1,Result.andThen_ok,ia h2,Sem.run_pure];exact ih (n0+1) ks m h4 uv λj y hy=>by rw [show n0+1+j=n0+(j+1) from by omega];exact hm (j+1) y (by simpa using hy)
 cases kk with
 |i=>exact ia (k:= .i) ht b _ _
 |s=>exact ia (k:= .s) ht b _ _
 |b=>exact ia (k:= .b) ht b _ _
 |st ks =>
  simp only [wI,jP] at ht;split at ht
  next fs Ig=>
   simp only [c9,o5] at ht;cases key<;>simp only [KK.fits,j5] at hf;rename_i l;rw [Instr.checkKey];simp only [Key.val,Sem.run_bind,run_underlying Ig,Result.andThen_ok];rw [<- Array.forIn_toList,fields l fs.toList 0 ks l ht.1.1 hf (λj x hj=>by simp [hj])];simp
  .cases ht
theorem OW:∀(l:List c7) (r:List KD) (xs:List Value),Nk l=J r->K1 G I N w l xs->xs=r.map KD.val
 |[],r,xs,h,hv=>by simp [Nk] at h;subst h;simpa [K1] using hv
 |v::l,r,xs,h,hv=>by
  simp only [K1] at hv;obtain ⟨x,ys,rfl,h1,h2⟩:=hv;unfold Nk at h;split at h
  .rename_i e;cases e
  all_goals first|(cases h;done)|skip
  all_goals rename_i e;cases e
  all_goals split at h<;>first|(cases h;done)|skip
  all_goals
   rename_i r' hr;cases h;rw [OW _ r' ys hr h2];simp only [VR,DR] at h1;simp [h1,KD.val]
def Hu {v:c7}{k:Key}{pl:Place}{x:Value}(h:v.Nl =J k)(hv:VR G I N w pl v x):x=k.val:=by
 unfold c7.Nl at h;split at h
 .cases h;simpa [VR,DR,Key.val] using hv
 .cases h;simpa [VR,DR,Key.val] using hv
 .cases h;simpa [VR,DR,Key.val] using hv
 .split at h
  next r hr=>
   cases h;simp only [VR] at hv;obtain ⟨cs,rfl,h2⟩:=hv;have:=OW _ r _ hr h2;simp [Key.val,<- this]
  .cases h
 .cases h
def OH {kk:KK}{k:Key}{r:Bool}(h:Data.dK kk k k=J r):kk.fits k=W:=by
 unfold Data.dK at h;unfold KK.fits;split at h<;>simp_all
def Kf (hρ:cI ck G I N w η ρ)(hH:HR G I N w H){o:Oper}{kk:KK}{zero:c7}{ok:Bool}{m k:y4}(hc:E8 P ck o (.lookup kk zero ok m k)=W){v:c7}{rs:List Nat}
  (h:k8 ρ H (.lookup kk zero ok m k)=J (v,rs)):Good P G I N w η o v:=by
 obtain ⟨dst,dP,ty,pos,after,guard⟩:=o;cases dP<;>simp only [E8,c9,beq_iff_eq] at hc<;>try (cases hc;done)
 rename_i t m' k' Vn;obtain ⟨⟨⟨rfl,hm⟩,hk⟩,ht⟩:=hc;have h1:=hρ _ _ hm;have h2:=hρ _ _ hk;split at ht
 next kt et hu=>
  simp only [c9] at ht;obtain ⟨hkt,hz⟩:=ht;split at hz
  next it hit=>
   split at hz
   next z hzz=>
    have hzero:(zeroValue et).run P w= .ok z w:=by simp [zeroValue,typeInfo,hit,hzz]
    have hzr:VR G I N w .none zero z:=dH _ _ hz;obtain ⟨dk,hdk⟩:∃d,P.underlying kt=J d:=by
     cases hd:P.underlying kt with
     |none=>cases kk<;>simp [wI,gb,jP,hd] at hkt
     |some d=>exact ⟨d,rfl⟩
    simp only [k8] at h;split at h
    next id key hp hq=>
     rw [hp] at h1;simp only [VR] at h1;have h2:=Hu hq h2;split at h
     next es he=>
      split at h
      next r hr hfit=>
       simp at h;obtain ⟨rfl,rfl⟩:=h;have hO:=hH id _ he;simp only [OR] at hO;obtain ⟨_,arr,gE,g1,_,g3,_⟩:=hO;obtain ⟨q,f1,f2⟩:=Jb (P:=P) hkt hdk es arr.toList 0 r g3 hr;have hgo:(getObj (I id).1).run P w= .ok (.map arr gE) w:=by simp [getObj,Sem.run,g1]
       have hfk:(Instr.findKey kt (η k') arr.toList).run P w= .ok q w:=by rw [h2];exact pI hdk f1
       have hck:=λb=>h2 ▸ jM (P:=P) (w:=w) hkt hfit b 9998
       cases r with
       |none =>
        cases q with
        |some q=>exact f2.elim
        |none =>
         refine ⟨if Vn then .tuple #[z,.bool F] else z,?_,?_⟩
         .cases Vn <;>simp [execOp,h1.2,Instr.lookup,run_underlying hu,hgo,hck,hfk,hzero]
         .cases Vn
          .simpa using hzr
          .simp only [VR,Option.getD_none,Option.isSome_none,if_true]
           exact ⟨_,rfl,by simp [K1,VR,DR,hzr]⟩
       |some a =>
        cases q with
        |none=>exact f2.elim
        |some q =>
         obtain ⟨qi,qv⟩:=q;refine ⟨if Vn then .tuple #[qv,.bool W] else qv,?_,?_⟩
         .cases Vn <;>simp [execOp,h1.2,Instr.lookup,run_underlying hu,hgo,hck,hfk]
         .cases Vn
          .simpa using f2
          .simp only [VR,Option.getD_some,Option.isSome_some,if_true]
           exact ⟨_,rfl,by simp [K1,VR,DR];exact f2⟩
      .cases h
     .cases h
    next key hp hq=>
     rw [hp] at h1;simp only [VR,DR] at h1;have h2:=Hu hq h2;split at h
     next hkk=>
      simp at h;obtain ⟨rfl,rfl⟩:=h;have hck:=λb=>h2 ▸ jM (P:=P) (w:=w) hkt (OH hkk) b 9998
      have hfk:(Instr.findKey kt (η k') []).run P w= .ok K w:=by simp [Instr.findKey,run_underlying hdk,Instr.findNow]
      refine ⟨if Vn then .tuple #[z,.bool F] else z,?_,?_⟩
      .cases Vn <;>simp [execOp,h1,Instr.lookup,run_underlying hu,hck,hfk,hzero]
      .cases Vn
       .simpa using hzr
       .simp only [VR,if_true]
        exact ⟨_,rfl,by simp [K1,VR,DR,hzr]⟩
     .cases h
    .cases h
   .cases hz
  .cases hz
 .cases ht
end
def JT (vs:List Value):Prop:=∀v∈vs,v.oneCell' =W
def L6 (l:List Value)(off:Nat)(vs:List Value):List Value:=l.take off++vs++l.drop (off+O vs)
section
variable {P:Program} {w:World} {ck:Operand->y4->Bool} {η:Operand->Value} {ρ:y4->c7} {G:Gh} {I:S8} {N:Nat->Prop} {H:j9}
theorem K1.append:∀(a:List c7) (xs:List Value) (b:List c7) (ys:List Value),K1 G I N w a xs->K1 G I N w b ys->K1 G I N w (a++b) (xs++ys)
 |[],xs,b,ys,h,k=>by simp_all [K1]
 |a::as,xs,b,ys,h,k=>by
  obtain ⟨x,xs',rfl,h2,h3⟩:=h;exact ⟨x,xs' ++ys,rfl,h2,K1.append as xs' b ys h3 k⟩
theorem K1.take:∀(n:Nat) (a:List c7) (xs:List Value),K1 G I N w a xs->K1 G I N w (a.take n) (xs.take n)
 |0,_,_,_=>by simp [K1]
 |n+1,[],xs,h=>by simp_all [K1]
 |n+1,a::as,xs,h=>by
  obtain ⟨x,xs',rfl,h2,h3⟩:=h;exact ⟨x,xs'.take n,rfl,h2,K1.take n as xs' h3⟩
theorem K1.drop:∀(n:Nat) (a:List c7) (xs:List Value),K1 G I N w a xs->K1 G I N w (a.drop n) (xs.drop n)
 |0,_,_,h=>by simpa using h
 |n+1,[],xs,h=>by simp_all [K1]
 |n+1,a::as,xs,h=>by
  obtain ⟨x,xs',rfl,h2,h3⟩:=h;exact K1.drop n as xs' h3
theorem K1.splice {a b:List c7}{xs ys:List Value}(h:K1 G I N w a xs)(k:K1 G I N w b ys)(off:Nat):K1 G I N w (splice a off b) (L6 xs off ys):=by
 grind [A5.splice,L6,K1.length,K1.append,K1.take,K1.drop]
theorem mO {a:c7}(ha:a.one=W){pl:Place}{x:Value}(h:VR G I N w pl a x):x.oneCell' =W/\x.cells= #[x]:=by
 cases a<;>simp [c7.one] at ha
 next d=>
  cases d<;>simp [VR] at h
  all_goals first
   |(subst h;exact ⟨rfl,rfl⟩)
   |(rcases h with ⟨h|⟨a0,h⟩,_⟩|⟨b,o,cap,h,_⟩<;>(subst h;exact ⟨rfl,rfl⟩))
 .obtain ⟨_,h⟩:=h;subst h;exact ⟨rfl,rfl⟩
 .obtain ⟨b,o,h,_⟩:=h;subst h;exact ⟨rfl,rfl⟩
 .obtain ⟨_,cap,h,_⟩:=h;subst h;exact ⟨rfl,rfl⟩
 .obtain ⟨_,h⟩:=h
  rcases h with ⟨h|⟨b,o,h⟩,_⟩|⟨_,b,o,cap,c,e,f,h,_⟩<;>(subst h;exact ⟨rfl,rfl⟩)
 .subst h;exact ⟨rfl,rfl⟩
 .obtain ⟨x,y,h,_⟩:=h;subst h;exact ⟨rfl,rfl⟩
 .obtain ⟨_,h⟩:=h;subst h;exact ⟨rfl,rfl⟩
theorem nR:∀(l:List c7) (xs:List Value),l.all c7.one=W->K1 G I N w l xs->JT xs
 |[],xs,_,h=>by subst h;intro v hv;cases hv
 |a::as,xs,ha,h=>by
  simp only [List.all_cons,c9] at ha;obtain ⟨x,xs',rfl,h2,h3⟩:=h;intro v hv
  rcases List.mem_cons.1 hv with rfl|hv
  .grind [mO]
  .exact nR as xs' ha.2 h3 v hv
def xG {a:c7}{l:List c7}(ha:a.cells? =J l){x:Value}(h:VR G I N w .none a x):K1 G I N w l x.cells.toList/\JT x.cells.toList:=by
 unfold c7.cells? at ha;split at ha
 .split at ha
  next hall=>
   simp at ha;subst ha;obtain ⟨cs,rfl,h2⟩:=h;exact ⟨h2,nR _ _ hall h2⟩
  .cases ha
 .split at ha
  next hone=>
   simp at ha;subst ha;obtain ⟨h1,h2⟩:=mO hone h;refine ⟨?_,λv hv=>?_⟩
   all_goals simp_all [K1]
  .cases ha
theorem Ev (off:Nat):∀(vs:List Value) (k:Nat) (cs:Array Value),off+k+O vs<=cs.size ->
  ((vs.zipIdx k).foldl (λ(cs:Array Value) (p:Value×Nat)=>cs.setIfInBounds (off+p.2) p.1) cs).toList=cs.toList.take (off+k)++vs++cs.toList.drop (off+k+O vs)
 |[],k,cs,_=>U
 |v::vs,k,cs,h=>by
  simp [o8] at h;rw [List.zipIdx_cons,List.foldl_cons,Ev off vs (k+1) _ D];have hlt:off+k<O cs.toList:=D
  simp [Array.toList_setIfInBounds];rw [show off+(k+1)=off+k+1 from by omega];rw [List.take_succ_eq_append_getElem M];rw [List.drop_set_of_lt V];simp [List.take_set_of_le (k9 _),o8]
  grind
def RY {off:Nat}{v:Value}{cs:Array Value}(h:off+v.cells.size<=cs.size) :
  v.cells.zipIdx.foldl (λcs (c,j)=>cs.setIfInBounds (off+j) c) cs=(L6 cs.toList off v.cells.toList).toArray:=by
 have:=Ev off v.cells.toList 0 cs (by simpa using h);have e:v.cells.zipIdx.foldl (λcs (c,j)=>cs.setIfInBounds (off+j) c) cs=(v.cells.toList.zipIdx 0).foldl (λ(cs:Array Value) (p:Value×Nat)=>cs.setIfInBounds (off+p.2) p.1) cs:=by
  rw [<- Array.foldl_toList];simp
 grind [Array.toList_inj,L6]
theorem nJ (hρ:cI ck G I N w η ρ){place:Nat->Option (Nat×Nat)}:∀(parts:List (Nat×Operand)) (ps:List (Nat×Nat×y4)) (l cs:List c7) (xs:Array Value),
  kO P ck place parts ps=W->K1 G I N w l xs.toList->Z7 l (ps.map λ(o,s,x)=>(o,s,ρ x))=J cs ->
  ∃ys:Array Value,Instr.fill place xs (parts.map λ(i,x)=>(i,η x))=J ys/\K1 G I N w cs ys.toList
 |[],[],l,cs,xs,_,hl,h=>by
  simp [Z7] at h;subst h;exact ⟨xs,rfl,hl⟩
 |(i,x)::r,(off,sz,y)::q,l,cs,xs,hp,hl,h=>by
  simp [kO,c9,beq_iff_eq] at hp;obtain ⟨⟨h1,h2⟩,h3⟩:=hp;simp [G4,Z7] at h;split at h
  next l' hl'=>
   split at h
   .obtain ⟨g1,g2⟩:=xG hl' (hρ _ _ h2)
    have hlen:(η x).cells.size=sz:=by
     have:=K1.length _ _ g1;simp_all
    have hlx:xs.size=O l:=by
     have:=K1.length _ _ hl;omega
    have ov:K1 G I N w (splice l off l') ((L6 xs.toList off (η x).cells.toList).toArray).toList:=by
     simp_all [K1.splice]
    obtain ⟨ys,e1,e2⟩:=nJ hρ r q _ cs _ h3 ov h;refine ⟨ys,?_,e2⟩;have hc:¬ ((η x).cells.size≠sz||off+(η x).cells.size>xs.size)=W:=by
     simp_all
    simp only [G4,Instr.fill,h1];rw [if_neg hc,RY V];exact e1
   .cases h
  .cases h
 |[],_::_,_,_,_,hp,_,_=>by simp [kO] at hp
 |_::_,[],_,_,_,hp,_,_=>by simp [kO] at hp
def jA {t:TypeId}{l:List c7}(h:xh P t l=W):∃i z,P.info? t=J i/\i.zero=J z/\K1 G I N w l z.cells.toList:=by
 grind [xh,fW]
def Nx (hρ:cI ck G I N w η ρ){o:Oper}{zero:List c7}{ps:List (Nat×Nat×y4)}(hc:E8 P ck o (.build zero ps)=W){v:c7}{rs:List Nat}
  (h:k8 ρ H (.build zero ps)=J (v,rs)):Good P G I N w η o v:=by
 obtain ⟨dst,dP,ty,pos,after,guard⟩:=o;cases dP<;>simp [E8] at hc<;>try simp_all
 rename_i t parts;simp [k8] at h;split at h
 next cs hcs=>
  obtain ⟨rfl,rfl⟩:=h;have key:∃ys:Array Value,P.built t (parts.toList.map λ(i,x)=>(i,η x))=J ys/\K1 G I N w cs ys.toList:=by
   split at hc
   .split at hc
    .simp [c9] at hc
     obtain ⟨it,z,e1,e2,e3⟩:=jA (G:=G) (I:=I) (N:=N) (w:=w) hc.1;obtain ⟨ys,f1,f2⟩:=nJ hρ parts.toList ps zero cs z.cells hc.2 e3 hcs;simp_all [xK,Program.built]
    .cases hc
   .split at hc
    .simp [c9] at hc
     obtain ⟨it,z,e1,e2,e3⟩:=jA (G:=G) (I:=I) (N:=N) (w:=w) hc.1;obtain ⟨ys,f1,f2⟩:=nJ hρ parts.toList ps zero cs z.cells hc.2 e3 hcs;simp_all [Program.built]
    .cases hc
   .cases hc
  obtain ⟨ys,e1,e2⟩:=key;refine ⟨.agg ys,?_,by simp_all [VR]⟩;simp_all [run_build,execOp,Sem.run_bind]
 .cases h
def NB (hη:∀v,η (.const v)=v)(hρ:cI ck G I N w η ρ)(hH:HR G I N w H){o:Oper}{op:s8}(hc:E8 P ck o op=W){v:c7}{rs:List Nat}
  (h:k8 ρ H op=J (v,rs)):Good P G I N w η o v:=by
 cases op
 case pick=>exact SO hρ hc h
 case build=>exact Nx hρ hc h
 case load=>exact SM hρ hH hc h
 case dh=>exact Nz hρ hc h
 case bin=>exact VH hρ hc h
 case un=>exact ZE hρ hc h
 case BH=>exact SN hη hρ hc h
 case x5=>exact VI hρ hc h
 case Dx=>exact VJ hρ hc h
 case rM=>exact Ny hρ hc h
 case pG=>exact Ke hρ hc h
 case ay=>exact Ki hρ hc h
 case off=>exact VM hρ hc h
 case L2=>exact SI hρ hc h
 case iQ=>exact SJ hρ hc h
 case J5=>exact SK hρ hc h
 case extract=>exact HG hρ hc h
 case Yv=>exact VK hρ hc h
 case len=>exact VL hρ hc h
 case Y8=>exact SL hρ hc h
 case gT=>exact Kg hρ hc h
 case an=>exact Kh hρ hc h
 case lookup=>exact Kf hρ hH hc h
 all_goals (unfold E8 at hc;split at hc<;>first|(cases hc;done)|(rename_i h1 h2;cases h2;done)|(rename_i h2;cases h2;done))
end
variable [E3]
def gF (G:Gh)(b:Nat)(l:Rs):Gh:=λx=>if x=b then l else G x
def qt (I:S8)(id:Nat)(p:Nat×Nat):S8:=λx=>if x=id then p else I x
@[simp] theorem qu (G:Gh) (b:Nat) (l:Rs):gF G b l b=l:=by simp [gF]
theorem J3 {G:Gh}{b:Nat}{l:Rs}{x:Nat}(h:x≠b):gF G b l x=G x:=by simp [gF,h]
@[simp] theorem Y2 (I:S8) (id:Nat) (p:Nat×Nat):qt I id p id=p:=by simp [qt]
def cS {I:S8}{id:Nat}{p:Nat×Nat}{x:Nat}(h:x≠id):qt I id p x=I x:=by simp [qt,h]
def mh (l:J2)(G:Gh)(w:World)(G' :Gh)(w' :World):Prop :=
 ∀id,l.may id=F->(∀b,G b= .obj id->G' b= .obj id/\w'.heap[b]? =w.heap[b]?)/\∀off,bE (.cell id off) G w G' w'
theorem mh.refl (l:J2)(G:Gh)(w:World):mh l G w G w:=λ_ _=>⟨λ_ h=>⟨h,rfl⟩,λ_ _ _ h=>⟨h,rfl⟩⟩
theorem mh.trans {l:J2}{G:Gh}{w:World}{G1:Gh}{w1:World}{G2:Gh}{w2:World}(h:mh l G w G1 w1)(k:mh l G1 w1 G2 w2):mh l G w G2 w2:=by
 intro id hid;obtain ⟨h1,h2⟩:=h id hid;obtain ⟨k1,k2⟩:=k id hid;refine ⟨λb hb=>?_,λoff b n hb=>?_⟩
 .simp_all
 .obtain ⟨a1,a2⟩:=h2 off b n hb
  obtain ⟨b1,b2⟩:=k2 off b n a1;simp_all
def Rr (l:J2)(H:j9):Prop :=
 ∀id o,H[id]? =J o->(id<l.strict->o.J4<=id+1)/\(id<l.base->o.J4<=l.base)
def Io (_P:Program)(idle:FuncId->Bool)(d:Deferred):Prop :=
 ∃f cap,d.target= .fn (.func f) cap/\idle f=W
structure RI (X:Cx)(l:J2)(S:Nat->Prop)(st:I5)(a:Act)(w:World)(G:Gh)(I:S8)(N:Nat->Prop):Prop where
 T:∀(s:Nat) t,X.names[s]? =J t->VR G I N w (.slot s) (st.T.getD s .any) (a.tmps.getD t undef)
 L:∀(j:Nat),S j->∀d,(X.ops[j]?).bind (·.dst)=J d->X.names.contains d=F->VR G I N w (.loc j) (st.L.getD j .any) (a.tmps.getD d undef)
 H:HR G I N w st.H
 wf:WF G w
 W1:Rr l st.H
def Gz {G:Gh}{b n:Nat}{pl zP :Place}(h:G b= .grow n pl)(x o:Nat):jm (gF G b (.grow n zP)) x o↔jm G x o:=by
 grind [jm,gF]
def Ext.relabel {G:Gh}{w:World}{b n:Nat}{pl zP :Place}(h:G b= .grow n pl):Ext G w (gF G b (.grow n zP)) w where
 os:=rfl
 tape:=rfl
 output:=rfl
 drawn _:=k9 _
 size:=k9 _
 lK x o hi:=⟨(Gz h x o).2 hi,rfl⟩
 still x hx:=by
  grind [J3]
 shape _ c _ _ hc:=⟨c,hc,rfl⟩
def bE.relabel {G:Gh}{w:World}{b n:Nat}{pl zP q:Place}(h:G b= .grow n pl)(hq:q≠pl):bE q G w (gF G b (.grow n zP)) w:=by
 intro x m hx
 grind [J3]
structure kE (pl:Place)(G:Gh)(w:World)(G' :Gh):Prop where
 ext:Ext G w G' w
 keeps:∀q,q≠pl->bE q G w G' w
 obj:∀b id,G b= .obj id->G' b= .obj id
 wf:WF G w->WF G' w
theorem kE.refl (pl:Place)(G:Gh)(w:World):kE pl G w G:=⟨Ext.refl _ _,λ_ _ _ _ h=>⟨h,rfl⟩,λ_ _ h=>h,λh=>h⟩
def jZ {G:Gh}{I:S8}{N:Nat->Prop}{w:World}{pl zP :Place}(hp' :zP ≠ .none){sz len:Nat}{cells:List Data}{x:Value}(h:VR G I N w pl (.own sz len cells) x) :
  ∃G',kE pl G w G' /\VR G' I N w zP (.own sz len cells) x:=by
 obtain ⟨hl,h⟩:=h
 rcases h with h|⟨hp,b,o,cap,c,e,f,h1,h2,h3,h4,h5,h6,h7⟩
 .exact ⟨G,kE.refl _ _ _,by simp_all [VR]⟩
 .refine ⟨gF G b (.grow (o+len * sz) zP),⟨Ext.relabel h6,λq hq=>bE.relabel h6 hq,λx id hx=>?_,λhwf x hx=>?_⟩,?_⟩
  .grind [J3]
  .have:x≠b:=by
    grind
   rw [J3 this];exact hwf x hx
  .exact ⟨hl,Or.inr ⟨hp',b,o,cap,c,e,f,h1,h2,h3,h4,h5,qu _ _ _,gB.mono (Ext.relabel h6).lK b o cells h7⟩⟩
def O3 {α:Type}(l:List α)(i:Nat)(v d:α)(h:i<O l):(l.set i v).getD i d=v:=by
 simp_all
theorem P4 {α:Type}(l:List α)(i j:Nat)(v d:α)(h:i≠j):(l.set i v).getD j d=l.getD j d:=by
 simp_all
theorem A3 {α:Type}{l:List α}{i:Nat}{v:α}(h:l[i]? =J v):i<O l:=by
 grind
def bN {α:Type}{l:List α}{i:Nat}{v d:α}(h:l[i]? =J v):l.getD i d=v:=M
section
variable {X:Cx} {l:J2} {S:Nat->Prop} {st:I5} {a:Act} {w:World} {G:Gh} {I:S8} {N:Nat->Prop}
def HR.JL {H:j9}{pl:Place}(hH:HR G I N w H){G' :Gh}(hm:kE pl G w G')(uy:∀id off,pl≠ .cell id off):HR G' I N w H:=by
 intro id o ho;exact OR.mono hm.ext (λ_ _=>rfl) (λ_ h=>h) id o (λh=>⟨hm.obj _ _ h,rfl⟩) (λoff=>hm.keeps _ (λe=>uy id off e.symm)) (hH id o ho)
def RI.Wk (h:RI X l S st a w G I N){s:Nat}{sz len:Nat}{cells:List Data}(hs:st.T[s]? =J (.own sz len cells))(l6:List Touch)
  {G' :Gh} (hm:kE (.slot s) G w G'):RI X l S { st with T:=st.T.set s (.d (.slice len cells)),l6 } a w G' I N where
 T s' t ht:=by
  by_cases he:s' =s
  .subst he
   have h1:=h.T s' t ht;rw [bN hs] at h1;rw [O3 _ _ _ _ (A3 hs)];have h2:VR G I N w (.slot s') (c7.K9 (.own sz len cells)) (a.tmps.getD t undef):=h1.K9;exact DR.mono hm.ext.lK _ _ h2
  .rw [P4 _ _ _ _ _ (λe=>he e.symm)]
   exact VR.mono hm.ext (λ_ _=>rfl) (λ_ h=>h) _ _ _ (Or.inr (hm.keeps _ (λe=>he (by cases e;rfl)))) (h.T s' t ht)
 L j hj d hd hn:=VR.mono hm.ext (λ_ _=>rfl) (λ_ h=>h) _ _ _ (Or.inr (hm.keeps _ (λe=>by cases e))) (h.L j hj d hd hn)
 H:=h.H.JL hm (λ_ _ e=>by cases e)
 wf:=hm.wf h.wf
 W1:=h.W1
def RI.Px (h:RI X l S st a w G I N){j0:Nat}{sz len:Nat}{cells:List Data}(hs:st.L[j0]? =J (.own sz len cells))
  {G' :Gh} (hm:kE (.loc j0) G w G'):RI X l S { st with L:=st.L.set j0 (.d (.slice len cells)) } a w G' I N where
 T s' t ht:=VR.mono hm.ext (λ_ _=>rfl) (λ_ h=>h) _ _ _ (Or.inr (hm.keeps _ (λe=>by cases e))) (h.T s' t ht)
 L j hj d hd hn:=by
  by_cases he:j=j0
  .subst he
   have h1:=h.L j hj d hd hn;rw [bN hs] at h1;rw [O3 _ _ _ _ (A3 hs)];have h2:VR G I N w (.loc j) (c7.K9 (.own sz len cells)) (a.tmps.getD d undef):=h1.K9;exact DR.mono hm.ext.lK _ _ h2
  .rw [P4 _ _ _ _ _ (λe=>he e.symm)]
   exact VR.mono hm.ext (λ_ _=>rfl) (λ_ h=>h) _ _ _ (Or.inr (hm.keeps _ (λe=>he (by cases e;rfl)))) (h.L j hj d hd hn)
 H:=h.H.JL hm (λ_ _ e=>by cases e)
 wf:=hm.wf h.wf
 W1:=h.W1
theorem nB:∀(l:List c7) (i:Nat) (x:Data),A8 (l.set i (.d x))<=A8 l
 |[],_,_=>U
 |v::vs,0,x=>by grind [A8,c7.J4]
 |v::vs,i+1,x=>by
  have:=nB vs i x
  grind [A8]
def RI.Wj (h:RI X l S st a w G I N){id off:Nat}{cs:List c7}{sz len:Nat}{cells:List Data}(hid:st.H[id]? =J (.cells cs))(hs:cs[off]? =J (.own sz len cells))(l6:List Touch)
  {G' :Gh} (hm:kE (.cell id off) G w G'):RI X l S { st with H:=st.H.set id (.cells (cs.set off (.d (.slice len cells)))),l6 } a w G' I N where
 T s' t ht:=by
  exact VR.mono hm.ext (λ_ _=>rfl) (λ_ h=>h) _ _ _ (Or.inr (hm.keeps _ (λe=>by cases e))) (h.T s' t ht)
 L j hj d hd hn:=by
  exact VR.mono hm.ext (λ_ _=>rfl) (λ_ h=>h) _ _ _ (Or.inr (hm.keeps _ (λe=>by cases e))) (h.L j hj d hd hn)
 H:=by
  intro id' o ho
  by_cases he:id' =id
  .subst he
   rw [E9 (A3 hid)] at ho;cases ho;have hO:=h.H id' _ hid;obtain ⟨hN,c,e,f,h1,h2,h3,h4,h5⟩:=hO
   .refine ⟨hN,c,e,f,h1,hm.obj _ _ h2,h3,M,λi x hx=>?_⟩
    by_cases hi:i=off
    .subst hi
     rw [E9 (A3 hs)] at hx;cases hx;obtain ⟨v,g1,g2⟩:=h5 i _ hs;refine ⟨v,g1,?_⟩;have h2:VR G I N w (.cell id' i) (c7.K9 (.own sz len cells)) v:=g2.K9;exact DR.mono hm.ext.lK _ _ h2
    .rw [x3 (λe=>hi e.symm)] at hx
     obtain ⟨v,g1,g2⟩:=h5 i x hx;exact ⟨v,g1,VR.mono hm.ext (λ_ _=>rfl) (λ_ h=>h) _ _ _ (Or.inr (hm.keeps _ (λe=>hi (by cases e;rfl)))) g2⟩
  .rw [x3 (λe=>he e.symm)] at ho
   exact OR.mono hm.ext (λ_ _=>rfl) (λ_ h=>h) id' o (λh=>⟨hm.obj _ _ h,rfl⟩) (λoff' =>hm.keeps _ (λe=>he (by cases e;rfl))) (h.H id' o ho)
 wf:=hm.wf h.wf
 W1:=by
  intro id' o ho
  by_cases he:id' =id
  .subst he
   rw [E9 (A3 hid)] at ho;obtain ⟨d1,d2⟩:=h.W1 id' _ hid
   grind [nB,x4.J4]
  .rw [x3 (λe=>he e.symm)] at ho
   exact h.W1 id' o ho
end
end Go.A5
namespace Go.A5
variable [E3]
structure jK (w w' :World)(o:Obj):Prop where
 os:w'.os=w.os
 tape:w'.tape=w.tape
 output:w'.output=w.output
 drawn:w.drawn<=w'.drawn
 size:w'.heap.size=w.heap.size+1
 old:∀b,b<w.heap.size->w'.heap[b]? =w.heap[b]?
 new:w'.heap[w.heap.size]? =J o
theorem jK.alloc (w:World)(o:Obj):jK w (w.alloc o) o :=
 ⟨rfl,rfl,rfl,k9 _,U,λb hb=>RowKit.Below.heap_alloc w o b hb,by show (w.heap.push o)[w.heap.size]? =_;simp⟩
def jK.drew {w w' :World}{o:Obj}(h:jK w w' o)(n:Nat)(hn:w'.drawn<=n):jK w { w' with drawn:=n } o:=⟨h.os,h.tape,h.output,s5 h.drawn hn,h.size,h.old,h.new⟩
def bH {G:Gh}{w:World}(hwf:WF G w){b:Nat}(h:G b≠ .free):b<w.heap.size:=by
 rcases A7 b w.heap.size with h' |h'
 .exact h'
 .exact absurd (hwf b h') h
section
variable {G:Gh} {w w' :World} {ob:Obj}
theorem jK.cell (hn:jK w w' ob){b:Nat}(hb:b<w.heap.size)(o:Nat):w'.cell? (ad b o)=w.cell? (ad b o):=by
 simp [World.cell?,hn.old b hb]
theorem jK.ext (hn:jK w w' ob)(hwf:WF G w)(mc:Rs):Ext G w (gF G w.heap.size mc) w' where
 os:=hn.os
 tape:=hn.tape
 output:=hn.output
 drawn _:=hn.drawn
 size:=by rw [hn.size];omega
 lK b o hi:=by
  have hb:b<w.heap.size:=bH hwf (by intro e;simp [jm,e] at hi);have hne:b≠w.heap.size:=V
  refine ⟨?_,hn.cell hb o⟩;unfold jm at hi ⊢;rw [J3 hne];exact hi
 still b hb:=by
  have hlt:b<w.heap.size:=bH hwf (by rintro e;rw [e] at hb;rcases hb with hb|⟨n,hb⟩<;>cases hb);exact ⟨J3 V,hn.old b hlt⟩
 shape b c e f hc:=by
  have hlt:b<w.heap.size:=by
   rcases A7 b w.heap.size with h|h
   .exact h
   .rw [Array.getElem?_eq_none h] at hc;cases hc
  exact ⟨c,by rw [hn.old b hlt];exact hc,rfl⟩
def jK.keeps (hn:jK w w' ob)(hwf:WF G w)(mc:Rs)(q:Place):bE q G w (gF G w.heap.size mc) w' :=by
 intro b n hb;have hlt:b<w.heap.size:=bH hwf (by rw [hb];simp);exact ⟨by grind [J3],hn.old b hlt⟩
def jK.zM (hn:jK w w' ob)(hwf:WF G w)(mc:Rs)(id:Nat):∀b,G b= .obj id->(gF G w.heap.size mc) b= .obj id/\w'.heap[b]? =w.heap[b]? :=by
 intro b hb;have hlt:b<w.heap.size:=bH hwf (by rw [hb];simp);exact ⟨by grind [J3],hn.old b hlt⟩
def jK.wf (hn:jK w w' ob)(hwf:WF G w)(mc:Rs):WF (gF G w.heap.size mc) w' :=by
 intro b hb;rw [hn.size] at hb;rw [J3 V];exact hwf b V
def jK.dQ (hn:jK w w' ob)(hwf:WF G w)(mc:Rs)(l:J2):mh l G w (gF G w.heap.size mc) w' :=
 λid _=>⟨hn.zM hwf mc id,λoff=>hn.keeps hwf mc (.cell id off)⟩
def jK.hr (hn:jK w w' ob)(hwf:WF G w)(mc:Rs){I I' :S8}{N N' :Nat->Prop}{H:j9}(hI:∀id,N id->I' id=I id)(hN:∀id,N id->N' id)(h:HR G I N w H) :
  HR (gF G w.heap.size mc) I' N' w' H :=
 λid o ho=>OR.mono (hn.ext hwf mc) hI hN id o (λhb=>hn.zM hwf mc id _ hb) (λ_=>hn.keeps hwf mc _) (h id o ho)
def jK.vr (hn:jK w w' ob)(hwf:WF G w)(mc:Rs){I I' :S8}{N N' :Nat->Prop}(hI:∀id,N id->I' id=I id)(hN:∀id,N id->N' id){pl:Place}{a:c7}{x:Value}(h:VR G I N w pl a x) :
  VR (gF G w.heap.size mc) I' N' w' pl a x :=
 VR.mono (hn.ext hwf mc) hI hN pl a x (Or.inr (hn.keeps hwf mc pl)) h
end
structure cu (X:Cx)(l:J2)(S:Nat->Prop)(entry:Nat)(st:I5)(a:Act)(w:World)(G:Gh)(I:S8)(N:Nat->Prop)
  (st' :I5) (k:Nat) (x' :Value) (w' :World) (G' :Gh) (I' :S8) (N' :Nat->Prop):Prop where
 ri:RI X l S st' a w' G' I' N'
 val:VR G' I' N' w' (.loc k) (st'.L.getD k .any) x'
 ext:Ext G w G' w'
 dQ:mh l G w G' w'
 ko:∀id,N id->st'.l6.any (Touch.F7 id)=F->I' id=I id/\∀b,G b= .obj id->G' b= .obj id/\w'.heap[b]? =w.heap[b]?
 inj:∀id,id<entry->N id->I' id=I id
 mono:∀id,N id->N' id
 len:O st.H<=O st'.H
 hle:∀id o',id<l.base->st'.H[id]? =J o' ->o'.J4<=id+1\/∃o,st.H[id]? =J o/\o'.J4<=o.J4
section
variable {P:Program} {X:Cx} {l:J2} {S:Nat->Prop} {st:I5} {a:Act} {w w' :World} {G:Gh} {I:S8} {N:Nat->Prop} {ob:Obj}
theorem cu.l6 {S:Nat->Prop}{entry:Nat}{st' :I5}{k:Nat}{x' :Value}{G' :Gh}{I' :S8}{N' :Nat->Prop}(h:cu X l S entry st a w G I N st' k x' w' G' I' N')(p:Touch):cu X l S entry st a w G I N { st' with l6:=p::st'.l6 } k x' w' G' I' N' where
 ri:=⟨h.ri.T,h.ri.L,h.ri.H,h.ri.wf,h.ri.W1⟩
 val:=h.val
 ext:=h.ext
 dQ:=h.dQ
 ko id hN ht:=h.ko id hN (by simp only [List.any_cons,D5] at ht;exact ht.2)
 inj:=h.inj
 mono:=h.mono
 len:=h.len
 hle:=h.hle
def RI.new (h:RI X l S st a w G I N)(hn:jK w w' ob)(mc:Rs):RI X l S st a w' (gF G w.heap.size mc) I N where
 T s t ht:=hn.vr h.wf mc (λ_ _=>rfl) (λ_ h=>h) (h.T s t ht)
 L j hj d hd hN:=hn.vr h.wf mc (λ_ _=>rfl) (λ_ h=>h) (h.L j hj d hd hN)
 H:=hn.hr h.wf mc (λ_ _=>rfl) (λ_ h=>h) h.H
 wf:=hn.wf h.wf mc
 W1:=h.W1
theorem RI.put (h:RI X l S st a w G I N){k:Nat}(hk:¬ S k)(v:c7):RI X l S (put st k v) a w G I N where
 T:=h.T
 L j hj d hd hN:=by
  have:k≠j:=by grind
  simp only [A5.put];rw [P4 _ _ _ _ _ this];exact h.L j hj d hd hN
 H:=h.H
 wf:=h.wf
 W1:=h.W1
def cu.same (h:RI X l S st a w G I N){k:Nat}(hk:¬ S k)(aX:k<O st.L)(entry:Nat){v:c7}{x:Value}(hv:VR G I N w (.loc k) v x) :
  cu X l S entry st a w G I N (put st k v) k x w G I N where
 ri:=h.put hk v
 val:=by simp_all [A5.put,O3]
 ext:=Ext.refl _ _
 dQ:=mh.refl _ _ _
 ko _ _ _:=⟨rfl,λ_ hb=>⟨hb,rfl⟩⟩
 inj _ _ _:=rfl
 mono _ h:=h
 len:=k9 _
 hle _ o _ ho:=Or.inr ⟨o,ho,k9 _⟩
def cu.fresh (h:RI X l S st a w G I N){k:Nat}(hk:¬ S k)(aX:k<O st.L)(entry:Nat)(hn:jK w w' ob)(mc:Rs){v:c7}{x:Value}
  (hv:VR (gF G w.heap.size mc) I N w' (.loc k) v x):cu X l S entry st a w G I N (put st k v) k x w' (gF G w.heap.size mc) I N where
 ri:=(h.new hn mc).put hk v
 val:=by simp_all [A5.put,O3]
 ext:=hn.ext h.wf mc
 dQ:=hn.dQ h.wf mc l
 ko id _ _:=⟨rfl,hn.zM h.wf mc id⟩
 inj _ _ _:=rfl
 mono _ h:=h
 len:=k9 _
 hle _ o _ ho:=Or.inr ⟨o,ho,k9 _⟩
end
section
variable {G:Gh} {I:S8} {N:Nat->Prop} {w w' :World}
theorem kI:∀(cs:List c7) (xs:List Data) (vs:List Value),L1 cs=J xs->K1 G I N w cs vs ->
  O xs=O cs/\∀(i:Nat) x,xs[i]? =J x->∃v,vs[i]? =J v/\DR G w x v
 |[],xs,vs,h,_=>by
  simp_all [L1]
 |c::cs,xs,vs,h,hv=>by
  obtain ⟨v,vs',rfl,h2,h3⟩:=hv;unfold L1 at h;split at h
  next x hx=>
   split at h
   next ys hys=>
    simp at h;subst h;obtain ⟨g1,g2⟩:=kI cs ys vs' hys h3;refine ⟨by simp [g1],λi y hi=>?_⟩;cases i with
    |zero =>
     unfold c7.data? at hx;split at hx
     .simp_all [VR]
     .have:=h2.K9 (zP := .none)
      simp_all [c7.K9,VR]
     .have:=h2.K9 (zP := .none)
      simp_all [c7.K9,VR]
     .cases hx
    |succ i=>simp_all
   .cases h
  .cases h
theorem Aq {b:Nat}:∀(o:Nat) (xs:List Data),(∀(i:Nat) x,xs[i]? =J x->jm G b (o+i)/\∃v,w.cell? (ad b (o+i))=J v/\DR G w x v)->gB G w b o xs
 |_,[],_=>by simp [gB]
 |o,x::xs,h=>by
  obtain ⟨h1,h2⟩:=h 0 x rfl;refine ⟨V,V,Aq (o+1) xs λi y hi=>?_⟩;have:=h (i+1) y M
  grind
def Pg (hwf:WF G w){c:Array Value}{e:TypeId}{f:Nat×Nat}(hn:jK w w' (.cells c e f))(hf:Mz f c.size){cs:List c7}{xs:List Data}{vs:List Value}
  (hd:L1 cs=J xs) (hv:K1 G I N w cs vs) (hc:∀(i:Nat) v,vs[i]? =J v->c[i]? =J v) {sz len cap:Nat} (hl:O xs=len * sz) (hcap:len<=cap) (hsz:cap * sz<=c.size) {pl:Place} (hp:pl≠ .none) :
  VR (gF G w.heap.size (.grow (len * sz) pl)) I N w' pl (.own sz len xs) (.slice (J (ad w.heap.size 0)) len cap):=by
 refine ⟨hl,Or.inr ⟨hp,w.heap.size,0,cap,c,e,f,rfl,hcap,hn.new,V,hf,U,?_⟩⟩;obtain ⟨g1,g2⟩:=kI cs xs vs hd hv;refine Aq 0 xs λi x hi=>?_
 obtain ⟨v,e1,e2⟩:=g2 i x hi;have hlt:=A3 hi;refine ⟨by simp [jm];omega,v,?_,DR.mono (hn.ext hwf _).lK _ _ e2⟩;rw [U5 hn.new];simp_all
end
end Go.A5
namespace Go.A5
variable [E3]
def Ia (P:Program)(e:TypeId)(n:Nat):Option (List Value) :=
 if n=0 then J [] else
 match P.info? e with
 |some i=>match i.zero with
  |some z=>J ((Array.range n).map (z.cells[· % z.cells.size]!)).toList
  |none=>K
 |none=>K
def cK (P:Program)(ck:Operand->y4->Bool)(o:Oper)(op:s8):Bool :=
 match o.op,op with
 | .alloc t,.alloc zero=>xh P t zero
 | .box _ x,.box y=>ck x y
 | .makeMap _ K,.makeMap=>W
 | .makeSlice t n c,.iY sz zero x y=>ck n x&&ck c y&&mJ P t sz&&(match P.underlying t with
  |some (.slice e)=>xh P e zero&&(match P.info? e with
   |some i=>Nat.beq i.size sz&&Nat.ble i.bytes 1000
   |none=>F)
  |_=>F)
 | .buildSlice t n parts,.J8 sz len zero ps _=>n==len&&mJ P t sz&&decide (len * sz<=16777216)&&(match P.underlying t with
  |some (.slice e)=>(match Ia P e (len * sz) with
   |some zs=>consts zs zero&&kO P ck (λi=>J (i * sz,sz)) parts.toList ps
   |none=>F)
  |_=>F)
 |_,_=>F
section
variable {P:Program} {X:Cx} {l:J2} {S:Nat->Prop} {st:I5} {a:Act} {w w' :World} {G:Gh} {I:S8} {N:Nat->Prop} {ob:Obj}
structure zB (l:J2)(st:I5)(N:Nat->Prop)(A6:Option Nat):Prop where
 new:¬ N (newId st A6)
 inside:∀i,A6=J i->i<O st.H
 base:l.base<=newId st A6
 strict:l.strict<=newId st A6
def JM (st:I5)(A6:Option Nat)(o:x4):O st.H<=O (E1 st A6 o).H:=by
 cases A6<;>simp [E1]
theorem iF {st:I5}{A6:Option Nat}(hi:∀i,A6=J i->i<O st.H)(o:x4)(id:Nat)(o' :x4)(h:(E1 st A6 o).H[id]? =J o') :
  (id=newId st A6/\o' =o)\/(id≠newId st A6/\st.H[id]? =J o'):=by
 cases A6 with
 |none =>
  grind [E1,newId,Nat.lt_trichotomy,y8,List.getElem?_eq_none]
 |some i =>
  grind [E1,newId,E9,x3]
def cu.newObj (h:RI X l S st a w G I N){k:Nat}(hk:¬ S k)(aX:k<O st.L)(entry:Nat){A6:Option Nat}(hid:zB l st N A6)(hn:jK w w' ob)(o:x4)
  (ho:OR (gF G w.heap.size (.obj (newId st A6))) (qt I (newId st A6) (w.heap.size,0)) (λi=>N i\/i=newId st A6) w' (newId st A6) o) {v:c7} {x:Value}
  (hv:VR (gF G w.heap.size (.obj (newId st A6))) (qt I (newId st A6) (w.heap.size,0)) (λi=>N i\/i=newId st A6) w' (.loc k) v x) :
  cu X l S entry st a w G I N (put (E1 st A6 o) k v) k x w' (gF G w.heap.size (.obj (newId st A6))) (qt I (newId st A6) (w.heap.size,0)) (λi=>N i\/i=newId st A6):=by
 have hI:∀id,N id->qt I (newId st A6) (w.heap.size,0) id=I id:=λid hN=>cS (by rintro rfl;exact hid.new hN)
 have hT:(E1 st A6 o).T=st.T:=by cases A6<;>rfl
 have hL:(E1 st A6 o).L=st.L:=by cases A6<;>rfl
 refine ⟨⟨?_,?_,?_,hn.wf h.wf _,?_⟩,?_,hn.ext h.wf _,hn.dQ h.wf _ l,?_,?_,λ_ h=>Or.inl h,JM st A6 o,?_⟩
 .intro s t ht
  simp only [A5.put,hT];exact hn.vr h.wf _ hI (λ_ h=>Or.inl h) (h.T s t ht)
 .intro j hj d hd hN
  have:k≠j:=by grind
  simp only [A5.put,hL];rw [P4 _ _ _ _ _ this];exact hn.vr h.wf _ hI (λ_ h=>Or.inl h) (h.L j hj d hd hN)
 .intro id o' ho'
  rcases iF hid.inside o id o' ho' with ⟨rfl,rfl⟩|⟨hne,hold⟩
  .exact ho
  .exact OR.mono (hn.ext h.wf _).sub hI (λ_ h=>Or.inl h) id o' (λhb=>hn.zM h.wf _ id _ hb) (λ_=>hn.keeps h.wf _ _) (h.H id o' hold)
 .intro id o' ho'
  rcases iF hid.inside o id o' ho' with ⟨rfl,rfl⟩|⟨hne,hold⟩
  .exact ⟨λhx=>absurd hx (by have:=hid.strict;omega),λhx=>absurd hx (by have:=hid.base;omega)⟩
  .exact h.W1 id o' hold
 .simp_all [A5.put,O3]
 .intro id hN _
  exact ⟨hI id hN,hn.zM h.wf _ id⟩
 .simp_all
 .intro id o' hb ho'
  rcases iF hid.inside o id o' ho' with ⟨rfl,rfl⟩|⟨hne,hold⟩
  .exact absurd hb (by have:=hid.base;omega)
  simp_all
def nr (n:Nat):Mz (0,0) n:=by intro o _ h;simp at h
def GC (hwf:WF G w){c:Array Value}{e:TypeId}(hn:jK w w' (.cells c e)){id:Nat}(hid:¬ N id){cs:List c7}(hv:K1 G I N w cs c.toList) :
  OR (gF G w.heap.size (.obj id)) (qt I id (w.heap.size,0)) (λi=>N i\/i=id) w' id (.cells cs):=by
 simp only [OR];refine ⟨Or.inr trivial,c,e,(0,0),by simpa using hn.new,U,nr _,?_,λi x hx=>?_⟩
 .have:=K1.length _ _ hv
  simp_all
 .let ⟨v,g1,g2⟩:=K1.get cs _ hv i x hx
  refine ⟨v,M,?_⟩;exact (hn.vr hwf _ (λj hj=>cS (by grind)) (λ_ h=>Or.inl h) g2).place
variable {ck:Operand->y4->Bool}
def Sy (h:RI X l S st a w G I N){k:Nat}(hk:¬ S k)(aX:k<O st.L)(entry:Nat){A6:Option Nat}(hid:zB l st N A6){o:Oper}{zero:List c7}
  (hc:cK P ck o (.alloc zero)=W):∃x w' G' I' N',(execOp a.eval o).run P w= .ok (.value x) w' /\
   cu X l S entry st a w G I N (put (E1 st A6 (.cells zero)) k (.ptr (newId st A6) 0)) k x w' G' I' N' /\(∀i,N' i↔N i\/i=newId st A6):=by
 let ⟨dst,dP,ty,pos,after,guard⟩:=o
 cases dP<;>simp [cK] at hc<;>try (cases hc)
 rename_i t
 let ⟨it,z,e1,e2,e3⟩:=jA (G:=G) (I:=I) (N:=N) (w:=w) hc
 have hz:(zeroValue t).run P w= .ok z w:=by simp [zeroValue,typeInfo,e1,e2]
 refine ⟨.pointer (J (ad w.heap.size 0)),w.alloc (.cells z.cells t),_,_,_,?_,cu.newObj h hk aX entry hid (jK.alloc w (.cells z.cells t)) (.cells zero) (GC h.wf (jK.alloc w _) hid.new e3) ?_,λi=>Iff.rfl⟩
 all_goals simp_all [execOp,Instr.alloc,newVar,newRow,VR,trivial]
def Zi (h:RI X l S st a w G I N)(hρ:cI ck G I N w a.eval (G7 st.T st.L)){k:Nat}(hk:¬ S k)(aX:k<O st.L)(entry:Nat){A6:Option Nat}(hid:zB l st N A6){o:Oper}{y:y4}
  (hc:cK P ck o (.box y)=W) {cs:List c7} (hcs:(G7 st.T st.L y).cells? =J cs):∃x w' G' I' N',(execOp a.eval o).run P w= .ok (.value x) w' /\
   cu X l S entry st a w G I N (put (E1 st A6 (.cells cs)) k (.ptr (newId st A6) 0)) k x w' G' I' N' /\(∀i,N' i↔N i\/i=newId st A6):=by
 let ⟨dst,dP,ty,pos,after,guard⟩:=o
 cases dP<;>simp [cK] at hc<;>try (cases hc)
 rename_i t x
 let ⟨g1,_⟩:=xG hcs (hρ _ _ hc)
 refine ⟨.pointer (J (ad w.heap.size 0)),w.alloc (.cells (a.eval x).cells t),_,_,_,?_,cu.newObj h hk aX entry hid (jK.alloc w (.cells (a.eval x).cells t)) (.cells cs) (GC h.wf (jK.alloc w _) hid.new g1) ?_,λi=>Iff.rfl⟩
 all_goals simp_all [execOp,Instr.box,newVar,newRow,VR,trivial]
def Zj (h:RI X l S st a w G I N){k:Nat}(hk:¬ S k)(aX:k<O st.L)(entry:Nat){A6:Option Nat}(hid:zB l st N A6){o:Oper}
  (hc:cK P ck o .makeMap=W):∃x w' G' I' N',(execOp a.eval o).run P w= .ok (.value x) w' /\
   cu X l S entry st a w G I N (put (E1 st A6 (.map [])) k (.map (newId st A6))) k x w' G' I' N' /\(∀i,N' i↔N i\/i=newId st A6):=by
 let ⟨dst,dP,ty,pos,after,guard⟩:=o
 unfold cK at hc;split at hc<;>try (cases hc)
 all_goals try (rename_i pQ kB;cases kB)
 rename_i t pQ kB;subst pQ;have hn:=jK.alloc w (.map #[] 0);refine ⟨.map (J w.heap.size),w.alloc (.map #[] 0),_,_,_,?_,cu.newObj h hk aX entry hid hn (.map []) ?_ ?_,λi=>Iff.rfl⟩
 .rfl
 .simp only [OR]
  exact ⟨Or.inr trivial,#[],0,by simpa using hn.new,U,by simp [ER],⟨U,U⟩⟩
 simp_all [VR,trivial]
theorem Bs (z:Array Value):∀n:Nat,(madeCells z (n * z.size)).toList=(c8 n z.toList).flatten:=by
 intro n
 by_cases h0:z.size=0
 .simp_all [List.eq_nil_of_length_eq_zero,c8,O8,List.flatten_cons,madeCells]
 .induction n with
  |zero=>simp [madeCells]
  |succ n ih =>
   have e:(c8 (n+1) z.toList).flatten=(c8 n z.toList).flatten++z.toList:=by
    simp_all [List.replicate_succ',List.flatten_append]
   rw [e,<- ih];apply List.ext_getElem
   .grind [madeCells]
   .intro i h1 h2
    have h1' :i<(n+1) * z.size:=by simp_all [madeCells]
    rw [Nat.add_mul,Nat.one_mul] at h1'
    rcases A7 i (n * z.size) with h|h
    .grind [List.getElem_append_left,madeCells]
    .rw [List.getElem_append_right M]
     have hm:i % z.size=i - n * z.size:=by
      have e2:i=(i - n * z.size)+n * z.size:=V
      have e3:i % z.size=((i - n * z.size)+n * z.size) % z.size:=congrArg (· % z.size) e2;rw [e3,Nat.add_mul_mod_self_right,Nat.mod_eq_of_lt V]
     grind [madeCells]
theorem Ip {zero:List c7}{zs:List Value}(h:K1 G I N w zero zs):∀n:Nat,K1 G I N w (c8 n zero).flatten (c8 n zs).flatten
 |0=>by simp [K1]
 |n+1=>K1.append _ _ _ _ h (Ip h n)
def JI {sz:Nat}{zero:List c7}{x y:c7}{n:Nat}(h:uB sz zero x y=J n):x= .d (.int .i64 n)/\y= .d (.int .i64 n)/\n<=1000000/\0<sz/\O zero=sz:=by
 simp_all [uB]<;>grind
def Sz (h:RI X l S st a w G I N)(hρ:cI ck G I N w a.eval (G7 st.T st.L)){k:Nat}(hk:¬ S k)(aX:k<O st.L)(entry:Nat){A6:Option Nat}(hid:zB l st N A6){o:Oper}{sz:Nat}{zero:List c7}{x y:y4}
  (hc:cK P ck o (.iY sz zero x y)=W) {n:Nat} (hn:uB sz zero (G7 st.T st.L x) (G7 st.T st.L y)=J n) :
  ∃x w' G' I' N',(execOp a.eval o).run P w= .ok (.value x) w' /\
   cu X l S entry st a w G I N (put (E1 st A6 (.cells (c8 n zero).flatten)) k (.s6 (newId st A6) sz 0 n)) k x w' G' I' N' /\(∀i,N' i↔N i\/i=newId st A6):=by
 let ⟨dst,dP,ty,pos,after,guard⟩:=o
 cases dP<;>simp [cK,c9] at hc<;>try (cases hc;done)
 rename_i t c1 c2
 let ⟨⟨⟨h1,h2⟩,ht⟩,hz⟩:=hc
 let ⟨e,hu,YO,hie⟩:=fZ ht
 let ⟨e1,e2,hb,hsz,hzl⟩:=JI hn
 simp [hu,c9] at hz
 let ⟨YT,Jt⟩:=hz
 let ⟨it,z,f1,f2,f3⟩:=jA (G:=G) (I:=I) (N:=N) (w:=w) YT
 rw [f1] at Jt;simp only [c9] at Jt;have s1:it.size=sz:=Nat.eq_of_beq_eq_true Jt.1;have s2:it.bytes<=1000:=j6 Jt.2;have g1:=hρ _ _ h1;have g2:=hρ _ _ h2;rw [e1] at g1;rw [e2] at g2;simp [VR,DR] at g1 g2;have hzs:z.cells.size=sz:=by
  have:=K1.length _ _ f3;simp_all
 have hb' :(it.bytes:Int) * (n:Int)<=281474976710656:=by
  have h:it.bytes * n<=1000 * 1000000:=Nat.mul_le_mul s2 hb;omega
 have hr:=run_make (P:=P) w t e it z hu f1 f2 .i64 .i64 n n V (Int.le_refl _) hb' V;have hcs:K1 G I N w (c8 n zero).flatten (madeCells z.cells (n * it.size)).toList:=by
  grind [Bs,Ip]
 have hnw:=jK.alloc w (.cells (madeCells z.cells (n * it.size)) e);refine ⟨.slice (J (ad w.heap.size 0)) n n,_,_,_,_,?_,cu.newObj h hk aX entry hid hnw (.cells (c8 n zero).flatten) (GC h.wf hnw hid.new hcs) ?_,λi=>Iff.rfl⟩
 .simp_all [execOp,ad]
 .simp only [VR]
  exact ⟨Or.inr trivial,n,U,k9 _,madeCells z.cells (n * it.size),e,(0,0),by simpa using hnw.new,by simp [size_madeCells,s1]⟩
def qj (hρ:cI ck G I N w a.eval (G7 st.T st.L)){o:Oper}{sz len:Nat}{zero:List c7}{ps:List (Nat×Nat×y4)}{b:Bool}
  (hc:cK P ck o (.J8 sz len zero ps b)=W) {cs:List c7} (hcs:Z7 zero (ps.map λ(o,s,x)=>(o,s,G7 st.T st.L x))=J cs) :
  ∃(ys:Array Value) (e:TypeId),(execOp a.eval o).run P w= .ok (.value (.slice (J (ad w.heap.size 0)) len len)) (w.alloc (.cells ys e))/\K1 G I N w cs ys.toList:=by
 let ⟨dst,dP,ty,pos,after,guard⟩:=o
 cases dP<;>simp [cK,c9,beq_iff_eq,decide_eq_true_eq] at hc<;>try (cases hc;done)
 rename_i t n parts
 let ⟨⟨⟨rfl,ht⟩,Ts⟩,hz⟩:=hc
 let ⟨e,hu,YO,hie⟩:=fZ ht
 have hsize:(sizeOf e).run P w= .ok sz w:=by simp_all [run_sizeOf]
 simp [hu] at hz;split at hz
 next zs hzs=>
  simp [c9] at hz
  let ⟨YT,Jt⟩:=hz
  have hzr:K1 G I N w zero zs:=fW _ _ YT
  let ⟨ys,f1,f2⟩:=nJ (P:=P) hρ parts.toList ps zero cs zs.toArray Jt V hcs
  refine ⟨ys,e,?_,f2⟩;have hno:¬ n * sz>2 ^ 24:=V
  have an7:(parts.map λ(i,x)=>(i,a.eval x)).toList=parts.toList.map λ(i,x)=>(i,a.eval x):=U
  by_cases h0:n * sz=0
  .unfold Ia at hzs
   rw [if_pos h0] at hzs;simp only [execOp,Instr.buildSlice,Sem.run_bind,run_underlying hu,Result.andThen_ok,hsize,if_neg hno,if_pos h0,Sem.run_pure];have e1:(Array.range (n * sz)).map (λx=>((#[]:Array Value)[x % (#[]:Array Value).size]!))= #[]:=by rw [h0];simp
   rw [e1];simp_all [newRow]
  .unfold Ia at hzs
   rw [if_neg h0] at hzs;split at hzs
   .split at hzs
    next z hzz=>
     simp only [Option.some.injEq] at hzs;have hzv:(zeroValue e).run P w= .ok z w:=by simp_all [zeroValue,typeInfo]
     have e1:(Array.range (n * sz)).map (λx=>z.cells[x % z.cells.size]!)=zs.toArray:=by rw [<- hzs]
     simp [execOp,Instr.buildSlice,Sem.run_bind,run_underlying hu,Result.andThen_ok,hsize,if_neg hno,if_neg h0,Sem.run_pure,hzv,an7,e1,f1];simp [newRow]
    .cases hzs
   .cases hzs
 .cases hz
def SA (h:RI X l S st a w G I N)(hρ:cI ck G I N w a.eval (G7 st.T st.L)){k:Nat}(hk:¬ S k)(aX:k<O st.L)(entry:Nat){o:Oper}{sz len:Nat}{zero:List c7}{ps:List (Nat×Nat×y4)}
  (hc:cK P ck o (.J8 sz len zero ps F)=W) {v:c7} {rs:List Nat} (hp:k8 (G7 st.T st.L) st.H (.J8 sz len zero ps F)=J (v,rs)) :
  ∃x w' G',(execOp a.eval o).run P w= .ok (.value x) w' /\cu X l S entry st a w G I N (put st k v) k x w' G' I N:=by
 simp [k8] at hp;split at hp
 next cs hcs=>
  split at hp
  next xs hxs=>
   split at hp
   next hl=>
    obtain ⟨rfl,rfl⟩:=hp
    let ⟨ys,e,hrun,hvs⟩:=qj (P:=P) hρ hc hcs
    have hn:=jK.alloc w (.cells ys e);have hlen:ys.size=len * sz:=by
     have h1:=K1.length _ _ hvs
     grind [kI]
    exact ⟨_,_,_,hrun,cu.fresh h hk aX entry hn _ (Pg h.wf hn (nr _) hxs hvs (λi v hi=>M) hl.2 (k9 _) V U)⟩
   .cases hp
  .cases hp
 .cases hp
def Hv (h:RI X l S st a w G I N)(hρ:cI ck G I N w a.eval (G7 st.T st.L)){k:Nat}(hk:¬ S k)(aX:k<O st.L)(entry:Nat){A6:Option Nat}(hid:zB l st N A6){o:Oper}{sz len:Nat}{zero:List c7}
  {ps:List (Nat×Nat×y4)} (hc:cK P ck o (.J8 sz len zero ps W)=W) {cs:List c7} (hcs:Z7 zero (ps.map λ(o,s,x)=>(o,s,G7 st.T st.L x))=J cs) (hl:O cs=len * sz) :
  ∃x w' G' I' N',(execOp a.eval o).run P w= .ok (.value x) w' /\
   cu X l S entry st a w G I N (put (E1 st A6 (.cells cs)) k (.s6 (newId st A6) sz 0 len)) k x w' G' I' N' /\(∀i,N' i↔N i\/i=newId st A6):=by
 let ⟨ys,e,hrun,hvs⟩:=qj (P:=P) hρ hc hcs
 have hn:=jK.alloc w (.cells ys e);have hlen:ys.size=len * sz:=by
  have h1:=K1.length _ _ hvs;simp_all
 refine ⟨_,_,_,_,_,hrun,cu.newObj h hk aX entry hid hn (.cells cs) (GC h.wf hn hid.new hvs) ?_,λi=>Iff.rfl⟩;simp only [VR];exact ⟨Or.inr trivial,len,U,k9 _,ys,e,(0,0),by simpa using hn.new,D⟩
end
end Go.A5
namespace Go.A5
variable [E3]
section
variable {P:Program} {X:Cx} {l:J2} {S:Nat->Prop} {st:I5} {a:Act} {w w' :World} {G:Gh} {I:S8} {N:Nat->Prop} {d8:Nat->Bool}
theorem RI.R1 (h:RI X l S st a w G I N)(hD:∀j,d8 j=W->S j):cI (X.ck d8) G I N w a.eval (G7 st.T st.L):=by
 intro x y hc;unfold Cx.ck at hc;split at hc
 next t s=>
  have ht:X.names[s]? =J t:=M
  exact (h.T s t ht).K9
 next t j=>
  simp only [c9,beq_iff_eq,o5] at hc;exact (h.L j (hD j hc.1.1) t hc.1.2 hc.2).K9
 next v b=>
  exact (dH v b hc).Tm
 all_goals simp_all [G7,c7.Tm,c7.K9,Act.eval,VR,K1]
theorem xg (st:I5)(y:y4):(F6 st y).2.H=st.H:=by
 simp_all [F6]<;>grind
theorem Cu (st:I5)(y:y4):O (F6 st y).2.L=O st.L:=by
 simp_all [F6]<;>grind
structure Xf (X:Cx)(l:J2)(S:Nat->Prop)(st:I5)(y:y4)(a:Act)(w:World)(G:Gh)(I:S8)(N:Nat->Prop)(pl:Place)(x:Value)(G' :Gh):Prop where
 ri:RI X l S (F6 st y).2 a w G' I N
 val:VR G' I N w pl (F6 st y).1 x
 ext:Ext G w G' w
 keeps:∀id off,bE (.cell id off) G w G' w
 obj:∀b id,G b= .obj id->G' b= .obj id
theorem RI.F6 (h:RI X l S st a w G I N)(hD:∀j,d8 j=W->S j){x:Operand}{y:y4}(hc:X.ck d8 x y=W){pl:Place}(hp:pl≠ .none) :
  ∃G',Xf X l S st y a w G I N pl (a.eval x) G' :=by
 have hρ:=h.R1 hD x y hc;have simple:(A5.F6 st y).2=st->VR G I N w .none (A5.F6 st y).1 (a.eval x)->∃G',Xf X l S st y a w G I N pl (a.eval x) G' :=
  λh1 h2=>⟨G,M,h2.place,Ext.refl _ _,λ_ _ _ _ h=>⟨h,rfl⟩,λ_ _ h=>h⟩
 cases y with
 |slot s=>exact simple rfl hρ
 |const v =>
  refine simple rfl ?_;unfold Cx.ck at hc;split at hc
  .simp_all
  .simp_all
  next v' b heq=>
   cases heq;exact dH _ _ hc
  all_goals simp_all [G7,c7.Tm,c7.K9,A5.F6,VR]
 |loc j =>
  by_cases hown:∃z len cells,st.L[j]? =J (.own z len cells)
  .obtain ⟨z,len,cells,hj⟩:=hown
   unfold Cx.ck at hc;split at hc
   .simp_all
   next t j' heq=>
    cases heq;simp only [c9,beq_iff_eq,o5] at hc;have h1:=h.L j (hD j hc.1.1) t hc.1.2 hc.2;rw [bN hj] at h1;obtain ⟨G',hm,hv⟩:=jZ hp h1;refine ⟨G',?_,?_,hm.ext,λid off=>hm.keeps _ U,hm.obj⟩
    .simp [A5.F6,hj]
     exact h.Px hj hm
    simp_all [A5.F6,Act.eval]
   all_goals simp_all
  .by_cases hnil:st.L[j]? =J .N7
   .have e:A5.F6 st (.loc j)=(.N7,st):=by simp_all [A5.F6]
    refine simple (by rw [e]) ?_;unfold Cx.ck at hc;split at hc
    .simp_all
    next t j' heq=>
     cases heq;simp only [c9,beq_iff_eq,o5] at hc;have h1:=h.L j (hD j hc.1.1) t hc.1.2 hc.2;simp_all [bN,VR,Act.eval]
    all_goals simp_all
   simp_all [A5.F6,G7,absurd]
theorem run_storeCells_at (b o:Nat)(e:TypeId)(f:Nat×Nat):∀(vs:List Value) (i:Nat) (cur:Array Value) (w:World),w.heap[b]? =J (.cells cur e f)->Mz f cur.size ->
  o+i+O vs<=cur.size->JT vs->(storeCells (ad b o) vs i).run P w= .ok () (w.setRow b (L6 cur.toList (o+i) vs).toArray)
 |[],i,cur,w,hg,hf,hl,_=>by
  simp [storeCells,L6,Nat.add_zero];cases w with
  |mk heap tape drawn os output =>
   simp_all [World.setRow]<;>grind
 |v::rest,i,cur,w,hg,hf,hl,h1=>by
  simp [o8] at hl;have hi:o+i<cur.size:=V
  have hcell:w.cell? (ad b (o+i))=J cur[o+i]:=by rw [U5 hg];simp
  have bS0:w.frozen? (ad b (o+i))=F:=by
   simp [World.frozen?];have:=hf (o+i) hi;simp_all
  have hst:(store ((ad b o).add i) v).run P w= .ok () (w.setRow b (cur.setIfInBounds (o+i) v)):=by
   rw [bp,run_store P w _ v _ (h1 v U),hcell]
   grind [setCell_eq_setRow]
  have ih:=run_storeCells_at b o e f rest (i+1) (cur.setIfInBounds (o+i) v) (w.setRow b (cur.setIfInBounds (o+i) v)) (setRow_heap w b cur _ e f hg) M D (λx hx=>h1 x (by simp [hx]));simp [storeCells,Sem.run_bind,hst,Result.andThen_ok,ih,setRow_setRow];have hlt:o+i<O cur.toList:=V
  simp [L6,Array.toList_setIfInBounds];rw [show o+(i+1)=o+i+1 from by omega,List.take_succ_eq_append_getElem M,List.drop_set_of_lt V];simp [List.take_set_of_le (k9 _),o8]
  grind
structure rJ (id b:Nat)(w w' :World)(G:Gh):Prop where
 mc:G b= .obj id
 os:w'.os=w.os
 tape:w'.tape=w.tape
 output:w'.output=w.output
 drawn:w.drawn<=w'.drawn
 size:w'.heap.size=w.heap.size
 other:∀b',b' ≠b->w'.heap[b']? =w.heap[b']?
 shape:∀(c:Array Value) (e:TypeId) (f:Nat×Nat),w.heap[b]? =J (Obj.cells c e f)->∃c' :Array Value,w'.heap[b]? =J (Obj.cells c' e f)/\c'.size=c.size
theorem rJ.ext {id b:Nat}(h:rJ id b w w' G):Ext G w G w' where
 os:=h.os
 tape:=h.tape
 output:=h.output
 drawn _:=h.drawn
 size:=by rw [h.size];omega
 lK b' o hi:=by
  have hne:b' ≠b:=by rintro rfl;simp [jm,h.mc] at hi
  exact ⟨hi,by simp [World.cell?,h.other b' hne]⟩
 still b' hb:=by
  have hne:b' ≠b:=by rintro rfl;rw [h.mc] at hb;simp_all
  exact ⟨rfl,h.other b' hne⟩
 shape b' c e f hc:=by
  by_cases hne:b' =b
  .subst hne;exact h.shape c e f hc
  .exact ⟨c,by rw [h.other b' hne];exact hc,rfl⟩
def rJ.keeps {id b:Nat}(h:rJ id b w w' G)(q:Place):bE q G w G w' :=by
 intro b' n hb;have hne:b' ≠b:=by rintro rfl;rw [h.mc] at hb;cases hb
 exact ⟨hb,h.other b' hne⟩
def rJ.zM {id b:Nat}(h:rJ id b w w' G){id' :Nat}(hne:id' ≠id):∀b',G b' = .obj id' ->G b' = .obj id' /\w'.heap[b']? =w.heap[b']? :=by
 intro b' hb;have:b' ≠b:=by rintro rfl;rw [h.mc] at hb;simp_all
 exact ⟨hb,h.other b' this⟩
def cu.write {D1:Nat->Prop}(h:RI X l S st a w G I N){k:Nat}(hk:¬ S k)(aX:k<O st.L)(entry:Nat){id b:Nat}(hw:rJ id b w w' G){o:x4}{o0:x4}(h0:st.H[id]? =J o0)
  (ho:OR G I N w' id o) (hmay:l.may id=W) (wE:o.J4<=max o0.J4 (id+1)\/(l.base<=id/\l.strict<=id)) (hD:∀i,D1 i↔N i) {v:c7} {x:Value} (hv:VR G I N w' (.loc k) v x) (l6:List Touch) (Ng:l6.any (Touch.F7 id)=W) :
  cu X l S entry st a w G I N (put { st with H:=st.H.set id o,l6 } k v) k x w' G I D1:=by
 have hN:∀i,N i->D1 i:=λi hi=>(hD i).2 hi
 refine ⟨⟨?_,?_,?_,λb' hb' =>h.wf b' (by rw [<- hw.size];exact hb'),?_⟩,?_,hw.ext,?_,?_,λ_ _ _=>rfl,hN,by simp [A5.put],?_⟩
 .intro s t ht
  exact VR.mono hw.ext (λ_ _=>rfl) hN _ _ _ (Or.inr (hw.keeps _)) (h.T s t ht)
 .intro j hj d hd hn
  have:k≠j:=by grind
  simp only [A5.put];rw [P4 _ _ _ _ _ this];exact VR.mono hw.ext (λ_ _=>rfl) hN _ _ _ (Or.inr (hw.keeps _)) (h.L j hj d hd hn)
 .intro id' o' ho'
  simp [A5.put] at ho'
  by_cases he:id' =id
  .subst he
   rw [E9 (A3 h0)] at ho';cases ho';exact OR.mono (Ext.refl _ _).sub (λ_ _=>rfl) hN _ _ (λh=>⟨h,rfl⟩) (λ_ _ _ h=>⟨h,rfl⟩) ho
  .rw [x3 (λe=>he e.symm)] at ho'
   exact OR.mono hw.ext (λ_ _=>rfl) hN id' o' (λhb=>hw.zM he _ hb) (λ_=>hw.keeps _) (h.H id' o' ho')
 .intro id' o' ho'
  simp [A5.put] at ho'
  by_cases he:id' =id
  .subst he
   rw [E9 (A3 h0)] at ho';cases ho';obtain ⟨d1,d2⟩:=h.W1 id' _ h0;omega
  .rw [x3 (λe=>he e.symm)] at ho'
   exact h.W1 id' o' ho'
 .simp only [A5.put]
  rw [O3 _ _ _ _ aX];exact VR.mono (Ext.refl _ _).sub (λ_ _=>rfl) hN _ _ _ (Or.inr (λ_ _ h=>⟨h,rfl⟩)) hv
 .intro id' hm
  have hne:id' ≠id:=by grind
  exact ⟨hw.zM hne,λoff=>hw.keeps _⟩
 .intro id' _ ht
  have hne:id' ≠id:=by grind [A5.put]
  exact ⟨rfl,hw.zM hne⟩
 .grind [A5.put]
end
end Go.A5
namespace Go.A5
variable [E3]
def NK (l:List c7)(off:Nat)(vs:List c7)(h:off+O vs<=O l)(i:Nat) :
  (splice l off vs)[i]? =if i<off then l[i]? else if i<off+O vs then vs[i - off]? else l[i]? :=by
 unfold splice
 grind
def kR (l:List Value)(off:Nat)(vs:List Value)(h:off+O vs<=O l)(i:Nat) :
  (L6 l off vs)[i]? =if i<off then l[i]? else if i<off+O vs then vs[i - off]? else l[i]? :=by
 unfold L6
 grind
def kT (l:List Value)(off:Nat)(vs:List Value)(h:off+O vs<=O l):O (L6 l off vs)=O l:=by
 grind [L6]
def NL (l:List c7)(off:Nat)(vs:List c7)(h:off+O vs<=O l):O (splice l off vs)=O l:=by
 grind [splice]
theorem iw:∀(a b:List c7),A8 (a++b)=max (A8 a) (A8 b)
 |[],b=>by simp [A8]
 |v::vs,b=>by simp only [x6,A8,iw vs b];omega
theorem qN:∀(n:Nat) (a:List c7),A8 (a.take n)<=A8 a
 |0,a=>by simp [A8]
 |n+1,[]=>U
 |n+1,v::vs=>by have:=qN n vs;grind [A8]
theorem qM:∀(n:Nat) (a:List c7),A8 (a.drop n)<=A8 a
 |0,a=>U
 |n+1,[]=>U
 |n+1,v::vs=>by have:=qM n vs;grind [A8]
theorem xA (l:List c7)(off:Nat)(vs:List c7):A8 (splice l off vs)<=max (A8 l) (A8 vs):=by
 grind [splice,iw,qN,qM]
section
variable {P:Program} {X:Cx} {l:J2} {S:Nat->Prop} {st:I5} {a:Act} {w w' :World} {G:Gh} {I:S8} {N:Nat->Prop} {d8:Nat->Bool}
def TL {v:c7}{cs:List c7}(hv:v.cells? =J cs){id off:Nat}{x:Value}(h:VR G I N w (.cell id off) v x) :
  x.cells.size=O cs/\JT x.cells.toList/\∀(i:Nat) c,cs[i]? =J c->∃u,x.cells.toList[i]? =J u/\VR G I N w (.cell id (off+i)) c u:=by
 unfold c7.cells? at hv;split at hv
 .split at hv
  next hall=>
   simp at hv;subst hv;obtain ⟨xs,rfl,h2⟩:=h;refine ⟨by simpa [Value.cells] using K1.length _ _ h2,nR _ _ hall h2,λi c hc=>?_⟩;obtain ⟨u,g1,g2⟩:=K1.get _ _ h2 i c hc;exact ⟨u,g1,g2.place⟩
  .cases hv
 .split at hv
  next hone=>
   simp at hv;subst hv;obtain ⟨h1,h2⟩:=mO hone h;rw [h2];refine ⟨rfl,λu hu=>?_,λi c hc=>?_⟩
   all_goals grind
  .cases hv
def cu.pre {entry:Nat}{st1 st' :I5}{G1 G' :Gh}{I' :S8}{N' :Nat->Prop}{k:Nat}{x:Value}(hx:Ext G w G1 w)(hk:∀id off,bE (.cell id off) G w G1 w)(ho:∀b id,G b= .obj id->G1 b= .obj id)
  (hH:st1.H=st.H) (h:cu X l S entry st1 a w G1 I N st' k x w' G' I' N'):cu X l S entry st a w G I N st' k x w' G' I' N' where
 ri:=h.ri
 val:=h.val
 ext:=hx.trans h.ext
 dQ:=mh.trans (λid _=>⟨λb hb=>⟨ho b id hb,rfl⟩,hk id⟩) h.dQ
 ko id hN ht:=by
  obtain ⟨h1,h2⟩:=h.ko id hN ht;simp_all
 inj:=h.inj
 mono:=h.mono
 len:=by rw [<- hH];exact h.len
 hle id o' hb ho' :=by
  have:=h.hle id o' hb ho';simp_all
def xe {id b:Nat}{c:Array Value}{e:TypeId}{f:Nat×Nat}(hb:w.heap[b]? =J (.cells c e f))(hl:G b= .obj id){c' :Array Value}(hs:c'.size=c.size):rJ id b w (w.setRow b c') G where
 mc:=hl
 os:=rfl
 tape:=rfl
 output:=rfl
 drawn:=k9 _
 size:=U
 other b' hne:=setRow_other w b b' c' hne
 shape c0 e0 f0 h0:=by
  grind [setRow_heap]
def DZ {id:Nat}{l0:List c7}{off:Nat}{cs:List c7}{c:Array Value}{e:TypeId}{f:Nat×Nat}(hN:N id)(hb:w.heap[(I id).1]? =J (.cells c e f))(Jn:G (I id).1= .obj id)(hf:Mz f c.size)
  (hsz:(I id).2+O l0<=c.size) (hold:∀(i:Nat) x,l0[i]? =J x->∃v,c[(I id).2+i]? =J v/\VR G I N w (.cell id i) x v)
  (hfit:off+O cs<=O l0) {vs:List Value} (hlen:O vs=O cs) (hnew:∀(i:Nat) x,cs[i]? =J x->∃u,vs[i]? =J u/\VR G I N w (.cell id (off+i)) x u) :
  OR G I N (w.setRow (I id).1 (L6 c.toList ((I id).2+off) vs).toArray) id (.cells (splice l0 off cs)) /\
   rJ id (I id).1 w (w.setRow (I id).1 (L6 c.toList ((I id).2+off) vs).toArray) G:=by
 have xO :(I id).2+off+O vs<=O c.toList:=D
 have hsize:(L6 c.toList ((I id).2+off) vs).toArray.size=c.size:=by simp_all [kT]
 have hw:=xe (G:=G) hb Jn hsize;refine ⟨?_,hw⟩;refine ⟨hN,_,e,f,setRow_heap w _ c _ e f hb,Jn,M,by simp_all [NL],λi x hx=>?_⟩;rw [NK _ _ _ hfit] at hx;have hg:(L6 c.toList ((I id).2+off) vs).toArray[(I id).2+i]? =(L6 c.toList ((I id).2+off) vs)[(I id).2+i]? :=U
 rw [hg,kR _ _ _ xO];have mono:∀{pl:Place} {x:c7} {v:Value},VR G I N w pl x v->VR G I N (w.setRow (I id).1 (L6 c.toList ((I id).2+off) vs).toArray) pl x v :=
  λh=>VR.mono hw.ext (λ_ _=>rfl) (λ_ h=>h) _ _ _ (Or.inr (hw.keeps _)) h
 by_cases h1:i<off
 .grind
 .all_goals grind
theorem HR.wr {H H' :j9}(hH:HR G I N w H){id off:Nat}{cs:List c7}(h:wr H id off cs=J H') :
  ∃l0 c e f,H[id]? =J (.cells l0)/\H' =H.set id (.cells (splice l0 off cs))/\off+O cs<=O l0/\N id/\w.heap[(I id).1]? =J (.cells c e f)/\G (I id).1= .obj id/\Mz f c.size /\
   (I id).2+O l0<=c.size/\∀(i:Nat) x,l0[i]? =J x->∃v,c[(I id).2+i]? =J v/\VR G I N w (.cell id i) x v:=by
 unfold A5.wr at h;split at h
 next l0 hl=>
  split at h
  .have ho:=hH id _ hl
   simp_all [OR]
  .cases h
 .cases h
def AK (P:Program)(ck:Operand->y4->Bool)(o:Oper)(op:s8):Bool :=
 match o.op,op with
 | .store t x y,.store n x' y' =>ck x x' &&ck y y' &&P.cellsOf t==n&&(P.info? t).isSome&&decide (0<n)
 |_,_=>F
def RP (h:RI X l S st a w G I N)(hD:∀j,d8 j=W->S j){k:Nat}(hk:¬ S k)(aX:k<O st.L)(entry:Nat){o:Oper}{n:Nat}{x y:y4}(hc:AK P (X.ck d8) o (.store n x y)=W){E:Env}(hE:E.lim=l)
  {st' :I5} (he:S6 E k n st (G7 st.T st.L x) y=J st'):∃w' G',(execOp a.eval o).run P w= .ok .skip w' /\cu X l S entry st a w G I N st' k undef w' G' I N:=by
 obtain ⟨dst,dP,ty,pos,after,guard⟩:=o;cases dP<;>simp [AK,c9,beq_iff_eq] at hc<;>try (cases hc;done)
 rename_i t x' y';obtain ⟨⟨⟨⟨hx,hy⟩,hn⟩,hi⟩,hpos⟩:=hc;have h1:=h.R1 hD _ _ hx;unfold S6 at he;split at he
 next id off hp=>
  rw [hp] at h1;simp [VR] at h1;split at he
  next cs hcs=>
   split at he
   .split at he
    next H' hH'=>
     obtain ⟨G1,hX⟩:=h.F6 hD hy (pl:= .cell id off) U;obtain ⟨c1,c2,c3⟩:=TL hcs hX.val;obtain ⟨l0,c,e,f,g1,g2,g3,g4,g5,g6,g7,g8,g9⟩:=hX.ri.H.wr hH';obtain ⟨hO,hW⟩:=DZ g4 g5 g6 g7 g8 g9 g3 (vs:=(a.eval y').cells.toList) V c3;have hrun:(storeCells (ad (I id).1 ((I id).2+off)) (a.eval y').cells.toList).run P w= .ok () (w.setRow (I id).1 (L6 c.toList ((I id).2+off) (a.eval y').cells.toList).toArray):=by
      grind [run_storeCells_at]
     have hs:(sizeOf t).run P w= .ok n w:=by simp_all [run_sizeOf]
     have hsz:¬ ((a.eval y').cells.size≠n):=V
     have wE:(x4.cells (splice l0 off cs)).J4<=max (x4.cells l0).J4 (id+1)\/(l.base<=id/\l.strict<=id):=by
      grind [xA,x4.J4]
     have hM:=cu.write (D1:=N) hX.ri hk (by grind [Cu]) entry hW g1 hO M wE (λ_=>Iff.rfl) (v:= .any) (x:=undef) (by simp [VR]) (.obj id::(F6 st y).2.l6) (by simp [Touch.F7]);refine ⟨w.setRow (I id).1 (L6 c.toList ((I id).2+off) (a.eval y').cells.toList).toArray,G1,?_,?_⟩
     .simp_all [execOp,Instr.storeAt,Instr.sureAddr,storeVar,Sem.run_bind,Sem.run_pure,Result.andThen_ok,if_neg]
     .have:=cu.pre (st:=st) hX.ext hX.keeps hX.obj (xg st y) hM
      simp_all
    .cases he
   .cases he
  .cases he
 .cases he
end
end Go.A5
namespace Go.A5
variable [E3]
structure PV (X:Cx)(j8:List o3)(S:Nat->Prop)(st:I5)(a:Act)(w:World)(I:S8):Prop where
 slot:∀(j:Nat) ai s t d,S j->st.L[j]? ≠J (.tuple [])->j8[j]? =J ai->ai.op=s8.S0 (.slot s)->X.names[s]? =J t->(X.ops[j]?).bind (·.dst)=J d->X.names.contains d=F ->
  st.l6.any (Touch.U8 s)=F->a.tmps.getD d undef=a.tmps.getD t undef
 cell:∀(j:Nat) ai x id off d l0,S j->st.L[j]? ≠J (.tuple [])->j8[j]? =J ai->ai.op=s8.load K x->bU st x=J (id,off)->st.H[id]? =J (.cells l0)->off<O l0 ->
  st.l6.any (Touch.aO id off)=F->(X.ops[j]?).bind (·.dst)=J d->X.names.contains d=F->w.cell? (ad (I id).1 ((I id).2+off))=J (a.tmps.getD d undef)
structure Tk (X:Cx)(l:J2)(S:Nat->Prop)(st st1:I5)(a:Act)(w:World)(G:Gh)(I:S8)(N:Nat->Prop)(k:Nat)(v:c7)(x:Value)(G1:Gh):Prop where
 ri:RI X l S st1 a w G1 I N
 val:VR G1 I N w (.loc k) v x
 ext:Ext G w G1 w
 dQ:mh l G w G1 w
 obj:∀b id:Nat,G b= .obj id->G1 b= .obj id
 len:O st1.H=O st.H
 L:O st1.L=O st.L
 l6:∀p,st.l6.any p=W->st1.l6.any p=W
 hle:∀(id:Nat) (o' :x4),st1.H[id]? =J o' ->∃o:x4,st.H[id]? =J o/\o'.J4<=o.J4
section
variable {P:Program} {X:Cx} {l:J2} {S:Nat->Prop} {st:I5} {a:Act} {w w' :World} {G:Gh} {I:S8} {N:Nat->Prop} {d8:Nat->Bool} {j8:List o3}
def rX (h:RI X l S st a w G I N)(hpv:PV X j8 S st a w I)(hT:O st.T=O X.names)(hD:∀j,d8 j=W->S j){k:Nat}(hk:¬ S k){x:Operand}{y:y4}(hc:X.ck d8 x y=W){sz len:Nat}
  {cells:List Data} {st1:I5} (ht:T1 l j8 st sz y=J (len,cells,st1)):∃G1,Tk X l S st st1 a w G I N k (.own sz len cells) (a.eval x) G1:=by
 unfold T1 at ht;split at ht
 .split at ht
  next hz=>
   subst hz;simp at ht;obtain ⟨rfl,rfl,rfl⟩:=ht;refine ⟨G,h,?_,Ext.refl _ _,mh.refl _ _ _,λ_ _ h=>h,rfl,rfl,λ_ h=>h,λ_ o h=>⟨o,h,k9 _⟩⟩;unfold Cx.ck at hc;split at hc
   .simp_all
   .simp_all
   next v' b heq=>
    cases heq;exact (dH _ _ hc).place
   all_goals simp_all
  .cases ht
 .cases ht
 .cases ht
 next j=>
  have an2:∃t,x= .tmp t/\d8 j=W/\(X.ops[j]?).bind (·.dst)=J t/\X.names.contains t=F:=by
   simp_all [Cx.ck]<;>grind
  obtain ⟨t,rfl,hDj,Bj,Hl⟩:=an2;have hSj:=hD j hDj;have hjk:j≠k:=by grind
  split at ht
  next z len' cells' hj=>
   split at ht
   next hz=>
    subst hz;simp at ht;obtain ⟨rfl,rfl,rfl⟩:=ht;have h1:=h.L j hSj t Bj Hl;rw [bN hj] at h1;obtain ⟨G',hm,hv⟩:=jZ (zP := .loc k) U h1;exact ⟨G',h.Px hj hm,hv,hm.ext,λid _=>⟨λb hb=>⟨hm.obj b id hb,rfl⟩,λoff=>hm.keeps _ U⟩,hm.obj,rfl,U,λ_ h=>h,λ_ o h=>⟨o,h,k9 _⟩⟩
   .cases ht
  next bW7 be8 hj=>
   split at ht
   next ai hai=>
    unfold aZ at ht;split at ht
    next s hop=>
     split at ht
     .cases ht
     .split at ht
      next z len' cells' hs=>
       split at ht
       next hz=>
        simp at ht;obtain ⟨rfl,rfl,rfl⟩:=ht;obtain ⟨ts,hts⟩:∃ts,X.names[s]? =J ts:=by
         grind
        have h1:=h.T s ts hts;rw [bN hs] at h1;have he:=hpv.slot j ai s ts t hSj (by rw [hj];simp) hai hop hts Bj Hl M;obtain ⟨G',hm,hv⟩:=jZ (zP := .loc k) U h1;refine ⟨G',h.Wk hs _ hm,?_,hm.ext,λid _=>⟨λb hb=>⟨hm.obj b id hb,rfl⟩,λoff=>hm.keeps _ U⟩,hm.obj,rfl,rfl,λp hp=>M,λ_ o h=>⟨o,h,k9 _⟩⟩;simp_all [Act.eval]
       .cases ht
      .cases ht
    next x' hop=>
     split at ht
     next id off YN=>
      split at ht
      .cases ht
      next hun=>
       simp only [Bool.or_eq_true,o5,not_or,Bool.not_eq_true,Bool.not_eq_false] at hun;split at ht
       next cs hcs=>
        split at ht
        next z len' cells' Ie=>
         split at ht
         next hz=>
          simp at ht;obtain ⟨rfl,rfl,rfl⟩:=ht;have hO:=h.H id _ hcs;obtain ⟨hN,c,e,f,g1,g2,g3,g4,g5⟩:=hO
          .obtain ⟨v,e1,e2⟩:=g5 off _ Ie
           have he:=hpv.cell j ai x' id off t cs hSj (by rw [hj];simp) hai hop YN hcs (A3 Ie) hun.1 Bj Hl;rw [U5 g1,e1] at he;obtain ⟨G',hm,hv⟩:=jZ (zP := .loc k) U e2;refine ⟨G',h.Wj hcs Ie _ hm,?_,hm.ext,λid' bS3 =>⟨λb hb=>⟨hm.obj b id' hb,rfl⟩,λoff' =>hm.keeps _ ?_⟩,hm.obj,U,rfl,λp hp=>M,λid' o' ho' =>?_⟩
           .simp_all [Act.eval]
           .grind
           .by_cases hee:id' =id
            .grind [E9,A3,x4.J4,nB]
            grind
         .cases ht
        .cases ht
       .cases ht
     .cases ht
    .cases ht
   .cases ht
  .cases ht
def SZ (P:Program)(t:TypeId):Bool :=
 match P.underlying t with
 |some (.slice _)=>W
 |some .string=>W
 |_=>F
def dU {t t2 e ty:TypeId}{i:TypeInfo}(hu:P.underlying t=J (.slice e))(hi:P.info? e=J i)(ht2:SZ P t2=W)
  {base:Option Addr} {sLen sCap m:Nat} {x:Value} (hl:(Builtin.lenOf x).run P w= .ok m w) {nw:Array Value}
  (hnew:(Builtin.firstCells i.size m x).run P w= .ok nw w) (hle:sLen+m<=sCap):(Builtin.append_ #[t,t2] ty #[.slice base sLen sCap,x]).run P w =
   (match base with
    |some a=>((storeCells (a.add (sLen * i.size)) nw.toList).run P w).andThen λ_ w' => .ok (.slice base (sLen+m) sCap) w'
    |none=> .ok (.slice base (sLen+m) sCap) w):=by
 unfold SZ at ht2;split at ht2
 next e2 h2=>
  cases base<;>simp [Builtin.append_,run_underlying hu,sizeOf,typeInfo,hi,run_underlying h2,hl,hnew,hle]
 next h2=>
  cases base<;>simp [Builtin.append_,run_underlying hu,sizeOf,typeInfo,hi,run_underlying h2,hl,hnew,hle]
 .cases ht2
def Dt (need old:Nat)(e:TypeId)(t:Nat):need<=(Question.appendCap need old e).cut t:=by
 simp [Question.cut]
def gq {t t2 e ty:TypeId}{i:TypeInfo}{z:Value}(hu:P.underlying t=J (.slice e))(hi:P.info? e=J i)(hz:i.zero=J z)(ht2:SZ P t2=W)
  {base:Option Addr} {sLen sCap m:Nat} {x:Value} (hl:(Builtin.lenOf x).run P w= .ok m w) {nw old:Array Value}
  (hnew:(Builtin.firstCells i.size m x).run P w.drew= .ok nw w.drew) (hold:(Builtin.firstCells i.size sLen (.slice base sLen sCap)).run P w.drew= .ok old w.drew) (hgt:sCap<sLen+m)
  (h63:((sLen+m:Nat):Int)<=9223372036854775807) (hfit:Builtin.nextslicecap (sLen+m) sCap * i.bytes<=281474976710656) :
  ∃cap,sLen+m<=cap/\(Builtin.append_ #[t,t2] ty #[.slice base sLen sCap,x]).run P w =
   .ok (.slice (J (ad w.heap.size 0)) (sLen+m) cap) (w.drew.alloc (.cells (old++nw++Builtin.zeroCells z.cells (cap - (sLen+m))) e)):=by
 refine ⟨(Question.appendCap (sLen+m) sCap e).cut (w.tape w.drawn (.appendCap (sLen+m) sCap e)),Dt _ _ _ _,?_⟩;have hn:¬ (sLen+m<=sCap):=V
 have h63' :¬ (9223372036854775807<((sLen:Int)+(m:Int))):=V
 have aB6 :¬ (281474976710656<Builtin.nextslicecap (sLen+m) sCap * i.bytes):=V
 unfold SZ at ht2;split at ht2
 next e2 h2=>
  simp [Builtin.append_,run_underlying hu,sizeOf,typeInfo,hi,run_underlying h2,hl,hn,h63',aB6,Question.forced,hnew,hold,zeroValue,hz,newRow]
 next h2=>
  simp [Builtin.append_,run_underlying hu,sizeOf,typeInfo,hi,run_underlying h2,hl,hn,h63',aB6,Question.forced,hnew,hold,zeroValue,hz,newRow]
 .cases ht2
end
end Go.A5
namespace Go.A5
variable [E3]
section
variable {P:Program} {X:Cx} {l:J2} {S:Nat->Prop} {st:I5} {a:Act} {w w' :World} {G:Gh} {I:S8} {N:Nat->Prop} {d8:Nat->Bool} {j8:List o3}
theorem jC {w w2:World}(h:w2.heap=w.heap)(x:Addr):w2.cell? x=w.cell? x:=by simp [World.cell?,h]
def gd (x:Addr)(w:World):(loadCells x 0).run P w= .ok #[] w:=by rfl
def qY {H:j9}(hH:HR G I N w H){y:c7}{x:Value}(hv:VR G I N w .none y x){sz m:Nat}(hsz:0<sz){cs:List c7}(h:C7 H sz y=J (m,cs)) :
  ∃vs:List Value,(Builtin.lenOf x).run P w= .ok m w/\(∀w2:World,w2.heap=w.heap->(Builtin.firstCells sz m x).run P w2= .ok vs.toArray w2)/\K1 G I N w cs vs/\O cs=m * sz:=by
 unfold C7 at h;split at h
 next len cells=>
  split at h
  .simp at h;obtain ⟨rfl,rfl⟩:=h
   rcases hv with ⟨rfl|⟨a0,rfl⟩,rfl,rfl⟩|⟨b,o,cap,rfl,h2,h3⟩
   .simp_all [Builtin.lenOf,Builtin.firstCells,K1]
   .simp_all [Builtin.lenOf,Builtin.firstCells,gd,K1]
   .obtain ⟨vs,g1,g2,g3⟩:=gB.vals (I:=I) (N:=N) o cells h3
    refine ⟨vs,by rfl,λw2 Sj=>?_,g3,M⟩;have:=run_loadCells_list (P:=P) w2 (ad b o) vs (λj v hj=>by grind [bp,jC]);simp_all [Builtin.firstCells]
  .cases h
 next z len cells=>
  split at h
  next hz=>
   subst hz;simp at h;obtain ⟨rfl,rfl⟩:=h;have h0:=hv.K9 (zP := .none);simp only [VR] at hv
   rcases h0 with ⟨rfl|⟨a0,rfl⟩,rfl,rfl⟩|⟨b,o,cap,rfl,h2,h3⟩
   .simp_all [Builtin.lenOf,Builtin.firstCells,K1]
   .simp_all [Builtin.lenOf,Builtin.firstCells,gd,K1]
   .obtain ⟨vs,g1,g2,g3⟩:=gB.vals (I:=I) (N:=N) o cells h3
    refine ⟨vs,by rfl,λw2 Sj=>?_,g3,M⟩;have:=run_loadCells_list (P:=P) w2 (ad b o) vs (λj v hj=>M);simp_all [Builtin.firstCells]
  .cases h
 next id z lo len=>
  split at h
  next hz=>
   subst hz;split at h
   next us hus=>
    simp at h;obtain ⟨rfl,rfl⟩:=h;obtain ⟨_,cap,rfl,_⟩:=hv
    by_cases h0:len * z=0
    .have hlen:us=[]:=by
      grind [rd]
     simp_all [Builtin.lenOf,K1,Builtin.firstCells,gd]
    .obtain ⟨_,xs,g1,g2,g3,g4⟩:=hH.rd hus V
     refine ⟨xs,by rfl,λw2 Sj=>?_,T7 _ _ (by simp [g1,g2]) λj b v hj hv=>?_,M⟩
     .have:=run_loadCells_list (P:=P) w2 (ad (I id).1 ((I id).2+lo)) xs (λj v hj=>by grind [bp,jC])
      simp_all [Builtin.firstCells]
     .simp at hj
      obtain ⟨b',hb',rfl⟩:=hj;exact (g4 j b' v hb' hv).K9
   .cases h
  .cases h
 next s=>
  split at h
  next hz=>
   subst hz;simp at h;obtain ⟨rfl,rfl⟩:=h;subst hv;have hsize:(⟨s.toArray⟩:ByteArray).size=O s:=by rfl
   refine ⟨s.map λb=> .int .u8 b.toNat,by rfl,λw2 _=>?_,T7 _ _ U λj b v hj hv=>?_,U⟩
   .simp [Builtin.firstCells]
   grind [VR,DR]
  .cases h
 .cases h
def Jg {b n n' :Nat}{pl:Place}(hl:G b= .grow n pl)(hn:n<=n'){c:Array Value}{e:TypeId}{f:Nat×Nat}(hb:w.heap[b]? =J (.cells c e f)){c' :Array Value}(hs:c'.size=c.size)
  (hc:∀i,i<n->c'[i]? =c[i]?):Ext G w (gF G b (.grow n' pl)) (w.setRow b c') where
 os:=rfl
 tape:=rfl
 output:=rfl
 drawn _:=k9 _
 size:=U
 lK b' o hi:=by
  by_cases he:b' =b
  .subst he
   have ho:o<n:=by simp_all [jm]
   refine ⟨by simp [jm];omega,?_⟩;rw [U5 (setRow_heap w b' c c' e f hb),U5 hb];exact hc o ho
  simp_all [jm,J3,World.cell?,setRow_other]
 still b' hb' :=by
  grind [J3,setRow_other]
 shape b' c0 e0 f0 h0:=by
  grind [setRow_heap,setRow_other]
def nN {b n n' :Nat}{pl q:Place}(hl:G b= .grow n pl)(hq:q≠pl)(c' :Array Value):bE q G w (gF G b (.grow n' pl)) (w.setRow b c'):=by
 intro b' m hb'
 grind [J3,setRow_other]
def wD {b n n' :Nat}{pl:Place}(hl:G b= .grow n pl)(c' :Array Value)(id:Nat):∀b',G b' = .obj id->(gF G b (.grow n' pl)) b' = .obj id/\(w.setRow b c').heap[b']? =w.heap[b']? :=by
 grind [J3,setRow_other]
theorem cu.grow (h:RI X l S st a w G I N){k:Nat}(hk:¬ S k)(aX:k<O st.L)(entry:Nat){b n n' :Nat}(hl:G b= .grow n (.loc k))(hn:n<=n'){c:Array Value}{e:TypeId}{f:Nat×Nat}
  (hb:w.heap[b]? =J (.cells c e f)) {c' :Array Value} (hs:c'.size=c.size) (hc:∀i,i<n->c'[i]? =c[i]?) {v:c7} {x:Value} (hv:VR (gF G b (.grow n' (.loc k))) I N (w.setRow b c') (.loc k) v x) :
  cu X l S entry st a w G I N (put st k v) k x (w.setRow b c') (gF G b (.grow n' (.loc k))) I N:=by
 have hx:=Jg hl hn hb hs hc;refine ⟨⟨?_,?_,?_,?_,h.W1⟩,?_,hx,λid _=>⟨wD hl c' id,λoff=>nN hl U c'⟩,λid _ _=>⟨rfl,wD hl c' id⟩,λ_ _ _=>rfl,λ_ h=>h,k9 _,λ_ o _ ho=>Or.inr ⟨o,ho,k9 _⟩⟩
 .intro s t ht
  exact VR.mono hx (λ_ _=>rfl) (λ_ h=>h) _ _ _ (Or.inr (nN hl U c')) (h.T s t ht)
 .intro j hj d hd hn
  have:k≠j:=by grind
  simp only [A5.put];rw [P4 _ _ _ _ _ this];exact VR.mono hx (λ_ _=>rfl) (λ_ h=>h) _ _ _ (Or.inr (nN hl (by grind) c')) (h.L j hj d hd hn)
 .intro id o ho
  exact OR.mono hx (λ_ _=>rfl) (λ_ h=>h) id o (λhb=>wD hl c' id _ hb) (λoff=>nN hl U c') (h.H id o ho)
 .intro b' hb'
  simp at hb';have hne:b' ≠b:=by grind
  rw [J3 hne];exact h.wf b' hb'
 simp_all [A5.put,O3]
theorem xI:∀(xs:List Data),L1 (xs.map .d)=J xs
 |[]=>rfl
 |x::xs=>by simp [L1,c7.data?,xI xs]
def cu.Zo {entry:Nat}{st1 st' :I5}{G1 G' :Gh}{I' :S8}{N' :Nat->Prop}{k:Nat}{x y:Value}{v:c7}(ht:Tk X l S st st1 a w G I N k v y G1)
  (h:cu X l S entry st1 a w G1 I N st' k x w' G' I' N'):cu X l S entry st a w G I N st' k x w' G' I' N' where
 ri:=h.ri
 val:=h.val
 ext:=ht.ext.trans h.ext
 dQ:=mh.trans ht.dQ h.dQ
 ko id hN hh:=by
  obtain ⟨h1,h2⟩:=h.ko id hN hh;exact ⟨h1,λb hb=>h2 b (ht.obj b id hb)⟩
 inj:=h.inj
 mono:=h.mono
 len:=by rw [<- ht.len];exact h.len
 hle id o' hb ho' :=by
  rcases h.hle id o' hb ho' with h1|⟨o,h1,h2⟩
  .omega
  .obtain ⟨o2,h3,h4⟩:=ht.hle id o h1
   grind
def eS (P:Program)(ck:Operand->y4->Bool)(o:Oper)(op:s8):Bool :=
 match o.op,op with
 | .call ⟨.builtin .append,args,argTypes⟩,.append sz bytes _ x' y' =>
  (match args.toList,argTypes.toList with
   |[x,y],[t,t2]=>ck x x' &&ck y y' &&SZ P t2&&decide (0<sz)&&(match P.underlying t with
    |some (.slice e)=>(match P.info? e with
     |some i=>i.size==sz&&i.bytes==bytes&&decide (0<bytes)&&(match i.zero with|some z=>z.cells.size==sz|none=>F)
     |none=>F)
    |_=>F)
   |_,_=>F)
 |_,_=>F
def ej {ck:Operand->y4->Bool}{o:Oper}{sz bytes:Nat}{ob:Bool}{x' y' :y4}(h:eS P ck o (.append sz bytes ob x' y')=W) :
  ∃x y t t2 e i z,o.op= .call ⟨.builtin .append,#[x,y],#[t,t2]⟩/\ck x x' =W/\ck y y' =W/\SZ P t2=W/\0<sz/\P.underlying t=J (.slice e)/\P.info? e=J i/\i.size=sz/\i.bytes=bytes/\i.zero=J z/\z.cells.size=sz/\0<bytes:=by
 unfold eS at h;split at h
 next args argTypes sz' bytes' ob' x1 y1 pQ kB=>
  cases kB;split at h
  next x y t t2 ha ht=>
   simp [c9,decide_eq_true_eq] at h;obtain ⟨⟨⟨⟨h1,h2⟩,h3⟩,h4⟩,h5⟩:=h;split at h5
   next e he=>
    split at h5
    next i hi=>
     simp [c9,beq_iff_eq,decide_eq_true_eq] at h5;obtain ⟨⟨⟨h6,h7⟩,h9⟩,h8⟩:=h5;split at h8
     next z hz=>
      refine ⟨x,y,t,t2,e,i,z,?_,h1,h2,h3,h4,he,hi,h6,h7,hz,M,h9⟩;simp_all<;>grind
     .cases h8
    .cases h5
   .cases h5
  .cases h
 .cases h
end
end Go.A5
namespace Go.A5
variable [E3]
section
variable {P:Program} {X:Cx} {l:J2} {S:Nat->Prop} {st:I5} {a:Act} {w w' :World} {G:Gh} {I:S8} {N:Nat->Prop} {d8:Nat->Bool} {j8:List o3}
def qU {n bytes old:Nat}(h:roomFor n bytes=W)(hlt:old<n):Builtin.nextslicecap n old * bytes<=281474976710656:=by
 have h1:(2 * n+512) * bytes<=281474976710656:=by grind [roomFor]
 have h2:=nextslicecap_le hlt;exact s5 (I8 _ V) h1
def Am {n bytes:Nat}(h:roomFor n bytes=W)(hb:0<bytes):((n:Nat):Int)<=9223372036854775807:=by
 have h1:(2 * n+512) * bytes<=281474976710656:=by grind [roomFor]
 have h2:(2 * n+512) * 1<=(2 * n+512) * bytes:=Nat.mul_le_mul_left _ hb;omega
def Yi (hwf:WF G w){e:TypeId}{c:Array Value}(hn:jK w w' (.cells c e)){xs ys:List Data}{vo vn:List Value}(ho:K1 G I N w (xs.map .d) vo)(hy:K1 G I N w (ys.map .d) vn){rest:Array Value}
  (hc:c=vo.toArray++vn.toArray++rest) {sz n cap:Nat} (hl:O (xs++ys)=n * sz) (hcap:n<=cap) (hsz:cap * sz<=c.size) {pl:Place} (hp:pl≠ .none) :
  VR (gF G w.heap.size (.grow (n * sz) pl)) I N w' pl (.own sz n (xs++ys)) (.slice (J (ad w.heap.size 0)) n cap):=by
 refine Pg hwf hn (nr _) (xI (xs++ys)) (vs:=vo++vn) (by simp_all [List.map_append,K1.append]) (λi v hi=>?_) hl hcap hsz hp
 grind
def vj (z:Array Value)(n:Nat):(Builtin.zeroCells z n).size=n * z.size:=by simp [Builtin.zeroCells]
def MS (h:RI X l S st a w G I N)(hpv:PV X j8 S st a w I)(hT:O st.T=O X.names)(hD:∀j,d8 j=W->S j){k:Nat}(hk:¬ S k)(aX:k<O st.L)(entry:Nat){o:Oper}{sz bytes:Nat}{x y:y4}
  (hc:eS P (X.ck d8) o (.append sz bytes F x y)=W) {E:Env} (hE:E.lim=l) {A6:Option Nat} {st' :I5} (he:L8 E j8 A6 k sz bytes F st x (G7 st.T st.L y)=J st') :
  ∃v w' G',(execOp a.eval o).run P w= .ok (.value v) w' /\cu X l S entry st a w G I N st' k v w' G' I N:=by
 obtain ⟨x0,y0,t,t2,e,i,z,hop,hcx,hcy,ht2,hsz,hu,hi,hsi,Uz,hz,hzs,hbp⟩:=ej hc;unfold L8 at he;rw [hE] at he;split at he
 next m cs hcs=>
  simp only [j5,if_false] at he;split at he
  next new hnew=>
   split at he
   next len cells st1 htk=>
    split at he
    next hroom=>
     simp at he;subst he;obtain ⟨vn,hl,hf,Tt,hcl⟩:=qY (P:=P) h.H (h.R1 hD _ _ hcy) hsz hcs;obtain ⟨G1,Jh⟩:=rX h hpv hT hD hk hcx htk;have hdn:=kI cs new vn hnew Tt;have bm1 :K1 G I N w (new.map .d) vn:=by
      grind [T7,K1.length,A9,VR]
     have ao3:K1 G1 I N w (new.map .d) vn:=K1.mono Jh.ext (λ_ _=>rfl) (λ_ h=>h) _ _ bm1;have aE2:O new=m * sz:=V
     have xT:O vn=m * sz:=by grind [K1.length]
     have uw:(execOp a.eval o).run P w=((Builtin.append_ #[t,t2] o.type #[a.eval x0,a.eval y0]).run P w).andThen λv w' => .ok (.value v) w' :=by
      simp_all [guard,execOp,resolve,invoke,builtin]
     have hval:=Jh.val;simp only [VR] at hval;obtain ⟨hcells,hval⟩:=hval;subst hsi Uz;have out:∀base sCap,a.eval x0= .slice base len sCap->sCap<len+m->(∃vo:List Value,(∀w2:World,w2.heap=w.heap->(Builtin.firstCells i.size len (.slice base len sCap)).run P w2= .ok vo.toArray w2)/\K1 G1 I N w (cells.map .d) vo) ->
       ∃v w' G',(execOp a.eval o).run P w= .ok (.value v) w' /\cu X l S entry st a w G I N (put st1 k (.own i.size (len+m) (cells++new))) k v w' G' I N:=by
      rintro base sCap hx hlt ⟨vo,ho1,ho2⟩;obtain ⟨cap,hcap,hrun⟩:=gq (P:=P) (w:=w) (ty:=o.type) hu hi hz ht2 (base:=base) (sLen:=len) (sCap:=sCap) hl (hf w.drew rfl) (ho1 w.drew rfl) hlt (Am hroom.1 hbp) (qU hroom.1 hlt);have hnb:jK w (w.drew.alloc (.cells (vo.toArray++vn.toArray++Builtin.zeroCells z.cells (cap - (len+m))) e)) (.cells (vo.toArray++vn.toArray++Builtin.zeroCells z.cells (cap - (len+m))) e):=by
       have:=jK.alloc w.drew (.cells (vo.toArray++vn.toArray++Builtin.zeroCells z.cells (cap - (len+m))) e);exact ⟨this.os,this.tape,this.output,s5 (Nat.le_succ _) this.drawn,this.size,this.old,this.new⟩
      have hvo:O vo=len * i.size:=by grind [K1.length,A9]
      refine ⟨_,_,_,?_,cu.Zo Jh (cu.fresh Jh.ri hk (by rw [Jh.L];exact aX) entry hnb (.grow ((len+m) * i.size) (.loc k)) (Yi Jh.ri.wf hnb ho2 ao3 rfl ?_ hcap ?_ U))⟩
      .simp_all
      .grind
      .simp only [Array.size_append,List.size_toArray,vj,hzs,hvo,xT]
       have:cap * i.size=(len+m) * i.size+(cap - (len+m)) * i.size:=by rw [<- Nat.add_mul];simp_all
       grind
     rcases hval with ⟨hnil,aD8⟩|⟨_,b,off,cap,c,e',f,h1,h2,h3,h4,h5,h6,h7⟩
     .subst aD8
      have hc0:cells=[]:=M
      subst hc0;have hbase:∃base:Option Addr,a.eval x0= .slice base 0 0/\(base=K\/∃b o,base=J (ad b o)):=by
       grind
      obtain ⟨base,hx,hbb⟩:=hbase
      by_cases hm:m=0
      .subst hm
       have Hl:new=[]:=M
       have hvv:vn=[]:=M
       subst Hl hvv;have hrun:=dU (P:=P) (w:=w) (ty:=o.type) hu hi ht2 (base:=base) (sLen:=0) (sCap:=0) hl (hf w rfl) (k9 _);refine ⟨.slice base 0 0,w,G1,?_,cu.Zo Jh (cu.same Jh.ri hk (by rw [Jh.L];exact aX) entry ?_)⟩
       .rw [uw,hx,hrun]
        cases base<;>simp [storeCells]
       simp_all [VR]
      .refine out base 0 hx V ⟨[],λw2 _=>?_,by simp [K1]⟩
       cases base<;>simp [Builtin.firstCells,gd]
     .by_cases hfit:len+m<=cap
      .have hrun:=dU (P:=P) (w:=w) (ty:=o.type) hu hi ht2 (base:=J (ad b off)) (sLen:=len) (sCap:=cap) hl (hf w rfl) hfit
       have hsize:off+len * i.size+O vn<=c.size:=by
        rw [xT];have:(len+m) * i.size<=cap * i.size:=I8 _ hfit
        grind
       have hone:JT vn:=by
        intro u hu';obtain ⟨j,hj,rfl⟩:=L5 hu';have hj2:j<O (new.map c7.d):=by grind
        obtain ⟨u',g1,g2⟩:=K1.get _ _ ao3 j _ (n9 hj2);rw [n9 hj] at g1;cases g1;exact (mO (by simp [c7.one]) g2).1
       have hst:=run_storeCells_at (P:=P) b (off+len * i.size) e' f vn 0 c w h3 h5 V hone;simp only [Nat.add_zero] at hst;have xO :off+len * i.size+O vn<=O c.toList:=V
       have oJ :(L6 c.toList (off+len * i.size) vn).toArray.size=c.size:=by simp_all [kT]
       have hkeep:∀j,j<off+len * i.size->(L6 c.toList (off+len * i.size) vn).toArray[j]? =c[j]? :=by
        grind [L6]
       refine ⟨.slice (J (ad b off)) (len+m) cap,w.setRow b (L6 c.toList (off+len * i.size) vn).toArray,_,?_,
        cu.Zo Jh (cu.grow Jh.ri hk (by rw [Jh.L];exact aX) entry h6 (n' :=off+(len+m) * i.size) (by grind) h3 oJ hkeep ?_)⟩
       .simp_all [bp,Result.andThen_ok]
       .have hx:=Jg h6 (n' :=off+(len+m) * i.size) (by grind) h3 oJ hkeep
        simp only [VR];refine ⟨by grind,Or.inr ⟨U,b,off,cap,_,e',f,rfl,hfit,setRow_heap w b c _ e' f h3,V,M,U,?_⟩⟩;refine Aq off _ λj d hj=>?_
        have hjl:=A3 hj;rw [l5,hcells,aE2] at hjl;refine ⟨by simp_all [jm]<;>grind,?_⟩;rw [U5 (setRow_heap w b c _ e' f h3),show (L6 c.toList (off+len * i.size) vn).toArray[off+j]? =(L6 c.toList (off+len * i.size) vn)[off+j]? from by simp,kR _ _ _ xO]
        by_cases OM:j<len * i.size
        .rw [if_pos V]
         rw [y8 V] at hj;obtain ⟨vs,q1,q2,q3⟩:=gB.vals (I:=I) (N:=N) off cells h7;have hjv:j<O vs:=V
         have q4:=q2 j _ (n9 hjv);rw [U5 h3] at q4;refine ⟨vs[j],M,?_⟩;obtain ⟨u,r1,r2⟩:=K1.get _ _ q3 j (.d d) (by simp [hj]);rw [n9 hjv] at r1;cases r1;simp only [VR] at r2;exact DR.mono hx.lK _ _ r2
        .rw [if_neg V,if_pos V]
         rw [x7 V,hcells] at hj;obtain ⟨u,r1,r2⟩:=K1.get _ _ ao3 (j - len * i.size) (.d d) (by simp [hj]);refine ⟨u,by grind,?_⟩;simp only [VR] at r2;exact DR.mono hx.lK _ _ r2
      .refine out (J (ad b off)) cap h1 V ?_
       obtain ⟨vs,q1,q2,q3⟩:=gB.vals (I:=I) (N:=N) off cells h7;refine ⟨vs,λw2 Sj=>?_,q3⟩;have:=run_loadCells_list (P:=P) w2 (ad b off) vs (λj v hj=>by grind [bp,jC]);simp_all [Builtin.firstCells]
    .cases he
   .cases he
  .cases he
 .cases he
end
end Go.A5
namespace Go.A5.d4
abbrev k (n:Int):y4:= .const (.d (.int .i64 n))
abbrev kt:y4:= .const (.d (.bool W))
abbrev kf:y4:= .const (.d (.bool F))
abbrev z0:c7:= .d (.int .i64 0)
abbrev zs:c7:= .d (.str [])
abbrev zb:c7:= .d (.bool F)
abbrev w (n:Nat):c7:= .own n 0 []
abbrev l (n:Nat):y4:= .loc n
abbrev s (n:Nat):y4:= .slot n
abbrev i0 (o:s8):o3:=⟨o,K,K,[]⟩
abbrev i1 (o:s8)(d:Nat):o3:=⟨o,J d,K,[]⟩
abbrev it (o:s8)(j:Nat):o3:=⟨o,K,J (j,W),[]⟩
abbrev if_ (o:s8)(j:Nat):o3:=⟨o,K,J (j,F),[]⟩
abbrev i3 (o:s8)(u:List Nat):o3:=⟨o,K,K,u⟩
abbrev ms (n:Nat):o3:=⟨.S0 (.slot n),K,K,[]⟩
abbrev ml (n:Nat):o3:=⟨.S0 (.loc n),K,K,[]⟩
abbrev os (a n:Nat):o3:=⟨.off a (.slot n),K,K,[]⟩
abbrev ol (a n:Nat):o3:=⟨.off a (.loc n),K,K,[]⟩
abbrev ld (n:Nat):o3:=⟨.load K (.loc n),K,K,[]⟩
abbrev sq:=p7.seq
abbrev rg:=p7.region
abbrev te:=p7.test
abbrev sk:=p7.skip
abbrev H7 (x:List o3):p7:= .region x F
abbrev eB (x:List o3):p7:= .region x W
abbrev R2 (x:List o3)(c:y4)(a b:p7):p7:= .test x F c a b
abbrev tJ (x:List o3)(c:y4)(a b:p7):p7:= .test x W c a b
abbrev u:Bool:=W
abbrev e:Bool:=F
abbrev sr (x:List o3)(c:p7):p7:= .seq (.region x F) c
abbrev su (x:List o3)(o:y4)(a b c:p7):p7:= .seq (.test x F o a b) c
abbrev blk:=p7.block
abbrev lop:=p7.loop
abbrev aj:=p7.exit
abbrev D7 (f:FuncId)(xs:List y4):o3:=⟨.call f xs,K,K,[]⟩
abbrev app (sz bytes:Nat)(ob:Bool)(x y:y4):o3:=⟨.append sz bytes ob x y,K,K,[]⟩
abbrev S1 (n:Nat)(a x:y4):o3:=⟨.store n a x,K,K,[]⟩
abbrev I4 (op:BinOp)(x y:y4):o3:=⟨.bin op x y,K,K,[]⟩
abbrev W4 (c a b:y4):o3:=⟨.pick c a b,K,K,[]⟩
abbrev lG (zero:List c7)(parts:List (Nat×Nat×y4)):o3:=⟨.build zero parts,K,K,[]⟩
abbrev fM (sz len:Nat)(zero:List c7)(parts:List (Nat×Nat×y4))(ob:Bool):o3:=⟨.J8 sz len zero parts ob,K,K,[]⟩
abbrev U2 (sz:Nat)(x i:y4):o3:=⟨.L2 sz x i,K,K,[]⟩
abbrev bD (n:Option Nat)(x:y4):o3:=⟨.load n x,K,K,[]⟩
abbrev bo6 (k:Nat)(x:y4):o3:=⟨.off k x,K,K,[]⟩
abbrev slv (sz:Nat)(x:y4)(lo hi:Option y4):o3:=⟨.ay sz x lo hi,K,K,[]⟩
abbrev um (x:y4)(i:Nat):o3:=⟨.extract x i,K,K,[]⟩
abbrev le0 (x:y4):o3:=⟨.Y8 x,K,K,[]⟩
abbrev un0 (op:UnOp)(x:y4):o3:=⟨.un op x,K,K,[]⟩
abbrev be5 (zero:List c7):o3:=⟨.alloc zero,K,K,[]⟩
abbrev D9:y4:=k 0
abbrev jB:s8:= .S0 D9
abbrev B3:y4:=l 0
abbrev je:s8:= .S0 B3
abbrev B4:y4:=l 1
abbrev F2:y4:=k 1
abbrev zq4:s8:= .bin .add B3 F2
abbrev p6:o3:=ms 0
abbrev bM:o3:=os 0 3
abbrev D0:o3:=ld 1
abbrev E7:y4:=l 2
abbrev F4:y4:=l 3
abbrev kC:s8:= .S0 F4
abbrev lB:o3:=i1 kC 4
abbrev E0:o3:=ms 4
abbrev aQ0:s8:= .bin .neq B3 D9
abbrev ec:o3:=i0 aQ0
abbrev lC:o3:=i1 je 2
abbrev zq5:p7:=sq (H7 [p6,bM,D0,D7 209 [B3,E7],lB]) (R2 [E0,ec] B4 (sr [E0,lC] .ret) sk)
abbrev Y6:y4:=s 2
abbrev Yb:s8:= .load (J 8) Y6
abbrev Tw:s8:= .S0 (.const (w 1))
abbrev iX:s8:= .S0 B4
abbrev A2:y4:=l 4
abbrev Q4:s8:= .S0 (s 0)
abbrev qB:o3:=i1 jB 2
abbrev gZ:p7:=H7 [qB]
abbrev xk:s8:= .alloc [(w 4),(w 9),(w 3),(w 6),(w 4),(w 3),(w 2),(w 3)]
abbrev NW:s8:= .S0 (.const (.d (.int .i64 (-1))))
abbrev B2:y4:=l 5
abbrev CC:s8:= .box (s 0)
abbrev D2:y4:=l 6
abbrev zR:s8:= .S0 kf
abbrev aP6:s8:= .bin .lss B3 E7
abbrev U0:y4:=s 6
abbrev zu:o3:=i1 jB 8
abbrev Z1:y4:=s 8
abbrev Q8:y4:=s 7
abbrev Fq:p7:=R2 [I4 .lss Z1 Q8] B3 sk (aj 0)
abbrev x9:o3:=ld 0
abbrev vH:o3:=i1 iX 3
abbrev M0:o3:=ms 2
abbrev L4:o3:=ms 3
abbrev aa3:s8:= .len B4
abbrev N8:o3:=i0 aa3
abbrev mW:o3:=i1 kC 2
abbrev ai2:s8:= .bin .lss B3 D9
abbrev vQ:o3:=i0 ai2
abbrev vI:o3:=i1 je 8
abbrev Fv:p7:=H7 [I4 .add Z1 F2,vI]
abbrev av0:p7:=sq (H7 [i1 Q4 6,i1 (.len U0) 7,zu]) (blk 0 (lop [u,e,u,e,e,e,u,u,u,e,e,e] (sq Fq (sq (blk 1 (sr [U2 1 U0 Z1,x9,vH] (sr [M0,L4,N8,I4 .add B3 E7,mW] (R2 [M0,vQ] B4 (H7 [i0 (.bad),i0 (.bad)]) sk)))) Fv))))
abbrev aD:y4:=s 3
abbrev NX:s8:= .load (J 8) aD
abbrev DQ:s8:= .load K A2
abbrev aP7:s8:= .bin .lss B3 F4
abbrev B6:o3:=ms 5
abbrev jl:o3:=i0 zq4
abbrev vG:o3:=i1 iX 5
abbrev tL:p7:=H7 [B6,jl,vG]
abbrev E5:y4:=l 7
abbrev Fw:s8:= .len B3
abbrev sH:o3:=i1 jB 5
abbrev FC:p7:=H7 [p6,i1 Fw 4,sH]
abbrev R9:y4:=s 5
abbrev T4:y4:=s 4
abbrev Fs:p7:=R2 [I4 .lss R9 T4] B3 sk (aj 0)
abbrev iL:o3:=i1 je 3
abbrev NZ:p7:=H7 [B6,iL]
abbrev z6:o3:=ms 1
abbrev ai7:s8:= .L2 1 B4 E7
abbrev vJ:o3:=i0 ai7
abbrev M5:o3:=ld 3
abbrev xq:p7:=sq (H7 [L4,lC]) .ret
abbrev bK:o3:=i1 je 5
abbrev Fy:p7:=H7 [I4 .add R9 F2,bK]
abbrev vk:p7:=sq (H7 [i1 NW 2]) .ret
abbrev av1:p7:=sq gZ (sq (sq FC (blk 0 (lop [u,u,e,e,u,u] (sq Fs (sq (blk 1 (sq NZ (R2 [z6,p6,L4,vJ,M5,I4 .eql B3 A2] B2 xq sk))) Fy))))) vk)
abbrev Ib:s8:= .alloc [zs,z0,zs,zs,(w 2),(w 5),(w 2),zb,(w 3)]
abbrev DS:p7:=R2 [I4 .lss (s 9) Z1] B3 sk (aj 0)
abbrev xl:p7:=H7 [i1 zR 2]
abbrev mX:o3:=i1 iX 4
abbrev xm:p7:=H7 [E0,jl,mX]
abbrev aP8:s8:= .J8 1 1 [zs] [(0,1,D2)] e
abbrev I7:y4:=l 8
abbrev oL:s8:= .load K B2
abbrev rH:s8:= .S0 F2
abbrev L3:y4:=l 10
abbrev fP:s8:= .load K B3
abbrev vD:o3:=i1 zR 3
abbrev L7:o3:=ml 2
abbrev cC:s8:= .S0 Y6
abbrev ah4:s8:= .pick F4 D2 kf
abbrev mY:o3:=i0 ah4
abbrev bX:s8:= .S0 E5
abbrev aa4:p7:=sq (H7 [vD]) (sr [p6,z6,I4 .geq B3 B4,L7,it Q4 3,it cC 3,it (.bin .leq A2 B2) 3,mY,i1 bX 3] .ret)
abbrev aa5:s8:= .len E7
abbrev CE:s8:= .J8 1 0 [] [] e
abbrev W8:y4:=s 1
abbrev fQ:s8:= .S0 W8
abbrev jf:s8:= .S0 aD
abbrev H9:y4:=l 9
abbrev R8:y4:=l 11
abbrev yY:s8:= .S0 R8
abbrev aP9:p7:=sq (eB [i0 CE,p6,L4,slv 1 B4 K (J E7),app 1 8 e B3 F4,i3 fQ [4],i3 (.J8 1 1 [z0] [(0,1,B2)] e) [4],app 1 8 e A2 D2,i3 Q4 [4,7],i3 jf [4,7],i3 (.ay 1 I7 (J H9) K) [4,7],app 1 8 e E5 L3,i1 yY 2]) .ret
abbrev bY:o3:=i0 aP6
abbrev R7:o3:=ml 3
abbrev mV:s8:= .load K E5
abbrev zg:o3:=it fQ 4
abbrev yL:p7:=H7 [L4,jl,vH]
abbrev QE:p7:=sq (H7 [p6,lC]) .ret
abbrev av2:p7:=sq (blk 0 (lop [u,u,e,u] (su [L4,p6,N8,bY,R7,it Q4 4,it jf 4,it (.L2 1 B2 D2) 4,it mV 4,zg,it (.bin .lss I7 H9) 4,W4 A2 L3 kf] R8 sk (aj 0) (blk 1 yL)))) (su [L4,p6,N8,bY,R7,it Q4 4,it jf 4,it (.L2 1 B2 D2) 4,it mV 4,zg,it (.bin .eql I7 H9) 4,W4 A2 L3 kf] R8 QE sk aP9)
abbrev DT:p7:=H7 [I4 .add (s 9) F2,i1 je 9]
abbrev vB:p7:=sq (H7 [vD]) .ret
abbrev fI:o3:=i1 jB 4
abbrev tM:p7:=H7 [fI]
abbrev dm:y4:= .const zs
abbrev aQ1:s8:= .bin .neq B4 dm
abbrev fJ:o3:=os 1 1
abbrev vt:s8:= .off 1 W8
abbrev fH:o3:=it DQ 3
abbrev La:s8:= .load K H9
abbrev ze:o3:=it La 8
abbrev LY:s8:= .pick I7 R8 kf
abbrev Q5:y4:=l 12
abbrev yZ:s8:= .S0 Q5
abbrev aQ2:p7:=sq (H7 [fJ,x9,I4 .geq B4 (.const (.d (.int .i64 (-4294967296)))),L7,it vt 3,fH,it (.bin .leq B2 (k 4294967296)) 3,mY,ml 7,it (.off 2 W8) 8,ze,it (.bin .eql L3 dm) 8,i0 LY,i1 yZ 2]) .ret
abbrev fK:o3:=os 0 1
abbrev V7:o3:=ml 0
abbrev aQ5:s8:= .bin .eql B4 D9
abbrev gK:o3:=i0 aQ5
abbrev M9:y4:=k 2
abbrev ai4:s8:= .pick F4 E5 kf
abbrev vN:o3:=i0 ai4
abbrev lZ:s8:= .S0 I7
abbrev vA:p7:=sq xl .ret
abbrev av3:p7:=sq (sr [fK,i1 fP 3] (blk 0 (R2 [I4 .eql aD D9,V7] B4 (sr [fJ,x9,gK,L7,it (.off 2 W8) 3,fH,it (.bin .eql B2 dm) 3,mY,i1 bX 2] .ret) (R2 [I4 .eql aD F2,V7] B4 aQ2 (R2 [I4 .eql aD M9,V7] B4 (sr [fJ,x9,gK,L7,it (.off 2 W8) 3,fH,it (.Y8 B2) 3,it (.bin .leq D2 (k 32)) 3,vN,i1 lZ 2] .ret) sk))))) vA
abbrev zS:p7:=H7 [i1 zR 1]
abbrev zT:p7:=sq (H7 [i1 rH 2]) .ret
abbrev zU:p7:=sq (H7 [i1 rH 4]) .ret
abbrev aa7:s8:= .dh B3
abbrev cV:s8:= .S0 B2
abbrev vE:o3:=i1 CC 2
abbrev xu:s8:= .box W8
abbrev zh:o3:=i1 xu 3
abbrev Mi:p7:=H7 [vE,zh,fI]
abbrev cZ:s8:= .S0 E7
abbrev NY:p7:=R2 [L4,p6,N8,bY] F4 sk (aj 0)
abbrev DU:p7:=sq (H7 [E0,iL]) .ret
abbrev qJ:p7:=H7 [sH]
abbrev aQ3:s8:= .load (J 8) W8
abbrev lX:s8:= .load K D2
abbrev cD:y4:=k 3
abbrev oD:o3:=i1 je 4
abbrev fF:y4:=k 16
abbrev av4:p7:=sq (H7 [I4 .eql Y6 cD,oD]) (.cond T4 sk (sr [I4 .eql Y6 (k 9),oD] (.cond T4 sk (sr [I4 .eql Y6 (k 13),oD] (.cond T4 sk (H7 [I4 .eql Y6 fF,oD]))))))
abbrev F5:o3:=ms 6
abbrev zl:o3:=i1 iX 6
abbrev DW:p7:=H7 [F5,jl,zl]
abbrev lY:s8:= .S0 A2
abbrev Mj:s8:= .alloc [zs,z0,zs,zs,(w 1),z0,z0]
abbrev DX:s8:= .S0 (.const (w 2))
abbrev cE:o3:=i1 jB 3
abbrev Dd:p7:=H7 [cE]
abbrev aQ4:s8:= .L2 1 B3 B4
abbrev Ic:s8:= .append 1 16 e B3 E5
abbrev T3:y4:=l 13
abbrev bZ:o3:=os 1 3
abbrev Gn:s8:= .extract D2 0
abbrev Gp:s8:= .extract D2 1
abbrev av5:p7:=sq (H7 [p6,bZ,D0,os 2 3,M5,D7 222 [B3,E7,A2],ml 5,i0 Gn,i0 Gp,ml 7,i1 lZ 5]) (R2 [B6,ec] B4 (sr [B6,lC] .ret) sk)
abbrev aQ6:s8:= .bin .eql B4 M9
abbrev aQ7:s8:= .bin .eql B3 D9
abbrev hU:s8:= .S0 D2
abbrev zV:s8:= .load K R8
abbrev Q2:o3:=i0 aa5
abbrev aI:o3:=i0 aP7
abbrev aT:o3:=ld 5
abbrev qH:o3:=i0 aP8
abbrev sD:o3:=i1 lZ 3
abbrev av6:p7:=sq (R2 [E0,fK,D0,Q2,aI] A2 sk (aj 0)) (sq (blk 1 (H7 [L4,fK,D0,E0,U2 4 E7 F4,ol 0 4,aT,qH,i0 Ic,sD])) xm)
abbrev av7:p7:=sq (R2 [B6,fJ,D0,Q2,aI] A2 sk (aj 2)) (sq (blk 3 (H7 [L4,fJ,D0,B6,U2 9 E7 F4,ol 0 4,aT,qH,i0 Ic,sD])) tL)
abbrev Z8:y4:=l 16
abbrev vU:s8:= .load K Z8
abbrev aQ8:s8:= .bin .eql B4 F2
abbrev Z2:o3:=ml 1
abbrev ah8:s8:= .pick E7 A2 kf
abbrev qC:o3:=i0 ah8
abbrev av8:p7:=sq zS (sr [p6,I4 .geq B3 (.const (.d (.int .u8 97))),Z2,it Q4 2,it (.bin .leq F4 (.const (.d (.int .u8 122)))) 2,qC,i1 cV 1] .ret)
abbrev Oa:s8:= .len A2
abbrev av9:p7:=sq zS (sr [p6,I4 .geq B3 (.const (.d (.int .u8 48))),Z2,it Q4 2,it (.bin .leq F4 (.const (.d (.int .u8 57)))) 2,qC,i1 cV 1] .ret)
abbrev kD:s8:= .S0 T4
abbrev yF:p7:=H7 [i1 Tw 3]
abbrev vF:o3:=i1 CC 1
abbrev yG:p7:=H7 [vF,i1 zR 2]
abbrev yH:p7:=H7 [vE,vD]
abbrev P9:y4:=l 14
abbrev yI:p7:=H7 [vE,i1 Tw 3]
abbrev yJ:s8:= .build [z0,z0,zs] []
abbrev yK:p7:=H7 [qB,cE]
abbrev sg:s8:= .load K I7
abbrev kW:s8:= .load K Q5
abbrev ag9:s8:= .un .not E7
abbrev S7:o3:=ms 8
abbrev Cw:p7:=H7 [S7,jl,i1 iX 8]
abbrev Cy:s8:= .alloc [z0,z0,zs]
abbrev jj:o3:=os 1 2
abbrev aB:o3:=os 0 2
abbrev gJ:o3:=i0 Oa
abbrev LX:s8:= .bin .sub E7 B2
abbrev Wz:p7:=H7 [jj,x9,z6,aB,M5,gJ,i0 LX,U2 9 B4 D2,bD (J 9) E5,i1 Ib 4,S1 9 T4 I7]
abbrev di:s8:= .S0 U0
abbrev Q7:y4:=l 15
abbrev Py:s8:= .L2 1 B3 E7
abbrev mU:s8:= .load K L3
abbrev ah0:s8:= .load (J 2) B3
abbrev ah1:s8:= .bin .gtr E7 D9
abbrev KU:p7:=R2 [I4 .lss U0 R9] B3 sk (aj 0)
abbrev dY:s8:= .S0 R9
abbrev kr:o3:=i0 aQ3
abbrev vC:o3:=i1 lY 3
abbrev WA:p7:=sq (H7 [vD]) (sq (eB [kr,p6,D7 71 [B3,B4],i3 (.load K Y6) [2],D7 72 [E7,F4],vC]) .ret)
abbrev Cz:p7:=sq (H7 [i1 zR 4]) .ret
abbrev si:p7:=H7 [i1 jB 6]
abbrev sj:s8:= .bin .eql D2 D9
abbrev zq:o3:=i1 jB 9
abbrev KV:p7:=H7 [i1 fQ 7,i1 (.len Q8) 8,zq]
abbrev kj:p7:=sq gZ .ret
abbrev Ft:s8:= .J8 1 1 [z0] [(0,1,B4)] e
abbrev Pz:p7:=sq (H7 [bD (J 9) R9,S1 9 T4 B3]) .ret
abbrev ah2:s8:= .load (J 3) B3
abbrev Fu:p7:=sq (H7 [M0,i1 je 1]) .ret
abbrev yM:s8:= .S0 (k 5)
abbrev T5:o3:=i0 Yb
abbrev ai5:s8:= .extract E7 0
abbrev vM:o3:=i0 ai5
abbrev ai6:s8:= .extract E7 1
abbrev vK:o3:=i0 ai6
abbrev WB:p7:=H7 [T5,D7 101 [B3],Z2,vM,vK,um E7 2,lB,ml 4,i1 cV 5]
abbrev cg:o3:=ms 9
abbrev Fx:p7:=H7 [cg,jl,i1 iX 9]
abbrev zo:o3:=i1 je 6
abbrev KW:p7:=H7 [I4 .add U0 F2,zo]
abbrev jc:s8:= .len D2
abbrev WC:p7:=R2 [B6,aB,D0,z6,U2 4 E7 F4,ol 1 4,aT,i0 jc,I4 .lss B3 E5] I7 sk (aj 0)
abbrev ah3:s8:= .bin .lss B3 B4
abbrev ah5:s8:= .L2 2 B4 E7
abbrev yN:p7:=H7 [i1 Tw 1]
abbrev CA:s8:= .alloc [zs,(w 7),z0,z0]
abbrev gA:o3:=i0 aQ4
abbrev N5:o3:=ld 2
abbrev fL:o3:=ld 6
abbrev WD:p7:=tJ [p6,L4,gA,N5,z6,L4,U2 1 A2 B2,fL,I4 .neq F4 E5] I7 vA sk
abbrev V9:y4:=l 17
abbrev Gc:s8:= .call 22 [B4,F4]
abbrev Gg:s8:= .L2 1 B3 A2
abbrev nj:o3:=os 3 5
abbrev WE:p7:=H7 [M0,p6,M0,Q2,i0 Gc,i0 Gg,aT,nj,S1 1 E5 D2]
abbrev KX:p7:=H7 [vE,zh,i1 zR 4]
abbrev ah6:s8:= .un .not B4
abbrev kX:s8:= .off 1 aD
abbrev kY:s8:= .off 2 aD
abbrev ah7:s8:= .pick A2 kt I7
abbrev qw:s8:= .S0 cD
abbrev CB:s8:= .S0 (k 7)
abbrev KY:s8:= .J8 2 1 [z0,z0] [(0,2,B4)] e
abbrev KZ:p7:=sq (H7 [qB,i1 rH 3]) .ret
abbrev Fz:p7:=sq (H7 [i1 NW 3]) .ret
abbrev FA:p7:=H7 [vF,i1 Tw 2]
abbrev FB:p7:=H7 [vE,cE]
abbrev yO:s8:= .load (J 8) T4
abbrev WG:p7:=sq (H7 [I4 .eql Y6 F2,iL]) (.cond aD sk (H7 [I4 .eql Y6 M9,iL]))
abbrev sw:s8:= .len B2
abbrev jb:s8:= .S0 H9
abbrev aA:y4:=l 18
abbrev PA:p7:=R2 [E0,z6,N8,bY] F4 sk (aj 0)
abbrev kZ:s8:= .S0 Z1
abbrev W0:y4:=s 10
abbrev yP:p7:=H7 [i1 jB 1]
abbrev yQ:p7:=H7 [i1 Tw 2]
abbrev yR:s8:= .load (J 8) R9
abbrev WH:p7:=R2 [E0,p6,L4,vJ,M5,gJ,I4 .lss B3 B2] D2 sk (aj 2)
abbrev aR:y4:=l 19
abbrev bB:o3:=ms 10
abbrev Lb:p7:=H7 [bB,jl,i1 iX 10]
abbrev ah9:s8:= .L2 1 B3 D9
abbrev vm:s8:= .load K V9
abbrev PB:p7:=R2 [I4 .lss Q8 U0] B3 sk (aj 0)
abbrev qz:s8:= .S0 kt
abbrev Lc:p7:=sq (H7 [i1 qz 3]) .ret
abbrev ai0:s8:= .load (J 2) F4
abbrev ai1:s8:= .bin .eql E7 D9
abbrev K5:o3:=ms 7
abbrev Ld:p7:=H7 [K5,jl,i1 iX 7]
abbrev vp:s8:= .alloc [z0,z0]
abbrev ai3:s8:= .L2 7 B4 E7
abbrev aS:y4:=l 20
abbrev dn:y4:=l 21
abbrev yS:s8:= .load K dn
abbrev FD:s8:= .append 1 8 e B3 B4
abbrev FE:s8:= .append 1 8 e B3 E7
abbrev PC:p7:=H7 [i1 rH 3]
abbrev WI:p7:=H7 [U2 7 R9 Q8,bD (J 7) B3,i1 Mj 4,S1 7 T4 B4]
abbrev vq:s8:= .load K B4
abbrev CD:p7:=H7 [zu]
abbrev Le:p7:=H7 [vE,i1 DX 3]
abbrev qx:s8:= .off 0 aD
abbrev qy:s8:= .off 1 Y6
abbrev Lf:p7:=H7 [i1 xu 2,vD]
abbrev yT:s8:= .load K P9
abbrev Lg:p7:=sq (H7 [i1 yM 4]) .ret
abbrev Lh:p7:=sq (H7 [i1 yM 3]) .ret
abbrev sG:o3:=i1 je 7
abbrev PD:p7:=H7 [I4 .add Q8 F2,sG]
abbrev Li:p7:=sq (H7 [i1 CB 2]) .ret
abbrev Lj:p7:=sq (H7 [i1 CB 4]) .ret
abbrev FF:y4:= .const (.d (.str [98]))
abbrev oE:o3:=i0 ah6
abbrev WJ:p7:=R2 [T5,D7 46 [B3],oE] E7 (sr [i1 DX 3] .ret) sk
abbrev mZ:o3:=i0 Fw
abbrev WK:p7:=R2 [p6,mZ,z6,Q2,I4 .neq B4 F4] A2 vA sk
abbrev CF:s8:= .bin .geq E7 D9
abbrev CG:s8:= .pick H9 Q5 kf
abbrev FG:s8:= .J8 3 0 [] [] u
abbrev PE:s8:= .un .not E5
abbrev WL:p7:=R2 [I4 .eql Y6 (k 18),V7] B4 (sr [i1 qw 1] .ret) sk
abbrev PF:s8:= .build [z0,z0] [(0,1,B3),(1,1,B4)]
abbrev FH:s8:= .call 22 [B3,cD]
abbrev CH:s8:= .pick F4 B2 kf
abbrev sx:s8:= .off 3 aD
abbrev sy:s8:= .off 5 aD
abbrev sA:s8:= .off 0 Y6
abbrev FI:s8:= .load (J 12) T4
abbrev bJ:y4:=l 22
abbrev yU:s8:= .load K E7
abbrev PG:s8:= .J8 2 1 [z0,z0] [(0,2,F4)] e
abbrev Lk:s8:= .S0 (.const (.d .iT))
abbrev CI:s8:= .load K aR
abbrev dw:y4:=k 4
abbrev Gi:s8:= .S0 dw
abbrev PI:p7:=sq (H7 [i1 Gi 4]) .ret
abbrev dZ:y4:=l 23
abbrev FJ:s8:= .S0 (.const (w 5))
abbrev qA:y4:=k 1048576
abbrev FK:p7:=H7 [zq]
abbrev FL:p7:=H7 [i1 jB 7]
abbrev Ll:p7:=H7 [F5,oD]
abbrev FM:s8:= .bin .neq D2 D9
abbrev FN:s8:= .load (J 3) L3
abbrev FO:s8:= .bin .eql B3 M9
abbrev WM:p7:=sq (H7 [bD (J 12) Q8,S1 12 U0 B3]) .ret
abbrev CJ:s8:= .L2 4 B4 E7
abbrev CL:s8:= .extract A2 0
abbrev CM:s8:= .extract A2 1
abbrev WN:p7:=R2 [ms 12,ec] B4 (sr [ms 12,iL] .ret) sk
abbrev Lm:y4:= .const (.d (.str [116]))
abbrev PJ:p7:=sq (H7 [F5,iL]) .ret
abbrev FP:s8:= .load (J 2) E7
abbrev FQ:s8:= .store 1 D2 B2
abbrev FR:s8:= .bin .gtr B3 D9
abbrev FT:s8:= .bin .neq B4 D9
abbrev FU:s8:= .bin .add F2 E7
abbrev FV:s8:= .bin .sub E7 F2
abbrev FW:s8:= .bin .eql B3 F2
abbrev FX:s8:= .pick A2 E5 kf
abbrev WO:p7:=R2 [F5,ec] B4 (sr [F5,lC] .ret) sk
abbrev PK:p7:=H7 [M0,jl,i1 iX 2]
abbrev yV:p7:=sq tM .ret
abbrev CN:s8:= .call 40 [B3]
abbrev CP:s8:= .load K F4
abbrev FY:s8:= .L2 3 A2 B2
abbrev sB:s8:= .len E5
abbrev FZ:s8:= .pick F4 I7 kf
abbrev sC:s8:= .S0 L3
abbrev Ln:s8:= .alloc [zs,z0,(w 5)]
abbrev vu:s8:= .S0 Q8
abbrev fE:y4:=l 24
abbrev CQ:s8:= .un .not A2
abbrev CR:s8:= .un .not B2
abbrev CS:s8:= .un .not R8
abbrev yW:s8:= .off 1 R9
abbrev Lo:p7:=H7 [i1 Cy 1]
abbrev PL:p7:=sq (H7 [i1 qw 3]) .ret
abbrev PM:p7:=sq (H7 [i1 qz 2]) .ret
abbrev WQ:p7:=R2 [p6,i0 (.BH e B3)] B4 (sq yN .ret) sk
abbrev PN:p7:=H7 [i1 CC 3,fI]
abbrev WR:s8:= .alloc [z0,z0,z0,z0,(w 3),z0,z0,zs,z0,z0,z0,zs]
abbrev Lp:p7:=H7 [i1 jB 10]
abbrev Lq:s8:= .pick Q7 kt aR
abbrev Ga:s8:= .L2 3 E7 F4
abbrev vz:s8:= .len R8
abbrev yX:s8:= .box Y6
abbrev WS:p7:=R2 [E0,p6,N8,bY] F4 sk (aj 0)
abbrev CU:p7:=sq Dd .ret
abbrev CV:s8:= .off 4 W8
abbrev Lr:s8:= .alloc [zs,zs,z0]
abbrev Ls:s8:= .call 54 [B3,B4]
abbrev ai8:s8:= .dh B4
abbrev Lt:p7:=H7 [i1 Tw 4]
abbrev Lu:s8:= .bin .eql B2 D9
abbrev WT:s8:= .build [z0,z0,z0,zs,z0] [(0,1,F2),(1,3,B4)]
abbrev Lv:s8:= .bin .sub D2 F2
abbrev Lw:s8:= .load (J 4) R9
abbrev Lx:s8:= .load (J 3) Y6
abbrev Lz:s8:= .pick E5 kt P9
abbrev CW:s8:= .S0 M9
abbrev LA:s8:= .L2 1 Q8 (s 9)
abbrev jh:y4:=s 11
abbrev WU:p7:=R2 [I4 .lss jh W0] B3 sk (aj 2)
abbrev WV:p7:=H7 [U2 1 (s 9) jh,x9,vG]
abbrev WW:s8:= .J8 5 1 [z0,z0,z0,zs,z0] [(0,5,D2)] e
abbrev WX:p7:=sq (H7 [i0 yJ,S1 3 Y6 B3]) .ret
abbrev WY:p7:=sq (H7 [i0 yJ,S1 3 U0 B3]) .ret
abbrev WZ:s8:= .J8 5 1 [z0,z0,z0,zs,z0] [(0,5,E7)] e
abbrev LB:s8:= .load (J 7) F4
abbrev Xa:s8:= .J8 4 1 [zs,.N7,z0,z0] [(0,4,A2)] e
abbrev LD:s8:= .bin .eql F4 A2
abbrev LF:s8:= .bin .neq B4 F2
abbrev LG:s8:= .pick A2 I7 kf
abbrev Xb:p7:=H7 [i1 Q4 9,i1 (.len (s 9)) 10,i1 jB 11]
abbrev Xc:p7:=H7 [F5,I4 .sub B3 F2,zl]
abbrev CX:s8:= .off 4 aD
abbrev CY:s8:= .off 4 Y6
abbrev Xd:s8:= .build [(w 1),(w 1)] [(0,1,B2),(1,1,I7)]
abbrev Xe:y4:= .const (.d (.str [112,101,114,115,111,110]))
abbrev LH:s8:= .load K (l 26)
abbrev PO:p7:=H7 [B6,oD]
abbrev LI:s8:= .bin .sub B3 F4
abbrev LJ:s8:= .L2 1 B2 F2
abbrev Gd:s8:= .un .not I7
abbrev Ge:s8:= .un .not T3
abbrev LK:s8:= .store 3 Y6 B4
abbrev Gf:p7:=sq yF .ret
abbrev Xg:p7:=H7 [i1 Q4 4,i1 (.len T4) 5,i1 jB 6]
abbrev Xh:p7:=H7 [I4 .add (s 28) F2,i1 je 28]
abbrev Xi:p7:=H7 [I4 .add (s 31) F2,i1 je 31]
abbrev lu:y4:=s 12
abbrev Xj:p7:=H7 [I4 .add lu F2,i1 je 12]
abbrev Xk:p7:=H7 [I4 .add (s 19) F2,i1 je 19]
abbrev Xl:p7:=H7 [I4 .add (s 17) F2,i1 je 17]
abbrev Xm:p7:=H7 [I4 .add jh F2,i1 je 11]
abbrev Xn:p7:=H7 [i1 Q4 5,i1 (.len R9) 6,i1 jB 7]
abbrev vT:o3:=i0 ah3
abbrev Xo:p7:=R2 [F5,B6,vT] E7 sk (aj 2)
abbrev Xp:p7:=sq (H7 [D7 27 [],iL]) .ret
abbrev Xq:p7:=H7 [I4 .add W0 F2,i1 je 10]
abbrev CZ:s8:= .S0 (s 9)
abbrev LL:s8:= .L2 5 B3 D9
abbrev LM:s8:= .load K aA
abbrev Da:s8:= .S0 Z8
abbrev LN:s8:= .load K aS
abbrev LO:s8:= .load K dZ
abbrev PR:y4:= .const (.d (.str [97]))
abbrev PS:s8:= .J8 3 0 [] [] e
abbrev Xr:p7:=sq (H7 [z6,qB,iL]) .ret
abbrev Gj:s8:= .un .not F4
abbrev Gk:p7:=sq zS .ret
abbrev nh:o3:=i0 aQ7
abbrev Xs:p7:=sq (H7 [L4,nh,i1 iX 2]) .ret
abbrev Gl:p7:=sq NZ .ret
abbrev Gm:s8:= .off 3 T4
abbrev Xt:s8:= .build [z0,z0] [(0,1,B2),(1,1,D2)]
abbrev jg:y4:=l 25
abbrev LP:s8:= .L2 5 B3 B4
abbrev LQ:s8:= .L2 3 B4 E7
abbrev ai9:s8:= .len F4
abbrev LR:s8:= .L2 4 B4 F4
abbrev Xu:s8:= .build [z0,z0] [(0,1,B4),(1,1,E7)]
abbrev Xv:p7:=H7 [i1 CC 3,i1 yX 4,sH]
abbrev Gq:s8:= .off 0 A2
abbrev Db:s8:= .len I7
abbrev Gr:s8:= .off 8 aD
abbrev Gs:s8:= .off 4 U0
abbrev PT:s8:= .call 22 [B3,M9]
abbrev PU:s8:= .call 22 [B4,M9]
abbrev PW:p7:=H7 [i1 yM 5]
abbrev LS:s8:= .extract F4 0
abbrev LU:s8:= .extract F4 1
abbrev Xw:s8:= .J8 1 1 [(w 2)] [(0,1,B2)] e
abbrev Xx:p7:=sq (H7 [cE,i1 rH 4]) .ret
abbrev LV:s8:= .un .not aA
abbrev PX:s8:= .S0 (.const (w 12))
abbrev PY:s8:= .call 125 [B3,B4]
abbrev PZ:s8:= .call 125 [B3,E7]
abbrev Qa:s8:= .call 255 [B4,E7]
abbrev Qb:s8:= .call 30 [B3,A2]
abbrev Qc:p7:=H7 [i1 NW 4]
abbrev Qd:p7:=H7 [i1 DX 5]
abbrev Qe:s8:= .load (J 12) aD
abbrev Qf:s8:= .load (J 3) P9
abbrev Qg:s8:= .bin .neq B2 dm
abbrev Qh:s8:= .pick Q7 dZ kf
abbrev Qi:s8:= .bin .eql fE D9
abbrev fG:y4:=k 8
abbrev oz:y4:=l 27
abbrev Qj:s8:= .call 22 [B3,E7]
abbrev Qk:s8:= .call 86 [B4,F4]
abbrev Ql:s8:= .load (J 3) A2
abbrev Qm:s8:= .load (J 2) D2
abbrev Qn:s8:= .load (J 3) D2
abbrev Xy:s8:= .J8 1 1 [z0] [(0,1,D9)] e
abbrev Qo:s8:= .bin .gtr B2 D9
abbrev Qp:s8:= .bin .lss A2 D9
abbrev Qq:s8:= .bin .neq B2 F2
abbrev Qr:s8:= .bin .eql E5 F2
abbrev Qs:s8:= .bin .gtr E5 D9
abbrev Qt:s8:= .load (J 3) I7
abbrev Qu:s8:= .load (J 2) I7
abbrev Qv:s8:= .bin .eql R8 D9
abbrev Qw:s8:= .bin .gtr R8 D9
abbrev Qx:s8:= .load (J 2) R9
abbrev Qy:s8:= .load (J 3) R9
abbrev Qz:s8:= .load (J 4) aD
abbrev QA:s8:= .load (J 2) Y6
abbrev QB:s8:= .pick R8 kt Q7
abbrev QC:s8:= .bin .eql E7 M9
abbrev QD:s8:= .L2 1 aA aS
abbrev LW:p7:=sq PC .ret
abbrev Xz:p7:=H7 [ms 13,jl,i1 iX 13]
abbrev ee:o3:=ms 11
abbrev XA:p7:=H7 [ee,jl,i1 iX 11]
abbrev QF:s8:= .load (J 4) B4
abbrev QG:s8:= .load (J 3) B4
abbrev QH:s8:= .load (J 2) B4
abbrev QI:s8:= .load (J 4) F4
abbrev QJ:s8:= .bin .add E7 B2
abbrev QK:s8:= .bin .add F4 D2
abbrev QL:s8:= .bin .gtr B4 D9
abbrev QM:s8:= .bin .geq B4 D9
abbrev QN:s8:= .bin .geq B3 D9
abbrev QO:s8:= .bin .add F2 B4
abbrev QS:s8:= .bin .neq B3 F2
abbrev QT:s8:= .bin .eql E7 F2
abbrev QU:s8:= .store 1 R8 L3
abbrev QV:s8:= .store 3 aD E5
abbrev QW:s8:= .pick L3 T3 kf
abbrev QX:s8:= .pick H9 kt T3
abbrev QY:s8:= .pick H9 T3 kf
abbrev LZ:y4:= .const .N7
abbrev Ma:s8:= .off 0 T4
abbrev QZ:s8:= .load K (l 31)
abbrev Ra:s8:= .bin .neq B3 B4
abbrev Rb:s8:= .bin .geq B3 F4
abbrev Rc:s8:= .store 1 A2 F4
abbrev Re:s8:= .L2 4 A2 B2
abbrev Rf:s8:= .pick F4 kt D2
abbrev Rh:s8:= .L2 1 A2 D2
abbrev Ri:s8:= .L2 3 I7 H9
abbrev Rj:s8:= .pick F4 kt H9
abbrev Gu:s8:= .S0 T3
abbrev XB:p7:=H7 [vF,i1 Cy 2]
abbrev oA:y4:=k 10
abbrev XC:s8:= .alloc [zs,zs,z0,z0,z0,z0]
abbrev oB:y4:=l 28
abbrev oC:y4:=l 29
abbrev Rk:s8:= .store 1 F4 E7
abbrev Mb:s8:= .dh A2
abbrev Mc:s8:= .off 0 B2
abbrev Md:s8:= .off 2 R9
abbrev Me:s8:= .off 3 R9
abbrev Mf:s8:= .off 9 aD
abbrev Mg:s8:= .off 2 Y6
abbrev Mh:s8:= .off 8 Y6
abbrev XD:p7:=sq (H7 [i1 yM 2]) .ret
abbrev XE:p7:=sq (H7 [i1 qw 4]) .ret
abbrev XF:p7:=sq (H7 [i1 CB 3]) .ret
abbrev XG:p7:=sq (H7 [i1 CB 5]) .ret
abbrev Rm:s8:= .load K bJ
abbrev XH:p7:=sq (H7 [i1 qz 1]) .ret
abbrev XI:p7:=sq (H7 [i1 qz 4]) .ret
abbrev XJ:p7:=sq (H7 [i1 CW 1]) .ret
abbrev XK:p7:=sq (H7 [i1 Gi 2]) .ret
abbrev XL:p7:=sq (H7 [i1 Gi 3]) .ret
abbrev Ro:s8:= .load K oz
abbrev Z9:o3:=i0 aa7
abbrev cU:o3:=i0 NX
abbrev lz:o3:=if_ oL 4
abbrev iM:o3:=i0 ag9
abbrev ji:o3:=i0 aQ1
abbrev lD:o3:=i0 aQ6
abbrev jk:o3:=ol 0 1
abbrev sE:o3:=i1 cZ 7
abbrev sF:o3:=i1 kC 6
abbrev nc:o3:=i0 aQ8
abbrev qD:o3:=i0 ah5
abbrev qE:o3:=i0 ah1
abbrev qF:o3:=i0 ah0
abbrev qG:o3:=i0 Py
abbrev ku:o3:=os 1 5
abbrev lE:o3:=os 6 2
abbrev zf:o3:=if_ DQ 3
abbrev sI:o3:=i0 ah2
abbrev Dc:o3:=if_ PE 4
abbrev cF:o3:=ld 4
abbrev zi:o3:=i1 lY 1
abbrev zj:o3:=i1 rH 5
abbrev zk:o3:=i1 kC 3
abbrev vP:o3:=i0 ai3
abbrev vR:o3:=i0 ah9
abbrev vS:o3:=i0 ah7
abbrev qI:o3:=os 1 6
abbrev Gv:o3:=if_ zV 10
abbrev Gw:o3:=if_ sg 7
abbrev zv:o3:=i0 ai9
abbrev zw:o3:=i0 ai8
abbrev zx:o3:=i0 ai1
abbrev zy:o3:=i0 ai0
abbrev zz:o3:=i0 sw
set_option maxRecDepth 99999 in
def M6 (t:r7){x:r7}(h:t=x:=by dsimp only [u,e,sr,su,blk,lop,aj,D7,app,S1,I4,W4,lG,fM,U2,bD,bo6,slv,um,le0,un0,be5,D9,jB,B3,je,B4,F2,zq4,p6,bM,D0,E7,F4,kC,lB,E0,aQ0,ec,lC,zq5,Y6,Yb,Tw,iX,A2,Q4,qB,gZ,xk,NW,B2,CC,D2,zR,aP6,U0,zu,Z1,Q8,Fq,x9,vH,M0,L4,aa3,N8,mW,ai2,vQ,vI,Fv,av0,aD,NX,DQ,aP7,B6,jl,vG,tL,E5,Fw,sH,FC,R9,T4,Fs,iL,NZ,z6,ai7,vJ,M5,xq,bK,Fy,vk,av1,Ib,DS,xl,mX,xm,aP8,I7,oL,rH,L3,fP,vD,L7,cC,ah4,mY,bX,aa4,aa5,CE,W8,fQ,jf,H9,R8,yY,aP9,bY,R7,mV,zg,yL,QE,av2,DT,vB,fI,tM,dm,aQ1,fJ,vt,fH,La,ze,LY,Q5,yZ,aQ2,fK,V7,aQ5,gK,M9,ai4,vN,lZ,vA,av3,zS,zT,zU,aa7,cV,vE,xu,zh,Mi,cZ,NY,DU,qJ,aQ3,lX,cD,oD,fF,av4,F5,zl,DW,lY,Mj,DX,cE,Dd,aQ4,Ic,T3,bZ,Gn,Gp,av5,aQ6,aQ7,hU,zV,Q2,aI,aT,qH,sD,av6,av7,Z8,vU,aQ8,Z2,ah8,qC,av8,Oa,av9,kD,yF,vF,yG,yH,P9,yI,yJ,yK,sg,kW,ag9,S7,Cw,Cy,jj,aB,gJ,LX,Wz,di,Q7,Py,mU,ah0,ah1,KU,dY,kr,vC,WA,Cz,si,sj,zq,KV,kj,Ft,Pz,ah2,Fu,yM,T5,ai5,vM,ai6,vK,WB,cg,Fx,zo,KW,jc,WC,ah3,ah5,yN,CA,gA,N5,fL,WD,V9,Gc,Gg,nj,WE,KX,ah6,kX,kY,ah7,qw,CB,KY,KZ,Fz,FA,FB,yO,WG,sw,jb,aA,PA,kZ,W0,yP,yQ,yR,WH,aR,bB,Lb,ah9,vm,PB,qz,Lc,ai0,ai1,K5,Ld,vp,ai3,aS,dn,yS,FD,FE,PC,WI,vq,CD,Le,qx,qy,Lf,yT,Lg,Lh,sG,PD,Li,Lj,FF,oE,WJ,mZ,WK,CF,CG,FG,PE,WL,PF,FH,CH,sx,sy,sA,FI,bJ,yU,PG,Lk,CI,dw,Gi,PI,dZ,FJ,qA,FK,FL,Ll,FM,FN,FO,WM,CJ,CL,CM,WN,Lm,PJ,FP,FQ,FR,FT,FU,FV,FW,FX,WO,PK,yV,CN,CP,FY,sB,FZ,sC,Ln,vu,fE,CQ,CR,CS,yW,Lo,PL,PM,WQ,PN,WR,Lp,Lq,Ga,vz,yX,WS,CU,CV,Lr,Ls,ai8,Lt,Lu,WT,Lv,Lw,Lx,Lz,CW,LA,jh,WU,WV,WW,WX,WY,WZ,LB,Xa,LD,LF,LG,Xb,Xc,CX,CY,Xd,Xe,LH,PO,LI,LJ,Gd,Ge,LK,Gf,Xg,Xh,Xi,lu,Xj,Xk,Xl,Xm,Xn,vT,Xo,Xp,Xq,CZ,LL,LM,Da,LN,LO,PR,PS,Xr,Gj,Gk,nh,Xs,Gl,Gm,Xt,jg,LP,LQ,ai9,LR,Xu,Xv,Gq,Db,Gr,Gs,PT,PU,PW,LS,LU,Xw,Xx,LV,PX,PY,PZ,Qa,Qb,Qc,Qd,Qe,Qf,Qg,Qh,Qi,fG,oz,Qj,Qk,Ql,Qm,Qn,Xy,Qo,Qp,Qq,Qr,Qs,Qt,Qu,Qv,Qw,Qx,Qy,Qz,QA,QB,QC,QD,LW,Xz,ee,XA,QF,QG,QH,QI,QJ,QK,QL,QM,QN,QO,QS,QT,QU,QV,QW,QX,QY,LZ,Ma,QZ,Ra,Rb,Rc,Re,Rf,Rh,Ri,Rj,Gu,XB,oA,XC,oB,oC,Rk,Mb,Mc,Md,Me,Mf,Mg,Mh,XD,XE,XF,XG,Rm,XH,XI,XJ,XK,XL,Ro,Z9,cU,lz,iM,ji,lD,jk,sE,sF,nc,qD,qE,qF,qG,ku,lE,zf,sI,Dc,cF,zi,zj,zk,vP,vR,vS,qI,Gv,Gw,zv,zw,zx,zy,zz,H7,eB,R2,tJ,k,kt,kf,z0,zs,zb,w,l,s,i0,i1,it,if_,i3,ms,ml,os,ol,ld,sq,rg,te,sk]):{ x:r7 // t=x }:=⟨x,h⟩
end Go.A5.d4


import Derived.Calls
import Derived.Below
import Derived.WalkKit
import Derived.Laws.BytesString
import Derived.Lib.Strings
import Derived.Laws.MakeOwn
set_option linter.all false
open Bool renaming and_eq_true → c9, false_eq_true → j5, not_eq_true' → o8, or_eq_true → L5
open List renaming append_assoc → A9, cons_append → B7, getElem?_append_left → q7, getElem?_append_right → p7, getElem?_eq_getElem → l5, getElem?_eq_none → H6, getElem?_set_ne → y9, getElem?_set_self → J8, length_append → n9, length_cons → q6, length_map → A1, length_nil → B0, map_cons → E0, mem_cons → y7, mem_map → L6, mem_singleton → s6, replicate → j4, set_cons_succ → y6, set_cons_zero → C4
open Nat renaming beq → s7, ble → D9, eq_of_beq_eq_true → j7, le_of_ble_eq_true → k9, le_refl → o5, le_trans → B5, lt_or_ge → s5, mul_le_mul_right → M3
open Option renaming isSome_iff_exists → E8
namespace Go.Abs
inductive Data where
 |bool (b:Bool)
 |int (k:IntKind) (n:Int)
 |str (s:List UInt8)
 |slice (len:Nat) (cells:List Data)
 |br
 |O0
 |bM
 |nilIface
 deriving Inhabited
inductive KD where
 |i (k:IntKind) (n:Int)
 |s (x:List UInt8)
 |b (b:Bool)
 deriving DecidableEq,Inhabited
inductive Key where
 |int (k:IntKind) (n:Int)
 |str (s:List UInt8)
 |bool (b:Bool)
 |st (l:List KD)
 deriving DecidableEq,Inhabited
inductive j3 where
 |any
 |d (x:Data)
 |ptr (id off:Nat)
 |S9 (cells:List Data)
 |B6 (id sz lo len:Nat)
 |own (sz len:Nat) (cells:List Data)
 |P5
 |agg (cells:List j3)
 |tuple (vs:List j3)
 |func (f:FuncId) (first caps:List j3)
 |map (id:Nat)
 deriving Inhabited
inductive x9 where
 |dead
 |cells (l:List j3)
 |map (es:List (Key×j3))
 deriving Inhabited
abbrev q8:=List x9
inductive u9 where
 |loc (j:Nat)
 |slot (s:Nat)
 |const (v:j3)
 deriving Inhabited
inductive CK where
 |i
 |s
 |b
 deriving DecidableEq,Inhabited
inductive KK where
 |i
 |s
 |b
 |st (ks:List CK)
 deriving DecidableEq,Inhabited
inductive z6 where
 |R2 (x:u9)
 |pick (c a b:u9)
 |alloc (zero:List j3)
 |box (x:u9)
 |build (zero:List j3) (parts:List (Nat×Nat×u9))
 |A2 (sz len:Nat) (zero:List j3) (parts:List (Nat×Nat×u9)) (ob:Bool)
 |load (n:Option Nat) (x:u9)
 |store (n:Nat) (a x:u9)
 |aX (x:u9)
 |bin (op:BinOp) (x y:u9)
 |un (op:UnOp) (x:u9)
 |Cf (neg:Bool) (x:u9)
 |LP (neg:Bool) (x:u9)
 |u0 (neg:Bool) (x y:u9)
 |GQ (neg:Bool) (ks:List CK) (x y:u9)
 |mI (k:IntKind) (x:u9)
 |rC (x:u9)
 |EC (x:u9)
 |jN (x:u9)
 |rU (x:u9) (lo hi:Option u9)
 |aj (sz:Nat) (x:u9) (lo hi:Option u9)
 |off (k:Nat) (x:u9)
 |C8 (sz:Nat) (x i:u9)
 |gM (n sz:Nat) (x i:u9)
 |J2 (x i:u9)
 |extract (x:u9) (i:Nat)
 |len (x:u9)
 |V4 (x:u9)
 |Fe (x:u9)
 |append (sz bytes:Nat) (ob:Bool) (x y:u9)
 |ep (sz bytes:Nat) (x y:u9)
 |qh (x:Data)
 |own (sz:Nat) (x:u9)
 |gO (isMax:Bool) (xs:List u9)
 |clear (sz:Nat) (zero:List j3) (x:u9)
 |aG (f:FuncId) (first caps:List u9)
 |call (f:FuncId) (xs:List u9)
 |aD (x:u9) (xs:List u9)
 |makeMap
 |mL (sz:Nat) (zero:List j3) (x y:u9)
 |lookup (kk:KK) (zero:j3) (ok:Bool) (m k:u9)
 |dw (kk:KK) (m k v:u9)
 |defer (x:u9)
 |bad
 deriving Inhabited
structure p9 where
 op:z6
 dst:Option Nat:=none
 guard:Option (Nat×Bool):=none
 bT:List Nat:=[]
 deriving Inhabited
inductive s4 where
 |skip
 |region (ops:List p9) (draw:Bool)
 |seq (a b:s4)
 |cond (c:u9) (thn els:s4)
 |test (ops:List p9) (draw:Bool) (c:u9) (thn els:s4)
 |block (id:Nat) (body:s4)
 |loop (mask:List Bool) (body:s4)
 |exit (id:Nat)
 |ret
 |fz (s:Nat)
 |bad
 deriving Inhabited
inductive BL where
 |slot (s:Nat)
 |cell (s:Nat) (n:Option Nat)
 deriving Inhabited
structure s8 where
 nparams:Nat
 names:List Nat
 body:s4
 results:List BL
 bB:Bool:=false
 deriving Inhabited
def j3.I7:j3->j3
 | .own _ len cells=> .d (.slice len cells)
 | .P5=> .d (.slice 0 [])
 |v=>v
def j3.one:j3->Bool
 | .any=>false
 | .agg _=>false
 | .tuple _=>false
 |_=>true
def j3.cells? :j3->Option (List j3)
 | .agg l=>if l.all j3.one then some l else none
 |v=>if v.one then some [v] else none
def j3.data? :j3->Option Data
 | .d x=>some x
 | .own _ len cells=>some (.slice len cells)
 | .P5=>some (.slice 0 [])
 |_=>none
def M5 :List j3->Option (List Data)
 |[]=>some []
 |v::vs=>match v.data? with
  |some x=>match M5 vs with
   |some xs=>some (x::xs)
   |none=>none
  |none=>none
mutual
def j3.L7:j3->Nat
 | .ptr id _=>id+1
 | .B6 id _ _ _=>id+1
 | .map id=>id+1
 | .agg l=>B8 l
 | .tuple l=>B8 l
 | .func _ a b=>max (B8 a) (B8 b)
 |_=>0
def B8:List j3->Nat
 |[]=>0
 |v::vs=>max v.L7 (B8 vs)
end
mutual
def j3.kill (id:Nat):j3->j3
 | .ptr i o=>if i=id then .any else .ptr i o
 | .B6 i z l n=>if i=id then .any else .B6 i z l n
 | .map i=>if i=id then .any else .map i
 | .agg l=> .agg (N4 id l)
 | .tuple l=> .tuple (N4 id l)
 | .func f a b=> .func f (N4 id a) (N4 id b)
 |v=>v
def N4 (id:Nat):List j3->List j3
 |[]=>[]
 |v::vs=>v.kill id::N4 id vs
end
def x9.L7:x9->Nat
 | .dead=>0
 | .cells l=>B8 l
 | .map es=>B8 (es.map (·.2))
def T5:List x9->Nat->Bool
 |[],_=>true
 |o::os,k=>o.L7<=k+1&&T5 os (k+1)
def R7:List x9->Nat
 |[]=>0
 |o::os=>max o.L7 (R7 os)
def x9.kill (id:Nat):x9->x9
 | .dead=> .dead
 | .cells l=> .cells (N4 id l)
 | .map es=> .map (es.map fun p=>(p.1,p.2.kill id))
def rd (H:q8)(id off n:Nat):Option (List j3) :=
 match H[id]? with
 |some (.cells l)=>if off+n<=l.length then some ((l.drop off).take n) else none
 |_=>none
def splice (l:List j3)(off:Nat)(vs:List j3):List j3:=l.take off++vs++l.drop (off+vs.length)
def wr (H:q8)(id off:Nat)(vs:List j3):Option q8 :=
 match H[id]? with
 |some (.cells l)=>if off+vs.length<=l.length then some (H.set id (.cells (splice l off vs))) else none
 |_=>none
def i64 (n:Int):j3:= .d (.int .i64 n)
def aC (op:BinOp)(k:IntKind)(a b:Int):Option Data :=
 match op with
 | .add=>some (.int k (k.wrap (a+b)))
 | .sub=>some (.int k (k.wrap (a - b)))
 | .mul=>some (.int k (k.wrap (a * b)))
 | .quo=>if b=0 then none else some (.int k (k.wrap (a.tdiv b)))
 | .rem=>if b=0 then none else some (.int k (a.tmod b))
 | .and=>some (.int k (k.wrap (BitVec.ofInt k.bits a&&&BitVec.ofInt k.bits b).toNat))
 | .or=>some (.int k (k.wrap (BitVec.ofInt k.bits a|||BitVec.ofInt k.bits b).toNat))
 | .xor=>some (.int k (k.wrap (BitVec.ofInt k.bits a ^^^ BitVec.ofInt k.bits b).toNat))
 | .eql=>some (.bool (a==b))
 | .neq=>some (.bool (a != b))
 | .lss=>some (.bool (a<b))
 | .leq=>some (.bool (a<=b))
 | .gtr=>some (.bool (a>b))
 | .geq=>some (.bool (a≥b))
 |_=>none
def sw (op:BinOp)(k:IntKind)(a b:Int):Option Data :=
 if b<0 then none else
 match op with
 | .shl=>some (.int k (k.wrap (a * 2 ^ (min b.toNat k.bits))))
 | .shr=>some (.int k (a.fdiv (2 ^ (min b.toNat k.bits))))
 |_=>none
def uy (op:BinOp)(a b:List UInt8):Option Data :=
 match op with
 | .add=>if a.length+b.length<4611686018427387904 then some (.str (a++b)) else none
 | .eql=>some (.bool (a==b))
 | .neq=>some (.bool (!(a==b)))
 | .lss=>some (.bool (Op.bytesLess a b))
 | .leq=>some (.bool (Op.bytesLess a b||a==b))
 | .gtr=>some (.bool (!(Op.bytesLess a b||a==b)))
 | .geq=>some (.bool (!(Op.bytesLess a b)))
 |_=>none
def U4:BinOp->Bool
 | .shl=>true
 | .shr=>true
 |_=>false
def J7 (op:BinOp):Data->Data->Option Data
 | .int k a,.int k' b=>if U4 op then sw op k a b else if k=k' then aC op k a b else none
 | .str a,.str b=>uy op a b
 |_,_=>none
def Bc (op:UnOp):Data->Option Data
 | .int k n=>match op with
  | .neg=>some (.int k (k.wrap (0 - n)))
  |_=>none
 | .bool b=>match op with
  | .not=>some (.bool (!b))
  |_=>none
 |_=>none
def bA (cells:List j3):List (Nat×Nat×j3)->Option (List j3)
 |[]=>some cells
 |(off,sz,v)::rest=>match v.cells? with
  |some l=>if l.length=sz/\off+sz<=cells.length then bA (splice cells off l) rest else none
  |none=>none
def ga :List Data->Option (List UInt8)
 |[]=>some []
 | .int .u8 n::r=>match ga r with
  |some bs=>some (UInt8.ofNat n.toNat::bs)
  |none=>none
 |_=>none
def xX (isMax:Bool)(a b:Data):Option Data :=
 match a,b with
 | .int k x,.int _ y=>some (.int k (if isMax then (if y>x then y else x) else (if y<x then y else x)))
 |_,_=>none
def eD (isMax:Bool):Data->List j3->Option Data
 |a,[]=>some a
 |a,.d b::r=>match xX isMax a b with
  |some c=>eD isMax c r
  |none=>none
 |_,_=>none
def Data.Ev:CK->Data->Data->Option Bool
 | .i,.int k a,.int k' b=>if k=k' then some (a==b) else none
 | .s,.str a,.str b=>some (a==b)
 | .b,.bool a,.bool b=>some (a==b)
 |_,_,_=>none
def P0:List CK->List j3->List j3->Option Bool
 |[],[],[]=>some true
 |k::ks,.d a::r,.d b::q=>match Data.Ev k a b with
  |some t=>match P0 ks r q with
   |some u=>some (t&&u)
   |none=>none
  |none=>none
 |_,_,_=>none
def KD.av:KD->j3
 | .i k n=> .d (.int k n)
 | .s x=> .d (.str x)
 | .b t=> .d (.bool t)
def LA :List j3->Option (List KD)
 |[]=>some []
 | .d (.int k n)::vs=>match LA vs with
  |some r=>some (.i k n::r)
  |none=>none
 | .d (.str x)::vs=>match LA vs with
  |some r=>some (.s x::r)
  |none=>none
 | .d (.bool t)::vs=>match LA vs with
  |some r=>some (.b t::r)
  |none=>none
 |_=>none
def j3.LB :j3->Option Key
 | .d (.int k n)=>some (.int k n)
 | .d (.str s)=>some (.str s)
 | .d (.bool b)=>some (.bool b)
 | .agg l=>match LA l with
  |some r=>some (.st r)
  |none=>none
 |_=>none
def Data.aW:KK->Key->Key->Option Bool
 | .i,.int k a,.int k' b=>if k=k' then some (a==b) else none
 | .s,.str a,.str b=>some (a==b)
 | .b,.bool a,.bool b=>some (a==b)
 | .st ks,.st l,.st m=>P0 ks (l.map KD.av) (m.map KD.av)
 |_,_,_=>none
def KK.fits (kk:KK)(k:Key):Bool:=match kk,k with
 | .st ks,.st l=>(P0 ks (l.map KD.av) (l.map KD.av)).isSome
 | .st _,_=>false
 |_,_=>true
def aQ (kk:KK)(k:Key):List (Key×j3)->Option (Option j3)
 |[]=>some none
 |(k',v)::r=>match Data.aW kk k k' with
  |some true=>some (some v)
  |some false=>aQ kk k r
  |none=>none
def bK (kk:KK)(k:Key)(v:j3):List (Key×j3)->Option (List (Key×j3))
 |[]=>some [(k,v)]
 |(k',v')::r=>match Data.aW kk k k' with
  |some true=>some ((k,v)::r)
  |some false=>match bK kk k v r with
   |some r' =>some ((k',v')::r')
   |none=>none
  |none=>none
def U5 (ρ:u9->j3)(dflt:Nat):Option u9->Option Int
 |none=>some dflt
 |some x=>match ρ x with
  | .d (.int _ n)=>some n
  |_=>none
def P6 (H:q8)(sz:Nat):j3->Option (Nat×List j3)
 | .d (.slice len cells)=>if cells.length=len * sz then some (len,cells.map .d) else none
 | .own z len cells=>if z=sz then some (len,cells.map .d) else none
 | .B6 id z lo len=>if z=sz then match rd H id lo (len * sz) with
   |some cs=>some (len,cs.map j3.I7)
   |none=>none
  else none
 | .d (.str s)=>if sz=1 then some (s.length,s.map fun b=> .d (.int .u8 b.toNat)) else none
 |_=>none
def o6 (ρ:u9->j3)(H:q8):z6->Option (j3×List Nat)
 | .pick c a b=>match ρ c with
  | .d (.bool t)=>some (if t then ρ a else ρ b,[])
  |_=>none
 | .build zero parts=>match bA zero (parts.map fun (o,s,x)=>(o,s,ρ x)) with
  |some cs=>some (.agg cs,[])
  |none=>none
 | .A2 sz len zero parts false=>match bA zero (parts.map fun (o,s,x)=>(o,s,ρ x)) with
  |some cs=>match M5 cs with
   |some xs=>if 0<sz/\xs.length=len * sz then some (.own sz len xs,[]) else none
   |none=>none
  |none=>none
 | .load none x=>match ρ x with
  | .ptr id off=>match rd H id off 1 with
   |some [v]=>some (v.I7,[id])
   |_=>none
  | .S9 (c::_)=>some (.d c,[])
  |_=>none
 | .load (some n) x=>match ρ x with
  | .ptr id off=>match rd H id off n with
   |some vs=>some (.agg (vs.map j3.I7),[id])
   |none=>none
  | .S9 cells=>if n<=cells.length then some (.agg ((cells.take n).map .d),[]) else none
  |_=>none
 | .aX x=>match ρ x with
  | .ptr id off=>some (.ptr id off,[])
  | .S9 cells=>some (.S9 cells,[])
  | .func f a b=>some (.func f a b,[])
  |_=>none
 | .bin op x y=>match ρ x,ρ y with
  | .d a,.d b=>match J7 op a b with
   |some r=>some (.d r,[])
   |none=>none
  |_,_=>none
 | .LP neg x=>match ρ x with
  | .d .nilIface=>some (.d (.bool (!neg)),[])
  |_=>none
 | .u0 neg x y=>match ρ x,ρ y with
  | .d (.bool a),.d (.bool b)=>some (.d (.bool (neg != (a==b))),[])
  |_,_=>none
 | .GQ neg ks x y=>match ρ x,ρ y with
  | .agg a,.agg b=>match P0 ks a b with
   |some t=>some (.d (.bool (neg != t)),[])
   |none=>none
  |_,_=>none
 | .un op x=>match ρ x with
  | .d a=>match Bc op a with
   |some r=>some (.d r,[])
   |none=>none
  |_=>none
 | .Cf neg x=>match ρ x with
  | .d (.slice len _)=>if 0<len then some (.d (.bool neg),[]) else none
  | .B6 _ _ _ _=>some (.d (.bool neg),[])
  |_=>none
 | .mI k x=>match ρ x with
  | .d (.int _ n)=>some (.d (.int k (k.wrap n)),[])
  |_=>none
 | .rC x=>match ρ x with
  | .d (.str s)=>some (.d (.str s),[])
  |_=>none
 | .jN x=>match ρ x with
  | .d (.slice len cells)=>if cells.length=len then match ga cells with
    |some bs=>some (.d (.str bs),[])
    |none=>none
   else none
  |_=>none
 | .EC x=>match ρ x with
  | .d (.str s)=>some (.own 1 s.length (s.map fun b=> .int .u8 b.toNat),[])
  |_=>none
 | .rU x lo hi=>match ρ x with
  | .d (.str s)=>match U5 ρ 0 lo,U5 ρ s.length hi with
   |some l,some h=>if 0<=l/\l<=h/\h<=s.length then some (.d (.str ((s.take h.toNat).drop l.toNat)),[]) else none
   |_,_=>none
  |_=>none
 | .aj sz x lo hi=>match ρ x with
  | .d (.slice len cells)=>match U5 ρ 0 lo,U5 ρ len hi with
   |some l,some h=>if 0<=l/\l<=h/\h<=len/\cells.length=len * sz then
     some (.d (.slice (h - l).toNat ((cells.take (h.toNat * sz)).drop (l.toNat * sz))),[]) else none
   |_,_=>none
  | .B6 id z a len=>match U5 ρ 0 lo,U5 ρ len hi with
   |some l,some h=>if 0<=l/\l<=h/\h<=len/\z=sz then
     if l=h then some (.d (.slice 0 []),[]) else some (.B6 id sz (a+l.toNat * sz) (h - l).toNat,[]) else none
   |_,_=>none
  |_=>none
 | .off k x=>match ρ x with
  | .ptr id off=>some (.ptr id (off+k),[])
  | .S9 cells=>some (.S9 (cells.drop k),[])
  |_=>none
 | .C8 sz x i=>match ρ x,ρ i with
  | .d (.slice len cells),.d (.int _ i)=>if 0<=i/\i<len then some (.S9 (cells.drop (i.toNat * sz)),[]) else none
  | .B6 id z lo len,.d (.int _ i)=>if 0<=i/\i<len/\z=sz then some (.ptr id (lo+i.toNat * sz),[]) else none
  |_,_=>none
 | .gM n sz x i=>match ρ x,ρ i with
  | .ptr id off,.d (.int _ i)=>if 0<=i/\i<n then some (.ptr id (off+i.toNat * sz),[]) else none
  | .S9 cells,.d (.int _ i)=>if 0<=i/\i<n then some (.S9 (cells.drop (i.toNat * sz)),[]) else none
  |_,_=>none
 | .J2 x i=>match ρ x,ρ i with
  | .d (.str s),.d (.int _ i)=>if 0<=i then match s[i.toNat]? with
    |some b=>some (.d (.int .u8 b.toNat),[])
    |none=>none
   else none
  |_,_=>none
 | .extract x i=>match ρ x with
  | .tuple vs=>match vs[i]? with
   |some v=>some (v,[])
   |none=>none
  |_=>none
 | .len x=>match ρ x with
  | .d (.slice len _)=>some (i64 len,[])
  | .B6 _ _ _ len=>some (i64 len,[])
  |_=>none
 | .V4 x=>match ρ x with
  | .d (.str s)=>some (i64 s.length,[])
  |_=>none
 | .Fe x=>match ρ x with
  | .d .bM=>some (i64 0,[])
  | .map id=>match H[id]? with
   |some (.map es)=>some (i64 es.length,[id])
   |_=>none
  |_=>none
 | .gO isMax xs=>match xs.map ρ with
  | .d a::r=>match eD isMax a r with
   |some c=>some (.d c,[])
   |none=>none
  |_=>none
 | .aG f first caps=>some (.func f (first.map ρ) (caps.map ρ),[])
 | .lookup kk zero ok m k=>match ρ m,(ρ k).LB with
  | .map id,some key=>match H[id]? with
   |some (.map es)=>match aQ kk key es,kk.fits key with
    |some r,true=>some (if ok then .tuple [r.getD zero,.d (.bool r.isSome)] else r.getD zero,[id])
    |_,_=>none
   |_=>none
  | .d .bM,some key=>match Data.aW kk key key with
   |some true=>some (if ok then .tuple [zero,.d (.bool false)] else zero,[])
   |_=>none
  |_,_=>none
 |_=>none
inductive Touch where
 |slot (s:Nat)
 |obj (id:Nat)
 |cell (id off:Nat)
 |below (n:Nat)
 deriving Inhabited
structure F4 where
 T:List j3
 H:q8
 L:List j3
 p6:List Touch
def Touch.T4 (s:Nat):Touch->Bool
 | .slot t=>t==s
 |_=>false
def Touch.J3 (id:Nat):Touch->Bool
 | .obj i=>i==id
 | .below n=>id<n
 |_=>false
def Touch.bX (id off:Nat):Touch->Bool
 | .obj i=>i==id
 | .cell i o=>i==id&&o==off
 | .below n=>id<n
 |_=>false
def j3.MX:j3->j3
 | .P5=> .P5
 |v=>v.I7
def G9 (T L:List j3):u9->j3
 | .loc j=>(L.getD j .any).I7
 | .slot s=>(T.getD s .any).I7
 | .const v=>v.MX
def aY (st:F4):u9->Option (Nat×Nat)
 | .loc m=>match st.L[m]? with
  |some (.ptr id off)=>some (id,off)
  |_=>none
 | .slot s=>if st.p6.any (Touch.T4 s) then none else match st.T[s]? with
  |some (.ptr id off)=>some (id,off)
  |_=>none
 | .const _=>none
structure F2 where
 Tc:Nat
 SU:Nat
 base:Nat
 strict:Nat
def F2.may (l:F2)(id:Nat):Bool:=decide (id<l.Tc)||decide (l.SU<=id)
def F2.nG (l:F2)(a b base strict:Nat):F2 :=
 if l.SU<=l.Tc then ⟨a,b,base,strict⟩ else ⟨min l.Tc a,max l.SU b,base,strict⟩
def W6 (l:F2)(st:F4)(sz:Nat):z6->Option (Nat×List Data×F4)
 | .R2 (.slot s) =>
  if st.p6.any (Touch.T4 s) then none else
  match st.T[s]? with
  |some (.own z len cells)=>if z=sz then some (len,cells,{ st with T:=st.T.set s (.d (.slice len cells)),p6:= .slot s::st.p6 }) else none
  |_=>none
 | .load none x =>
  match aY st x with
  |some (id,off) =>
   if st.p6.any (Touch.bX id off)|| !l.may id then none else
   match st.H[id]? with
   |some (.cells cs) =>
    match cs[off]? with
    |some (.own z len cells)=>if z=sz then some (len,cells,{ st with H:=st.H.set id (.cells (cs.set off (.d (.slice len cells)))),p6:= .cell id off::st.p6 }) else none
    |_=>none
   |_=>none
  |none=>none
 |_=>none
def O7 (l:F2)(l6:List p9)(st:F4)(sz:Nat):u9->Option (Nat×List Data×F4)
 | .const (.own z len cells)=>if z=sz then some (len,cells,st) else none
 | .const _=>none
 | .slot _=>none
 | .loc j =>
  match st.L[j]? with
  |some (.own z len cells)=>if z=sz then some (len,cells,{ st with L:=st.L.set j (.d (.slice len cells)) }) else none
  |some (.d (.slice _ _))=>match l6[j]? with
   |some a=>W6 l st sz a.op
   |none=>none
  |_=>none
def roomFor (n bytes:Nat):Bool:=decide ((2 * n+512) * bytes<=281474976710656)
abbrev sg:=FuncId->List j3->q8->F2->Option (j3×q8)
def put (st:F4)(k:Nat)(v:j3):F4:={ st with L:=st.L.set k v }
def E1 (st:F4):u9->j3×F4
 | .loc j=>match st.L[j]? with
  |some (.own z len cells)=>(.own z len cells,{ st with L:=st.L.set j (.d (.slice len cells)) })
  |some .P5=>(.P5,st)
  |_=>(G9 st.T st.L (.loc j),st)
 | .const v=>(v,st)
 | .slot s=>(G9 st.T st.L (.slot s),st)
structure Env where
 cf:sg
 prom:FuncId->Bool
 mode:FuncId->Nat
 idle:FuncId->Bool
 lim:F2
 entry:Nat
def E9 (H:q8)(strict:Nat):Nat->Nat->Nat
 |0,n=>n
 |k+1,n=>if n<=strict then n else
  let m:=max n (R7 ((H.take n).drop strict))
  if m=n then n else E9 H strict k m
def D8 (H:q8)(strict n:Nat):Nat :=
 if n<=strict then n else if T5 ((H.take n).drop strict) strict then n else strict
def D7 (E:Env)(k:Nat)(f:FuncId)(args:List j3)(st:F4):Option F4 :=
 if E.prom f then
  match E.cf f args st.H E.lim with
  |some (v,H1)=>if st.H.length<=H1.length then some (put { st with H:=H1,p6:= .below H1.length::st.p6 } k v) else none
  |none=>none
 else
  let n:=E9 st.H E.lim.strict 8 (B8 args)
  if n<=st.H.length/\R7 ((st.H.take n).drop E.lim.strict)<=n then
   match E.mode f with
   |0=>match E.cf f args (st.H.take n) { E.lim with base:=n,strict:=D8 st.H E.lim.strict n } with
    |some (v,H1)=>if H1.length=n then some (put { st with H:=H1++st.H.drop n,p6:= .below n::st.p6 } k v) else none
    |none=>none
   |1=>match E.cf f args (st.H.take n) ⟨0,n,n,D8 st.H E.lim.strict n⟩ with
    |some (v,H1)=>if H1.length=n then some (put st k v) else none
    |none=>none
   |_ =>
    let m:=(args.headD .any).L7
    match E.cf f args (st.H.take n) (E.lim.nG m n n (D8 st.H E.lim.strict n)) with
    |some (v,H1)=>if H1.length=n/\m<=n then some (put { st with H:=H1.take m++st.H.drop m,p6:= .below m::st.p6 } k v) else none
    |none=>none
  else none
def newId (st:F4)(u5:Option Nat):Nat:=u5.getD st.H.length
def F0 (st:F4)(u5:Option Nat)(o:x9):F4 :=
 match u5 with
 |none=>{ st with H:=st.H++[o] }
 |some i=>{ st with H:=st.H.set i o }
def Q6 (E:Env)(k n:Nat)(st:F4)(a:j3)(x:u9):Option F4 :=
 match a with
 | .ptr id off =>
  match (E1 st x).1.cells? with
  |some l =>
   if l.length=n/\E.lim.may id/\(B8 l<=id+1\/(E.lim.base<=id/\E.lim.strict<=id)) then
    match wr (E1 st x).2.H id off l with
    |some H' =>some (put { (E1 st x).2 with H:=H',p6:= .obj id::(E1 st x).2.p6 } k .any)
    |none=>none
   else none
  |none=>none
 |_=>none
def V6 (E:Env)(k sz bytes:Nat)(st:F4)(id lo len:Nat)(y:j3):Option F4 :=
 if E.lim.base<=id/\E.entry<=id/\E.lim.may id then
  match st.H[id]?,P6 st.H sz y with
  |some (.cells l),some (m,cs) =>
   if lo=0/\len * sz=l.length/\roomFor (len+m) bytes/\B8 cs<=id/\cs.all j3.one/\0<sz then
    some (put { T:=N4 id st.T,H:=(st.H.take E.lim.base++(st.H.drop E.lim.base).map (x9.kill id)).set id (.cells (N4 id l++cs)),L:=N4 id st.L,p6:= .obj id::st.p6 } k (.B6 id sz lo (len+m)))
   else none
  |_,_=>none
 else none
def oa (l:F2)(st:F4):z6->Bool
 | .R2 (.slot s)=> !st.p6.any (Touch.T4 s)&&(match st.T[s]? with
  |some .P5=>true
  |_=>false)
 | .load none x =>
  match aY st x with
  |some (id,off)=> !st.p6.any (Touch.bX id off)&&l.may id&&(match st.H[id]? with
   |some (.cells cs)=>(match cs[off]? with
    |some .P5=>true
    |_=>false)
   |_=>false)
  |none=>false
 |_=>false
def isNil (l:F2)(l6:List p9)(st:F4):u9->Bool
 | .const .P5=>true
 | .loc j=>match st.L[j]? with
  |some .P5=>true
  |some (.d (.slice _ _))=>match l6[j]? with
   |some a=>oa l st a.op
   |none=>false
  |_=>false
 |_=>false
def K8 (E:Env)(l6:List p9)(u5:Option Nat)(k sz bytes:Nat)(ob:Bool)(st:F4)(x:u9)(y:j3):Option F4 :=
 match P6 st.H sz y with
 |some (m,cs) =>
  if ob then
   if isNil E.lim l6 st x/\roomFor m bytes/\0<sz then
    if m=0 then some (put st k .P5)
    else some (put (F0 st u5 (.cells cs)) k (.B6 (newId st u5) sz 0 m))
   else none
  else
   match M5 cs with
   |some new =>
    match O7 E.lim l6 st sz x with
    |some (len,cells,st') =>
     if roomFor (len+m) bytes/\0<sz then some (put st' k (.own sz (len+m) (cells++new))) else none
    |none=>none
   |none=>none
 |none=>none
def Z0 (E:Env)(u5:Option Nat)(k sz bytes:Nat)(st:F4)(id lo len:Nat)(y:j3):Option F4 :=
 if E.lim.may id then
  match st.H[id]?,P6 st.H sz y with
  |some (.cells l),some (m,cs) =>
   if lo=0/\len * sz=l.length/\roomFor (len+m) bytes/\B8 cs<=id/\cs.all j3.one/\0<sz then
    some (put (F0 { st with H:=st.H.set id .dead,p6:= .obj id::st.p6 } u5 (.cells (l.map j3.I7++cs))) k (.B6 (newId st u5) sz lo (len+m)))
   else none
  |_,_=>none
 else none
def X6 (E:Env)(k sz:Nat)(zero:List j3)(st:F4):j3->Option F4
 | .B6 id z lo len =>
  if z=sz/\zero.length=sz/\B8 zero=0/\E.lim.may id then
   match wr st.H id lo ((j4 len zero).flatten) with
   |some H' =>some (put { st with H:=H',p6:= .obj id::st.p6 } k (.tuple []))
   |none=>none
  else none
 | .d (.slice 0 _)=>some (put st k (.tuple []))
 |_=>none
def U1 (E:Env)(k:Nat)(kk:KK)(st:F4)(m key v:j3):Option F4 :=
 match m,key.LB with
 | .map id,some kd=>match st.H[id]? with
  |some (.map es) =>
   if v.L7<=id+1/\E.lim.may id then
    match Data.aW kk kd kd with
    |some true=>match bK kk kd v es with
     |some es' =>some (put { st with H:=st.H.set id (.map es'),p6:= .obj id::st.p6 } k .any)
     |none=>none
    |_=>none
   else none
  |_=>none
 |_,_=>none
def NA (sz:Nat)(zero:List j3):j3->j3->Option Nat
 | .d (.int .i64 n),.d (.int .i64 m)=>if n=m/\0<=n/\n<=1000000/\0<sz/\zero.length=sz then some n.toNat else none
 |_,_=>none
def E7 (E:Env)(l6:List p9)(u5:Option Nat)(k:Nat)(st:F4):z6->Option F4
 | .alloc zero=>some (put (F0 st u5 (.cells zero)) k (.ptr (newId st u5) 0))
 | .box x=>match (G9 st.T st.L x).cells? with
  |some l=>some (put (F0 st u5 (.cells l)) k (.ptr (newId st u5) 0))
  |none=>none
 | .makeMap=>some (put (F0 st u5 (.map [])) k (.map (newId st u5)))
 | .qh x=>some (put st k (.d x))
 | .own sz x=>match O7 E.lim l6 st sz x with
  |some (len,cells,st')=>some (put st' k (.own sz len cells))
  |none=>none
 | .mL sz zero x y=>match NA sz zero (G9 st.T st.L x) (G9 st.T st.L y) with
  |some n=>some (put (F0 st u5 (.cells (j4 n zero).flatten)) k (.B6 (newId st u5) sz 0 n))
  |none=>none
 | .A2 sz len zero parts true=>match bA zero (parts.map fun (o,s,x)=>(o,s,G9 st.T st.L x)) with
  |some cs=>if 0<sz/\cs.length=len * sz then some (put (F0 st u5 (.cells cs)) k (.B6 (newId st u5) sz 0 len)) else none
  |none=>none
 | .store n a x=>Q6 E k n st (G9 st.T st.L a) x
 | .append sz bytes ob x y =>
  match G9 st.T st.L x with
  | .B6 id z lo len=>if z=sz then V6 E k sz bytes st id lo len (G9 st.T st.L y) else none
  |_=>K8 E l6 u5 k sz bytes ob st x (G9 st.T st.L y)
 | .ep sz bytes x y =>
  match G9 st.T st.L x with
  | .B6 id z lo len=>if z=sz then Z0 E u5 k sz bytes st id lo len (G9 st.T st.L y) else none
  |_=>K8 E l6 u5 k sz bytes true st x (G9 st.T st.L y)
 | .clear sz zero x=>X6 E k sz zero st (G9 st.T st.L x)
 | .call f xs=>D7 E k f (xs.map (G9 st.T st.L)) st
 | .aD x xs=>match G9 st.T st.L x with
  | .func f first caps=>D7 E k f (first++xs.map (G9 st.T st.L)++caps) st
  |_=>none
 | .dw kk m key v=>U1 E k kk st (G9 st.T st.L m) (G9 st.T st.L key) (G9 st.T st.L v)
 | .defer x=>match G9 st.T st.L x with
  | .func f _ _=>if E.idle f then some (put st k .any) else none
  |_=>none
 |_=>none
def z6.E3:z6->Bool
 | .alloc _=>true
 | .box _=>true
 | .makeMap=>true
 | .mL .. =>true
 | .A2 _ _ _ _ b=>b
 | .store .. =>true
 | .append .. =>true
 | .ep .. =>true
 | .call .. =>true
 | .aD .. =>true
 | .dw .. =>true
 | .clear .. =>true
 | .defer _=>true
 | .qh _=>true
 | .own .. =>true
 |_=>false
def G4 (st:F4)(k:Nat):Option Nat->Option F4
 |none=>some st
 |some s =>
  if s<st.T.length then
   some { (E1 st (.loc k)).2 with T:=st.T.set s (E1 st (.loc k)).1,p6:= .slot s::st.p6 }
  else none
def W7 (st:F4)(k:Nat):Option Nat->Option F4
 |none=>some st
 |some s =>
  if s<st.T.length&&st.p6.any (Touch.T4 s) then
   some { (E1 st (.loc k)).2 with T:=st.T.set s (E1 st (.loc k)).1 }
  else none
def u7 (u5:Option Nat)(st:F4)(k:Nat)(dst:Option Nat):Option F4 :=
 match u5 with
 |none=>G4 st k dst
 |some _=>W7 st k dst
def z7 (L:List j3):Option (Nat×Bool)->Option Bool
 |none=>some true
 |some (j,want)=>match L[j]? with
  |some (.d (.bool b))=>some (b==want)
  |some (.tuple [])=>some false
  |_=>none
def E5 (E:Env)(l6:List p9)(u5:Option Nat)(k:Nat)(op:z6)(st:F4):Option (F4×List Nat) :=
 if op.E3 then
  match E7 E l6 u5 k st op with
  |some st' =>some (st',[])
  |none=>none
 else
  match op with
  | .R2 x=>some (put (E1 st x).2 k (E1 st x).1,[])
  |op=>match o6 (G9 st.T st.L) st.H op with
   |some (v,rs)=>some (put st k v,rs)
   |none=>none
def y8 (E:Env)(l6:List p9)(u5:Option Nat)(k:Nat)(i:p9)(st:F4):Option (F4×List Nat) :=
 match z7 st.L i.guard with
 |some true =>
  match E5 E l6 u5 k i.op st with
  |some (st',rs)=>match u7 u5 st' k i.dst with
   |some st2=>some (st2,rs)
   |none=>none
  |none=>none
 |some false=>match u7 u5 (put st k (.tuple [])) k i.dst with
  |some st2=>some (st2,[])
  |none=>none
 |none=>none
def eG (E:Env)(l6:List p9):List p9->Nat->F4->Option F4
 |[],_,st=>some st
 |i::is,k,st=>match y8 E l6 none k i st with
  |some (st',_)=>eG E l6 is (k+1) st'
  |none=>none
def z6.B4:z6->Bool
 | .alloc _=>true
 | .box _=>true
 | .makeMap=>true
 | .mL .. =>true
 | .A2 _ _ _ _ ob=>ob
 | .append _ _ ob _ _=>ob
 | .ep .. =>true
 | .qh _=>true
 |_=>false
def z6.makes:z6->Bool
 | .qh _=>false
 |op=>op.B4
def K4 (hs:List Touch)(rs:List Nat):Bool:=hs.any fun t=>rs.any fun id=>t.J3 id
structure kg where
 reads:List Nat
 Hp:List Touch
 Fz:Nat
 id:Nat
def K6 (E:Env)(st:F4):z6->Nat
 | .call f xs=>if E.prom f then st.H.length else E9 st.H E.lim.strict 8 (B8 (xs.map (G9 st.T st.L)))
 | .aD x xs=>match G9 st.T st.L x with
  | .func f first caps=>if E.prom f then st.H.length else E9 st.H E.lim.strict 8 (B8 (first++xs.map (G9 st.T st.L)++caps))
  |_=>0
 |_=>0
def G8 (st:F4):z6->Bool
 | .append _ _ _ x _=>match G9 st.T st.L x with
  | .B6 _ _ _ _=>true
  |_=>false
 |_=>false
def lZ:Option Nat->List Touch
 |some n=>[.obj n]
 |none=>[]
def dN (E:Env)(i:p9)(u5:Option Nat)(st st' :F4)(rs:List Nat):kg :=
 ⟨rs,lZ u5++st'.p6.take (st'.p6.length - st.p6.length),K6 E st i.op,u5.getD 0⟩
def calm (st:F4)(op:z6)(a:p9):Bool:=match op,a.op with
 | .append _ _ _ x _,.R2 (.slot s)=>a.dst.isNone&&a.guard.isNone&&(match G9 st.T st.L x,st.T[s]? with
  | .B6 id _ _ _,some (.ptr j _)=> !s7 j id
  |_,_=>false)
 |_,_=>false
def jD (E:Env)(l6:List p9)(u5:Option Nat)(k:Nat)(i:p9)(st:F4):Option (F4×kg) :=
 if G8 st i.op&&l6.any (fun a=>a.bT.contains k&& !calm st i.op a) then none else
 match y8 E l6 u5 k i st with
 |some (st',rs)=>some (st',dN E i u5 st st' rs)
 |none=>none
def R9 (E:Env)(l6:List p9):List p9->Nat->Nat->F4->Option (F4×List kg)
 |[],_,_,st=>some (st,[])
 |i::is,k,na,st=>match jD E l6 (if i.op.B4 then some na else none) k i st with
  |some (st',l) =>
   match R9 E l6 is (k+1) (if i.op.B4 then na+1 else na) st' with
   |some (st2,lg)=>some (st2,l::lg)
   |none=>none
  |none=>none
def wu (l6:List p9)(lg:List kg):Bool :=
 (l6.zip lg).all fun (i,l)=>i.bT.all fun e=>match lg[e]? with
  |some le=> !K4 le.Hp l.reads&&(!i.op.makes||decide (le.Fz<=l.id))
  |none=>false
def aB (l6:List p9):q8:=(l6.filter (·.op.B4)).map fun _=> .dead
def slotsOf (l6:List p9):List Touch:=l6.filterMap fun i=>if i.op.B4 then i.dst.map .slot else none
def Q5 (E:Env)(l6:List p9)(draw:Bool)(T:List j3)(H:q8):Option F4 :=
 if draw then
  match R9 E l6 l6 0 H.length ⟨T,H++aB l6,j4 l6.length .any,slotsOf l6⟩ with
  |some (st,lg)=>if wu l6 lg then some st else none
  |none=>none
 else eG E l6 l6 0 ⟨T,H,j4 l6.length .any,[]⟩
inductive F6 where
 |normal
 |exit (id:Nat)
 |ret
 deriving Inhabited
structure St where
 T:List j3
 H:q8
def V8:List Bool->List j3->List j3
 |true::m,v::vs=>v::V8 m vs
 |false::m,_::vs=> .any::V8 m vs
 |[],_::vs=> .any::V8 [] vs
 |_,[]=>[]
def clean (mask:List Bool)(strict n:Nat)(st:St):St :=
 if B8 (V8 mask st.T)<=n/\R7 ((st.H.take n).drop strict)<=n then ⟨V8 mask st.T,st.H.take n⟩ else ⟨V8 mask st.T,st.H⟩
def gp (body:St->Option (F6×St))(mask:List Bool)(strict n:Nat):Nat->St->Option (F6×St)
 |0,_=>none
 |k+1,st=>match body (clean mask strict n st) with
  |some (.normal,st')=>gp body mask strict n k st'
  |r=>r
def dQ:List j3->Nat->Option (Nat×Nat×Nat×Nat×Nat)
 |[],_=>none
 | .B6 id sz lo len::_,i=>some (i,id,sz,lo,len)
 |_::r,i=>dQ r (i+1)
def vU (lim:F2)(entry s:Nat)(st:St):Option St :=
 match st.T[s]? with
 |some (.ptr b 0)=>match st.H[b]? with
  |some (.cells cs)=>match dQ cs 0 with
   |some (i,id,sz,lo,len)=>match rd st.H id lo (len * sz) with
    |some vs=>match M5 vs with
     |some xs =>
      if lim.base<=id/\entry<=id/\lim.may id=true/\lim.base<=b/\id≠b then
       some ⟨N4 id st.T,((st.H.take lim.base++(st.H.drop lim.base).map (x9.kill id)).set id .dead).set b (.cells ((N4 id cs).set i (.d (.slice len xs))))⟩
      else none
     |none=>none
    |none=>none
   |none=>none
  |_=>none
 |_=>none
mutual
def j3.forget:j3->j3
 | .d (.slice n [])=> .d (.slice n [])
 | .d (.slice _ (_::_))=> .any
 | .own _ _ _=> .any
 | .S9 _=> .any
 | .agg l=> .agg (R1 l)
 | .tuple l=> .tuple (R1 l)
 | .func f a b=> .func f (R1 a) (R1 b)
 |v=>v
def R1:List j3->List j3
 |[]=>[]
 |v::vs=>v.forget::R1 vs
end
def x9.forget:x9->x9
 | .dead=> .dead
 | .cells l=> .cells (R1 l)
 | .map es=> .map (es.map fun p=>(p.1,p.2.forget))
def Data.flat:Data->Bool
 | .slice _ _=>false
 |_=>true
def wA:List j3->Nat->Option (Nat×Nat×Nat×List Data)
 |[],_=>none
 | .own sz len xs::_,i=>some (i,sz,len,xs)
 |_::r,i=>wA r (i+1)
def MA (lim:F2)(entry s:Nat)(st:St):Option St :=
 match st.T[s]? with
 |some (.ptr b 0)=>match st.H[b]? with
  |some (.cells cs)=>match wA cs 0 with
   |some (i,sz,len,xs) =>
    if len=0 then some st else
    if entry=0/\lim.base=0/\lim.strict=0/\xs.all Data.flat=true then
     some ⟨R1 st.T,(st.H.map x9.forget).set b (.cells ((R1 cs).set i (.B6 st.H.length sz 0 len)))++[.cells (xs.map .d)]⟩
    else none
   |none=>none
  |_=>none
 |some (.own sz len xs) =>
  if len=0 then some st else
  if entry=0/\lim.base=0/\lim.strict=0/\xs.all Data.flat=true then
   some ⟨(R1 st.T).set s (.B6 st.H.length sz 0 len),st.H.map x9.forget++[.cells (xs.map .d)]⟩
  else none
 |_=>none
def nJ (lim:F2)(entry s:Nat)(st:St):Option St :=
 match vU lim entry s st with
 |some r=>some r
 |none=>MA lim entry s st
def exec (E:Env)(lim:Nat):s4->St->Option (F6×St)
 | .skip,st=>some (.normal,st)
 | .region ops draw,st=>match Q5 E ops draw st.T st.H with
  |some r=>some (.normal,⟨r.T,r.H⟩)
  |none=>none
 | .seq a b,st=>match exec E lim a st with
  |some (.normal,st')=>exec E lim b st'
  |r=>r
 | .cond c a b,st=>match G9 st.T [] c with
  | .d (.bool true)=>exec E lim a st
  | .d (.bool false)=>exec E lim b st
  |_=>none
 | .test ops draw c a b,st=>match Q5 E ops draw st.T st.H with
  |some r=>match G9 r.T r.L c with
   | .d (.bool true)=>exec E lim a ⟨r.T,r.H⟩
   | .d (.bool false)=>exec E lim b ⟨r.T,r.H⟩
   |_=>none
  |none=>none
 | .block id body,st=>match exec E lim body st with
  |some (.exit id',st')=>if id' =id then some (.normal,st') else some (.exit id',st')
  |r=>r
 | .loop mask body,st=>gp (exec E lim body) mask E.lim.strict st.H.length lim st
 | .exit id,st=>some (.exit id,st)
 | .ret,st=>some (.ret,st)
 | .fz s,st=>match nJ E.lim E.entry s st with
  |some st' =>some (.normal,st')
  |none=>none
 | .bad,_=>none
def jR (T:List j3)(H:q8):BL->Option j3
 | .slot s=>T[s]?
 | .cell s none=>match T[s]? with
  |some (.ptr id off)=>match rd H id off 1 with
   |some [v]=>some v.I7
   |_=>none
  |_=>none
 | .cell s (some n)=>match T[s]? with
  |some (.ptr id off)=>match rd H id off n with
   |some vs=>some (.agg (vs.map j3.I7))
   |none=>none
  |_=>none
def aR (T:List j3)(H:q8):List BL->Option (List j3)
 |[]=>some []
 |r::rs=>match jR T H r with
  |some v=>match aR T H rs with
   |some vs=>some (v::vs)
   |none=>none
  |none=>none
def j9:List j3->j3
 |[v]=>v
 |vs=> .tuple (vs.map j3.I7)
def bH (H:q8)(n:Nat):Nat->List j3->Option (List j3)
 |0,_=>none
 |_+1,[]=>some []
 |fuel+1,v::vs =>
  match bH H n fuel vs with
  |none=>none
  |some ws =>
   match v with
   | .B6 id sz lo len =>
    if id<n then some (.B6 id sz lo len::ws) else
    match rd H id lo (len * sz) with
    |some us=>match bH H n fuel us with
     |some us' =>match M5 us' with
      |some xs=>some (.d (.slice len xs)::ws)
      |none=>none
     |none=>none
    |none=>none
   | .agg l=>match bH H n fuel l with
    |some l' =>some (.agg l' ::ws)
    |none=>none
   | .tuple l=>match bH H n fuel l with
    |some l' =>some (.tuple l' ::ws)
    |none=>none
   |v=>some (v::ws)
structure Prog where
 fn:FuncId->Option s8
 idle:FuncId->Bool
 mode:FuncId->Nat
 eF:FuncId->Option (List j3->q8->F2->Option (j3×q8))
def Prog.prom (A:Prog)(f:FuncId):Bool:=match A.fn f with
 |some af=>af.bB
 |none=>false
def finish (bB:Bool)(n:Nat)(vs:List j3)(H:q8):Option (j3×q8) :=
 if bB then some (j9 vs,H) else
 match bH H n 1000000 [j9 vs] with
 |some [v]=>if v.L7<=n then some (v,H.take n) else none
 |_=>none
def gb (A:Prog)(cf:sg)(lim:Nat)(af:s8)(args:List j3)(H:q8)(l:F2):Option (j3×q8) :=
 if args.length=af.nparams then
  match exec ⟨cf,A.prom,A.mode,A.idle,l,H.length⟩ lim af.body ⟨args++j4 (af.names.length - args.length) .any,H⟩ with
  |some (.exit _,_)=>none
  |some (_,st) =>
   match aR st.T st.H af.results with
   |some vs=>finish af.bB H.length vs st.H
   |none=>none
  |none=>none
 else none
def call (A:Prog):Nat->sg
 |0=>fun _ _ _ _=>none
 |n+1=>fun f args H l =>
  match A.eF f with
  |some p=>p args H l
  |none=>match A.fn f with
   |some af=>gb A (call A n) n af args H l
   |none=>none
inductive Place where
 |slot (s:Nat)
 |loc (j:Nat)
 |cell (id off:Nat)
 |none
 |ret
 deriving DecidableEq
inductive PW where
 |free
 |jj
 |held (n:Nat)
 |obj (id:Nat)
 |grow (n:Nat) (pl:Place)
 deriving DecidableEq
abbrev Gh:=Nat->PW
abbrev Q9:=Nat->Nat×Nat
def gJ (G:Gh)(b o:Nat):Prop :=
 match G b with
 | .jj=>True
 | .held n=>o<n
 | .grow n _=>o<n
 |_=>False
abbrev ad (b o:Nat):Addr:=⟨b,o,Option.none⟩
mutual
def DR (G:Gh)(w:World):Data->Value->Prop
 | .bool b,v=>v= .bool b
 | .int k n,v=>v= .int k n
 | .str s,v=>v= .string ⟨s.toArray⟩
 | .slice len cells,v=>((v= .slice Option.none 0 0\/∃ a,v= .slice (some a) 0 0)/\len=0/\cells=[]) \/
   ∃ b o cap,v= .slice (some (ad b o)) len cap/\len<=cap/\eo G w b o cells
 | .br,v=>v= .pointer Option.none
 | .O0,v=>v= .nilFunc
 | .bM,v=>v= .map Option.none
 | .nilIface,v=>v= .nilIface
def eo (G:Gh)(w:World)(b:Nat):Nat->List Data->Prop
 |_,[]=>True
 |o,c::cs=>gJ G b o/\(∃ x,w.cell? (ad b o)=some x/\DR G w c x)/\eo G w b (o+1) cs
end
def KI (f:Nat×Nat)(n:Nat):Prop:=∀ o,o<n->¬ (f.1<=o/\o<f.2)
mutual
def VR (G:Gh)(I:Q9)(N:Nat->Prop)(w:World):Place->j3->Value->Prop
 |_,.any,_=>True
 |_,.d x,v=>DR G w x v
 |_,.ptr id off,v=>N id/\v= .pointer (some (ad (I id).1 ((I id).2+off)))
 |_,.S9 cells,v=>∃ b o,v= .pointer (some (ad b o))/\eo G w b o cells
 |_,.B6 id sz lo len,v=>N id/\∃ cap,v= .slice (some (ad (I id).1 ((I id).2+lo))) len cap/\len<=cap /\
   ∃ c e f,w.heap[(I id).1]? =some (.cells c e f)/\(I id).2+lo+cap * sz<=c.size
 |pl,.own sz len cells,v=>cells.length=len * sz /\
   (((v= .slice Option.none 0 0\/∃ b o,v= .slice (some (ad b o)) 0 0)/\len=0) \/
    (pl≠ .none/\∃ b o cap c e f,v= .slice (some (ad b o)) len cap/\len<=cap/\w.heap[b]? =some (.cells c e f)/\o+cap * sz<=c.size/\KI f c.size /\
     G b= .grow (o+len * sz) pl/\eo G w b o cells))
 |_,.P5,v=>v= .slice Option.none 0 0
 |_,.agg l,v=>∃ cs:Array Value,v= .agg cs/\H8 G I N w l cs.toList
 |_,.tuple l,v=>∃ cs:Array Value,v= .tuple cs/\H8 G I N w l cs.toList
 |_,.func f a b,v=>∃ x y:Array Value,v= .func (.func f) x y/\H8 G I N w a x.toList/\H8 G I N w b y.toList
 |_,.map id,v=>N id/\v= .map (some (I id).1)
def H8 (G:Gh)(I:Q9)(N:Nat->Prop)(w:World):List j3->List Value->Prop
 |[],vs=>vs=[]
 |a::as,vs=>∃ x xs,vs=x::xs/\VR G I N w .none a x/\H8 G I N w as xs
end
def KD.val:KD->Value
 | .i k n=> .int k n
 | .s x=> .string ⟨x.toArray⟩
 | .b t=> .bool t
def Key.val:Key->Value
 | .int k n=> .int k n
 | .str x=> .string ⟨x.toArray⟩
 | .bool t=> .bool t
 | .st l=> .agg (l.map KD.val).toArray
def ER (G:Gh)(I:Q9)(N:Nat->Prop)(w:World):List (Key×j3)->List MapEntry->Prop
 |[],es=>es=[]
 |(k,v)::r,es=>∃ e es',es=e::es' /\e.key=k.val/\VR G I N w .none v e.val/\ER G I N w r es'
structure Gl (arr:Array MapEntry)(dX:Nat):Prop where
 old:∀ e ∈ arr.toList,e.born<dX
 nodup:(arr.toList.map (·.born)).Nodup
theorem Gl.push {arr:Array MapEntry}{dX:Nat}(h:Gl arr dX)(k v:Value):Gl (arr.push { key:=k,val:=v,born:=dX }) (dX+1) where
 old e he:=by
  rw [Array.toList_push] at he
  rcases List.mem_append.1 he with he|he
  .exact Nat.lt_succ_of_lt (h.old e he)
  simp_all
 nodup:=by
  rw [Array.toList_push,List.map_append,List.nodup_append];refine ⟨h.nodup,by simp,fun a ha b hb=> ?_⟩;simp [E0,List.map_nil,s6] at hb;obtain ⟨e,he,rfl⟩:=L6.1 ha;have:=h.old e he;omega
theorem Gl.modify {arr:Array MapEntry}{dX:Nat}(h:Gl arr dX)(j:Nat)(g:MapEntry->MapEntry)(hg:∀ e,(g e).born=e.born):Gl (arr.modify j g) dX:=by
 have e1:(arr.modify j g).toList.map (·.born)=arr.toList.map (·.born):=by
  apply List.ext_getElem?
  grind
 refine ⟨fun e he=> ?_,by rw [e1];exact h.nodup⟩;have:e.born ∈ arr.toList.map (·.born):=by
  grind
 obtain ⟨e',he',hb⟩:=L6.1 this;rw [<- hb];exact h.old e' he'
def OR (G:Gh)(I:Q9)(N:Nat->Prop)(w:World)(id:Nat):x9->Prop
 | .dead=>True
 | .cells l=>N id/\∃ c e f,w.heap[(I id).1]? =some (.cells c e f)/\G (I id).1= .obj id/\KI f c.size/\(I id).2+l.length<=c.size /\
   ∀ i x,l[i]? =some x->∃ v,c[(I id).2+i]? =some v/\VR G I N w (.cell id i) x v
 | .map es=>N id/\∃ arr dX,w.heap[(I id).1]? =some (.map arr dX)/\G (I id).1= .obj id/\ER G I N w es arr.toList/\Gl arr dX
def HR (G:Gh)(I:Q9)(N:Nat->Prop)(w:World)(H:q8):Prop:=∀ id o,H[id]? =some o->OR G I N w id o
def WF (G:Gh)(w:World):Prop:=∀ b,w.heap.size<=b->G b= .free
structure Sub (G:Gh)(w:World)(G' :Gh)(w' :World):Prop where
 jj:∀ b o:Nat,gJ G b o->gJ G' b o/\w'.cell? (ad b o)=w.cell? (ad b o)
 shape:∀ (b:Nat) (c:Array Value) (e:TypeId) (f:Nat×Nat),w.heap[b]? =some (Obj.cells c e f)->∃ c' :Array Value,w'.heap[b]? =some (Obj.cells c' e f)/\c'.size=c.size
class D5 where
 on:Prop
section
variable [D5]
structure Ext (G:Gh)(w:World)(G' :Gh)(w' :World):Prop where
 os:w'.os=w.os
 tape:w'.tape=w.tape
 output:w'.output=w.output
 drawn:D5.on->w.drawn<=w'.drawn
 size:w.heap.size<=w'.heap.size
 jj:∀ b o:Nat,gJ G b o->gJ G' b o/\w'.cell? (ad b o)=w.cell? (ad b o)
 still:∀ b:Nat,(G b= .jj\/∃ n,G b= .held n)->G' b=G b/\w'.heap[b]? =w.heap[b]?
 shape:∀ (b:Nat) (c:Array Value) (e:TypeId) (f:Nat×Nat),w.heap[b]? =some (Obj.cells c e f)->∃ c' :Array Value,w'.heap[b]? =some (Obj.cells c' e f)/\c'.size=c.size
def Ext.sub {G:Gh}{w:World}{G' :Gh}{w' :World}(h:Ext G w G' w'):Sub G w G' w' :=⟨h.jj,h.shape⟩
instance {G:Gh} {w:World} {G' :Gh} {w' :World}:CoeOut (Ext G w G' w') (Sub G w G' w'):=⟨Ext.sub⟩
theorem Ext.refl (G:Gh)(w:World):Ext G w G w :=
 ⟨rfl,rfl,rfl,fun _=>o5 _,o5 _,fun _ _ h=>⟨h,rfl⟩,fun _ _=>⟨rfl,rfl⟩,fun _ c _ _ h=>⟨c,h,rfl⟩⟩
theorem Ext.trans {G:Gh}{w:World}{G1:Gh}{w1:World}{G2:Gh}{w2:World}(h:Ext G w G1 w1)(k:Ext G1 w1 G2 w2):Ext G w G2 w2 where
 os:=k.os.trans h.os
 tape:=k.tape.trans h.tape
 output:=k.output.trans h.output
 drawn o:=B5 (h.drawn o) (k.drawn o)
 size:=B5 h.size k.size
 jj b o hi:=by
  obtain ⟨a1,a2⟩:=h.jj b o hi;obtain ⟨b1,b2⟩:=k.jj b o a1;simp_all
 still b hb:=by
  obtain ⟨a1,a2⟩:=h.still b hb;obtain ⟨b1,b2⟩:=k.still b (by simp_all);simp_all
 shape b c e f hc:=by
  obtain ⟨c1,h1,s1⟩:=h.shape b c e f hc;obtain ⟨c2,h2,s2⟩:=k.shape b c1 e f h1;simp_all
def Ext.drew {G:Gh}{w:World}{G' :Gh}{w' :World}(h:Ext G w G' w')(n:Nat)(hn:w'.drawn<=n):Ext G w G' { w' with drawn:=n } :=
 ⟨h.os,h.tape,h.output,fun o=>B5 (h.drawn o) hn,h.size,h.jj,h.still,h.shape⟩
end
mutual
theorem DR.mono {G:Gh}{w:World}{G' :Gh}{w' :World}
  (h:∀ b o,gJ G b o->gJ G' b o/\w'.cell? (ad b o)=w.cell? (ad b o)):∀ (d:Data) (v:Value),DR G w d v->DR G' w' d v
 | .bool _,_,hd=>by simp_all [DR]
 | .int _ _,_,hd=>by simp_all [DR]
 | .str _,_,hd=>by simp_all [DR]
 | .slice _ cells,_,hd=>by
  simp [DR] at hd ⊢
  rcases hd with hd|⟨b,o,cap,h1,h2,h3⟩
  .simp_all
  .exact Or.inr ⟨b,o,cap,h1,h2,eo.mono h b o cells h3⟩
 | .br,_,hd=>by simp_all [DR]
 | .O0,_,hd=>by simp_all [DR]
 | .bM,_,hd=>by simp_all [DR]
 | .nilIface,_,hd=>by simp_all [DR]
theorem eo.mono {G:Gh}{w:World}{G' :Gh}{w' :World}
  (h:∀ b o,gJ G b o->gJ G' b o/\w'.cell? (ad b o)=w.cell? (ad b o)) (b:Nat):∀ (o:Nat) (l:List Data),eo G w b o l->eo G' w' b o l
 |_,[],_=>by simp [eo]
 |o,c::cs,hd=>by
  obtain ⟨h1,⟨x,h2,h3⟩,h4⟩:=hd;obtain ⟨i1,i2⟩:=h b o h1;exact ⟨i1,⟨x,i2.trans h2,DR.mono h c x h3⟩,eo.mono h b (o+1) cs h4⟩
end
def aK (pl:Place)(G:Gh)(w:World)(G' :Gh)(w' :World):Prop :=
 ∀ b n,G b= .grow n pl->G' b= .grow n pl/\w'.heap[b]? =w.heap[b]?
mutual
theorem VR.mono {G:Gh}{I:Q9}{N:Nat->Prop}{w:World}{G' :Gh}{I' :Q9}{N' :Nat->Prop}{w' :World}(hx:Sub G w G' w')
  (hI:∀ id,N id->I' id=I id) (hN:∀ id,N id->N' id):∀ (pl:Place) (a:j3) (v:Value),(pl= .none\/aK pl G w G' w')->VR G I N w pl a v->VR G' I' N' w' pl a v
 |_,.any,_,_,_=>by simp [VR]
 |_,.d x,v,_,h=>by exact DR.mono hx.jj x v h
 |_,.ptr id off,v,_,h=>by
  simp_all [VR]
 |_,.S9 cells,v,_,h=>by
  obtain ⟨b,o,h1,h2⟩:=h;exact ⟨b,o,h1,eo.mono hx.jj b o cells h2⟩
 |_,.B6 id sz lo len,v,_,h=>by
  simp only [VR] at h ⊢;obtain ⟨h1,cap,h2,h3,c,e,f,h4,h5⟩:=h;obtain ⟨c',g1,g2⟩:=hx.shape _ c e f h4;simp_all
 |pl,.own sz len cells,v,hk,h=>by
  obtain ⟨h0,h⟩:=h;refine ⟨h0,?_⟩
  rcases h with h|⟨hp,b,o,cap,c,e,f,h1,h2,h3,h4,h5,h6,h7⟩
  .simp_all
  .rcases hk with hk|hk
   .simp_all
   .obtain ⟨k1,k2⟩:=hk b _ h6
    exact Or.inr ⟨hp,b,o,cap,c,e,f,h1,h2,k2.trans h3,h4,h5,k1,eo.mono hx.jj b o cells h7⟩
 |_,.P5,v,_,h=>by simp_all [VR]
 |_,.agg l,v,_,h=>by
  obtain ⟨cs,h1,h2⟩:=h;exact ⟨cs,h1,H8.mono hx hI hN l _ h2⟩
 |_,.tuple l,v,_,h=>by
  obtain ⟨cs,h1,h2⟩:=h;exact ⟨cs,h1,H8.mono hx hI hN l _ h2⟩
 |_,.func f a b,v,_,h=>by
  obtain ⟨x,y,h1,h2,h3⟩:=h;exact ⟨x,y,h1,H8.mono hx hI hN a _ h2,H8.mono hx hI hN b _ h3⟩
 |_,.map id,v,_,h=>by
  simp_all [VR]
theorem H8.mono {G:Gh}{I:Q9}{N:Nat->Prop}{w:World}{G' :Gh}{I' :Q9}{N' :Nat->Prop}{w' :World}(hx:Sub G w G' w')
  (hI:∀ id,N id->I' id=I id) (hN:∀ id,N id->N' id):∀ (l:List j3) (vs:List Value),H8 G I N w l vs->H8 G' I' N' w' l vs
 |[],_,h=>by grind [H8]
 |a::as,vs,h=>by
  obtain ⟨x,xs,h1,h2,h3⟩:=h;exact ⟨x,xs,h1,VR.mono hx hI hN .none a x (Or.inl rfl) h2,H8.mono hx hI hN as xs h3⟩
end
theorem ER.mono {G:Gh}{I:Q9}{N:Nat->Prop}{w:World}{G' :Gh}{I' :Q9}{N' :Nat->Prop}{w' :World}(hx:Sub G w G' w')
  (hI:∀ id,N id->I' id=I id) (hN:∀ id,N id->N' id):∀ (l:List (Key×j3)) (es:List MapEntry),ER G I N w l es->ER G' I' N' w' l es
 |[],_,h=>by grind [ER]
 |(k,v)::r,es,h=>by
  obtain ⟨e,es',h1,h2,h3,h4⟩:=h;exact ⟨e,es',h1,h2,VR.mono hx hI hN .none _ _ (Or.inl rfl) h3,ER.mono hx hI hN r es' h4⟩
theorem OR.mono {G:Gh}{I:Q9}{N:Nat->Prop}{w:World}{G' :Gh}{I' :Q9}{N' :Nat->Prop}{w' :World}(hx:Sub G w G' w')
  (hI:∀ id,N id->I' id=I id) (hN:∀ id,N id->N' id) (id:Nat) (o:x9)
  (hb:G (I id).1= .obj id->G' (I id).1= .obj id/\w'.heap[(I id).1]? =w.heap[(I id).1]?)
  (hc:∀ off,aK (.cell id off) G w G' w') (h:OR G I N w id o):OR G' I' N' w' id o:=by
 cases o with
 |dead=>simp [OR]
 |cells l =>
  grind [OR,VR.mono]
 |map es =>
  grind [OR,ER.mono]
theorem VR.I7 {G:Gh}{I:Q9}{N:Nat->Prop}{w:World}{pl wC :Place}:∀ {a:j3} {v:Value},VR G I N w pl a v->VR G I N w wC a.I7 v
 | .any,_,_=>by simp [j3.I7,VR]
 | .d _,_,h=>by grind [j3.I7,VR]
 | .ptr _ _,_,h=>by grind [j3.I7,VR]
 | .S9 _,_,h=>by grind [j3.I7,VR]
 | .B6 _ _ _ _,_,h=>by grind [j3.I7,VR]
 | .own sz len cells,v,h=>by
  simp [j3.I7,VR,DR] at h ⊢;obtain ⟨h0,h⟩:=h
  rcases h with ⟨h1,h2⟩|⟨hp,b,o,cap,c,e,f,h1,h2,h3,h4,h5,h6,h7⟩
  all_goals (simp_all [eo]<;>grind)
 | .P5,v,h=>by
  simp_all [j3.I7,VR,DR,trivial]
 | .agg _,_,h=>by grind [j3.I7,VR]
 | .tuple _,_,h=>by grind [j3.I7,VR]
 | .func _ _ _,_,h=>by grind [j3.I7,VR]
 | .map _,_,h=>by grind [j3.I7,VR]
theorem VR.MX {G:Gh}{I:Q9}{N:Nat->Prop}{w:World}{pl wC :Place}{a:j3}{v:Value}(h:VR G I N w pl a v):VR G I N w wC a.MX v:=by
 cases a
 case P5=>simp_all [j3.MX,VR]
 all_goals exact h.I7
def SE {u:j3}(h:u.I7=u):u.MX=u:=by
 cases u
 case P5=>rfl
 all_goals exact h
def EB:Value->j3->Bool
 |_,.any=>true
 | .bool b,.d (.bool c)=>b==c
 | .int k n,.d (.int k' n')=>k==k' &&n==n'
 | .string s,.d (.str l)=>s.data.toList==l
 | .slice Option.none 0 0,.own _ 0 []=>true
 | .slice Option.none 0 0,.P5=>true
 | .slice Option.none 0 0,.d (.slice 0 [])=>true
 | .pointer Option.none,.d .br=>true
 | .map Option.none,.d .bM=>true
 | .nilFunc,.d .O0=>true
 | .nilIface,.d .nilIface=>true
 |_,_=>false
def consts:List Value->List j3->Bool
 |[],[]=>true
 |v::vs,a::as=>EB v a&&consts vs as
 |_,_=>false
def xS:Value->j3->Bool
 | .agg cs,.agg l=>consts cs.toList l
 |v,a=>EB v a
structure Cx where
 P:Program
 names:List Tmp
 ops:Array Oper
def Cx.ck (X:Cx)(D:Nat->Bool):Operand->u9->Bool
 | .tmp t,.slot s=>X.names[s]? ==some t
 | .tmp t,.loc j=>D j&&((X.ops[j]?).bind (·.dst))==some t&& !X.names.contains t
 | .const v,.const a=>xS v a
 | .func f,.const (.func g [] [])=>f==g
 |_,.const .any=>true
 |_,_=>false
def Ss (ck:Operand->u9->Bool):List Operand->List u9->Bool
 |[],[]=>true
 |x::xs,y::ys=>ck x y&&Ss ck xs ys
 |_,_=>false
def WN (ck:Operand->u9->Bool):Option Operand->Option u9->Bool
 |none,none=>true
 |some x,some y=>ck x y
 |_,_=>false
def dn (P:Program)(t:TypeId):Option Bool :=
 match P.underlying t with
 |some (.struct _)=>some true
 |some (.array _ _)=>some true
 |some _=>some false
 |none=>none
def rQ (P:Program)(t:TypeId):Option Nat->Bool
 |none=>dn P t==some false
 |some n=>dn P t==some true&&P.cellsOf t==n&&decide (0<n)
def kH (P:Program)(t:TypeId)(sz:Nat):Bool :=
 match P.underlying t with
 |some (.slice e)=>P.cellsOf e==sz&&(P.info? e).isSome
 |_=>false
def eB (P:Program)(t:TypeId):CK->Bool
 | .i=>match P.underlying t with
  |some (.int _)=>true
  |_=>false
 | .s=>match P.underlying t with
  |some .string=>true
  |_=>false
 | .b=>match P.underlying t with
  |some .bool=>true
  |_=>false
def S2 (P:Program):List Field->Nat->List CK->Bool
 |[],_,[]=>true
 | f :: fs, n, k :: ks => f.name != "_" && eB P f.type k && f.offset == n && S2 P fs (n + 1) ks
 |_,_,_=>false
def iQ (P:Program)(t:TypeId)(ks:List CK):Bool :=
 match P.underlying t with
 |some (.struct fs)=>S2 P fs.toList 0 ks&& !P.stoodInHeld t&& !P.eqGuardType P.depth t
 |_=>false
def dK (P:Program):List Field->Nat->List CK->Bool
 |[],_,[]=>true
 |[],_,_::_=>false
 | f :: fs, n, ks => f.name != "_" && f.offset == n &&
  (match P.underlying f.type with
  |some (.struct gs)=>(P.info? f.type).isSome&&P.cellsOf f.type==gs.size&&S2 P gs.toList 0 (ks.take gs.size)&& !P.stoodInHeld f.type&&dK P fs (n+gs.size) (ks.drop gs.size)
  |_=>(match ks with
   |k::r=>eB P f.type k&&dK P fs (n+1) r
   |[]=>false))
def vS (P:Program)(t:TypeId)(ks:List CK):Bool :=
 match P.underlying t with
 |some (.struct fs)=>dK P fs.toList 0 ks&& !P.stoodInHeld t&& !P.eqGuardType P.depth t
 |_=>false
def uS (P:Program)(t:TypeId):KK->Bool
 | .i=>eB P t .i
 | .s=>eB P t .s
 | .b=>eB P t .b
 | .st ks=>iQ P t ks
def jx (P:Program)(ck:Operand->u9->Bool)(place:Nat->Option (Nat×Nat)):List (Nat×Operand)->List (Nat×Nat×u9)->Bool
 |[],[]=>true
 |(i,x)::r,(off,sz,y)::q=>place i==some (off,sz)&&ck x y&&jx P ck place r q
 |_,_=>false
def vR (P:Program)(fs:List Field):Option (List (Nat×Nat)):=fs.mapM fun f=>(P.info? f.type).map fun i=>(f.offset,i.size)
def vD (P:Program)(t:TypeId)(l:List j3):Bool :=
 match P.info? t with
 |some i=>match i.zero with
  |some z=>consts z.cells.toList l
  |none=>false
 |none=>false
def C7 (P:Program)(ck:Operand->u9->Bool)(o:Oper)(op:z6):Bool :=
 match o.op,op with
 | .pick c a b,.pick c' a' b' =>ck c c' &&ck a a' &&ck b b'
 | .load t x,.load n y=>ck x y&&rQ P t n
 | .nilCheck x,.aX y=>ck x y
 | .binOp b _ x y _,.bin b' x' y' =>b==b' &&ck x x' &&ck y y'
 | .binOp b t x (.const (.slice Option.none 0 0)) _,.Cf neg x' =>ck x x' &&(match P.underlying t with|some (.slice _)=>true|_=>false)&&(if neg then b== .neq else b== .eql)
 | .binOp b t x (.const .nilIface) _,.LP neg x' =>ck x x' &&(match P.underlying t with|some (.interface _)=>true|_=>false)&&(if neg then b== .neq else b== .eql)
 | .binOp b t x y _,.u0 neg x' y' =>ck x x' &&ck y y' &&(match P.underlying t with|some .bool=>true|_=>false)&&(if neg then b== .neq else b== .eql)
 | .binOp b t x y _,.GQ neg ks x' y' =>ck x x' &&ck y y' &&vS P t ks&&(if neg then b== .neq else b== .eql)
 | .unOp b _ x,.un b' x' =>b==b' &&ck x x'
 | .convert s d x,.mI k y=>ck x y&&(P.underlying s).isSome&&(match P.underlying d with|some (.int k')=>k==k' |_=>false)
 | .convert s d x,.rC y=>ck x y&&(P.underlying s).isSome&&(match P.underlying d with|some .string=>true|_=>false)
 | .convert s d x,.jN y=>ck x y&&(match P.underlying s with|some (.slice e)=>(match P.underlying e with|some (.int .u8)=>true|_=>false)|_=>false)&&(match P.underlying d with|some .string=>true|_=>false)
 | .slice t x lo hi none,.rU y lo' hi' =>ck x y&&WN ck lo lo' &&WN ck hi hi' &&(match P.underlying t with|some .string=>true|_=>false)
 | .slice t x lo hi none,.aj sz y lo' hi' =>ck x y&&WN ck lo lo' &&WN ck hi hi' &&kH P t sz&&decide (0<sz)
 | .fieldAddr s x f,.off k y=>ck x y&&(match P.underlying s with
  |some (.struct fs)=>(match fs[f]? with
   |some fd=>fd.offset==k&&decide (0<P.cellsOf fd.type)
   |none=>false)
  |_=>false)
 | .indexAddr t x i,.C8 sz y j=>ck x y&&ck i j&&kH P t sz
 | .indexAddr t x i,.gM n sz y j=>ck x y&&ck i j&&(match P.underlying t with|some (.array m e)=>m==n&&P.cellsOf e==sz&&(P.info? e).isSome|_=>false)
 | .index t x i,.J2 y j=>ck x y&&ck i j&&(match P.underlying t with|some .string=>true|_=>false)
 | .extract x i,.extract y j=>ck x y&&i==j
 | .call { callee:= .builtin .len,args,argTypes },.len y=>(match args[0]?,argTypes[0]? with
  |some x,some t=>ck x y&&(match P.underlying t with|some (.slice _)=>true|_=>false)
  |_,_=>false)
 | .call { callee:= .builtin .len,args,argTypes },.V4 y=>(match args[0]?,argTypes[0]? with
  |some x,some t=>ck x y&&(match P.underlying t with|some .string=>true|_=>false)
  |_,_=>false)
 | .call { callee:= .builtin .len,args,argTypes },.Fe y=>(match args[0]?,argTypes[0]? with
  |some x,some t=>ck x y&&(match P.underlying t with|some (.map _ _)=>true|_=>false)
  |_,_=>false)
 | .call { callee:= .builtin .max,args,.. },.gO true ys=>Ss ck args.toList ys&&decide (2<=ys.length)
 | .call { callee:= .builtin .min,args,.. },.gO false ys=>Ss ck args.toList ys&&decide (2<=ys.length)
 | .makeFunc (.func f) first caps,.aG g first' av3 =>f==g&&Ss ck first.toList first' &&Ss ck caps.toList av3
 | .lookup t m k ok,.lookup kk zero Uk m' k' =>ok==Uk &&ck m m' &&ck k k' &&(match P.underlying t with
  |some (.map kt et)=>uS P kt kk&&(match P.info? et with
   |some i=>(match i.zero with
    |some z=>xS z zero
    |none=>false)
   |none=>false)
  |_=>false)
 | .build t parts,.build zero ps=>(match P.underlying t with
  |some (.struct fs)=>(match vR P fs.toList with
   |some places=>vD P t zero&&jx P ck (fun i=>places[i]?) parts.toList ps
   |none=>false)
  |some (.array _ e)=>(match P.info? e with
   |some i=>vD P t zero&&jx P ck (fun j=>some (j * i.size,i.size)) parts.toList ps
   |none=>false)
  |_=>false)
 |_,_=>false
theorem sH {G:Gh}{I:Q9}{N:Nat->Prop}{w:World}:∀ (v:Value) (a:j3),EB v a=true->VR G I N w .none a v:=by
 intro v a h;unfold EB at h;split at h
 all_goals first
  |(done)
  |(simp at h;done)
  |(simp [VR,DR];done)
  |(simp only [VR,DR];simp_all;done)
  |skip
 .rename_i s l
  simp [VR,DR];have:s.data.toList=l:=by simpa using h
  subst this;simp
theorem ey {G:Gh}{I:Q9}{N:Nat->Prop}{w:World}:∀ (vs:List Value) (l:List j3),consts vs l=true->H8 G I N w l vs
 |[],[],_=>by simp [H8]
 |v::vs,a::as,h=>by
  simp [consts,c9] at h;exact ⟨v,vs,rfl,sH v a h.1,ey vs as h.2⟩
 |[],_::_,h=>by simp [consts] at h
 |_::_,[],h=>by simp [consts] at h
def cE {G:Gh}{I:Q9}{N:Nat->Prop}{w:World}(v:Value)(a:j3)(h:xS v a=true):VR G I N w .none a v:=by
 unfold xS at h
 grind [VR,ey,sH]
theorem S1 {w:World}{b:Nat}{c:Array Value}{e:TypeId}{f:Nat×Nat}(h:w.heap[b]? =some (.cells c e f))(o:Nat):w.cell? (ad b o)=c[o]? :=by
 simp [World.cell?,h]
theorem Z7 (b o n:Nat):(ad b o).add n=ad b (o+n):=by
 simp_all [Addr.add]
theorem eo.drop {G:Gh}{w:World}{b:Nat}:∀ (n o:Nat) (l:List Data),eo G w b o l->eo G w b (o+n) (l.drop n)
 |0,_,_,h=>by simpa using h
 |n+1,o,[],_=>by simp [eo]
 |n+1,o,c::cs,h=>by
  have:=eo.drop n (o+1) cs h.2.2
  grind
theorem eo.take {G:Gh}{w:World}{b:Nat}:∀ (n o:Nat) (l:List Data),eo G w b o l->eo G w b o (l.take n)
 |0,_,_,_=>by simp [eo]
 |n+1,o,[],_=>by simp [eo]
 |n+1,o,c::cs,h=>by
  simp_all [eo,List.take_succ_cons,eo.take]
theorem eo.vals {G:Gh}{I:Q9}{N:Nat->Prop}{w:World}{b:Nat}:∀ (o:Nat) (l:List Data),eo G w b o l ->
  ∃ vs:List Value,vs.length=l.length/\(∀ j v,vs[j]? =some v->w.cell? (ad b (o+j))=some v)/\H8 G I N w (l.map .d) vs
 |_,[],_=>⟨[],rfl,by simp,by simp [H8]⟩
 |o,c::cs,h=>by
  obtain ⟨h1,⟨x,h2,h3⟩,h4⟩:=h;obtain ⟨vs,g1,g2,g3⟩:=eo.vals (I:=I) (N:=N) (o+1) cs h4;simp_all [H8,VR]<;>grind
theorem H8.length {G:Gh}{I:Q9}{N:Nat->Prop}{w:World}:∀ (l:List j3) (vs:List Value),H8 G I N w l vs->vs.length=l.length
 |[],vs,h=>by simp_all [H8]
 |a::as,vs,h=>by
  obtain ⟨x,xs,h1,_,h3⟩:=h;subst h1;simp [H8.length as xs h3]
theorem HR.rd {G:Gh}{I:Q9}{N:Nat->Prop}{w:World}{H:q8}(hH:HR G I N w H){id off n:Nat}{vs:List j3}(h:rd H id off n=some vs)(hn:0<n) :
  N id/\∃ xs:List Value,xs.length=n/\vs.length=n/\(∀ j v,xs[j]? =some v->w.cell? (ad (I id).1 ((I id).2+off+j))=some v) /\
   (∀ j a v,vs[j]? =some a->xs[j]? =some v->VR G I N w (.cell id (off+j)) a v):=by
 unfold Abs.rd at h;split at h
 .rename_i l hl
  split at h
  .cases h
   have ho:=hH id _ hl;obtain ⟨hid,c,e,f,h1,h2,h3,h4,h5⟩:=ho
   .refine ⟨hid,(List.range n).map (fun j=>(c[(I id).2+off+j]?).getD default),by simp,by simp;omega,fun j v hj=> ?_,fun j a v ha hv=> ?_⟩
    .rw [S1 h1]
     grind
    .have hjn:j<n:=by
      grind
     grind
  .cases h
 .cases h
section
variable {P:Program} {w:World}
theorem info_of_underlying {t:TypeId}{d:TypeDesc}(h:P.underlying t=some d):(P.info? t).isSome=true:=by
 grind [Program.underlying]
theorem run_sizeOf {t:TypeId}(h:(P.info? t).isSome=true):(sizeOf t).run P w= .ok (P.cellsOf t) w:=by
 cases hi:P.info? t with
 |none=>simp_all
 |some i=>simp [sizeOf,typeInfo,hi,Program.cellsOf]
def cq {t:TypeId}{b:Bool}(h:dn P t=some b):(isAgg t).run P w= .ok b w:=by
 unfold dn at h;cases hu:P.underlying t with
 |none=>simp_all
 |some d=>cases d<;>simp [hu] at h<;>subst h<;>simp [isAgg,run_underlying hu]
def ez {t:TypeId}{sz:Nat}(h:kH P t sz=true):∃ e,P.underlying t=some (.slice e)/\P.cellsOf e=sz/\(P.info? e).isSome=true:=by
 grind [kH]
theorem R6 {G:Gh}{I:Q9}{N:Nat->Prop}:∀ (l:List j3) (xs:List Value),xs.length=l.length ->
  (∀ (j:Nat) a v,l[j]? =some a->xs[j]? =some v->VR G I N w .none a v)->H8 G I N w l xs
 |[],xs,h,_=>by simp_all [H8]
 |a::as,[],h,_=>by simp at h
 |a::as,x::xs,h,hp=>by
  exact ⟨x,xs,rfl,hp 0 a x rfl rfl,R6 as xs (by simpa using h) fun j a' v ha hv=>hp (j+1) a' v (by simp_all) (by simp_all)⟩
theorem H8.get {G:Gh}{I:Q9}{N:Nat->Prop}:∀ (l:List j3) (xs:List Value),H8 G I N w l xs->∀ (j:Nat) a,l[j]? =some a->∃ v,xs[j]? =some v/\VR G I N w .none a v
 |[],_,_,_,_,h=>by simp at h
 |a::as,xs,h,j,b,hb=>by
  obtain ⟨x,xs',h1,h2,h3⟩:=h;subst h1;cases j with
  |zero=>simp at hb;subst hb;exact ⟨x,rfl,h2⟩
  |succ j=>simpa using H8.get as xs' h3 j b (by simpa using hb)
def VR.place {G:Gh}{I:Q9}{N:Nat->Prop}{a:j3}{x:Value}{pl:Place}(h:VR G I N w .none a x):VR G I N w pl a x:=by
 cases a with
 |own sz len cells =>
  simp_all [VR,absurd]
 |_=>simp_all [VR]
variable {ck:Operand->u9->Bool} {η:Operand->Value} {ρ:u9->j3} {G:Gh} {I:Q9} {N:Nat->Prop} {H:q8}
abbrev Good (P:Program)(G:Gh)(I:Q9)(N:Nat->Prop)(w:World)(η:Operand->Value)(o:Oper)(v:j3):Prop :=
 ∃ x,(execOp η o).run P w= .ok (.value x) w/\VR G I N w .none v x
abbrev aT (ck:Operand->u9->Bool)(G:Gh)(I:Q9)(N:Nat->Prop)(w:World)(η:Operand->Value)(ρ:u9->j3):Prop :=
 ∀ x y,ck x y=true->VR G I N w .none (ρ y) (η x)
def Rm (hρ:aT ck G I N w η ρ){o:Oper}{c a b:u9}(hc:C7 P ck o (.pick c a b)=true){v:j3}{rs:List Nat}
  (h:o6 ρ H (.pick c a b)=some (v,rs)):Good P G I N w η o v:=by
 obtain ⟨dst,cn,ty,pos,after,guard⟩:=o;cases cn<;>simp [C7] at hc;rename_i c' a' b';have h1:=hρ _ _ hc.1.1;have h2:=hρ _ _ hc.1.2;have h3:=hρ _ _ hc.2;simp only [o6] at h;split at h
 .rename_i t ht
  simp at h;obtain ⟨rfl,rfl⟩:=h;rw [ht] at h1;simp only [VR,DR] at h1;refine ⟨if t then η a' else η b',by simp [execOp,h1,asBool],?_⟩;cases t<;>simpa
 .cases h
def Rj (hρ:aT ck G I N w η ρ)(hH:HR G I N w H){o:Oper}{n:Option Nat}{y:u9}(hc:C7 P ck o (.load n y)=true){v:j3}{rs:List Nat}
  (h:o6 ρ H (.load n y)=some (v,rs)):Good P G I N w η o v:=by
 obtain ⟨dst,cn,ty,pos,after,guard⟩:=o;cases cn<;>simp [C7] at hc;rename_i t x;have h1:=hρ _ _ hc.1;cases n with
 |none =>
  have ha:dn P t=some false:=by simp_all [rQ]
  simp [o6] at h;split at h
  .rename_i id off hp
   rw [hp] at h1;simp [VR] at h1;split at h
   .rename_i u hu
    obtain ⟨rfl,rfl⟩:=h;obtain ⟨_,xs,g1,_,g3,g4⟩:=hH.rd hu (by omega);obtain ⟨z,rfl⟩:∃ z,xs=[z]:=by
     match xs,g1 with
     |[z],_=>simp_all
    have hz:=g3 0 z rfl;have hv:=g4 0 u z rfl rfl;refine ⟨z,?_,hv.I7⟩;simp_all [execOp,Instr.loadAt,Instr.sureAddr,loadVar,cq]
   .cases h
  .rename_i c cs hp
   obtain ⟨rfl,rfl⟩:=h;rw [hp] at h1;obtain ⟨b,off,g1,_,⟨z,g2,g3⟩,_⟩:=h1;refine ⟨z,?_,by simp_all [VR]⟩;simp_all [execOp,Instr.loadAt,Instr.sureAddr,loadVar,cq]
  .cases h
 |some n =>
  have ha:dn P t=some true/\P.cellsOf t=n/\0<n:=by simp_all [rQ,and_assoc]
  have hs:(sizeOf t).run P w= .ok n w:=by
   grind [run_sizeOf,dn,info_of_underlying]
  simp [o6] at h;split at h
  .rename_i id off hp
   rw [hp] at h1;simp [VR] at h1;split at h
   .rename_i us hu
    obtain ⟨rfl,rfl⟩:=h;obtain ⟨_,xs,g1,g2,g3,g4⟩:=hH.rd hu (by omega);have hl:=run_loadCells_list (P:=P) w (ad (I id).1 ((I id).2+off)) xs (fun j v hj=>by simp_all [Z7]);refine ⟨.agg xs.toArray,?_,?_⟩
    .simp_all [execOp,Instr.loadAt,Instr.sureAddr,loadVar,cq]
    .refine ⟨_,rfl,R6 _ _ (by simp [g1,g2]) fun j a v hj hv=> ?_⟩
     simp at hj hv;obtain ⟨a',ha',rfl⟩:=hj;exact (g4 j a' v ha' hv).I7
   .cases h
  .rename_i cells hp
   split at h
   .obtain ⟨rfl,rfl⟩:=h
    rw [hp] at h1;obtain ⟨b,off,g1,g2⟩:=h1;obtain ⟨xs,e1,e2,e3⟩:=eo.vals (I:=I) (N:=N) off _ (eo.take n off cells g2);have e1' :xs.length=n:=by simp_all
    have hl:=run_loadCells_list (P:=P) w (ad b off) xs (fun j v hj=>by simp_all [Z7]);refine ⟨.agg xs.toArray,?_,?_⟩
    all_goals simp_all [execOp,Instr.loadAt,Instr.sureAddr,loadVar,cq,VR]
   .cases h
  .cases h
def LX (hρ:aT ck G I N w η ρ){o:Oper}{y:u9}(hc:C7 P ck o (.aX y)=true){v:j3}{rs:List Nat}
  (h:o6 ρ H (.aX y)=some (v,rs)):Good P G I N w η o v:=by
 obtain ⟨dst,cn,ty,pos,after,guard⟩:=o;cases cn<;>simp [C7] at hc;rename_i x;have h1:=hρ _ _ hc;simp [o6] at h;split at h
 .rename_i id off hp
  obtain ⟨rfl,rfl⟩:=h;rw [hp] at h1;have h2:=h1;exact ⟨η x,by simp [execOp,h1.2],h2⟩
 .rename_i cells hp
  obtain ⟨rfl,rfl⟩:=h;rw [hp] at h1;have h2:=h1;obtain ⟨b,off,g1,g2⟩:=h1;exact ⟨η x,by simp [execOp,g1],h2⟩
 .rename_i f a b hp
  obtain ⟨rfl,rfl⟩:=h;rw [hp] at h1;have h2:=h1;obtain ⟨x',y',g1,g2,g3⟩:=h1;exact ⟨η x,by simp [execOp,g1],h2⟩
 .cases h
def Data.val:Data->Value
 | .bool b=> .bool b
 | .int k n=> .int k n
 | .str s=> .string ⟨s.toArray⟩
 | .br=> .pointer Option.none
 | .O0=> .nilFunc
 | .bM=> .map Option.none
 | .nilIface=> .nilIface
 | .slice _ _=> .slice Option.none 0 0
def BQ {b:BinOp}{x y r:Data}(h:J7 b x y=some r){u v:Value}(hu:DR G w x u)(hv:DR G w y v)(t:TypeId)(p q:Operand) :
  ∃ z,(do eqGuard b t p q u v;binOp b t u v).run P w= .ok z w/\DR G w r z:=by
 refine ⟨Data.val r,?_⟩;unfold J7 at h;split at h
 .rename_i k a k' c
  subst hu hv;have hg:(eqGuard b t p q (.int k a) (.int k' c)).run P w= .ok () w:=by simp_all [eqGuard]
  split at h
  .rename_i hsh
   unfold sw at h;split at h
   .cases h
   .rename_i hneg
    cases b<;>simp [U4] at hsh<;>simp at h<;>subst h <;>
     exact ⟨by simp [hg,binOp,Op.shift,hneg,Data.val],by rfl⟩
  .rename_i hsh
   split at h
   .rename_i hk
    unfold aC at h;cases b<;>simp  at hsh<;>simp at h
    all_goals first
     |(subst h;simp_all [binOp,Op.intArith,Op.intCmp,Op.intBits,Data.val,DR])
     |(obtain ⟨h0,rfl⟩:=h;simp_all [binOp,Op.intDiv,Data.val,DR])
   .cases h
 .rename_i a c
  subst hu hv;have hg:(eqGuard b t p q (.string ⟨a.toArray⟩) (.string ⟨c.toArray⟩)).run P w= .ok () w:=by simp_all [eqGuard]
  unfold uy at h;cases b<;>simp at h
  all_goals first
   |(subst h;simp_all [binOp,Op.stringOp,Data.val,DR])
   |skip
  obtain ⟨h0,rfl⟩:=h;have ax0:(⟨a.toArray⟩++⟨c.toArray⟩:ByteArray)=⟨(a++c).toArray⟩:=by
   rfl
  refine ⟨?_,by rfl⟩
  .have hs:¬ (((⟨a.toArray⟩:ByteArray).size+(⟨c.toArray⟩:ByteArray).size:Nat):Int)>IntKind.i64.max:=by
    simp_all [ByteArray.size]<;>omega
   simp_all [Sem.run_bind,Result.andThen_ok,binOp,Op.stringOp,if_neg,Sem.run_pure,Data.val]
 .cases h
def UF (hρ:aT ck G I N w η ρ){o:Oper}{b:BinOp}{x y:u9}(hc:C7 P ck o (.bin b x y)=true){v:j3}{rs:List Nat}
  (h:o6 ρ H (.bin b x y)=some (v,rs)):Good P G I N w η o v:=by
 obtain ⟨dst,cn,ty,pos,after,guard⟩:=o;cases cn<;>simp [C7] at hc;rename_i b' t x' y' ty';obtain ⟨⟨rfl,hx⟩,hy⟩:=hc;have h1:=hρ _ _ hx;have h2:=hρ _ _ hy;simp [o6] at h;split at h
 .rename_i a c ha qD
  rw [ha] at h1;rw [qD] at h2;split at h
  .rename_i r hr
   obtain ⟨rfl,rfl⟩:=h;obtain ⟨z,g1,g2⟩:=BQ (P:=P) hr h1 h2 t x' y';exact ⟨z,by simp only [execOp];rw [Sem.run_bind,g1];rfl,by simp_all [VR]⟩
  .cases h
 .cases h
def sP (d:Nat){t e:TypeId}(he:P.underlying t=some (.slice e))(a:Addr)(l c:Nat):(Op.equalIn (d+1) t (.slice (some a) l c) (.slice Option.none 0 0)).run P w= .ok false w:=by
 simp [Op.equalIn,run_underlying he]
def xB {t e:TypeId}(he:P.underlying t=some (.slice e))(a:Addr)(l c:Nat):(Op.equal t (.slice (some a) l c) (.slice Option.none 0 0)).run P w= .ok false w:=sP 9999 he a l c
def xA (d:Nat){t:TypeId}{ms:Array (String×TypeId)}(he:P.underlying t=some (.interface ms)):(Op.equalIn (d+1) t .nilIface .nilIface).run P w= .ok true w:=by
 simp [Op.equalIn,run_underlying he]
def qy {t:TypeId}{ms:Array (String×TypeId)}(he:P.underlying t=some (.interface ms)):(Op.equal t .nilIface .nilIface).run P w= .ok true w:=xA 9999 he
def EL (d:Nat){t:TypeId}(he:P.underlying t=some .bool)(a b:Bool):(Op.equalIn (d+1) t (.bool a) (.bool b)).run P w= .ok (a==b) w:=by
 simp [Op.equalIn,run_underlying he]
def Lh {t:TypeId}(he:P.underlying t=some .bool)(a b:Bool):(Op.equal t (.bool a) (.bool b)).run P w= .ok (a==b) w:=EL 9999 he a b
def Rl (ZI:∀ v,η (.const v)=v)(hρ:aT ck G I N w η ρ){o:Oper}{neg:Bool}{x:u9}(hc:C7 P ck o (.Cf neg x)=true){v:j3}{rs:List Nat}
  (h:o6 ρ H (.Cf neg x)=some (v,rs)):Good P G I N w η o v:=by
 obtain ⟨dst,cn,ty,pos,after,guard⟩:=o;unfold C7 at hc;split at hc<;>try (cases hc)
 all_goals rename_i gL ee
 all_goals cases ee
 all_goals subst gL
 rename_i b t x' ty';simp [c9] at hc;obtain ⟨⟨hx,ht⟩,hb⟩:=hc;obtain ⟨e,he⟩:∃ e,P.underlying t=some (.slice e):=by
  grind
 have key:∃ a l c,η x' = .slice (some a) l c/\v= .d (.bool neg):=by
  simp [o6] at h
  .grind [VR,DR]
  all_goals grind [VR]
 obtain ⟨a,l,c,hx',rfl⟩:=key;refine ⟨.bool neg,?_,by simp [VR,DR]⟩;simp [execOp,hx',ZI];cases neg<;>simp at hb<;>subst hb<;>simp [eqGuard,binOp]<;>simp [xB he]
def Rk (ZI:∀ v,η (.const v)=v)(hρ:aT ck G I N w η ρ){o:Oper}{neg:Bool}{x:u9}(hc:C7 P ck o (.LP neg x)=true){v:j3}{rs:List Nat}
  (h:o6 ρ H (.LP neg x)=some (v,rs)):Good P G I N w η o v:=by
 obtain ⟨dst,cn,ty,pos,after,guard⟩:=o;unfold C7 at hc;split at hc<;>try (cases hc)
 all_goals rename_i gL ee
 all_goals cases ee
 all_goals subst gL
 rename_i b t x' ty';simp [c9] at hc;obtain ⟨⟨hx,ht⟩,hb⟩:=hc;have h1:=hρ _ _ hx;obtain ⟨e,he⟩:∃ e,P.underlying t=some (.interface e):=by
  grind
 simp [o6] at h;split at h
 .rename_i hp
  obtain ⟨rfl,rfl⟩:=h;rw [hp] at h1;simp [VR,DR] at h1;refine ⟨.bool (!neg),?_,by simp [VR,DR]⟩;simp [execOp,h1,ZI];cases neg<;>simp at hb<;>subst hb<;>simp [eqGuard,binOp]<;>simp [qy he]
 .cases h
def UG (hρ:aT ck G I N w η ρ){o:Oper}{neg:Bool}{x y:u9}(hc:C7 P ck o (.u0 neg x y)=true){v:j3}{rs:List Nat}
  (h:o6 ρ H (.u0 neg x y)=some (v,rs)):Good P G I N w η o v:=by
 obtain ⟨dst,cn,ty,pos,after,guard⟩:=o;cases cn<;>simp [C7] at hc<;>try simp_all
 rename_i b t x' y' ty';obtain ⟨⟨⟨hx,hy⟩,ht⟩,hb⟩:=hc;have h1:=hρ _ _ hx;have h2:=hρ _ _ hy;have he:P.underlying t=some .bool:=by
  grind
 simp [o6] at h;split at h
 .rename_i a c ha qD
  obtain ⟨rfl,rfl⟩:=h;rw [ha] at h1;rw [qD] at h2;simp [VR,DR] at h1 h2;refine ⟨.bool (neg != (a==c)),?_,by simp [VR,DR]⟩;simp [execOp,h1,h2];cases neg<;>simp at hb<;>subst hb<;>simp [eqGuard,binOp]<;>simp [Lh he]
 .cases h
def QL {t:TypeId}{k:CK}(h:eB P t k=true):dn P t=some false:=by
 simp_all [dn,eB]<;>grind
def run_part_plain {t:TypeId}{k:CK}(h:eB P t k=true)(cs:Array Value)(off:Nat)(v:Value)(hv:cs[off]? =some v):(part t cs off).run P w= .ok v w:=by
 simp [part,cq (QL h),hv]
def sF {k:CK}{a b:Data}{r:Bool}(h:Data.Ev k a b=some r){u v:Value}(hu:DR G w a u)(hv:DR G w b v){t:TypeId}(ht:eB P t k=true)(d:Nat) :
  (Op.equalIn (d+1) t u v).run P w= .ok r w:=by
 unfold Data.Ev at h;split at h
 .subst hu hv
  split at h
  .rename_i hkk
   subst hkk;simp at h;subst h;simp [eB] at ht;split at ht
   .rename_i k2 hk2;simp [Op.equalIn,run_underlying hk2]
   .cases ht
  .cases h
 .subst hu hv
  simp at h;subst h;simp [eB] at ht;split at ht
  .rename_i h2;simp [Op.equalIn,run_underlying h2,beq_toListBytes]
  .cases ht
 .subst hu hv
  simp at h;subst h;simp [eB] at ht;split at ht
  .rename_i h2;simp [Op.equalIn,run_underlying h2]
  .cases ht
 .cases h
theorem jP (d:Nat)(xs ys:Array Value):∀ (fs:List Field) (n:Nat) (ks:List CK) (a b:List j3) (r:Bool),S2 P fs n ks=true->P0 ks a b=some r ->
  (∀ (j:Nat) c,a[j]? =some c->∃ v,xs[n+j]? =some v/\VR G I N w .none c v)->(∀ (j:Nat) c,b[j]? =some c->∃ v,ys[n+j]? =some v/\VR G I N w .none c v) ->
  (Op.eqFields (d+1) xs ys fs).run P w= .ok r w
 |[],n,ks,a,b,r,hf,hc,_,_=>by
  cases ks with
  |nil =>
   unfold P0 at hc;simp_all [Op.eqFields]<;>grind
  |cons=>simp [S2] at hf
 |f::fs,n,[],a,b,r,hf,hc,_,_=>by simp [S2] at hf
 |f::fs,n,k::ks,a,b,r,hf,hc,ha,hb=>by
  simp [S2,c9,beq_iff_eq] at hf;obtain ⟨⟨⟨h1,h2⟩,h3⟩,h4⟩:=hf;unfold P0 at hc;split at hc
  .simp_all
  .rename_i k0 ks0 x a' y b' e1
   cases e1;split at hc
   .rename_i t ht
    split at hc
    .rename_i u hu
     obtain ⟨v1,g1,g2⟩:=ha 0 _ rfl;obtain ⟨v2,g3,g4⟩:=hb 0 _ rfl;have e1:=run_part_plain (w:=w) h2 xs n v1 g1;have e2:=run_part_plain (w:=w) h2 ys n v2 g3;have e3:=sF (P:=P) ht g2 g4 h2 d;have ih:=jP d xs ys fs (n+1) ks a' b' u h4 hu (fun j c hj=>by rw [show n+1+j=n+(j+1) from by omega];simp_all)
      (fun j c hj=>by rw [show n+1+j=n+(j+1) from by omega];simp_all)
     simp_all [Op.eqFields]<;>grind
    .cases hc
   .cases hc
  .cases hc
def tD {t:TypeId}{gs:Array Field}{m:Nat}(h:P.underlying t=some (.struct gs))(hi:(P.info? t).isSome=true)(hm:P.cellsOf t=m)(cs:Array Value)(off:Nat):(part t cs off).run P w= .ok (.agg (cs.extract off (off+m))) w:=by
 have h1:dn P t=some true:=by simp [dn,h]
 have h2:=run_sizeOf (w:=w) hi;rw [hm] at h2;simp [part,cq h1,h2]
theorem vM:∀ (m:Nat) (ks:List CK) (a b:List j3) (r:Bool),P0 ks a b=some r->m<=ks.length->∃ r1 r2,P0 (ks.take m) (a.take m) (b.take m)=some r1/\P0 (ks.drop m) (a.drop m) (b.drop m)=some r2/\r=(r1&&r2)
 |0,ks,a,b,r,h,_=>⟨true,r,by simp [P0],by simpa using h,by simp⟩
 |m+1,[],a,b,r,h,hm=>by simp at hm
 |m+1,k::ks,a,b,r,h,hm=>by
  unfold P0 at h;split at h
  .simp_all
  .rename_i k0 ks0 x a' y b' e1
   cases e1;split at h
   .rename_i t ht
    split at h
    .rename_i u hu
     simp at h;subst h;obtain ⟨r1,r2,e1,e2,e3⟩:=vM m ks a' b' u hu (by simpa using hm);exact ⟨t&&r1,r2,by simp [P0,ht,e1],by simpa using e2,by rw [e3,Bool.and_assoc]⟩
    .cases h
   .cases h
  .cases h
theorem nE {P:Program}:∀ (fs:List Field) (n:Nat) (ks:List CK),S2 P fs n ks=true->ks.length=fs.length
 |[],_,[],_=>rfl
 |[],_,_::_,h=>by simp [S2] at h
 |_::_,_,[],h=>by simp [S2] at h
 |f::fs,n,k::ks,h=>by
  simp only [S2,c9] at h;simp [nE fs _ ks h.2]
theorem iN (d:Nat)(xs ys:Array Value):∀ (fs:List Field) (n:Nat) (ks:List CK) (a b:List j3) (r:Bool),dK P fs n ks=true->P0 ks a b=some r ->
  (∀ (j:Nat) c,a[j]? =some c->∃ v,xs[n+j]? =some v/\VR G I N w .none c v)->(∀ (j:Nat) c,b[j]? =some c->∃ v,ys[n+j]? =some v/\VR G I N w .none c v) ->
  (Op.eqFields (d+2) xs ys fs).run P w= .ok r w
 |[],n,ks,a,b,r,hf,hc,_,_=>by
  cases ks with
  |nil =>
   unfold P0 at hc;split at hc<;>simp_all [Op.eqFields]
  |cons=>simp [dK] at hf
 |f::fs,n,ks,a,b,r,hf,hc,ha,hb=>by
  simp only [dK,c9,bne_iff_ne,beq_iff_eq] at hf;obtain ⟨⟨h1,h3⟩,hf⟩:=hf;split at hf
  .rename_i gs hgs
   simp only [c9,beq_iff_eq,o8] at hf;obtain ⟨⟨⟨⟨q1,q2⟩,q3⟩,q4⟩,q5⟩:=hf;have hl:=nE _ _ _ q3;have hm:gs.size<=ks.length:=by
    rw [List.length_take] at hl;simp at hl;omega
   obtain ⟨r1,r2,e1,e2,e3⟩:=vM gs.size ks a b r hc hm;have p1:=tD (w:=w) hgs q1 q2 xs n;have p2:=tD (w:=w) hgs q1 q2 ys n;have Zx:P.fieldsOf f.type=gs:=by simp [Program.fieldsOf,hgs]
   have ax2:∀ (l:List j3) (zs:Array Value),(∀ (j:Nat) c,l[j]? =some c->∃ v,zs[n+j]? =some v/\VR G I N w .none c v)->∀ (j:Nat) c,(l.take gs.size)[j]? =some c->∃ v,(zs.extract n (n+gs.size))[0+j]? =some v/\VR G I N w .none c v:=by
    intro l zs hz j c hj;rw [List.getElem?_take] at hj;split at hj
    .rename_i hlt
     obtain ⟨v,g1,g2⟩:=hz j c hj;refine ⟨v,?_,g2⟩;have hsz:=(Array.getElem?_eq_some_iff.1 g1).1;rw [Array.getElem?_extract,if_pos (by omega),Nat.zero_add,g1]
    .cases hj
   have p3:=run_equalIn_struct (P:=P) w (d+1) f.type (xs.extract n (n+gs.size)) (ys.extract n (n+gs.size)) (by rw [Zx];exact hgs) q4;rw [Zx,jP (P:=P) (G:=G) (I:=I) (N:=N) d _ _ gs.toList 0 (ks.take gs.size) _ _ r1 q3 e1 (ax2 a xs ha) (ax2 b ys hb)] at p3;have ih:=iN d xs ys fs (n+gs.size) (ks.drop gs.size) (a.drop gs.size) (b.drop gs.size) r2 q5 e2 (fun j c hj=>by rw [List.getElem?_drop] at hj;rw [Nat.add_assoc];exact ha _ c hj) (fun j c hj=>by rw [List.getElem?_drop] at hj;rw [Nat.add_assoc];exact hb _ c hj);simp only [Op.eqFields,if_pos h1,Sem.run_bind,h3,p1,p2,p3,Result.andThen_ok];rw [e3];cases r1<;>simp [ih]
  .split at hf
   .rename_i k ks
    simp only [c9] at hf;obtain ⟨h2,h4⟩:=hf;unfold P0 at hc;split at hc
    .simp_all
    .rename_i k0 ks0 x a' y b' e1
     cases e1;split at hc
     .rename_i t ht
      split at hc
      .rename_i u hu
       simp at hc;subst hc;obtain ⟨v1,g1,g2⟩:=ha 0 _ rfl;obtain ⟨v2,g3,g4⟩:=hb 0 _ rfl;simp only [VR] at g2 g4;rw [Nat.add_zero] at g1 g3;have e1:=run_part_plain (w:=w) h2 xs n v1 g1;have e2:=run_part_plain (w:=w) h2 ys n v2 g3;have e3:=sF (P:=P) ht g2 g4 h2 (d+1);have ih:=iN d xs ys fs (n+1) ks a' b' u h4 hu (fun j c hj=>by rw [show n+1+j=n+(j+1) from by omega];exact ha (j+1) c (by simpa using hj))
        (fun j c hj=>by rw [show n+1+j=n+(j+1) from by omega];exact hb (j+1) c (by simpa using hj))
       simp only [Op.eqFields,if_pos h1,Sem.run_bind,h3,e1,e2,e3,Result.andThen_ok];cases t<;>simp [ih]
      .cases hc
     .cases hc
    .cases hc
   .cases hf
def UH (hρ:aT ck G I N w η ρ){o:Oper}{neg:Bool}{ks:List CK}{x y:u9}(hc:C7 P ck o (.GQ neg ks x y)=true){v:j3}{rs:List Nat}
  (h:o6 ρ H (.GQ neg ks x y)=some (v,rs)):Good P G I N w η o v:=by
 obtain ⟨dst,cn,ty,pos,after,guard⟩:=o;cases cn<;>simp only [C7,c9] at hc<;>try (cases hc;done)
 rename_i b t x' y' ty';obtain ⟨⟨⟨hx,hy⟩,ht⟩,hb⟩:=hc;have h1:=hρ _ _ hx;have h2:=hρ _ _ hy;unfold vS at ht;split at ht
 .rename_i fs CJ
  simp only [c9,o8] at ht;simp only [o6] at h;split at h
  .rename_i a c ha qD
   split at h
   .rename_i r hr
    simp at h;obtain ⟨rfl,rfl⟩:=h;rw [ha] at h1;rw [qD] at h2;simp only [VR] at h1 h2;obtain ⟨xs,e1,e2⟩:=h1;obtain ⟨ys,e3,e4⟩:=h2;have Zx:P.fieldsOf t=fs:=by simp [Program.fieldsOf,CJ]
    have heq:=run_equalIn_struct (P:=P) w 9999 t xs ys (by rw [Zx];exact CJ) ht.1.2;rw [Zx,iN (P:=P) (G:=G) (I:=I) (N:=N) 9997 xs ys fs.toList 0 ks a c r ht.1.1 hr
     (fun j u hu=>by obtain ⟨v,g1,g2⟩:=H8.get a _ e2 j u hu;exact ⟨v,by simpa using g1,g2⟩)
     (fun j u hu=>by obtain ⟨v,g1,g2⟩:=H8.get c _ e4 j u hu;exact ⟨v,by simpa using g1,g2⟩)] at heq
    refine ⟨.bool (neg != r),?_,by simp [VR,DR]⟩;simp only [execOp,e1,e3,Sem.run_bind,run_eqGuard_agg w b t x' y' xs ys ht.2,Result.andThen_ok];cases neg<;>simp at hb<;>subst hb
    .rw [run_eql_struct,heq];simp
    .rw [run_neq_struct,heq];simp
   .cases h
  .cases h
 .cases ht
end
section
variable {P:Program} {w:World} {ck:Operand->u9->Bool} {η:Operand->Value} {ρ:u9->j3} {G:Gh} {I:Q9} {N:Nat->Prop} {H:q8}
def Ys (hρ:aT ck G I N w η ρ){o:Oper}{b:UnOp}{x:u9}(hc:C7 P ck o (.un b x)=true){v:j3}{rs:List Nat}
  (h:o6 ρ H (.un b x)=some (v,rs)):Good P G I N w η o v:=by
 obtain ⟨dst,cn,ty,pos,after,guard⟩:=o;cases cn<;>simp [C7] at hc;rename_i b' t x';obtain ⟨rfl,hx⟩:=hc;have h1:=hρ _ _ hx;simp [o6] at h;split at h
 .rename_i a ha
  rw [ha] at h1;simp [VR] at h1;split at h
  .rename_i r hr
   obtain ⟨rfl,rfl⟩:=h;refine ⟨Data.val r,?_⟩;unfold Bc at hr;split at hr
   .simp [DR] at h1
    cases b' <;>simp at hr;subst hr;simp [execOp,h1,Op.unary,Op.intArith,Data.val,VR,DR]
   .simp [DR] at h1
    cases b' <;>simp at hr;subst hr;simp [execOp,h1,Op.unary,Data.val,VR,DR]
   .cases hr
  .cases h
 .cases h
def LW (hρ:aT ck G I N w η ρ){o:Oper}{k:IntKind}{x:u9}(hc:C7 P ck o (.mI k x)=true){v:j3}{rs:List Nat}
  (h:o6 ρ H (.mI k x)=some (v,rs)):Good P G I N w η o v:=by
 obtain ⟨dst,cn,ty,pos,after,guard⟩:=o;cases cn<;>simp [C7] at hc<;>try simp_all
 obtain ⟨⟨hx,hs⟩,hd⟩:=hc;have h1:=hρ _ _ hx;obtain ⟨ds,hds⟩:=E8.1 hs;split at hd
 .simp [o6] at h
  split at h
  .rename_i k2 n ha
   obtain ⟨rfl,rfl⟩:=h;rw [ha] at h1;simp [VR,DR] at h1;refine ⟨.int k (k.wrap n),?_,by simp [VR,DR]⟩;simp_all [execOp,convert,run_underlying,Conv.intToInt]
  .cases h
 .cases hd
def Iu (hρ:aT ck G I N w η ρ){o:Oper}{x:u9}(hc:C7 P ck o (.rC x)=true){v:j3}{rs:List Nat}
  (h:o6 ρ H (.rC x)=some (v,rs)):Good P G I N w η o v:=by
 obtain ⟨dst,cn,ty,pos,after,guard⟩:=o;cases cn<;>simp [C7] at hc<;>try simp_all
 obtain ⟨⟨hx,hs⟩,hd⟩:=hc;have h1:=hρ _ _ hx;obtain ⟨ds,hds⟩:=E8.1 hs;split at hd
 .simp [o6] at h
  split at h
  .rename_i l ha
   obtain ⟨rfl,rfl⟩:=h;rw [ha] at h1;simp [VR,DR] at h1;refine ⟨.string ⟨l.toArray⟩,?_,by simp [VR,DR]⟩;simp_all [execOp,convert,run_underlying]
  .cases h
 .cases hd
theorem yN:∀ (vs:List Value) (l:List Data) (bs:List UInt8),ga l=some bs->H8 G I N w (l.map .d) vs ->
  ∃ ns:List Int,vs=ns.map (Value.int .u8)/\bs=ns.map fun n=>UInt8.ofNat n.toNat
 |vs,[],bs,hb,hv=>by
  simp_all [ga,H8]
 |vs,a::as,bs,hb,hv=>by
  obtain ⟨x,xs,rfl,e2,e3⟩:=hv;unfold ga at hb;split at hb
  .simp_all
  .rename_i n r heq
   cases heq;split at hb
   .rename_i bs' Nk
    simp at hb;subst hb;subst e2;obtain ⟨ns,rfl,rfl⟩:=yN xs as bs' Nk e3;exact ⟨n::ns,rfl,rfl⟩
   .cases hb
  .cases hb
theorem foldl_push:∀ (ns:List Int) (s:ByteArray),(ns.foldl (fun r n=>r.push (UInt8.ofNat n.toNat)) s)=⟨(s.data.toList++ns.map fun n=>UInt8.ofNat n.toNat).toArray⟩
 |[],s=>by simp
 |n::ns,s=>by
  rw [List.foldl_cons,foldl_push ns];simp
def It (hρ:aT ck G I N w η ρ){o:Oper}{x:u9}(hc:C7 P ck o (.jN x)=true){v:j3}{rs:List Nat}
  (h:o6 ρ H (.jN x)=some (v,rs)):Good P G I N w η o v:=by
 obtain ⟨dst,cn,ty,pos,after,guard⟩:=o;cases cn<;>simp [C7] at hc<;>try simp_all
 rename_i s d x';obtain ⟨⟨hx,hs⟩,hd⟩:=hc;have h1:=hρ _ _ hx;split at hs
 .rename_i e he
  split at hs
  .rename_i hu8
   split at hd
   .rename_i TC
    simp [o6] at h;split at h
    .rename_i len cells ha
     split at h
     .rename_i hlen
      split at h
      .rename_i bs Nk
       obtain ⟨rfl,rfl⟩:=h;rw [ha] at h1;refine ⟨.string ⟨bs.toArray⟩,?_,by simp [VR,DR]⟩
       rcases h1 with ⟨h1,h2,h3⟩|⟨b,off,cap,h1,h2,h3⟩
       .subst h3
        simp [ga] at Nk;subst Nk
        rcases h1 with h1|⟨a0,h1⟩
        .simp [execOp,h1,convert,run_underlying he,run_underlying TC,run_underlying hu8]
         rfl
        .have hl:(loadCells a0 0).run P w= .ok (([]:List Int).map (Value.int .u8)).toArray w:=by rfl
         simp [execOp,h1,Sem.run_bind,run_convert_bytes_string w s d e _ _ _ he hu8 TC];rfl
       .obtain ⟨vs,g1,g2,g3⟩:=eo.vals (I:=I) (N:=N) off cells h3
        have hl:=run_loadCells_list (P:=P) w (ad b off) vs (fun j v hj=>by simp_all [Z7]);rw [g1,hlen] at hl;obtain ⟨ns,rfl,rfl⟩:=yN (G:=G) (I:=I) (N:=N) vs cells bs Nk g3;simp only [execOp,h1,Sem.run_bind,run_convert_bytes_string w s d e _ _ _ he hu8 TC,run_bytesToString w (ad b off) len cap ns hl,foldl_push];simp
      .cases h
     .cases h
    .cases h
   .cases hd
  .cases hs
 .cases hs
def vJ (hρ:aT ck G I N w η ρ){x:Option Operand}{y:Option u9}(hc:WN ck x y=true){d:Nat}{n:Int}(h:U5 ρ d y=some n) :
  (x=none/\n=d)\/∃ x' k,x=some x' /\η x' = .int k n:=by
 cases y with
 |none =>
  grind [U5,WN]
 |some y =>
  cases x with
  |none=>simp [WN] at hc
  |some x =>
   grind [WN,U5,VR,DR]
def pM (hρ:aT ck G I N w η ρ){lo hi:Option Operand}{lo' hi' :Option u9}(hl:WN ck lo lo' =true)(hh:WN ck hi hi' =true){len cap:Nat}{l h:Int}
  (bl:U5 ρ 0 lo' =some l) (bh:U5 ρ len hi' =some h) (h0:0<=l) (h1:l<=h) (h2:h<=len) (hcap:len<=cap) (b:Bool) :
  (Instr.sliceBounds b len cap (lo.map η) (hi.map η) none).run P w= .ok (l.toNat,h.toNat,cap) w:=by
 rcases vJ hρ hl bl with ⟨rfl,rfl⟩|⟨x1,k1,rfl,e1⟩<;>rcases vJ hρ hh bh with ⟨rfl,rfl⟩|⟨x2,k2,rfl,e2⟩
 .rfl
 .simp_all [Instr.sliceBounds,Instr.sliceBound,asIntOf]<;>omega
 all_goals (simp_all [Instr.sliceBounds,Instr.sliceBound,asIntOf]<;>grind)
def Iz (hρ:aT ck G I N w η ρ){o:Oper}{x:u9}{lo hi:Option u9}(hc:C7 P ck o (.rU x lo hi)=true){v:j3}{rs:List Nat}
  (h:o6 ρ H (.rU x lo hi)=some (v,rs)):Good P G I N w η o v:=by
 obtain ⟨dst,cn,ty,pos,after,guard⟩:=o;unfold C7 at hc;split at hc<;>try (cases hc)
 all_goals rename_i gL ee
 all_goals cases ee
 rename_i t x' lo' hi';simp [c9] at hc;obtain ⟨⟨⟨hx,hl⟩,hh⟩,ht⟩:=hc;have h1:=hρ _ _ hx;have hu:P.underlying t=some .string:=by
  grind
 simp [o6] at h;split at h
 .rename_i s hs
  split at h
  .rename_i l hi2 bl bh
   split at h
   .rename_i hb
    obtain ⟨rfl,rfl⟩:=h;rw [hs] at h1;simp [VR,DR] at h1;have hsz:(⟨s.toArray⟩:ByteArray).size=s.length:=by rfl
    have hrb:=pM (P:=P) hρ hl hh bl bh hb.1 hb.2.1 hb.2.2 (o5 _) false;refine ⟨.string ((⟨s.toArray⟩:ByteArray).extract l.toNat hi2.toNat),?_,?_⟩
    .simp_all [execOp,Instr.sliceAt,Sem.run_bind,run_underlying,Result.andThen_ok,Instr.slice]
    .congr 1
     apply WideShapes.bytes_inj;rw [Lib.extract_data,List.drop_take]
   .cases h
  .cases h
 .cases h
def IA (hρ:aT ck G I N w η ρ){o:Oper}{sz:Nat}{x:u9}{lo hi:Option u9}(hc:C7 P ck o (.aj sz x lo hi)=true){v:j3}{rs:List Nat}
  (h:o6 ρ H (.aj sz x lo hi)=some (v,rs)):Good P G I N w η o v:=by
 obtain ⟨dst,cn,ty,pos,after,guard⟩:=o;unfold C7 at hc;split at hc<;>try (cases hc)
 all_goals rename_i gL ee
 all_goals cases ee
 all_goals subst gL
 rename_i t x' lo' hi';simp only [c9] at hc;obtain ⟨⟨⟨⟨hx,hl⟩,hh⟩,ht⟩,hsz⟩:=hc;have h1:=hρ _ _ hx;obtain ⟨e,hu,TB,hie⟩:=ez ht;have hsize:(sizeOf e).run P w= .ok sz w:=by simp_all [run_sizeOf]
 simp [o6] at h;split at h
 .rename_i len cells hs
  split at h
  .rename_i l hi2 bl bh
   split at h
   .rename_i hb
    obtain ⟨rfl,rfl⟩:=h;rw [hs] at h1
    rcases h1 with ⟨h1,h2,h3⟩|⟨b,off,cap,h1,h2,h3⟩
    .subst h2 h3
     have hrb:=pM (P:=P) hρ hl hh bl bh hb.1 hb.2.1 hb.2.2.1 (o5 0) true;have hl0:l=0:=by omega
     have hh0:hi2=0:=by omega
     subst hl0 hh0
     rcases h1 with h1|⟨a0,h1⟩
     .refine ⟨.slice none 0 0,?_,by simp [VR,DR]⟩
      simp only [execOp,h1,Instr.sliceAt,Sem.run_bind,run_underlying hu,Result.andThen_ok,Instr.slice];simp_all
     .refine ⟨.slice (some a0) 0 0,?_,by simp [VR,DR]⟩
      simp only [execOp,h1,Instr.sliceAt,Sem.run_bind,run_underlying hu,Result.andThen_ok,Instr.slice];simp_all
    .have hrb:=pM (P:=P) hρ hl hh bl bh hb.1 hb.2.1 hb.2.2.1 h2 true
     refine ⟨.slice (if cap=l.toNat then some (ad b off) else (some (ad b off)).map (·.add (l.toNat * sz))) (hi2.toNat - l.toNat) (cap - l.toNat),?_,?_⟩
     .simp only [execOp,h1,Instr.sliceAt,Sem.run_bind,run_underlying hu,Result.andThen_ok,Instr.slice]
      simp_all
     .simp only [VR,DR]
      have e1:(hi2 - l).toNat=hi2.toNat - l.toNat:=by omega
      by_cases hcl:cap=l.toNat
      .grind
      .refine Or.inr ⟨b,off+l.toNat * sz,cap - l.toNat,?_,by omega,eo.drop _ _ _ (eo.take _ _ _ h3)⟩
       simp_all [if_neg,Z7]
   .cases h
  .cases h
 .rename_i id z a len hs
  split at h
  .rename_i l hi2 bl bh
   split at h
   .rename_i hb
    rw [hs] at h1;obtain ⟨g1,cap,g2,g3,c,e',f,g4,g5⟩:=h1;have hrb:=pM (P:=P) hρ hl hh bl bh hb.1 hb.2.1 hb.2.2.1 g3 true;have e1:(hi2 - l).toNat=hi2.toNat - l.toNat:=by omega
    have hrun:(execOp η ⟨dst,.slice t x' lo' hi' none,ty,pos,after,guard⟩).run P w =
      .ok (.value (.slice (if cap=l.toNat then some (ad (I id).1 ((I id).2+a)) else (some (ad (I id).1 ((I id).2+a))).map (·.add (l.toNat * sz))) (hi2.toNat - l.toNat) (cap - l.toNat))) w:=by
     simp only [execOp,g2,Instr.sliceAt,Sem.run_bind,run_underlying hu,Result.andThen_ok,Instr.slice];simp_all
    refine ⟨_,hrun,?_⟩;split at h
    .rename_i hlh
     obtain ⟨rfl,rfl⟩:=h;simp [VR,DR]
     by_cases hcl:cap=l.toNat
     all_goals simp_all [if_pos,Nat.sub_self,eo,if_neg,Z7]
    .obtain ⟨rfl,rfl⟩:=h
     have hcl:¬ cap=l.toNat:=by omega
     refine ⟨g1,cap - l.toNat,?_,by omega,c,e',f,g4,?_⟩
     .simp_all [if_neg,Z7,Nat.add_assoc]
     .have hz:z=sz:=hb.2.2.2
      subst hz;have:cap * z=(cap - l.toNat) * z+l.toNat * z:=by rw [<- Nat.add_mul];grind
      omega
   .cases h
  .cases h
 .cases h
end
section
variable {P:Program} {w:World} {ck:Operand->u9->Bool} {η:Operand->Value} {ρ:u9->j3} {G:Gh} {I:Q9} {N:Nat->Prop} {H:q8}
def UJ (hρ:aT ck G I N w η ρ){o:Oper}{k:Nat}{x:u9}(hc:C7 P ck o (.off k x)=true){v:j3}{rs:List Nat}
  (h:o6 ρ H (.off k x)=some (v,rs)):Good P G I N w η o v:=by
 obtain ⟨dst,cn,ty,pos,after,guard⟩:=o;cases cn<;>simp [C7] at hc<;>try simp_all
 rename_i s x' f;obtain ⟨hx,hs⟩:=hc;split at hs
 .split at hs
  .rename_i fd hfd
   simp [c9,decide_eq_true_eq] at hs;have ay0:(P.info? fd.type).isSome=true:=by
    cases hi:P.info? fd.type with
    |none=>simp_all [Program.cellsOf]
    |some i=>rfl
   have hsz:(sizeOf fd.type).run P w= .ok (P.cellsOf fd.type) w:=run_sizeOf ay0;have hne:¬ P.cellsOf fd.type=0:=by omega
   have hrun:∀ b off,η x' = .pointer (some (ad b off))->(execOp η ⟨dst,.fieldAddr s x' f,ty,pos,after,guard⟩).run P w= .ok (.value (.pointer (some (ad b (off+k))))) w:=by
    simp_all [execOp,Instr.fieldAt,Sem.run_bind,run_underlying,Result.andThen_ok,Instr.sureAddr,Sem.run_pure,fieldPlace,if_neg,Z7]
   simp [o6] at h;split at h
   .grind [VR,Nat.add_assoc]
   all_goals grind [VR,eo.drop]
  .cases hs
 .cases hs
def Rc (hρ:aT ck G I N w η ρ){o:Oper}{sz:Nat}{x i:u9}(hc:C7 P ck o (.C8 sz x i)=true){v:j3}{rs:List Nat}
  (h:o6 ρ H (.C8 sz x i)=some (v,rs)):Good P G I N w η o v:=by
 obtain ⟨dst,cn,ty,pos,after,guard⟩:=o;cases cn<;>simp [C7] at hc<;>try simp_all
 rename_i t x' i';obtain ⟨⟨hx,hi⟩,ht⟩:=hc;have h1:=hρ _ _ hx;have h2:=hρ _ _ hi;obtain ⟨e,hu,TB,hie⟩:=ez ht;have hsize:(sizeOf e).run P w= .ok sz w:=by simp_all [run_sizeOf]
 have hrun:∀ (b off len cap:Nat) (k:IntKind) (n:Int),η x' = .slice (some (ad b off)) len cap->η i' = .int k n->0<=n->n<len ->
   (execOp η ⟨dst,.indexAddr t x' i',ty,pos,after,guard⟩).run P w= .ok (.value (.pointer (some (ad b (off+n.toNat * sz))))) w:=by
  intro b off len cap k n e1 e2 e3 e4;have hb:(0<=n/\n<(len:Int)):=⟨e3,e4⟩;simp [execOp,e1,e2,Instr.indexAt,run_underlying hu,asIntOf,hsize,hb,Z7]
 simp [o6] at h;split at h
 .rename_i len cells k n hp hq
  split at h
  .rename_i hb
   obtain ⟨rfl,rfl⟩:=h;rw [hp] at h1;rw [hq] at h2
   rcases h1 with ⟨_,h0,_⟩|⟨b,off,cap,g1,g2,g3⟩
   .omega
   .exact ⟨_,hrun b off len cap k n g1 h2 hb.1 hb.2,by exact ⟨b,_,rfl,eo.drop _ _ _ g3⟩⟩
  .cases h
 all_goals grind [VR,DR,Nat.add_assoc]
def Re (hρ:aT ck G I N w η ρ){o:Oper}{m sz:Nat}{x i:u9}(hc:C7 P ck o (.gM m sz x i)=true){v:j3}{rs:List Nat}
  (h:o6 ρ H (.gM m sz x i)=some (v,rs)):Good P G I N w η o v:=by
 obtain ⟨dst,cn,ty,pos,after,guard⟩:=o;cases cn<;>simp [C7] at hc<;>try simp_all
 rename_i t x' i';obtain ⟨⟨hx,hi⟩,ht⟩:=hc;have h1:=hρ _ _ hx;have h2:=hρ _ _ hi;split at ht
 .rename_i m' e hu
  simp [c9,beq_iff_eq] at ht;obtain ⟨⟨rfl,TB⟩,hie⟩:=ht;have hsize:(sizeOf e).run P w= .ok sz w:=by simp_all [run_sizeOf]
  have hrun:∀ (b off:Nat) (k:IntKind) (n:Int),η x' = .pointer (some (ad b off))->η i' = .int k n->0<=n->n<m' ->
    (execOp η ⟨dst,.indexAddr t x' i',ty,pos,after,guard⟩).run P w= .ok (.value (.pointer (some (ad b (off+n.toNat * sz))))) w:=by
   intro b off k n e1 e2 e3 e4;have hb:(0<=n/\n<(m' :Int)):=⟨e3,e4⟩;simp [execOp,e1,e2,Instr.indexAt,run_underlying hu,asIntOf,hsize,hb,Z7,Instr.sureAddr]
  simp [o6] at h;split at h
  .grind [VR,DR,Nat.add_assoc]
  .rename_i cells k n hp hq
   split at h
   .rename_i hb
    obtain ⟨rfl,rfl⟩:=h;rw [hp] at h1;rw [hq] at h2;obtain ⟨b,off,g1,g2⟩:=h1;exact ⟨_,hrun _ _ k n g1 h2 hb.1 hb.2,by exact ⟨b,_,rfl,eo.drop _ _ _ g2⟩⟩
   .cases h
  .cases h
 .cases ht
def Rf (hρ:aT ck G I N w η ρ){o:Oper}{x i:u9}(hc:C7 P ck o (.J2 x i)=true){v:j3}{rs:List Nat}
  (h:o6 ρ H (.J2 x i)=some (v,rs)):Good P G I N w η o v:=by
 obtain ⟨dst,cn,ty,pos,after,guard⟩:=o;cases cn<;>simp [C7] at hc<;>try simp_all
 obtain ⟨⟨hx,hi⟩,ht⟩:=hc;have h1:=hρ _ _ hx;have h2:=hρ _ _ hi;split at ht
 .simp [o6] at h
  split at h
  .rename_i s k n hp hq
   split at h
   .split at h
    .rename_i b hb
     obtain ⟨rfl,rfl⟩:=h;rw [hp] at h1;rw [hq] at h2;simp [VR,DR] at h1 h2;refine ⟨.int .u8 b.toNat,?_,by simp [VR,DR]⟩;have hsz:(⟨s.toArray⟩:ByteArray).size=s.length:=by rfl
     have hlt:n.toNat<s.length:=by
      grind
     have hg:(⟨s.toArray⟩:ByteArray)[n.toNat]? =some b:=by
      rw [getElem?_pos _ _ (by omega)];rw [l5 hlt] at hb;simp at hb;subst hb;rfl
     simp_all [execOp,Instr.index,run_underlying,asIntOf]
    .cases h
   .cases h
  .cases h
 .cases ht
def Fp (hρ:aT ck G I N w η ρ){o:Oper}{x:u9}{i:Nat}(hc:C7 P ck o (.extract x i)=true){v:j3}{rs:List Nat}
  (h:o6 ρ H (.extract x i)=some (v,rs)):Good P G I N w η o v:=by
 obtain ⟨dst,cn,ty,pos,after,guard⟩:=o;cases cn<;>simp [C7] at hc;rename_i x' i';obtain ⟨hx,rfl⟩:=hc;have h1:=hρ _ _ hx;simp [o6] at h;split at h
 .rename_i vs hp
  split at h
  .rename_i u hu
   simp at h;obtain ⟨rfl,rfl⟩:=h;rw [hp] at h1;obtain ⟨cs,g1,g2⟩:=h1;obtain ⟨z,e1,e2⟩:=H8.get vs _ g2 i' u hu;refine ⟨z,?_,e2⟩;simp_all [execOp,Instr.extract]
  .cases h
 .cases h
def UI (hρ:aT ck G I N w η ρ){o:Oper}{x:u9}(hc:C7 P ck o (.len x)=true){v:j3}{rs:List Nat}
  (h:o6 ρ H (.len x)=some (v,rs)):Good P G I N w η o v:=by
 obtain ⟨dst,cn,ty,pos,after,guard⟩:=o;unfold C7 at hc;split at hc<;>try (cases hc)
 all_goals rename_i gL ee
 all_goals cases ee
 rename_i args argTypes;split at hc
 .rename_i x' t ha hb
  simp [c9] at hc;obtain ⟨hx,ht⟩:=hc;split at ht
  .rename_i e hu
   have hrun:∀ a len cap,η x' = .slice a len cap->(execOp η ⟨dst,.call ⟨.builtin .len,args,argTypes⟩,ty,pos,after,guard⟩).run P w= .ok (.value (.int .i64 len)) w:=by
    intro a len cap ZI;have h0:(args.map η)[0]? =some (.slice a len cap):=by simp [ha,ZI]
    simp [execOp,resolve,invoke,builtin,Builtin.len_,hb,h0,run_underlying hu,goInt]
   simp [o6] at h
   .grind [VR,DR,i64]
   all_goals grind [VR,DR,i64]
  .cases ht
 .cases hc
def Ri (hρ:aT ck G I N w η ρ){o:Oper}{x:u9}(hc:C7 P ck o (.V4 x)=true){v:j3}{rs:List Nat}
  (h:o6 ρ H (.V4 x)=some (v,rs)):Good P G I N w η o v:=by
 obtain ⟨dst,cn,ty,pos,after,guard⟩:=o;unfold C7 at hc;split at hc<;>try (cases hc)
 all_goals rename_i gL ee
 all_goals cases ee
 all_goals subst gL
 rename_i args argTypes;split at hc
 .rename_i x' t ha hb
  simp [c9] at hc;obtain ⟨hx,ht⟩:=hc;have h1:=hρ _ _ hx;split at ht
  .rename_i hu
   simp [o6] at h;split at h
   .rename_i s hp
    obtain ⟨rfl,rfl⟩:=h;rw [hp] at h1;simp [VR,DR] at h1;have h0:(args.map η)[0]? =some (.string ⟨s.toArray⟩):=by simp [ha,h1]
    have hsz:(⟨s.toArray⟩:ByteArray).size=s.length:=by rfl
    refine ⟨.int .i64 s.length,?_,by rfl⟩;simp [execOp,resolve,invoke,builtin,Builtin.len_,hb,h0,run_underlying hu,goInt,hsz]
   .cases h
  .cases ht
 .cases hc
theorem ER.length:∀ (l:List (Key×j3)) (es:List MapEntry),ER G I N w l es->es.length=l.length
 |[],es,h=>by simp [ER] at h;simp [h]
 |(k,v)::r,es,h=>by
  simp only [ER] at h;obtain ⟨e,es',rfl,_,_,h4⟩:=h;simp [ER.length r es' h4]
def Rh (hρ:aT ck G I N w η ρ)(hH:HR G I N w H){o:Oper}{x:u9}(hc:C7 P ck o (.Fe x)=true){v:j3}{rs:List Nat}
  (h:o6 ρ H (.Fe x)=some (v,rs)):Good P G I N w η o v:=by
 obtain ⟨dst,cn,ty,pos,after,guard⟩:=o;unfold C7 at hc;split at hc<;>try (cases hc;done)
 all_goals try (rename_i gL ee;cases ee;done)
 all_goals rename_i gL ee
 all_goals cases ee
 all_goals simp only at gL
 all_goals subst gL
 rename_i args argTypes;split at hc
 .rename_i x' t ha hb
  simp only [c9] at hc;obtain ⟨hx,ht⟩:=hc;have h1:=hρ _ _ hx;split at ht
  .rename_i kt et hu
   simp only [o6] at h;split at h
   .rename_i hp
    simp at h;obtain ⟨rfl,rfl⟩:=h;rw [hp] at h1;simp only [VR,DR] at h1;have h0:(args.map η)[0]? =some (.map Option.none):=by simp [ha,h1]
    refine ⟨.int .i64 0,?_,by simp [VR,DR,i64]⟩;simp [execOp,resolve,invoke,builtin,Builtin.len_,hb,h0,run_underlying hu,goInt]
   .rename_i id hp
    split at h
    .rename_i es he
     simp at h;obtain ⟨rfl,rfl⟩:=h;rw [hp] at h1;simp only [VR] at h1;have hO:=hH id _ he;simp only [OR] at hO;obtain ⟨_,arr,dX,g1,_,g3,_⟩:=hO;have h0:(args.map η)[0]? =some (.map (some (I id).1)):=by simp [ha,h1.2]
     have hl:arr.size=es.length:=by simpa using ER.length es _ g3
     refine ⟨.int .i64 es.length,?_,by simp [VR,DR,i64]⟩;have hgo:(getObj (I id).1).run P w= .ok (.map arr dX) w:=by simp [getObj,Sem.run,g1]
     simp [execOp,resolve,invoke,builtin,Builtin.len_,hb,h0,run_underlying hu,goInt,hgo,hl]
    .cases h
   .cases h
  .cases ht
 .cases hc
theorem ij (hρ:aT ck G I N w η ρ):∀ (xs:List Operand) (ys:List u9),Ss ck xs ys=true->H8 G I N w (ys.map ρ) (xs.map η)
 |[],[],_=>by simp [H8]
 |x::xs,y::ys,h=>by
  simp [Ss,c9] at h;exact ⟨_,_,rfl,hρ _ _ h.1,ij hρ xs ys h.2⟩
 |[],_::_,h=>by simp [Ss] at h
 |_::_,[],h=>by simp [Ss] at h
def Iy (hρ:aT ck G I N w η ρ){o:Oper}{f:FuncId}{a b:List u9}(hc:C7 P ck o (.aG f a b)=true){v:j3}{rs:List Nat}
  (h:o6 ρ H (.aG f a b)=some (v,rs)):Good P G I N w η o v:=by
 obtain ⟨dst,cn,ty,pos,after,guard⟩:=o;unfold C7 at hc;split at hc<;>try (cases hc)
 all_goals rename_i gL ee
 all_goals cases ee
 all_goals subst gL
 rename_i f' first caps
 simp [c9,beq_iff_eq] at hc;obtain ⟨⟨rfl,h1⟩,h2⟩:=hc;obtain ⟨rfl,rfl⟩:=h;refine ⟨.func (.func f') (first.map η) (caps.map η),by rfl,?_⟩;exact ⟨_,_,rfl,by simpa using ij hρ _ _ h1,by simpa using ij hρ _ _ h2⟩
theorem zX:∀ (as:List j3) (vs:List Value) (r:Data) (k:IntKind) (n:Int),eD true (.int k n) as=some r->H8 G I N w as vs ->
  ∃ m,r= .int k m/\(vs.foldlM Builtin.max2 (.int k n)).run P w= .ok (.int k m) w
 |[],vs,r,k,n,h,hv=>by
  simp_all [eD,H8]
 |x::xs,vs,r,k,n,h,hv=>by
  obtain ⟨u,us,rfl,e2,e3⟩:=hv;unfold eD at h;split at h
  .simp_all
  .rename_i b r' heq
   cases heq;split at h
   .rename_i c hc
    unfold xX at hc;split at hc
    .rename_i k1 x1 k2 y1 e1
     cases e1;simp at hc;subst hc;subst e2;obtain ⟨m,g1,g2⟩:=zX xs us r k _ h e3;simp_all [List.foldlM_cons,Sem.run_bind,Builtin.max2,Sem.run_pure,Result.andThen_ok]
    .cases hc
   .cases h
  .cases h
theorem zY:∀ (as:List j3) (vs:List Value) (r:Data) (k:IntKind) (n:Int),eD false (.int k n) as=some r->H8 G I N w as vs ->
  ∃ m,r= .int k m/\(vs.foldlM Builtin.min2 (.int k n)).run P w= .ok (.int k m) w
 |[],vs,r,k,n,h,hv=>by
  simp_all [eD,H8]
 |x::xs,vs,r,k,n,h,hv=>by
  obtain ⟨u,us,rfl,e2,e3⟩:=hv;unfold eD at h;split at h
  .simp_all
  .rename_i b r' heq
   cases heq;split at h
   .rename_i c hc
    unfold xX at hc;split at hc
    .rename_i k1 x1 k2 y1 e1
     cases e1;simp at hc;subst hc;subst e2;obtain ⟨m,g1,g2⟩:=zY xs us r k _ h e3;simp_all [List.foldlM_cons,Sem.run_bind,Builtin.min2,Sem.run_pure,Result.andThen_ok]
    .cases hc
   .cases h
  .cases h
def HQ {b:Bool}{a r:Data}{l:List j3}(h:eD b a l=some r)(hne:l≠[]):∃ k n,a= .int k n:=by
 cases l with
 |nil=>simp_all
 |cons x xs =>
  unfold eD at h;simp_all [xX]<;>grind
def Iw (hρ:aT ck G I N w η ρ){o:Oper}{b:Bool}{ys:List u9}(hc:C7 P ck o (.gO b ys)=true){v:j3}{rs:List Nat}
  (h:o6 ρ H (.gO b ys)=some (v,rs)):Good P G I N w η o v:=by
 obtain ⟨dst,cn,ty,pos,after,guard⟩:=o;unfold C7 at hc;split at hc<;>try (cases hc)
 all_goals rename_i gL ee
 all_goals cases ee
 all_goals simp [c9] at hc
 all_goals obtain ⟨hc,hl⟩:=hc
 all_goals have h1:=ij hρ _ _ hc
 all_goals simp [o6] at h
 all_goals split at h
 all_goals try (cases h)
 all_goals rename_i a r heq
 all_goals split at h
 all_goals rename_i c qD
 all_goals obtain ⟨rfl,rfl⟩:=h
 all_goals rw [heq] at h1
 all_goals obtain ⟨x,xs,e1,e2,e3⟩:=h1
 all_goals have hne:r≠[]:=fun hr=>by simp_all [List.length]<;>grind
 all_goals obtain ⟨k,n,rfl⟩:=HQ qD hne
 all_goals subst e2
 .obtain ⟨m,rfl,g2⟩:=zX (P:=P) r xs c k n qD e3
  refine ⟨.int k m,?_,by simp [VR,DR]⟩;simp_all [execOp,resolve,invoke,builtin,Builtin.max_,Sem.run_bind,Sem.run_pure,Result.andThen_ok]
 .obtain ⟨m,rfl,g2⟩:=zY (P:=P) r xs c k n qD e3
  refine ⟨.int k m,?_,by simp [VR,DR]⟩;simp_all [execOp,resolve,invoke,builtin,Builtin.min_,Sem.run_bind,Sem.run_pure,Result.andThen_ok]
def qo (R:Value->Bool->Prop):List MapEntry->Nat->Option (Nat×Value)->Prop
 |[],_,q=>q=none
 |e::es,i,q=>(R e.key true/\q=some (i,e.val))\/(R e.key false/\qo R es (i+1) q)
def mG (P:Program)(w:World)(t:TypeId)(d:TypeDesc)(u:Value):KK->Value->Bool->Prop
 | .st _,v,r=>(Op.equal t u v).run P w= .ok r w/\Instr.sameNow d u v=none
 |_,v,r=>Instr.sameNow d u v=some r
def Nt {G:Gh}{w:World}{I:Q9}{N:Nat->Prop}(l:List KD)(j:Nat)(c:j3)(h:(l.map KD.av)[j]? =some c):∃ v,(l.map KD.val).toArray[0+j]? =some v/\VR G I N w .none c v:=by
 simp only [List.getElem?_map,Option.map_eq_some_iff] at h;obtain ⟨x,hx,rfl⟩:=h;exact ⟨x.val,by simp [hx],by cases x<;>simp [KD.av,KD.val,VR,DR]⟩
def tE {kk:KK}{a b:Key}{r:Bool}(h:Data.aW kk a b=some r){t:TypeId}{d:TypeDesc}(ht:uS P t kk=true)(hd:P.underlying t=some d):mG P w t d a.val kk b.val r:=by
 unfold Data.aW at h;split at h
 .split at h
  .rename_i hkk
   subst hkk;simp at h;subst h;simp only [uS,eB,hd] at ht;split at ht
   .rename_i hx;cases hx;simp [mG,Key.val,Instr.sameNow]
   .cases ht
  .cases h
 .simp at h;subst h
  simp only [uS,eB,hd] at ht;split at ht
  .rename_i hx;cases hx;simp [mG,Key.val,Instr.sameNow,beq_toListBytes]
  .cases ht
 .simp at h;subst h
  simp only [uS,eB,hd] at ht;split at ht
  .rename_i hx;cases hx;simp [mG,Key.val,Instr.sameNow]
  .cases ht
 .rename_i ks l m
  simp only [uS,iQ,hd] at ht;split at ht
  .rename_i fs CJ
   cases CJ;simp only [c9,o8] at ht;have Zx:P.fieldsOf t=fs:=by simp [Program.fieldsOf,hd]
   have heq:=run_equalIn_struct (P:=P) w 9999 t (l.map KD.val).toArray (m.map KD.val).toArray (by rw [Zx];exact hd) ht.1.2;rw [Zx,jP (P:=P) (G:=fun _=> .free) (I:=fun _=>(0,0)) (N:=fun _=>False) 9998 _ _ fs.toList 0 ks _ _ r ht.1.1 h (Nt l) (Nt m)] at heq;exact ⟨heq,by simp [Key.val,Instr.sameNow]⟩
  .cases ht
 .cases h
theorem GU {kk:KK}{t:TypeId}{d:TypeDesc}(ht:uS P t kk=true)(hd:P.underlying t=some d){key:Key} :
  ∀ (l:List (Key×j3)) (es:List MapEntry) (i:Nat) (r:Option j3),ER G I N w l es->aQ kk key l=some r ->
   ∃ q,qo (mG P w t d key.val kk) es i q/\(match r,q with
    |none,none=>True
    |some a,some (_,v)=>VR G I N w .none a v
    |_,_=>False)
 |[],es,i,r,hE,h=>by
  simp [ER] at hE;subst hE;simp [aQ] at h;subst h;exact ⟨none,rfl,trivial⟩
 |(k',v')::rest,es,i,r,hE,h=>by
  simp only [ER] at hE;obtain ⟨e,es',rfl,h2,h3,h4⟩:=hE;unfold aQ at h;split at h
  .rename_i hk
   simp at h;subst h;exact ⟨some (i,e.val),.inl ⟨h2 ▸ tE hk ht hd,rfl⟩,h3⟩
  .rename_i hk
   obtain ⟨q,g1,g2⟩:=GU ht hd rest es' (i+1) r h4 h;exact ⟨q,.inr ⟨h2 ▸ tE hk ht hd,g1⟩,g2⟩
  .cases h
def nD {kk:KK}{t:TypeId}{d:TypeDesc}(hd:P.underlying t=some d){u:Value}{es:List MapEntry}{q:Option (Nat×Value)}(h:qo (mG P w t d u kk) es 0 q):(Instr.findKey t u es).run P w= .ok q w:=by
 have plain:(∀ v r,mG P w t d u kk v r->Instr.sameNow d u v=some r)->(Instr.findKey t u es).run P w= .ok q w:=by
  intro hp;have:∀ (es:List MapEntry) (i:Nat),qo (mG P w t d u kk) es i q->Instr.findNow d u es i=some q:=by
   intro es
   induction es with
   |nil=>intro i h;simp only [qo] at h;simp [Instr.findNow,h]
   |cons e es ih =>
    intro i h
    rcases h with ⟨h1,rfl⟩|⟨h1,h2⟩
    .simp [Instr.findNow,hp _ _ h1]
    .simp [Instr.findNow,hp _ _ h1,ih _ h2]
  simp [Instr.findKey,run_underlying hd,this es 0 h]
 cases kk with
 |i=>exact plain fun _ _ h=>h
 |s=>exact plain fun _ _ h=>h
 |b=>exact plain fun _ _ h=>h
 |st ks =>
  have ask:∀ (es:List MapEntry) (i:Nat),qo (mG P w t d u (.st ks)) es i q->(Instr.findAsking t u es i).run P w= .ok q w:=by
   intro es
   induction es with
   |nil=>intro i h;simp only [qo] at h;simp [Instr.findAsking,h]
   |cons e es ih =>
    intro i h
    rcases h with ⟨h1,rfl⟩|⟨h1,h2⟩
    .simp [Instr.findAsking,h1.1]
    .simp [Instr.findAsking,h1.1,ih _ h2]
  have:=ask es 0 h;cases es with
  |nil=>simp only [qo] at h;simp [Instr.findKey,run_underlying hd,Instr.findNow,h]
  |cons e es =>
   have h0:Instr.sameNow d u e.key=none:=by
    rcases h with ⟨h1,_⟩|⟨h1,_⟩<;>exact h1.2
   simp [Instr.findKey,run_underlying hd,Instr.findNow,h0,this]
def fQ {k:CK}{t:TypeId}(ht:eB P t k=true)(b:Bool)(n:Nat)(u:Value):(Instr.checkKey b (n+1) t u).run P w= .ok () w:=by
 cases k<;>simp only [eB] at ht<;>split at ht<;>first|(cases ht;done)|(rename_i hu;simp [Instr.checkKey,run_underlying hu])
def iJ {kk:KK}{t:TypeId}(ht:uS P t kk=true){key:Key}(hf:kk.fits key=true)(b:Bool)(n:Nat):(Instr.checkKey b (n+2) t key.val).run P w= .ok () w:=by
 have fields (l:List KD):∀ (fs:List Field) (n0:Nat) (ks:List CK) (m:List KD),S2 P fs n0 ks=true->(P0 ks (m.map KD.av) (m.map KD.av)).isSome=true->(∀ j x,m[j]? =some x->(l.map KD.val).toArray[n0+j]? =some x.val) ->
   Sem.run P (forIn fs PUnit.unit fun (f : Field) (_ : PUnit) => if f.name ≠ "_" then do
    let v <- part f.type (l.map KD.val).toArray f.offset
    Instr.checkKey b (n+1) f.type v
    pure (ForInStep.yield PUnit.unit) else pure (ForInStep.yield PUnit.unit)) w= .ok PUnit.unit w:=by
  intro fs
  induction fs with
  |nil=>intro n0 ks m _ _ _;simp
  |cons f fs ih =>
   intro n0 ks m hf hc hm;cases ks with
   |nil=>simp [S2] at hf
   |cons k ks =>
    simp only [S2,c9,bne_iff_ne,beq_iff_eq] at hf;obtain ⟨⟨⟨h1,h2⟩,h3⟩,h4⟩:=hf;cases m with
    |nil=>simp [P0] at hc
    |cons x m =>
     have mJ:(P0 ks (m.map KD.av) (m.map KD.av)).isSome=true:=by
      cases x<;>simp only [E0,KD.av,P0] at hc<;>split at hc<;>first|(split at hc<;>simp_all)|simp_all
     have e1:=run_part_plain (w:=w) h2 (l.map KD.val).toArray n0 x.val (hm 0 x rfl);simp only [List.forIn_cons,Sem.run_bind,if_pos h1,h3,e1,Result.andThen_ok,fQ h2,Sem.run_pure];exact ih (n0+1) ks m h4 mJ fun j y hy=>by rw [show n0+1+j=n0+(j+1) from by omega];exact hm (j+1) y (by simpa using hy)
 cases kk with
 |i=>exact fQ (k:= .i) ht b _ _
 |s=>exact fQ (k:= .s) ht b _ _
 |b=>exact fQ (k:= .b) ht b _ _
 |st ks =>
  simp only [uS,iQ] at ht;split at ht
  .rename_i fs CJ
   simp only [c9,o8] at ht;cases key<;>simp only [KK.fits,j5] at hf;rename_i l;rw [Instr.checkKey];simp only [Key.val,Sem.run_bind,run_underlying CJ,Result.andThen_ok];rw [<- Array.forIn_toList,fields l fs.toList 0 ks l ht.1.1 hf (fun j x hj=>by simp [hj])];simp
  .cases ht
theorem Nu:∀ (l:List j3) (r:List KD) (xs:List Value),LA l=some r->H8 G I N w l xs->xs=r.map KD.val
 |[],r,xs,h,hv=>by simp [LA] at h;subst h;simpa [H8] using hv
 |v::l,r,xs,h,hv=>by
  simp only [H8] at hv;obtain ⟨x,ys,rfl,h1,h2⟩:=hv;unfold LA at h;split at h
  .rename_i e;cases e
  all_goals first|(cases h;done)|skip
  all_goals rename_i e;cases e
  all_goals split at h<;>first|(cases h;done)|skip
  all_goals
   rename_i r' hr;cases h;rw [Nu _ r' ys hr h2];simp only [VR,DR] at h1;simp [h1,KD.val]
def Fc {v:j3}{k:Key}{pl:Place}{x:Value}(h:v.LB =some k)(hv:VR G I N w pl v x):x=k.val:=by
 unfold j3.LB at h;split at h
 .cases h;simpa [VR,DR,Key.val] using hv
 .cases h;simpa [VR,DR,Key.val] using hv
 .cases h;simpa [VR,DR,Key.val] using hv
 .split at h
  .rename_i r hr
   cases h;simp only [VR] at hv;obtain ⟨cs,rfl,h2⟩:=hv;have:=Nu _ r _ hr h2;simp [Key.val,<- this]
  .cases h
 .cases h
def Ng {kk:KK}{k:Key}{r:Bool}(h:Data.aW kk k k=some r):kk.fits k=true:=by
 unfold Data.aW at h;unfold KK.fits;split at h<;>simp_all
def Iv (hρ:aT ck G I N w η ρ)(hH:HR G I N w H){o:Oper}{kk:KK}{zero:j3}{ok:Bool}{m k:u9}(hc:C7 P ck o (.lookup kk zero ok m k)=true){v:j3}{rs:List Nat}
  (h:o6 ρ H (.lookup kk zero ok m k)=some (v,rs)):Good P G I N w η o v:=by
 obtain ⟨dst,cn,ty,pos,after,guard⟩:=o;cases cn<;>simp only [C7,c9,beq_iff_eq] at hc<;>try (cases hc;done)
 rename_i t m' k' Uk;obtain ⟨⟨⟨rfl,hm⟩,hk⟩,ht⟩:=hc;have h1:=hρ _ _ hm;have h2:=hρ _ _ hk;split at ht
 .rename_i kt et hu
  simp only [c9] at ht;obtain ⟨hkt,hz⟩:=ht;split at hz
  .rename_i it hit
   split at hz
   .rename_i z hzz
    have hzero:(zeroValue et).run P w= .ok z w:=by simp [zeroValue,typeInfo,hit,hzz]
    have hzr:VR G I N w .none zero z:=cE _ _ hz;obtain ⟨dk,hdk⟩:∃ d,P.underlying kt=some d:=by
     cases hd:P.underlying kt with
     |none=>cases kk<;>simp [uS,eB,iQ,hd] at hkt
     |some d=>exact ⟨d,rfl⟩
    simp only [o6] at h;split at h
    .rename_i id key hp hq
     rw [hp] at h1;simp only [VR] at h1;have h2:=Fc hq h2;split at h
     .rename_i es he
      split at h
      .rename_i r hr hfit
       simp at h;obtain ⟨rfl,rfl⟩:=h;have hO:=hH id _ he;simp only [OR] at hO;obtain ⟨_,arr,dX,g1,_,g3,_⟩:=hO;obtain ⟨q,f1,f2⟩:=GU (P:=P) hkt hdk es arr.toList 0 r g3 hr;have hgo:(getObj (I id).1).run P w= .ok (.map arr dX) w:=by simp [getObj,Sem.run,g1]
       have Zy:(Instr.findKey kt (η k') arr.toList).run P w= .ok q w:=by rw [h2];exact nD hdk f1
       have hck:=fun b=>h2 ▸ iJ (P:=P) (w:=w) hkt hfit b 9998
       cases r with
       |none =>
        cases q with
        |some q=>exact f2.elim
        |none =>
         refine ⟨if Uk then .tuple #[z,.bool false] else z,?_,?_⟩
         .cases Uk <;>simp [execOp,h1.2,Instr.lookup,run_underlying hu,hgo,hck,Zy,hzero]
         .cases Uk
          .simpa using hzr
          .simp only [VR,Option.getD_none,Option.isSome_none,if_true]
           exact ⟨_,rfl,by simp [H8,VR,DR,hzr]⟩
       |some a =>
        cases q with
        |none=>exact f2.elim
        |some q =>
         obtain ⟨qi,qv⟩:=q;refine ⟨if Uk then .tuple #[qv,.bool true] else qv,?_,?_⟩
         .cases Uk <;>simp [execOp,h1.2,Instr.lookup,run_underlying hu,hgo,hck,Zy]
         .cases Uk
          .simpa using f2
          .simp only [VR,Option.getD_some,Option.isSome_some,if_true]
           exact ⟨_,rfl,by simp [H8,VR,DR];exact f2⟩
      .cases h
     .cases h
    .rename_i key hp hq
     rw [hp] at h1;simp only [VR,DR] at h1;have h2:=Fc hq h2;split at h
     .rename_i hkk
      simp at h;obtain ⟨rfl,rfl⟩:=h;have hck:=fun b=>h2 ▸ iJ (P:=P) (w:=w) hkt (Ng hkk) b 9998
      have Zy:(Instr.findKey kt (η k') []).run P w= .ok none w:=by simp [Instr.findKey,run_underlying hdk,Instr.findNow]
      refine ⟨if Uk then .tuple #[z,.bool false] else z,?_,?_⟩
      .cases Uk <;>simp [execOp,h1,Instr.lookup,run_underlying hu,hck,Zy,hzero]
      .cases Uk
       .simpa using hzr
       .simp only [VR,if_true]
        exact ⟨_,rfl,by simp [H8,VR,DR,hzr]⟩
     .cases h
    .cases h
   .cases hz
  .cases hz
 .cases ht
end
def LR (vs:List Value):Prop:=∀ v ∈ vs,v.oneCell' =true
def J4 (l:List Value)(off:Nat)(vs:List Value):List Value:=l.take off++vs++l.drop (off+vs.length)
section
variable {P:Program} {w:World} {ck:Operand->u9->Bool} {η:Operand->Value} {ρ:u9->j3} {G:Gh} {I:Q9} {N:Nat->Prop} {H:q8}
theorem H8.append:∀ (a:List j3) (xs:List Value) (b:List j3) (ys:List Value),H8 G I N w a xs->H8 G I N w b ys->H8 G I N w (a++b) (xs++ys)
 |[],xs,b,ys,h,k=>by simp_all [H8]
 |a::as,xs,b,ys,h,k=>by
  obtain ⟨x,xs',rfl,h2,h3⟩:=h;exact ⟨x,xs' ++ys,rfl,h2,H8.append as xs' b ys h3 k⟩
theorem H8.take:∀ (n:Nat) (a:List j3) (xs:List Value),H8 G I N w a xs->H8 G I N w (a.take n) (xs.take n)
 |0,_,_,_=>by simp [H8]
 |n+1,[],xs,h=>by simp_all [H8]
 |n+1,a::as,xs,h=>by
  obtain ⟨x,xs',rfl,h2,h3⟩:=h;exact ⟨x,xs'.take n,rfl,h2,H8.take n as xs' h3⟩
theorem H8.drop:∀ (n:Nat) (a:List j3) (xs:List Value),H8 G I N w a xs->H8 G I N w (a.drop n) (xs.drop n)
 |0,_,_,h=>by simpa using h
 |n+1,[],xs,h=>by simp_all [H8]
 |n+1,a::as,xs,h=>by
  obtain ⟨x,xs',rfl,h2,h3⟩:=h;exact H8.drop n as xs' h3
theorem H8.splice {a b:List j3}{xs ys:List Value}(h:H8 G I N w a xs)(k:H8 G I N w b ys)(off:Nat):H8 G I N w (splice a off b) (J4 xs off ys):=by
 grind [Abs.splice,J4,H8.length,H8.append,H8.take,H8.drop]
theorem kM {a:j3}(ha:a.one=true){pl:Place}{x:Value}(h:VR G I N w pl a x):x.oneCell' =true/\x.cells= #[x]:=by
 cases a<;>simp [j3.one] at ha
 .rename_i d
  cases d<;>simp [VR] at h
  all_goals first
   |(subst h;exact ⟨rfl,rfl⟩)
   |(rcases h with ⟨h|⟨a0,h⟩,_⟩|⟨b,o,cap,h,_⟩<;>(subst h;exact ⟨rfl,rfl⟩))
 .obtain ⟨_,h⟩:=h;subst h;exact ⟨rfl,rfl⟩
 .obtain ⟨b,o,h,_⟩:=h;subst h;exact ⟨rfl,rfl⟩
 .obtain ⟨_,cap,h,_⟩:=h;subst h;exact ⟨rfl,rfl⟩
 .obtain ⟨_,h⟩:=h
  rcases h with ⟨h|⟨b,o,h⟩,_⟩|⟨_,b,o,cap,c,e,f,h,_⟩<;>(subst h;exact ⟨rfl,rfl⟩)
 .subst h;exact ⟨rfl,rfl⟩
 .obtain ⟨x,y,h,_⟩:=h;subst h;exact ⟨rfl,rfl⟩
 .obtain ⟨_,h⟩:=h;subst h;exact ⟨rfl,rfl⟩
theorem mb:∀ (l:List j3) (xs:List Value),l.all j3.one=true->H8 G I N w l xs->LR xs
 |[],xs,_,h=>by subst h;intro v hv;cases hv
 |a::as,xs,ha,h=>by
  simp only [List.all_cons,c9] at ha;obtain ⟨x,xs',rfl,h2,h3⟩:=h;intro v hv
  rcases y7.1 hv with rfl|hv
  .grind [kM]
  .exact mb as xs' ha.2 h3 v hv
def vN {a:j3}{l:List j3}(ha:a.cells? =some l){x:Value}(h:VR G I N w .none a x):H8 G I N w l x.cells.toList/\LR x.cells.toList:=by
 unfold j3.cells? at ha;split at ha
 .split at ha
  .rename_i hall
   simp at ha;subst ha;obtain ⟨cs,rfl,h2⟩:=h;exact ⟨h2,mb _ _ hall h2⟩
  .cases ha
 .split at ha
  .rename_i hone
   simp at ha;subst ha;obtain ⟨h1,h2⟩:=kM hone h;refine ⟨?_,fun v hv=> ?_⟩
   all_goals simp_all [H8]
  .cases ha
theorem CH (off:Nat):∀ (vs:List Value) (k:Nat) (cs:Array Value),off+k+vs.length<=cs.size ->
  ((vs.zipIdx k).foldl (fun (cs:Array Value) (p:Value×Nat)=>cs.setIfInBounds (off+p.2) p.1) cs).toList=cs.toList.take (off+k)++vs++cs.toList.drop (off+k+vs.length)
 |[],k,cs,_=>by simp
 |v::vs,k,cs,h=>by
  simp [q6] at h;rw [List.zipIdx_cons,List.foldl_cons,CH off vs (k+1) _ (by simp;omega)];have hlt:off+k<cs.toList.length:=by simp;omega
  simp [Array.toList_setIfInBounds];rw [show off+(k+1)=off+k+1 from by omega];rw [List.take_succ_eq_append_getElem (by simp_all)];rw [List.drop_set_of_lt (by omega)];simp [List.take_set_of_le (o5 _),q6]
  grind
def Qv {off:Nat}{v:Value}{cs:Array Value}(h:off+v.cells.size<=cs.size) :
  v.cells.zipIdx.foldl (fun cs (c,j)=>cs.setIfInBounds (off+j) c) cs=(J4 cs.toList off v.cells.toList).toArray:=by
 have:=CH off v.cells.toList 0 cs (by simpa using h);have e:v.cells.zipIdx.foldl (fun cs (c,j)=>cs.setIfInBounds (off+j) c) cs=(v.cells.toList.zipIdx 0).foldl (fun (cs:Array Value) (p:Value×Nat)=>cs.setIfInBounds (off+p.2) p.1) cs:=by
  rw [<- Array.foldl_toList];simp
 grind [Array.toList_inj,J4]
theorem lJ (hρ:aT ck G I N w η ρ){place:Nat->Option (Nat×Nat)}:∀ (parts:List (Nat×Operand)) (ps:List (Nat×Nat×u9)) (l cs:List j3) (xs:Array Value),
  jx P ck place parts ps=true->H8 G I N w l xs.toList->bA l (ps.map fun (o,s,x)=>(o,s,ρ x))=some cs ->
  ∃ ys:Array Value,Instr.fill place xs (parts.map fun (i,x)=>(i,η x))=some ys/\H8 G I N w cs ys.toList
 |[],[],l,cs,xs,_,hl,h=>by
  simp [bA] at h;subst h;exact ⟨xs,rfl,hl⟩
 |(i,x)::r,(off,sz,y)::q,l,cs,xs,hp,hl,h=>by
  simp [jx,c9,beq_iff_eq] at hp;obtain ⟨⟨h1,h2⟩,h3⟩:=hp;simp [E0,bA] at h;split at h
  .rename_i l' hl'
   split at h
   .obtain ⟨g1,g2⟩:=vN hl' (hρ _ _ h2)
    have hlen:(η x).cells.size=sz:=by
     have:=H8.length _ _ g1;simp_all
    have hlx:xs.size=l.length:=by
     have:=H8.length _ _ hl;omega
    have mK:H8 G I N w (splice l off l') ((J4 xs.toList off (η x).cells.toList).toArray).toList:=by
     simp_all [H8.splice]
    obtain ⟨ys,e1,e2⟩:=lJ hρ r q _ cs _ h3 mK h;refine ⟨ys,?_,e2⟩;have hc:¬ ((η x).cells.size≠sz||off+(η x).cells.size>xs.size)=true:=by
     simp_all
    simp only [E0,Instr.fill,h1];rw [if_neg hc,Qv (by omega)];exact e1
   .cases h
  .cases h
 |[],_::_,_,_,_,hp,_,_=>by simp [jx] at hp
 |_::_,[],_,_,_,hp,_,_=>by simp [jx] at hp
def ic {t:TypeId}{l:List j3}(h:vD P t l=true):∃ i z,P.info? t=some i/\i.zero=some z/\H8 G I N w l z.cells.toList:=by
 grind [vD,ey]
def LV (hρ:aT ck G I N w η ρ){o:Oper}{zero:List j3}{ps:List (Nat×Nat×u9)}(hc:C7 P ck o (.build zero ps)=true){v:j3}{rs:List Nat}
  (h:o6 ρ H (.build zero ps)=some (v,rs)):Good P G I N w η o v:=by
 obtain ⟨dst,cn,ty,pos,after,guard⟩:=o;cases cn<;>simp [C7] at hc<;>try simp_all
 rename_i t parts;simp [o6] at h;split at h
 .rename_i cs hcs
  obtain ⟨rfl,rfl⟩:=h;have key:∃ ys:Array Value,P.built t (parts.toList.map fun (i,x)=>(i,η x))=some ys/\H8 G I N w cs ys.toList:=by
   split at hc
   .split at hc
    .simp [c9] at hc
     obtain ⟨it,z,e1,e2,e3⟩:=ic (G:=G) (I:=I) (N:=N) (w:=w) hc.1;obtain ⟨ys,f1,f2⟩:=lJ hρ parts.toList ps zero cs z.cells hc.2 e3 hcs;simp_all [vR,Program.built]
    .cases hc
   .split at hc
    .simp [c9] at hc
     obtain ⟨it,z,e1,e2,e3⟩:=ic (G:=G) (I:=I) (N:=N) (w:=w) hc.1;obtain ⟨ys,f1,f2⟩:=lJ hρ parts.toList ps zero cs z.cells hc.2 e3 hcs;simp_all [Program.built]
    .cases hc
   .cases hc
  obtain ⟨ys,e1,e2⟩:=key;refine ⟨.agg ys,?_,by simp_all [VR]⟩;simp_all [run_build,execOp,Sem.run_bind]
 .cases h
def LZ (ZI:∀ v,η (.const v)=v)(hρ:aT ck G I N w η ρ)(hH:HR G I N w H){o:Oper}{op:z6}(hc:C7 P ck o op=true){v:j3}{rs:List Nat}
  (h:o6 ρ H op=some (v,rs)):Good P G I N w η o v:=by
 cases op
 case pick=>exact Rm hρ hc h
 case build=>exact LV hρ hc h
 case load=>exact Rj hρ hH hc h
 case aX=>exact LX hρ hc h
 case bin=>exact UF hρ hc h
 case un=>exact Ys hρ hc h
 case Cf=>exact Rl ZI hρ hc h
 case LP=>exact Rk ZI hρ hc h
 case u0=>exact UG hρ hc h
 case GQ=>exact UH hρ hc h
 case mI=>exact LW hρ hc h
 case rC=>exact Iu hρ hc h
 case jN=>exact It hρ hc h
 case rU=>exact Iz hρ hc h
 case aj=>exact IA hρ hc h
 case off=>exact UJ hρ hc h
 case C8=>exact Rc hρ hc h
 case gM=>exact Re hρ hc h
 case J2=>exact Rf hρ hc h
 case extract=>exact Fp hρ hc h
 case len=>exact UI hρ hc h
 case V4=>exact Ri hρ hc h
 case Fe=>exact Rh hρ hH hc h
 case gO=>exact Iw hρ hc h
 case aG=>exact Iy hρ hc h
 case lookup=>exact Iv hρ hH hc h
 all_goals simp_all [C7]
end
variable [D5]
def fV (G:Gh)(b:Nat)(l:PW):Gh:=fun x=>if x=b then l else G x
def oB (I:Q9)(id:Nat)(p:Nat×Nat):Q9:=fun x=>if x=id then p else I x
@[simp] theorem oC (G:Gh) (b:Nat) (l:PW):fV G b l b=l:=by simp [fV]
theorem G5 {G:Gh}{b:Nat}{l:PW}{x:Nat}(h:x≠b):fV G b l x=G x:=by simp [fV,h]
@[simp] theorem V9 (I:Q9) (id:Nat) (p:Nat×Nat):oB I id p id=p:=by simp [oB]
def bU {I:Q9}{id:Nat}{p:Nat×Nat}{x:Nat}(h:x≠id):oB I id p x=I x:=by simp [oB,h]
def ki (l:F2)(G:Gh)(w:World)(G' :Gh)(w' :World):Prop :=
 ∀ id,l.may id=false->(∀ b,G b= .obj id->G' b= .obj id/\w'.heap[b]? =w.heap[b]?)/\∀ off,aK (.cell id off) G w G' w'
theorem ki.refl (l:F2)(G:Gh)(w:World):ki l G w G w:=fun _ _=>⟨fun _ h=>⟨h,rfl⟩,fun _ _ _ h=>⟨h,rfl⟩⟩
theorem ki.trans {l:F2}{G:Gh}{w:World}{G1:Gh}{w1:World}{G2:Gh}{w2:World}(h:ki l G w G1 w1)(k:ki l G1 w1 G2 w2):ki l G w G2 w2:=by
 intro id hid;obtain ⟨h1,h2⟩:=h id hid;obtain ⟨k1,k2⟩:=k id hid;refine ⟨fun b hb=> ?_,fun off b n hb=> ?_⟩
 .obtain ⟨a1,a2⟩:=h1 b hb
  obtain ⟨b1,b2⟩:=k1 b a1;exact ⟨b1,b2.trans a2⟩
 .obtain ⟨a1,a2⟩:=h2 off b n hb
  obtain ⟨b1,b2⟩:=k2 off b n a1;exact ⟨b1,b2.trans a2⟩
def PT (l:F2)(H:q8):Prop :=
 ∀ id o,H[id]? =some o->(id<l.strict->o.L7<=id+1)/\(id<l.base->o.L7<=l.base)
def Gn (_P:Program)(idle:FuncId->Bool)(d:Deferred):Prop :=
 ∃ f cap,d.target= .fn (.func f) cap/\idle f=true
structure RI (X:Cx)(l:F2)(S:Nat->Prop)(st:F4)(a:Act)(w:World)(G:Gh)(I:Q9)(N:Nat->Prop):Prop where
 T:∀ (s:Nat) t,X.names[s]? =some t->VR G I N w (.slot s) (st.T.getD s .any) (a.tmps.getD t undef)
 L:∀ (j:Nat),S j->∀ d,(X.ops[j]?).bind (·.dst)=some d->X.names.contains d=false->VR G I N w (.loc j) (st.L.getD j .any) (a.tmps.getD d undef)
 H:HR G I N w st.H
 wf:WF G w
 U7:PT l st.H
def Ek {G:Gh}{b n:Nat}{pl wC :Place}(h:G b= .grow n pl)(x o:Nat):gJ (fV G b (.grow n wC)) x o↔gJ G x o:=by
 unfold gJ fV
 by_cases hx:x=b
 .subst hx;simp [h]
 .simp [hx]
def Ext.relabel {G:Gh}{w:World}{b n:Nat}{pl wC :Place}(h:G b= .grow n pl):Ext G w (fV G b (.grow n wC)) w where
 os:=rfl
 tape:=rfl
 output:=rfl
 drawn _:=o5 _
 size:=o5 _
 jj x o hi:=⟨(Ek h x o).2 hi,rfl⟩
 still x hx:=by
  have:x≠b:=by rintro rfl;rw [h] at hx;rcases hx with hx|⟨m,hx⟩<;>cases hx
  exact ⟨G5 this,rfl⟩
 shape _ c _ _ hc:=⟨c,hc,rfl⟩
def aK.relabel {G:Gh}{w:World}{b n:Nat}{pl wC q:Place}(h:G b= .grow n pl)(hq:q≠pl):aK q G w (fV G b (.grow n wC)) w:=by
 intro x m hx;have:x≠b:=by rintro rfl;rw [h] at hx;cases hx;exact hq rfl
 exact ⟨by rw [G5 this];exact hx,rfl⟩
structure jk (pl:Place)(G:Gh)(w:World)(G' :Gh):Prop where
 ext:Ext G w G' w
 keeps:∀ q,q≠pl->aK q G w G' w
 obj:∀ b id,G b= .obj id->G' b= .obj id
 wf:WF G w->WF G' w
theorem jk.refl (pl:Place)(G:Gh)(w:World):jk pl G w G:=⟨Ext.refl _ _,fun _ _ _ _ h=>⟨h,rfl⟩,fun _ _ h=>h,fun h=>h⟩
def iY {G:Gh}{I:Q9}{N:Nat->Prop}{w:World}{pl wC :Place}(hp' :wC ≠ .none){sz len:Nat}{cells:List Data}{x:Value}(h:VR G I N w pl (.own sz len cells) x) :
  ∃ G',jk pl G w G' /\VR G' I N w wC (.own sz len cells) x:=by
 have h0:=h;simp only [VR] at h;obtain ⟨hl,h⟩:=h
 rcases h with h|⟨hp,b,o,cap,c,e,f,h1,h2,h3,h4,h5,h6,h7⟩
 .exact ⟨G,jk.refl _ _ _,by simp only [VR];exact ⟨hl,Or.inl h⟩⟩
 .refine ⟨fV G b (.grow (o+len * sz) wC),⟨Ext.relabel h6,fun q hq=>aK.relabel h6 hq,fun x id hx=> ?_,fun hwf x hx=> ?_⟩,?_⟩
  .have:x≠b:=by rintro rfl;rw [h6] at hx;cases hx
   rw [G5 this];exact hx
  .have:x≠b:=by
    rintro rfl;have:=hwf x hx;rw [h6] at this;cases this
   rw [G5 this];exact hwf x hx
  .simp only [VR]
   exact ⟨hl,Or.inr ⟨hp',b,o,cap,c,e,f,h1,h2,h3,h4,h5,oC _ _ _,eo.mono (Ext.relabel h6).jj b o cells h7⟩⟩
def M4 {α:Type}(l:List α)(i:Nat)(v d:α)(h:i<l.length):(l.set i v).getD i d=v:=by
 simp [List.getD,h]
theorem N8 {α:Type}(l:List α)(i j:Nat)(v d:α)(h:i≠j):(l.set i v).getD j d=l.getD j d:=by
 simp [List.getD,y9 h]
theorem r9 {α:Type}{l:List α}{i:Nat}{v:α}(h:l[i]? =some v):i<l.length:=by
 rcases s5 i l.length with h' |h'
 .exact h'
 .rw [H6 h'] at h;cases h
def ay {α:Type}{l:List α}{i:Nat}{v d:α}(h:l[i]? =some v):l.getD i d=v:=by simp [List.getD,h]
section
variable {X:Cx} {l:F2} {S:Nat->Prop} {st:F4} {a:Act} {w:World} {G:Gh} {I:Q9} {N:Nat->Prop}
def HR.HS {H:q8}{pl:Place}(hH:HR G I N w H){G' :Gh}(hm:jk pl G w G')(Ls:∀ id off,pl≠ .cell id off):HR G' I N w H:=by
 intro id o ho;exact OR.mono hm.ext (fun _ _=>rfl) (fun _ h=>h) id o (fun h=>⟨hm.obj _ _ h,rfl⟩) (fun off=>hm.keeps _ (fun e=>Ls id off e.symm)) (hH id o ho)
def RI.Vy (h:RI X l S st a w G I N){s:Nat}{sz len:Nat}{cells:List Data}(hs:st.T[s]? =some (.own sz len cells))(p6:List Touch)
  {G' :Gh} (hm:jk (.slot s) G w G'):RI X l S { st with T:=st.T.set s (.d (.slice len cells)),p6 } a w G' I N where
 T s' t ht:=by
  by_cases he:s' =s
  .subst he
   have h1:=h.T s' t ht;rw [ay hs] at h1;rw [M4 _ _ _ _ (r9 hs)];have h2:VR G I N w (.slot s') (j3.I7 (.own sz len cells)) (a.tmps.getD t undef):=h1.I7;simp only [j3.I7,VR] at h2 ⊢;exact DR.mono hm.ext.jj _ _ h2
  .rw [N8 _ _ _ _ _ (fun e=>he e.symm)]
   exact VR.mono hm.ext (fun _ _=>rfl) (fun _ h=>h) _ _ _ (Or.inr (hm.keeps _ (fun e=>he (by cases e;rfl)))) (h.T s' t ht)
 L j hj d hd hn:=VR.mono hm.ext (fun _ _=>rfl) (fun _ h=>h) _ _ _ (Or.inr (hm.keeps _ (fun e=>by cases e))) (h.L j hj d hd hn)
 H:=h.H.HS hm (fun _ _ e=>by cases e)
 wf:=hm.wf h.wf
 U7:=h.U7
def RI.Og (h:RI X l S st a w G I N){j0:Nat}{sz len:Nat}{cells:List Data}(hs:st.L[j0]? =some (.own sz len cells))
  {G' :Gh} (hm:jk (.loc j0) G w G'):RI X l S { st with L:=st.L.set j0 (.d (.slice len cells)) } a w G' I N where
 T s' t ht:=VR.mono hm.ext (fun _ _=>rfl) (fun _ h=>h) _ _ _ (Or.inr (hm.keeps _ (fun e=>by cases e))) (h.T s' t ht)
 L j hj d hd hn:=by
  by_cases he:j=j0
  .subst he
   have h1:=h.L j hj d hd hn;rw [ay hs] at h1;rw [M4 _ _ _ _ (r9 hs)];have h2:VR G I N w (.loc j) (j3.I7 (.own sz len cells)) (a.tmps.getD d undef):=h1.I7;simp only [j3.I7,VR] at h2 ⊢;exact DR.mono hm.ext.jj _ _ h2
  .rw [N8 _ _ _ _ _ (fun e=>he e.symm)]
   exact VR.mono hm.ext (fun _ _=>rfl) (fun _ h=>h) _ _ _ (Or.inr (hm.keeps _ (fun e=>he (by cases e;rfl)))) (h.L j hj d hd hn)
 H:=h.H.HS hm (fun _ _ e=>by cases e)
 wf:=hm.wf h.wf
 U7:=h.U7
theorem lD:∀ (l:List j3) (i:Nat) (x:Data),B8 (l.set i (.d x))<=B8 l
 |[],_,_=>by simp
 |v::vs,0,x=>by simp only [C4,B8,j3.L7];omega
 |v::vs,i+1,x=>by
  have:=lD vs i x;simp only [y6,B8];omega
def RI.Vx (h:RI X l S st a w G I N){id off:Nat}{cs:List j3}{sz len:Nat}{cells:List Data}(hid:st.H[id]? =some (.cells cs))(hs:cs[off]? =some (.own sz len cells))(p6:List Touch)
  {G' :Gh} (hm:jk (.cell id off) G w G'):RI X l S { st with H:=st.H.set id (.cells (cs.set off (.d (.slice len cells)))),p6 } a w G' I N where
 T s' t ht:=by
  exact VR.mono hm.ext (fun _ _=>rfl) (fun _ h=>h) _ _ _ (Or.inr (hm.keeps _ (fun e=>by cases e))) (h.T s' t ht)
 L j hj d hd hn:=by
  exact VR.mono hm.ext (fun _ _=>rfl) (fun _ h=>h) _ _ _ (Or.inr (hm.keeps _ (fun e=>by cases e))) (h.L j hj d hd hn)
 H:=by
  intro id' o ho
  by_cases he:id' =id
  .subst he
   rw [J8 (r9 hid)] at ho;cases ho;have hO:=h.H id' _ hid;simp only [OR] at hO ⊢;obtain ⟨hN,c,e,f,h1,h2,h3,h4,h5⟩:=hO
   .refine ⟨hN,c,e,f,h1,hm.obj _ _ h2,h3,by simpa using h4,fun i x hx=> ?_⟩
    by_cases hi:i=off
    .subst hi
     rw [J8 (r9 hs)] at hx;cases hx;obtain ⟨v,g1,g2⟩:=h5 i _ hs;refine ⟨v,g1,?_⟩;have h2:VR G I N w (.cell id' i) (j3.I7 (.own sz len cells)) v:=g2.I7;simp only [j3.I7,VR] at h2 ⊢;exact DR.mono hm.ext.jj _ _ h2
    .rw [y9 (fun e=>hi e.symm)] at hx
     obtain ⟨v,g1,g2⟩:=h5 i x hx;exact ⟨v,g1,VR.mono hm.ext (fun _ _=>rfl) (fun _ h=>h) _ _ _ (Or.inr (hm.keeps _ (fun e=>hi (by cases e;rfl)))) g2⟩
  .rw [y9 (fun e=>he e.symm)] at ho
   exact OR.mono hm.ext (fun _ _=>rfl) (fun _ h=>h) id' o (fun h=>⟨hm.obj _ _ h,rfl⟩) (fun off' =>hm.keeps _ (fun e=>he (by cases e;rfl))) (h.H id' o ho)
 wf:=hm.wf h.wf
 U7:=by
  intro id' o ho
  by_cases he:id' =id
  .subst he
   rw [J8 (r9 hid)] at ho;cases ho;obtain ⟨d1,d2⟩:=h.U7 id' _ hid;have hb:=lD cs off (.slice len cells);simp only [x9.L7] at d1 d2 ⊢;exact ⟨fun hx=>by have:=d1 hx;omega,fun hx=>by have:=d2 hx;omega⟩
  .rw [y9 (fun e=>he e.symm)] at ho
   exact h.U7 id' o ho
end
end Go.Abs
namespace Go.Abs
variable [D5]
structure iG (w w' :World)(o:Obj):Prop where
 os:w'.os=w.os
 tape:w'.tape=w.tape
 output:w'.output=w.output
 drawn:w.drawn<=w'.drawn
 size:w'.heap.size=w.heap.size+1
 old:∀ b,b<w.heap.size->w'.heap[b]? =w.heap[b]?
 new:w'.heap[w.heap.size]? =some o
theorem iG.alloc (w:World)(o:Obj):iG w (w.alloc o) o :=
 ⟨rfl,rfl,rfl,o5 _,by simp,fun b hb=>RowKit.Below.heap_alloc w o b hb,by show (w.heap.push o)[w.heap.size]? =_;simp⟩
def iG.drew {w w' :World}{o:Obj}(h:iG w w' o)(n:Nat)(hn:w'.drawn<=n):iG w { w' with drawn:=n } o:=⟨h.os,h.tape,h.output,B5 h.drawn hn,h.size,h.old,h.new⟩
def aM {G:Gh}{w:World}(hwf:WF G w){b:Nat}(h:G b≠ .free):b<w.heap.size:=by
 rcases s5 b w.heap.size with h' |h'
 .exact h'
 .exact absurd (hwf b h') h
section
variable {G:Gh} {w w' :World} {ob:Obj}
theorem iG.cell (hn:iG w w' ob){b:Nat}(hb:b<w.heap.size)(o:Nat):w'.cell? (ad b o)=w.cell? (ad b o):=by
 simp [World.cell?,hn.old b hb]
def iG.ext (hn:iG w w' ob)(hwf:WF G w)(jY:PW):Ext G w (fV G w.heap.size jY) w' where
 os:=hn.os
 tape:=hn.tape
 output:=hn.output
 drawn _:=hn.drawn
 size:=by rw [hn.size];omega
 jj b o hi:=by
  have hb:b<w.heap.size:=aM hwf (by intro e;simp [gJ,e] at hi);have hne:b≠w.heap.size:=by omega
  refine ⟨?_,hn.cell hb o⟩;unfold gJ at hi ⊢;rw [G5 hne];exact hi
 still b hb:=by
  have hlt:b<w.heap.size:=aM hwf (by rintro e;rw [e] at hb;rcases hb with hb|⟨n,hb⟩<;>cases hb);exact ⟨G5 (by omega),hn.old b hlt⟩
 shape b c e f hc:=by
  have hlt:b<w.heap.size:=by
   rcases s5 b w.heap.size with h|h
   .exact h
   .rw [Array.getElem?_eq_none h] at hc;cases hc
  exact ⟨c,by rw [hn.old b hlt];exact hc,rfl⟩
def iG.keeps (hn:iG w w' ob)(hwf:WF G w)(jY:PW)(q:Place):aK q G w (fV G w.heap.size jY) w' :=by
 intro b n hb;have hlt:b<w.heap.size:=aM hwf (by rw [hb];simp);exact ⟨by grind [G5],hn.old b hlt⟩
def iG.xI (hn:iG w w' ob)(hwf:WF G w)(jY:PW)(id:Nat):∀ b,G b= .obj id->(fV G w.heap.size jY) b= .obj id/\w'.heap[b]? =w.heap[b]? :=by
 intro b hb;have hlt:b<w.heap.size:=aM hwf (by rw [hb];simp);exact ⟨by grind [G5],hn.old b hlt⟩
def iG.wf (hn:iG w w' ob)(hwf:WF G w)(jY:PW):WF (fV G w.heap.size jY) w' :=by
 intro b hb;rw [hn.size] at hb;rw [G5 (by omega)];exact hwf b (by omega)
def iG.eE (hn:iG w w' ob)(hwf:WF G w)(jY:PW)(l:F2):ki l G w (fV G w.heap.size jY) w' :=
 fun id _=>⟨hn.xI hwf jY id,fun off=>hn.keeps hwf jY (.cell id off)⟩
def iG.hr (hn:iG w w' ob)(hwf:WF G w)(jY:PW){I I' :Q9}{N N' :Nat->Prop}{H:q8}(hI:∀ id,N id->I' id=I id)(hN:∀ id,N id->N' id)(h:HR G I N w H) :
  HR (fV G w.heap.size jY) I' N' w' H :=
 fun id o ho=>OR.mono (hn.ext hwf jY) hI hN id o (fun hb=>hn.xI hwf jY id _ hb) (fun _=>hn.keeps hwf jY _) (h id o ho)
def iG.vr (hn:iG w w' ob)(hwf:WF G w)(jY:PW){I I' :Q9}{N N' :Nat->Prop}(hI:∀ id,N id->I' id=I id)(hN:∀ id,N id->N' id){pl:Place}{a:j3}{x:Value}(h:VR G I N w pl a x) :
  VR (fV G w.heap.size jY) I' N' w' pl a x :=
 VR.mono (hn.ext hwf jY) hI hN pl a x (Or.inr (hn.keeps hwf jY pl)) h
end
structure bE (X:Cx)(l:F2)(S:Nat->Prop)(entry:Nat)(st:F4)(a:Act)(w:World)(G:Gh)(I:Q9)(N:Nat->Prop)
  (st' :F4) (k:Nat) (x' :Value) (w' :World) (G' :Gh) (I' :Q9) (N' :Nat->Prop):Prop where
 ri:RI X l S st' a w' G' I' N'
 val:VR G' I' N' w' (.loc k) (st'.L.getD k .any) x'
 ext:Ext G w G' w'
 eE:ki l G w G' w'
 ko:∀ id,N id->st'.p6.any (Touch.J3 id)=false->I' id=I id/\∀ b,G b= .obj id->G' b= .obj id/\w'.heap[b]? =w.heap[b]?
 inj:∀ id,id<entry->N id->I' id=I id
 mono:∀ id,N id->N' id
 len:st.H.length<=st'.H.length
 hle:∀ id o',id<l.base->st'.H[id]? =some o' ->o'.L7<=id+1\/∃ o,st.H[id]? =some o/\o'.L7<=o.L7
section
variable {P:Program} {X:Cx} {l:F2} {S:Nat->Prop} {st:F4} {a:Act} {w w' :World} {G:Gh} {I:Q9} {N:Nat->Prop} {ob:Obj}
def RI.new (h:RI X l S st a w G I N)(hn:iG w w' ob)(jY:PW):RI X l S st a w' (fV G w.heap.size jY) I N where
 T s t ht:=hn.vr h.wf jY (fun _ _=>rfl) (fun _ h=>h) (h.T s t ht)
 L j hj d hd hN:=hn.vr h.wf jY (fun _ _=>rfl) (fun _ h=>h) (h.L j hj d hd hN)
 H:=hn.hr h.wf jY (fun _ _=>rfl) (fun _ h=>h) h.H
 wf:=hn.wf h.wf jY
 U7:=h.U7
theorem RI.put (h:RI X l S st a w G I N){k:Nat}(hk:¬ S k)(v:j3):RI X l S (put st k v) a w G I N where
 T:=h.T
 L j hj d hd hN:=by
  have:k≠j:=by grind
  simp only [Abs.put];rw [N8 _ _ _ _ _ this];exact h.L j hj d hd hN
 H:=h.H
 wf:=h.wf
 U7:=h.U7
def bE.same (h:RI X l S st a w G I N){k:Nat}(hk:¬ S k)(Z9:k<st.L.length)(entry:Nat){v:j3}{x:Value}(hv:VR G I N w (.loc k) v x) :
  bE X l S entry st a w G I N (put st k v) k x w G I N where
 ri:=h.put hk v
 val:=by simp_all [Abs.put,M4]
 ext:=Ext.refl _ _
 eE:=ki.refl _ _ _
 ko _ _ _:=⟨rfl,fun _ hb=>⟨hb,rfl⟩⟩
 inj _ _ _:=rfl
 mono _ h:=h
 len:=o5 _
 hle _ o _ ho:=Or.inr ⟨o,ho,o5 _⟩
def bE.fresh (h:RI X l S st a w G I N){k:Nat}(hk:¬ S k)(Z9:k<st.L.length)(entry:Nat)(hn:iG w w' ob)(jY:PW){v:j3}{x:Value}
  (hv:VR (fV G w.heap.size jY) I N w' (.loc k) v x):bE X l S entry st a w G I N (put st k v) k x w' (fV G w.heap.size jY) I N where
 ri:=(h.new hn jY).put hk v
 val:=by simp_all [Abs.put,M4]
 ext:=hn.ext h.wf jY
 eE:=hn.eE h.wf jY l
 ko id _ _:=⟨rfl,hn.xI h.wf jY id⟩
 inj _ _ _:=rfl
 mono _ h:=h
 len:=o5 _
 hle _ o _ ho:=Or.inr ⟨o,ho,o5 _⟩
end
section
variable {G:Gh} {I:Q9} {N:Nat->Prop} {w w' :World}
theorem gh:∀ (cs:List j3) (xs:List Data) (vs:List Value),M5 cs=some xs->H8 G I N w cs vs ->
  xs.length=cs.length/\∀ (i:Nat) x,xs[i]? =some x->∃ v,vs[i]? =some v/\DR G w x v
 |[],xs,vs,h,_=>by
  simp_all [M5]
 |c::cs,xs,vs,h,hv=>by
  obtain ⟨v,vs',rfl,h2,h3⟩:=hv;unfold M5 at h;split at h
  .rename_i x hx
   split at h
   .rename_i ys hys
    simp at h;subst h;obtain ⟨g1,g2⟩:=gh cs ys vs' hys h3;refine ⟨by simp [g1],fun i y hi=> ?_⟩;cases i with
    |zero =>
     unfold j3.data? at hx;split at hx
     .simp_all [VR]
     .have:=h2.I7 (wC := .none)
      simp_all [j3.I7,VR]
     .have:=h2.I7 (wC := .none)
      simp_all [j3.I7,VR]
     .cases hx
    |succ i=>simp_all
   .cases h
  .cases h
theorem yx {b:Nat}:∀ (o:Nat) (xs:List Data),(∀ (i:Nat) x,xs[i]? =some x->gJ G b (o+i)/\∃ v,w.cell? (ad b (o+i))=some v/\DR G w x v)->eo G w b o xs
 |_,[],_=>by simp [eo]
 |o,x::xs,h=>by
  obtain ⟨h1,h2⟩:=h 0 x rfl;refine ⟨by omega,by omega,yx (o+1) xs fun i y hi=> ?_⟩;have:=h (i+1) y (by simp_all)
  grind
def NJ (hwf:WF G w){c:Array Value}{e:TypeId}{f:Nat×Nat}(hn:iG w w' (.cells c e f))(hf:KI f c.size){cs:List j3}{xs:List Data}{vs:List Value}
  (hd:M5 cs=some xs) (hv:H8 G I N w cs vs) (hc:∀ (i:Nat) v,vs[i]? =some v->c[i]? =some v) {sz len cap:Nat} (hl:xs.length=len * sz) (hcap:len<=cap) (hsz:cap * sz<=c.size) {pl:Place} (hp:pl≠ .none) :
  VR (fV G w.heap.size (.grow (len * sz) pl)) I N w' pl (.own sz len xs) (.slice (some (ad w.heap.size 0)) len cap):=by
 refine ⟨hl,Or.inr ⟨hp,w.heap.size,0,cap,c,e,f,rfl,hcap,hn.new,by omega,hf,by simp,?_⟩⟩;obtain ⟨g1,g2⟩:=gh cs xs vs hd hv;refine yx 0 xs fun i x hi=> ?_
 obtain ⟨v,e1,e2⟩:=g2 i x hi;have hlt:=r9 hi;refine ⟨by simp [gJ];omega,v,?_,DR.mono (hn.ext hwf _).jj _ _ e2⟩;rw [S1 hn.new];simp_all
end
end Go.Abs
namespace Go.Abs
variable [D5]
def FW (P:Program)(e:TypeId)(n:Nat):Option (List Value) :=
 if n=0 then some [] else
 match P.info? e with
 |some i=>match i.zero with
  |some z=>some ((Array.range n).map (z.cells[· % z.cells.size]!)).toList
  |none=>none
 |none=>none
def bF (P:Program)(ck:Operand->u9->Bool)(o:Oper)(op:z6):Bool :=
 match o.op,op with
 | .alloc t,.alloc zero=>vD P t zero
 | .box _ x,.box y=>ck x y
 | .makeMap _ none,.makeMap=>true
 | .makeSlice t n c,.mL sz zero x y=>ck n x&&ck c y&&kH P t sz&&(match P.underlying t with
  |some (.slice e)=>vD P e zero&&(match P.info? e with
   |some i=>s7 i.size sz&&D9 i.bytes 1000
   |none=>false)
  |_=>false)
 | .buildSlice t n parts,.A2 sz len zero ps _=>n==len&&kH P t sz&&decide (len * sz<=16777216)&&(match P.underlying t with
  |some (.slice e)=>(match FW P e (len * sz) with
   |some zs=>consts zs zero&&jx P ck (fun i=>some (i * sz,sz)) parts.toList ps
   |none=>false)
  |_=>false)
 | .convert s d x,.EC y=>ck x y&&(P.underlying s).isSome&&(match P.underlying d with|some (.slice e)=>(match P.underlying e with|some (.int .u8)=>true|_=>false)|_=>false)
 |_,_=>false
section
variable {P:Program} {X:Cx} {l:F2} {S:Nat->Prop} {st:F4} {a:Act} {w w' :World} {G:Gh} {I:Q9} {N:Nat->Prop} {ob:Obj}
structure yB (l:F2)(st:F4)(N:Nat->Prop)(u5:Option Nat):Prop where
 new:¬ N (newId st u5)
 inside:∀ i,u5=some i->i<st.H.length
 base:l.base<=newId st u5
 strict:l.strict<=newId st u5
def HV (st:F4)(u5:Option Nat)(o:x9):st.H.length<=(F0 st u5 o).H.length:=by
 cases u5<;>simp [F0]
theorem gv {st:F4}{u5:Option Nat}(hi:∀ i,u5=some i->i<st.H.length)(o:x9)(id:Nat)(o' :x9)(h:(F0 st u5 o).H[id]? =some o') :
  (id=newId st u5/\o' =o)\/(id≠newId st u5/\st.H[id]? =some o'):=by
 cases u5 with
 |none =>
  grind [F0,newId,Nat.lt_trichotomy,q7,H6]
 |some i =>
  grind [F0,newId,J8,y9]
def bE.newObj (h:RI X l S st a w G I N){k:Nat}(hk:¬ S k)(Z9:k<st.L.length)(entry:Nat){u5:Option Nat}(hid:yB l st N u5)(hn:iG w w' ob)(o:x9)
  (ho:OR (fV G w.heap.size (.obj (newId st u5))) (oB I (newId st u5) (w.heap.size,0)) (fun i=>N i\/i=newId st u5) w' (newId st u5) o) {v:j3} {x:Value}
  (hv:VR (fV G w.heap.size (.obj (newId st u5))) (oB I (newId st u5) (w.heap.size,0)) (fun i=>N i\/i=newId st u5) w' (.loc k) v x) :
  bE X l S entry st a w G I N (put (F0 st u5 o) k v) k x w' (fV G w.heap.size (.obj (newId st u5))) (oB I (newId st u5) (w.heap.size,0)) (fun i=>N i\/i=newId st u5):=by
 have hI:∀ id,N id->oB I (newId st u5) (w.heap.size,0) id=I id:=fun id hN=>bU (by rintro rfl;exact hid.new hN)
 have hT:(F0 st u5 o).T=st.T:=by cases u5<;>rfl
 have hL:(F0 st u5 o).L=st.L:=by cases u5<;>rfl
 refine ⟨⟨?_,?_,?_,hn.wf h.wf _,?_⟩,?_,hn.ext h.wf _,hn.eE h.wf _ l,?_,?_,fun _ h=>Or.inl h,HV st u5 o,?_⟩
 .intro s t ht
  simp only [Abs.put,hT];exact hn.vr h.wf _ hI (fun _ h=>Or.inl h) (h.T s t ht)
 .intro j hj d hd hN
  have:k≠j:=by grind
  simp only [Abs.put,hL];rw [N8 _ _ _ _ _ this];exact hn.vr h.wf _ hI (fun _ h=>Or.inl h) (h.L j hj d hd hN)
 .intro id o' ho'
  rcases gv hid.inside o id o' ho' with ⟨rfl,rfl⟩|⟨hne,hold⟩
  .exact ho
  .exact OR.mono (hn.ext h.wf _).sub hI (fun _ h=>Or.inl h) id o' (fun hb=>hn.xI h.wf _ id _ hb) (fun _=>hn.keeps h.wf _ _) (h.H id o' hold)
 .intro id o' ho'
  rcases gv hid.inside o id o' ho' with ⟨rfl,rfl⟩|⟨hne,hold⟩
  .exact ⟨fun hx=>absurd hx (by have:=hid.strict;omega),fun hx=>absurd hx (by have:=hid.base;omega)⟩
  .exact h.U7 id o' hold
 .simp_all [Abs.put,M4]
 .intro id hN _
  exact ⟨hI id hN,hn.xI h.wf _ id⟩
 .simp_all
 .intro id o' hb ho'
  rcases gv hid.inside o id o' ho' with ⟨rfl,rfl⟩|⟨hne,hold⟩
  .exact absurd hb (by have:=hid.base;omega)
  simp_all
def lz (n:Nat):KI (0,0) n:=by intro o _ h;simp at h
def En (hwf:WF G w){c:Array Value}{e:TypeId}(hn:iG w w' (.cells c e)){id:Nat}(hid:¬ N id){cs:List j3}(hv:H8 G I N w cs c.toList) :
  OR (fV G w.heap.size (.obj id)) (oB I id (w.heap.size,0)) (fun i=>N i\/i=id) w' id (.cells cs):=by
 simp only [OR];refine ⟨Or.inr trivial,c,e,(0,0),by simpa using hn.new,by simp,lz _,?_,fun i x hx=> ?_⟩
 .have:=H8.length _ _ hv
  simp_all
 .obtain ⟨v,g1,g2⟩:=H8.get cs _ hv i x hx
  refine ⟨v,by simp_all,?_⟩;exact (hn.vr hwf _ (fun j hj=>bU (by grind)) (fun _ h=>Or.inl h) g2).place
variable {ck:Operand->u9->Bool}
def QV (h:RI X l S st a w G I N){k:Nat}(hk:¬ S k)(Z9:k<st.L.length)(entry:Nat){u5:Option Nat}(hid:yB l st N u5){o:Oper}{zero:List j3}
  (hc:bF P ck o (.alloc zero)=true):∃ x w' G' I' N',(execOp a.eval o).run P w= .ok (.value x) w' /\
   bE X l S entry st a w G I N (put (F0 st u5 (.cells zero)) k (.ptr (newId st u5) 0)) k x w' G' I' N' /\(∀ i,N' i↔N i\/i=newId st u5):=by
 obtain ⟨dst,cn,ty,pos,after,guard⟩:=o;cases cn<;>simp [bF] at hc<;>try (cases hc)
 rename_i t;obtain ⟨it,z,e1,e2,e3⟩:=ic (G:=G) (I:=I) (N:=N) (w:=w) hc;have hz:(zeroValue t).run P w= .ok z w:=by simp [zeroValue,typeInfo,e1,e2]
 refine ⟨.pointer (some (ad w.heap.size 0)),w.alloc (.cells z.cells t),_,_,_,?_,bE.newObj h hk Z9 entry hid (iG.alloc w (.cells z.cells t)) (.cells zero) (En h.wf (iG.alloc w _) hid.new e3) ?_,fun i=>Iff.rfl⟩
 all_goals simp_all [execOp,Instr.alloc,newVar,newRow,VR,trivial]
def Yd (h:RI X l S st a w G I N)(hρ:aT ck G I N w a.eval (G9 st.T st.L)){k:Nat}(hk:¬ S k)(Z9:k<st.L.length)(entry:Nat){u5:Option Nat}(hid:yB l st N u5){o:Oper}{y:u9}
  (hc:bF P ck o (.box y)=true) {cs:List j3} (hcs:(G9 st.T st.L y).cells? =some cs):∃ x w' G' I' N',(execOp a.eval o).run P w= .ok (.value x) w' /\
   bE X l S entry st a w G I N (put (F0 st u5 (.cells cs)) k (.ptr (newId st u5) 0)) k x w' G' I' N' /\(∀ i,N' i↔N i\/i=newId st u5):=by
 obtain ⟨dst,cn,ty,pos,after,guard⟩:=o;cases cn<;>simp [bF] at hc<;>try (cases hc)
 rename_i t x;obtain ⟨g1,_⟩:=vN hcs (hρ _ _ hc);refine ⟨.pointer (some (ad w.heap.size 0)),w.alloc (.cells (a.eval x).cells t),_,_,_,?_,bE.newObj h hk Z9 entry hid (iG.alloc w (.cells (a.eval x).cells t)) (.cells cs) (En h.wf (iG.alloc w _) hid.new g1) ?_,fun i=>Iff.rfl⟩
 all_goals simp_all [execOp,Instr.box,newVar,newRow,VR,trivial]
def Ye (h:RI X l S st a w G I N){k:Nat}(hk:¬ S k)(Z9:k<st.L.length)(entry:Nat){u5:Option Nat}(hid:yB l st N u5){o:Oper}
  (hc:bF P ck o .makeMap=true):∃ x w' G' I' N',(execOp a.eval o).run P w= .ok (.value x) w' /\
   bE X l S entry st a w G I N (put (F0 st u5 (.map [])) k (.map (newId st u5))) k x w' G' I' N' /\(∀ i,N' i↔N i\/i=newId st u5):=by
 obtain ⟨dst,cn,ty,pos,after,guard⟩:=o;unfold bF at hc;split at hc<;>try (cases hc)
 all_goals try (rename_i gL ee;cases ee)
 rename_i t gL ee;subst gL;have hn:=iG.alloc w (.map #[] 0);refine ⟨.map (some w.heap.size),w.alloc (.map #[] 0),_,_,_,?_,bE.newObj h hk Z9 entry hid hn (.map []) ?_ ?_,fun i=>Iff.rfl⟩
 .rfl
 .simp only [OR]
  exact ⟨Or.inr trivial,#[],0,by simpa using hn.new,by simp,by simp [ER],⟨by simp,by simp⟩⟩
 simp_all [VR,trivial]
theorem zP (z:Array Value):∀ n:Nat,(madeCells z (n * z.size)).toList=(j4 n z.toList).flatten:=by
 intro n
 by_cases h0:z.size=0
 .simp_all [List.eq_nil_of_length_eq_zero,j4,List.replicate_succ,List.flatten_cons,madeCells]
 .induction n with
  |zero=>simp [madeCells]
  |succ n ih =>
   have e:(j4 (n+1) z.toList).flatten=(j4 n z.toList).flatten++z.toList:=by
    simp_all [List.replicate_succ',List.flatten_append]
   rw [e,<- ih];apply List.ext_getElem
   .grind [madeCells]
   .intro i h1 h2
    have h1' :i<(n+1) * z.size:=by simp_all [madeCells]
    rw [Nat.add_mul,Nat.one_mul] at h1'
    rcases s5 i (n * z.size) with h|h
    .grind [List.getElem_append_left,madeCells]
    .rw [List.getElem_append_right (by simp_all)]
     have hm:i % z.size=i - n * z.size:=by
      have e2:i=(i - n * z.size)+n * z.size:=by omega
      have e3:i % z.size=((i - n * z.size)+n * z.size) % z.size:=congrArg (· % z.size) e2;rw [e3,Nat.add_mul_mod_self_right,Nat.mod_eq_of_lt (by omega)]
     grind [madeCells]
theorem Gq {zero:List j3}{zs:List Value}(h:H8 G I N w zero zs):∀ n:Nat,H8 G I N w (j4 n zero).flatten (j4 n zs).flatten
 |0=>by simp [H8]
 |n+1=>by
  exact H8.append _ _ _ _ h (Gq h n)
def HM {sz:Nat}{zero:List j3}{x y:j3}{n:Nat}(h:NA sz zero x y=some n):x= .d (.int .i64 n)/\y= .d (.int .i64 n)/\n<=1000000/\0<sz/\zero.length=sz:=by
 simp_all [NA]<;>grind
def QW (h:RI X l S st a w G I N)(hρ:aT ck G I N w a.eval (G9 st.T st.L)){k:Nat}(hk:¬ S k)(Z9:k<st.L.length)(entry:Nat){u5:Option Nat}(hid:yB l st N u5){o:Oper}{sz:Nat}{zero:List j3}{x y:u9}
  (hc:bF P ck o (.mL sz zero x y)=true) {n:Nat} (hn:NA sz zero (G9 st.T st.L x) (G9 st.T st.L y)=some n) :
  ∃ x w' G' I' N',(execOp a.eval o).run P w= .ok (.value x) w' /\
   bE X l S entry st a w G I N (put (F0 st u5 (.cells (j4 n zero).flatten)) k (.B6 (newId st u5) sz 0 n)) k x w' G' I' N' /\(∀ i,N' i↔N i\/i=newId st u5):=by
 obtain ⟨dst,cn,ty,pos,after,guard⟩:=o;cases cn<;>simp [bF,c9] at hc<;>try (cases hc;done)
 rename_i t c1 c2;obtain ⟨⟨⟨h1,h2⟩,ht⟩,hz⟩:=hc;obtain ⟨e,hu,TB,hie⟩:=ez ht;obtain ⟨e1,e2,hb,hsz,hzl⟩:=HM hn;simp [hu,c9] at hz;obtain ⟨TE,Gj⟩:=hz;obtain ⟨it,z,f1,f2,f3⟩:=ic (G:=G) (I:=I) (N:=N) (w:=w) TE;rw [f1] at Gj;simp only [c9] at Gj;have s1:it.size=sz:=j7 Gj.1;have s2:it.bytes<=1000:=k9 Gj.2;have g1:=hρ _ _ h1;have g2:=hρ _ _ h2;rw [e1] at g1;rw [e2] at g2;simp [VR,DR] at g1 g2;have hzs:z.cells.size=sz:=by
  have:=H8.length _ _ f3;simp_all
 have hb' :(it.bytes:Int) * (n:Int)<=281474976710656:=by
  have h:it.bytes * n<=1000 * 1000000:=Nat.mul_le_mul s2 hb;omega
 have hr:=run_make (P:=P) w t e it z hu f1 f2 .i64 .i64 n n (by omega) (Int.le_refl _) hb' (by omega);have hcs:H8 G I N w (j4 n zero).flatten (madeCells z.cells (n * it.size)).toList:=by
  grind [zP,Gq]
 have hnw:=iG.alloc w (.cells (madeCells z.cells (n * it.size)) e);refine ⟨.slice (some (ad w.heap.size 0)) n n,_,_,_,_,?_,bE.newObj h hk Z9 entry hid hnw (.cells (j4 n zero).flatten) (En h.wf hnw hid.new hcs) ?_,fun i=>Iff.rfl⟩
 .simp_all [execOp,ad]
 .simp only [VR]
  exact ⟨Or.inr trivial,n,by simp,o5 _,madeCells z.cells (n * it.size),e,(0,0),by simpa using hnw.new,by simp [size_madeCells,s1]⟩
def oo (hρ:aT ck G I N w a.eval (G9 st.T st.L)){o:Oper}{sz len:Nat}{zero:List j3}{ps:List (Nat×Nat×u9)}{b:Bool}
  (hc:bF P ck o (.A2 sz len zero ps b)=true) {cs:List j3} (hcs:bA zero (ps.map fun (o,s,x)=>(o,s,G9 st.T st.L x))=some cs) :
  ∃ (ys:Array Value) (e:TypeId),(execOp a.eval o).run P w= .ok (.value (.slice (some (ad w.heap.size 0)) len len)) (w.alloc (.cells ys e))/\H8 G I N w cs ys.toList:=by
 obtain ⟨dst,cn,ty,pos,after,guard⟩:=o;cases cn<;>simp [bF,c9,beq_iff_eq,decide_eq_true_eq] at hc<;>try (cases hc;done)
 rename_i t n parts;obtain ⟨⟨⟨rfl,ht⟩,WT⟩,hz⟩:=hc;obtain ⟨e,hu,TB,hie⟩:=ez ht;have hsize:(sizeOf e).run P w= .ok sz w:=by simp_all [run_sizeOf]
 simp [hu] at hz;split at hz
 .rename_i zs hzs
  simp [c9] at hz;obtain ⟨TE,Gj⟩:=hz;have hzr:H8 G I N w zero zs:=ey _ _ TE;obtain ⟨ys,f1,f2⟩:=lJ (P:=P) hρ parts.toList ps zero cs zs.toArray Gj (by omega) hcs;refine ⟨ys,e,?_,f2⟩;have hno:¬ n * sz>2 ^ 24:=by omega
  have ah7:(parts.map fun (i,x)=>(i,a.eval x)).toList=parts.toList.map fun (i,x)=>(i,a.eval x):=by simp
  by_cases h0:n * sz=0
  .unfold FW at hzs
   rw [if_pos h0] at hzs;simp only [execOp,Instr.buildSlice,Sem.run_bind,run_underlying hu,Result.andThen_ok,hsize,if_neg hno,if_pos h0,Sem.run_pure];have e1:(Array.range (n * sz)).map (fun x=>((#[]:Array Value)[x % (#[]:Array Value).size]!))= #[]:=by rw [h0];simp
   rw [e1];simp_all [newRow]
  .unfold FW at hzs
   rw [if_neg h0] at hzs;split at hzs
   .split at hzs
    .rename_i z hzz
     simp only [Option.some.injEq] at hzs;have hzv:(zeroValue e).run P w= .ok z w:=by simp_all [zeroValue,typeInfo]
     have e1:(Array.range (n * sz)).map (fun x=>z.cells[x % z.cells.size]!)=zs.toArray:=by rw [<- hzs]
     simp [execOp,Instr.buildSlice,Sem.run_bind,run_underlying hu,Result.andThen_ok,hsize,if_neg hno,if_neg h0,Sem.run_pure,hzv,ah7,e1,f1];simp [newRow]
    .cases hzs
   .cases hzs
 .cases hz
def QX (h:RI X l S st a w G I N)(hρ:aT ck G I N w a.eval (G9 st.T st.L)){k:Nat}(hk:¬ S k)(Z9:k<st.L.length)(entry:Nat){o:Oper}{sz len:Nat}{zero:List j3}{ps:List (Nat×Nat×u9)}
  (hc:bF P ck o (.A2 sz len zero ps false)=true) {v:j3} {rs:List Nat} (hp:o6 (G9 st.T st.L) st.H (.A2 sz len zero ps false)=some (v,rs)) :
  ∃ x w' G',(execOp a.eval o).run P w= .ok (.value x) w' /\bE X l S entry st a w G I N (put st k v) k x w' G' I N:=by
 simp [o6] at hp;split at hp
 .rename_i cs hcs
  split at hp
  .rename_i xs hxs
   split at hp
   .rename_i hl
    obtain ⟨rfl,rfl⟩:=hp;obtain ⟨ys,e,hrun,hvs⟩:=oo (P:=P) hρ hc hcs;have hn:=iG.alloc w (.cells ys e);have hlen:ys.size=len * sz:=by
     have h1:=H8.length _ _ hvs
     grind [gh]
    exact ⟨_,_,_,hrun,bE.fresh h hk Z9 entry hn _ (NJ h.wf hn (lz _) hxs hvs (fun i v hi=>by simp_all) hl.2 (o5 _) (by omega) (by simp))⟩
   .cases hp
  .cases hp
 .cases hp
def Fh (h:RI X l S st a w G I N)(hρ:aT ck G I N w a.eval (G9 st.T st.L)){k:Nat}(hk:¬ S k)(Z9:k<st.L.length)(entry:Nat){u5:Option Nat}(hid:yB l st N u5){o:Oper}{sz len:Nat}{zero:List j3}
  {ps:List (Nat×Nat×u9)} (hc:bF P ck o (.A2 sz len zero ps true)=true) {cs:List j3} (hcs:bA zero (ps.map fun (o,s,x)=>(o,s,G9 st.T st.L x))=some cs) (hl:cs.length=len * sz) :
  ∃ x w' G' I' N',(execOp a.eval o).run P w= .ok (.value x) w' /\
   bE X l S entry st a w G I N (put (F0 st u5 (.cells cs)) k (.B6 (newId st u5) sz 0 len)) k x w' G' I' N' /\(∀ i,N' i↔N i\/i=newId st u5):=by
 obtain ⟨ys,e,hrun,hvs⟩:=oo (P:=P) hρ hc hcs;have hn:=iG.alloc w (.cells ys e);have hlen:ys.size=len * sz:=by
  have h1:=H8.length _ _ hvs;simp_all
 refine ⟨_,_,_,_,_,hrun,bE.newObj h hk Z9 entry hid hn (.cells cs) (En h.wf hn hid.new hvs) ?_,fun i=>Iff.rfl⟩;simp only [VR];exact ⟨Or.inr trivial,len,by simp,o5 _,ys,e,(0,0),by simpa using hn.new,by simp;omega⟩
end
end Go.Abs
namespace Go.Abs
variable [D5]
section
variable {P:Program} {X:Cx} {l:F2} {S:Nat->Prop} {st:F4} {a:Act} {w w' :World} {G:Gh} {I:Q9} {N:Nat->Prop} {D:Nat->Bool}
theorem RI.Q0 (h:RI X l S st a w G I N)(hD:∀ j,D j=true->S j):aT (X.ck D) G I N w a.eval (G9 st.T st.L):=by
 intro x y hc;unfold Cx.ck at hc;split at hc
 .rename_i t s
  have ht:X.names[s]? =some t:=by simpa using hc
  simp only [G9,Act.eval];exact (h.T s t ht).I7
 .rename_i t j
  simp only [c9,beq_iff_eq,o8] at hc;simp only [G9,Act.eval];exact (h.L j (hD j hc.1.1) t hc.1.2 hc.2).I7
 .rename_i v b
  simp only [G9,Act.eval];exact (cE v b hc).MX
 .rename_i f g
  have:f=g:=by simpa using hc
  subst this;simp only [G9,j3.MX,j3.I7,Act.eval,VR];exact ⟨#[],#[],rfl,by simp [H8],by simp [H8]⟩
 .simp [G9,j3.MX,j3.I7,VR]
 .cases hc
theorem vB (st:F4)(y:u9):(E1 st y).2.H=st.H:=by
 cases y<;>simp only [E1];split<;>rfl
theorem Bn (st:F4)(y:u9):(E1 st y).2.L.length=st.L.length:=by
 cases y<;>simp only [E1];split<;>simp
structure Xf (X:Cx)(l:F2)(S:Nat->Prop)(st:F4)(y:u9)(a:Act)(w:World)(G:Gh)(I:Q9)(N:Nat->Prop)(pl:Place)(x:Value)(G' :Gh):Prop where
 ri:RI X l S (E1 st y).2 a w G' I N
 val:VR G' I N w pl (E1 st y).1 x
 ext:Ext G w G' w
 keeps:∀ id off,aK (.cell id off) G w G' w
 obj:∀ b id,G b= .obj id->G' b= .obj id
theorem RI.E1 (h:RI X l S st a w G I N)(hD:∀ j,D j=true->S j){x:Operand}{y:u9}(hc:X.ck D x y=true){pl:Place}(hp:pl≠ .none) :
  ∃ G',Xf X l S st y a w G I N pl (a.eval x) G' :=by
 have hρ:=h.Q0 hD x y hc;have simple:(Abs.E1 st y).2=st->VR G I N w .none (Abs.E1 st y).1 (a.eval x)->∃ G',Xf X l S st y a w G I N pl (a.eval x) G' :=
  fun h1 h2=>⟨G,by rw [h1];exact h,h2.place,Ext.refl _ _,fun _ _ _ _ h=>⟨h,rfl⟩,fun _ _ h=>h⟩
 cases y with
 |slot s=>exact simple rfl hρ
 |const v =>
  refine simple rfl ?_;unfold Cx.ck at hc;split at hc
  .simp_all
  .simp_all
  .rename_i v' b heq
   cases heq;exact cE _ _ hc
  .rename_i f g heq
   cases heq;simpa [G9,j3.MX,j3.I7,Abs.E1] using hρ
  .rename_i heq
   cases heq;simp [Abs.E1,VR]
  .cases hc
 |loc j =>
  by_cases hown:∃ z len cells,st.L[j]? =some (.own z len cells)
  .obtain ⟨z,len,cells,hj⟩:=hown
   unfold Cx.ck at hc;split at hc
   .simp_all
   .rename_i t j' heq
    cases heq;simp only [c9,beq_iff_eq,o8] at hc;have h1:=h.L j (hD j hc.1.1) t hc.1.2 hc.2;rw [ay hj] at h1;obtain ⟨G',hm,hv⟩:=iY hp h1;refine ⟨G',?_,?_,hm.ext,fun id off=>hm.keeps _ (by simp),hm.obj⟩
    .simp only [Abs.E1,hj]
     exact h.Og hj hm
    .simp only [Abs.E1,hj,Act.eval]
     exact hv
   all_goals simp_all
  .by_cases hnil:st.L[j]? =some .P5
   .have e:Abs.E1 st (.loc j)=(.P5,st):=by simp only [Abs.E1,hnil]
    refine simple (by rw [e]) ?_;rw [e];unfold Cx.ck at hc;split at hc
    .simp_all
    .rename_i t j' heq
     cases heq;simp only [c9,beq_iff_eq,o8] at hc;have h1:=h.L j (hD j hc.1.1) t hc.1.2 hc.2;rw [ay hnil] at h1;simpa only [VR,Act.eval] using h1
    all_goals simp_all
   .have e:Abs.E1 st (.loc j)=(G9 st.T st.L (.loc j),st):=by
     simp only [Abs.E1];split
     .rename_i z len cells hj
      exact absurd ⟨z,len,cells,hj⟩ hown
     .rename_i hj;exact absurd hj hnil
     .rfl
    exact simple (by rw [e]) (by rw [e];exact hρ)
theorem run_storeCells_at (b o:Nat)(e:TypeId)(f:Nat×Nat):∀ (vs:List Value) (i:Nat) (cur:Array Value) (w:World),w.heap[b]? =some (.cells cur e f)->KI f cur.size ->
  o+i+vs.length<=cur.size->LR vs->(storeCells (ad b o) vs i).run P w= .ok () (w.setRow b (J4 cur.toList (o+i) vs).toArray)
 |[],i,cur,w,hg,hf,hl,_=>by
  simp only [storeCells,J4,List.append_nil,B0,Nat.add_zero,List.take_append_drop];show Result.ok () w=_
  congr 1
  cases w with
  |mk heap tape drawn os output =>
   simp only [World.setRow]
   congr 1
   apply Array.ext
   .simp
   .intro k h1 h2
    simp only [Array.getElem_modify];split
    .rename_i hk;subst hk
     have:heap[b]= .cells cur e f:=by
      simp only at hg;exact (Array.getElem?_eq_some_iff.1 hg).2
     rw [this]
    .rfl
 |v::rest,i,cur,w,hg,hf,hl,h1=>by
  simp only [q6] at hl;have hi:o+i<cur.size:=by omega
  have hcell:w.cell? (ad b (o+i))=some cur[o+i]:=by rw [S1 hg];simp [hi]
  have aS4:w.frozen? (ad b (o+i))=false:=by
   simp only [World.frozen?,hg];have:=hf (o+i) hi;simp only [Bool.and_eq_false_iff,decide_eq_false_iff_not];omega
  have hst:(store ((ad b o).add i) v).run P w= .ok () (w.setRow b (cur.setIfInBounds (o+i) v)):=by
   rw [Z7,run_store P w _ v _ (h1 v (by simp)),hcell];simp [aS4,setCell_eq_setRow w b (o+i) cur e f v hg]
  have ih:=run_storeCells_at b o e f rest (i+1) (cur.setIfInBounds (o+i) v) (w.setRow b (cur.setIfInBounds (o+i) v)) (setRow_heap w b cur _ e f hg) (by simpa using hf) (by simp;omega) (fun x hx=>h1 x (by simp [hx]));simp only [storeCells,Sem.run_bind,hst,Result.andThen_ok,ih,setRow_setRow]
  congr 3
  have hlt:o+i<cur.toList.length:=by simpa using hi
  simp only [J4,Array.toList_setIfInBounds];rw [show o+(i+1)=o+i+1 from by omega,List.take_succ_eq_append_getElem (by simpa using hlt),List.drop_set_of_lt (by omega)];simp only [List.take_set_of_le (o5 _),List.getElem_set_self,A9,List.singleton_append,q6];rw [show o+i+1+rest.length=o+i+(rest.length+1) from by omega]
structure qp (id b:Nat)(w w' :World)(G:Gh):Prop where
 jY:G b= .obj id
 os:w'.os=w.os
 tape:w'.tape=w.tape
 output:w'.output=w.output
 drawn:w.drawn<=w'.drawn
 size:w'.heap.size=w.heap.size
 other:∀ b',b' ≠b->w'.heap[b']? =w.heap[b']?
 shape:∀ (c:Array Value) (e:TypeId) (f:Nat×Nat),w.heap[b]? =some (Obj.cells c e f)->∃ c' :Array Value,w'.heap[b]? =some (Obj.cells c' e f)/\c'.size=c.size
def qp.ext {id b:Nat}(h:qp id b w w' G):Ext G w G w' where
 os:=h.os
 tape:=h.tape
 output:=h.output
 drawn _:=h.drawn
 size:=by rw [h.size];exact o5 _
 jj b' o hi:=by
  have hne:b' ≠b:=by rintro rfl;simp [gJ,h.jY] at hi
  exact ⟨hi,by simp [World.cell?,h.other b' hne]⟩
 still b' hb:=by
  have hne:b' ≠b:=by rintro rfl;rw [h.jY] at hb;rcases hb with hb|⟨n,hb⟩<;>cases hb
  exact ⟨rfl,h.other b' hne⟩
 shape b' c e f hc:=by
  by_cases hne:b' =b
  .subst hne;exact h.shape c e f hc
  .exact ⟨c,by rw [h.other b' hne];exact hc,rfl⟩
def qp.keeps {id b:Nat}(h:qp id b w w' G)(q:Place):aK q G w G w' :=by
 intro b' n hb;have hne:b' ≠b:=by rintro rfl;rw [h.jY] at hb;cases hb
 exact ⟨hb,h.other b' hne⟩
def qp.xI {id b:Nat}(h:qp id b w w' G){id' :Nat}(hne:id' ≠id):∀ b',G b' = .obj id' ->G b' = .obj id' /\w'.heap[b']? =w.heap[b']? :=by
 intro b' hb;have:b' ≠b:=by rintro rfl;rw [h.jY] at hb;cases hb;exact hne rfl
 exact ⟨hb,h.other b' this⟩
def bE.write {D1:Nat->Prop}(h:RI X l S st a w G I N){k:Nat}(hk:¬ S k)(Z9:k<st.L.length)(entry:Nat){id b:Nat}(hw:qp id b w w' G){o:x9}{o0:x9}(h0:st.H[id]? =some o0)
  (ho:OR G I N w' id o) (hmay:l.may id=true) (rJ:o.L7<=max o0.L7 (id+1)\/(l.base<=id/\l.strict<=id)) (hD:∀ i,D1 i↔N i) {v:j3} {x:Value} (hv:VR G I N w' (.loc k) v x) (p6:List Touch) (Hx:p6.any (Touch.J3 id)=true) :
  bE X l S entry st a w G I N (put { st with H:=st.H.set id o,p6 } k v) k x w' G I D1:=by
 have hN:∀ i,N i->D1 i:=fun i hi=>(hD i).2 hi
 refine ⟨⟨?_,?_,?_,fun b' hb' =>h.wf b' (by rw [<- hw.size];exact hb'),?_⟩,?_,hw.ext,?_,?_,fun _ _ _=>rfl,hN,by simp [Abs.put],?_⟩
 .intro s t ht
  exact VR.mono hw.ext (fun _ _=>rfl) hN _ _ _ (Or.inr (hw.keeps _)) (h.T s t ht)
 .intro j hj d hd hn
  have:k≠j:=by rintro rfl;exact hk hj
  simp only [Abs.put];rw [N8 _ _ _ _ _ this];exact VR.mono hw.ext (fun _ _=>rfl) hN _ _ _ (Or.inr (hw.keeps _)) (h.L j hj d hd hn)
 .intro id' o' ho'
  simp only [Abs.put] at ho'
  by_cases he:id' =id
  .subst he
   rw [J8 (r9 h0)] at ho';cases ho';exact OR.mono (Ext.refl _ _).sub (fun _ _=>rfl) hN _ _ (fun h=>⟨h,rfl⟩) (fun _ _ _ h=>⟨h,rfl⟩) ho
  .rw [y9 (fun e=>he e.symm)] at ho'
   exact OR.mono hw.ext (fun _ _=>rfl) hN id' o' (fun hb=>hw.xI he _ hb) (fun _=>hw.keeps _) (h.H id' o' ho')
 .intro id' o' ho'
  simp only [Abs.put] at ho'
  by_cases he:id' =id
  .subst he
   rw [J8 (r9 h0)] at ho';cases ho';obtain ⟨d1,d2⟩:=h.U7 id' _ h0
   rcases rJ with hb|hb
   .exact ⟨fun hx=>by have:=d1 hx;omega,fun hx=>by have:=d2 hx;omega⟩
   .exact ⟨fun hx=>by omega,fun hx=>by omega⟩
  .rw [y9 (fun e=>he e.symm)] at ho'
   exact h.U7 id' o' ho'
 .simp only [Abs.put]
  rw [M4 _ _ _ _ Z9];exact VR.mono (Ext.refl _ _).sub (fun _ _=>rfl) hN _ _ _ (Or.inr (fun _ _ h=>⟨h,rfl⟩)) hv
 .intro id' hm
  have hne:id' ≠id:=by rintro rfl;rw [hmay] at hm;cases hm
  exact ⟨hw.xI hne,fun off=>hw.keeps _⟩
 .intro id' _ ht
  have hne:id' ≠id:=by rintro rfl;simp only [Abs.put] at ht;rw [Hx] at ht;cases ht
  exact ⟨rfl,hw.xI hne⟩
 .intro id' o' hb ho'
  simp only [Abs.put] at ho'
  by_cases he:id' =id
  .subst he
   rw [J8 (r9 h0)] at ho';cases ho'
   rcases rJ with hb' |hb'
   .by_cases hc:o.L7<=id' +1
    .exact Or.inl hc
    .exact Or.inr ⟨o0,h0,by omega⟩
   .omega
  .rw [y9 (fun e=>he e.symm)] at ho'
   exact Or.inr ⟨o',ho',o5 _⟩
end
end Go.Abs
namespace Go.Abs
variable [D5]
def Mp (l:List j3)(off:Nat)(vs:List j3)(h:off+vs.length<=l.length)(i:Nat) :
  (splice l off vs)[i]? =if i<off then l[i]? else if i<off+vs.length then vs[i - off]? else l[i]? :=by
 unfold splice;have hl:(l.take off).length=off:=by simp;omega
 by_cases h1:i<off
 .rw [if_pos h1,A9,q7 (by omega),List.getElem?_take_of_lt h1]
 .rw [if_neg h1,A9,p7 (by omega),hl]
  by_cases h2:i<off+vs.length
  .rw [if_pos h2,q7 (by omega)]
  .rw [if_neg h2,p7 (by omega),List.getElem?_drop]
   congr 1;omega
def gw (l:List Value)(off:Nat)(vs:List Value)(h:off+vs.length<=l.length)(i:Nat) :
  (J4 l off vs)[i]? =if i<off then l[i]? else if i<off+vs.length then vs[i - off]? else l[i]? :=by
 unfold J4;have hl:(l.take off).length=off:=by simp;omega
 by_cases h1:i<off
 .rw [if_pos h1,A9,q7 (by omega),List.getElem?_take_of_lt h1]
 .rw [if_neg h1,A9,p7 (by omega),hl]
  by_cases h2:i<off+vs.length
  .rw [if_pos h2,q7 (by omega)]
  .rw [if_neg h2,p7 (by omega),List.getElem?_drop]
   congr 1;omega
def jC (l:List Value)(off:Nat)(vs:List Value)(h:off+vs.length<=l.length):(J4 l off vs).length=l.length:=by
 simp [J4];omega
def Mq (l:List j3)(off:Nat)(vs:List j3)(h:off+vs.length<=l.length):(splice l off vs).length=l.length:=by
 simp [splice];omega
theorem dA:∀ (a b:List j3),B8 (a++b)=max (B8 a) (B8 b)
 |[],b=>by simp [B8]
 |v::vs,b=>by simp only [B7,B8,dA vs b];omega
theorem uA:∀ (n:Nat) (a:List j3),B8 (a.take n)<=B8 a
 |0,a=>by simp [B8]
 |n+1,[]=>by simp
 |n+1,v::vs=>by have:=uA n vs;simp only [List.take_succ_cons,B8];omega
theorem uz:∀ (n:Nat) (a:List j3),B8 (a.drop n)<=B8 a
 |0,a=>by simp
 |n+1,[]=>by simp
 |n+1,v::vs=>by have:=uz n vs;simp only [List.drop_succ_cons,B8];omega
theorem vI (l:List j3)(off:Nat)(vs:List j3):B8 (splice l off vs)<=max (B8 l) (B8 vs):=by
 unfold splice;rw [dA,dA];have:=uA off l;have:=uz (off+vs.length) l;omega
section
variable {P:Program} {X:Cx} {l:F2} {S:Nat->Prop} {st:F4} {a:Act} {w w' :World} {G:Gh} {I:Q9} {N:Nat->Prop} {D:Nat->Bool}
def Sn {v:j3}{cs:List j3}(hv:v.cells? =some cs){id off:Nat}{x:Value}(h:VR G I N w (.cell id off) v x) :
  x.cells.size=cs.length/\LR x.cells.toList/\∀ (i:Nat) c,cs[i]? =some c->∃ u,x.cells.toList[i]? =some u/\VR G I N w (.cell id (off+i)) c u:=by
 unfold j3.cells? at hv;split at hv
 .rename_i l'
  split at hv
  .rename_i hall
   simp at hv;subst hv;simp only [VR] at h;obtain ⟨xs,rfl,h2⟩:=h;refine ⟨by simpa [Value.cells] using H8.length _ _ h2,mb _ _ hall h2,fun i c hc=> ?_⟩;obtain ⟨u,g1,g2⟩:=H8.get _ _ h2 i c hc;exact ⟨u,g1,g2.place⟩
  .cases hv
 .split at hv
  .rename_i hone
   simp at hv;subst hv;obtain ⟨h1,h2⟩:=kM hone h;rw [h2];refine ⟨rfl,fun u hu=> ?_,fun i c hc=> ?_⟩
   .simp at hu;subst hu;exact h1
   .cases i with
    |zero=>simp at hc;subst hc;exact ⟨x,rfl,h⟩
    |succ i=>simp at hc
  .cases hv
def bE.pre {entry:Nat}{st1 st' :F4}{G1 G' :Gh}{I' :Q9}{N' :Nat->Prop}{k:Nat}{x:Value}(hx:Ext G w G1 w)(hk:∀ id off,aK (.cell id off) G w G1 w)(ho:∀ b id,G b= .obj id->G1 b= .obj id)
  (hH:st1.H=st.H) (h:bE X l S entry st1 a w G1 I N st' k x w' G' I' N'):bE X l S entry st a w G I N st' k x w' G' I' N' where
 ri:=h.ri
 val:=h.val
 ext:=hx.trans h.ext
 eE:=ki.trans (fun id _=>⟨fun b hb=>⟨ho b id hb,rfl⟩,hk id⟩) h.eE
 ko id hN ht:=by
  obtain ⟨h1,h2⟩:=h.ko id hN ht;exact ⟨h1,fun b hb=>h2 b (ho b id hb)⟩
 inj:=h.inj
 mono:=h.mono
 len:=by rw [<- hH];exact h.len
 hle id o' hb ho' :=by
  have:=h.hle id o' hb ho';rw [hH] at this;exact this
def vA {id b:Nat}{c:Array Value}{e:TypeId}{f:Nat×Nat}(hb:w.heap[b]? =some (.cells c e f))(hl:G b= .obj id){c' :Array Value}(hs:c'.size=c.size):qp id b w (w.setRow b c') G where
 jY:=hl
 os:=rfl
 tape:=rfl
 output:=rfl
 drawn:=o5 _
 size:=by simp
 other b' hne:=setRow_other w b b' c' hne
 shape c0 e0 f0 h0:=by
  rw [hb] at h0;cases h0;exact ⟨c',setRow_heap w b c c' e f hb,hs⟩
def Cp {id:Nat}{l0:List j3}{off:Nat}{cs:List j3}{c:Array Value}{e:TypeId}{f:Nat×Nat}(hN:N id)(hb:w.heap[(I id).1]? =some (.cells c e f))(EU:G (I id).1= .obj id)(hf:KI f c.size)
  (hsz:(I id).2+l0.length<=c.size) (hold:∀ (i:Nat) x,l0[i]? =some x->∃ v,c[(I id).2+i]? =some v/\VR G I N w (.cell id i) x v)
  (hfit:off+cs.length<=l0.length) {vs:List Value} (hlen:vs.length=cs.length) (hnew:∀ (i:Nat) x,cs[i]? =some x->∃ u,vs[i]? =some u/\VR G I N w (.cell id (off+i)) x u) :
  OR G I N (w.setRow (I id).1 (J4 c.toList ((I id).2+off) vs).toArray) id (.cells (splice l0 off cs)) /\
   qp id (I id).1 w (w.setRow (I id).1 (J4 c.toList ((I id).2+off) vs).toArray) G:=by
 have nM :(I id).2+off+vs.length<=c.toList.length:=by simp;omega
 have hsize:(J4 c.toList ((I id).2+off) vs).toArray.size=c.size:=by simp [jC _ _ _ nM]
 have hw:=vA (G:=G) hb EU hsize;refine ⟨?_,hw⟩;simp only [OR];refine ⟨hN,_,e,f,setRow_heap w _ c _ e f hb,EU,by rw [hsize];exact hf,by rw [hsize,Mq _ _ _ hfit];exact hsz,fun i x hx=> ?_⟩;rw [Mp _ _ _ hfit] at hx;have hg:(J4 c.toList ((I id).2+off) vs).toArray[(I id).2+i]? =(J4 c.toList ((I id).2+off) vs)[(I id).2+i]? :=by simp
 rw [hg,gw _ _ _ nM];have mono:∀ {pl:Place} {x:j3} {v:Value},VR G I N w pl x v->VR G I N (w.setRow (I id).1 (J4 c.toList ((I id).2+off) vs).toArray) pl x v :=
  fun h=>VR.mono hw.ext (fun _ _=>rfl) (fun _ h=>h) _ _ _ (Or.inr (hw.keeps _)) h
 by_cases h1:i<off
 .rw [if_pos h1] at hx
  rw [if_pos (by omega)];obtain ⟨v,g1,g2⟩:=hold i x hx;exact ⟨v,by simpa using g1,mono g2⟩
 .rw [if_neg h1] at hx
  rw [if_neg (by omega)]
  by_cases h2:i<off+cs.length
  .rw [if_pos h2] at hx
   rw [if_pos (by omega)];obtain ⟨u,g1,g2⟩:=hnew (i - off) x hx;refine ⟨u,?_,?_⟩
   .rw [show (I id).2+i - ((I id).2+off)=i - off from by omega];exact g1
   .rw [show i=off+(i - off) from by omega];exact mono g2
  .rw [if_neg h2] at hx
   rw [if_neg (by omega)];obtain ⟨v,g1,g2⟩:=hold i x hx;exact ⟨v,by simpa using g1,mono g2⟩
theorem HR.wr {H H' :q8}(hH:HR G I N w H){id off:Nat}{cs:List j3}(h:wr H id off cs=some H') :
  ∃ l0 c e f,H[id]? =some (.cells l0)/\H' =H.set id (.cells (splice l0 off cs))/\off+cs.length<=l0.length/\N id/\w.heap[(I id).1]? =some (.cells c e f)/\G (I id).1= .obj id/\KI f c.size /\
   (I id).2+l0.length<=c.size/\∀ (i:Nat) x,l0[i]? =some x->∃ v,c[(I id).2+i]? =some v/\VR G I N w (.cell id i) x v:=by
 unfold Abs.wr at h;split at h
 .rename_i l0 hl
  split at h
  .rename_i hfit
   simp at h;subst h;have ho:=hH id _ hl;simp only [OR] at ho;obtain ⟨hN,c,e,f,h1,h2,h3,h4,h5⟩:=ho;exact ⟨l0,c,e,f,hl,rfl,hfit,hN,h1,h2,h3,h4,h5⟩
  .cases h
 .cases h
def yU (P:Program)(ck:Operand->u9->Bool)(o:Oper)(op:z6):Bool :=
 match o.op,op with
 | .store t x y,.store n x' y' =>ck x x' &&ck y y' &&P.cellsOf t==n&&(P.info? t).isSome&&decide (0<n)
 |_,_=>false
def Qn (h:RI X l S st a w G I N)(hD:∀ j,D j=true->S j){k:Nat}(hk:¬ S k)(Z9:k<st.L.length)(entry:Nat){o:Oper}{n:Nat}{x y:u9}(hc:yU P (X.ck D) o (.store n x y)=true){E:Env}(hE:E.lim=l)
  {st' :F4} (he:Q6 E k n st (G9 st.T st.L x) y=some st'):∃ w' G',(execOp a.eval o).run P w= .ok .skip w' /\bE X l S entry st a w G I N st' k undef w' G' I N:=by
 obtain ⟨dst,cn,ty,pos,after,guard⟩:=o;cases cn<;>simp only [yU,c9,beq_iff_eq,decide_eq_true_eq] at hc<;>try (cases hc;done)
 rename_i t x' y';obtain ⟨⟨⟨⟨hx,hy⟩,hn⟩,hi⟩,hpos⟩:=hc;have h1:=h.Q0 hD _ _ hx;unfold Q6 at he;split at he
 .rename_i id off hp
  rw [hp] at h1;simp only [VR] at h1;split at he
  .rename_i cs hcs
   split at he
   .rename_i aV
    split at he
    .rename_i H' hH'
     simp at he;subst he;obtain ⟨G1,hX⟩:=h.E1 hD hy (pl:= .cell id off) (by simp);obtain ⟨c1,c2,c3⟩:=Sn hcs hX.val;obtain ⟨l0,c,e,f,g1,g2,g3,g4,g5,g6,g7,g8,g9⟩:=hX.ri.H.wr hH';obtain ⟨hO,hW⟩:=Cp g4 g5 g6 g7 g8 g9 g3 (vs:=(a.eval y').cells.toList) (by simpa using c1) c3;have hrun:(storeCells (ad (I id).1 ((I id).2+off)) (a.eval y').cells.toList).run P w= .ok () (w.setRow (I id).1 (J4 c.toList ((I id).2+off) (a.eval y').cells.toList).toArray):=by
      have:=run_storeCells_at (P:=P) (I id).1 ((I id).2+off) e f (a.eval y').cells.toList 0 c w g5 g7 (by simp;omega) c2;simpa using this
     have hs:(sizeOf t).run P w= .ok n w:=by rw [<- hn];exact run_sizeOf hi
     have hsz:¬ ((a.eval y').cells.size≠n):=by rw [c1];simp [aV.1]
     have rJ:(x9.cells (splice l0 off cs)).L7<=max (x9.cells l0).L7 (id+1)\/(l.base<=id/\l.strict<=id):=by
      rcases aV.2.2 with hb|hb
      .left
       have:=vI l0 off cs;simp only [x9.L7];omega
      .right;rw [<- hE];exact hb
     have hM:=bE.write (D1:=N) hX.ri hk (by rw [Bn];exact Z9) entry hW g1 hO (by rw [<- hE];exact aV.2.1) rJ (fun _=>Iff.rfl) (v:= .any) (x:=undef) (by simp [VR]) (.obj id::(E1 st y).2.p6) (by simp [Touch.J3]);refine ⟨w.setRow (I id).1 (J4 c.toList ((I id).2+off) (a.eval y').cells.toList).toArray,G1,?_,?_⟩
     .simp only [execOp,h1.2,Instr.storeAt,Instr.sureAddr,storeVar,Sem.run_bind,Sem.run_pure,Result.andThen_ok,hs,if_neg hsz,hrun]
     .have:=bE.pre (st:=st) hX.ext hX.keeps hX.obj (vB st y) hM
      rw [g2];exact this
    .cases he
   .cases he
  .cases he
 .cases he
end
end Go.Abs
namespace Go.Abs
variable [D5]
structure PV (X:Cx)(l6:List p9)(S:Nat->Prop)(st:F4)(a:Act)(w:World)(I:Q9):Prop where
 slot:∀ (j:Nat) ai s t d,S j->st.L[j]? ≠some (.tuple [])->l6[j]? =some ai->ai.op=z6.R2 (.slot s)->X.names[s]? =some t->(X.ops[j]?).bind (·.dst)=some d->X.names.contains d=false ->
  st.p6.any (Touch.T4 s)=false->a.tmps.getD d undef=a.tmps.getD t undef
 cell:∀ (j:Nat) ai x id off d l0,S j->st.L[j]? ≠some (.tuple [])->l6[j]? =some ai->ai.op=z6.load none x->aY st x=some (id,off)->st.H[id]? =some (.cells l0)->off<l0.length ->
  st.p6.any (Touch.bX id off)=false->(X.ops[j]?).bind (·.dst)=some d->X.names.contains d=false->w.cell? (ad (I id).1 ((I id).2+off))=some (a.tmps.getD d undef)
structure Tk (X:Cx)(l:F2)(S:Nat->Prop)(st st1:F4)(a:Act)(w:World)(G:Gh)(I:Q9)(N:Nat->Prop)(k:Nat)(v:j3)(x:Value)(G1:Gh):Prop where
 ri:RI X l S st1 a w G1 I N
 val:VR G1 I N w (.loc k) v x
 ext:Ext G w G1 w
 eE:ki l G w G1 w
 obj:∀ b id:Nat,G b= .obj id->G1 b= .obj id
 len:st1.H.length=st.H.length
 L:st1.L.length=st.L.length
 p6:∀ p,st.p6.any p=true->st1.p6.any p=true
 hle:∀ (id:Nat) (o' :x9),st1.H[id]? =some o' ->∃ o:x9,st.H[id]? =some o/\o'.L7<=o.L7
section
variable {P:Program} {X:Cx} {l:F2} {S:Nat->Prop} {st:F4} {a:Act} {w w' :World} {G:Gh} {I:Q9} {N:Nat->Prop} {D:Nat->Bool} {l6:List p9}
def qK (h:RI X l S st a w G I N)(hpv:PV X l6 S st a w I)(hT:st.T.length=X.names.length)(hD:∀ j,D j=true->S j){k:Nat}(hk:¬ S k){x:Operand}{y:u9}(hc:X.ck D x y=true){sz len:Nat}
  {cells:List Data} {st1:F4} (ht:O7 l l6 st sz y=some (len,cells,st1)):∃ G1,Tk X l S st st1 a w G I N k (.own sz len cells) (a.eval x) G1:=by
 unfold O7 at ht;split at ht
 .rename_i z len' cells'
  split at ht
  .rename_i hz
   subst hz;simp at ht;obtain ⟨rfl,rfl,rfl⟩:=ht;refine ⟨G,h,?_,Ext.refl _ _,ki.refl _ _ _,fun _ _ h=>h,rfl,rfl,fun _ h=>h,fun _ o h=>⟨o,h,o5 _⟩⟩;unfold Cx.ck at hc;split at hc
   .simp_all
   .simp_all
   .rename_i v' b heq
    cases heq;exact (cE _ _ hc).place
   all_goals simp_all
  .cases ht
 .cases ht
 .cases ht
 .rename_i j
  have ah5:∃ t,x= .tmp t/\D j=true/\(X.ops[j]?).bind (·.dst)=some t/\X.names.contains t=false:=by
   unfold Cx.ck at hc;split at hc
   .simp_all
   .rename_i t j' heq
    cases heq;simp only [c9,beq_iff_eq,o8] at hc;exact ⟨t,rfl,hc.1.1,hc.1.2,hc.2⟩
   all_goals simp_all
  obtain ⟨t,rfl,hDj,zG,Hr⟩:=ah5;have Zu:=hD j hDj;have hjk:j≠k:=by rintro rfl;exact hk Zu
  split at ht
  .rename_i z len' cells' hj
   split at ht
   .rename_i hz
    subst hz;simp at ht;obtain ⟨rfl,rfl,rfl⟩:=ht;have h1:=h.L j Zu t zG Hr;rw [ay hj] at h1;obtain ⟨G',hm,hv⟩:=iY (wC := .loc k) (by simp) h1;exact ⟨G',h.Og hj hm,hv,hm.ext,fun id _=>⟨fun b hb=>⟨hm.obj b id hb,rfl⟩,fun off=>hm.keeps _ (by simp)⟩,hm.obj,rfl,by simp,fun _ h=>h,fun _ o h=>⟨o,h,o5 _⟩⟩
   .cases ht
  .rename_i bx5 aO1 hj
   split at ht
   .rename_i ai hai
    unfold W6 at ht;split at ht
    .rename_i s hop
     split at ht
     .cases ht
     .rename_i hun
      split at ht
      .rename_i z len' cells' hs
       split at ht
       .rename_i hz
        subst hz;simp at ht;obtain ⟨rfl,rfl,rfl⟩:=ht;obtain ⟨ts,hts⟩:∃ ts,X.names[s]? =some ts:=by
         have:=r9 hs;exact ⟨_,l5 (by omega)⟩
        have h1:=h.T s ts hts;rw [ay hs] at h1;have he:=hpv.slot j ai s ts t Zu (by rw [hj];simp) hai hop hts zG Hr (by simpa using hun);obtain ⟨G',hm,hv⟩:=iY (wC := .loc k) (by simp) h1;refine ⟨G',h.Vy hs _ hm,?_,hm.ext,fun id _=>⟨fun b hb=>⟨hm.obj b id hb,rfl⟩,fun off=>hm.keeps _ (by simp)⟩,hm.obj,rfl,rfl,fun p hp=>by simp only [List.any_cons,hp,Bool.or_true],fun _ o h=>⟨o,h,o5 _⟩⟩;simp only [Act.eval,he];exact hv
       .cases ht
      .cases ht
    .rename_i x' hop
     split at ht
     .rename_i id off XL
      split at ht
      .cases ht
      .rename_i hun
       simp only [L5,o8,not_or,Bool.not_eq_true,Bool.not_eq_false] at hun;split at ht
       .rename_i cs hcs
        split at ht
        .rename_i z len' cells' Zw
         split at ht
         .rename_i hz
          subst hz;simp at ht;obtain ⟨rfl,rfl,rfl⟩:=ht;have hO:=h.H id _ hcs;simp only [OR] at hO;obtain ⟨hN,c,e,f,g1,g2,g3,g4,g5⟩:=hO
          .obtain ⟨v,e1,e2⟩:=g5 off _ Zw
           have he:=hpv.cell j ai x' id off t cs Zu (by rw [hj];simp) hai hop XL hcs (r9 Zw) hun.1 zG Hr;rw [S1 g1,e1] at he;simp at he;obtain ⟨G',hm,hv⟩:=iY (wC := .loc k) (by simp) e2;refine ⟨G',h.Vx hcs Zw _ hm,?_,hm.ext,fun id' ax9 =>⟨fun b hb=>⟨hm.obj b id' hb,rfl⟩,fun off' =>hm.keeps _ ?_⟩,hm.obj,by simp,rfl,fun p hp=>by simp only [List.any_cons,hp,Bool.or_true],fun id' o' ho' => ?_⟩
           .have e2' :a.eval (.tmp t)=v:=by simp [Act.eval,he]
            rw [e2'];exact hv
           .rintro heq
            cases heq;rw [hun.2] at ax9;cases ax9
           .by_cases hee:id' =id
            .subst hee
             simp only at ho';rw [J8 (r9 hcs)] at ho';cases ho';exact ⟨_,hcs,by simpa [x9.L7] using lD cs off _⟩
            .simp only at ho'
             rw [y9 (fun e=>hee e.symm)] at ho';exact ⟨o',ho',o5 _⟩
         .cases ht
        .cases ht
       .cases ht
     .cases ht
    .cases ht
   .cases ht
  .cases ht
def RB (P:Program)(t:TypeId):Bool :=
 match P.underlying t with
 |some (.slice _)=>true
 |some .string=>true
 |_=>false
def cK {t t2 e ty:TypeId}{i:TypeInfo}(hu:P.underlying t=some (.slice e))(hi:P.info? e=some i)(ht2:RB P t2=true)
  {base:Option Addr} {sLen sCap m:Nat} {x:Value} (hl:(Builtin.lenOf x).run P w= .ok m w) {nw:Array Value}
  (hnew:(Builtin.firstCells i.size m x).run P w= .ok nw w) (hle:sLen+m<=sCap):(Builtin.append_ #[t,t2] ty #[.slice base sLen sCap,x]).run P w =
   (match base with
    |some a=>((storeCells (a.add (sLen * i.size)) nw.toList).run P w).andThen fun _ w' => .ok (.slice base (sLen+m) sCap) w'
    |none=> .ok (.slice base (sLen+m) sCap) w):=by
 unfold RB at ht2;split at ht2
 .rename_i e2 h2
  cases base<;>simp [Builtin.append_,run_underlying hu,sizeOf,typeInfo,hi,run_underlying h2,hl,hnew,hle]
 .rename_i h2
  cases base<;>simp [Builtin.append_,run_underlying hu,sizeOf,typeInfo,hi,run_underlying h2,hl,hnew,hle]
 .cases ht2
def BS (need old:Nat)(e:TypeId)(t:Nat):need<=(Question.appendCap need old e).cut t:=by
 simp [Question.cut]
def eH {t t2 e ty:TypeId}{i:TypeInfo}{z:Value}(hu:P.underlying t=some (.slice e))(hi:P.info? e=some i)(hz:i.zero=some z)(ht2:RB P t2=true)
  {base:Option Addr} {sLen sCap m:Nat} {x:Value} (hl:(Builtin.lenOf x).run P w= .ok m w) {nw old:Array Value}
  (hnew:(Builtin.firstCells i.size m x).run P w.drew= .ok nw w.drew) (hold:(Builtin.firstCells i.size sLen (.slice base sLen sCap)).run P w.drew= .ok old w.drew) (hgt:sCap<sLen+m)
  (h63:((sLen+m:Nat):Int)<=9223372036854775807) (hfit:Builtin.nextslicecap (sLen+m) sCap * i.bytes<=281474976710656) :
  ∃ cap,sLen+m<=cap/\(Builtin.append_ #[t,t2] ty #[.slice base sLen sCap,x]).run P w =
   .ok (.slice (some (ad w.heap.size 0)) (sLen+m) cap) (w.drew.alloc (.cells (old++nw++Builtin.zeroCells z.cells (cap - (sLen+m))) e)):=by
 refine ⟨(Question.appendCap (sLen+m) sCap e).cut (w.tape w.drawn (.appendCap (sLen+m) sCap e)),BS _ _ _ _,?_⟩;have hn:¬ (sLen+m<=sCap):=by omega
 have h63' :¬ (9223372036854775807<((sLen:Int)+(m:Int))):=by omega
 have aw4 :¬ (281474976710656<Builtin.nextslicecap (sLen+m) sCap * i.bytes):=by omega
 unfold RB at ht2;split at ht2
 .rename_i e2 h2
  simp [Builtin.append_,run_underlying hu,sizeOf,typeInfo,hi,run_underlying h2,hl,hn,h63',aw4,Question.forced,hnew,hold,zeroValue,hz,newRow]
 .rename_i h2
  simp [Builtin.append_,run_underlying hu,sizeOf,typeInfo,hi,run_underlying h2,hl,hn,h63',aw4,Question.forced,hnew,hold,zeroValue,hz,newRow]
 .cases ht2
end
end Go.Abs
namespace Go.Abs
variable [D5]
section
variable {P:Program} {X:Cx} {l:F2} {S:Nat->Prop} {st:F4} {a:Act} {w w' :World} {G:Gh} {I:Q9} {N:Nat->Prop} {D:Nat->Bool} {l6:List p9}
theorem fC {w w2:World}(h:w2.heap=w.heap)(x:Addr):w2.cell? x=w.cell? x:=by simp [World.cell?,h]
def eC (x:Addr)(w:World):(loadCells x 0).run P w= .ok #[] w:=by simp [loadCells,loadCellsFrom]
def pX {H:q8}(hH:HR G I N w H){y:j3}{x:Value}(hv:VR G I N w .none y x){sz m:Nat}(hsz:0<sz){cs:List j3}(h:P6 H sz y=some (m,cs)) :
  ∃ vs:List Value,(Builtin.lenOf x).run P w= .ok m w/\(∀ w2:World,w2.heap=w.heap->(Builtin.firstCells sz m x).run P w2= .ok vs.toArray w2)/\H8 G I N w cs vs/\cs.length=m * sz:=by
 unfold P6 at h;split at h
 .rename_i len cells
  split at h
  .rename_i hl
   simp at h;obtain ⟨rfl,rfl⟩:=h;simp only [VR,DR] at hv
   rcases hv with ⟨rfl|⟨a0,rfl⟩,rfl,rfl⟩|⟨b,o,cap,rfl,h2,h3⟩
   .exact ⟨[],by simp [Builtin.lenOf],fun w2 _=>by simp [Builtin.firstCells],by simp [H8],by simp⟩
   .exact ⟨[],by simp [Builtin.lenOf],fun w2 _=>by simp [Builtin.firstCells,eC],by simp [H8],by simp⟩
   .obtain ⟨vs,g1,g2,g3⟩:=eo.vals (I:=I) (N:=N) o cells h3
    refine ⟨vs,by simp [Builtin.lenOf],fun w2 Lv=> ?_,g3,by simpa using hl⟩;have:=run_loadCells_list (P:=P) w2 (ad b o) vs (fun j v hj=>by rw [Z7,fC Lv];exact g2 j v hj);rw [g1,hl] at this;simpa [Builtin.firstCells] using this
  .cases h
 .rename_i z len cells
  split at h
  .rename_i hz
   subst hz;simp at h;obtain ⟨rfl,rfl⟩:=h;have h0:=hv.I7 (wC := .none);simp only [VR] at hv;simp only [j3.I7,VR,DR] at h0
   rcases h0 with ⟨rfl|⟨a0,rfl⟩,rfl,rfl⟩|⟨b,o,cap,rfl,h2,h3⟩
   .exact ⟨[],by simp [Builtin.lenOf],fun w2 _=>by simp [Builtin.firstCells],by simp [H8],by simp⟩
   .exact ⟨[],by simp [Builtin.lenOf],fun w2 _=>by simp [Builtin.firstCells,eC],by simp [H8],by simp⟩
   .obtain ⟨vs,g1,g2,g3⟩:=eo.vals (I:=I) (N:=N) o cells h3
    refine ⟨vs,by simp [Builtin.lenOf],fun w2 Lv=> ?_,g3,by simpa using hv.1⟩;have:=run_loadCells_list (P:=P) w2 (ad b o) vs (fun j v hj=>by rw [Z7,fC Lv];exact g2 j v hj);rw [g1,hv.1] at this;simpa [Builtin.firstCells] using this
  .cases h
 .rename_i id z lo len
  split at h
  .rename_i hz
   subst hz;split at h
   .rename_i us zJ
    simp at h;obtain ⟨rfl,rfl⟩:=h;simp only [VR] at hv;obtain ⟨_,cap,rfl,_⟩:=hv
    by_cases h0:len * z=0
    .have hlen:us=[]:=by
      unfold rd at zJ;split at zJ
      .split at zJ
       .simp [h0] at zJ;exact zJ
       .cases zJ
      .cases zJ
     subst hlen;refine ⟨[],by simp [Builtin.lenOf],fun w2 _=> ?_,by simp [H8],by simp [h0]⟩;simp [Builtin.firstCells,h0,eC]
    .obtain ⟨_,xs,g1,g2,g3,g4⟩:=hH.rd zJ (by omega)
     refine ⟨xs,by simp [Builtin.lenOf],fun w2 Lv=> ?_,R6 _ _ (by simp [g1,g2]) fun j b v hj hv=> ?_,by simpa using g2⟩
     .have:=run_loadCells_list (P:=P) w2 (ad (I id).1 ((I id).2+lo)) xs (fun j v hj=>by rw [Z7,fC Lv];exact g3 j v hj)
      rw [g1] at this;simpa [Builtin.firstCells] using this
     .simp at hj
      obtain ⟨b',hb',rfl⟩:=hj;exact (g4 j b' v hb' hv).I7
   .cases h
  .cases h
 .rename_i s
  split at h
  .rename_i hz
   subst hz;simp at h;obtain ⟨rfl,rfl⟩:=h;simp only [VR,DR] at hv;subst hv;have hsize:(⟨s.toArray⟩:ByteArray).size=s.length:=by simp [ByteArray.size]
   refine ⟨s.map fun b=> .int .u8 b.toNat,by simp [Builtin.lenOf,hsize],fun w2 _=> ?_,R6 _ _ (by simp) fun j b v hj hv=> ?_,by simp⟩
   .simp [Builtin.firstCells]
   .simp at hj hv
    obtain ⟨c,hc,rfl⟩:=hj;obtain ⟨c',qD,rfl⟩:=hv;rw [hc] at qD;cases qD;simp [VR,DR]
  .cases h
 .cases h
def Hg {b n n' :Nat}{pl:Place}(hl:G b= .grow n pl)(hn:n<=n'){c:Array Value}{e:TypeId}{f:Nat×Nat}(hb:w.heap[b]? =some (.cells c e f)){c' :Array Value}(hs:c'.size=c.size)
  (hc:∀ i,i<n->c'[i]? =c[i]?):Ext G w (fV G b (.grow n' pl)) (w.setRow b c') where
 os:=rfl
 tape:=rfl
 output:=rfl
 drawn _:=o5 _
 size:=by simp
 jj b' o hi:=by
  by_cases he:b' =b
  .subst he
   have ho:o<n:=by simpa [gJ,hl] using hi
   refine ⟨by simp [gJ];omega,?_⟩;rw [S1 (setRow_heap w b' c c' e f hb),S1 hb];exact hc o ho
  .refine ⟨by unfold gJ at hi ⊢;rw [G5 he];exact hi,?_⟩
   simp [World.cell?,setRow_other w b b' c' he]
 still b' hb' :=by
  have hne:b' ≠b:=by rintro rfl;rw [hl] at hb';rcases hb' with h|⟨m,h⟩<;>cases h
  exact ⟨G5 hne,setRow_other w b b' c' hne⟩
 shape b' c0 e0 f0 h0:=by
  by_cases he:b' =b
  .subst he
   rw [hb] at h0;cases h0;exact ⟨c',setRow_heap w b' c c' e f hb,hs⟩
  .exact ⟨c0,by rw [setRow_other w b b' c' he];exact h0,rfl⟩
def lS {b n n' :Nat}{pl q:Place}(hl:G b= .grow n pl)(hq:q≠pl)(c' :Array Value):aK q G w (fV G b (.grow n' pl)) (w.setRow b c'):=by
 intro b' m hb';have hne:b' ≠b:=by rintro rfl;rw [hl] at hb';cases hb';exact hq rfl
 exact ⟨by rw [G5 hne];exact hb',setRow_other w b b' c' hne⟩
def uO {b n n' :Nat}{pl:Place}(hl:G b= .grow n pl)(c' :Array Value)(id:Nat):∀ b',G b' = .obj id->(fV G b (.grow n' pl)) b' = .obj id/\(w.setRow b c').heap[b']? =w.heap[b']? :=by
 intro b' hb';have hne:b' ≠b:=by rintro rfl;rw [hl] at hb';cases hb'
 exact ⟨by rw [G5 hne];exact hb',setRow_other w b b' c' hne⟩
theorem bE.grow (h:RI X l S st a w G I N){k:Nat}(hk:¬ S k)(Z9:k<st.L.length)(entry:Nat){b n n' :Nat}(hl:G b= .grow n (.loc k))(hn:n<=n'){c:Array Value}{e:TypeId}{f:Nat×Nat}
  (hb:w.heap[b]? =some (.cells c e f)) {c' :Array Value} (hs:c'.size=c.size) (hc:∀ i,i<n->c'[i]? =c[i]?) {v:j3} {x:Value} (hv:VR (fV G b (.grow n' (.loc k))) I N (w.setRow b c') (.loc k) v x) :
  bE X l S entry st a w G I N (put st k v) k x (w.setRow b c') (fV G b (.grow n' (.loc k))) I N:=by
 have hx:=Hg hl hn hb hs hc;refine ⟨⟨?_,?_,?_,?_,h.U7⟩,?_,hx,fun id _=>⟨uO hl c' id,fun off=>lS hl (by simp) c'⟩,fun id _ _=>⟨rfl,uO hl c' id⟩,fun _ _ _=>rfl,fun _ h=>h,o5 _,fun _ o _ ho=>Or.inr ⟨o,ho,o5 _⟩⟩
 .intro s t ht
  exact VR.mono hx (fun _ _=>rfl) (fun _ h=>h) _ _ _ (Or.inr (lS hl (by simp) c')) (h.T s t ht)
 .intro j hj d hd hn
  have:k≠j:=by rintro rfl;exact hk hj
  simp only [Abs.put];rw [N8 _ _ _ _ _ this];exact VR.mono hx (fun _ _=>rfl) (fun _ h=>h) _ _ _ (Or.inr (lS hl (by simpa using fun e=>this e.symm) c')) (h.L j hj d hd hn)
 .intro id o ho
  exact OR.mono hx (fun _ _=>rfl) (fun _ h=>h) id o (fun hb=>uO hl c' id _ hb) (fun off=>lS hl (by simp) c') (h.H id o ho)
 .intro b' hb'
  simp at hb';have hne:b' ≠b:=by rintro rfl;have:=h.wf b' hb';rw [hl] at this;cases this
  rw [G5 hne];exact h.wf b' hb'
 .simp only [Abs.put]
  rw [M4 _ _ _ _ Z9];exact hv
theorem nA:∀ (xs:List Data),M5 (xs.map .d)=some xs
 |[]=>rfl
 |x::xs=>by simp [M5,j3.data?,nA xs]
def bE.Yi {entry:Nat}{st1 st' :F4}{G1 G' :Gh}{I' :Q9}{N' :Nat->Prop}{k:Nat}{x y:Value}{v:j3}(ht:Tk X l S st st1 a w G I N k v y G1)
  (h:bE X l S entry st1 a w G1 I N st' k x w' G' I' N'):bE X l S entry st a w G I N st' k x w' G' I' N' where
 ri:=h.ri
 val:=h.val
 ext:=ht.ext.trans h.ext
 eE:=ki.trans ht.eE h.eE
 ko id hN hh:=by
  obtain ⟨h1,h2⟩:=h.ko id hN hh;exact ⟨h1,fun b hb=>h2 b (ht.obj b id hb)⟩
 inj:=h.inj
 mono:=h.mono
 len:=by rw [<- ht.len];exact h.len
 hle id o' hb ho' :=by
  rcases h.hle id o' hb ho' with h1|⟨o,h1,h2⟩
  .exact Or.inl h1
  .obtain ⟨o2,h3,h4⟩:=ht.hle id o h1
   exact Or.inr ⟨o2,h3,B5 h2 h4⟩
def dF (P:Program)(ck:Operand->u9->Bool)(o:Oper)(op:z6):Bool :=
 match o.op,op with
 | .call ⟨.builtin .append,args,argTypes⟩,.append sz bytes _ x' y' =>
  (match args.toList,argTypes.toList with
   |[x,y],[t,t2]=>ck x x' &&ck y y' &&RB P t2&&decide (0<sz)&&(match P.underlying t with
    |some (.slice e)=>(match P.info? e with
     |some i=>i.size==sz&&i.bytes==bytes&&decide (0<bytes)&&(match i.zero with|some z=>z.cells.size==sz|none=>false)
     |none=>false)
    |_=>false)
   |_,_=>false)
 |_,_=>false
def cV {ck:Operand->u9->Bool}{o:Oper}{sz bytes:Nat}{ob:Bool}{x' y' :u9}(h:dF P ck o (.append sz bytes ob x' y')=true) :
  ∃ x y t t2 e i z,o.op= .call ⟨.builtin .append,#[x,y],#[t,t2]⟩/\ck x x' =true/\ck y y' =true/\RB P t2=true/\0<sz/\P.underlying t=some (.slice e)/\P.info? e=some i/\i.size=sz/\i.bytes=bytes/\i.zero=some z/\z.cells.size=sz/\0<bytes:=by
 unfold dF at h;split at h
 .rename_i args argTypes sz' bytes' ob' x1 y1 gL ee
  cases ee;split at h
  .rename_i x y t t2 ha ht
   simp only [c9,decide_eq_true_eq] at h;obtain ⟨⟨⟨⟨h1,h2⟩,h3⟩,h4⟩,h5⟩:=h;split at h5
   .rename_i e he
    split at h5
    .rename_i i hi
     simp only [c9,beq_iff_eq,decide_eq_true_eq] at h5;obtain ⟨⟨⟨h6,h7⟩,h9⟩,h8⟩:=h5;split at h8
     .rename_i z hz
      refine ⟨x,y,t,t2,e,i,z,?_,h1,h2,h3,h4,he,hi,h6,h7,hz,by simpa using h8,h9⟩;rw [gL];have e1:args= #[x,y]:=by apply Array.toList_inj.1;simpa using ha
      have e2:argTypes= #[t,t2]:=by apply Array.toList_inj.1;simpa using ht
      rw [e1,e2]
     .cases h8
    .cases h5
   .cases h5
  .cases h
 .cases h
end
end Go.Abs
namespace Go.Abs
variable [D5]
section
variable {P:Program} {X:Cx} {l:F2} {S:Nat->Prop} {st:F4} {a:Act} {w w' :World} {G:Gh} {I:Q9} {N:Nat->Prop} {D:Nat->Bool} {l6:List p9}
def pK {n bytes old:Nat}(h:roomFor n bytes=true)(hlt:old<n):Builtin.nextslicecap n old * bytes<=281474976710656:=by
 have h1:(2 * n+512) * bytes<=281474976710656:=by simpa [roomFor] using h
 have h2:=nextslicecap_le hlt;exact B5 (M3 _ (by omega)) h1
def yd {n bytes:Nat}(h:roomFor n bytes=true)(hb:0<bytes):((n:Nat):Int)<=9223372036854775807:=by
 have h1:(2 * n+512) * bytes<=281474976710656:=by simpa [roomFor] using h
 have h2:(2 * n+512) * 1<=(2 * n+512) * bytes:=Nat.mul_le_mul_left _ hb;omega
def Xd (hwf:WF G w){e:TypeId}{c:Array Value}(hn:iG w w' (.cells c e)){xs ys:List Data}{vo vn:List Value}(ho:H8 G I N w (xs.map .d) vo)(hy:H8 G I N w (ys.map .d) vn){rest:Array Value}
  (hc:c=vo.toArray++vn.toArray++rest) {sz n cap:Nat} (hl:(xs++ys).length=n * sz) (hcap:n<=cap) (hsz:cap * sz<=c.size) {pl:Place} (hp:pl≠ .none) :
  VR (fV G w.heap.size (.grow (n * sz) pl)) I N w' pl (.own sz n (xs++ys)) (.slice (some (ad w.heap.size 0)) n cap):=by
 refine NJ hwf hn (lz _) (nA (xs++ys)) (vs:=vo++vn) (by rw [List.map_append];exact H8.append _ _ _ _ ho hy) (fun i v hi=> ?_) hl hcap hsz hp;rw [hc];have hlt:=r9 hi;have:(vo.toArray++vn.toArray++rest)[i]? =(vo++vn++rest.toList)[i]? :=by
  rw [<- Array.getElem?_toList];simp
 rw [this,q7 hlt];exact hi
def tU (z:Array Value)(n:Nat):(Builtin.zeroCells z n).size=n * z.size:=by simp [Builtin.zeroCells]
def Lf (h:RI X l S st a w G I N)(hpv:PV X l6 S st a w I)(hT:st.T.length=X.names.length)(hD:∀ j,D j=true->S j){k:Nat}(hk:¬ S k)(Z9:k<st.L.length)(entry:Nat){o:Oper}{sz bytes:Nat}{x y:u9}
  (hc:dF P (X.ck D) o (.append sz bytes false x y)=true) {E:Env} (hE:E.lim=l) {u5:Option Nat} {st' :F4} (he:K8 E l6 u5 k sz bytes false st x (G9 st.T st.L y)=some st') :
  ∃ v w' G',(execOp a.eval o).run P w= .ok (.value v) w' /\bE X l S entry st a w G I N st' k v w' G' I N:=by
 obtain ⟨x0,y0,t,t2,e,i,z,hop,Nn,hcy,ht2,hsz,hu,hi,hsi,hbi,hz,hzs,hbp⟩:=cV hc;unfold K8 at he;rw [hE] at he;split at he
 .rename_i m cs hcs
  simp only [j5,if_false] at he;split at he
  .rename_i new hnew
   split at he
   .rename_i len cells st1 htk
    split at he
    .rename_i hroom
     simp at he;subst he;obtain ⟨vn,hl,hf,Nq,hcl⟩:=pX (P:=P) h.H (h.Q0 hD _ _ hcy) hsz hcs;obtain ⟨G1,Hh⟩:=qK h hpv hT hD hk Nn htk;have hdn:=gh cs new vn hnew Nq;have aU8 :H8 G I N w (new.map .d) vn:=by
      refine R6 _ _ (by rw [H8.length _ _ Nq,A1,hdn.1]) fun j b v hj hv=> ?_
      simp at hj;obtain ⟨b',hb',rfl⟩:=hj;obtain ⟨u,g1,g2⟩:=hdn.2 j b' hb';rw [hv] at g1;cases g1;simpa [VR] using g2
     have ai4:H8 G1 I N w (new.map .d) vn:=H8.mono Hh.ext (fun _ _=>rfl) (fun _ h=>h) _ _ aU8;have Hq:new.length=m * sz:=by rw [hdn.1,hcl]
     have qF:vn.length=m * sz:=by rw [H8.length _ _ Nq,hcl]
     have nL:(execOp a.eval o).run P w=((Builtin.append_ #[t,t2] o.type #[a.eval x0,a.eval y0]).run P w).andThen fun v w' => .ok (.value v) w' :=by
      obtain ⟨dst,cn,ty,pos,after,guard⟩:=o;simp only at hop;subst hop;simp [execOp,resolve,invoke,builtin]
     have hval:=Hh.val;simp only [VR] at hval;obtain ⟨hcells,hval⟩:=hval;subst hsi hbi;have out:∀ base sCap,a.eval x0= .slice base len sCap->sCap<len+m->(∃ vo:List Value,(∀ w2:World,w2.heap=w.heap->(Builtin.firstCells i.size len (.slice base len sCap)).run P w2= .ok vo.toArray w2)/\H8 G1 I N w (cells.map .d) vo) ->
       ∃ v w' G',(execOp a.eval o).run P w= .ok (.value v) w' /\bE X l S entry st a w G I N (put st1 k (.own i.size (len+m) (cells++new))) k v w' G' I N:=by
      rintro base sCap hx hlt ⟨vo,ho1,ZF⟩;obtain ⟨cap,hcap,hrun⟩:=eH (P:=P) (w:=w) (ty:=o.type) hu hi hz ht2 (base:=base) (sLen:=len) (sCap:=sCap) hl (hf w.drew rfl) (ho1 w.drew rfl) hlt (yd hroom.1 hbp) (pK hroom.1 hlt);have hnb:iG w (w.drew.alloc (.cells (vo.toArray++vn.toArray++Builtin.zeroCells z.cells (cap - (len+m))) e)) (.cells (vo.toArray++vn.toArray++Builtin.zeroCells z.cells (cap - (len+m))) e):=by
       have:=iG.alloc w.drew (.cells (vo.toArray++vn.toArray++Builtin.zeroCells z.cells (cap - (len+m))) e);exact ⟨this.os,this.tape,this.output,B5 (Nat.le_succ _) this.drawn,this.size,this.old,this.new⟩
      have hvo:vo.length=len * i.size:=by rw [H8.length _ _ ZF,A1,hcells]
      refine ⟨_,_,_,?_,bE.Yi Hh (bE.fresh Hh.ri hk (by rw [Hh.L];exact Z9) entry hnb (.grow ((len+m) * i.size) (.loc k)) (Xd Hh.ri.wf hnb ZF ai4 rfl ?_ hcap ?_ (by simp)))⟩
      .rw [nL,hx,hrun];rfl
      .rw [n9,hcells,Hq,Nat.add_mul]
      .simp only [Array.size_append,List.size_toArray,tU,hzs,hvo,qF]
       have:cap * i.size=(len+m) * i.size+(cap - (len+m)) * i.size:=by rw [<- Nat.add_mul];congr 1;omega
       rw [this,Nat.add_mul];omega
     rcases hval with ⟨hnil,ay1⟩|⟨_,b,off,cap,c,e',f,h1,h2,h3,h4,h5,h6,h7⟩
     .subst ay1
      have hc0:cells=[]:=by simpa using hcells
      subst hc0;have hbase:∃ base:Option Addr,a.eval x0= .slice base 0 0/\(base=none\/∃ b o,base=some (ad b o)):=by
       rcases hnil with h|⟨b,o,h⟩
       .exact ⟨none,h,Or.inl rfl⟩
       .exact ⟨_,h,Or.inr ⟨b,o,rfl⟩⟩
      obtain ⟨base,hx,hbb⟩:=hbase
      by_cases hm:m=0
      .subst hm
       have Hr:new=[]:=by simpa using Hq
       have hvv:vn=[]:=by simpa using qF
       subst Hr hvv;have hrun:=cK (P:=P) (w:=w) (ty:=o.type) hu hi ht2 (base:=base) (sLen:=0) (sCap:=0) hl (hf w rfl) (o5 _);refine ⟨.slice base 0 0,w,G1,?_,bE.Yi Hh (bE.same Hh.ri hk (by rw [Hh.L];exact Z9) entry ?_)⟩
       .rw [nL,hx,hrun]
        cases base<;>simp [storeCells]
       .simp only [VR]
        refine ⟨by simp,Or.inl ⟨?_,by simp⟩⟩
        rcases hbb with rfl|⟨b,o',rfl⟩
        .exact Or.inl rfl
        .exact Or.inr ⟨b,o',rfl⟩
      .refine out base 0 hx (by omega) ⟨[],fun w2 _=> ?_,by simp [H8]⟩
       cases base<;>simp [Builtin.firstCells,eC]
     .by_cases hfit:len+m<=cap
      .have hrun:=cK (P:=P) (w:=w) (ty:=o.type) hu hi ht2 (base:=some (ad b off)) (sLen:=len) (sCap:=cap) hl (hf w rfl) hfit
       have hsize:off+len * i.size+vn.length<=c.size:=by
        rw [qF];have:(len+m) * i.size<=cap * i.size:=M3 _ hfit;rw [Nat.add_mul] at this;omega
       have hone:LR vn:=by
        intro u hu';obtain ⟨j,hj,rfl⟩:=List.getElem_of_mem hu';have hj2:j<(new.map j3.d).length:=by rw [A1,Hq,<- qF];exact hj
        obtain ⟨u',g1,g2⟩:=H8.get _ _ ai4 j _ (l5 hj2);rw [l5 hj] at g1;cases g1;exact (kM (by simp [j3.one]) g2).1
       have hst:=run_storeCells_at (P:=P) b (off+len * i.size) e' f vn 0 c w h3 h5 (by omega) hone;simp only [Nat.add_zero] at hst;have nM :off+len * i.size+vn.length<=c.toList.length:=by simpa using hsize
       have nK :(J4 c.toList (off+len * i.size) vn).toArray.size=c.size:=by simp [jC _ _ _ nM]
       have hkeep:∀ j,j<off+len * i.size->(J4 c.toList (off+len * i.size) vn).toArray[j]? =c[j]? :=by
        intro j hj;rw [show (J4 c.toList (off+len * i.size) vn).toArray[j]? =(J4 c.toList (off+len * i.size) vn)[j]? from by simp,gw _ _ _ nM,if_pos hj];simp
       refine ⟨.slice (some (ad b off)) (len+m) cap,w.setRow b (J4 c.toList (off+len * i.size) vn).toArray,_,?_,
        bE.Yi Hh (bE.grow Hh.ri hk (by rw [Hh.L];exact Z9) entry h6 (n' :=off+(len+m) * i.size) (by rw [Nat.add_mul];omega) h3 nK hkeep ?_)⟩
       .rw [nL,h1,hrun]
        simp only [Z7,hst,Result.andThen_ok]
       .have hx:=Hg h6 (n' :=off+(len+m) * i.size) (by rw [Nat.add_mul];omega) h3 nK hkeep
        simp only [VR];refine ⟨by rw [n9,hcells,Hq,Nat.add_mul],Or.inr ⟨by simp,b,off,cap,_,e',f,rfl,hfit,setRow_heap w b c _ e' f h3,by rw [nK];exact h4,by rw [nK];exact h5,by simp,?_⟩⟩;refine yx off _ fun j d hj=> ?_
        have hjl:=r9 hj;rw [n9,hcells,Hq] at hjl;refine ⟨by simp [gJ,Nat.add_mul];omega,?_⟩;rw [S1 (setRow_heap w b c _ e' f h3),show (J4 c.toList (off+len * i.size) vn).toArray[off+j]? =(J4 c.toList (off+len * i.size) vn)[off+j]? from by simp,gw _ _ _ nM]
        by_cases No:j<len * i.size
        .rw [if_pos (by omega)]
         rw [q7 (by omega)] at hj;obtain ⟨vs,q1,q2,q3⟩:=eo.vals (I:=I) (N:=N) off cells h7;have hjv:j<vs.length:=by omega
         have q4:=q2 j _ (l5 hjv);rw [S1 h3] at q4;refine ⟨vs[j],by simpa using q4,?_⟩;obtain ⟨u,r1,r2⟩:=H8.get _ _ q3 j (.d d) (by simp [hj]);rw [l5 hjv] at r1;cases r1;simp only [VR] at r2;exact DR.mono hx.jj _ _ r2
        .rw [if_neg (by omega),if_pos (by omega)]
         rw [p7 (by omega),hcells] at hj;obtain ⟨u,r1,r2⟩:=H8.get _ _ ai4 (j - len * i.size) (.d d) (by simp [hj]);refine ⟨u,by rw [show off+j - (off+len * i.size)=j - len * i.size from by omega];exact r1,?_⟩;simp only [VR] at r2;exact DR.mono hx.jj _ _ r2
      .refine out (some (ad b off)) cap h1 (by omega) ?_
       obtain ⟨vs,q1,q2,q3⟩:=eo.vals (I:=I) (N:=N) off cells h7;refine ⟨vs,fun w2 Lv=> ?_,q3⟩;have:=run_loadCells_list (P:=P) w2 (ad b off) vs (fun j v hj=>by rw [Z7,fC Lv];exact q2 j v hj);rw [q1,hcells] at this;simpa [Builtin.firstCells] using this
    .cases he
   .cases he
  .cases he
 .cases he
end
end Go.Abs
namespace Go.Abs.Z
abbrev k (n:Int):u9:= .const (.d (.int .i64 n))
abbrev kt:u9:= .const (.d (.bool true))
abbrev kf:u9:= .const (.d (.bool false))
abbrev z0:j3:= .d (.int .i64 0)
abbrev zs:j3:= .d (.str [])
abbrev zb:j3:= .d (.bool false)
abbrev w (n:Nat):j3:= .own n 0 []
abbrev l (n:Nat):u9:= .loc n
abbrev s (n:Nat):u9:= .slot n
abbrev i0 (o:z6):p9:=⟨o,none,none,[]⟩
abbrev i1 (o:z6)(d:Nat):p9:=⟨o,some d,none,[]⟩
abbrev it (o:z6)(j:Nat):p9:=⟨o,none,some (j,true),[]⟩
abbrev if_ (o:z6)(j:Nat):p9:=⟨o,none,some (j,false),[]⟩
abbrev i3 (o:z6)(u:List Nat):p9:=⟨o,none,none,u⟩
abbrev ms (n:Nat):p9:=⟨.R2 (.slot n),none,none,[]⟩
abbrev ml (n:Nat):p9:=⟨.R2 (.loc n),none,none,[]⟩
abbrev os (a n:Nat):p9:=⟨.off a (.slot n),none,none,[]⟩
abbrev ol (a n:Nat):p9:=⟨.off a (.loc n),none,none,[]⟩
abbrev ld (n:Nat):p9:=⟨.load none (.loc n),none,none,[]⟩
abbrev sq:=s4.seq
abbrev rg:=s4.region
abbrev te:=s4.test
abbrev sk:=s4.skip
def sh (t:s8){x:s8}(h:t=x:=by dsimp only [k,kt,kf,z0,zs,zb,w,l,s,i0,i1,it,if_,i3,ms,ml,os,ol,ld,sq,rg,te,sk]):{ x:s8 // t=x }:=⟨x,h⟩
abbrev q9 (x:List p9):s4:= .region x false
abbrev jA (x:List p9):s4:= .region x true
abbrev E4 (x:List p9)(c:u9)(a b:s4):s4:= .test x false c a b
abbrev Gk (x:List p9)(c:u9)(a b:s4):s4:= .test x true c a b
abbrev F9:u9:=k 0
abbrev ig:z6:= .R2 F9
abbrev D0:u9:=l 0
abbrev kZ:z6:= .R2 D0
abbrev D6:u9:=l 1
abbrev K1:u9:=k 1
abbrev zq4:z6:= .bin .add D0 K1
abbrev J1:u9:=l 2
abbrev xO:z6:= .R2 D6
abbrev J6:u9:=l 3
abbrev Zi:z6:= .R2 (.const (w 1))
abbrev cU:z6:= .R2 (s 0)
abbrev A6:u9:=l 4
abbrev qQ:z6:= .R2 kf
abbrev Bp:s4:=q9 [i1 qQ 2]
abbrev P7:u9:=s 2
abbrev FX:z6:= .load (some 8) P7
abbrev JO:u9:= .const (.d (.int .i64 (-1)))
abbrev Jy:z6:= .R2 JO
abbrev O3:u9:=s 6
abbrev W1:u9:=s 7
abbrev RL:s4:=E4 [i0 (.bin .lss (s 8) W1)] D0 sk (.exit 0)
abbrev A3:p9:=ld 0
abbrev M7:p9:=ms 2
abbrev J5:p9:=ms 3
abbrev Zf:z6:= .len D6
abbrev U2:p9:=i0 Zf
abbrev gF:z6:= .R2 J6
abbrev xe:p9:=i1 gF 2
abbrev Ko:z6:= .bin .lss D0 F9
abbrev ug:p9:=i1 kZ 8
abbrev DK:s4:=q9 [i0 (.bin .add (s 8) K1),ug]
abbrev aq4:s4:=sq (q9 [i1 cU 6,i1 (.len O3) 7,i1 ig 8]) (.block 0 (.loop [true,false,true,false,false,false,true,true,true,false,false,false] (sq RL (sq (.block 1 (sq (q9 [i0 (.C8 1 O3 (s 8)),A3,i1 xO 3]) (sq (q9 [M7,J5,U2,i0 (.bin .add D0 J1),xe]) (E4 [M7,i0 Ko] D6 (q9 [i0 (.bad),i0 (.bad)]) sk)))) DK))))
abbrev oK:p9:=i1 ig 2
abbrev mV:s4:=q9 [oK]
abbrev s9:p9:=ms 0
abbrev JF:s4:=q9 [s9,i1 (.len D0) 4,i1 ig 5]
abbrev R4:u9:=s 5
abbrev T8:u9:=s 4
abbrev Jz:s4:=E4 [i0 (.bin .lss R4 T8)] D0 sk (.exit 0)
abbrev F5:p9:=ms 5
abbrev jc:p9:=i1 kZ 3
abbrev RM:s4:=q9 [F5,jc]
abbrev B3:p9:=ms 1
abbrev X1:p9:=ld 3
abbrev D3:u9:=l 5
abbrev kV:p9:=i1 kZ 2
abbrev xN:s4:=sq (q9 [J5,kV]) .ret
abbrev cw:p9:=i1 kZ 5
abbrev JC:s4:=q9 [i0 (.bin .add R4 K1),cw]
abbrev KA:s4:=sq (q9 [i1 Jy 2]) .ret
abbrev aq5:s4:=sq mV (sq (sq JF (.block 0 (.loop [true,true,false,false,true,true] (sq Jz (sq (.block 1 (sq RM (E4 [B3,s9,J5,i0 (.C8 1 D6 J1),X1,i0 (.bin .eql D0 A6)] D3 xN sk))) JC))))) KA)
abbrev RJ:z6:= .box (s 0)
abbrev xM:s4:=q9 [i1 qQ 1]
abbrev I8:u9:=l 6
abbrev aJ9:z6:= .bin .lss D0 J1
abbrev jf:p9:=i0 aJ9
abbrev MG:s4:=E4 [J5,s9,U2,jf] J6 sk (.exit 0)
abbrev JT:z6:= .alloc [(w 4),(w 9),(w 3),(w 6),(w 4),(w 3),(w 2),(w 3)]
abbrev FY:z6:= .load none A6
abbrev aJ4:z6:= .A2 1 1 [zs] [(0,1,I8)] false
abbrev dW:p9:=os 1 1
abbrev Q1:p9:=ml 2
abbrev V2:u9:=s 1
abbrev ua:z6:= .off 1 V2
abbrev fq:p9:=it FY 3
abbrev ad1:z6:= .pick J6 I8 kf
abbrev oL:p9:=i0 ad1
abbrev M9:u9:=l 9
abbrev tY:z6:= .load none M9
abbrev Q4:u9:=l 10
abbrev jX:u9:= .const zs
abbrev K9:u9:=l 8
abbrev Y1:u9:=l 11
abbrev X4:u9:=l 12
abbrev aJ5:s4:=sq (q9 [dW,A3,i0 (.bin .geq D6 (.const (.d (.int .i64 (-4294967296))))),Q1,it ua 3,fq,it (.bin .leq D3 (k 4294967296)) 3,oL,ml 7,it (.off 2 V2) 8,it tY 8,it (.bin .eql Q4 jX) 8,i0 (.pick K9 Y1 kf),i1 (.R2 X4) 2]) .ret
abbrev fA:p9:=os 0 1
abbrev mF:z6:= .load none D0
abbrev S8:u9:=s 3
abbrev Y5:p9:=ml 0
abbrev aK1:z6:= .bin .eql D6 F9
abbrev jK:p9:=i0 aK1
abbrev I9:u9:=l 7
abbrev cO:z6:= .R2 I9
abbrev Q8:u9:=k 2
abbrev ad2:z6:= .pick J6 I9 kf
abbrev uj:p9:=i0 ad2
abbrev mW:z6:= .R2 K9
abbrev aq6:s4:=sq (q9 [fA,i1 mF 3]) (.block 0 (E4 [i0 (.bin .eql S8 F9),Y5] D6 (sq (q9 [dW,A3,jK,Q1,it (.off 2 V2) 3,fq,it (.bin .eql D3 jX) 3,oL,i1 cO 2]) .ret) (E4 [i0 (.bin .eql S8 K1),Y5] D6 aJ5 (E4 [i0 (.bin .eql S8 Q8),Y5] D6 (sq (q9 [dW,A3,jK,Q1,it (.off 2 V2) 3,fq,it (.V4 D3) 3,it (.bin .leq I8 (k 32)) 3,uj,i1 mW 2]) .ret) sk))))
abbrev MH:z6:= .load (some 8) S8
abbrev Kk:s4:=E4 [i0 (.bin .lss (s 9) (s 8))] D0 sk (.exit 0)
abbrev aJ6:z6:= .bin .lss D0 J6
abbrev kS:z6:= .R2 K1
abbrev Zg:z6:= .len J1
abbrev X0:p9:=i0 Zg
abbrev mO:s4:=sq Bp .ret
abbrev WG:s4:=E4 [s9,i0 (.len D0),B3,X0,i0 (.bin .neq D6 J6)] A6 mO sk
abbrev aJ7:z6:= .bin .neq D0 F9
abbrev aJ8:z6:= .bin .neq D6 jX
abbrev RK:z6:= .alloc [zs,z0,zs,zs,(w 2),(w 5),(w 2),zb,(w 3)]
abbrev Kw:s4:=q9 [i0 (.bin .add (s 9) K1),i1 kZ 9]
abbrev cS:z6:= .R2 J1
abbrev jJ:p9:=i1 kZ 4
abbrev fo:u9:=k 16
abbrev aq7:s4:=sq (q9 [i0 (.bin .eql P7 (k 3)),jJ]) (.cond T8 sk (sq (q9 [i0 (.bin .eql P7 (k 9)),jJ]) (.cond T8 sk (sq (q9 [i0 (.bin .eql P7 (k 13)),jJ]) (.cond T8 sk (q9 [i0 (.bin .eql P7 fo),jJ]))))))
abbrev cT:z6:= .R2 D3
abbrev G6:p9:=ms 4
abbrev K0:p9:=ld 1
abbrev eS:p9:=i0 aJ6
abbrev qV:p9:=i0 aJ4
abbrev ab9:z6:= .append 1 16 false D0 I9
abbrev uq:p9:=i0 ab9
abbrev ud:p9:=i1 mW 3
abbrev gH:p9:=i0 zq4
abbrev oJ:p9:=i1 xO 4
abbrev Gd:s4:=q9 [G6,gH,oJ]
abbrev aq8:s4:=sq (E4 [G6,fA,K0,X0,eS] A6 sk (.exit 0)) (sq (.block 1 (q9 [J5,fA,K0,G6,i0 (.C8 4 J1 J6),ol 0 4,ld 5,qV,uq,ud])) Gd)
abbrev oI:p9:=i1 xO 5
abbrev Gc:s4:=q9 [F5,gH,oI]
abbrev aq9:s4:=sq (E4 [F5,dW,K0,X0,eS] A6 sk (.exit 2)) (sq (.block 3 (q9 [J5,dW,K0,F5,i0 (.C8 9 J1 J6),ol 0 4,ld 5,qV,uq,ud])) Gc)
abbrev Kx:z6:= .alloc [zs,z0,zs,zs,(w 1),z0,z0]
abbrev uf:p9:=i1 RJ 1
abbrev FZ:s4:=q9 [uf,i1 qQ 2]
abbrev mE:z6:= .R2 V2
abbrev Ga:s4:=q9 [J5,gH,i1 xO 3]
abbrev vE:z6:= .load none D3
abbrev eP:p9:=i1 ig 3
abbrev Cl:s4:=q9 [eP]
abbrev oQ:z6:= .load none I8
abbrev aK0:z6:= .load (some 8) V2
abbrev eX:z6:= .R2 A6
abbrev Zh:z6:= .aX D0
abbrev Ky:z6:= .R2 (.const (w 2))
abbrev BH:p9:=i1 qQ 3
abbrev gE:z6:= .R2 P7
abbrev ar0:s4:=sq (q9 [BH]) (sq (q9 [s9,B3,i0 (.bin .geq D0 D6),Q1,it cU 3,it gE 3,it (.bin .leq A6 D3) 3,oL,i1 cO 3]) .ret)
abbrev aq:p9:=ml 1
abbrev ad0:z6:= .pick J1 A6 kf
abbrev qT:p9:=i0 ad0
abbrev ar1:s4:=sq xM (sq (q9 [s9,i0 (.bin .geq D0 (.const (.d (.int .u8 97)))),aq,it cU 2,it (.bin .leq J6 (.const (.d (.int .u8 122)))) 2,qT,i1 cT 1]) .ret)
abbrev ar2:s4:=sq xM (sq (q9 [s9,i0 (.bin .geq D0 (.const (.d (.int .u8 48)))),aq,it cU 2,it (.bin .leq J6 (.const (.d (.int .u8 57)))) 2,qT,i1 cT 1]) .ret)
abbrev ar3:s4:=sq (q9 [s9,J5,i0 (.aj 5 D0 (some D6) none),i0 (.clear 5 [z0,z0,z0,z0,zb] J1)]) (sq (q9 [s9,J5,i0 (.aj 5 D0 none (some D6)),i1 cS 2]) .ret)
abbrev Ge:z6:= .R2 (.const (w 5))
abbrev MI:s4:=sq (q9 [BH]) .ret
abbrev gZ:p9:=os 0 2
abbrev JG:z6:= .len A6
abbrev qS:p9:=i0 JG
abbrev ar4:s4:=q9 [os 1 2,A3,B3,gZ,X1,qS,i0 (.bin .sub J1 D3),i0 (.C8 9 D6 I8),i0 (.load (some 9) I9),i1 RK 4,i0 (.store 9 T8 K9)]
abbrev Kz:s4:=q9 [oK,eP]
abbrev je:p9:=i1 ig 4
abbrev BI:s4:=q9 [je]
abbrev aK2:z6:= .load (some 2) D0
abbrev MJ:s4:=sq (q9 [i1 kS 2]) .ret
abbrev MK:s4:=sq (q9 [i1 kS 4]) .ret
abbrev Z6:u9:=l 13
abbrev Cm:s4:=q9 [i1 ig 5]
abbrev aK3:z6:= .bin .eql D6 Q8
abbrev Cn:s4:=q9 [i1 Zi 3]
abbrev Co:z6:= .bin .eql I8 F9
abbrev kY:z6:= .R2 I8
abbrev WM:s4:=q9 [i1 mE 7,i1 (.len W1) 8,i1 ig 9]
abbrev fu:p9:=os 0 3
abbrev kU:p9:=i1 gF 4
abbrev gG:p9:=i0 aJ7
abbrev ar5:s4:=sq (q9 [s9,fu,K0,i0 (.call 209 [D0,J1]),kU]) (E4 [G6,gG] D6 (sq (q9 [G6,kV]) .ret) sk)
abbrev aK4:z6:= .C8 1 D0 D6
abbrev RN:z6:= .A2 1 1 [z0] [(0,1,D6)] false
abbrev xP:z6:= .load none Q4
abbrev Zj:s4:=sq (q9 [i0 (.load (some 9) R4),i0 (.store 9 T8 D0)]) .ret
abbrev uc:z6:= .R2 kt
abbrev RO:s4:=sq (q9 [i1 uc 2]) .ret
abbrev ab8:z6:= .bin .eql D0 F9
abbrev bW:p9:=i0 FX
abbrev ad5:z6:= .extract J1 0
abbrev xl:p9:=i0 ad5
abbrev ad6:z6:= .extract J1 1
abbrev xk:p9:=i0 ad6
abbrev VN:s4:=q9 [bW,i0 (.call 101 [D0]),aq,xl,xk,i0 (.extract J1 2),kU,ml 4,i1 cT 5]
abbrev wR:z6:= .box V2
abbrev fm:u9:=l 16
abbrev qN:z6:= .load none fm
abbrev O4:p9:=ms 6
abbrev xg:p9:=i1 xO 6
abbrev DL:s4:=q9 [O4,gH,xg]
abbrev wS:s4:=q9 [i1 Zi 1]
abbrev oO:p9:=i0 aK4
abbrev U3:p9:=ld 2
abbrev VO:s4:=Gk [s9,J5,oO,U3,B3,J5,i0 (.C8 1 A6 D3),ld 6,i0 (.bin .neq J6 I9)] K9 mO sk
abbrev VP:s4:=q9 [M7,s9,M7,X0,i0 (.call 22 [D6,J6]),i0 (.C8 1 D0 A6),ld 5,os 3 5,i0 (.store 1 I9 I8)]
abbrev ac0:z6:= .un .not D6
abbrev ac3:z6:= .bin .gtr J1 F9
abbrev Js:z6:= .A2 2 1 [z0,z0] [(0,2,J6)] false
abbrev Jt:s4:=sq (q9 [oK,i1 kS 3]) .ret
abbrev VQ:s4:=sq (q9 [i0 (.bin .eql P7 K1),jc]) (.cond S8 sk (q9 [i0 (.bin .eql P7 Q8),jc]))
abbrev qR:p9:=i1 RJ 2
abbrev DM:s4:=q9 [qR,i1 Zi 3]
abbrev qO:z6:= .alloc [z0,z0]
abbrev wV:z6:= .R2 (k 5)
abbrev Ju:s4:=sq (q9 [i1 wV 3]) .ret
abbrev Bq:z6:= .A2 1 0 [] [] false
abbrev On:s4:=E4 [G6,s9,U2,jf] J6 sk (.exit 0)
abbrev Jv:s4:=q9 [i1 (.alloc [z0,z0,zs]) 1]
abbrev Oo:s4:=E4 [i0 (.bin .lss W1 O3)] D0 sk (.exit 0)
abbrev Jw:s4:=q9 [qR,BH]
abbrev ac4:z6:= .C8 1 D0 F9
abbrev Ot:s4:=E4 [i0 (.bin .lss O3 R4)] D0 sk (.exit 0)
abbrev ac5:z6:= .load (some 3) D0
abbrev JA:s4:=sq (q9 [s9,kV]) .ret
abbrev aO:p9:=ms 10
abbrev JB:s4:=q9 [aO,gH,i1 xO 10]
abbrev ac6:z6:= .bin .eql D6 K1
abbrev Br:z6:= .call 22 [D0,(k 3)]
abbrev kR:z6:= .R2 T8
abbrev tV:z6:= .R2 (k 3)
abbrev ac7:z6:= .un .not J1
abbrev ac8:z6:= .C8 7 D6 J1
abbrev tW:z6:= .load none K9
abbrev tX:z6:= .load none X4
abbrev DN:z6:= .append 1 8 false D0 D6
abbrev ac9:z6:= .bin .lss D0 D6
abbrev DO:z6:= .append 1 8 false D0 J1
abbrev jI:z6:= .len D3
abbrev Ou:s4:=q9 [i1 kS 3]
abbrev VS:s4:=q9 [i0 (.C8 7 R4 W1),i0 (.load (some 7) D0),i1 Kx 4,i0 (.store 7 T8 D6)]
abbrev Y0:u9:=l 15
abbrev an:u9:=l 14
abbrev mN:z6:= .R2 (s 8)
abbrev Bu:s4:=q9 [i1 ig 1]
abbrev uh:p9:=i1 kZ 7
abbrev Ov:s4:=q9 [i0 (.bin .add W1 K1),uh]
abbrev Ow:s4:=q9 [i0 (.bin .add O3 K1),i1 kZ 6]
abbrev Z5:u9:=s 10
abbrev JD:s4:=q9 [uf,i1 Zi 2]
abbrev JE:s4:=q9 [qR,eP]
abbrev Bv:z6:= .load (some 2) J1
abbrev Bw:z6:= .pick M9 X4 kf
abbrev DP:z6:= .build [z0,z0,zs] []
abbrev ad3:z6:= .C8 5 D0 D6
abbrev ad4:z6:= .C8 2 D6 J1
abbrev VT:s4:=E4 [i0 (.bin .eql P7 (k 18)),Y5] D6 (sq (q9 [i1 tV 1]) .ret) sk
abbrev Ox:z6:= .build [z0,z0] [(0,1,D0),(1,1,D6)]
abbrev oH:z6:= .R2 O3
abbrev mP:z6:= .len I8
abbrev mQ:z6:= .R2 M9
abbrev Oy:z6:= .A2 2 1 [z0,z0] [(0,2,J1)] false
abbrev tZ:s4:=sq mV .ret
abbrev JH:z6:= .R2 (.const (.d .br))
abbrev JI:z6:= .alloc [zs,(w 7),z0,z0]
abbrev JJ:s4:=q9 [i1 uc 3]
abbrev DQ:s4:=q9 [i1 ig 6]
abbrev JK:s4:=q9 [G6,jc]
abbrev DS:s4:=q9 [i1 Zi 2]
abbrev qP:z6:= .R2 S8
abbrev Bx:z6:= .C8 1 D0 J1
abbrev VU:s4:=E4 [ms 12,gG] D6 (sq (q9 [ms 12,jc]) .ret) sk
abbrev By:z6:= .load none Y1
abbrev Oz:s4:=sq (q9 [i1 qQ 4]) .ret
abbrev OA:s4:=sq (q9 [M7,i1 kZ 1]) .ret
abbrev fB:p9:=ms 11
abbrev OB:s4:=q9 [fB,gH,i1 xO 11]
abbrev DT:z6:= .bin .gtr D0 F9
abbrev DU:z6:= .bin .eql D0 K1
abbrev DW:z6:= .pick A6 I9 kf
abbrev cQ:u9:=l 17
abbrev wT:z6:= .off 1 S8
abbrev wU:z6:= .off 0 S8
abbrev Bz:z6:= .load none J1
abbrev P8:p9:=ms 7
abbrev OC:s4:=q9 [P8,gH,i1 xO 7]
abbrev T9:p9:=ms 8
abbrev OD:s4:=q9 [T9,gH,i1 xO 8]
abbrev JL:z6:= .alloc [zs,z0,(w 5)]
abbrev OE:s4:=sq (q9 [i1 tV 3]) .ret
abbrev VV:s4:=E4 [s9,i0 (.Cf false D0)] D6 (sq wS .ret) sk
abbrev OF:s4:=sq (q9 [i1 Jy 3]) .ret
abbrev OG:s4:=q9 [i1 RJ 3,je]
abbrev cR:u9:=l 18
abbrev gU:u9:=l 19
abbrev JM:s4:=q9 [i1 ig 10]
abbrev JN:z6:= .load (some 2) S8
abbrev DX:z6:= .extract A6 0
abbrev DY:z6:= .extract A6 1
abbrev VW:s4:=E4 [aO,G6,U2,jf] J6 sk (.exit 2)
abbrev VX:s4:=E4 [G6,B3,U2,jf] J6 sk (.exit 0)
abbrev BA:z6:= .off 1 P7
abbrev BB:z6:= .off 2 S8
abbrev BC:z6:= .off 4 V2
abbrev JP:s4:=q9 [i1 ig 7]
abbrev JQ:s4:=q9 [i1 Zi 4]
abbrev VY:z6:= .build [z0,z0,z0,zs,z0] [(0,1,K1),(1,3,D6)]
abbrev JR:z6:= .bin .sub I8 K1
abbrev JS:z6:= .load (some 4) R4
abbrev BD:z6:= .R2 Q8
abbrev gY:u9:=s 11
abbrev VZ:s4:=E4 [i0 (.bin .lss gY Z5)] D0 sk (.exit 2)
abbrev wW:z6:= .R2 W1
abbrev Wa:z6:= .A2 5 1 [z0,z0,z0,zs,z0] [(0,5,I8)] false
abbrev eN:u9:=l 20
abbrev Wb:z6:= .A2 5 1 [z0,z0,z0,zs,z0] [(0,5,J1)] false
abbrev Wc:s4:=q9 [i0 (.C8 1 (s 9) gY),A3,oI]
abbrev JU:z6:= .load (some 2) J6
abbrev JV:z6:= .load (some 7) J6
abbrev Wd:z6:= .A2 4 1 [zs,.P5,z0,z0] [(0,4,A6)] false
abbrev JW:z6:= .bin .eql J1 F9
abbrev JX:z6:= .bin .neq D6 F9
abbrev OH:z6:= .bin .sub D0 K1
abbrev OI:z6:= .append 2 16 false D0 D6
abbrev We:s4:=q9 [i1 cU 9,i1 (.len (s 9)) 10,i1 ig 11]
abbrev Wf:z6:= .build [(w 1),(w 1)] [(0,1,D3),(1,1,K9)]
abbrev Wg:u9:= .const (.d (.str [112,101,114,115,111,110]))
abbrev gV:u9:=l 21
abbrev gW:u9:=l 22
abbrev JY:z6:= .pick J6 D3 kf
abbrev JZ:z6:= .C8 1 D3 K1
abbrev DZ:z6:= .un .not K9
abbrev wX:z6:= .len Y1
abbrev wY:z6:= .R2 Y1
abbrev wZ:z6:= .R2 R4
abbrev kT:u9:=s 12
abbrev Wh:s4:=q9 [i0 (.bin .add kT K1),i1 kZ 12]
abbrev Wi:s4:=q9 [i0 (.bin .add (s 19) K1),i1 kZ 19]
abbrev Wj:s4:=q9 [i0 (.bin .add (s 17) K1),i1 kZ 17]
abbrev Wk:s4:=q9 [i0 (.bin .add gY K1),i1 kZ 11]
abbrev Wl:s4:=q9 [i1 cU 4,i1 (.len T8) 5,i1 ig 6]
abbrev OJ:u9:= .const (.d (.str [116]))
abbrev OK:u9:= .const (.d (.str [118]))
abbrev Wm:s4:=q9 [i1 cU 5,i1 (.len R4) 6,i1 ig 7]
abbrev Wn:s4:=q9 [i0 (.bin .add Z5 K1),i1 kZ 10]
abbrev eO:u9:=k 4
abbrev Ka:z6:= .R2 eO
abbrev BE:z6:= .aX D6
abbrev Kb:z6:= .C8 5 D0 F9
abbrev Kc:z6:= .load none an
abbrev Ke:z6:= .load none cQ
abbrev Kf:z6:= .load none gU
abbrev Wo:s4:=sq (q9 [B3,oK,jc]) .ret
abbrev Ea:s4:=sq xM .ret
abbrev Eb:s4:=sq Cl .ret
abbrev ur:p9:=i0 ab8
abbrev xh:p9:=i1 xO 2
abbrev Wp:s4:=sq (q9 [J5,ur,xh]) .ret
abbrev Ec:z6:= .off 4 O3
abbrev xb:p9:=i1 wR 3
abbrev Wq:s4:=q9 [qR,xb,i1 qQ 4]
abbrev gX:u9:=l 23
abbrev Kg:z6:= .C8 4 D6 J1
abbrev Kh:z6:= .load none I9
abbrev Wr:z6:= .build [z0,z0] [(0,1,D6),(1,1,J1)]
abbrev Ws:s4:=q9 [qR,xb,je]
abbrev OL:z6:= .bin .eql (l 24) F9
abbrev OM:z6:= .call 22 [D0,Q8]
abbrev ON:z6:= .call 22 [D6,Q8]
abbrev Ki:z6:= .extract J6 0
abbrev Kj:z6:= .extract J6 1
abbrev Wt:z6:= .A2 1 1 [(w 2)] [(0,1,D3)] false
abbrev Wu:s4:=sq (q9 [eP,i1 kS 4]) .ret
abbrev OO:s4:=q9 [i1 ig 11]
abbrev OP:z6:= .call 255 [D6,J1]
abbrev OQ:s4:=q9 [i1 Ky 4]
abbrev OS:s4:=q9 [i1 Ky 5]
abbrev OT:s4:=q9 [i1 Ge 2]
abbrev OU:z6:= .load (some 4) S8
abbrev OV:z6:= .pick Y0 kt gU
abbrev Wv:s4:=sq (q9 [i1 (.R2 (k 7)) 4]) .ret
abbrev Ww:s4:=q9 [i1 (.R2 (.const .P5)) 1]
abbrev OW:s4:=q9 [i1 ig 8]
abbrev OX:z6:= .call 54 [D0,D6]
abbrev Kl:z6:= .un .not D3
abbrev Wx:z6:= .A2 1 1 [z0] [(0,1,D3)] false
abbrev OY:z6:= .load (some 2) I8
abbrev OZ:z6:= .bin .neq I8 F9
abbrev Pa:z6:= .bin .gtr I9 F9
abbrev Pb:z6:= .load (some 2) K9
abbrev Pc:z6:= .bin .eql Y1 F9
abbrev Pd:z6:= .bin .gtr Y1 F9
abbrev Km:z6:= .un .not Y1
abbrev Pe:z6:= .load (some 2) R4
abbrev Pg:z6:= .bin .neq D3 jX
abbrev Ph:z6:= .bin .eql J1 Q8
abbrev Pj:z6:= .bin .eql D0 Q8
abbrev Kn:s4:=sq Ou .ret
abbrev Pk:z6:= .pick I9 kt an
abbrev Pn:z6:= .C8 1 W1 (s 9)
abbrev BF:z6:= .len J6
abbrev Po:z6:= .load (some 5) J1
abbrev Wy:s4:=q9 [ms 13,gH,i1 xO 13]
abbrev Pp:z6:= .load (some 5) J6
abbrev Pr:z6:= .bin .eql J6 A6
abbrev Pt:z6:= .bin .geq D0 F9
abbrev Pu:z6:= .bin .geq J1 F9
abbrev Pv:z6:= .store 1 I8 D3
abbrev Pw:z6:= .bin .add J6 I8
abbrev Px:z6:= .bin .add K1 D6
abbrev Py:z6:= .bin .add K1 J1
abbrev Pz:z6:= .bin .sub J1 K1
abbrev PA:z6:= .bin .neq D0 K1
abbrev PB:z6:= .bin .eql J1 K1
abbrev PC:z6:= .bin .lss D0 I9
abbrev PD:z6:= .pick A6 K9 kf
abbrev PE:z6:= .pick M9 Z6 kf
abbrev Wz:s4:=q9 [O4,i0 OH,xg]
abbrev Kq:z6:= .un .not J6
abbrev Kr:s4:=sq RM .ret
abbrev Ks:z6:= .off 4 P7
abbrev Kt:z6:= .off 0 T8
abbrev PF:z6:= .load none (l 26)
abbrev PG:z6:= .bin .neq D0 D6
abbrev WA:s4:=q9 [M7,gH,xh]
abbrev PI:z6:= .bin .geq D0 J6
abbrev PJ:z6:= .C8 1 D3 I8
abbrev Ed:z6:= .len I9
abbrev PK:z6:= .pick J6 kt K9
abbrev Ee:z6:= .R2 Q4
abbrev Ef:z6:= .R2 Z6
abbrev WB:s4:=q9 [i1 wR 2,BH]
abbrev PL:z6:= .store 1 J6 J1
abbrev Ku:z6:= .off 0 A6
abbrev WC:s4:=q9 [qR,i1 Ky 3]
abbrev WD:s4:=q9 [uf,i1 Ge 2]
abbrev Kv:z6:= .off 1 R4
abbrev WE:s4:=sq (q9 [i1 tV 4]) .ret
abbrev WH:s4:=sq (q9 [i1 wV 4]) .ret
abbrev WI:s4:=sq (q9 [i1 wV 5]) .ret
abbrev WJ:s4:=sq (q9 [i1 BD 1]) .ret
abbrev PM:z6:= .load none gV
abbrev PN:z6:= .load none gW
abbrev WK:s4:=sq (q9 [i1 Ka 4]) .ret
abbrev WL:s4:=sq (q9 [i1 Ka 3]) .ret
abbrev bV:p9:=i0 Zh
abbrev kW:p9:=i0 ac0
abbrev W4:p9:=ml 3
abbrev jL:p9:=i0 aJ8
abbrev jM:p9:=i0 MH
abbrev kX:p9:=i0 aK0
abbrev oM:p9:=i0 ac7
abbrev ue:p9:=i1 cS 7
abbrev oP:p9:=i0 aK2
abbrev xd:p9:=it mE 4
abbrev uk:p9:=i0 ac8
abbrev um:p9:=i0 ac4
abbrev uo:p9:=i0 ac3
abbrev mR:p9:=os 1 5
abbrev BG:p9:=if_ vE 4
abbrev qU:p9:=i0 aK3
abbrev xm:p9:=i0 ad4
abbrev xq:p9:=i0 ad3
abbrev xu:p9:=i0 ac9
abbrev xw:p9:=i0 ac6
abbrev xx:p9:=i0 ac5
def Q3 (t:s8){x:s8}(h:t=x:=by dsimp only [F9,ig,D0,kZ,D6,K1,zq4,J1,xO,J6,Zi,cU,A6,qQ,Bp,P7,FX,JO,Jy,O3,W1,RL,A3,M7,J5,Zf,U2,gF,xe,Ko,ug,DK,aq4,oK,mV,s9,JF,R4,T8,Jz,F5,jc,RM,B3,X1,D3,kV,xN,cw,JC,KA,aq5,RJ,xM,I8,aJ9,jf,MG,JT,FY,aJ4,dW,Q1,V2,ua,fq,ad1,oL,M9,tY,Q4,jX,K9,Y1,X4,aJ5,fA,mF,S8,Y5,aK1,jK,I9,cO,Q8,ad2,uj,mW,aq6,MH,Kk,aJ6,kS,Zg,X0,mO,WG,aJ7,aJ8,RK,Kw,cS,jJ,fo,aq7,cT,G6,K0,eS,qV,ab9,uq,ud,gH,oJ,Gd,aq8,oI,Gc,aq9,Kx,uf,FZ,mE,Ga,vE,eP,Cl,oQ,aK0,eX,Zh,Ky,BH,gE,ar0,aq,ad0,qT,ar1,ar2,ar3,Ge,MI,gZ,JG,qS,ar4,Kz,je,BI,aK2,MJ,MK,Z6,Cm,aK3,Cn,Co,kY,WM,fu,kU,gG,ar5,aK4,RN,xP,Zj,uc,RO,ab8,bW,ad5,xl,ad6,xk,VN,wR,fm,qN,O4,xg,DL,wS,oO,U3,VO,VP,ac0,ac3,Js,Jt,VQ,qR,DM,qO,wV,Ju,Bq,On,Jv,Oo,Jw,ac4,Ot,ac5,JA,aO,JB,ac6,Br,kR,tV,ac7,ac8,tW,tX,DN,ac9,DO,jI,Ou,VS,Y0,an,mN,Bu,uh,Ov,Ow,Z5,JD,JE,Bv,Bw,DP,ad3,ad4,VT,Ox,oH,mP,mQ,Oy,tZ,JH,JI,JJ,DQ,JK,DS,qP,Bx,VU,By,Oz,OA,fB,OB,DT,DU,DW,cQ,wT,wU,Bz,P8,OC,T9,OD,JL,OE,VV,OF,OG,cR,gU,JM,JN,DX,DY,VW,VX,BA,BB,BC,JP,JQ,VY,JR,JS,BD,gY,VZ,wW,Wa,eN,Wb,Wc,JU,JV,Wd,JW,JX,OH,OI,We,Wf,Wg,gV,gW,JY,JZ,DZ,wX,wY,wZ,kT,Wh,Wi,Wj,Wk,Wl,OJ,OK,Wm,Wn,eO,Ka,BE,Kb,Kc,Ke,Kf,Wo,Ea,Eb,ur,xh,Wp,Ec,xb,Wq,gX,Kg,Kh,Wr,Ws,OL,OM,ON,Ki,Kj,Wt,Wu,OO,OP,OQ,OS,OT,OU,OV,Wv,Ww,OW,OX,Kl,Wx,OY,OZ,Pa,Pb,Pc,Pd,Km,Pe,Pg,Ph,Pj,Kn,Pk,Pn,BF,Po,Wy,Pp,Pr,Pt,Pu,Pv,Pw,Px,Py,Pz,PA,PB,PC,PD,PE,Wz,Kq,Kr,Ks,Kt,PF,PG,WA,PI,PJ,Ed,PK,Ee,Ef,WB,PL,Ku,WC,WD,Kv,WE,WH,WI,WJ,PM,PN,WK,WL,bV,kW,W4,jL,jM,kX,oM,ue,oP,xd,uk,um,uo,mR,BG,qU,xm,xq,xu,xw,xx,q9,jA,E4,Gk,k,kt,kf,z0,zs,zb,w,l,s,i0,i1,it,if_,i3,ms,ml,os,ol,ld,sq,rg,te,sk]):{ x:s8 // t=x }:=⟨x,h⟩
end Go.Abs.Z


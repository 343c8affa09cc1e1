import Derived.Test.YtibjocmpkoepoaaGreatB4
set_option linter.all false
open Bool renaming and_eq_true → c9, false_eq_true → j5, not_eq_true' → o8, or_eq_false_iff → E6, or_eq_true → L5
open List renaming all_eq_true → L1, append_assoc → A9, drop_of_length_le → n5, getElem?_append_left → q7, getElem?_append_right → p7, getElem?_eq_getElem → l5, getElem?_eq_none → H6, map_cons → E0, mem_cons → y7, mem_singleton → s6, replicate → j4, take_of_length_le → A8
open Nat renaming ble → D9, le_of_ble_eq_true → k9, le_refl → o5, lt_or_ge → s5, mul_le_mul_right → M3
namespace Go.Abs
def xE (x:Int):List Int->List Int
 |[]=>[x]
 |y::l=>if x<=y then x::y::l else y::xE x l
def cu:List Int->List Int
 |[]=>[]
 |x::l=>xE x (cu l)
def jv :List j3->Option (List Int)
 |[]=>some []
 | .d (.int .i64 n)::r=>match jv r with
  |some xs=>some (n::xs)
  |none=>none
 |_=>none
def Df:List j3->q8->F2->Option (j3×q8)
 |[.P5,.d (.int .i64 n)],H,_=>if 0<=n/\n<=1000000 then some (.own 1 0 [],H) else none
 |_,_,_=>none
def Dg:List j3->q8->F2->Option (j3×q8)
 |[.B6 id 1 lo len],H,l=>if l.may id&&D9 len 1000000 then match rd H id lo len with
   |some vs=>match jv vs with
    |some xs=>match wr H id lo ((cu xs).map fun n=> .d (.int .i64 n)) with
     |some H1=>some (.tuple [],H1)
     |none=>none
    |none=>none
   |none=>none
  else none
 |[.d (.slice 0 _)],H,_=>some (.tuple [],H)
 |_,_,_=>none
def aU:List Int->List Int
 |[]=>[]
 |[x]=>[x]
 |x::y::l=>if x=y then aU (y::l) else x::aU (y::l)
def kO:List j3->q8->F2->Option (j3×q8)
 |[.B6 id 1 lo len],H,l=>if l.may id&&D9 len 1000000 then match rd H id lo len with
   |some vs=>match jv vs with
    |some xs=>match wr H id lo ((aU xs++j4 (xs.length - (aU xs).length) 0).map fun n=> .d (.int .i64 n)) with
     |some H1=>some (.B6 id 1 lo (aU xs).length,H1)
     |none=>none
    |none=>none
   |none=>none
  else none
 |_,_,_=>none
section
variable {A:Prog} {l:F2} {b:Nat}
variable {dr:Bool} {l6 ops:List p9} {T:List j3} {H:q8} {n:Nat} {rl:List j3} {p6:List Touch} {Q:List j3->q8->List j3->Prop}
def Ex.Vz {ops:List p9}{draw:Bool}{c:u9}{d e:s4}{T:List j3}{H:q8}{Q:F6->St->Prop}(t:Bool)
  (h:Rn A l b ops draw T H fun T' H' L=>T' =T/\H' =H/\∃ t',G9 T' L c= .d (.bool t')/\t' =t)
  (h2:t=true->Ex A l b d ⟨T,H⟩ Q) (h3:t=false->Ex A l b e ⟨T,H⟩ Q):Ex A l b (.test ops draw c d e) ⟨T,H⟩ Q:=by
 obtain ⟨r,N,⟨e1,e2,t',e3,rfl⟩,h⟩:=h;subst e1;subst e2;exact Ex.test ⟨r,N,⟨t',e3,h2,h3⟩,h⟩
def Ex.nT {c:s4}{T T2:List j3}{H:q8}{Q:F6->St->Prop}(h:Ex A l b c ⟨T2,H⟩ Q)(hT:T=T2:=by simp only [V8]<;>rfl):Ex A l b c ⟨T,H⟩ Q:=hT ▸ h
def Pf.run {f:FuncId}{af:s8}{args:List j3}{v:j3}(T:List j3)(hp:A.eF f=none)(hf:A.fn f=some af)(hn:args.length=af.nparams)
  (hT:args++j4 (af.names.length - args.length) .any=T) (h:Ex A Y8 0 af.body ⟨T,[]⟩ fun x s=>∃ w,iP af 0 (some (x,s))=some (w,[])/\w=v):Pf A f args v :=
 Pf.aB7 T hp hf hn hT (h.mono fun _ _ ⟨_,h1,h2⟩=>h2 ▸ h1)
theorem Z3 {α:Type}:∀ {l:List α} {j:Nat} {v:α},l[j]? =some v->l.set j v=l
 |[],_,_,_=>rfl
 |a::l,0,v,h=>by simp_all
 |a::l,j+1,v,h=>by simp at h;simp [Z3 h]
def Rx.Vf {pre:List j3}{op:z6}{j:Nat}{want:Bool}{u:List Nat}(h:pre[j]? =some (.tuple []))(hk:G8 ⟨T,H,pre++ .any::j4 ops.length .any,p6⟩ op=false)(ha:op.B4=false)
  (h2:Rx A l b dr l6 ops T H (pre++[.tuple []]) p6 Q):Rx A l b dr l6 (⟨op,none,some (j,want),u⟩::ops) T H pre p6 Q:=by
 refine Rx.step (N1:=0) (rs:=[]) hk ha (fun n _=> ?_) (fun rs=>by simp [K4]) h2
 grind [y8,z7,uT,put,I5,u7,G4]
instance:Inhabited Y4:=⟨⟨0,0,0,[],0⟩⟩
instance:Inhabited aJ:=⟨⟨[],0,[],[],[],0,0⟩⟩
instance:Inhabited mH:=⟨⟨[],[],0,0⟩⟩
instance:Inhabited Gp:=⟨⟨[],[]⟩⟩
instance:Inhabited BM:=⟨⟨[],0,[]⟩⟩
instance:Inhabited Vw:=⟨⟨[],0,[],[],[],[],[],false,[]⟩⟩
instance:Inhabited PU:=⟨⟨[],[],0⟩⟩
instance:Inhabited Qa:=⟨⟨[],[],0,0,0,0⟩⟩
instance:Inhabited PS:=⟨⟨[],[],0,0⟩⟩
instance:Inhabited PZ:=⟨⟨[],[],0⟩⟩
instance:Inhabited Qb:=⟨⟨[],[]⟩⟩
instance:Inhabited PO:=⟨⟨[],[],0⟩⟩
@[irreducible] def nth {α:Type} [Inhabited α] (l:List α) (i:Nat):α:=l[i]?.getD default
theorem J9 {α:Type} [Inhabited α] {l:List α}{i:Nat}(h:i<l.length):nth l i=l[i]:=by simp [nth,h]
def U9 {α:Type} [Inhabited α] (a:α)(l:List α):nth (a::l) 0=a:=by simp [nth]
def oc {α:Type} [Inhabited α] (a:α)(l:List α)(i:Nat):nth (a::l) (i+1)=nth l i:=by simp [nth]
def S3 {α:Type} [Inhabited α] {l:List α}{i:Nat}(h:i<l.length):nth l i ∈ l:=by grind [J9,List.getElem_mem]
theorem D4 {α:Type} [Inhabited α] {l:List α}{i:Nat}(h:i<l.length):l.drop i=nth l i::l.drop (i+1):=by grind [J9,List.drop_eq_getElem_cons]
def K3 {α:Type} [Inhabited α] {l:List α}{i:Nat}(h:i<l.length):l.take (i+1)=l.take i++[nth l i]:=by rw [J9 h,List.take_append_getElem]
def qM {α:Type} [Inhabited α] {l:List α}{i j:Nat}(h:j<i)(hi:i<=l.length):(l.take i).drop j=nth l j::(l.take i).drop (j+1):=by
 grind [D4,J9]
@[irreducible] def F3 (a b:Int):Bool:=decide (a<b)
@[irreducible] def aF (a b:Int):Bool:=decide (a<=b)
@[irreducible] def u0 (a b:Int):Bool:=a==b
@[irreducible] def L4 (a b:List UInt8):Bool:=a==b
theorem z8 (a b:Int):F3 a b=decide (a<b):=by unfold F3;rfl
theorem y3 (a b:Int):aF a b=decide (a<=b):=by unfold aF;rfl
theorem o9 (a b:Int):u0 a b=(a==b):=by unfold u0;rfl
theorem F8 (a b:List UInt8):L4 a b=(a==b):=by unfold L4;rfl
def C6 {a b:Int}(h:F3 a b=true):a<b:=by grind [z8]
def C5 {a b:Int}(h:F3 a b=false):b<=a:=by grind [z8]
def nV {a b:Int}(h:aF a b=true):a<=b:=by grind [y3]
def wm {a b:Int}(h:aF a b=false):b<a:=by grind [y3]
def bz {a b:Int}(h:u0 a b=true):a=b:=by grind [o9]
def GP {a b:Int}(h:u0 a b=false):a≠b:=by grind [o9]
def aH4 {a b:List UInt8}(h:L4 a b=true):a=b:=by grind [F8]
def ab4 {a b:List UInt8}(h:L4 a b=false):a≠b:=by grind [F8]
def A4 (n a b:Int):Bool:=aF a n&&aF n b
def Ry (A:Prog)(l:F2)(b:Nat)(dr:Bool)(l6 ops:List p9)(T:List j3)(H:q8)(n:Nat)(rl:List j3)(p6:List Touch)(Q:List j3->q8->List j3->Prop):Prop :=
 rl.length=n->Rx A l b dr l6 ops T H rl.reverse p6 Q
def lk (n:Nat)(rl:List j3)(j:Nat):Option j3:=match D9 (j+1) n with
 |true=>rl[n - (j+1)]?
 |false=>none
theorem gN (hn:rl.length=n)(j:Nat):rl.reverse[j]? =lk n rl j:=by
 grind [lk,k9,Nat.ble_eq_true_of_le,H6]
def opw (T:List j3)(n:Nat)(rl:List j3):u9->Option j3
 | .slot s=>T[s]?
 | .loc j=>lk n rl j
 | .const v=>some v
def Oq (T:List j3)(n:Nat)(rl:List j3)(x:u9)(v:j3):Prop:=opw T n rl x=some v/\v.I7=v
def Oq.op {x:u9}{v:j3}(h:Oq T n rl x v)(hn:rl.length=n):Op T rl.reverse x v:=by
 obtain ⟨h1,h2⟩:=h;refine ⟨?_,h2⟩;cases x with
 |slot s=>exact h1
 |loc j=>simp [opv,gN hn];exact h1
 |const u=>exact h1
def rq (T:List j3)(n:Nat)(rl:List j3):u9->j3
 | .const v=>v.MX
 |x=>((opw T n rl x).getD .any).I7
theorem Oq.rq {x:u9}{v:j3}(h:Oq T n rl x v):Abs.rq T n rl x=v:=by
 obtain ⟨h1,h2⟩:=h;cases x with
 |const u=>simp_all [opw,Option.some.injEq,Abs.rq,SE]
 |_=>grind [Abs.rq]
def Y9 (hn:rl.length=n)(m:Nat)(x:u9):Abs.G9 T (rl.reverse++ .any::j4 m .any) x=rq T n rl x:=by
 cases x with
 |slot s=>rfl
 |const v=>rfl
 |loc j =>
  grind [Abs.G9,rq,opw,gN,s5,q7,p7,H6,List.getElem?_cons_succ]
def Ry.to {v:j3}(h:Ry A l b dr l6 ops T H (n+1) (v::rl) p6 Q)(hn:rl.length=n):Rx A l b dr l6 ops T H (rl.reverse++[v]) p6 Q:=by
 have:=h (by simp [hn]);simp_all
def Rn.text {T:List j3}{H:q8}(h:Ry A l b false ops ops T H 0 [] [] Q):Rn A l b ops false T H Q:=Rn.Yl (h rfl)
def Rn.draw {T:List j3}{H:q8}(h:Ry A l b true ops ops T H 0 [] [] Q)(hp:rD ops=true:=by rfl):Rn A l b ops true T H Q:=Rn.Yk hp (h rfl)
theorem Ry.pure {op:z6}{u:List Nat}{v:j3}{rs:List Nat}(hE:op.E3=false)(hp:o6 (rq T n rl) H op=some (v,rs))
  (h2:Ry A l b dr l6 ops T H (n+1) (v::rl) p6 Q):Ry A l b dr l6 (⟨op,none,none,u⟩::ops) T H n rl p6 Q:=fun hn=>by
 refine Rx.pure (rs:=rs) hE (fun m=> ?_) (h2.to hn);rw [show Abs.G9 T (rl.reverse++ .any::j4 m .any)=rq T n rl from funext fun x=>Y9 hn m x];exact hp
def Ry.ve {op:z6}{u:List Nat}{v:j3}{rs:List Nat}{s:Nat}(hE:op.E3=false)(hp:o6 (rq T n rl) H op=some (v,rs))(hv:v.I7=v)(hm:op.B4=false)(hs:T[s]?.isSome=true)
  (h2:Ry A l b dr l6 ops (T.set s v) H (n+1) (v::rl) (.slot s::p6) Q):Ry A l b dr l6 (⟨op,some s,none,u⟩::ops) T H n rl p6 Q:=fun hn=>by
 have hs:s<T.length:=by
  simp_all
 have WQ:∀ x,op≠ .R2 x:=by
  grind [o6]
 refine Rx.step (N1:=0) (rs:=rs) ?_ hm (fun m _=> ?_) (fK s p6) (h2.to hn)
 .cases op<;>first|rfl|grind [z6.E3]
 .have h3:E5 (N7 A m l b) l6 none rl.reverse.length op ⟨T,H,rl.reverse++ .any::j4 ops.length .any,p6⟩=some (⟨T,H,rl.reverse++v::j4 ops.length .any,p6⟩,rs):=by
   have h4:o6 (Abs.G9 T (rl.reverse++ .any::j4 ops.length .any)) H op=some (v,rs):=by
    rw [show Abs.G9 T (rl.reverse++ .any::j4 ops.length .any)=rq T n rl from funext fun x=>Y9 hn _ x];exact hp
   simp_all [absurd,E5,j5,if_false,put,I5,z6.E3]
  have h5:Abs.E1 ⟨T,H,rl.reverse++v::j4 ops.length .any,p6⟩ (.loc rl.reverse.length)=(v,⟨T,H,rl.reverse++v::j4 ops.length .any,p6⟩):=by
   grind [Abs.E1,j3.I7,Abs.G9]
  simp_all [y8,z7,u7,G4,if_true]
def Ry.fork {j:Nat}{w:Bool}(h:lk n rl j=some (.d (.bool w)))(hj:D9 (j+1) n=true)(h1:w=true->Ry A l b dr l6 ops T H n (rl.set (n - (j+1)) (.d (.bool true))) p6 Q)
  (h2:w=false->Ry A l b dr l6 ops T H n (rl.set (n - (j+1)) (.d (.bool false))) p6 Q):Ry A l b dr l6 ops T H n rl p6 Q:=by
 simp [lk,hj] at h;cases w with
 |true=>simp_all [Z3]
 |false=>simp_all [Z3]
theorem DF {α:Type}{enc:α->List Data}{sz:Nat}(hs:∀ a,(enc a).length=sz):∀ (l:List α) (i:Nat),(l.flatMap enc).take (i * sz)=(l.take i).flatMap enc
 |[],i=>by simp
 |a::l,0=>by simp
 |a::l,i+1=>by
  have h1:=DF hs l i;simp_all [List.flatMap_cons,List.take_succ_cons,List.take_append,Nat.succ_mul,Nat.add_sub_cancel,A8]
theorem bG {α:Type}{enc:α->List Data}{sz:Nat}(hs:∀ a,(enc a).length=sz):∀ (l:List α),(l.flatMap enc).length=l.length * sz
 |[]=>by simp
 |a::l=>by simp [hs a,bG hs l,Nat.succ_mul,Nat.add_comm]
theorem uJ {α:Type}{enc:α->List Data}{sz:Nat}(hs:∀ a,(enc a).length=sz):∀ (l:List α) (i:Nat),(l.flatMap enc).drop (i * sz)=(l.drop i).flatMap enc
 |[],i=>by simp
 |a::l,0=>by simp
 |a::l,i+1=>by
  have h1:=uJ hs l i;simp_all [List.flatMap_cons,List.drop_succ_cons,List.drop_append,Nat.succ_mul,Nat.add_sub_cancel,List.drop_eq_nil_of_le]
def AA {α:Type}{enc:α->List Data}{sz:Nat}(hs:∀ a,(enc a).length=sz)(l:List α)(lo hi:Nat)(h1:lo<=hi)(h2:hi<=l.length) :
  Data.slice ((hi:Int) - lo).toNat (((l.flatMap enc).take (hi * sz)).drop (lo * sz))=A5 enc ((l.take hi).drop lo):=by
 simp_all [DF,uJ,A5]
def C9 {α:Type}(sz:Nat)(enc:α->List Data)(xs:List α):j3:= .own sz xs.length (xs.flatMap enc)
def Fu {j:Nat}(hn:rl.length=n)(hb:D9 (j+1) n=true)(v:j3):rl.reverse.set j v=(rl.set (n - (j+1)) v).reverse:=by
 have hb' :j+1<=rl.length:=by simp_all
 apply List.ext_getElem?;intro i
 rcases s5 i rl.length with hi|hi
 .grind
 simp_all
def Rx.Xe {pre:List j3}{j sz bytes:Nat}{y:u9}{u:List Nat}{len m:Nat}{cells new:List Data}{vy:j3}{cs:List j3}
  (hj:pre[j]? =some (.own sz len cells)) (hy:∀ m,Abs.G9 T (pre++ .any::j4 m .any) y=vy) (hc:P6 H sz vy=some (m,cs)) (hd:M5 cs=some new) (hr:roomFor (len+m) bytes=true) (h0:0<sz)
  (h2:Rx A l b dr l6 ops T H (pre.set j (.d (.slice len cells))++[.own sz (len+m) (cells++new)]) p6 Q):Rx A l b dr l6 (⟨.append sz bytes false (.loc j) y,none,none,u⟩::ops) T H pre p6 Q:=by
 have hjl:j<pre.length:=by
  grind
 have hL:∀ r:List j3,(pre++ .any::r)[j]? =some (.own sz len cells):=fun r=>by grind
 have XM:Abs.G9 T (pre++ .any::j4 ops.length .any) (.loc j)= .d (.slice len cells):=by simp [Abs.G9,hL,j3.I7]
 have hl:(pre.set j (.d (.slice len cells))).length=pre.length:=by simp
 have h4:∀ (a v:j3) (r:List j3),(pre.set j (.d (.slice len cells))++a::r).set pre.length v=pre.set j (.d (.slice len cells))++v::r:=fun a v r=>by simp_all
 refine Rx.stepG (N1:=0) (rs:=[]) hl (by simp_all [G8]) rfl (fun n _=> ?_) (fun rs=>by simp [K4]) h2;simp_all [y8,z7,E5,z6.E3,if_true,E7,K8,j5,if_false,O7,and_self,put,u7,G4]
theorem cg:∀ l:List Data,M5 (l.map .d)=some l
 |[]=>rfl
 |a::l=>by simp [M5,j3.data?,cg l]
def Ry.av0 {j s sz bytes:Nat}{y:u9}{u u' :List Nat}{d' :Option Nat}{g' :Option (Nat×Bool)}{n' len m:Nat}{cs' cells new:List Data}
  (hj:lk n rl j=some (.d (.slice n' cs'))) (ha:l6[j]? =some ⟨.R2 (.slot s),d',g',u'⟩) (ht:p6.any (Touch.T4 s)=false) (hT:T[s]? =some (.own sz len cells))
  (hy:rq T n rl y= .d (.slice m new)) (hl:new.length=m * sz) (hr:roomFor (len+m) bytes=true) (h0:0<sz)
  (h2:Ry A l b dr l6 ops (T.set s (.d (.slice len cells))) H (n+1) (.own sz (len+m) (cells++new)::rl) (.slot s::p6) Q):Ry A l b dr l6 (⟨.append sz bytes false (.loc j) y,none,none,u⟩::ops) T H n rl p6 Q:=fun hn =>
 Rx.append (vy:= .d (.slice m new)) (by rw [gN hn];exact hj) ha ht hT (fun k=>by simp_all [Y9]) (by simp_all [P6]) (cg new) hr h0 (h2.to hn)
def Ry.au9 {j sz bytes:Nat}{y:u9}{u:List Nat}{len m:Nat}{cells new:List Data}(hj:lk n rl j=some (.own sz len cells))(hb:D9 (j+1) n=true)
  (hy:rq T n rl y= .d (.slice m new)) (hl:new.length=m * sz) (hr:roomFor (len+m) bytes=true) (h0:0<sz)
  (h2:Ry A l b dr l6 ops T H (n+1) (.own sz (len+m) (cells++new)::rl.set (n - (j+1)) (.d (.slice len cells))) p6 Q):Ry A l b dr l6 (⟨.append sz bytes false (.loc j) y,none,none,u⟩::ops) T H n rl p6 Q:=fun hn=>by
 refine Rx.Xe (vy:= .d (.slice m new)) (by rw [gN hn];exact hj) (fun k=>by simp_all [Y9]) (by simp_all [P6]) (cg new) hr h0 ?_;have h3:=h2.to (by simp [hn]);simp_all [Fu]
namespace S
def nl (h:Q T H rl.reverse):Ry A l b dr l6 [] T H n rl p6 Q:=fun _=>Rx.nil h
def mv {x:u9}{v:j3}{u:List Nat}(h2:Ry A l b dr l6 ops T H (n+1) (v::rl) p6 Q)(hx:Oq T n rl x (v):=by exact ⟨rfl,rfl⟩) :
  Ry A l b dr l6 (⟨.R2 x,none,none,u⟩::ops) T H n rl p6 Q:=fun hn=>Rx.R2 (hx.op hn) (h2.to hn)
def mt {x:u9}{v:j3}{s:Nat}{T2:List j3}{u:List Nat}(hx:Oq T n rl x (v):=by exact ⟨rfl,rfl⟩)(hs:T[s]?.isSome=true:=by rfl)(hT:T.set s v=T2:=by simp only [List.set_cons_zero,List.set_cons_succ]<;>rfl)(h2:Ry A l b dr l6 ops T2 H (n+1) (v::rl) (.slot s::p6) Q) :
  Ry A l b dr l6 (⟨.R2 x,some s,none,u⟩::ops) T H n rl p6 Q:=fun hn=>Rx.aA8 (hx.op hn) hs (by rw [hT];exact h2.to hn)
theorem mo {s z n0:Nat}{cs:List Data}{u:List Nat}(h2:Ry A l b dr l6 ops T H (n+1) (.d (.slice n0 cs)::rl) p6 Q)(hx:T[s]? =some (.own z n0 cs):=by rfl) :
  Ry A l b dr l6 (⟨.R2 (.slot s),none,none,u⟩::ops) T H n rl p6 Q:=fun hn=>Rx.aj5 hx (h2.to hn)
def mw {j s z n0:Nat}{cs:List Data}{u:List Nat}{T2:List j3}(hj:lk n rl j=some (.own z n0 cs):=by rfl)(hb:D9 (j+1) n=true:=by rfl)(hs:T[s]?.isSome=true:=by rfl)(hT:T.set s (.own z n0 cs)=T2:=by simp only [List.set_cons_zero,List.set_cons_succ]<;>rfl)
  (h2:Ry A l b dr l6 ops T2 H (n+1) (.d (.slice n0 cs)::rl.set (n - (j+1)) (.d (.slice n0 cs))) (.slot s::p6) Q):Ry A l b dr l6 (⟨.R2 (.loc j),some s,none,u⟩::ops) T H n rl p6 Q:=fun hn=>by
 refine Rx.TZ (by rw [gN hn];exact hj) hs ?_;have h3:=h2.to (by simp [hn]);simp_all [Fu]
def ow {s z n0:Nat}{cs:List Data}{T2:List j3}{u:List Nat}(hs:T[s]?.isSome=true:=by rfl)(hT:T.set s (.own z n0 cs)=T2:=by simp only [List.set_cons_zero,List.set_cons_succ]<;>rfl)(h2:Ry A l b dr l6 ops T2 H (n+1) (.d (.slice n0 cs)::rl) (.slot s::p6) Q) :
  Ry A l b dr l6 (⟨.R2 (.const (.own z n0 cs)),some s,none,u⟩::ops) T H n rl p6 Q:=fun hn=>Rx.aB9 hs (by rw [hT];exact h2.to hn)
def ad {x y:u9}{c d:Int}{u:List Nat}(h2:Ry A l b dr l6 ops T H (n+1) (.d (.int .i64 (c+d))::rl) p6 Q)(hx:rq T n rl x= .d (.int .i64 c):=by rfl)(hy:rq T n rl y= .d (.int .i64 d):=by rfl)(h0: -9223372036854775808<=c+d/\c+d<9223372036854775808:=by first|omega|(simp only [A4,c9,z8,y3,o9,beq_eq_false_iff_ne,beq_iff_eq,decide_eq_true_eq,decide_eq_false_iff_not,o8,Bool.not_eq_false'] at *;omega)) :
  Ry A l b dr l6 (⟨.bin .add x y,none,none,u⟩::ops) T H n rl p6 Q:=Ry.pure (rs:=[]) rfl (by simp_all [o6,Er]) h2
def sb {x y:u9}{c d:Int}{u:List Nat}(h2:Ry A l b dr l6 ops T H (n+1) (.d (.int .i64 (c - d))::rl) p6 Q)(hx:rq T n rl x= .d (.int .i64 c):=by rfl)(hy:rq T n rl y= .d (.int .i64 d):=by rfl)(h0: -9223372036854775808<=c - d/\c - d<9223372036854775808:=by first|omega|(simp only [A4,c9,z8,y3,o9,beq_eq_false_iff_ne,beq_iff_eq,decide_eq_true_eq,decide_eq_false_iff_not,o8,Bool.not_eq_false'] at *;omega)) :
  Ry A l b dr l6 (⟨.bin .sub x y,none,none,u⟩::ops) T H n rl p6 Q:=Ry.pure (rs:=[]) rfl (by simp_all [o6,Er]) h2
def li {x y:u9}{k:IntKind}{c d:Int}{u:List Nat}(h2:Ry A l b dr l6 ops T H (n+1) (.d (.bool (F3 c d))::rl) p6 Q)(hx:rq T n rl x= .d (.int k c):=by rfl)(hy:rq T n rl y= .d (.int k d):=by rfl) :
  Ry A l b dr l6 (⟨.bin .lss x y,none,none,u⟩::ops) T H n rl p6 Q:=Ry.pure (rs:=[]) rfl (by grind [o6,J7,U4,aC,z8,y3,o9,bne]) h2
def lo {x y:u9}{k:IntKind}{c d:Int}{u:List Nat}(h2:Ry A l b dr l6 ops T H (n+1) (.d (.bool (aF c d))::rl) p6 Q)(hx:rq T n rl x= .d (.int k c):=by rfl)(hy:rq T n rl y= .d (.int k d):=by rfl) :
  Ry A l b dr l6 (⟨.bin .leq x y,none,none,u⟩::ops) T H n rl p6 Q:=Ry.pure (rs:=[]) rfl (by grind [o6,J7,U4,aC,z8,y3,o9,bne]) h2
def gi {x y:u9}{k:IntKind}{c d:Int}{u:List Nat}(h2:Ry A l b dr l6 ops T H (n+1) (.d (.bool (F3 d c))::rl) p6 Q)(hx:rq T n rl x= .d (.int k c):=by rfl)(hy:rq T n rl y= .d (.int k d):=by rfl) :
  Ry A l b dr l6 (⟨.bin .gtr x y,none,none,u⟩::ops) T H n rl p6 Q:=Ry.pure (rs:=[]) rfl (by grind [o6,J7,U4,aC,z8,y3,o9,bne]) h2
def go {x y:u9}{k:IntKind}{c d:Int}{u:List Nat}(h2:Ry A l b dr l6 ops T H (n+1) (.d (.bool (aF d c))::rl) p6 Q)(hx:rq T n rl x= .d (.int k c):=by rfl)(hy:rq T n rl y= .d (.int k d):=by rfl) :
  Ry A l b dr l6 (⟨.bin .geq x y,none,none,u⟩::ops) T H n rl p6 Q:=Ry.pure (rs:=[]) rfl (by grind [o6,J7,U4,aC,z8,y3,o9,bne]) h2
def ei {x y:u9}{k:IntKind}{c d:Int}{u:List Nat}(h2:Ry A l b dr l6 ops T H (n+1) (.d (.bool (u0 c d))::rl) p6 Q)(hx:rq T n rl x= .d (.int k c):=by rfl)(hy:rq T n rl y= .d (.int k d):=by rfl) :
  Ry A l b dr l6 (⟨.bin .eql x y,none,none,u⟩::ops) T H n rl p6 Q:=Ry.pure (rs:=[]) rfl (by grind [o6,J7,U4,aC,z8,y3,o9,bne]) h2
def ni {x y:u9}{k:IntKind}{c d:Int}{u:List Nat}(h2:Ry A l b dr l6 ops T H (n+1) (.d (.bool (!u0 c d))::rl) p6 Q)(hx:rq T n rl x= .d (.int k c):=by rfl)(hy:rq T n rl y= .d (.int k d):=by rfl) :
  Ry A l b dr l6 (⟨.bin .neq x y,none,none,u⟩::ops) T H n rl p6 Q:=Ry.pure (rs:=[]) rfl (by grind [o6,J7,U4,aC,z8,y3,o9,bne]) h2
def es {x y:u9}{c d:List UInt8}{u:List Nat}(h2:Ry A l b dr l6 ops T H (n+1) (.d (.bool (L4 c d))::rl) p6 Q)(hx:rq T n rl x= .d (.str c):=by rfl)(hy:rq T n rl y= .d (.str d):=by rfl) :
  Ry A l b dr l6 (⟨.bin .eql x y,none,none,u⟩::ops) T H n rl p6 Q:=Ry.pure (rs:=[]) rfl (by grind [o6,J7,uy,F8]) h2
theorem ns {x y:u9}{c d:List UInt8}{u:List Nat}(h2:Ry A l b dr l6 ops T H (n+1) (.d (.bool (!L4 c d))::rl) p6 Q)(hx:rq T n rl x= .d (.str c):=by rfl)(hy:rq T n rl y= .d (.str d):=by rfl) :
  Ry A l b dr l6 (⟨.bin .neq x y,none,none,u⟩::ops) T H n rl p6 Q:=Ry.pure (rs:=[]) rfl (by grind [o6,J7,uy,F8]) h2
def ng {x:u9}{t:Bool}{u:List Nat}(h2:Ry A l b dr l6 ops T H (n+1) (.d (.bool (!t))::rl) p6 Q)(hx:rq T n rl x= .d (.bool t):=by rfl) :
  Ry A l b dr l6 (⟨.un .not x,none,none,u⟩::ops) T H n rl p6 Q:=Ry.pure (rs:=[]) rfl (by grind [o6,Bc]) h2
def ln {α:Type}{enc:α->List Data}{xs:List α}{x:u9}{u:List Nat}(h2:Ry A l b dr l6 ops T H (n+1) (.d (.int .i64 (xs.length:Int))::rl) p6 Q)(hx:rq T n rl x= .d (A5 enc xs):=by rfl) :
  Ry A l b dr l6 (⟨.len x,none,none,u⟩::ops) T H n rl p6 Q:=Ry.pure (rs:=[]) rfl (by grind [o6,A5,i64]) h2
def ls {x:u9}{m:Nat}{cs:List Data}{u:List Nat}(h2:Ry A l b dr l6 ops T H (n+1) (.d (.int .i64 (m:Int))::rl) p6 Q)(hx:rq T n rl x= .d (.slice m cs):=by rfl) :
  Ry A l b dr l6 (⟨.len x,none,none,u⟩::ops) T H n rl p6 Q:=Ry.pure (rs:=[]) rfl (by grind [o6,i64]) h2
def lnT {α:Type}{enc:α->List Data}{xs:List α}{x:u9}{s:Nat}{T2:List j3}{u:List Nat}(hx:rq T n rl x= .d (A5 enc xs):=by rfl)(hs:T[s]?.isSome=true:=by rfl)(hT:T.set s (.d (.int .i64 (xs.length:Int)))=T2:=by simp only [List.set_cons_zero,List.set_cons_succ]<;>rfl)(h2:Ry A l b dr l6 ops T2 H (n+1) (.d (.int .i64 (xs.length:Int))::rl) (.slot s::p6) Q) :
  Ry A l b dr l6 (⟨.len x,some s,none,u⟩::ops) T H n rl p6 Q:=Ry.ve (v:= .d (.int .i64 (xs.length:Int))) (rs:=[]) rfl (by grind [o6,A5,i64]) rfl rfl hs (by simp_all)
def ldT {c:Data}{cs:List Data}{x:u9}{s:Nat}{T2:List j3}{u:List Nat}(hx:rq T n rl x= .S9 (c::cs):=by rfl)(hs:T[s]?.isSome=true:=by rfl)(hT:T.set s (.d c)=T2:=by simp only [List.set_cons_zero,List.set_cons_succ]<;>rfl)(h2:Ry A l b dr l6 ops T2 H (n+1) (.d c::rl) (.slot s::p6) Q) :
  Ry A l b dr l6 (⟨.load none x,some s,none,u⟩::ops) T H n rl p6 Q:=Ry.ve (v:= .d c) (rs:=[]) rfl (by grind [o6]) rfl rfl hs (by simp_all)
def lpT {v:j3}{id o:Nat}{x:u9}{s:Nat}{T2:List j3}{u:List Nat}(hx:rq T n rl x= .ptr id o:=by rfl)(hr:rd H id o 1=some [v]:=by rfl)(hv:v.I7=v:=by rfl)(hs:T[s]?.isSome=true:=by rfl)(hT:T.set s v=T2:=by simp only [List.set_cons_zero,List.set_cons_succ]<;>rfl)(h2:Ry A l b dr l6 ops T2 H (n+1) (v::rl) (.slot s::p6) Q) :
  Ry A l b dr l6 (⟨.load none x,some s,none,u⟩::ops) T H n rl p6 Q:=Ry.ve (v:=v) (rs:=[id]) rfl (by simp_all [o6]) hv rfl hs (by simp_all)
def lt {x:u9}{s:List UInt8}{u:List Nat}(h2:Ry A l b dr l6 ops T H (n+1) (.d (.int .i64 (s.length:Int))::rl) p6 Q)(hx:rq T n rl x= .d (.str s):=by rfl) :
  Ry A l b dr l6 (⟨.V4 x,none,none,u⟩::ops) T H n rl p6 Q:=Ry.pure (rs:=[]) rfl (by grind [o6,i64]) h2
def ix {α:Type} [Inhabited α] {enc:α->List Data}{xs:List α}{sz i:Nat}{x y:u9}{k:IntKind}{u:List Nat}(hx:rq T n rl x= .d (A5 enc xs):=by rfl)(hy:rq T n rl y= .d (.int k ((i:Nat):Int)):=by rfl)(hs:∀ a,(enc a).length=sz:=by intro;rfl)(hi:i<xs.length:=by first|omega|(simp only [A4,c9,z8,y3,o9,beq_eq_false_iff_ne,beq_iff_eq,decide_eq_true_eq,decide_eq_false_iff_not,o8,Bool.not_eq_false'] at *;omega))(h2:Ry A l b dr l6 ops T H (n+1) (.S9 (enc (nth xs i)++(xs.drop (i+1)).flatMap enc)::rl) p6 Q) :
  Ry A l b dr l6 (⟨.C8 sz x y,none,none,u⟩::ops) T H n rl p6 Q:=Ry.pure (rs:=[]) rfl (by
  have h3:=SL hs xs i hi;simp_all [J9,o6,A5,Int.natCast_nonneg,and_self,if_true]) h2
def ixN {α:Type} [Inhabited α] {enc:α->List Data}{xs:List α}{sz i:Nat}{x y:u9}{k:IntKind}{u:List Nat}(hx:rq T n rl x= .d (A5 enc xs):=by rfl)(hy:rq T n rl y= .d (.int k (OfNat.ofNat i)):=by rfl)(hs:∀ a,(enc a).length=sz:=by intro;rfl)(hi:i<xs.length:=by first|omega|(simp only [A4,c9,z8,y3,o9,beq_eq_false_iff_ne,beq_iff_eq,decide_eq_true_eq,decide_eq_false_iff_not,o8,Bool.not_eq_false'] at *;omega))(h2:Ry A l b dr l6 ops T H (n+1) (.S9 (enc (nth xs i)++(xs.drop (i+1)).flatMap enc)::rl) p6 Q) :
  Ry A l b dr l6 (⟨.C8 sz x y,none,none,u⟩::ops) T H n rl p6 Q:=ix hx hy hs hi h2
def ixI {α:Type} [Inhabited α] {enc:α->List Data}{xs:List α}{sz:Nat}{e:Int}{x y:u9}{k:IntKind}{u:List Nat}(i:Nat)(he:e=i:=by first|omega|(simp only [A4,c9,z8,y3,o9,beq_eq_false_iff_ne,beq_iff_eq,decide_eq_true_eq,decide_eq_false_iff_not,o8,Bool.not_eq_false'] at *;omega))(hx:rq T n rl x= .d (A5 enc xs):=by rfl)(hy:rq T n rl y= .d (.int k e):=by rfl)(hs:∀ a,(enc a).length=sz:=by intro;rfl)(hi:i<xs.length:=by first|omega|(simp only [A4,c9,z8,y3,o9,beq_eq_false_iff_ne,beq_iff_eq,decide_eq_true_eq,decide_eq_false_iff_not,o8,Bool.not_eq_false'] at *;omega))(h2:Ry A l b dr l6 ops T H (n+1) (.S9 (enc (nth xs i)++(xs.drop (i+1)).flatMap enc)::rl) p6 Q) :
  Ry A l b dr l6 (⟨.C8 sz x y,none,none,u⟩::ops) T H n rl p6 Q:=ix hx (he ▸ hy) hs hi h2
def ixZ {α:Type} [Inhabited α] {enc:α->List Data}{xs:List α}{sz:Nat}{e:Int}{x y:u9}{k:IntKind}{u:List Nat}(hx:rq T n rl x= .d (A5 enc xs):=by rfl)(hy:rq T n rl y= .d (.int k e):=by rfl)(hs:∀ a,(enc a).length=sz:=by intro;rfl)(hi:0<=e/\e<xs.length:=by first|omega|(simp only [A4,c9,z8,y3,o9,beq_eq_false_iff_ne,beq_iff_eq,decide_eq_true_eq,decide_eq_false_iff_not,o8,Bool.not_eq_false'] at *;omega))(h2:Ry A l b dr l6 ops T H (n+1) (.S9 (enc (nth xs e.toNat)++(xs.drop (e.toNat+1)).flatMap enc)::rl) p6 Q) :
  Ry A l b dr l6 (⟨.C8 sz x y,none,none,u⟩::ops) T H n rl p6 Q:=ix hx (by rw [hy,Int.toNat_of_nonneg hi.1]) hs (by omega) h2
def ld {x:u9}{c:Data}{cs:List Data}{u:List Nat}(h2:Ry A l b dr l6 ops T H (n+1) (.d c::rl) p6 Q)(hx:rq T n rl x= .S9 (c::cs):=by rfl) :
  Ry A l b dr l6 (⟨.load none x,none,none,u⟩::ops) T H n rl p6 Q:=Ry.pure (rs:=[]) rfl (by grind [o6]) h2
def le {x:u9}{cs rest:List Data}{m:Nat}{u:List Nat}(h2:Ry A l b dr l6 ops T H (n+1) (.agg (cs.map .d)::rl) p6 Q)(hx:rq T n rl x= .S9 (cs++rest):=by rfl)(hm:cs.length=m:=by rfl) :
  Ry A l b dr l6 (⟨.load (some m) x,none,none,u⟩::ops) T H n rl p6 Q:=Ry.pure (rs:=[]) rfl (by simp_all [o6]) h2
def lf {x:u9}{k:Nat}{cs:List Data}{u:List Nat}(h2:Ry A l b dr l6 ops T H (n+1) (.S9 (cs.drop k)::rl) p6 Q)(hx:rq T n rl x= .S9 cs:=by rfl) :
  Ry A l b dr l6 (⟨.off k x,none,none,u⟩::ops) T H n rl p6 Q:=Ry.pure (rs:=[]) rfl (by grind [o6]) h2
def fp {x:u9}{k id o:Nat}{u:List Nat}(h2:Ry A l b dr l6 ops T H (n+1) (.ptr id (o+k)::rl) p6 Q)(hx:rq T n rl x= .ptr id o:=by rfl) :
  Ry A l b dr l6 (⟨.off k x,none,none,u⟩::ops) T H n rl p6 Q:=Ry.pure (rs:=[]) rfl (by grind [o6]) h2
def lp {x:u9}{id o:Nat}{v:j3}{u:List Nat}(h2:Ry A l b dr l6 ops T H (n+1) (v::rl) p6 Q)(hx:rq T n rl x= .ptr id o:=by rfl)(hr:rd H id o 1=some [v]:=by rfl)(hv:v.I7=v:=by rfl) :
  Ry A l b dr l6 (⟨.load none x,none,none,u⟩::ops) T H n rl p6 Q:=Ry.pure (rs:=[id]) rfl (by simp_all [o6]) h2
def lpo {x:u9}{id o z m:Nat}{cs:List Data}{u:List Nat}(h2:Ry A l b dr l6 ops T H (n+1) (.d (.slice m cs)::rl) p6 Q)(hx:rq T n rl x= .ptr id o:=by rfl)(hr:rd H id o 1=some [.own z m cs]:=by rfl) :
  Ry A l b dr l6 (⟨.load none x,none,none,u⟩::ops) T H n rl p6 Q:=Ry.pure (rs:=[id]) rfl (by simp_all [o6,j3.I7]) h2
def lq {x:u9}{m id:Nat}{cs:List j3}{u:List Nat}(h2:Ry A l b dr l6 ops T H (n+1) (.agg cs::rl) p6 Q)(hx:rq T n rl x= .ptr id 0:=by rfl)(hr:H[id]? =some (.cells cs):=by rfl)(hm:cs.length=m:=by rfl)(hv:cs.map j3.I7=cs:=by rfl) :
  Ry A l b dr l6 (⟨.load (some m) x,none,none,u⟩::ops) T H n rl p6 Q:=Ry.pure (rs:=[id]) rfl (by simp_all [o6,rd]<;>grind) h2
def et {x:u9}{i:Nat}{vs:List j3}{v:j3}{u:List Nat}(h2:Ry A l b dr l6 ops T H (n+1) (v::rl) p6 Q)(hx:rq T n rl x= .tuple vs:=by rfl)(hv:vs[i]? =some v:=by rfl) :
  Ry A l b dr l6 (⟨.extract x i,none,none,u⟩::ops) T H n rl p6 Q:=Ry.pure (rs:=[]) rfl (by simp_all [o6]) h2
def wa {op:z6}{dst:Option Nat}{j:Nat}{want:Bool}{u:List Nat}(h2:Ry A l b dr l6 (⟨op,dst,none,u⟩::ops) T H n rl p6 Q)(h:lk n rl j=some (.d (.bool want)):=by rfl) :
  Ry A l b dr l6 (⟨op,dst,some (j,want),u⟩::ops) T H n rl p6 Q:=fun hn=>Rx.wanted (by rw [gN hn];exact h) (by simp) (h2 hn)
def sk {op:z6}{j:Nat}{want:Bool}{u:List Nat}(h2:Ry A l b dr l6 ops T H (n+1) (.tuple []::rl) p6 Q)(h:lk n rl j=some (.d (.bool (!want))):=by rfl)(hk:∀ L,G8 ⟨T,H,L,p6⟩ op=false:=by intro;rfl)(ha:op.B4=false:=by rfl) :
  Ry A l b dr l6 (⟨op,none,some (j,want),u⟩::ops) T H n rl p6 Q:=fun hn=>Rx.YL (by rw [gN hn];exact h) (by simp_all) (hk _) ha (h2.to hn)
def st {op:z6}{j:Nat}{want:Bool}{u:List Nat}(h2:Ry A l b dr l6 ops T H (n+1) (.tuple []::rl) p6 Q)(h:lk n rl j=some (.tuple []):=by rfl)(hk:∀ L,G8 ⟨T,H,L,p6⟩ op=false:=by intro;rfl)(ha:op.B4=false:=by rfl) :
  Ry A l b dr l6 (⟨op,none,some (j,want),u⟩::ops) T H n rl p6 Q:=fun hn=>Rx.Vf (by simp_all [gN]) (hk _) ha (h2.to hn)
def fk {op:z6}{dst:Option Nat}{j:Nat}{want w:Bool}{r1 r2:List j3}{u:List Nat}(h:lk n rl j=some (.d (.bool w)):=by rfl)(hj:D9 (j+1) n=true:=by rfl)(ht:rl.set (n - (j+1)) (.d (.bool true))=r1:=by simp only [Nat.reduceAdd,Nat.reduceSub,List.set_cons_zero,List.set_cons_succ]<;>rfl)(hf:rl.set (n - (j+1)) (.d (.bool false))=r2:=by simp only [Nat.reduceAdd,Nat.reduceSub,List.set_cons_zero,List.set_cons_succ]<;>rfl)(h1:w=true->Ry A l b dr l6 (⟨op,dst,some (j,want),u⟩::ops) T H n r1 p6 Q)(h2:w=false->Ry A l b dr l6 (⟨op,dst,some (j,want),u⟩::ops) T H n r2 p6 Q) :
  Ry A l b dr l6 (⟨op,dst,some (j,want),u⟩::ops) T H n rl p6 Q:=Ry.fork h hj (fun e=>by simp_all) (fun e=>by simp_all)
def pt {c x y:u9}{v:j3}{u:List Nat}(h2:Ry A l b dr l6 ops T H (n+1) (v::rl) p6 Q)(hc:rq T n rl c= .d (.bool true):=by rfl)(hx:Oq T n rl x (v):=by exact ⟨rfl,rfl⟩) :
  Ry A l b dr l6 (⟨.pick c x y,none,none,u⟩::ops) T H n rl p6 Q:=Ry.pure (rs:=[]) rfl (by simp [o6,hc,hx.rq]) h2
def pk {c x y:u9}{v:j3}{u:List Nat}(h2:Ry A l b dr l6 ops T H (n+1) (v::rl) p6 Q)(hc:rq T n rl c= .d (.bool false):=by rfl)(hy:Oq T n rl y (v):=by exact ⟨rfl,rfl⟩) :
  Ry A l b dr l6 (⟨.pick c x y,none,none,u⟩::ops) T H n rl p6 Q:=Ry.pure (rs:=[]) rfl (by simp [o6,hc,hy.rq]) h2
def bx {x:u9}{u:List Nat}{v:j3}{cs:List j3}{s id:Nat}{T2:List j3}{H2:q8}(hx:Oq T n rl x v:=by exact ⟨rfl,rfl⟩)(hc:v.cells? =some cs:=by rfl)(hs:T[s]?.isSome=true:=by rfl)
  (hi:H.length=id:=by simp only [List.length_cons,List.length_nil,Nat.reduceAdd]<;>rfl) (hT:T.set s (.ptr id 0)=T2:=by simp only [List.set_cons_zero,List.set_cons_succ]<;>rfl) (hH:H++[.cells cs]=H2:=by simp only [List.cons_append,List.nil_append]<;>rfl)
  (h2:Ry A l b false l6 ops T2 H2 (n+1) (.ptr id 0::rl) (.slot s::p6) Q):Ry A l b false l6 (⟨.box x,some s,none,u⟩::ops) T H n rl p6 Q:=fun hn=>by
 subst hi;exact Rx.av2 (hx.op hn) hc hs (by rw [hT,hH];exact h2.to hn)
def ac {zero:List j3}{u:List Nat}{s id:Nat}{T2:List j3}{H2:q8}(hs:T[s]?.isSome=true:=by rfl)
  (hi:H.length=id:=by simp only [List.length_cons,List.length_nil,Nat.reduceAdd]<;>rfl) (hT:T.set s (.ptr id 0)=T2:=by simp only [List.set_cons_zero,List.set_cons_succ]<;>rfl) (hH:H++[.cells zero]=H2:=by simp only [List.cons_append,List.nil_append]<;>rfl)
  (h2:Ry A l b false l6 ops T2 H2 (n+1) (.ptr id 0::rl) (.slot s::p6) Q):Ry A l b false l6 (⟨.alloc zero,some s,none,u⟩::ops) T H n rl p6 Q:=fun hn=>by
 have hs:s<T.length:=by
  simp_all
 have h2:=h2.to hn;refine Rx.stepT (N1:=0) (rs:=[]) rfl (fun n _=> ?_) h2;simp_all [y8,z7,E5,z6.E3,if_true,E7,F0,newId,Option.getD_none,put,I5,u7,G4,Abs.E1,Abs.G9,j3.I7]
def pY {m id off:Nat}{x y:u9}{u:List Nat}{v:j3}{cs:List j3}{H2:q8}(hy:rq T n rl y= .ptr id off)(hx:Oq T n rl x v)(hc:v.cells? =some cs)(hm:cs.length=m)(hl:l.may id=true)(hb:B8 cs<=id+1)
  (hw:wr H id off cs=some H2) (h2:Ry A l b false l6 ops T H2 (n+1) (.any::rl) (.obj id::p6) Q):Ry A l b false l6 (⟨.store m y x,none,none,u⟩::ops) T H n rl p6 Q:=fun hn=>by
 refine Rx.stepT (N1:=0) (rs:=[]) rfl (fun k _=> ?_) (h2.to hn);have hl' :(N7 A k l b).lim.may id=true:=hl;simp [y8,z7,E5,z6.E3,if_true,E7,Y9 hn,hy,Q6,(hx.op hn).E1,hc,hm,hl',hb,true_or,and_self,hw,put,I5,u7,G4]
def so {m id:Nat}{x y:u9}{u:List Nat}{v:j3}{cs old:List j3}{H2:q8}(hy:rq T n rl y= .ptr id 0:=by rfl)(hx:Oq T n rl x v:=by exact ⟨rfl,rfl⟩)(hc:v.cells? =some cs:=by rfl)(hm:cs.length=m:=by rfl)(hl:l.may id=true:=by rfl)(hb:B8 cs=0:=by rfl)
  (ho:H[id]? =some (.cells old):=by rfl) (hq:old.length=m:=by rfl) (hH:H.set id (.cells cs)=H2:=by simp only [List.set_cons_zero,List.set_cons_succ]<;>rfl)
  (h2:Ry A l b false l6 ops T H2 (n+1) (.any::rl) (.obj id::p6) Q):Ry A l b false l6 (⟨.store m y x,none,none,u⟩::ops) T H n rl p6 Q :=
 pY hy hx hc hm hl (by omega) (by simp_all [wr,splice,n5]) h2
def Mx {m id off:Nat}{x y:u9}{u:List Nat}{v:j3}{cs:List j3}{H2:q8}(hd:D9 (uB l6) n=true)(hy:rq T n rl y= .ptr id off)(hx:Oq T n rl x v)(hc:v.cells? =some cs)(hm:cs.length=m)(hl:l.may id=true)(hb:B8 cs<=id+1)
  (hw:wr H id off cs=some H2) (h2:Ry A l b dr l6 ops T H2 (n+1) (.any::rl) (.obj id::p6) Q):Ry A l b dr l6 (⟨.store m y x,none,none,u⟩::ops) T H n rl p6 Q:=fun hn=>by
 refine Rx.IY (N1:=0) (rs:=[]) rfl rfl rfl (fun k _=> ?_) (fun h=> ?_) (h2.to hn)
 .have hl' :(N7 A k l b).lim.may id=true:=hl
  simp [y8,z7,E5,z6.E3,if_true,E7,Y9 hn,hy,Q6,(hx.op hn).E1,hc,hm,hl',hb,true_or,and_self,hw,put,I5,u7,G4]
 simp_all<;>omega
def so1 {id off:Nat}{x y:u9}{u:List Nat}{v:j3}{old new:List j3}{H2:q8}(hy:rq T n rl y= .ptr id off:=by rfl)(hx:Oq T n rl x v:=by exact ⟨rfl,rfl⟩)(hc:v.cells? =some [v]:=by rfl)(hl:l.may id=true:=by rfl)(hb:v.L7<=id+1:=by decide)
  (ho:H[id]? =some (.cells old):=by rfl) (hq:off<old.length:=by decide) (hN:old.set off v=new:=by first|(simp only [List.set_cons_zero,List.set_cons_succ];done)|rfl) (hH:H.set id (.cells new)=H2:=by simp only [List.set_cons_zero,List.set_cons_succ]<;>rfl)
  (h2:Ry A l b false l6 ops T H2 (n+1) (.any::rl) (.obj id::p6) Q):Ry A l b false l6 (⟨.store 1 y x,none,none,u⟩::ops) T H n rl p6 Q :=
 pY hy hx hc rfl hl (by simp_all [B8]) (by
  have h1:splice old off [v]=old.set off v:=by
   simp_all [splice,List.length_singleton,List.set_eq_take_append_cons_drop,if_pos]
  grind [wr]) h2
def o1 {x:u9}{z c:Data}{u:List Nat}(h2:Ry A l b dr l6 ops T H (n+1) (.own 1 1 [c]::rl) p6 Q)(hx:rq T n rl x= .d c:=by rfl) :
  Ry A l b dr l6 (⟨.A2 1 1 [.d z] [(0,1,x)] false,none,none,u⟩::ops) T H n rl p6 Q:=Ry.pure (rs:=[]) rfl (by simp [o6,bA,hx,j3.cells?,splice,M5,j3.data?,j3.one]) h2
def ap1 {α:Type}{enc:α->List Data}{xs:List α}{j s bytes n' :Nat}{y:u9}{u' :List Nat}{d' :Option Nat}{g' :Option (Nat×Bool)}{cs' :List Data}{T2:List j3}{a:α}{c:Data}{u:List Nat}(hj:lk n rl j=some (.d (.slice n' cs')):=by rfl)(ha:l6[j]? =some ⟨.R2 (.slot s),d',g',u'⟩:=by rfl)(ht:p6.any (Touch.T4 s)=false:=by rfl)(hT:T[s]? =some (C9 1 enc xs):=by rfl)(hy:rq T n rl y= .d (.slice 1 [c]):=by rfl)(he:enc a=[c]:=by rfl)(hr:roomFor (xs.length+1) bytes=true:=by simp only [roomFor,decide_eq_true_eq,List.length_append,List.length_cons,List.length_nil,List.length_take,List.length_drop,List.length_map] at *<;>omega)(hS:T.set s (.d (A5 enc xs))=T2:=by simp only [List.set_cons_zero,List.set_cons_succ]<;>rfl)(h2:Ry A l b dr l6 ops T2 H (n+1) (C9 1 enc (xs++[a])::rl) (.slot s::p6) Q) :
  Ry A l b dr l6 (⟨.append 1 bytes false (.loc j) y,none,none,u⟩::ops) T H n rl p6 Q:=Ry.av0 hj ha ht hT hy rfl hr (by decide) (by
  simp_all [C9,A5])
def apN {α:Type}{enc:α->List Data}{xs:List α}{j s sz bytes n' :Nat}{y:u9}{u' :List Nat}{d' :Option Nat}{g' :Option (Nat×Bool)}{cs' :List Data}{T2:List j3}{ys:List α}{u:List Nat}(hj:lk n rl j=some (.d (.slice n' cs')):=by rfl)(ha:l6[j]? =some ⟨.R2 (.slot s),d',g',u'⟩:=by rfl)(ht:p6.any (Touch.T4 s)=false:=by rfl)(hT:T[s]? =some (C9 sz enc xs):=by rfl)(hy:rq T n rl y= .d (A5 enc ys):=by rfl)(hs:∀ a,(enc a).length=sz:=by intro;rfl)(h0:0<sz:=by decide)(hr:roomFor (xs.length+ys.length) bytes=true:=by simp only [roomFor,decide_eq_true_eq,List.length_append,List.length_cons,List.length_nil,List.length_take,List.length_drop,List.length_map] at *<;>omega)(hS:T.set s (.d (A5 enc xs))=T2:=by simp only [List.set_cons_zero,List.set_cons_succ]<;>rfl)(h2:Ry A l b dr l6 ops T2 H (n+1) (C9 sz enc (xs++ys)::rl) (.slot s::p6) Q) :
  Ry A l b dr l6 (⟨.append sz bytes false (.loc j) y,none,none,u⟩::ops) T H n rl p6 Q:=Ry.av0 hj ha ht hT hy (bG hs ys) hr h0 (by
  simp_all [C9,A5])
def alN {α:Type}{enc:α->List Data}{xs:List α}{j sz bytes:Nat}{y:u9}{r2:List j3}{ys:List α}{u:List Nat}(hj:lk n rl j=some (C9 sz enc xs):=by rfl)(hb:D9 (j+1) n=true:=by rfl)(hy:rq T n rl y= .d (A5 enc ys):=by rfl)(hs:∀ a,(enc a).length=sz:=by intro;rfl)(h0:0<sz:=by decide)(hr:roomFor (xs.length+ys.length) bytes=true:=by simp only [roomFor,decide_eq_true_eq,List.length_append,List.length_cons,List.length_nil,List.length_take,List.length_drop,List.length_map] at *<;>omega)(hS:rl.set (n - (j+1)) (.d (A5 enc xs))=r2:=by simp only [Nat.reduceAdd,Nat.reduceSub,List.set_cons_zero,List.set_cons_succ]<;>rfl)(h2:Ry A l b dr l6 ops T H (n+1) (C9 sz enc (xs++ys)::r2) p6 Q) :
  Ry A l b dr l6 (⟨.append sz bytes false (.loc j) y,none,none,u⟩::ops) T H n rl p6 Q:=Ry.au9 hj hb hy (bG hs ys) hr h0 (by
  simp_all [C9,A5])
def e0 {u:List Nat}(h2:Ry A l b dr l6 ops T H (n+1) (.own 1 0 []::rl) p6 Q) :
  Ry A l b dr l6 (⟨.A2 1 0 [] [] false,none,none,u⟩::ops) T H n rl p6 Q:=Ry.pure (rs:=[]) rfl (by rfl) h2
def cl {f:FuncId}{xs:List u9}{u:List Nat}{v:j3}{args:List j3}(hc:Pf A f args v)(h2:Ry A l b dr l6 ops T H (n+1) (v::rl) p6 Q)(ha:xs.map (rq T n rl)=args:=by rfl)(gI:A.prom f=false:=by rfl)(hm:A.mode f=1:=by rfl)
  (hb:B8 args=0:=by rfl):Ry A l b dr l6 (⟨.call f xs,none,none,u⟩::ops) T H n rl p6 Q:=fun hn =>
 Rx.call gI hm (fun m=>by rw [show Abs.G9 T (rl.reverse++ .any::j4 m .any)=rq T n rl from funext fun x=>Y9 hn m x];exact ha) hb hc (h2.to hn)
def uw {zero:List j3}{parts:List (Nat×Nat×u9)}{cs:List j3}{u:List Nat}(h2:Ry A l b dr l6 ops T H (n+1) (.agg cs::rl) p6 Q)(hr:bA zero (parts.map fun p=>(p.1,p.2.1,rq T n rl p.2.2))=some cs:=by rfl) :
  Ry A l b dr l6 (⟨.build zero parts,none,none,u⟩::ops) T H n rl p6 Q:=Ry.pure (rs:=[]) rfl (by grind [o6]) h2
def xs {s:List UInt8}{i:Nat}{x y:u9}{k:IntKind}{u:List Nat}(hx:rq T n rl x= .d (.str s):=by rfl)(hy:rq T n rl y= .d (.int k ((i:Nat):Int)):=by rfl)(hi:i<s.length:=by first|omega|(simp only [A4,c9,z8,y3,o9,beq_eq_false_iff_ne,beq_iff_eq,decide_eq_true_eq,decide_eq_false_iff_not,o8,Bool.not_eq_false'] at *;omega))(h2:Ry A l b dr l6 ops T H (n+1) (.d (.int .u8 ((nth s i).toNat:Int))::rl) p6 Q) :
  Ry A l b dr l6 (⟨.J2 x y,none,none,u⟩::ops) T H n rl p6 Q:=Ry.pure (rs:=[]) rfl (by simp_all [o6,l5,J9]) h2
def qs {neg t:Bool}{ks:List CK}{x y:u9}{va vb:List j3}{u:List Nat}(h2:Ry A l b dr l6 ops T H (n+1) (.d (.bool (neg != t))::rl) p6 Q)(hx:rq T n rl x= .agg va:=by rfl)(hy:rq T n rl y= .agg vb:=by rfl)(hr:P0 ks va vb=some t:=by rfl) :
  Ry A l b dr l6 (⟨.GQ neg ks x y,none,none,u⟩::ops) T H n rl p6 Q:=Ry.pure (rs:=[]) rfl (by simp_all [o6]) h2
def qb {neg s t:Bool}{x y:u9}{u:List Nat}(h2:Ry A l b dr l6 ops T H (n+1) (.d (.bool (neg != (s==t)))::rl) p6 Q)(hx:rq T n rl x= .d (.bool s):=by rfl)(hy:rq T n rl y= .d (.bool t):=by rfl) :
  Ry A l b dr l6 (⟨.u0 neg x y,none,none,u⟩::ops) T H n rl p6 Q:=Ry.pure (rs:=[]) rfl (by simp_all [o6]) h2
def mm {isMax:Bool}{xs:List u9}{c d:Data}{r:List j3}{u:List Nat}(h2:Ry A l b dr l6 ops T H (n+1) (.d d::rl) p6 Q)(ha:xs.map (rq T n rl)= .d c::r:=by rfl)(hr:eD isMax c r=some d:=by rfl) :
  Ry A l b dr l6 (⟨.gO isMax xs,none,none,u⟩::ops) T H n rl p6 Q:=Ry.pure (rs:=[]) rfl (by simp_all [o6]) h2
def ip {m sz i:Nat}{x y:u9}{k:IntKind}{cs:List Data}{u:List Nat}(h2:Ry A l b dr l6 ops T H (n+1) (.S9 (cs.drop (i * sz))::rl) p6 Q)(hx:rq T n rl x= .S9 cs:=by rfl)(hy:rq T n rl y= .d (.int k ((i:Nat):Int)):=by rfl)(hi:i<m:=by omega) :
  Ry A l b dr l6 (⟨.gM m sz x y,none,none,u⟩::ops) T H n rl p6 Q:=Ry.pure (rs:=[]) rfl (by
  simp_all [o6]) h2
def svh {α:Type} [Inhabited α] {enc:α->List Data}{xs:List α}{sz i:Nat}{x y:u9}{k:IntKind}{u:List Nat}(hx:rq T n rl x= .d (A5 enc xs):=by rfl)(hy:rq T n rl y= .d (.int k ((i:Nat):Int)):=by rfl)(hs:∀ a,(enc a).length=sz:=by intro;rfl)(hi:i<=xs.length:=by first|omega|(simp only [A4,c9,z8,y3,o9,beq_eq_false_iff_ne,beq_iff_eq,decide_eq_true_eq,decide_eq_false_iff_not,o8,Bool.not_eq_false'] at *;omega))(h2:Ry A l b dr l6 ops T H (n+1) (.d (A5 enc (xs.take i))::rl) p6 Q) :
  Ry A l b dr l6 (⟨.aj sz x none (some y),none,none,u⟩::ops) T H n rl p6 Q:=Ry.pure (rs:=[]) rfl (by
  have h1:=AA hs xs 0 i (Nat.zero_le _) hi
  grind [bG,A5,o6,U5]) h2
def svb {α:Type} [Inhabited α] {enc:α->List Data}{xs:List α}{sz i j:Nat}{x y z:u9}{k k' :IntKind}{u:List Nat}(hx:rq T n rl x= .d (A5 enc xs):=by rfl)(hy:rq T n rl y= .d (.int k ((i:Nat):Int)):=by rfl)(hz:rq T n rl z=(.d (.int k' ((j:Nat):Int))):=by rfl)(hs:∀ a,(enc a).length=sz:=by intro;rfl)(hij:i<=j/\j<=xs.length:=by first|omega|(simp only [A4,c9,z8,y3,o9,beq_eq_false_iff_ne,beq_iff_eq,decide_eq_true_eq,decide_eq_false_iff_not,o8,Bool.not_eq_false'] at *;omega))(h2:Ry A l b dr l6 ops T H (n+1) (.d (A5 enc ((xs.take j).drop i))::rl) p6 Q) :
  Ry A l b dr l6 (⟨.aj sz x (some y) (some z),none,none,u⟩::ops) T H n rl p6 Q:=Ry.pure (rs:=[]) rfl (by
  have h1:=AA hs xs i j hij.1 hij.2;have h3:(xs.flatMap enc).length=xs.length * sz:=bG hs xs;simp_all [A5,o6,U5,Int.natCast_nonneg,and_self,if_true,Int.toNat_natCast]) h2
end S
end
def uX (z:Nat):List j3->q8->F2->Option (j3×q8)
 |[.P5,.d (.int .i64 n)],H,_=>if 0<n/\n<=1000000 then some (.own z 0 [],H) else none
 |_,_,_=>none
def rowOf (z:Nat)(H:q8):j3->Option (Nat×List Data)
 | .d (.slice n cs)=>if cs.length=n * z then some (n,cs) else none
 | .B6 id z' lo n=>if z' =z then match rd H id lo (n * z) with
   |some vs=>match M5 vs with
    |some cs=>some (n,cs)
    |none=>none
   |none=>none
  else none
 |_=>none
def rN:List (Key×j3)->Option (List (Int×Int))
 |[]=>some []
 |(.st [.i .i64 a,.i .i64 b],_)::r=>match rN r with
  |some l=>some ((a,b)::l)
  |none=>none
 |_=>none
def dg:List (Int×Int)->List Data
 |[]=>[]
 |(a,b)::r=> .int .i64 a:: .int .i64 b::dg r
def ints (l:List Int):Data:=A5 (fun n=>[num n]) l
def hasB (l:List Int)(n:Int):Bool:=l.any fun x=>u0 x n
section
variable {A:Prog} {l:F2} {b:Nat}
variable {dr:Bool} {l6 ops:List p9} {T:List j3} {H:q8} {n:Nat} {rl:List j3} {p6:List Touch} {Q:List j3->q8->List j3->Prop}
namespace S
def bxn {x:u9}{u:List Nat}{v:j3}{cs:List j3}{id:Nat}{H2:q8}(hx:Oq T n rl x v:=by exact ⟨rfl,rfl⟩)(hc:v.cells? =some cs:=by rfl)
  (hi:H.length=id:=by simp only [List.length_cons,List.length_nil,Nat.reduceAdd]<;>rfl) (hH:H++[.cells cs]=H2:=by simp only [List.cons_append,List.nil_append]<;>rfl)
  (h2:Ry A l b false l6 ops T H2 (n+1) (.ptr id 0::rl) p6 Q):Ry A l b false l6 (⟨.box x,none,none,u⟩::ops) T H n rl p6 Q:=fun hn=>by
 subst hi;have h2:=h2.to hn;rw [<- hH] at h2;refine Rx.stepT (N1:=0) (rs:=[]) rfl (fun n _=> ?_) h2;simp only [y8,z7,E5,z6.E3,if_true,E7,(hx.op hn).G9,hc,F0,newId,Option.getD_none,put,I5,u7,G4]
def nk {x:u9}{u:List Nat}{id o:Nat}(h2:Ry A l b dr l6 ops T H (n+1) (.ptr id o::rl) p6 Q)(hx:rq T n rl x= .ptr id o:=by rfl):Ry A l b dr l6 (⟨.aX x,none,none,u⟩::ops) T H n rl p6 Q :=
 Ry.pure (rs:=[]) rfl (by simp only [o6,hx]) h2
def mu {x y:u9}{u:List Nat}{c d:Int}(h2:Ry A l b dr l6 ops T H (n+1) (.d (.int .i64 (c * d))::rl) p6 Q)(h0: -9223372036854775808<=c * d/\c * d<9223372036854775808)(hx:rq T n rl x= .d (.int .i64 c):=by rfl)(hy:rq T n rl y= .d (.int .i64 d):=by rfl) :
  Ry A l b dr l6 (⟨.bin .mul x y,none,none,u⟩::ops) T H n rl p6 Q :=
 Ry.pure (rs:=[]) rfl (by simp [o6,hx,hy,J7,U4,aC,wrap_small h0.1 h0.2]) h2
def ipM {m sz i:Nat}{x y:u9}{u:List Nat}{k:IntKind}{cs:List Data}(h2:Ry A l b dr l6 ops T H (n+1) (.S9 (cs.drop (i * sz))::rl) p6 Q)(hx:rq T n rl x= .S9 cs:=by rfl)(hy:rq T n rl y= .d (.int k (OfNat.ofNat i)):=by rfl)
  (hi:i<m:=by decide):Ry A l b dr l6 (⟨.gM m sz x y,none,none,u⟩::ops) T H n rl p6 Q:=ip h2 hx hy hi
end S
def Ex.X8 {mask:List Bool}{body:s4}{R:F6->St->Prop}(Inv:Nat->List j3->q8->Prop)
  (hb:∀ k T' H',Inv k T' H' ->Ex A l b body ⟨T',H'⟩ (zA R fun s=>∃ k',k' <k/\∃ T2 H2,clean mask l.strict H.length s=⟨T2,H2⟩/\Inv k' T2 H2)) {k:Nat} (h:Inv k (V8 mask T) H):Ex A l b (.loop mask body) ⟨T,H⟩ R:=by
 refine Ex.loop (fun k s=>∃ T2 H2,clean mask l.strict H.length s=⟨T2,H2⟩/\Inv k T2 H2) (fun k s ⟨T2,H2,e,hs⟩=> ?_) (k:=k) ⟨V8 mask T,H,Cw rfl,h⟩;rw [e];exact hb k T2 H2 hs
end
section
variable {A:Prog} {l:F2} {b:Nat}
variable {dr:Bool} {l6 ops:List p9} {T:List j3} {H:q8} {n:Nat} {rl:List j3} {p6:List Touch} {Q:List j3->q8->List j3->Prop}
def Ex.O6 {c:u9}{d e:s4}{t:Bool}{Q:F6->St->Prop}(h2:Ex A l b d ⟨T,H⟩ Q)(h1:G9 T [] c= .d (.bool t):=by rfl)(ht:t=true:=by assumption):Ex A l b (.cond c d e) ⟨T,H⟩ Q :=
 Ex.cond h1 (fun _=>h2) (fun h=>by rw [ht] at h;cases h)
namespace S
def lq3 {x:u9}{u:List Nat}{id o:Nat}{v1 v2 v3:Data}(h2:Ry A l b dr l6 ops T H (n+1) (.agg [.d v1,.d v2,.d v3]::rl) p6 Q)(hx:rq T n rl x= .ptr id o:=by rfl)(hr:rd H id o 3=some [.d v1,.d v2,.d v3]:=by rfl) :
  Ry A l b dr l6 (⟨.load (some 3) x,none,none,u⟩::ops) T H n rl p6 Q :=
 Ry.pure (rs:=[id]) rfl (by simp only [o6,hx,hr,E0,List.map_nil,j3.I7]) h2
def o1z {x:u9}{u:List Nat}{z:j3}{c:Data}(h2:Ry A l b dr l6 ops T H (n+1) (.own 1 1 [c]::rl) p6 Q)(hx:rq T n rl x= .d c:=by rfl):Ry A l b dr l6 (⟨.A2 1 1 [z] [(0,1,x)] false,none,none,u⟩::ops) T H n rl p6 Q :=
 Ry.pure (rs:=[]) rfl (by simp [o6,bA,hx,j3.cells?,splice,M5,j3.data?,j3.one]) h2
def clT {f:FuncId}{xs:List u9}{u:List Nat}{v:j3}{args:List j3}{s:Nat}{T2:List j3}(hc:Pf A f args v)(ha:xs.map (rq T n rl)=args:=by rfl)(gI:A.prom f=false:=by rfl)(hm:A.mode f=1:=by rfl)
  (hb:B8 args=0:=by rfl) (hv:v.I7=v:=by rfl) (hs:T[s]?.isSome=true:=by rfl) (hT:T.set s v=T2:=by simp only [List.set_cons_zero,List.set_cons_succ]<;>rfl)
  (h2:Ry A l b dr l6 ops T2 H (n+1) (v::rl) (.slot s::p6) Q):Ry A l b dr l6 (⟨.call f xs,some s,none,u⟩::ops) T H n rl p6 Q:=fun hn=>by
 obtain ⟨M,hc⟩:=hc;have hs:s<T.length:=by
  rcases s5 s T.length with h|h
  .exact h
  .rw [H6 h] at hs;cases hs
 have h2:=h2.to hn;rw [<- hT] at h2;refine Rx.step (N1:=M) (rs:=[]) rfl rfl (fun k hk=> ?_) (fK s p6) h2;have h3:D7 (N7 A k l b) rl.reverse.length f args ⟨T,H,rl.reverse++ .any::j4 ops.length .any,p6⟩=some (put ⟨T,H,rl.reverse++ .any::j4 ops.length .any,p6⟩ rl.reverse.length v) :=
  fP gI hm hb (hc k hk)
 have ha' :xs.map (Abs.G9 T (rl.reverse++ .any::j4 ops.length .any))=args:=by
  rw [show Abs.G9 T (rl.reverse++ .any::j4 ops.length .any)=rq T n rl from funext fun x=>Y9 hn _ x];exact ha
 have h5:Abs.E1 ⟨T,H,rl.reverse++v::j4 ops.length .any,p6⟩ (.loc rl.reverse.length)=(v,⟨T,H,rl.reverse++v::j4 ops.length .any,p6⟩):=by
  simp only [Abs.E1,p7 (o5 _),Nat.sub_self,List.getElem?_cons_zero];split
  .rename_i heq
   cases heq;simp [j3.I7] at hv
  .rename_i heq
   cases heq;simp [j3.I7] at hv
  .simp [Abs.G9,hv]
 simp only [y8,z7,E5,z6.E3,if_true,E7,ha',h3,u7,G4,put,I5,hs,h5]
end S
end
section
variable {A:Prog} {l:F2} {b:Nat}
variable {dr:Bool} {l6 ops:List p9} {T:List j3} {H:q8} {n:Nat} {rl:List j3} {p6:List Touch} {Q:List j3->q8->List j3->Prop}
namespace S
def df {f:FuncId}{a c:List j3}{u:List Nat}(h2:Ry A l b dr l6 ops T H (n+1) (.any::rl) p6 Q)(hi:A.idle f=true:=by rfl):Ry A l b dr l6 (⟨.defer (.const (.func f a c)),none,none,u⟩::ops) T H n rl p6 Q:=fun hn=>by
 refine Rx.step (N1:=0) (rs:=[]) rfl rfl (fun k _=> ?_) (fun rs=>by simp [K4]) (h2.to hn);have hi' :(N7 A k l b).idle f=true:=hi;simp only [y8,z7,E5,z6.E3,if_true,E7,Abs.G9,j3.MX,j3.I7,hi',put,I5,u7,G4]
def dfl {f:FuncId}{x:u9}{a c:List j3}{u:List Nat}(h2:Ry A l b dr l6 ops T H (n+1) (.any::rl) p6 Q)(hx:rq T n rl x= .func f a c:=by rfl)(hi:A.idle f=true:=by rfl):Ry A l b dr l6 (⟨.defer x,none,none,u⟩::ops) T H n rl p6 Q:=fun hn=>by
 refine Rx.step (N1:=0) (rs:=[]) rfl rfl (fun k _=> ?_) (fun rs=>by simp [K4]) (h2.to hn);have hi' :(N7 A k l b).idle f=true:=hi;simp only [y8,z7,E5,z6.E3,if_true,E7,Y9 hn,hx,hi',put,I5,u7,G4]
def ipp {m sz o id o2:Nat}{x y:u9}{u:List Nat}{k:IntKind}{e:Int}(i:Nat)(he:e=i)(ho:o+i * sz=o2)(hi:i<m)(h2:Ry A l b dr l6 ops T H (n+1) (.ptr id o2::rl) p6 Q)(hx:rq T n rl x= .ptr id o:=by rfl)(hy:rq T n rl y= .d (.int k e):=by rfl) :
  Ry A l b dr l6 (⟨.gM m sz x y,none,none,u⟩::ops) T H n rl p6 Q:=by
 subst he;subst ho;refine Ry.pure (rs:=[]) rfl ?_ h2;have h1:(i:Int)<m:=by omega
 simp [o6,hx,hy,h1]
def mf {f:FuncId}{a c:List u9}{u:List Nat}{va vc:List j3}(h2:Ry A l b dr l6 ops T H (n+1) (.func f va vc::rl) p6 Q)(ha:a.map (rq T n rl)=va:=by rfl)(hc:c.map (rq T n rl)=vc:=by rfl):Ry A l b dr l6 (⟨.aG f a c,none,none,u⟩::ops) T H n rl p6 Q :=
 Ry.pure (rs:=[]) rfl (by simp only [o6,ha,hc]) h2
end S
end
section
variable {A:Prog} {l:F2} {b:Nat}
variable {dr:Bool} {l6 ops:List p9} {T:List j3} {H:q8} {n:Nat} {rl:List j3} {p6:List Touch} {Q:List j3->q8->List j3->Prop}
namespace S
def aV4 {m sz i o id:Nat}{x y:u9}{u:List Nat}{k:IntKind}(h2:Ry A l b dr l6 ops T H (n+1) (.ptr id (o+i * sz)::rl) p6 Q)(hx:rq T n rl x= .ptr id o:=by rfl)(hy:rq T n rl y= .d (.int k (OfNat.ofNat i)):=by rfl)(hi:i<m:=by decide) :
  Ry A l b dr l6 (⟨.gM m sz x y,none,none,u⟩::ops) T H n rl p6 Q:=ipp i rfl rfl hi h2 hx hy
end S
end
section
variable {A:Prog} {l:F2} {b:Nat}
variable {dr:Bool} {l6 ops:List p9} {T:List j3} {H:q8} {n:Nat} {rl:List j3} {p6:List Touch} {Q:List j3->q8->List j3->Prop}
namespace S
def sp1 {id off:Nat}{x y:u9}{u:List Nat}{v:j3}{old new:List j3}{H2:q8}(hy:rq T n rl y= .ptr id off:=by rfl)(hx:Oq T n rl x v:=by exact ⟨rfl,rfl⟩)(hc:v.cells? =some [v]:=by rfl)(hl:l.may id=true:=by rfl)(hb:v.L7<=id+1:=by exact Nat.zero_le _)
  (ho:H[id]? =some (.cells old):=by rfl) (hq:off<old.length:=by simp) (hN:old.set off v=new:=by first|(simp only [List.set_cons_zero,List.set_cons_succ];done)|rfl) (hH:H.set id (.cells new)=H2:=by simp only [List.set_cons_zero,List.set_cons_succ]<;>rfl)
  (h2:Ry A l b false l6 ops T H2 (n+1) (.any::rl) (.obj id::p6) Q):Ry A l b false l6 (⟨.store 1 y x,none,none,u⟩::ops) T H n rl p6 Q:=so1 hy hx hc hl hb ho hq hN hH h2
end S
end
section
variable {A:Prog} {l:F2} {b:Nat}
variable {dr:Bool} {l6 ops:List p9} {T:List j3} {H:q8} {n:Nat} {rl:List j3} {p6:List Touch} {Q:List j3->q8->List j3->Prop}
namespace S
def alE {α:Type}{enc:α->List Data}{ys:List α}{j sz bytes:Nat}{y:u9}{u:List Nat}{r2:List j3}(hj:lk n rl j=some (.own sz 0 []):=by rfl)(hb:D9 (j+1) n=true:=by rfl)(hy:rq T n rl y= .d (A5 enc ys):=by rfl)
  (hs:∀ a,(enc a).length=sz:=by intro;rfl) (h0:0<sz:=by decide) (hr:roomFor (0+ys.length) bytes=true:=by simp only [roomFor,decide_eq_true_eq,List.length_append,List.length_cons,List.length_nil,List.length_take,List.length_drop,List.length_map] at * <;>omega)
  (hS:rl.set (n - (j+1)) (.d (.slice 0 []))=r2:=by simp only [Nat.reduceAdd,Nat.reduceSub,List.set_cons_zero,List.set_cons_succ]<;>rfl) (h2:Ry A l b dr l6 ops T H (n+1) (C9 sz enc ys::r2) p6 Q) :
  Ry A l b dr l6 (⟨.append sz bytes false (.loc j) y,none,none,u⟩::ops) T H n rl p6 Q :=
 Ry.au9 hj hb hy (bG hs ys) hr h0 (by
  have e1:C9 sz enc ys= .own sz (0+ys.length) ([]++ys.flatMap enc):=by simp [C9]
  rw [e1] at h2;rw [hS];exact h2)
end S
end
section
variable {A:Prog} {l:F2} {b:Nat}
def Ex.MB {c:s4}{st:St}{R:F6->St->Prop}{go:St->Prop}(P:St->Prop)(h1:Ex A l b c st (zA (fun _ _=>False) P))(h2:∀ s,P s->go s):Ex A l b c st (zA R go):=by
 refine h1.mono fun x s h=> ?_
 cases x with
 |normal=>exact h2 s h
 |exit i=>exact h.elim
 |ret=>exact h.elim
end
section
variable {A:Prog} {l:F2} {b:Nat}
variable {dr:Bool} {l6 ops:List p9} {T:List j3} {H:q8} {n:Nat} {rl:List j3} {p6:List Touch} {Q:List j3->q8->List j3->Prop}
namespace S
def mvS {s:Nat}{u:List Nat}{w v:j3}(hv:w.I7=v)(h2:Ry A l b dr l6 ops T H (n+1) (v::rl) p6 Q)(hx:T[s]? =some w:=by rfl):Ry A l b dr l6 (⟨.R2 (.slot s),none,none,u⟩::ops) T H n rl p6 Q:=fun hn=>by
 refine Rx.step (N1:=0) (rs:=[]) rfl rfl (fun k _=> ?_) (fun rs=>by simp [K4]) (h2.to hn);have h1:Abs.G9 T (rl.reverse++ .any::j4 ops.length .any) (.slot s)=v:=by simp [Abs.G9,hx,hv]
 simp only [y8,z7,E5,z6.E3,j5,if_false,Abs.E1,h1,put,I5,u7,G4]
end S
end
def Pm (A:Prog)(f:FuncId)(args:List j3)(H:q8)(l:F2)(v:j3)(H1:q8):Prop:=∃ N,∀ n,N<=n->call A n f args H l=some (v,H1)
def Pq (A:Prog)(f:FuncId)(args:List j3)(H:q8)(l:F2)(Post:j3->q8->Prop):Prop:=∃ v H1,Post v H1/\Pm A f args H l v H1
section
variable {A:Prog} {l:F2} {b:Nat}
def Pq.run {f:FuncId}{af:s8}{args:List j3}{H:q8}{Post:j3->q8->Prop}(T:List j3)(hp:A.eF f=none)(hf:A.fn f=some af)(hn:args.length=af.nparams)(hb:H.length=b)
  (hT:args++j4 (af.names.length - args.length) .any=T) (h:Ex A l b af.body ⟨T,H⟩ fun x s=>∃ w H1,iP af b (some (x,s))=some (w,H1)/\Post w H1):Pq A f args H l Post:=by
 subst hT;subst hb;obtain ⟨x,s,N,⟨w,H1,hq,hP⟩,h⟩:=h;refine ⟨w,H1,hP,N+1,fun n hn' => ?_⟩;obtain ⟨n,rfl⟩:∃ j,n=j+1:=⟨n - 1,by omega⟩;rw [Et hp hf,sB hn];have:=h n (by omega);simp only [N7] at this;rw [this,hq]
def iq {H:q8}{s k n:Nat}(h:R7 ((H.take n).drop s)<=n):E9 H s (k+1) n=n:=by
 simp only [E9];split
 .rfl
 .rw [if_pos (by omega)]
def nj {E:Env}{k m:Nat}{f:FuncId}{args:List j3}{st:F4}{v:j3}{H1:q8}{l2:F2}(gI:E.prom f=false)(hm:E.mode f=0)(hc:E9 st.H E.lim.strict 8 (B8 args)=m)(hle:m<=st.H.length)(uu:R7 ((st.H.take m).drop E.lim.strict)<=m)
  (mK:(⟨E.lim.Tc,E.lim.SU,m,D8 st.H E.lim.strict m⟩:F2)=l2) (h:E.cf f args (st.H.take m) l2=some (v,H1)) (hH:H1.length=m) :
  D7 E k f args st=some (put { st with H:=H1++st.H.drop m,p6:= .below m::st.p6 } k v):=by
 subst mK;simp only [D7,gI,hm,hc,hle,uu,and_self,if_true,j5,if_false,h,hH]
def sC {E:Env}{k m:Nat}{f:FuncId}{args:List j3}{st:F4}{v:j3}{H1:q8}{l2:F2}(gI:E.prom f=false)(hm:E.mode f=1)(hc:E9 st.H E.lim.strict 8 (B8 args)=m)(hle:m<=st.H.length)(uu:R7 ((st.H.take m).drop E.lim.strict)<=m)
  (mK:(⟨0,m,m,D8 st.H E.lim.strict m⟩:F2)=l2) (h:E.cf f args (st.H.take m) l2=some (v,H1)) (hH:H1.length=m) :
  D7 E k f args st=some (put st k v):=by
 subst mK;simp only [D7,gI,hm,hc,hle,uu,and_self,if_true,j5,if_false,h,hH]
variable {dr:Bool} {l6 ops:List p9} {T:List j3} {H:q8} {n:Nat} {rl:List j3} {p6:List Touch} {Q:List j3->q8->List j3->Prop}
def jS (hn:rl.length=n)(xs:List u9):xs.map (Abs.G9 T (rl.reverse++ .any::j4 ops.length .any))=xs.map (rq T n rl):=by
 rw [show Abs.G9 T (rl.reverse++ .any::j4 ops.length .any)=rq T n rl from funext fun x=>Y9 hn _ x]
namespace S
def c0 {f:FuncId}{xs:List u9}{u:List Nat}{v:j3}{args:List j3}{m:Nat}{H0 HD H1 H2:q8}{l2:F2}(hc:Pm A f args H0 l2 v H1)(XE:H1.length=m)(uu:R7 ((H.take m).drop l.strict)<=m:=by exact Nat.zero_le _)(hcl:E9 H l.strict 8 (B8 args)=m:=by rfl)
  (To:H.take m=H0:=by rfl) (hle:D9 m H.length=true:=by rfl) (mK:(⟨l.Tc,l.SU,m,D8 H l.strict m⟩:F2)=l2:=by rfl) (hd:dr=true->D9 (uB l6) n=true:=by intro;rfl)
  (ha:xs.map (rq T n rl)=args:=by rfl) (gI:A.prom f=false:=by rfl) (hm:A.mode f=0:=by rfl) (hD:H.drop m=HD:=by rfl) (hA:H1++HD=H2:=by first|(simp only [List.cons_append,List.nil_append]<;>rfl)|rfl)
  (h2:Ry A l b dr l6 ops T H2 (n+1) (v::rl) (.below m::p6) Q):Ry A l b dr l6 (⟨.call f xs,none,none,u⟩::ops) T H n rl p6 Q:=fun hn=>by
 obtain ⟨M,hc⟩:=hc;subst To hD hA;have h2:=h2.to hn;have e1:∀ k,M<=k->y8 (N7 A k l b) l6 none rl.reverse.length ⟨.call f xs,none,none,u⟩ ⟨T,H,rl.reverse++ .any::j4 ops.length .any,p6⟩=some (⟨T,H1++H.drop m,rl.reverse++v::j4 ops.length .any,.below m::p6⟩,[]):=fun k hk=>by
  have h3:D7 (N7 A k l b) rl.reverse.length f args ⟨T,H,rl.reverse++ .any::j4 ops.length .any,p6⟩=some (put ⟨T,H1++H.drop m,rl.reverse++ .any::j4 ops.length .any,.below m::p6⟩ rl.reverse.length v) :=
   nj gI hm hcl (k9 hle) uu mK (hc k hk) XE
  simp only [y8,z7,E5,z6.E3,if_true,E7,jS hn,ha,h3,u7,G4,put,I5]
 cases dr with
 |false=>exact Rx.stepT (N1:=M) (rs:=[]) rfl e1 h2
 |true =>
  refine Rx.IY (N1:=M) (rs:=[]) rfl rfl rfl e1 (fun h=> ?_) h2;have:=k9 (hd rfl);simp [hn] at h;omega
def c1 {f:FuncId}{xs:List u9}{u:List Nat}{v:j3}{args:List j3}{m:Nat}{H0 H1:q8}{l2:F2}(hc:Pm A f args H0 l2 v H1)(XE:H1.length=m)(h2:Ry A l b dr l6 ops T H (n+1) (v::rl) p6 Q)(uu:R7 ((H.take m).drop l.strict)<=m:=by exact Nat.zero_le _)(hcl:E9 H l.strict 8 (B8 args)=m:=by rfl)
  (To:H.take m=H0:=by rfl) (hle:D9 m H.length=true:=by rfl) (mK:(⟨0,m,m,D8 H l.strict m⟩:F2)=l2:=by rfl)
  (ha:xs.map (rq T n rl)=args:=by rfl) (gI:A.prom f=false:=by rfl) (hm:A.mode f=1:=by rfl):Ry A l b dr l6 (⟨.call f xs,none,none,u⟩::ops) T H n rl p6 Q:=fun hn=>by
 obtain ⟨M,hc⟩:=hc;subst To;refine Rx.step (N1:=M) (rs:=[]) rfl rfl (fun k hk=> ?_) (fun rs=>by simp [K4]) (h2.to hn);have h3:D7 (N7 A k l b) rl.reverse.length f args ⟨T,H,rl.reverse++ .any::j4 ops.length .any,p6⟩=some (put ⟨T,H,rl.reverse++ .any::j4 ops.length .any,p6⟩ rl.reverse.length v) :=
  sC gI hm hcl (k9 hle) uu mK (hc k hk) XE
 simp only [y8,z7,E5,z6.E3,if_true,E7,jS hn,ha,h3,u7,G4,put,I5]
def cv {f:FuncId}{x:u9}{xs:List u9}{u:List Nat}{v:j3}{first caps args:List j3}(hc:Pf A f args v)(h2:Ry A l b dr l6 ops T H (n+1) (v::rl) p6 Q)(hx:rq T n rl x= .func f first caps:=by rfl)(ha:first++xs.map (rq T n rl)++caps=args:=by rfl)(gI:A.prom f=false:=by rfl)(hm:A.mode f=1:=by rfl)
  (hb:B8 args=0:=by rfl):Ry A l b dr l6 (⟨.aD x xs,none,none,u⟩::ops) T H n rl p6 Q:=fun hn=>by
 obtain ⟨M,hc⟩:=hc;refine Rx.step (N1:=M) (rs:=[]) rfl rfl (fun k hk=> ?_) (fun rs=>by simp [K4]) (h2.to hn);have h3:D7 (N7 A k l b) rl.reverse.length f args ⟨T,H,rl.reverse++ .any::j4 ops.length .any,p6⟩=some (put ⟨T,H,rl.reverse++ .any::j4 ops.length .any,p6⟩ rl.reverse.length v) :=
  fP gI hm hb (hc k hk)
 simp only [y8,z7,E5,z6.E3,if_true,E7,Y9 hn,hx,jS hn,ha,h3,u7,G4,put,I5]
def lk1 {kk:KK}{zero:j3}{x y:u9}{u:List Nat}{id:Nat}{key:Key}{es:List (Key×j3)}{r:Option j3}{v:j3}(hr:aQ kk key es=some r)(hv:r.getD zero=v)(h2:Ry A l b dr l6 ops T H (n+1) (v::rl) p6 Q)
  (hx:rq T n rl x= .map id:=by rfl) (hy:(rq T n rl y).LB =some key:=by rfl) (ho:H[id]? =some (.map es):=by rfl) (hf:kk.fits key=true:=by rfl):Ry A l b dr l6 (⟨.lookup kk zero false x y,none,none,u⟩::ops) T H n rl p6 Q :=
 Ry.pure (rs:=[id]) rfl (by subst hv;simp [o6,hx,hy,ho,hr,hf]) h2
def lk2 {kk:KK}{zero:j3}{x y:u9}{u:List Nat}{id:Nat}{key:Key}{es:List (Key×j3)}{r:Option j3}{v:j3}{t:Bool}(hr:aQ kk key es=some r)(hv:r.getD zero=v)(ht:r.isSome=t)(h2:Ry A l b dr l6 ops T H (n+1) (.tuple [v,.d (.bool t)]::rl) p6 Q)
  (hx:rq T n rl x= .map id:=by rfl) (hy:(rq T n rl y).LB =some key:=by rfl) (ho:H[id]? =some (.map es):=by rfl) (hf:kk.fits key=true:=by rfl):Ry A l b dr l6 (⟨.lookup kk zero true x y,none,none,u⟩::ops) T H n rl p6 Q :=
 Ry.pure (rs:=[id]) rfl (by subst hv ht;simp [o6,hx,hy,ho,hr,hf]) h2
def mp {kk:KK}{x y z:u9}{u:List Nat}{id:Nat}{key:Key}{es es' :List (Key×j3)}{v:j3}{H2:q8}(hr:bK kk key v es=some es')(hk:Data.aW kk key key=some true)(hx:rq T n rl x= .map id:=by rfl)(hy:(rq T n rl y).LB =some key:=by rfl)(hz:rq T n rl z=v:=by rfl)(hbv:v.L7<=id+1:=by exact Nat.zero_le _)(hl:l.may id=true:=by rfl)
  (ho:H[id]? =some (.map es):=by rfl) (hd:dr=true->D9 (uB l6) n=true:=by intro;rfl) (hH:H.set id (.map es')=H2:=by simp only [List.set_cons_zero,List.set_cons_succ]<;>rfl)
  (h2:Ry A l b dr l6 ops T H2 (n+1) (.any::rl) (.obj id::p6) Q):Ry A l b dr l6 (⟨.dw kk x y z,none,none,u⟩::ops) T H n rl p6 Q:=fun hn=>by
 subst hH;have e1:∀ k,0<=k->y8 (N7 A k l b) l6 none rl.reverse.length ⟨.dw kk x y z,none,none,u⟩ ⟨T,H,rl.reverse++ .any::j4 ops.length .any,p6⟩=some (⟨T,H.set id (.map es'),rl.reverse++ .any::j4 ops.length .any,.obj id::p6⟩,[]):=fun k _=>by
  have hl' :(N7 A k l b).lim.may id=true:=hl;simp only [y8,z7,E5,z6.E3,if_true,E7,Y9 hn,hx,hy,hz,U1,ho,hbv,hl',and_self,hk,hr,put,I5,u7,G4]
 cases dr with
 |false=>exact Rx.stepT (N1:=0) (rs:=[]) rfl e1 (h2.to hn)
 |true =>
  refine Rx.IY (N1:=0) (rs:=[]) rfl rfl rfl e1 (fun h=> ?_) (h2.to hn);have:=k9 (hd rfl);simp [hn] at h;omega
end S
end
def dmap (ds:List (List UInt8)):List (Key×j3):=ds.map fun s=>(.str s,.d (.bool true))
def W5:List (List UInt8)->Nat->List (Key×j3)
 |[],_=>[]
 |s::l,i=>(.str s,.d (.int .i64 (i:Int)))::W5 l (i+1)
theorem uI (s:List UInt8):∀ ds,aQ .s (.str s) (dmap ds)=some (if ds.any fun y=>L4 y s then some (.d (.bool true)) else none)
 |[]=>by simp [dmap,aQ]
 |d::ds=>by
  have h1:=uI s ds;simp only [dmap,E0,aQ,Data.aW,List.any_cons];have h2:(s==d)=L4 d s:=by
   rw [F8,Bool.eq_iff_iff];simp only [beq_iff_eq];exact eq_comm
  rw [h2]
  by_cases hb:L4 d s=true
  .simp [hb]
  .have hb' :L4 d s=false:=by simpa using hb
   simp only [hb',Bool.false_or];simpa [dmap] using h1
theorem zf (s:List UInt8):∀ ds,(ds.any fun y=>L4 y s)=false->bK .s (.str s) (.d (.bool true)) (dmap ds)=some (dmap (ds++[s]))
 |[],_=>by simp [dmap,bK]
 |d::ds,h=>by
  simp only [List.any_cons,E6] at h;have h1:=zf s ds h.2;have h2:(s==d)=false:=by
   have:=ab4 h.1;simp;exact fun h=>this h.symm
  simp only [dmap,E0,bK,Data.aW,h2,List.cons_append] at h1 ⊢;rw [h1]
theorem Ac (s:List UInt8):∀ (l:List (List UInt8)) (i:Nat),(l.any fun y=>L4 y s)=false->bK .s (.str s) (.d (.int .i64 ((i+l.length:Nat):Int))) (W5 l i)=some (W5 (l++[s]) i)
 |[],i,_=>by simp [W5,bK]
 |d::l,i,h=>by
  simp only [List.any_cons,E6] at h;have h1:=Ac s l (i+1) h.2;have h2:(s==d)=false:=by
   have:=ab4 h.1;simp;exact fun h=>this h.symm
  have h3:i+1+l.length=i+(d::l).length:=by simp;omega
  rw [h3] at h1;simp only [W5,bK,Data.aW,h2,List.cons_append,h1]
theorem iW:∀ (l:List (List UInt8)) (i:Nat),B8 ((W5 l i).map (·.2))=0
 |[],_=>rfl
 |_::l,i=>by simp [W5,B8,j3.L7,iW l (i+1)]
theorem iM:∀ l:List (List UInt8),B8 ((dmap l).map (·.2))=0
 |[]=>rfl
 |_::l=>by
  have:=iM l;simp only [dmap,E0,B8,j3.L7,Nat.zero_max] at this ⊢;exact this
section
variable {A:Prog} {l:F2} {b:Nat}
variable {dr:Bool} {l6 ops:List p9} {T:List j3} {H:q8} {n:Nat} {rl:List j3} {p6:List Touch} {Q:List j3->q8->List j3->Prop}
def Qi (id off:Nat)(p6:List Touch)(rs:List Nat):K4 ((Touch.cell id off::p6).take ((Touch.cell id off::p6).length - p6.length)) rs=false:=by
 have:(p6.length+1) - p6.length=1:=by omega
 simp [K4,this,Touch.J3]
def Ry.ae1 {j k sz bytes id off:Nat}{y:u9}{u u' :List Nat}{d' :Option Nat}{g' :Option (Nat×Bool)}{n' len m:Nat}{cs' cells new:List Data}{old:List j3}
  (hj:lk n rl j=some (.d (.slice n' cs'))) (ha:l6[j]? =some ⟨.load none (.loc k),d',g',u'⟩) (hk:lk n rl k=some (.ptr id off)) (ht:p6.any (Touch.bX id off)=false) (hl:l.may id=true) (ho:H[id]? =some (.cells old)) (hc:old[off]? =some (.own sz len cells))
  (hy:rq T n rl y= .d (.slice m new)) (hn' :new.length=m * sz) (hr:roomFor (len+m) bytes=true) (h0:0<sz)
  (h2:Ry A l b dr l6 ops T (H.set id (.cells (old.set off (.d (.slice len cells))))) (n+1) (.own sz (len+m) (cells++new)::rl) (.cell id off::p6) Q):Ry A l b dr l6 (⟨.append sz bytes false (.loc j) y,none,none,u⟩::ops) T H n rl p6 Q:=fun hn=>by
 have hjl:rl.reverse[j]? =some (.d (.slice n' cs')):=by rw [gN hn];exact hj
 have Z9:rl.reverse[k]? =some (.ptr id off):=by rw [gN hn];exact hk
 have hL:∀ r:List j3,(rl.reverse++ .any::r)[j]? =some (.d (.slice n' cs')):=fun r=>uT hjl _
 have hK:∀ r:List j3,(rl.reverse++ .any::r)[k]? =some (.ptr id off):=fun r=>uT Z9 _
 have XM:Abs.G9 T (rl.reverse++ .any::j4 ops.length .any) (.loc j)= .d (.slice n' cs'):=by simp [Abs.G9,hL,j3.I7]
 refine Rx.step (N1:=0) (rs:=[]) (by simp only [G8,XM]) rfl (fun q _=> ?_) (Qi id off p6) (h2.to hn);have hl' :(N7 A q l b).lim.may id=true:=hl;have hs:P6 H sz (.d (.slice m new))=some (m,new.map .d):=by simp only [P6,hn',if_true]
 simp only [y8,z7,E5,z6.E3,if_true,E7,XM,K8,Y9 hn,hy,hs,cg,j5,if_false,O7,hL,ha,W6,aY,hK,ht,hl',Bool.not_true,Bool.or_self,ho,hc,hr,h0,and_self,put,I5,u7,G4]
namespace S
def o2 {x:u9}{u:List Nat}{z1 z2:j3}{c d:Data}(h2:Ry A l b dr l6 ops T H (n+1) (.own 2 1 [c,d]::rl) p6 Q)(hx:rq T n rl x= .agg [.d c,.d d]:=by rfl):Ry A l b dr l6 (⟨.A2 2 1 [z1,z2] [(0,2,x)] false,none,none,u⟩::ops) T H n rl p6 Q :=
 Ry.pure (rs:=[]) rfl (by simp [o6,bA,hx,j3.cells?,splice,M5,j3.data?,j3.one]) h2
def ac2 {α:Type}{enc:α->List Data}{xs:List α}{a:α}{j k bytes id off:Nat}{y:u9}{u u' :List Nat}{d' :Option Nat}{g' :Option (Nat×Bool)}{n' :Nat}{cs' :List Data}{c d:Data}{old new:List j3}{H2:q8}
  (hr:roomFor (xs.length+1) bytes=true) (he:enc a=[c,d]) (hj:lk n rl j=some (.d (.slice n' cs')):=by rfl) (ha:l6[j]? =some ⟨.load none (.loc k),d',g',u'⟩:=by rfl) (hk:lk n rl k=some (.ptr id off):=by rfl) (ht:p6.any (Touch.bX id off)=false:=by rfl) (hl:l.may id=true:=by rfl) (ho:H[id]? =some (.cells old):=by rfl) (hc:old[off]? =some (C9 2 enc xs):=by rfl)
  (hy:rq T n rl y= .d (.slice 1 [c,d]):=by rfl) (hN:old.set off (.d (A5 enc xs))=new:=by rfl) (hH:H.set id (.cells new)=H2:=by simp only [List.set_cons_zero,List.set_cons_succ]<;>rfl)
  (h2:Ry A l b dr l6 ops T H2 (n+1) (C9 2 enc (xs++[a])::rl) (.cell id off::p6) Q):Ry A l b dr l6 (⟨.append 2 bytes false (.loc j) y,none,none,u⟩::ops) T H n rl p6 Q :=
 Ry.ae1 hj ha hk ht hl ho hc hy rfl hr (by decide) (by
  have e1:C9 2 enc (xs++[a])= .own 2 (xs.length+1) (xs.flatMap enc++[c,d]):=by simp [C9,he]
  rw [e1] at h2;subst hH hN;exact h2)
def ac1 {α:Type}{enc:α->List Data}{xs:List α}{a:α}{j k bytes id off:Nat}{y:u9}{u u' :List Nat}{d' :Option Nat}{g' :Option (Nat×Bool)}{n' :Nat}{cs' :List Data}{c:Data}{old new:List j3}{H2:q8}
  (hr:roomFor (xs.length+1) bytes=true) (he:enc a=[c]) (hj:lk n rl j=some (.d (.slice n' cs')):=by rfl) (ha:l6[j]? =some ⟨.load none (.loc k),d',g',u'⟩:=by rfl) (hk:lk n rl k=some (.ptr id off):=by rfl) (ht:p6.any (Touch.bX id off)=false:=by rfl) (hl:l.may id=true:=by rfl) (ho:H[id]? =some (.cells old):=by rfl) (hc:old[off]? =some (C9 1 enc xs):=by rfl)
  (hy:rq T n rl y= .d (.slice 1 [c]):=by rfl) (hN:old.set off (.d (A5 enc xs))=new:=by rfl) (hH:H.set id (.cells new)=H2:=by simp only [List.set_cons_zero,List.set_cons_succ]<;>rfl)
  (h2:Ry A l b dr l6 ops T H2 (n+1) (C9 1 enc (xs++[a])::rl) (.cell id off::p6) Q):Ry A l b dr l6 (⟨.append 1 bytes false (.loc j) y,none,none,u⟩::ops) T H n rl p6 Q :=
 Ry.ae1 hj ha hk ht hl ho hc hy rfl hr (by decide) (by
  have e1:C9 1 enc (xs++[a])= .own 1 (xs.length+1) (xs.flatMap enc++[c]):=by simp [C9,he]
  rw [e1] at h2;subst hH hN;exact h2)
def soO {id off j z n0:Nat}{y:u9}{u:List Nat}{cs:List Data}{old new:List j3}{H2:q8}{r2:List j3}(hy:rq T n rl y= .ptr id off:=by rfl)(hj:lk n rl j=some (.own z n0 cs):=by rfl)(hjb:D9 (j+1) n=true:=by rfl)(hl:l.may id=true:=by rfl)
  (ho:H[id]? =some (.cells old):=by rfl) (hq:D9 (off+1) old.length=true:=by rfl) (hd:dr=true->D9 (uB l6) n=true:=by intro;rfl) (hN:old.set off (.own z n0 cs)=new:=by rfl) (hH:H.set id (.cells new)=H2:=by simp only [List.set_cons_zero,List.set_cons_succ]<;>rfl)
  (hS:rl.set (n - (j+1)) (.d (.slice n0 cs))=r2:=by simp only [Nat.reduceAdd,Nat.reduceSub,List.set_cons_zero,List.set_cons_succ]<;>rfl)
  (h2:Ry A l b dr l6 ops T H2 (n+1) (.any::r2) (.obj id::p6) Q):Ry A l b dr l6 (⟨.store 1 y (.loc j),none,none,u⟩::ops) T H n rl p6 Q:=fun hn=>by
 subst hH hN hS;have hq' :off<old.length:=k9 hq;have hjl:rl.reverse[j]? =some (.own z n0 cs):=by rw [gN hn];exact hj
 have hL:∀ r:List j3,(rl.reverse++ .any::r)[j]? =some (.own z n0 cs):=fun r=>uT hjl _
 have hjn:j<rl.reverse.length:=by simp only [List.length_reverse,hn];exact k9 hjb
 have h3:∀ (a:j3) (r:List j3),(rl.reverse++a::r).set j (.d (.slice n0 cs))=rl.reverse.set j (.d (.slice n0 cs))++a::r:=fun a r=>List.set_append_left _ _ hjn
 have hlen:(rl.reverse.set j (.d (.slice n0 cs))).length=rl.reverse.length:=by simp
 have h4:∀ (a v:j3) (r:List j3),(rl.reverse.set j (.d (.slice n0 cs))++a::r).set rl.reverse.length v=rl.reverse.set j (.d (.slice n0 cs))++v::r:=fun a v r=>by rw [<- hlen];exact I5 _ _ _ _
 have h1:splice old off [.own z n0 cs]=old.set off (.own z n0 cs):=by
  simp only [splice,List.length_singleton];rw [List.set_eq_take_append_cons_drop,if_pos hq'];simp
 have hw:wr H id off [.own z n0 cs]=some (H.set id (.cells (old.set off (.own z n0 cs)))):=by
  simp only [wr,ho,List.length_singleton,h1];rw [if_pos (by omega)]
 have XD :=h2.to (by simp [hn]);rw [<- Fu hn hjb] at XD;have e1:∀ k,0<=k->y8 (N7 A k l b) l6 none rl.reverse.length ⟨.store 1 y (.loc j),none,none,u⟩ ⟨T,H,rl.reverse++ .any::j4 ops.length .any,p6⟩=some (⟨T,H.set id (.cells (old.set off (.own z n0 cs))),rl.reverse.set j (.d (.slice n0 cs))++ .any::j4 ops.length .any,.obj id::p6⟩,[]):=fun k _=>by
  have hl' :(N7 A k l b).lim.may id=true:=hl;have hx:Abs.E1 ⟨T,H,rl.reverse++ .any::j4 ops.length .any,p6⟩ (.loc j)=(.own z n0 cs,⟨T,H,rl.reverse.set j (.d (.slice n0 cs))++ .any::j4 ops.length .any,p6⟩):=by
   simp only [Abs.E1,hL,h3]
  have hb0:B8 [j3.own z n0 cs]<=id+1:=Nat.zero_le _;have hc1:(j3.own z n0 cs).cells? =some [.own z n0 cs]:=rfl;simp only [y8,z7,E5,z6.E3,if_true,E7,Y9 hn,hy,Q6,hx,hc1,List.length_singleton,hl',hb0,true_or,and_self,hw,put,h4,u7,G4]
 cases dr with
 |false=>exact Rx.stepT (N1:=0) (rs:=[]) hlen e1 XD
 |true =>
  refine Rx.IY (N1:=0) (rs:=[]) hlen rfl rfl e1 (fun h=> ?_) XD;have:=k9 (hd rfl);simp [hn] at h;omega
end S
end
section
variable {A:Prog} {l:F2} {b:Nat}
variable {dr:Bool} {l6 ops:List p9} {T:List j3} {H:q8} {n:Nat} {rl:List j3} {p6:List Touch} {Q:List j3->q8->List j3->Prop}
namespace S
def cv1 {f:FuncId}{x:u9}{xs:List u9}{u:List Nat}{v:j3}{first caps args:List j3}{m:Nat}{H0 H1:q8}{l2:F2}(hc:Pm A f args H0 l2 v H1)(XE:H1.length=m)(h2:Ry A l b dr l6 ops T H (n+1) (v::rl) p6 Q)(uu:R7 ((H.take m).drop l.strict)<=m:=by exact Nat.zero_le _)(hcl:E9 H l.strict 8 (B8 args)=m:=by rfl)
  (To:H.take m=H0:=by rfl) (hle:D9 m H.length=true:=by rfl) (mK:(⟨0,m,m,D8 H l.strict m⟩:F2)=l2:=by rfl) (hx:rq T n rl x= .func f first caps:=by rfl)
  (ha:first++xs.map (rq T n rl)++caps=args:=by rfl) (gI:A.prom f=false:=by rfl) (hm:A.mode f=1:=by rfl):Ry A l b dr l6 (⟨.aD x xs,none,none,u⟩::ops) T H n rl p6 Q:=fun hn=>by
 obtain ⟨M,hc⟩:=hc;subst To;refine Rx.step (N1:=M) (rs:=[]) rfl rfl (fun k hk=> ?_) (fun rs=>by simp [K4]) (h2.to hn);have h3:D7 (N7 A k l b) rl.reverse.length f args ⟨T,H,rl.reverse++ .any::j4 ops.length .any,p6⟩=some (put ⟨T,H,rl.reverse++ .any::j4 ops.length .any,p6⟩ rl.reverse.length v) :=
  sC gI hm hcl (k9 hle) uu mK (hc k hk) XE
 simp only [y8,z7,E5,z6.E3,if_true,E7,Y9 hn,hx,jS hn,ha,h3,u7,G4,put,I5]
def cv0 {f:FuncId}{x:u9}{xs:List u9}{u:List Nat}{v:j3}{first caps args:List j3}{m:Nat}{H0 HD H1 H2:q8}{l2:F2}(hc:Pm A f args H0 l2 v H1)(XE:H1.length=m)(uu:R7 ((H.take m).drop l.strict)<=m:=by exact Nat.zero_le _)(hcl:E9 H l.strict 8 (B8 args)=m:=by rfl)
  (To:H.take m=H0:=by rfl) (hle:D9 m H.length=true:=by rfl) (mK:(⟨l.Tc,l.SU,m,D8 H l.strict m⟩:F2)=l2:=by rfl) (hx:rq T n rl x= .func f first caps:=by rfl)
  (ha:first++xs.map (rq T n rl)++caps=args:=by rfl) (gI:A.prom f=false:=by rfl) (hm:A.mode f=0:=by rfl) (hD:H.drop m=HD:=by rfl) (hA:H1++HD=H2:=by first|(simp only [List.cons_append,List.nil_append]<;>rfl)|rfl)
  (h2:Ry A l b false l6 ops T H2 (n+1) (v::rl) (.below m::p6) Q):Ry A l b false l6 (⟨.aD x xs,none,none,u⟩::ops) T H n rl p6 Q:=fun hn=>by
 obtain ⟨M,hc⟩:=hc;subst To hD hA;refine Rx.stepT (N1:=M) (rs:=[]) rfl (fun k hk=> ?_) (h2.to hn);have h3:D7 (N7 A k l b) rl.reverse.length f args ⟨T,H,rl.reverse++ .any::j4 ops.length .any,p6⟩=some (put ⟨T,H1++H.drop m,rl.reverse++ .any::j4 ops.length .any,.below m::p6⟩ rl.reverse.length v) :=
  nj gI hm hcl (k9 hle) uu mK (hc k hk) XE
 simp only [y8,z7,E5,z6.E3,if_true,E7,Y9 hn,hx,jS hn,ha,h3,u7,G4,put,I5]
end S
end
section
variable {A:Prog} {l:F2} {b:Nat}
def LC (l6:List p9)(na k:Nat)(e:kg):Prop :=
 na ∉ e.reads/\(k<uB l6->∀ rs,na ∉ rs->K4 e.Hp rs=false)/\e.Fz<=na/\(∀ i,l6[k]? =some i->i.op.B4=true->e.id=na)/\(∀ i,l6[k]? =some i->i.op.Yv=false->e.reads=[])
def Rz (A:Prog)(l:F2)(b:Nat)(l6 ops:List p9)(T:List j3)(H:q8)(n:Nat)(rl:List j3)(p6:List Touch)(na:Nat)(Q:List j3->q8->List j3->Prop):Prop :=
 rl.length=n->∃ r N,Q r.T r.H r.L/\∀ k,N<=k->∃ lg:List kg,R9 (N7 A k l b) l6 ops n na ⟨T,H,rl.reverse++j4 ops.length .any,p6⟩=some (r,lg)/\lg.length=ops.length/\∀ j e,lg[j]? =some e->LC l6 na (n+j) e
variable {l6 ops:List p9} {T:List j3} {H:q8} {n:Nat} {rl:List j3} {p6:List Touch} {na:Nat} {Q:List j3->q8->List j3->Prop}
def Rn.aX5 {T:List j3}{H:q8}{s:Nat}(zD:aB ops=[.dead])(vZ:slotsOf ops=[.slot s])(hu:∀ i,i ∈ ops->∀ e,e ∈ i.bT->e<ops.length)(h:Rz A l b ops ops T (H++[.dead]) 0 [] [.slot s] H.length Q):Rn A l b ops true T H Q:=by
 obtain ⟨r,N,hq,h⟩:=h rfl;refine ⟨r,N,hq,fun n hn=> ?_⟩;obtain ⟨lg,e1,e2,e3⟩:=h n hn;simp only [List.reverse_nil,List.nil_append,Nat.zero_add] at e1 e3;have ay2:wu ops lg=true:=by
  simp only [wu,L1];rintro ⟨i,le⟩ BY e he;obtain ⟨j,hj,hji⟩:=List.getElem_of_mem BY;simp only [List.length_zip] at hj;have hj1:j<ops.length:=by omega
  have hj2:j<lg.length:=by omega
  simp only [List.getElem_zip,Prod.mk.injEq] at hji;obtain ⟨rfl,rfl⟩:=hji;have hi:ops[j] ∈ ops:=List.getElem_mem hj1;have hlt:=hu _ hi e he;have he2:e<lg.length:=by omega
  rw [l5 he2];have c1:=e3 j _ (l5 hj2);have c2:=e3 e _ (l5 he2);cases hr:ops[j].op.Yv with
  |true =>
   have hb:=yK hi hr he;have h5:=c2.2.1 hb _ c1.1;have ha:ops[j].op.B4=false:=by
    cases ho:ops[j].op<;>rw [ho] at hr<;>first|rfl|(cases hr)
   have ha:ops[j].op.makes=false:=by
    cases ho:ops[j].op<;>rw [ho] at hr<;>first|rfl|(cases hr)
   simp [h5,ha]
  |false =>
   have h5:=c1.2.2.2.2 _ (l5 hj1) hr;cases hm:ops[j].op.makes with
   |false=>simp [h5,K4]
   |true =>
    have ha:ops[j].op.B4=true:=by
     cases ho:ops[j].op<;>rw [ho] at hm<;>first|exact hm|(cases hm)
    have h7:=c1.2.2.2.1 _ (l5 hj1) ha;have h6:=c2.2.2.1;simp [h5,K4];omega
 simp only [Q5,if_true,zD,vZ,e1,ay2]
def Rz.nil (h:Q T H rl.reverse):Rz A l b l6 [] T H n rl p6 na Q:=fun _=>⟨⟨T,H,rl.reverse,p6⟩,0,h,fun _ _=>⟨[],by simp [R9],rfl,fun j e h=>by simp at h⟩⟩
def Rz.step {i:p9}{T' :List j3}{H' :q8}{v:j3}{eW :List Touch}{rs:List Nat}{N1:Nat}(hk:∀ L,G8 ⟨T,H,L,p6⟩ i.op=false)(hi:l6[n]? =some i)
  (h:rl.length=n->∀ k,N1<=k->y8 (N7 A k l b) l6 (if i.op.B4 then some na else none) n i ⟨T,H,rl.reverse++ .any::j4 ops.length .any,p6⟩=some (⟨T',H',rl.reverse++v::j4 ops.length .any,eW⟩,rs))
  (hr:na ∉ rs) (ht:n<uB l6->∀ rs,na ∉ rs->K4 (lZ (if i.op.B4 then some na else none)++eW.take (eW.length - p6.length)) rs=false) (TB:∀ k,K6 (N7 A k l b) ⟨T,H,rl.reverse++ .any::j4 ops.length .any,p6⟩ i.op<=na)
  (hn2:i.op.B4=true->∀ j,j ∈ ops->j.op.B4=false) (h2:∀ na',(i.op.B4=false->na' =na)->Rz A l b l6 ops T' H' (n+1) (v::rl) eW na Q/\(i.op.B4=true->∀ k r lg,R9 (N7 A k l b) l6 ops (n+1) na ⟨T',H',(v::rl).reverse++j4 ops.length .any,eW⟩=some (r,lg)->R9 (N7 A k l b) l6 ops (n+1) (na+1) ⟨T',H',(v::rl).reverse++j4 ops.length .any,eW⟩=some (r,lg))) :
  Rz A l b l6 (i::ops) T H n rl p6 na Q:=fun hn=>by
 obtain ⟨h2,h2a⟩:=h2 na (fun _=>rfl);obtain ⟨r,N,hq,h2⟩:=h2 (by simp [hn]);refine ⟨r,max N N1,hq,fun k hkk=> ?_⟩;obtain ⟨lg,e1,e2,e3⟩:=h2 k (by omega);have h4:=h hn k (by omega);have e1' :R9 (N7 A k l b) l6 ops (n+1) (if i.op.B4 then na+1 else na) ⟨T',H',rl.reverse++v::j4 ops.length .any,eW⟩=some (r,lg):=by
  cases ha:i.op.B4 with
  |false=>simpa using e1
  |true=>simpa using h2a ha k r lg e1
 refine ⟨dN (N7 A k l b) i (if i.op.B4 then some na else none) ⟨T,H,rl.reverse++ .any::j4 ops.length .any,p6⟩ ⟨T',H',rl.reverse++v::j4 ops.length .any,eW⟩ rs::lg,?_,by simp [e2],?_⟩
 .simp only [R9,List.length_cons,List.replicate_succ,jD,hk,Bool.false_and,j5,if_false,h4,e1']
 .intro j e he
  cases j with
  |zero =>
   simp only [List.getElem?_cons_zero,Option.some.injEq] at he;subst he;refine ⟨hr,fun hb=>ht (by omega),TB k,fun i' hi' ha=> ?_,fun i' hi' hr' => ?_⟩
   .rw [Nat.add_zero,hi] at hi'
    cases hi';simp [dN,ha]
   .rw [Nat.add_zero,hi] at hi'
    cases hi';exact AO h4 hr'
  |succ j =>
   simp only [List.getElem?_cons_succ] at he;have:=e3 j e he
   rwa [Nat.add_assoc,Nat.add_comm 1 j] at this
theorem Ar {E:Env}:∀ (ops:List p9) (k na na' :Nat) (st:F4),(∀ j,j ∈ ops->j.op.B4=false)->R9 E l6 ops k na st=R9 E l6 ops k na' st
 |[],_,_,_,_,_=>rfl
 |i::ops,k,na,na',st,h=>by
  have hi:=h i (List.mem_cons_self);simp only [R9,hi,j5,if_false];cases jD E l6 none k i st with
  |none=>rfl
  |some x=>simp only [Ar ops (k+1) na na' x.1 (fun j hj=>h j (List.mem_cons_of_mem _ hj))]
end
section
variable {A:Prog} {l:F2} {b:Nat}
variable {l6 ops:List p9} {T:List j3} {H:q8} {n:Nat} {rl:List j3} {p6:List Touch} {na:Nat} {Q:List j3->q8->List j3->Prop}
def Rz.simple {i:p9}{v:j3}{rs:List Nat}{N1:Nat}(ha:i.op.B4=false)(hk:∀ L,G8 ⟨T,H,L,p6⟩ i.op=false)(hi:l6[n]? =some i)
  (h:rl.length=n->∀ k,N1<=k->y8 (N7 A k l b) l6 none n i ⟨T,H,rl.reverse++ .any::j4 ops.length .any,p6⟩=some (⟨T,H,rl.reverse++v::j4 ops.length .any,p6⟩,rs))
  (hr:na ∉ rs) (hs:∀ k,K6 (N7 A k l b) ⟨T,H,rl.reverse++ .any::j4 ops.length .any,p6⟩ i.op<=na) (h2:Rz A l b l6 ops T H (n+1) (v::rl) p6 na Q):Rz A l b l6 (i::ops) T H n rl p6 na Q :=
 Rz.step (N1:=N1) hk hi (fun hn k hk=>by rw [ha];exact h hn k hk) hr (fun _ rs _=>by rw [ha];simp [lZ,K4]) hs (fun h=>by rw [ha] at h;cases h) (fun _ _=>⟨h2,fun h=>by rw [ha] at h;cases h⟩)
namespace S
def zn (h:Q T H rl.reverse):Rz A l b l6 [] T H n rl p6 na Q:=Rz.nil h
def zp {op:z6}{u:List Nat}{rs:List Nat}(v:j3)(hp:o6 (rq T n rl) H op=some (v,rs))(h2:Rz A l b l6 ops T H (n+1) (v::rl) p6 na Q)(hr:na ∉ rs:=by simp)(hE:op.E3=false:=by rfl)(ha:op.B4=false:=by rfl)(hk:∀ L,G8 ⟨T,H,L,p6⟩ op=false:=by intro;rfl)(hi:l6[n]? =some ⟨op,none,none,u⟩:=by rfl)
  (hs:∀ k,K6 (N7 A k l b) ⟨T,H,rl.reverse++ .any::j4 ops.length .any,p6⟩ op<=na:=by intro;exact Nat.zero_le _):Rz A l b l6 (⟨op,none,none,u⟩::ops) T H n rl p6 na Q:=by
 refine Rz.simple (N1:=0) (rs:=rs) ha hk hi (fun hn k _=> ?_) hr hs h2;have WQ:∀ x,op≠ .R2 x:=by
  rintro x rfl;simp [o6] at hp
 have h4:o6 (Abs.G9 T (rl.reverse++ .any::j4 ops.length .any)) H op=some (v,rs):=by
  rw [show Abs.G9 T (rl.reverse++ .any::j4 ops.length .any)=rq T n rl from funext fun x=>Y9 hn _ x];exact hp
 have WT:∀ (a:j3) (r:List j3),(rl.reverse++a::r).set n v=rl.reverse++v::r:=fun a r=>by rw [<- hn,<- List.length_reverse];exact I5 _ _ _ _
 have h3:E5 (N7 A k l b) l6 none n op ⟨T,H,rl.reverse++ .any::j4 ops.length .any,p6⟩=some (⟨T,H,rl.reverse++v::j4 ops.length .any,p6⟩,rs):=by
  cases op<;>first
   |exact absurd rfl (WQ _)
   |(simp only [E5,hE,j5,if_false,h4,put,WT];done)
   |(simp [z6.E3] at hE;done)
 simp only [y8,z7,h3,u7,G4]
def zm {x:u9}{u:List Nat}{v:j3}(h2:Rz A l b l6 ops T H (n+1) (v::rl) p6 na Q)(hx:Oq T n rl x v:=by exact ⟨rfl,rfl⟩)(hi:l6[n]? =some ⟨.R2 x,none,none,u⟩:=by rfl):Rz A l b l6 (⟨.R2 x,none,none,u⟩::ops) T H n rl p6 na Q:=by
 refine Rz.simple (N1:=0) (rs:=[]) rfl (fun _=>rfl) hi (fun hn k _=> ?_) (by simp) (fun k=>Nat.zero_le _) h2;have WT:∀ (a:j3) (r:List j3),(rl.reverse++a::r).set n v=rl.reverse++v::r:=fun a r=>by rw [<- hn,<- List.length_reverse];exact I5 _ _ _ _
 simp only [y8,z7,E5,z6.E3,j5,if_false,(hx.op hn).E1,put,WT,u7,G4]
def zc {f:FuncId}{xs:List u9}{u:List Nat}{v:j3}{args:List j3}{m:Nat}{H0 H1:q8}{l2:F2}(hc:Pm A f args H0 l2 v H1)(XE:H1.length=m)(h2:Rz A l b l6 ops T H (n+1) (v::rl) p6 na Q)(hmn:m<=na:=by decide)(uu:R7 ((H.take m).drop l.strict)<=m:=by exact Nat.zero_le _)(hcl:E9 H l.strict 8 (B8 args)=m:=by rfl)
  (To:H.take m=H0:=by rfl) (hle:D9 m H.length=true:=by rfl) (mK:(⟨0,m,m,D8 H l.strict m⟩:F2)=l2:=by rfl)
  (ha:xs.map (rq T n rl)=args:=by rfl) (gI:A.prom f=false:=by rfl) (hm:A.mode f=1:=by rfl) (hi:l6[n]? =some ⟨.call f xs,none,none,u⟩:=by rfl) (hn0:rl.length=n:=by rfl):Rz A l b l6 (⟨.call f xs,none,none,u⟩::ops) T H n rl p6 na Q:=by
 obtain ⟨M,hc⟩:=hc;subst To;have ah8 :∀ k,(N7 A k l b).prom f=false:=fun _=>gI
 refine Rz.simple (N1:=M) (rs:=[]) rfl (fun _=>rfl) hi (fun hn k hk=> ?_) (by simp) (fun k=> ?_) h2
 .have WT:∀ (a:j3) (r:List j3),(rl.reverse++a::r).set n v=rl.reverse++v::r:=fun a r=>by rw [<- hn,<- List.length_reverse];exact I5 _ _ _ _
  have h3:D7 (N7 A k l b) n f args ⟨T,H,rl.reverse++ .any::j4 ops.length .any,p6⟩=some (put ⟨T,H,rl.reverse++ .any::j4 ops.length .any,p6⟩ n v) :=
   sC gI hm hcl (k9 hle) uu mK (hc k hk) XE
  simp only [y8,z7,E5,z6.E3,if_true,E7,jS hn,ha,h3,u7,G4,put,WT]
 .have aR6 :E9 H (N7 A k l b).lim.strict 8 (B8 args)=m:=hcl
  simp only [K6,ah8,j5,if_false,jS hn0,ha,aR6];exact hmn
def za {zero:List j3}{u:List Nat}{s:Nat}{T2:List j3}{H2:q8}(hs:T[s]?.isSome=true:=by rfl)(htc:p6.any (Touch.T4 s)=true:=by rfl)(hT:T.set s (.ptr na 0)=T2:=by simp only [List.set_cons_zero,List.set_cons_succ]<;>rfl)(hH:H.set na (.cells zero)=H2:=by simp only [List.set_cons_zero,List.set_cons_succ]<;>rfl)
  (hi:l6[n]? =some ⟨.alloc zero,some s,none,u⟩:=by rfl) (hno:ops.all (fun j=> !j.op.B4)=true:=by rfl) (h2:Rz A l b l6 ops T2 H2 (n+1) (.ptr na 0::rl) p6 na Q):Rz A l b l6 (⟨.alloc zero,some s,none,u⟩::ops) T H n rl p6 na Q:=by
 subst hT hH;have hs:s<T.length:=by
  rcases s5 s T.length with h|h
  .exact h
  .rw [H6 h] at hs;cases hs
 have ay6 :∀ j,j ∈ ops->j.op.B4=false:=fun j hj=>by simpa using L1.1 hno j hj
 refine Rz.step (N1:=0) (rs:=[]) (fun _=>rfl) hi (fun hn k _=> ?_) (by simp) (fun _ rs hrs=> ?_) (fun k=>Nat.zero_le _) (fun _=>ay6) (fun _ _=>⟨h2,fun _ k r lg h=>by rw [Ar ops _ (na+1) na _ ay6];exact h⟩)
 .have WT:∀ (a v:j3) (r:List j3),(rl.reverse++a::r).set n v=rl.reverse++v::r:=fun a v r=>by rw [<- hn,<- List.length_reverse];exact I5 _ _ _ _
  have h3:∀ r:List j3,(rl.reverse++ .ptr na 0::r)[n]? =some (.ptr na 0):=fun r=>by rw [<- hn,<- List.length_reverse];simp
  simp only [z6.B4,if_true,y8,z7,E5,z6.E3,E7,F0,newId,Option.getD_some,put,WT,u7,W7,hs,htc,Abs.E1,h3,decide_true,Bool.and_self];simp [Abs.G9,j3.I7,h3]
 .simp only [z6.B4,if_true,lZ,Nat.sub_self,List.take_zero,List.append_nil,K4,List.any_cons,List.any_nil,Bool.or_false]
  simp only [Touch.J3];rw [List.any_eq_false];intro x hx;simp;rintro rfl;exact hrs hx
def zs {m:Nat}{x y:u9}{u:List Nat}{v:j3}{cs old:List j3}{H2:q8}(hd:D9 (uB l6) n=true:=by rfl)(hy:rq T n rl y= .ptr na 0:=by rfl)(hx:Oq T n rl x v:=by exact ⟨rfl,rfl⟩)(hc:v.cells? =some cs:=by rfl)(hm:cs.length=m:=by rfl)(hl:l.may na=true:=by rfl)(hb:B8 cs=0:=by rfl)
  (ho:H[na]? =some (.cells old):=by rfl) (hq:old.length=m:=by rfl) (hH:H.set na (.cells cs)=H2:=by simp only [List.set_cons_zero,List.set_cons_succ]<;>rfl) (hi:l6[n]? =some ⟨.store m y x,none,none,u⟩:=by rfl)
  (h2:Rz A l b l6 ops T H2 (n+1) (.any::rl) (.obj na::p6) na Q):Rz A l b l6 (⟨.store m y x,none,none,u⟩::ops) T H n rl p6 na Q:=by
 have hw:wr H na 0 cs=some H2:=by
  simp [wr,ho,hm,hq,splice,<- hH];rw [n5 (by omega)];simp
 refine Rz.step (N1:=0) (rs:=[]) (fun _=>rfl) hi (fun hn k _=> ?_) (by simp) (fun h=> ?_) (fun k=>Nat.zero_le _) (fun h=>by cases h) (fun _ _=>⟨h2,fun h=>by cases h⟩)
 .have hl' :(N7 A k l b).lim.may na=true:=hl
  have hb' :B8 cs<=na+1:=by omega
  have WT:∀ (a v:j3) (r:List j3),(rl.reverse++a::r).set n v=rl.reverse++v::r:=fun a v r=>by rw [<- hn,<- List.length_reverse];exact I5 _ _ _ _
  simp only [z6.B4,j5,if_false,y8,z7,E5,z6.E3,if_true,E7,Y9 hn,hy,Q6,(hx.op hn).E1,hc,hm,hl',hb',true_or,and_self,hw,put,WT,u7,G4]
 .have:=k9 hd
  omega
end S
end
section
variable {A:Prog} {l:F2} {b:Nat}
variable {dr:Bool} {l6 ops:List p9} {T:List j3} {H:q8} {n:Nat} {rl:List j3} {p6:List Touch} {Q:List j3->q8->List j3->Prop}
namespace S
def o12 {x y:u9}{u:List Nat}{z1 z2:j3}{c d:Data}(h2:Ry A l b dr l6 ops T H (n+1) (.own 1 2 [c,d]::rl) p6 Q)(hx:rq T n rl x= .d c:=by rfl)(hy:rq T n rl y= .d d:=by rfl):Ry A l b dr l6 (⟨.A2 1 2 [z1,z2] [(0,1,x),(1,1,y)] false,none,none,u⟩::ops) T H n rl p6 Q :=
 Ry.pure (rs:=[]) rfl (by simp [o6,bA,hx,hy,j3.cells?,splice,M5,j3.data?,j3.one]) h2
def lq2 {α β:Type}{e1:α->List Data}{e2:β->List Data}{xs:List α}{ys:List β}{x:u9}{u:List Nat}{id z1 z2:Nat}(h2:Ry A l b dr l6 ops T H (n+1) (.agg [.d (A5 e1 xs),.d (A5 e2 ys)]::rl) p6 Q)(hx:rq T n rl x= .ptr id 0:=by rfl)(ho:H[id]? =some (.cells [C9 z1 e1 xs,C9 z2 e2 ys]):=by rfl) :
  Ry A l b dr l6 (⟨.load (some 2) x,none,none,u⟩::ops) T H n rl p6 Q :=
 Ry.pure (rs:=[id]) rfl (by simp [o6,hx,rd,ho,C9,A5,j3.I7]) h2
end S
end
section
variable {A:Prog} {l:F2} {b:Nat}
variable {l6 ops:List p9} {T:List j3} {H:q8} {n:Nat} {rl:List j3} {p6:List Touch} {na:Nat} {Q:List j3->q8->List j3->Prop}
namespace S
def zix {α:Type} [Inhabited α] {enc:α->List Data}{xs:List α}{sz:Nat}{e:Int}{x y:u9}{k:IntKind}{u:List Nat}(h0:0<=e/\e<xs.length)(h2:Rz A l b l6 ops T H (n+1) (.S9 (enc (nth xs e.toNat)++(xs.drop (e.toNat+1)).flatMap enc)::rl) p6 na Q)(hx:rq T n rl x= .d (A5 enc xs):=by rfl)(hy:rq T n rl y= .d (.int k e):=by rfl)(hs:∀ a,(enc a).length=sz:=by intro;rfl)
  (hi:l6[n]? =some ⟨.C8 sz x y,none,none,u⟩:=by rfl):Rz A l b l6 (⟨.C8 sz x y,none,none,u⟩::ops) T H n rl p6 na Q:=by
 refine zp (rs:=[]) _ ?_ h2 (hi:=hi);have hl:e.toNat<xs.length:=by omega
 have h3:=lM hs xs e.toNat hl;rw [<- J9 hl] at h3;simp only [o6,hx,hy,A5,h0,and_self,if_true,h3]
def zle {cs rest:List Data}{x:u9}{m:Nat}{u:List Nat}(h2:Rz A l b l6 ops T H (n+1) (.agg (cs.map .d)::rl) p6 na Q)(hx:rq T n rl x= .S9 (cs++rest):=by rfl)(hm:cs.length=m:=by rfl)(hi:l6[n]? =some ⟨.load (some m) x,none,none,u⟩:=by rfl):Rz A l b l6 (⟨.load (some m) x,none,none,u⟩::ops) T H n rl p6 na Q:=by
 refine zp (rs:=[]) _ ?_ h2 (hi:=hi);subst hm;simp [o6,hx]
def soD {dr:Bool}{m id:Nat}{x y:u9}{u:List Nat}{v:j3}{cs old:List j3}{H2:q8}(hd:D9 (uB l6) n=true:=by rfl)(hy:rq T n rl y= .ptr id 0:=by rfl)(hx:Oq T n rl x v:=by exact ⟨rfl,rfl⟩)(hc:v.cells? =some cs:=by rfl)(hm:cs.length=m:=by rfl)(hl:l.may id=true:=by rfl)(hb:B8 cs=0:=by rfl)
  (ho:H[id]? =some (.cells old):=by rfl) (hq:old.length=m:=by rfl) (hH:H.set id (.cells cs)=H2:=by simp only [List.set_cons_zero,List.set_cons_succ]<;>rfl)
  (h2:Ry A l b dr l6 ops T H2 (n+1) (.any::rl) (.obj id::p6) Q):Ry A l b dr l6 (⟨.store m y x,none,none,u⟩::ops) T H n rl p6 Q :=
 Mx hd hy hx hc hm hl (by omega) (by simp [wr,ho,hm,hq,splice,<- hH];rw [n5 (by omega)];simp) h2
end S
end
section
variable {A:Prog} {l:F2} {b:Nat}
variable {dr:Bool} {l6 ops:List p9} {T:List j3} {H:q8} {n:Nat} {rl:List j3} {p6:List Touch} {Q:List j3->q8->List j3->Prop}
namespace S
def mk {u:List Nat}{id:Nat}{H2:q8}(hi:H.length=id:=by simp only [List.length_cons,List.length_nil,Nat.reduceAdd]<;>rfl)(hH:H++[.map []]=H2:=by simp only [List.cons_append,List.nil_append]<;>rfl)
  (h2:Ry A l b false l6 ops T H2 (n+1) (.map id::rl) p6 Q):Ry A l b false l6 (⟨.makeMap,none,none,u⟩::ops) T H n rl p6 Q:=fun hn=>by
 subst hi hH;refine Rx.stepT (N1:=0) (rs:=[]) rfl (fun n _=> ?_) (h2.to hn);simp only [y8,z7,E5,z6.E3,if_true,E7,F0,newId,Option.getD_none,put,I5,u7,G4]
def bso {sz len:Nat}{zero:List j3}{parts:List (Nat×Nat×u9)}{u:List Nat}{id:Nat}{H2:q8}(cs:List j3)(hr:bA zero (parts.map fun p=>(p.1,p.2.1,rq T n rl p.2.2))=some cs)(h0:0<sz/\cs.length=len * sz)(hi:H.length=id:=by simp only [List.length_cons,List.length_nil,Nat.reduceAdd]<;>rfl)(hH:H++[.cells cs]=H2:=by simp only [List.cons_append,List.nil_append]<;>rfl)
  (h2:Ry A l b false l6 ops T H2 (n+1) (.B6 id sz 0 len::rl) p6 Q):Ry A l b false l6 (⟨.A2 sz len zero parts true,none,none,u⟩::ops) T H n rl p6 Q:=fun hn=>by
 subst hi hH;refine Rx.stepT (N1:=0) (rs:=[]) rfl (fun k _=> ?_) (h2.to hn);have hr' :bA zero (parts.map fun p=>(p.1,p.2.1,Abs.G9 T (rl.reverse++ .any::j4 ops.length .any) p.2.2))=some cs:=by
  rw [show Abs.G9 T (rl.reverse++ .any::j4 ops.length .any)=rq T n rl from funext fun x=>Y9 hn _ x];exact hr
 simp only [y8,z7,E5,z6.E3,if_true,E7,hr',h0,and_self,F0,newId,Option.getD_none,put,I5,u7,G4]
def lrT {x:u9}{u:List Nat}{id sz lo len s:Nat}{T2:List j3}(hx:rq T n rl x= .B6 id sz lo len:=by rfl)(hs:T[s]?.isSome=true:=by rfl)(hT:T.set s (.d (.int .i64 (len:Int)))=T2:=by simp only [List.set_cons_zero,List.set_cons_succ]<;>rfl)
  (h2:Ry A l b dr l6 ops T2 H (n+1) (.d (.int .i64 (len:Int))::rl) (.slot s::p6) Q):Ry A l b dr l6 (⟨.len x,some s,none,u⟩::ops) T H n rl p6 Q :=
 Ry.ve (v:= .d (.int .i64 (len:Int))) (rs:=[]) rfl (by simp only [o6,hx,i64]) rfl rfl hs (by rw [hT];exact h2)
def ixs {x y:u9}{u:List Nat}{id sz lo len i:Nat}{k:IntKind}(hi:i<len)(h2:Ry A l b dr l6 ops T H (n+1) (.ptr id (lo+i * sz)::rl) p6 Q)(hx:rq T n rl x= .B6 id sz lo len:=by rfl)(hy:rq T n rl y= .d (.int k ((i:Nat):Int)):=by rfl):Ry A l b dr l6 (⟨.C8 sz x y,none,none,u⟩::ops) T H n rl p6 Q :=
 Ry.pure (rs:=[]) rfl (by
  have h1:(i:Int)<len:=by omega
  simp [o6,hx,hy,h1]) h2
def WV {x:u9}{u:List Nat}{id o m:Nat}{vs:List j3}(hr:rd H id o m=some vs)(hv:vs.map j3.I7=vs)(h2:Ry A l b dr l6 ops T H (n+1) (.agg vs::rl) p6 Q)(hx:rq T n rl x= .ptr id o:=by rfl):Ry A l b dr l6 (⟨.load (some m) x,none,none,u⟩::ops) T H n rl p6 Q :=
 Ry.pure (rs:=[id]) rfl (by simp only [o6,hx,hr,hv]) h2
def soB {m id:Nat}{x y:u9}{u:List Nat}{v:j3}{cs old:List j3}{H2:q8}(hb:B8 cs<=id+1)(hy:rq T n rl y= .ptr id 0:=by rfl)(hx:Oq T n rl x v:=by exact ⟨rfl,rfl⟩)(hc:v.cells? =some cs:=by rfl)(hm:cs.length=m:=by rfl)(hl:l.may id=true:=by rfl)
  (ho:H[id]? =some (.cells old):=by rfl) (hq:old.length=m:=by rfl) (hH:H.set id (.cells cs)=H2:=by simp only [List.set_cons_zero,List.set_cons_succ]<;>rfl)
  (h2:Ry A l b false l6 ops T H2 (n+1) (.any::rl) (.obj id::p6) Q):Ry A l b false l6 (⟨.store m y x,none,none,u⟩::ops) T H n rl p6 Q :=
 pY hy hx hc hm hl hb (by simp [wr,ho,hm,hq,splice,<- hH];rw [n5 (by omega)];simp) h2
end S
def R8 {mask:List Bool}{strict m:Nat}{T:List j3}{H:q8}(h1:B8 (V8 mask T)<=m)(h2:R7 ((H.take m).drop strict)<=m):clean mask strict m ⟨T,H⟩=⟨V8 mask T,H.take m⟩:=by
 simp [clean,h1,h2]
end
section
variable {A:Prog} {l:F2} {b:Nat}
variable {l6 ops:List p9} {T:List j3} {H:q8} {n:Nat} {rl:List j3} {p6:List Touch} {Q:List j3->q8->List j3->Prop}
namespace S
def cp {f:FuncId}{xs:List u9}{u:List Nat}{v:j3}{args:List j3}{H1:q8}(hc:Pm A f args H l v H1)(hle:H.length<=H1.length)(h2:Ry A l b false l6 ops T H1 (n+1) (v::rl) (.below H1.length::p6) Q)(ha:xs.map (rq T n rl)=args:=by rfl)(gI:A.prom f=true:=by rfl) :
  Ry A l b false l6 (⟨.call f xs,none,none,u⟩::ops) T H n rl p6 Q:=fun hn=>by
 obtain ⟨M,hc⟩:=hc;refine Rx.stepT (N1:=M) (rs:=[]) rfl (fun k hk=> ?_) (h2.to hn);have ah8 :(N7 A k l b).prom f=true:=gI;have qD :(N7 A k l b).cf f args H (N7 A k l b).lim=some (v,H1):=hc k hk;have h3:D7 (N7 A k l b) rl.reverse.length f args ⟨T,H,rl.reverse++ .any::j4 ops.length .any,p6⟩=some (put ⟨T,H1,rl.reverse++ .any::j4 ops.length .any,.below H1.length::p6⟩ rl.reverse.length v):=by
  simp only [D7,ah8,if_true,qD,hle]
 simp only [y8,z7,E5,z6.E3,if_true,E7,jS hn,ha,h3,u7,G4,put,I5]
end S
end
theorem Pm.eF {A:Prog}{f:FuncId}{args:List j3}{H H1:q8}{l:F2}{v:j3}{p:List j3->q8->F2->Option (j3×q8)}(hp:A.eF f=some p)(h:p args H l=some (v,H1)):Pm A f args H l v H1 :=
 ⟨1,fun n hn=>by
  obtain ⟨n,rfl⟩:∃ j,n=j+1:=⟨n - 1,by omega⟩;simp only [call,hp,h]⟩
section
variable {A:Prog} {l:F2} {b:Nat}
variable {dr:Bool} {l6 ops:List p9} {T:List j3} {H:q8} {n:Nat} {rl:List j3} {p6:List Touch} {Q:List j3->q8->List j3->Prop}
end
section
variable {A:Prog} {l:F2} {b:Nat}
variable {l6 ops:List p9} {T:List j3} {H:q8} {n:Nat} {rl:List j3} {p6:List Touch} {Q:List j3->q8->List j3->Prop}
namespace S
end S
end
end Go.Abs
namespace Go.Abs.S
def gx {Γ Δ:Prop}(k:Δ)(h:PLift Δ->Γ:=by intro K;(first|refine Ex.seq ?_|refine Ex.region (Rn.text ?_)|refine Ex.region (Rn.draw ?_)|refine Ex.block ?_|refine nl ?_|refine Ex.skip ?_|refine Ex.exit ?_|refine Ex.ret ?_|refine wa ?_|refine sk ?_|refine st ?_|refine mv ?_|refine mt (h2:= ?_)|refine mo ?_|refine lp ?_|refine lpo ?_|refine fp ?_|refine ld ?_|refine lf ?_|refine ln ?_|refine li ?_|refine lo ?_|refine gi ?_|refine go ?_|refine ei ?_|refine ni ?_|refine es ?_|refine ns ?_|refine ad ?_|refine sb ?_|refine ng ?_|refine lt ?_|refine le ?_|refine lq ?_|refine lq3 ?_|refine lq2 ?_|refine o12 ?_|refine et ?_|refine ix (h2:= ?_)|refine pt ?_|refine pk ?_|refine mw (h2:= ?_)|refine ow (h2:= ?_)|refine bx (h2:= ?_)|refine bxn (h2:= ?_)|refine nk ?_|refine nki ?_|refine ac (h2:= ?_)|refine so (h2:= ?_)|refine sp1 (h2:= ?_)|refine o1 ?_|refine o1z ?_|refine ap1 (h2:= ?_)|refine e0 ?_|refine apN (h2:= ?_)|refine al1 (h2:= ?_)|refine alN (h2:= ?_)|refine alE (h2:= ?_)|refine xs (h2:= ?_)|refine xsN (h2:= ?_)|refine ixN (h2:= ?_)|refine ixZ (h2:= ?_)|refine ls ?_|refine lnT (h2:= ?_)|refine lsT (h2:= ?_)|refine ldT (h2:= ?_)|refine lpT (h2:= ?_)|refine qs ?_|refine qb ?_|refine mm ?_|refine ip ?_|refine ipN ?_|refine ipM ?_|refine aV4 ?_|refine df ?_|refine mf ?_|refine uw ?_|refine svh (h2:= ?_)|refine svl (h2:= ?_)|refine svb (h2:= ?_)|fail);exact K.down):Γ:=h ⟨k⟩
def gr {Γ Δ:Prop}(k:Δ)(h:PLift Δ->Γ:=by intro K;(repeat' (first|refine gx ?_|fail));exact K.down):Γ:=h ⟨k⟩
def cc {p:Prop}(h:p:=by first|(simp [*,j9];done)|(simp_all [j9];done)|(simp_all [j9,z8,y3,o9,F8];done)|(simp_all [j9,z8,y3,o9,F8]<;>omega)):p:=h
section
variable {A:Prog} {l:F2} {b:Nat}
def tB {ops:List p9}{draw:Bool}{c:u9}{d e:s4}{T:List j3}{H:q8}{Q:F6->St->Prop}{Δ:Prop}(t:Bool)(k:Δ)(h2:t=true->Ex A l b d ⟨T,H⟩ Q)(h3:t=false->Ex A l b e ⟨T,H⟩ Q)
  (h:PLift Δ->Rn A l b ops draw T H fun T' H' L=>T' =T/\H' =H/\∃ t',G9 T' L c= .d (.bool t')/\t' =t:=by intro K;first|exact Rn.text K.down|exact Rn.draw K.down):Ex A l b (.test ops draw c d e) ⟨T,H⟩ Q:=Ex.Vz t (h ⟨k⟩) h2 h3
def tb {ops:List p9}{draw:Bool}{c:u9}{d e:s4}{T:List j3}{H:q8}{Q:F6->St->Prop}(t:Bool)(h2:t=true->Ex A l b d ⟨T,H⟩ Q)(h3:t=false->Ex A l b e ⟨T,H⟩ Q)
  (h:Rn A l b ops draw T H fun T' H' L=>T' =T/\H' =H/\∃ t',G9 T' L c= .d (.bool t')/\t' =t:=by (first|refine Rn.text ?_|refine Rn.draw ?_|fail);(repeat' (first|refine gx ?_|refine fk (h1:=fun hw=> ?_) (h2:=fun hw=> ?_)|refine U0 (h1:=fun hw=> ?_) (h2:=fun hw=> ?_)|refine ⟨rfl,rfl,_,rfl,?_⟩|refine ⟨rfl,rfl⟩|fail));all_goals exact cc) :
  Ex A l b (.test ops draw c d e) ⟨T,H⟩ Q:=Ex.Vz t h h2 h3
end
end Go.Abs.S
namespace Go.Abs
abbrev K5:=Int×Int
structure F1 where
 src:K5
 dst:K5
 dat:Bool
 deriving DecidableEq,Inhabited
def qc (S:List K5)(p:K5):List K5:=if p ∈ S then S else S++[p]
def kz:List K5->List K5->List K5
 |S,[]=>S
 |S,p::r=>kz (qc S p) r
def Z4 (S:List K5)(f:F1):List K5:=if f.src ∈ S/\f.dst ∉ S then S++[f.dst] else S
def pass:List K5->List F1->List K5
 |S,[]=>S
 |S,f::r=>pass (Z4 S f) r
def Gf (fs:List F1):Nat->List K5->List K5
 |0,S=>S
 |n+1,S=>if (pass S fs).length=S.length then S else Gf fs n (pass S fs)
def xL (fs:List F1)(l:List K5):List K5:=Gf fs (fs.length+1) (kz [] l)
inductive KJ (fs:List F1) (l:List K5):K5->Prop
 |base {p:K5}:p ∈ l->KJ fs l p
 |step {f:F1}:f ∈ fs->KJ fs l f.src->KJ fs l f.dst
def TY {S:List K5}{p q:K5}:q ∈ qc S p↔q ∈ S\/q=p:=by
 unfold qc;split
 .rename_i h
  exact ⟨.inl,fun h1=>h1.elim id (fun e=>e ▸ h)⟩
 .simp
theorem zT:∀ (l S:List K5) {q:K5},q ∈ kz S l↔q ∈ S\/q ∈ l
 |[],S,q=>by simp [kz]
 |p::r,S,q=>by
  rw [kz,zT r,TY];simp only [y7,or_assoc]
def KM {S:List K5}{p:K5}(h:S.Nodup):(qc S p).Nodup:=by
 unfold qc;split
 .exact h
 .rename_i hp
  rw [List.nodup_append];refine ⟨h,by simp,fun a ha b hb=> ?_⟩;simp only [s6] at hb;subst hb;rintro rfl;exact hp ha
theorem yE:∀ (l S:List K5),S.Nodup->(kz S l).Nodup
 |[],_,h=>h
 |_::r,_,h=>yE r _ (KM h)
theorem Gu:∀ (l S:List K5),(kz S l).length<=S.length+l.length
 |[],_=>o5 _
 |p::r,S=>by
  have h1:=Gu r (qc S p);have h2:(qc S p).length<=S.length+1:=by
   unfold qc;split
   .omega
   .simp
  simp only [kz,List.length_cons];omega
def DC {S:List K5}{f:F1}{q:K5}(h:q ∈ S):q ∈ Z4 S f:=by
 unfold Z4;split
 .simp [h]
 .exact h
def RE (S:List K5)(f:F1):S.length<=(Z4 S f).length/\((Z4 S f).length=S.length->Z4 S f=S/\(f.src ∈ S->f.dst ∈ S)):=by
 unfold Z4;split
 .simp
 .rename_i h
  refine ⟨o5 _,fun _=>⟨rfl,fun hs=> ?_⟩⟩;exact Decidable.byContradiction fun hd=>h ⟨hs,hd⟩
def IX {S:List K5}{f:F1}(h:S.Nodup):(Z4 S f).Nodup:=by
 unfold Z4;split
 .rename_i hc
  rw [List.nodup_append];refine ⟨h,by simp,fun a ha b hb=> ?_⟩;simp only [s6] at hb;subst hb;rintro rfl;exact hc.2 ha
 .exact h
theorem od:∀ (fs:List F1) {S:List K5} {q:K5},q ∈ S->q ∈ pass S fs
 |[],_,_,h=>h
 |_::r,_,_,h=>od r (DC h)
theorem th:∀ (fs:List F1) (S:List K5),S.length<=(pass S fs).length/\((pass S fs).length=S.length->pass S fs=S/\∀ f ∈ fs,f.src ∈ S->f.dst ∈ S)
 |[],_=>⟨o5 _,fun _=>⟨rfl,by simp⟩⟩
 |f::r,S=>by
  obtain ⟨a1,a2⟩:=RE S f;obtain ⟨b1,b2⟩:=th r (Z4 S f);refine ⟨by rw [pass];omega,fun h=> ?_⟩;rw [pass] at h ⊢;obtain ⟨e1,c1⟩:=a2 (by omega);rw [e1] at b2 h ⊢;obtain ⟨e2,c2⟩:=b2 h;refine ⟨e2,fun g hg=> ?_⟩
  rcases y7.1 hg with rfl|hg
  .exact c1
  .exact c2 g hg
theorem Al:∀ (fs:List F1) {S:List K5},S.Nodup->(pass S fs).Nodup
 |[],_,h=>h
 |_::r,_,h=>Al r (IX h)
theorem Ih {fs:List F1}{l:List K5}:∀ (gs:List F1) {S:List K5},(∀ g ∈ gs,g ∈ fs)->(∀ q ∈ S,KJ fs l q)->∀ q ∈ pass S gs,KJ fs l q
 |[],_,_,h=>h
 |g::r,S,hg,h=>by
  refine Ih r (fun x hx=>hg x (List.mem_cons_of_mem _ hx)) fun q hq=> ?_
  unfold Z4 at hq;split at hq
  .rename_i hc
   rcases List.mem_append.1 hq with hq|hq
   .exact h q hq
   .simp only [s6] at hq
    subst hq;exact .step (hg g List.mem_cons_self) (h _ hc.1)
  .exact h q hq
def fc (fs:List F1)(S:List K5):Nat:=(fs.filter fun f=> !decide (f.dst ∈ S)).length
def zZ (fs:List F1)(S:List K5):fc fs S<=fs.length:=List.length_filter_le _ _
theorem Aa {S S' :List K5}(h:∀ q ∈ S,q ∈ S'):∀ fs:List F1,fc fs S' <=fc fs S
 |[]=>o5 _
 |f::r=>by
  have:=Aa h r;unfold fc at *
  simp only [List.filter_cons]
  by_cases h1:f.dst ∈ S
  .simp [h1,h _ h1,this]
  .by_cases h2:f.dst ∈ S' <;>simp [h1,h2]<;>omega
theorem ta {S S' :List K5}(h:∀ q ∈ S,q ∈ S'):∀ {fs:List F1} {f:F1},f ∈ fs->f.dst ∉ S->f.dst ∈ S' ->fc fs S' <fc fs S
 |g::r,f,hf,h1,h2=>by
  have h3:=Aa h r;unfold fc at *
  simp only [List.filter_cons]
  rcases y7.1 hf with rfl|hf
  .simp [h1,h2]
   omega
  .have h4:=ta h (fs:=r) hf h1 h2
   unfold fc at h4
   by_cases h5:g.dst ∈ S
   .simp [h5,h _ h5,h4]
   .by_cases h6:g.dst ∈ S' <;>simp [h5,h6]<;>omega
theorem Ak:∀ (fs:List F1) (S:List K5),(pass S fs).length≠S.length->∃ f ∈ fs,f.dst ∉ S/\f.dst ∈ pass S fs
 |[],S,h=>absurd rfl h
 |f::r,S,h=>by
  rw [pass] at h ⊢
  by_cases hc:f.src ∈ S/\f.dst ∉ S
  .refine ⟨f,List.mem_cons_self,hc.2,od r ?_⟩
   unfold Z4;rw [if_pos hc];simp
  .have e:Z4 S f=S:=by unfold Z4;rw [if_neg hc]
   rw [e] at h ⊢;obtain ⟨g,hg,h1,h2⟩:=Ak r S h;exact ⟨g,List.mem_cons_of_mem _ hg,h1,h2⟩
theorem GI (fs:List F1):∀ (n:Nat) (S:List K5),fc fs S<n->(∀ q ∈ S,q ∈ Gf fs n S)/\(∀ f ∈ fs,f.src ∈ Gf fs n S->f.dst ∈ Gf fs n S)
 |0,_,h=>absurd h (Nat.not_lt_zero _)
 |n+1,S,h=>by
  unfold Gf;split
  .rename_i he
   exact ⟨fun _ h=>h,(th fs S |>.2 he).2⟩
  .rename_i he
   obtain ⟨f,hf,h1,h2⟩:=Ak fs S he;have:=ta (fun q hq=>od fs hq) hf h1 h2;obtain ⟨a,b⟩:=GI fs n (pass S fs) (by omega);exact ⟨fun q hq=>a q (od fs hq),b⟩
theorem Cy (fs:List F1):∀ (n:Nat) {S:List K5},S.Nodup->(Gf fs n S).Nodup
 |0,_,h=>h
 |n+1,S,h=>by
  unfold Gf;split
  .exact h
  .exact Cy fs n (Al fs h)
theorem MV {fs:List F1}{l:List K5}:∀ (n:Nat) {S:List K5},(∀ q ∈ S,KJ fs l q)->∀ q ∈ Gf fs n S,KJ fs l q
 |0,_,h=>h
 |n+1,S,h=>by
  unfold Gf;split
  .exact h
  .exact MV n (Ih fs (fun _ h=>h) h)
def zU {fs:List F1}{l:List K5}{q:K5}:q ∈ xL fs l↔KJ fs l q:=by
 have h:=GI fs (fs.length+1) (kz [] l) (by have:=zZ fs (kz [] l);omega);refine ⟨MV _ (fun q hq=> .base (by simpa [zT] using hq)) q,fun hr=> ?_⟩
 induction hr with
 |base hp=>exact h.1 _ (by simp [zT,hp])
 |step hf _ ih=>exact h.2 _ hf ih
def Ao (fs:List F1)(l:List K5):(xL fs l).Nodup:=Cy fs _ (yE l [] List.nodup_nil)
theorem KJ.mono {fs:List F1}{l m:List K5}(h:∀ p ∈ l,KJ fs m p){q:K5}(hr:KJ fs l q):KJ fs m q:=by
 induction hr with
 |base hp=>exact h _ hp
 |step hf _ ih=>exact .step hf ih
def F1.rev (f:F1):F1:=⟨f.dst,f.src,f.dat⟩
def kB (a b:Int):Int:=if a<b then -1 else if b<a then 1 else 0
def uD (a b:K5):Int:=if kB a.1 b.1≠0 then kB a.1 b.1 else kB a.2 b.2
def cfB (a b:Bool):Int:=if a==b then 0 else if a then -1 else 1
def Sq (a b:F1):Int:=if uD a.src b.src≠0 then uD a.src b.src else if uD a.dst b.dst≠0 then uD a.dst b.dst else cfB a.dat b.dat
def Lx {α:Type}(cf:α->α->Int)(x:α):List α->List α
 |[]=>[x]
 |y::l=>if cf y x<0 then y::Lx cf x l else x::y::l
def Dv {α:Type}(cf:α->α->Int):List α->List α
 |[]=>[]
 |x::l=>Lx cf x (Dv cf l)
theorem uQ {α:Type}(cf:α->α->Int)(x:α):∀ l,(Lx cf x l).Perm (x::l)
 |[]=>List.Perm.refl _
 |y::l=>by
  simp only [Lx];split
  .exact ((uQ cf x l).cons y).trans (List.Perm.swap x y l)
  .exact List.Perm.refl _
theorem mh {α:Type}(cf:α->α->Int):∀ l,(Dv cf l).Perm l
 |[]=>List.Perm.refl _
 |x::l=>(uQ cf x _).trans ((mh cf l).cons x)
theorem Nr {α:Type}{cf:α->α->Int}(htr:∀ a b c,¬ cf b a<0->¬ cf c b<0->¬ cf c a<0)(hto:∀ a b,cf b a<0->¬ cf a b<0)(x:α):∀ l:List α,l.Pairwise (fun a b=>¬ cf b a<0)->(Lx cf x l).Pairwise fun a b=>¬ cf b a<0
 |[],_=>by simp [Lx]
 |y::l,h=>by
  simp only [Lx];rw [List.pairwise_cons] at h;split
  .rename_i hc
   refine List.pairwise_cons.2 ⟨fun z hz=> ?_,Nr htr hto x l h.2⟩
   rcases y7.1 ((uQ cf x l).mem_iff.1 hz) with rfl|hz
   .exact hto _ _ hc
   .exact h.1 z hz
  .rename_i hc
   refine List.pairwise_cons.2 ⟨fun z hz=> ?_,List.pairwise_cons.2 h⟩
   rcases y7.1 hz with rfl|hz
   .exact hc
   .exact htr _ _ _ hc (h.1 z hz)
theorem AB {α:Type}{cf:α->α->Int}(htr:∀ a b c,¬ cf b a<0->¬ cf c b<0->¬ cf c a<0)(hto:∀ a b,cf b a<0->¬ cf a b<0):∀ l:List α,(Dv cf l).Pairwise fun a b=>¬ cf b a<0
 |[]=>List.Pairwise.nil
 |x::l=>Nr htr hto x _ (AB htr hto l)
def wK {α:Type}{cf:α->α->Int}(htr:∀ a b c,¬ cf b a<0->¬ cf c b<0->¬ cf c a<0)(hto:∀ a b,cf b a<0->¬ cf a b<0)(han:∀ a b,¬ cf b a<0->¬ cf a b<0->a=b)(l:List α):(l.mergeSort fun x y=> !decide (cf y x<0))=Dv cf l:=by
 refine List.Perm.eq_of_pairwise (le:=fun a b=>¬ cf b a<0) (fun a b _ _ h1 h2=>han a b h1 h2) ?_ (AB htr hto l) ((List.mergeSort_perm l _).trans (mh cf l).symm);have:=List.pairwise_mergeSort (le:=fun x y:α=> !decide (cf y x<0)) (fun a b c h1 h2=>by simp only [o8,decide_eq_false_iff_not] at *;exact htr a b c h1 h2) (fun a b=>by
  simp only [L5,o8,decide_eq_false_iff_not]
  by_cases h:cf b a<0
  .exact .inr (hto a b h)
  .exact .inl h) l
 exact this.imp (fun h=>by simpa using h)
def sortP (l:List K5):List K5:=Dv uD l
def cL (l:List F1):List F1:=Dv Sq l
def Mm (l:List F1):(cL l).Perm l:=mh _ _
def vm (l:List F1):(cL l).length=l.length:=(Mm l).length_eq
def F1.enc (f:F1):List Data:=[num f.src.1,num f.src.2,num f.dst.1,num f.dst.2,.bool f.dat]
def nF:List Data->Option (List F1)
 |[]=>some []
 | .int .i64 a:: .int .i64 b:: .int .i64 c:: .int .i64 d:: .bool t::r=>match nF r with
  |some l=>some (⟨(a,b),(c,d),t⟩::l)
  |none=>none
 |_=>none
def uY (g:FuncId):List j3->q8->F2->Option (j3×q8)
 |[.B6 id 5 lo len,.func g' [] []],H,l=>if g' =g/\l.may id=true/\len<=1000000 then match rd H id lo (len * 5) with
   |some vs=>match M5 vs with
    |some cs=>match nF cs with
     |some fs=>match wr H id lo (((cL fs).flatMap F1.enc).map .d) with
      |some H1=>some (.tuple [],H1)
      |none=>none
     |none=>none
    |none=>none
   |none=>none
  else none
 |[.d (.slice 0 _),.func g' [] []],H,_=>if g' =g then some (.tuple [],H) else none
 |_,_,_=>none
def yc:List j3->q8->F2->Option (j3×q8)
 |[.map id],H,_=>match H[id]? with
  |some (.map es)=>match rN es with
   |some ks=>if ks.length<=1000000 then some (.own 2 ks.length (dg (sortP ks)),H) else none
   |none=>none
  |_=>none
 |_,_,_=>none
def ak7:List j3->q8->F2->Option (j3×q8)
 |[x],H,_=>match rowOf 5 H x with
  |some (n,cs)=>match nF cs with
   |some fs=>if n=fs.length/\n<=1000000 then some (.own 5 fs.length ((fs.map F1.rev).reverse.flatMap F1.enc),H) else none
   |none=>none
  |none=>none
 |_,_,_=>none
def uW:List j3->q8->F2->Option (j3×q8)
 |[.d (.slice 0 _)],H,_=>some (.d (.slice 0 []),H)
 |as,H,l=>kO as H l
def mX (op:Int):Int :=
 if u0 op 1||u0 op 2 then 0 else if u0 op 3||u0 op 9||u0 op 13||u0 op 16 then 1 else if u0 op 18 then 3 else if aF 1 op&&aF op 18 then 2 else -1
def gQ (k n:Int)(s:L0):Bool :=
 if u0 k 0 then u0 n 0&&L4 s [] else if u0 k 1 then aF (-4294967296) n&&aF n 4294967296&&L4 s [] else if u0 k 2 then u0 n 0&&aF s.length 32 else false
def zeroV (t:Y4):Bool:=u0 t.kind 0&&u0 t.int 0&&L4 t.text []
def dc (t:Y4):Bool :=
 if u0 t.op 1 then gQ t.kind t.int t.text&& !u0 t.kind 0&&u0 t.col 0 else if u0 t.op 2 then zeroV t&&aF 0 t.col else zeroV t&&u0 t.col 0
def yb (t:Y4):Bool:= !F3 (mX t.op) 0&&dc t
def oS (op:Int):mX op<=3:=by
 unfold mX
 repeat' split
 all_goals omega
inductive aL where
 |node (t:Y4) (l:List aL)
mutual
def aL.flat:aL->List Y4
 | .node t l=>t::L9 l
def L9:List aL->List Y4
 |[]=>[]
 |a::l=>a.flat++L9 l
end
mutual
def aL.dep:aL->Nat
 | .node _ l=>lG l+1
def lG:List aL->Nat
 |[]=>0
 |a::l=>max a.dep (lG l)
end
mutual
def aL.wf:aL->Prop
 | .node t l=>yb t=true/\(mX t.op).toNat=l.length/\WY l
def WY:List aL->Prop
 |[]=>True
 |a::l=>a.wf/\WY l
end
def dM (f:List Y4->Option (aL×List Y4)):Nat->List Y4->Option (List aL×List Y4)
 |0,r=>some ([],r)
 |k+1,r=>match f r with
  |none=>none
  |some (a,r')=>match dM f k r' with
   |none=>none
   |some (l,r2)=>some (a::l,r2)
def M8:Nat->List Y4->Option (aL×List Y4)
 |0,_=>none
 |_+1,[]=>none
 |d+1,t::r=>if yb t then match dM (M8 d) (mX t.op).toNat r with
   |none=>none
   |some (l,r')=>some (.node t l,r')
  else none
theorem zL {f:List Y4->Option (aL×List Y4)}{d:Nat}(hf:∀ r a r',f r=some (a,r')->r=a.flat++r' /\a.wf/\a.dep<=d):∀ (k:Nat) (r:List Y4) (l:List aL) (r' :List Y4),dM f k r=some (l,r')->r=L9 l++r' /\WY l/\lG l<=d/\l.length=k
 |0,r,l,r',h=>by
  simp only [dM,Option.some.injEq,Prod.mk.injEq] at h;obtain ⟨rfl,rfl⟩:=h;simp [L9,WY,lG]
 |k+1,r,l,r',h=>by
  simp only [dM] at h;split at h
  .cases h
  .rename_i a r1 h1
   split at h
   .cases h
   .rename_i l2 r2 h2
    simp only [Option.some.injEq,Prod.mk.injEq] at h;obtain ⟨rfl,rfl⟩:=h;obtain ⟨e1,e2,e3⟩:=hf _ _ _ h1;obtain ⟨g1,g2,g3,g4⟩:=zL hf k _ _ _ h2;refine ⟨?_,⟨e2,g2⟩,?_,by simp [g4]⟩
    .rw [e1,g1];simp [L9]
    .simp only [lG];omega
theorem S7:∀ (d:Nat) (r:List Y4) (a:aL) (r' :List Y4),M8 d r=some (a,r')->r=a.flat++r' /\a.wf/\a.dep<=d
 |0,r,a,r',h=>by simp [M8] at h
 |d+1,[],a,r',h=>by simp [M8] at h
 |d+1,t::r,a,r',h=>by
  simp only [M8] at h;split at h
  .rename_i ht
   split at h
   .cases h
   .rename_i l r1 h1
    simp only [Option.some.injEq,Prod.mk.injEq] at h;obtain ⟨rfl,rfl⟩:=h;obtain ⟨g1,g2,g3,g4⟩:=zL (S7 d) _ _ _ _ h1;refine ⟨?_,⟨ht,g4.symm,g2⟩,?_⟩
    .rw [g1];simp [aL.flat]
    .simp only [aL.dep];omega
  .cases h
mutual
theorem X9:∀ (a:aL) (d:Nat) (r:List Y4),a.wf->a.dep<=d->M8 d (a.flat++r)=some (a,r)
 | .node t l,0,r,_,h=>by simp [aL.dep] at h
 | .node t l,d+1,r,hw,h=>by
  simp only [aL.dep] at h;obtain ⟨h1,h2,h3⟩:=hw;have h4:=qG l d r h3 (by omega);simp only [aL.flat,List.cons_append,M8,h1,if_true,h2,h4]
theorem qG:∀ (l:List aL) (d:Nat) (r:List Y4),WY l->lG l<=d->dM (M8 d) l.length (L9 l++r)=some (l,r)
 |[],d,r,_,_=>by simp [L9,dM]
 |a::l,d,r,hw,h=>by
  simp only [lG] at h;have h1:=X9 a d (L9 l++r) hw.1 (by omega);have h2:=qG l d r hw.2 (by omega);simp only [L9,A9,List.length_cons,dM,h1,h2]
end
mutual
theorem nB:∀ a:aL,a.dep<=a.flat.length
 | .node t l=>by
  have:=CC l;simp only [aL.dep,aL.flat,List.length_cons];omega
theorem CC:∀ l:List aL,lG l<=(L9 l).length
 |[]=>by simp [lG]
 |a::l=>by
  have h1:=nB a;have h2:=CC l;simp only [lG,L9,List.length_append];omega
end
def iS (a:aL):0<a.flat.length:=by
 cases a;simp [aL.flat]
theorem uM:∀ l:List aL,l.length<=(L9 l).length
 |[]=>by simp
 |a::l=>by
  have:=iS a;have:=uM l;simp only [L9,List.length_append,List.length_cons];omega
def Fm {d d' :Nat}{r:List Y4}(h:r.length<=d)(h' :r.length<=d'):M8 d r=M8 d' r:=by
 cases h1:M8 d r with
 |some p =>
  obtain ⟨a,r'⟩:=p;obtain ⟨e,w,_⟩:=S7 d r a r' h1;have hd:=nB a;have hl:a.flat.length<=r.length:=by rw [e];simp
  rw [e,X9 a d' r' w (by omega)]
 |none =>
  cases h2:M8 d' r with
  |none=>rfl
  |some p =>
   obtain ⟨a,r'⟩:=p;obtain ⟨e,w,_⟩:=S7 d' r a r' h2;have hd:=nB a;have hl:a.flat.length<=r.length:=by rw [e];simp
   rw [e,X9 a d r' w (by omega)] at h1;cases h1
def gP (op:Int)(t:List Int):Int :=
 if u0 op 3||u0 op 13 then (if u0 (nth t 0) 1 then 1 else 0)
 else if u0 op 8 then (if u0 (nth t 0) 2&&u0 (nth t 1) 2 then 2 else 0)
 else if u0 op 9 then (if u0 (nth t 0) 2 then 1 else 0)
 else if u0 op 10 then (if u0 (nth t 0) 2&&u0 (nth t 1) 1 then 2 else 0)
 else if u0 op 11||u0 op 12 then (if u0 (nth t 0) (nth t 1) then 1 else 0)
 else if u0 op 16 then 1
 else if u0 op 17 then (if u0 (nth t 0) (nth t 1) then nth t 0 else 0)
 else if u0 op 18 then (if u0 (nth t 0) 1&&u0 (nth t 1) (nth t 2) then nth t 1 else 0)
 else (if u0 (nth t 0) 1&&u0 (nth t 1) 1 then 1 else 0)
def AZ (ty:List Int)(t:Y4)(ts:List Int):Int×Int :=
 if u0 t.op 1 then (t.kind,0) else if u0 t.op 2 then (if aF ty.length t.col then (0,3) else (nth ty t.col.toNat,0))
 else if u0 (gP t.op ts) 0 then (0,5) else (gP t.op ts,0)
mutual
def aL.typ (ty:List Int):aL->Int×Int
 | .node t l=>if u0 (gB ty l).2 0 then AZ ty t (gB ty l).1 else (0,(gB ty l).2)
def gB (ty:List Int):List aL->List Int×Int
 |[]=>([],0)
 |a::l=>if u0 (a.typ ty).2 0 then ((a.typ ty).1::(gB ty l).1,(gB ty l).2) else ([],(a.typ ty).2)
end
def bI (ty:List Int):Bool:=ty.all fun t=>u0 t 1||u0 t 2
def fO (e:List Y4):Option aL:=if aF 1 e.length&&aF e.length 64 then match M8 16 e with
  |some (a,[])=>some a
  |_=>none
 else none
def H7 (e:List Y4)(ty:List Int):Int×Int:=match fO e with
 |none=>(0,1)
 |some a=>if bI ty then a.typ ty else (0,1)
def ya {α:Type} [Inhabited α] (i:Nat):nth ([]:List α) i=default:=by simp [nth]
def Ft (ty:List Int)(t:Y4)(a b c:Int):Int×Bool :=
 if u0 t.op 1 then (t.kind,true) else if u0 t.op 2 then (nth ty t.col.toNat,true)
 else if u0 t.op 3||u0 t.op 13 then (1,u0 a 1)
 else if u0 t.op 8 then (2,u0 a 2&&u0 b 2)
 else if u0 t.op 9 then (1,u0 a 2)
 else if u0 t.op 10 then (2,u0 a 2&&u0 b 1)
 else if u0 t.op 11||u0 t.op 12 then (1,u0 a b)
 else if u0 t.op 16 then (1,true)
 else if u0 t.op 17 then (a,u0 a b)
 else if u0 t.op 18 then (b,u0 a 1&&u0 b c)
 else (1,u0 a 1&&u0 b 1)
def good (x:Int):Prop:=x=1\/x=2
def HZ {l:List Int}(h:∀ x,x ∈ l->good x){i:Nat}(hn:nth l i≠0):good (nth l i):=by
 rcases s5 i l.length with hi|hi
 .exact h _ (S3 hi)
 .exfalso;apply hn;simp [nth,hi]
def Lo {ty:List Int}(h:bI ty=true):∀ x,x ∈ ty->good x:=by
 intro x hx;have:=L1.1 h x hx;simpa [o9,good] using this
def Jk {op:Int}{ts:List Int}(h:∀ x,x ∈ ts->good x)(hn:gP op ts≠0):good (gP op ts):=by
 unfold gP at hn ⊢;split
 .rename_i h1;rw [if_pos h1] at hn;split at hn<;>simp_all [good]
 rename_i h1;rw [if_neg h1] at hn;split
 .rename_i h1;rw [if_pos h1] at hn;split at hn<;>simp_all [good]
 rename_i h1;rw [if_neg h1] at hn;split
 .rename_i h1;rw [if_pos h1] at hn;split at hn<;>simp_all [good]
 rename_i h1;rw [if_neg h1] at hn;split
 .rename_i h1;rw [if_pos h1] at hn;split at hn<;>simp_all [good]
 rename_i h1;rw [if_neg h1] at hn;split
 .rename_i h1;rw [if_pos h1] at hn;split at hn<;>simp_all [good]
 rename_i h1;rw [if_neg h1] at hn;split
 .exact Or.inl rfl
 rename_i h1;rw [if_neg h1] at hn;split
 .rename_i h1;rw [if_pos h1] at hn
  split at hn
  .rename_i h2;rw [if_pos h2];exact HZ h hn
  .exact absurd rfl hn
 rename_i h1;rw [if_neg h1] at hn;split
 .rename_i h1;rw [if_pos h1] at hn
  split at hn
  .rename_i h2;rw [if_pos h2];exact HZ h hn
  .exact absurd rfl hn
 rename_i h1;rw [if_neg h1] at hn;split at hn<;>simp_all [good]
mutual
theorem Jj {ty:List Int}(xU:bI ty=true):∀ a:aL,a.wf->u0 (a.typ ty).2 0=true->good (a.typ ty).1
 | .node t l,hw,h=>by
  obtain ⟨hok,har,QJ⟩:=hw;simp only [aL.typ] at h ⊢;split
  .rename_i h1
   rw [if_pos h1] at h;have hl:=vv xU l QJ;simp only [AZ] at h ⊢;split
   .rename_i h2
    simp only [yb,dc,h2,if_true,c9,o8] at hok;have h3:=hok.2.1.1;have h4:=hok.2.1.2;unfold gQ at h3;simp only [h4,j5,if_false] at h3;unfold good;split at h3
    .rename_i h5;exact Or.inl (bz h5)
    .split at h3
     .rename_i h5;exact Or.inr (bz h5)
     .cases h3
   .rename_i h2
    rw [if_neg h2] at h;split
    .rename_i h3
     rw [if_pos h3] at h;split
     .rename_i h4
      rw [if_pos h4] at h;simp [o9] at h
     .rename_i h4
      have h5:=wm (Bool.not_eq_true _ ▸ h4);have h6:0<=t.col:=by
       simp only [yb,dc,h2,h3,if_true,j5,if_false,c9] at hok;exact nV hok.2.2
      exact Lo xU _ (S3 (by omega))
    .rename_i h3
     rw [if_neg h3] at h;split
     .rename_i h4
      rw [if_pos h4] at h;simp [o9] at h
     .rename_i h4
      exact Jk hl (by simpa [o9] using h4)
  .rename_i h1
   rw [if_neg h1] at h;exact absurd h h1
theorem vv {ty:List Int}(xU:bI ty=true):∀ l:List aL,WY l->∀ x,x ∈ (gB ty l).1->good x
 |[],_,x,h=>by simp [gB] at h
 |a::l,hw,x,h=>by
  simp only [gB] at h;split at h
  .rename_i h1
   rcases y7.1 h with rfl|h
   .exact Jj xU a hw.1 h1
   .exact vv xU l hw.2 x h
  .cases h
end
def YV {ty:List Int}{t:Y4}{ts:List Int}(hts:∀ x,x ∈ ts->good x)(hc:u0 t.op 2=true->aF ty.length t.col=false)
  (h17:u0 t.op 17=true->0<ts.length) (h18:u0 t.op 18=true->1<ts.length) :
  AZ ty t ts=if (Ft ty t (nth ts 0) (nth ts 1) (nth ts 2)).2 then ((Ft ty t (nth ts 0) (nth ts 1) (nth ts 2)).1,0) else (0,5):=by
 unfold AZ Ft;cases d1:u0 t.op 1 with
 |true=>simp only [if_true]
 |false =>
 simp only [j5,if_false];cases d2:u0 t.op 2 with
 |true=>simp only [if_true,hc d2,j5,if_false]
 |false =>
 simp only [j5,if_false];have z1:u0 1 0=false:=by simp [o9]
 have z2:u0 2 0=false:=by simp [o9]
 have z0:u0 0 0=true:=by simp [o9]
 have sel:∀ (b:Bool) (x:Int),(b=true->u0 x 0=false)->(if u0 (if b=true then x else 0) 0=true then ((0:Int),(5:Int)) else (if b=true then x else 0,0))=if b=true then (x,0) else (0,5):=by
  intro b x h;cases b with
  |true=>simp [h rfl]
  |false=>simp [z0]
 have gz:∀ {i:Nat},i<ts.length->u0 (nth ts i) 0=false:=fun {i} hi=>by
  have:=hts _ (S3 hi);unfold good at this;simp [o9];omega
 unfold gP;cases c1:(u0 t.op 3||u0 t.op 13) with
 |true=>simp only [if_true];exact sel _ _ fun _=>z1
 |false =>
 simp only [j5,if_false];cases c2:u0 t.op 8 with
 |true=>simp only [if_true];exact sel _ _ fun _=>z2
 |false =>
 simp only [j5,if_false];cases c3:u0 t.op 9 with
 |true=>simp only [if_true];exact sel _ _ fun _=>z1
 |false =>
 simp only [j5,if_false];cases c4:u0 t.op 10 with
 |true=>simp only [if_true];exact sel _ _ fun _=>z2
 |false =>
 simp only [j5,if_false];cases c5:(u0 t.op 11||u0 t.op 12) with
 |true=>simp only [if_true];exact sel _ _ fun _=>z1
 |false =>
 simp only [j5,if_false];cases c6:u0 t.op 16 with
 |true=>simp [z1]
 |false =>
 simp only [j5,if_false];cases c7:u0 t.op 17 with
 |true=>simp only [if_true];exact sel _ _ fun _=>gz (h17 c7)
 |false =>
 simp only [j5,if_false];cases c8:u0 t.op 18 with
 |true=>simp only [if_true];exact sel _ _ fun _=>gz (h18 c8)
 |false =>
 simp only [j5,if_false];exact sel _ _ fun _=>z1
open List
def iI (a b:K5):uD a b<0↔a.1<b.1\/(a.1=b.1/\a.2<b.2):=by
 unfold uD kB;split<;>(repeat' split)<;>omega
def XW (a b:K5):(!decide (uD b a<0))=true↔a.1<b.1\/(a.1=b.1/\a.2<=b.2):=by
 simp only [o8,decide_eq_false_iff_not,iI];omega
def mj (l:List K5):(sortP l).Perm l:=mh _ _
def QU {l:List K5}{p:K5}:p ∈ sortP l↔p ∈ l:=(mj l).mem_iff
def pV (l:List K5):(sortP l).length=l.length:=(mj l).length_eq
def IS (l:List K5):(sortP l).Pairwise fun a b=>(!decide (uD b a<0))=true :=
 (AB (fun a b c h1 h2=>by rw [iI] at *;omega) (fun a b h=>by rw [iI] at *;omega) l).imp fun h=>by simpa using h
def qJ {l m:List K5}(h:l.Perm m):sortP l=sortP m:=by
 refine ((mj l).trans (h.trans (mj m).symm)).eq_of_pairwise (fun a b _ _ h1 h2=> ?_) (IS l) (IS m);rw [XW] at h1 h2;exact Prod.ext (by omega) (by omega)
def Rv {l m:List K5}(hl:l.Nodup)(hm:m.Nodup)(h:∀ p,p ∈ l↔p ∈ m):sortP l=sortP m :=
 qJ ((perm_ext_iff_of_nodup hl hm).2 h)
def oh (fs:List F1)(l:List K5):List K5:=sortP (xL fs l)
def nX {fs:List F1}{l:List K5}{p:K5}:p ∈ oh fs l↔KJ fs l p:=by rw [oh,QU,zU]
def UK {fs:List F1}{l m:List K5}(h:∀ p,KJ fs l p↔KJ fs m p):oh fs l=oh fs m :=
 Rv (Ao fs l) (Ao fs m) fun p=>by rw [zU,zU,h]
def Md {fs:List F1}{l:List K5}(ok:K5->Bool)(h:∀ p ∈ l,ok p=true):oh fs ((oh fs l).filter ok)=oh fs l:=by
 refine UK fun p=>⟨fun hp=>hp.mono fun q hq=> ?_,fun hp=>hp.mono fun q hq=> .base ?_⟩
 .exact nX.1 (mem_filter.1 hq).1
 .exact mem_filter.2 ⟨nX.2 (.base hq),h q hq⟩
end Go.Abs
namespace Go.Abs.S
section
variable {A:Prog} {l:F2} {b:Nat} {dr:Bool}
variable {l6 ops:List p9} {T:List j3} {H:q8} {n:Nat} {rl:List j3} {p6:List Touch} {Q:List j3->q8->List j3->Prop}
def lqo {x:u9}{m id o:Nat}{cs:List j3}{u:List Nat}(h2:Ry A l b dr l6 ops T H (n+1) (.agg cs::rl) p6 Q)(hx:rq T n rl x= .ptr id o:=by rfl)(hr:rd H id o m=some cs:=by rfl)(hv:cs.map j3.I7=cs:=by rfl) :
  Ry A l b dr l6 (⟨.load (some m) x,none,none,u⟩::ops) T H n rl p6 Q:=Ry.pure (rs:=[id]) rfl (by simp only [o6,hx,hr,hv]) h2
def mkm {u:List Nat}{id:Nat}{H2:q8}(hi:H.length=id:=by simp only [List.length_cons,List.length_nil,Nat.reduceAdd]<;>rfl)(hH:H++[.map []]=H2:=by simp only [List.cons_append,List.nil_append]<;>rfl)
  (h2:Ry A l b false l6 ops T H2 (n+1) (.map id::rl) p6 Q):Ry A l b false l6 (⟨.makeMap,none,none,u⟩::ops) T H n rl p6 Q:=fun hn=>by
 subst hi;have h2:=h2.to hn;rw [<- hH] at h2;refine Rx.stepT (N1:=0) (rs:=[]) rfl (fun n _=> ?_) h2;simp only [y8,z7,E5,z6.E3,if_true,E7,F0,newId,Option.getD_none,put,I5,u7,G4]
end
end Go.Abs.S
namespace Go.Abs
section
variable {A:Prog} {l:F2} {b:Nat}
variable {l6 ops:List p9} {T:List j3} {H:q8} {n:Nat} {rl:List j3} {p6:List Touch} {na nb:Nat} {Q:List j3->q8->List j3->Prop}
namespace S
end S
end
section
variable {A:Prog} {l:F2} {b:Nat}
variable {l6 ops:List p9} {T:List j3} {H:q8} {n:Nat} {rl:List j3} {p6:List Touch} {na nb:Nat} {Q:List j3->q8->List j3->Prop}
namespace S
section
variable {dr:Bool}
def ixo {x y:u9}{u:List Nat}{sz id lo len:Nat}{k:IntKind}{e:Int}(h0:0<=e/\e<len)(h2:Ry A l b dr l6 ops T H (n+1) (.ptr id (lo+e.toNat * sz)::rl) p6 Q)(hx:rq T n rl x= .B6 id sz lo len:=by rfl)(hy:rq T n rl y= .d (.int k e):=by rfl) :
  Ry A l b dr l6 (⟨.C8 sz x y,none,none,u⟩::ops) T H n rl p6 Q:=Ry.pure (rs:=[]) rfl (by simp only [o6,hx,hy,h0,and_self,if_true]) h2
end
end S
def iv (n:Int):j3:= .d (num n)
end
section
variable {A:Prog} {l:F2} {b:Nat}
theorem Ex.fz {s:Nat}{st st' :St}{Q:F6->St->Prop}(h:nJ l b s st=some st')(h2:Q .normal st'):Ex A l b (.fz s) st Q:=⟨_,_,0,h2,fun n _=>by
 simp_all [nJ,N7,exec]⟩
def Xx {lim:F2}{s z n:Nat}{xs:List Data}{T:List j3}{H:q8}(hT:T[s]? =some (.own z n xs))(h0:n≠0)(hb:lim.base=0)(hs:lim.strict=0)(hf:xs.all Data.flat=true) :
  nJ lim 0 s ⟨T,H⟩=some ⟨(R1 T).set s (.B6 H.length z 0 n),H.map x9.forget++[.cells (xs.map .d)]⟩:=by
 simp_all [nJ,vU,MA,if_false,and_self,if_true]
def Tj {lim:F2}{s z:Nat}{xs:List Data}{T:List j3}{H:q8}(hT:T[s]? =some (.own z 0 xs)):nJ lim 0 s ⟨T,H⟩=some ⟨T,H⟩:=by
 simp_all [nJ,vU,MA]
def Xw {lim:F2}{s z n p:Nat}{xs:List Data}{T:List j3}{H:q8}(hT:T[s]? =some (.ptr p 0))(hH:H[p]? =some (.cells [.own z n xs]))(h0:n≠0)(hb:lim.base=0)(hs:lim.strict=0)(hf:xs.all Data.flat=true) :
  nJ lim 0 s ⟨T,H⟩=some ⟨R1 T,(H.map x9.forget).set p (.cells [.B6 H.length z 0 n])++[.cells (xs.map .d)]⟩:=by
 simp_all [nJ,vU,dQ,MA,wA,if_false,and_self,if_true,R1,j3.forget,List.set_cons_zero]
def Ti {lim:F2}{s z p:Nat}{xs:List Data}{T:List j3}{H:q8}(hT:T[s]? =some (.ptr p 0))(hH:H[p]? =some (.cells [.own z 0 xs])):nJ lim 0 s ⟨T,H⟩=some ⟨T,H⟩:=by
 simp_all [nJ,vU,dQ,MA,wA,if_true]
def GW {α:Type}{enc:α->List Data}(h:∀ a,(enc a).all Data.flat=true):∀ l:List α,(l.flatMap enc).all Data.flat=true
 |[]=>rfl
 |a::l=>by grind
end
namespace S
section
variable {A:Prog} {l:F2} {b:Nat} {dr:Bool} {l6 ops:List p9} {T:List j3} {H:q8} {n:Nat} {rl:List j3} {p6:List Touch} {Q:List j3->q8->List j3->Prop}
def aB8:∀ cs:List Data,(cs.map j3.d).all j3.one=true
 |[]=>rfl
 |c::cs=>by
  simp_all [E0,List.all_cons,j3.one,Bool.and_self]
def oN {α:Type}{enc:α->List Data}(a:α){sz:Nat}{zero:List j3}{x:u9}{u:List Nat}(h2:Ry A l b dr l6 ops T H (n+1) (.own sz 1 (enc a)::rl) p6 Q)(hx:rq T n rl x= .agg ((enc a).map .d):=by rfl)(hc:(enc a).length=sz:=by rfl)(hz:zero.length=sz:=by rfl)(h0:D9 1 sz=true:=by rfl) :
  Ry A l b dr l6 (⟨.A2 sz 1 zero [(0,sz,x)] false,none,none,u⟩::ops) T H n rl p6 Q:=by
 have h0' :=k9 h0;have h1:bA zero [(0,sz,j3.agg ((enc a).map .d))]=some ((enc a).map .d):=by
  simp only [bA,j3.cells?,aB8,splice,List.take_zero];simp_all
 refine Ry.pure (rs:=[]) rfl ?_ h2;simp [o6,E0,List.map_nil,hx,h1,cg,and_true]
 grind
def msv {s:Nat}{w:j3}{x:Data}{u:List Nat}(hw:w= .d x\/∃ z,w= .own z 0 []/\x= .slice 0 [])(h2:Ry A l b dr l6 ops T H (n+1) (.d x::rl) p6 Q)(hT:T[s]? =some w:=by rfl) :
  Ry A l b dr l6 (⟨.R2 (.slot s),none,none,u⟩::ops) T H n rl p6 Q:=by
 rcases hw with rfl|⟨z,rfl,rfl⟩
 .exact mv h2 ⟨hT,rfl⟩
 grind [mo]
def Cv {f:FuncId}{xs:List u9}{u:List Nat}{v:j3}{args:List j3}(hc:Pf A f args v)(h2:Ry A l b dr l6 ops T H (n+1) (v::rl) (.below 0::p6) Q)(ha:xs.map (rq T n rl)=args:=by rfl)(hb:B8 args=0:=by rfl)(gI:A.prom f=false:=by rfl)(hm:A.mode f=0:=by rfl)
  (mK:(⟨l.Tc,l.SU,0,D8 H l.strict 0⟩:F2)=Y8:=by rfl):Ry A l b dr l6 (⟨.call f xs,none,none,u⟩::ops) T H n rl p6 Q:=fun hn=>by
 obtain ⟨M,hc⟩:=hc;have h3:∀ k,M<=k->D7 (N7 A k l b) rl.reverse.length f args ⟨T,H,rl.reverse++ .any::j4 ops.length .any,p6⟩=some (put ⟨T,[]++H.drop 0,rl.reverse++ .any::j4 ops.length .any,.below 0::p6⟩ rl.reverse.length v):=fun k hk =>
  nj (m:=0) (l2:=Y8) gI hm (by simp_all [E9]) (Nat.zero_le _) (by simp_all [R7]) mK (by exact hc k hk) rfl
 refine Rx.step (N1:=M) (rs:=[]) rfl rfl (fun k hk=> ?_) (fun rs=> ?_) (h2.to hn)
 all_goals simp_all [y8,z7,E5,z6.E3,if_true,E7,jS,u7,G4,put,I5,List.drop_zero,List.nil_append,K4,Touch.J3]
def av8 {f:FuncId}{x:u9}{xs:List u9}{first caps:List j3}{u:List Nat}{v:j3}{args:List j3}(hc:Pf A f args v)(h2:Ry A l b dr l6 ops T H (n+1) (v::rl) (.below 0::p6) Q)(hx:rq T n rl x= .func f first caps:=by rfl)(ha:first++xs.map (rq T n rl)++caps=args:=by rfl)(hb:B8 args=0:=by rfl)(gI:A.prom f=false:=by rfl)(hm:A.mode f=0:=by rfl)
  (mK:(⟨l.Tc,l.SU,0,D8 H l.strict 0⟩:F2)=Y8:=by rfl):Ry A l b dr l6 (⟨.aD x xs,none,none,u⟩::ops) T H n rl p6 Q:=fun hn=>by
 obtain ⟨M,hc⟩:=hc;have h3:∀ k,M<=k->D7 (N7 A k l b) rl.reverse.length f args ⟨T,H,rl.reverse++ .any::j4 ops.length .any,p6⟩=some (put ⟨T,[]++H.drop 0,rl.reverse++ .any::j4 ops.length .any,.below 0::p6⟩ rl.reverse.length v):=fun k hk =>
  nj (m:=0) (l2:=Y8) gI hm (by simp_all [E9]) (Nat.zero_le _) (by simp_all [R7]) mK (by exact hc k hk) rfl
 refine Rx.step (N1:=M) (rs:=[]) rfl rfl (fun k hk=> ?_) (fun rs=> ?_) (h2.to hn)
 all_goals simp_all [y8,z7,E5,z6.E3,if_true,E7,Y9,jS,u7,G4,put,I5,List.drop_zero,List.nil_append,K4,Touch.J3]
def aO3 {f:FuncId}{xs:List u9}{u:List Nat}{z n0:Nat}{cs:List Data}{args:List j3}{s:Nat}{T2:List j3}(hc:Pf A f args (.own z n0 cs))(ha:xs.map (rq T n rl)=args:=by rfl)(gI:A.prom f=false:=by rfl)(hm:A.mode f=1:=by rfl)
  (hb:B8 args=0:=by rfl) (hs:T[s]?.isSome=true:=by rfl) (hT:T.set s (.own z n0 cs)=T2:=by simp [List.set_cons_succ]<;>rfl)
  (h2:Ry A l b dr l6 ops T2 H (n+1) (.d (.slice n0 cs)::rl) (.slot s::p6) Q):Ry A l b dr l6 (⟨.call f xs,some s,none,u⟩::ops) T H n rl p6 Q:=fun hn=>by
 obtain ⟨M,hc⟩:=hc;have hs:s<T.length:=by
  simp_all
 have h2:=h2.to hn;refine Rx.step (N1:=M) (rs:=[]) rfl rfl (fun k hk=> ?_) (fK s p6) h2;have h3:D7 (N7 A k l b) rl.reverse.length f args ⟨T,H,rl.reverse++ .any::j4 ops.length .any,p6⟩=some (put ⟨T,H,rl.reverse++ .any::j4 ops.length .any,p6⟩ rl.reverse.length (.own z n0 cs)) :=
  fP gI hm hb (hc k hk)
 have ha' :xs.map (Abs.G9 T (rl.reverse++ .any::j4 ops.length .any))=args:=by
  rw [show Abs.G9 T (rl.reverse++ .any::j4 ops.length .any)=rq T n rl from funext fun x=>Y9 hn _ x];exact ha
 have h5:Abs.E1 ⟨T,H,rl.reverse++ .own z n0 cs::j4 ops.length .any,p6⟩ (.loc rl.reverse.length)=(.own z n0 cs,⟨T,H,rl.reverse++ .d (.slice n0 cs)::j4 ops.length .any,p6⟩):=by
  simp_all [Abs.E1]
 simp_all [y8,z7,E5,z6.E3,if_true,E7,u7,G4,put,I5]
def aW3 {k:Nat}{cs:List Data}{x:u9}{u:List Nat}{s:Nat}{T2:List j3}(hx:rq T n rl x= .d (.slice k cs):=by rfl)(hs:T[s]?.isSome=true:=by rfl)(hT:T.set s (.d (.int .i64 k))=T2:=by simp [List.set_cons_succ]<;>rfl)
  (h2:Ry A l b dr l6 ops T2 H (n+1) (.d (.int .i64 k)::rl) (.slot s::p6) Q):Ry A l b dr l6 (⟨.len x,some s,none,u⟩::ops) T H n rl p6 Q :=
 Ry.ve (v:= .d (.int .i64 k)) (rs:=[]) rfl (by grind [o6,i64]) rfl rfl hs (by simp_all)
def bsv {sz len:Nat}{zero:List j3}{parts:List (Nat×Nat×u9)}(cs:List Data){u:List Nat}(h2:Ry A l b dr l6 ops T H (n+1) (.own sz len cs::rl) p6 Q)(hr:bA zero (parts.map fun p=>(p.1,p.2.1,rq T n rl p.2.2))=some (cs.map .d):=by rfl)(hl:cs.length=len * sz:=by rfl)(h0:D9 1 sz=true:=by rfl) :
  Ry A l b dr l6 (⟨.A2 sz len zero parts false,none,none,u⟩::ops) T H n rl p6 Q:=by
 have h0' :=k9 h0;refine Ry.pure (rs:=[]) rfl ?_ h2;have hr' :bA zero (parts.map fun x=>match x with|(o,s,x)=>(o,s,rq T n rl x))=some (cs.map .d):=hr;simp [o6,hr',cg,hl]
 grind
def owS {j s d z n0 n' :Nat}{cs cs' :List Data}{u u' :List Nat}{d' :Option Nat}{g' :Option (Nat×Bool)}{T2:List j3}(h2:Ry A l b dr l6 ops T2 H (n+1) (.d (.slice n0 cs)::rl) (.slot d:: .slot s::p6) Q)
  (hj:lk n rl j=some (.d (.slice n' cs')):=by rfl) (ha:l6[j]? =some ⟨.R2 (.slot s),d',g',u'⟩:=by rfl) (ht:p6.any (Touch.T4 s)=false:=by rfl) (hT:T[s]? =some (.own z n0 cs):=by rfl)
  (hs:T[d]?.isSome=true:=by rfl) (hT2:(T.set s (.d (.slice n0 cs))).set d (.own z n0 cs)=T2:=by simp only [List.set_cons_zero,List.set_cons_succ]<;>rfl) :
  Ry A l b dr l6 (⟨.own z (.loc j),some d,none,u⟩::ops) T H n rl p6 Q:=fun hn=>by
 have hj' :rl.reverse[j]? =some (.d (.slice n' cs')):=by simp_all [gN]
 have hjl:j<rl.reverse.length:=by
  grind
 have hs' :d<(T.set s (.d (.slice n0 cs))).length:=by
  simp_all
 have hL:∀ r:List j3,(rl.reverse++ .any::r)[j]? =some (.d (.slice n' cs')):=fun r=>by grind
 have h2:=h2.to hn;rw [<- hT2] at h2;refine Rx.step (N1:=0) (rs:=[]) rfl rfl (fun k _=> ?_) (fun rs=> ?_) h2
 .have h5:Abs.E1 ⟨T.set s (.d (.slice n0 cs)),H,rl.reverse++ .own z n0 cs::j4 ops.length .any,.slot s::p6⟩ (.loc rl.reverse.length)=(.own z n0 cs,⟨T.set s (.d (.slice n0 cs)),H,rl.reverse++ .d (.slice n0 cs)::j4 ops.length .any,.slot s::p6⟩):=by
   simp_all [Abs.E1]
  simp only [y8,z7,E5,z6.E3,if_true,E7,O7,hL,ha,W6,ht,hT,j5,if_false,put,I5,u7,G4,hs',h5]
 .have:p6.length+1+1 - p6.length=2:=by omega
  simp [K4,this,Touch.J3]
def moT {s d z n0:Nat}{cs:List Data}{u:List Nat}{T2:List j3}(hx:T[s]? =some (.own z n0 cs):=by rfl)(hs:T[d]?.isSome=true:=by rfl)(hT:T.set d (.d (.slice n0 cs))=T2:=by simp only [List.set_cons_zero,List.set_cons_succ]<;>rfl)
  (h2:Ry A l b dr l6 ops T2 H (n+1) (.d (.slice n0 cs)::rl) (.slot d::p6) Q):Ry A l b dr l6 (⟨.R2 (.slot s),some d,none,u⟩::ops) T H n rl p6 Q:=fun hn=>by
 have hs' :d<T.length:=by
  simp_all
 have h2:=h2.to hn;refine Rx.step (N1:=0) (rs:=[]) rfl rfl (fun k _=> ?_) (fK d p6) h2;have e1:∀ r,Abs.E1 ⟨T,H,r,p6⟩ (.slot s)=(.d (.slice n0 cs),⟨T,H,r,p6⟩):=fun r=>by simp [Abs.E1,Abs.G9,hx,j3.I7]
 have h5:Abs.E1 ⟨T,H,rl.reverse++ .d (.slice n0 cs)::j4 ops.length .any,p6⟩ (.loc rl.reverse.length)=(.d (.slice n0 cs),⟨T,H,rl.reverse++ .d (.slice n0 cs)::j4 ops.length .any,p6⟩):=by
  simp_all [Abs.E1,Abs.G9,j3.I7]
 simp_all [y8,z7,E5,z6.E3,j5,if_false,put,I5,u7,G4,if_true]
def acN {α:Type}{enc:α->List Data}{xs:List α}(a:α){j k sz bytes id off:Nat}{y:u9}{u u' :List Nat}{d' :Option Nat}{g' :Option (Nat×Bool)}{n' :Nat}{cs' :List Data}{old new:List j3}{H2:q8}
  (hr:roomFor (xs.length+1) bytes=true) (hy:rq T n rl y= .d (.slice 1 (enc a)):=by rfl) (hs:(enc a).length=1 * sz:=by rfl) (h0:D9 1 sz=true:=by rfl) (hj:lk n rl j=some (.d (.slice n' cs')):=by rfl) (ha:l6[j]? =some ⟨.load none (.loc k),d',g',u'⟩:=by rfl) (hk:lk n rl k=some (.ptr id off):=by rfl) (ht:p6.any (Touch.bX id off)=false:=by rfl) (hl:l.may id=true:=by rfl) (ho:H[id]? =some (.cells old):=by rfl) (hc:old[off]? =some (C9 sz enc xs):=by rfl)
  (hN:old.set off (.d (A5 enc xs))=new:=by rfl) (hH:H.set id (.cells new)=H2:=by simp only [List.set_cons_zero,List.set_cons_succ]<;>rfl)
  (h2:Ry A l b dr l6 ops T H2 (n+1) (C9 sz enc (xs++[a])::rl) (.cell id off::p6) Q):Ry A l b dr l6 (⟨.append sz bytes false (.loc j) y,none,none,u⟩::ops) T H n rl p6 Q :=
 Ry.ae1 hj ha hk ht hl ho hc hy hs hr (k9 h0) (by
  have e1:C9 sz enc (xs++[a])= .own sz (xs.length+1) (xs.flatMap enc++enc a):=by simp [C9]
  rw [e1] at h2;subst hH hN;exact h2)
end
end S
section
variable {α:Type} [Inhabited α] {enc:α->List Data} {sz:Nat} {H:q8} {id:Nat} {xs:List α}
def Me (hs:∀ a,(enc a).length=sz)(h:H[id]? =some (.cells ((xs.flatMap enc).map .d))){i:Nat}(hi:i<xs.length):rd H id (0+i * sz) sz=some ((enc (nth xs i)).map .d):=by
 have h1:i * sz+sz<=xs.length * sz:=by rw [<- Nat.succ_mul];exact M3 _ hi
 simp only [rd,h,List.length_map,bG hs,Nat.zero_add,h1,if_true,Option.some.injEq];rw [<- List.map_drop,<- List.map_take,uJ hs,D4 hi];simp only [List.flatMap_cons];rw [List.take_append_of_le_length (by rw [hs];exact o5 _),A8 (by rw [hs];exact o5 _)]
def aq2 (hs:∀ a,(enc a).length=sz){ys zs:List α}{z:α}(h:H[id]? =some (.cells (((ys++z::zs).flatMap enc).map .d)))(x:α) :
  wr H id (0+ys.length * sz) ((enc x).map .d)=some (H.set id (.cells (((ys++x::zs).flatMap enc).map .d))):=by
 have e:(((ys++z::zs).flatMap enc).map j3.d)=((ys.flatMap enc).map .d)++(((enc z).map .d)++((zs.flatMap enc).map .d)):=by simp
 have l1:((ys.flatMap enc).map j3.d).length=ys.length * sz:=by rw [List.length_map,bG hs]
 have l2:((enc z).map j3.d).length=sz:=by rw [List.length_map,hs]
 have l3:((enc x).map j3.d).length=sz:=by rw [List.length_map,hs]
 simp only [wr,h,e,Nat.zero_add,splice];rw [if_pos (by simp only [List.length_append,l1,l2,l3];omega)];rw [<- l1,List.take_left,List.drop_append,List.drop_eq_nil_of_le (by rw [l3];omega)];have e2:((ys.flatMap enc).map j3.d).length+((enc x).map j3.d).length - ((ys.flatMap enc).map j3.d).length=((enc z).map j3.d).length:=by rw [l3,l2];omega
 rw [e2,List.drop_left];simp
end
namespace S
section
variable {A:Prog} {l:F2} {b:Nat} {dr:Bool} {l6 ops:List p9} {T:List j3} {H:q8} {n:Nat} {rl:List j3} {p6:List Touch} {Q:List j3->q8->List j3->Prop}
def lnr {x:u9}{u:List Nat}{id sz lo len:Nat}(h2:Ry A l b dr l6 ops T H (n+1) (.d (.int .i64 (len:Int))::rl) p6 Q)(hx:rq T n rl x= .B6 id sz lo len:=by rfl):Ry A l b dr l6 (⟨.len x,none,none,u⟩::ops) T H n rl p6 Q :=
 Ry.pure (rs:=[]) rfl (by simp only [o6,hx,i64]) h2
def svr {x y:u9}{u:List Nat}{id sz lo len i:Nat}{k:IntKind}(hi:i<len)(h2:Ry A l b dr l6 ops T H (n+1) (.B6 id sz (lo+i * sz) (len - i)::rl) p6 Q)(hx:rq T n rl x= .B6 id sz lo len:=by rfl)(hy:rq T n rl y= .d (.int k ((i:Nat):Int)):=by rfl) :
  Ry A l b dr l6 (⟨.aj sz x (some y) none,none,none,u⟩::ops) T H n rl p6 Q :=
 Ry.pure (rs:=[]) rfl (by
  have h1:((i:Nat):Int)<=len:=by omega
  have h3:¬ ((i:Nat):Int)=len:=by omega
  have h4:((len:Int) - i).toNat=len - i:=by omega
  simp [o6,hx,hy,U5,h1,h3,h4]) h2
def svf {x y:u9}{u:List Nat}{id sz lo len i:Nat}{k:IntKind}(hi:i<=len)(h0:0<i)(h2:Ry A l b dr l6 ops T H (n+1) (.B6 id sz lo i::rl) p6 Q)(hx:rq T n rl x= .B6 id sz lo len:=by rfl)(hy:rq T n rl y= .d (.int k ((i:Nat):Int)):=by rfl) :
  Ry A l b dr l6 (⟨.aj sz x none (some y),none,none,u⟩::ops) T H n rl p6 Q :=
 Ry.pure (rs:=[]) rfl (by
  have h1:((i:Nat):Int)<=len:=by omega
  have h3:¬ (0:Int)=((i:Nat):Int):=by omega
  simp [o6,hx,hy,U5,h1,h3]) h2
def clS {x:u9}{u:List Nat}{id sz lo len:Nat}{zero:List j3}{H2:q8}(hw:wr H id lo ((j4 len zero).flatten)=some H2)(h2:Ry A l b false l6 ops T H2 (n+1) (.tuple []::rl) (.obj id::p6) Q)(hx:rq T n rl x= .B6 id sz lo len:=by rfl)(hz:zero.length=sz:=by rfl)(hb:B8 zero=0:=by rfl)(hl:l.may id=true:=by rfl) :
  Ry A l b false l6 (⟨.clear sz zero x,none,none,u⟩::ops) T H n rl p6 Q:=fun hn=>by
 refine Rx.stepT (N1:=0) (rs:=[]) rfl (fun k _=> ?_) (h2.to hn);have hl' :(N7 A k l b).lim.may id=true:=hl;simp only [y8,z7,E5,z6.E3,if_true,E7,Y9 hn,hx,X6,hz,hb,hl',and_self,hw,put,I5,u7,G4]
end
end S
theorem vL {A B:Prog}(hf:A.fn=B.fn)(hi:A.idle=B.idle)(hm:A.mode=B.mode)(M:Nat)(hn:∀ f,A.eF f=none->B.eF f=none\/A.fn f=none)
  (hp:∀ f p,A.eF f=some p->∀ args H l r,p args H l=some r->call B M f args H l=some r):∀ n,LeC (call A n) (call B (n+M))
 |0=>fun _ _ _ _=>jg.no _
 |n+1=>fun f args H l=>by
  intro r hr;have vY:A.prom=B.prom:=by funext g;simp only [Prog.prom,hf]
  unfold call at hr;split at hr
  .rename_i p hq
   exact Eu B M (n+1+M) (by omega) f args H l r (hp f p hq args H l r hr)
  .rename_i hq
   split at hr
   .rename_i af haf
    have hb:B.eF f=none:=by
     rcases hn f hq with h|h
     .exact h
     .rw [haf] at h;cases h
    rw [show n+1+M=(n+M)+1 by omega,Et hb (by rw [<- hf];exact haf)];unfold gb at hr ⊢;split at hr
    .rename_i hlen
     rw [if_pos hlen];cases hx:exec ⟨call A n,A.prom,A.mode,A.idle,l,H.length⟩ n af.body ⟨args++j4 (af.names.length - args.length) .any,H⟩ with
     |none=>rw [hx] at hr;cases hr
     |some x =>
      rw [hx] at hr;rw [vY,hi,hm] at hx;rw [fS (vL hf hi hm M hn hp n) (Nat.le_add_right n M) _ _ _ hx];exact hr
    .cases hr
   .cases hr
def Pf.ap8 {A:Prog}{es:List yy}{M n:Nat}(QD:∀ e,e ∈ es->call A M e.f e.args [] Y8=some (e.res,[])){f:FuncId}{args:List j3}{v:j3}(h:call (memo A es) n f args [] Y8=some (v,[]))(hM:0<M):Pf A f args v:=by
 refine Pf.Yj (vL (A:=memo A es) (B:=A) rfl rfl rfl M ?_ ?_ n _ _ _ _ _ h)
 .intro f hf
  simp only [memo] at hf;split at hf
  .cases hf
  .exact Or.inl hf
 .intro f p hp args H l r hr
  simp only [memo] at hp;split at hp
  .cases hp
   simp only at hr;split at hr
   .rename_i hc
    simp only [c9] at hc;have hH:H=[]:=by simpa using hc.1
    have hl:=EZ hc.2;subst hH hl;split at hr
    .rename_i v' ay3
     cases hr;obtain ⟨e,he,h1,h2,h3⟩:=zN es ay3;rw [<- h1,<- h2,<- h3];exact QD e he
    .cases hr
   .cases hr
  .obtain ⟨k,rfl⟩:∃ k,M=k+1:=⟨M - 1,by omega⟩
   simp only [call,hp];exact hr
end Go.Abs


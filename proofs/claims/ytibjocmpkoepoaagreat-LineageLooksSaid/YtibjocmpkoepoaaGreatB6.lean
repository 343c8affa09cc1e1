import Derived.Test.YtibjocmpkoepoaaGreatB4
set_option linter.all false
open Bool renaming false_eq_true→j4,or_eq_false_iff→J3,true→W,false→F
open Int renaming toNat_natCast→J9
open List renaming all_eq_true→M1,append_assoc→D3,drop_of_length_le→n9,getElem?_append_left→B9,getElem?_append_right→y3,getElem?_eq_getElem→o6,getElem_of_mem→R3,map_cons→K0,mem_append→D7,mem_cons→B6,mem_singleton→q8,pairwise_cons→M7,take_of_length_le→z7,length→O
open Nat renaming ble→F3,le_of_ble_eq_true→j9,le_refl→l6,lt_or_ge→A5
open Option renaming some→J,none→K
namespace Go.A1
def BA (x:Int):List Int->List Int
 |[]=>[x]
 |y::l=>if x<=y then x::y::l else y::BA x l
def dW:List Int->List Int
 |[]=>[]
 |x::l=>BA x (dW l)
def me :List c8->Option (List Int)
 |[]=>J []
 | .d (.int .i64 n)::r=>match me r with
  |some xs=>J (n::xs)
  |none=>K
 |_=>K
def Hu:List c8->q6->I7->Option (c8×q6)
 |[.P9,.d (.int .i64 n)],H,_=>if 0<=n/\n<=1000000 then J (.own 1 0 [],H) else K
 |_,_,_=>K
def Hv:List c8->q6->I7->Option (c8×q6)
 |[.B8 id 1 lo len],H,l=>if l.may id&&F3 len 1000000 then match rd H id lo len with
   |some vs=>match me vs with
    |some xs=>match wr H id lo ((dW xs).map λn=> .d (.int .i64 n)) with
     |some H1=>J (.tuple [],H1)
     |none=>K
    |none=>K
   |none=>K
  else K
 |[.d (.slice 0 _)],H,_=>J (.tuple [],H)
 |_,_,_=>K
def aj:List Int->List Int
 |[]=>[]
 |[x]=>[x]
 |x::y::l=>if x=y then aj (y::l) else x::aj (y::l)
def oc:List c8->q6->I7->Option (c8×q6)
 |[.B8 id 1 lo len],H,l=>if l.may id&&F3 len 1000000 then match rd H id lo len with
   |some vs=>match me vs with
    |some xs=>match wr H id lo ((aj xs++List.replicate (O xs - O (aj xs)) 0).map λn=> .d (.int .i64 n)) with
     |some H1=>J (.B8 id 1 lo (O (aj xs)),H1)
     |none=>K
    |none=>K
   |none=>K
  else K
 |_,_,_=>K
section
variable {A:Prog} {l:I7} {b:Nat}
variable {dr:Bool} {l5 ops:List p7} {T:List c8} {H:q6} {n:Nat} {rl:List c8} {o9:List Touch} {Q:List c8->q6->List c8->Prop}
def Ex.NX {ops:List p7}{draw:Bool}{c:y7}{d e:q7}{T:List c8}{H:q6}{Q:I6->St->Prop}(t:Bool)
  (h:Rn A l b ops draw T H λT' H' L=>T' =T/\H' =H/\∃t',K4 T' L c= .d (.bool t')/\t' =t)
  (h2:t=W->Ex A l b d ⟨T,H⟩ Q) (h3:t=F->Ex A l b e ⟨T,H⟩ Q):Ex A l b (.test ops draw c d e) ⟨T,H⟩ Q:=by
 obtain ⟨r,N,⟨e1,e2,t',e3,rfl⟩,h⟩:=h;subst e1;subst e2;exact Ex.test ⟨r,N,⟨t',e3,h2,h3⟩,h⟩
def Ex.nT {c:q7}{T T2:List c8}{H:q6}{Q:I6->St->Prop}(h:Ex A l b c ⟨T2,H⟩ Q)(hT:T=T2:=by simp only [V4]<;>rfl):Ex A l b c ⟨T,H⟩ Q:=hT ▸ h
def Pf.run {f:FuncId}{af:q9}{args:List c8}{v:c8}(T:List c8)(hp:A.cM f=K)(hf:A.fn f=J af)(hn:O args=af.nparams)
  (hT:args++List.replicate (O af.names - O args) .any=T) (h:Ex A W8 0 af.body ⟨T,[]⟩ λx s=>∃w,ep af 0 (J (x,s))=J (w,[])/\w=v):Pf A f args v :=
 Pf.bs8 T hp hf hn hT (h.mono λ_ _ ⟨_,h1,h2⟩=>h2 ▸ h1)
theorem aV {α:Type}:∀{l:List α} {j:Nat} {v:α},l[j]? =J v->l.set j v=l
 |[],_,_,_=>rfl
 |a::l,0,v,h=>M
 |a::l,j+1,v,h=>by simp at h;simp [aV h]
def Rx.ah7 {pre:List c8}{op:x9}{j:Nat}{want:Bool}{u:List Nat}(h:pre[j]? =J (.tuple []))(hk:I5 ⟨T,H,pre++ .any::List.replicate (O ops) .any,o9⟩ op=F)(ha:op.B0=F)
  (h2:Rx A l b dr l5 ops T H (pre++[.tuple []]) o9 Q):Rx A l b dr l5 (⟨op,K,J (j,want),u⟩::ops) T H pre o9 Q:=by
 refine Rx.step (N1:=0) (rs:=[]) hk ha (λn _=>?_) (λrs=>by simp [J2]) h2
 grind [z6,y8,yW,put,L6,u9,F2]
instance:Inhabited Y8:=⟨⟨0,0,0,[],0⟩⟩
instance:Inhabited gu:=⟨⟨[],0,[],[],[],0,0⟩⟩
instance:Inhabited jV:=⟨⟨[],[],0,0⟩⟩
instance:Inhabited RY:=⟨⟨[],[]⟩⟩
instance:Inhabited KW:=⟨⟨[],0,[]⟩⟩
instance:Inhabited Vw:=⟨⟨[],0,[],[],[],[],[],F,[]⟩⟩
instance:Inhabited qh:=⟨⟨[],[],0⟩⟩
instance:Inhabited oO:=⟨⟨[],[],0,0,0,0⟩⟩
instance:Inhabited sV:=⟨⟨[],[],0,0⟩⟩
instance:Inhabited qI:=⟨⟨[],[],0⟩⟩
instance:Inhabited vL:=⟨⟨[],[]⟩⟩
instance:Inhabited vJ:=⟨⟨[],[],0⟩⟩
@[irreducible] def Y {α:Type} [Inhabited α] (l:List α) (i:Nat):α:=l[i]?.getD default
theorem E6 {α:Type} [Inhabited α] {l:List α}{i:Nat}(h:i<O l):Y l i=l[i]:=by simp [Y,h]
def ay {α:Type} [Inhabited α] (a:α)(l:List α):Y (a::l) 0=a:=by simp [Y]
def wU {α:Type} [Inhabited α] (a:α)(l:List α)(i:Nat):Y (a::l) (i+1)=Y l i:=by simp [Y]
theorem N8 {α:Type} [Inhabited α] {l:List α}{i:Nat}(h:i<O l):Y l i∈l:=by grind [E6,List.getElem_mem]
theorem E0 {α:Type} [Inhabited α] {l:List α}{i:Nat}(h:i<O l):l.drop i=Y l i::l.drop (i+1):=by grind [E6,List.drop_eq_getElem_cons]
theorem E2 {α:Type} [Inhabited α] {l:List α}{i:Nat}(h:i<O l):l.take (i+1)=l.take i++[Y l i]:=by rw [E6 h,List.take_append_getElem]
def mY {α:Type} [Inhabited α] {l:List α}{i j:Nat}(h:j<i)(hi:i<=O l):(l.take i).drop j=Y l j::(l.take i).drop (j+1):=by
 grind [E0,E6]
@[irreducible] def F6 (a b:Int):Bool:=decide (a<b)
@[irreducible] def cg (a b:Int):Bool:=decide (a<=b)
@[irreducible] def u7 (a b:Int):Bool:=a==b
@[irreducible] def P8 (a b:List UInt8):Bool:=a==b
theorem s9 (a b:Int):F6 a b=decide (a<b):=by unfold F6;rfl
theorem s8 (a b:Int):cg a b=decide (a<=b):=by unfold cg;rfl
theorem o8 (a b:Int):u7 a b=(a==b):=by unfold u7;rfl
theorem D2 (a b:List UInt8):P8 a b=(a==b):=by unfold P8;rfl
def C4 {a b:Int}(h:F6 a b=W):a<b:=by grind [s9]
def B5 {a b:Int}(h:F6 a b=F):b<=a:=by grind [s9]
def qo {a b:Int}(h:cg a b=W):a<=b:=by grind [s8]
def Am {a b:Int}(h:cg a b=F):b<a:=by grind [s8]
theorem eE {a b:Int}(h:u7 a b=W):a=b:=by grind [o8]
def wB {a b:Int}(h:u7 a b=F):a≠b:=by grind [o8]
theorem bB8 {a b:List UInt8}(h:P8 a b=W):a=b:=by grind [D2]
theorem aO0 {a b:List UInt8}(h:P8 a b=F):a≠b:=by grind [D2]
def s7 (n a b:Int):Bool:=cg a n&&cg n b
def Ry (A:Prog)(l:I7)(b:Nat)(dr:Bool)(l5 ops:List p7)(T:List c8)(H:q6)(n:Nat)(rl:List c8)(o9:List Touch)(Q:List c8->q6->List c8->Prop):Prop :=
 O rl=n->Rx A l b dr l5 ops T H rl.reverse o9 Q
def lk (n:Nat)(rl:List c8)(j:Nat):Option c8:=match F3 (j+1) n with
 |true=>rl[n - (j+1)]?
 |false=>K
theorem jI (hn:O rl=n)(j:Nat):rl.reverse[j]? =lk n rl j:=by
 grind [lk,j9,Nat.ble_eq_true_of_le,List.getElem?_eq_none]
def opw (T:List c8)(n:Nat)(rl:List c8):y7->Option c8
 | .slot s=>T[s]?
 | .loc j=>lk n rl j
 | .const v=>J v
def Oq (T:List c8)(n:Nat)(rl:List c8)(x:y7)(v:c8):Prop:=opw T n rl x=J v/\v.K7=v
def Oq.op {x:y7}{v:c8}(h:Oq T n rl x v)(hn:O rl=n):Op T rl.reverse x v:=by
 obtain ⟨h1,h2⟩:=h;refine ⟨?_,h2⟩;cases x with
 |slot s=>exact h1
 |loc j=>simp [opv,jI hn];exact h1
 |const u=>exact h1
def rq (T:List c8)(n:Nat)(rl:List c8):y7->c8
 | .const v=>v.Wk
 |x=>((opw T n rl x).getD .any).K7
theorem Oq.rq {x:y7}{v:c8}(h:Oq T n rl x v):A1.rq T n rl x=v:=by
 obtain ⟨h1,h2⟩:=h;cases x with
 |const u=>simp_all [opw,Option.some.injEq,A1.rq,YK]
 |_=>grind [A1.rq]
def Z0 (hn:O rl=n)(m:Nat)(x:y7):A1.K4 T (rl.reverse++ .any::List.replicate m .any) x=rq T n rl x:=by
 cases x with
 |slot s=>rfl
 |const v=>rfl
 |loc j =>
  grind [A1.K4,rq,opw,jI,A5,B9,y3,List.getElem?_eq_none,List.getElem?_cons_succ]
def Ry.to {v:c8}(h:Ry A l b dr l5 ops T H (n+1) (v::rl) o9 Q)(hn:O rl=n):Rx A l b dr l5 ops T H (rl.reverse++[v]) o9 Q:=by
 have:=h (by simp [hn]);simp_all
def Rn.text {T:List c8}{H:q6}(h:Ry A l b F ops ops T H 0 [] [] Q):Rn A l b ops F T H Q:=Rn.aB2 (h rfl)
def Rn.draw {T:List c8}{H:q6}(h:Ry A l b W ops ops T H 0 [] [] Q)(hp:uQ ops=W:=by rfl):Rn A l b ops W T H Q:=Rn.aB1 hp (h rfl)
theorem Ry.pure {op:x9}{u:List Nat}{v:c8}{rs:List Nat}(hE:op.D6=F)(hp:o7 (rq T n rl) H op=J (v,rs))
  (h2:Ry A l b dr l5 ops T H (n+1) (v::rl) o9 Q):Ry A l b dr l5 (⟨op,K,K,u⟩::ops) T H n rl o9 Q:=λhn=>by
 refine Rx.pure (rs:=rs) hE (λm=>?_) (h2.to hn);rw [show A1.K4 T (rl.reverse++ .any::List.replicate m .any)=rq T n rl from funext λx=>Z0 hn m x];exact hp
def Ry.zi {op:x9}{u:List Nat}{v:c8}{rs:List Nat}{s:Nat}(hE:op.D6=F)(hp:o7 (rq T n rl) H op=J (v,rs))(hv:v.K7=v)(hm:op.B0=F)(hs:T[s]?.isSome=W)
  (h2:Ry A l b dr l5 ops (T.set s v) H (n+1) (v::rl) (.slot s::o9) Q):Ry A l b dr l5 (⟨op,J s,K,u⟩::ops) T H n rl o9 Q:=λhn=>by
 have hs:s<O T:=by
  simp_all
 have Zp:∀x,op≠ .Q5 x:=by
  grind [o7]
 refine Rx.step (N1:=0) (rs:=rs) ?_ hm (λm _=>?_) (fP s o9) (h2.to hn)
 .cases op<;>first|rfl|grind [x9.D6]
 .have h3:E1 (M0 A m l b) l5 K (O rl.reverse) op ⟨T,H,rl.reverse++ .any::List.replicate (O ops) .any,o9⟩=J (⟨T,H,rl.reverse++v::List.replicate (O ops) .any,o9⟩,rs):=by
   have h4:o7 (A1.K4 T (rl.reverse++ .any::List.replicate (O ops) .any)) H op=J (v,rs):=by
    rw [show A1.K4 T (rl.reverse++ .any::List.replicate (O ops) .any)=rq T n rl from funext λx=>Z0 hn _ x];exact hp
   simp_all [absurd,E1,j4,if_false,put,L6,x9.D6]
  have h5:A1.E7 ⟨T,H,rl.reverse++v::List.replicate (O ops) .any,o9⟩ (.loc (O rl.reverse))=(v,⟨T,H,rl.reverse++v::List.replicate (O ops) .any,o9⟩):=by
   grind [A1.E7,c8.K7,A1.K4]
  simp_all [z6,y8,u9,F2,if_true]
def Ry.fork {j:Nat}{w:Bool}(h:lk n rl j=J (.d (.bool w)))(hj:F3 (j+1) n=W)(h1:w=W->Ry A l b dr l5 ops T H n (rl.set (n - (j+1)) (.d (.bool W))) o9 Q)
  (h2:w=F->Ry A l b dr l5 ops T H n (rl.set (n - (j+1)) (.d (.bool F))) o9 Q):Ry A l b dr l5 ops T H n rl o9 Q:=by
 simp [lk,hj] at h;cases w with
 |true=>simp_all [aV]
 |false=>simp_all [aV]
theorem HW {α:Type}{enc:α->List Data}{sz:Nat}(hs:∀a,O (enc a)=sz):∀(l:List α) (i:Nat),(l.flatMap enc).take (i * sz)=(l.take i).flatMap enc
 |[],i=>U
 |a::l,0=>U
 |a::l,i+1=>by
  have h1:=HW hs l i;simp_all [List.flatMap_cons,List.take_succ_cons,List.take_append,Nat.succ_mul,Nat.add_sub_cancel,z7]
theorem Z1 {α:Type}{enc:α->List Data}{sz:Nat}(hs:∀a,O (enc a)=sz):∀(l:List α),O (l.flatMap enc)=O l * sz
 |[]=>U
 |a::l=>by simp [hs a,Z1 hs l,Nat.succ_mul,Nat.add_comm]
theorem ta {α:Type}{enc:α->List Data}{sz:Nat}(hs:∀a,O (enc a)=sz):∀(l:List α) (i:Nat),(l.flatMap enc).drop (i * sz)=(l.drop i).flatMap enc
 |[],i=>U
 |a::l,0=>U
 |a::l,i+1=>by
  have h1:=ta hs l i;simp_all [List.flatMap_cons,List.drop_succ_cons,List.drop_append,Nat.succ_mul,Nat.add_sub_cancel,List.drop_eq_nil_of_le]
def Ep {α:Type}{enc:α->List Data}{sz:Nat}(hs:∀a,O (enc a)=sz)(l:List α)(lo hi:Nat)(h1:lo<=hi)(h2:hi<=O l) :
  Data.slice ((hi:Int) - lo).toNat (((l.flatMap enc).take (hi * sz)).drop (lo * sz))=C6 enc ((l.take hi).drop lo):=by
 simp_all [HW,ta,C6]
def D9 {α:Type}(sz:Nat)(enc:α->List Data)(xs:List α):c8:= .own sz (O xs) (xs.flatMap enc)
def Kh {j:Nat}(hn:O rl=n)(hb:F3 (j+1) n=W)(v:c8):rl.reverse.set j v=(rl.set (n - (j+1)) v).reverse:=by
 have hb' :j+1<=O rl:=M
 apply List.ext_getElem?;intro i
 rcases A5 i (O rl) with hi|hi
 .grind
 simp_all
def Rx.au4 {pre:List c8}{j sz bytes:Nat}{y:y7}{u:List Nat}{len m:Nat}{cells new:List Data}{vy:c8}{cs:List c8}
  (hj:pre[j]? =J (.own sz len cells)) (hy:∀m,A1.K4 T (pre++ .any::List.replicate m .any) y=vy) (hc:Q3 H sz vy=J (m,cs)) (hd:P7 cs=J new) (hr:roomFor (len+m) bytes=W) (h0:0<sz)
  (h2:Rx A l b dr l5 ops T H (pre.set j (.d (.slice len cells))++[.own sz (len+m) (cells++new)]) o9 Q):Rx A l b dr l5 (⟨.append sz bytes F (.loc j) y,K,K,u⟩::ops) T H pre o9 Q:=by
 have hjl:j<O pre:=by
  grind
 have hL:∀r:List c8,(pre++ .any::r)[j]? =J (.own sz len cells):=λr=>by grind
 have aU6:A1.K4 T (pre++ .any::List.replicate (O ops) .any) (.loc j)= .d (.slice len cells):=by simp [A1.K4,hL,c8.K7]
 have hl:O (pre.set j (.d (.slice len cells)))=O pre:=U
 have h4:∀(a v:c8) (r:List c8),(pre.set j (.d (.slice len cells))++a::r).set (O pre) v=pre.set j (.d (.slice len cells))++v::r:=λa v r=>M
 refine Rx.stepG (N1:=0) (rs:=[]) hl (by simp_all [I5]) rfl (λn _=>?_) (λrs=>by simp [J2]) h2;simp_all [z6,y8,E1,x9.D6,if_true,F9,Q1,j4,if_false,R8,and_self,put,u9,F2]
theorem cF:∀l:List Data,P7 (l.map .d)=J l
 |[]=>rfl
 |a::l=>by simp [P7,c8.data?,cF l]
def Ry.bk0 {j s sz bytes:Nat}{y:y7}{u u' :List Nat}{d' :Option Nat}{g' :Option (Nat×Bool)}{n' len m:Nat}{cs' cells new:List Data}
  (hj:lk n rl j=J (.d (.slice n' cs'))) (ha:l5[j]? =J ⟨.Q5 (.slot s),d',g',u'⟩) (ht:o9.any (Touch.V5 s)=F) (hT:T[s]? =J (.own sz len cells))
  (hy:rq T n rl y= .d (.slice m new)) (hl:O new=m * sz) (hr:roomFor (len+m) bytes=W) (h0:0<sz)
  (h2:Ry A l b dr l5 ops (T.set s (.d (.slice len cells))) H (n+1) (.own sz (len+m) (cells++new)::rl) (.slot s::o9) Q):Ry A l b dr l5 (⟨.append sz bytes F (.loc j) y,K,K,u⟩::ops) T H n rl o9 Q:=λhn =>
 Rx.append (vy:= .d (.slice m new)) (by rw [jI hn];exact hj) ha ht hT (λk=>by simp_all [Z0]) (by simp_all [Q3]) (cF new) hr h0 (h2.to hn)
def Ry.aR4 {j sz bytes:Nat}{y:y7}{u:List Nat}{len m:Nat}{cells new:List Data}(hj:lk n rl j=J (.own sz len cells))(hb:F3 (j+1) n=W)
  (hy:rq T n rl y= .d (.slice m new)) (hl:O new=m * sz) (hr:roomFor (len+m) bytes=W) (h0:0<sz)
  (h2:Ry A l b dr l5 ops T H (n+1) (.own sz (len+m) (cells++new)::rl.set (n - (j+1)) (.d (.slice len cells))) o9 Q):Ry A l b dr l5 (⟨.append sz bytes F (.loc j) y,K,K,u⟩::ops) T H n rl o9 Q:=λhn=>by
 refine Rx.au4 (vy:= .d (.slice m new)) (by rw [jI hn];exact hj) (λk=>by simp_all [Z0]) (by simp_all [Q3]) (cF new) hr h0 ?_;have h3:=h2.to (by simp [hn]);simp_all [Kh]
namespace S
def nl (h:Q T H rl.reverse):Ry A l b dr l5 [] T H n rl o9 Q:=λ_=>Rx.nil h
def mv {x:y7}{v:c8}{u:List Nat}(h2:Ry A l b dr l5 ops T H (n+1) (v::rl) o9 Q)(hx:Oq T n rl x (v):=by exact ⟨rfl,rfl⟩) :
  Ry A l b dr l5 (⟨.Q5 x,K,K,u⟩::ops) T H n rl o9 Q:=λhn=>Rx.Q5 (hx.op hn) (h2.to hn)
def mt {x:y7}{v:c8}{s:Nat}{T2:List c8}{u:List Nat}(hx:Oq T n rl x (v):=by exact ⟨rfl,rfl⟩)(hs:T[s]?.isSome=W:=by rfl)(hT:T.set s v=T2:=by simp only [List.set_cons_zero,List.set_cons_succ]<;>rfl)(h2:Ry A l b dr l5 ops T2 H (n+1) (v::rl) (.slot s::o9) Q) :
  Ry A l b dr l5 (⟨.Q5 x,J s,K,u⟩::ops) T H n rl o9 Q:=λhn=>Rx.br9 (hx.op hn) hs (by rw [hT];exact h2.to hn)
theorem mo {s z n0:Nat}{cs:List Data}{u:List Nat}(h2:Ry A l b dr l5 ops T H (n+1) (.d (.slice n0 cs)::rl) o9 Q)(hx:T[s]? =J (.own z n0 cs):=by rfl) :
  Ry A l b dr l5 (⟨.Q5 (.slot s),K,K,u⟩::ops) T H n rl o9 Q:=λhn=>Rx.aZ2 hx (h2.to hn)
def mw {j s z n0:Nat}{cs:List Data}{u:List Nat}{T2:List c8}(hj:lk n rl j=J (.own z n0 cs):=by rfl)(hb:F3 (j+1) n=W:=by rfl)(hs:T[s]?.isSome=W:=by rfl)(hT:T.set s (.own z n0 cs)=T2:=by simp only [List.set_cons_zero,List.set_cons_succ]<;>rfl)
  (h2:Ry A l b dr l5 ops T2 H (n+1) (.d (.slice n0 cs)::rl.set (n - (j+1)) (.d (.slice n0 cs))) (.slot s::o9) Q):Ry A l b dr l5 (⟨.Q5 (.loc j),J s,K,u⟩::ops) T H n rl o9 Q:=λhn=>by
 refine Rx.aa2 (by rw [jI hn];exact hj) hs ?_;have h3:=h2.to (by simp [hn]);simp_all [Kh]
def ow {s z n0:Nat}{cs:List Data}{T2:List c8}{u:List Nat}(hs:T[s]?.isSome=W:=by rfl)(hT:T.set s (.own z n0 cs)=T2:=by simp only [List.set_cons_zero,List.set_cons_succ]<;>rfl)(h2:Ry A l b dr l5 ops T2 H (n+1) (.d (.slice n0 cs)::rl) (.slot s::o9) Q) :
  Ry A l b dr l5 (⟨.Q5 (.const (.own z n0 cs)),J s,K,u⟩::ops) T H n rl o9 Q:=λhn=>Rx.bt1 hs (by rw [hT];exact h2.to hn)
def ad {x y:y7}{c d:Int}{u:List Nat}(h2:Ry A l b dr l5 ops T H (n+1) (.d (.int .i64 (c+d))::rl) o9 Q)(hx:rq T n rl x= .d (.int .i64 c):=by rfl)(hy:rq T n rl y= .d (.int .i64 d):=by rfl)(h0: -9223372036854775808<=c+d/\c+d<9223372036854775808:=by first|omega|(simp only [s7,Bool.and_eq_true,s9,s8,o8,beq_eq_false_iff_ne,beq_iff_eq,decide_eq_true_eq,decide_eq_false_iff_not,Bool.not_eq_true',Bool.not_eq_false'] at *;omega)) :
  Ry A l b dr l5 (⟨.bin .add x y,K,K,u⟩::ops) T H n rl o9 Q:=Ry.pure (rs:=[]) rfl (by simp_all [o7,Jg]) h2
def sb {x y:y7}{c d:Int}{u:List Nat}(h2:Ry A l b dr l5 ops T H (n+1) (.d (.int .i64 (c - d))::rl) o9 Q)(hx:rq T n rl x= .d (.int .i64 c):=by rfl)(hy:rq T n rl y= .d (.int .i64 d):=by rfl)(h0: -9223372036854775808<=c - d/\c - d<9223372036854775808:=by first|omega|(simp only [s7,Bool.and_eq_true,s9,s8,o8,beq_eq_false_iff_ne,beq_iff_eq,decide_eq_true_eq,decide_eq_false_iff_not,Bool.not_eq_true',Bool.not_eq_false'] at *;omega)) :
  Ry A l b dr l5 (⟨.bin .sub x y,K,K,u⟩::ops) T H n rl o9 Q:=Ry.pure (rs:=[]) rfl (by simp_all [o7,Jg]) h2
def li {x y:y7}{k:IntKind}{c d:Int}{u:List Nat}(h2:Ry A l b dr l5 ops T H (n+1) (.d (.bool (F6 c d))::rl) o9 Q)(hx:rq T n rl x= .d (.int k c):=by rfl)(hy:rq T n rl y= .d (.int k d):=by rfl) :
  Ry A l b dr l5 (⟨.bin .lss x y,K,K,u⟩::ops) T H n rl o9 Q:=Ry.pure (rs:=[]) rfl (by grind [o7,Q9,aT,cZ,s9,s8,o8,bne]) h2
def lo {x y:y7}{k:IntKind}{c d:Int}{u:List Nat}(h2:Ry A l b dr l5 ops T H (n+1) (.d (.bool (cg c d))::rl) o9 Q)(hx:rq T n rl x= .d (.int k c):=by rfl)(hy:rq T n rl y= .d (.int k d):=by rfl) :
  Ry A l b dr l5 (⟨.bin .leq x y,K,K,u⟩::ops) T H n rl o9 Q:=Ry.pure (rs:=[]) rfl (by grind [o7,Q9,aT,cZ,s9,s8,o8,bne]) h2
def gi {x y:y7}{k:IntKind}{c d:Int}{u:List Nat}(h2:Ry A l b dr l5 ops T H (n+1) (.d (.bool (F6 d c))::rl) o9 Q)(hx:rq T n rl x= .d (.int k c):=by rfl)(hy:rq T n rl y= .d (.int k d):=by rfl) :
  Ry A l b dr l5 (⟨.bin .gtr x y,K,K,u⟩::ops) T H n rl o9 Q:=Ry.pure (rs:=[]) rfl (by grind [o7,Q9,aT,cZ,s9,s8,o8,bne]) h2
def go {x y:y7}{k:IntKind}{c d:Int}{u:List Nat}(h2:Ry A l b dr l5 ops T H (n+1) (.d (.bool (cg d c))::rl) o9 Q)(hx:rq T n rl x= .d (.int k c):=by rfl)(hy:rq T n rl y= .d (.int k d):=by rfl) :
  Ry A l b dr l5 (⟨.bin .geq x y,K,K,u⟩::ops) T H n rl o9 Q:=Ry.pure (rs:=[]) rfl (by grind [o7,Q9,aT,cZ,s9,s8,o8,bne]) h2
def ei {x y:y7}{k:IntKind}{c d:Int}{u:List Nat}(h2:Ry A l b dr l5 ops T H (n+1) (.d (.bool (u7 c d))::rl) o9 Q)(hx:rq T n rl x= .d (.int k c):=by rfl)(hy:rq T n rl y= .d (.int k d):=by rfl) :
  Ry A l b dr l5 (⟨.bin .eql x y,K,K,u⟩::ops) T H n rl o9 Q:=Ry.pure (rs:=[]) rfl (by grind [o7,Q9,aT,cZ,s9,s8,o8,bne]) h2
def ni {x y:y7}{k:IntKind}{c d:Int}{u:List Nat}(h2:Ry A l b dr l5 ops T H (n+1) (.d (.bool (!u7 c d))::rl) o9 Q)(hx:rq T n rl x= .d (.int k c):=by rfl)(hy:rq T n rl y= .d (.int k d):=by rfl) :
  Ry A l b dr l5 (⟨.bin .neq x y,K,K,u⟩::ops) T H n rl o9 Q:=Ry.pure (rs:=[]) rfl (by grind [o7,Q9,aT,cZ,s9,s8,o8,bne]) h2
def es {x y:y7}{c d:List UInt8}{u:List Nat}(h2:Ry A l b dr l5 ops T H (n+1) (.d (.bool (P8 c d))::rl) o9 Q)(hx:rq T n rl x= .d (.str c):=by rfl)(hy:rq T n rl y= .d (.str d):=by rfl) :
  Ry A l b dr l5 (⟨.bin .eql x y,K,K,u⟩::ops) T H n rl o9 Q:=Ry.pure (rs:=[]) rfl (by grind [o7,Q9,yq,D2]) h2
theorem ns {x y:y7}{c d:List UInt8}{u:List Nat}(h2:Ry A l b dr l5 ops T H (n+1) (.d (.bool (!P8 c d))::rl) o9 Q)(hx:rq T n rl x= .d (.str c):=by rfl)(hy:rq T n rl y= .d (.str d):=by rfl) :
  Ry A l b dr l5 (⟨.bin .neq x y,K,K,u⟩::ops) T H n rl o9 Q:=Ry.pure (rs:=[]) rfl (by grind [o7,Q9,yq,D2]) h2
def ng {x:y7}{t:Bool}{u:List Nat}(h2:Ry A l b dr l5 ops T H (n+1) (.d (.bool (!t))::rl) o9 Q)(hx:rq T n rl x= .d (.bool t):=by rfl) :
  Ry A l b dr l5 (⟨.un .not x,K,K,u⟩::ops) T H n rl o9 Q:=Ry.pure (rs:=[]) rfl (by grind [o7,ES]) h2
def ln {α:Type}{enc:α->List Data}{xs:List α}{x:y7}{u:List Nat}(h2:Ry A l b dr l5 ops T H (n+1) (.d (.int .i64 (O xs:Int))::rl) o9 Q)(hx:rq T n rl x= .d (C6 enc xs):=by rfl) :
  Ry A l b dr l5 (⟨.len x,K,K,u⟩::ops) T H n rl o9 Q:=Ry.pure (rs:=[]) rfl (by grind [o7,C6,i64]) h2
def ls {x:y7}{m:Nat}{cs:List Data}{u:List Nat}(h2:Ry A l b dr l5 ops T H (n+1) (.d (.int .i64 (m:Int))::rl) o9 Q)(hx:rq T n rl x= .d (.slice m cs):=by rfl) :
  Ry A l b dr l5 (⟨.len x,K,K,u⟩::ops) T H n rl o9 Q:=Ry.pure (rs:=[]) rfl (by grind [o7,i64]) h2
def lnT {α:Type}{enc:α->List Data}{xs:List α}{x:y7}{s:Nat}{T2:List c8}{u:List Nat}(hx:rq T n rl x= .d (C6 enc xs):=by rfl)(hs:T[s]?.isSome=W:=by rfl)(hT:T.set s (.d (.int .i64 (O xs:Int)))=T2:=by simp only [List.set_cons_zero,List.set_cons_succ]<;>rfl)(h2:Ry A l b dr l5 ops T2 H (n+1) (.d (.int .i64 (O xs:Int))::rl) (.slot s::o9) Q) :
  Ry A l b dr l5 (⟨.len x,J s,K,u⟩::ops) T H n rl o9 Q:=Ry.zi (v:= .d (.int .i64 (O xs:Int))) (rs:=[]) rfl (by grind [o7,C6,i64]) rfl rfl hs M
def ldT {c:Data}{cs:List Data}{x:y7}{s:Nat}{T2:List c8}{u:List Nat}(hx:rq T n rl x= .U9 (c::cs):=by rfl)(hs:T[s]?.isSome=W:=by rfl)(hT:T.set s (.d c)=T2:=by simp only [List.set_cons_zero,List.set_cons_succ]<;>rfl)(h2:Ry A l b dr l5 ops T2 H (n+1) (.d c::rl) (.slot s::o9) Q) :
  Ry A l b dr l5 (⟨.load K x,J s,K,u⟩::ops) T H n rl o9 Q:=Ry.zi (v:= .d c) (rs:=[]) rfl (by grind [o7]) rfl rfl hs M
def lpT {v:c8}{id o:Nat}{x:y7}{s:Nat}{T2:List c8}{u:List Nat}(hx:rq T n rl x= .ptr id o:=by rfl)(hr:rd H id o 1=J [v]:=by rfl)(hv:v.K7=v:=by rfl)(hs:T[s]?.isSome=W:=by rfl)(hT:T.set s v=T2:=by simp only [List.set_cons_zero,List.set_cons_succ]<;>rfl)(h2:Ry A l b dr l5 ops T2 H (n+1) (v::rl) (.slot s::o9) Q) :
  Ry A l b dr l5 (⟨.load K x,J s,K,u⟩::ops) T H n rl o9 Q:=Ry.zi (v:=v) (rs:=[id]) rfl (by simp_all [o7]) hv rfl hs M
def lt {x:y7}{s:List UInt8}{u:List Nat}(h2:Ry A l b dr l5 ops T H (n+1) (.d (.int .i64 (O s:Int))::rl) o9 Q)(hx:rq T n rl x= .d (.str s):=by rfl) :
  Ry A l b dr l5 (⟨.X8 x,K,K,u⟩::ops) T H n rl o9 Q:=Ry.pure (rs:=[]) rfl (by grind [o7,i64]) h2
def ix {α:Type} [Inhabited α] {enc:α->List Data}{xs:List α}{sz i:Nat}{x y:y7}{k:IntKind}{u:List Nat}(hx:rq T n rl x= .d (C6 enc xs):=by rfl)(hy:rq T n rl y= .d (.int k ((i:Nat):Int)):=by rfl)(hs:∀a,O (enc a)=sz:=by intro;rfl)(hi:i<O xs:=by first|omega|(simp only [s7,Bool.and_eq_true,s9,s8,o8,beq_eq_false_iff_ne,beq_iff_eq,decide_eq_true_eq,decide_eq_false_iff_not,Bool.not_eq_true',Bool.not_eq_false'] at *;omega))(h2:Ry A l b dr l5 ops T H (n+1) (.U9 (enc (Y xs i)++(xs.drop (i+1)).flatMap enc)::rl) o9 Q) :
  Ry A l b dr l5 (⟨.O4 sz x y,K,K,u⟩::ops) T H n rl o9 Q:=Ry.pure (rs:=[]) rfl (by
  have h3:=YU hs xs i hi;simp_all [E6,o7,C6,Int.natCast_nonneg,and_self,if_true]) h2
def ixN {α:Type} [Inhabited α] {enc:α->List Data}{xs:List α}{sz i:Nat}{x y:y7}{k:IntKind}{u:List Nat}(hx:rq T n rl x= .d (C6 enc xs):=by rfl)(hy:rq T n rl y= .d (.int k (OfNat.ofNat i)):=by rfl)(hs:∀a,O (enc a)=sz:=by intro;rfl)(hi:i<O xs:=by first|omega|(simp only [s7,Bool.and_eq_true,s9,s8,o8,beq_eq_false_iff_ne,beq_iff_eq,decide_eq_true_eq,decide_eq_false_iff_not,Bool.not_eq_true',Bool.not_eq_false'] at *;omega))(h2:Ry A l b dr l5 ops T H (n+1) (.U9 (enc (Y xs i)++(xs.drop (i+1)).flatMap enc)::rl) o9 Q) :
  Ry A l b dr l5 (⟨.O4 sz x y,K,K,u⟩::ops) T H n rl o9 Q:=ix hx hy hs hi h2
def ixI {α:Type} [Inhabited α] {enc:α->List Data}{xs:List α}{sz:Nat}{e:Int}{x y:y7}{k:IntKind}{u:List Nat}(i:Nat)(he:e=i:=by first|omega|(simp only [s7,Bool.and_eq_true,s9,s8,o8,beq_eq_false_iff_ne,beq_iff_eq,decide_eq_true_eq,decide_eq_false_iff_not,Bool.not_eq_true',Bool.not_eq_false'] at *;omega))(hx:rq T n rl x= .d (C6 enc xs):=by rfl)(hy:rq T n rl y= .d (.int k e):=by rfl)(hs:∀a,O (enc a)=sz:=by intro;rfl)(hi:i<O xs:=by first|omega|(simp only [s7,Bool.and_eq_true,s9,s8,o8,beq_eq_false_iff_ne,beq_iff_eq,decide_eq_true_eq,decide_eq_false_iff_not,Bool.not_eq_true',Bool.not_eq_false'] at *;omega))(h2:Ry A l b dr l5 ops T H (n+1) (.U9 (enc (Y xs i)++(xs.drop (i+1)).flatMap enc)::rl) o9 Q) :
  Ry A l b dr l5 (⟨.O4 sz x y,K,K,u⟩::ops) T H n rl o9 Q:=ix hx (he ▸ hy) hs hi h2
def ixZ {α:Type} [Inhabited α] {enc:α->List Data}{xs:List α}{sz:Nat}{e:Int}{x y:y7}{k:IntKind}{u:List Nat}(hx:rq T n rl x= .d (C6 enc xs):=by rfl)(hy:rq T n rl y= .d (.int k e):=by rfl)(hs:∀a,O (enc a)=sz:=by intro;rfl)(hi:0<=e/\e<O xs:=by first|omega|(simp only [s7,Bool.and_eq_true,s9,s8,o8,beq_eq_false_iff_ne,beq_iff_eq,decide_eq_true_eq,decide_eq_false_iff_not,Bool.not_eq_true',Bool.not_eq_false'] at *;omega))(h2:Ry A l b dr l5 ops T H (n+1) (.U9 (enc (Y xs e.toNat)++(xs.drop (e.toNat+1)).flatMap enc)::rl) o9 Q) :
  Ry A l b dr l5 (⟨.O4 sz x y,K,K,u⟩::ops) T H n rl o9 Q:=ix hx (by rw [hy,Int.toNat_of_nonneg hi.1]) hs V h2
def ld {x:y7}{c:Data}{cs:List Data}{u:List Nat}(h2:Ry A l b dr l5 ops T H (n+1) (.d c::rl) o9 Q)(hx:rq T n rl x= .U9 (c::cs):=by rfl) :
  Ry A l b dr l5 (⟨.load K x,K,K,u⟩::ops) T H n rl o9 Q:=Ry.pure (rs:=[]) rfl (by grind [o7]) h2
def le {x:y7}{cs rest:List Data}{m:Nat}{u:List Nat}(h2:Ry A l b dr l5 ops T H (n+1) (.agg (cs.map .d)::rl) o9 Q)(hx:rq T n rl x= .U9 (cs++rest):=by rfl)(hm:O cs=m:=by rfl) :
  Ry A l b dr l5 (⟨.load (J m) x,K,K,u⟩::ops) T H n rl o9 Q:=Ry.pure (rs:=[]) rfl (by simp_all [o7]) h2
def lf {x:y7}{k:Nat}{cs:List Data}{u:List Nat}(h2:Ry A l b dr l5 ops T H (n+1) (.U9 (cs.drop k)::rl) o9 Q)(hx:rq T n rl x= .U9 cs:=by rfl) :
  Ry A l b dr l5 (⟨.off k x,K,K,u⟩::ops) T H n rl o9 Q:=Ry.pure (rs:=[]) rfl (by grind [o7]) h2
def fp {x:y7}{k id o:Nat}{u:List Nat}(h2:Ry A l b dr l5 ops T H (n+1) (.ptr id (o+k)::rl) o9 Q)(hx:rq T n rl x= .ptr id o:=by rfl) :
  Ry A l b dr l5 (⟨.off k x,K,K,u⟩::ops) T H n rl o9 Q:=Ry.pure (rs:=[]) rfl (by grind [o7]) h2
def lp {x:y7}{id o:Nat}{v:c8}{u:List Nat}(h2:Ry A l b dr l5 ops T H (n+1) (v::rl) o9 Q)(hx:rq T n rl x= .ptr id o:=by rfl)(hr:rd H id o 1=J [v]:=by rfl)(hv:v.K7=v:=by rfl) :
  Ry A l b dr l5 (⟨.load K x,K,K,u⟩::ops) T H n rl o9 Q:=Ry.pure (rs:=[id]) rfl (by simp_all [o7]) h2
def lpo {x:y7}{id o z m:Nat}{cs:List Data}{u:List Nat}(h2:Ry A l b dr l5 ops T H (n+1) (.d (.slice m cs)::rl) o9 Q)(hx:rq T n rl x= .ptr id o:=by rfl)(hr:rd H id o 1=J [.own z m cs]:=by rfl) :
  Ry A l b dr l5 (⟨.load K x,K,K,u⟩::ops) T H n rl o9 Q:=Ry.pure (rs:=[id]) rfl (by simp_all [o7,c8.K7]) h2
def lq {x:y7}{m id:Nat}{cs:List c8}{u:List Nat}(h2:Ry A l b dr l5 ops T H (n+1) (.agg cs::rl) o9 Q)(hx:rq T n rl x= .ptr id 0:=by rfl)(hr:H[id]? =J (.cells cs):=by rfl)(hm:O cs=m:=by rfl)(hv:cs.map c8.K7=cs:=by rfl) :
  Ry A l b dr l5 (⟨.load (J m) x,K,K,u⟩::ops) T H n rl o9 Q:=Ry.pure (rs:=[id]) rfl (by simp_all [o7,rd]<;>grind) h2
def et {x:y7}{i:Nat}{vs:List c8}{v:c8}{u:List Nat}(h2:Ry A l b dr l5 ops T H (n+1) (v::rl) o9 Q)(hx:rq T n rl x= .tuple vs:=by rfl)(hv:vs[i]? =J v:=by rfl) :
  Ry A l b dr l5 (⟨.extract x i,K,K,u⟩::ops) T H n rl o9 Q:=Ry.pure (rs:=[]) rfl (by simp_all [o7]) h2
def wa {op:x9}{dst:Option Nat}{j:Nat}{want:Bool}{u:List Nat}(h2:Ry A l b dr l5 (⟨op,dst,K,u⟩::ops) T H n rl o9 Q)(h:lk n rl j=J (.d (.bool want)):=by rfl) :
  Ry A l b dr l5 (⟨op,dst,J (j,want),u⟩::ops) T H n rl o9 Q:=λhn=>Rx.wanted (by rw [jI hn];exact h) U (h2 hn)
def sk {op:x9}{j:Nat}{want:Bool}{u:List Nat}(h2:Ry A l b dr l5 ops T H (n+1) (.tuple []::rl) o9 Q)(h:lk n rl j=J (.d (.bool (!want))):=by rfl)(hk:∀L,I5 ⟨T,H,L,o9⟩ op=F:=by intro;rfl)(ha:op.B0=F:=by rfl) :
  Ry A l b dr l5 (⟨op,K,J (j,want),u⟩::ops) T H n rl o9 Q:=λhn=>Rx.aE6 (by rw [jI hn];exact h) M (hk _) ha (h2.to hn)
def st {op:x9}{j:Nat}{want:Bool}{u:List Nat}(h2:Ry A l b dr l5 ops T H (n+1) (.tuple []::rl) o9 Q)(h:lk n rl j=J (.tuple []):=by rfl)(hk:∀L,I5 ⟨T,H,L,o9⟩ op=F:=by intro;rfl)(ha:op.B0=F:=by rfl) :
  Ry A l b dr l5 (⟨op,K,J (j,want),u⟩::ops) T H n rl o9 Q:=λhn=>Rx.ah7 (by simp_all [jI]) (hk _) ha (h2.to hn)
def fk {op:x9}{dst:Option Nat}{j:Nat}{want w:Bool}{r1 r2:List c8}{u:List Nat}(h:lk n rl j=J (.d (.bool w)):=by rfl)(hj:F3 (j+1) n=W:=by rfl)(ht:rl.set (n - (j+1)) (.d (.bool W))=r1:=by simp only [Nat.reduceAdd,Nat.reduceSub,List.set_cons_zero,List.set_cons_succ]<;>rfl)(hf:rl.set (n - (j+1)) (.d (.bool F))=r2:=by simp only [Nat.reduceAdd,Nat.reduceSub,List.set_cons_zero,List.set_cons_succ]<;>rfl)(h1:w=W->Ry A l b dr l5 (⟨op,dst,J (j,want),u⟩::ops) T H n r1 o9 Q)(h2:w=F->Ry A l b dr l5 (⟨op,dst,J (j,want),u⟩::ops) T H n r2 o9 Q) :
  Ry A l b dr l5 (⟨op,dst,J (j,want),u⟩::ops) T H n rl o9 Q:=Ry.fork h hj (λe=>M) (λe=>M)
def pt {c x y:y7}{v:c8}{u:List Nat}(h2:Ry A l b dr l5 ops T H (n+1) (v::rl) o9 Q)(hc:rq T n rl c= .d (.bool W):=by rfl)(hx:Oq T n rl x (v):=by exact ⟨rfl,rfl⟩) :
  Ry A l b dr l5 (⟨.pick c x y,K,K,u⟩::ops) T H n rl o9 Q:=Ry.pure (rs:=[]) rfl (by simp [o7,hc,hx.rq]) h2
def pk {c x y:y7}{v:c8}{u:List Nat}(h2:Ry A l b dr l5 ops T H (n+1) (v::rl) o9 Q)(hc:rq T n rl c= .d (.bool F):=by rfl)(hy:Oq T n rl y (v):=by exact ⟨rfl,rfl⟩) :
  Ry A l b dr l5 (⟨.pick c x y,K,K,u⟩::ops) T H n rl o9 Q:=Ry.pure (rs:=[]) rfl (by simp [o7,hc,hy.rq]) h2
def bx {x:y7}{u:List Nat}{v:c8}{cs:List c8}{s id:Nat}{T2:List c8}{H2:q6}(hx:Oq T n rl x v:=by exact ⟨rfl,rfl⟩)(hc:v.cells? =J cs:=by rfl)(hs:T[s]?.isSome=W:=by rfl)
  (hi:O H=id:=by simp only [List.length_cons,List.length_nil,Nat.reduceAdd]<;>rfl) (hT:T.set s (.ptr id 0)=T2:=by simp only [List.set_cons_zero,List.set_cons_succ]<;>rfl) (hH:H++[.cells cs]=H2:=by simp only [List.cons_append,List.nil_append]<;>rfl)
  (h2:Ry A l b F l5 ops T2 H2 (n+1) (.ptr id 0::rl) (.slot s::o9) Q):Ry A l b F l5 (⟨.box x,J s,K,u⟩::ops) T H n rl o9 Q:=λhn=>by
 subst hi;exact Rx.bk2 (hx.op hn) hc hs (by rw [hT,hH];exact h2.to hn)
def ac {zero:List c8}{u:List Nat}{s id:Nat}{T2:List c8}{H2:q6}(hs:T[s]?.isSome=W:=by rfl)
  (hi:O H=id:=by simp only [List.length_cons,List.length_nil,Nat.reduceAdd]<;>rfl) (hT:T.set s (.ptr id 0)=T2:=by simp only [List.set_cons_zero,List.set_cons_succ]<;>rfl) (hH:H++[.cells zero]=H2:=by simp only [List.cons_append,List.nil_append]<;>rfl)
  (h2:Ry A l b F l5 ops T2 H2 (n+1) (.ptr id 0::rl) (.slot s::o9) Q):Ry A l b F l5 (⟨.alloc zero,J s,K,u⟩::ops) T H n rl o9 Q:=λhn=>by
 have hs:s<O T:=by
  simp_all
 have h2:=h2.to hn;refine Rx.stepT (N1:=0) (rs:=[]) rfl (λn _=>?_) h2;simp_all [z6,y8,E1,x9.D6,if_true,F9,N7,newId,Option.getD_none,put,L6,u9,F2,A1.E7,A1.K4,c8.K7]
def ox {m id off:Nat}{x y:y7}{u:List Nat}{v:c8}{cs:List c8}{H2:q6}(hy:rq T n rl y= .ptr id off)(hx:Oq T n rl x v)(hc:v.cells? =J cs)(hm:O cs=m)(hl:l.may id=W)(hb:C5 cs<=id+1)
  (hw:wr H id off cs=J H2) (h2:Ry A l b F l5 ops T H2 (n+1) (.any::rl) (.obj id::o9) Q):Ry A l b F l5 (⟨.store m y x,K,K,u⟩::ops) T H n rl o9 Q:=λhn=>by
 refine Rx.stepT (N1:=0) (rs:=[]) rfl (λk _=>?_) (h2.to hn);have hl' :(M0 A k l b).lim.may id=W:=hl;simp [z6,y8,E1,x9.D6,if_true,F9,Z0 hn,hy,U2,(hx.op hn).E7,hc,hm,hl',hb,true_or,and_self,hw,put,L6,u9,F2]
def so {m id:Nat}{x y:y7}{u:List Nat}{v:c8}{cs old:List c8}{H2:q6}(hy:rq T n rl y= .ptr id 0:=by rfl)(hx:Oq T n rl x v:=by exact ⟨rfl,rfl⟩)(hc:v.cells? =J cs:=by rfl)(hm:O cs=m:=by rfl)(hl:l.may id=W:=by rfl)(hb:C5 cs=0:=by rfl)
  (ho:H[id]? =J (.cells old):=by rfl) (hq:O old=m:=by rfl) (hH:H.set id (.cells cs)=H2:=by simp only [List.set_cons_zero,List.set_cons_succ]<;>rfl)
  (h2:Ry A l b F l5 ops T H2 (n+1) (.any::rl) (.obj id::o9) Q):Ry A l b F l5 (⟨.store m y x,K,K,u⟩::ops) T H n rl o9 Q :=
 ox hy hx hc hm hl V (by simp_all [wr,splice,n9]) h2
def EF {m id off:Nat}{x y:y7}{u:List Nat}{v:c8}{cs:List c8}{H2:q6}(hd:F3 (vW l5) n=W)(hy:rq T n rl y= .ptr id off)(hx:Oq T n rl x v)(hc:v.cells? =J cs)(hm:O cs=m)(hl:l.may id=W)(hb:C5 cs<=id+1)
  (hw:wr H id off cs=J H2) (h2:Ry A l b dr l5 ops T H2 (n+1) (.any::rl) (.obj id::o9) Q):Ry A l b dr l5 (⟨.store m y x,K,K,u⟩::ops) T H n rl o9 Q:=λhn=>by
 refine Rx.NN (N1:=0) (rs:=[]) rfl rfl rfl (λk _=>?_) (λh=>?_) (h2.to hn)
 .have hl' :(M0 A k l b).lim.may id=W:=hl
  simp [z6,y8,E1,x9.D6,if_true,F9,Z0 hn,hy,U2,(hx.op hn).E7,hc,hm,hl',hb,true_or,and_self,hw,put,L6,u9,F2]
 simp_all<;>omega
def so1 {id off:Nat}{x y:y7}{u:List Nat}{v:c8}{old new:List c8}{H2:q6}(hy:rq T n rl y= .ptr id off:=by rfl)(hx:Oq T n rl x v:=by exact ⟨rfl,rfl⟩)(hc:v.cells? =J [v]:=by rfl)(hl:l.may id=W:=by rfl)(hb:v.L7<=id+1:=by decide)
  (ho:H[id]? =J (.cells old):=by rfl) (hq:off<O old:=by decide) (hN:old.set off v=new:=by first|(simp only [List.set_cons_zero,List.set_cons_succ];done)|rfl) (hH:H.set id (.cells new)=H2:=by simp only [List.set_cons_zero,List.set_cons_succ]<;>rfl)
  (h2:Ry A l b F l5 ops T H2 (n+1) (.any::rl) (.obj id::o9) Q):Ry A l b F l5 (⟨.store 1 y x,K,K,u⟩::ops) T H n rl o9 Q :=
 ox hy hx hc rfl hl (by simp_all [C5]) (by
  have h1:splice old off [v]=old.set off v:=by
   simp_all [splice,List.length_singleton,List.set_eq_take_append_cons_drop,if_pos]
  grind [wr]) h2
def o1 {x:y7}{z c:Data}{u:List Nat}(h2:Ry A l b dr l5 ops T H (n+1) (.own 1 1 [c]::rl) o9 Q)(hx:rq T n rl x= .d c:=by rfl) :
  Ry A l b dr l5 (⟨.H6 1 1 [.d z] [(0,1,x)] F,K,K,u⟩::ops) T H n rl o9 Q:=Ry.pure (rs:=[]) rfl (by simp [o7,cS,hx,c8.cells?,splice,P7,c8.data?,c8.one]) h2
def ap1 {α:Type}{enc:α->List Data}{xs:List α}{j s bytes n' :Nat}{y:y7}{u' :List Nat}{d' :Option Nat}{g' :Option (Nat×Bool)}{cs' :List Data}{T2:List c8}{a:α}{c:Data}{u:List Nat}(hj:lk n rl j=J (.d (.slice n' cs')):=by rfl)(ha:l5[j]? =J ⟨.Q5 (.slot s),d',g',u'⟩:=by rfl)(ht:o9.any (Touch.V5 s)=F:=by rfl)(hT:T[s]? =J (D9 1 enc xs):=by rfl)(hy:rq T n rl y= .d (.slice 1 [c]):=by rfl)(he:enc a=[c]:=by rfl)(hr:roomFor (O xs+1) bytes=W:=by simp only [roomFor,decide_eq_true_eq,List.length_append,List.length_cons,List.length_nil,List.length_take,List.length_drop,List.length_map] at * <;>omega)(hS:T.set s (.d (C6 enc xs))=T2:=by simp only [List.set_cons_zero,List.set_cons_succ]<;>rfl)(h2:Ry A l b dr l5 ops T2 H (n+1) (D9 1 enc (xs++[a])::rl) (.slot s::o9) Q) :
  Ry A l b dr l5 (⟨.append 1 bytes F (.loc j) y,K,K,u⟩::ops) T H n rl o9 Q:=Ry.bk0 hj ha ht hT hy rfl hr (by decide) (by
  simp_all [D9,C6])
def XR {α:Type}{enc:α->List Data}{xs:List α}{j s sz bytes n' :Nat}{y:y7}{u' :List Nat}{d' :Option Nat}{g' :Option (Nat×Bool)}{cs' :List Data}{T2:List c8}{ys:List α}{u:List Nat}(hj:lk n rl j=J (.d (.slice n' cs')):=by rfl)(ha:l5[j]? =J ⟨.Q5 (.slot s),d',g',u'⟩:=by rfl)(ht:o9.any (Touch.V5 s)=F:=by rfl)(hT:T[s]? =J (D9 sz enc xs):=by rfl)(hy:rq T n rl y= .d (C6 enc ys):=by rfl)(hs:∀a,O (enc a)=sz:=by intro;rfl)(h0:0<sz:=by decide)(hr:roomFor (O xs+O ys) bytes=W:=by simp only [roomFor,decide_eq_true_eq,List.length_append,List.length_cons,List.length_nil,List.length_take,List.length_drop,List.length_map] at * <;>omega)(hS:T.set s (.d (C6 enc xs))=T2:=by simp only [List.set_cons_zero,List.set_cons_succ]<;>rfl)(h2:Ry A l b dr l5 ops T2 H (n+1) (D9 sz enc (xs++ys)::rl) (.slot s::o9) Q) :
  Ry A l b dr l5 (⟨.append sz bytes F (.loc j) y,K,K,u⟩::ops) T H n rl o9 Q:=Ry.bk0 hj ha ht hT hy (Z1 hs ys) hr h0 (by
  simp_all [D9,C6])
def al1 {α:Type}{enc:α->List Data}{xs:List α}{j bytes:Nat}{y:y7}{r2:List c8}{a:α}{c:Data}{u:List Nat}(hj:lk n rl j=J (D9 1 enc xs):=by rfl)(hb:F3 (j+1) n=W:=by rfl)(hy:rq T n rl y= .d (.slice 1 [c]):=by rfl)(he:enc a=[c]:=by rfl)(hr:roomFor (O xs+1) bytes=W:=by simp only [roomFor,decide_eq_true_eq,List.length_append,List.length_cons,List.length_nil,List.length_take,List.length_drop,List.length_map] at * <;>omega)(hS:rl.set (n - (j+1)) (.d (C6 enc xs))=r2:=by simp only [Nat.reduceAdd,Nat.reduceSub,List.set_cons_zero,List.set_cons_succ]<;>rfl)(h2:Ry A l b dr l5 ops T H (n+1) (D9 1 enc (xs++[a])::r2) o9 Q) :
  Ry A l b dr l5 (⟨.append 1 bytes F (.loc j) y,K,K,u⟩::ops) T H n rl o9 Q:=Ry.aR4 hj hb hy rfl hr (by decide) (by
  simp_all [D9,C6])
def alN {α:Type}{enc:α->List Data}{xs:List α}{j sz bytes:Nat}{y:y7}{r2:List c8}{ys:List α}{u:List Nat}(hj:lk n rl j=J (D9 sz enc xs):=by rfl)(hb:F3 (j+1) n=W:=by rfl)(hy:rq T n rl y= .d (C6 enc ys):=by rfl)(hs:∀a,O (enc a)=sz:=by intro;rfl)(h0:0<sz:=by decide)(hr:roomFor (O xs+O ys) bytes=W:=by simp only [roomFor,decide_eq_true_eq,List.length_append,List.length_cons,List.length_nil,List.length_take,List.length_drop,List.length_map] at * <;>omega)(hS:rl.set (n - (j+1)) (.d (C6 enc xs))=r2:=by simp only [Nat.reduceAdd,Nat.reduceSub,List.set_cons_zero,List.set_cons_succ]<;>rfl)(h2:Ry A l b dr l5 ops T H (n+1) (D9 sz enc (xs++ys)::r2) o9 Q) :
  Ry A l b dr l5 (⟨.append sz bytes F (.loc j) y,K,K,u⟩::ops) T H n rl o9 Q:=Ry.aR4 hj hb hy (Z1 hs ys) hr h0 (by
  simp_all [D9,C6])
theorem e0 {u:List Nat}(h2:Ry A l b dr l5 ops T H (n+1) (.own 1 0 []::rl) o9 Q) :
  Ry A l b dr l5 (⟨.H6 1 0 [] [] F,K,K,u⟩::ops) T H n rl o9 Q:=Ry.pure (rs:=[]) rfl (by rfl) h2
def cl {f:FuncId}{xs:List y7}{u:List Nat}{v:c8}{args:List c8}(hc:Pf A f args v)(h2:Ry A l b dr l5 ops T H (n+1) (v::rl) o9 Q)(ha:xs.map (rq T n rl)=args:=by rfl)(jG:A.prom f=F:=by rfl)(hm:A.mode f=1:=by rfl)
  (hb:C5 args=0:=by rfl):Ry A l b dr l5 (⟨.call f xs,K,K,u⟩::ops) T H n rl o9 Q:=λhn =>
 Rx.call jG hm (λm=>by rw [show A1.K4 T (rl.reverse++ .any::List.replicate m .any)=rq T n rl from funext λx=>Z0 hn m x];exact ha) hb hc (h2.to hn)
def Bu {zero:List c8}{parts:List (Nat×Nat×y7)}{cs:List c8}{u:List Nat}(h2:Ry A l b dr l5 ops T H (n+1) (.agg cs::rl) o9 Q)(hr:cS zero (parts.map λp=>(p.1,p.2.1,rq T n rl p.2.2))=J cs:=by rfl) :
  Ry A l b dr l5 (⟨.build zero parts,K,K,u⟩::ops) T H n rl o9 Q:=Ry.pure (rs:=[]) rfl (by grind [o7]) h2
def xs {s:List UInt8}{i:Nat}{x y:y7}{k:IntKind}{u:List Nat}(hx:rq T n rl x= .d (.str s):=by rfl)(hy:rq T n rl y= .d (.int k ((i:Nat):Int)):=by rfl)(hi:i<O s:=by first|omega|(simp only [s7,Bool.and_eq_true,s9,s8,o8,beq_eq_false_iff_ne,beq_iff_eq,decide_eq_true_eq,decide_eq_false_iff_not,Bool.not_eq_true',Bool.not_eq_false'] at *;omega))(h2:Ry A l b dr l5 ops T H (n+1) (.d (.int .u8 ((Y s i).toNat:Int))::rl) o9 Q) :
  Ry A l b dr l5 (⟨.K9 x y,K,K,u⟩::ops) T H n rl o9 Q:=Ry.pure (rs:=[]) rfl (by simp_all [o7,o6,E6]) h2
def qs {neg t:Bool}{ks:List CK}{x y:y7}{va vb:List c8}{u:List Nat}(h2:Ry A l b dr l5 ops T H (n+1) (.d (.bool (neg != t))::rl) o9 Q)(hx:rq T n rl x= .agg va:=by rfl)(hy:rq T n rl y= .agg vb:=by rfl)(hr:S5 ks va vb=J t:=by rfl) :
  Ry A l b dr l5 (⟨.Gi neg ks x y,K,K,u⟩::ops) T H n rl o9 Q:=Ry.pure (rs:=[]) rfl (by simp_all [o7]) h2
def qb {neg s t:Bool}{x y:y7}{u:List Nat}(h2:Ry A l b dr l5 ops T H (n+1) (.d (.bool (neg != (s==t)))::rl) o9 Q)(hx:rq T n rl x= .d (.bool s):=by rfl)(hy:rq T n rl y= .d (.bool t):=by rfl) :
  Ry A l b dr l5 (⟨.u7 neg x y,K,K,u⟩::ops) T H n rl o9 Q:=Ry.pure (rs:=[]) rfl (by simp_all [o7]) h2
def mm {isMax:Bool}{xs:List y7}{c d:Data}{r:List c8}{u:List Nat}(h2:Ry A l b dr l5 ops T H (n+1) (.d d::rl) o9 Q)(ha:xs.map (rq T n rl)= .d c::r:=by rfl)(hr:gH isMax c r=J d:=by rfl) :
  Ry A l b dr l5 (⟨.jJ isMax xs,K,K,u⟩::ops) T H n rl o9 Q:=Ry.pure (rs:=[]) rfl (by simp_all [o7]) h2
def ip {m sz i:Nat}{x y:y7}{k:IntKind}{cs:List Data}{u:List Nat}(h2:Ry A l b dr l5 ops T H (n+1) (.U9 (cs.drop (i * sz))::rl) o9 Q)(hx:rq T n rl x= .U9 cs:=by rfl)(hy:rq T n rl y= .d (.int k ((i:Nat):Int)):=by rfl)(hi:i<m:=by omega) :
  Ry A l b dr l5 (⟨.iE m sz x y,K,K,u⟩::ops) T H n rl o9 Q:=Ry.pure (rs:=[]) rfl (by
  simp_all [o7]) h2
def svh {α:Type} [Inhabited α] {enc:α->List Data}{xs:List α}{sz i:Nat}{x y:y7}{k:IntKind}{u:List Nat}(hx:rq T n rl x= .d (C6 enc xs):=by rfl)(hy:rq T n rl y= .d (.int k ((i:Nat):Int)):=by rfl)(hs:∀a,O (enc a)=sz:=by intro;rfl)(hi:i<=O xs:=by first|omega|(simp only [s7,Bool.and_eq_true,s9,s8,o8,beq_eq_false_iff_ne,beq_iff_eq,decide_eq_true_eq,decide_eq_false_iff_not,Bool.not_eq_true',Bool.not_eq_false'] at *;omega))(h2:Ry A l b dr l5 ops T H (n+1) (.d (C6 enc (xs.take i))::rl) o9 Q) :
  Ry A l b dr l5 (⟨.aJ sz x K (J y),K,K,u⟩::ops) T H n rl o9 Q:=Ry.pure (rs:=[]) rfl (by
  have h1:=Ep hs xs 0 i (Nat.zero_le _) hi
  grind [Z1,C6,o7,Y9]) h2
def svl {α:Type} [Inhabited α] {enc:α->List Data}{xs:List α}{sz i:Nat}{x y:y7}{k:IntKind}{u:List Nat}(hx:rq T n rl x= .d (C6 enc xs):=by rfl)(hy:rq T n rl y= .d (.int k ((i:Nat):Int)):=by rfl)(hs:∀a,O (enc a)=sz:=by intro;rfl)(hi:i<=O xs:=by first|omega|(simp only [s7,Bool.and_eq_true,s9,s8,o8,beq_eq_false_iff_ne,beq_iff_eq,decide_eq_true_eq,decide_eq_false_iff_not,Bool.not_eq_true',Bool.not_eq_false'] at *;omega))(h2:Ry A l b dr l5 ops T H (n+1) (.d (C6 enc (xs.drop i))::rl) o9 Q) :
  Ry A l b dr l5 (⟨.aJ sz x (J y) K,K,K,u⟩::ops) T H n rl o9 Q:=Ry.pure (rs:=[]) rfl (by
  have h3:O (xs.flatMap enc)=O xs * sz:=Z1 hs xs;simp_all [z7,ta,C6,o7,Y9]) h2
def svb {α:Type} [Inhabited α] {enc:α->List Data}{xs:List α}{sz i j:Nat}{x y z:y7}{k k' :IntKind}{u:List Nat}(hx:rq T n rl x= .d (C6 enc xs):=by rfl)(hy:rq T n rl y= .d (.int k ((i:Nat):Int)):=by rfl)(hz:rq T n rl z=(.d (.int k' ((j:Nat):Int))):=by rfl)(hs:∀a,O (enc a)=sz:=by intro;rfl)(hij:i<=j/\j<=O xs:=by first|omega|(simp only [s7,Bool.and_eq_true,s9,s8,o8,beq_eq_false_iff_ne,beq_iff_eq,decide_eq_true_eq,decide_eq_false_iff_not,Bool.not_eq_true',Bool.not_eq_false'] at *;omega))(h2:Ry A l b dr l5 ops T H (n+1) (.d (C6 enc ((xs.take j).drop i))::rl) o9 Q) :
  Ry A l b dr l5 (⟨.aJ sz x (J y) (J z),K,K,u⟩::ops) T H n rl o9 Q:=Ry.pure (rs:=[]) rfl (by
  have h1:=Ep hs xs i j hij.1 hij.2;have h3:O (xs.flatMap enc)=O xs * sz:=Z1 hs xs;simp_all [C6,o7,Y9,Int.natCast_nonneg,and_self,if_true,J9]) h2
end S
end
def zf (z:Nat):List c8->q6->I7->Option (c8×q6)
 |[.P9,.d (.int .i64 n)],H,_=>if 0<n/\n<=1000000 then J (.own z 0 [],H) else K
 |_,_,_=>K
def rowOf (z:Nat)(H:q6):c8->Option (Nat×List Data)
 | .d (.slice n cs)=>if O cs=n * z then J (n,cs) else K
 | .B8 id z' lo n=>if z' =z then match rd H id lo (n * z) with
   |some vs=>match P7 vs with
    |some cs=>J (n,cs)
    |none=>K
   |none=>K
  else K
 |_=>K
def Rb (z:Nat):List c8->q6->I7->Option (c8×q6)
 |[x],H,_=>match rowOf z H x with
  |some (0,_)=>J (.d (.slice 0 []),H)
  |some (n+1,cs)=>if n<1000000 then J (.own z (n+1) cs,H) else K
  |none=>K
 |_,_,_=>K
def vg:List (Key×c8)->Option (List (Int×Int))
 |[]=>J []
 |(.st [.i .i64 a,.i .i64 b],_)::r=>match vg r with
  |some l=>J ((a,b)::l)
  |none=>K
 |_=>K
def ff:List (Int×Int)->List Data
 |[]=>[]
 |(a,b)::r=> .int .i64 a:: .int .i64 b::ff r
def ints (l:List Int):Data:=C6 (λn=>[Z n]) l
def hasB (l:List Int)(n:Int):Bool:=l.any λx=>u7 x n
section
variable {A:Prog} {l:I7} {b:Nat}
variable {dr:Bool} {l5 ops:List p7} {T:List c8} {H:q6} {n:Nat} {rl:List c8} {o9:List Touch} {Q:List c8->q6->List c8->Prop}
namespace S
def bxn {x:y7}{u:List Nat}{v:c8}{cs:List c8}{id:Nat}{H2:q6}(hx:Oq T n rl x v:=by exact ⟨rfl,rfl⟩)(hc:v.cells? =J cs:=by rfl)
  (hi:O H=id:=by simp only [List.length_cons,List.length_nil,Nat.reduceAdd]<;>rfl) (hH:H++[.cells cs]=H2:=by simp only [List.cons_append,List.nil_append]<;>rfl)
  (h2:Ry A l b F l5 ops T H2 (n+1) (.ptr id 0::rl) o9 Q):Ry A l b F l5 (⟨.box x,K,K,u⟩::ops) T H n rl o9 Q:=λhn=>by
 subst hi;have h2:=h2.to hn;rw [<- hH] at h2;refine Rx.stepT (N1:=0) (rs:=[]) rfl (λn _=>?_) h2;simp [z6,y8,E1,x9.D6,if_true,F9,(hx.op hn).K4,hc,N7,newId,Option.getD_none,put,L6,u9,F2]
def nk {x:y7}{u:List Nat}{id o:Nat}(h2:Ry A l b dr l5 ops T H (n+1) (.ptr id o::rl) o9 Q)(hx:rq T n rl x= .ptr id o:=by rfl):Ry A l b dr l5 (⟨.bG x,K,K,u⟩::ops) T H n rl o9 Q :=
 Ry.pure (rs:=[]) rfl (by grind [o7]) h2
def mu {x y:y7}{u:List Nat}{c d:Int}(h2:Ry A l b dr l5 ops T H (n+1) (.d (.int .i64 (c * d))::rl) o9 Q)(h0: -9223372036854775808<=c * d/\c * d<9223372036854775808)(hx:rq T n rl x= .d (.int .i64 c):=by rfl)(hy:rq T n rl y= .d (.int .i64 d):=by rfl) :
  Ry A l b dr l5 (⟨.bin .mul x y,K,K,u⟩::ops) T H n rl o9 Q :=
 Ry.pure (rs:=[]) rfl (by simp_all [o7,Q9,aT,cZ,wrap_small]) h2
def ipM {m sz i:Nat}{x y:y7}{u:List Nat}{k:IntKind}{cs:List Data}(h2:Ry A l b dr l5 ops T H (n+1) (.U9 (cs.drop (i * sz))::rl) o9 Q)(hx:rq T n rl x= .U9 cs:=by rfl)(hy:rq T n rl y= .d (.int k (OfNat.ofNat i)):=by rfl)
  (hi:i<m:=by decide):Ry A l b dr l5 (⟨.iE m sz x y,K,K,u⟩::ops) T H n rl o9 Q:=ip h2 hx hy hi
end S
def Ex.au {mask:List Bool}{body:q7}{R:I6->St->Prop}(Inv:Nat->List c8->q6->Prop)
  (hb:∀k T' H',Inv k T' H' ->Ex A l b body ⟨T',H'⟩ (yM R λs=>∃k',k' <k/\∃T2 H2,clean mask l.strict (O H) s=⟨T2,H2⟩/\Inv k' T2 H2)) {k:Nat} (h:Inv k (V4 mask T) H):Ex A l b (.loop mask body) ⟨T,H⟩ R:=by
 refine Ex.loop (λk s=>∃T2 H2,clean mask l.strict (O H) s=⟨T2,H2⟩/\Inv k T2 H2) (λk s ⟨T2,H2,e,hs⟩=>?_) (k:=k) ⟨V4 mask T,H,yB rfl,h⟩;simp_all
end
section
variable {A:Prog} {l:I7} {b:Nat}
variable {dr:Bool} {l5 ops:List p7} {T:List c8} {H:q6} {n:Nat} {rl:List c8} {o9:List Touch} {Q:List c8->q6->List c8->Prop}
def Ex.bk7 {c:y7}{d e:q7}{t:Bool}{Q:I6->St->Prop}(h2:Ex A l b d ⟨T,H⟩ Q)(h1:K4 T [] c= .d (.bool t):=by rfl)(ht:t=W:=by assumption):Ex A l b (.cond c d e) ⟨T,H⟩ Q :=
 Ex.cond h1 (λ_=>h2) (λh=>M)
namespace S
def lq3 {x:y7}{u:List Nat}{id o:Nat}{v1 v2 v3:Data}(h2:Ry A l b dr l5 ops T H (n+1) (.agg [.d v1,.d v2,.d v3]::rl) o9 Q)(hx:rq T n rl x= .ptr id o:=by rfl)(hr:rd H id o 3=J [.d v1,.d v2,.d v3]:=by rfl) :
  Ry A l b dr l5 (⟨.load (J 3) x,K,K,u⟩::ops) T H n rl o9 Q :=
 Ry.pure (rs:=[id]) rfl (by simp_all [o7,K0,List.map_nil,c8.K7]) h2
def o1z {x:y7}{u:List Nat}{z:c8}{c:Data}(h2:Ry A l b dr l5 ops T H (n+1) (.own 1 1 [c]::rl) o9 Q)(hx:rq T n rl x= .d c:=by rfl):Ry A l b dr l5 (⟨.H6 1 1 [z] [(0,1,x)] F,K,K,u⟩::ops) T H n rl o9 Q :=
 Ry.pure (rs:=[]) rfl (by simp [o7,cS,hx,c8.cells?,splice,P7,c8.data?,c8.one]) h2
def clT {f:FuncId}{xs:List y7}{u:List Nat}{v:c8}{args:List c8}{s:Nat}{T2:List c8}(hc:Pf A f args v)(ha:xs.map (rq T n rl)=args:=by rfl)(jG:A.prom f=F:=by rfl)(hm:A.mode f=1:=by rfl)
  (hb:C5 args=0:=by rfl) (hv:v.K7=v:=by rfl) (hs:T[s]?.isSome=W:=by rfl) (hT:T.set s v=T2:=by simp only [List.set_cons_zero,List.set_cons_succ]<;>rfl)
  (h2:Ry A l b dr l5 ops T2 H (n+1) (v::rl) (.slot s::o9) Q):Ry A l b dr l5 (⟨.call f xs,J s,K,u⟩::ops) T H n rl o9 Q:=λhn=>by
 obtain ⟨i5,hc⟩:=hc;have hs:s<O T:=by
  simp_all
 have h2:=h2.to hn;refine Rx.step (N1:=i5) (rs:=[]) rfl rfl (λk hk=>?_) (fP s o9) h2;have h3:D5 (M0 A k l b) (O rl.reverse) f args ⟨T,H,rl.reverse++ .any::List.replicate (O ops) .any,o9⟩=J (put ⟨T,H,rl.reverse++ .any::List.replicate (O ops) .any,o9⟩ (O rl.reverse) v) :=
  iU jG hm hb (hc k hk)
 have ha' :xs.map (A1.K4 T (rl.reverse++ .any::List.replicate (O ops) .any))=args:=by
  rw [show A1.K4 T (rl.reverse++ .any::List.replicate (O ops) .any)=rq T n rl from funext λx=>Z0 hn _ x];exact ha
 have h5:A1.E7 ⟨T,H,rl.reverse++v::List.replicate (O ops) .any,o9⟩ (.loc (O rl.reverse))=(v,⟨T,H,rl.reverse++v::List.replicate (O ops) .any,o9⟩):=by
  grind [A1.E7,c8.K7,A1.K4]
 simp_all [z6,y8,E1,x9.D6,if_true,F9,u9,F2,put,L6]
end S
end
section
variable {A:Prog} {l:I7} {b:Nat}
variable {dr:Bool} {l5 ops:List p7} {T:List c8} {H:q6} {n:Nat} {rl:List c8} {o9:List Touch} {Q:List c8->q6->List c8->Prop}
namespace S
def df {f:FuncId}{a c:List c8}{u:List Nat}(h2:Ry A l b dr l5 ops T H (n+1) (.any::rl) o9 Q)(hi:A.idle f=W:=by rfl):Ry A l b dr l5 (⟨.defer (.const (.func f a c)),K,K,u⟩::ops) T H n rl o9 Q:=λhn=>by
 refine Rx.step (N1:=0) (rs:=[]) rfl rfl (λk _=>?_) (λrs=>by simp [J2]) (h2.to hn);simp_all [M0,z6,y8,E1,x9.D6,if_true,F9,A1.K4,c8.Wk,c8.K7,put,L6,u9,F2]
def dfl {f:FuncId}{x:y7}{a c:List c8}{u:List Nat}(h2:Ry A l b dr l5 ops T H (n+1) (.any::rl) o9 Q)(hx:rq T n rl x= .func f a c:=by rfl)(hi:A.idle f=W:=by rfl):Ry A l b dr l5 (⟨.defer x,K,K,u⟩::ops) T H n rl o9 Q:=λhn=>by
 refine Rx.step (N1:=0) (rs:=[]) rfl rfl (λk _=>?_) (λrs=>by simp [J2]) (h2.to hn);simp_all [M0,z6,y8,E1,x9.D6,if_true,F9,Z0,put,L6,u9,F2]
def ipp {m sz o id o2:Nat}{x y:y7}{u:List Nat}{k:IntKind}{e:Int}(i:Nat)(he:e=i)(ho:o+i * sz=o2)(hi:i<m)(h2:Ry A l b dr l5 ops T H (n+1) (.ptr id o2::rl) o9 Q)(hx:rq T n rl x= .ptr id o:=by rfl)(hy:rq T n rl y= .d (.int k e):=by rfl) :
  Ry A l b dr l5 (⟨.iE m sz x y,K,K,u⟩::ops) T H n rl o9 Q:=by
 refine Ry.pure (rs:=[]) rfl ?_ h2;simp_all [o7]
def mf {f:FuncId}{a c:List y7}{u:List Nat}{va vc:List c8}(h2:Ry A l b dr l5 ops T H (n+1) (.func f va vc::rl) o9 Q)(ha:a.map (rq T n rl)=va:=by rfl)(hc:c.map (rq T n rl)=vc:=by rfl):Ry A l b dr l5 (⟨.bE f a c,K,K,u⟩::ops) T H n rl o9 Q :=
 Ry.pure (rs:=[]) rfl (by simp_all [o7]) h2
end S
end
section
variable {A:Prog} {l:I7} {b:Nat}
variable {dr:Bool} {l5 ops:List p7} {T:List c8} {H:q6} {n:Nat} {rl:List c8} {o9:List Touch} {Q:List c8->q6->List c8->Prop}
namespace S
def bZ8 {m sz i o id:Nat}{x y:y7}{u:List Nat}{k:IntKind}(h2:Ry A l b dr l5 ops T H (n+1) (.ptr id (o+i * sz)::rl) o9 Q)(hx:rq T n rl x= .ptr id o:=by rfl)(hy:rq T n rl y= .d (.int k (OfNat.ofNat i)):=by rfl)(hi:i<m:=by decide) :
  Ry A l b dr l5 (⟨.iE m sz x y,K,K,u⟩::ops) T H n rl o9 Q:=ipp i rfl rfl hi h2 hx hy
end S
end
section
variable {A:Prog} {l:I7} {b:Nat}
variable {dr:Bool} {l5 ops:List p7} {T:List c8} {H:q6} {n:Nat} {rl:List c8} {o9:List Touch} {Q:List c8->q6->List c8->Prop}
namespace S
def sp1 {id off:Nat}{x y:y7}{u:List Nat}{v:c8}{old new:List c8}{H2:q6}(hy:rq T n rl y= .ptr id off:=by rfl)(hx:Oq T n rl x v:=by exact ⟨rfl,rfl⟩)(hc:v.cells? =J [v]:=by rfl)(hl:l.may id=W:=by rfl)(hb:v.L7<=id+1:=by exact Nat.zero_le _)
  (ho:H[id]? =J (.cells old):=by rfl) (hq:off<O old:=by simp) (hN:old.set off v=new:=by first|(simp only [List.set_cons_zero,List.set_cons_succ];done)|rfl) (hH:H.set id (.cells new)=H2:=by simp only [List.set_cons_zero,List.set_cons_succ]<;>rfl)
  (h2:Ry A l b F l5 ops T H2 (n+1) (.any::rl) (.obj id::o9) Q):Ry A l b F l5 (⟨.store 1 y x,K,K,u⟩::ops) T H n rl o9 Q:=so1 hy hx hc hl hb ho hq hN hH h2
end S
end
section
variable {A:Prog} {l:I7} {b:Nat}
variable {dr:Bool} {l5 ops:List p7} {T:List c8} {H:q6} {n:Nat} {rl:List c8} {o9:List Touch} {Q:List c8->q6->List c8->Prop}
namespace S
def alE {α:Type}{enc:α->List Data}{ys:List α}{j sz bytes:Nat}{y:y7}{u:List Nat}{r2:List c8}(hj:lk n rl j=J (.own sz 0 []):=by rfl)(hb:F3 (j+1) n=W:=by rfl)(hy:rq T n rl y= .d (C6 enc ys):=by rfl)
  (hs:∀a,O (enc a)=sz:=by intro;rfl) (h0:0<sz:=by decide) (hr:roomFor (0+O ys) bytes=W:=by simp only [roomFor,decide_eq_true_eq,List.length_append,List.length_cons,List.length_nil,List.length_take,List.length_drop,List.length_map] at * <;>omega)
  (hS:rl.set (n - (j+1)) (.d (.slice 0 []))=r2:=by simp only [Nat.reduceAdd,Nat.reduceSub,List.set_cons_zero,List.set_cons_succ]<;>rfl) (h2:Ry A l b dr l5 ops T H (n+1) (D9 sz enc ys::r2) o9 Q) :
  Ry A l b dr l5 (⟨.append sz bytes F (.loc j) y,K,K,u⟩::ops) T H n rl o9 Q :=
 Ry.aR4 hj hb hy (Z1 hs ys) hr h0 (by
  simp_all [D9])
end S
end
section
variable {A:Prog} {l:I7} {b:Nat}
def Ex.RL {c:q7}{st:St}{R:I6->St->Prop}{go:St->Prop}(P:St->Prop)(h1:Ex A l b c st (yM (λ_ _=>False) P))(h2:∀s,P s->go s):Ex A l b c st (yM R go):=by
 refine h1.mono λx s h=>?_
 cases x with
 |normal=>exact h2 s h
 |exit i=>exact h.elim
 |ret=>exact h.elim
end
section
variable {A:Prog} {l:I7} {b:Nat}
variable {dr:Bool} {l5 ops:List p7} {T:List c8} {H:q6} {n:Nat} {rl:List c8} {o9:List Touch} {Q:List c8->q6->List c8->Prop}
namespace S
def mvS {s:Nat}{u:List Nat}{w v:c8}(hv:w.K7=v)(h2:Ry A l b dr l5 ops T H (n+1) (v::rl) o9 Q)(hx:T[s]? =J w:=by rfl):Ry A l b dr l5 (⟨.Q5 (.slot s),K,K,u⟩::ops) T H n rl o9 Q:=λhn=>by
 refine Rx.step (N1:=0) (rs:=[]) rfl rfl (λk _=>?_) (λrs=>by simp [J2]) (h2.to hn);simp_all [A1.K4,List.replicate,z6,y8,E1,x9.D6,j4,if_false,A1.E7,put,L6,u9,F2]
end S
end
def Pm (A:Prog)(f:FuncId)(args:List c8)(H:q6)(l:I7)(v:c8)(H1:q6):Prop:=∃N,∀n,N<=n->call A n f args H l=J (v,H1)
def Pq (A:Prog)(f:FuncId)(args:List c8)(H:q6)(l:I7)(Post:c8->q6->Prop):Prop:=∃v H1,Post v H1/\Pm A f args H l v H1
section
variable {A:Prog} {l:I7} {b:Nat}
def Pq.run {f:FuncId}{af:q9}{args:List c8}{H:q6}{Post:c8->q6->Prop}(T:List c8)(hp:A.cM f=K)(hf:A.fn f=J af)(hn:O args=af.nparams)(hb:O H=b)
  (hT:args++List.replicate (O af.names - O args) .any=T) (h:Ex A l b af.body ⟨T,H⟩ λx s=>∃w H1,ep af b (J (x,s))=J (w,H1)/\Post w H1):Pq A f args H l Post:=by
 obtain ⟨x,s,N,⟨w,H1,hq,hP⟩,h⟩:=h;refine ⟨w,H1,hP,N+1,λn hn' =>?_⟩;obtain ⟨n,rfl⟩:∃j,n=j+1:=⟨n - 1,V⟩;simp_all [Jk,vZ,M0]
def fG {H:q6}{s k n:Nat}(h:P0 ((H.take n).drop s)<=n):G6 H s (k+1) n=n:=by
 simp_all [G6,if_pos]
def ny {E:Env}{k m:Nat}{f:FuncId}{args:List c8}{st:I9}{v:c8}{H1:q6}{l2:I7}(jG:E.prom f=F)(hm:E.mode f=0)(hc:G6 st.H E.lim.strict 8 (C5 args)=m)(hle:m<=O st.H)(qm:P0 ((st.H.take m).drop E.lim.strict)<=m)
  (pH:(⟨E.lim.XU,E.lim.XT,m,E9 st.H E.lim.strict m⟩:I7)=l2) (h:E.cf f args (st.H.take m) l2=J (v,H1)) (hH:O H1=m) :
  D5 E k f args st=J (put { st with H:=H1++st.H.drop m,o9:= .below m::st.o9 } k v):=by
 simp_all [D5,and_self,if_true,j4,if_false]
def nA {E:Env}{k m:Nat}{f:FuncId}{args:List c8}{st:I9}{v:c8}{H1:q6}{l2:I7}(jG:E.prom f=F)(hm:E.mode f=1)(hc:G6 st.H E.lim.strict 8 (C5 args)=m)(hle:m<=O st.H)(qm:P0 ((st.H.take m).drop E.lim.strict)<=m)
  (pH:(⟨0,m,m,E9 st.H E.lim.strict m⟩:I7)=l2) (h:E.cf f args (st.H.take m) l2=J (v,H1)) (hH:O H1=m) :
  D5 E k f args st=J (put st k v):=by
 simp_all [D5,and_self,if_true,j4,if_false]
variable {dr:Bool} {l5 ops:List p7} {T:List c8} {H:q6} {n:Nat} {rl:List c8} {o9:List Touch} {Q:List c8->q6->List c8->Prop}
def gJ (hn:O rl=n)(xs:List y7):xs.map (A1.K4 T (rl.reverse++ .any::List.replicate (O ops) .any))=xs.map (rq T n rl):=by
 rw [show A1.K4 T (rl.reverse++ .any::List.replicate (O ops) .any)=rq T n rl from funext λx=>Z0 hn _ x]
namespace S
def c0 {f:FuncId}{xs:List y7}{u:List Nat}{v:c8}{args:List c8}{m:Nat}{H0 HD H1 H2:q6}{l2:I7}(hc:Pm A f args H0 l2 v H1)(hH1:O H1=m)(qm:P0 ((H.take m).drop l.strict)<=m:=by exact Nat.zero_le _)(hcl:G6 H l.strict 8 (C5 args)=m:=by rfl)
  (XV:H.take m=H0:=by rfl) (hle:F3 m (O H)=W:=by rfl) (pH:(⟨l.XU,l.XT,m,E9 H l.strict m⟩:I7)=l2:=by rfl) (hd:dr=W->F3 (vW l5) n=W:=by intro;rfl)
  (ha:xs.map (rq T n rl)=args:=by rfl) (jG:A.prom f=F:=by rfl) (hm:A.mode f=0:=by rfl) (hD:H.drop m=HD:=by rfl) (hA:H1++HD=H2:=by first|(simp only [List.cons_append,List.nil_append]<;>rfl)|rfl)
  (h2:Ry A l b dr l5 ops T H2 (n+1) (v::rl) (.below m::o9) Q):Ry A l b dr l5 (⟨.call f xs,K,K,u⟩::ops) T H n rl o9 Q:=λhn=>by
 obtain ⟨i5,hc⟩:=hc;subst XV hD hA;have h2:=h2.to hn;have e1:∀k,i5<=k->z6 (M0 A k l b) l5 K (O rl.reverse) ⟨.call f xs,K,K,u⟩ ⟨T,H,rl.reverse++ .any::List.replicate (O ops) .any,o9⟩=J (⟨T,H1++H.drop m,rl.reverse++v::List.replicate (O ops) .any,.below m::o9⟩,[]):=λk hk=>by
  have h3:D5 (M0 A k l b) (O rl.reverse) f args ⟨T,H,rl.reverse++ .any::List.replicate (O ops) .any,o9⟩=J (put ⟨T,H1++H.drop m,rl.reverse++ .any::List.replicate (O ops) .any,.below m::o9⟩ (O rl.reverse) v) :=
   ny jG hm hcl (j9 hle) qm pH (hc k hk) hH1
  simp_all [z6,y8,E1,x9.D6,if_true,F9,gJ,u9,F2,put,L6]
 cases dr with
 |false=>exact Rx.stepT (N1:=i5) (rs:=[]) rfl e1 h2
 |true =>
  refine Rx.NN (N1:=i5) (rs:=[]) rfl rfl rfl e1 (λh=>?_) h2;simp_all<;>omega
def c1 {f:FuncId}{xs:List y7}{u:List Nat}{v:c8}{args:List c8}{m:Nat}{H0 H1:q6}{l2:I7}(hc:Pm A f args H0 l2 v H1)(hH1:O H1=m)(h2:Ry A l b dr l5 ops T H (n+1) (v::rl) o9 Q)(qm:P0 ((H.take m).drop l.strict)<=m:=by exact Nat.zero_le _)(hcl:G6 H l.strict 8 (C5 args)=m:=by rfl)
  (XV:H.take m=H0:=by rfl) (hle:F3 m (O H)=W:=by rfl) (pH:(⟨0,m,m,E9 H l.strict m⟩:I7)=l2:=by rfl)
  (ha:xs.map (rq T n rl)=args:=by rfl) (jG:A.prom f=F:=by rfl) (hm:A.mode f=1:=by rfl):Ry A l b dr l5 (⟨.call f xs,K,K,u⟩::ops) T H n rl o9 Q:=λhn=>by
 obtain ⟨i5,hc⟩:=hc;refine Rx.step (N1:=i5) (rs:=[]) rfl rfl (λk hk=>?_) (λrs=>by simp [J2]) (h2.to hn);simp_all [D5,M0,List.replicate,put,nA,j9,z6,y8,E1,x9.D6,if_true,F9,gJ,u9,F2,L6]
def cv {f:FuncId}{x:y7}{xs:List y7}{u:List Nat}{v:c8}{first caps args:List c8}(hc:Pf A f args v)(h2:Ry A l b dr l5 ops T H (n+1) (v::rl) o9 Q)(hx:rq T n rl x= .func f first caps:=by rfl)(ha:first++xs.map (rq T n rl)++caps=args:=by rfl)(jG:A.prom f=F:=by rfl)(hm:A.mode f=1:=by rfl)
  (hb:C5 args=0:=by rfl):Ry A l b dr l5 (⟨.bC x xs,K,K,u⟩::ops) T H n rl o9 Q:=λhn=>by
 obtain ⟨i5,hc⟩:=hc;refine Rx.step (N1:=i5) (rs:=[]) rfl rfl (λk hk=>?_) (λrs=>by simp [J2]) (h2.to hn);have h3:D5 (M0 A k l b) (O rl.reverse) f args ⟨T,H,rl.reverse++ .any::List.replicate (O ops) .any,o9⟩=J (put ⟨T,H,rl.reverse++ .any::List.replicate (O ops) .any,o9⟩ (O rl.reverse) v) :=
  iU jG hm hb (hc k hk)
 simp_all [z6,y8,E1,x9.D6,if_true,F9,Z0,gJ,u9,F2,put,L6]
def lk1 {kk:KK}{zero:c8}{x y:y7}{u:List Nat}{id:Nat}{key:Key}{es:List (Key×c8)}{r:Option c8}{v:c8}(hr:cT kk key es=J r)(hv:r.getD zero=v)(h2:Ry A l b dr l5 ops T H (n+1) (v::rl) o9 Q)
  (hx:rq T n rl x= .map id:=by rfl) (hy:(rq T n rl y).QM =J key:=by rfl) (ho:H[id]? =J (.map es):=by rfl) (hf:kk.fits key=W:=by rfl):Ry A l b dr l5 (⟨.lookup kk zero F x y,K,K,u⟩::ops) T H n rl o9 Q :=
 Ry.pure (rs:=[id]) rfl (by simp_all [o7]) h2
def lk2 {kk:KK}{zero:c8}{x y:y7}{u:List Nat}{id:Nat}{key:Key}{es:List (Key×c8)}{r:Option c8}{v:c8}{t:Bool}(hr:cT kk key es=J r)(hv:r.getD zero=v)(ht:r.isSome=t)(h2:Ry A l b dr l5 ops T H (n+1) (.tuple [v,.d (.bool t)]::rl) o9 Q)
  (hx:rq T n rl x= .map id:=by rfl) (hy:(rq T n rl y).QM =J key:=by rfl) (ho:H[id]? =J (.map es):=by rfl) (hf:kk.fits key=W:=by rfl):Ry A l b dr l5 (⟨.lookup kk zero W x y,K,K,u⟩::ops) T H n rl o9 Q :=
 Ry.pure (rs:=[id]) rfl (by simp_all [o7]) h2
def mp {kk:KK}{x y z:y7}{u:List Nat}{id:Nat}{key:Key}{es es' :List (Key×c8)}{v:c8}{H2:q6}(hr:fu kk key v es=J es')(hk:Data.eM kk key key=J W)(hx:rq T n rl x= .map id:=by rfl)(hy:(rq T n rl y).QM =J key:=by rfl)(hz:rq T n rl z=v:=by rfl)(hbv:v.L7<=id+1:=by exact Nat.zero_le _)(hl:l.may id=W:=by rfl)
  (ho:H[id]? =J (.map es):=by rfl) (hd:dr=W->F3 (vW l5) n=W:=by intro;rfl) (hH:H.set id (.map es')=H2:=by simp only [List.set_cons_zero,List.set_cons_succ]<;>rfl)
  (h2:Ry A l b dr l5 ops T H2 (n+1) (.any::rl) (.obj id::o9) Q):Ry A l b dr l5 (⟨.fA kk x y z,K,K,u⟩::ops) T H n rl o9 Q:=λhn=>by
 subst hH;have e1:∀k,0<=k->z6 (M0 A k l b) l5 K (O rl.reverse) ⟨.fA kk x y z,K,K,u⟩ ⟨T,H,rl.reverse++ .any::List.replicate (O ops) .any,o9⟩=J (⟨T,H.set id (.map es'),rl.reverse++ .any::List.replicate (O ops) .any,.obj id::o9⟩,[]):=λk _=>by
  simp_all [M0,z6,y8,E1,x9.D6,if_true,F9,Z0,W9,and_self,put,L6,u9,F2]
 cases dr with
 |false=>exact Rx.stepT (N1:=0) (rs:=[]) rfl e1 (h2.to hn)
 |true =>
  refine Rx.NN (N1:=0) (rs:=[]) rfl rfl rfl e1 (λh=>?_) (h2.to hn);simp_all<;>omega
end S
end
def dmap (ds:List (List UInt8)):List (Key×c8):=ds.map λs=>(.str s,.d (.bool W))
def gI:List (List UInt8)->Nat->List (Key×c8)
 |[],_=>[]
 |s::l,i=>(.str s,.d (.int .i64 (i:Int)))::gI l (i+1)
theorem GN (s:List UInt8):∀ds,cT .s (.str s) (dmap ds)=J (if ds.any λy=>P8 y s then J (.d (.bool W)) else K)
 |[]=>by rfl
 |d::ds=>by
  have h1:=GN s ds
  grind [dmap,cT,Data.eM,P8]
theorem LN (s:List UInt8):∀ds,(ds.any λy=>P8 y s)=F->fu .s (.str s) (.d (.bool W)) (dmap ds)=J (dmap (ds++[s]))
 |[],_=>by rfl
 |d::ds,h=>by
  simp only [List.any_cons,J3] at h;have h1:=LN s ds h.2
  grind [aO0,dmap,fu,Data.eM]
theorem MQ (s:List UInt8):∀(l:List (List UInt8)) (i:Nat),(l.any λy=>P8 y s)=F->fu .s (.str s) (.d (.int .i64 ((i+O l:Nat):Int))) (gI l i)=J (gI (l++[s]) i)
 |[],i,_=>by rfl
 |d::l,i,h=>by
  simp only [List.any_cons,J3] at h;have h1:=MQ s l (i+1) h.2
  grind [aO0,gI,fu,Data.eM]
theorem wT:∀(l:List (List UInt8)) (i:Nat),C5 ((gI l i).map (·.2))=0
 |[],_=>rfl
 |_::l,i=>by simp [gI,C5,c8.L7,wT l (i+1)]
theorem wz:∀l:List (List UInt8),C5 ((dmap l).map (·.2))=0
 |[]=>rfl
 |_::l=>by
  have:=wz l;simp_all [dmap,K0,C5,c8.L7,Nat.zero_max]
section
variable {A:Prog} {l:I7} {b:Nat}
variable {dr:Bool} {l5 ops:List p7} {T:List c8} {H:q6} {n:Nat} {rl:List c8} {o9:List Touch} {Q:List c8->q6->List c8->Prop}
def Wj (id off:Nat)(o9:List Touch)(rs:List Nat):J2 ((Touch.cell id off::o9).take (O (Touch.cell id off::o9) - O o9)) rs=F:=by
 simp_all [J2,Touch.L5]
def Ry.aR3 {j k sz bytes id off:Nat}{y:y7}{u u' :List Nat}{d' :Option Nat}{g' :Option (Nat×Bool)}{n' len m:Nat}{cs' cells new:List Data}{old:List c8}
  (hj:lk n rl j=J (.d (.slice n' cs'))) (ha:l5[j]? =J ⟨.load K (.loc k),d',g',u'⟩) (hk:lk n rl k=J (.ptr id off)) (ht:o9.any (Touch.dD id off)=F) (hl:l.may id=W) (ho:H[id]? =J (.cells old)) (hc:old[off]? =J (.own sz len cells))
  (hy:rq T n rl y= .d (.slice m new)) (hn' :O new=m * sz) (hr:roomFor (len+m) bytes=W) (h0:0<sz)
  (h2:Ry A l b dr l5 ops T (H.set id (.cells (old.set off (.d (.slice len cells))))) (n+1) (.own sz (len+m) (cells++new)::rl) (.cell id off::o9) Q):Ry A l b dr l5 (⟨.append sz bytes F (.loc j) y,K,K,u⟩::ops) T H n rl o9 Q:=λhn=>by
 have hjl:rl.reverse[j]? =J (.d (.slice n' cs')):=by simp_all [jI]
 have bQ:rl.reverse[k]? =J (.ptr id off):=by simp_all [jI]
 have hL:∀r:List c8,(rl.reverse++ .any::r)[j]? =J (.d (.slice n' cs')):=λr=>yW hjl _
 have hK:∀r:List c8,(rl.reverse++ .any::r)[k]? =J (.ptr id off):=λr=>yW bQ _
 have aU6:A1.K4 T (rl.reverse++ .any::List.replicate (O ops) .any) (.loc j)= .d (.slice n' cs'):=by simp [A1.K4,hL,c8.K7]
 refine Rx.step (N1:=0) (rs:=[]) (by simp_all [I5]) rfl (λq _=>?_) (Wj id off o9) (h2.to hn);have hl' :(M0 A q l b).lim.may id=W:=hl;have hs:Q3 H sz (.d (.slice m new))=J (m,new.map .d):=by simp_all [Q3,if_true]
 simp [z6,y8,E1,x9.D6,if_true,F9,aU6,Q1,Z0 hn,hy,hs,cF,j4,if_false,R8,hL,ha,Z3,cA,hK,ht,hl',Bool.not_true,Bool.or_self,ho,hc,hr,h0,and_self,put,L6,u9,F2]
namespace S
def o2 {x:y7}{u:List Nat}{z1 z2:c8}{c d:Data}(h2:Ry A l b dr l5 ops T H (n+1) (.own 2 1 [c,d]::rl) o9 Q)(hx:rq T n rl x= .agg [.d c,.d d]:=by rfl):Ry A l b dr l5 (⟨.H6 2 1 [z1,z2] [(0,2,x)] F,K,K,u⟩::ops) T H n rl o9 Q :=
 Ry.pure (rs:=[]) rfl (by simp [o7,cS,hx,c8.cells?,splice,P7,c8.data?,c8.one]) h2
def ac2 {α:Type}{enc:α->List Data}{xs:List α}{a:α}{j k bytes id off:Nat}{y:y7}{u u' :List Nat}{d' :Option Nat}{g' :Option (Nat×Bool)}{n' :Nat}{cs' :List Data}{c d:Data}{old new:List c8}{H2:q6}
  (hr:roomFor (O xs+1) bytes=W) (he:enc a=[c,d]) (hj:lk n rl j=J (.d (.slice n' cs')):=by rfl) (ha:l5[j]? =J ⟨.load K (.loc k),d',g',u'⟩:=by rfl) (hk:lk n rl k=J (.ptr id off):=by rfl) (ht:o9.any (Touch.dD id off)=F:=by rfl) (hl:l.may id=W:=by rfl) (ho:H[id]? =J (.cells old):=by rfl) (hc:old[off]? =J (D9 2 enc xs):=by rfl)
  (hy:rq T n rl y= .d (.slice 1 [c,d]):=by rfl) (hN:old.set off (.d (C6 enc xs))=new:=by rfl) (hH:H.set id (.cells new)=H2:=by simp only [List.set_cons_zero,List.set_cons_succ]<;>rfl)
  (h2:Ry A l b dr l5 ops T H2 (n+1) (D9 2 enc (xs++[a])::rl) (.cell id off::o9) Q):Ry A l b dr l5 (⟨.append 2 bytes F (.loc j) y,K,K,u⟩::ops) T H n rl o9 Q :=
 Ry.aR3 hj ha hk ht hl ho hc hy rfl hr (by decide) (by
  have e1:D9 2 enc (xs++[a])= .own 2 (O xs+1) (xs.flatMap enc++[c,d]):=by simp [D9,he]
  rw [e1] at h2;subst hH hN;exact h2)
def ac1 {α:Type}{enc:α->List Data}{xs:List α}{a:α}{j k bytes id off:Nat}{y:y7}{u u' :List Nat}{d' :Option Nat}{g' :Option (Nat×Bool)}{n' :Nat}{cs' :List Data}{c:Data}{old new:List c8}{H2:q6}
  (hr:roomFor (O xs+1) bytes=W) (he:enc a=[c]) (hj:lk n rl j=J (.d (.slice n' cs')):=by rfl) (ha:l5[j]? =J ⟨.load K (.loc k),d',g',u'⟩:=by rfl) (hk:lk n rl k=J (.ptr id off):=by rfl) (ht:o9.any (Touch.dD id off)=F:=by rfl) (hl:l.may id=W:=by rfl) (ho:H[id]? =J (.cells old):=by rfl) (hc:old[off]? =J (D9 1 enc xs):=by rfl)
  (hy:rq T n rl y= .d (.slice 1 [c]):=by rfl) (hN:old.set off (.d (C6 enc xs))=new:=by rfl) (hH:H.set id (.cells new)=H2:=by simp only [List.set_cons_zero,List.set_cons_succ]<;>rfl)
  (h2:Ry A l b dr l5 ops T H2 (n+1) (D9 1 enc (xs++[a])::rl) (.cell id off::o9) Q):Ry A l b dr l5 (⟨.append 1 bytes F (.loc j) y,K,K,u⟩::ops) T H n rl o9 Q :=
 Ry.aR3 hj ha hk ht hl ho hc hy rfl hr (by decide) (by
  have e1:D9 1 enc (xs++[a])= .own 1 (O xs+1) (xs.flatMap enc++[c]):=by simp [D9,he]
  rw [e1] at h2;subst hH hN;exact h2)
def soO {id off j z n0:Nat}{y:y7}{u:List Nat}{cs:List Data}{old new:List c8}{H2:q6}{r2:List c8}(hy:rq T n rl y= .ptr id off:=by rfl)(hj:lk n rl j=J (.own z n0 cs):=by rfl)(hjb:F3 (j+1) n=W:=by rfl)(hl:l.may id=W:=by rfl)
  (ho:H[id]? =J (.cells old):=by rfl) (hq:F3 (off+1) (O old)=W:=by rfl) (hd:dr=W->F3 (vW l5) n=W:=by intro;rfl) (hN:old.set off (.own z n0 cs)=new:=by rfl) (hH:H.set id (.cells new)=H2:=by simp only [List.set_cons_zero,List.set_cons_succ]<;>rfl)
  (hS:rl.set (n - (j+1)) (.d (.slice n0 cs))=r2:=by simp only [Nat.reduceAdd,Nat.reduceSub,List.set_cons_zero,List.set_cons_succ]<;>rfl)
  (h2:Ry A l b dr l5 ops T H2 (n+1) (.any::r2) (.obj id::o9) Q):Ry A l b dr l5 (⟨.store 1 y (.loc j),K,K,u⟩::ops) T H n rl o9 Q:=λhn=>by
 subst hH hN hS;have hq' :off<O old:=j9 hq;have hjl:rl.reverse[j]? =J (.own z n0 cs):=by simp_all [jI]
 have hL:∀r:List c8,(rl.reverse++ .any::r)[j]? =J (.own z n0 cs):=λr=>yW hjl _
 have hjn:j<O rl.reverse:=by grind
 have hlen:O (rl.reverse.set j (.d (.slice n0 cs)))=O rl.reverse:=U
 have h4:∀(a v:c8) (r:List c8),(rl.reverse.set j (.d (.slice n0 cs))++a::r).set (O rl.reverse) v=rl.reverse.set j (.d (.slice n0 cs))++v::r:=λa v r=>M
 have h1:splice old off [.own z n0 cs]=old.set off (.own z n0 cs):=by
  simp_all [splice,List.length_singleton,List.set_eq_take_append_cons_drop,if_pos]
 have hw:wr H id off [.own z n0 cs]=J (H.set id (.cells (old.set off (.own z n0 cs)))):=by
  simp_all [wr,List.length_singleton,if_pos]
 have h2' :=h2.to (by simp [hn]);rw [<- Kh hn hjb] at h2';have e1:∀k,0<=k->z6 (M0 A k l b) l5 K (O rl.reverse) ⟨.store 1 y (.loc j),K,K,u⟩ ⟨T,H,rl.reverse++ .any::List.replicate (O ops) .any,o9⟩=J (⟨T,H.set id (.cells (old.set off (.own z n0 cs))),rl.reverse.set j (.d (.slice n0 cs))++ .any::List.replicate (O ops) .any,.obj id::o9⟩,[]):=λk _=>by
  have hl' :(M0 A k l b).lim.may id=W:=hl;have hx:A1.E7 ⟨T,H,rl.reverse++ .any::List.replicate (O ops) .any,o9⟩ (.loc j)=(.own z n0 cs,⟨T,H,rl.reverse.set j (.d (.slice n0 cs))++ .any::List.replicate (O ops) .any,o9⟩):=by
   simp_all [A1.E7]
  have hb0:C5 [c8.own z n0 cs]<=id+1:=Nat.zero_le _;have hc1:(c8.own z n0 cs).cells? =J [.own z n0 cs]:=rfl;simp_all [z6,y8,E1,x9.D6,if_true,F9,Z0,U2,List.length_singleton,true_or,and_self,put,u9,F2]
 cases dr with
 |false=>exact Rx.stepT (N1:=0) (rs:=[]) hlen e1 h2'
 |true =>
  refine Rx.NN (N1:=0) (rs:=[]) hlen rfl rfl e1 (λh=>?_) h2';simp_all<;>omega
end S
end
section
variable {A:Prog} {l:I7} {b:Nat}
variable {dr:Bool} {l5 ops:List p7} {T:List c8} {H:q6} {n:Nat} {rl:List c8} {o9:List Touch} {Q:List c8->q6->List c8->Prop}
namespace S
def cv1 {f:FuncId}{x:y7}{xs:List y7}{u:List Nat}{v:c8}{first caps args:List c8}{m:Nat}{H0 H1:q6}{l2:I7}(hc:Pm A f args H0 l2 v H1)(hH1:O H1=m)(h2:Ry A l b dr l5 ops T H (n+1) (v::rl) o9 Q)(qm:P0 ((H.take m).drop l.strict)<=m:=by exact Nat.zero_le _)(hcl:G6 H l.strict 8 (C5 args)=m:=by rfl)
  (XV:H.take m=H0:=by rfl) (hle:F3 m (O H)=W:=by rfl) (pH:(⟨0,m,m,E9 H l.strict m⟩:I7)=l2:=by rfl) (hx:rq T n rl x= .func f first caps:=by rfl)
  (ha:first++xs.map (rq T n rl)++caps=args:=by rfl) (jG:A.prom f=F:=by rfl) (hm:A.mode f=1:=by rfl):Ry A l b dr l5 (⟨.bC x xs,K,K,u⟩::ops) T H n rl o9 Q:=λhn=>by
 obtain ⟨i5,hc⟩:=hc;subst XV;refine Rx.step (N1:=i5) (rs:=[]) rfl rfl (λk hk=>?_) (λrs=>by simp [J2]) (h2.to hn);have h3:D5 (M0 A k l b) (O rl.reverse) f args ⟨T,H,rl.reverse++ .any::List.replicate (O ops) .any,o9⟩=J (put ⟨T,H,rl.reverse++ .any::List.replicate (O ops) .any,o9⟩ (O rl.reverse) v) :=
  nA jG hm hcl (j9 hle) qm pH (hc k hk) hH1
 simp_all [z6,y8,E1,x9.D6,if_true,F9,Z0,gJ,u9,F2,put,L6]
def cv0 {f:FuncId}{x:y7}{xs:List y7}{u:List Nat}{v:c8}{first caps args:List c8}{m:Nat}{H0 HD H1 H2:q6}{l2:I7}(hc:Pm A f args H0 l2 v H1)(hH1:O H1=m)(qm:P0 ((H.take m).drop l.strict)<=m:=by exact Nat.zero_le _)(hcl:G6 H l.strict 8 (C5 args)=m:=by rfl)
  (XV:H.take m=H0:=by rfl) (hle:F3 m (O H)=W:=by rfl) (pH:(⟨l.XU,l.XT,m,E9 H l.strict m⟩:I7)=l2:=by rfl) (hx:rq T n rl x= .func f first caps:=by rfl)
  (ha:first++xs.map (rq T n rl)++caps=args:=by rfl) (jG:A.prom f=F:=by rfl) (hm:A.mode f=0:=by rfl) (hD:H.drop m=HD:=by rfl) (hA:H1++HD=H2:=by first|(simp only [List.cons_append,List.nil_append]<;>rfl)|rfl)
  (h2:Ry A l b F l5 ops T H2 (n+1) (v::rl) (.below m::o9) Q):Ry A l b F l5 (⟨.bC x xs,K,K,u⟩::ops) T H n rl o9 Q:=λhn=>by
 obtain ⟨i5,hc⟩:=hc;subst XV hD hA;refine Rx.stepT (N1:=i5) (rs:=[]) rfl (λk hk=>?_) (h2.to hn);have h3:D5 (M0 A k l b) (O rl.reverse) f args ⟨T,H,rl.reverse++ .any::List.replicate (O ops) .any,o9⟩=J (put ⟨T,H1++H.drop m,rl.reverse++ .any::List.replicate (O ops) .any,.below m::o9⟩ (O rl.reverse) v) :=
  ny jG hm hcl (j9 hle) qm pH (hc k hk) hH1
 simp_all [z6,y8,E1,x9.D6,if_true,F9,Z0,gJ,u9,F2,put,L6]
end S
end
section
variable {A:Prog} {l:I7} {b:Nat}
def LC (l5:List p7)(na k:Nat)(e:lQ):Prop :=
 na∉e.reads/\(k<vW l5->∀rs,na∉rs->J2 e.JH rs=F)/\e.Km<=na/\(∀i,l5[k]? =J i->i.op.B0=W->e.id=na)/\(∀i,l5[k]? =J i->i.op.Yb=F->e.reads=[])
def Rz (A:Prog)(l:I7)(b:Nat)(l5 ops:List p7)(T:List c8)(H:q6)(n:Nat)(rl:List c8)(o9:List Touch)(na:Nat)(Q:List c8->q6->List c8->Prop):Prop :=
 O rl=n->∃r N,Q r.T r.H r.L/\∀k,N<=k->∃lg:List lQ,S6 (M0 A k l b) l5 ops n na ⟨T,H,rl.reverse++List.replicate (O ops) .any,o9⟩=J (r,lg)/\O lg=O ops/\∀j e,lg[j]? =J e->LC l5 na (n+j) e
variable {l5 ops:List p7} {T:List c8} {H:q6} {n:Nat} {rl:List c8} {o9:List Touch} {na:Nat} {Q:List c8->q6->List c8->Prop}
def Rn.cc1 {T:List c8}{H:q6}{s:Nat}(vM:aO ops=[.dead])(vN:slotsOf ops=[.slot s])(hu:∀i,i∈ops->∀e,e∈i.cB->e<O ops)(h:Rz A l b ops ops T (H++[.dead]) 0 [] [.slot s] (O H) Q):Rn A l b ops W T H Q:=by
 obtain ⟨r,N,hq,h⟩:=h rfl;refine ⟨r,N,hq,λn hn=>?_⟩;obtain ⟨lg,e1,e2,e3⟩:=h n hn;simp [Nat.zero_add] at e1 e3;have bn9:ud ops lg=W:=by
  simp only [ud,M1];rintro ⟨i,le⟩ Af e he;obtain ⟨j,hj,hji⟩:=R3 Af;simp [List.length_zip] at hj;have hj1:j<O ops:=V
  have hj2:j<O lg:=V
  simp [List.getElem_zip] at hji;obtain ⟨rfl,rfl⟩:=hji;have hi:ops[j]∈ops:=List.getElem_mem hj1;have hlt:=hu _ hi e he;have he2:e<O lg:=V
  rw [o6 he2];have c1:=e3 j _ (o6 hj2);have c2:=e3 e _ (o6 he2);cases hr:ops[j].op.Yb with
  |true =>
   have hb:=CB hi hr he;have h5:=c2.2.1 hb _ c1.1;have ha:ops[j].op.makes=F:=by
    cases ho:ops[j].op<;>rw [ho] at hr<;>first|rfl|(cases hr)
   simp [h5,ha]
  |false =>
   have h5:=c1.2.2.2.2 _ (o6 hj1) hr;cases hm:ops[j].op.makes with
   |false=>simp [h5,J2]
   |true =>
    have ha:ops[j].op.B0=W:=by
     cases ho:ops[j].op<;>rw [ho] at hm<;>first|exact hm|(cases hm)
    have h7:=c1.2.2.2.1 _ (o6 hj1) ha;have h6:=c2.2.2.1;simp_all [J2]
 simp_all [T5,if_true]
def Rz.nil (h:Q T H rl.reverse):Rz A l b l5 [] T H n rl o9 na Q:=λ_=>⟨⟨T,H,rl.reverse,o9⟩,0,h,λ_ _=>⟨[],by simp [S6],rfl,λj e h=>by simp at h⟩⟩
def Rz.step {i:p7}{T' :List c8}{H' :q6}{v:c8}{dy :List Touch}{rs:List Nat}{N1:Nat}(hk:∀L,I5 ⟨T,H,L,o9⟩ i.op=F)(hi:l5[n]? =J i)
  (h:O rl=n->∀k,N1<=k->z6 (M0 A k l b) l5 (if i.op.B0 then J na else K) n i ⟨T,H,rl.reverse++ .any::List.replicate (O ops) .any,o9⟩=J (⟨T',H',rl.reverse++v::List.replicate (O ops) .any,dy⟩,rs))
  (hr:na∉rs) (ht:n<vW l5->∀rs,na∉rs->J2 (iI (if i.op.B0 then J na else K)++dy.take (O dy - O o9)) rs=F) (WJ:∀k,M9 (M0 A k l b) ⟨T,H,rl.reverse++ .any::List.replicate (O ops) .any,o9⟩ i.op<=na)
  (hn2:i.op.B0=W->∀j,j∈ops->j.op.B0=F) (h2:∀na',(i.op.B0=F->na' =na)->Rz A l b l5 ops T' H' (n+1) (v::rl) dy na Q/\(i.op.B0=W->∀k r lg,S6 (M0 A k l b) l5 ops (n+1) na ⟨T',H',(v::rl).reverse++List.replicate (O ops) .any,dy⟩=J (r,lg)->S6 (M0 A k l b) l5 ops (n+1) (na+1) ⟨T',H',(v::rl).reverse++List.replicate (O ops) .any,dy⟩=J (r,lg))) :
  Rz A l b l5 (i::ops) T H n rl o9 na Q:=λhn=>by
 obtain ⟨h2,h2a⟩:=h2 na (λ_=>rfl);obtain ⟨r,N,hq,h2⟩:=h2 (by simp [hn]);refine ⟨r,max N N1,hq,λk hkk=>?_⟩;obtain ⟨lg,e1,e2,e3⟩:=h2 k V;have h4:=h hn k V;have e1' :S6 (M0 A k l b) l5 ops (n+1) (if i.op.B0 then na+1 else na) ⟨T',H',rl.reverse++v::List.replicate (O ops) .any,dy⟩=J (r,lg):=by
  grind
 refine ⟨eO (M0 A k l b) i (if i.op.B0 then J na else K) ⟨T,H,rl.reverse++ .any::List.replicate (O ops) .any,o9⟩ ⟨T',H',rl.reverse++v::List.replicate (O ops) .any,dy⟩ rs::lg,?_,by simp [e2],?_⟩
 .simp_all [S6,List.length_cons,List.replicate_succ,lD,Bool.false_and,j4,if_false]
 .intro j e he
  cases j with
  |zero =>
   simp [List.getElem?_cons_zero,Option.some.injEq] at he;subst he;refine ⟨hr,λhb=>ht V,WJ k,λi' hi' ha=>?_,λi' hi' hr' =>?_⟩
   .simp_all [Nat.add_zero,eO]
   .rw [Nat.add_zero,hi] at hi'
    cases hi';exact vG h4 hr'
  |succ j =>
   grind
theorem Ei {E:Env}:∀(ops:List p7) (k na na' :Nat) (st:I9),(∀j,j∈ops->j.op.B0=F)->S6 E l5 ops k na st=S6 E l5 ops k na' st
 |[],_,_,_,_,_=>rfl
 |i::ops,k,na,na',st,h=>by
  have hi:=h i (List.mem_cons_self);simp [S6,hi,j4,if_false];cases lD E l5 K k i st with
  |none=>rfl
  |some x=>simp [Ei ops (k+1) na na' x.1 (λj hj=>h j (List.mem_cons_of_mem _ hj))]
end
section
variable {A:Prog} {l:I7} {b:Nat}
variable {l5 ops:List p7} {T:List c8} {H:q6} {n:Nat} {rl:List c8} {o9:List Touch} {na:Nat} {Q:List c8->q6->List c8->Prop}
def Rz.simple {i:p7}{v:c8}{rs:List Nat}{N1:Nat}(ha:i.op.B0=F)(hk:∀L,I5 ⟨T,H,L,o9⟩ i.op=F)(hi:l5[n]? =J i)
  (h:O rl=n->∀k,N1<=k->z6 (M0 A k l b) l5 K n i ⟨T,H,rl.reverse++ .any::List.replicate (O ops) .any,o9⟩=J (⟨T,H,rl.reverse++v::List.replicate (O ops) .any,o9⟩,rs))
  (hr:na∉rs) (hs:∀k,M9 (M0 A k l b) ⟨T,H,rl.reverse++ .any::List.replicate (O ops) .any,o9⟩ i.op<=na) (h2:Rz A l b l5 ops T H (n+1) (v::rl) o9 na Q):Rz A l b l5 (i::ops) T H n rl o9 na Q :=
 Rz.step (N1:=N1) hk hi (λhn k hk=>M) hr (λ_ rs _=>by grind [iI,J2]) hs (λh=>M) (λ_ _=>⟨h2,λh=>M⟩)
namespace S
def zn (h:Q T H rl.reverse):Rz A l b l5 [] T H n rl o9 na Q:=Rz.nil h
def zp {op:x9}{u:List Nat}{rs:List Nat}(v:c8)(hp:o7 (rq T n rl) H op=J (v,rs))(h2:Rz A l b l5 ops T H (n+1) (v::rl) o9 na Q)(hr:na∉rs:=by simp)(hE:op.D6=F:=by rfl)(ha:op.B0=F:=by rfl)(hk:∀L,I5 ⟨T,H,L,o9⟩ op=F:=by intro;rfl)(hi:l5[n]? =J ⟨op,K,K,u⟩:=by rfl)
  (hs:∀k,M9 (M0 A k l b) ⟨T,H,rl.reverse++ .any::List.replicate (O ops) .any,o9⟩ op<=na:=by intro;exact Nat.zero_le _):Rz A l b l5 (⟨op,K,K,u⟩::ops) T H n rl o9 na Q:=by
 refine Rz.simple (N1:=0) (rs:=rs) ha hk hi (λhn k _=>?_) hr hs h2;have Zp:∀x,op≠ .Q5 x:=by
  grind [o7]
 have h4:o7 (A1.K4 T (rl.reverse++ .any::List.replicate (O ops) .any)) H op=J (v,rs):=by
  rw [show A1.K4 T (rl.reverse++ .any::List.replicate (O ops) .any)=rq T n rl from funext λx=>Z0 hn _ x];exact hp
 have Mk:∀(a:c8) (r:List c8),(rl.reverse++a::r).set n v=rl.reverse++v::r:=λa r=>M
 simp_all [E1,M0,List.replicate,absurd,j4,if_false,put,x9.D6,z6,y8,u9,F2]
def zm {x:y7}{u:List Nat}{v:c8}(h2:Rz A l b l5 ops T H (n+1) (v::rl) o9 na Q)(hx:Oq T n rl x v:=by exact ⟨rfl,rfl⟩)(hi:l5[n]? =J ⟨.Q5 x,K,K,u⟩:=by rfl):Rz A l b l5 (⟨.Q5 x,K,K,u⟩::ops) T H n rl o9 na Q:=by
 refine Rz.simple (N1:=0) (rs:=[]) rfl (λ_=>rfl) hi (λhn k _=>?_) U (λk=>Nat.zero_le _) h2;have Mk:∀(a:c8) (r:List c8),(rl.reverse++a::r).set n v=rl.reverse++v::r:=λa r=>M
 simp [z6,y8,E1,x9.D6,j4,if_false,(hx.op hn).E7,put,Mk,u9,F2]
def zc {f:FuncId}{xs:List y7}{u:List Nat}{v:c8}{args:List c8}{m:Nat}{H0 H1:q6}{l2:I7}(hc:Pm A f args H0 l2 v H1)(hH1:O H1=m)(h2:Rz A l b l5 ops T H (n+1) (v::rl) o9 na Q)(hmn:m<=na:=by decide)(qm:P0 ((H.take m).drop l.strict)<=m:=by exact Nat.zero_le _)(hcl:G6 H l.strict 8 (C5 args)=m:=by rfl)
  (XV:H.take m=H0:=by rfl) (hle:F3 m (O H)=W:=by rfl) (pH:(⟨0,m,m,E9 H l.strict m⟩:I7)=l2:=by rfl)
  (ha:xs.map (rq T n rl)=args:=by rfl) (jG:A.prom f=F:=by rfl) (hm:A.mode f=1:=by rfl) (hi:l5[n]? =J ⟨.call f xs,K,K,u⟩:=by rfl) (hn0:O rl=n:=by rfl):Rz A l b l5 (⟨.call f xs,K,K,u⟩::ops) T H n rl o9 na Q:=by
 obtain ⟨i5,hc⟩:=hc;have bo5 :∀k,(M0 A k l b).prom f=F:=λ_=>jG
 refine Rz.simple (N1:=i5) (rs:=[]) rfl (λ_=>rfl) hi (λhn k hk=>?_) U (λk=>?_) h2
 .have Mk:∀(a:c8) (r:List c8),(rl.reverse++a::r).set n v=rl.reverse++v::r:=λa r=>M
  simp_all [D5,M0,List.replicate,put,nA,j9,z6,y8,E1,x9.D6,if_true,F9,gJ,u9,F2]
 .have cD4 :G6 H (M0 A k l b).lim.strict 8 (C5 args)=m:=hcl
  simp_all [M9,j4,if_false,gJ]
def za {zero:List c8}{u:List Nat}{s:Nat}{T2:List c8}{H2:q6}(hs:T[s]?.isSome=W:=by rfl)(htc:o9.any (Touch.V5 s)=W:=by rfl)(hT:T.set s (.ptr na 0)=T2:=by simp only [List.set_cons_zero,List.set_cons_succ]<;>rfl)(hH:H.set na (.cells zero)=H2:=by simp only [List.set_cons_zero,List.set_cons_succ]<;>rfl)
  (hi:l5[n]? =J ⟨.alloc zero,J s,K,u⟩:=by rfl) (hno:ops.all (λj=> !j.op.B0)=W:=by rfl) (h2:Rz A l b l5 ops T2 H2 (n+1) (.ptr na 0::rl) o9 na Q):Rz A l b l5 (⟨.alloc zero,J s,K,u⟩::ops) T H n rl o9 na Q:=by
 have hs:s<O T:=by
  simp_all
 have bW8 :∀j,j∈ops->j.op.B0=F:=λj hj=>M
 refine Rz.step (N1:=0) (rs:=[]) (λ_=>rfl) hi (λhn k _=>?_) U (λ_ rs hrs=>?_) (λk=>Nat.zero_le _) (λ_=>bW8) (λ_ _=>⟨h2,λ_ k r lg h=>by grind [Ei]⟩)
 .have Mk:∀(a v:c8) (r:List c8),(rl.reverse++a::r).set n v=rl.reverse++v::r:=λa v r=>M
  simp_all [List.length_reverse,x9.B0,if_true,z6,y8,E1,x9.D6,F9,N7,newId,Option.getD_some,put,u9,Y5,A1.E7,decide_true,Bool.and_self,A1.K4,c8.K7]
 grind [x9.B0,iI,J2,Touch.L5]
def zs {m:Nat}{x y:y7}{u:List Nat}{v:c8}{cs old:List c8}{H2:q6}(hd:F3 (vW l5) n=W:=by rfl)(hy:rq T n rl y= .ptr na 0:=by rfl)(hx:Oq T n rl x v:=by exact ⟨rfl,rfl⟩)(hc:v.cells? =J cs:=by rfl)(hm:O cs=m:=by rfl)(hl:l.may na=W:=by rfl)(hb:C5 cs=0:=by rfl)
  (ho:H[na]? =J (.cells old):=by rfl) (hq:O old=m:=by rfl) (hH:H.set na (.cells cs)=H2:=by simp only [List.set_cons_zero,List.set_cons_succ]<;>rfl) (hi:l5[n]? =J ⟨.store m y x,K,K,u⟩:=by rfl)
  (h2:Rz A l b l5 ops T H2 (n+1) (.any::rl) (.obj na::o9) na Q):Rz A l b l5 (⟨.store m y x,K,K,u⟩::ops) T H n rl o9 na Q:=by
 have hw:wr H na 0 cs=J H2:=by
  simp_all [wr,splice,n9]
 refine Rz.step (N1:=0) (rs:=[]) (λ_=>rfl) hi (λhn k _=>?_) U (λh=>?_) (λk=>Nat.zero_le _) (λh=>by cases h) (λ_ _=>⟨h2,λh=>by cases h⟩)
 .have hl' :(M0 A k l b).lim.may na=W:=hl
  have hb' :C5 cs<=na+1:=V
  have Mk:∀(a v:c8) (r:List c8),(rl.reverse++a::r).set n v=rl.reverse++v::r:=λa v r=>M
  simp [x9.B0,j4,if_false,z6,y8,E1,x9.D6,if_true,F9,Z0 hn,hy,U2,(hx.op hn).E7,hc,hm,hl',hb',true_or,and_self,hw,put,Mk,u9,F2]
 simp_all<;>omega
end S
end
section
variable {A:Prog} {l:I7} {b:Nat}
variable {dr:Bool} {l5 ops:List p7} {T:List c8} {H:q6} {n:Nat} {rl:List c8} {o9:List Touch} {Q:List c8->q6->List c8->Prop}
namespace S
def o12 {x y:y7}{u:List Nat}{z1 z2:c8}{c d:Data}(h2:Ry A l b dr l5 ops T H (n+1) (.own 1 2 [c,d]::rl) o9 Q)(hx:rq T n rl x= .d c:=by rfl)(hy:rq T n rl y= .d d:=by rfl):Ry A l b dr l5 (⟨.H6 1 2 [z1,z2] [(0,1,x),(1,1,y)] F,K,K,u⟩::ops) T H n rl o9 Q :=
 Ry.pure (rs:=[]) rfl (by simp [o7,cS,hx,hy,c8.cells?,splice,P7,c8.data?,c8.one]) h2
def lq2 {α β:Type}{e1:α->List Data}{e2:β->List Data}{xs:List α}{ys:List β}{x:y7}{u:List Nat}{id z1 z2:Nat}(h2:Ry A l b dr l5 ops T H (n+1) (.agg [.d (C6 e1 xs),.d (C6 e2 ys)]::rl) o9 Q)(hx:rq T n rl x= .ptr id 0:=by rfl)(ho:H[id]? =J (.cells [D9 z1 e1 xs,D9 z2 e2 ys]):=by rfl) :
  Ry A l b dr l5 (⟨.load (J 2) x,K,K,u⟩::ops) T H n rl o9 Q :=
 Ry.pure (rs:=[id]) rfl (by simp [o7,hx,rd,ho,D9,C6,c8.K7]) h2
end S
end
section
variable {A:Prog} {l:I7} {b:Nat}
variable {l5 ops:List p7} {T:List c8} {H:q6} {n:Nat} {rl:List c8} {o9:List Touch} {na:Nat} {Q:List c8->q6->List c8->Prop}
namespace S
def zix {α:Type} [Inhabited α] {enc:α->List Data}{xs:List α}{sz:Nat}{e:Int}{x y:y7}{k:IntKind}{u:List Nat}(h0:0<=e/\e<O xs)(h2:Rz A l b l5 ops T H (n+1) (.U9 (enc (Y xs e.toNat)++(xs.drop (e.toNat+1)).flatMap enc)::rl) o9 na Q)(hx:rq T n rl x= .d (C6 enc xs):=by rfl)(hy:rq T n rl y= .d (.int k e):=by rfl)(hs:∀a,O (enc a)=sz:=by intro;rfl)
  (hi:l5[n]? =J ⟨.O4 sz x y,K,K,u⟩:=by rfl):Rz A l b l5 (⟨.O4 sz x y,K,K,u⟩::ops) T H n rl o9 na Q:=by
 refine zp (rs:=[]) _ ?_ h2 (hi:=hi);simp_all [pg,E6,o7,C6,and_self,if_true]
def zle {cs rest:List Data}{x:y7}{m:Nat}{u:List Nat}(h2:Rz A l b l5 ops T H (n+1) (.agg (cs.map .d)::rl) o9 na Q)(hx:rq T n rl x= .U9 (cs++rest):=by rfl)(hm:O cs=m:=by rfl)(hi:l5[n]? =J ⟨.load (J m) x,K,K,u⟩:=by rfl):Rz A l b l5 (⟨.load (J m) x,K,K,u⟩::ops) T H n rl o9 na Q:=by
 refine zp (rs:=[]) _ ?_ h2 (hi:=hi);simp_all [o7]
def soD {dr:Bool}{m id:Nat}{x y:y7}{u:List Nat}{v:c8}{cs old:List c8}{H2:q6}(hd:F3 (vW l5) n=W:=by rfl)(hy:rq T n rl y= .ptr id 0:=by rfl)(hx:Oq T n rl x v:=by exact ⟨rfl,rfl⟩)(hc:v.cells? =J cs:=by rfl)(hm:O cs=m:=by rfl)(hl:l.may id=W:=by rfl)(hb:C5 cs=0:=by rfl)
  (ho:H[id]? =J (.cells old):=by rfl) (hq:O old=m:=by rfl) (hH:H.set id (.cells cs)=H2:=by simp only [List.set_cons_zero,List.set_cons_succ]<;>rfl)
  (h2:Ry A l b dr l5 ops T H2 (n+1) (.any::rl) (.obj id::o9) Q):Ry A l b dr l5 (⟨.store m y x,K,K,u⟩::ops) T H n rl o9 Q :=
 EF hd hy hx hc hm hl V (by simp_all [wr,splice,n9]) h2
end S
end
section
variable {A:Prog} {l:I7} {b:Nat}
variable {dr:Bool} {l5 ops:List p7} {T:List c8} {H:q6} {n:Nat} {rl:List c8} {o9:List Touch} {Q:List c8->q6->List c8->Prop}
namespace S
def mk {u:List Nat}{id:Nat}{H2:q6}(hi:O H=id:=by simp only [List.length_cons,List.length_nil,Nat.reduceAdd]<;>rfl)(hH:H++[.map []]=H2:=by simp only [List.cons_append,List.nil_append]<;>rfl)
  (h2:Ry A l b F l5 ops T H2 (n+1) (.map id::rl) o9 Q):Ry A l b F l5 (⟨.makeMap,K,K,u⟩::ops) T H n rl o9 Q:=λhn=>by
 refine Rx.stepT (N1:=0) (rs:=[]) rfl (λn _=>?_) (h2.to hn);simp_all [z6,y8,E1,x9.D6,F9,N7,newId,put,u9,F2]
def bso {sz len:Nat}{zero:List c8}{parts:List (Nat×Nat×y7)}{u:List Nat}{id:Nat}{H2:q6}(cs:List c8)(hr:cS zero (parts.map λp=>(p.1,p.2.1,rq T n rl p.2.2))=J cs)(h0:0<sz/\O cs=len * sz)(hi:O H=id:=by simp only [List.length_cons,List.length_nil,Nat.reduceAdd]<;>rfl)(hH:H++[.cells cs]=H2:=by simp only [List.cons_append,List.nil_append]<;>rfl)
  (h2:Ry A l b F l5 ops T H2 (n+1) (.B8 id sz 0 len::rl) o9 Q):Ry A l b F l5 (⟨.H6 sz len zero parts W,K,K,u⟩::ops) T H n rl o9 Q:=λhn=>by
 refine Rx.stepT (N1:=0) (rs:=[]) rfl (λk _=>?_) (h2.to hn);have hr' :cS zero (parts.map λp=>(p.1,p.2.1,A1.K4 T (rl.reverse++ .any::List.replicate (O ops) .any) p.2.2))=J cs:=by
  rw [show A1.K4 T (rl.reverse++ .any::List.replicate (O ops) .any)=rq T n rl from funext λx=>Z0 hn _ x];exact hr
 simp_all [z6,y8,E1,x9.D6,if_true,F9,and_self,N7,newId,Option.getD_none,put,L6,u9,F2]
def lrT {x:y7}{u:List Nat}{id sz lo len s:Nat}{T2:List c8}(hx:rq T n rl x= .B8 id sz lo len:=by rfl)(hs:T[s]?.isSome=W:=by rfl)(hT:T.set s (.d (.int .i64 (len:Int)))=T2:=by simp only [List.set_cons_zero,List.set_cons_succ]<;>rfl)
  (h2:Ry A l b dr l5 ops T2 H (n+1) (.d (.int .i64 (len:Int))::rl) (.slot s::o9) Q):Ry A l b dr l5 (⟨.len x,J s,K,u⟩::ops) T H n rl o9 Q :=
 Ry.zi (v:= .d (.int .i64 (len:Int))) (rs:=[]) rfl (by grind [o7,i64]) rfl rfl hs M
def ixs {x y:y7}{u:List Nat}{id sz lo len i:Nat}{k:IntKind}(hi:i<len)(h2:Ry A l b dr l5 ops T H (n+1) (.ptr id (lo+i * sz)::rl) o9 Q)(hx:rq T n rl x= .B8 id sz lo len:=by rfl)(hy:rq T n rl y= .d (.int k ((i:Nat):Int)):=by rfl):Ry A l b dr l5 (⟨.O4 sz x y,K,K,u⟩::ops) T H n rl o9 Q :=
 Ry.pure (rs:=[]) rfl (by
  simp_all [o7]) h2
def lqV {x:y7}{u:List Nat}{id o m:Nat}{vs:List c8}(hr:rd H id o m=J vs)(hv:vs.map c8.K7=vs)(h2:Ry A l b dr l5 ops T H (n+1) (.agg vs::rl) o9 Q)(hx:rq T n rl x= .ptr id o:=by rfl):Ry A l b dr l5 (⟨.load (J m) x,K,K,u⟩::ops) T H n rl o9 Q :=
 Ry.pure (rs:=[id]) rfl (by simp_all [o7]) h2
def soB {m id:Nat}{x y:y7}{u:List Nat}{v:c8}{cs old:List c8}{H2:q6}(hb:C5 cs<=id+1)(hy:rq T n rl y= .ptr id 0:=by rfl)(hx:Oq T n rl x v:=by exact ⟨rfl,rfl⟩)(hc:v.cells? =J cs:=by rfl)(hm:O cs=m:=by rfl)(hl:l.may id=W:=by rfl)
  (ho:H[id]? =J (.cells old):=by rfl) (hq:O old=m:=by rfl) (hH:H.set id (.cells cs)=H2:=by simp only [List.set_cons_zero,List.set_cons_succ]<;>rfl)
  (h2:Ry A l b F l5 ops T H2 (n+1) (.any::rl) (.obj id::o9) Q):Ry A l b F l5 (⟨.store m y x,K,K,u⟩::ops) T H n rl o9 Q :=
 ox hy hx hc hm hl hb (by simp_all [wr,splice,n9]) h2
end S
def O3 {mask:List Bool}{strict m:Nat}{T:List c8}{H:q6}(h1:C5 (V4 mask T)<=m)(h2:P0 ((H.take m).drop strict)<=m):clean mask strict m ⟨T,H⟩=⟨V4 mask T,H.take m⟩:=by
 grind [clean]
end
section
variable {A:Prog} {l:I7} {b:Nat}
variable {l5 ops:List p7} {T:List c8} {H:q6} {n:Nat} {rl:List c8} {o9:List Touch} {Q:List c8->q6->List c8->Prop}
namespace S
def cp {f:FuncId}{xs:List y7}{u:List Nat}{v:c8}{args:List c8}{H1:q6}(hc:Pm A f args H l v H1)(hle:O H<=O H1)(h2:Ry A l b F l5 ops T H1 (n+1) (v::rl) (.below (O H1)::o9) Q)(ha:xs.map (rq T n rl)=args:=by rfl)(jG:A.prom f=W:=by rfl) :
  Ry A l b F l5 (⟨.call f xs,K,K,u⟩::ops) T H n rl o9 Q:=λhn=>by
 obtain ⟨i5,hc⟩:=hc;refine Rx.stepT (N1:=i5) (rs:=[]) rfl (λk hk=>?_) (h2.to hn);have bo5 :(M0 A k l b).prom f=W:=jG;have wH :(M0 A k l b).cf f args H (M0 A k l b).lim=J (v,H1):=hc k hk;have h3:D5 (M0 A k l b) (O rl.reverse) f args ⟨T,H,rl.reverse++ .any::List.replicate (O ops) .any,o9⟩=J (put ⟨T,H1,rl.reverse++ .any::List.replicate (O ops) .any,.below (O H1)::o9⟩ (O rl.reverse) v):=by
  simp only [D5,bo5,if_true,wH,hle]
 simp only [z6,y8,E1,x9.D6,if_true,F9,gJ hn,ha,h3,u9,F2,put,L6]
end S
end
theorem Hh (id:Nat):∀l:List c8,K6 id l=l.map (c8.kill id)
 |[]=>rfl
 |v::l=>by simp [K6,Hh id l]
def WO {id m:Nat}(rl:List c8):K6 id (rl.reverse++ .any::List.replicate m .any)=(K6 id rl).reverse++ .any::List.replicate m .any:=by
 simp [Hh,c8.kill]
theorem Pm.cM {A:Prog}{f:FuncId}{args:List c8}{H H1:q6}{l:I7}{v:c8}{p:List c8->q6->I7->Option (c8×q6)}(hp:A.cM f=J p)(h:p args H l=J (v,H1)):Pm A f args H l v H1 :=
 ⟨1,λn hn=>by
  obtain ⟨n,rfl⟩:∃j,n=j+1:=⟨n - 1,V⟩;simp_all [call]⟩
section
variable {A:Prog} {l:I7} {b:Nat}
variable {dr:Bool} {l5 ops:List p7} {T:List c8} {H:q6} {n:Nat} {rl:List c8} {o9:List Touch} {Q:List c8->q6->List c8->Prop}
def S.wS {s:Nat}{w v:c8}{u:List Nat}(hw:w.K7=v)(h2:Ry A l b dr l5 ops T H (n+1) (v::rl) o9 Q)(hx:T[s]? =J w:=by rfl):Ry A l b dr l5 (⟨.Q5 (.slot s),K,K,u⟩::ops) T H n rl o9 Q:=λhn=>by
 refine Rx.step (N1:=0) (rs:=[]) rfl rfl (λq _=>?_) (λrs=>by simp [J2]) (h2.to hn);simp_all [A1.K4,List.replicate,z6,y8,E1,x9.D6,j4,if_false,A1.E7,put,L6,u9,F2]
end
section
variable {A:Prog} {l:I7} {b:Nat}
variable {l5 ops:List p7} {T:List c8} {H:q6} {n:Nat} {rl:List c8} {o9:List Touch} {Q:List c8->q6->List c8->Prop}
namespace S
def mn {dr:Bool}{s:Nat}{T2:List c8}{u:List Nat}(hs:T[s]?.isSome=W:=by rfl)(hT:T.set s .P9=T2:=by simp only [List.set_cons_zero,List.set_cons_succ]<;>rfl)(h2:Ry A l b dr l5 ops T2 H (n+1) (.P9::rl) (.slot s::o9) Q) :
  Ry A l b dr l5 (⟨.Q5 (.const .P9),J s,K,u⟩::ops) T H n rl o9 Q:=λhn=>by
 have hs' :s<O T:=by
  simp_all
 refine Rx.step (N1:=0) (rs:=[]) rfl rfl (λn _=>?_) (fP s o9) (h2.to hn);simp_all [z6,y8,E1,x9.D6,j4,if_false,A1.E7,put,L6,u9,F2,if_true]
def apo {x y:y7}{u:List Nat}{sz bytes id len m k2:Nat}{old cs T2 rl2:List c8}{H2:q6}(hr:roomFor (len+m) bytes=W)(hc:Q3 H sz (rq T n rl y)=J (m,cs))(hol:len * sz=O old)(hone:cs.all c8.one=W)(hbc:C5 cs=0)
  (hx:rq T n rl x= .B8 id sz 0 len:=by rfl) (hid:F3 l.base id=W:=by rfl) (hbi:F3 b id=W:=by rfl) (hl:l.may id=W:=by rfl) (ho:H[id]? =J (.cells old):=by rfl) (hsz:F3 1 sz=W:=by rfl)
  (hT:K6 id T=T2:=by rfl) (hL:K6 id rl=rl2:=by rfl) (hH:(H.take l.base++(H.drop l.base).map (y6.kill id)).set id (.cells (K6 id old++cs))=H2:=by rfl)
  (hk2:len+m=k2:=by rfl) (h2:Ry A l b F l5 ops T2 H2 (n+1) (.B8 id sz 0 k2::rl2) (.obj id::o9) Q):Ry A l b F l5 (⟨.append sz bytes W x y,K,K,u⟩::ops) T H n rl o9 Q:=λhn=>by
 subst hT hH hL hk2;have hid:=j9 hid;have hbi:=j9 hbi;have hsz:0<sz:=j9 hsz;have hn2:O (K6 id rl)=n:=by grind [U1]
 refine Rx.stepT (N1:=0) (rs:=[]) M (λk _=>?_) (h2.to hn2);have hl' :(M0 A k l b).lim.may id=W:=hl;have he:(M0 A k l b).lim.base<=id/\(M0 A k l b).entry<=id/\(M0 A k l b).lim.may id=W:=⟨hid,hbi,hl'⟩;have hk:C5 cs<=id:=V
 have h5:V6 (M0 A k l b) (O rl.reverse) sz bytes ⟨T,H,rl.reverse++ .any::List.replicate (O ops) .any,o9⟩ id 0 len (rq T n rl y)=J (put ⟨K6 id T,(H.take l.base++(H.drop l.base).map (y6.kill id)).set id (.cells (K6 id old++cs)),(K6 id rl).reverse++ .any::List.replicate (O ops) .any,.obj id::o9⟩ (O rl.reverse) (.B8 id sz 0 (len+m))):=by
  simp [V6,he,ho,hc,hol,hr,hk,hone,hsz,WO];rfl
 simp_all [K6,U1,z6,y8,E1,x9.D6,if_true,F9,Z0,u9,F2,put,L6]
end S
end
end Go.A1
namespace Go.A1.S
def gx {Γ Δ:Prop}(k:Δ)(h:PLift Δ->Γ:=by intro d5;(first|refine Ex.seq ?_|refine Ex.region (Rn.text ?_)|refine Ex.region (Rn.draw ?_)|refine Ex.block ?_|refine nl ?_|refine Ex.skip ?_|refine Ex.exit ?_|refine Ex.ret ?_|refine wa ?_|refine sk ?_|refine st ?_|refine mv ?_|refine mt (h2:=?_)|refine mo ?_|refine lp ?_|refine lpo ?_|refine fp ?_|refine ld ?_|refine lf ?_|refine ln ?_|refine li ?_|refine lo ?_|refine gi ?_|refine go ?_|refine ei ?_|refine ni ?_|refine es ?_|refine ns ?_|refine ad ?_|refine sb ?_|refine ng ?_|refine lt ?_|refine le ?_|refine lq ?_|refine lq3 ?_|refine lq2 ?_|refine o12 ?_|refine et ?_|refine ix (h2:=?_)|refine pt ?_|refine pk ?_|refine mw (h2:=?_)|refine ow (h2:=?_)|refine bx (h2:=?_)|refine bxn (h2:=?_)|refine nk ?_|refine nki ?_|refine ac (h2:=?_)|refine so (h2:=?_)|refine sp1 (h2:=?_)|refine o1 ?_|refine o1z ?_|refine ap1 (h2:=?_)|refine e0 ?_|refine XR (h2:=?_)|refine al1 (h2:=?_)|refine alN (h2:=?_)|refine alE (h2:=?_)|refine xs (h2:=?_)|refine xsN (h2:=?_)|refine ixN (h2:=?_)|refine ixZ (h2:=?_)|refine ls ?_|refine lnT (h2:=?_)|refine lsT (h2:=?_)|refine ldT (h2:=?_)|refine lpT (h2:=?_)|refine qs ?_|refine qb ?_|refine mm ?_|refine ip ?_|refine ipN ?_|refine ipM ?_|refine bZ8 ?_|refine df ?_|refine mf ?_|refine Bu ?_|refine svh (h2:=?_)|refine svl (h2:=?_)|refine svb (h2:=?_)|fail);exact d5.down):Γ:=h ⟨k⟩
def gr {Γ Δ:Prop}(k:Δ)(h:PLift Δ->Γ:=by intro d5;(repeat' (first|refine gx ?_|fail));exact d5.down):Γ:=h ⟨k⟩
def cc {p:Prop}(h:p:=by first|(simp [*,j3];done)|(simp_all [j3];done)|(simp_all [j3,s9,s8,o8,D2];done)|(simp_all [j3,s9,s8,o8,D2]<;>omega)):p:=h
section
variable {A:Prog} {l:I7} {b:Nat}
def tB {ops:List p7}{draw:Bool}{c:y7}{d e:q7}{T:List c8}{H:q6}{Q:I6->St->Prop}{Δ:Prop}(t:Bool)(k:Δ)(h2:t=W->Ex A l b d ⟨T,H⟩ Q)(h3:t=F->Ex A l b e ⟨T,H⟩ Q)
  (h:PLift Δ->Rn A l b ops draw T H λT' H' L=>T' =T/\H' =H/\∃t',K4 T' L c= .d (.bool t')/\t' =t:=by intro d5;first|exact Rn.text d5.down|exact Rn.draw d5.down):Ex A l b (.test ops draw c d e) ⟨T,H⟩ Q:=Ex.NX t (h ⟨k⟩) h2 h3
def tb {ops:List p7}{draw:Bool}{c:y7}{d e:q7}{T:List c8}{H:q6}{Q:I6->St->Prop}(t:Bool)(h2:t=W->Ex A l b d ⟨T,H⟩ Q)(h3:t=F->Ex A l b e ⟨T,H⟩ Q)
  (h:Rn A l b ops draw T H λT' H' L=>T' =T/\H' =H/\∃t',K4 T' L c= .d (.bool t')/\t' =t:=by (first|refine Rn.text ?_|refine Rn.draw ?_|fail);(repeat' (first|refine gx ?_|refine fk (h1:=λhw=>?_) (h2:=λhw=>?_)|refine fpk (h1:=λhw=>?_) (h2:=λhw=>?_)|refine ⟨rfl,rfl,_,rfl,?_⟩|refine ⟨rfl,rfl⟩|fail));all_goals exact cc) :
  Ex A l b (.test ops draw c d e) ⟨T,H⟩ Q:=Ex.NX t h h2 h3
end
end Go.A1.S
namespace Go.A1
abbrev C7:=Int×Int
structure A3 where
 src:C7
 dst:C7
 dat:Bool
 deriving DecidableEq,Inhabited
def oP (S:List C7)(p:C7):List C7:=if p∈S then S else S++[p]
def fZ:List C7->List C7->List C7
 |S,[]=>S
 |S,p::r=>fZ (oP S p) r
def aB (S:List C7)(f:A3):List C7:=if f.src∈S/\f.dst∉S then S++[f.dst] else S
def pass:List C7->List A3->List C7
 |S,[]=>S
 |S,f::r=>pass (aB S f) r
def mb (fs:List A3):Nat->List C7->List C7
 |0,S=>S
 |n+1,S=>if O (pass S fs)=O S then S else mb fs n (pass S fs)
def og (fs:List A3)(l:List C7):List C7:=mb fs (O fs+1) (fZ [] l)
inductive tJ (fs:List A3) (l:List C7):C7->Prop
 |base {p:C7}:p∈l->tJ fs l p
 |step {f:A3}:f∈fs->tJ fs l f.src->tJ fs l f.dst
def ZX {S:List C7}{p q:C7}:q∈oP S p↔q∈S\/q=p:=by
 grind [oP]
theorem DJ:∀(l S:List C7) {q:C7},q∈fZ S l↔q∈S\/q∈l
 |[],S,q=>by simp [fZ]
 |p::r,S,q=>by
  rw [fZ,DJ r,ZX]
  grind
def Qc {S:List C7}{p:C7}(h:S.Nodup):(oP S p).Nodup:=by
 grind [oP,List.nodup_append,q8]
theorem uJ:∀(l S:List C7),S.Nodup->(fZ S l).Nodup
 |[],_,h=>h
 |_::r,_,h=>uJ r _ (Qc h)
theorem Cu:∀(l S:List C7),O (fZ S l)<=O S+O l
 |[],_=>l6 _
 |p::r,S=>by
  have h1:=Cu r (oP S p)
  grind [oP,fZ,List.length_cons]
def HT {S:List C7}{f:A3}{q:C7}(h:q∈S):q∈aB S f:=by
 grind [aB]
def XD (S:List C7)(f:A3):O S<=O (aB S f)/\(O (aB S f)=O S->aB S f=S/\(f.src∈S->f.dst∈S)):=by
 grind [aB]
def NM {S:List C7}{f:A3}(h:S.Nodup):(aB S f).Nodup:=by
 grind [aB,List.nodup_append,q8]
theorem rH:∀(fs:List A3) {S:List C7} {q:C7},q∈S->q∈pass S fs
 |[],_,_,h=>h
 |_::r,_,_,h=>rH r (HT h)
theorem rG:∀(fs:List A3) (S:List C7),O S<=O (pass S fs)/\(O (pass S fs)=O S->pass S fs=S/\∀f∈fs,f.src∈S->f.dst∈S)
 |[],_=>⟨l6 _,λ_=>⟨rfl,U⟩⟩
 |f::r,S=>by
  obtain ⟨a1,a2⟩:=XD S f;obtain ⟨b1,b2⟩:=rG r (aB S f)
  grind [pass]
theorem vv:∀(fs:List A3) {S:List C7},S.Nodup->(pass S fs).Nodup
 |[],_,h=>h
 |_::r,_,h=>vv r (NM h)
theorem Nd {fs:List A3}{l:List C7}:∀(gs:List A3) {S:List C7},(∀g∈gs,g∈fs)->(∀q∈S,tJ fs l q)->∀q∈pass S gs,tJ fs l q
 |[],_,_,h=>h
 |g::r,S,hg,h=>by
  refine Nd r (λx hx=>hg x (List.mem_cons_of_mem _ hx)) λq hq=>?_
  unfold aB at hq;split at hq
  next hc=>
   rcases D7.1 hq with hq|hq
   .exact h q hq
   .simp [q8] at hq
    subst hq;exact .step (hg g List.mem_cons_self) (h _ hc.1)
  simp_all
def dV (fs:List A3)(S:List C7):Nat:=O (fs.filter λf=> !decide (f.dst∈S))
theorem rD (fs:List A3)(S:List C7):dV fs S<=O fs:=List.length_filter_le _ _
theorem DP {S S' :List C7}(h:∀q∈S,q∈S'):∀fs:List A3,dV fs S' <=dV fs S
 |[]=>l6 _
 |f::r=>by
  have:=DP h r
  grind [dV]
theorem wQ {S S' :List C7}(h:∀q∈S,q∈S'):∀{fs:List A3} {f:A3},f∈fs->f.dst∉S->f.dst∈S' ->dV fs S' <dV fs S
 |g::r,f,hf,h1,h2=>by
  have h3:=DP h r;unfold dV at *
  rcases B6.1 hf with rfl|hf
  .grind
  .have h4:=wQ h (fs:=r) hf h1 h2
   grind [dV]
theorem Ea:∀(fs:List A3) (S:List C7),O (pass S fs)≠O S->∃f∈fs,f.dst∉S/\f.dst∈pass S fs
 |[],S,h=>absurd rfl h
 |f::r,S,h=>by
  rw [pass] at h ⊢
  by_cases hc:f.src∈S/\f.dst∉S
  .simp_all [List.mem_cons_self,rH,aB,if_pos]
  .have e:aB S f=S:=by simp_all [aB]
   rw [e] at h ⊢;obtain ⟨g,hg,h1,h2⟩:=Ea r S h
   grind
theorem CP (fs:List A3):∀(n:Nat) (S:List C7),dV fs S<n->(∀q∈S,q∈mb fs n S)/\(∀f∈fs,f.src∈mb fs n S->f.dst∈mb fs n S)
 |0,_,h=>absurd h (Nat.not_lt_zero _)
 |n+1,S,h=>by
  unfold mb;split
  .grind [rG]
  next he=>
   obtain ⟨f,hf,h1,h2⟩:=Ea fs S he;have:=wQ (λq hq=>rH fs hq) hf h1 h2;obtain ⟨a,b⟩:=CP fs n (pass S fs) V;simp_all [rH]
theorem GH (fs:List A3):∀(n:Nat) {S:List C7},S.Nodup->(mb fs n S).Nodup
 |0,_,h=>h
 |n+1,S,h=>by
  unfold mb;split
  .exact h
  .exact GH fs n (vv fs h)
theorem Sl {fs:List A3}{l:List C7}:∀(n:Nat) {S:List C7},(∀q∈S,tJ fs l q)->∀q∈mb fs n S,tJ fs l q
 |0,_,h=>h
 |n+1,S,h=>by
  unfold mb;split
  .exact h
  .exact Sl n (Nd fs (λ_ h=>h) h)
def DL {fs:List A3}{l:List C7}{q:C7}:q∈og fs l↔tJ fs l q:=by
 have h:=CP fs (O fs+1) (fZ [] l) (by grind [rD,fZ]);refine ⟨Sl _ (λq hq=> .base (by simp_all [DJ])) q,λhr=>?_⟩
 induction hr with
 |base hp=>exact h.1 _ (by simp [DJ,hp])
 |step hf _ ih=>exact h.2 _ hf ih
def Ef (fs:List A3)(l:List C7):(og fs l).Nodup:=GH fs _ (uJ l [] List.nodup_nil)
theorem tJ.mono {fs:List A3}{l m:List C7}(h:∀p∈l,tJ fs m p){q:C7}(hr:tJ fs l q):tJ fs m q:=by
 induction hr with
 |base hp=>exact h _ hp
 |step hf _ ih=>exact .step hf ih
def A3.rev (f:A3):A3:=⟨f.dst,f.src,f.dat⟩
def tJ.be5 {fs:List A3}{p q r:C7}(h1:tJ fs [p] q)(h2:tJ fs [q] r):tJ fs [p] r :=
 h2.mono λx hx=>by
  simp_all
theorem tJ.rev {fs:List A3}{p q:C7}(h:tJ fs [p] q):tJ (fs.map A3.rev) [q] p:=by
 induction h with
 |base hp =>
  simp [q8] at hp;subst hp;exact .base (q8.2 rfl)
 | @step f hf _ ih =>
  refine tJ.be5 ?_ ih;exact tJ.step (f:=f.rev) (List.mem_map_of_mem hf) (.base (q8.2 rfl))
def A3.rev_rev (f:A3):f.rev.rev=f:=rfl
def tJ.aC9 {fs:List A3}{p q:C7}:tJ (fs.map A3.rev) [q] p↔tJ fs [p] q:=by
 refine ⟨λh=>?_,.rev⟩;have:=h.rev;have e:(A3.rev∘A3.rev)=id:=funext λf=>A3.rev_rev f
 simp_all
def mN (a b:Int):Int:=if a<b then -1 else if b<a then 1 else 0
def wm (a b:C7):Int:=if mN a.1 b.1≠0 then mN a.1 b.1 else mN a.2 b.2
def cfB (a b:Bool):Int:=if a==b then 0 else if a then -1 else 1
def LA (a b:A3):Int:=if wm a.src b.src≠0 then wm a.src b.src else if wm a.dst b.dst≠0 then wm a.dst b.dst else cfB a.dat b.dat
def JJ {α:Type}(cf:α->α->Int)(x:α):List α->List α
 |[]=>[x]
 |y::l=>if cf y x<0 then y::JJ cf x l else x::y::l
def HM {α:Type}(cf:α->α->Int):List α->List α
 |[]=>[]
 |x::l=>JJ cf x (HM cf l)
theorem yQ {α:Type}(cf:α->α->Int)(x:α):∀l,(JJ cf x l).Perm (x::l)
 |[]=>List.Perm.refl _
 |y::l=>by
  simp [JJ];split
  .exact ((yQ cf x l).cons y).trans (List.Perm.swap x y l)
  rfl
theorem pY {α:Type}(cf:α->α->Int):∀l,(HM cf l).Perm l
 |[]=>List.Perm.refl _
 |x::l=>(yQ cf x _).trans ((pY cf l).cons x)
theorem SR {α:Type}{cf:α->α->Int}(htr:∀a b c,¬ cf b a<0->¬ cf c b<0->¬ cf c a<0)(hto:∀a b,cf b a<0->¬ cf a b<0)(x:α):∀l:List α,l.Pairwise (λa b=>¬ cf b a<0)->(JJ cf x l).Pairwise λa b=>¬ cf b a<0
 |[],_=>by simp [JJ]
 |y::l,h=>by
  simp only [JJ];rw [M7] at h;split
  .refine M7.2 ⟨λz hz=>?_,SR htr hto x l h.2⟩
   grind [yQ]
  grind [M7]
theorem xu {α:Type}{cf:α->α->Int}(htr:∀a b c,¬ cf b a<0->¬ cf c b<0->¬ cf c a<0)(hto:∀a b,cf b a<0->¬ cf a b<0):∀l:List α,(HM cf l).Pairwise λa b=>¬ cf b a<0
 |[]=>List.Pairwise.nil
 |x::l=>SR htr hto x _ (xu htr hto l)
def AG {α:Type}{cf:α->α->Int}(htr:∀a b c,¬ cf b a<0->¬ cf c b<0->¬ cf c a<0)(hto:∀a b,cf b a<0->¬ cf a b<0)(han:∀a b,¬ cf b a<0->¬ cf a b<0->a=b)(l:List α):(l.mergeSort λx y=> !decide (cf y x<0))=HM cf l:=by
 refine List.Perm.eq_of_pairwise (le:=λa b=>¬ cf b a<0) (λa b _ _ h1 h2=>han a b h1 h2) ?_ (xu htr hto l) ((List.mergeSort_perm l _).trans (pY cf l).symm);have:=List.pairwise_mergeSort (le:=λx y:α=> !decide (cf y x<0)) (λa b c h1 h2=>by grind) (λa b=>by
  grind) l
 simp_all
def sortP (l:List C7):List C7:=HM wm l
def bH (l:List A3):List A3:=HM LA l
theorem iK (l:List A3):(bH l).Perm l:=pY _ _
theorem tF (l:List A3):O (bH l)=O l:=(iK l).length_eq
def A3.enc (f:A3):List Data:=[Z f.src.1,Z f.src.2,Z f.dst.1,Z f.dst.2,.bool f.dat]
def qS:List Data->Option (List A3)
 |[]=>J []
 | .int .i64 a:: .int .i64 b:: .int .i64 c:: .int .i64 d:: .bool t::r=>match qS r with
  |some l=>J (⟨(a,b),(c,d),t⟩::l)
  |none=>K
 |_=>K
def zg (g:FuncId):List c8->q6->I7->Option (c8×q6)
 |[.B8 id 5 lo len,.func g' [] []],H,l=>if g' =g/\l.may id=W/\len<=1000000 then match rd H id lo (len * 5) with
   |some vs=>match P7 vs with
    |some cs=>match qS cs with
     |some fs=>match wr H id lo (((bH fs).flatMap A3.enc).map .d) with
      |some H1=>J (.tuple [],H1)
      |none=>K
     |none=>K
    |none=>K
   |none=>K
  else K
 |[.d (.slice 0 _),.func g' [] []],H,_=>if g' =g then J (.tuple [],H) else K
 |_,_,_=>K
def BW:List c8->q6->I7->Option (c8×q6)
 |[.map id],H,_=>match H[id]? with
  |some (.map es)=>match vg es with
   |some ks=>if O ks<=1000000 then J (.own 2 (O ks) (ff (sortP ks)),H) else K
   |none=>K
  |_=>K
 |_,_,_=>K
def aB6:List c8->q6->I7->Option (c8×q6)
 |[x],H,_=>match rowOf 5 H x with
  |some (n,cs)=>match qS cs with
   |some fs=>if n=O fs/\n<=1000000 then J (.own 5 (O fs) ((fs.map A3.rev).reverse.flatMap A3.enc),H) else K
   |none=>K
  |none=>K
 |_,_,_=>K
def ze:List c8->q6->I7->Option (c8×q6)
 |[.d (.slice 0 _)],H,_=>J (.d (.slice 0 []),H)
 |as,H,l=>oc as H l
def Rc:List c8->Bool
 |[]=>W
 | .d _::r=>Rc r
 |_::_=>F
theorem Lj:∀l:List Data,Rc (l.map .d)=W
 |[]=>rfl
 |_::l=>Lj l
theorem yo (k:Nat):∀l:List c8,Rc l=W->K6 k l=l
 |[],_=>rfl
 | .d x::l,h=>by rw [K6,yo k l h];simp [c8.kill]
 | .ptr .. ::_,h=>by cases h
 | .B8 .. ::_,h=>by cases h
 | .U9 .. ::_,h=>by cases h
 | .map .. ::_,h=>by cases h
 | .agg .. ::_,h=>by cases h
 | .tuple .. ::_,h=>by cases h
 | .own .. ::_,h=>by cases h
 | .func .. ::_,h=>by cases h
 | .P9::_,h=>by cases h
 | .any::_,h=>by cases h
def pCl:List c8->q6->I7->Option (c8×q6)
 |[.d (.slice 0 [])],H,_=>J (.d (.slice 0 []),H)
 |[.d (.slice (n+1) cs)],[.cells a,.cells b],⟨0,0,0,0⟩=>if O cs=(n+1) * 5/\n<1000000/\Rc a=W/\Rc b=W then J (.B8 2 5 0 (n+1),[.cells a,.cells b,.cells (cs.map .d)]) else K
 |_,_,_=>K
end Go.A1
namespace Go.A1.S
section
variable {A:Prog} {l:I7} {b:Nat} {dr:Bool}
variable {l5 ops:List p7} {T:List c8} {H:q6} {n:Nat} {rl:List c8} {o9:List Touch} {Q:List c8->q6->List c8->Prop}
def lqo {x:y7}{m id o:Nat}{cs:List c8}{u:List Nat}(h2:Ry A l b dr l5 ops T H (n+1) (.agg cs::rl) o9 Q)(hx:rq T n rl x= .ptr id o:=by rfl)(hr:rd H id o m=J cs:=by rfl)(hv:cs.map c8.K7=cs:=by rfl) :
  Ry A l b dr l5 (⟨.load (J m) x,K,K,u⟩::ops) T H n rl o9 Q:=Ry.pure (rs:=[id]) rfl (by simp_all [o7]) h2
def mkm {u:List Nat}{id:Nat}{H2:q6}(hi:O H=id:=by simp only [List.length_cons,List.length_nil,Nat.reduceAdd]<;>rfl)(hH:H++[.map []]=H2:=by simp only [List.cons_append,List.nil_append]<;>rfl)
  (h2:Ry A l b F l5 ops T H2 (n+1) (.map id::rl) o9 Q):Ry A l b F l5 (⟨.makeMap,K,K,u⟩::ops) T H n rl o9 Q:=λhn=>by
 have h2:=h2.to hn;refine Rx.stepT (N1:=0) (rs:=[]) rfl (λn _=>?_) h2;simp_all [z6,y8,E1,x9.D6,F9,N7,newId,put,u9,F2]
end
end Go.A1.S
namespace Go.A1
section
variable {A:Prog} {l:I7} {b:Nat}
variable {l5 ops:List p7} {T:List c8} {H:q6} {n:Nat} {rl:List c8} {o9:List Touch} {na nb:Nat} {Q:List c8->q6->List c8->Prop}
namespace S
end S
end
section
variable {A:Prog} {l:I7} {b:Nat}
variable {l5 ops:List p7} {T:List c8} {H:q6} {n:Nat} {rl:List c8} {o9:List Touch} {na nb:Nat} {Q:List c8->q6->List c8->Prop}
namespace S
section
variable {dr:Bool}
def ixo {x y:y7}{u:List Nat}{sz id lo len:Nat}{k:IntKind}{e:Int}(h0:0<=e/\e<len)(h2:Ry A l b dr l5 ops T H (n+1) (.ptr id (lo+e.toNat * sz)::rl) o9 Q)(hx:rq T n rl x= .B8 id sz lo len:=by rfl)(hy:rq T n rl y= .d (.int k e):=by rfl) :
  Ry A l b dr l5 (⟨.O4 sz x y,K,K,u⟩::ops) T H n rl o9 Q:=Ry.pure (rs:=[]) rfl (by simp_all [o7,and_self,if_true]) h2
def lpx {x:y7}{id o:Nat}{v:c8}{u:List Nat}(hr:rd H id o 1=J [v])(hv:v.K7=v)(h2:Ry A l b dr l5 ops T H (n+1) (v::rl) o9 Q)(hx:rq T n rl x= .ptr id o:=by rfl) :
  Ry A l b dr l5 (⟨.load K x,K,K,u⟩::ops) T H n rl o9 Q:=Ry.pure (rs:=[id]) rfl (by simp_all [o7]) h2
def sox {id off:Nat}{x y:y7}{u:List Nat}{v:c8}{H2:q6}(hw:wr H id off [v]=J H2)(hd:F3 (vW l5) n=W:=by rfl)(hy:rq T n rl y= .ptr id off:=by rfl)(hx:Oq T n rl x v:=by exact ⟨rfl,rfl⟩)(hc:v.cells? =J [v]:=by rfl)(hl:l.may id=W:=by rfl)(hb:v.L7<=id+1:=by exact Nat.zero_le _)
  (h2:Ry A l b dr l5 ops T H2 (n+1) (.any::rl) (.obj id::o9) Q):Ry A l b dr l5 (⟨.store 1 y x,K,K,u⟩::ops) T H n rl o9 Q :=
 EF hd hy hx hc rfl hl (by simp_all [C5]) hw h2
end
end S
def iv (n:Int):c8:= .d (Z n)
end
section
variable {A:Prog} {l:I7} {b:Nat}
theorem Ex.fz {s:Nat}{st st' :St}{Q:I6->St->Prop}(h:pE l b s st=J st')(h2:Q .normal st'):Ex A l b (.fz s) st Q:=⟨_,_,0,h2,λn _=>by
 simp_all [pE,M0,exec]⟩
def JG {lim:I7}{s z n:Nat}{xs:List Data}{T:List c8}{H:q6}(hT:T[s]? =J (.own z n xs))(h0:n≠0)(hb:lim.base=0)(hs:lim.strict=0)(hf:xs.all Data.flat=W) :
  pE lim 0 s ⟨T,H⟩=J ⟨(T8 T).set s (.B8 (O H) z 0 n),H.map y6.forget++[.cells (xs.map .d)]⟩:=by
 simp_all [pE,wG,NY,if_false,and_self,if_true]
def SJ {T:List c8}(hT:T[1000]? =K:=by rfl):pE W8 0 1000 ⟨T,[]⟩=J ⟨T,[.dead]⟩:=by
 simp only [pE,wG,hT,NY,W8,and_self,if_true,List.nil_append]
def LX {lim:I7}{s z:Nat}{xs:List Data}{T:List c8}{H:q6}(hT:T[s]? =J (.own z 0 xs)):pE lim 0 s ⟨T,H⟩=J ⟨T,H⟩:=by
 simp_all [pE,wG,NY]
def aw7 {lim:I7}{s z n p:Nat}{xs:List Data}{T:List c8}{H:q6}(hT:T[s]? =J (.ptr p 0))(hH:H[p]? =J (.cells [.own z n xs]))(h0:n≠0)(hb:lim.base=0)(hs:lim.strict=0)(hf:xs.all Data.flat=W) :
  pE lim 0 s ⟨T,H⟩=J ⟨T8 T,(H.map y6.forget).set p (.cells [.B8 (O H) z 0 n])++[.cells (xs.map .d)]⟩:=by
 simp_all [pE,wG,fN,NY,Ar,if_false,and_self,if_true,T8,c8.forget,List.set_cons_zero]
def Zj {lim:I7}{s z p:Nat}{xs:List Data}{T:List c8}{H:q6}(hT:T[s]? =J (.ptr p 0))(hH:H[p]? =J (.cells [.own z 0 xs])):pE lim 0 s ⟨T,H⟩=J ⟨T,H⟩:=by
 simp_all [pE,wG,fN,NY,Ar,if_true]
def wE {α:Type}{enc:α->List Data}(h:∀a,(enc a).all Data.flat=W):∀l:List α,(l.flatMap enc).all Data.flat=W
 |[]=>rfl
 |a::l=>by grind
end
namespace S
section
variable {A:Prog} {l:I7} {b:Nat} {dr:Bool} {l5 ops:List p7} {T:List c8} {H:q6} {n:Nat} {rl:List c8} {o9:List Touch} {Q:List c8->q6->List c8->Prop}
def bt0:∀cs:List Data,(cs.map c8.d).all c8.one=W
 |[]=>rfl
 |c::cs=>by
  simp_all [K0,List.all_cons,c8.one,Bool.and_self]
def oN {α:Type}{enc:α->List Data}(a:α){sz:Nat}{zero:List c8}{x:y7}{u:List Nat}(h2:Ry A l b dr l5 ops T H (n+1) (.own sz 1 (enc a)::rl) o9 Q)(hx:rq T n rl x= .agg ((enc a).map .d):=by rfl)(hc:O (enc a)=sz:=by rfl)(hz:O zero=sz:=by rfl)(h0:F3 1 sz=W:=by rfl) :
  Ry A l b dr l5 (⟨.H6 sz 1 zero [(0,sz,x)] F,K,K,u⟩::ops) T H n rl o9 Q:=by
 have h0' :=j9 h0;have h1:cS zero [(0,sz,c8.agg ((enc a).map .d))]=J ((enc a).map .d):=by
  simp only [cS,c8.cells?,bt0,splice,List.take_zero];simp_all
 refine Ry.pure (rs:=[]) rfl ?_ h2;simp [o7,K0,List.map_nil,hx,h1,cF,and_true]
 grind
def msv {s:Nat}{w:c8}{x:Data}{u:List Nat}(hw:w= .d x\/∃z,w= .own z 0 []/\x= .slice 0 [])(h2:Ry A l b dr l5 ops T H (n+1) (.d x::rl) o9 Q)(hT:T[s]? =J w:=by rfl) :
  Ry A l b dr l5 (⟨.Q5 (.slot s),K,K,u⟩::ops) T H n rl o9 Q:=by
 rcases hw with rfl|⟨z,rfl,rfl⟩
 .exact mv h2 ⟨hT,rfl⟩
 grind [mo]
def Bv {f:FuncId}{xs:List y7}{u:List Nat}{v:c8}{args:List c8}(hc:Pf A f args v)(h2:Ry A l b dr l5 ops T H (n+1) (v::rl) (.below 0::o9) Q)(ha:xs.map (rq T n rl)=args:=by rfl)(hb:C5 args=0:=by rfl)(jG:A.prom f=F:=by rfl)(hm:A.mode f=0:=by rfl)
  (pH:(⟨l.XU,l.XT,0,E9 H l.strict 0⟩:I7)=W8:=by rfl):Ry A l b dr l5 (⟨.call f xs,K,K,u⟩::ops) T H n rl o9 Q:=λhn=>by
 obtain ⟨i5,hc⟩:=hc;have h3:∀k,i5<=k->D5 (M0 A k l b) (O rl.reverse) f args ⟨T,H,rl.reverse++ .any::List.replicate (O ops) .any,o9⟩=J (put ⟨T,[]++H.drop 0,rl.reverse++ .any::List.replicate (O ops) .any,.below 0::o9⟩ (O rl.reverse) v):=λk hk =>
  ny (m:=0) (l2:=W8) jG hm (by simp_all [G6]) (Nat.zero_le _) (by simp_all [P0]) pH (by exact hc k hk) rfl
 refine Rx.step (N1:=i5) (rs:=[]) rfl rfl (λk hk=>?_) (λrs=>?_) (h2.to hn)
 all_goals simp_all [z6,y8,E1,x9.D6,if_true,F9,gJ,u9,F2,put,L6,List.drop_zero,List.nil_append,J2,Touch.L5]
def bk8 {f:FuncId}{x:y7}{xs:List y7}{first caps:List c8}{u:List Nat}{v:c8}{args:List c8}(hc:Pf A f args v)(h2:Ry A l b dr l5 ops T H (n+1) (v::rl) (.below 0::o9) Q)(hx:rq T n rl x= .func f first caps:=by rfl)(ha:first++xs.map (rq T n rl)++caps=args:=by rfl)(hb:C5 args=0:=by rfl)(jG:A.prom f=F:=by rfl)(hm:A.mode f=0:=by rfl)
  (pH:(⟨l.XU,l.XT,0,E9 H l.strict 0⟩:I7)=W8:=by rfl):Ry A l b dr l5 (⟨.bC x xs,K,K,u⟩::ops) T H n rl o9 Q:=λhn=>by
 obtain ⟨i5,hc⟩:=hc;have h3:∀k,i5<=k->D5 (M0 A k l b) (O rl.reverse) f args ⟨T,H,rl.reverse++ .any::List.replicate (O ops) .any,o9⟩=J (put ⟨T,[]++H.drop 0,rl.reverse++ .any::List.replicate (O ops) .any,.below 0::o9⟩ (O rl.reverse) v):=λk hk =>
  ny (m:=0) (l2:=W8) jG hm (by simp_all [G6]) (Nat.zero_le _) (by simp_all [P0]) pH (by exact hc k hk) rfl
 refine Rx.step (N1:=i5) (rs:=[]) rfl rfl (λk hk=>?_) (λrs=>?_) (h2.to hn)
 all_goals simp_all [z6,y8,E1,x9.D6,if_true,F9,Z0,gJ,u9,F2,put,L6,List.drop_zero,List.nil_append,J2,Touch.L5]
def bR6 {f:FuncId}{xs:List y7}{u:List Nat}{z n0:Nat}{cs:List Data}{args:List c8}{s:Nat}{T2:List c8}(hc:Pf A f args (.own z n0 cs))(ha:xs.map (rq T n rl)=args:=by rfl)(jG:A.prom f=F:=by rfl)(hm:A.mode f=1:=by rfl)
  (hb:C5 args=0:=by rfl) (hs:T[s]?.isSome=W:=by rfl) (hT:T.set s (.own z n0 cs)=T2:=by simp only [List.set_cons_zero,List.set_cons_succ]<;>rfl)
  (h2:Ry A l b dr l5 ops T2 H (n+1) (.d (.slice n0 cs)::rl) (.slot s::o9) Q):Ry A l b dr l5 (⟨.call f xs,J s,K,u⟩::ops) T H n rl o9 Q:=λhn=>by
 obtain ⟨i5,hc⟩:=hc;have hs:s<O T:=by
  simp_all
 have h2:=h2.to hn;refine Rx.step (N1:=i5) (rs:=[]) rfl rfl (λk hk=>?_) (fP s o9) h2;have h3:D5 (M0 A k l b) (O rl.reverse) f args ⟨T,H,rl.reverse++ .any::List.replicate (O ops) .any,o9⟩=J (put ⟨T,H,rl.reverse++ .any::List.replicate (O ops) .any,o9⟩ (O rl.reverse) (.own z n0 cs)) :=
  iU jG hm hb (hc k hk)
 have ha' :xs.map (A1.K4 T (rl.reverse++ .any::List.replicate (O ops) .any))=args:=by
  rw [show A1.K4 T (rl.reverse++ .any::List.replicate (O ops) .any)=rq T n rl from funext λx=>Z0 hn _ x];exact ha
 have h5:A1.E7 ⟨T,H,rl.reverse++ .own z n0 cs::List.replicate (O ops) .any,o9⟩ (.loc (O rl.reverse))=(.own z n0 cs,⟨T,H,rl.reverse++ .d (.slice n0 cs)::List.replicate (O ops) .any,o9⟩):=by
  simp_all [A1.E7]
 simp_all [z6,y8,E1,x9.D6,if_true,F9,u9,F2,put,L6]
def cb0 {k:Nat}{cs:List Data}{x:y7}{u:List Nat}{s:Nat}{T2:List c8}(hx:rq T n rl x= .d (.slice k cs):=by rfl)(hs:T[s]?.isSome=W:=by rfl)(hT:T.set s (.d (.int .i64 k))=T2:=by simp only [List.set_cons_zero,List.set_cons_succ]<;>rfl)
  (h2:Ry A l b dr l5 ops T2 H (n+1) (.d (.int .i64 k)::rl) (.slot s::o9) Q):Ry A l b dr l5 (⟨.len x,J s,K,u⟩::ops) T H n rl o9 Q :=
 Ry.zi (v:= .d (.int .i64 k)) (rs:=[]) rfl (by grind [o7,i64]) rfl rfl hs M
def Yr {sz len:Nat}{zero:List c8}{parts:List (Nat×Nat×y7)}(cs:List Data){u:List Nat}(h2:Ry A l b dr l5 ops T H (n+1) (.own sz len cs::rl) o9 Q)(hr:cS zero (parts.map λp=>(p.1,p.2.1,rq T n rl p.2.2))=J (cs.map .d):=by rfl)(hl:O cs=len * sz:=by rfl)(h0:F3 1 sz=W:=by rfl) :
  Ry A l b dr l5 (⟨.H6 sz len zero parts F,K,K,u⟩::ops) T H n rl o9 Q:=by
 have h0' :=j9 h0;refine Ry.pure (rs:=[]) rfl ?_ h2;have hr' :cS zero (parts.map λx=>match x with|(o,s,x)=>(o,s,rq T n rl x))=J (cs.map .d):=hr;simp [o7,hr',cF,hl]
 grind
def owS {j s d z n0 n' :Nat}{cs cs' :List Data}{u u' :List Nat}{d' :Option Nat}{g' :Option (Nat×Bool)}{T2:List c8}(h2:Ry A l b dr l5 ops T2 H (n+1) (.d (.slice n0 cs)::rl) (.slot d:: .slot s::o9) Q)
  (hj:lk n rl j=J (.d (.slice n' cs')):=by rfl) (ha:l5[j]? =J ⟨.Q5 (.slot s),d',g',u'⟩:=by rfl) (ht:o9.any (Touch.V5 s)=F:=by rfl) (hT:T[s]? =J (.own z n0 cs):=by rfl)
  (hs:T[d]?.isSome=W:=by rfl) (hT2:(T.set s (.d (.slice n0 cs))).set d (.own z n0 cs)=T2:=by simp only [List.set_cons_zero,List.set_cons_succ]<;>rfl) :
  Ry A l b dr l5 (⟨.own z (.loc j),J d,K,u⟩::ops) T H n rl o9 Q:=λhn=>by
 have hj' :rl.reverse[j]? =J (.d (.slice n' cs')):=by simp_all [jI]
 have hjl:j<O rl.reverse:=by
  grind
 have hs' :d<O (T.set s (.d (.slice n0 cs))):=by
  simp_all
 have hL:∀r:List c8,(rl.reverse++ .any::r)[j]? =J (.d (.slice n' cs')):=λr=>by grind
 have h2:=h2.to hn;rw [<- hT2] at h2;refine Rx.step (N1:=0) (rs:=[]) rfl rfl (λk _=>?_) (λrs=>?_) h2
 .have h5:A1.E7 ⟨T.set s (.d (.slice n0 cs)),H,rl.reverse++ .own z n0 cs::List.replicate (O ops) .any,.slot s::o9⟩ (.loc (O rl.reverse))=(.own z n0 cs,⟨T.set s (.d (.slice n0 cs)),H,rl.reverse++ .d (.slice n0 cs)::List.replicate (O ops) .any,.slot s::o9⟩):=by
   simp_all [A1.E7]
  simp only [z6,y8,E1,x9.D6,if_true,F9,R8,hL,ha,Z3,ht,hT,j4,if_false,put,L6,u9,F2,hs',h5]
 .have:O o9+1+1 - O o9=2:=V
  simp [J2,this,Touch.L5]
def moT {s d z n0:Nat}{cs:List Data}{u:List Nat}{T2:List c8}(hx:T[s]? =J (.own z n0 cs):=by rfl)(hs:T[d]?.isSome=W:=by rfl)(hT:T.set d (.d (.slice n0 cs))=T2:=by simp only [List.set_cons_zero,List.set_cons_succ]<;>rfl)
  (h2:Ry A l b dr l5 ops T2 H (n+1) (.d (.slice n0 cs)::rl) (.slot d::o9) Q):Ry A l b dr l5 (⟨.Q5 (.slot s),J d,K,u⟩::ops) T H n rl o9 Q:=λhn=>by
 have hs' :d<O T:=by
  simp_all
 have h2:=h2.to hn;refine Rx.step (N1:=0) (rs:=[]) rfl rfl (λk _=>?_) (fP d o9) h2;have e1:∀r,A1.E7 ⟨T,H,r,o9⟩ (.slot s)=(.d (.slice n0 cs),⟨T,H,r,o9⟩):=λr=>by simp [A1.E7,A1.K4,hx,c8.K7]
 have h5:A1.E7 ⟨T,H,rl.reverse++ .d (.slice n0 cs)::List.replicate (O ops) .any,o9⟩ (.loc (O rl.reverse))=(.d (.slice n0 cs),⟨T,H,rl.reverse++ .d (.slice n0 cs)::List.replicate (O ops) .any,o9⟩):=by
  simp_all [A1.E7,A1.K4,c8.K7]
 simp_all [z6,y8,E1,x9.D6,j4,if_false,put,L6,u9,F2,if_true]
def acN {α:Type}{enc:α->List Data}{xs:List α}(a:α){j k sz bytes id off:Nat}{y:y7}{u u' :List Nat}{d' :Option Nat}{g' :Option (Nat×Bool)}{n' :Nat}{cs' :List Data}{old new:List c8}{H2:q6}
  (hr:roomFor (O xs+1) bytes=W) (hy:rq T n rl y= .d (.slice 1 (enc a)):=by rfl) (hs:O (enc a)=1 * sz:=by rfl) (h0:F3 1 sz=W:=by rfl) (hj:lk n rl j=J (.d (.slice n' cs')):=by rfl) (ha:l5[j]? =J ⟨.load K (.loc k),d',g',u'⟩:=by rfl) (hk:lk n rl k=J (.ptr id off):=by rfl) (ht:o9.any (Touch.dD id off)=F:=by rfl) (hl:l.may id=W:=by rfl) (ho:H[id]? =J (.cells old):=by rfl) (hc:old[off]? =J (D9 sz enc xs):=by rfl)
  (hN:old.set off (.d (C6 enc xs))=new:=by rfl) (hH:H.set id (.cells new)=H2:=by simp only [List.set_cons_zero,List.set_cons_succ]<;>rfl)
  (h2:Ry A l b dr l5 ops T H2 (n+1) (D9 sz enc (xs++[a])::rl) (.cell id off::o9) Q):Ry A l b dr l5 (⟨.append sz bytes F (.loc j) y,K,K,u⟩::ops) T H n rl o9 Q :=
 Ry.aR3 hj ha hk ht hl ho hc hy hs hr (j9 h0) (by
  have e1:D9 sz enc (xs++[a])= .own sz (O xs+1) (xs.flatMap enc++enc a):=by simp [D9]
  rw [e1] at h2;subst hH hN;exact h2)
end
end S
section
variable {A:Prog} {l:I7} {b:Nat} {T:List c8} {H:q6}
def Ex.T9 {mask:List Bool}{body:q7}{R:I6->St->Prop}(Inv:Nat->List c8->q6->Prop)
  (hb:∀k T' H',Inv k T' H' ->Ex A l b body ⟨T',H'⟩ (yM R λs=>∃k',k' <k/\Inv k' (V4 mask s.T) s.H)) {k:Nat} (h:Inv k (V4 mask T) H)
  (hl:∀k T' H',Inv k T' H' ->O H'=O H:=by simp only [forall_exists_index,and_imp];intros;subst_vars;rfl):Ex A l b (.loop mask body) ⟨T,H⟩ R:=by
 refine Ex.loop (λk s=>Inv k (V4 mask s.T) s.H) (λk s hs=>?_) (k:=k) h;obtain ⟨T',H'⟩:=s;rw [yB (hl k _ H' hs)];exact hb k _ H' hs
def Ex.aY {mask:List Bool}{body:q7}{R:I6->St->Prop}(Inv:Nat->List c8->q6->Prop)
  (hb:∀k T' H',Inv k T' H' ->Ex A l b body ⟨V4 mask T',H'⟩ (yM R λs=>∃k',k' <k/\Inv k' s.T s.H)) {k:Nat} (h:Inv k T H)
  (hl:∀k T' H',Inv k T' H' ->O H'=O H:=by simp only [forall_exists_index,and_imp];intros;subst_vars;rfl):Ex A l b (.loop mask body) ⟨T,H⟩ R:=Ex.ru Inv hl hb h
def Pf.go {f:FuncId}{af:q9}{args:List c8}{v:c8}{T:List c8}(n:Nat)(h:Ex A W8 0 af.body ⟨T,[]⟩ λx s=>∃w,ep af 0 (J (x,s))=J (w,[])/\w=v)
  (hf:A.fn f=J af:=by rfl) (hp:A.cM f=K:=by rfl) (hn:O args=af.nparams:=by rfl)
  (hT:args++List.replicate n .any=T:=by simp only [List.replicate,List.cons_append,List.nil_append]<;>rfl) (hN:O af.names - O args=n:=by rfl):Pf A f args v :=
 Pf.run T hp hf hn (by rw [hN];exact hT) h
def Pf.gr {f:FuncId}{af:q9}{args:List c8}{v:c8}{T:List c8}{Δ:Prop}(n:Nat)(k:Δ)
  (hf:A.fn f=J af:=by rfl) (hp:A.cM f=K:=by rfl) (hn:O args=af.nparams:=by rfl)
  (hT:args++List.replicate n .any=T:=by simp only [List.replicate,List.cons_append,List.nil_append]<;>rfl) (hN:O af.names - O args=n:=by rfl)
  (h:PLift Δ->Ex A W8 0 af.body ⟨T,[]⟩ λx s=>∃w,ep af 0 (J (x,s))=J (w,[])/\w=v:=by intro d5;(repeat' (first|refine gx ?_|fail));exact d5.down):Pf A f args v :=
 Pf.go n (h ⟨k⟩) hf hp hn hT hN
def kk {P:Nat->Prop}{k:Nat}(h:P (k - 1))(hk:k - 1<k:=by omega):∃k',k' <k/\P k' :=⟨_,hk,h⟩
def Pq.go {f:FuncId}{af:q9}{args:List c8}{H:q6}{Post:c8->q6->Prop}{T:List c8}(n:Nat)(h:Ex A l b af.body ⟨T,H⟩ λx s=>∃w H1,ep af b (J (x,s))=J (w,H1)/\Post w H1)
  (hf:A.fn f=J af:=by rfl) (hp:A.cM f=K:=by rfl) (hn:O args=af.nparams:=by rfl) (hb:O H=b:=by rfl)
  (hT:args++List.replicate n .any=T:=by simp only [List.replicate,List.cons_append,List.nil_append]<;>rfl) (hN:O af.names - O args=n:=by rfl):Pq A f args H l Post :=
 Pq.run T hp hf hn hb (by rw [hN];exact hT) h
end
namespace S
def gy {Γ Δ:Prop}(k:Δ)(h:PLift Δ->Γ:=by intro d5;(first|refine gx ?_|refine Ex.bk7 ?_|refine Ex.cl3 ?_|refine Ex.test (Rn.text ?_)|refine Ex.test (Rn.draw ?_)|fail);exact d5.down):Γ:=h ⟨k⟩
def fq {Γ Δ E p q:Prop}(k:p->Δ)(m:q->E)(h:PLift (p->Δ)->PLift (q->E)->Γ:=by intro d5 L;first|exact fk (h1:=d5.down) (h2:=L.down)|exact fpk (h1:=d5.down) (h2:=L.down)|exact Ex.cond rfl d5.down L.down|exact ⟨_,rfl,d5.down,L.down⟩):Γ:=h ⟨k⟩ ⟨m⟩
def ft {Γ Δ E p q:Prop}(k:p->Δ)(m:q->E)(h:PLift (p->Δ)->PLift (q->E)->Γ:=by intro d5 L;first|exact Ex.cond rfl d5.down L.down|exact ⟨_,rfl,d5.down,L.down⟩):Γ:=h ⟨k⟩ ⟨m⟩
def gc {P Γ Δ:Prop}(p:P)(k:Δ)(h:PLift P->PLift Δ->Γ:=by intro p d5;(repeat' (first|refine cl (p.down ..) ?_|refine Bv (p.down ..) ?_|refine cl (p.down.1 ..) ?_|refine cl (p.down.2 ..) ?_|refine Bv (p.down.1 ..) ?_|refine Bv (p.down.2 ..) ?_|refine cl (p.down.2.1 ..) ?_|refine cl (p.down.2.2 ..) ?_|refine Bv (p.down.2.1 ..) ?_|refine Bv (p.down.2.2 ..) ?_|refine gx ?_|fail));exact d5.down):Γ:=h ⟨p⟩ ⟨k⟩
section
variable {A:Prog} {l:I7} {b:Nat}
def tc {P:Prop}{ops:List p7}{draw:Bool}{c:y7}{d e:q7}{T:List c8}{H:q6}{Q:I6->St->Prop}(t:Bool)(p:P)(h2:t=W->Ex A l b d ⟨T,H⟩ Q)(h3:t=F->Ex A l b e ⟨T,H⟩ Q)
  (h:PLift P->Rn A l b ops draw T H λT' H' L=>T' =T/\H' =H/\∃t',K4 T' L c= .d (.bool t')/\t' =t:=by intro p;(first|refine Rn.text ?_|refine Rn.draw ?_|fail);(repeat' (first|refine cl (p.down ..) ?_|refine Bv (p.down ..) ?_|refine cl (p.down.1 ..) ?_|refine cl (p.down.2 ..) ?_|refine Bv (p.down.1 ..) ?_|refine Bv (p.down.2 ..) ?_|refine cl (p.down.2.1 ..) ?_|refine cl (p.down.2.2 ..) ?_|refine Bv (p.down.2.1 ..) ?_|refine Bv (p.down.2.2 ..) ?_|refine gx ?_|refine fk (h1:=λhw=>?_) (h2:=λhw=>?_)|refine fpk (h1:=λhw=>?_) (h2:=λhw=>?_)|refine ⟨rfl,rfl,_,rfl,?_⟩|refine ⟨rfl,rfl⟩|fail));all_goals exact cc) :
  Ex A l b (.test ops draw c d e) ⟨T,H⟩ Q:=Ex.NX t (h ⟨p⟩) h2 h3
def tl {ops:List p7}{draw:Bool}{c:y7}{d e:q7}{T:List c8}{H:q6}{Q:I6->St->Prop}(x y:Int)(h2:x<y->Ex A l b d ⟨T,H⟩ Q)(h3:y<=x->Ex A l b e ⟨T,H⟩ Q)
  (h:Rn A l b ops draw T H λT' H' L=>T' =T/\H' =H/\∃t',K4 T' L c= .d (.bool t')/\t' =F6 x y:=by (first|refine Rn.text ?_|refine Rn.draw ?_|fail);(repeat' (first|refine gx ?_|refine fk (h1:=λhw=>?_) (h2:=λhw=>?_)|refine fpk (h1:=λhw=>?_) (h2:=λhw=>?_)|refine ⟨rfl,rfl,_,rfl,?_⟩|refine ⟨rfl,rfl⟩|fail));all_goals exact cc) :
  Ex A l b (.test ops draw c d e) ⟨T,H⟩ Q:=Ex.NX (F6 x y) h (λh=>h2 (C4 h)) λh=>h3 (B5 h)
end
end S
def qD (op:Int):Int :=
 if u7 op 1||u7 op 2 then 0 else if u7 op 3||u7 op 9||u7 op 13||u7 op 16 then 1 else if u7 op 18 then 3 else if cg 1 op&&cg op 18 then 2 else -1
def jL (k n:Int)(s:M3):Bool :=
 if u7 k 0 then u7 n 0&&P8 s [] else if u7 k 1 then cg (-4294967296) n&&cg n 4294967296&&P8 s [] else if u7 k 2 then u7 n 0&&cg (O s) 32 else F
def zeroV (t:Y8):Bool:=u7 t.kind 0&&u7 t.int 0&&P8 t.text []
def fc (t:Y8):Bool :=
 if u7 t.op 1 then jL t.kind t.int t.text&& !u7 t.kind 0&&u7 t.col 0 else if u7 t.op 2 then zeroV t&&cg 0 t.col else zeroV t&&u7 t.col 0
def BV (t:Y8):Bool:= !F6 (qD t.op) 0&&fc t
def sW (op:Int):qD op<=3:=by
 grind [qD]
inductive bS where
 |node (t:Y8) (l:List bS)
mutual
def bS.flat:bS->List Y8
 | .node t l=>t::P6 l
def P6:List bS->List Y8
 |[]=>[]
 |a::l=>a.flat++P6 l
end
mutual
def bS.dep:bS->Nat
 | .node _ l=>oU l+1
def oU:List bS->Nat
 |[]=>0
 |a::l=>max a.dep (oU l)
end
mutual
def bS.wf:bS->Prop
 | .node t l=>BV t=W/\(qD t.op).toNat=O l/\wfL l
def wfL:List bS->Prop
 |[]=>True
 |a::l=>a.wf/\wfL l
end
def gD (f:List Y8->Option (bS×List Y8)):Nat->List Y8->Option (List bS×List Y8)
 |0,r=>J ([],r)
 |k+1,r=>match f r with
  |none=>K
  |some (a,r')=>match gD f k r' with
   |none=>K
   |some (l,r2)=>J (a::l,r2)
def Q2:Nat->List Y8->Option (bS×List Y8)
 |0,_=>K
 |_+1,[]=>K
 |d+1,t::r=>if BV t then match gD (Q2 d) (qD t.op).toNat r with
   |none=>K
   |some (l,r')=>J (.node t l,r')
  else K
theorem Dy {f:List Y8->Option (bS×List Y8)}{d:Nat}(hf:∀r a r',f r=J (a,r')->r=a.flat++r' /\a.wf/\a.dep<=d):∀(k:Nat) (r:List Y8) (l:List bS) (r' :List Y8),gD f k r=J (l,r')->r=P6 l++r' /\wfL l/\oU l<=d/\O l=k
 |0,r,l,r',h=>by
  simp_all [gD,Option.some.injEq,Prod.mk.injEq,P6,wfL,oU]
 |k+1,r,l,r',h=>by
  simp [gD] at h;split at h
  .cases h
  next a r1 h1=>
   split at h
   .cases h
   next l2 r2 h2=>
    obtain ⟨rfl,rfl⟩:=h;obtain ⟨e1,e2,e3⟩:=hf _ _ _ h1;obtain ⟨g1,g2,g3,g4⟩:=Dy hf k _ _ _ h2;refine ⟨?_,⟨e2,g2⟩,?_,by simp [g4]⟩
    all_goals grind [P6,oU]
theorem V9:∀(d:Nat) (r:List Y8) (a:bS) (r' :List Y8),Q2 d r=J (a,r')->r=a.flat++r' /\a.wf/\a.dep<=d
 |0,r,a,r',h=>by simp [Q2] at h
 |d+1,[],a,r',h=>by simp [Q2] at h
 |d+1,t::r,a,r',h=>by
  simp only [Q2] at h;split at h
  next ht=>
   split at h
   .cases h
   next l r1 h1=>
    obtain ⟨rfl,rfl⟩:=h;obtain ⟨g1,g2,g3,g4⟩:=Dy (V9 d) _ _ _ _ h1;refine ⟨?_,⟨ht,g4.symm,g2⟩,?_⟩
    all_goals simp_all [bS.flat,bS.dep]
  .cases h
mutual
theorem aA:∀(a:bS) (d:Nat) (r:List Y8),a.wf->a.dep<=d->Q2 d (a.flat++r)=J (a,r)
 | .node t l,0,r,_,h=>by simp [bS.dep] at h
 | .node t l,d+1,r,hw,h=>by
  simp [bS.dep] at h;obtain ⟨h1,h2,h3⟩:=hw;have h4:=tZ l d r h3 V;simp_all [bS.flat,List.cons_append,Q2,if_true]
theorem tZ:∀(l:List bS) (d:Nat) (r:List Y8),wfL l->oU l<=d->gD (Q2 d) (O l) (P6 l++r)=J (l,r)
 |[],d,r,_,_=>by rfl
 |a::l,d,r,hw,h=>by
  simp [oU] at h;have h1:=aA a d (P6 l++r) hw.1 V;have h2:=tZ l d r hw.2 V;simp_all [P6,D3,List.length_cons,gD]
end
mutual
theorem qP:∀a:bS,a.dep<=O a.flat
 | .node t l=>by
  have:=GM l;simp_all [bS.dep,bS.flat,List.length_cons]
theorem GM:∀l:List bS,oU l<=O (P6 l)
 |[]=>by simp [oU]
 |a::l=>by
  have h1:=qP a;have h2:=GM l
  grind [oU,P6,List.length_append]
end
def kP (a:bS):0<O a.flat:=by
 cases a;simp [bS.flat]
theorem yK:∀l:List bS,O l<=O (P6 l)
 |[]=>U
 |a::l=>by
  have:=kP a;have:=yK l
  grind [P6,List.length_append,List.length_cons]
def Ka {d d' :Nat}{r:List Y8}(h:O r<=d)(h' :O r<=d'):Q2 d r=Q2 d' r:=by
 cases h1:Q2 d r with
 |some p =>
  obtain ⟨a,r'⟩:=p;obtain ⟨e,w,_⟩:=V9 d r a r' h1
  grind [qP,aA]
 |none =>
  cases h2:Q2 d' r with
  |none=>rfl
  |some p =>
   obtain ⟨a,r'⟩:=p;obtain ⟨e,w,_⟩:=V9 d' r a r' h2
   grind [qP,aA]
def jK (op:Int)(t:List Int):Int :=
 if u7 op 3||u7 op 13 then (if u7 (Y t 0) 1 then 1 else 0)
 else if u7 op 8 then (if u7 (Y t 0) 2&&u7 (Y t 1) 2 then 2 else 0)
 else if u7 op 9 then (if u7 (Y t 0) 2 then 1 else 0)
 else if u7 op 10 then (if u7 (Y t 0) 2&&u7 (Y t 1) 1 then 2 else 0)
 else if u7 op 11||u7 op 12 then (if u7 (Y t 0) (Y t 1) then 1 else 0)
 else if u7 op 16 then 1
 else if u7 op 17 then (if u7 (Y t 0) (Y t 1) then Y t 0 else 0)
 else if u7 op 18 then (if u7 (Y t 0) 1&&u7 (Y t 1) (Y t 2) then Y t 1 else 0)
 else (if u7 (Y t 0) 1&&u7 (Y t 1) 1 then 1 else 0)
def EN (ty:List Int)(t:Y8)(ts:List Int):Int×Int :=
 if u7 t.op 1 then (t.kind,0) else if u7 t.op 2 then (if cg (O ty) t.col then (0,3) else (Y ty t.col.toNat,0))
 else if u7 (jK t.op ts) 0 then (0,5) else (jK t.op ts,0)
mutual
def bS.typ (ty:List Int):bS->Int×Int
 | .node t l=>if u7 (jv ty l).2 0 then EN ty t (jv ty l).1 else (0,(jv ty l).2)
def jv (ty:List Int):List bS->List Int×Int
 |[]=>([],0)
 |a::l=>if u7 (a.typ ty).2 0 then ((a.typ ty).1::(jv ty l).1,(jv ty l).2) else ([],(a.typ ty).2)
end
def eu (ty:List Int):Bool:=ty.all λt=>u7 t 1||u7 t 2
def iP (e:List Y8):Option bS:=if cg 1 (O e)&&cg (O e) 64 then match Q2 16 e with
  |some (a,[])=>J a
  |_=>K
 else K
def O6 (e:List Y8)(ty:List Int):Int×Int:=match iP e with
 |none=>(0,1)
 |some a=>if eu ty then a.typ ty else (0,1)
def BU {α:Type} [Inhabited α] (i:Nat):Y ([]:List α) i=default:=by simp [Y]
def Kg (ty:List Int)(t:Y8)(a b c:Int):Int×Bool :=
 if u7 t.op 1 then (t.kind,W) else if u7 t.op 2 then (Y ty t.col.toNat,W)
 else if u7 t.op 3||u7 t.op 13 then (1,u7 a 1)
 else if u7 t.op 8 then (2,u7 a 2&&u7 b 2)
 else if u7 t.op 9 then (1,u7 a 2)
 else if u7 t.op 10 then (2,u7 a 2&&u7 b 1)
 else if u7 t.op 11||u7 t.op 12 then (1,u7 a b)
 else if u7 t.op 16 then (1,W)
 else if u7 t.op 17 then (a,u7 a b)
 else if u7 t.op 18 then (b,u7 a 1&&u7 b c)
 else (1,u7 a 1&&u7 b 1)
def good (x:Int):Prop:=x=1\/x=2
def MU {l:List Int}(h:∀x,x∈l->good x){i:Nat}(hn:Y l i≠0):good (Y l i):=by
 simp_all [Y]<;>grind
theorem QB {ty:List Int}(h:eu ty=W):∀x,x∈ty->good x:=by
 intro x hx;have:=M1.1 h x hx;simp_all [o8,good]
def Of {op:Int}{ts:List Int}(h:∀x,x∈ts->good x)(hn:jK op ts≠0):good (jK op ts):=by
 unfold jK at hn ⊢;split
 .rename_i h1;rw [if_pos h1] at hn;split at hn<;>simp_all [good]
 rename_i h1;rw [if_neg h1] at hn;split
 .rename_i h1;rw [if_pos h1] at hn;split at hn<;>simp_all [good]
 rename_i h1;rw [if_neg h1] at hn;split
 .rename_i h1;rw [if_pos h1] at hn;split at hn<;>simp_all [good]
 rename_i h1;rw [if_neg h1] at hn;split
 .rename_i h1;rw [if_pos h1] at hn;split at hn<;>simp_all [good]
 rename_i h1;rw [if_neg h1] at hn;split
 .rename_i h1;rw [if_pos h1] at hn;split at hn<;>simp_all [good]
 rename_i h1;rw [if_neg h1] at hn;split
 .exact Or.inl rfl
 rename_i h1;rw [if_neg h1] at hn;split
 .rename_i h1;rw [if_pos h1] at hn
  split at hn
  .rename_i h2;rw [if_pos h2];exact MU h hn
  .exact absurd rfl hn
 rename_i h1;rw [if_neg h1] at hn;split
 .rename_i h1;rw [if_pos h1] at hn
  split at hn
  .rename_i h2;rw [if_pos h2];exact MU h hn
  .exact absurd rfl hn
 rename_i h1;rw [if_neg h1] at hn;split at hn<;>simp_all [good]
mutual
theorem Oe {ty:List Int}(uZ:eu ty=W):∀a:bS,a.wf->u7 (a.typ ty).2 0=W->good (a.typ ty).1
 | .node t l,hw,h=>by
  obtain ⟨hok,har,Dv⟩:=hw;simp [bS.typ] at h ⊢;split
  .have hl:=zD uZ l Dv
   simp [EN] at h ⊢;split
   next h2=>
    simp [BV,fc,h2,if_true,Bool.and_eq_true] at hok;have h3:=hok.2.1.1;unfold jL at h3
    grind [good,eE]
   .split
    .split
     .simp_all [if_pos,o8]
     next h4=>
      have h5:=Am (Bool.not_eq_true _ ▸ h4);have h6:0<=t.col:=by
       simp_all [BV,fc,if_true,j4,if_false,Bool.and_eq_true,qo]
      grind [QB,N8]
    .split
     all_goals simp_all [if_pos,o8,Of]
  simp_all
theorem zD {ty:List Int}(uZ:eu ty=W):∀l:List bS,wfL l->∀x,x∈(jv ty l).1->good x
 |[],_,x,h=>by simp [jv] at h
 |a::l,hw,x,h=>by
  simp [jv] at h;split at h
  next h1=>
   rcases B6.1 h with rfl|h
   .exact Oe uZ a hw.1 h1
   .exact zD uZ l hw.2 x h
  .cases h
end
def aG1 {ty:List Int}{t:Y8}{ts:List Int}(hts:∀x,x∈ts->good x)(hc:u7 t.op 2=W->cg (O ty) t.col=F)
  (h17:u7 t.op 17=W->0<O ts) (h18:u7 t.op 18=W->1<O ts) :
  EN ty t ts=if (Kg ty t (Y ts 0) (Y ts 1) (Y ts 2)).2 then ((Kg ty t (Y ts 0) (Y ts 1) (Y ts 2)).1,0) else (0,5):=by
 unfold EN Kg;cases d1:u7 t.op 1 with
 |true=>rfl
 |false =>
 cases d2:u7 t.op 2 with
 |true=>simp_all
 |false =>
 have z1:u7 1 0=F:=by simp [o8]
 have z2:u7 2 0=F:=by simp [o8]
 have z0:u7 0 0=W:=by simp [o8]
 have sel:∀(b:Bool) (x:Int),(b=W->u7 x 0=F)->(if u7 (if b=W then x else 0) 0=W then ((0:Int),(5:Int)) else (if b=W then x else 0,0))=if b=W then (x,0) else (0,5):=by
  simp_all
 have gz:∀{i:Nat},i<O ts->u7 (Y ts i) 0=F:=λ{i} hi=>by
  grind [N8,good,o8]
 unfold jK;cases c1:(u7 t.op 3||u7 t.op 13) with
 |true=>grind
 |false =>
 cases c2:u7 t.op 8 with
 |true=>grind
 |false =>
 cases c3:u7 t.op 9 with
 |true=>grind
 |false =>
 cases c4:u7 t.op 10 with
 |true=>grind
 |false =>
 cases c5:(u7 t.op 11||u7 t.op 12) with
 |true=>grind
 |false =>
 cases c6:u7 t.op 16 with
 |true=>simp [z1]
 |false =>
 grind
open List
theorem iu (a b:C7):wm a b<0↔a.1<b.1\/(a.1=b.1/\a.2<b.2):=by
 grind [wm,mN]
theorem Ti (a b:C7):(!decide (wm b a<0))=W↔a.1<b.1\/(a.1=b.1/\a.2<=b.2):=by
 simp [Bool.not_eq_true',decide_eq_false_iff_not,iu];omega
def lB (l:List C7):(sortP l).Perm l:=pY _ _
def nW {l:List C7}{p:C7}:p∈sortP l↔p∈l:=(lB l).mem_iff
def Y4 (l:List C7):O (sortP l)=O l:=(lB l).length_eq
def NH {l:List C7}(h:l.Nodup):(sortP l).Nodup:=(lB l).nodup_iff.2 h
def Es (l:List C7):(sortP l).Pairwise λa b=>(!decide (wm b a<0))=W :=
 (xu (λa b c h1 h2=>by rw [iu] at *;omega) (λa b h=>by grind [iu]) l).imp λh=>by simpa using h
def uf {l m:List C7}(h:l.Perm m):sortP l=sortP m:=by
 refine ((lB l).trans (h.trans (lB m).symm)).eq_of_pairwise (λa b _ _ h1 h2=>?_) (Es l) (Es m)
 grind [Ti,Prod.ext]
def qB (fs:List A3)(l:List C7):List C7:=sortP (og fs l)
def MI {fs:List A3}{l:List C7}{p:C7}:p∈qB fs l↔tJ fs l p:=by rw [qB,nW,DL]
end Go.A1
namespace Go.A1
section
variable {α:Type} [Inhabited α] {enc:α->List Data} {sz:Nat} {H:q6} {id:Nat} {xs:List α}
def Ee (hs:∀a,O (enc a)=sz)(h:H[id]? =J (.cells ((xs.flatMap enc).map .d))){i:Nat}(hi:i<O xs):rd H id (0+i * sz) sz=J ((enc (Y xs i)).map .d):=by
 have h1:i * sz+sz<=O xs * sz:=by rw [<- Nat.succ_mul];exact Nat.mul_le_mul_right _ hi
 simp [rd,h,List.length_map,Z1 hs,Nat.zero_add,if_true];rw [<- List.map_drop,<- List.map_take,ta hs,E0 hi];simp_all
def am2 (hs:∀a,O (enc a)=sz){ys zs:List α}{z:α}(h:H[id]? =J (.cells (((ys++z::zs).flatMap enc).map .d)))(x:α) :
  wr H id (0+O ys * sz) ((enc x).map .d)=J (H.set id (.cells (((ys++x::zs).flatMap enc).map .d))):=by
 have l1:O ((ys.flatMap enc).map c8.d)=O ys * sz:=by rw [List.length_map,Z1 hs]
 have l2:O ((enc z).map c8.d)=sz:=M
 have l3:O ((enc x).map c8.d)=sz:=M
 simp_all [wr,Nat.zero_add,splice,if_pos,List.length_append,List.take_left,List.drop_append,List.drop_eq_nil_of_le,List.drop_left]
end
namespace S
section
variable {A:Prog} {l:I7} {b:Nat} {dr:Bool} {l5 ops:List p7} {T:List c8} {H:q6} {n:Nat} {rl:List c8} {o9:List Touch} {Q:List c8->q6->List c8->Prop}
def lnr {x:y7}{u:List Nat}{id sz lo len:Nat}(h2:Ry A l b dr l5 ops T H (n+1) (.d (.int .i64 (len:Int))::rl) o9 Q)(hx:rq T n rl x= .B8 id sz lo len:=by rfl):Ry A l b dr l5 (⟨.len x,K,K,u⟩::ops) T H n rl o9 Q :=
 Ry.pure (rs:=[]) rfl (by grind [o7,i64]) h2
def svr {x y:y7}{u:List Nat}{id sz lo len i:Nat}{k:IntKind}(hi:i<len)(h2:Ry A l b dr l5 ops T H (n+1) (.B8 id sz (lo+i * sz) (len - i)::rl) o9 Q)(hx:rq T n rl x= .B8 id sz lo len:=by rfl)(hy:rq T n rl y= .d (.int k ((i:Nat):Int)):=by rfl) :
  Ry A l b dr l5 (⟨.aJ sz x (J y) K,K,K,u⟩::ops) T H n rl o9 Q :=
 Ry.pure (rs:=[]) rfl (by
  grind [o7,Y9]) h2
def svf {x y:y7}{u:List Nat}{id sz lo len i:Nat}{k:IntKind}(hi:i<=len)(h0:0<i)(h2:Ry A l b dr l5 ops T H (n+1) (.B8 id sz lo i::rl) o9 Q)(hx:rq T n rl x= .B8 id sz lo len:=by rfl)(hy:rq T n rl y= .d (.int k ((i:Nat):Int)):=by rfl) :
  Ry A l b dr l5 (⟨.aJ sz x K (J y),K,K,u⟩::ops) T H n rl o9 Q :=
 Ry.pure (rs:=[]) rfl (by
  grind [o7,Y9]) h2
def clS {x:y7}{u:List Nat}{id sz lo len:Nat}{zero:List c8}{H2:q6}(hw:wr H id lo ((List.replicate len zero).flatten)=J H2)(h2:Ry A l b F l5 ops T H2 (n+1) (.tuple []::rl) (.obj id::o9) Q)(hx:rq T n rl x= .B8 id sz lo len:=by rfl)(hz:O zero=sz:=by rfl)(hb:C5 zero=0:=by rfl)(hl:l.may id=W:=by rfl) :
  Ry A l b F l5 (⟨.clear sz zero x,K,K,u⟩::ops) T H n rl o9 Q:=λhn=>by
 refine Rx.stepT (N1:=0) (rs:=[]) rfl (λk _=>?_) (h2.to hn);simp_all [M0,z6,y8,E1,x9.D6,if_true,F9,Z0,ah,and_self,put,L6,u9,F2]
end
end S
section
variable {A:Prog} {l:I7} {b:Nat}
def inU (l5:List p7)(k:Nat):Bool:=l5.any λi=>i.op.Yb&&i.cB.contains k
def LV (l5:List p7)(nb k:Nat)(e:lQ):Prop :=
 (∀r∈e.reads,r<nb)/\(inU l5 k=W->∀rs:List Nat,(∀r∈rs,r<nb)->J2 e.JH rs=F)/\(∀i,l5[k]? =J i->i.op.Yb=F->e.reads=[])
def Rv (A:Prog)(l:I7)(b:Nat)(l5 ops:List p7)(T:List c8)(H:q6)(n:Nat)(rl:List c8)(o9:List Touch)(na nb:Nat)(Q:List c8->q6->List c8->Prop):Prop :=
 O rl=n->nb<=na->∃r N,Q r.T r.H r.L/\∀k,N<=k->∃lg:List lQ,S6 (M0 A k l b) l5 ops n na ⟨T,H,rl.reverse++List.replicate (O ops) .any,o9⟩=J (r,lg)/\O lg=O ops/\∀j e,lg[j]? =J e->LV l5 nb (n+j) e
variable {l5 ops:List p7} {T:List c8} {H:q6} {n:Nat} {rl:List c8} {o9:List Touch} {na nb:Nat} {Q:List c8->q6->List c8->Prop}
def Rn.aB3 {T:List c8}{H:q6}(nb:Nat)(H' :q6)(o9:List Touch)(hm:ops.all (λi=> !i.op.makes)=W:=by rfl)(hu:ops.all (λi=>i.cB.all λe=>Nat.blt e (O ops))=W:=by rfl)(hH:H++aO ops=H' :=by rfl)(hs:slotsOf ops=o9:=by rfl)(hnb:O H=nb:=by rfl)
  (h:Rv A l b ops ops T H' 0 [] o9 nb nb Q):Rn A l b ops W T H Q:=by
 obtain ⟨r,N,hq,h⟩:=h rfl (l6 _);refine ⟨r,N,hq,λn hn=>?_⟩;obtain ⟨lg,e1,e2,e3⟩:=h n hn;simp [Nat.zero_add] at e1 e3;have bn9:ud ops lg=W:=by
  simp only [ud,M1];rintro ⟨i,le⟩ Af e he;obtain ⟨j,hj,hji⟩:=R3 Af;simp [List.length_zip] at hj;have hj1:j<O ops:=V
  have hj2:j<O lg:=V
  simp [List.getElem_zip] at hji;obtain ⟨rfl,rfl⟩:=hji;have hi:ops[j]∈ops:=List.getElem_mem hj1;have hlt:e<O ops:=j9 (M1.1 (M1.1 hu _ hi) e he);have he2:e<O lg:=V
  rw [o6 he2];have c1:=e3 j _ (o6 hj2);have c2:=e3 e _ (o6 he2);have hmk:ops[j].op.makes=F:=M
  cases hr:ops[j].op.Yb with
  |true =>
   have hb:inU ops e=W:=List.any_eq_true.2 ⟨_,hi,M⟩;simp [c2.2.1 hb _ c1.1,hmk]
  |false =>
   have h5:=c1.2.2 _ (o6 hj1) hr
   grind [J2]
 simp_all [T5,if_true]
def Rv.step {i:p7}{T' :List c8}{H' :q6}{v:c8}{dy :List Touch}{rs:List Nat}{N1:Nat}(hk:∀L,I5 ⟨T,H,L,o9⟩ i.op=F)(hi:l5[n]? =J i)
  (h:O rl=n->∀k,N1<=k->z6 (M0 A k l b) l5 (if i.op.B0 then J na else K) n i ⟨T,H,rl.reverse++ .any::List.replicate (O ops) .any,o9⟩=J (⟨T',H',rl.reverse++v::List.replicate (O ops) .any,dy⟩,rs))
  (hr:∀r∈rs,r<nb) (ht:nb<=na->inU l5 n=W->∀rs:List Nat,(∀r∈rs,r<nb)->J2 (iI (if i.op.B0 then J na else K)++dy.take (O dy - O o9)) rs=F)
  (h2:Rv A l b l5 ops T' H' (n+1) (v::rl) dy (if i.op.B0 then na+1 else na) nb Q):Rv A l b l5 (i::ops) T H n rl o9 na nb Q:=λhn hnb=>by
 obtain ⟨r,N,hq,h2⟩:=h2 (by simp [hn]) (by grind);refine ⟨r,max N N1,hq,λk hkk=>?_⟩;obtain ⟨lg,e1,e2,e3⟩:=h2 k V;have h4:=h hn k V;have e1' :S6 (M0 A k l b) l5 ops (n+1) (if i.op.B0 then na+1 else na) ⟨T',H',rl.reverse++v::List.replicate (O ops) .any,dy⟩=J (r,lg):=M
 refine ⟨eO (M0 A k l b) i (if i.op.B0 then J na else K) ⟨T,H,rl.reverse++ .any::List.replicate (O ops) .any,o9⟩ ⟨T',H',rl.reverse++v::List.replicate (O ops) .any,dy⟩ rs::lg,?_,by simp [e2],?_⟩
 .simp_all [S6,List.length_cons,List.replicate_succ,lD,Bool.false_and,j4,if_false]
 .intro j e he
  cases j with
  |zero =>
   simp [List.getElem?_cons_zero,Option.some.injEq] at he;subst he;refine ⟨hr,λhb=>ht hnb hb,λi' hi' hr' =>?_⟩;rw [Nat.add_zero,hi] at hi';cases hi';exact vG h4 hr'
  |succ j =>
   grind
def Rv.simple {i:p7}{v:c8}{rs:List Nat}{N1:Nat}(ha:i.op.B0=F)(hk:∀L,I5 ⟨T,H,L,o9⟩ i.op=F)(hi:l5[n]? =J i)
  (h:O rl=n->∀k,N1<=k->z6 (M0 A k l b) l5 K n i ⟨T,H,rl.reverse++ .any::List.replicate (O ops) .any,o9⟩=J (⟨T,H,rl.reverse++v::List.replicate (O ops) .any,o9⟩,rs))
  (hr:∀r∈rs,r<nb) (h2:Rv A l b l5 ops T H (n+1) (v::rl) o9 na nb Q):Rv A l b l5 (i::ops) T H n rl o9 na nb Q :=
 Rv.step (N1:=N1) hk hi (λhn k hk=>by rw [ha];exact h hn k hk) hr (λ_ _ rs _=>by grind [iI,J2]) M
theorem Rv.slot {i:p7}{v:c8}{rs:List Nat}{N1:Nat}{T2:List c8}{s:Nat}(ha:i.op.B0=F)(hk:∀L,I5 ⟨T,H,L,o9⟩ i.op=F)(hi:l5[n]? =J i)
  (h:O rl=n->∀k,N1<=k->z6 (M0 A k l b) l5 K n i ⟨T,H,rl.reverse++ .any::List.replicate (O ops) .any,o9⟩=J (⟨T2,H,rl.reverse++v::List.replicate (O ops) .any,.slot s::o9⟩,rs))
  (hr:∀r∈rs,r<nb) (h2:Rv A l b l5 ops T2 H (n+1) (v::rl) (.slot s::o9) na nb Q):Rv A l b l5 (i::ops) T H n rl o9 na nb Q :=
 Rv.step (N1:=N1) hk hi (λhn k hk=>by rw [ha];exact h hn k hk) hr (λ_ _ rs _=>by
  simp_all [iI,J2,Touch.L5]) M
namespace S
theorem vn (h:Q T H rl.reverse):Rv A l b l5 [] T H n rl o9 na nb Q:=λ_ _=>⟨⟨T,H,rl.reverse,o9⟩,0,h,λ_ _=>⟨[],by simp [S6],rfl,λj e h=>by simp at h⟩⟩
def vp {op:x9}{u:List Nat}{rs:List Nat}(v:c8)(hp:o7 (rq T n rl) H op=J (v,rs))(hr:∀r∈rs,r<nb:=by simp)(h2:Rv A l b l5 ops T H (n+1) (v::rl) o9 na nb Q)(hE:op.D6=F:=by rfl)(ha:op.B0=F:=by rfl)(hk:∀L,I5 ⟨T,H,L,o9⟩ op=F:=by intro;rfl)(hi:l5[n]? =J ⟨op,K,K,u⟩:=by rfl) :
  Rv A l b l5 (⟨op,K,K,u⟩::ops) T H n rl o9 na nb Q:=by
 refine Rv.simple (N1:=0) (rs:=rs) ha hk hi (λhn k _=>?_) hr h2;have Zp:∀x,op≠ .Q5 x:=by
  grind [o7]
 have h4:o7 (A1.K4 T (rl.reverse++ .any::List.replicate (O ops) .any)) H op=J (v,rs):=by
  rw [show A1.K4 T (rl.reverse++ .any::List.replicate (O ops) .any)=rq T n rl from funext λx=>Z0 hn _ x];exact hp
 have Mk:∀(a:c8) (r:List c8),(rl.reverse++a::r).set n v=rl.reverse++v::r:=λa r=>M
 simp_all [E1,M0,List.replicate,absurd,j4,if_false,put,x9.D6,z6,y8,u9,F2]
def vm {x:y7}{u:List Nat}{v:c8}(h2:Rv A l b l5 ops T H (n+1) (v::rl) o9 na nb Q)(hx:Oq T n rl x v:=by exact ⟨rfl,rfl⟩)(hi:l5[n]? =J ⟨.Q5 x,K,K,u⟩:=by rfl):Rv A l b l5 (⟨.Q5 x,K,K,u⟩::ops) T H n rl o9 na nb Q:=by
 refine Rv.simple (N1:=0) (rs:=[]) rfl (λ_=>rfl) hi (λhn k _=>?_) U h2;have Mk:∀(a:c8) (r:List c8),(rl.reverse++a::r).set n v=rl.reverse++v::r:=λa r=>M
 simp [z6,y8,E1,x9.D6,j4,if_false,(hx.op hn).E7,put,Mk,u9,F2]
def vc {f:FuncId}{xs:List y7}{u:List Nat}{v:c8}{args:List c8}{m:Nat}{H0 H1:q6}{l2:I7}(hc:Pm A f args H0 l2 v H1)(hH1:O H1=m)(h2:Rv A l b l5 ops T H (n+1) (v::rl) o9 na nb Q)(qm:P0 ((H.take m).drop l.strict)<=m:=by exact Nat.zero_le _)(hcl:G6 H l.strict 8 (C5 args)=m:=by rfl)
  (XV:H.take m=H0:=by rfl) (hle:F3 m (O H)=W:=by rfl) (pH:(⟨0,m,m,E9 H l.strict m⟩:I7)=l2:=by rfl)
  (ha:xs.map (rq T n rl)=args:=by rfl) (jG:A.prom f=F:=by rfl) (hm:A.mode f=1:=by rfl) (hi:l5[n]? =J ⟨.call f xs,K,K,u⟩:=by rfl):Rv A l b l5 (⟨.call f xs,K,K,u⟩::ops) T H n rl o9 na nb Q:=by
 obtain ⟨i5,hc⟩:=hc;refine Rv.simple (N1:=i5) (rs:=[]) rfl (λ_=>rfl) hi (λhn k hk=>?_) U h2;have Mk:∀(a:c8) (r:List c8),(rl.reverse++a::r).set n v=rl.reverse++v::r:=λa r=>M
 simp_all [D5,M0,List.replicate,put,nA,j9,z6,y8,E1,x9.D6,if_true,F9,gJ,u9,F2]
def vcp {f:FuncId}{xs:List y7}{u:List Nat}{v:c8}{args:List c8}{H1:q6}(hc:Pm A f args H l v H1)(hle:O H<=O H1)(h2:Rv A l b l5 ops T H1 (n+1) (v::rl) (.below (O H1)::o9) na nb Q)(ha:xs.map (rq T n rl)=args:=by rfl)(jG:A.prom f=W:=by rfl)
  (hi:l5[n]? =J ⟨.call f xs,K,K,u⟩:=by rfl) (hu:inU l5 n=F:=by rfl):Rv A l b l5 (⟨.call f xs,K,K,u⟩::ops) T H n rl o9 na nb Q:=by
 obtain ⟨i5,hc⟩:=hc;refine Rv.step (N1:=i5) (rs:=[]) (λ_=>rfl) hi (λhn k hk=>?_) U (λ_ h=>M) h2;have Mk:∀(a:c8) (r:List c8),(rl.reverse++a::r).set n v=rl.reverse++v::r:=λa r=>M
 simp_all [D5,M0,List.replicate,put,if_true,x9.B0,j4,if_false,z6,y8,E1,x9.D6,F9,gJ,u9,F2]
def aE8 {T:List c8}{s:Nat}(hs:T[s]?.isSome=W):s<O T:=by
 simp_all
def Ck {rl:List c8}{v w:c8}{r:List c8}(hn:O rl=n)(hv:(v=w/\v.K7=v/\∀z k cs,v≠ .own z k cs)\/∃z k cs,v= .own z k cs/\w= .d (.slice k cs)):A1.E7 ⟨T,H,rl.reverse++v::r,o9⟩ (.loc n)=(v,⟨T,H,rl.reverse++w::r,o9⟩):=by
 have e:(rl.reverse++v::r)[O rl]? =J v:=M
 grind [set,List.length_reverse,L6,absurd,A1.E7,A1.K4,c8.K7]
def vcT {f:FuncId}{xs:List y7}{u:List Nat}{z n0 s:Nat}{cs:List Data}{args T2:List c8}{m:Nat}{H0 H1:q6}{l2:I7}(hc:Pm A f args H0 l2 (.own z n0 cs) H1)(hH1:O H1=m)(h2:Rv A l b l5 ops T2 H (n+1) (.d (.slice n0 cs)::rl) (.slot s::o9) na nb Q)(qm:P0 ((H.take m).drop l.strict)<=m:=by exact Nat.zero_le _)(hcl:G6 H l.strict 8 (C5 args)=m:=by rfl)
  (XV:H.take m=H0:=by rfl) (hle:F3 m (O H)=W:=by rfl) (pH:(⟨0,m,m,E9 H l.strict m⟩:I7)=l2:=by rfl)
  (ha:xs.map (rq T n rl)=args:=by rfl) (jG:A.prom f=F:=by rfl) (hm:A.mode f=1:=by rfl) (hi:l5[n]? =J ⟨.call f xs,J s,K,u⟩:=by rfl)
  (hs:T[s]?.isSome=W:=by rfl) (hT:T.set s (.own z n0 cs)=T2:=by simp only [List.set_cons_zero,List.set_cons_succ]<;>rfl):Rv A l b l5 (⟨.call f xs,J s,K,u⟩::ops) T H n rl o9 na nb Q:=by
 obtain ⟨i5,hc⟩:=hc;subst XV hT;refine Rv.slot (N1:=i5) (rs:=[]) rfl (λ_=>rfl) hi (λhn k hk=>?_) U h2;have Mk:∀(a v:c8) (r:List c8),(rl.reverse++a::r).set n v=rl.reverse++v::r:=λa v r=>M
 have h3:D5 (M0 A k l b) n f args ⟨T,H,rl.reverse++ .any::List.replicate (O ops) .any,o9⟩=J (put ⟨T,H,rl.reverse++ .any::List.replicate (O ops) .any,o9⟩ n (.own z n0 cs)) :=
  nA jG hm hcl (j9 hle) qm pH (hc k hk) hH1
 have h5:=Ck (T:=T) (H:=H) (o9:=o9) (r:=List.replicate (O ops) .any) hn (.inr ⟨z,n0,cs,rfl,rfl⟩);simp_all [z6,y8,E1,x9.D6,if_true,F9,gJ,u9,F2,put]
def vk {x:Data}{u:List Nat}{s:Nat}{T2:List c8}(h2:Rv A l b l5 ops T2 H (n+1) (.d x::rl) o9 (na+1) nb Q)(htc:o9.any (Touch.V5 s)=W:=by rfl)(hi:l5[n]? =J ⟨.qz x,J s,K,u⟩:=by rfl)
  (hs:T[s]?.isSome=W:=by rfl) (hT:T.set s (.d x)=T2:=by simp only [List.set_cons_zero,List.set_cons_succ]<;>rfl):Rv A l b l5 (⟨.qz x,J s,K,u⟩::ops) T H n rl o9 na nb Q:=by
 refine Rv.step (N1:=0) (rs:=[]) (λ_=>rfl) hi (λhn k _=>?_) U (λhna _ rs hrs=>?_) h2
 .have Mk:∀(a v:c8) (r:List c8),(rl.reverse++a::r).set n v=rl.reverse++v::r:=λa v r=>M
  have h5:=Ck (T:=T) (H:=H) (o9:=o9) (v:= .d x) (w:= .d x) (r:=List.replicate (O ops) .any) hn (.inl ⟨rfl,rfl,λ_ _ _ h=>by cases h⟩);simp_all [x9.B0,if_true,z6,y8,E1,x9.D6,F9,put,u9,Y5,decide_true,Bool.and_self]
 grind [x9.B0,iI,J2,Touch.L5]
def vpT {op:x9}{u:List Nat}{rs:List Nat}{s:Nat}{T2:List c8}(v:c8)(hp:o7 (rq T n rl) H op=J (v,rs))(hr:∀r∈rs,r<nb:=by simp)(h2:Rv A l b l5 ops T2 H (n+1) (v::rl) (.slot s::o9) na nb Q)(hv:v.K7=v/\∀z k cs,v≠ .own z k cs)(hE:op.D6=F:=by rfl)(ha:op.B0=F:=by rfl)(hk:∀L,I5 ⟨T,H,L,o9⟩ op=F:=by intro;rfl)(hi:l5[n]? =J ⟨op,J s,K,u⟩:=by rfl)
  (hs:T[s]?.isSome=W:=by rfl) (hT:T.set s v=T2:=by simp only [List.set_cons_zero,List.set_cons_succ]<;>rfl):Rv A l b l5 (⟨op,J s,K,u⟩::ops) T H n rl o9 na nb Q:=by
 refine Rv.slot (N1:=0) (rs:=rs) ha hk hi (λhn k _=>?_) hr h2;have Zp:∀x,op≠ .Q5 x:=by
  grind [o7]
 have h4:o7 (A1.K4 T (rl.reverse++ .any::List.replicate (O ops) .any)) H op=J (v,rs):=by
  rw [show A1.K4 T (rl.reverse++ .any::List.replicate (O ops) .any)=rq T n rl from funext λx=>Z0 hn _ x];exact hp
 have Mk:∀(a:c8) (r:List c8),(rl.reverse++a::r).set n v=rl.reverse++v::r:=λa r=>M
 have h3:E1 (M0 A k l b) l5 K n op ⟨T,H,rl.reverse++ .any::List.replicate (O ops) .any,o9⟩=J (⟨T,H,rl.reverse++v::List.replicate (O ops) .any,o9⟩,rs):=by
  simp_all [absurd,E1,j4,if_false,put,x9.D6]
 simp_all [Ck,List.replicate,z6,y8,u9,F2,if_true]
def vmT {x:y7}{u:List Nat}{v:c8}{s:Nat}{T2:List c8}(h2:Rv A l b l5 ops T2 H (n+1) (v::rl) (.slot s::o9) na nb Q)(hv:v.K7=v/\∀z k cs,v≠ .own z k cs)(hx:Oq T n rl x v:=by exact ⟨rfl,rfl⟩)(hi:l5[n]? =J ⟨.Q5 x,J s,K,u⟩:=by rfl)
  (hs:T[s]?.isSome=W:=by rfl) (hT:T.set s v=T2:=by simp only [List.set_cons_zero,List.set_cons_succ]<;>rfl):Rv A l b l5 (⟨.Q5 x,J s,K,u⟩::ops) T H n rl o9 na nb Q:=by
 subst hT;have hs:=aE8 hs;refine Rv.slot (N1:=0) (rs:=[]) rfl (λ_=>rfl) hi (λhn k _=>?_) U h2;have Mk:∀(a:c8) (r:List c8),(rl.reverse++a::r).set n v=rl.reverse++v::r:=λa r=>M
 have h5:=Ck (T:=T) (H:=H) (o9:=o9) (v:=v) (w:=v) (r:=List.replicate (O ops) .any) hn (.inl ⟨rfl,hv⟩);simp [z6,y8,E1,x9.D6,j4,if_false,(hx.op hn).E7,put,Mk,u9,F2,hs,if_true,h5]
end S
end
theorem zW {A i7:Prog}(hf:A.fn=i7.fn)(hi:A.idle=i7.idle)(hm:A.mode=i7.mode)(i5:Nat)(hn:∀f,A.cM f=K->i7.cM f=K\/A.fn f=K)
  (hp:∀f p,A.cM f=J p->∀args H l r,p args H l=J r->call i7 i5 f args H l=J r):∀n,LeC (call A n) (call i7 (n+i5))
 |0=>λ_ _ _ _=>lP.no _
 |n+1=>λf args H l=>by
  intro r hr;have Ah:A.prom=i7.prom:=by grind [Prog.prom]
  unfold call at hr;split at hr
  next p hq=>
   exact Jl i7 i5 (n+1+i5) V f args H l r (hp f p hq args H l r hr)
  .split at hr
   next af haf=>
    have hb:i7.cM f=K:=by
     grind
    rw [show n+1+i5=(n+i5)+1 by omega,Jk hb (by rw [<- hf];exact haf)];unfold jh at hr ⊢;split at hr
    next hlen=>
     rw [if_pos hlen];cases hx:exec ⟨call A n,A.prom,A.mode,A.idle,l,O H⟩ n af.body ⟨args++List.replicate (O af.names - O args) .any,H⟩ with
     |none=>simp_all
     |some x =>
      rw [hx] at hr;rw [Ah,hi,hm] at hx;rw [iY (zW hf hi hm i5 hn hp n) (Nat.le_add_right n i5) _ _ _ hx];exact hr
    .cases hr
   .cases hr
def Pf.be6 {A:Prog}{es:List Gz}{i5 n:Nat}(hes:∀e,e∈es->call A i5 e.f e.args [] W8=J (e.res,[])){f:FuncId}{args:List c8}{v:c8}(h:call (memo A es) n f args [] W8=J (v,[]))(hM:0<i5):Pf A f args v:=by
 refine Pf.Tq (zW (A:=memo A es) (i7:=A) rfl rfl rfl i5 ?_ ?_ n _ _ _ _ _ h)
 .grind [memo]
 .intro f p hp args H l r hr
  simp [memo] at hp;split at hp
  .cases hp
   simp only at hr;split at hr
   .grind [JL,DC]
   .cases hr
  .obtain ⟨k,rfl⟩:∃k,i5=k+1:=⟨i5 - 1,V⟩
   simp_all [call]
end Go.A1


import Derived.Test.YtibjocmpkoepoaaGreatB4
set_option linter.all false
open Bool renaming false_eq_true→e8,or_eq_false_iff→E5,true→W,false→F
open List renaming all_eq_true→L4,append_assoc→M3,drop_of_length_le→o7,getElem?_append_left→s8,getElem?_append_right→q9,getElem?_eq_getElem→n5,getElem_of_mem→O8,map_cons→M8,mem_cons→C4,pairwise_cons→N6,take_of_length_le→y6,length→O
open Nat renaming ble→F0,le_of_ble_eq_true→l5,lt_or_ge→x9,mul_le_mul_right→K4
open Option renaming map_some→C6,some→J,none→K
namespace Go.B3
def xH (x:Int):List Int->List Int
 |[]=>[x]
 |y::l=>if x<=y then x::y::l else y::xH x l
def kZ:List Int->List Int
 |[]=>[]
 |x::l=>xH x (kZ l)
def sD :List c7->Option (List Int)
 |[]=>J []
 | .d (.int .i64 n)::r=>match sD r with
  |some xs=>J (n::xs)
  |none=>K
 |_=>K
def Gk:List c7->n9->H8->Option (c7×n9)
 |[.H7,.d (.int .i64 n)],H,_=>if 0<=n/\n<=1000000 then J (.own 1 0 [],H) else K
 |_,_,_=>K
def RO:List c7->n9->H8->Option (c7×n9)
 |[.s5 id 1 lo len],H,l=>if l.may id&&F0 len 1000000 then match rd H id lo len with
   |some vs=>match sD vs with
    |some xs=>match wr H id lo ((kZ xs).map λn=> .d (.int .i64 n)) with
     |some H1=>J (.tuple [],H1)
     |none=>K
    |none=>K
   |none=>K
  else K
 |[.d (.slice 0 _)],H,_=>J (.tuple [],H)
 |_,_,_=>K
def eZ:List Int->List Int
 |[]=>[]
 |[x]=>[x]
 |x::y::l=>if x=y then eZ (y::l) else x::eZ (y::l)
def vK:List c7->n9->H8->Option (c7×n9)
 |[.s5 id 1 lo len],H,l=>if l.may id&&F0 len 1000000 then match rd H id lo len with
   |some vs=>match sD vs with
    |some xs=>match wr H id lo ((eZ xs++List.replicate (O xs - O (eZ xs)) 0).map λn=> .d (.int .i64 n)) with
     |some H1=>J (.s5 id 1 lo (O (eZ xs)),H1)
     |none=>K
    |none=>K
   |none=>K
  else K
 |_,_,_=>K
section
variable {A:Prog} {l:H8} {b:Nat}
variable {dr:Bool} {j9 ops:List o4} {T:List c7} {H:n9} {n:Nat} {rl:List c7} {o5:List Touch} {Q:List c7->n9->List c7->Prop}
def Ex.jl {ops:List o4}{draw:Bool}{c:z6}{d e:p6}{T:List c7}{H:n9}{Q:E6->St->Prop}(t:Bool)
  (h:Rn A l b ops draw T H λT' H' L=>T' =T/\H' =H/\∃t',G5 T' L c= .d (.bool t')/\t' =t)
  (h2:t=W->Ex A l b d ⟨T,H⟩ Q) (h3:t=F->Ex A l b e ⟨T,H⟩ Q):Ex A l b (.test ops draw c d e) ⟨T,H⟩ Q:=by
 obtain ⟨r,N,⟨e1,e2,t',e3,rfl⟩,h⟩:=h;subst e1;subst e2;exact Ex.test ⟨r,N,⟨t',e3,h2,h3⟩,h⟩
def Ex.nT {c:p6}{T T2:List c7}{H:n9}{Q:E6->St->Prop}(h:Ex A l b c ⟨T2,H⟩ Q)(hT:T=T2:=by simp only [U3]<;>rfl):Ex A l b c ⟨T,H⟩ Q:=hT ▸ h
def Pf.run {f:FuncId}{af:q6}{args:List c7}{v:c7}(T:List c7)(hp:A.gQ f=K)(hf:A.fn f=J af)(hn:O args=af.nparams)
  (hT:args++List.replicate (O af.names - O args) .any=T) (h:Ex A Q9 0 af.body ⟨T,[]⟩ λx s=>∃w,aZ af 0 (J (x,s))=J (w,[])/\w=v):Pf A f args v :=
 Pf.bd3 T hp hf hn hT (h.mono λ_ _ ⟨_,h1,h2⟩=>h2 ▸ h1)
theorem ay {α:Type}:∀{l:List α} {j:Nat} {v:α},l[j]? =J v->l.set j v=l
 |[],_,_,_=>rfl
 |a::l,0,v,h=>M
 |a::l,j+1,v,h=>by simp at h;simp [ay h]
def Rx.ZD {pre:List c7}{op:s7}{j:Nat}{want:Bool}{u:List Nat}(h:pre[j]? =J (.tuple []))(hk:F9 ⟨T,H,pre++ .any::List.replicate (O ops) .any,o5⟩ op=F)(ha:op.A6=F)
  (h2:Rx A l b dr j9 ops T H (pre++[.tuple []]) o5 Q):Rx A l b dr j9 (⟨op,K,J (j,want),u⟩::ops) T H pre o5 Q:=by
 refine Rx.step (N1:=0) (rs:=[]) hk ha (λn _=>?_) (λrs=>by simp [I9]) h2
 grind [A2,A9,qL,put,N5,y8,F2]
instance:Inhabited bU:=⟨⟨0,0,0,[],0⟩⟩
instance:Inhabited dY:=⟨⟨[],0,[],[],[],0,0⟩⟩
instance:Inhabited jt:=⟨⟨[],[],0,0⟩⟩
instance:Inhabited Wk:=⟨⟨[],[]⟩⟩
instance:Inhabited Ke:=⟨⟨[],0,[]⟩⟩
instance:Inhabited Vw:=⟨⟨[],0,[],[],[],[],[],F,[]⟩⟩
instance:Inhabited pe:=⟨⟨[],[],0⟩⟩
instance:Inhabited oh:=⟨⟨[],[],0,0,0,0⟩⟩
instance:Inhabited rY:=⟨⟨[],[],0,0⟩⟩
instance:Inhabited qh:=⟨⟨[],[],0⟩⟩
instance:Inhabited uP:=⟨⟨[],[]⟩⟩
instance:Inhabited uO:=⟨⟨[],[],0⟩⟩
@[irreducible] def Y {α:Type} [Inhabited α] (l:List α) (i:Nat):α:=l[i]?.getD default
theorem H6 {α:Type} [Inhabited α] {l:List α}{i:Nat}(h:i<O l):Y l i=l[i]:=by simp [Y,h]
def V8 {α:Type} [Inhabited α] (a:α)(l:List α):Y (a::l) 0=a:=by simp [Y]
def kU {α:Type} [Inhabited α] (a:α)(l:List α)(i:Nat):Y (a::l) (i+1)=Y l i:=by simp [Y]
theorem P6 {α:Type} [Inhabited α] {l:List α}{i:Nat}(h:i<O l):Y l i∈l:=by grind [H6,List.getElem_mem]
theorem E3 {α:Type} [Inhabited α] {l:List α}{i:Nat}(h:i<O l):l.drop i=Y l i::l.drop (i+1):=by grind [H6,List.drop_eq_getElem_cons]
theorem N7 {α:Type} [Inhabited α] {l:List α}{i:Nat}(h:i<O l):l.take (i+1)=l.take i++[Y l i]:=by rw [H6 h,List.take_append_getElem]
def mS {α:Type} [Inhabited α] {l:List α}{i j:Nat}(h:j<i)(hi:i<=O l):(l.take i).drop j=Y l j::(l.take i).drop (j+1):=by
 grind [E3,H6]
@[irreducible] def J2 (a b:Int):Bool:=decide (a<b)
@[irreducible] def bC (a b:Int):Bool:=decide (a<=b)
@[irreducible] def A1 (a b:Int):Bool:=a==b
@[irreducible] def Q2 (a b:List UInt8):Bool:=a==b
theorem A5 (a b:Int):J2 a b=decide (a<b):=by unfold J2;rfl
theorem A7 (a b:Int):bC a b=decide (a<=b):=by unfold bC;rfl
theorem p7 (a b:Int):A1 a b=(a==b):=by unfold A1;rfl
theorem I5 (a b:List UInt8):Q2 a b=(a==b):=by unfold Q2;rfl
def F5 {a b:Int}(h:J2 a b=W):a<b:=by grind [A5]
def G7 {a b:Int}(h:J2 a b=F):b<=a:=by grind [A5]
def nD {a b:Int}(h:bC a b=W):a<=b:=by grind [A7]
def vE {a b:Int}(h:bC a b=F):b<a:=by grind [A7]
theorem aT {a b:Int}(h:A1 a b=W):a=b:=by grind [p7]
def qz {a b:Int}(h:A1 a b=F):a≠b:=by grind [p7]
theorem bl5 {a b:List UInt8}(h:Q2 a b=W):a=b:=by grind [I5]
theorem aC6 {a b:List UInt8}(h:Q2 a b=F):a≠b:=by grind [I5]
def s4 (n a b:Int):Bool:=bC a n&&bC n b
def Ry (A:Prog)(l:H8)(b:Nat)(dr:Bool)(j9 ops:List o4)(T:List c7)(H:n9)(n:Nat)(rl:List c7)(o5:List Touch)(Q:List c7->n9->List c7->Prop):Prop :=
 O rl=n->Rx A l b dr j9 ops T H rl.reverse o5 Q
def lk (n:Nat)(rl:List c7)(j:Nat):Option c7:=match F0 (j+1) n with
 |true=>rl[n - (j+1)]?
 |false=>K
theorem iJ (hn:O rl=n)(j:Nat):rl.reverse[j]? =lk n rl j:=by
 grind [lk,l5,Nat.ble_eq_true_of_le,List.getElem?_eq_none]
def LR (T:List c7)(n:Nat)(rl:List c7):z6->Option c7
 | .slot s=>T[s]?
 | .loc j=>lk n rl j
 | .const v=>J v
def Oq (T:List c7)(n:Nat)(rl:List c7)(x:z6)(v:c7):Prop:=LR T n rl x=J v/\v.F4=v
def Oq.op {x:z6}{v:c7}(h:Oq T n rl x v)(hn:O rl=n):Op T rl.reverse x v:=by
 obtain ⟨h1,h2⟩:=h;refine ⟨?_,h2⟩;cases x with
 |slot s=>exact h1
 |loc j=>simp [opv,iJ hn];exact h1
 |const u=>exact h1
def rq (T:List c7)(n:Nat)(rl:List c7):z6->c7
 | .const v=>v.UA
 |x=>((LR T n rl x).getD .any).F4
theorem Oq.rq {x:z6}{v:c7}(h:Oq T n rl x v):B3.rq T n rl x=v:=by
 obtain ⟨h1,h2⟩:=h;cases x with
 |const u=>simp_all [LR,Option.some.injEq,B3.rq,Xc]
 |_=>grind [B3.rq]
def T3 (hn:O rl=n)(m:Nat)(x:z6):B3.G5 T (rl.reverse++ .any::List.replicate m .any) x=rq T n rl x:=by
 cases x with
 |slot s=>rfl
 |const v=>rfl
 |loc j =>
  grind [B3.G5,rq,LR,iJ,x9,s8,q9,List.getElem?_eq_none,List.getElem?_cons_succ]
def Ry.to {v:c7}(h:Ry A l b dr j9 ops T H (n+1) (v::rl) o5 Q)(hn:O rl=n):Rx A l b dr j9 ops T H (rl.reverse++[v]) o5 Q:=by
 have:=h (by simp [hn]);simp_all
def Rn.text {T:List c7}{H:n9}(h:Ry A l b F ops ops T H 0 [] [] Q):Rn A l b ops F T H Q:=Rn.ar1 (h rfl)
def Rn.draw {T:List c7}{H:n9}(h:Ry A l b W ops ops T H 0 [] [] Q)(hp:uk ops=W:=by rfl):Rn A l b ops W T H Q:=Rn.ar0 hp (h rfl)
theorem Ry.pure {op:s7}{u:List Nat}{v:c7}{rs:List Nat}(hE:op.D4=F)(hp:l8 (rq T n rl) H op=J (v,rs))
  (h2:Ry A l b dr j9 ops T H (n+1) (v::rl) o5 Q):Ry A l b dr j9 (⟨op,K,K,u⟩::ops) T H n rl o5 Q:=λhn=>by
 refine Rx.pure (rs:=rs) hE (λm=>?_) (h2.to hn);rw [show B3.G5 T (rl.reverse++ .any::List.replicate m .any)=rq T n rl from funext λx=>T3 hn m x];exact hp
def Ry.Jk {op:s7}{u:List Nat}{v:c7}{rs:List Nat}{s:Nat}(hE:op.D4=F)(hp:l8 (rq T n rl) H op=J (v,rs))(hv:v.F4=v)(hm:op.A6=F)(hs:T[s]?.isSome=W)
  (h2:Ry A l b dr j9 ops (T.set s v) H (n+1) (v::rl) (.slot s::o5) Q):Ry A l b dr j9 (⟨op,J s,K,u⟩::ops) T H n rl o5 Q:=λhn=>by
 have hs:s<O T:=by
  simp_all
 have hmv:∀x,op≠ .S1 x:=by
  grind [l8]
 refine Rx.step (N1:=0) (rs:=rs) ?_ hm (λm _=>?_) (kB s o5) (h2.to hn)
 .cases op<;>first|rfl|grind [s7.D4]
 .have h3:D3 (K3 A m l b) j9 K (O rl.reverse) op ⟨T,H,rl.reverse++ .any::List.replicate (O ops) .any,o5⟩=J (⟨T,H,rl.reverse++v::List.replicate (O ops) .any,o5⟩,rs):=by
   have h4:l8 (B3.G5 T (rl.reverse++ .any::List.replicate (O ops) .any)) H op=J (v,rs):=by
    rw [show B3.G5 T (rl.reverse++ .any::List.replicate (O ops) .any)=rq T n rl from funext λx=>T3 hn _ x];exact hp
   simp_all [absurd,D3,e8,if_false,put,N5,s7.D4]
  have h5:B3.F1 ⟨T,H,rl.reverse++v::List.replicate (O ops) .any,o5⟩ (.loc (O rl.reverse))=(v,⟨T,H,rl.reverse++v::List.replicate (O ops) .any,o5⟩):=by
   grind [B3.F1,c7.F4,B3.G5]
  simp_all [A2,A9,y8,F2,if_true]
def Ry.fork {j:Nat}{w:Bool}(h:lk n rl j=J (.d (.bool w)))(hj:F0 (j+1) n=W)(h1:w=W->Ry A l b dr j9 ops T H n (rl.set (n - (j+1)) (.d (.bool W))) o5 Q)
  (h2:w=F->Ry A l b dr j9 ops T H n (rl.set (n - (j+1)) (.d (.bool F))) o5 Q):Ry A l b dr j9 ops T H n rl o5 Q:=by
 simp [lk,hj] at h;cases w with
 |true=>simp_all [ay]
 |false=>simp_all [ay]
theorem GI {α:Type}{enc:α->List Data}{sz:Nat}(hs:∀a,O (enc a)=sz):∀(l:List α) (i:Nat),(l.flatMap enc).take (i * sz)=(l.take i).flatMap enc
 |[],i=>U
 |a::l,0=>U
 |a::l,i+1=>by
  have h1:=GI hs l i;simp_all [List.flatMap_cons,List.take_succ_cons,List.take_append,Nat.succ_mul,Nat.add_sub_cancel,y6]
theorem bW {α:Type}{enc:α->List Data}{sz:Nat}(hs:∀a,O (enc a)=sz):∀(l:List α),O (l.flatMap enc)=O l * sz
 |[]=>U
 |a::l=>by simp [hs a,bW hs l,Nat.succ_mul,Nat.add_comm]
theorem nj {α:Type}{enc:α->List Data}{sz:Nat}(hs:∀a,O (enc a)=sz):∀(l:List α) (i:Nat),(l.flatMap enc).drop (i * sz)=(l.drop i).flatMap enc
 |[],i=>U
 |a::l,0=>U
 |a::l,i+1=>by
  have h1:=nj hs l i;simp_all [List.flatMap_cons,List.drop_succ_cons,List.drop_append,Nat.succ_mul,Nat.add_sub_cancel,List.drop_eq_nil_of_le]
def Dr {α:Type}{enc:α->List Data}{sz:Nat}(hs:∀a,O (enc a)=sz)(l:List α)(lo hi:Nat)(h1:lo<=hi)(h2:hi<=O l) :
  Data.slice ((hi:Int) - lo).toNat (((l.flatMap enc).take (hi * sz)).drop (lo * sz))=B8 enc ((l.take hi).drop lo):=by
 simp_all [GI,nj,B8]
def L1 {α:Type}(sz:Nat)(enc:α->List Data)(xs:List α):c7:= .own sz (O xs) (xs.flatMap enc)
def Jq {j:Nat}(hn:O rl=n)(hb:F0 (j+1) n=W)(v:c7):rl.reverse.set j v=(rl.set (n - (j+1)) v).reverse:=by
 have hb' :j+1<=O rl:=M
 apply List.ext_getElem?;intro i
 rcases x9 i (O rl) with hi|hi
 .grind
 simp_all
def Rx.ak1 {pre:List c7}{j sz bytes:Nat}{y:z6}{u:List Nat}{len m:Nat}{cells new:List Data}{vy:c7}{cs:List c7}
  (hj:pre[j]? =J (.own sz len cells)) (hy:∀m,B3.G5 T (pre++ .any::List.replicate m .any) y=vy) (hc:C1 H sz vy=J (m,cs)) (hd:L5 cs=J new) (hr:roomFor (len+m) bytes=W) (h0:0<sz)
  (h2:Rx A l b dr j9 ops T H (pre.set j (.d (.slice len cells))++[.own sz (len+m) (cells++new)]) o5 Q):Rx A l b dr j9 (⟨.append sz bytes F (.loc j) y,K,K,u⟩::ops) T H pre o5 Q:=by
 have hjl:j<O pre:=by
  grind
 have hL:∀r:List c7,(pre++ .any::r)[j]? =J (.own sz len cells):=λr=>by grind
 have aK2:B3.G5 T (pre++ .any::List.replicate (O ops) .any) (.loc j)= .d (.slice len cells):=by simp [B3.G5,hL,c7.F4]
 have hl:O (pre.set j (.d (.slice len cells)))=O pre:=U
 have h4:∀(a v:c7) (r:List c7),(pre.set j (.d (.slice len cells))++a::r).set (O pre) v=pre.set j (.d (.slice len cells))++v::r:=λa v r=>M
 refine Rx.stepG (N1:=0) (rs:=[]) hl (by simp_all [F9]) rfl (λn _=>?_) (λrs=>by simp [I9]) h2;simp_all [A2,A9,D3,s7.D4,if_true,D9,K0,e8,if_false,Q7,and_self,put,y8,F2]
theorem iC:∀l:List Data,L5 (l.map .d)=J l
 |[]=>rfl
 |a::l=>by simp [L5,c7.data?,iC l]
def Ry.aW3 {j s sz bytes:Nat}{y:z6}{u u' :List Nat}{d' :Option Nat}{g' :Option (Nat×Bool)}{n' len m:Nat}{cs' cells new:List Data}
  (hj:lk n rl j=J (.d (.slice n' cs'))) (ha:j9[j]? =J ⟨.S1 (.slot s),d',g',u'⟩) (ht:o5.any (Touch.V7 s)=F) (hT:T[s]? =J (.own sz len cells))
  (hy:rq T n rl y= .d (.slice m new)) (hl:O new=m * sz) (hr:roomFor (len+m) bytes=W) (h0:0<sz)
  (h2:Ry A l b dr j9 ops (T.set s (.d (.slice len cells))) H (n+1) (.own sz (len+m) (cells++new)::rl) (.slot s::o5) Q):Ry A l b dr j9 (⟨.append sz bytes F (.loc j) y,K,K,u⟩::ops) T H n rl o5 Q:=λhn =>
 Rx.append (vy:= .d (.slice m new)) (by rw [iJ hn];exact hj) ha ht hT (λk=>by simp_all [T3]) (by simp_all [C1]) (iC new) hr h0 (h2.to hn)
def Ry.aG4 {j sz bytes:Nat}{y:z6}{u:List Nat}{len m:Nat}{cells new:List Data}(hj:lk n rl j=J (.own sz len cells))(hb:F0 (j+1) n=W)
  (hy:rq T n rl y= .d (.slice m new)) (hl:O new=m * sz) (hr:roomFor (len+m) bytes=W) (h0:0<sz)
  (h2:Ry A l b dr j9 ops T H (n+1) (.own sz (len+m) (cells++new)::rl.set (n - (j+1)) (.d (.slice len cells))) o5 Q):Ry A l b dr j9 (⟨.append sz bytes F (.loc j) y,K,K,u⟩::ops) T H n rl o5 Q:=λhn=>by
 refine Rx.ak1 (vy:= .d (.slice m new)) (by rw [iJ hn];exact hj) (λk=>by simp_all [T3]) (by simp_all [C1]) (iC new) hr h0 ?_;have h3:=h2.to (by simp [hn]);simp_all [Jq]
namespace S
def nl (h:Q T H rl.reverse):Ry A l b dr j9 [] T H n rl o5 Q:=λ_=>Rx.nil h
def mv {x:z6}{v:c7}{u:List Nat}(h2:Ry A l b dr j9 ops T H (n+1) (v::rl) o5 Q)(hx:Oq T n rl x (v):=by exact ⟨rfl,rfl⟩) :
  Ry A l b dr j9 (⟨.S1 x,K,K,u⟩::ops) T H n rl o5 Q:=λhn=>Rx.S1 (hx.op hn) (h2.to hn)
def mt {x:z6}{v:c7}{s:Nat}{T2:List c7}{u:List Nat}(hx:Oq T n rl x (v):=by exact ⟨rfl,rfl⟩)(hs:T[s]?.isSome=W:=by rfl)(hT:T.set s v=T2:=by simp only [List.set_cons_zero,List.set_cons_succ]<;>rfl)(h2:Ry A l b dr j9 ops T2 H (n+1) (v::rl) (.slot s::o5) Q) :
  Ry A l b dr j9 (⟨.S1 x,J s,K,u⟩::ops) T H n rl o5 Q:=λhn=>Rx.bc7 (hx.op hn) hs (by rw [hT];exact h2.to hn)
def mo {s z n0:Nat}{cs:List Data}{u:List Nat}(h2:Ry A l b dr j9 ops T H (n+1) (.d (.slice n0 cs)::rl) o5 Q)(hx:T[s]? =J (.own z n0 cs):=by rfl) :
  Ry A l b dr j9 (⟨.S1 (.slot s),K,K,u⟩::ops) T H n rl o5 Q:=λhn=>Rx.aM2 hx (h2.to hn)
def mw {j s z n0:Nat}{cs:List Data}{u:List Nat}{T2:List c7}(hj:lk n rl j=J (.own z n0 cs):=by rfl)(hb:F0 (j+1) n=W:=by rfl)(hs:T[s]?.isSome=W:=by rfl)(hT:T.set s (.own z n0 cs)=T2:=by simp only [List.set_cons_zero,List.set_cons_succ]<;>rfl)
  (h2:Ry A l b dr j9 ops T2 H (n+1) (.d (.slice n0 cs)::rl.set (n - (j+1)) (.d (.slice n0 cs))) (.slot s::o5) Q):Ry A l b dr j9 (⟨.S1 (.loc j),J s,K,u⟩::ops) T H n rl o5 Q:=λhn=>by
 refine Rx.Yq (by rw [iJ hn];exact hj) hs ?_;have h3:=h2.to (by simp [hn]);simp_all [Jq]
def ow {s z n0:Nat}{cs:List Data}{T2:List c7}{u:List Nat}(hs:T[s]?.isSome=W:=by rfl)(hT:T.set s (.own z n0 cs)=T2:=by simp only [List.set_cons_zero,List.set_cons_succ]<;>rfl)(h2:Ry A l b dr j9 ops T2 H (n+1) (.d (.slice n0 cs)::rl) (.slot s::o5) Q) :
  Ry A l b dr j9 (⟨.S1 (.const (.own z n0 cs)),J s,K,u⟩::ops) T H n rl o5 Q:=λhn=>Rx.bd5 hs (by rw [hT];exact h2.to hn)
def ad {x y:z6}{c d:Int}{u:List Nat}(h2:Ry A l b dr j9 ops T H (n+1) (.d (.int .i64 (c+d))::rl) o5 Q)(hx:rq T n rl x= .d (.int .i64 c):=by rfl)(hy:rq T n rl y= .d (.int .i64 d):=by rfl)(h0: -9223372036854775808<=c+d/\c+d<9223372036854775808:=by first|omega|(simp only [s4,Bool.and_eq_true,A5,A7,p7,beq_eq_false_iff_ne,beq_iff_eq,decide_eq_true_eq,decide_eq_false_iff_not,Bool.not_eq_true',Bool.not_eq_false'] at *;omega)) :
  Ry A l b dr j9 (⟨.bin .add x y,K,K,u⟩::ops) T H n rl o5 Q:=Ry.pure (rs:=[]) rfl (by simp_all [l8,QH]) h2
def sb {x y:z6}{c d:Int}{u:List Nat}(h2:Ry A l b dr j9 ops T H (n+1) (.d (.int .i64 (c - d))::rl) o5 Q)(hx:rq T n rl x= .d (.int .i64 c):=by rfl)(hy:rq T n rl y= .d (.int .i64 d):=by rfl)(h0: -9223372036854775808<=c - d/\c - d<9223372036854775808:=by first|omega|(simp only [s4,Bool.and_eq_true,A5,A7,p7,beq_eq_false_iff_ne,beq_iff_eq,decide_eq_true_eq,decide_eq_false_iff_not,Bool.not_eq_true',Bool.not_eq_false'] at *;omega)) :
  Ry A l b dr j9 (⟨.bin .sub x y,K,K,u⟩::ops) T H n rl o5 Q:=Ry.pure (rs:=[]) rfl (by simp_all [l8,QH]) h2
def li {x y:z6}{k:IntKind}{c d:Int}{u:List Nat}(h2:Ry A l b dr j9 ops T H (n+1) (.d (.bool (J2 c d))::rl) o5 Q)(hx:rq T n rl x= .d (.int k c):=by rfl)(hy:rq T n rl y= .d (.int k d):=by rfl) :
  Ry A l b dr j9 (⟨.bin .lss x y,K,K,u⟩::ops) T H n rl o5 Q:=Ry.pure (rs:=[]) rfl (by grind [l8,O2,aI,cC,A5,A7,p7,bne]) h2
def lo {x y:z6}{k:IntKind}{c d:Int}{u:List Nat}(h2:Ry A l b dr j9 ops T H (n+1) (.d (.bool (bC c d))::rl) o5 Q)(hx:rq T n rl x= .d (.int k c):=by rfl)(hy:rq T n rl y= .d (.int k d):=by rfl) :
  Ry A l b dr j9 (⟨.bin .leq x y,K,K,u⟩::ops) T H n rl o5 Q:=Ry.pure (rs:=[]) rfl (by grind [l8,O2,aI,cC,A5,A7,p7,bne]) h2
def gi {x y:z6}{k:IntKind}{c d:Int}{u:List Nat}(h2:Ry A l b dr j9 ops T H (n+1) (.d (.bool (J2 d c))::rl) o5 Q)(hx:rq T n rl x= .d (.int k c):=by rfl)(hy:rq T n rl y= .d (.int k d):=by rfl) :
  Ry A l b dr j9 (⟨.bin .gtr x y,K,K,u⟩::ops) T H n rl o5 Q:=Ry.pure (rs:=[]) rfl (by grind [l8,O2,aI,cC,A5,A7,p7,bne]) h2
def go {x y:z6}{k:IntKind}{c d:Int}{u:List Nat}(h2:Ry A l b dr j9 ops T H (n+1) (.d (.bool (bC d c))::rl) o5 Q)(hx:rq T n rl x= .d (.int k c):=by rfl)(hy:rq T n rl y= .d (.int k d):=by rfl) :
  Ry A l b dr j9 (⟨.bin .geq x y,K,K,u⟩::ops) T H n rl o5 Q:=Ry.pure (rs:=[]) rfl (by grind [l8,O2,aI,cC,A5,A7,p7,bne]) h2
def ei {x y:z6}{k:IntKind}{c d:Int}{u:List Nat}(h2:Ry A l b dr j9 ops T H (n+1) (.d (.bool (A1 c d))::rl) o5 Q)(hx:rq T n rl x= .d (.int k c):=by rfl)(hy:rq T n rl y= .d (.int k d):=by rfl) :
  Ry A l b dr j9 (⟨.bin .eql x y,K,K,u⟩::ops) T H n rl o5 Q:=Ry.pure (rs:=[]) rfl (by grind [l8,O2,aI,cC,A5,A7,p7,bne]) h2
def ni {x y:z6}{k:IntKind}{c d:Int}{u:List Nat}(h2:Ry A l b dr j9 ops T H (n+1) (.d (.bool (!A1 c d))::rl) o5 Q)(hx:rq T n rl x= .d (.int k c):=by rfl)(hy:rq T n rl y= .d (.int k d):=by rfl) :
  Ry A l b dr j9 (⟨.bin .neq x y,K,K,u⟩::ops) T H n rl o5 Q:=Ry.pure (rs:=[]) rfl (by grind [l8,O2,aI,cC,A5,A7,p7,bne]) h2
def es {x y:z6}{c d:List UInt8}{u:List Nat}(h2:Ry A l b dr j9 ops T H (n+1) (.d (.bool (Q2 c d))::rl) o5 Q)(hx:rq T n rl x= .d (.str c):=by rfl)(hy:rq T n rl y= .d (.str d):=by rfl) :
  Ry A l b dr j9 (⟨.bin .eql x y,K,K,u⟩::ops) T H n rl o5 Q:=Ry.pure (rs:=[]) rfl (by grind [l8,O2,uc,I5]) h2
theorem ns {x y:z6}{c d:List UInt8}{u:List Nat}(h2:Ry A l b dr j9 ops T H (n+1) (.d (.bool (!Q2 c d))::rl) o5 Q)(hx:rq T n rl x= .d (.str c):=by rfl)(hy:rq T n rl y= .d (.str d):=by rfl) :
  Ry A l b dr j9 (⟨.bin .neq x y,K,K,u⟩::ops) T H n rl o5 Q:=Ry.pure (rs:=[]) rfl (by grind [l8,O2,uc,I5]) h2
def ng {x:z6}{t:Bool}{u:List Nat}(h2:Ry A l b dr j9 ops T H (n+1) (.d (.bool (!t))::rl) o5 Q)(hx:rq T n rl x= .d (.bool t):=by rfl) :
  Ry A l b dr j9 (⟨.un .not x,K,K,u⟩::ops) T H n rl o5 Q:=Ry.pure (rs:=[]) rfl (by grind [l8,DO]) h2
def ln {α:Type}{enc:α->List Data}{xs:List α}{x:z6}{u:List Nat}(h2:Ry A l b dr j9 ops T H (n+1) (.d (.int .i64 (O xs:Int))::rl) o5 Q)(hx:rq T n rl x= .d (B8 enc xs):=by rfl) :
  Ry A l b dr j9 (⟨.len x,K,K,u⟩::ops) T H n rl o5 Q:=Ry.pure (rs:=[]) rfl (by grind [l8,B8,i64]) h2
def ls {x:z6}{m:Nat}{cs:List Data}{u:List Nat}(h2:Ry A l b dr j9 ops T H (n+1) (.d (.int .i64 (m:Int))::rl) o5 Q)(hx:rq T n rl x= .d (.slice m cs):=by rfl) :
  Ry A l b dr j9 (⟨.len x,K,K,u⟩::ops) T H n rl o5 Q:=Ry.pure (rs:=[]) rfl (by grind [l8,i64]) h2
def lnT {α:Type}{enc:α->List Data}{xs:List α}{x:z6}{s:Nat}{T2:List c7}{u:List Nat}(hx:rq T n rl x= .d (B8 enc xs):=by rfl)(hs:T[s]?.isSome=W:=by rfl)(hT:T.set s (.d (.int .i64 (O xs:Int)))=T2:=by simp only [List.set_cons_zero,List.set_cons_succ]<;>rfl)(h2:Ry A l b dr j9 ops T2 H (n+1) (.d (.int .i64 (O xs:Int))::rl) (.slot s::o5) Q) :
  Ry A l b dr j9 (⟨.len x,J s,K,u⟩::ops) T H n rl o5 Q:=Ry.Jk (v:= .d (.int .i64 (O xs:Int))) (rs:=[]) rfl (by grind [l8,B8,i64]) rfl rfl hs M
def ldT {c:Data}{cs:List Data}{x:z6}{s:Nat}{T2:List c7}{u:List Nat}(hx:rq T n rl x= .U2 (c::cs):=by rfl)(hs:T[s]?.isSome=W:=by rfl)(hT:T.set s (.d c)=T2:=by simp only [List.set_cons_zero,List.set_cons_succ]<;>rfl)(h2:Ry A l b dr j9 ops T2 H (n+1) (.d c::rl) (.slot s::o5) Q) :
  Ry A l b dr j9 (⟨.load K x,J s,K,u⟩::ops) T H n rl o5 Q:=Ry.Jk (v:= .d c) (rs:=[]) rfl (by grind [l8]) rfl rfl hs M
def lpT {v:c7}{id o:Nat}{x:z6}{s:Nat}{T2:List c7}{u:List Nat}(hx:rq T n rl x= .ptr id o:=by rfl)(hr:rd H id o 1=J [v]:=by rfl)(hv:v.F4=v:=by rfl)(hs:T[s]?.isSome=W:=by rfl)(hT:T.set s v=T2:=by simp only [List.set_cons_zero,List.set_cons_succ]<;>rfl)(h2:Ry A l b dr j9 ops T2 H (n+1) (v::rl) (.slot s::o5) Q) :
  Ry A l b dr j9 (⟨.load K x,J s,K,u⟩::ops) T H n rl o5 Q:=Ry.Jk (v:=v) (rs:=[id]) rfl (by simp_all [l8]) hv rfl hs M
def lt {x:z6}{s:List UInt8}{u:List Nat}(h2:Ry A l b dr j9 ops T H (n+1) (.d (.int .i64 (O s:Int))::rl) o5 Q)(hx:rq T n rl x= .d (.str s):=by rfl) :
  Ry A l b dr j9 (⟨.Y0 x,K,K,u⟩::ops) T H n rl o5 Q:=Ry.pure (rs:=[]) rfl (by grind [l8,i64]) h2
def ix {α:Type} [Inhabited α] {enc:α->List Data}{xs:List α}{sz i:Nat}{x y:z6}{k:IntKind}{u:List Nat}(hx:rq T n rl x= .d (B8 enc xs):=by rfl)(hy:rq T n rl y= .d (.int k ((i:Nat):Int)):=by rfl)(hs:∀a,O (enc a)=sz:=by intro;rfl)(hi:i<O xs:=by first|omega|(simp only [s4,Bool.and_eq_true,A5,A7,p7,beq_eq_false_iff_ne,beq_iff_eq,decide_eq_true_eq,decide_eq_false_iff_not,Bool.not_eq_true',Bool.not_eq_false'] at *;omega))(h2:Ry A l b dr j9 ops T H (n+1) (.U2 (enc (Y xs i)++(xs.drop (i+1)).flatMap enc)::rl) o5 Q) :
  Ry A l b dr j9 (⟨.J4 sz x y,K,K,u⟩::ops) T H n rl o5 Q:=Ry.pure (rs:=[]) rfl (by
  have h3:=Xk hs xs i hi;simp_all [H6,l8,B8,Int.natCast_nonneg,and_self,if_true]) h2
def ixN {α:Type} [Inhabited α] {enc:α->List Data}{xs:List α}{sz i:Nat}{x y:z6}{k:IntKind}{u:List Nat}(hx:rq T n rl x= .d (B8 enc xs):=by rfl)(hy:rq T n rl y= .d (.int k (OfNat.ofNat i)):=by rfl)(hs:∀a,O (enc a)=sz:=by intro;rfl)(hi:i<O xs:=by first|omega|(simp only [s4,Bool.and_eq_true,A5,A7,p7,beq_eq_false_iff_ne,beq_iff_eq,decide_eq_true_eq,decide_eq_false_iff_not,Bool.not_eq_true',Bool.not_eq_false'] at *;omega))(h2:Ry A l b dr j9 ops T H (n+1) (.U2 (enc (Y xs i)++(xs.drop (i+1)).flatMap enc)::rl) o5 Q) :
  Ry A l b dr j9 (⟨.J4 sz x y,K,K,u⟩::ops) T H n rl o5 Q:=ix hx hy hs hi h2
def ixI {α:Type} [Inhabited α] {enc:α->List Data}{xs:List α}{sz:Nat}{e:Int}{x y:z6}{k:IntKind}{u:List Nat}(i:Nat)(he:e=i:=by first|omega|(simp only [s4,Bool.and_eq_true,A5,A7,p7,beq_eq_false_iff_ne,beq_iff_eq,decide_eq_true_eq,decide_eq_false_iff_not,Bool.not_eq_true',Bool.not_eq_false'] at *;omega))(hx:rq T n rl x= .d (B8 enc xs):=by rfl)(hy:rq T n rl y= .d (.int k e):=by rfl)(hs:∀a,O (enc a)=sz:=by intro;rfl)(hi:i<O xs:=by first|omega|(simp only [s4,Bool.and_eq_true,A5,A7,p7,beq_eq_false_iff_ne,beq_iff_eq,decide_eq_true_eq,decide_eq_false_iff_not,Bool.not_eq_true',Bool.not_eq_false'] at *;omega))(h2:Ry A l b dr j9 ops T H (n+1) (.U2 (enc (Y xs i)++(xs.drop (i+1)).flatMap enc)::rl) o5 Q) :
  Ry A l b dr j9 (⟨.J4 sz x y,K,K,u⟩::ops) T H n rl o5 Q:=ix hx (he ▸ hy) hs hi h2
def ixZ {α:Type} [Inhabited α] {enc:α->List Data}{xs:List α}{sz:Nat}{e:Int}{x y:z6}{k:IntKind}{u:List Nat}(hx:rq T n rl x= .d (B8 enc xs):=by rfl)(hy:rq T n rl y= .d (.int k e):=by rfl)(hs:∀a,O (enc a)=sz:=by intro;rfl)(hi:0<=e/\e<O xs:=by first|omega|(simp only [s4,Bool.and_eq_true,A5,A7,p7,beq_eq_false_iff_ne,beq_iff_eq,decide_eq_true_eq,decide_eq_false_iff_not,Bool.not_eq_true',Bool.not_eq_false'] at *;omega))(h2:Ry A l b dr j9 ops T H (n+1) (.U2 (enc (Y xs e.toNat)++(xs.drop (e.toNat+1)).flatMap enc)::rl) o5 Q) :
  Ry A l b dr j9 (⟨.J4 sz x y,K,K,u⟩::ops) T H n rl o5 Q:=ix hx (by rw [hy,Int.toNat_of_nonneg hi.1]) hs V h2
def ld {x:z6}{c:Data}{cs:List Data}{u:List Nat}(h2:Ry A l b dr j9 ops T H (n+1) (.d c::rl) o5 Q)(hx:rq T n rl x= .U2 (c::cs):=by rfl) :
  Ry A l b dr j9 (⟨.load K x,K,K,u⟩::ops) T H n rl o5 Q:=Ry.pure (rs:=[]) rfl (by grind [l8]) h2
def le {x:z6}{cs rest:List Data}{m:Nat}{u:List Nat}(h2:Ry A l b dr j9 ops T H (n+1) (.agg (cs.map .d)::rl) o5 Q)(hx:rq T n rl x= .U2 (cs++rest):=by rfl)(hm:O cs=m:=by rfl) :
  Ry A l b dr j9 (⟨.load (J m) x,K,K,u⟩::ops) T H n rl o5 Q:=Ry.pure (rs:=[]) rfl (by simp_all [l8]) h2
def lf {x:z6}{k:Nat}{cs:List Data}{u:List Nat}(h2:Ry A l b dr j9 ops T H (n+1) (.U2 (cs.drop k)::rl) o5 Q)(hx:rq T n rl x= .U2 cs:=by rfl) :
  Ry A l b dr j9 (⟨.off k x,K,K,u⟩::ops) T H n rl o5 Q:=Ry.pure (rs:=[]) rfl (by grind [l8]) h2
def fp {x:z6}{k id o:Nat}{u:List Nat}(h2:Ry A l b dr j9 ops T H (n+1) (.ptr id (o+k)::rl) o5 Q)(hx:rq T n rl x= .ptr id o:=by rfl) :
  Ry A l b dr j9 (⟨.off k x,K,K,u⟩::ops) T H n rl o5 Q:=Ry.pure (rs:=[]) rfl (by grind [l8]) h2
def lp {x:z6}{id o:Nat}{v:c7}{u:List Nat}(h2:Ry A l b dr j9 ops T H (n+1) (v::rl) o5 Q)(hx:rq T n rl x= .ptr id o:=by rfl)(hr:rd H id o 1=J [v]:=by rfl)(hv:v.F4=v:=by rfl) :
  Ry A l b dr j9 (⟨.load K x,K,K,u⟩::ops) T H n rl o5 Q:=Ry.pure (rs:=[id]) rfl (by simp_all [l8]) h2
def lpo {x:z6}{id o z m:Nat}{cs:List Data}{u:List Nat}(h2:Ry A l b dr j9 ops T H (n+1) (.d (.slice m cs)::rl) o5 Q)(hx:rq T n rl x= .ptr id o:=by rfl)(hr:rd H id o 1=J [.own z m cs]:=by rfl) :
  Ry A l b dr j9 (⟨.load K x,K,K,u⟩::ops) T H n rl o5 Q:=Ry.pure (rs:=[id]) rfl (by simp_all [l8,c7.F4]) h2
def lq {x:z6}{m id:Nat}{cs:List c7}{u:List Nat}(h2:Ry A l b dr j9 ops T H (n+1) (.agg cs::rl) o5 Q)(hx:rq T n rl x= .ptr id 0:=by rfl)(hr:H[id]? =J (.cells cs):=by rfl)(hm:O cs=m:=by rfl)(hv:cs.map c7.F4=cs:=by rfl) :
  Ry A l b dr j9 (⟨.load (J m) x,K,K,u⟩::ops) T H n rl o5 Q:=Ry.pure (rs:=[id]) rfl (by simp_all [l8,rd]<;>grind) h2
def et {x:z6}{i:Nat}{vs:List c7}{v:c7}{u:List Nat}(h2:Ry A l b dr j9 ops T H (n+1) (v::rl) o5 Q)(hx:rq T n rl x= .tuple vs:=by rfl)(hv:vs[i]? =J v:=by rfl) :
  Ry A l b dr j9 (⟨.extract x i,K,K,u⟩::ops) T H n rl o5 Q:=Ry.pure (rs:=[]) rfl (by simp_all [l8]) h2
def wa {op:s7}{dst:Option Nat}{j:Nat}{want:Bool}{u:List Nat}(h2:Ry A l b dr j9 (⟨op,dst,K,u⟩::ops) T H n rl o5 Q)(h:lk n rl j=J (.d (.bool want)):=by rfl) :
  Ry A l b dr j9 (⟨op,dst,J (j,want),u⟩::ops) T H n rl o5 Q:=λhn=>Rx.wanted (by rw [iJ hn];exact h) U (h2 hn)
def sk {op:s7}{j:Nat}{want:Bool}{u:List Nat}(h2:Ry A l b dr j9 ops T H (n+1) (.tuple []::rl) o5 Q)(h:lk n rl j=J (.d (.bool (!want))):=by rfl)(hk:∀L,F9 ⟨T,H,L,o5⟩ op=F:=by intro;rfl)(ha:op.A6=F:=by rfl) :
  Ry A l b dr j9 (⟨op,K,J (j,want),u⟩::ops) T H n rl o5 Q:=λhn=>Rx.au6 (by rw [iJ hn];exact h) M (hk _) ha (h2.to hn)
def st {op:s7}{j:Nat}{want:Bool}{u:List Nat}(h2:Ry A l b dr j9 ops T H (n+1) (.tuple []::rl) o5 Q)(h:lk n rl j=J (.tuple []):=by rfl)(hk:∀L,F9 ⟨T,H,L,o5⟩ op=F:=by intro;rfl)(ha:op.A6=F:=by rfl) :
  Ry A l b dr j9 (⟨op,K,J (j,want),u⟩::ops) T H n rl o5 Q:=λhn=>Rx.ZD (by simp_all [iJ]) (hk _) ha (h2.to hn)
def fk {op:s7}{dst:Option Nat}{j:Nat}{want w:Bool}{r1 r2:List c7}{u:List Nat}(h:lk n rl j=J (.d (.bool w)):=by rfl)(hj:F0 (j+1) n=W:=by rfl)(ht:rl.set (n - (j+1)) (.d (.bool W))=r1:=by simp only [Nat.reduceAdd,Nat.reduceSub,List.set_cons_zero,List.set_cons_succ]<;>rfl)(hf:rl.set (n - (j+1)) (.d (.bool F))=r2:=by simp only [Nat.reduceAdd,Nat.reduceSub,List.set_cons_zero,List.set_cons_succ]<;>rfl)(h1:w=W->Ry A l b dr j9 (⟨op,dst,J (j,want),u⟩::ops) T H n r1 o5 Q)(h2:w=F->Ry A l b dr j9 (⟨op,dst,J (j,want),u⟩::ops) T H n r2 o5 Q) :
  Ry A l b dr j9 (⟨op,dst,J (j,want),u⟩::ops) T H n rl o5 Q:=Ry.fork h hj (λe=>M) (λe=>M)
def pt {c x y:z6}{v:c7}{u:List Nat}(h2:Ry A l b dr j9 ops T H (n+1) (v::rl) o5 Q)(hc:rq T n rl c= .d (.bool W):=by rfl)(hx:Oq T n rl x (v):=by exact ⟨rfl,rfl⟩) :
  Ry A l b dr j9 (⟨.pick c x y,K,K,u⟩::ops) T H n rl o5 Q:=Ry.pure (rs:=[]) rfl (by simp [l8,hc,hx.rq]) h2
def pk {c x y:z6}{v:c7}{u:List Nat}(h2:Ry A l b dr j9 ops T H (n+1) (v::rl) o5 Q)(hc:rq T n rl c= .d (.bool F):=by rfl)(hy:Oq T n rl y (v):=by exact ⟨rfl,rfl⟩) :
  Ry A l b dr j9 (⟨.pick c x y,K,K,u⟩::ops) T H n rl o5 Q:=Ry.pure (rs:=[]) rfl (by simp [l8,hc,hy.rq]) h2
def bx {x:z6}{u:List Nat}{v:c7}{cs:List c7}{s id:Nat}{T2:List c7}{H2:n9}(hx:Oq T n rl x v:=by exact ⟨rfl,rfl⟩)(hc:v.cells? =J cs:=by rfl)(hs:T[s]?.isSome=W:=by rfl)
  (hi:O H=id:=by simp only [List.length_cons,List.length_nil,Nat.reduceAdd]<;>rfl) (hT:T.set s (.ptr id 0)=T2:=by simp only [List.set_cons_zero,List.set_cons_succ]<;>rfl) (hH:H++[.cells cs]=H2:=by simp only [List.cons_append,List.nil_append]<;>rfl)
  (h2:Ry A l b F j9 ops T2 H2 (n+1) (.ptr id 0::rl) (.slot s::o5) Q):Ry A l b F j9 (⟨.box x,J s,K,u⟩::ops) T H n rl o5 Q:=λhn=>by
 subst hi;exact Rx.aW6 (hx.op hn) hc hs (by rw [hT,hH];exact h2.to hn)
def ac {zero:List c7}{u:List Nat}{s id:Nat}{T2:List c7}{H2:n9}(hs:T[s]?.isSome=W:=by rfl)
  (hi:O H=id:=by simp only [List.length_cons,List.length_nil,Nat.reduceAdd]<;>rfl) (hT:T.set s (.ptr id 0)=T2:=by simp only [List.set_cons_zero,List.set_cons_succ]<;>rfl) (hH:H++[.cells zero]=H2:=by simp only [List.cons_append,List.nil_append]<;>rfl)
  (h2:Ry A l b F j9 ops T2 H2 (n+1) (.ptr id 0::rl) (.slot s::o5) Q):Ry A l b F j9 (⟨.alloc zero,J s,K,u⟩::ops) T H n rl o5 Q:=λhn=>by
 have hs:s<O T:=by
  simp_all
 have h2:=h2.to hn;refine Rx.stepT (N1:=0) (rs:=[]) rfl (λn _=>?_) h2;simp_all [A2,A9,D3,s7.D4,if_true,D9,E1,newId,Option.getD_none,put,N5,y8,F2,B3.F1,B3.G5,c7.F4]
def sN {m id off:Nat}{x y:z6}{u:List Nat}{v:c7}{cs:List c7}{H2:n9}(hy:rq T n rl y= .ptr id off)(hx:Oq T n rl x v)(hc:v.cells? =J cs)(hm:O cs=m)(hl:l.may id=W)(hb:C0 cs<=id+1)
  (hw:wr H id off cs=J H2) (h2:Ry A l b F j9 ops T H2 (n+1) (.any::rl) (.obj id::o5) Q):Ry A l b F j9 (⟨.store m y x,K,K,u⟩::ops) T H n rl o5 Q:=λhn=>by
 refine Rx.stepT (N1:=0) (rs:=[]) rfl (λk _=>?_) (h2.to hn);have hl' :(K3 A k l b).lim.may id=W:=hl;simp [A2,A9,D3,s7.D4,if_true,D9,T3 hn,hy,R2,(hx.op hn).F1,hc,hm,hl',hb,true_or,and_self,hw,put,N5,y8,F2]
def so {m id:Nat}{x y:z6}{u:List Nat}{v:c7}{cs old:List c7}{H2:n9}(hy:rq T n rl y= .ptr id 0:=by rfl)(hx:Oq T n rl x v:=by exact ⟨rfl,rfl⟩)(hc:v.cells? =J cs:=by rfl)(hm:O cs=m:=by rfl)(hl:l.may id=W:=by rfl)(hb:C0 cs=0:=by rfl)
  (ho:H[id]? =J (.cells old):=by rfl) (hq:O old=m:=by rfl) (hH:H.set id (.cells cs)=H2:=by simp only [List.set_cons_zero,List.set_cons_succ]<;>rfl)
  (h2:Ry A l b F j9 ops T H2 (n+1) (.any::rl) (.obj id::o5) Q):Ry A l b F j9 (⟨.store m y x,K,K,u⟩::ops) T H n rl o5 Q :=
 sN hy hx hc hm hl V (by simp_all [wr,splice,o7]) h2
def Qk {m id off:Nat}{x y:z6}{u:List Nat}{v:c7}{cs:List c7}{H2:n9}(hd:F0 (xh j9) n=W)(hy:rq T n rl y= .ptr id off)(hx:Oq T n rl x v)(hc:v.cells? =J cs)(hm:O cs=m)(hl:l.may id=W)(hb:C0 cs<=id+1)
  (hw:wr H id off cs=J H2) (h2:Ry A l b dr j9 ops T H2 (n+1) (.any::rl) (.obj id::o5) Q):Ry A l b dr j9 (⟨.store m y x,K,K,u⟩::ops) T H n rl o5 Q:=λhn=>by
 refine Rx.Mt (N1:=0) (rs:=[]) rfl rfl rfl (λk _=>?_) (λh=>?_) (h2.to hn)
 .have hl' :(K3 A k l b).lim.may id=W:=hl
  simp [A2,A9,D3,s7.D4,if_true,D9,T3 hn,hy,R2,(hx.op hn).F1,hc,hm,hl',hb,true_or,and_self,hw,put,N5,y8,F2]
 simp_all<;>omega
def so1 {id off:Nat}{x y:z6}{u:List Nat}{v:c7}{old new:List c7}{H2:n9}(hy:rq T n rl y= .ptr id off:=by rfl)(hx:Oq T n rl x v:=by exact ⟨rfl,rfl⟩)(hc:v.cells? =J [v]:=by rfl)(hl:l.may id=W:=by rfl)(hb:v.K9<=id+1:=by decide)
  (ho:H[id]? =J (.cells old):=by rfl) (hq:off<O old:=by decide) (hN:old.set off v=new:=by first|(simp only [List.set_cons_zero,List.set_cons_succ];done)|rfl) (hH:H.set id (.cells new)=H2:=by simp only [List.set_cons_zero,List.set_cons_succ]<;>rfl)
  (h2:Ry A l b F j9 ops T H2 (n+1) (.any::rl) (.obj id::o5) Q):Ry A l b F j9 (⟨.store 1 y x,K,K,u⟩::ops) T H n rl o5 Q :=
 sN hy hx hc rfl hl (by simp_all [C0]) (by
  have h1:splice old off [v]=old.set off v:=by
   simp_all [splice,List.length_singleton,List.set_eq_take_append_cons_drop,if_pos]
  grind [wr]) h2
def o1 {x:z6}{z c:Data}{u:List Nat}(h2:Ry A l b dr j9 ops T H (n+1) (.own 1 1 [c]::rl) o5 Q)(hx:rq T n rl x= .d c:=by rfl) :
  Ry A l b dr j9 (⟨.J3 1 1 [.d z] [(0,1,x)] F,K,K,u⟩::ops) T H n rl o5 Q:=Ry.pure (rs:=[]) rfl (by simp [l8,bB,hx,c7.cells?,splice,L5,c7.data?,c7.one]) h2
def ap1 {α:Type}{enc:α->List Data}{xs:List α}{j s bytes n' :Nat}{y:z6}{u' :List Nat}{d' :Option Nat}{g' :Option (Nat×Bool)}{cs' :List Data}{T2:List c7}{a:α}{c:Data}{u:List Nat}(hj:lk n rl j=J (.d (.slice n' cs')):=by rfl)(ha:j9[j]? =J ⟨.S1 (.slot s),d',g',u'⟩:=by rfl)(ht:o5.any (Touch.V7 s)=F:=by rfl)(hT:T[s]? =J (L1 1 enc xs):=by rfl)(hy:rq T n rl y= .d (.slice 1 [c]):=by rfl)(he:enc a=[c]:=by rfl)(hr:roomFor (O xs+1) bytes=W:=by simp only [roomFor,decide_eq_true_eq,List.length_append,List.length_cons,List.length_nil,List.length_take,List.length_drop,List.length_map] at * <;>omega)(hS:T.set s (.d (B8 enc xs))=T2:=by simp only [List.set_cons_zero,List.set_cons_succ]<;>rfl)(h2:Ry A l b dr j9 ops T2 H (n+1) (L1 1 enc (xs++[a])::rl) (.slot s::o5) Q) :
  Ry A l b dr j9 (⟨.append 1 bytes F (.loc j) y,K,K,u⟩::ops) T H n rl o5 Q:=Ry.aW3 hj ha ht hT hy rfl hr (by decide) (by
  simp_all [L1,B8])
def apN {α:Type}{enc:α->List Data}{xs:List α}{j s sz bytes n' :Nat}{y:z6}{u' :List Nat}{d' :Option Nat}{g' :Option (Nat×Bool)}{cs' :List Data}{T2:List c7}{ys:List α}{u:List Nat}(hj:lk n rl j=J (.d (.slice n' cs')):=by rfl)(ha:j9[j]? =J ⟨.S1 (.slot s),d',g',u'⟩:=by rfl)(ht:o5.any (Touch.V7 s)=F:=by rfl)(hT:T[s]? =J (L1 sz enc xs):=by rfl)(hy:rq T n rl y= .d (B8 enc ys):=by rfl)(hs:∀a,O (enc a)=sz:=by intro;rfl)(h0:0<sz:=by decide)(hr:roomFor (O xs+O ys) bytes=W:=by simp only [roomFor,decide_eq_true_eq,List.length_append,List.length_cons,List.length_nil,List.length_take,List.length_drop,List.length_map] at * <;>omega)(hS:T.set s (.d (B8 enc xs))=T2:=by simp only [List.set_cons_zero,List.set_cons_succ]<;>rfl)(h2:Ry A l b dr j9 ops T2 H (n+1) (L1 sz enc (xs++ys)::rl) (.slot s::o5) Q) :
  Ry A l b dr j9 (⟨.append sz bytes F (.loc j) y,K,K,u⟩::ops) T H n rl o5 Q:=Ry.aW3 hj ha ht hT hy (bW hs ys) hr h0 (by
  simp_all [L1,B8])
def al1 {α:Type}{enc:α->List Data}{xs:List α}{j bytes:Nat}{y:z6}{r2:List c7}{a:α}{c:Data}{u:List Nat}(hj:lk n rl j=J (L1 1 enc xs):=by rfl)(hb:F0 (j+1) n=W:=by rfl)(hy:rq T n rl y= .d (.slice 1 [c]):=by rfl)(he:enc a=[c]:=by rfl)(hr:roomFor (O xs+1) bytes=W:=by simp only [roomFor,decide_eq_true_eq,List.length_append,List.length_cons,List.length_nil,List.length_take,List.length_drop,List.length_map] at * <;>omega)(hS:rl.set (n - (j+1)) (.d (B8 enc xs))=r2:=by simp only [Nat.reduceAdd,Nat.reduceSub,List.set_cons_zero,List.set_cons_succ]<;>rfl)(h2:Ry A l b dr j9 ops T H (n+1) (L1 1 enc (xs++[a])::r2) o5 Q) :
  Ry A l b dr j9 (⟨.append 1 bytes F (.loc j) y,K,K,u⟩::ops) T H n rl o5 Q:=Ry.aG4 hj hb hy rfl hr (by decide) (by
  simp_all [L1,B8])
def alN {α:Type}{enc:α->List Data}{xs:List α}{j sz bytes:Nat}{y:z6}{r2:List c7}{ys:List α}{u:List Nat}(hj:lk n rl j=J (L1 sz enc xs):=by rfl)(hb:F0 (j+1) n=W:=by rfl)(hy:rq T n rl y= .d (B8 enc ys):=by rfl)(hs:∀a,O (enc a)=sz:=by intro;rfl)(h0:0<sz:=by decide)(hr:roomFor (O xs+O ys) bytes=W:=by simp only [roomFor,decide_eq_true_eq,List.length_append,List.length_cons,List.length_nil,List.length_take,List.length_drop,List.length_map] at * <;>omega)(hS:rl.set (n - (j+1)) (.d (B8 enc xs))=r2:=by simp only [Nat.reduceAdd,Nat.reduceSub,List.set_cons_zero,List.set_cons_succ]<;>rfl)(h2:Ry A l b dr j9 ops T H (n+1) (L1 sz enc (xs++ys)::r2) o5 Q) :
  Ry A l b dr j9 (⟨.append sz bytes F (.loc j) y,K,K,u⟩::ops) T H n rl o5 Q:=Ry.aG4 hj hb hy (bW hs ys) hr h0 (by
  simp_all [L1,B8])
def e0 {u:List Nat}(h2:Ry A l b dr j9 ops T H (n+1) (.own 1 0 []::rl) o5 Q) :
  Ry A l b dr j9 (⟨.J3 1 0 [] [] F,K,K,u⟩::ops) T H n rl o5 Q:=Ry.pure (rs:=[]) rfl (by rfl) h2
def cl {f:FuncId}{xs:List z6}{u:List Nat}{v:c7}{args:List c7}(hc:Pf A f args v)(h2:Ry A l b dr j9 ops T H (n+1) (v::rl) o5 Q)(ha:xs.map (rq T n rl)=args:=by rfl)(mL:A.prom f=F:=by rfl)(hm:A.mode f=1:=by rfl)
  (hb:C0 args=0:=by rfl):Ry A l b dr j9 (⟨.call f xs,K,K,u⟩::ops) T H n rl o5 Q:=λhn =>
 Rx.call mL hm (λm=>by rw [show B3.G5 T (rl.reverse++ .any::List.replicate m .any)=rq T n rl from funext λx=>T3 hn m x];exact ha) hb hc (h2.to hn)
def Wl {zero:List c7}{parts:List (Nat×Nat×z6)}{cs:List c7}{u:List Nat}(h2:Ry A l b dr j9 ops T H (n+1) (.agg cs::rl) o5 Q)(hr:bB zero (parts.map λp=>(p.1,p.2.1,rq T n rl p.2.2))=J cs:=by rfl) :
  Ry A l b dr j9 (⟨.build zero parts,K,K,u⟩::ops) T H n rl o5 Q:=Ry.pure (rs:=[]) rfl (by grind [l8]) h2
def xs {s:List UInt8}{i:Nat}{x y:z6}{k:IntKind}{u:List Nat}(hx:rq T n rl x= .d (.str s):=by rfl)(hy:rq T n rl y= .d (.int k ((i:Nat):Int)):=by rfl)(hi:i<O s:=by first|omega|(simp only [s4,Bool.and_eq_true,A5,A7,p7,beq_eq_false_iff_ne,beq_iff_eq,decide_eq_true_eq,decide_eq_false_iff_not,Bool.not_eq_true',Bool.not_eq_false'] at *;omega))(h2:Ry A l b dr j9 ops T H (n+1) (.d (.int .u8 ((Y s i).toNat:Int))::rl) o5 Q) :
  Ry A l b dr j9 (⟨.K6 x y,K,K,u⟩::ops) T H n rl o5 Q:=Ry.pure (rs:=[]) rfl (by simp_all [l8,n5,H6]) h2
def qs {neg t:Bool}{ks:List CK}{x y:z6}{va vb:List c7}{u:List Nat}(h2:Ry A l b dr j9 ops T H (n+1) (.d (.bool (neg != t))::rl) o5 Q)(hx:rq T n rl x= .agg va:=by rfl)(hy:rq T n rl y= .agg vb:=by rfl)(hr:Q6 ks va vb=J t:=by rfl) :
  Ry A l b dr j9 (⟨.Bc neg ks x y,K,K,u⟩::ops) T H n rl o5 Q:=Ry.pure (rs:=[]) rfl (by simp_all [l8]) h2
def qb {neg s t:Bool}{x y:z6}{u:List Nat}(h2:Ry A l b dr j9 ops T H (n+1) (.d (.bool (neg != (s==t)))::rl) o5 Q)(hx:rq T n rl x= .d (.bool s):=by rfl)(hy:rq T n rl y= .d (.bool t):=by rfl) :
  Ry A l b dr j9 (⟨.A1 neg x y,K,K,u⟩::ops) T H n rl o5 Q:=Ry.pure (rs:=[]) rfl (by simp_all [l8]) h2
def mm {isMax:Bool}{xs:List z6}{c d:Data}{r:List c7}{u:List Nat}(h2:Ry A l b dr j9 ops T H (n+1) (.d d::rl) o5 Q)(ha:xs.map (rq T n rl)= .d c::r:=by rfl)(hr:gF isMax c r=J d:=by rfl) :
  Ry A l b dr j9 (⟨.iL isMax xs,K,K,u⟩::ops) T H n rl o5 Q:=Ry.pure (rs:=[]) rfl (by simp_all [l8]) h2
def ip {m sz i:Nat}{x y:z6}{k:IntKind}{cs:List Data}{u:List Nat}(h2:Ry A l b dr j9 ops T H (n+1) (.U2 (cs.drop (i * sz))::rl) o5 Q)(hx:rq T n rl x= .U2 cs:=by rfl)(hy:rq T n rl y= .d (.int k ((i:Nat):Int)):=by rfl)(hi:i<m:=by omega) :
  Ry A l b dr j9 (⟨.jA m sz x y,K,K,u⟩::ops) T H n rl o5 Q:=Ry.pure (rs:=[]) rfl (by
  simp_all [l8]) h2
def svh {α:Type} [Inhabited α] {enc:α->List Data}{xs:List α}{sz i:Nat}{x y:z6}{k:IntKind}{u:List Nat}(hx:rq T n rl x= .d (B8 enc xs):=by rfl)(hy:rq T n rl y= .d (.int k ((i:Nat):Int)):=by rfl)(hs:∀a,O (enc a)=sz:=by intro;rfl)(hi:i<=O xs:=by first|omega|(simp only [s4,Bool.and_eq_true,A5,A7,p7,beq_eq_false_iff_ne,beq_iff_eq,decide_eq_true_eq,decide_eq_false_iff_not,Bool.not_eq_true',Bool.not_eq_false'] at *;omega))(h2:Ry A l b dr j9 ops T H (n+1) (.d (B8 enc (xs.take i))::rl) o5 Q) :
  Ry A l b dr j9 (⟨.Z0 sz x K (J y),K,K,u⟩::ops) T H n rl o5 Q:=Ry.pure (rs:=[]) rfl (by
  have h1:=Dr hs xs 0 i (Nat.zero_le _) hi
  grind [bW,B8,l8,V2]) h2
def svl {α:Type} [Inhabited α] {enc:α->List Data}{xs:List α}{sz i:Nat}{x y:z6}{k:IntKind}{u:List Nat}(hx:rq T n rl x= .d (B8 enc xs):=by rfl)(hy:rq T n rl y= .d (.int k ((i:Nat):Int)):=by rfl)(hs:∀a,O (enc a)=sz:=by intro;rfl)(hi:i<=O xs:=by first|omega|(simp only [s4,Bool.and_eq_true,A5,A7,p7,beq_eq_false_iff_ne,beq_iff_eq,decide_eq_true_eq,decide_eq_false_iff_not,Bool.not_eq_true',Bool.not_eq_false'] at *;omega))(h2:Ry A l b dr j9 ops T H (n+1) (.d (B8 enc (xs.drop i))::rl) o5 Q) :
  Ry A l b dr j9 (⟨.Z0 sz x (J y) K,K,K,u⟩::ops) T H n rl o5 Q:=Ry.pure (rs:=[]) rfl (by
  have h3:O (xs.flatMap enc)=O xs * sz:=bW hs xs;simp_all [y6,nj,B8,l8,V2]) h2
def svb {α:Type} [Inhabited α] {enc:α->List Data}{xs:List α}{sz i j:Nat}{x y z:z6}{k k' :IntKind}{u:List Nat}(hx:rq T n rl x= .d (B8 enc xs):=by rfl)(hy:rq T n rl y= .d (.int k ((i:Nat):Int)):=by rfl)(hz:rq T n rl z=(.d (.int k' ((j:Nat):Int))):=by rfl)(hs:∀a,O (enc a)=sz:=by intro;rfl)(hij:i<=j/\j<=O xs:=by first|omega|(simp only [s4,Bool.and_eq_true,A5,A7,p7,beq_eq_false_iff_ne,beq_iff_eq,decide_eq_true_eq,decide_eq_false_iff_not,Bool.not_eq_true',Bool.not_eq_false'] at *;omega))(h2:Ry A l b dr j9 ops T H (n+1) (.d (B8 enc ((xs.take j).drop i))::rl) o5 Q) :
  Ry A l b dr j9 (⟨.Z0 sz x (J y) (J z),K,K,u⟩::ops) T H n rl o5 Q:=Ry.pure (rs:=[]) rfl (by
  have h1:=Dr hs xs i j hij.1 hij.2;have h3:O (xs.flatMap enc)=O xs * sz:=bW hs xs;simp_all [B8,l8,V2,Int.natCast_nonneg,and_self,if_true,Int.toNat_natCast]) h2
end S
end
def Ja (z:Nat):List c7->n9->H8->Option (c7×n9)
 |[.H7,.d (.int .i64 n)],H,_=>if 0<n/\n<=1000000 then J (.own z 0 [],H) else K
 |_,_,_=>K
def rowOf (z:Nat)(H:n9):c7->Option (Nat×List Data)
 | .d (.slice n cs)=>if O cs=n * z then J (n,cs) else K
 | .s5 id z' lo n=>if z' =z then match rd H id lo (n * z) with
   |some vs=>match L5 vs with
    |some cs=>J (n,cs)
    |none=>K
   |none=>K
  else K
 |_=>K
def PI (z:Nat):List c7->n9->H8->Option (c7×n9)
 |[x],H,_=>match rowOf z H x with
  |some (0,_)=>J (.d (.slice 0 []),H)
  |some (n+1,cs)=>if n<1000000 then J (.own z (n+1) cs,H) else K
  |none=>K
 |_,_,_=>K
def CD:List (Key×c7)->Option (List (Int×Int))
 |[]=>J []
 |(.st [.i .i64 a,.i .i64 b],_)::r=>match CD r with
  |some l=>J ((a,b)::l)
  |none=>K
 |_=>K
def bt:List (Int×Int)->List Data
 |[]=>[]
 |(a,b)::r=> .int .i64 a:: .int .i64 b::bt r
def ints (l:List Int):Data:=B8 (λn=>[Z n]) l
def hasB (l:List Int)(n:Int):Bool:=l.any λx=>A1 x n
section
variable {A:Prog} {l:H8} {b:Nat}
variable {dr:Bool} {j9 ops:List o4} {T:List c7} {H:n9} {n:Nat} {rl:List c7} {o5:List Touch} {Q:List c7->n9->List c7->Prop}
namespace S
def bxn {x:z6}{u:List Nat}{v:c7}{cs:List c7}{id:Nat}{H2:n9}(hx:Oq T n rl x v:=by exact ⟨rfl,rfl⟩)(hc:v.cells? =J cs:=by rfl)
  (hi:O H=id:=by simp only [List.length_cons,List.length_nil,Nat.reduceAdd]<;>rfl) (hH:H++[.cells cs]=H2:=by simp only [List.cons_append,List.nil_append]<;>rfl)
  (h2:Ry A l b F j9 ops T H2 (n+1) (.ptr id 0::rl) o5 Q):Ry A l b F j9 (⟨.box x,K,K,u⟩::ops) T H n rl o5 Q:=λhn=>by
 subst hi;have h2:=h2.to hn;rw [<- hH] at h2;refine Rx.stepT (N1:=0) (rs:=[]) rfl (λn _=>?_) h2;simp [A2,A9,D3,s7.D4,if_true,D9,(hx.op hn).G5,hc,E1,newId,Option.getD_none,put,N5,y8,F2]
def nk {x:z6}{u:List Nat}{id o:Nat}(h2:Ry A l b dr j9 ops T H (n+1) (.ptr id o::rl) o5 Q)(hx:rq T n rl x= .ptr id o:=by rfl):Ry A l b dr j9 (⟨.cH x,K,K,u⟩::ops) T H n rl o5 Q :=
 Ry.pure (rs:=[]) rfl (by grind [l8]) h2
def mu {x y:z6}{u:List Nat}{c d:Int}(h2:Ry A l b dr j9 ops T H (n+1) (.d (.int .i64 (c * d))::rl) o5 Q)(h0: -9223372036854775808<=c * d/\c * d<9223372036854775808)(hx:rq T n rl x= .d (.int .i64 c):=by rfl)(hy:rq T n rl y= .d (.int .i64 d):=by rfl) :
  Ry A l b dr j9 (⟨.bin .mul x y,K,K,u⟩::ops) T H n rl o5 Q :=
 Ry.pure (rs:=[]) rfl (by simp_all [l8,O2,aI,cC,wrap_small]) h2
def ipM {m sz i:Nat}{x y:z6}{u:List Nat}{k:IntKind}{cs:List Data}(h2:Ry A l b dr j9 ops T H (n+1) (.U2 (cs.drop (i * sz))::rl) o5 Q)(hx:rq T n rl x= .U2 cs:=by rfl)(hy:rq T n rl y= .d (.int k (OfNat.ofNat i)):=by rfl)
  (hi:i<m:=by decide):Ry A l b dr j9 (⟨.jA m sz x y,K,K,u⟩::ops) T H n rl o5 Q:=ip h2 hx hy hi
end S
def Ex.gX {mask:List Bool}{body:p6}{R:E6->St->Prop}(Inv:Nat->List c7->n9->Prop)
  (hb:∀k T' H',Inv k T' H' ->Ex A l b body ⟨T',H'⟩ (xC R λs=>∃k',k' <k/\∃T2 H2,clean mask l.strict (O H) s=⟨T2,H2⟩/\Inv k' T2 H2)) {k:Nat} (h:Inv k (U3 mask T) H):Ex A l b (.loop mask body) ⟨T,H⟩ R:=by
 refine Ex.loop (λk s=>∃T2 H2,clean mask l.strict (O H) s=⟨T2,H2⟩/\Inv k T2 H2) (λk s ⟨T2,H2,e,hs⟩=>?_) (k:=k) ⟨U3 mask T,H,xq rfl,h⟩;simp_all
end
section
variable {A:Prog} {l:H8} {b:Nat}
variable {dr:Bool} {j9 ops:List o4} {T:List c7} {H:n9} {n:Nat} {rl:List c7} {o5:List Touch} {Q:List c7->n9->List c7->Prop}
def Ex.tq {c:z6}{d e:p6}{t:Bool}{Q:E6->St->Prop}(h2:Ex A l b d ⟨T,H⟩ Q)(h1:G5 T [] c= .d (.bool t):=by rfl)(ht:t=W:=by assumption):Ex A l b (.cond c d e) ⟨T,H⟩ Q :=
 Ex.cond h1 (λ_=>h2) (λh=>M)
namespace S
def lq3 {x:z6}{u:List Nat}{id o:Nat}{v1 v2 v3:Data}(h2:Ry A l b dr j9 ops T H (n+1) (.agg [.d v1,.d v2,.d v3]::rl) o5 Q)(hx:rq T n rl x= .ptr id o:=by rfl)(hr:rd H id o 3=J [.d v1,.d v2,.d v3]:=by rfl) :
  Ry A l b dr j9 (⟨.load (J 3) x,K,K,u⟩::ops) T H n rl o5 Q :=
 Ry.pure (rs:=[id]) rfl (by simp_all [l8,M8,List.map_nil,c7.F4]) h2
def o1z {x:z6}{u:List Nat}{z:c7}{c:Data}(h2:Ry A l b dr j9 ops T H (n+1) (.own 1 1 [c]::rl) o5 Q)(hx:rq T n rl x= .d c:=by rfl):Ry A l b dr j9 (⟨.J3 1 1 [z] [(0,1,x)] F,K,K,u⟩::ops) T H n rl o5 Q :=
 Ry.pure (rs:=[]) rfl (by simp [l8,bB,hx,c7.cells?,splice,L5,c7.data?,c7.one]) h2
def clT {f:FuncId}{xs:List z6}{u:List Nat}{v:c7}{args:List c7}{s:Nat}{T2:List c7}(hc:Pf A f args v)(ha:xs.map (rq T n rl)=args:=by rfl)(mL:A.prom f=F:=by rfl)(hm:A.mode f=1:=by rfl)
  (hb:C0 args=0:=by rfl) (hv:v.F4=v:=by rfl) (hs:T[s]?.isSome=W:=by rfl) (hT:T.set s v=T2:=by simp only [List.set_cons_zero,List.set_cons_succ]<;>rfl)
  (h2:Ry A l b dr j9 ops T2 H (n+1) (v::rl) (.slot s::o5) Q):Ry A l b dr j9 (⟨.call f xs,J s,K,u⟩::ops) T H n rl o5 Q:=λhn=>by
 obtain ⟨f8,hc⟩:=hc;have hs:s<O T:=by
  simp_all
 have h2:=h2.to hn;refine Rx.step (N1:=f8) (rs:=[]) rfl rfl (λk hk=>?_) (kB s o5) h2;have h3:D7 (K3 A k l b) (O rl.reverse) f args ⟨T,H,rl.reverse++ .any::List.replicate (O ops) .any,o5⟩=J (put ⟨T,H,rl.reverse++ .any::List.replicate (O ops) .any,o5⟩ (O rl.reverse) v) :=
  iU mL hm hb (hc k hk)
 have ha' :xs.map (B3.G5 T (rl.reverse++ .any::List.replicate (O ops) .any))=args:=by
  rw [show B3.G5 T (rl.reverse++ .any::List.replicate (O ops) .any)=rq T n rl from funext λx=>T3 hn _ x];exact ha
 have h5:B3.F1 ⟨T,H,rl.reverse++v::List.replicate (O ops) .any,o5⟩ (.loc (O rl.reverse))=(v,⟨T,H,rl.reverse++v::List.replicate (O ops) .any,o5⟩):=by
  grind [B3.F1,c7.F4,B3.G5]
 simp_all [A2,A9,D3,s7.D4,if_true,D9,y8,F2,put,N5]
end S
end
section
variable {A:Prog} {l:H8} {b:Nat}
variable {dr:Bool} {j9 ops:List o4} {T:List c7} {H:n9} {n:Nat} {rl:List c7} {o5:List Touch} {Q:List c7->n9->List c7->Prop}
namespace S
def df {f:FuncId}{a c:List c7}{u:List Nat}(h2:Ry A l b dr j9 ops T H (n+1) (.any::rl) o5 Q)(hi:A.idle f=W:=by rfl):Ry A l b dr j9 (⟨.defer (.const (.func f a c)),K,K,u⟩::ops) T H n rl o5 Q:=λhn=>by
 refine Rx.step (N1:=0) (rs:=[]) rfl rfl (λk _=>?_) (λrs=>by simp [I9]) (h2.to hn);simp_all [K3,A2,A9,D3,s7.D4,if_true,D9,B3.G5,c7.UA,c7.F4,put,N5,y8,F2]
def ipp {m sz o id o2:Nat}{x y:z6}{u:List Nat}{k:IntKind}{e:Int}(i:Nat)(he:e=i)(ho:o+i * sz=o2)(hi:i<m)(h2:Ry A l b dr j9 ops T H (n+1) (.ptr id o2::rl) o5 Q)(hx:rq T n rl x= .ptr id o:=by rfl)(hy:rq T n rl y= .d (.int k e):=by rfl) :
  Ry A l b dr j9 (⟨.jA m sz x y,K,K,u⟩::ops) T H n rl o5 Q:=by
 refine Ry.pure (rs:=[]) rfl ?_ h2;simp_all [l8]
def mf {f:FuncId}{a c:List z6}{u:List Nat}{va vc:List c7}(h2:Ry A l b dr j9 ops T H (n+1) (.func f va vc::rl) o5 Q)(ha:a.map (rq T n rl)=va:=by rfl)(hc:c.map (rq T n rl)=vc:=by rfl):Ry A l b dr j9 (⟨.an f a c,K,K,u⟩::ops) T H n rl o5 Q :=
 Ry.pure (rs:=[]) rfl (by simp_all [l8]) h2
end S
end
section
variable {A:Prog} {l:H8} {b:Nat}
variable {dr:Bool} {j9 ops:List o4} {T:List c7} {H:n9} {n:Nat} {rl:List c7} {o5:List Touch} {Q:List c7->n9->List c7->Prop}
namespace S
def bJ5 {m sz i o id:Nat}{x y:z6}{u:List Nat}{k:IntKind}(h2:Ry A l b dr j9 ops T H (n+1) (.ptr id (o+i * sz)::rl) o5 Q)(hx:rq T n rl x= .ptr id o:=by rfl)(hy:rq T n rl y= .d (.int k (OfNat.ofNat i)):=by rfl)(hi:i<m:=by decide) :
  Ry A l b dr j9 (⟨.jA m sz x y,K,K,u⟩::ops) T H n rl o5 Q:=ipp i rfl rfl hi h2 hx hy
end S
end
section
variable {A:Prog} {l:H8} {b:Nat}
variable {dr:Bool} {j9 ops:List o4} {T:List c7} {H:n9} {n:Nat} {rl:List c7} {o5:List Touch} {Q:List c7->n9->List c7->Prop}
namespace S
def sp1 {id off:Nat}{x y:z6}{u:List Nat}{v:c7}{old new:List c7}{H2:n9}(hy:rq T n rl y= .ptr id off:=by rfl)(hx:Oq T n rl x v:=by exact ⟨rfl,rfl⟩)(hc:v.cells? =J [v]:=by rfl)(hl:l.may id=W:=by rfl)(hb:v.K9<=id+1:=by exact Nat.zero_le _)
  (ho:H[id]? =J (.cells old):=by rfl) (hq:off<O old:=by simp) (hN:old.set off v=new:=by first|(simp only [List.set_cons_zero,List.set_cons_succ];done)|rfl) (hH:H.set id (.cells new)=H2:=by simp only [List.set_cons_zero,List.set_cons_succ]<;>rfl)
  (h2:Ry A l b F j9 ops T H2 (n+1) (.any::rl) (.obj id::o5) Q):Ry A l b F j9 (⟨.store 1 y x,K,K,u⟩::ops) T H n rl o5 Q:=so1 hy hx hc hl hb ho hq hN hH h2
end S
end
section
variable {A:Prog} {l:H8} {b:Nat}
variable {dr:Bool} {j9 ops:List o4} {T:List c7} {H:n9} {n:Nat} {rl:List c7} {o5:List Touch} {Q:List c7->n9->List c7->Prop}
namespace S
def alE {α:Type}{enc:α->List Data}{ys:List α}{j sz bytes:Nat}{y:z6}{u:List Nat}{r2:List c7}(hj:lk n rl j=J (.own sz 0 []):=by rfl)(hb:F0 (j+1) n=W:=by rfl)(hy:rq T n rl y= .d (B8 enc ys):=by rfl)
  (hs:∀a,O (enc a)=sz:=by intro;rfl) (h0:0<sz:=by decide) (hr:roomFor (0+O ys) bytes=W:=by simp only [roomFor,decide_eq_true_eq,List.length_append,List.length_cons,List.length_nil,List.length_take,List.length_drop,List.length_map] at * <;>omega)
  (hS:rl.set (n - (j+1)) (.d (.slice 0 []))=r2:=by simp only [Nat.reduceAdd,Nat.reduceSub,List.set_cons_zero,List.set_cons_succ]<;>rfl) (h2:Ry A l b dr j9 ops T H (n+1) (L1 sz enc ys::r2) o5 Q) :
  Ry A l b dr j9 (⟨.append sz bytes F (.loc j) y,K,K,u⟩::ops) T H n rl o5 Q :=
 Ry.aG4 hj hb hy (bW hs ys) hr h0 (by
  simp_all [L1])
end S
end
section
variable {A:Prog} {l:H8} {b:Nat}
def Ex.aa4 {c:p6}{st:St}{R:E6->St->Prop}{go:St->Prop}(P:St->Prop)(h1:Ex A l b c st (xC (λ_ _=>False) P))(h2:∀s,P s->go s):Ex A l b c st (xC R go):=by
 refine h1.mono λx s h=>?_
 cases x with
 |normal=>exact h2 s h
 |exit i=>exact h.elim
 |ret=>exact h.elim
end
section
variable {A:Prog} {l:H8} {b:Nat}
variable {dr:Bool} {j9 ops:List o4} {T:List c7} {H:n9} {n:Nat} {rl:List c7} {o5:List Touch} {Q:List c7->n9->List c7->Prop}
namespace S
def mvS {s:Nat}{u:List Nat}{w v:c7}(hv:w.F4=v)(h2:Ry A l b dr j9 ops T H (n+1) (v::rl) o5 Q)(hx:T[s]? =J w:=by rfl):Ry A l b dr j9 (⟨.S1 (.slot s),K,K,u⟩::ops) T H n rl o5 Q:=λhn=>by
 refine Rx.step (N1:=0) (rs:=[]) rfl rfl (λk _=>?_) (λrs=>by simp [I9]) (h2.to hn);simp_all [B3.G5,List.replicate,A2,A9,D3,s7.D4,e8,if_false,B3.F1,put,N5,y8,F2]
end S
end
def Pm (A:Prog)(f:FuncId)(args:List c7)(H:n9)(l:H8)(v:c7)(H1:n9):Prop:=∃N,∀n,N<=n->call A n f args H l=J (v,H1)
def Pq (A:Prog)(f:FuncId)(args:List c7)(H:n9)(l:H8)(Post:c7->n9->Prop):Prop:=∃v H1,Post v H1/\Pm A f args H l v H1
section
variable {A:Prog} {l:H8} {b:Nat}
def Pq.run {f:FuncId}{af:q6}{args:List c7}{H:n9}{Post:c7->n9->Prop}(T:List c7)(hp:A.gQ f=K)(hf:A.fn f=J af)(hn:O args=af.nparams)(hb:O H=b)
  (hT:args++List.replicate (O af.names - O args) .any=T) (h:Ex A l b af.body ⟨T,H⟩ λx s=>∃w H1,aZ af b (J (x,s))=J (w,H1)/\Post w H1):Pq A f args H l Post:=by
 obtain ⟨x,s,N,⟨w,H1,hq,hP⟩,h⟩:=h;refine ⟨w,H1,hP,N+1,λn hn' =>?_⟩;obtain ⟨n,rfl⟩:∃j,n=j+1:=⟨n - 1,V⟩;simp_all [Iq,uX,K3]
def mZ {H:n9}{s k n:Nat}(h:Q5 ((H.take n).drop s)<=n):I4 H s (k+1) n=n:=by
 simp_all [I4,if_pos]
def qo {E:Env}{k m:Nat}{f:FuncId}{args:List c7}{st:G4}{v:c7}{H1:n9}{l2:H8}(mL:E.prom f=F)(hm:E.mode f=0)(hc:I4 st.H E.lim.strict 8 (C0 args)=m)(hle:m<=O st.H)(AD:Q5 ((st.H.take m).drop E.lim.strict)<=m)
  (sC:(⟨E.lim.Xw,E.lim.Xo,m,I7 st.H E.lim.strict m⟩:H8)=l2) (h:E.cf f args (st.H.take m) l2=J (v,H1)) (hH:O H1=m) :
  D7 E k f args st=J (put { st with H:=H1++st.H.drop m,o5:= .below m::st.o5 } k v):=by
 simp_all [D7,and_self,if_true,e8,if_false]
def uY {E:Env}{k m:Nat}{f:FuncId}{args:List c7}{st:G4}{v:c7}{H1:n9}{l2:H8}(mL:E.prom f=F)(hm:E.mode f=1)(hc:I4 st.H E.lim.strict 8 (C0 args)=m)(hle:m<=O st.H)(AD:Q5 ((st.H.take m).drop E.lim.strict)<=m)
  (sC:(⟨0,m,m,I7 st.H E.lim.strict m⟩:H8)=l2) (h:E.cf f args (st.H.take m) l2=J (v,H1)) (hH:O H1=m) :
  D7 E k f args st=J (put st k v):=by
 simp_all [D7,and_self,if_true,e8,if_false]
variable {dr:Bool} {j9 ops:List o4} {T:List c7} {H:n9} {n:Nat} {rl:List c7} {o5:List Touch} {Q:List c7->n9->List c7->Prop}
def iM (hn:O rl=n)(xs:List z6):xs.map (B3.G5 T (rl.reverse++ .any::List.replicate (O ops) .any))=xs.map (rq T n rl):=by
 rw [show B3.G5 T (rl.reverse++ .any::List.replicate (O ops) .any)=rq T n rl from funext λx=>T3 hn _ x]
namespace S
def c0 {f:FuncId}{xs:List z6}{u:List Nat}{v:c7}{args:List c7}{m:Nat}{H0 HD H1 H2:n9}{l2:H8}(hc:Pm A f args H0 l2 v H1)(hH1:O H1=m)(AD:Q5 ((H.take m).drop l.strict)<=m:=by exact Nat.zero_le _)(hcl:I4 H l.strict 8 (C0 args)=m:=by rfl)
  (XH:H.take m=H0:=by rfl) (hle:F0 m (O H)=W:=by rfl) (sC:(⟨l.Xw,l.Xo,m,I7 H l.strict m⟩:H8)=l2:=by rfl) (hd:dr=W->F0 (xh j9) n=W:=by intro;rfl)
  (ha:xs.map (rq T n rl)=args:=by rfl) (mL:A.prom f=F:=by rfl) (hm:A.mode f=0:=by rfl) (hD:H.drop m=HD:=by rfl) (hA:H1++HD=H2:=by first|(simp only [List.cons_append,List.nil_append]<;>rfl)|rfl)
  (h2:Ry A l b dr j9 ops T H2 (n+1) (v::rl) (.below m::o5) Q):Ry A l b dr j9 (⟨.call f xs,K,K,u⟩::ops) T H n rl o5 Q:=λhn=>by
 obtain ⟨f8,hc⟩:=hc;subst XH hD hA;have h2:=h2.to hn;have e1:∀k,f8<=k->A2 (K3 A k l b) j9 K (O rl.reverse) ⟨.call f xs,K,K,u⟩ ⟨T,H,rl.reverse++ .any::List.replicate (O ops) .any,o5⟩=J (⟨T,H1++H.drop m,rl.reverse++v::List.replicate (O ops) .any,.below m::o5⟩,[]):=λk hk=>by
  have h3:D7 (K3 A k l b) (O rl.reverse) f args ⟨T,H,rl.reverse++ .any::List.replicate (O ops) .any,o5⟩=J (put ⟨T,H1++H.drop m,rl.reverse++ .any::List.replicate (O ops) .any,.below m::o5⟩ (O rl.reverse) v) :=
   qo mL hm hcl (l5 hle) AD sC (hc k hk) hH1
  simp_all [A2,A9,D3,s7.D4,if_true,D9,iM,y8,F2,put,N5]
 cases dr with
 |false=>exact Rx.stepT (N1:=f8) (rs:=[]) rfl e1 h2
 |true =>
  refine Rx.Mt (N1:=f8) (rs:=[]) rfl rfl rfl e1 (λh=>?_) h2;simp_all<;>omega
def c1 {f:FuncId}{xs:List z6}{u:List Nat}{v:c7}{args:List c7}{m:Nat}{H0 H1:n9}{l2:H8}(hc:Pm A f args H0 l2 v H1)(hH1:O H1=m)(h2:Ry A l b dr j9 ops T H (n+1) (v::rl) o5 Q)(AD:Q5 ((H.take m).drop l.strict)<=m:=by exact Nat.zero_le _)(hcl:I4 H l.strict 8 (C0 args)=m:=by rfl)
  (XH:H.take m=H0:=by rfl) (hle:F0 m (O H)=W:=by rfl) (sC:(⟨0,m,m,I7 H l.strict m⟩:H8)=l2:=by rfl)
  (ha:xs.map (rq T n rl)=args:=by rfl) (mL:A.prom f=F:=by rfl) (hm:A.mode f=1:=by rfl):Ry A l b dr j9 (⟨.call f xs,K,K,u⟩::ops) T H n rl o5 Q:=λhn=>by
 obtain ⟨f8,hc⟩:=hc;refine Rx.step (N1:=f8) (rs:=[]) rfl rfl (λk hk=>?_) (λrs=>by simp [I9]) (h2.to hn);simp_all [D7,K3,List.replicate,put,uY,l5,A2,A9,D3,s7.D4,if_true,D9,iM,y8,F2,N5]
def cv {f:FuncId}{x:z6}{xs:List z6}{u:List Nat}{v:c7}{first caps args:List c7}(hc:Pf A f args v)(h2:Ry A l b dr j9 ops T H (n+1) (v::rl) o5 Q)(hx:rq T n rl x= .func f first caps:=by rfl)(ha:first++xs.map (rq T n rl)++caps=args:=by rfl)(mL:A.prom f=F:=by rfl)(hm:A.mode f=1:=by rfl)
  (hb:C0 args=0:=by rfl):Ry A l b dr j9 (⟨.Y2 x xs,K,K,u⟩::ops) T H n rl o5 Q:=λhn=>by
 obtain ⟨f8,hc⟩:=hc;refine Rx.step (N1:=f8) (rs:=[]) rfl rfl (λk hk=>?_) (λrs=>by simp [I9]) (h2.to hn);have h3:D7 (K3 A k l b) (O rl.reverse) f args ⟨T,H,rl.reverse++ .any::List.replicate (O ops) .any,o5⟩=J (put ⟨T,H,rl.reverse++ .any::List.replicate (O ops) .any,o5⟩ (O rl.reverse) v) :=
  iU mL hm hb (hc k hk)
 simp_all [A2,A9,D3,s7.D4,if_true,D9,T3,iM,y8,F2,put,N5]
def lk1 {kk:KK}{zero:c7}{x y:z6}{u:List Nat}{id:Nat}{key:Key}{es:List (Key×c7)}{r:Option c7}{v:c7}(hr:eV kk key es=J r)(hv:r.getD zero=v)(h2:Ry A l b dr j9 ops T H (n+1) (v::rl) o5 Q)
  (hx:rq T n rl x= .map id:=by rfl) (hy:(rq T n rl y).Pv =J key:=by rfl) (ho:H[id]? =J (.map es):=by rfl) (hf:kk.fits key=W:=by rfl):Ry A l b dr j9 (⟨.lookup kk zero F x y,K,K,u⟩::ops) T H n rl o5 Q :=
 Ry.pure (rs:=[id]) rfl (by simp_all [l8]) h2
def lk2 {kk:KK}{zero:c7}{x y:z6}{u:List Nat}{id:Nat}{key:Key}{es:List (Key×c7)}{r:Option c7}{v:c7}{t:Bool}(hr:eV kk key es=J r)(hv:r.getD zero=v)(ht:r.isSome=t)(h2:Ry A l b dr j9 ops T H (n+1) (.tuple [v,.d (.bool t)]::rl) o5 Q)
  (hx:rq T n rl x= .map id:=by rfl) (hy:(rq T n rl y).Pv =J key:=by rfl) (ho:H[id]? =J (.map es):=by rfl) (hf:kk.fits key=W:=by rfl):Ry A l b dr j9 (⟨.lookup kk zero W x y,K,K,u⟩::ops) T H n rl o5 Q :=
 Ry.pure (rs:=[id]) rfl (by simp_all [l8]) h2
def mp {kk:KK}{x y z:z6}{u:List Nat}{id:Nat}{key:Key}{es es' :List (Key×c7)}{v:c7}{H2:n9}(hr:iK kk key v es=J es')(hk:Data.gA kk key key=J W)(hx:rq T n rl x= .map id:=by rfl)(hy:(rq T n rl y).Pv =J key:=by rfl)(hz:rq T n rl z=v:=by rfl)(hbv:v.K9<=id+1:=by exact Nat.zero_le _)(hl:l.may id=W:=by rfl)
  (ho:H[id]? =J (.map es):=by rfl) (hd:dr=W->F0 (xh j9) n=W:=by intro;rfl) (hH:H.set id (.map es')=H2:=by simp only [List.set_cons_zero,List.set_cons_succ]<;>rfl)
  (h2:Ry A l b dr j9 ops T H2 (n+1) (.any::rl) (.obj id::o5) Q):Ry A l b dr j9 (⟨.dU kk x y z,K,K,u⟩::ops) T H n rl o5 Q:=λhn=>by
 subst hH;have e1:∀k,0<=k->A2 (K3 A k l b) j9 K (O rl.reverse) ⟨.dU kk x y z,K,K,u⟩ ⟨T,H,rl.reverse++ .any::List.replicate (O ops) .any,o5⟩=J (⟨T,H.set id (.map es'),rl.reverse++ .any::List.replicate (O ops) .any,.obj id::o5⟩,[]):=λk _=>by
  simp_all [K3,A2,A9,D3,s7.D4,if_true,D9,T3,W7,and_self,put,N5,y8,F2]
 cases dr with
 |false=>exact Rx.stepT (N1:=0) (rs:=[]) rfl e1 (h2.to hn)
 |true =>
  refine Rx.Mt (N1:=0) (rs:=[]) rfl rfl rfl e1 (λh=>?_) (h2.to hn);simp_all<;>omega
end S
end
def dmap (ds:List (List UInt8)):List (Key×c7):=ds.map λs=>(.str s,.d (.bool W))
def gH:List (List UInt8)->Nat->List (Key×c7)
 |[],_=>[]
 |s::l,i=>(.str s,.d (.int .i64 (i:Int)))::gH l (i+1)
theorem FE (s:List UInt8):∀ds,eV .s (.str s) (dmap ds)=J (if ds.any λy=>Q2 y s then J (.d (.bool W)) else K)
 |[]=>by rfl
 |d::ds=>by
  have h1:=FE s ds
  grind [dmap,eV,Data.gA,Q2]
theorem KJ (s:List UInt8):∀ds,(ds.any λy=>Q2 y s)=F->iK .s (.str s) (.d (.bool W)) (dmap ds)=J (dmap (ds++[s]))
 |[],_=>by rfl
 |d::ds,h=>by
  simp only [List.any_cons,E5] at h;have h1:=KJ s ds h.2
  grind [aC6,dmap,iK,Data.gA]
theorem LJ (s:List UInt8):∀(l:List (List UInt8)) (i:Nat),(l.any λy=>Q2 y s)=F->iK .s (.str s) (.d (.int .i64 ((i+O l:Nat):Int))) (gH l i)=J (gH (l++[s]) i)
 |[],i,_=>by rfl
 |d::l,i,h=>by
  simp only [List.any_cons,E5] at h;have h1:=LJ s l (i+1) h.2
  grind [aC6,gH,iK,Data.gA]
theorem vJ:∀(l:List (List UInt8)) (i:Nat),C0 ((gH l i).map (·.2))=0
 |[],_=>rfl
 |_::l,i=>by simp [gH,C0,c7.K9,vJ l (i+1)]
theorem vp:∀l:List (List UInt8),C0 ((dmap l).map (·.2))=0
 |[]=>rfl
 |_::l=>by
  have:=vp l;simp_all [dmap,M8,C0,c7.K9,Nat.zero_max]
section
variable {A:Prog} {l:H8} {b:Nat}
variable {dr:Bool} {j9 ops:List o4} {T:List c7} {H:n9} {n:Nat} {rl:List c7} {o5:List Touch} {Q:List c7->n9->List c7->Prop}
def Uw (id off:Nat)(o5:List Touch)(rs:List Nat):I9 ((Touch.cell id off::o5).take (O (Touch.cell id off::o5) - O o5)) rs=F:=by
 simp_all [I9,Touch.G8]
def Ry.aG3 {j k sz bytes id off:Nat}{y:z6}{u u' :List Nat}{d' :Option Nat}{g' :Option (Nat×Bool)}{n' len m:Nat}{cs' cells new:List Data}{old:List c7}
  (hj:lk n rl j=J (.d (.slice n' cs'))) (ha:j9[j]? =J ⟨.load K (.loc k),d',g',u'⟩) (hk:lk n rl k=J (.ptr id off)) (ht:o5.any (Touch.aR id off)=F) (hl:l.may id=W) (ho:H[id]? =J (.cells old)) (hc:old[off]? =J (.own sz len cells))
  (hy:rq T n rl y= .d (.slice m new)) (hn' :O new=m * sz) (hr:roomFor (len+m) bytes=W) (h0:0<sz)
  (h2:Ry A l b dr j9 ops T (H.set id (.cells (old.set off (.d (.slice len cells))))) (n+1) (.own sz (len+m) (cells++new)::rl) (.cell id off::o5) Q):Ry A l b dr j9 (⟨.append sz bytes F (.loc j) y,K,K,u⟩::ops) T H n rl o5 Q:=λhn=>by
 have hjl:rl.reverse[j]? =J (.d (.slice n' cs')):=by simp_all [iJ]
 have br:rl.reverse[k]? =J (.ptr id off):=by simp_all [iJ]
 have hL:∀r:List c7,(rl.reverse++ .any::r)[j]? =J (.d (.slice n' cs')):=λr=>qL hjl _
 have hK:∀r:List c7,(rl.reverse++ .any::r)[k]? =J (.ptr id off):=λr=>qL br _
 have aK2:B3.G5 T (rl.reverse++ .any::List.replicate (O ops) .any) (.loc j)= .d (.slice n' cs'):=by simp [B3.G5,hL,c7.F4]
 refine Rx.step (N1:=0) (rs:=[]) (by simp_all [F9]) rfl (λq _=>?_) (Uw id off o5) (h2.to hn);have hl' :(K3 A q l b).lim.may id=W:=hl;have hs:C1 H sz (.d (.slice m new))=J (m,new.map .d):=by simp_all [C1,if_true]
 simp [A2,A9,D3,s7.D4,if_true,D9,aK2,K0,T3 hn,hy,hs,iC,e8,if_false,Q7,hL,ha,aJ,bF,hK,ht,hl',Bool.not_true,Bool.or_self,ho,hc,hr,h0,and_self,put,N5,y8,F2]
namespace S
def o2 {x:z6}{u:List Nat}{z1 z2:c7}{c d:Data}(h2:Ry A l b dr j9 ops T H (n+1) (.own 2 1 [c,d]::rl) o5 Q)(hx:rq T n rl x= .agg [.d c,.d d]:=by rfl):Ry A l b dr j9 (⟨.J3 2 1 [z1,z2] [(0,2,x)] F,K,K,u⟩::ops) T H n rl o5 Q :=
 Ry.pure (rs:=[]) rfl (by simp [l8,bB,hx,c7.cells?,splice,L5,c7.data?,c7.one]) h2
def ac2 {α:Type}{enc:α->List Data}{xs:List α}{a:α}{j k bytes id off:Nat}{y:z6}{u u' :List Nat}{d' :Option Nat}{g' :Option (Nat×Bool)}{n' :Nat}{cs' :List Data}{c d:Data}{old new:List c7}{H2:n9}
  (hr:roomFor (O xs+1) bytes=W) (he:enc a=[c,d]) (hj:lk n rl j=J (.d (.slice n' cs')):=by rfl) (ha:j9[j]? =J ⟨.load K (.loc k),d',g',u'⟩:=by rfl) (hk:lk n rl k=J (.ptr id off):=by rfl) (ht:o5.any (Touch.aR id off)=F:=by rfl) (hl:l.may id=W:=by rfl) (ho:H[id]? =J (.cells old):=by rfl) (hc:old[off]? =J (L1 2 enc xs):=by rfl)
  (hy:rq T n rl y= .d (.slice 1 [c,d]):=by rfl) (hN:old.set off (.d (B8 enc xs))=new:=by rfl) (hH:H.set id (.cells new)=H2:=by simp only [List.set_cons_zero,List.set_cons_succ]<;>rfl)
  (h2:Ry A l b dr j9 ops T H2 (n+1) (L1 2 enc (xs++[a])::rl) (.cell id off::o5) Q):Ry A l b dr j9 (⟨.append 2 bytes F (.loc j) y,K,K,u⟩::ops) T H n rl o5 Q :=
 Ry.aG3 hj ha hk ht hl ho hc hy rfl hr (by decide) (by
  have e1:L1 2 enc (xs++[a])= .own 2 (O xs+1) (xs.flatMap enc++[c,d]):=by simp [L1,he]
  rw [e1] at h2;subst hH hN;exact h2)
def ac1 {α:Type}{enc:α->List Data}{xs:List α}{a:α}{j k bytes id off:Nat}{y:z6}{u u' :List Nat}{d' :Option Nat}{g' :Option (Nat×Bool)}{n' :Nat}{cs' :List Data}{c:Data}{old new:List c7}{H2:n9}
  (hr:roomFor (O xs+1) bytes=W) (he:enc a=[c]) (hj:lk n rl j=J (.d (.slice n' cs')):=by rfl) (ha:j9[j]? =J ⟨.load K (.loc k),d',g',u'⟩:=by rfl) (hk:lk n rl k=J (.ptr id off):=by rfl) (ht:o5.any (Touch.aR id off)=F:=by rfl) (hl:l.may id=W:=by rfl) (ho:H[id]? =J (.cells old):=by rfl) (hc:old[off]? =J (L1 1 enc xs):=by rfl)
  (hy:rq T n rl y= .d (.slice 1 [c]):=by rfl) (hN:old.set off (.d (B8 enc xs))=new:=by rfl) (hH:H.set id (.cells new)=H2:=by simp only [List.set_cons_zero,List.set_cons_succ]<;>rfl)
  (h2:Ry A l b dr j9 ops T H2 (n+1) (L1 1 enc (xs++[a])::rl) (.cell id off::o5) Q):Ry A l b dr j9 (⟨.append 1 bytes F (.loc j) y,K,K,u⟩::ops) T H n rl o5 Q :=
 Ry.aG3 hj ha hk ht hl ho hc hy rfl hr (by decide) (by
  have e1:L1 1 enc (xs++[a])= .own 1 (O xs+1) (xs.flatMap enc++[c]):=by simp [L1,he]
  rw [e1] at h2;subst hH hN;exact h2)
def soO {id off j z n0:Nat}{y:z6}{u:List Nat}{cs:List Data}{old new:List c7}{H2:n9}{r2:List c7}(hy:rq T n rl y= .ptr id off:=by rfl)(hj:lk n rl j=J (.own z n0 cs):=by rfl)(hjb:F0 (j+1) n=W:=by rfl)(hl:l.may id=W:=by rfl)
  (ho:H[id]? =J (.cells old):=by rfl) (hq:F0 (off+1) (O old)=W:=by rfl) (hd:dr=W->F0 (xh j9) n=W:=by intro;rfl) (hN:old.set off (.own z n0 cs)=new:=by rfl) (hH:H.set id (.cells new)=H2:=by simp only [List.set_cons_zero,List.set_cons_succ]<;>rfl)
  (hS:rl.set (n - (j+1)) (.d (.slice n0 cs))=r2:=by simp only [Nat.reduceAdd,Nat.reduceSub,List.set_cons_zero,List.set_cons_succ]<;>rfl)
  (h2:Ry A l b dr j9 ops T H2 (n+1) (.any::r2) (.obj id::o5) Q):Ry A l b dr j9 (⟨.store 1 y (.loc j),K,K,u⟩::ops) T H n rl o5 Q:=λhn=>by
 subst hH hN hS;have Rq :off<O old:=l5 hq;have hjl:rl.reverse[j]? =J (.own z n0 cs):=by simp_all [iJ]
 have hL:∀r:List c7,(rl.reverse++ .any::r)[j]? =J (.own z n0 cs):=λr=>qL hjl _
 have hjn:j<O rl.reverse:=by grind
 have hlen:O (rl.reverse.set j (.d (.slice n0 cs)))=O rl.reverse:=U
 have h4:∀(a v:c7) (r:List c7),(rl.reverse.set j (.d (.slice n0 cs))++a::r).set (O rl.reverse) v=rl.reverse.set j (.d (.slice n0 cs))++v::r:=λa v r=>M
 have h1:splice old off [.own z n0 cs]=old.set off (.own z n0 cs):=by
  simp_all [splice,List.length_singleton,List.set_eq_take_append_cons_drop,if_pos]
 have hw:wr H id off [.own z n0 cs]=J (H.set id (.cells (old.set off (.own z n0 cs)))):=by
  simp_all [wr,List.length_singleton,if_pos]
 have h2' :=h2.to (by simp [hn]);rw [<- Jq hn hjb] at h2';have e1:∀k,0<=k->A2 (K3 A k l b) j9 K (O rl.reverse) ⟨.store 1 y (.loc j),K,K,u⟩ ⟨T,H,rl.reverse++ .any::List.replicate (O ops) .any,o5⟩=J (⟨T,H.set id (.cells (old.set off (.own z n0 cs))),rl.reverse.set j (.d (.slice n0 cs))++ .any::List.replicate (O ops) .any,.obj id::o5⟩,[]):=λk _=>by
  have hl' :(K3 A k l b).lim.may id=W:=hl;have hx:B3.F1 ⟨T,H,rl.reverse++ .any::List.replicate (O ops) .any,o5⟩ (.loc j)=(.own z n0 cs,⟨T,H,rl.reverse.set j (.d (.slice n0 cs))++ .any::List.replicate (O ops) .any,o5⟩):=by
   simp_all [B3.F1]
  have hb0:C0 [c7.own z n0 cs]<=id+1:=Nat.zero_le _;have hc1:(c7.own z n0 cs).cells? =J [.own z n0 cs]:=rfl;simp_all [A2,A9,D3,s7.D4,if_true,D9,T3,R2,List.length_singleton,true_or,and_self,put,y8,F2]
 cases dr with
 |false=>exact Rx.stepT (N1:=0) (rs:=[]) hlen e1 h2'
 |true =>
  refine Rx.Mt (N1:=0) (rs:=[]) hlen rfl rfl e1 (λh=>?_) h2';simp_all<;>omega
end S
end
section
variable {A:Prog} {l:H8} {b:Nat}
variable {dr:Bool} {j9 ops:List o4} {T:List c7} {H:n9} {n:Nat} {rl:List c7} {o5:List Touch} {Q:List c7->n9->List c7->Prop}
namespace S
def cv1 {f:FuncId}{x:z6}{xs:List z6}{u:List Nat}{v:c7}{first caps args:List c7}{m:Nat}{H0 H1:n9}{l2:H8}(hc:Pm A f args H0 l2 v H1)(hH1:O H1=m)(h2:Ry A l b dr j9 ops T H (n+1) (v::rl) o5 Q)(AD:Q5 ((H.take m).drop l.strict)<=m:=by exact Nat.zero_le _)(hcl:I4 H l.strict 8 (C0 args)=m:=by rfl)
  (XH:H.take m=H0:=by rfl) (hle:F0 m (O H)=W:=by rfl) (sC:(⟨0,m,m,I7 H l.strict m⟩:H8)=l2:=by rfl) (hx:rq T n rl x= .func f first caps:=by rfl)
  (ha:first++xs.map (rq T n rl)++caps=args:=by rfl) (mL:A.prom f=F:=by rfl) (hm:A.mode f=1:=by rfl):Ry A l b dr j9 (⟨.Y2 x xs,K,K,u⟩::ops) T H n rl o5 Q:=λhn=>by
 obtain ⟨f8,hc⟩:=hc;subst XH;refine Rx.step (N1:=f8) (rs:=[]) rfl rfl (λk hk=>?_) (λrs=>by simp [I9]) (h2.to hn);have h3:D7 (K3 A k l b) (O rl.reverse) f args ⟨T,H,rl.reverse++ .any::List.replicate (O ops) .any,o5⟩=J (put ⟨T,H,rl.reverse++ .any::List.replicate (O ops) .any,o5⟩ (O rl.reverse) v) :=
  uY mL hm hcl (l5 hle) AD sC (hc k hk) hH1
 simp_all [A2,A9,D3,s7.D4,if_true,D9,T3,iM,y8,F2,put,N5]
def cv0 {f:FuncId}{x:z6}{xs:List z6}{u:List Nat}{v:c7}{first caps args:List c7}{m:Nat}{H0 HD H1 H2:n9}{l2:H8}(hc:Pm A f args H0 l2 v H1)(hH1:O H1=m)(AD:Q5 ((H.take m).drop l.strict)<=m:=by exact Nat.zero_le _)(hcl:I4 H l.strict 8 (C0 args)=m:=by rfl)
  (XH:H.take m=H0:=by rfl) (hle:F0 m (O H)=W:=by rfl) (sC:(⟨l.Xw,l.Xo,m,I7 H l.strict m⟩:H8)=l2:=by rfl) (hx:rq T n rl x= .func f first caps:=by rfl)
  (ha:first++xs.map (rq T n rl)++caps=args:=by rfl) (mL:A.prom f=F:=by rfl) (hm:A.mode f=0:=by rfl) (hD:H.drop m=HD:=by rfl) (hA:H1++HD=H2:=by first|(simp only [List.cons_append,List.nil_append]<;>rfl)|rfl)
  (h2:Ry A l b F j9 ops T H2 (n+1) (v::rl) (.below m::o5) Q):Ry A l b F j9 (⟨.Y2 x xs,K,K,u⟩::ops) T H n rl o5 Q:=λhn=>by
 obtain ⟨f8,hc⟩:=hc;subst XH hD hA;refine Rx.stepT (N1:=f8) (rs:=[]) rfl (λk hk=>?_) (h2.to hn);have h3:D7 (K3 A k l b) (O rl.reverse) f args ⟨T,H,rl.reverse++ .any::List.replicate (O ops) .any,o5⟩=J (put ⟨T,H1++H.drop m,rl.reverse++ .any::List.replicate (O ops) .any,.below m::o5⟩ (O rl.reverse) v) :=
  qo mL hm hcl (l5 hle) AD sC (hc k hk) hH1
 simp_all [A2,A9,D3,s7.D4,if_true,D9,T3,iM,y8,F2,put,N5]
end S
end
section
variable {A:Prog} {l:H8} {b:Nat}
def LC (j9:List o4)(na k:Nat)(e:jx):Prop :=
 na∉e.reads/\(k<xh j9->∀rs,na∉rs->I9 e.KZ rs=F)/\e.Jv<=na/\(∀i,j9[k]? =J i->i.op.A6=W->e.id=na)/\(∀i,j9[k]? =J i->i.op.rdr=F->e.reads=[])
def Rz (A:Prog)(l:H8)(b:Nat)(j9 ops:List o4)(T:List c7)(H:n9)(n:Nat)(rl:List c7)(o5:List Touch)(na:Nat)(Q:List c7->n9->List c7->Prop):Prop :=
 O rl=n->∃r N,Q r.T r.H r.L/\∀k,N<=k->∃lg:List jx,R9 (K3 A k l b) j9 ops n na ⟨T,H,rl.reverse++List.replicate (O ops) .any,o5⟩=J (r,lg)/\O lg=O ops/\∀j e,lg[j]? =J e->LC j9 na (n+j) e
variable {j9 ops:List o4} {T:List c7} {H:n9} {n:Nat} {rl:List c7} {o5:List Touch} {na:Nat} {Q:List c7->n9->List c7->Prop}
def Rn.bL3 {T:List c7}{H:n9}{s:Nat}(Ka:Z2 ops=[.dead])(ED:slotsOf ops=[.slot s])(hu:∀i,i∈ops->∀e,e∈i.dm->e<O ops)(h:Rz A l b ops ops T (H++[.dead]) 0 [] [.slot s] (O H) Q):Rn A l b ops W T H Q:=by
 obtain ⟨r,N,hq,h⟩:=h rfl;refine ⟨r,N,hq,λn hn=>?_⟩;obtain ⟨lg,e1,e2,e3⟩:=h n hn;simp [Nat.zero_add] at e1 e3;have bG5:fK ops lg=W:=by
  simp only [fK,L4];rintro ⟨i,le⟩ EZ e he;obtain ⟨j,hj,hji⟩:=O8 EZ;simp [List.length_zip] at hj;have hj1:j<O ops:=V
  have hj2:j<O lg:=V
  simp [List.getElem_zip] at hji;obtain ⟨rfl,rfl⟩:=hji;have hi:ops[j]∈ops:=List.getElem_mem hj1;have hlt:=hu _ hi e he;have he2:e<O lg:=V
  rw [n5 he2];have c1:=e3 j _ (n5 hj2);have c2:=e3 e _ (n5 he2);cases hr:ops[j].op.rdr with
  |true =>
   have hb:=BO hi hr he;have h5:=c2.2.1 hb _ c1.1;have ha:ops[j].op.makes=F:=by
    cases ho:ops[j].op<;>rw [ho] at hr<;>first|rfl|(cases hr)
   simp [h5,ha]
  |false =>
   have h5:=c1.2.2.2.2 _ (n5 hj1) hr;cases hm:ops[j].op.makes with
   |false=>simp [h5,I9]
   |true =>
    have ha:ops[j].op.A6=W:=by
     cases ho:ops[j].op<;>rw [ho] at hm<;>first|exact hm|(cases hm)
    have h7:=c1.2.2.2.1 _ (n5 hj1) ha;have h6:=c2.2.2.1;simp_all [I9]
 simp_all [S0,if_true]
def Rz.nil (h:Q T H rl.reverse):Rz A l b j9 [] T H n rl o5 na Q:=λ_=>⟨⟨T,H,rl.reverse,o5⟩,0,h,λ_ _=>⟨[],by simp [R9],rfl,λj e h=>by simp at h⟩⟩
def Rz.step {i:o4}{T' :List c7}{H' :n9}{v:c7}{cF :List Touch}{rs:List Nat}{N1:Nat}(hk:∀L,F9 ⟨T,H,L,o5⟩ i.op=F)(hi:j9[n]? =J i)
  (h:O rl=n->∀k,N1<=k->A2 (K3 A k l b) j9 (if i.op.A6 then J na else K) n i ⟨T,H,rl.reverse++ .any::List.replicate (O ops) .any,o5⟩=J (⟨T',H',rl.reverse++v::List.replicate (O ops) .any,cF⟩,rs))
  (hr:na∉rs) (ht:n<xh j9->∀rs,na∉rs->I9 (cD (if i.op.A6 then J na else K)++cF.take (O cF - O o5)) rs=F) (XU:∀k,I6 (K3 A k l b) ⟨T,H,rl.reverse++ .any::List.replicate (O ops) .any,o5⟩ i.op<=na)
  (hn2:i.op.A6=W->∀j,j∈ops->j.op.A6=F) (h2:∀Yr,(i.op.A6=F->Yr =na)->Rz A l b j9 ops T' H' (n+1) (v::rl) cF na Q/\(i.op.A6=W->∀k r lg,R9 (K3 A k l b) j9 ops (n+1) na ⟨T',H',(v::rl).reverse++List.replicate (O ops) .any,cF⟩=J (r,lg)->R9 (K3 A k l b) j9 ops (n+1) (na+1) ⟨T',H',(v::rl).reverse++List.replicate (O ops) .any,cF⟩=J (r,lg))) :
  Rz A l b j9 (i::ops) T H n rl o5 na Q:=λhn=>by
 obtain ⟨h2,h2a⟩:=h2 na (λ_=>rfl);obtain ⟨r,N,hq,h2⟩:=h2 (by simp [hn]);refine ⟨r,max N N1,hq,λk hkk=>?_⟩;obtain ⟨lg,e1,e2,e3⟩:=h2 k V;have h4:=h hn k V;have e1' :R9 (K3 A k l b) j9 ops (n+1) (if i.op.A6 then na+1 else na) ⟨T',H',rl.reverse++v::List.replicate (O ops) .any,cF⟩=J (r,lg):=by
  grind
 refine ⟨aM (K3 A k l b) i (if i.op.A6 then J na else K) ⟨T,H,rl.reverse++ .any::List.replicate (O ops) .any,o5⟩ ⟨T',H',rl.reverse++v::List.replicate (O ops) .any,cF⟩ rs::lg,?_,by simp [e2],?_⟩
 .simp_all [R9,List.length_cons,List.replicate_succ,lu,Bool.false_and,e8,if_false]
 .intro j e he
  cases j with
  |zero =>
   simp [List.getElem?_cons_zero,Option.some.injEq] at he;subst he;refine ⟨hr,λhb=>ht V,XU k,λi' hi' ha=>?_,λi' hi' hr' =>?_⟩
   .simp_all [Nat.add_zero,aM]
   .rw [Nat.add_zero,hi] at hi'
    cases hi';exact DE h4 hr'
  |succ j =>
   grind
theorem Dh {E:Env}:∀(ops:List o4) (k na Yr :Nat) (st:G4),(∀j,j∈ops->j.op.A6=F)->R9 E j9 ops k na st=R9 E j9 ops k Yr st
 |[],_,_,_,_,_=>rfl
 |i::ops,k,na,Yr,st,h=>by
  have hi:=h i (List.mem_cons_self);simp [R9,hi,e8,if_false];cases lu E j9 K k i st with
  |none=>rfl
  |some x=>simp [Dh ops (k+1) na Yr x.1 (λj hj=>h j (List.mem_cons_of_mem _ hj))]
end
section
variable {A:Prog} {l:H8} {b:Nat}
variable {j9 ops:List o4} {T:List c7} {H:n9} {n:Nat} {rl:List c7} {o5:List Touch} {na:Nat} {Q:List c7->n9->List c7->Prop}
def Rz.simple {i:o4}{v:c7}{rs:List Nat}{N1:Nat}(ha:i.op.A6=F)(hk:∀L,F9 ⟨T,H,L,o5⟩ i.op=F)(hi:j9[n]? =J i)
  (h:O rl=n->∀k,N1<=k->A2 (K3 A k l b) j9 K n i ⟨T,H,rl.reverse++ .any::List.replicate (O ops) .any,o5⟩=J (⟨T,H,rl.reverse++v::List.replicate (O ops) .any,o5⟩,rs))
  (hr:na∉rs) (hs:∀k,I6 (K3 A k l b) ⟨T,H,rl.reverse++ .any::List.replicate (O ops) .any,o5⟩ i.op<=na) (h2:Rz A l b j9 ops T H (n+1) (v::rl) o5 na Q):Rz A l b j9 (i::ops) T H n rl o5 na Q :=
 Rz.step (N1:=N1) hk hi (λhn k hk=>M) hr (λ_ rs _=>by grind [cD,I9]) hs (λh=>M) (λ_ _=>⟨h2,λh=>M⟩)
namespace S
def zn (h:Q T H rl.reverse):Rz A l b j9 [] T H n rl o5 na Q:=Rz.nil h
def zp {op:s7}{u:List Nat}{rs:List Nat}(v:c7)(hp:l8 (rq T n rl) H op=J (v,rs))(h2:Rz A l b j9 ops T H (n+1) (v::rl) o5 na Q)(hr:na∉rs:=by simp)(hE:op.D4=F:=by rfl)(ha:op.A6=F:=by rfl)(hk:∀L,F9 ⟨T,H,L,o5⟩ op=F:=by intro;rfl)(hi:j9[n]? =J ⟨op,K,K,u⟩:=by rfl)
  (hs:∀k,I6 (K3 A k l b) ⟨T,H,rl.reverse++ .any::List.replicate (O ops) .any,o5⟩ op<=na:=by intro;exact Nat.zero_le _):Rz A l b j9 (⟨op,K,K,u⟩::ops) T H n rl o5 na Q:=by
 refine Rz.simple (N1:=0) (rs:=rs) ha hk hi (λhn k _=>?_) hr hs h2;have hmv:∀x,op≠ .S1 x:=by
  grind [l8]
 have h4:l8 (B3.G5 T (rl.reverse++ .any::List.replicate (O ops) .any)) H op=J (v,rs):=by
  rw [show B3.G5 T (rl.reverse++ .any::List.replicate (O ops) .any)=rq T n rl from funext λx=>T3 hn _ x];exact hp
 have hsm:∀(a:c7) (r:List c7),(rl.reverse++a::r).set n v=rl.reverse++v::r:=λa r=>M
 simp_all [D3,K3,List.replicate,absurd,e8,if_false,put,s7.D4,A2,A9,y8,F2]
def zm {x:z6}{u:List Nat}{v:c7}(h2:Rz A l b j9 ops T H (n+1) (v::rl) o5 na Q)(hx:Oq T n rl x v:=by exact ⟨rfl,rfl⟩)(hi:j9[n]? =J ⟨.S1 x,K,K,u⟩:=by rfl):Rz A l b j9 (⟨.S1 x,K,K,u⟩::ops) T H n rl o5 na Q:=by
 refine Rz.simple (N1:=0) (rs:=[]) rfl (λ_=>rfl) hi (λhn k _=>?_) U (λk=>Nat.zero_le _) h2;have hsm:∀(a:c7) (r:List c7),(rl.reverse++a::r).set n v=rl.reverse++v::r:=λa r=>M
 simp [A2,A9,D3,s7.D4,e8,if_false,(hx.op hn).F1,put,hsm,y8,F2]
def zc {f:FuncId}{xs:List z6}{u:List Nat}{v:c7}{args:List c7}{m:Nat}{H0 H1:n9}{l2:H8}(hc:Pm A f args H0 l2 v H1)(hH1:O H1=m)(h2:Rz A l b j9 ops T H (n+1) (v::rl) o5 na Q)(hmn:m<=na:=by decide)(AD:Q5 ((H.take m).drop l.strict)<=m:=by exact Nat.zero_le _)(hcl:I4 H l.strict 8 (C0 args)=m:=by rfl)
  (XH:H.take m=H0:=by rfl) (hle:F0 m (O H)=W:=by rfl) (sC:(⟨0,m,m,I7 H l.strict m⟩:H8)=l2:=by rfl)
  (ha:xs.map (rq T n rl)=args:=by rfl) (mL:A.prom f=F:=by rfl) (hm:A.mode f=1:=by rfl) (hi:j9[n]? =J ⟨.call f xs,K,K,u⟩:=by rfl) (hn0:O rl=n:=by rfl):Rz A l b j9 (⟨.call f xs,K,K,u⟩::ops) T H n rl o5 na Q:=by
 obtain ⟨f8,hc⟩:=hc;have UZ :∀k,(K3 A k l b).prom f=F:=λ_=>mL
 refine Rz.simple (N1:=f8) (rs:=[]) rfl (λ_=>rfl) hi (λhn k hk=>?_) U (λk=>?_) h2
 .have hsm:∀(a:c7) (r:List c7),(rl.reverse++a::r).set n v=rl.reverse++v::r:=λa r=>M
  simp_all [D7,K3,List.replicate,put,uY,l5,A2,A9,D3,s7.D4,if_true,D9,iM,y8,F2]
 .have aY8 :I4 H (K3 A k l b).lim.strict 8 (C0 args)=m:=hcl
  simp_all [I6,e8,if_false,iM]
def za {zero:List c7}{u:List Nat}{s:Nat}{T2:List c7}{H2:n9}(hs:T[s]?.isSome=W:=by rfl)(htc:o5.any (Touch.V7 s)=W:=by rfl)(hT:T.set s (.ptr na 0)=T2:=by simp only [List.set_cons_zero,List.set_cons_succ]<;>rfl)(hH:H.set na (.cells zero)=H2:=by simp only [List.set_cons_zero,List.set_cons_succ]<;>rfl)
  (hi:j9[n]? =J ⟨.alloc zero,J s,K,u⟩:=by rfl) (hno:ops.all (λj=> !j.op.A6)=W:=by rfl) (h2:Rz A l b j9 ops T2 H2 (n+1) (.ptr na 0::rl) o5 na Q):Rz A l b j9 (⟨.alloc zero,J s,K,u⟩::ops) T H n rl o5 na Q:=by
 have hs:s<O T:=by
  simp_all
 have bH0 :∀j,j∈ops->j.op.A6=F:=λj hj=>M
 refine Rz.step (N1:=0) (rs:=[]) (λ_=>rfl) hi (λhn k _=>?_) U (λ_ rs hrs=>?_) (λk=>Nat.zero_le _) (λ_=>bH0) (λ_ _=>⟨h2,λ_ k r lg h=>by grind [Dh]⟩)
 .have hsm:∀(a v:c7) (r:List c7),(rl.reverse++a::r).set n v=rl.reverse++v::r:=λa v r=>M
  simp_all [List.length_reverse,s7.A6,if_true,A2,A9,D3,s7.D4,D9,E1,newId,Option.getD_some,put,y8,X2,B3.F1,decide_true,Bool.and_self,B3.G5,c7.F4]
 grind [s7.A6,cD,I9,Touch.G8]
def zs {m:Nat}{x y:z6}{u:List Nat}{v:c7}{cs old:List c7}{H2:n9}(hd:F0 (xh j9) n=W:=by rfl)(hy:rq T n rl y= .ptr na 0:=by rfl)(hx:Oq T n rl x v:=by exact ⟨rfl,rfl⟩)(hc:v.cells? =J cs:=by rfl)(hm:O cs=m:=by rfl)(hl:l.may na=W:=by rfl)(hb:C0 cs=0:=by rfl)
  (ho:H[na]? =J (.cells old):=by rfl) (hq:O old=m:=by rfl) (hH:H.set na (.cells cs)=H2:=by simp only [List.set_cons_zero,List.set_cons_succ]<;>rfl) (hi:j9[n]? =J ⟨.store m y x,K,K,u⟩:=by rfl)
  (h2:Rz A l b j9 ops T H2 (n+1) (.any::rl) (.obj na::o5) na Q):Rz A l b j9 (⟨.store m y x,K,K,u⟩::ops) T H n rl o5 na Q:=by
 have hw:wr H na 0 cs=J H2:=by
  simp_all [wr,splice,o7]
 refine Rz.step (N1:=0) (rs:=[]) (λ_=>rfl) hi (λhn k _=>?_) U (λh=>?_) (λk=>Nat.zero_le _) (λh=>by cases h) (λ_ _=>⟨h2,λh=>by cases h⟩)
 .have hl' :(K3 A k l b).lim.may na=W:=hl
  have hb' :C0 cs<=na+1:=V
  have hsm:∀(a v:c7) (r:List c7),(rl.reverse++a::r).set n v=rl.reverse++v::r:=λa v r=>M
  simp [s7.A6,e8,if_false,A2,A9,D3,s7.D4,if_true,D9,T3 hn,hy,R2,(hx.op hn).F1,hc,hm,hl',hb',true_or,and_self,hw,put,hsm,y8,F2]
 simp_all<;>omega
end S
end
section
variable {A:Prog} {l:H8} {b:Nat}
variable {dr:Bool} {j9 ops:List o4} {T:List c7} {H:n9} {n:Nat} {rl:List c7} {o5:List Touch} {Q:List c7->n9->List c7->Prop}
namespace S
def o12 {x y:z6}{u:List Nat}{z1 z2:c7}{c d:Data}(h2:Ry A l b dr j9 ops T H (n+1) (.own 1 2 [c,d]::rl) o5 Q)(hx:rq T n rl x= .d c:=by rfl)(hy:rq T n rl y= .d d:=by rfl):Ry A l b dr j9 (⟨.J3 1 2 [z1,z2] [(0,1,x),(1,1,y)] F,K,K,u⟩::ops) T H n rl o5 Q :=
 Ry.pure (rs:=[]) rfl (by simp [l8,bB,hx,hy,c7.cells?,splice,L5,c7.data?,c7.one]) h2
def lq2 {α β:Type}{e1:α->List Data}{e2:β->List Data}{xs:List α}{ys:List β}{x:z6}{u:List Nat}{id z1 z2:Nat}(h2:Ry A l b dr j9 ops T H (n+1) (.agg [.d (B8 e1 xs),.d (B8 e2 ys)]::rl) o5 Q)(hx:rq T n rl x= .ptr id 0:=by rfl)(ho:H[id]? =J (.cells [L1 z1 e1 xs,L1 z2 e2 ys]):=by rfl) :
  Ry A l b dr j9 (⟨.load (J 2) x,K,K,u⟩::ops) T H n rl o5 Q :=
 Ry.pure (rs:=[id]) rfl (by simp [l8,hx,rd,ho,L1,B8,c7.F4]) h2
end S
end
section
variable {A:Prog} {l:H8} {b:Nat}
variable {j9 ops:List o4} {T:List c7} {H:n9} {n:Nat} {rl:List c7} {o5:List Touch} {na:Nat} {Q:List c7->n9->List c7->Prop}
namespace S
def zix {α:Type} [Inhabited α] {enc:α->List Data}{xs:List α}{sz:Nat}{e:Int}{x y:z6}{k:IntKind}{u:List Nat}(h0:0<=e/\e<O xs)(h2:Rz A l b j9 ops T H (n+1) (.U2 (enc (Y xs e.toNat)++(xs.drop (e.toNat+1)).flatMap enc)::rl) o5 na Q)(hx:rq T n rl x= .d (B8 enc xs):=by rfl)(hy:rq T n rl y= .d (.int k e):=by rfl)(hs:∀a,O (enc a)=sz:=by intro;rfl)
  (hi:j9[n]? =J ⟨.J4 sz x y,K,K,u⟩:=by rfl):Rz A l b j9 (⟨.J4 sz x y,K,K,u⟩::ops) T H n rl o5 na Q:=by
 refine zp (rs:=[]) _ ?_ h2 (hi:=hi);simp_all [oC,H6,l8,B8,and_self,if_true]
def zle {cs rest:List Data}{x:z6}{m:Nat}{u:List Nat}(h2:Rz A l b j9 ops T H (n+1) (.agg (cs.map .d)::rl) o5 na Q)(hx:rq T n rl x= .U2 (cs++rest):=by rfl)(hm:O cs=m:=by rfl)(hi:j9[n]? =J ⟨.load (J m) x,K,K,u⟩:=by rfl):Rz A l b j9 (⟨.load (J m) x,K,K,u⟩::ops) T H n rl o5 na Q:=by
 refine zp (rs:=[]) _ ?_ h2 (hi:=hi);simp_all [l8]
def soD {dr:Bool}{m id:Nat}{x y:z6}{u:List Nat}{v:c7}{cs old:List c7}{H2:n9}(hd:F0 (xh j9) n=W:=by rfl)(hy:rq T n rl y= .ptr id 0:=by rfl)(hx:Oq T n rl x v:=by exact ⟨rfl,rfl⟩)(hc:v.cells? =J cs:=by rfl)(hm:O cs=m:=by rfl)(hl:l.may id=W:=by rfl)(hb:C0 cs=0:=by rfl)
  (ho:H[id]? =J (.cells old):=by rfl) (hq:O old=m:=by rfl) (hH:H.set id (.cells cs)=H2:=by simp only [List.set_cons_zero,List.set_cons_succ]<;>rfl)
  (h2:Ry A l b dr j9 ops T H2 (n+1) (.any::rl) (.obj id::o5) Q):Ry A l b dr j9 (⟨.store m y x,K,K,u⟩::ops) T H n rl o5 Q :=
 Qk hd hy hx hc hm hl V (by simp_all [wr,splice,o7]) h2
end S
end
section
variable {A:Prog} {l:H8} {b:Nat}
variable {dr:Bool} {j9 ops:List o4} {T:List c7} {H:n9} {n:Nat} {rl:List c7} {o5:List Touch} {Q:List c7->n9->List c7->Prop}
namespace S
def mk {u:List Nat}{id:Nat}{H2:n9}(hi:O H=id:=by simp only [List.length_cons,List.length_nil,Nat.reduceAdd]<;>rfl)(hH:H++[.map []]=H2:=by simp only [List.cons_append,List.nil_append]<;>rfl)
  (h2:Ry A l b F j9 ops T H2 (n+1) (.map id::rl) o5 Q):Ry A l b F j9 (⟨.makeMap,K,K,u⟩::ops) T H n rl o5 Q:=λhn=>by
 refine Rx.stepT (N1:=0) (rs:=[]) rfl (λn _=>?_) (h2.to hn);simp_all [A2,A9,D3,s7.D4,D9,E1,newId,put,y8,F2]
def bso {sz len:Nat}{zero:List c7}{parts:List (Nat×Nat×z6)}{u:List Nat}{id:Nat}{H2:n9}(cs:List c7)(hr:bB zero (parts.map λp=>(p.1,p.2.1,rq T n rl p.2.2))=J cs)(h0:0<sz/\O cs=len * sz)(hi:O H=id:=by simp only [List.length_cons,List.length_nil,Nat.reduceAdd]<;>rfl)(hH:H++[.cells cs]=H2:=by simp only [List.cons_append,List.nil_append]<;>rfl)
  (h2:Ry A l b F j9 ops T H2 (n+1) (.s5 id sz 0 len::rl) o5 Q):Ry A l b F j9 (⟨.J3 sz len zero parts W,K,K,u⟩::ops) T H n rl o5 Q:=λhn=>by
 refine Rx.stepT (N1:=0) (rs:=[]) rfl (λk _=>?_) (h2.to hn);have hr' :bB zero (parts.map λp=>(p.1,p.2.1,B3.G5 T (rl.reverse++ .any::List.replicate (O ops) .any) p.2.2))=J cs:=by
  rw [show B3.G5 T (rl.reverse++ .any::List.replicate (O ops) .any)=rq T n rl from funext λx=>T3 hn _ x];exact hr
 simp_all [A2,A9,D3,s7.D4,if_true,D9,and_self,E1,newId,Option.getD_none,put,N5,y8,F2]
def lrT {x:z6}{u:List Nat}{id sz lo len s:Nat}{T2:List c7}(hx:rq T n rl x= .s5 id sz lo len:=by rfl)(hs:T[s]?.isSome=W:=by rfl)(hT:T.set s (.d (.int .i64 (len:Int)))=T2:=by simp only [List.set_cons_zero,List.set_cons_succ]<;>rfl)
  (h2:Ry A l b dr j9 ops T2 H (n+1) (.d (.int .i64 (len:Int))::rl) (.slot s::o5) Q):Ry A l b dr j9 (⟨.len x,J s,K,u⟩::ops) T H n rl o5 Q :=
 Ry.Jk (v:= .d (.int .i64 (len:Int))) (rs:=[]) rfl (by grind [l8,i64]) rfl rfl hs M
def ixs {x y:z6}{u:List Nat}{id sz lo len i:Nat}{k:IntKind}(hi:i<len)(h2:Ry A l b dr j9 ops T H (n+1) (.ptr id (lo+i * sz)::rl) o5 Q)(hx:rq T n rl x= .s5 id sz lo len:=by rfl)(hy:rq T n rl y= .d (.int k ((i:Nat):Int)):=by rfl):Ry A l b dr j9 (⟨.J4 sz x y,K,K,u⟩::ops) T H n rl o5 Q :=
 Ry.pure (rs:=[]) rfl (by
  simp_all [l8]) h2
def Vk {x:z6}{u:List Nat}{id o m:Nat}{vs:List c7}(hr:rd H id o m=J vs)(hv:vs.map c7.F4=vs)(h2:Ry A l b dr j9 ops T H (n+1) (.agg vs::rl) o5 Q)(hx:rq T n rl x= .ptr id o:=by rfl):Ry A l b dr j9 (⟨.load (J m) x,K,K,u⟩::ops) T H n rl o5 Q :=
 Ry.pure (rs:=[id]) rfl (by simp_all [l8]) h2
def soB {m id:Nat}{x y:z6}{u:List Nat}{v:c7}{cs old:List c7}{H2:n9}(hb:C0 cs<=id+1)(hy:rq T n rl y= .ptr id 0:=by rfl)(hx:Oq T n rl x v:=by exact ⟨rfl,rfl⟩)(hc:v.cells? =J cs:=by rfl)(hm:O cs=m:=by rfl)(hl:l.may id=W:=by rfl)
  (ho:H[id]? =J (.cells old):=by rfl) (hq:O old=m:=by rfl) (hH:H.set id (.cells cs)=H2:=by simp only [List.set_cons_zero,List.set_cons_succ]<;>rfl)
  (h2:Ry A l b F j9 ops T H2 (n+1) (.any::rl) (.obj id::o5) Q):Ry A l b F j9 (⟨.store m y x,K,K,u⟩::ops) T H n rl o5 Q :=
 sN hy hx hc hm hl hb (by simp_all [wr,splice,o7]) h2
end S
def ah {mask:List Bool}{strict m:Nat}{T:List c7}{H:n9}(h1:C0 (U3 mask T)<=m)(h2:Q5 ((H.take m).drop strict)<=m):clean mask strict m ⟨T,H⟩=⟨U3 mask T,H.take m⟩:=by
 grind [clean]
end
section
variable {A:Prog} {l:H8} {b:Nat}
variable {j9 ops:List o4} {T:List c7} {H:n9} {n:Nat} {rl:List c7} {o5:List Touch} {Q:List c7->n9->List c7->Prop}
namespace S
def cp {f:FuncId}{xs:List z6}{u:List Nat}{v:c7}{args:List c7}{H1:n9}(hc:Pm A f args H l v H1)(hle:O H<=O H1)(h2:Ry A l b F j9 ops T H1 (n+1) (v::rl) (.below (O H1)::o5) Q)(ha:xs.map (rq T n rl)=args:=by rfl)(mL:A.prom f=W:=by rfl) :
  Ry A l b F j9 (⟨.call f xs,K,K,u⟩::ops) T H n rl o5 Q:=λhn=>by
 obtain ⟨f8,hc⟩:=hc;refine Rx.stepT (N1:=f8) (rs:=[]) rfl (λk hk=>?_) (h2.to hn);have UZ :(K3 A k l b).prom f=W:=mL;have uw :(K3 A k l b).cf f args H (K3 A k l b).lim=J (v,H1):=hc k hk;have h3:D7 (K3 A k l b) (O rl.reverse) f args ⟨T,H,rl.reverse++ .any::List.replicate (O ops) .any,o5⟩=J (put ⟨T,H1,rl.reverse++ .any::List.replicate (O ops) .any,.below (O H1)::o5⟩ (O rl.reverse) v):=by
  simp only [D7,UZ,if_true,uw,hle]
 simp only [A2,A9,D3,s7.D4,if_true,D9,iM hn,ha,h3,y8,F2,put,N5]
end S
end
theorem FU (id:Nat):∀l:List c7,K1 id l=l.map (c7.kill id)
 |[]=>rfl
 |v::l=>by simp [K1,FU id l]
def Vf {id m:Nat}(rl:List c7):K1 id (rl.reverse++ .any::List.replicate m .any)=(K1 id rl).reverse++ .any::List.replicate m .any:=by
 simp [FU,c7.kill]
theorem Pm.gQ {A:Prog}{f:FuncId}{args:List c7}{H H1:n9}{l:H8}{v:c7}{p:List c7->n9->H8->Option (c7×n9)}(hp:A.gQ f=J p)(h:p args H l=J (v,H1)):Pm A f args H l v H1 :=
 ⟨1,λn hn=>by
  obtain ⟨n,rfl⟩:∃j,n=j+1:=⟨n - 1,V⟩;simp_all [call]⟩
section
variable {A:Prog} {l:H8} {b:Nat}
variable {dr:Bool} {j9 ops:List o4} {T:List c7} {H:n9} {n:Nat} {rl:List c7} {o5:List Touch} {Q:List c7->n9->List c7->Prop}
def S.mvA {s:Nat}{w v:c7}{u:List Nat}(hw:w.F4=v)(h2:Ry A l b dr j9 ops T H (n+1) (v::rl) o5 Q)(hx:T[s]? =J w:=by rfl):Ry A l b dr j9 (⟨.S1 (.slot s),K,K,u⟩::ops) T H n rl o5 Q:=λhn=>by
 refine Rx.step (N1:=0) (rs:=[]) rfl rfl (λq _=>?_) (λrs=>by simp [I9]) (h2.to hn);simp_all [B3.G5,List.replicate,A2,A9,D3,s7.D4,e8,if_false,B3.F1,put,N5,y8,F2]
end
section
variable {A:Prog} {l:H8} {b:Nat}
variable {j9 ops:List o4} {T:List c7} {H:n9} {n:Nat} {rl:List c7} {o5:List Touch} {Q:List c7->n9->List c7->Prop}
namespace S
def mn {dr:Bool}{s:Nat}{T2:List c7}{u:List Nat}(hs:T[s]?.isSome=W:=by rfl)(hT:T.set s .H7=T2:=by simp only [List.set_cons_zero,List.set_cons_succ]<;>rfl)(h2:Ry A l b dr j9 ops T2 H (n+1) (.H7::rl) (.slot s::o5) Q) :
  Ry A l b dr j9 (⟨.S1 (.const .H7),J s,K,u⟩::ops) T H n rl o5 Q:=λhn=>by
 have hs' :s<O T:=by
  simp_all
 refine Rx.step (N1:=0) (rs:=[]) rfl rfl (λn _=>?_) (kB s o5) (h2.to hn);simp_all [A2,A9,D3,s7.D4,e8,if_false,B3.F1,put,N5,y8,F2,if_true]
def apo {x y:z6}{u:List Nat}{sz bytes id len m k2:Nat}{old cs T2 rl2:List c7}{H2:n9}(hr:roomFor (len+m) bytes=W)(hc:C1 H sz (rq T n rl y)=J (m,cs))(hol:len * sz=O old)(hone:cs.all c7.one=W)(hbc:C0 cs=0)
  (hx:rq T n rl x= .s5 id sz 0 len:=by rfl) (hid:F0 l.base id=W:=by rfl) (XK:F0 b id=W:=by rfl) (hl:l.may id=W:=by rfl) (ho:H[id]? =J (.cells old):=by rfl) (hsz:F0 1 sz=W:=by rfl)
  (hT:K1 id T=T2:=by rfl) (hL:K1 id rl=rl2:=by rfl) (hH:(H.take l.base++(H.drop l.base).map (B4.kill id)).set id (.cells (K1 id old++cs))=H2:=by rfl)
  (hk2:len+m=k2:=by rfl) (h2:Ry A l b F j9 ops T2 H2 (n+1) (.s5 id sz 0 k2::rl2) (.obj id::o5) Q):Ry A l b F j9 (⟨.append sz bytes W x y,K,K,u⟩::ops) T H n rl o5 Q:=λhn=>by
 subst hT hH hL hk2;have hid:=l5 hid;have XK:=l5 XK;have hsz:0<sz:=l5 hsz;have hn2:O (K1 id rl)=n:=by grind [S9]
 refine Rx.stepT (N1:=0) (rs:=[]) M (λk _=>?_) (h2.to hn2);have hl' :(K3 A k l b).lim.may id=W:=hl;have he:(K3 A k l b).lim.base<=id/\(K3 A k l b).entry<=id/\(K3 A k l b).lim.may id=W:=⟨hid,XK,hl'⟩;have hk:C0 cs<=id:=V
 have h5:U8 (K3 A k l b) (O rl.reverse) sz bytes ⟨T,H,rl.reverse++ .any::List.replicate (O ops) .any,o5⟩ id 0 len (rq T n rl y)=J (put ⟨K1 id T,(H.take l.base++(H.drop l.base).map (B4.kill id)).set id (.cells (K1 id old++cs)),(K1 id rl).reverse++ .any::List.replicate (O ops) .any,.obj id::o5⟩ (O rl.reverse) (.s5 id sz 0 (len+m))):=by
  simp [U8,he,ho,hc,hol,hr,hk,hone,hsz,Vf];rfl
 simp_all [K1,S9,A2,A9,D3,s7.D4,if_true,D9,T3,y8,F2,put,N5]
end S
end
end Go.B3
namespace Go.B3.S
def gx {Γ Δ:Prop}(k:Δ)(h:PLift Δ->Γ:=by intro d5;(first|refine Ex.seq ?_|refine Ex.region (Rn.text ?_)|refine Ex.region (Rn.draw ?_)|refine Ex.block ?_|refine nl ?_|refine Ex.skip ?_|refine Ex.exit ?_|refine Ex.ret ?_|refine wa ?_|refine sk ?_|refine st ?_|refine mv ?_|refine mt (h2:=?_)|refine mo ?_|refine lp ?_|refine lpo ?_|refine fp ?_|refine ld ?_|refine lf ?_|refine ln ?_|refine li ?_|refine lo ?_|refine gi ?_|refine go ?_|refine ei ?_|refine ni ?_|refine es ?_|refine ns ?_|refine ad ?_|refine sb ?_|refine ng ?_|refine lt ?_|refine le ?_|refine lq ?_|refine lq3 ?_|refine lq2 ?_|refine o12 ?_|refine et ?_|refine ix (h2:=?_)|refine pt ?_|refine pk ?_|refine mw (h2:=?_)|refine ow (h2:=?_)|refine bx (h2:=?_)|refine bxn (h2:=?_)|refine nk ?_|refine nki ?_|refine ac (h2:=?_)|refine so (h2:=?_)|refine sp1 (h2:=?_)|refine o1 ?_|refine o1z ?_|refine ap1 (h2:=?_)|refine e0 ?_|refine apN (h2:=?_)|refine al1 (h2:=?_)|refine alN (h2:=?_)|refine alE (h2:=?_)|refine xs (h2:=?_)|refine xsN (h2:=?_)|refine ixN (h2:=?_)|refine ixZ (h2:=?_)|refine ls ?_|refine lnT (h2:=?_)|refine lsT (h2:=?_)|refine ldT (h2:=?_)|refine lpT (h2:=?_)|refine qs ?_|refine qb ?_|refine mm ?_|refine ip ?_|refine ipN ?_|refine ipM ?_|refine bJ5 ?_|refine df ?_|refine mf ?_|refine Wl ?_|refine svh (h2:=?_)|refine svl (h2:=?_)|refine svb (h2:=?_)|fail);exact d5.down):Γ:=h ⟨k⟩
def gr {Γ Δ:Prop}(k:Δ)(h:PLift Δ->Γ:=by intro d5;(repeat' (first|refine gx ?_|fail));exact d5.down):Γ:=h ⟨k⟩
def cc {p:Prop}(h:p:=by first|(simp [*,j5];done)|(simp_all [j5];done)|(simp_all [j5,A5,A7,p7,I5];done)|(simp_all [j5,A5,A7,p7,I5]<;>omega)):p:=h
section
variable {A:Prog} {l:H8} {b:Nat}
def tB {ops:List o4}{draw:Bool}{c:z6}{d e:p6}{T:List c7}{H:n9}{Q:E6->St->Prop}{Δ:Prop}(t:Bool)(k:Δ)(h2:t=W->Ex A l b d ⟨T,H⟩ Q)(h3:t=F->Ex A l b e ⟨T,H⟩ Q)
  (h:PLift Δ->Rn A l b ops draw T H λT' H' L=>T' =T/\H' =H/\∃t',G5 T' L c= .d (.bool t')/\t' =t:=by intro d5;first|exact Rn.text d5.down|exact Rn.draw d5.down):Ex A l b (.test ops draw c d e) ⟨T,H⟩ Q:=Ex.jl t (h ⟨k⟩) h2 h3
def tb {ops:List o4}{draw:Bool}{c:z6}{d e:p6}{T:List c7}{H:n9}{Q:E6->St->Prop}(t:Bool)(h2:t=W->Ex A l b d ⟨T,H⟩ Q)(h3:t=F->Ex A l b e ⟨T,H⟩ Q)
  (h:Rn A l b ops draw T H λT' H' L=>T' =T/\H' =H/\∃t',G5 T' L c= .d (.bool t')/\t' =t:=by (first|refine Rn.text ?_|refine Rn.draw ?_|fail);(repeat' (first|refine gx ?_|refine fk (h1:=λhw=>?_) (h2:=λhw=>?_)|refine fpk (h1:=λhw=>?_) (h2:=λhw=>?_)|refine ⟨rfl,rfl,_,rfl,?_⟩|refine ⟨rfl,rfl⟩|fail));all_goals exact cc) :
  Ex A l b (.test ops draw c d e) ⟨T,H⟩ Q:=Ex.jl t h h2 h3
end
end Go.B3.S
namespace Go.B3
abbrev U0:=Int×Int
structure V5 where
 src:U0
 dst:U0
 dat:Bool
 deriving DecidableEq,Inhabited
def bm1 (S:List U0)(f:V5):List U0:=if f.src∈S/\f.dst∉S then S++[f.dst] else S
def pass:List U0->List V5->List U0
 |S,[]=>S
 |S,f::r=>pass (bm1 S f) r
def V5.rev (f:V5):V5:=⟨f.dst,f.src,f.dat⟩
def gP (a b:Int):Int:=if a<b then -1 else if b<a then 1 else 0
def tj (a b:U0):Int:=if gP a.1 b.1≠0 then gP a.1 b.1 else gP a.2 b.2
def cfB (a b:Bool):Int:=if a==b then 0 else if a then -1 else 1
def WT (a b:V5):Int:=if tj a.src b.src≠0 then tj a.src b.src else if tj a.dst b.dst≠0 then tj a.dst b.dst else cfB a.dat b.dat
def Pr {α:Type}(cf:α->α->Int)(x:α):List α->List α
 |[]=>[x]
 |y::l=>if cf y x<0 then y::Pr cf x l else x::y::l
def Gz {α:Type}(cf:α->α->Int):List α->List α
 |[]=>[]
 |x::l=>Pr cf x (Gz cf l)
theorem xG {α:Type}(cf:α->α->Int)(x:α):∀l,(Pr cf x l).Perm (x::l)
 |[]=>List.Perm.refl _
 |y::l=>by
  simp [Pr];split
  .exact ((xG cf x l).cons y).trans (List.Perm.swap x y l)
  rfl
theorem oR {α:Type}(cf:α->α->Int):∀l,(Gz cf l).Perm l
 |[]=>List.Perm.refl _
 |x::l=>(xG cf x _).trans ((oR cf l).cons x)
theorem Rs {α:Type}{cf:α->α->Int}(htr:∀a b c,¬ cf b a<0->¬ cf c b<0->¬ cf c a<0)(hto:∀a b,cf b a<0->¬ cf a b<0)(x:α):∀l:List α,l.Pairwise (λa b=>¬ cf b a<0)->(Pr cf x l).Pairwise λa b=>¬ cf b a<0
 |[],_=>by simp [Pr]
 |y::l,h=>by
  simp only [Pr];rw [N6] at h;split
  .refine N6.2 ⟨λz hz=>?_,Rs htr hto x l h.2⟩
   grind [xG]
  grind [N6]
theorem Ds {α:Type}{cf:α->α->Int}(htr:∀a b c,¬ cf b a<0->¬ cf c b<0->¬ cf c a<0)(hto:∀a b,cf b a<0->¬ cf a b<0):∀l:List α,(Gz cf l).Pairwise λa b=>¬ cf b a<0
 |[]=>List.Pairwise.nil
 |x::l=>Rs htr hto x _ (Ds htr hto l)
def qZ {α:Type}{cf:α->α->Int}(htr:∀a b c,¬ cf b a<0->¬ cf c b<0->¬ cf c a<0)(hto:∀a b,cf b a<0->¬ cf a b<0)(han:∀a b,¬ cf b a<0->¬ cf a b<0->a=b)(l:List α):(l.mergeSort λx y=> !decide (cf y x<0))=Gz cf l:=by
 refine List.Perm.eq_of_pairwise (le:=λa b=>¬ cf b a<0) (λa b _ _ h1 h2=>han a b h1 h2) ?_ (Ds htr hto l) ((List.mergeSort_perm l _).trans (oR cf l).symm);have:=List.pairwise_mergeSort (le:=λx y:α=> !decide (cf y x<0)) (λa b c h1 h2=>by grind) (λa b=>by
  grind) l
 simp_all
def sortP (l:List U0):List U0:=Gz tj l
def zx (l:List V5):List V5:=Gz WT l
def PY (l:List V5):(zx l).Perm l:=oR _ _
theorem VU (l:List V5):O (zx l)=O l:=(PY l).length_eq
def V5.enc (f:V5):List Data:=[Z f.src.1,Z f.src.2,Z f.dst.1,Z f.dst.2,.bool f.dat]
def Cr:List Data->Option (List V5)
 |[]=>J []
 | .int .i64 a:: .int .i64 b:: .int .i64 c:: .int .i64 d:: .bool t::r=>match Cr r with
  |some l=>J (⟨(a,b),(c,d),t⟩::l)
  |none=>K
 |_=>K
def Jc (g:FuncId):List c7->n9->H8->Option (c7×n9)
 |[.s5 id 5 lo len,.func g' [] []],H,l=>if g' =g/\l.may id=W/\len<=1000000 then match rd H id lo (len * 5) with
   |some vs=>match L5 vs with
    |some cs=>match Cr cs with
     |some fs=>match wr H id lo (((zx fs).flatMap V5.enc).map .d) with
      |some H1=>J (.tuple [],H1)
      |none=>K
     |none=>K
    |none=>K
   |none=>K
  else K
 |[.d (.slice 0 _),.func g' [] []],H,_=>if g' =g then J (.tuple [],H) else K
 |_,_,_=>K
def Jb:List c7->n9->H8->Option (c7×n9)
 |[.map id],H,_=>match H[id]? with
  |some (.map es)=>match CD es with
   |some ks=>if O ks<=1000000 then J (.own 2 (O ks) (bt (sortP ks)),H) else K
   |none=>K
  |_=>K
 |_,_,_=>K
def aN4:List c7->n9->H8->Option (c7×n9)
 |[x],H,_=>match rowOf 5 H x with
  |some (n,cs)=>match Cr cs with
   |some fs=>if n=O fs/\n<=1000000 then J (.own 5 (O fs) ((fs.map V5.rev).reverse.flatMap V5.enc),H) else K
   |none=>K
  |none=>K
 |_,_,_=>K
def xN:List c7->n9->H8->Option (c7×n9)
 |[.d (.slice 0 _)],H,_=>J (.d (.slice 0 []),H)
 |as,H,l=>vK as H l
def ar4:List c7->Bool
 |[]=>W
 | .d _::r=>ar4 r
 |_::_=>F
theorem xe (k:Nat):∀l:List c7,ar4 l=W->K1 k l=l
 |[],_=>rfl
 | .d x::l,h=>by rw [K1,xe k l h];simp [c7.kill]
 | .ptr .. ::_,h=>by cases h
 | .s5 .. ::_,h=>by cases h
 | .U2 .. ::_,h=>by cases h
 | .map .. ::_,h=>by cases h
 | .agg .. ::_,h=>by cases h
 | .tuple .. ::_,h=>by cases h
 | .own .. ::_,h=>by cases h
 | .func .. ::_,h=>by cases h
 | .H7::_,h=>by cases h
 | .any::_,h=>by cases h
def pCl:List c7->n9->H8->Option (c7×n9)
 |[.d (.slice 0 [])],H,_=>J (.d (.slice 0 []),H)
 |[.d (.slice (n+1) cs)],[.cells a,.cells b],⟨0,0,0,0⟩=>if O cs=(n+1) * 5/\n<1000000/\ar4 a=W/\ar4 b=W then J (.s5 2 5 0 (n+1),[.cells a,.cells b,.cells (cs.map .d)]) else K
 |_,_,_=>K
def Gm:List Data->Option (List U0)
 |[]=>J []
 | .int .i64 a:: .int .i64 b::r=>match Gm r with
  |some l=>J ((a,b)::l)
  |none=>K
 |_=>K
def De (g:FuncId):List c7->n9->H8->Option (c7×n9)
 |[.s5 id 2 lo len,.func g' [] []],H,l=>if g' =g/\l.may id=W/\len<=1000000 then match rd H id lo (len * 2) with
   |some vs=>match L5 vs with
    |some cs=>match Gm cs with
     |some fs=>match wr H id lo ((bt (sortP fs)).map .d) with
      |some H1=>J (.tuple [],H1)
      |none=>K
     |none=>K
    |none=>K
   |none=>K
  else K
 |[.d (.slice 0 _),.func g' [] []],H,_=>if g' =g then J (.tuple [],H) else K
 |_,_,_=>K
open List
theorem iu (a b:U0):tj a b<0↔a.1<b.1\/(a.1=b.1/\a.2<b.2):=by
 grind [tj,gP]
theorem RE (a b:U0):(!decide (tj b a<0))=W↔a.1<b.1\/(a.1=b.1/\a.2<=b.2):=by
 simp [Bool.not_eq_true',decide_eq_false_iff_not,iu];omega
def oS (l:List U0):(sortP l).Perm l:=oR _ _
def Vn {l:List U0}{p:U0}:p∈sortP l↔p∈l:=(oS l).mem_iff
def iO (l:List U0):O (sortP l)=O l:=(oS l).length_eq
def Dt (l:List U0):(sortP l).Pairwise λa b=>(!decide (tj b a<0))=W :=
 (Ds (λa b c h1 h2=>by rw [iu] at *;omega) (λa b h=>by grind [iu]) l).imp λh=>by simpa using h
def Fm {l m:List U0}(h:l.Perm m):sortP l=sortP m:=by
 refine ((oS l).trans (h.trans (oS m).symm)).eq_of_pairwise (λa b _ _ h1 h2=>?_) (Dt l) (Dt m)
 grind [RE,Prod.ext]
end Go.B3
namespace Go.B3.S
section
variable {A:Prog} {l:H8} {b:Nat} {dr:Bool}
variable {j9 ops:List o4} {T:List c7} {H:n9} {n:Nat} {rl:List c7} {o5:List Touch} {Q:List c7->n9->List c7->Prop}
def lqo {x:z6}{m id o:Nat}{cs:List c7}{u:List Nat}(h2:Ry A l b dr j9 ops T H (n+1) (.agg cs::rl) o5 Q)(hx:rq T n rl x= .ptr id o:=by rfl)(hr:rd H id o m=J cs:=by rfl)(hv:cs.map c7.F4=cs:=by rfl) :
  Ry A l b dr j9 (⟨.load (J m) x,K,K,u⟩::ops) T H n rl o5 Q:=Ry.pure (rs:=[id]) rfl (by simp_all [l8]) h2
end
end Go.B3.S
namespace Go.B3
section
variable {A:Prog} {l:H8} {b:Nat}
variable {j9 ops:List o4} {T:List c7} {H:n9} {n:Nat} {rl:List c7} {o5:List Touch} {na nb:Nat} {Q:List c7->n9->List c7->Prop}
namespace S
end S
end
section
variable {A:Prog} {l:H8} {b:Nat}
variable {j9 ops:List o4} {T:List c7} {H:n9} {n:Nat} {rl:List c7} {o5:List Touch} {na nb:Nat} {Q:List c7->n9->List c7->Prop}
namespace S
section
variable {dr:Bool}
def ixo {x y:z6}{u:List Nat}{sz id lo len:Nat}{k:IntKind}{e:Int}(h0:0<=e/\e<len)(h2:Ry A l b dr j9 ops T H (n+1) (.ptr id (lo+e.toNat * sz)::rl) o5 Q)(hx:rq T n rl x= .s5 id sz lo len:=by rfl)(hy:rq T n rl y= .d (.int k e):=by rfl) :
  Ry A l b dr j9 (⟨.J4 sz x y,K,K,u⟩::ops) T H n rl o5 Q:=Ry.pure (rs:=[]) rfl (by simp_all [l8,and_self,if_true]) h2
def lpx {x:z6}{id o:Nat}{v:c7}{u:List Nat}(hr:rd H id o 1=J [v])(hv:v.F4=v)(h2:Ry A l b dr j9 ops T H (n+1) (v::rl) o5 Q)(hx:rq T n rl x= .ptr id o:=by rfl) :
  Ry A l b dr j9 (⟨.load K x,K,K,u⟩::ops) T H n rl o5 Q:=Ry.pure (rs:=[id]) rfl (by simp_all [l8]) h2
end
def mks {x y:z6}{u:List Nat}{sz id len:Nat}{zero:List c7}{H2:n9}(hm:CI sz zero (rq T n rl x) (rq T n rl y)=J len)(hH:H++[.cells (List.replicate len zero).flatten]=H2)(hi:O H=id:=by simp only [List.length_cons,List.length_nil,Nat.reduceAdd]<;>rfl)
  (h2:Ry A l b F j9 ops T H2 (n+1) (.s5 id sz 0 len::rl) o5 Q):Ry A l b F j9 (⟨.jI sz zero x y,K,K,u⟩::ops) T H n rl o5 Q:=λhn=>by
 have h2:=h2.to hn;refine Rx.stepT (N1:=0) (rs:=[]) rfl (λn _=>?_) h2;simp_all [A2,A9,D3,s7.D4,if_true,D9,T3,E1,newId,Option.getD_none,put,N5,y8,F2]
end S
end
section
variable {A:Prog} {l:H8} {b:Nat}
theorem Ex.fz {s:Nat}{st st' :St}{Q:E6->St->Prop}(h:uv l b s st=J st')(h2:Q .normal st'):Ex A l b (.fz s) st Q:=⟨_,_,0,h2,λn _=>by
 simp_all [uv,K3,exec]⟩
def am0 {lim:H8}{s z n:Nat}{xs:List Data}{T:List c7}{H:n9}(hT:T[s]? =J (.own z n xs))(h0:n≠0)(hb:lim.base=0)(hs:lim.strict=0)(hf:xs.all Data.flat=W) :
  uv lim 0 s ⟨T,H⟩=J ⟨(V6 T).set s (.s5 (O H) z 0 n),H.map B4.forget++[.cells (xs.map .d)]⟩:=by
 simp_all [uv,Cv,Wf,if_false,and_self,if_true]
def al9 {T:List c7}(hT:T[1000]? =K:=by rfl):uv Q9 0 1000 ⟨T,[]⟩=J ⟨T,[.dead]⟩:=by
 simp only [uv,Cv,hT,Wf,Q9,and_self,if_true,List.nil_append]
def XE {lim:H8}{s z:Nat}{xs:List Data}{T:List c7}{H:n9}(hT:T[s]? =J (.own z 0 xs)):uv lim 0 s ⟨T,H⟩=J ⟨T,H⟩:=by
 simp_all [uv,Cv,Wf]
def Xv {α:Type}{enc:α->List Data}(h:∀a,(enc a).all Data.flat=W):∀l:List α,(l.flatMap enc).all Data.flat=W
 |[]=>rfl
 |a::l=>by grind
end
namespace S
section
variable {A:Prog} {l:H8} {b:Nat} {dr:Bool} {j9 ops:List o4} {T:List c7} {H:n9} {n:Nat} {rl:List c7} {o5:List Touch} {Q:List c7->n9->List c7->Prop}
def bd4:∀cs:List Data,(cs.map c7.d).all c7.one=W
 |[]=>rfl
 |c::cs=>by
  simp_all [M8,List.all_cons,c7.one,Bool.and_self]
def oN {α:Type}{enc:α->List Data}(a:α){sz:Nat}{zero:List c7}{x:z6}{u:List Nat}(h2:Ry A l b dr j9 ops T H (n+1) (.own sz 1 (enc a)::rl) o5 Q)(hx:rq T n rl x= .agg ((enc a).map .d):=by rfl)(hc:O (enc a)=sz:=by rfl)(hz:O zero=sz:=by rfl)(h0:F0 1 sz=W:=by rfl) :
  Ry A l b dr j9 (⟨.J3 sz 1 zero [(0,sz,x)] F,K,K,u⟩::ops) T H n rl o5 Q:=by
 have h0' :=l5 h0;have h1:bB zero [(0,sz,c7.agg ((enc a).map .d))]=J ((enc a).map .d):=by
  simp only [bB,c7.cells?,bd4,splice,List.take_zero];simp_all
 refine Ry.pure (rs:=[]) rfl ?_ h2;simp [l8,M8,List.map_nil,hx,h1,iC,and_true]
 grind
def uf {f:FuncId}{xs:List z6}{u:List Nat}{v:c7}{args:List c7}(hc:Pf A f args v)(h2:Ry A l b dr j9 ops T H (n+1) (v::rl) (.below 0::o5) Q)(ha:xs.map (rq T n rl)=args:=by rfl)(hb:C0 args=0:=by rfl)(mL:A.prom f=F:=by rfl)(hm:A.mode f=0:=by rfl)
  (sC:(⟨l.Xw,l.Xo,0,I7 H l.strict 0⟩:H8)=Q9:=by rfl):Ry A l b dr j9 (⟨.call f xs,K,K,u⟩::ops) T H n rl o5 Q:=λhn=>by
 obtain ⟨f8,hc⟩:=hc;have h3:∀k,f8<=k->D7 (K3 A k l b) (O rl.reverse) f args ⟨T,H,rl.reverse++ .any::List.replicate (O ops) .any,o5⟩=J (put ⟨T,[]++H.drop 0,rl.reverse++ .any::List.replicate (O ops) .any,.below 0::o5⟩ (O rl.reverse) v):=λk hk =>
  qo (m:=0) (l2:=Q9) mL hm (by simp_all [I4]) (Nat.zero_le _) (by simp_all [Q5]) sC (by exact hc k hk) rfl
 refine Rx.step (N1:=f8) (rs:=[]) rfl rfl (λk hk=>?_) (λrs=>?_) (h2.to hn)
 all_goals simp_all [A2,A9,D3,s7.D4,if_true,D9,iM,y8,F2,put,N5,List.drop_zero,List.nil_append,I9,Touch.G8]
def bsv {sz len:Nat}{zero:List c7}{parts:List (Nat×Nat×z6)}(cs:List Data){u:List Nat}(h2:Ry A l b dr j9 ops T H (n+1) (.own sz len cs::rl) o5 Q)(hr:bB zero (parts.map λp=>(p.1,p.2.1,rq T n rl p.2.2))=J (cs.map .d):=by rfl)(hl:O cs=len * sz:=by rfl)(h0:F0 1 sz=W:=by rfl) :
  Ry A l b dr j9 (⟨.J3 sz len zero parts F,K,K,u⟩::ops) T H n rl o5 Q:=by
 have h0' :=l5 h0;refine Ry.pure (rs:=[]) rfl ?_ h2;have hr' :bB zero (parts.map λx=>match x with|(o,s,x)=>(o,s,rq T n rl x))=J (cs.map .d):=hr;simp [l8,hr',iC,hl]
 grind
def acN {α:Type}{enc:α->List Data}{xs:List α}(a:α){j k sz bytes id off:Nat}{y:z6}{u u' :List Nat}{d' :Option Nat}{g' :Option (Nat×Bool)}{n' :Nat}{cs' :List Data}{old new:List c7}{H2:n9}
  (hr:roomFor (O xs+1) bytes=W) (hy:rq T n rl y= .d (.slice 1 (enc a)):=by rfl) (hs:O (enc a)=1 * sz:=by rfl) (h0:F0 1 sz=W:=by rfl) (hj:lk n rl j=J (.d (.slice n' cs')):=by rfl) (ha:j9[j]? =J ⟨.load K (.loc k),d',g',u'⟩:=by rfl) (hk:lk n rl k=J (.ptr id off):=by rfl) (ht:o5.any (Touch.aR id off)=F:=by rfl) (hl:l.may id=W:=by rfl) (ho:H[id]? =J (.cells old):=by rfl) (hc:old[off]? =J (L1 sz enc xs):=by rfl)
  (hN:old.set off (.d (B8 enc xs))=new:=by rfl) (hH:H.set id (.cells new)=H2:=by simp only [List.set_cons_zero,List.set_cons_succ]<;>rfl)
  (h2:Ry A l b dr j9 ops T H2 (n+1) (L1 sz enc (xs++[a])::rl) (.cell id off::o5) Q):Ry A l b dr j9 (⟨.append sz bytes F (.loc j) y,K,K,u⟩::ops) T H n rl o5 Q :=
 Ry.aG3 hj ha hk ht hl ho hc hy hs hr (l5 h0) (by
  have e1:L1 sz enc (xs++[a])= .own sz (O xs+1) (xs.flatMap enc++enc a):=by simp [L1]
  rw [e1] at h2;subst hH hN;exact h2)
end
end S
section
variable {α:Type} [Inhabited α] {enc:α->List Data} {sz:Nat} {H:n9} {id:Nat} {xs:List α}
def PO (hs:∀a,O (enc a)=sz)(h:H[id]? =J (.cells ((xs.flatMap enc).map .d))){i:Nat}(hi:i<O xs):rd H id (0+i * sz) sz=J ((enc (Y xs i)).map .d):=by
 have h1:i * sz+sz<=O xs * sz:=by rw [<- Nat.succ_mul];exact K4 _ hi
 simp [rd,h,List.length_map,bW hs,Nat.zero_add,if_true];rw [<- List.map_drop,<- List.map_take,nj hs,E3 hi];simp_all
def Qq (hs:∀a,O (enc a)=sz){ys zs:List α}{z:α}(h:H[id]? =J (.cells (((ys++z::zs).flatMap enc).map .d)))(x:α) :
  wr H id (0+O ys * sz) ((enc x).map .d)=J (H.set id (.cells (((ys++x::zs).flatMap enc).map .d))):=by
 have l1:O ((ys.flatMap enc).map c7.d)=O ys * sz:=by rw [List.length_map,bW hs]
 have l2:O ((enc z).map c7.d)=sz:=M
 have l3:O ((enc x).map c7.d)=sz:=M
 simp_all [wr,Nat.zero_add,splice,if_pos,List.length_append,List.take_left,List.drop_append,List.drop_eq_nil_of_le,List.drop_left]
end
namespace S
section
variable {A:Prog} {l:H8} {b:Nat} {dr:Bool} {j9 ops:List o4} {T:List c7} {H:n9} {n:Nat} {rl:List c7} {o5:List Touch} {Q:List c7->n9->List c7->Prop}
def lnr {x:z6}{u:List Nat}{id sz lo len:Nat}(h2:Ry A l b dr j9 ops T H (n+1) (.d (.int .i64 (len:Int))::rl) o5 Q)(hx:rq T n rl x= .s5 id sz lo len:=by rfl):Ry A l b dr j9 (⟨.len x,K,K,u⟩::ops) T H n rl o5 Q :=
 Ry.pure (rs:=[]) rfl (by grind [l8,i64]) h2
def svr {x y:z6}{u:List Nat}{id sz lo len i:Nat}{k:IntKind}(hi:i<len)(h2:Ry A l b dr j9 ops T H (n+1) (.s5 id sz (lo+i * sz) (len - i)::rl) o5 Q)(hx:rq T n rl x= .s5 id sz lo len:=by rfl)(hy:rq T n rl y= .d (.int k ((i:Nat):Int)):=by rfl) :
  Ry A l b dr j9 (⟨.Z0 sz x (J y) K,K,K,u⟩::ops) T H n rl o5 Q :=
 Ry.pure (rs:=[]) rfl (by
  grind [l8,V2]) h2
def svf {x y:z6}{u:List Nat}{id sz lo len i:Nat}{k:IntKind}(hi:i<=len)(h0:0<i)(h2:Ry A l b dr j9 ops T H (n+1) (.s5 id sz lo i::rl) o5 Q)(hx:rq T n rl x= .s5 id sz lo len:=by rfl)(hy:rq T n rl y= .d (.int k ((i:Nat):Int)):=by rfl) :
  Ry A l b dr j9 (⟨.Z0 sz x K (J y),K,K,u⟩::ops) T H n rl o5 Q :=
 Ry.pure (rs:=[]) rfl (by
  grind [l8,V2]) h2
def clS {x:z6}{u:List Nat}{id sz lo len:Nat}{zero:List c7}{H2:n9}(hw:wr H id lo ((List.replicate len zero).flatten)=J H2)(h2:Ry A l b F j9 ops T H2 (n+1) (.tuple []::rl) (.obj id::o5) Q)(hx:rq T n rl x= .s5 id sz lo len:=by rfl)(hz:O zero=sz:=by rfl)(hb:C0 zero=0:=by rfl)(hl:l.may id=W:=by rfl) :
  Ry A l b F j9 (⟨.clear sz zero x,K,K,u⟩::ops) T H n rl o5 Q:=λhn=>by
 refine Rx.stepT (N1:=0) (rs:=[]) rfl (λk _=>?_) (h2.to hn);simp_all [K3,A2,A9,D3,s7.D4,if_true,D9,T3,aj,and_self,put,N5,y8,F2]
end
end S
section
variable {A:Prog} {l:H8} {b:Nat} {T:List c7} {H:n9}
def Ex.R8 {mask:List Bool}{body:p6}{R:E6->St->Prop}(Inv:Nat->List c7->n9->Prop)
  (hb:∀k T' H',Inv k T' H' ->Ex A l b body ⟨T',H'⟩ (xC R λs=>∃k',k' <k/\Inv k' (U3 mask s.T) s.H)) {k:Nat} (h:Inv k (U3 mask T) H)
  (hl:∀k T' H',Inv k T' H' ->O H'=O H:=by simp only [forall_exists_index,and_imp];intros;subst_vars;rfl):Ex A l b (.loop mask body) ⟨T,H⟩ R:=by
 refine Ex.loop (λk s=>Inv k (U3 mask s.T) s.H) (λk s hs=>?_) (k:=k) h;obtain ⟨T',H'⟩:=s;rw [xq (hl k _ H' hs)];exact hb k _ H' hs
def Ex.jH {mask:List Bool}{body:p6}{R:E6->St->Prop}(Inv:Nat->List c7->n9->Prop)
  (hb:∀k T' H',Inv k T' H' ->Ex A l b body ⟨U3 mask T',H'⟩ (xC R λs=>∃k',k' <k/\Inv k' s.T s.H)) {k:Nat} (h:Inv k T H)
  (hl:∀k T' H',Inv k T' H' ->O H'=O H:=by simp only [forall_exists_index,and_imp];intros;subst_vars;rfl):Ex A l b (.loop mask body) ⟨T,H⟩ R:=Ex.Ga Inv hl hb h
def Pf.go {f:FuncId}{af:q6}{args:List c7}{v:c7}{T:List c7}(n:Nat)(h:Ex A Q9 0 af.body ⟨T,[]⟩ λx s=>∃w,aZ af 0 (J (x,s))=J (w,[])/\w=v)
  (hf:A.fn f=J af:=by rfl) (hp:A.gQ f=K:=by rfl) (hn:O args=af.nparams:=by rfl)
  (hT:args++List.replicate n .any=T:=by simp only [List.replicate,List.cons_append,List.nil_append]<;>rfl) (hN:O af.names - O args=n:=by rfl):Pf A f args v :=
 Pf.run T hp hf hn (by rw [hN];exact hT) h
def Pf.gr {f:FuncId}{af:q6}{args:List c7}{v:c7}{T:List c7}{Δ:Prop}(n:Nat)(k:Δ)
  (hf:A.fn f=J af:=by rfl) (hp:A.gQ f=K:=by rfl) (hn:O args=af.nparams:=by rfl)
  (hT:args++List.replicate n .any=T:=by simp only [List.replicate,List.cons_append,List.nil_append]<;>rfl) (hN:O af.names - O args=n:=by rfl)
  (h:PLift Δ->Ex A Q9 0 af.body ⟨T,[]⟩ λx s=>∃w,aZ af 0 (J (x,s))=J (w,[])/\w=v:=by intro d5;(repeat' (first|refine gx ?_|fail));exact d5.down):Pf A f args v :=
 Pf.go n (h ⟨k⟩) hf hp hn hT hN
def kk {P:Nat->Prop}{k:Nat}(h:P (k - 1))(hk:k - 1<k:=by omega):∃k',k' <k/\P k' :=⟨_,hk,h⟩
def Pq.go {f:FuncId}{af:q6}{args:List c7}{H:n9}{Post:c7->n9->Prop}{T:List c7}(n:Nat)(h:Ex A l b af.body ⟨T,H⟩ λx s=>∃w H1,aZ af b (J (x,s))=J (w,H1)/\Post w H1)
  (hf:A.fn f=J af:=by rfl) (hp:A.gQ f=K:=by rfl) (hn:O args=af.nparams:=by rfl) (hb:O H=b:=by rfl)
  (hT:args++List.replicate n .any=T:=by simp only [List.replicate,List.cons_append,List.nil_append]<;>rfl) (hN:O af.names - O args=n:=by rfl):Pq A f args H l Post :=
 Pq.run T hp hf hn hb (by rw [hN];exact hT) h
end
namespace S
def gy {Γ Δ:Prop}(k:Δ)(h:PLift Δ->Γ:=by intro d5;(first|refine gx ?_|refine Ex.tq ?_|refine Ex.vj ?_|refine Ex.test (Rn.text ?_)|refine Ex.test (Rn.draw ?_)|fail);exact d5.down):Γ:=h ⟨k⟩
def fq {Γ Δ E p q:Prop}(k:p->Δ)(m:q->E)(h:PLift (p->Δ)->PLift (q->E)->Γ:=by intro d5 L;first|exact fk (h1:=d5.down) (h2:=L.down)|exact fpk (h1:=d5.down) (h2:=L.down)|exact Ex.cond rfl d5.down L.down|exact ⟨_,rfl,d5.down,L.down⟩):Γ:=h ⟨k⟩ ⟨m⟩
def ft {Γ Δ E p q:Prop}(k:p->Δ)(m:q->E)(h:PLift (p->Δ)->PLift (q->E)->Γ:=by intro d5 L;first|exact Ex.cond rfl d5.down L.down|exact ⟨_,rfl,d5.down,L.down⟩):Γ:=h ⟨k⟩ ⟨m⟩
def gc {P Γ Δ:Prop}(p:P)(k:Δ)(h:PLift P->PLift Δ->Γ:=by intro p d5;(repeat' (first|refine cl (p.down ..) ?_|refine uf (p.down ..) ?_|refine cl (p.down.1 ..) ?_|refine cl (p.down.2 ..) ?_|refine uf (p.down.1 ..) ?_|refine uf (p.down.2 ..) ?_|refine cl (p.down.2.1 ..) ?_|refine cl (p.down.2.2 ..) ?_|refine uf (p.down.2.1 ..) ?_|refine uf (p.down.2.2 ..) ?_|refine gx ?_|fail));exact d5.down):Γ:=h ⟨p⟩ ⟨k⟩
section
variable {A:Prog} {l:H8} {b:Nat}
def tc {P:Prop}{ops:List o4}{draw:Bool}{c:z6}{d e:p6}{T:List c7}{H:n9}{Q:E6->St->Prop}(t:Bool)(p:P)(h2:t=W->Ex A l b d ⟨T,H⟩ Q)(h3:t=F->Ex A l b e ⟨T,H⟩ Q)
  (h:PLift P->Rn A l b ops draw T H λT' H' L=>T' =T/\H' =H/\∃t',G5 T' L c= .d (.bool t')/\t' =t:=by intro p;(first|refine Rn.text ?_|refine Rn.draw ?_|fail);(repeat' (first|refine cl (p.down ..) ?_|refine uf (p.down ..) ?_|refine cl (p.down.1 ..) ?_|refine cl (p.down.2 ..) ?_|refine uf (p.down.1 ..) ?_|refine uf (p.down.2 ..) ?_|refine cl (p.down.2.1 ..) ?_|refine cl (p.down.2.2 ..) ?_|refine uf (p.down.2.1 ..) ?_|refine uf (p.down.2.2 ..) ?_|refine gx ?_|refine fk (h1:=λhw=>?_) (h2:=λhw=>?_)|refine fpk (h1:=λhw=>?_) (h2:=λhw=>?_)|refine ⟨rfl,rfl,_,rfl,?_⟩|refine ⟨rfl,rfl⟩|fail));all_goals exact cc) :
  Ex A l b (.test ops draw c d e) ⟨T,H⟩ Q:=Ex.jl t (h ⟨p⟩) h2 h3
def tl {ops:List o4}{draw:Bool}{c:z6}{d e:p6}{T:List c7}{H:n9}{Q:E6->St->Prop}(x y:Int)(h2:x<y->Ex A l b d ⟨T,H⟩ Q)(h3:y<=x->Ex A l b e ⟨T,H⟩ Q)
  (h:Rn A l b ops draw T H λT' H' L=>T' =T/\H' =H/\∃t',G5 T' L c= .d (.bool t')/\t' =J2 x y:=by (first|refine Rn.text ?_|refine Rn.draw ?_|fail);(repeat' (first|refine gx ?_|refine fk (h1:=λhw=>?_) (h2:=λhw=>?_)|refine fpk (h1:=λhw=>?_) (h2:=λhw=>?_)|refine ⟨rfl,rfl,_,rfl,?_⟩|refine ⟨rfl,rfl⟩|fail));all_goals exact cc) :
  Ex A l b (.test ops draw c d e) ⟨T,H⟩ Q:=Ex.jl (J2 x y) h (λh=>h2 (F5 h)) λh=>h3 (G7 h)
end
end S
section
variable {A:Prog} {l:H8} {b:Nat}
def Ex.aC8 {ops:List o4}{draw:Bool}{c:z6}{d e:p6}{T:List c7}{H:n9}{Q:E6->St->Prop}(h:Rn A l b ops draw T H λT' H' L=>T' =T/\H' =H/\∃t',G5 T' L c= .d (.bool t'))(h2:Ex A l b d ⟨T,H⟩ Q)(h3:Ex A l b e ⟨T,H⟩ Q) :
  Ex A l b (.test ops draw c d e) ⟨T,H⟩ Q:=by
 obtain ⟨r,N,⟨hT,hH,t',ht⟩,hr⟩:=h;exact Ex.jl t' ⟨r,N,⟨hT,hH,t',ht,rfl⟩,hr⟩ (λ_=>h2) λ_=>h3
def Pe.go {f:FuncId}{af:q6}{args:List c7}{P:c7->Prop}{T:List c7}(n:Nat)(h:Ex A Q9 0 af.body ⟨T,[]⟩ λx s=>∃w,aZ af 0 (J (x,s))=J (w,[])/\P w)
  (hf:A.fn f=J af:=by rfl) (hp:A.gQ f=K:=by rfl) (hn:O args=af.nparams:=by rfl)
  (hT:args++List.replicate n .any=T:=by simp only [List.replicate,List.cons_append,List.nil_append]<;>rfl) (hN:O af.names - O args=n:=by rfl):∃v,P v/\Pf A f args v:=by
 obtain ⟨x,s,N,⟨w,hq,hP⟩,h⟩:=h;exact ⟨w,hP,Pf.run T hp hf hn (by rw [hN];exact hT) ⟨x,s,N,⟨w,hq,rfl⟩,h⟩⟩
theorem Pe.bool {f:FuncId}{args:List c7}(h:∃v,(∃t,v= .d (.bool t))/\Pf A f args v):∃t,Pf A f args (.d (.bool t)):=by
 obtain ⟨_,⟨t,rfl⟩,h⟩:=h;exact ⟨t,h⟩
theorem Pe.num {f:FuncId}{args:List c7}(h:∃v,(∃t,v= .d (.int .i64 t))/\Pf A f args v):∃t,Pf A f args (.d (.int .i64 t)):=by
 obtain ⟨_,⟨t,rfl⟩,h⟩:=h;exact ⟨t,h⟩
end
namespace S
section
variable {A:Prog} {l:H8} {b:Nat}
def te {P:Prop}{ops:List o4}{draw:Bool}{c:z6}{d e:p6}{T:List c7}{H:n9}{Q:E6->St->Prop}(p:P)(h2:Ex A l b d ⟨T,H⟩ Q)(h3:Ex A l b e ⟨T,H⟩ Q)
  (h:PLift P->Rn A l b ops draw T H λT' H' L=>T' =T/\H' =H/\∃t',G5 T' L c= .d (.bool t'):=by intro p;(first|refine Rn.text ?_|refine Rn.draw ?_|fail);(repeat' (first|refine cl (p.down ..) ?_|refine uf (p.down ..) ?_|refine cl (p.down.1 ..) ?_|refine cl (p.down.2 ..) ?_|refine uf (p.down.1 ..) ?_|refine uf (p.down.2 ..) ?_|refine cl (p.down.2.1 ..) ?_|refine cl (p.down.2.2 ..) ?_|refine uf (p.down.2.1 ..) ?_|refine uf (p.down.2.2 ..) ?_|refine gx ?_|refine fk (h1:=λhw=>?_) (h2:=λhw=>?_)|refine fpk (h1:=λhw=>?_) (h2:=λhw=>?_)|exact ⟨rfl,rfl,_,rfl⟩|fail))) :
  Ex A l b (.test ops draw c d e) ⟨T,H⟩ Q:=Ex.aC8 (h ⟨p⟩) h2 h3
end
end S
def pY (op:Int):Int :=
 if A1 op 1||A1 op 2 then 0 else if A1 op 3||A1 op 9||A1 op 13||A1 op 16 then 1 else if A1 op 18 then 3 else if bC 1 op&&bC op 18 then 2 else -1
def jD (k n:Int)(s:M6):Bool :=
 if A1 k 0 then A1 n 0&&Q2 s [] else if A1 k 1 then bC (-4294967296) n&&bC n 4294967296&&Q2 s [] else if A1 k 2 then A1 n 0&&bC (O s) 32 else F
def zeroV (t:bU):Bool:=A1 t.kind 0&&A1 t.int 0&&Q2 t.text []
def gu (t:bU):Bool :=
 if A1 t.op 1 then jD t.kind t.int t.text&& !A1 t.kind 0&&A1 t.col 0 else if A1 t.op 2 then zeroV t&&bC 0 t.col else zeroV t&&A1 t.col 0
def CZ (t:bU):Bool:= !J2 (pY t.op) 0&&gu t
def rZ (op:Int):pY op<=3:=by
 grind [pY]
inductive cq where
 |node (t:bU) (l:List cq)
mutual
def cq.flat:cq->List bU
 | .node t l=>t::O9 l
def O9:List cq->List bU
 |[]=>[]
 |a::l=>a.flat++O9 l
end
mutual
def cq.dep:cq->Nat
 | .node _ l=>oy l+1
def oy:List cq->Nat
 |[]=>0
 |a::l=>max a.dep (oy l)
end
mutual
def cq.wf:cq->Prop
 | .node t l=>CZ t=W/\(pY t.op).toNat=O l/\wfL l
def wfL:List cq->Prop
 |[]=>True
 |a::l=>a.wf/\wfL l
end
def gB (f:List bU->Option (cq×List bU)):Nat->List bU->Option (List cq×List bU)
 |0,r=>J ([],r)
 |k+1,r=>match f r with
  |none=>K
  |some (a,r')=>match gB f k r' with
   |none=>K
   |some (l,r2)=>J (a::l,r2)
def O6:Nat->List bU->Option (cq×List bU)
 |0,_=>K
 |_+1,[]=>K
 |d+1,t::r=>if CZ t then match gB (O6 d) (pY t.op).toNat r with
   |none=>K
   |some (l,r')=>J (.node t l,r')
  else K
theorem CE {f:List bU->Option (cq×List bU)}{d:Nat}(hf:∀r a r',f r=J (a,r')->r=a.flat++r' /\a.wf/\a.dep<=d):∀(k:Nat) (r:List bU) (l:List cq) (r' :List bU),gB f k r=J (l,r')->r=O9 l++r' /\wfL l/\oy l<=d/\O l=k
 |0,r,l,r',h=>by
  simp_all [gB,Option.some.injEq,Prod.mk.injEq,O9,wfL,oy]
 |k+1,r,l,r',h=>by
  simp [gB] at h;split at h
  .cases h
  next a r1 h1=>
   split at h
   .cases h
   next l2 r2 h2=>
    obtain ⟨rfl,rfl⟩:=h;obtain ⟨e1,e2,e3⟩:=hf _ _ _ h1;obtain ⟨g1,g2,g3,g4⟩:=CE hf k _ _ _ h2;refine ⟨?_,⟨e2,g2⟩,?_,by simp [g4]⟩
    all_goals grind [O9,oy]
theorem V1:∀(d:Nat) (r:List bU) (a:cq) (r' :List bU),O6 d r=J (a,r')->r=a.flat++r' /\a.wf/\a.dep<=d
 |0,r,a,r',h=>by simp [O6] at h
 |d+1,[],a,r',h=>by simp [O6] at h
 |d+1,t::r,a,r',h=>by
  simp only [O6] at h;split at h
  next ht=>
   split at h
   .cases h
   next l r1 h1=>
    obtain ⟨rfl,rfl⟩:=h;obtain ⟨g1,g2,g3,g4⟩:=CE (V1 d) _ _ _ _ h1;refine ⟨?_,⟨ht,g4.symm,g2⟩,?_⟩
    all_goals simp_all [cq.flat,cq.dep]
  .cases h
mutual
theorem aq:∀(a:cq) (d:Nat) (r:List bU),a.wf->a.dep<=d->O6 d (a.flat++r)=J (a,r)
 | .node t l,0,r,_,h=>by simp [cq.dep] at h
 | .node t l,d+1,r,hw,h=>by
  simp [cq.dep] at h;obtain ⟨h1,h2,h3⟩:=hw;have h4:=tA l d r h3 V;simp_all [cq.flat,List.cons_append,O6,if_true]
theorem tA:∀(l:List cq) (d:Nat) (r:List bU),wfL l->oy l<=d->gB (O6 d) (O l) (O9 l++r)=J (l,r)
 |[],d,r,_,_=>by rfl
 |a::l,d,r,hw,h=>by
  simp [oy] at h;have h1:=aq a d (O9 l++r) hw.1 V;have h2:=tA l d r hw.2 V;simp_all [O9,M3,List.length_cons,gB]
end
mutual
theorem qy:∀a:cq,a.dep<=O a.flat
 | .node t l=>by
  have:=FD l;simp_all [cq.dep,cq.flat,List.length_cons]
theorem FD:∀l:List cq,oy l<=O (O9 l)
 |[]=>by simp [oy]
 |a::l=>by
  have h1:=qy a;have h2:=FD l
  grind [oy,O9,List.length_append]
end
def kN (a:cq):0<O a.flat:=by
 cases a;simp [cq.flat]
theorem xA:∀l:List cq,O l<=O (O9 l)
 |[]=>U
 |a::l=>by
  have:=kN a;have:=xA l
  grind [O9,List.length_append,List.length_cons]
def Je {d d' :Nat}{r:List bU}(h:O r<=d)(h' :O r<=d'):O6 d r=O6 d' r:=by
 cases h1:O6 d r with
 |some p =>
  obtain ⟨a,r'⟩:=p;obtain ⟨e,w,_⟩:=V1 d r a r' h1
  grind [qy,aq]
 |none =>
  cases h2:O6 d' r with
  |none=>rfl
  |some p =>
   obtain ⟨a,r'⟩:=p;obtain ⟨e,w,_⟩:=V1 d' r a r' h2
   grind [qy,aq]
def jC (op:Int)(t:List Int):Int :=
 if A1 op 3||A1 op 13 then (if A1 (Y t 0) 1 then 1 else 0)
 else if A1 op 8 then (if A1 (Y t 0) 2&&A1 (Y t 1) 2 then 2 else 0)
 else if A1 op 9 then (if A1 (Y t 0) 2 then 1 else 0)
 else if A1 op 10 then (if A1 (Y t 0) 2&&A1 (Y t 1) 1 then 2 else 0)
 else if A1 op 11||A1 op 12 then (if A1 (Y t 0) (Y t 1) then 1 else 0)
 else if A1 op 16 then 1
 else if A1 op 17 then (if A1 (Y t 0) (Y t 1) then Y t 0 else 0)
 else if A1 op 18 then (if A1 (Y t 0) 1&&A1 (Y t 1) (Y t 2) then Y t 1 else 0)
 else (if A1 (Y t 0) 1&&A1 (Y t 1) 1 then 1 else 0)
def Fo (ty:List Int)(t:bU)(ts:List Int):Int×Int :=
 if A1 t.op 1 then (t.kind,0) else if A1 t.op 2 then (if bC (O ty) t.col then (0,3) else (Y ty t.col.toNat,0))
 else if A1 (jC t.op ts) 0 then (0,5) else (jC t.op ts,0)
mutual
def cq.typ (ty:List Int):cq->Int×Int
 | .node t l=>if A1 (jY ty l).2 0 then Fo ty t (jY ty l).1 else (0,(jY ty l).2)
def jY (ty:List Int):List cq->List Int×Int
 |[]=>([],0)
 |a::l=>if A1 (a.typ ty).2 0 then ((a.typ ty).1::(jY ty l).1,(jY ty l).2) else ([],(a.typ ty).2)
end
def dQ (ty:List Int):Bool:=ty.all λt=>A1 t 1||A1 t 2
def iQ (e:List bU):Option cq:=if bC 1 (O e)&&bC (O e) 64 then match O6 16 e with
  |some (a,[])=>J a
  |_=>K
 else K
def O1 (e:List bU)(ty:List Int):Int×Int:=match iQ e with
 |none=>(0,1)
 |some a=>if dQ ty then a.typ ty else (0,1)
def Bk {α:Type} [Inhabited α] (i:Nat):Y ([]:List α) i=default:=by simp [Y]
def Jp (ty:List Int)(t:bU)(a b c:Int):Int×Bool :=
 if A1 t.op 1 then (t.kind,W) else if A1 t.op 2 then (Y ty t.col.toNat,W)
 else if A1 t.op 3||A1 t.op 13 then (1,A1 a 1)
 else if A1 t.op 8 then (2,A1 a 2&&A1 b 2)
 else if A1 t.op 9 then (1,A1 a 2)
 else if A1 t.op 10 then (2,A1 a 2&&A1 b 1)
 else if A1 t.op 11||A1 t.op 12 then (1,A1 a b)
 else if A1 t.op 16 then (1,W)
 else if A1 t.op 17 then (a,A1 a b)
 else if A1 t.op 18 then (b,A1 a 1&&A1 b c)
 else (1,A1 a 1&&A1 b 1)
def good (x:Int):Prop:=x=1\/x=2
def LM {l:List Int}(h:∀x,x∈l->good x){i:Nat}(hn:Y l i≠0):good (Y l i):=by
 simp_all [Y]<;>grind
theorem Pa {ty:List Int}(h:dQ ty=W):∀x,x∈ty->good x:=by
 intro x hx;have:=L4.1 h x hx;simp_all [p7,good]
def MG {op:Int}{ts:List Int}(h:∀x,x∈ts->good x)(hn:jC op ts≠0):good (jC op ts):=by
 unfold jC at hn ⊢;split
 .rename_i h1;rw [if_pos h1] at hn;split at hn<;>simp_all [good]
 rename_i h1;rw [if_neg h1] at hn;split
 .rename_i h1;rw [if_pos h1] at hn;split at hn<;>simp_all [good]
 rename_i h1;rw [if_neg h1] at hn;split
 .rename_i h1;rw [if_pos h1] at hn;split at hn<;>simp_all [good]
 rename_i h1;rw [if_neg h1] at hn;split
 .rename_i h1;rw [if_pos h1] at hn;split at hn<;>simp_all [good]
 rename_i h1;rw [if_neg h1] at hn;split
 .rename_i h1;rw [if_pos h1] at hn;split at hn<;>simp_all [good]
 rename_i h1;rw [if_neg h1] at hn;split
 .exact Or.inl rfl
 rename_i h1;rw [if_neg h1] at hn;split
 .rename_i h1;rw [if_pos h1] at hn
  split at hn
  .rename_i h2;rw [if_pos h2];exact LM h hn
  .exact absurd rfl hn
 rename_i h1;rw [if_neg h1] at hn;split
 .rename_i h1;rw [if_pos h1] at hn
  split at hn
  .rename_i h2;rw [if_pos h2];exact LM h hn
  .exact absurd rfl hn
 rename_i h1;rw [if_neg h1] at hn;split at hn<;>simp_all [good]
mutual
theorem MF {ty:List Int}(uQ:dQ ty=W):∀a:cq,a.wf->A1 (a.typ ty).2 0=W->good (a.typ ty).1
 | .node t l,hw,h=>by
  obtain ⟨hok,har,hwl⟩:=hw;simp [cq.typ] at h ⊢;split
  .have hl:=yh uQ l hwl
   simp [Fo] at h ⊢;split
   next h2=>
    simp [CZ,gu,h2,if_true,Bool.and_eq_true] at hok;have h3:=hok.2.1.1;unfold jD at h3
    grind [good,aT]
   .split
    .split
     .simp_all [if_pos,p7]
     next h4=>
      have h5:=vE (Bool.not_eq_true _ ▸ h4);have h6:0<=t.col:=by
       simp_all [CZ,gu,if_true,e8,if_false,Bool.and_eq_true,nD]
      grind [Pa,P6]
    .split
     all_goals simp_all [if_pos,p7,MG]
  simp_all
theorem yh {ty:List Int}(uQ:dQ ty=W):∀l:List cq,wfL l->∀x,x∈(jY ty l).1->good x
 |[],_,x,h=>by simp [jY] at h
 |a::l,hw,x,h=>by
  simp [jY] at h;split at h
  next h1=>
   rcases C4.1 h with rfl|h
   .exact MF uQ a hw.1 h1
   .exact yh uQ l hw.2 x h
  .cases h
end
def aw0 {ty:List Int}{t:bU}{ts:List Int}(hts:∀x,x∈ts->good x)(hc:A1 t.op 2=W->bC (O ty) t.col=F)
  (h17:A1 t.op 17=W->0<O ts) (h18:A1 t.op 18=W->1<O ts) :
  Fo ty t ts=if (Jp ty t (Y ts 0) (Y ts 1) (Y ts 2)).2 then ((Jp ty t (Y ts 0) (Y ts 1) (Y ts 2)).1,0) else (0,5):=by
 unfold Fo Jp;cases d1:A1 t.op 1 with
 |true=>rfl
 |false =>
 cases d2:A1 t.op 2 with
 |true=>simp_all
 |false =>
 have z1:A1 1 0=F:=by simp [p7]
 have z2:A1 2 0=F:=by simp [p7]
 have z0:A1 0 0=W:=by simp [p7]
 have sel:∀(b:Bool) (x:Int),(b=W->A1 x 0=F)->(if A1 (if b=W then x else 0) 0=W then ((0:Int),(5:Int)) else (if b=W then x else 0,0))=if b=W then (x,0) else (0,5):=by
  simp_all
 have gz:∀{i:Nat},i<O ts->A1 (Y ts i) 0=F:=λ{i} hi=>by
  grind [P6,good,p7]
 unfold jC;cases c1:(A1 t.op 3||A1 t.op 13) with
 |true=>grind
 |false =>
 cases c2:A1 t.op 8 with
 |true=>grind
 |false =>
 cases c3:A1 t.op 9 with
 |true=>grind
 |false =>
 cases c4:A1 t.op 10 with
 |true=>grind
 |false =>
 cases c5:(A1 t.op 11||A1 t.op 12) with
 |true=>grind
 |false =>
 cases c6:A1 t.op 16 with
 |true=>simp [z1]
 |false =>
 grind
section
variable {A:Prog} {l:H8} {b:Nat}
variable {j9 ops:List o4} {T:List c7} {H:n9} {n:Nat} {rl:List c7} {o5:List Touch} {na nb:Nat} {Q:List c7->n9->List c7->Prop}
namespace S
end S
end
section
variable {A:Prog} {l:H8} {b:Nat}
variable {j9 ops:List o4} {T:List c7} {H:n9} {n:Nat} {rl:List c7} {o5:List Touch} {na:Nat} {lg:List jx} {Q:List c7->n9->List c7->Prop}
def Rl (A:Prog)(l:H8)(b:Nat)(j9 ops:List o4)(T:List c7)(H:n9)(n:Nat)(rl:List c7)(o5:List Touch)(na:Nat)(lg:List jx)(Q:List c7->n9->List c7->Prop):Prop :=
 O rl=n->∃r N,Q r.T r.H r.L/\∀k,N<=k->∃lg2,R9 (K3 A k l b) j9 ops n na ⟨T,H,rl.reverse++List.replicate (O ops) .any,o5⟩=J (r,lg2)/\fK j9 (lg.reverse++lg2)=W
theorem Rn.bL2 {T:List c7}{H:n9}(H' :n9)(o5:List Touch)(h:Rl A l b ops ops T H' 0 [] o5 (O H) [] Q)(hH:H++Z2 ops=H' :=by rfl)(hs:slotsOf ops=o5:=by rfl):Rn A l b ops W T H Q:=by
 obtain ⟨r,N,hq,h⟩:=h rfl;refine ⟨r,N,hq,λn hn=>?_⟩
 grind [S0]
def Rl.step {i:o4}{T' :List c7}{H' :n9}{v:c7}{cF :List Touch}{rs:List Nat}{N1:Nat}{e:jx}(hk:∀L,F9 ⟨T,H,L,o5⟩ i.op=F)
  (h:O rl=n->∀k,N1<=k->A2 (K3 A k l b) j9 (if i.op.A6 then J na else K) n i ⟨T,H,rl.reverse++ .any::List.replicate (O ops) .any,o5⟩=J (⟨T',H',rl.reverse++v::List.replicate (O ops) .any,cF⟩,rs))
  (he:O rl=n->∀k,aM (K3 A k l b) i (if i.op.A6 then J na else K) ⟨T,H,rl.reverse++ .any::List.replicate (O ops) .any,o5⟩ ⟨T',H',rl.reverse++v::List.replicate (O ops) .any,cF⟩ rs=e)
  (h2:Rl A l b j9 ops T' H' (n+1) (v::rl) cF (if i.op.A6 then na+1 else na) (e::lg) Q):Rl A l b j9 (i::ops) T H n rl o5 na lg Q:=λhn=>by
 obtain ⟨r,N,hq,h2⟩:=h2 (by simp [hn]);refine ⟨r,max N N1,hq,λk hkk=>?_⟩;obtain ⟨lg2,e1,e2⟩:=h2 k V
 grind [R9,K3,List.replicate,lu]
def tE (hn:O rl=n)(a v:c7)(r:List c7):(rl.reverse++a::r).set n v=rl.reverse++v::r:=M
def Rl.simple {i:o4}{v:c7}{rs:List Nat}(ha:i.op.A6=F)(hk:∀L,F9 ⟨T,H,L,o5⟩ i.op=F)(hs:∀k st,I6 (K3 A k l b) st i.op=0)
  (h:O rl=n->∀k,A2 (K3 A k l b) j9 K n i ⟨T,H,rl.reverse++ .any::List.replicate (O ops) .any,o5⟩=J (⟨T,H,rl.reverse++v::List.replicate (O ops) .any,o5⟩,rs))
  (h2:Rl A l b j9 ops T H (n+1) (v::rl) o5 na (⟨rs,[],0,0⟩::lg) Q):Rl A l b j9 (i::ops) T H n rl o5 na lg Q :=
 Rl.step (N1:=0) (e:=⟨rs,[],0,0⟩) hk (λhn k _=>by rw [ha];exact h hn k) (λ_ k=>by simp_all [aM,cD]) M
namespace S
def yn (h:Q T H rl.reverse)(hl:fK j9 lg.reverse=W):Rl A l b j9 [] T H n rl o5 na lg Q:=λ_=>⟨⟨T,H,rl.reverse,o5⟩,0,h,λ_ _=>⟨[],by simp [R9],M⟩⟩
def yp {op:s7}{u:List Nat}{rs:List Nat}(v:c7)(hp:l8 (rq T n rl) H op=J (v,rs))(h2:Rl A l b j9 ops T H (n+1) (v::rl) o5 na (⟨rs,[],0,0⟩::lg) Q)(hE:op.D4=F:=by rfl)
  (ha:op.A6=F:=by rfl) (hk:∀L,F9 ⟨T,H,L,o5⟩ op=F:=by intro;rfl) (hs:∀k st,I6 (K3 A k l b) st op=0:=by intros;rfl):Rl A l b j9 (⟨op,K,K,u⟩::ops) T H n rl o5 na lg Q:=by
 refine Rl.simple (rs:=rs) ha hk hs (λhn k=>?_) h2;have hmv:∀x,op≠ .S1 x:=by
  grind [l8]
 have h4:l8 (B3.G5 T (rl.reverse++ .any::List.replicate (O ops) .any)) H op=J (v,rs):=by
  rw [show B3.G5 T (rl.reverse++ .any::List.replicate (O ops) .any)=rq T n rl from funext λx=>T3 hn _ x];exact hp
 have h3:D3 (K3 A k l b) j9 K n op ⟨T,H,rl.reverse++ .any::List.replicate (O ops) .any,o5⟩=J (⟨T,H,rl.reverse++v::List.replicate (O ops) .any,o5⟩,rs):=by
  simp_all [absurd,D3,e8,if_false,put,tE,s7.D4]
 grind [A2,A9,y8,F2]
def ym {x:z6}{u:List Nat}{v:c7}(h2:Rl A l b j9 ops T H (n+1) (v::rl) o5 na (⟨[],[],0,0⟩::lg) Q)(hx:Oq T n rl x v:=by exact ⟨rfl,rfl⟩):Rl A l b j9 (⟨.S1 x,K,K,u⟩::ops) T H n rl o5 na lg Q:=by
 refine Rl.simple (rs:=[]) rfl (λ_=>rfl) (λ_ _=>rfl) (λhn k=>?_) h2;simp [A2,A9,D3,s7.D4,e8,if_false,(hx.op hn).F1,put,tE hn,y8,F2]
theorem yb {sz len:Nat}{zero:List c7}{ps:List (Nat×Nat×z6)}{u:List Nat}{cs:List c7}{H2:n9}(hr:bB zero (ps.map λp=>(p.1,p.2.1,rq T n rl p.2.2))=J cs)(hl:0<sz/\O cs=len * sz)
  (h2:Rl A l b j9 ops T H2 (n+1) (.s5 na sz 0 len::rl) o5 (na+1) (⟨[],[.obj na],0,na⟩::lg) Q) (hH:H.set na (.cells cs)=H2:=by rfl):Rl A l b j9 (⟨.J3 sz len zero ps W,K,K,u⟩::ops) T H n rl o5 na lg Q:=by
 refine Rl.step (N1:=0) (rs:=[]) (λ_=>rfl) (λhn k _=>?_) (λ_ k=>?_) h2
 .have hr' :bB zero (ps.map λx=>match x with|(o,s,x)=>(o,s,B3.G5 T (rl.reverse++ .any::List.replicate (O ops) .any) x))=J cs:=by
   simp_all [List.map_congr_left,T3]
  simp_all [s7.A6,if_true,A2,A9,D3,s7.D4,D9,and_self,E1,newId,Option.getD_some,put,tE,y8,X2]
 .simp [aM,cD,I6,s7.A6]
theorem ya {sz bytes id len m:Nat}{x y:z6}{u:List Nat}{cs l0:List c7}{H2:n9}{w:c7}(hx:rq T n rl x= .s5 id sz 0 len)(hy:rq T n rl y=w)(hO:H[id]? =J (.cells l0))(hc:C1 H sz w=J (m,cs))(hmay:l.may id=W)
  (aU:len * sz=O l0/\roomFor (len+m) bytes=W/\C0 cs<=O H/\cs.all c7.one=W/\0<sz)
  (h2:Rl A l b j9 ops T H2 (n+1) (.s5 (O H) sz 0 (len+m)::rl) (.obj (O H):: .obj id::o5) na (⟨[],[.obj (O H),.obj id],max (id+1) w.K9,0⟩::lg) Q)
  (hH:H.set id .dead++[.cells (l0.map c7.F4++cs)]=H2:=by rfl):Rl A l b j9 (⟨.J9 sz bytes x y,K,K,u⟩::ops) T H n rl o5 na lg Q:=by
 refine Rl.step (N1:=0) (rs:=[]) (λ_=>rfl) (λhn k _=>?_) (λhn k=>?_) h2
 .simp_all [K3,T3,trans,s7.A6,e8,if_false,A2,A9,D3,s7.D4,if_true,D9,U7,newId,Option.getD_none,E1,put,tE,ir,C6,y8,F2,List.length_set]
 .have hx' :=(T3 hn (O ops) x).trans hx
  have hy' :=(T3 hn (O ops) y).trans hy;have:O o5+1+1 - O o5=2:=V
  simp_all [aM,cD,s7.A6,I6,c7.K9]
theorem ya0 {sz bytes j j2 id off m:Nat}{y:z6}{u:List Nat}{a:o4}{cs l0:List c7}{H2:n9}{w:c7}(hL:lk n rl j=J (.d (.slice 0 [])))(ha:j9[j]? =J a)(hz:a.op= .load K (.loc j2))(hp:lk n rl j2=J (.ptr id off))(ht:o5.any (Touch.aR id off)=F)(hmay:l.may id=W)
  (hO:H[id]? =J (.cells l0)) (h0:l0[off]? =J .H7) (hy:rq T n rl y=w) (hc:C1 H sz w=J (m,cs)) (aU:roomFor m bytes=W/\0<sz) (hm:m≠0)
  (h2:Rl A l b j9 ops T H2 (n+1) (.s5 (O H) sz 0 m::rl) (.obj (O H)::o5) na (⟨[],[.obj (O H)],w.K9,0⟩::lg) Q) (hH:H++[.cells cs]=H2:=by rfl):Rl A l b j9 (⟨.J9 sz bytes (.loc j) y,K,K,u⟩::ops) T H n rl o5 na lg Q:=by
 have rd1:∀{i v},O rl=n->lk n rl i=J v->(rl.reverse++ .any::List.replicate (O ops) .any)[i]? =J v:=λhn h=>qL (by simp_all [iJ]) _
 have hx:O rl=n->B3.G5 T (rl.reverse++ .any::List.replicate (O ops) .any) (.loc j)= .d (.slice 0 []):=λhn=>by
  simp [B3.G5,List.getD_eq_getElem?_getD,rd1 hn hL];rfl
 have hnil:O rl=n->isNil l j9 ⟨T,H,rl.reverse++ .any::List.replicate (O ops) .any,o5⟩ (.loc j)=W:=λhn=>by
  simp_all [isNil,gG,bF]
 refine Rl.step (N1:=0) (rs:=[]) (λ_=>rfl) (λhn k _=>?_) (λhn k=>?_) h2
 .have hy' :=(T3 hn (O ops) y).trans hy
  simp_all [isNil,K3,List.replicate,s7.A6,e8,if_false,A2,A9,D3,s7.D4,if_true,D9,K0,and_self,E1,newId,Option.getD_none,put,tE,ir,C6,y8,F2]
 simp_all [T3,trans,aM,cD,s7.A6,I6,c7.K9]
def ys {m id off:Nat}{x y:z6}{u:List Nat}{v:c7}{cs:List c7}{H2:n9}(hy:rq T n rl y= .ptr id off)(hx:Oq T n rl x v)(hc:v.cells? =J cs)(hm:O cs=m)(hl:l.may id=W)(hb:C0 cs<=id+1\/(l.base<=id/\l.strict<=id))
  (hw:wr H id off cs=J H2) (h2:Rl A l b j9 ops T H2 (n+1) (.any::rl) (.obj id::o5) na (⟨[],[.obj id],0,0⟩::lg) Q):Rl A l b j9 (⟨.store m y x,K,K,u⟩::ops) T H n rl o5 na lg Q:=by
 refine Rl.step (N1:=0) (rs:=[]) (λ_=>rfl) (λhn k _=>?_) (λhn k=>?_) h2
 .have hl' :(K3 A k l b).lim.may id=W:=hl
  have hb' :C0 cs<=id+1\/((K3 A k l b).lim.base<=id/\(K3 A k l b).lim.strict<=id):=hb;simp [s7.A6,e8,if_false,A2,A9,D3,s7.D4,if_true,D9,T3 hn,hy,R2,(hx.op hn).F1,hc,hm,hl',hb',and_self,hw,put,tE hn,y8,F2]
 simp_all [aM,cD,s7.A6,I6]
end S
end
end Go.B3
namespace Go.B3.S
section
variable {A:Prog} {l:H8} {b:Nat} {j9 ops:List o4} {T:List c7} {H:n9} {n:Nat} {rl:List c7} {o5:List Touch}
section
variable {na:Nat} {lg:List jx} {Q:List c7->n9->List c7->Prop}
def yal {zero:List c7}{u:List Nat}{s:Nat}(Yr :Nat)(T2:List c7)(H2:n9)(hs:s<O T)(htc:o5.any (Touch.V7 s)=W)(hT:T.set s (.ptr na 0)=T2)(hH:H.set na (.cells zero)=H2)(hn:na+1=Yr)
  (h2:Rl A l b j9 ops T2 H2 (n+1) (.ptr na 0::rl) o5 Yr (⟨[],[.obj na],0,na⟩::lg) Q):Rl A l b j9 (⟨.alloc zero,J s,K,u⟩::ops) T H n rl o5 na lg Q:=by
 subst hT hH hn;have h3:O rl=n->∀r:List c7,(rl.reverse++ .ptr na 0::r)[n]? =J (.ptr na 0):=λhn r=>by rw [<- hn,<- List.length_reverse];simp
 refine Rl.step (N1:=0) (rs:=[]) (λ_=>rfl) (λhn k _=>?_) (λhn k=>?_) h2
 .simp only [s7.A6,if_true,A2,A9,D3,s7.D4,D9,E1,newId,Option.getD_some,put,tE hn,y8,X2,hs,htc,B3.F1,h3 hn,decide_true,Bool.and_self]
  simp [B3.G5,c7.F4,h3 hn]
 .simp [aM,cD,I6,s7.A6]
def yc {f:FuncId}{xs:List z6}{u:List Nat}{v:c7}{args:List c7}{m:Nat}{H0 H1:n9}{l2:H8}(HD H2:n9)(hc:Pm A f args H0 l2 v H1)(hH1:O H1=m)(AD:Q5 ((H.take m).drop l.strict)<=m)(hcl:I4 H l.strict 8 (C0 args)=m)
  (XH:H.take m=H0) (hle:m<=O H) (sC:(⟨l.Xw,l.Xo,m,I7 H l.strict m⟩:H8)=l2) (hD:H.drop m=HD) (hA:H1++HD=H2)
  (h2:Rl A l b j9 ops T H2 (n+1) (v::rl) (.below m::o5) na (⟨[],[.below m],m,0⟩::lg) Q) (ha:xs.map (rq T n rl)=args:=by rfl) (mL:A.prom f=F:=by rfl) (hm:A.mode f=0:=by rfl):Rl A l b j9 (⟨.call f xs,K,K,u⟩::ops) T H n rl o5 na lg Q:=by
 obtain ⟨f8,hc⟩:=hc;subst XH hD hA;have UZ :∀k,(K3 A k l b).prom f=F:=λ_=>mL
 refine Rl.step (N1:=f8) (rs:=[]) (λ_=>rfl) (λhn k hk=>?_) (λhn k=>?_) h2
 .have h3:D7 (K3 A k l b) n f args ⟨T,H,rl.reverse++ .any::List.replicate (O ops) .any,o5⟩=J (put ⟨T,H1++H.drop m,rl.reverse++ .any::List.replicate (O ops) .any,.below m::o5⟩ n v) :=
   qo mL hm hcl hle AD sC (hc k hk) hH1
  simp only [s7.A6,e8,if_false,A2,A9,D3,s7.D4,if_true,D9,iM hn,ha,h3,y8,F2,put,tE hn]
 .have aY8 :I4 H (K3 A k l b).lim.strict 8 (C0 args)=m:=hcl
  simp [aM,cD,I6,s7.A6,UZ,iM hn,ha,aY8]
def yl {f:FuncId}{xs:List z6}{u:List Nat}{v:c7}{args:List c7}(hc:Pf A f args v)
  (h2:Rl A l b j9 ops T H (n+1) (v::rl) o5 na (⟨[],[],0,0⟩::lg) Q) (ha:xs.map (rq T n rl)=args:=by rfl) (mL:A.prom f=F:=by rfl) (hm:A.mode f=1:=by rfl) (hb:C0 args=0:=by rfl):Rl A l b j9 (⟨.call f xs,K,K,u⟩::ops) T H n rl o5 na lg Q:=by
 obtain ⟨f8,hc⟩:=hc;have UZ :∀k,(K3 A k l b).prom f=F:=λ_=>mL
 refine Rl.step (N1:=f8) (rs:=[]) (λ_=>rfl) (λhn k hk=>?_) (λhn k=>?_) h2
 .have h3:D7 (K3 A k l b) n f args ⟨T,H,rl.reverse++ .any::List.replicate (O ops) .any,o5⟩=J (put ⟨T,H,rl.reverse++ .any::List.replicate (O ops) .any,o5⟩ n v) :=
   iU mL hm hb (hc k hk)
  simp only [s7.A6,e8,if_false,A2,A9,D3,s7.D4,if_true,D9,iM hn,ha,h3,y8,F2,put,tE hn]
 .have hcl:I4 H (K3 A k l b).lim.strict 8 0=0:=by simp [I4]
  simp [aM,cD,I6,s7.A6,UZ,iM hn,ha,hb,hcl]
def ymT {x:z6}{s:Nat}{u:List Nat}{v:c7}(T2:List c7)(hs:s<O T)(hT:T.set s v=T2)(h2:Rl A l b j9 ops T2 H (n+1) (v::rl) (.slot s::o5) na (⟨[],[.slot s],0,0⟩::lg) Q)(hx:Oq T n rl x v:=by exact ⟨rfl,rfl⟩)(hv:∀z m cs,v≠ .own z m cs:=by intros;exact λh=>by cases h):Rl A l b j9 (⟨.S1 x,J s,K,u⟩::ops) T H n rl o5 na lg Q:=by
 subst hT;have h3:O rl=n->∀r:List c7,(rl.reverse++v::r)[n]? =J v:=λhn r=>by rw [<- hn,<- List.length_reverse];simp
 have hv2:v.F4=v:=hx.2;refine Rl.step (N1:=0) (rs:=[]) (λ_=>rfl) (λhn k _=>?_) (λhn k=>?_) h2
 .have e:∀st:G4,st.L[n]? =J v->B3.F1 st (.loc n)=(v,st):=λst h=>by
   cases v<;>simp_all [B3.F1,B3.G5,c7.F4]
  simp only [s7.A6,e8,if_false,A2,A9,D3,s7.D4,(hx.op hn).F1,put,tE hn,y8,F2,hs,if_true];rw [e _ (h3 hn _)]
 .simp [aM,cD,I6,s7.A6]
end
section
variable {Q:List c7->n9->List c7->Prop}
def apn {sz bytes id len m:Nat}{x y:z6}{u:List Nat}{cs l0:List c7}{w:c7}(y4 t:Nat)(H2:n9)(hx:rq T n rl x= .s5 id sz 0 len)(hy:rq T n rl y=w)(hO:H[id]? =J (.cells l0))(hc:C1 H sz w=J (m,cs))(hmay:l.may id=W)
  (aU:len * sz=O l0/\roomFor (len+m) bytes=W/\C0 cs<=O H/\cs.all c7.one=W/\0<sz) (hH:H.set id .dead++[.cells (l0.map c7.F4++cs)]=H2) (hN:O H=y4) (ht:len+m=t)
  (h2:Ry A l b F j9 ops T H2 (n+1) (.s5 y4 sz 0 t::rl) (.obj y4:: .obj id::o5) Q):Ry A l b F j9 (⟨.J9 sz bytes x y,K,K,u⟩::ops) T H n rl o5 Q:=λhn=>by
 subst hN ht hy hH;have uw :(0=0/\len * sz=O l0/\roomFor (len+m) bytes=W/\C0 cs<=O H/\cs.all c7.one=W/\0<sz):=⟨rfl,aU⟩;refine Rx.stepT (N1:=0) (rs:=[]) rfl (λk _=>?_) (h2.to hn);have Lb :(K3 A k l b).lim.may id=W:=hmay;simp only [A2,A9,D3,s7.D4,if_true,D9,T3 hn,hx,U7,Lb,hO,hc,newId,Option.getD_none,uw,E1,put,N5,ir,C6,y8,F2,List.length_set];simp
def apz {sz bytes j j2 id off m:Nat}{y:z6}{u:List Nat}{a:o4}{cs l0:List c7}{w:c7}(y4:Nat)(H2:n9)(hL:lk n rl j=J (.d (.slice 0 [])))(ha:j9[j]? =J a)(hz:a.op= .load K (.loc j2))(hp:lk n rl j2=J (.ptr id off))(ht:o5.any (Touch.aR id off)=F)(hmay:l.may id=W)
  (hO:H[id]? =J (.cells l0)) (h0:l0[off]? =J .H7) (hy:rq T n rl y=w) (hc:C1 H sz w=J (m,cs)) (aU:roomFor m bytes=W/\0<sz) (hm:m≠0) (hH:H++[.cells cs]=H2) (hN:O H=y4)
  (h2:Ry A l b F j9 ops T H2 (n+1) (.s5 y4 sz 0 m::rl) (.obj y4::o5) Q):Ry A l b F j9 (⟨.J9 sz bytes (.loc j) y,K,K,u⟩::ops) T H n rl o5 Q:=λhn=>by
 subst hN hy hH;have rd1:∀{i v},lk n rl i=J v->(rl.reverse++ .any::List.replicate (O ops) .any)[i]? =J v:=λh=>qL (by rw [iJ hn];exact h) _
 have hx:B3.G5 T (rl.reverse++ .any::List.replicate (O ops) .any) (.loc j)= .d (.slice 0 []):=by
  simp only [B3.G5,List.getD_eq_getElem?_getD,rd1 hL];rfl
 have hnil:isNil l j9 ⟨T,H,rl.reverse++ .any::List.replicate (O ops) .any,o5⟩ (.loc j)=W:=by
  simp only [isNil,rd1 hL,ha,hz,gG,bF,rd1 hp,ht,hmay,hO,h0];rfl
 refine Rx.stepT (N1:=0) (rs:=[]) rfl (λk _=>?_) (h2.to hn);have ba1 :isNil (K3 A k l b).lim j9 ⟨T,H,rl.reverse++ .any::List.replicate (O ops) .any,o5⟩ (.loc j)=W:=hnil;simp only [A2,A9,D3,s7.D4,if_true,D9,hx,T3 hn,K0,hc,ba1,aU,and_self,hm,if_false,E1,newId,Option.getD_none,put,N5,ir,C6,y8,F2]
def soy {m id off:Nat}{x y:z6}{u:List Nat}{v:c7}{cs:List c7}{H2:n9}(hy:rq T n rl y= .ptr id off)(hx:Oq T n rl x v)(hc:v.cells? =J cs)(hm:O cs=m)(hl:l.may id=W)(hb:C0 cs<=id+1\/(l.base<=id/\l.strict<=id))
  (hw:wr H id off cs=J H2) (h2:Ry A l b F j9 ops T H2 (n+1) (.any::rl) (.obj id::o5) Q):Ry A l b F j9 (⟨.store m y x,K,K,u⟩::ops) T H n rl o5 Q:=λhn=>by
 refine Rx.stepT (N1:=0) (rs:=[]) rfl (λk _=>?_) (h2.to hn);have hl' :(K3 A k l b).lim.may id=W:=hl;have hb' :C0 cs<=id+1\/((K3 A k l b).lim.base<=id/\(K3 A k l b).lim.strict<=id):=hb;simp only [A2,A9,D3,s7.D4,if_true,D9,T3 hn,hy,R2,(hx.op hn).F1,hc,hm,hl',hb',and_self,hw,put,N5,y8,F2]
end
end
section
variable {ρ:z6->c7} {G:n9} {x y:z6}
def aN3 {α:Type} [Inhabited α] {enc:α->List Data}{xs:List α}{sz:Nat}{i:Int}(hs:∀a,O (enc a)=sz)(hx:ρ x= .d (B8 enc xs))(hy:ρ y= .d (.int .i64 i))(h0:0<=i)(h1:i<O xs):l8 ρ G (.J4 sz x y)=J (.U2 (enc (Y xs i.toNat)++(xs.drop (i.toNat+1)).flatMap enc),[]):=by
 have e:(xs.flatMap enc).drop (i.toNat * sz)=enc (Y xs i.toNat)++(xs.drop (i.toNat+1)).flatMap enc:=by
  rw [nj hs,E3 (by omega:i.toNat<O xs),List.flatMap_cons]
 simp [l8,hx,hy,B8,h0,h1,e]
def bN3 {c:Data}{cs:List Data}(hx:ρ x= .U2 (c::cs)):l8 ρ G (.load K x)=J (.d c,[]):=by simp [l8,hx]
def aB1 {cs rest:List Data}{m:Nat}(hx:ρ x= .U2 (cs++rest))(hm:O cs=m):l8 ρ G (.load (J m) x)=J (.agg (cs.map .d),[]):=by
 subst hm;simp [l8,hx]
def bN4 {α:Type}{enc:α->List Data}{xs:List α}(hx:ρ x= .d (B8 enc xs)):l8 ρ G (.len x)=J (.d (.int .i64 (O xs:Int)),[]):=by simp [l8,hx,B8,i64]
def YK {id lo len sz i:Nat}(hx:ρ x= .s5 id sz lo len)(hy:ρ y= .d (.int .i64 (i:Int)))(h:i<len):l8 ρ G (.J4 sz x y)=J (.ptr id (lo+i * sz),[]):=by
 simp [l8,hx,hy];exact h
def AM {id o k:Nat}(hx:ρ x= .ptr id o):l8 ρ G (.off k x)=J (.ptr id (o+k),[]):=by simp [l8,hx]
def Wv {id o:Nat}{v w:c7}(hx:ρ x= .ptr id o)(hr:rd G id o 1=J [v])(hw:v.F4=w):l8 ρ G (.load K x)=J (w,[id]):=by simp [l8,hx,hr,hw]
def Vv {id o m:Nat}{vs:List c7}(hx:ρ x= .ptr id o)(hr:rd G id o m=J vs)(hv:vs.map c7.F4=vs):l8 ρ G (.load (J m) x)=J (.agg vs,[id]):=by simp [l8,hx,hr,hv]
end
end Go.B3.S
namespace Go.B3
theorem yJ {A i4:Prog}(hf:A.fn=i4.fn)(hi:A.idle=i4.idle)(hm:A.mode=i4.mode)(f8:Nat)(hn:∀f,A.gQ f=K->i4.gQ f=K\/A.fn f=K)
  (hp:∀f p,A.gQ f=J p->∀args H l r,p args H l=J r->call i4 f8 f args H l=J r):∀n,LeC (call A n) (call i4 (n+f8))
 |0=>λ_ _ _ _=>lI.no _
 |n+1=>λf args H l=>by
  intro r hr;have yT:A.prom=i4.prom:=by grind [Prog.prom]
  unfold call at hr;split at hr
  next p hq=>
   exact Ir i4 f8 (n+1+f8) V f args H l r (hp f p hq args H l r hr)
  .split at hr
   next af haf=>
    have hb:i4.gQ f=K:=by
     grind
    rw [show n+1+f8=(n+f8)+1 by omega,Iq hb (by rw [<- hf];exact haf)];unfold jf at hr ⊢;split at hr
    next hlen=>
     rw [if_pos hlen];cases hx:exec ⟨call A n,A.prom,A.mode,A.idle,l,O H⟩ n af.body ⟨args++List.replicate (O af.names - O args) .any,H⟩ with
     |none=>simp_all
     |some x =>
      rw [hx] at hr;rw [yT,hi,hm] at hx;rw [iX (yJ hf hi hm f8 hn hp n) (Nat.le_add_right n f8) _ _ _ hx];exact hr
    .cases hr
   .cases hr
def Pf.aR3 {A:Prog}{es:List Ic}{f8 n:Nat}(hes:∀e,e∈es->call A f8 e.f e.args [] Q9=J (e.res,[])){f:FuncId}{args:List c7}{v:c7}(h:call (memo A es) n f args [] Q9=J (v,[]))(hM:0<f8):Pf A f args v:=by
 refine Pf.aq9 (yJ (A:=memo A es) (i4:=A) rfl rfl rfl f8 ?_ ?_ n _ _ _ _ _ h)
 .grind [memo]
 .intro f p hp args H l r hr
  simp [memo] at hp;split at hp
  .cases hp
   simp only at hr;split at hr
   .grind [IU,CG]
   .cases hr
  .obtain ⟨k,rfl⟩:∃k,f8=k+1:=⟨f8 - 1,V⟩
   simp_all [call]
end Go.B3


import Derived.Test.YtibjocmpkoepoaaGreatB4
set_option linter.all false
open Bool renaming false_eq_true→j6,or_eq_false_iff→B2,true→W,false→F
open Int renaming toNat_natCast→G6
open List renaming append_assoc→F5,drop_of_length_le→n5,getElem?_append_left→y7,getElem?_append_right→x7,getElem?_eq_getElem→o3,getElem_of_mem→E0,length_singleton→E5,map_cons→G7,mem_cons→K2,pairwise_cons→F2,replicate_succ→M0,take_of_length_le→s9,length→O
open Nat renaming le_of_ble_eq_true→j5,le_refl→k9,le_trans→o5,lt_or_ge→y8,mul_le_mul_right→F8
open Option renaming map_some→B8,some→J,none→K
namespace Go.z6
def oG (x:Int):List Int->List Int
 |[]=>[x]
 |y::l=>if x<=y then x::y::l else y::oG x l
def Y5:List Int->List Int
 |[]=>[]
 |x::l=>oG x (Y5 l)
def gT :List c7->Option (List Int)
 |[]=>J []
 | .d (.int .i64 n)::r=>match gT r with
  |some xs=>J (n::xs)
  |none=>K
 |_=>K
def Ab:List c7->k8->G9->Option (c7×k8)
 |[.O5,.d (.int .i64 n)],H,_=>if 0<=n/\n<=1000000 then J (.own 1 0 [],H) else K
 |_,_,_=>K
def Ac:List c7->k8->G9->Option (c7×k8)
 |[.s5 id 1 lo len],H,l=>if l.may id&&Nat.ble len 1000000 then match rd H id lo len with
   |some vs=>match gT vs with
    |some xs=>match wr H id lo ((Y5 xs).map λn=> .d (.int .i64 n)) with
     |some H1=>J (.tuple [],H1)
     |none=>K
    |none=>K
   |none=>K
  else K
 |[.d (.slice 0 _)],H,_=>J (.tuple [],H)
 |_,_,_=>K
def V8:List Int->List Int
 |[]=>[]
 |[x]=>[x]
 |x::y::l=>if x=y then V8 (y::l) else x::V8 (y::l)
def jm:List c7->k8->G9->Option (c7×k8)
 |[.s5 id 1 lo len],H,l=>if l.may id&&Nat.ble len 1000000 then match rd H id lo len with
   |some vs=>match gT vs with
    |some xs=>match wr H id lo ((V8 xs++List.replicate (O xs - O (V8 xs)) 0).map λn=> .d (.int .i64 n)) with
     |some H1=>J (.s5 id 1 lo (O (V8 xs)),H1)
     |none=>K
    |none=>K
   |none=>K
  else K
 |_,_,_=>K
section
variable {A:Prog} {l:G9} {b:Nat}
variable {dr:Bool} {j8 ops:List x9} {T:List c7} {H:k8} {n:Nat} {rl:List c7} {l6:List Touch} {Q:List c7->k8->List c7->Prop}
def Ex.dn {ops:List x9}{draw:Bool}{c:A4}{d e:L2}{T:List c7}{H:k8}{Q:H9->St->Prop}(t:Bool)
  (h:Rn A l b ops draw T H λT' H' L=>T' =T/\H' =H/\∃t',F7 T' L c= .d (.bool t')/\t' =t)
  (h2:t=W->Ex A l b d ⟨T,H⟩ Q) (h3:t=F->Ex A l b e ⟨T,H⟩ Q):Ex A l b (.test ops draw c d e) ⟨T,H⟩ Q:=by
 obtain ⟨r,N,⟨e1,e2,t',e3,rfl⟩,h⟩:=h;subst e1;subst e2;exact Ex.test ⟨r,N,⟨t',e3,h2,h3⟩,h⟩
def Ex.nT {c:L2}{T T2:List c7}{H:k8}{Q:H9->St->Prop}(h:Ex A l b c ⟨T2,H⟩ Q)(hT:T=T2:=by simp only [Q5]<;>rfl):Ex A l b c ⟨T,H⟩ Q:=hT ▸ h
def Pf.run {f:FuncId}{af:p6}{args:List c7}{v:c7}(T:List c7)(hp:A.bw f=K)(hf:A.fn f=J af)(hn:O args=af.nparams)
  (hT:args++List.replicate (O af.names - O args) .any=T) (h:Ex A N9 0 af.body ⟨T,[]⟩ λx s=>∃w,T9 af 0 (J (x,s))=J (w,[])/\w=v):Pf A f args v :=
 Pf.XC T hp hf hn hT (h.mono λ_ _ ⟨_,h1,h2⟩=>h2 ▸ h1)
theorem qL {α:Type}:∀{l:List α} {j:Nat} {v:α},l[j]? =J v->l.set j v=l
 |[],_,_,_=>rfl
 |a::l,0,v,h=>M
 |a::l,j+1,v,h=>by simp at h;simp [qL h]
def Rx.NT {pre:List c7}{op:F6}{j:Nat}{want:Bool}{u:List Nat}(h:pre[j]? =J (.tuple []))(hk:F9 ⟨T,H,pre++ .any::List.replicate (O ops) .any,l6⟩ op=F)(ha:op.y3=F)
  (h2:Rx A l b dr j8 ops T H (pre++[.tuple []]) l6 Q):Rx A l b dr j8 (⟨op,K,J (j,want),u⟩::ops) T H pre l6 Q:=by
 refine Rx.step (N1:=0) (rs:=[]) hk ha (λn _=>?_) (λrs=>by simp [F3]) h2
 grind [x8,y6,iB,put,J4,s6,D5]
instance:Inhabited Q9:=⟨⟨0,0,0,[],0⟩⟩
instance:Inhabited Q1:=⟨⟨[],0,[],[],[],0,0⟩⟩
instance:Inhabited cI:=⟨⟨[],[],0,0⟩⟩
instance:Inhabited uB:=⟨⟨[],[]⟩⟩
instance:Inhabited uc:=⟨⟨[],0,[]⟩⟩
instance:Inhabited Vw:=⟨⟨[],0,[],[],[],[],[],F,[]⟩⟩
instance:Inhabited iL:=⟨⟨[],[],0⟩⟩
instance:Inhabited iI:=⟨⟨[],[],0,0,0,0⟩⟩
instance:Inhabited kG:=⟨⟨[],[],0,0⟩⟩
instance:Inhabited kA:=⟨⟨[],[],0⟩⟩
instance:Inhabited nr:=⟨⟨[],[]⟩⟩
instance:Inhabited nq:=⟨⟨[],[],0⟩⟩
@[irreducible] def Y {α:Type} [Inhabited α] (l:List α) (i:Nat):α:=l[i]?.getD default
theorem A7 {α:Type} [Inhabited α] {l:List α}{i:Nat}(h:i<O l):Y l i=l[i]:=by simp [Y,h]
theorem O1 {α:Type} [Inhabited α] (a:α)(l:List α):Y (a::l) 0=a:=by simp [Y]
theorem bp {α:Type} [Inhabited α] (a:α)(l:List α)(i:Nat):Y (a::l) (i+1)=Y l i:=by simp [Y]
theorem E7 {α:Type} [Inhabited α] {l:List α}{i:Nat}(h:i<O l):Y l i∈l:=by grind [A7,List.getElem_mem]
theorem C5 {α:Type} [Inhabited α] {l:List α}{i:Nat}(h:i<O l):l.drop i=Y l i::l.drop (i+1):=by grind [A7,List.drop_eq_getElem_cons]
theorem D2 {α:Type} [Inhabited α] {l:List α}{i:Nat}(h:i<O l):l.take (i+1)=l.take i++[Y l i]:=by rw [A7 h,List.take_append_getElem]
def iH {α:Type} [Inhabited α] {l:List α}{i j:Nat}(h:j<i)(hi:i<=O l):(l.take i).drop j=Y l j::(l.take i).drop (j+1):=by
 grind [C5,A7]
@[irreducible] def D0 (a b:Int):Bool:=decide (a<b)
@[irreducible] def U4 (a b:Int):Bool:=decide (a<=b)
@[irreducible] def s7 (a b:Int):Bool:=a==b
@[irreducible] def K7 (a b:List UInt8):Bool:=a==b
theorem s4 (a b:Int):D0 a b=decide (a<b):=by unfold D0;rfl
theorem r7 (a b:Int):U4 a b=decide (a<=b):=by unfold U4;rfl
theorem o6 (a b:Int):s7 a b=(a==b):=by unfold s7;rfl
theorem E2 (a b:List UInt8):K7 a b=(a==b):=by unfold K7;rfl
def A5 {a b:Int}(h:D0 a b=W):a<b:=by grind [s4]
def A9 {a b:Int}(h:D0 a b=F):b<=a:=by grind [s4]
def gU {a b:Int}(h:U4 a b=W):a<=b:=by grind [r7]
def nO {a b:Int}(h:U4 a b=F):b<a:=by grind [r7]
theorem W9 {a b:Int}(h:s7 a b=W):a=b:=by grind [o6]
theorem iW {a b:Int}(h:s7 a b=F):a≠b:=by grind [o6]
theorem Zj {a b:List UInt8}(h:K7 a b=W):a=b:=by grind [E2]
theorem SD {a b:List UInt8}(h:K7 a b=F):a≠b:=by grind [E2]
def p9 (n a b:Int):Bool:=U4 a n&&U4 n b
def Ry (A:Prog)(l:G9)(b:Nat)(dr:Bool)(j8 ops:List x9)(T:List c7)(H:k8)(n:Nat)(rl:List c7)(l6:List Touch)(Q:List c7->k8->List c7->Prop):Prop :=
 O rl=n->Rx A l b dr j8 ops T H rl.reverse l6 Q
def lk (n:Nat)(rl:List c7)(j:Nat):Option c7:=match Nat.ble (j+1) n with
 |true=>rl[n - (j+1)]?
 |false=>K
theorem aT (hn:O rl=n)(j:Nat):rl.reverse[j]? =lk n rl j:=by
 grind [lk,j5,Nat.ble_eq_true_of_le,List.getElem?_eq_none]
def Fi (T:List c7)(n:Nat)(rl:List c7):A4->Option c7
 | .slot s=>T[s]?
 | .loc j=>lk n rl j
 | .const v=>J v
def Oq (T:List c7)(n:Nat)(rl:List c7)(x:A4)(v:c7):Prop:=Fi T n rl x=J v/\v.I7=v
def Oq.op {x:A4}{v:c7}(h:Oq T n rl x v)(hn:O rl=n):Op T rl.reverse x v:=by
 obtain ⟨h1,h2⟩:=h;refine ⟨?_,h2⟩;cases x with
 |slot s=>exact h1
 |loc j=>simp [Uj,aT hn];exact h1
 |const u=>exact h1
def rq (T:List c7)(n:Nat)(rl:List c7):A4->c7
 | .const v=>v.KE
 |x=>((Fi T n rl x).getD .any).I7
theorem Oq.rq {x:A4}{v:c7}(h:Oq T n rl x v):z6.rq T n rl x=v:=by
 obtain ⟨h1,h2⟩:=h;cases x with
 |const u=>simp_all [Fi,Option.some.injEq,z6.rq,Lx]
 |_=>grind [z6.rq]
def M5 (hn:O rl=n)(m:Nat)(x:A4):z6.F7 T (rl.reverse++ .any::List.replicate m .any) x=rq T n rl x:=by
 cases x with
 |slot s=>rfl
 |const v=>rfl
 |loc j =>
  grind [z6.F7,rq,Fi,aT,y8,y7,x7,List.getElem?_eq_none,List.getElem?_cons_succ]
def Ry.to {v:c7}(h:Ry A l b dr j8 ops T H (n+1) (v::rl) l6 Q)(hn:O rl=n):Rx A l b dr j8 ops T H (rl.reverse++[v]) l6 Q:=by
 have:=h (by simp [hn]);simp_all
def Rn.text {T:List c7}{H:k8}(h:Ry A l b F ops ops T H 0 [] [] Q):Rn A l b ops F T H Q:=Rn.Qw (h rfl)
def Rn.draw {T:List c7}{H:k8}(h:Ry A l b W ops ops T H 0 [] [] Q)(hp:ox ops=W:=by rfl):Rn A l b ops W T H Q:=Rn.Qv hp (h rfl)
theorem Ry.pure {op:F6}{u:List Nat}{v:c7}{rs:List Nat}(hE:op.B3=F)(hp:l5 (rq T n rl) H op=J (v,rs))
  (h2:Ry A l b dr j8 ops T H (n+1) (v::rl) l6 Q):Ry A l b dr j8 (⟨op,K,K,u⟩::ops) T H n rl l6 Q:=λhn=>by
 refine Rx.pure (rs:=rs) hE (λm=>?_) (h2.to hn);rw [show z6.F7 T (rl.reverse++ .any::List.replicate m .any)=rq T n rl from funext λx=>M5 hn m x];exact hp
def Ry.oQ {op:F6}{u:List Nat}{v:c7}{rs:List Nat}{s:Nat}(hE:op.B3=F)(hp:l5 (rq T n rl) H op=J (v,rs))(hv:v.I7=v)(hm:op.y3=F)(hs:T[s]?.isSome=W)
  (h2:Ry A l b dr j8 ops (T.set s v) H (n+1) (v::rl) (.slot s::l6) Q):Ry A l b dr j8 (⟨op,J s,K,u⟩::ops) T H n rl l6 Q:=λhn=>by
 have hs:s<O T:=by
  simp_all
 have Mn:∀x,op≠ .dV x:=by
  grind [l5]
 refine Rx.step (N1:=0) (rs:=rs) ?_ hm (λm _=>?_) (cA s l6) (h2.to hn)
 .cases op<;>first|rfl|grind [F6.B3]
 .have h3:B4 (I9 A m l b) j8 K (O rl.reverse) op ⟨T,H,rl.reverse++ .any::List.replicate (O ops) .any,l6⟩=J (⟨T,H,rl.reverse++v::List.replicate (O ops) .any,l6⟩,rs):=by
   have h4:l5 (z6.F7 T (rl.reverse++ .any::List.replicate (O ops) .any)) H op=J (v,rs):=by
    rw [show z6.F7 T (rl.reverse++ .any::List.replicate (O ops) .any)=rq T n rl from funext λx=>M5 hn _ x];exact hp
   simp_all [absurd,B4,j6,if_false,put,J4,F6.B3]
  have h5:z6.E9 ⟨T,H,rl.reverse++v::List.replicate (O ops) .any,l6⟩ (.loc (O rl.reverse))=(v,⟨T,H,rl.reverse++v::List.replicate (O ops) .any,l6⟩):=by
   grind [z6.E9,c7.I7,z6.F7]
  simp_all [x8,y6,s6,D5,if_true]
def Ry.fork {j:Nat}{w:Bool}(h:lk n rl j=J (.d (.bool w)))(hj:Nat.ble (j+1) n=W)(h1:w=W->Ry A l b dr j8 ops T H n (rl.set (n - (j+1)) (.d (.bool W))) l6 Q)
  (h2:w=F->Ry A l b dr j8 ops T H n (rl.set (n - (j+1)) (.d (.bool F))) l6 Q):Ry A l b dr j8 ops T H n rl l6 Q:=by
 simp [lk,hj] at h;cases w with
 |true=>simp_all [qL]
 |false=>simp_all [qL]
theorem Ao {α:Type}{enc:α->List Data}{sz:Nat}(hs:∀a,O (enc a)=sz):∀(l:List α) (i:Nat),(l.flatMap enc).take (i * sz)=(l.take i).flatMap enc
 |[],i=>U
 |a::l,0=>U
 |a::l,i+1=>by
  have h1:=Ao hs l i;simp_all [List.flatMap_cons,List.take_succ_cons,List.take_append,Nat.succ_mul,Nat.add_sub_cancel,s9]
theorem W4 {α:Type}{enc:α->List Data}{sz:Nat}(hs:∀a,O (enc a)=sz):∀(l:List α),O (l.flatMap enc)=O l * sz
 |[]=>U
 |a::l=>by simp [hs a,W4 hs l,Nat.succ_mul,Nat.add_comm]
theorem iT {α:Type}{enc:α->List Data}{sz:Nat}(hs:∀a,O (enc a)=sz):∀(l:List α) (i:Nat),(l.flatMap enc).drop (i * sz)=(l.drop i).flatMap enc
 |[],i=>U
 |a::l,0=>U
 |a::l,i+1=>by
  have h1:=iT hs l i;simp_all [List.flatMap_cons,List.drop_succ_cons,List.drop_append,Nat.succ_mul,Nat.add_sub_cancel,List.drop_eq_nil_of_le]
def xw {α:Type}{enc:α->List Data}{sz:Nat}(hs:∀a,O (enc a)=sz)(l:List α)(lo hi:Nat)(h1:lo<=hi)(h2:hi<=O l) :
  Data.slice ((hi:Int) - lo).toNat (((l.flatMap enc).take (hi * sz)).drop (lo * sz))=x3 enc ((l.take hi).drop lo):=by
 simp_all [Ao,iT,x3]
def A8 {α:Type}(sz:Nat)(enc:α->List Data)(xs:List α):c7:= .own sz (O xs) (xs.flatMap enc)
def uR {j:Nat}(hn:O rl=n)(hb:Nat.ble (j+1) n=W)(v:c7):rl.reverse.set j v=(rl.set (n - (j+1)) v).reverse:=by
 have hb' :j+1<=O rl:=M
 apply List.ext_getElem?;intro i
 rcases y8 i (O rl) with hi|hi
 .grind
 simp_all
def Rx.OZ {pre:List c7}{j sz bytes:Nat}{y:A4}{u:List Nat}{len m:Nat}{cells new:List Data}{vy:c7}{cs:List c7}
  (hj:pre[j]? =J (.own sz len cells)) (hy:∀m,z6.F7 T (pre++ .any::List.replicate m .any) y=vy) (hc:B5 H sz vy=J (m,cs)) (hd:J3 cs=J new) (hr:roomFor (len+m) bytes=W) (h0:0<sz)
  (h2:Rx A l b dr j8 ops T H (pre.set j (.d (.slice len cells))++[.own sz (len+m) (cells++new)]) l6 Q):Rx A l b dr j8 (⟨.append sz bytes F (.loc j) y,K,K,u⟩::ops) T H pre l6 Q:=by
 have hjl:j<O pre:=by
  grind
 have hL:∀r:List c7,(pre++ .any::r)[j]? =J (.own sz len cells):=λr=>by grind
 have TM:z6.F7 T (pre++ .any::List.replicate (O ops) .any) (.loc j)= .d (.slice len cells):=by simp [z6.F7,hL,c7.I7]
 have hl:O (pre.set j (.d (.slice len cells)))=O pre:=U
 have h4:∀(a v:c7) (r:List c7),(pre.set j (.d (.slice len cells))++a::r).set (O pre) v=pre.set j (.d (.slice len cells))++v::r:=λa v r=>M
 refine Rx.stepG (N1:=0) (rs:=[]) hl (by simp_all [F9]) rfl (λn _=>?_) (λrs=>by simp [F3]) h2;simp_all [x8,y6,B4,F6.B3,if_true,C7,J7,j6,if_false,P4,and_self,put,s6,D5]
theorem cg:∀l:List Data,J3 (l.map .d)=J l
 |[]=>rfl
 |a::l=>by simp [J3,c7.data?,cg l]
def Ry.VZ {j s sz bytes:Nat}{y:A4}{u u' :List Nat}{d' :Option Nat}{g' :Option (Nat×Bool)}{n' len m:Nat}{cs' cells new:List Data}
  (hj:lk n rl j=J (.d (.slice n' cs'))) (ha:j8[j]? =J ⟨.dV (.slot s),d',g',u'⟩) (ht:l6.any (Touch.Q6 s)=F) (hT:T[s]? =J (.own sz len cells))
  (hy:rq T n rl y= .d (.slice m new)) (hl:O new=m * sz) (hr:roomFor (len+m) bytes=W) (h0:0<sz)
  (h2:Ry A l b dr j8 ops (T.set s (.d (.slice len cells))) H (n+1) (.own sz (len+m) (cells++new)::rl) (.slot s::l6) Q):Ry A l b dr j8 (⟨.append sz bytes F (.loc j) y,K,K,u⟩::ops) T H n rl l6 Q:=λhn =>
 Rx.append (vy:= .d (.slice m new)) (by rw [aT hn];exact hj) ha ht hT (λk=>by simp_all [M5]) (by simp_all [B5]) (cg new) hr h0 (h2.to hn)
def Ry.SR {j sz bytes:Nat}{y:A4}{u:List Nat}{len m:Nat}{cells new:List Data}(hj:lk n rl j=J (.own sz len cells))(hb:Nat.ble (j+1) n=W)
  (hy:rq T n rl y= .d (.slice m new)) (hl:O new=m * sz) (hr:roomFor (len+m) bytes=W) (h0:0<sz)
  (h2:Ry A l b dr j8 ops T H (n+1) (.own sz (len+m) (cells++new)::rl.set (n - (j+1)) (.d (.slice len cells))) l6 Q):Ry A l b dr j8 (⟨.append sz bytes F (.loc j) y,K,K,u⟩::ops) T H n rl l6 Q:=λhn=>by
 refine Rx.OZ (vy:= .d (.slice m new)) (by rw [aT hn];exact hj) (λk=>by simp_all [M5]) (by simp_all [B5]) (cg new) hr h0 ?_;have h3:=h2.to (by simp [hn]);simp_all [uR]
namespace S
def nl (h:Q T H rl.reverse):Ry A l b dr j8 [] T H n rl l6 Q:=λ_=>Rx.nil h
def mv {x:A4}{v:c7}{u:List Nat}(h2:Ry A l b dr j8 ops T H (n+1) (v::rl) l6 Q)(hx:Oq T n rl x (v):=by exact ⟨rfl,rfl⟩) :
  Ry A l b dr j8 (⟨.dV x,K,K,u⟩::ops) T H n rl l6 Q:=λhn=>Rx.dV (hx.op hn) (h2.to hn)
def mt {x:A4}{v:c7}{s:Nat}{T2:List c7}{u:List Nat}(hx:Oq T n rl x (v):=by exact ⟨rfl,rfl⟩)(hs:T[s]?.isSome=W:=by rfl)(hT:T.set s v=T2:=by simp only [List.set_cons_zero,List.set_cons_succ]<;>rfl)(h2:Ry A l b dr j8 ops T2 H (n+1) (v::rl) (.slot s::l6) Q) :
  Ry A l b dr j8 (⟨.dV x,J s,K,u⟩::ops) T H n rl l6 Q:=λhn=>Rx.XB (hx.op hn) hs (by rw [hT];exact h2.to hn)
theorem mo {s z n0:Nat}{cs:List Data}{u:List Nat}(h2:Ry A l b dr j8 ops T H (n+1) (.d (.slice n0 cs)::rl) l6 Q)(hx:T[s]? =J (.own z n0 cs):=by rfl) :
  Ry A l b dr j8 (⟨.dV (.slot s),K,K,u⟩::ops) T H n rl l6 Q:=λhn=>Rx.Uf hx (h2.to hn)
def mw {j s z n0:Nat}{cs:List Data}{u:List Nat}{T2:List c7}(hj:lk n rl j=J (.own z n0 cs):=by rfl)(hb:Nat.ble (j+1) n=W:=by rfl)(hs:T[s]?.isSome=W:=by rfl)(hT:T.set s (.own z n0 cs)=T2:=by simp only [List.set_cons_zero,List.set_cons_succ]<;>rfl)
  (h2:Ry A l b dr j8 ops T2 H (n+1) (.d (.slice n0 cs)::rl.set (n - (j+1)) (.d (.slice n0 cs))) (.slot s::l6) Q):Ry A l b dr j8 (⟨.dV (.loc j),J s,K,u⟩::ops) T H n rl l6 Q:=λhn=>by
 refine Rx.MU (by rw [aT hn];exact hj) hs ?_;have h3:=h2.to (by simp [hn]);simp_all [uR]
def ow {s z n0:Nat}{cs:List Data}{T2:List c7}{u:List Nat}(hs:T[s]?.isSome=W:=by rfl)(hT:T.set s (.own z n0 cs)=T2:=by simp only [List.set_cons_zero,List.set_cons_succ]<;>rfl)(h2:Ry A l b dr j8 ops T2 H (n+1) (.d (.slice n0 cs)::rl) (.slot s::l6) Q) :
  Ry A l b dr j8 (⟨.dV (.const (.own z n0 cs)),J s,K,u⟩::ops) T H n rl l6 Q:=λhn=>Rx.XF hs (by rw [hT];exact h2.to hn)
def ad {x y:A4}{c d:Int}{u:List Nat}(h2:Ry A l b dr j8 ops T H (n+1) (.d (.int .i64 (c+d))::rl) l6 Q)(hx:rq T n rl x= .d (.int .i64 c):=by rfl)(hy:rq T n rl y= .d (.int .i64 d):=by rfl)(h0: -9223372036854775808<=c+d/\c+d<9223372036854775808:=by first|omega|(simp only [p9,Bool.and_eq_true,s4,r7,o6,beq_eq_false_iff_ne,beq_iff_eq,decide_eq_true_eq,decide_eq_false_iff_not,Bool.not_eq_true',Bool.not_eq_false'] at *;omega)) :
  Ry A l b dr j8 (⟨.bin .add x y,K,K,u⟩::ops) T H n rl l6 Q:=Ry.pure (rs:=[]) rfl (by simp_all [l5,AE]) h2
def sb {x y:A4}{c d:Int}{u:List Nat}(h2:Ry A l b dr j8 ops T H (n+1) (.d (.int .i64 (c - d))::rl) l6 Q)(hx:rq T n rl x= .d (.int .i64 c):=by rfl)(hy:rq T n rl y= .d (.int .i64 d):=by rfl)(h0: -9223372036854775808<=c - d/\c - d<9223372036854775808:=by first|omega|(simp only [p9,Bool.and_eq_true,s4,r7,o6,beq_eq_false_iff_ne,beq_iff_eq,decide_eq_true_eq,decide_eq_false_iff_not,Bool.not_eq_true',Bool.not_eq_false'] at *;omega)) :
  Ry A l b dr j8 (⟨.bin .sub x y,K,K,u⟩::ops) T H n rl l6 Q:=Ry.pure (rs:=[]) rfl (by simp_all [l5,AE]) h2
def li {x y:A4}{k:IntKind}{c d:Int}{u:List Nat}(h2:Ry A l b dr j8 ops T H (n+1) (.d (.bool (D0 c d))::rl) l6 Q)(hx:rq T n rl x= .d (.int k c):=by rfl)(hy:rq T n rl y= .d (.int k d):=by rfl) :
  Ry A l b dr j8 (⟨.bin .lss x y,K,K,u⟩::ops) T H n rl l6 Q:=Ry.pure (rs:=[]) rfl (by grind [l5,K0,U0,au,s4,r7,o6,bne]) h2
def lo {x y:A4}{k:IntKind}{c d:Int}{u:List Nat}(h2:Ry A l b dr j8 ops T H (n+1) (.d (.bool (U4 c d))::rl) l6 Q)(hx:rq T n rl x= .d (.int k c):=by rfl)(hy:rq T n rl y= .d (.int k d):=by rfl) :
  Ry A l b dr j8 (⟨.bin .leq x y,K,K,u⟩::ops) T H n rl l6 Q:=Ry.pure (rs:=[]) rfl (by grind [l5,K0,U0,au,s4,r7,o6,bne]) h2
def gi {x y:A4}{k:IntKind}{c d:Int}{u:List Nat}(h2:Ry A l b dr j8 ops T H (n+1) (.d (.bool (D0 d c))::rl) l6 Q)(hx:rq T n rl x= .d (.int k c):=by rfl)(hy:rq T n rl y= .d (.int k d):=by rfl) :
  Ry A l b dr j8 (⟨.bin .gtr x y,K,K,u⟩::ops) T H n rl l6 Q:=Ry.pure (rs:=[]) rfl (by grind [l5,K0,U0,au,s4,r7,o6,bne]) h2
def go {x y:A4}{k:IntKind}{c d:Int}{u:List Nat}(h2:Ry A l b dr j8 ops T H (n+1) (.d (.bool (U4 d c))::rl) l6 Q)(hx:rq T n rl x= .d (.int k c):=by rfl)(hy:rq T n rl y= .d (.int k d):=by rfl) :
  Ry A l b dr j8 (⟨.bin .geq x y,K,K,u⟩::ops) T H n rl l6 Q:=Ry.pure (rs:=[]) rfl (by grind [l5,K0,U0,au,s4,r7,o6,bne]) h2
def ei {x y:A4}{k:IntKind}{c d:Int}{u:List Nat}(h2:Ry A l b dr j8 ops T H (n+1) (.d (.bool (s7 c d))::rl) l6 Q)(hx:rq T n rl x= .d (.int k c):=by rfl)(hy:rq T n rl y= .d (.int k d):=by rfl) :
  Ry A l b dr j8 (⟨.bin .eql x y,K,K,u⟩::ops) T H n rl l6 Q:=Ry.pure (rs:=[]) rfl (by grind [l5,K0,U0,au,s4,r7,o6,bne]) h2
def ni {x y:A4}{k:IntKind}{c d:Int}{u:List Nat}(h2:Ry A l b dr j8 ops T H (n+1) (.d (.bool (!s7 c d))::rl) l6 Q)(hx:rq T n rl x= .d (.int k c):=by rfl)(hy:rq T n rl y= .d (.int k d):=by rfl) :
  Ry A l b dr j8 (⟨.bin .neq x y,K,K,u⟩::ops) T H n rl l6 Q:=Ry.pure (rs:=[]) rfl (by grind [l5,K0,U0,au,s4,r7,o6,bne]) h2
def es {x y:A4}{c d:List UInt8}{u:List Nat}(h2:Ry A l b dr j8 ops T H (n+1) (.d (.bool (K7 c d))::rl) l6 Q)(hx:rq T n rl x= .d (.str c):=by rfl)(hy:rq T n rl y= .d (.str d):=by rfl) :
  Ry A l b dr j8 (⟨.bin .eql x y,K,K,u⟩::ops) T H n rl l6 Q:=Ry.pure (rs:=[]) rfl (by grind [l5,K0,qZ,E2]) h2
theorem ns {x y:A4}{c d:List UInt8}{u:List Nat}(h2:Ry A l b dr j8 ops T H (n+1) (.d (.bool (!K7 c d))::rl) l6 Q)(hx:rq T n rl x= .d (.str c):=by rfl)(hy:rq T n rl y= .d (.str d):=by rfl) :
  Ry A l b dr j8 (⟨.bin .neq x y,K,K,u⟩::ops) T H n rl l6 Q:=Ry.pure (rs:=[]) rfl (by grind [l5,K0,qZ,E2]) h2
def ng {x:A4}{t:Bool}{u:List Nat}(h2:Ry A l b dr j8 ops T H (n+1) (.d (.bool (!t))::rl) l6 Q)(hx:rq T n rl x= .d (.bool t):=by rfl) :
  Ry A l b dr j8 (⟨.un .not x,K,K,u⟩::ops) T H n rl l6 Q:=Ry.pure (rs:=[]) rfl (by grind [l5,GL]) h2
def ln {α:Type}{enc:α->List Data}{xs:List α}{x:A4}{u:List Nat}(h2:Ry A l b dr j8 ops T H (n+1) (.d (.int .i64 (O xs:Int))::rl) l6 Q)(hx:rq T n rl x= .d (x3 enc xs):=by rfl) :
  Ry A l b dr j8 (⟨.len x,K,K,u⟩::ops) T H n rl l6 Q:=Ry.pure (rs:=[]) rfl (by grind [l5,x3,i64]) h2
def ls {x:A4}{m:Nat}{cs:List Data}{u:List Nat}(h2:Ry A l b dr j8 ops T H (n+1) (.d (.int .i64 (m:Int))::rl) l6 Q)(hx:rq T n rl x= .d (.slice m cs):=by rfl) :
  Ry A l b dr j8 (⟨.len x,K,K,u⟩::ops) T H n rl l6 Q:=Ry.pure (rs:=[]) rfl (by grind [l5,i64]) h2
def lnT {α:Type}{enc:α->List Data}{xs:List α}{x:A4}{s:Nat}{T2:List c7}{u:List Nat}(hx:rq T n rl x= .d (x3 enc xs):=by rfl)(hs:T[s]?.isSome=W:=by rfl)(hT:T.set s (.d (.int .i64 (O xs:Int)))=T2:=by simp only [List.set_cons_zero,List.set_cons_succ]<;>rfl)(h2:Ry A l b dr j8 ops T2 H (n+1) (.d (.int .i64 (O xs:Int))::rl) (.slot s::l6) Q) :
  Ry A l b dr j8 (⟨.len x,J s,K,u⟩::ops) T H n rl l6 Q:=Ry.oQ (v:= .d (.int .i64 (O xs:Int))) (rs:=[]) rfl (by grind [l5,x3,i64]) rfl rfl hs M
def ldT {c:Data}{cs:List Data}{x:A4}{s:Nat}{T2:List c7}{u:List Nat}(hx:rq T n rl x= .Z5 (c::cs):=by rfl)(hs:T[s]?.isSome=W:=by rfl)(hT:T.set s (.d c)=T2:=by simp only [List.set_cons_zero,List.set_cons_succ]<;>rfl)(h2:Ry A l b dr j8 ops T2 H (n+1) (.d c::rl) (.slot s::l6) Q) :
  Ry A l b dr j8 (⟨.load K x,J s,K,u⟩::ops) T H n rl l6 Q:=Ry.oQ (v:= .d c) (rs:=[]) rfl (by grind [l5]) rfl rfl hs M
def lpT {v:c7}{id o:Nat}{x:A4}{s:Nat}{T2:List c7}{u:List Nat}(hx:rq T n rl x= .ptr id o:=by rfl)(hr:rd H id o 1=J [v]:=by rfl)(hv:v.I7=v:=by rfl)(hs:T[s]?.isSome=W:=by rfl)(hT:T.set s v=T2:=by simp only [List.set_cons_zero,List.set_cons_succ]<;>rfl)(h2:Ry A l b dr j8 ops T2 H (n+1) (v::rl) (.slot s::l6) Q) :
  Ry A l b dr j8 (⟨.load K x,J s,K,u⟩::ops) T H n rl l6 Q:=Ry.oQ (v:=v) (rs:=[id]) rfl (by simp_all [l5]) hv rfl hs M
def lt {x:A4}{s:List UInt8}{u:List Nat}(h2:Ry A l b dr j8 ops T H (n+1) (.d (.int .i64 (O s:Int))::rl) l6 Q)(hx:rq T n rl x= .d (.str s):=by rfl) :
  Ry A l b dr j8 (⟨.V2 x,K,K,u⟩::ops) T H n rl l6 Q:=Ry.pure (rs:=[]) rfl (by grind [l5,i64]) h2
def ix {α:Type} [Inhabited α] {enc:α->List Data}{xs:List α}{sz i:Nat}{x y:A4}{k:IntKind}{u:List Nat}(hx:rq T n rl x= .d (x3 enc xs):=by rfl)(hy:rq T n rl y= .d (.int k ((i:Nat):Int)):=by rfl)(hs:∀a,O (enc a)=sz:=by intro;rfl)(hi:i<O xs:=by first|omega|(simp only [p9,Bool.and_eq_true,s4,r7,o6,beq_eq_false_iff_ne,beq_iff_eq,decide_eq_true_eq,decide_eq_false_iff_not,Bool.not_eq_true',Bool.not_eq_false'] at *;omega))(h2:Ry A l b dr j8 ops T H (n+1) (.Z5 (enc (Y xs i)++(xs.drop (i+1)).flatMap enc)::rl) l6 Q) :
  Ry A l b dr j8 (⟨.iw sz x y,K,K,u⟩::ops) T H n rl l6 Q:=Ry.pure (rs:=[]) rfl (by
  have h3:=LI hs xs i hi;simp_all [A7,l5,x3,Int.natCast_nonneg,and_self,if_true]) h2
def ixN {α:Type} [Inhabited α] {enc:α->List Data}{xs:List α}{sz i:Nat}{x y:A4}{k:IntKind}{u:List Nat}(hx:rq T n rl x= .d (x3 enc xs):=by rfl)(hy:rq T n rl y= .d (.int k (OfNat.ofNat i)):=by rfl)(hs:∀a,O (enc a)=sz:=by intro;rfl)(hi:i<O xs:=by first|omega|(simp only [p9,Bool.and_eq_true,s4,r7,o6,beq_eq_false_iff_ne,beq_iff_eq,decide_eq_true_eq,decide_eq_false_iff_not,Bool.not_eq_true',Bool.not_eq_false'] at *;omega))(h2:Ry A l b dr j8 ops T H (n+1) (.Z5 (enc (Y xs i)++(xs.drop (i+1)).flatMap enc)::rl) l6 Q) :
  Ry A l b dr j8 (⟨.iw sz x y,K,K,u⟩::ops) T H n rl l6 Q:=ix hx hy hs hi h2
def VB {α:Type} [Inhabited α] {enc:α->List Data}{xs:List α}{sz:Nat}{e:Int}{x y:A4}{k:IntKind}{u:List Nat}(i:Nat)(he:e=i:=by first|omega|(simp only [p9,Bool.and_eq_true,s4,r7,o6,beq_eq_false_iff_ne,beq_iff_eq,decide_eq_true_eq,decide_eq_false_iff_not,Bool.not_eq_true',Bool.not_eq_false'] at *;omega))(hx:rq T n rl x= .d (x3 enc xs):=by rfl)(hy:rq T n rl y= .d (.int k e):=by rfl)(hs:∀a,O (enc a)=sz:=by intro;rfl)(hi:i<O xs:=by first|omega|(simp only [p9,Bool.and_eq_true,s4,r7,o6,beq_eq_false_iff_ne,beq_iff_eq,decide_eq_true_eq,decide_eq_false_iff_not,Bool.not_eq_true',Bool.not_eq_false'] at *;omega))(h2:Ry A l b dr j8 ops T H (n+1) (.Z5 (enc (Y xs i)++(xs.drop (i+1)).flatMap enc)::rl) l6 Q) :
  Ry A l b dr j8 (⟨.iw sz x y,K,K,u⟩::ops) T H n rl l6 Q:=ix hx (he ▸ hy) hs hi h2
def Xo {α:Type} [Inhabited α] {enc:α->List Data}{xs:List α}{sz:Nat}{e:Int}{x y:A4}{k:IntKind}{u:List Nat}(hx:rq T n rl x= .d (x3 enc xs):=by rfl)(hy:rq T n rl y= .d (.int k e):=by rfl)(hs:∀a,O (enc a)=sz:=by intro;rfl)(hi:0<=e/\e<O xs:=by first|omega|(simp only [p9,Bool.and_eq_true,s4,r7,o6,beq_eq_false_iff_ne,beq_iff_eq,decide_eq_true_eq,decide_eq_false_iff_not,Bool.not_eq_true',Bool.not_eq_false'] at *;omega))(h2:Ry A l b dr j8 ops T H (n+1) (.Z5 (enc (Y xs e.toNat)++(xs.drop (e.toNat+1)).flatMap enc)::rl) l6 Q) :
  Ry A l b dr j8 (⟨.iw sz x y,K,K,u⟩::ops) T H n rl l6 Q:=ix hx (by rw [hy,Int.toNat_of_nonneg hi.1]) hs V h2
def ld {x:A4}{c:Data}{cs:List Data}{u:List Nat}(h2:Ry A l b dr j8 ops T H (n+1) (.d c::rl) l6 Q)(hx:rq T n rl x= .Z5 (c::cs):=by rfl) :
  Ry A l b dr j8 (⟨.load K x,K,K,u⟩::ops) T H n rl l6 Q:=Ry.pure (rs:=[]) rfl (by grind [l5]) h2
def le {x:A4}{cs rest:List Data}{m:Nat}{u:List Nat}(h2:Ry A l b dr j8 ops T H (n+1) (.agg (cs.map .d)::rl) l6 Q)(hx:rq T n rl x= .Z5 (cs++rest):=by rfl)(hm:O cs=m:=by rfl) :
  Ry A l b dr j8 (⟨.load (J m) x,K,K,u⟩::ops) T H n rl l6 Q:=Ry.pure (rs:=[]) rfl (by simp_all [l5]) h2
def lf {x:A4}{k:Nat}{cs:List Data}{u:List Nat}(h2:Ry A l b dr j8 ops T H (n+1) (.Z5 (cs.drop k)::rl) l6 Q)(hx:rq T n rl x= .Z5 cs:=by rfl) :
  Ry A l b dr j8 (⟨.off k x,K,K,u⟩::ops) T H n rl l6 Q:=Ry.pure (rs:=[]) rfl (by grind [l5]) h2
def fp {x:A4}{k id o:Nat}{u:List Nat}(h2:Ry A l b dr j8 ops T H (n+1) (.ptr id (o+k)::rl) l6 Q)(hx:rq T n rl x= .ptr id o:=by rfl) :
  Ry A l b dr j8 (⟨.off k x,K,K,u⟩::ops) T H n rl l6 Q:=Ry.pure (rs:=[]) rfl (by grind [l5]) h2
def lp {x:A4}{id o:Nat}{v:c7}{u:List Nat}(h2:Ry A l b dr j8 ops T H (n+1) (v::rl) l6 Q)(hx:rq T n rl x= .ptr id o:=by rfl)(hr:rd H id o 1=J [v]:=by rfl)(hv:v.I7=v:=by rfl) :
  Ry A l b dr j8 (⟨.load K x,K,K,u⟩::ops) T H n rl l6 Q:=Ry.pure (rs:=[id]) rfl (by simp_all [l5]) h2
def lpo {x:A4}{id o z m:Nat}{cs:List Data}{u:List Nat}(h2:Ry A l b dr j8 ops T H (n+1) (.d (.slice m cs)::rl) l6 Q)(hx:rq T n rl x= .ptr id o:=by rfl)(hr:rd H id o 1=J [.own z m cs]:=by rfl) :
  Ry A l b dr j8 (⟨.load K x,K,K,u⟩::ops) T H n rl l6 Q:=Ry.pure (rs:=[id]) rfl (by simp_all [l5,c7.I7]) h2
def lq {x:A4}{m id:Nat}{cs:List c7}{u:List Nat}(h2:Ry A l b dr j8 ops T H (n+1) (.agg cs::rl) l6 Q)(hx:rq T n rl x= .ptr id 0:=by rfl)(hr:H[id]? =J (.cells cs):=by rfl)(hm:O cs=m:=by rfl)(hv:cs.map c7.I7=cs:=by rfl) :
  Ry A l b dr j8 (⟨.load (J m) x,K,K,u⟩::ops) T H n rl l6 Q:=Ry.pure (rs:=[id]) rfl (by simp_all [l5,rd]<;>grind) h2
def et {x:A4}{i:Nat}{vs:List c7}{v:c7}{u:List Nat}(h2:Ry A l b dr j8 ops T H (n+1) (v::rl) l6 Q)(hx:rq T n rl x= .tuple vs:=by rfl)(hv:vs[i]? =J v:=by rfl) :
  Ry A l b dr j8 (⟨.extract x i,K,K,u⟩::ops) T H n rl l6 Q:=Ry.pure (rs:=[]) rfl (by simp_all [l5]) h2
def wa {op:F6}{dst:Option Nat}{j:Nat}{want:Bool}{u:List Nat}(h2:Ry A l b dr j8 (⟨op,dst,K,u⟩::ops) T H n rl l6 Q)(h:lk n rl j=J (.d (.bool want)):=by rfl) :
  Ry A l b dr j8 (⟨op,dst,J (j,want),u⟩::ops) T H n rl l6 Q:=λhn=>Rx.wanted (by rw [aT hn];exact h) U (h2 hn)
def sk {op:F6}{j:Nat}{want:Bool}{u:List Nat}(h2:Ry A l b dr j8 ops T H (n+1) (.tuple []::rl) l6 Q)(h:lk n rl j=J (.d (.bool (!want))):=by rfl)(hk:∀L,F9 ⟨T,H,L,l6⟩ op=F:=by intro;rfl)(ha:op.y3=F:=by rfl) :
  Ry A l b dr j8 (⟨op,K,J (j,want),u⟩::ops) T H n rl l6 Q:=λhn=>Rx.QY (by rw [aT hn];exact h) M (hk _) ha (h2.to hn)
def st {op:F6}{j:Nat}{want:Bool}{u:List Nat}(h2:Ry A l b dr j8 ops T H (n+1) (.tuple []::rl) l6 Q)(h:lk n rl j=J (.tuple []):=by rfl)(hk:∀L,F9 ⟨T,H,L,l6⟩ op=F:=by intro;rfl)(ha:op.y3=F:=by rfl) :
  Ry A l b dr j8 (⟨op,K,J (j,want),u⟩::ops) T H n rl l6 Q:=λhn=>Rx.NT (by simp_all [aT]) (hk _) ha (h2.to hn)
def fk {op:F6}{dst:Option Nat}{j:Nat}{want w:Bool}{r1 r2:List c7}{u:List Nat}(h:lk n rl j=J (.d (.bool w)):=by rfl)(hj:Nat.ble (j+1) n=W:=by rfl)(ht:rl.set (n - (j+1)) (.d (.bool W))=r1:=by simp only [Nat.reduceAdd,Nat.reduceSub,List.set_cons_zero,List.set_cons_succ]<;>rfl)(hf:rl.set (n - (j+1)) (.d (.bool F))=r2:=by simp only [Nat.reduceAdd,Nat.reduceSub,List.set_cons_zero,List.set_cons_succ]<;>rfl)(h1:w=W->Ry A l b dr j8 (⟨op,dst,J (j,want),u⟩::ops) T H n r1 l6 Q)(h2:w=F->Ry A l b dr j8 (⟨op,dst,J (j,want),u⟩::ops) T H n r2 l6 Q) :
  Ry A l b dr j8 (⟨op,dst,J (j,want),u⟩::ops) T H n rl l6 Q:=Ry.fork h hj (λe=>M) (λe=>M)
def pt {c x y:A4}{v:c7}{u:List Nat}(h2:Ry A l b dr j8 ops T H (n+1) (v::rl) l6 Q)(hc:rq T n rl c= .d (.bool W):=by rfl)(hx:Oq T n rl x (v):=by exact ⟨rfl,rfl⟩) :
  Ry A l b dr j8 (⟨.pick c x y,K,K,u⟩::ops) T H n rl l6 Q:=Ry.pure (rs:=[]) rfl (by simp [l5,hc,hx.rq]) h2
def pk {c x y:A4}{v:c7}{u:List Nat}(h2:Ry A l b dr j8 ops T H (n+1) (v::rl) l6 Q)(hc:rq T n rl c= .d (.bool F):=by rfl)(hy:Oq T n rl y (v):=by exact ⟨rfl,rfl⟩) :
  Ry A l b dr j8 (⟨.pick c x y,K,K,u⟩::ops) T H n rl l6 Q:=Ry.pure (rs:=[]) rfl (by simp [l5,hc,hy.rq]) h2
def bx {x:A4}{u:List Nat}{v:c7}{cs:List c7}{s id:Nat}{T2:List c7}{H2:k8}(hx:Oq T n rl x v:=by exact ⟨rfl,rfl⟩)(hc:v.cells? =J cs:=by rfl)(hs:T[s]?.isSome=W:=by rfl)
  (hi:O H=id:=by simp only [List.length_cons,List.length_nil,Nat.reduceAdd]<;>rfl) (hT:T.set s (.ptr id 0)=T2:=by simp only [List.set_cons_zero,List.set_cons_succ]<;>rfl) (hH:H++[.cells cs]=H2:=by simp only [List.cons_append,List.nil_append]<;>rfl)
  (h2:Ry A l b F j8 ops T2 H2 (n+1) (.ptr id 0::rl) (.slot s::l6) Q):Ry A l b F j8 (⟨.box x,J s,K,u⟩::ops) T H n rl l6 Q:=λhn=>by
 subst hi;exact Rx.Wa (hx.op hn) hc hs (by rw [hT,hH];exact h2.to hn)
def ac {zero:List c7}{u:List Nat}{s id:Nat}{T2:List c7}{H2:k8}(hs:T[s]?.isSome=W:=by rfl)
  (hi:O H=id:=by simp only [List.length_cons,List.length_nil,Nat.reduceAdd]<;>rfl) (hT:T.set s (.ptr id 0)=T2:=by simp only [List.set_cons_zero,List.set_cons_succ]<;>rfl) (hH:H++[.cells zero]=H2:=by simp only [List.cons_append,List.nil_append]<;>rfl)
  (h2:Ry A l b F j8 ops T2 H2 (n+1) (.ptr id 0::rl) (.slot s::l6) Q):Ry A l b F j8 (⟨.alloc zero,J s,K,u⟩::ops) T H n rl l6 Q:=λhn=>by
 have hs:s<O T:=by
  simp_all
 have h2:=h2.to hn;refine Rx.stepT (N1:=0) (rs:=[]) rfl (λn _=>?_) h2;simp_all [x8,y6,B4,F6.B3,if_true,C7,D4,newId,Option.getD_none,put,J4,s6,D5,z6.E9,z6.F7,c7.I7]
def jv {m id off:Nat}{x y:A4}{u:List Nat}{v:c7}{cs:List c7}{H2:k8}(hy:rq T n rl y= .ptr id off)(hx:Oq T n rl x v)(hc:v.cells? =J cs)(hm:O cs=m)(hl:l.may id=W)(hb:A2 cs<=id+1)
  (hw:wr H id off cs=J H2) (h2:Ry A l b F j8 ops T H2 (n+1) (.any::rl) (.obj id::l6) Q):Ry A l b F j8 (⟨.store m y x,K,K,u⟩::ops) T H n rl l6 Q:=λhn=>by
 refine Rx.stepT (N1:=0) (rs:=[]) rfl (λk _=>?_) (h2.to hn);have hl' :(I9 A k l b).lim.may id=W:=hl;simp [x8,y6,B4,F6.B3,if_true,C7,M5 hn,hy,P0,(hx.op hn).E9,hc,hm,hl',hb,true_or,and_self,hw,put,J4,s6,D5]
def so {m id:Nat}{x y:A4}{u:List Nat}{v:c7}{cs old:List c7}{H2:k8}(hy:rq T n rl y= .ptr id 0:=by rfl)(hx:Oq T n rl x v:=by exact ⟨rfl,rfl⟩)(hc:v.cells? =J cs:=by rfl)(hm:O cs=m:=by rfl)(hl:l.may id=W:=by rfl)(hb:A2 cs=0:=by rfl)
  (ho:H[id]? =J (.cells old):=by rfl) (hq:O old=m:=by rfl) (hH:H.set id (.cells cs)=H2:=by simp only [List.set_cons_zero,List.set_cons_succ]<;>rfl)
  (h2:Ry A l b F j8 ops T H2 (n+1) (.any::rl) (.obj id::l6) Q):Ry A l b F j8 (⟨.store m y x,K,K,u⟩::ops) T H n rl l6 Q :=
 jv hy hx hc hm hl V (by simp_all [wr,splice,n5]) h2
def xD {m id off:Nat}{x y:A4}{u:List Nat}{v:c7}{cs:List c7}{H2:k8}(hd:Nat.ble (kY j8) n=W)(hy:rq T n rl y= .ptr id off)(hx:Oq T n rl x v)(hc:v.cells? =J cs)(hm:O cs=m)(hl:l.may id=W)(hb:A2 cs<=id+1)
  (hw:wr H id off cs=J H2) (h2:Ry A l b dr j8 ops T H2 (n+1) (.any::rl) (.obj id::l6) Q):Ry A l b dr j8 (⟨.store m y x,K,K,u⟩::ops) T H n rl l6 Q:=λhn=>by
 refine Rx.EE (N1:=0) (rs:=[]) rfl rfl rfl (λk _=>?_) (λh=>?_) (h2.to hn)
 .have hl' :(I9 A k l b).lim.may id=W:=hl
  simp [x8,y6,B4,F6.B3,if_true,C7,M5 hn,hy,P0,(hx.op hn).E9,hc,hm,hl',hb,true_or,and_self,hw,put,J4,s6,D5]
 simp_all<;>omega
def so1 {id off:Nat}{x y:A4}{u:List Nat}{v:c7}{old new:List c7}{H2:k8}(hy:rq T n rl y= .ptr id off:=by rfl)(hx:Oq T n rl x v:=by exact ⟨rfl,rfl⟩)(hc:v.cells? =J [v]:=by rfl)(hl:l.may id=W:=by rfl)(hb:v.H7<=id+1:=by decide)
  (ho:H[id]? =J (.cells old):=by rfl) (hq:off<O old:=by decide) (hN:old.set off v=new:=by first|(simp only [List.set_cons_zero,List.set_cons_succ];done)|rfl) (hH:H.set id (.cells new)=H2:=by simp only [List.set_cons_zero,List.set_cons_succ]<;>rfl)
  (h2:Ry A l b F j8 ops T H2 (n+1) (.any::rl) (.obj id::l6) Q):Ry A l b F j8 (⟨.store 1 y x,K,K,u⟩::ops) T H n rl l6 Q :=
 jv hy hx hc rfl hl (by simp_all [A2]) (by
  have h1:splice old off [v]=old.set off v:=by
   simp_all [splice,E5,List.set_eq_take_append_cons_drop,if_pos]
  grind [wr]) h2
def o1 {x:A4}{z c:Data}{u:List Nat}(h2:Ry A l b dr j8 ops T H (n+1) (.own 1 1 [c]::rl) l6 Q)(hx:rq T n rl x= .d c:=by rfl) :
  Ry A l b dr j8 (⟨.N5 1 1 [.d z] [(0,1,x)] F,K,K,u⟩::ops) T H n rl l6 Q:=Ry.pure (rs:=[]) rfl (by simp [l5,U2,hx,c7.cells?,splice,J3,c7.data?,c7.one]) h2
def ap1 {α:Type}{enc:α->List Data}{xs:List α}{j s bytes n' :Nat}{y:A4}{u' :List Nat}{d' :Option Nat}{g' :Option (Nat×Bool)}{cs' :List Data}{T2:List c7}{a:α}{c:Data}{u:List Nat}(hj:lk n rl j=J (.d (.slice n' cs')):=by rfl)(ha:j8[j]? =J ⟨.dV (.slot s),d',g',u'⟩:=by rfl)(ht:l6.any (Touch.Q6 s)=F:=by rfl)(hT:T[s]? =J (A8 1 enc xs):=by rfl)(hy:rq T n rl y= .d (.slice 1 [c]):=by rfl)(he:enc a=[c]:=by rfl)(hr:roomFor (O xs+1) bytes=W:=by simp only [roomFor,decide_eq_true_eq,List.length_append,List.length_cons,List.length_nil,List.length_take,List.length_drop,List.length_map] at * <;>omega)(hS:T.set s (.d (x3 enc xs))=T2:=by simp only [List.set_cons_zero,List.set_cons_succ]<;>rfl)(h2:Ry A l b dr j8 ops T2 H (n+1) (A8 1 enc (xs++[a])::rl) (.slot s::l6) Q) :
  Ry A l b dr j8 (⟨.append 1 bytes F (.loc j) y,K,K,u⟩::ops) T H n rl l6 Q:=Ry.VZ hj ha ht hT hy rfl hr (by decide) (by
  simp_all [A8,x3])
def yY {α:Type}{enc:α->List Data}{xs:List α}{j s sz bytes n' :Nat}{y:A4}{u' :List Nat}{d' :Option Nat}{g' :Option (Nat×Bool)}{cs' :List Data}{T2:List c7}{ys:List α}{u:List Nat}(hj:lk n rl j=J (.d (.slice n' cs')):=by rfl)(ha:j8[j]? =J ⟨.dV (.slot s),d',g',u'⟩:=by rfl)(ht:l6.any (Touch.Q6 s)=F:=by rfl)(hT:T[s]? =J (A8 sz enc xs):=by rfl)(hy:rq T n rl y= .d (x3 enc ys):=by rfl)(hs:∀a,O (enc a)=sz:=by intro;rfl)(h0:0<sz:=by decide)(hr:roomFor (O xs+O ys) bytes=W:=by simp only [roomFor,decide_eq_true_eq,List.length_append,List.length_cons,List.length_nil,List.length_take,List.length_drop,List.length_map] at * <;>omega)(hS:T.set s (.d (x3 enc xs))=T2:=by simp only [List.set_cons_zero,List.set_cons_succ]<;>rfl)(h2:Ry A l b dr j8 ops T2 H (n+1) (A8 sz enc (xs++ys)::rl) (.slot s::l6) Q) :
  Ry A l b dr j8 (⟨.append sz bytes F (.loc j) y,K,K,u⟩::ops) T H n rl l6 Q:=Ry.VZ hj ha ht hT hy (W4 hs ys) hr h0 (by
  simp_all [A8,x3])
def al1 {α:Type}{enc:α->List Data}{xs:List α}{j bytes:Nat}{y:A4}{r2:List c7}{a:α}{c:Data}{u:List Nat}(hj:lk n rl j=J (A8 1 enc xs):=by rfl)(hb:Nat.ble (j+1) n=W:=by rfl)(hy:rq T n rl y= .d (.slice 1 [c]):=by rfl)(he:enc a=[c]:=by rfl)(hr:roomFor (O xs+1) bytes=W:=by simp only [roomFor,decide_eq_true_eq,List.length_append,List.length_cons,List.length_nil,List.length_take,List.length_drop,List.length_map] at * <;>omega)(hS:rl.set (n - (j+1)) (.d (x3 enc xs))=r2:=by simp only [Nat.reduceAdd,Nat.reduceSub,List.set_cons_zero,List.set_cons_succ]<;>rfl)(h2:Ry A l b dr j8 ops T H (n+1) (A8 1 enc (xs++[a])::r2) l6 Q) :
  Ry A l b dr j8 (⟨.append 1 bytes F (.loc j) y,K,K,u⟩::ops) T H n rl l6 Q:=Ry.SR hj hb hy rfl hr (by decide) (by
  simp_all [A8,x3])
def Fq {α:Type}{enc:α->List Data}{xs:List α}{j sz bytes:Nat}{y:A4}{r2:List c7}{ys:List α}{u:List Nat}(hj:lk n rl j=J (A8 sz enc xs):=by rfl)(hb:Nat.ble (j+1) n=W:=by rfl)(hy:rq T n rl y= .d (x3 enc ys):=by rfl)(hs:∀a,O (enc a)=sz:=by intro;rfl)(h0:0<sz:=by decide)(hr:roomFor (O xs+O ys) bytes=W:=by simp only [roomFor,decide_eq_true_eq,List.length_append,List.length_cons,List.length_nil,List.length_take,List.length_drop,List.length_map] at * <;>omega)(hS:rl.set (n - (j+1)) (.d (x3 enc xs))=r2:=by simp only [Nat.reduceAdd,Nat.reduceSub,List.set_cons_zero,List.set_cons_succ]<;>rfl)(h2:Ry A l b dr j8 ops T H (n+1) (A8 sz enc (xs++ys)::r2) l6 Q) :
  Ry A l b dr j8 (⟨.append sz bytes F (.loc j) y,K,K,u⟩::ops) T H n rl l6 Q:=Ry.SR hj hb hy (W4 hs ys) hr h0 (by
  simp_all [A8,x3])
theorem e0 {u:List Nat}(h2:Ry A l b dr j8 ops T H (n+1) (.own 1 0 []::rl) l6 Q) :
  Ry A l b dr j8 (⟨.N5 1 0 [] [] F,K,K,u⟩::ops) T H n rl l6 Q:=Ry.pure (rs:=[]) rfl (by rfl) h2
def cl {f:FuncId}{xs:List A4}{u:List Nat}{v:c7}{args:List c7}(hc:Pf A f args v)(h2:Ry A l b dr j8 ops T H (n+1) (v::rl) l6 Q)(ha:xs.map (rq T n rl)=args:=by rfl)(eM:A.prom f=F:=by rfl)(hm:A.mode f=1:=by rfl)
  (hb:A2 args=0:=by rfl):Ry A l b dr j8 (⟨.call f xs,K,K,u⟩::ops) T H n rl l6 Q:=λhn =>
 Rx.call eM hm (λm=>by rw [show z6.F7 T (rl.reverse++ .any::List.replicate m .any)=rq T n rl from funext λx=>M5 hn m x];exact ha) hb hc (h2.to hn)
def mJ {zero:List c7}{parts:List (Nat×Nat×A4)}{cs:List c7}{u:List Nat}(h2:Ry A l b dr j8 ops T H (n+1) (.agg cs::rl) l6 Q)(hr:U2 zero (parts.map λp=>(p.1,p.2.1,rq T n rl p.2.2))=J cs:=by rfl) :
  Ry A l b dr j8 (⟨.build zero parts,K,K,u⟩::ops) T H n rl l6 Q:=Ry.pure (rs:=[]) rfl (by grind [l5]) h2
def xs {s:List UInt8}{i:Nat}{x y:A4}{k:IntKind}{u:List Nat}(hx:rq T n rl x= .d (.str s):=by rfl)(hy:rq T n rl y= .d (.int k ((i:Nat):Int)):=by rfl)(hi:i<O s:=by first|omega|(simp only [p9,Bool.and_eq_true,s4,r7,o6,beq_eq_false_iff_ne,beq_iff_eq,decide_eq_true_eq,decide_eq_false_iff_not,Bool.not_eq_true',Bool.not_eq_false'] at *;omega))(h2:Ry A l b dr j8 ops T H (n+1) (.d (.int .u8 ((Y s i).toNat:Int))::rl) l6 Q) :
  Ry A l b dr j8 (⟨.I5 x y,K,K,u⟩::ops) T H n rl l6 Q:=Ry.pure (rs:=[]) rfl (by simp_all [l5,o3,A7]) h2
def qs {neg t:Bool}{ks:List CK}{x y:A4}{va vb:List c7}{u:List Nat}(h2:Ry A l b dr j8 ops T H (n+1) (.d (.bool (neg != t))::rl) l6 Q)(hx:rq T n rl x= .agg va:=by rfl)(hy:rq T n rl y= .agg vb:=by rfl)(hr:N4 ks va vb=J t:=by rfl) :
  Ry A l b dr j8 (⟨.Pt neg ks x y,K,K,u⟩::ops) T H n rl l6 Q:=Ry.pure (rs:=[]) rfl (by simp_all [l5]) h2
def qb {neg s t:Bool}{x y:A4}{u:List Nat}(h2:Ry A l b dr j8 ops T H (n+1) (.d (.bool (neg != (s==t)))::rl) l6 Q)(hx:rq T n rl x= .d (.bool s):=by rfl)(hy:rq T n rl y= .d (.bool t):=by rfl) :
  Ry A l b dr j8 (⟨.s7 neg x y,K,K,u⟩::ops) T H n rl l6 Q:=Ry.pure (rs:=[]) rfl (by simp_all [l5]) h2
def mm {isMax:Bool}{xs:List A4}{c d:Data}{r:List c7}{u:List Nat}(h2:Ry A l b dr j8 ops T H (n+1) (.d d::rl) l6 Q)(ha:xs.map (rq T n rl)= .d c::r:=by rfl)(hr:cZ isMax c r=J d:=by rfl) :
  Ry A l b dr j8 (⟨.iC isMax xs,K,K,u⟩::ops) T H n rl l6 Q:=Ry.pure (rs:=[]) rfl (by simp_all [l5]) h2
def ip {m sz i:Nat}{x y:A4}{k:IntKind}{cs:List Data}{u:List Nat}(h2:Ry A l b dr j8 ops T H (n+1) (.Z5 (cs.drop (i * sz))::rl) l6 Q)(hx:rq T n rl x= .Z5 cs:=by rfl)(hy:rq T n rl y= .d (.int k ((i:Nat):Int)):=by rfl)(hi:i<m:=by omega) :
  Ry A l b dr j8 (⟨.uo m sz x y,K,K,u⟩::ops) T H n rl l6 Q:=Ry.pure (rs:=[]) rfl (by
  simp_all [l5]) h2
def svh {α:Type} [Inhabited α] {enc:α->List Data}{xs:List α}{sz i:Nat}{x y:A4}{k:IntKind}{u:List Nat}(hx:rq T n rl x= .d (x3 enc xs):=by rfl)(hy:rq T n rl y= .d (.int k ((i:Nat):Int)):=by rfl)(hs:∀a,O (enc a)=sz:=by intro;rfl)(hi:i<=O xs:=by first|omega|(simp only [p9,Bool.and_eq_true,s4,r7,o6,beq_eq_false_iff_ne,beq_iff_eq,decide_eq_true_eq,decide_eq_false_iff_not,Bool.not_eq_true',Bool.not_eq_false'] at *;omega))(h2:Ry A l b dr j8 ops T H (n+1) (.d (x3 enc (xs.take i))::rl) l6 Q) :
  Ry A l b dr j8 (⟨.bP sz x K (J y),K,K,u⟩::ops) T H n rl l6 Q:=Ry.pure (rs:=[]) rfl (by
  have h1:=xw hs xs 0 i (Nat.zero_le _) hi
  grind [W4,x3,l5,T4]) h2
def svl {α:Type} [Inhabited α] {enc:α->List Data}{xs:List α}{sz i:Nat}{x y:A4}{k:IntKind}{u:List Nat}(hx:rq T n rl x= .d (x3 enc xs):=by rfl)(hy:rq T n rl y= .d (.int k ((i:Nat):Int)):=by rfl)(hs:∀a,O (enc a)=sz:=by intro;rfl)(hi:i<=O xs:=by first|omega|(simp only [p9,Bool.and_eq_true,s4,r7,o6,beq_eq_false_iff_ne,beq_iff_eq,decide_eq_true_eq,decide_eq_false_iff_not,Bool.not_eq_true',Bool.not_eq_false'] at *;omega))(h2:Ry A l b dr j8 ops T H (n+1) (.d (x3 enc (xs.drop i))::rl) l6 Q) :
  Ry A l b dr j8 (⟨.bP sz x (J y) K,K,K,u⟩::ops) T H n rl l6 Q:=Ry.pure (rs:=[]) rfl (by
  have h3:O (xs.flatMap enc)=O xs * sz:=W4 hs xs;simp_all [s9,iT,x3,l5,T4]) h2
def svb {α:Type} [Inhabited α] {enc:α->List Data}{xs:List α}{sz i j:Nat}{x y z:A4}{k k' :IntKind}{u:List Nat}(hx:rq T n rl x= .d (x3 enc xs):=by rfl)(hy:rq T n rl y= .d (.int k ((i:Nat):Int)):=by rfl)(hz:rq T n rl z=(.d (.int k' ((j:Nat):Int))):=by rfl)(hs:∀a,O (enc a)=sz:=by intro;rfl)(hij:i<=j/\j<=O xs:=by first|omega|(simp only [p9,Bool.and_eq_true,s4,r7,o6,beq_eq_false_iff_ne,beq_iff_eq,decide_eq_true_eq,decide_eq_false_iff_not,Bool.not_eq_true',Bool.not_eq_false'] at *;omega))(h2:Ry A l b dr j8 ops T H (n+1) (.d (x3 enc ((xs.take j).drop i))::rl) l6 Q) :
  Ry A l b dr j8 (⟨.bP sz x (J y) (J z),K,K,u⟩::ops) T H n rl l6 Q:=Ry.pure (rs:=[]) rfl (by
  have h1:=xw hs xs i j hij.1 hij.2;have h3:O (xs.flatMap enc)=O xs * sz:=W4 hs xs;simp_all [x3,l5,T4,Int.natCast_nonneg,and_self,if_true,G6]) h2
end S
end
def rY (z:Nat):List c7->k8->G9->Option (c7×k8)
 |[.O5,.d (.int .i64 n)],H,_=>if 0<n/\n<=1000000 then J (.own z 0 [],H) else K
 |_,_,_=>K
def oJ:List (Key×c7)->Option (List (Int×Int))
 |[]=>J []
 |(.st [.i .i64 a,.i .i64 b],_)::r=>match oJ r with
  |some l=>J ((a,b)::l)
  |none=>K
 |_=>K
def bJ:List (Int×Int)->List Data
 |[]=>[]
 |(a,b)::r=> .int .i64 a:: .int .i64 b::bJ r
def ints (l:List Int):Data:=x3 (λn=>[Z n]) l
def hasB (l:List Int)(n:Int):Bool:=l.any λx=>s7 x n
section
variable {A:Prog} {l:G9} {b:Nat}
variable {dr:Bool} {j8 ops:List x9} {T:List c7} {H:k8} {n:Nat} {rl:List c7} {l6:List Touch} {Q:List c7->k8->List c7->Prop}
namespace S
def bxn {x:A4}{u:List Nat}{v:c7}{cs:List c7}{id:Nat}{H2:k8}(hx:Oq T n rl x v:=by exact ⟨rfl,rfl⟩)(hc:v.cells? =J cs:=by rfl)
  (hi:O H=id:=by simp only [List.length_cons,List.length_nil,Nat.reduceAdd]<;>rfl) (hH:H++[.cells cs]=H2:=by simp only [List.cons_append,List.nil_append]<;>rfl)
  (h2:Ry A l b F j8 ops T H2 (n+1) (.ptr id 0::rl) l6 Q):Ry A l b F j8 (⟨.box x,K,K,u⟩::ops) T H n rl l6 Q:=λhn=>by
 subst hi;have h2:=h2.to hn;rw [<- hH] at h2;refine Rx.stepT (N1:=0) (rs:=[]) rfl (λn _=>?_) h2;simp [x8,y6,B4,F6.B3,if_true,C7,(hx.op hn).F7,hc,D4,newId,Option.getD_none,put,J4,s6,D5]
def nk {x:A4}{u:List Nat}{id o:Nat}(h2:Ry A l b dr j8 ops T H (n+1) (.ptr id o::rl) l6 Q)(hx:rq T n rl x= .ptr id o:=by rfl):Ry A l b dr j8 (⟨.qz x,K,K,u⟩::ops) T H n rl l6 Q :=
 Ry.pure (rs:=[]) rfl (by grind [l5]) h2
def mu {x y:A4}{u:List Nat}{c d:Int}(h2:Ry A l b dr j8 ops T H (n+1) (.d (.int .i64 (c * d))::rl) l6 Q)(h0: -9223372036854775808<=c * d/\c * d<9223372036854775808)(hx:rq T n rl x= .d (.int .i64 c):=by rfl)(hy:rq T n rl y= .d (.int .i64 d):=by rfl) :
  Ry A l b dr j8 (⟨.bin .mul x y,K,K,u⟩::ops) T H n rl l6 Q :=
 Ry.pure (rs:=[]) rfl (by simp_all [l5,K0,U0,au,wrap_small]) h2
def ipM {m sz i:Nat}{x y:A4}{u:List Nat}{k:IntKind}{cs:List Data}(h2:Ry A l b dr j8 ops T H (n+1) (.Z5 (cs.drop (i * sz))::rl) l6 Q)(hx:rq T n rl x= .Z5 cs:=by rfl)(hy:rq T n rl y= .d (.int k (OfNat.ofNat i)):=by rfl)
  (hi:i<m:=by decide):Ry A l b dr j8 (⟨.uo m sz x y,K,K,u⟩::ops) T H n rl l6 Q:=ip h2 hx hy hi
end S
def Ex.L4 {mask:List Bool}{body:L2}{R:H9->St->Prop}(Inv:Nat->List c7->k8->Prop)
  (hb:∀k T' H',Inv k T' H' ->Ex A l b body ⟨T',H'⟩ (kJ R λs=>∃k',k' <k/\∃T2 H2,clean mask l.strict (O H) s=⟨T2,H2⟩/\Inv k' T2 H2)) {k:Nat} (h:Inv k (Q5 mask T) H):Ex A l b (.loop mask body) ⟨T,H⟩ R:=by
 refine Ex.loop (λk s=>∃T2 H2,clean mask l.strict (O H) s=⟨T2,H2⟩/\Inv k T2 H2) (λk s ⟨T2,H2,e,hs⟩=>?_) (k:=k) ⟨Q5 mask T,H,rC rfl,h⟩;simp_all
end
section
variable {A:Prog} {l:G9} {b:Nat}
variable {dr:Bool} {j8 ops:List x9} {T:List c7} {H:k8} {n:Nat} {rl:List c7} {l6:List Touch} {Q:List c7->k8->List c7->Prop}
def Ex.nG {c:A4}{d e:L2}{t:Bool}{Q:H9->St->Prop}(h2:Ex A l b d ⟨T,H⟩ Q)(h1:F7 T [] c= .d (.bool t):=by rfl)(ht:t=W:=by assumption):Ex A l b (.cond c d e) ⟨T,H⟩ Q :=
 Ex.cond h1 (λ_=>h2) (λh=>M)
namespace S
def lq3 {x:A4}{u:List Nat}{id o:Nat}{v1 v2 v3:Data}(h2:Ry A l b dr j8 ops T H (n+1) (.agg [.d v1,.d v2,.d v3]::rl) l6 Q)(hx:rq T n rl x= .ptr id o:=by rfl)(hr:rd H id o 3=J [.d v1,.d v2,.d v3]:=by rfl) :
  Ry A l b dr j8 (⟨.load (J 3) x,K,K,u⟩::ops) T H n rl l6 Q :=
 Ry.pure (rs:=[id]) rfl (by simp_all [l5,G7,List.map_nil,c7.I7]) h2
def o1z {x:A4}{u:List Nat}{z:c7}{c:Data}(h2:Ry A l b dr j8 ops T H (n+1) (.own 1 1 [c]::rl) l6 Q)(hx:rq T n rl x= .d c:=by rfl):Ry A l b dr j8 (⟨.N5 1 1 [z] [(0,1,x)] F,K,K,u⟩::ops) T H n rl l6 Q :=
 Ry.pure (rs:=[]) rfl (by simp [l5,U2,hx,c7.cells?,splice,J3,c7.data?,c7.one]) h2
def clT {f:FuncId}{xs:List A4}{u:List Nat}{v:c7}{args:List c7}{s:Nat}{T2:List c7}(hc:Pf A f args v)(ha:xs.map (rq T n rl)=args:=by rfl)(eM:A.prom f=F:=by rfl)(hm:A.mode f=1:=by rfl)
  (hb:A2 args=0:=by rfl) (hv:v.I7=v:=by rfl) (hs:T[s]?.isSome=W:=by rfl) (hT:T.set s v=T2:=by simp only [List.set_cons_zero,List.set_cons_succ]<;>rfl)
  (h2:Ry A l b dr j8 ops T2 H (n+1) (v::rl) (.slot s::l6) Q):Ry A l b dr j8 (⟨.call f xs,J s,K,u⟩::ops) T H n rl l6 Q:=λhn=>by
 obtain ⟨d8,hc⟩:=hc;have hs:s<O T:=by
  simp_all
 have h2:=h2.to hn;refine Rx.step (N1:=d8) (rs:=[]) rfl rfl (λk hk=>?_) (cA s l6) h2;have h3:B9 (I9 A k l b) (O rl.reverse) f args ⟨T,H,rl.reverse++ .any::List.replicate (O ops) .any,l6⟩=J (put ⟨T,H,rl.reverse++ .any::List.replicate (O ops) .any,l6⟩ (O rl.reverse) v) :=
  aU eM hm hb (hc k hk)
 have Vo :xs.map (z6.F7 T (rl.reverse++ .any::List.replicate (O ops) .any))=args:=by
  rw [show z6.F7 T (rl.reverse++ .any::List.replicate (O ops) .any)=rq T n rl from funext λx=>M5 hn _ x];exact ha
 have h5:z6.E9 ⟨T,H,rl.reverse++v::List.replicate (O ops) .any,l6⟩ (.loc (O rl.reverse))=(v,⟨T,H,rl.reverse++v::List.replicate (O ops) .any,l6⟩):=by
  grind [z6.E9,c7.I7,z6.F7]
 simp_all [x8,y6,B4,F6.B3,if_true,C7,s6,D5,put,J4]
end S
end
section
variable {A:Prog} {l:G9} {b:Nat}
variable {dr:Bool} {j8 ops:List x9} {T:List c7} {H:k8} {n:Nat} {rl:List c7} {l6:List Touch} {Q:List c7->k8->List c7->Prop}
namespace S
def df {f:FuncId}{a c:List c7}{u:List Nat}(h2:Ry A l b dr j8 ops T H (n+1) (.any::rl) l6 Q)(hi:A.idle f=W:=by rfl):Ry A l b dr j8 (⟨.defer (.const (.func f a c)),K,K,u⟩::ops) T H n rl l6 Q:=λhn=>by
 refine Rx.step (N1:=0) (rs:=[]) rfl rfl (λk _=>?_) (λrs=>by simp [F3]) (h2.to hn);simp_all [I9,x8,y6,B4,F6.B3,if_true,C7,z6.F7,c7.KE,c7.I7,put,J4,s6,D5]
def dfl {f:FuncId}{x:A4}{a c:List c7}{u:List Nat}(h2:Ry A l b dr j8 ops T H (n+1) (.any::rl) l6 Q)(hx:rq T n rl x= .func f a c:=by rfl)(hi:A.idle f=W:=by rfl):Ry A l b dr j8 (⟨.defer x,K,K,u⟩::ops) T H n rl l6 Q:=λhn=>by
 refine Rx.step (N1:=0) (rs:=[]) rfl rfl (λk _=>?_) (λrs=>by simp [F3]) (h2.to hn);simp_all [I9,x8,y6,B4,F6.B3,if_true,C7,M5,put,J4,s6,D5]
def ZS {m sz o id o2:Nat}{x y:A4}{u:List Nat}{k:IntKind}{e:Int}(i:Nat)(he:e=i)(ho:o+i * sz=o2)(hi:i<m)(h2:Ry A l b dr j8 ops T H (n+1) (.ptr id o2::rl) l6 Q)(hx:rq T n rl x= .ptr id o:=by rfl)(hy:rq T n rl y= .d (.int k e):=by rfl) :
  Ry A l b dr j8 (⟨.uo m sz x y,K,K,u⟩::ops) T H n rl l6 Q:=by
 refine Ry.pure (rs:=[]) rfl ?_ h2;simp_all [l5]
def mf {f:FuncId}{a c:List A4}{u:List Nat}{va vc:List c7}(h2:Ry A l b dr j8 ops T H (n+1) (.func f va vc::rl) l6 Q)(ha:a.map (rq T n rl)=va:=by rfl)(hc:c.map (rq T n rl)=vc:=by rfl):Ry A l b dr j8 (⟨.jR f a c,K,K,u⟩::ops) T H n rl l6 Q :=
 Ry.pure (rs:=[]) rfl (by simp_all [l5]) h2
end S
end
section
variable {A:Prog} {l:G9} {b:Nat}
variable {dr:Bool} {j8 ops:List x9} {T:List c7} {H:k8} {n:Nat} {rl:List c7} {l6:List Touch} {Q:List c7->k8->List c7->Prop}
namespace S
def as6 {m sz i o id:Nat}{x y:A4}{u:List Nat}{k:IntKind}(h2:Ry A l b dr j8 ops T H (n+1) (.ptr id (o+i * sz)::rl) l6 Q)(hx:rq T n rl x= .ptr id o:=by rfl)(hy:rq T n rl y= .d (.int k (OfNat.ofNat i)):=by rfl)(hi:i<m:=by decide) :
  Ry A l b dr j8 (⟨.uo m sz x y,K,K,u⟩::ops) T H n rl l6 Q:=ZS i rfl rfl hi h2 hx hy
end S
end
section
variable {A:Prog} {l:G9} {b:Nat}
variable {dr:Bool} {j8 ops:List x9} {T:List c7} {H:k8} {n:Nat} {rl:List c7} {l6:List Touch} {Q:List c7->k8->List c7->Prop}
namespace S
def sp1 {id off:Nat}{x y:A4}{u:List Nat}{v:c7}{old new:List c7}{H2:k8}(hy:rq T n rl y= .ptr id off:=by rfl)(hx:Oq T n rl x v:=by exact ⟨rfl,rfl⟩)(hc:v.cells? =J [v]:=by rfl)(hl:l.may id=W:=by rfl)(hb:v.H7<=id+1:=by exact Nat.zero_le _)
  (ho:H[id]? =J (.cells old):=by rfl) (hq:off<O old:=by simp) (hN:old.set off v=new:=by first|(simp only [List.set_cons_zero,List.set_cons_succ];done)|rfl) (hH:H.set id (.cells new)=H2:=by simp only [List.set_cons_zero,List.set_cons_succ]<;>rfl)
  (h2:Ry A l b F j8 ops T H2 (n+1) (.any::rl) (.obj id::l6) Q):Ry A l b F j8 (⟨.store 1 y x,K,K,u⟩::ops) T H n rl l6 Q:=so1 hy hx hc hl hb ho hq hN hH h2
end S
end
section
variable {A:Prog} {l:G9} {b:Nat}
variable {dr:Bool} {j8 ops:List x9} {T:List c7} {H:k8} {n:Nat} {rl:List c7} {l6:List Touch} {Q:List c7->k8->List c7->Prop}
namespace S
def Vi {α:Type}{enc:α->List Data}{ys:List α}{j sz bytes:Nat}{y:A4}{u:List Nat}{r2:List c7}(hj:lk n rl j=J (.own sz 0 []):=by rfl)(hb:Nat.ble (j+1) n=W:=by rfl)(hy:rq T n rl y= .d (x3 enc ys):=by rfl)
  (hs:∀a,O (enc a)=sz:=by intro;rfl) (h0:0<sz:=by decide) (hr:roomFor (0+O ys) bytes=W:=by simp only [roomFor,decide_eq_true_eq,List.length_append,List.length_cons,List.length_nil,List.length_take,List.length_drop,List.length_map] at * <;>omega)
  (hS:rl.set (n - (j+1)) (.d (.slice 0 []))=r2:=by simp only [Nat.reduceAdd,Nat.reduceSub,List.set_cons_zero,List.set_cons_succ]<;>rfl) (h2:Ry A l b dr j8 ops T H (n+1) (A8 sz enc ys::r2) l6 Q) :
  Ry A l b dr j8 (⟨.append sz bytes F (.loc j) y,K,K,u⟩::ops) T H n rl l6 Q :=
 Ry.SR hj hb hy (W4 hs ys) hr h0 (by
  simp_all [A8])
end S
end
section
variable {A:Prog} {l:G9} {b:Nat}
def Ex.xG {c:L2}{st:St}{R:H9->St->Prop}{go:St->Prop}(P:St->Prop)(h1:Ex A l b c st (kJ (λ_ _=>False) P))(h2:∀s,P s->go s):Ex A l b c st (kJ R go):=by
 refine h1.mono λx s h=>?_
 cases x with
 |normal=>exact h2 s h
 |exit i=>exact h.elim
 |ret=>exact h.elim
end
section
variable {A:Prog} {l:G9} {b:Nat}
variable {dr:Bool} {j8 ops:List x9} {T:List c7} {H:k8} {n:Nat} {rl:List c7} {l6:List Touch} {Q:List c7->k8->List c7->Prop}
namespace S
def mvS {s:Nat}{u:List Nat}{w v:c7}(hv:w.I7=v)(h2:Ry A l b dr j8 ops T H (n+1) (v::rl) l6 Q)(hx:T[s]? =J w:=by rfl):Ry A l b dr j8 (⟨.dV (.slot s),K,K,u⟩::ops) T H n rl l6 Q:=λhn=>by
 refine Rx.step (N1:=0) (rs:=[]) rfl rfl (λk _=>?_) (λrs=>by simp [F3]) (h2.to hn);simp_all [z6.F7,List.replicate,x8,y6,B4,F6.B3,j6,if_false,z6.E9,put,J4,s6,D5]
end S
end
def Pm (A:Prog)(f:FuncId)(args:List c7)(H:k8)(l:G9)(v:c7)(H1:k8):Prop:=∃N,∀n,N<=n->call A n f args H l=J (v,H1)
def Pq (A:Prog)(f:FuncId)(args:List c7)(H:k8)(l:G9)(Post:c7->k8->Prop):Prop:=∃v H1,Post v H1/\Pm A f args H l v H1
section
variable {A:Prog} {l:G9} {b:Nat}
def Pq.run {f:FuncId}{af:p6}{args:List c7}{H:k8}{Post:c7->k8->Prop}(T:List c7)(hp:A.bw f=K)(hf:A.fn f=J af)(hn:O args=af.nparams)(hb:O H=b)
  (hT:args++List.replicate (O af.names - O args) .any=T) (h:Ex A l b af.body ⟨T,H⟩ λx s=>∃w H1,T9 af b (J (x,s))=J (w,H1)/\Post w H1):Pq A f args H l Post:=by
 obtain ⟨x,s,N,⟨w,H1,hq,hP⟩,h⟩:=h;refine ⟨w,H1,hP,N+1,λn hn' =>?_⟩;obtain ⟨n,rfl⟩:∃j,n=j+1:=⟨n - 1,V⟩;simp_all [AM,pq,I9]
def I8 {H:k8}{s k n:Nat}(h:C9 ((H.take n).drop s)<=n):D7 H s (k+1) n=n:=by
 simp_all [D7,if_pos]
def iQ {E:Env}{k m:Nat}{f:FuncId}{args:List c7}{st:G5}{v:c7}{H1:k8}{l2:G9}(eM:E.prom f=F)(hm:E.mode f=0)(hc:D7 st.H E.lim.strict 8 (A2 args)=m)(hle:m<=O st.H)(fe:C9 ((st.H.take m).drop E.lim.strict)<=m)
  (iZ:(⟨E.lim.Fe,E.lim.Fc,m,B1 st.H E.lim.strict m⟩:G9)=l2) (h:E.cf f args (st.H.take m) l2=J (v,H1)) (hH:O H1=m) :
  B9 E k f args st=J (put { st with H:=H1++st.H.drop m,l6:= .below m::st.l6 } k v):=by
 simp_all [B9,and_self,if_true,j6,if_false]
def vt {E:Env}{k m:Nat}{f:FuncId}{args:List c7}{st:G5}{v:c7}{H1:k8}{l2:G9}(eM:E.prom f=F)(hm:E.mode f=1)(hc:D7 st.H E.lim.strict 8 (A2 args)=m)(hle:m<=O st.H)(fe:C9 ((st.H.take m).drop E.lim.strict)<=m)
  (iZ:(⟨0,m,m,B1 st.H E.lim.strict m⟩:G9)=l2) (h:E.cf f args (st.H.take m) l2=J (v,H1)) (hH:O H1=m) :
  B9 E k f args st=J (put st k v):=by
 simp_all [B9,and_self,if_true,j6,if_false]
variable {dr:Bool} {j8 ops:List x9} {T:List c7} {H:k8} {n:Nat} {rl:List c7} {l6:List Touch} {Q:List c7->k8->List c7->Prop}
def aJ (hn:O rl=n)(xs:List A4):xs.map (z6.F7 T (rl.reverse++ .any::List.replicate (O ops) .any))=xs.map (rq T n rl):=by
 rw [show z6.F7 T (rl.reverse++ .any::List.replicate (O ops) .any)=rq T n rl from funext λx=>M5 hn _ x]
namespace S
def c0 {f:FuncId}{xs:List A4}{u:List Nat}{v:c7}{args:List c7}{m:Nat}{H0 HD H1 H2:k8}{l2:G9}(hc:Pm A f args H0 l2 v H1)(FT:O H1=m)(fe:C9 ((H.take m).drop l.strict)<=m:=by exact Nat.zero_le _)(hcl:D7 H l.strict 8 (A2 args)=m:=by rfl)
  (FR:H.take m=H0:=by rfl) (hle:Nat.ble m (O H)=W:=by rfl) (iZ:(⟨l.Fe,l.Fc,m,B1 H l.strict m⟩:G9)=l2:=by rfl) (hd:dr=W->Nat.ble (kY j8) n=W:=by intro;rfl)
  (ha:xs.map (rq T n rl)=args:=by rfl) (eM:A.prom f=F:=by rfl) (hm:A.mode f=0:=by rfl) (hD:H.drop m=HD:=by rfl) (hA:H1++HD=H2:=by first|(simp only [List.cons_append,List.nil_append]<;>rfl)|rfl)
  (h2:Ry A l b dr j8 ops T H2 (n+1) (v::rl) (.below m::l6) Q):Ry A l b dr j8 (⟨.call f xs,K,K,u⟩::ops) T H n rl l6 Q:=λhn=>by
 obtain ⟨d8,hc⟩:=hc;subst FR hD hA;have h2:=h2.to hn;have e1:∀k,d8<=k->x8 (I9 A k l b) j8 K (O rl.reverse) ⟨.call f xs,K,K,u⟩ ⟨T,H,rl.reverse++ .any::List.replicate (O ops) .any,l6⟩=J (⟨T,H1++H.drop m,rl.reverse++v::List.replicate (O ops) .any,.below m::l6⟩,[]):=λk hk=>by
  have h3:B9 (I9 A k l b) (O rl.reverse) f args ⟨T,H,rl.reverse++ .any::List.replicate (O ops) .any,l6⟩=J (put ⟨T,H1++H.drop m,rl.reverse++ .any::List.replicate (O ops) .any,.below m::l6⟩ (O rl.reverse) v) :=
   iQ eM hm hcl (j5 hle) fe iZ (hc k hk) FT
  simp_all [x8,y6,B4,F6.B3,if_true,C7,aJ,s6,D5,put,J4]
 cases dr with
 |false=>exact Rx.stepT (N1:=d8) (rs:=[]) rfl e1 h2
 |true =>
  refine Rx.EE (N1:=d8) (rs:=[]) rfl rfl rfl e1 (λh=>?_) h2;simp_all<;>omega
def c1 {f:FuncId}{xs:List A4}{u:List Nat}{v:c7}{args:List c7}{m:Nat}{H0 H1:k8}{l2:G9}(hc:Pm A f args H0 l2 v H1)(FT:O H1=m)(h2:Ry A l b dr j8 ops T H (n+1) (v::rl) l6 Q)(fe:C9 ((H.take m).drop l.strict)<=m:=by exact Nat.zero_le _)(hcl:D7 H l.strict 8 (A2 args)=m:=by rfl)
  (FR:H.take m=H0:=by rfl) (hle:Nat.ble m (O H)=W:=by rfl) (iZ:(⟨0,m,m,B1 H l.strict m⟩:G9)=l2:=by rfl)
  (ha:xs.map (rq T n rl)=args:=by rfl) (eM:A.prom f=F:=by rfl) (hm:A.mode f=1:=by rfl):Ry A l b dr j8 (⟨.call f xs,K,K,u⟩::ops) T H n rl l6 Q:=λhn=>by
 obtain ⟨d8,hc⟩:=hc;refine Rx.step (N1:=d8) (rs:=[]) rfl rfl (λk hk=>?_) (λrs=>by simp [F3]) (h2.to hn);simp_all [B9,I9,List.replicate,put,vt,j5,x8,y6,B4,F6.B3,if_true,C7,aJ,s6,D5,J4]
def cv {f:FuncId}{x:A4}{xs:List A4}{u:List Nat}{v:c7}{first caps args:List c7}(hc:Pf A f args v)(h2:Ry A l b dr j8 ops T H (n+1) (v::rl) l6 Q)(hx:rq T n rl x= .func f first caps:=by rfl)(ha:first++xs.map (rq T n rl)++caps=args:=by rfl)(eM:A.prom f=F:=by rfl)(hm:A.mode f=1:=by rfl)
  (hb:A2 args=0:=by rfl):Ry A l b dr j8 (⟨.bV x xs,K,K,u⟩::ops) T H n rl l6 Q:=λhn=>by
 obtain ⟨d8,hc⟩:=hc;refine Rx.step (N1:=d8) (rs:=[]) rfl rfl (λk hk=>?_) (λrs=>by simp [F3]) (h2.to hn);have h3:B9 (I9 A k l b) (O rl.reverse) f args ⟨T,H,rl.reverse++ .any::List.replicate (O ops) .any,l6⟩=J (put ⟨T,H,rl.reverse++ .any::List.replicate (O ops) .any,l6⟩ (O rl.reverse) v) :=
  aU eM hm hb (hc k hk)
 simp_all [x8,y6,B4,F6.B3,if_true,C7,M5,aJ,s6,D5,put,J4]
def lk1 {kk:KK}{zero:c7}{x y:A4}{u:List Nat}{id:Nat}{key:Key}{es:List (Key×c7)}{r:Option c7}{v:c7}(hr:aA kk key es=J r)(hv:r.getD zero=v)(h2:Ry A l b dr j8 ops T H (n+1) (v::rl) l6 Q)
  (hx:rq T n rl x= .map id:=by rfl) (hy:(rq T n rl y).Ge =J key:=by rfl) (ho:H[id]? =J (.map es):=by rfl) (hf:kk.fits key=W:=by rfl):Ry A l b dr j8 (⟨.lookup kk zero F x y,K,K,u⟩::ops) T H n rl l6 Q :=
 Ry.pure (rs:=[id]) rfl (by simp_all [l5]) h2
def lk2 {kk:KK}{zero:c7}{x y:A4}{u:List Nat}{id:Nat}{key:Key}{es:List (Key×c7)}{r:Option c7}{v:c7}{t:Bool}(hr:aA kk key es=J r)(hv:r.getD zero=v)(ht:r.isSome=t)(h2:Ry A l b dr j8 ops T H (n+1) (.tuple [v,.d (.bool t)]::rl) l6 Q)
  (hx:rq T n rl x= .map id:=by rfl) (hy:(rq T n rl y).Ge =J key:=by rfl) (ho:H[id]? =J (.map es):=by rfl) (hf:kk.fits key=W:=by rfl):Ry A l b dr j8 (⟨.lookup kk zero W x y,K,K,u⟩::ops) T H n rl l6 Q :=
 Ry.pure (rs:=[id]) rfl (by simp_all [l5]) h2
def mp {kk:KK}{x y z:A4}{u:List Nat}{id:Nat}{key:Key}{es es' :List (Key×c7)}{v:c7}{H2:k8}(hr:bM kk key v es=J es')(hk:Data.aZ kk key key=J W)(hx:rq T n rl x= .map id:=by rfl)(hy:(rq T n rl y).Ge =J key:=by rfl)(hz:rq T n rl z=v:=by rfl)(hbv:v.H7<=id+1:=by exact Nat.zero_le _)(hl:l.may id=W:=by rfl)
  (ho:H[id]? =J (.map es):=by rfl) (hd:dr=W->Nat.ble (kY j8) n=W:=by intro;rfl) (hH:H.set id (.map es')=H2:=by simp only [List.set_cons_zero,List.set_cons_succ]<;>rfl)
  (h2:Ry A l b dr j8 ops T H2 (n+1) (.any::rl) (.obj id::l6) Q):Ry A l b dr j8 (⟨.dU kk x y z,K,K,u⟩::ops) T H n rl l6 Q:=λhn=>by
 subst hH;have e1:∀k,0<=k->x8 (I9 A k l b) j8 K (O rl.reverse) ⟨.dU kk x y z,K,K,u⟩ ⟨T,H,rl.reverse++ .any::List.replicate (O ops) .any,l6⟩=J (⟨T,H.set id (.map es'),rl.reverse++ .any::List.replicate (O ops) .any,.obj id::l6⟩,[]):=λk _=>by
  simp_all [I9,x8,y6,B4,F6.B3,if_true,C7,M5,R7,and_self,put,J4,s6,D5]
 cases dr with
 |false=>exact Rx.stepT (N1:=0) (rs:=[]) rfl e1 (h2.to hn)
 |true =>
  refine Rx.EE (N1:=0) (rs:=[]) rfl rfl rfl e1 (λh=>?_) (h2.to hn);simp_all<;>omega
end S
end
def dmap (ds:List (List UInt8)):List (Key×c7):=ds.map λs=>(.str s,.d (.bool W))
def dc:List (List UInt8)->Nat->List (Key×c7)
 |[],_=>[]
 |s::l,i=>(.str s,.d (.int .i64 (i:Int)))::dc l (i+1)
theorem zx (s:List UInt8):∀ds,aA .s (.str s) (dmap ds)=J (if ds.any λy=>K7 y s then J (.d (.bool W)) else K)
 |[]=>by rfl
 |d::ds=>by
  have h1:=zx s ds
  grind [dmap,aA,Data.aZ,K7]
theorem CS (s:List UInt8):∀ds,(ds.any λy=>K7 y s)=F->bM .s (.str s) (.d (.bool W)) (dmap ds)=J (dmap (ds++[s]))
 |[],_=>by rfl
 |d::ds,h=>by
  simp only [List.any_cons,B2] at h;have h1:=CS s ds h.2
  grind [SD,dmap,bM,Data.aZ]
theorem DP (s:List UInt8):∀(l:List (List UInt8)) (i:Nat),(l.any λy=>K7 y s)=F->bM .s (.str s) (.d (.int .i64 ((i+O l:Nat):Int))) (dc l i)=J (dc (l++[s]) i)
 |[],i,_=>by rfl
 |d::l,i,h=>by
  simp only [List.any_cons,B2] at h;have h1:=DP s l (i+1) h.2
  grind [SD,dc,bM,Data.aZ]
theorem qA:∀(l:List (List UInt8)) (i:Nat),A2 ((dc l i).map (·.2))=0
 |[],_=>rfl
 |_::l,i=>by simp [dc,A2,c7.H7,qA l (i+1)]
theorem qc:∀l:List (List UInt8),A2 ((dmap l).map (·.2))=0
 |[]=>rfl
 |_::l=>by
  have:=qc l;simp_all [dmap,G7,A2,c7.H7,Nat.zero_max]
section
variable {A:Prog} {l:G9} {b:Nat}
variable {dr:Bool} {j8 ops:List x9} {T:List c7} {H:k8} {n:Nat} {rl:List c7} {l6:List Touch} {Q:List c7->k8->List c7->Prop}
def IU (id off:Nat)(l6:List Touch)(rs:List Nat):F3 ((Touch.cell id off::l6).take (O (Touch.cell id off::l6) - O l6)) rs=F:=by
 simp_all [F3,Touch.F1]
def Ry.OX {j k sz bytes id off:Nat}{y:A4}{u u' :List Nat}{d' :Option Nat}{g' :Option (Nat×Bool)}{n' len m:Nat}{cs' cells new:List Data}{old:List c7}
  (hj:lk n rl j=J (.d (.slice n' cs'))) (ha:j8[j]? =J ⟨.load K (.loc k),d',g',u'⟩) (hk:lk n rl k=J (.ptr id off)) (ht:l6.any (Touch.W2 id off)=F) (hl:l.may id=W) (ho:H[id]? =J (.cells old)) (hc:old[off]? =J (.own sz len cells))
  (hy:rq T n rl y= .d (.slice m new)) (hn' :O new=m * sz) (hr:roomFor (len+m) bytes=W) (h0:0<sz)
  (h2:Ry A l b dr j8 ops T (H.set id (.cells (old.set off (.d (.slice len cells))))) (n+1) (.own sz (len+m) (cells++new)::rl) (.cell id off::l6) Q):Ry A l b dr j8 (⟨.append sz bytes F (.loc j) y,K,K,u⟩::ops) T H n rl l6 Q:=λhn=>by
 have hjl:rl.reverse[j]? =J (.d (.slice n' cs')):=by simp_all [aT]
 have X0:rl.reverse[k]? =J (.ptr id off):=by simp_all [aT]
 have hL:∀r:List c7,(rl.reverse++ .any::r)[j]? =J (.d (.slice n' cs')):=λr=>iB hjl _
 have hK:∀r:List c7,(rl.reverse++ .any::r)[k]? =J (.ptr id off):=λr=>iB X0 _
 have TM:z6.F7 T (rl.reverse++ .any::List.replicate (O ops) .any) (.loc j)= .d (.slice n' cs'):=by simp [z6.F7,hL,c7.I7]
 refine Rx.step (N1:=0) (rs:=[]) (by simp_all [F9]) rfl (λq _=>?_) (IU id off l6) (h2.to hn);have hl' :(I9 A q l b).lim.may id=W:=hl;have hs:B5 H sz (.d (.slice m new))=J (m,new.map .d):=by simp_all [B5,if_true]
 simp [x8,y6,B4,F6.B3,if_true,C7,TM,J7,M5 hn,hy,hs,cg,j6,if_false,P4,hL,ha,X6,Z9,hK,ht,hl',Bool.not_true,Bool.or_self,ho,hc,hr,h0,and_self,put,J4,s6,D5]
namespace S
def o2 {x:A4}{u:List Nat}{z1 z2:c7}{c d:Data}(h2:Ry A l b dr j8 ops T H (n+1) (.own 2 1 [c,d]::rl) l6 Q)(hx:rq T n rl x= .agg [.d c,.d d]:=by rfl):Ry A l b dr j8 (⟨.N5 2 1 [z1,z2] [(0,2,x)] F,K,K,u⟩::ops) T H n rl l6 Q :=
 Ry.pure (rs:=[]) rfl (by simp [l5,U2,hx,c7.cells?,splice,J3,c7.data?,c7.one]) h2
def ac2 {α:Type}{enc:α->List Data}{xs:List α}{a:α}{j k bytes id off:Nat}{y:A4}{u u' :List Nat}{d' :Option Nat}{g' :Option (Nat×Bool)}{n' :Nat}{cs' :List Data}{c d:Data}{old new:List c7}{H2:k8}
  (hr:roomFor (O xs+1) bytes=W) (he:enc a=[c,d]) (hj:lk n rl j=J (.d (.slice n' cs')):=by rfl) (ha:j8[j]? =J ⟨.load K (.loc k),d',g',u'⟩:=by rfl) (hk:lk n rl k=J (.ptr id off):=by rfl) (ht:l6.any (Touch.W2 id off)=F:=by rfl) (hl:l.may id=W:=by rfl) (ho:H[id]? =J (.cells old):=by rfl) (hc:old[off]? =J (A8 2 enc xs):=by rfl)
  (hy:rq T n rl y= .d (.slice 1 [c,d]):=by rfl) (hN:old.set off (.d (x3 enc xs))=new:=by rfl) (hH:H.set id (.cells new)=H2:=by simp only [List.set_cons_zero,List.set_cons_succ]<;>rfl)
  (h2:Ry A l b dr j8 ops T H2 (n+1) (A8 2 enc (xs++[a])::rl) (.cell id off::l6) Q):Ry A l b dr j8 (⟨.append 2 bytes F (.loc j) y,K,K,u⟩::ops) T H n rl l6 Q :=
 Ry.OX hj ha hk ht hl ho hc hy rfl hr (by decide) (by
  have e1:A8 2 enc (xs++[a])= .own 2 (O xs+1) (xs.flatMap enc++[c,d]):=by simp [A8,he]
  rw [e1] at h2;subst hH hN;exact h2)
def ac1 {α:Type}{enc:α->List Data}{xs:List α}{a:α}{j k bytes id off:Nat}{y:A4}{u u' :List Nat}{d' :Option Nat}{g' :Option (Nat×Bool)}{n' :Nat}{cs' :List Data}{c:Data}{old new:List c7}{H2:k8}
  (hr:roomFor (O xs+1) bytes=W) (he:enc a=[c]) (hj:lk n rl j=J (.d (.slice n' cs')):=by rfl) (ha:j8[j]? =J ⟨.load K (.loc k),d',g',u'⟩:=by rfl) (hk:lk n rl k=J (.ptr id off):=by rfl) (ht:l6.any (Touch.W2 id off)=F:=by rfl) (hl:l.may id=W:=by rfl) (ho:H[id]? =J (.cells old):=by rfl) (hc:old[off]? =J (A8 1 enc xs):=by rfl)
  (hy:rq T n rl y= .d (.slice 1 [c]):=by rfl) (hN:old.set off (.d (x3 enc xs))=new:=by rfl) (hH:H.set id (.cells new)=H2:=by simp only [List.set_cons_zero,List.set_cons_succ]<;>rfl)
  (h2:Ry A l b dr j8 ops T H2 (n+1) (A8 1 enc (xs++[a])::rl) (.cell id off::l6) Q):Ry A l b dr j8 (⟨.append 1 bytes F (.loc j) y,K,K,u⟩::ops) T H n rl l6 Q :=
 Ry.OX hj ha hk ht hl ho hc hy rfl hr (by decide) (by
  have e1:A8 1 enc (xs++[a])= .own 1 (O xs+1) (xs.flatMap enc++[c]):=by simp [A8,he]
  rw [e1] at h2;subst hH hN;exact h2)
def Ce {id off j z n0:Nat}{y:A4}{u:List Nat}{cs:List Data}{old new:List c7}{H2:k8}{r2:List c7}(hy:rq T n rl y= .ptr id off:=by rfl)(hj:lk n rl j=J (.own z n0 cs):=by rfl)(hjb:Nat.ble (j+1) n=W:=by rfl)(hl:l.may id=W:=by rfl)
  (ho:H[id]? =J (.cells old):=by rfl) (hq:Nat.ble (off+1) (O old)=W:=by rfl) (hd:dr=W->Nat.ble (kY j8) n=W:=by intro;rfl) (hN:old.set off (.own z n0 cs)=new:=by rfl) (hH:H.set id (.cells new)=H2:=by simp only [List.set_cons_zero,List.set_cons_succ]<;>rfl)
  (hS:rl.set (n - (j+1)) (.d (.slice n0 cs))=r2:=by simp only [Nat.reduceAdd,Nat.reduceSub,List.set_cons_zero,List.set_cons_succ]<;>rfl)
  (h2:Ry A l b dr j8 ops T H2 (n+1) (.any::r2) (.obj id::l6) Q):Ry A l b dr j8 (⟨.store 1 y (.loc j),K,K,u⟩::ops) T H n rl l6 Q:=λhn=>by
 subst hH hN hS;have ON :off<O old:=j5 hq;have hjl:rl.reverse[j]? =J (.own z n0 cs):=by simp_all [aT]
 have hL:∀r:List c7,(rl.reverse++ .any::r)[j]? =J (.own z n0 cs):=λr=>iB hjl _
 have hjn:j<O rl.reverse:=by grind
 have hlen:O (rl.reverse.set j (.d (.slice n0 cs)))=O rl.reverse:=U
 have h4:∀(a v:c7) (r:List c7),(rl.reverse.set j (.d (.slice n0 cs))++a::r).set (O rl.reverse) v=rl.reverse.set j (.d (.slice n0 cs))++v::r:=λa v r=>M
 have h1:splice old off [.own z n0 cs]=old.set off (.own z n0 cs):=by
  simp_all [splice,E5,List.set_eq_take_append_cons_drop,if_pos]
 have hw:wr H id off [.own z n0 cs]=J (H.set id (.cells (old.set off (.own z n0 cs)))):=by
  simp_all [wr,E5,if_pos]
 have OK :=h2.to (by simp [hn]);rw [<- uR hn hjb] at OK;have e1:∀k,0<=k->x8 (I9 A k l b) j8 K (O rl.reverse) ⟨.store 1 y (.loc j),K,K,u⟩ ⟨T,H,rl.reverse++ .any::List.replicate (O ops) .any,l6⟩=J (⟨T,H.set id (.cells (old.set off (.own z n0 cs))),rl.reverse.set j (.d (.slice n0 cs))++ .any::List.replicate (O ops) .any,.obj id::l6⟩,[]):=λk _=>by
  have hl' :(I9 A k l b).lim.may id=W:=hl;have hx:z6.E9 ⟨T,H,rl.reverse++ .any::List.replicate (O ops) .any,l6⟩ (.loc j)=(.own z n0 cs,⟨T,H,rl.reverse.set j (.d (.slice n0 cs))++ .any::List.replicate (O ops) .any,l6⟩):=by
   simp_all [z6.E9]
  have hb0:A2 [c7.own z n0 cs]<=id+1:=Nat.zero_le _;have hc1:(c7.own z n0 cs).cells? =J [.own z n0 cs]:=rfl;simp_all [x8,y6,B4,F6.B3,if_true,C7,M5,P0,E5,true_or,and_self,put,s6,D5]
 cases dr with
 |false=>exact Rx.stepT (N1:=0) (rs:=[]) hlen e1 OK
 |true =>
  refine Rx.EE (N1:=0) (rs:=[]) hlen rfl rfl e1 (λh=>?_) OK;simp_all<;>omega
end S
end
section
variable {A:Prog} {l:G9} {b:Nat}
variable {dr:Bool} {j8 ops:List x9} {T:List c7} {H:k8} {n:Nat} {rl:List c7} {l6:List Touch} {Q:List c7->k8->List c7->Prop}
namespace S
def cv1 {f:FuncId}{x:A4}{xs:List A4}{u:List Nat}{v:c7}{first caps args:List c7}{m:Nat}{H0 H1:k8}{l2:G9}(hc:Pm A f args H0 l2 v H1)(FT:O H1=m)(h2:Ry A l b dr j8 ops T H (n+1) (v::rl) l6 Q)(fe:C9 ((H.take m).drop l.strict)<=m:=by exact Nat.zero_le _)(hcl:D7 H l.strict 8 (A2 args)=m:=by rfl)
  (FR:H.take m=H0:=by rfl) (hle:Nat.ble m (O H)=W:=by rfl) (iZ:(⟨0,m,m,B1 H l.strict m⟩:G9)=l2:=by rfl) (hx:rq T n rl x= .func f first caps:=by rfl)
  (ha:first++xs.map (rq T n rl)++caps=args:=by rfl) (eM:A.prom f=F:=by rfl) (hm:A.mode f=1:=by rfl):Ry A l b dr j8 (⟨.bV x xs,K,K,u⟩::ops) T H n rl l6 Q:=λhn=>by
 obtain ⟨d8,hc⟩:=hc;subst FR;refine Rx.step (N1:=d8) (rs:=[]) rfl rfl (λk hk=>?_) (λrs=>by simp [F3]) (h2.to hn);have h3:B9 (I9 A k l b) (O rl.reverse) f args ⟨T,H,rl.reverse++ .any::List.replicate (O ops) .any,l6⟩=J (put ⟨T,H,rl.reverse++ .any::List.replicate (O ops) .any,l6⟩ (O rl.reverse) v) :=
  vt eM hm hcl (j5 hle) fe iZ (hc k hk) FT
 simp_all [x8,y6,B4,F6.B3,if_true,C7,M5,aJ,s6,D5,put,J4]
def RE {f:FuncId}{x:A4}{xs:List A4}{u:List Nat}{v:c7}{first caps args:List c7}{m:Nat}{H0 HD H1 H2:k8}{l2:G9}(hc:Pm A f args H0 l2 v H1)(FT:O H1=m)(fe:C9 ((H.take m).drop l.strict)<=m:=by exact Nat.zero_le _)(hcl:D7 H l.strict 8 (A2 args)=m:=by rfl)
  (FR:H.take m=H0:=by rfl) (hle:Nat.ble m (O H)=W:=by rfl) (iZ:(⟨l.Fe,l.Fc,m,B1 H l.strict m⟩:G9)=l2:=by rfl) (hx:rq T n rl x= .func f first caps:=by rfl)
  (ha:first++xs.map (rq T n rl)++caps=args:=by rfl) (eM:A.prom f=F:=by rfl) (hm:A.mode f=0:=by rfl) (hD:H.drop m=HD:=by rfl) (hA:H1++HD=H2:=by first|(simp only [List.cons_append,List.nil_append]<;>rfl)|rfl)
  (h2:Ry A l b F j8 ops T H2 (n+1) (v::rl) (.below m::l6) Q):Ry A l b F j8 (⟨.bV x xs,K,K,u⟩::ops) T H n rl l6 Q:=λhn=>by
 obtain ⟨d8,hc⟩:=hc;subst FR hD hA;refine Rx.stepT (N1:=d8) (rs:=[]) rfl (λk hk=>?_) (h2.to hn);have h3:B9 (I9 A k l b) (O rl.reverse) f args ⟨T,H,rl.reverse++ .any::List.replicate (O ops) .any,l6⟩=J (put ⟨T,H1++H.drop m,rl.reverse++ .any::List.replicate (O ops) .any,.below m::l6⟩ (O rl.reverse) v) :=
  iQ eM hm hcl (j5 hle) fe iZ (hc k hk) FT
 simp_all [x8,y6,B4,F6.B3,if_true,C7,M5,aJ,s6,D5,put,J4]
end S
end
section
variable {A:Prog} {l:G9} {b:Nat}
def LC (j8:List x9)(na k:Nat)(e:dA):Prop :=
 na∉e.reads/\(k<kY j8->∀rs,na∉rs->F3 e.Di rs=F)/\e.Kf<=na/\(∀i,j8[k]? =J i->i.op.y3=W->e.id=na)/\(∀i,j8[k]? =J i->i.op.QM=F->e.reads=[])
def Rz (A:Prog)(l:G9)(b:Nat)(j8 ops:List x9)(T:List c7)(H:k8)(n:Nat)(rl:List c7)(l6:List Touch)(na:Nat)(Q:List c7->k8->List c7->Prop):Prop :=
 O rl=n->∃r N,Q r.T r.H r.L/\∀k,N<=k->∃lg:List dA,M8 (I9 A k l b) j8 ops n na ⟨T,H,rl.reverse++List.replicate (O ops) .any,l6⟩=J (r,lg)/\O lg=O ops/\∀j e,lg[j]? =J e->LC j8 na (n+j) e
variable {j8 ops:List x9} {T:List c7} {H:k8} {n:Nat} {rl:List c7} {l6:List Touch} {na:Nat} {Q:List c7->k8->List c7->Prop}
def Rn.au6 {T:List c7}{H:k8}{s:Nat}(uj:T5 ops=[.dead])(oF:slotsOf ops=[.slot s])(hu:∀i,i∈ops->∀e,e∈i.Z2->e<O ops)(h:Rz A l b ops ops T (H++[.dead]) 0 [] [.slot s] (O H) Q):Rn A l b ops W T H Q:=by
 obtain ⟨r,N,hq,h⟩:=h rfl;refine ⟨r,N,hq,λn hn=>?_⟩;obtain ⟨lg,e1,e2,e3⟩:=h n hn;simp [Nat.zero_add] at e1 e3;have ap5:br ops lg=W:=by
  simp only [br,List.all_eq_true];rintro ⟨i,le⟩ xZ e he;obtain ⟨j,hj,hji⟩:=E0 xZ;simp [List.length_zip] at hj;have hj1:j<O ops:=V
  have hj2:j<O lg:=V
  simp [List.getElem_zip] at hji;obtain ⟨rfl,rfl⟩:=hji;have hi:ops[j]∈ops:=List.getElem_mem hj1;have hlt:=hu _ hi e he;have he2:e<O lg:=V
  rw [o3 he2];have c1:=e3 j _ (o3 hj2);have c2:=e3 e _ (o3 he2);cases hr:ops[j].op.QM with
  |true =>
   have hb:=vm hi hr he;have h5:=c2.2.1 hb _ c1.1;have ha:ops[j].op.makes=F:=by
    cases ho:ops[j].op<;>rw [ho] at hr<;>first|rfl|(cases hr)
   simp [h5,ha]
  |false =>
   have h5:=c1.2.2.2.2 _ (o3 hj1) hr;cases hm:ops[j].op.makes with
   |false=>simp [h5,F3]
   |true =>
    have ha:ops[j].op.y3=W:=by
     cases ho:ops[j].op<;>rw [ho] at hm<;>first|exact hm|(cases hm)
    have h7:=c1.2.2.2.1 _ (o3 hj1) ha;have h6:=c2.2.2.1;simp_all [F3]
 simp_all [P7,if_true]
def Rz.nil (h:Q T H rl.reverse):Rz A l b j8 [] T H n rl l6 na Q:=λ_=>⟨⟨T,H,rl.reverse,l6⟩,0,h,λ_ _=>⟨[],by simp [M8],rfl,λj e h=>by simp at h⟩⟩
def Rz.step {i:x9}{T' :List c7}{H' :k8}{v:c7}{X1 :List Touch}{rs:List Nat}{N1:Nat}(hk:∀L,F9 ⟨T,H,L,l6⟩ i.op=F)(hi:j8[n]? =J i)
  (h:O rl=n->∀k,N1<=k->x8 (I9 A k l b) j8 (if i.op.y3 then J na else K) n i ⟨T,H,rl.reverse++ .any::List.replicate (O ops) .any,l6⟩=J (⟨T',H',rl.reverse++v::List.replicate (O ops) .any,X1⟩,rs))
  (hr:na∉rs) (ht:n<kY j8->∀rs,na∉rs->F3 (Y3 (if i.op.y3 then J na else K)++X1.take (O X1 - O l6)) rs=F) (KL:∀k,G8 (I9 A k l b) ⟨T,H,rl.reverse++ .any::List.replicate (O ops) .any,l6⟩ i.op<=na)
  (hn2:i.op.y3=W->∀j,j∈ops->j.op.y3=F) (h2:∀yN,(i.op.y3=F->yN =na)->Rz A l b j8 ops T' H' (n+1) (v::rl) X1 na Q/\(i.op.y3=W->∀k r lg,M8 (I9 A k l b) j8 ops (n+1) na ⟨T',H',(v::rl).reverse++List.replicate (O ops) .any,X1⟩=J (r,lg)->M8 (I9 A k l b) j8 ops (n+1) (na+1) ⟨T',H',(v::rl).reverse++List.replicate (O ops) .any,X1⟩=J (r,lg))) :
  Rz A l b j8 (i::ops) T H n rl l6 na Q:=λhn=>by
 obtain ⟨h2,h2a⟩:=h2 na (λ_=>rfl);obtain ⟨r,N,hq,h2⟩:=h2 (by simp [hn]);refine ⟨r,max N N1,hq,λk hkk=>?_⟩;obtain ⟨lg,e1,e2,e3⟩:=h2 k V;have h4:=h hn k V;have Wi :M8 (I9 A k l b) j8 ops (n+1) (if i.op.y3 then na+1 else na) ⟨T',H',rl.reverse++v::List.replicate (O ops) .any,X1⟩=J (r,lg):=by
  grind
 refine ⟨T6 (I9 A k l b) i (if i.op.y3 then J na else K) ⟨T,H,rl.reverse++ .any::List.replicate (O ops) .any,l6⟩ ⟨T',H',rl.reverse++v::List.replicate (O ops) .any,X1⟩ rs::lg,?_,by simp [e2],?_⟩
 .simp_all [M8,List.length_cons,M0,fD,Bool.false_and,j6,if_false]
 .intro j e he
  cases j with
  |zero =>
   simp [List.getElem?_cons_zero,Option.some.injEq] at he;subst he;refine ⟨hr,λhb=>ht V,KL k,λi' hi' ha=>?_,λi' hi' hr' =>?_⟩
   .simp_all [Nat.add_zero,T6]
   .rw [Nat.add_zero,hi] at hi'
    cases hi';exact xC h4 hr'
  |succ j =>
   grind
theorem xk {E:Env}:∀(ops:List x9) (k na yN :Nat) (st:G5),(∀j,j∈ops->j.op.y3=F)->M8 E j8 ops k na st=M8 E j8 ops k yN st
 |[],_,_,_,_,_=>rfl
 |i::ops,k,na,yN,st,h=>by
  have hi:=h i (List.mem_cons_self);simp [M8,hi,j6,if_false];cases fD E j8 K k i st with
  |none=>rfl
  |some x=>simp [xk ops (k+1) na yN x.1 (λj hj=>h j (List.mem_cons_of_mem _ hj))]
end
section
variable {A:Prog} {l:G9} {b:Nat}
variable {j8 ops:List x9} {T:List c7} {H:k8} {n:Nat} {rl:List c7} {l6:List Touch} {na:Nat} {Q:List c7->k8->List c7->Prop}
def Rz.simple {i:x9}{v:c7}{rs:List Nat}{N1:Nat}(ha:i.op.y3=F)(hk:∀L,F9 ⟨T,H,L,l6⟩ i.op=F)(hi:j8[n]? =J i)
  (h:O rl=n->∀k,N1<=k->x8 (I9 A k l b) j8 K n i ⟨T,H,rl.reverse++ .any::List.replicate (O ops) .any,l6⟩=J (⟨T,H,rl.reverse++v::List.replicate (O ops) .any,l6⟩,rs))
  (hr:na∉rs) (hs:∀k,G8 (I9 A k l b) ⟨T,H,rl.reverse++ .any::List.replicate (O ops) .any,l6⟩ i.op<=na) (h2:Rz A l b j8 ops T H (n+1) (v::rl) l6 na Q):Rz A l b j8 (i::ops) T H n rl l6 na Q :=
 Rz.step (N1:=N1) hk hi (λhn k hk=>M) hr (λ_ rs _=>by grind [Y3,F3]) hs (λh=>M) (λ_ _=>⟨h2,λh=>M⟩)
namespace S
def zn (h:Q T H rl.reverse):Rz A l b j8 [] T H n rl l6 na Q:=Rz.nil h
def zp {op:F6}{u:List Nat}{rs:List Nat}(v:c7)(hp:l5 (rq T n rl) H op=J (v,rs))(h2:Rz A l b j8 ops T H (n+1) (v::rl) l6 na Q)(hr:na∉rs:=by simp)(hE:op.B3=F:=by rfl)(ha:op.y3=F:=by rfl)(hk:∀L,F9 ⟨T,H,L,l6⟩ op=F:=by intro;rfl)(hi:j8[n]? =J ⟨op,K,K,u⟩:=by rfl)
  (hs:∀k,G8 (I9 A k l b) ⟨T,H,rl.reverse++ .any::List.replicate (O ops) .any,l6⟩ op<=na:=by intro;exact Nat.zero_le _):Rz A l b j8 (⟨op,K,K,u⟩::ops) T H n rl l6 na Q:=by
 refine Rz.simple (N1:=0) (rs:=rs) ha hk hi (λhn k _=>?_) hr hs h2;have Mn:∀x,op≠ .dV x:=by
  grind [l5]
 have h4:l5 (z6.F7 T (rl.reverse++ .any::List.replicate (O ops) .any)) H op=J (v,rs):=by
  rw [show z6.F7 T (rl.reverse++ .any::List.replicate (O ops) .any)=rq T n rl from funext λx=>M5 hn _ x];exact hp
 have KM:∀(a:c7) (r:List c7),(rl.reverse++a::r).set n v=rl.reverse++v::r:=λa r=>M
 simp_all [B4,I9,List.replicate,absurd,j6,if_false,put,F6.B3,x8,y6,s6,D5]
def zm {x:A4}{u:List Nat}{v:c7}(h2:Rz A l b j8 ops T H (n+1) (v::rl) l6 na Q)(hx:Oq T n rl x v:=by exact ⟨rfl,rfl⟩)(hi:j8[n]? =J ⟨.dV x,K,K,u⟩:=by rfl):Rz A l b j8 (⟨.dV x,K,K,u⟩::ops) T H n rl l6 na Q:=by
 refine Rz.simple (N1:=0) (rs:=[]) rfl (λ_=>rfl) hi (λhn k _=>?_) U (λk=>Nat.zero_le _) h2;have KM:∀(a:c7) (r:List c7),(rl.reverse++a::r).set n v=rl.reverse++v::r:=λa r=>M
 simp [x8,y6,B4,F6.B3,j6,if_false,(hx.op hn).E9,put,KM,s6,D5]
def zc {f:FuncId}{xs:List A4}{u:List Nat}{v:c7}{args:List c7}{m:Nat}{H0 H1:k8}{l2:G9}(hc:Pm A f args H0 l2 v H1)(FT:O H1=m)(h2:Rz A l b j8 ops T H (n+1) (v::rl) l6 na Q)(hmn:m<=na:=by decide)(fe:C9 ((H.take m).drop l.strict)<=m:=by exact Nat.zero_le _)(hcl:D7 H l.strict 8 (A2 args)=m:=by rfl)
  (FR:H.take m=H0:=by rfl) (hle:Nat.ble m (O H)=W:=by rfl) (iZ:(⟨0,m,m,B1 H l.strict m⟩:G9)=l2:=by rfl)
  (ha:xs.map (rq T n rl)=args:=by rfl) (eM:A.prom f=F:=by rfl) (hm:A.mode f=1:=by rfl) (hi:j8[n]? =J ⟨.call f xs,K,K,u⟩:=by rfl) (hn0:O rl=n:=by rfl):Rz A l b j8 (⟨.call f xs,K,K,u⟩::ops) T H n rl l6 na Q:=by
 obtain ⟨d8,hc⟩:=hc;have Jw :∀k,(I9 A k l b).prom f=F:=λ_=>eM
 refine Rz.simple (N1:=d8) (rs:=[]) rfl (λ_=>rfl) hi (λhn k hk=>?_) U (λk=>?_) h2
 .have KM:∀(a:c7) (r:List c7),(rl.reverse++a::r).set n v=rl.reverse++v::r:=λa r=>M
  simp_all [B9,I9,List.replicate,put,vt,j5,x8,y6,B4,F6.B3,if_true,C7,aJ,s6,D5]
 .have PF :D7 H (I9 A k l b).lim.strict 8 (A2 args)=m:=hcl
  simp_all [G8,j6,if_false,aJ]
def za {zero:List c7}{u:List Nat}{s:Nat}{T2:List c7}{H2:k8}(hs:T[s]?.isSome=W:=by rfl)(htc:l6.any (Touch.Q6 s)=W:=by rfl)(hT:T.set s (.ptr na 0)=T2:=by simp only [List.set_cons_zero,List.set_cons_succ]<;>rfl)(hH:H.set na (.cells zero)=H2:=by simp only [List.set_cons_zero,List.set_cons_succ]<;>rfl)
  (hi:j8[n]? =J ⟨.alloc zero,J s,K,u⟩:=by rfl) (hno:ops.all (λj=> !j.op.y3)=W:=by rfl) (h2:Rz A l b j8 ops T2 H2 (n+1) (.ptr na 0::rl) l6 na Q):Rz A l b j8 (⟨.alloc zero,J s,K,u⟩::ops) T H n rl l6 na Q:=by
 have hs:s<O T:=by
  simp_all
 have ap9 :∀j,j∈ops->j.op.y3=F:=λj hj=>M
 refine Rz.step (N1:=0) (rs:=[]) (λ_=>rfl) hi (λhn k _=>?_) U (λ_ rs hrs=>?_) (λk=>Nat.zero_le _) (λ_=>ap9) (λ_ _=>⟨h2,λ_ k r lg h=>by grind [xk]⟩)
 .have KM:∀(a v:c7) (r:List c7),(rl.reverse++a::r).set n v=rl.reverse++v::r:=λa v r=>M
  simp_all [List.length_reverse,F6.y3,if_true,x8,y6,B4,F6.B3,C7,D4,newId,Option.getD_some,put,s6,R4,z6.E9,decide_true,Bool.and_self,z6.F7,c7.I7]
 grind [F6.y3,Y3,F3,Touch.F1]
def zs {m:Nat}{x y:A4}{u:List Nat}{v:c7}{cs old:List c7}{H2:k8}(hd:Nat.ble (kY j8) n=W:=by rfl)(hy:rq T n rl y= .ptr na 0:=by rfl)(hx:Oq T n rl x v:=by exact ⟨rfl,rfl⟩)(hc:v.cells? =J cs:=by rfl)(hm:O cs=m:=by rfl)(hl:l.may na=W:=by rfl)(hb:A2 cs=0:=by rfl)
  (ho:H[na]? =J (.cells old):=by rfl) (hq:O old=m:=by rfl) (hH:H.set na (.cells cs)=H2:=by simp only [List.set_cons_zero,List.set_cons_succ]<;>rfl) (hi:j8[n]? =J ⟨.store m y x,K,K,u⟩:=by rfl)
  (h2:Rz A l b j8 ops T H2 (n+1) (.any::rl) (.obj na::l6) na Q):Rz A l b j8 (⟨.store m y x,K,K,u⟩::ops) T H n rl l6 na Q:=by
 have hw:wr H na 0 cs=J H2:=by
  simp_all [wr,splice,n5]
 refine Rz.step (N1:=0) (rs:=[]) (λ_=>rfl) hi (λhn k _=>?_) U (λh=>?_) (λk=>Nat.zero_le _) (λh=>by cases h) (λ_ _=>⟨h2,λh=>by cases h⟩)
 .have hl' :(I9 A k l b).lim.may na=W:=hl
  have hb' :A2 cs<=na+1:=V
  have KM:∀(a v:c7) (r:List c7),(rl.reverse++a::r).set n v=rl.reverse++v::r:=λa v r=>M
  simp [F6.y3,j6,if_false,x8,y6,B4,F6.B3,if_true,C7,M5 hn,hy,P0,(hx.op hn).E9,hc,hm,hl',hb',true_or,and_self,hw,put,KM,s6,D5]
 simp_all<;>omega
end S
end
section
variable {A:Prog} {l:G9} {b:Nat}
variable {dr:Bool} {j8 ops:List x9} {T:List c7} {H:k8} {n:Nat} {rl:List c7} {l6:List Touch} {Q:List c7->k8->List c7->Prop}
namespace S
def o12 {x y:A4}{u:List Nat}{z1 z2:c7}{c d:Data}(h2:Ry A l b dr j8 ops T H (n+1) (.own 1 2 [c,d]::rl) l6 Q)(hx:rq T n rl x= .d c:=by rfl)(hy:rq T n rl y= .d d:=by rfl):Ry A l b dr j8 (⟨.N5 1 2 [z1,z2] [(0,1,x),(1,1,y)] F,K,K,u⟩::ops) T H n rl l6 Q :=
 Ry.pure (rs:=[]) rfl (by simp [l5,U2,hx,hy,c7.cells?,splice,J3,c7.data?,c7.one]) h2
def lq2 {α β:Type}{e1:α->List Data}{e2:β->List Data}{xs:List α}{ys:List β}{x:A4}{u:List Nat}{id z1 z2:Nat}(h2:Ry A l b dr j8 ops T H (n+1) (.agg [.d (x3 e1 xs),.d (x3 e2 ys)]::rl) l6 Q)(hx:rq T n rl x= .ptr id 0:=by rfl)(ho:H[id]? =J (.cells [A8 z1 e1 xs,A8 z2 e2 ys]):=by rfl) :
  Ry A l b dr j8 (⟨.load (J 2) x,K,K,u⟩::ops) T H n rl l6 Q :=
 Ry.pure (rs:=[id]) rfl (by simp [l5,hx,rd,ho,A8,x3,c7.I7]) h2
end S
end
section
variable {A:Prog} {l:G9} {b:Nat}
variable {j8 ops:List x9} {T:List c7} {H:k8} {n:Nat} {rl:List c7} {l6:List Touch} {na:Nat} {Q:List c7->k8->List c7->Prop}
namespace S
def zix {α:Type} [Inhabited α] {enc:α->List Data}{xs:List α}{sz:Nat}{e:Int}{x y:A4}{k:IntKind}{u:List Nat}(h0:0<=e/\e<O xs)(h2:Rz A l b j8 ops T H (n+1) (.Z5 (enc (Y xs e.toNat)++(xs.drop (e.toNat+1)).flatMap enc)::rl) l6 na Q)(hx:rq T n rl x= .d (x3 enc xs):=by rfl)(hy:rq T n rl y= .d (.int k e):=by rfl)(hs:∀a,O (enc a)=sz:=by intro;rfl)
  (hi:j8[n]? =J ⟨.iw sz x y,K,K,u⟩:=by rfl):Rz A l b j8 (⟨.iw sz x y,K,K,u⟩::ops) T H n rl l6 na Q:=by
 refine zp (rs:=[]) _ ?_ h2 (hi:=hi);simp_all [jL,A7,l5,x3,and_self,if_true]
def zle {cs rest:List Data}{x:A4}{m:Nat}{u:List Nat}(h2:Rz A l b j8 ops T H (n+1) (.agg (cs.map .d)::rl) l6 na Q)(hx:rq T n rl x= .Z5 (cs++rest):=by rfl)(hm:O cs=m:=by rfl)(hi:j8[n]? =J ⟨.load (J m) x,K,K,u⟩:=by rfl):Rz A l b j8 (⟨.load (J m) x,K,K,u⟩::ops) T H n rl l6 na Q:=by
 refine zp (rs:=[]) _ ?_ h2 (hi:=hi);simp_all [l5]
def soD {dr:Bool}{m id:Nat}{x y:A4}{u:List Nat}{v:c7}{cs old:List c7}{H2:k8}(hd:Nat.ble (kY j8) n=W:=by rfl)(hy:rq T n rl y= .ptr id 0:=by rfl)(hx:Oq T n rl x v:=by exact ⟨rfl,rfl⟩)(hc:v.cells? =J cs:=by rfl)(hm:O cs=m:=by rfl)(hl:l.may id=W:=by rfl)(hb:A2 cs=0:=by rfl)
  (ho:H[id]? =J (.cells old):=by rfl) (hq:O old=m:=by rfl) (hH:H.set id (.cells cs)=H2:=by simp only [List.set_cons_zero,List.set_cons_succ]<;>rfl)
  (h2:Ry A l b dr j8 ops T H2 (n+1) (.any::rl) (.obj id::l6) Q):Ry A l b dr j8 (⟨.store m y x,K,K,u⟩::ops) T H n rl l6 Q :=
 xD hd hy hx hc hm hl V (by simp_all [wr,splice,n5]) h2
end S
end
section
variable {A:Prog} {l:G9} {b:Nat}
variable {dr:Bool} {j8 ops:List x9} {T:List c7} {H:k8} {n:Nat} {rl:List c7} {l6:List Touch} {Q:List c7->k8->List c7->Prop}
namespace S
def mk {u:List Nat}{id:Nat}{H2:k8}(hi:O H=id:=by simp only [List.length_cons,List.length_nil,Nat.reduceAdd]<;>rfl)(hH:H++[.map []]=H2:=by simp only [List.cons_append,List.nil_append]<;>rfl)
  (h2:Ry A l b F j8 ops T H2 (n+1) (.map id::rl) l6 Q):Ry A l b F j8 (⟨.makeMap,K,K,u⟩::ops) T H n rl l6 Q:=λhn=>by
 refine Rx.stepT (N1:=0) (rs:=[]) rfl (λn _=>?_) (h2.to hn);simp_all [x8,y6,B4,F6.B3,C7,D4,newId,put,s6,D5]
def bso {sz len:Nat}{zero:List c7}{parts:List (Nat×Nat×A4)}{u:List Nat}{id:Nat}{H2:k8}(cs:List c7)(hr:U2 zero (parts.map λp=>(p.1,p.2.1,rq T n rl p.2.2))=J cs)(h0:0<sz/\O cs=len * sz)(hi:O H=id:=by simp only [List.length_cons,List.length_nil,Nat.reduceAdd]<;>rfl)(hH:H++[.cells cs]=H2:=by simp only [List.cons_append,List.nil_append]<;>rfl)
  (h2:Ry A l b F j8 ops T H2 (n+1) (.s5 id sz 0 len::rl) l6 Q):Ry A l b F j8 (⟨.N5 sz len zero parts W,K,K,u⟩::ops) T H n rl l6 Q:=λhn=>by
 refine Rx.stepT (N1:=0) (rs:=[]) rfl (λk _=>?_) (h2.to hn);have hr' :U2 zero (parts.map λp=>(p.1,p.2.1,z6.F7 T (rl.reverse++ .any::List.replicate (O ops) .any) p.2.2))=J cs:=by
  rw [show z6.F7 T (rl.reverse++ .any::List.replicate (O ops) .any)=rq T n rl from funext λx=>M5 hn _ x];exact hr
 simp_all [x8,y6,B4,F6.B3,if_true,C7,and_self,D4,newId,Option.getD_none,put,J4,s6,D5]
def lrT {x:A4}{u:List Nat}{id sz lo len s:Nat}{T2:List c7}(hx:rq T n rl x= .s5 id sz lo len:=by rfl)(hs:T[s]?.isSome=W:=by rfl)(hT:T.set s (.d (.int .i64 (len:Int)))=T2:=by simp only [List.set_cons_zero,List.set_cons_succ]<;>rfl)
  (h2:Ry A l b dr j8 ops T2 H (n+1) (.d (.int .i64 (len:Int))::rl) (.slot s::l6) Q):Ry A l b dr j8 (⟨.len x,J s,K,u⟩::ops) T H n rl l6 Q :=
 Ry.oQ (v:= .d (.int .i64 (len:Int))) (rs:=[]) rfl (by grind [l5,i64]) rfl rfl hs M
def ixs {x y:A4}{u:List Nat}{id sz lo len i:Nat}{k:IntKind}(hi:i<len)(h2:Ry A l b dr j8 ops T H (n+1) (.ptr id (lo+i * sz)::rl) l6 Q)(hx:rq T n rl x= .s5 id sz lo len:=by rfl)(hy:rq T n rl y= .d (.int k ((i:Nat):Int)):=by rfl):Ry A l b dr j8 (⟨.iw sz x y,K,K,u⟩::ops) T H n rl l6 Q :=
 Ry.pure (rs:=[]) rfl (by
  simp_all [l5]) h2
def Il {x:A4}{u:List Nat}{id o m:Nat}{vs:List c7}(hr:rd H id o m=J vs)(hv:vs.map c7.I7=vs)(h2:Ry A l b dr j8 ops T H (n+1) (.agg vs::rl) l6 Q)(hx:rq T n rl x= .ptr id o:=by rfl):Ry A l b dr j8 (⟨.load (J m) x,K,K,u⟩::ops) T H n rl l6 Q :=
 Ry.pure (rs:=[id]) rfl (by simp_all [l5]) h2
def soB {m id:Nat}{x y:A4}{u:List Nat}{v:c7}{cs old:List c7}{H2:k8}(hb:A2 cs<=id+1)(hy:rq T n rl y= .ptr id 0:=by rfl)(hx:Oq T n rl x v:=by exact ⟨rfl,rfl⟩)(hc:v.cells? =J cs:=by rfl)(hm:O cs=m:=by rfl)(hl:l.may id=W:=by rfl)
  (ho:H[id]? =J (.cells old):=by rfl) (hq:O old=m:=by rfl) (hH:H.set id (.cells cs)=H2:=by simp only [List.set_cons_zero,List.set_cons_succ]<;>rfl)
  (h2:Ry A l b F j8 ops T H2 (n+1) (.any::rl) (.obj id::l6) Q):Ry A l b F j8 (⟨.store m y x,K,K,u⟩::ops) T H n rl l6 Q :=
 jv hy hx hc hm hl hb (by simp_all [wr,splice,n5]) h2
end S
def A6 {mask:List Bool}{strict m:Nat}{T:List c7}{H:k8}(h1:A2 (Q5 mask T)<=m)(h2:C9 ((H.take m).drop strict)<=m):clean mask strict m ⟨T,H⟩=⟨Q5 mask T,H.take m⟩:=by
 grind [clean]
end
section
variable {A:Prog} {l:G9} {b:Nat}
variable {j8 ops:List x9} {T:List c7} {H:k8} {n:Nat} {rl:List c7} {l6:List Touch} {Q:List c7->k8->List c7->Prop}
namespace S
def cp {f:FuncId}{xs:List A4}{u:List Nat}{v:c7}{args:List c7}{H1:k8}(hc:Pm A f args H l v H1)(hle:O H<=O H1)(h2:Ry A l b F j8 ops T H1 (n+1) (v::rl) (.below (O H1)::l6) Q)(ha:xs.map (rq T n rl)=args:=by rfl)(eM:A.prom f=W:=by rfl) :
  Ry A l b F j8 (⟨.call f xs,K,K,u⟩::ops) T H n rl l6 Q:=λhn=>by
 obtain ⟨d8,hc⟩:=hc;refine Rx.stepT (N1:=d8) (rs:=[]) rfl (λk hk=>?_) (h2.to hn);have Jw :(I9 A k l b).prom f=W:=eM;have oV :(I9 A k l b).cf f args H (I9 A k l b).lim=J (v,H1):=hc k hk;have h3:B9 (I9 A k l b) (O rl.reverse) f args ⟨T,H,rl.reverse++ .any::List.replicate (O ops) .any,l6⟩=J (put ⟨T,H1,rl.reverse++ .any::List.replicate (O ops) .any,.below (O H1)::l6⟩ (O rl.reverse) v):=by
  simp only [B9,Jw,if_true,oV,hle]
 simp only [x8,y6,B4,F6.B3,if_true,C7,aJ hn,ha,h3,s6,D5,put,J4]
end S
end
theorem zP (id:Nat):∀l:List c7,L3 id l=l.map (c7.kill id)
 |[]=>rfl
 |v::l=>by simp [L3,zP id l]
def JC {id m:Nat}(rl:List c7):L3 id (rl.reverse++ .any::List.replicate m .any)=(L3 id rl).reverse++ .any::List.replicate m .any:=by
 simp [zP,c7.kill]
theorem Pm.bw {A:Prog}{f:FuncId}{args:List c7}{H H1:k8}{l:G9}{v:c7}{p:List c7->k8->G9->Option (c7×k8)}(hp:A.bw f=J p)(h:p args H l=J (v,H1)):Pm A f args H l v H1 :=
 ⟨1,λn hn=>by
  obtain ⟨n,rfl⟩:∃j,n=j+1:=⟨n - 1,V⟩;simp_all [call]⟩
section
variable {A:Prog} {l:G9} {b:Nat}
variable {dr:Bool} {j8 ops:List x9} {T:List c7} {H:k8} {n:Nat} {rl:List c7} {l6:List Touch} {Q:List c7->k8->List c7->Prop}
def S.qX {s:Nat}{w v:c7}{u:List Nat}(hw:w.I7=v)(h2:Ry A l b dr j8 ops T H (n+1) (v::rl) l6 Q)(hx:T[s]? =J w:=by rfl):Ry A l b dr j8 (⟨.dV (.slot s),K,K,u⟩::ops) T H n rl l6 Q:=λhn=>by
 refine Rx.step (N1:=0) (rs:=[]) rfl rfl (λq _=>?_) (λrs=>by simp [F3]) (h2.to hn);simp_all [z6.F7,List.replicate,x8,y6,B4,F6.B3,j6,if_false,z6.E9,put,J4,s6,D5]
end
section
variable {A:Prog} {l:G9} {b:Nat}
variable {j8 ops:List x9} {T:List c7} {H:k8} {n:Nat} {rl:List c7} {l6:List Touch} {Q:List c7->k8->List c7->Prop}
namespace S
def mn {dr:Bool}{s:Nat}{T2:List c7}{u:List Nat}(hs:T[s]?.isSome=W:=by rfl)(hT:T.set s .O5=T2:=by simp only [List.set_cons_zero,List.set_cons_succ]<;>rfl)(h2:Ry A l b dr j8 ops T2 H (n+1) (.O5::rl) (.slot s::l6) Q) :
  Ry A l b dr j8 (⟨.dV (.const .O5),J s,K,u⟩::ops) T H n rl l6 Q:=λhn=>by
 have hs' :s<O T:=by
  simp_all
 refine Rx.step (N1:=0) (rs:=[]) rfl rfl (λn _=>?_) (cA s l6) (h2.to hn);simp_all [x8,y6,B4,F6.B3,j6,if_false,z6.E9,put,J4,s6,D5,if_true]
end S
end
end Go.z6
namespace Go.z6.S
def gx {Γ Δ:Prop}(k:Δ)(h:PLift Δ->Γ:=by intro a8;(first|refine Ex.seq ?_|refine Ex.region (Rn.text ?_)|refine Ex.region (Rn.draw ?_)|refine Ex.block ?_|refine nl ?_|refine Ex.skip ?_|refine Ex.exit ?_|refine Ex.ret ?_|refine wa ?_|refine sk ?_|refine st ?_|refine mv ?_|refine mt (h2:=?_)|refine mo ?_|refine lp ?_|refine lpo ?_|refine fp ?_|refine ld ?_|refine lf ?_|refine ln ?_|refine li ?_|refine lo ?_|refine gi ?_|refine go ?_|refine ei ?_|refine ni ?_|refine es ?_|refine ns ?_|refine ad ?_|refine sb ?_|refine ng ?_|refine lt ?_|refine le ?_|refine lq ?_|refine lq3 ?_|refine lq2 ?_|refine o12 ?_|refine et ?_|refine ix (h2:=?_)|refine pt ?_|refine pk ?_|refine mw (h2:=?_)|refine ow (h2:=?_)|refine bx (h2:=?_)|refine bxn (h2:=?_)|refine nk ?_|refine nki ?_|refine ac (h2:=?_)|refine so (h2:=?_)|refine sp1 (h2:=?_)|refine o1 ?_|refine o1z ?_|refine ap1 (h2:=?_)|refine e0 ?_|refine yY (h2:=?_)|refine al1 (h2:=?_)|refine Fq (h2:=?_)|refine Vi (h2:=?_)|refine xs (h2:=?_)|refine xsN (h2:=?_)|refine ixN (h2:=?_)|refine Xo (h2:=?_)|refine ls ?_|refine lnT (h2:=?_)|refine lsT (h2:=?_)|refine ldT (h2:=?_)|refine lpT (h2:=?_)|refine qs ?_|refine qb ?_|refine mm ?_|refine ip ?_|refine ipN ?_|refine ipM ?_|refine as6 ?_|refine df ?_|refine mf ?_|refine mJ ?_|refine svh (h2:=?_)|refine svl (h2:=?_)|refine svb (h2:=?_)|fail);exact a8.down):Γ:=h ⟨k⟩
def gr {Γ Δ:Prop}(k:Δ)(h:PLift Δ->Γ:=by intro a8;(repeat' (first|refine gx ?_|fail));exact a8.down):Γ:=h ⟨k⟩
def cc {p:Prop}(h:p:=by first|(simp [*,j4];done)|(simp_all [j4];done)|(simp_all [j4,s4,r7,o6,E2];done)|(simp_all [j4,s4,r7,o6,E2]<;>omega)):p:=h
section
variable {A:Prog} {l:G9} {b:Nat}
def tB {ops:List x9}{draw:Bool}{c:A4}{d e:L2}{T:List c7}{H:k8}{Q:H9->St->Prop}{Δ:Prop}(t:Bool)(k:Δ)(h2:t=W->Ex A l b d ⟨T,H⟩ Q)(h3:t=F->Ex A l b e ⟨T,H⟩ Q)
  (h:PLift Δ->Rn A l b ops draw T H λT' H' L=>T' =T/\H' =H/\∃t',F7 T' L c= .d (.bool t')/\t' =t:=by intro a8;first|exact Rn.text a8.down|exact Rn.draw a8.down):Ex A l b (.test ops draw c d e) ⟨T,H⟩ Q:=Ex.dn t (h ⟨k⟩) h2 h3
def tb {ops:List x9}{draw:Bool}{c:A4}{d e:L2}{T:List c7}{H:k8}{Q:H9->St->Prop}(t:Bool)(h2:t=W->Ex A l b d ⟨T,H⟩ Q)(h3:t=F->Ex A l b e ⟨T,H⟩ Q)
  (h:Rn A l b ops draw T H λT' H' L=>T' =T/\H' =H/\∃t',F7 T' L c= .d (.bool t')/\t' =t:=by (first|refine Rn.text ?_|refine Rn.draw ?_|fail);(repeat' (first|refine gx ?_|refine fk (h1:=λhw=>?_) (h2:=λhw=>?_)|refine KG (h1:=λhw=>?_) (h2:=λhw=>?_)|refine ⟨rfl,rfl,_,rfl,?_⟩|refine ⟨rfl,rfl⟩|fail));all_goals exact cc) :
  Ex A l b (.test ops draw c d e) ⟨T,H⟩ Q:=Ex.dn t h h2 h3
end
end Go.z6.S
namespace Go.z6
abbrev C8:=Int×Int
structure D8 where
 src:C8
 dst:C8
 dat:Bool
 deriving DecidableEq,Inhabited
def kR (S:List C8)(p:C8):List C8:=if p∈S then S else S++[p]
def eZ:List C8->List C8->List C8
 |S,[]=>S
 |S,p::r=>eZ (kR S p) r
def V5 (S:List C8)(f:D8):List C8:=if f.src∈S/\f.dst∉S then S++[f.dst] else S
def pass:List C8->List D8->List C8
 |S,[]=>S
 |S,f::r=>pass (V5 S f) r
def zi (fs:List D8):Nat->List C8->List C8
 |0,S=>S
 |n+1,S=>if O (pass S fs)=O S then S else zi fs n (pass S fs)
def yS (fs:List D8)(l:List C8):List C8:=zi fs (O fs+1) (eZ [] l)
def Fp {S:List C8}{p:C8}(h:S.Nodup):(kR S p).Nodup:=by
 grind [kR,List.nodup_append,List.mem_singleton]
theorem ve:∀(l S:List C8),S.Nodup->(eZ S l).Nodup
 |[],_,h=>h
 |_::r,_,h=>ve r _ (Fp h)
theorem uZ:∀(l S:List C8),O (eZ S l)<=O S+O l
 |[],_=>k9 _
 |p::r,S=>by
  have h1:=uZ r (kR S p)
  grind [kR,eZ,List.length_cons]
def An {S:List C8}{f:D8}{q:C8}(h:q∈S):q∈V5 S f:=by
 grind [V5]
def Kr (S:List C8)(f:D8):O S<=O (V5 S f)/\(O (V5 S f)=O S->V5 S f=S/\(f.src∈S->f.dst∈S)):=by
 grind [V5]
def ED {S:List C8}{f:D8}(h:S.Nodup):(V5 S f).Nodup:=by
 grind [V5,List.nodup_append,List.mem_singleton]
theorem lQ:∀(fs:List D8) {S:List C8} {q:C8},q∈S->q∈pass S fs
 |[],_,_,h=>h
 |_::r,_,_,h=>lQ r (An h)
theorem lP:∀(fs:List D8) (S:List C8),O S<=O (pass S fs)/\(O (pass S fs)=O S->pass S fs=S/\∀f∈fs,f.src∈S->f.dst∈S)
 |[],_=>⟨k9 _,λ_=>⟨rfl,U⟩⟩
 |f::r,S=>by
  obtain ⟨a1,a2⟩:=Kr S f;obtain ⟨b1,b2⟩:=lP r (V5 S f)
  grind [pass]
theorem xb:∀(fs:List D8) {S:List C8},S.Nodup->(pass S fs).Nodup
 |[],_,h=>h
 |_::r,_,h=>xb r (ED h)
def aP (fs:List D8)(S:List C8):Nat:=O (fs.filter λf=> !decide (f.dst∈S))
theorem wQ (fs:List D8)(S:List C8):aP fs S<=O fs:=List.length_filter_le _ _
theorem wR {S S' :List C8}(h:∀q∈S,q∈S'):∀fs:List D8,aP fs S' <=aP fs S
 |[]=>k9 _
 |f::r=>by
  have:=wR h r
  grind [aP]
theorem qw {S S' :List C8}(h:∀q∈S,q∈S'):∀{fs:List D8} {f:D8},f∈fs->f.dst∉S->f.dst∈S' ->aP fs S' <aP fs S
 |g::r,f,hf,h1,h2=>by
  have h3:=wR h r;unfold aP at *
  rcases K2.1 hf with rfl|hf
  .grind
  .have h4:=qw h (fs:=r) hf h1 h2
   grind [aP]
theorem wZ:∀(fs:List D8) (S:List C8),O (pass S fs)≠O S->∃f∈fs,f.dst∉S/\f.dst∈pass S fs
 |[],S,h=>absurd rfl h
 |f::r,S,h=>by
  rw [pass] at h ⊢
  by_cases hc:f.src∈S/\f.dst∉S
  .simp_all [List.mem_cons_self,lQ,V5,if_pos]
  .have e:V5 S f=S:=by simp_all [V5]
   rw [e] at h ⊢;obtain ⟨g,hg,h1,h2⟩:=wZ r S h
   grind
theorem CH (fs:List D8):∀(n:Nat) (S:List C8),aP fs S<n->(∀q∈S,q∈zi fs n S)/\(∀f∈fs,f.src∈zi fs n S->f.dst∈zi fs n S)
 |0,_,h=>absurd h (Nat.not_lt_zero _)
 |n+1,S,h=>by
  unfold zi;split
  .grind [lP]
  next he=>
   obtain ⟨f,hf,h1,h2⟩:=wZ fs S he;have:=qw (λq hq=>lQ fs hq) hf h1 h2;obtain ⟨a,b⟩:=CH fs n (pass S fs) V;simp_all [lQ]
def aV (a b:Int):Int:=if a<b then -1 else if b<a then 1 else 0
def pI (a b:C8):Int:=if aV a.1 b.1≠0 then aV a.1 b.1 else aV a.2 b.2
def OI (a b:Bool):Int:=if a==b then 0 else if a then -1 else 1
def CC (a b:D8):Int:=if pI a.src b.src≠0 then pI a.src b.src else if pI a.dst b.dst≠0 then pI a.dst b.dst else OI a.dat b.dat
def Bk {α:Type}(cf:α->α->Int)(x:α):List α->List α
 |[]=>[x]
 |y::l=>if cf y x<0 then y::Bk cf x l else x::y::l
def Am {α:Type}(cf:α->α->Int):List α->List α
 |[]=>[]
 |x::l=>Bk cf x (Am cf l)
theorem rN {α:Type}(cf:α->α->Int)(x:α):∀l,(Bk cf x l).Perm (x::l)
 |[]=>List.Perm.refl _
 |y::l=>by
  simp [Bk];split
  .exact ((rN cf x l).cons y).trans (List.Perm.swap x y l)
  rfl
theorem kf {α:Type}(cf:α->α->Int):∀l,(Am cf l).Perm l
 |[]=>List.Perm.refl _
 |x::l=>(rN cf x _).trans ((kf cf l).cons x)
theorem HX {α:Type}{cf:α->α->Int}(htr:∀a b c,¬ cf b a<0->¬ cf c b<0->¬ cf c a<0)(hto:∀a b,cf b a<0->¬ cf a b<0)(x:α):∀l:List α,l.Pairwise (λa b=>¬ cf b a<0)->(Bk cf x l).Pairwise λa b=>¬ cf b a<0
 |[],_=>by simp [Bk]
 |y::l,h=>by
  simp only [Bk];rw [F2] at h;split
  .refine F2.2 ⟨λz hz=>?_,HX htr hto x l h.2⟩
   grind [rN]
  grind [F2]
theorem qM {α:Type}{cf:α->α->Int}(htr:∀a b c,¬ cf b a<0->¬ cf c b<0->¬ cf c a<0)(hto:∀a b,cf b a<0->¬ cf a b<0):∀l:List α,(Am cf l).Pairwise λa b=>¬ cf b a<0
 |[]=>List.Pairwise.nil
 |x::l=>HX htr hto x _ (qM htr hto l)
def tT {α:Type}{cf:α->α->Int}(htr:∀a b c,¬ cf b a<0->¬ cf c b<0->¬ cf c a<0)(hto:∀a b,cf b a<0->¬ cf a b<0)(han:∀a b,¬ cf b a<0->¬ cf a b<0->a=b)(l:List α):(l.mergeSort λx y=> !decide (cf y x<0))=Am cf l:=by
 refine List.Perm.eq_of_pairwise (le:=λa b=>¬ cf b a<0) (λa b _ _ h1 h2=>han a b h1 h2) ?_ (qM htr hto l) ((List.mergeSort_perm l _).trans (kf cf l).symm);have:=List.pairwise_mergeSort (le:=λx y:α=> !decide (cf y x<0)) (λa b c h1 h2=>by grind) (λa b=>by
  grind) l
 simp_all
def sortP (l:List C8):List C8:=Am pI l
def Y4 (l:List D8):List D8:=Am CC l
theorem dY (l:List D8):(Y4 l).Perm l:=kf _ _
theorem mY (l:List D8):O (Y4 l)=O l:=(dY l).length_eq
def D8.enc (f:D8):List Data:=[Z f.src.1,Z f.src.2,Z f.dst.1,Z f.dst.2,.bool f.dat]
def oD:List Data->Option (List D8)
 |[]=>J []
 | .int .i64 a:: .int .i64 b:: .int .i64 c:: .int .i64 d:: .bool t::r=>match oD r with
  |some l=>J (⟨(a,b),(c,d),t⟩::l)
  |none=>K
 |_=>K
def si (g:FuncId):List c7->k8->G9->Option (c7×k8)
 |[.s5 id 5 lo len,.func g' [] []],H,l=>if g' =g/\l.may id=W/\len<=1000000 then match rd H id lo (len * 5) with
   |some vs=>match J3 vs with
    |some cs=>match oD cs with
     |some fs=>match wr H id lo (((Y4 fs).flatMap D8.enc).map .d) with
      |some H1=>J (.tuple [],H1)
      |none=>K
     |none=>K
    |none=>K
   |none=>K
  else K
 |[.d (.slice 0 _),.func g' [] []],H,_=>if g' =g then J (.tuple [],H) else K
 |_,_,_=>K
def uP:List c7->k8->G9->Option (c7×k8)
 |[.map id],H,_=>match H[id]? with
  |some (.map es)=>match oJ es with
   |some ks=>if O ks<=1000000 then J (.own 2 (O ks) (bJ (sortP ks)),H) else K
   |none=>K
  |_=>K
 |_,_,_=>K
def rX:List c7->k8->G9->Option (c7×k8)
 |[.d (.slice 0 _)],H,_=>J (.d (.slice 0 []),H)
 |as,H,l=>jm as H l
end Go.z6
namespace Go.z6.S
section
variable {A:Prog} {l:G9} {b:Nat} {dr:Bool}
variable {j8 ops:List x9} {T:List c7} {H:k8} {n:Nat} {rl:List c7} {l6:List Touch} {Q:List c7->k8->List c7->Prop}
def Xx {x:A4}{m id o:Nat}{cs:List c7}{u:List Nat}(h2:Ry A l b dr j8 ops T H (n+1) (.agg cs::rl) l6 Q)(hx:rq T n rl x= .ptr id o:=by rfl)(hr:rd H id o m=J cs:=by rfl)(hv:cs.map c7.I7=cs:=by rfl) :
  Ry A l b dr j8 (⟨.load (J m) x,K,K,u⟩::ops) T H n rl l6 Q:=Ry.pure (rs:=[id]) rfl (by simp_all [l5]) h2
def mkm {u:List Nat}{id:Nat}{H2:k8}(hi:O H=id:=by simp only [List.length_cons,List.length_nil,Nat.reduceAdd]<;>rfl)(hH:H++[.map []]=H2:=by simp only [List.cons_append,List.nil_append]<;>rfl)
  (h2:Ry A l b F j8 ops T H2 (n+1) (.map id::rl) l6 Q):Ry A l b F j8 (⟨.makeMap,K,K,u⟩::ops) T H n rl l6 Q:=λhn=>by
 have h2:=h2.to hn;refine Rx.stepT (N1:=0) (rs:=[]) rfl (λn _=>?_) h2;simp_all [x8,y6,B4,F6.B3,C7,D4,newId,put,s6,D5]
end
end Go.z6.S
namespace Go.z6
section
variable {A:Prog} {l:G9} {b:Nat}
variable {j8 ops:List x9} {T:List c7} {H:k8} {n:Nat} {rl:List c7} {l6:List Touch} {na nb:Nat} {Q:List c7->k8->List c7->Prop}
namespace S
end S
end
section
variable {A:Prog} {l:G9} {b:Nat}
variable {j8 ops:List x9} {T:List c7} {H:k8} {n:Nat} {rl:List c7} {l6:List Touch} {na nb:Nat} {Q:List c7->k8->List c7->Prop}
namespace S
section
variable {dr:Bool}
def KN {x y:A4}{u:List Nat}{sz id lo len:Nat}{k:IntKind}{e:Int}(h0:0<=e/\e<len)(h2:Ry A l b dr j8 ops T H (n+1) (.ptr id (lo+e.toNat * sz)::rl) l6 Q)(hx:rq T n rl x= .s5 id sz lo len:=by rfl)(hy:rq T n rl y= .d (.int k e):=by rfl) :
  Ry A l b dr j8 (⟨.iw sz x y,K,K,u⟩::ops) T H n rl l6 Q:=Ry.pure (rs:=[]) rfl (by simp_all [l5,and_self,if_true]) h2
def KO {x:A4}{id o:Nat}{v:c7}{u:List Nat}(hr:rd H id o 1=J [v])(hv:v.I7=v)(h2:Ry A l b dr j8 ops T H (n+1) (v::rl) l6 Q)(hx:rq T n rl x= .ptr id o:=by rfl) :
  Ry A l b dr j8 (⟨.load K x,K,K,u⟩::ops) T H n rl l6 Q:=Ry.pure (rs:=[id]) rfl (by simp_all [l5]) h2
def sox {id off:Nat}{x y:A4}{u:List Nat}{v:c7}{H2:k8}(hw:wr H id off [v]=J H2)(hd:Nat.ble (kY j8) n=W:=by rfl)(hy:rq T n rl y= .ptr id off:=by rfl)(hx:Oq T n rl x v:=by exact ⟨rfl,rfl⟩)(hc:v.cells? =J [v]:=by rfl)(hl:l.may id=W:=by rfl)(hb:v.H7<=id+1:=by exact Nat.zero_le _)
  (h2:Ry A l b dr j8 ops T H2 (n+1) (.any::rl) (.obj id::l6) Q):Ry A l b dr j8 (⟨.store 1 y x,K,K,u⟩::ops) T H n rl l6 Q :=
 xD hd hy hx hc rfl hl (by simp_all [A2]) hw h2
end
def mks {x y:A4}{u:List Nat}{sz id len:Nat}{zero:List c7}{H2:k8}(hm:qq sz zero (rq T n rl x) (rq T n rl y)=J len)(hH:H++[.cells (List.replicate len zero).flatten]=H2)(hi:O H=id:=by simp only [List.length_cons,List.length_nil,Nat.reduceAdd]<;>rfl)
  (h2:Ry A l b F j8 ops T H2 (n+1) (.s5 id sz 0 len::rl) l6 Q):Ry A l b F j8 (⟨.gW sz zero x y,K,K,u⟩::ops) T H n rl l6 Q:=λhn=>by
 have h2:=h2.to hn;refine Rx.stepT (N1:=0) (rs:=[]) rfl (λn _=>?_) h2;simp_all [x8,y6,B4,F6.B3,if_true,C7,M5,D4,newId,Option.getD_none,put,J4,s6,D5]
end S
def iv (n:Int):c7:= .d (Z n)
def Zc {H:k8}{id a:Nat}{hs:List Int}(h:H[id]? =J (.cells (hs.map iv)))(ha:a<O hs):rd H id (0+a * 1) 1=J [iv (hs[a]?.getD 0)]:=by
 simp only [rd,h,List.length_map,Nat.mul_one];rw [if_pos V]
 congr 1
 apply List.ext_getElem?
 grind
def Zu {H:k8}{id a:Nat}{hs:List Int}{v:Int}(h:H[id]? =J (.cells (hs.map iv)))(ha:a<O hs):wr H id (0+a * 1) [iv v]=J (H.set id (.cells ((hs.set a v).map iv))):=by
 simp only [wr,h,List.length_map,E5];rw [if_pos V,List.map_set];simp_all [splice,E5,List.set_eq_take_append_cons_drop,if_pos]
end
section
variable {A:Prog} {l:G9} {b:Nat}
theorem Ex.fz {s:Nat}{st st' :St}{Q:H9->St->Prop}(h:kI l b s st=J st')(h2:Q .normal st'):Ex A l b (.fz s) st Q:=⟨_,_,0,h2,λn _=>by
 simp_all [kI,I9,exec]⟩
def HL {lim:G9}{s z n:Nat}{xs:List Data}{T:List c7}{H:k8}(hT:T[s]? =J (.own z n xs))(h0:n≠0)(hb:lim.base=0)(hs:lim.strict=0)(hf:xs.all Data.flat=W) :
  kI lim 0 s ⟨T,H⟩=J ⟨(O4 T).set s (.s5 (O H) z 0 n),H.map x6.forget++[.cells (xs.map .d)]⟩:=by
 simp_all [kI,ql,EM,if_false,and_self,if_true]
def HK {T:List c7}(hT:T[1000]? =K:=by rfl):kI N9 0 1000 ⟨T,[]⟩=J ⟨T,[.dead]⟩:=by
 simp only [kI,ql,hT,EM,N9,and_self,if_true,List.nil_append]
def Mc {lim:G9}{s z:Nat}{xs:List Data}{T:List c7}{H:k8}(hT:T[s]? =J (.own z 0 xs)):kI lim 0 s ⟨T,H⟩=J ⟨T,H⟩:=by
 simp_all [kI,ql,EM]
def Py {lim:G9}{s z n p:Nat}{xs:List Data}{T:List c7}{H:k8}(hT:T[s]? =J (.ptr p 0))(hH:H[p]? =J (.cells [.own z n xs]))(h0:n≠0)(hb:lim.base=0)(hs:lim.strict=0)(hf:xs.all Data.flat=W) :
  kI lim 0 s ⟨T,H⟩=J ⟨O4 T,(H.map x6.forget).set p (.cells [.s5 (O H) z 0 n])++[.cells (xs.map .d)]⟩:=by
 simp_all [kI,ql,qE,EM,tH,if_false,and_self,if_true,O4,c7.forget,List.set_cons_zero]
def Mb {lim:G9}{s z p:Nat}{xs:List Data}{T:List c7}{H:k8}(hT:T[s]? =J (.ptr p 0))(hH:H[p]? =J (.cells [.own z 0 xs])):kI lim 0 s ⟨T,H⟩=J ⟨T,H⟩:=by
 simp_all [kI,ql,qE,EM,tH,if_true]
def vY {α:Type}{enc:α->List Data}(h:∀a,(enc a).all Data.flat=W):∀l:List α,(l.flatMap enc).all Data.flat=W
 |[]=>rfl
 |a::l=>by grind
end
namespace S
section
variable {A:Prog} {l:G9} {b:Nat} {dr:Bool} {j8 ops:List x9} {T:List c7} {H:k8} {n:Nat} {rl:List c7} {l6:List Touch} {Q:List c7->k8->List c7->Prop}
def Sj:∀cs:List Data,(cs.map c7.d).all c7.one=W
 |[]=>rfl
 |c::cs=>by
  simp_all [G7,List.all_cons,c7.one,Bool.and_self]
def oN {α:Type}{enc:α->List Data}(a:α){sz:Nat}{zero:List c7}{x:A4}{u:List Nat}(h2:Ry A l b dr j8 ops T H (n+1) (.own sz 1 (enc a)::rl) l6 Q)(hx:rq T n rl x= .agg ((enc a).map .d):=by rfl)(hc:O (enc a)=sz:=by rfl)(hz:O zero=sz:=by rfl)(h0:Nat.ble 1 sz=W:=by rfl) :
  Ry A l b dr j8 (⟨.N5 sz 1 zero [(0,sz,x)] F,K,K,u⟩::ops) T H n rl l6 Q:=by
 have h0' :=j5 h0;have h1:U2 zero [(0,sz,c7.agg ((enc a).map .d))]=J ((enc a).map .d):=by
  simp only [U2,c7.cells?,Sj,splice,List.take_zero];simp_all
 refine Ry.pure (rs:=[]) rfl ?_ h2;simp [l5,G7,List.map_nil,hx,h1,cg,and_true]
 grind
def Ug {s:Nat}{w:c7}{x:Data}{u:List Nat}(hw:w= .d x\/∃z,w= .own z 0 []/\x= .slice 0 [])(h2:Ry A l b dr j8 ops T H (n+1) (.d x::rl) l6 Q)(hT:T[s]? =J w:=by rfl) :
  Ry A l b dr j8 (⟨.dV (.slot s),K,K,u⟩::ops) T H n rl l6 Q:=by
 rcases hw with rfl|⟨z,rfl,rfl⟩
 .exact mv h2 ⟨hT,rfl⟩
 grind [mo]
def mN {f:FuncId}{xs:List A4}{u:List Nat}{v:c7}{args:List c7}(hc:Pf A f args v)(h2:Ry A l b dr j8 ops T H (n+1) (v::rl) (.below 0::l6) Q)(ha:xs.map (rq T n rl)=args:=by rfl)(hb:A2 args=0:=by rfl)(eM:A.prom f=F:=by rfl)(hm:A.mode f=0:=by rfl)
  (iZ:(⟨l.Fe,l.Fc,0,B1 H l.strict 0⟩:G9)=N9:=by rfl):Ry A l b dr j8 (⟨.call f xs,K,K,u⟩::ops) T H n rl l6 Q:=λhn=>by
 obtain ⟨d8,hc⟩:=hc;have h3:∀k,d8<=k->B9 (I9 A k l b) (O rl.reverse) f args ⟨T,H,rl.reverse++ .any::List.replicate (O ops) .any,l6⟩=J (put ⟨T,[]++H.drop 0,rl.reverse++ .any::List.replicate (O ops) .any,.below 0::l6⟩ (O rl.reverse) v):=λk hk =>
  iQ (m:=0) (l2:=N9) eM hm (by simp_all [D7]) (Nat.zero_le _) (by simp_all [C9]) iZ (by exact hc k hk) rfl
 refine Rx.step (N1:=d8) (rs:=[]) rfl rfl (λk hk=>?_) (λrs=>?_) (h2.to hn)
 all_goals simp_all [x8,y6,B4,F6.B3,if_true,C7,aJ,s6,D5,put,J4,List.drop_zero,List.nil_append,F3,Touch.F1]
def Tc {f:FuncId}{x:A4}{xs:List A4}{first caps:List c7}{u:List Nat}{v:c7}{args:List c7}(hc:Pf A f args v)(h2:Ry A l b dr j8 ops T H (n+1) (v::rl) (.below 0::l6) Q)(hx:rq T n rl x= .func f first caps:=by rfl)(ha:first++xs.map (rq T n rl)++caps=args:=by rfl)(hb:A2 args=0:=by rfl)(eM:A.prom f=F:=by rfl)(hm:A.mode f=0:=by rfl)
  (iZ:(⟨l.Fe,l.Fc,0,B1 H l.strict 0⟩:G9)=N9:=by rfl):Ry A l b dr j8 (⟨.bV x xs,K,K,u⟩::ops) T H n rl l6 Q:=λhn=>by
 obtain ⟨d8,hc⟩:=hc;have h3:∀k,d8<=k->B9 (I9 A k l b) (O rl.reverse) f args ⟨T,H,rl.reverse++ .any::List.replicate (O ops) .any,l6⟩=J (put ⟨T,[]++H.drop 0,rl.reverse++ .any::List.replicate (O ops) .any,.below 0::l6⟩ (O rl.reverse) v):=λk hk =>
  iQ (m:=0) (l2:=N9) eM hm (by simp_all [D7]) (Nat.zero_le _) (by simp_all [C9]) iZ (by exact hc k hk) rfl
 refine Rx.step (N1:=d8) (rs:=[]) rfl rfl (λk hk=>?_) (λrs=>?_) (h2.to hn)
 all_goals simp_all [x8,y6,B4,F6.B3,if_true,C7,M5,aJ,s6,D5,put,J4,List.drop_zero,List.nil_append,F3,Touch.F1]
def al3 {f:FuncId}{xs:List A4}{u:List Nat}{z n0:Nat}{cs:List Data}{args:List c7}{s:Nat}{T2:List c7}(hc:Pf A f args (.own z n0 cs))(ha:xs.map (rq T n rl)=args:=by rfl)(eM:A.prom f=F:=by rfl)(hm:A.mode f=1:=by rfl)
  (hb:A2 args=0:=by rfl) (hs:T[s]?.isSome=W:=by rfl) (hT:T.set s (.own z n0 cs)=T2:=by simp only [List.set_cons_zero,List.set_cons_succ]<;>rfl)
  (h2:Ry A l b dr j8 ops T2 H (n+1) (.d (.slice n0 cs)::rl) (.slot s::l6) Q):Ry A l b dr j8 (⟨.call f xs,J s,K,u⟩::ops) T H n rl l6 Q:=λhn=>by
 obtain ⟨d8,hc⟩:=hc;have hs:s<O T:=by
  simp_all
 have h2:=h2.to hn;refine Rx.step (N1:=d8) (rs:=[]) rfl rfl (λk hk=>?_) (cA s l6) h2;have h3:B9 (I9 A k l b) (O rl.reverse) f args ⟨T,H,rl.reverse++ .any::List.replicate (O ops) .any,l6⟩=J (put ⟨T,H,rl.reverse++ .any::List.replicate (O ops) .any,l6⟩ (O rl.reverse) (.own z n0 cs)) :=
  aU eM hm hb (hc k hk)
 have Vo :xs.map (z6.F7 T (rl.reverse++ .any::List.replicate (O ops) .any))=args:=by
  rw [show z6.F7 T (rl.reverse++ .any::List.replicate (O ops) .any)=rq T n rl from funext λx=>M5 hn _ x];exact ha
 have h5:z6.E9 ⟨T,H,rl.reverse++ .own z n0 cs::List.replicate (O ops) .any,l6⟩ (.loc (O rl.reverse))=(.own z n0 cs,⟨T,H,rl.reverse++ .d (.slice n0 cs)::List.replicate (O ops) .any,l6⟩):=by
  simp_all [z6.E9]
 simp_all [x8,y6,B4,F6.B3,if_true,C7,s6,D5,put,J4]
def au2 {k:Nat}{cs:List Data}{x:A4}{u:List Nat}{s:Nat}{T2:List c7}(hx:rq T n rl x= .d (.slice k cs):=by rfl)(hs:T[s]?.isSome=W:=by rfl)(hT:T.set s (.d (.int .i64 k))=T2:=by simp only [List.set_cons_zero,List.set_cons_succ]<;>rfl)
  (h2:Ry A l b dr j8 ops T2 H (n+1) (.d (.int .i64 k)::rl) (.slot s::l6) Q):Ry A l b dr j8 (⟨.len x,J s,K,u⟩::ops) T H n rl l6 Q :=
 Ry.oQ (v:= .d (.int .i64 k)) (rs:=[]) rfl (by grind [l5,i64]) rfl rfl hs M
def Lg {sz len:Nat}{zero:List c7}{parts:List (Nat×Nat×A4)}(cs:List Data){u:List Nat}(h2:Ry A l b dr j8 ops T H (n+1) (.own sz len cs::rl) l6 Q)(hr:U2 zero (parts.map λp=>(p.1,p.2.1,rq T n rl p.2.2))=J (cs.map .d):=by rfl)(hl:O cs=len * sz:=by rfl)(h0:Nat.ble 1 sz=W:=by rfl) :
  Ry A l b dr j8 (⟨.N5 sz len zero parts F,K,K,u⟩::ops) T H n rl l6 Q:=by
 have h0' :=j5 h0;refine Ry.pure (rs:=[]) rfl ?_ h2;have hr' :U2 zero (parts.map λx=>match x with|(o,s,x)=>(o,s,rq T n rl x))=J (cs.map .d):=hr;simp [l5,hr',cg,hl]
 grind
def owS {j s d z n0 n' :Nat}{cs cs' :List Data}{u u' :List Nat}{d' :Option Nat}{g' :Option (Nat×Bool)}{T2:List c7}(h2:Ry A l b dr j8 ops T2 H (n+1) (.d (.slice n0 cs)::rl) (.slot d:: .slot s::l6) Q)
  (hj:lk n rl j=J (.d (.slice n' cs')):=by rfl) (ha:j8[j]? =J ⟨.dV (.slot s),d',g',u'⟩:=by rfl) (ht:l6.any (Touch.Q6 s)=F:=by rfl) (hT:T[s]? =J (.own z n0 cs):=by rfl)
  (hs:T[d]?.isSome=W:=by rfl) (hT2:(T.set s (.d (.slice n0 cs))).set d (.own z n0 cs)=T2:=by simp only [List.set_cons_zero,List.set_cons_succ]<;>rfl) :
  Ry A l b dr j8 (⟨.own z (.loc j),J d,K,u⟩::ops) T H n rl l6 Q:=λhn=>by
 have hj' :rl.reverse[j]? =J (.d (.slice n' cs')):=by simp_all [aT]
 have hjl:j<O rl.reverse:=by
  grind
 have hs' :d<O (T.set s (.d (.slice n0 cs))):=by
  simp_all
 have hL:∀r:List c7,(rl.reverse++ .any::r)[j]? =J (.d (.slice n' cs')):=λr=>by grind
 have h2:=h2.to hn;rw [<- hT2] at h2;refine Rx.step (N1:=0) (rs:=[]) rfl rfl (λk _=>?_) (λrs=>?_) h2
 .have h5:z6.E9 ⟨T.set s (.d (.slice n0 cs)),H,rl.reverse++ .own z n0 cs::List.replicate (O ops) .any,.slot s::l6⟩ (.loc (O rl.reverse))=(.own z n0 cs,⟨T.set s (.d (.slice n0 cs)),H,rl.reverse++ .d (.slice n0 cs)::List.replicate (O ops) .any,.slot s::l6⟩):=by
   simp_all [z6.E9]
  simp only [x8,y6,B4,F6.B3,if_true,C7,P4,hL,ha,X6,ht,hT,j6,if_false,put,J4,s6,D5,hs',h5]
 .have:O l6+1+1 - O l6=2:=V
  simp [F3,this,Touch.F1]
def moT {s d z n0:Nat}{cs:List Data}{u:List Nat}{T2:List c7}(hx:T[s]? =J (.own z n0 cs):=by rfl)(hs:T[d]?.isSome=W:=by rfl)(hT:T.set d (.d (.slice n0 cs))=T2:=by simp only [List.set_cons_zero,List.set_cons_succ]<;>rfl)
  (h2:Ry A l b dr j8 ops T2 H (n+1) (.d (.slice n0 cs)::rl) (.slot d::l6) Q):Ry A l b dr j8 (⟨.dV (.slot s),J d,K,u⟩::ops) T H n rl l6 Q:=λhn=>by
 have hs' :d<O T:=by
  simp_all
 have h2:=h2.to hn;refine Rx.step (N1:=0) (rs:=[]) rfl rfl (λk _=>?_) (cA d l6) h2;have e1:∀r,z6.E9 ⟨T,H,r,l6⟩ (.slot s)=(.d (.slice n0 cs),⟨T,H,r,l6⟩):=λr=>by simp [z6.E9,z6.F7,hx,c7.I7]
 have h5:z6.E9 ⟨T,H,rl.reverse++ .d (.slice n0 cs)::List.replicate (O ops) .any,l6⟩ (.loc (O rl.reverse))=(.d (.slice n0 cs),⟨T,H,rl.reverse++ .d (.slice n0 cs)::List.replicate (O ops) .any,l6⟩):=by
  simp_all [z6.E9,z6.F7,c7.I7]
 simp_all [x8,y6,B4,F6.B3,j6,if_false,put,J4,s6,D5,if_true]
def Zy {α:Type}{enc:α->List Data}{xs:List α}(a:α){j k sz bytes id off:Nat}{y:A4}{u u' :List Nat}{d' :Option Nat}{g' :Option (Nat×Bool)}{n' :Nat}{cs' :List Data}{old new:List c7}{H2:k8}
  (hr:roomFor (O xs+1) bytes=W) (hy:rq T n rl y= .d (.slice 1 (enc a)):=by rfl) (hs:O (enc a)=1 * sz:=by rfl) (h0:Nat.ble 1 sz=W:=by rfl) (hj:lk n rl j=J (.d (.slice n' cs')):=by rfl) (ha:j8[j]? =J ⟨.load K (.loc k),d',g',u'⟩:=by rfl) (hk:lk n rl k=J (.ptr id off):=by rfl) (ht:l6.any (Touch.W2 id off)=F:=by rfl) (hl:l.may id=W:=by rfl) (ho:H[id]? =J (.cells old):=by rfl) (hc:old[off]? =J (A8 sz enc xs):=by rfl)
  (hN:old.set off (.d (x3 enc xs))=new:=by rfl) (hH:H.set id (.cells new)=H2:=by simp only [List.set_cons_zero,List.set_cons_succ]<;>rfl)
  (h2:Ry A l b dr j8 ops T H2 (n+1) (A8 sz enc (xs++[a])::rl) (.cell id off::l6) Q):Ry A l b dr j8 (⟨.append sz bytes F (.loc j) y,K,K,u⟩::ops) T H n rl l6 Q :=
 Ry.OX hj ha hk ht hl ho hc hy hs hr (j5 h0) (by
  have e1:A8 sz enc (xs++[a])= .own sz (O xs+1) (xs.flatMap enc++enc a):=by simp [A8]
  rw [e1] at h2;subst hH hN;exact h2)
end
end S
section
variable {A:Prog} {l:G9} {b:Nat} {T:List c7} {H:k8}
def Ex.J1 {mask:List Bool}{body:L2}{R:H9->St->Prop}(Inv:Nat->List c7->k8->Prop)
  (hb:∀k T' H',Inv k T' H' ->Ex A l b body ⟨T',H'⟩ (kJ R λs=>∃k',k' <k/\Inv k' (Q5 mask s.T) s.H)) {k:Nat} (h:Inv k (Q5 mask T) H)
  (hl:∀k T' H',Inv k T' H' ->O H'=O H:=by simp only [forall_exists_index,and_imp];intros;subst_vars;rfl):Ex A l b (.loop mask body) ⟨T,H⟩ R:=by
 refine Ex.loop (λk s=>Inv k (Q5 mask s.T) s.H) (λk s hs=>?_) (k:=k) h;obtain ⟨T',H'⟩:=s;rw [rC (hl k _ H' hs)];exact hb k _ H' hs
def Ex.Y1 {mask:List Bool}{body:L2}{R:H9->St->Prop}(Inv:Nat->List c7->k8->Prop)
  (hb:∀k T' H',Inv k T' H' ->Ex A l b body ⟨Q5 mask T',H'⟩ (kJ R λs=>∃k',k' <k/\Inv k' s.T s.H)) {k:Nat} (h:Inv k T H)
  (hl:∀k T' H',Inv k T' H' ->O H'=O H:=by simp only [forall_exists_index,and_imp];intros;subst_vars;rfl):Ex A l b (.loop mask body) ⟨T,H⟩ R:=Ex.gV Inv hl hb h
def Pf.go {f:FuncId}{af:p6}{args:List c7}{v:c7}{T:List c7}(n:Nat)(h:Ex A N9 0 af.body ⟨T,[]⟩ λx s=>∃w,T9 af 0 (J (x,s))=J (w,[])/\w=v)
  (hf:A.fn f=J af:=by rfl) (hp:A.bw f=K:=by rfl) (hn:O args=af.nparams:=by rfl)
  (hT:args++List.replicate n .any=T:=by simp only [List.replicate,List.cons_append,List.nil_append]<;>rfl) (hN:O af.names - O args=n:=by rfl):Pf A f args v :=
 Pf.run T hp hf hn (by rw [hN];exact hT) h
def Pf.gr {f:FuncId}{af:p6}{args:List c7}{v:c7}{T:List c7}{Δ:Prop}(n:Nat)(k:Δ)
  (hf:A.fn f=J af:=by rfl) (hp:A.bw f=K:=by rfl) (hn:O args=af.nparams:=by rfl)
  (hT:args++List.replicate n .any=T:=by simp only [List.replicate,List.cons_append,List.nil_append]<;>rfl) (hN:O af.names - O args=n:=by rfl)
  (h:PLift Δ->Ex A N9 0 af.body ⟨T,[]⟩ λx s=>∃w,T9 af 0 (J (x,s))=J (w,[])/\w=v:=by intro a8;(repeat' (first|refine gx ?_|fail));exact a8.down):Pf A f args v :=
 Pf.go n (h ⟨k⟩) hf hp hn hT hN
def kk {P:Nat->Prop}{k:Nat}(h:P (k - 1))(hk:k - 1<k:=by omega):∃k',k' <k/\P k' :=⟨_,hk,h⟩
def Pq.go {f:FuncId}{af:p6}{args:List c7}{H:k8}{Post:c7->k8->Prop}{T:List c7}(n:Nat)(h:Ex A l b af.body ⟨T,H⟩ λx s=>∃w H1,T9 af b (J (x,s))=J (w,H1)/\Post w H1)
  (hf:A.fn f=J af:=by rfl) (hp:A.bw f=K:=by rfl) (hn:O args=af.nparams:=by rfl) (hb:O H=b:=by rfl)
  (hT:args++List.replicate n .any=T:=by simp only [List.replicate,List.cons_append,List.nil_append]<;>rfl) (hN:O af.names - O args=n:=by rfl):Pq A f args H l Post :=
 Pq.run T hp hf hn hb (by rw [hN];exact hT) h
end
namespace S
def gy {Γ Δ:Prop}(k:Δ)(h:PLift Δ->Γ:=by intro a8;(first|refine gx ?_|refine Ex.nG ?_|refine Ex.pQ ?_|refine Ex.test (Rn.text ?_)|refine Ex.test (Rn.draw ?_)|fail);exact a8.down):Γ:=h ⟨k⟩
def fq {Γ Δ E p q:Prop}(k:p->Δ)(m:q->E)(h:PLift (p->Δ)->PLift (q->E)->Γ:=by intro a8 L;first|exact fk (h1:=a8.down) (h2:=L.down)|exact KG (h1:=a8.down) (h2:=L.down)|exact Ex.cond rfl a8.down L.down|exact ⟨_,rfl,a8.down,L.down⟩):Γ:=h ⟨k⟩ ⟨m⟩
def ft {Γ Δ E p q:Prop}(k:p->Δ)(m:q->E)(h:PLift (p->Δ)->PLift (q->E)->Γ:=by intro a8 L;first|exact Ex.cond rfl a8.down L.down|exact ⟨_,rfl,a8.down,L.down⟩):Γ:=h ⟨k⟩ ⟨m⟩
def gc {P Γ Δ:Prop}(p:P)(k:Δ)(h:PLift P->PLift Δ->Γ:=by intro p a8;(repeat' (first|refine cl (p.down ..) ?_|refine mN (p.down ..) ?_|refine cl (p.down.1 ..) ?_|refine cl (p.down.2 ..) ?_|refine mN (p.down.1 ..) ?_|refine mN (p.down.2 ..) ?_|refine cl (p.down.2.1 ..) ?_|refine cl (p.down.2.2 ..) ?_|refine mN (p.down.2.1 ..) ?_|refine mN (p.down.2.2 ..) ?_|refine gx ?_|fail));exact a8.down):Γ:=h ⟨p⟩ ⟨k⟩
section
variable {A:Prog} {l:G9} {b:Nat}
def tc {P:Prop}{ops:List x9}{draw:Bool}{c:A4}{d e:L2}{T:List c7}{H:k8}{Q:H9->St->Prop}(t:Bool)(p:P)(h2:t=W->Ex A l b d ⟨T,H⟩ Q)(h3:t=F->Ex A l b e ⟨T,H⟩ Q)
  (h:PLift P->Rn A l b ops draw T H λT' H' L=>T' =T/\H' =H/\∃t',F7 T' L c= .d (.bool t')/\t' =t:=by intro p;(first|refine Rn.text ?_|refine Rn.draw ?_|fail);(repeat' (first|refine cl (p.down ..) ?_|refine mN (p.down ..) ?_|refine cl (p.down.1 ..) ?_|refine cl (p.down.2 ..) ?_|refine mN (p.down.1 ..) ?_|refine mN (p.down.2 ..) ?_|refine cl (p.down.2.1 ..) ?_|refine cl (p.down.2.2 ..) ?_|refine mN (p.down.2.1 ..) ?_|refine mN (p.down.2.2 ..) ?_|refine gx ?_|refine fk (h1:=λhw=>?_) (h2:=λhw=>?_)|refine KG (h1:=λhw=>?_) (h2:=λhw=>?_)|refine ⟨rfl,rfl,_,rfl,?_⟩|refine ⟨rfl,rfl⟩|fail));all_goals exact cc) :
  Ex A l b (.test ops draw c d e) ⟨T,H⟩ Q:=Ex.dn t (h ⟨p⟩) h2 h3
def tl {ops:List x9}{draw:Bool}{c:A4}{d e:L2}{T:List c7}{H:k8}{Q:H9->St->Prop}(x y:Int)(h2:x<y->Ex A l b d ⟨T,H⟩ Q)(h3:y<=x->Ex A l b e ⟨T,H⟩ Q)
  (h:Rn A l b ops draw T H λT' H' L=>T' =T/\H' =H/\∃t',F7 T' L c= .d (.bool t')/\t' =D0 x y:=by (first|refine Rn.text ?_|refine Rn.draw ?_|fail);(repeat' (first|refine gx ?_|refine fk (h1:=λhw=>?_) (h2:=λhw=>?_)|refine KG (h1:=λhw=>?_) (h2:=λhw=>?_)|refine ⟨rfl,rfl,_,rfl,?_⟩|refine ⟨rfl,rfl⟩|fail));all_goals exact cc) :
  Ex A l b (.test ops draw c d e) ⟨T,H⟩ Q:=Ex.dn (D0 x y) h (λh=>h2 (A5 h)) λh=>h3 (A9 h)
end
end S
def jA (op:Int):Int :=
 if s7 op 1||s7 op 2 then 0 else if s7 op 3||s7 op 9||s7 op 13||s7 op 16 then 1 else if s7 op 18 then 3 else if U4 1 op&&U4 op 18 then 2 else -1
def fA (k n:Int)(s:I4):Bool :=
 if s7 k 0 then s7 n 0&&K7 s [] else if s7 k 1 then U4 (-4294967296) n&&U4 n 4294967296&&K7 s [] else if s7 k 2 then s7 n 0&&U4 (O s) 32 else F
def zeroV (t:Q9):Bool:=s7 t.kind 0&&s7 t.int 0&&K7 t.text []
def bG (t:Q9):Bool :=
 if s7 t.op 1 then fA t.kind t.int t.text&& !s7 t.kind 0&&s7 t.col 0 else if s7 t.op 2 then zeroV t&&U4 0 t.col else zeroV t&&s7 t.col 0
def uO (t:Q9):Bool:= !D0 (jA t.op) 0&&bG t
def mI (op:Int):jA op<=3:=by
 grind [jA]
inductive Y9 where
 |node (t:Q9) (l:List Y9)
mutual
def Y9.flat:Y9->List Q9
 | .node t l=>t::K9 l
def K9:List Y9->List Q9
 |[]=>[]
 |a::l=>a.flat++K9 l
end
mutual
def Y9.dep:Y9->Nat
 | .node _ l=>jG l+1
def jG:List Y9->Nat
 |[]=>0
 |a::l=>max a.dep (jG l)
end
mutual
def Y9.wf:Y9->Prop
 | .node t l=>uO t=W/\(jA t.op).toNat=O l/\OT l
def OT:List Y9->Prop
 |[]=>True
 |a::l=>a.wf/\OT l
end
def cT (f:List Q9->Option (Y9×List Q9)):Nat->List Q9->Option (List Y9×List Q9)
 |0,r=>J ([],r)
 |k+1,r=>match f r with
  |none=>K
  |some (a,r')=>match cT f k r' with
   |none=>K
   |some (l,r2)=>J (a::l,r2)
def L6:Nat->List Q9->Option (Y9×List Q9)
 |0,_=>K
 |_+1,[]=>K
 |d+1,t::r=>if uO t then match cT (L6 d) (jA t.op).toNat r with
   |none=>K
   |some (l,r')=>J (.node t l,r')
  else K
theorem wC {f:List Q9->Option (Y9×List Q9)}{d:Nat}(hf:∀r a r',f r=J (a,r')->r=a.flat++r' /\a.wf/\a.dep<=d):∀(k:Nat) (r:List Q9) (l:List Y9) (r' :List Q9),cT f k r=J (l,r')->r=K9 l++r' /\OT l/\jG l<=d/\O l=k
 |0,r,l,r',h=>by
  simp_all [cT,Option.some.injEq,Prod.mk.injEq,K9,OT,jG]
 |k+1,r,l,r',h=>by
  simp [cT] at h;split at h
  .cases h
  next a r1 h1=>
   split at h
   .cases h
   next l2 r2 h2=>
    obtain ⟨rfl,rfl⟩:=h;obtain ⟨e1,e2,e3⟩:=hf _ _ _ h1;obtain ⟨g1,g2,g3,g4⟩:=wC hf k _ _ _ h2;refine ⟨?_,⟨e2,g2⟩,?_,by simp [g4]⟩
    all_goals grind [K9,jG]
theorem R1:∀(d:Nat) (r:List Q9) (a:Y9) (r' :List Q9),L6 d r=J (a,r')->r=a.flat++r' /\a.wf/\a.dep<=d
 |0,r,a,r',h=>by simp [L6] at h
 |d+1,[],a,r',h=>by simp [L6] at h
 |d+1,t::r,a,r',h=>by
  simp only [L6] at h;split at h
  next ht=>
   split at h
   .cases h
   next l r1 h1=>
    obtain ⟨rfl,rfl⟩:=h;obtain ⟨g1,g2,g3,g4⟩:=wC (R1 d) _ _ _ _ h1;refine ⟨?_,⟨ht,g4.symm,g2⟩,?_⟩
    all_goals simp_all [Y9.flat,Y9.dep]
  .cases h
mutual
theorem U8:∀(a:Y9) (d:Nat) (r:List Q9),a.wf->a.dep<=d->L6 d (a.flat++r)=J (a,r)
 | .node t l,0,r,_,h=>by simp [Y9.dep] at h
 | .node t l,d+1,r,hw,h=>by
  simp [Y9.dep] at h;obtain ⟨h1,h2,h3⟩:=hw;have h4:=nN l d r h3 V;simp_all [Y9.flat,List.cons_append,L6,if_true]
theorem nN:∀(l:List Y9) (d:Nat) (r:List Q9),OT l->jG l<=d->cT (L6 d) (O l) (K9 l++r)=J (l,r)
 |[],d,r,_,_=>by rfl
 |a::l,d,r,hw,h=>by
  simp [jG] at h;have h1:=U8 a d (K9 l++r) hw.1 V;have h2:=nN l d r hw.2 V;simp_all [K9,F5,List.length_cons,cT]
end
mutual
theorem lE:∀a:Y9,a.dep<=O a.flat
 | .node t l=>by
  have:=zw l;simp_all [Y9.dep,Y9.flat,List.length_cons]
theorem zw:∀l:List Y9,jG l<=O (K9 l)
 |[]=>by simp [jG]
 |a::l=>by
  have h1:=lE a;have h2:=zw l
  grind [jG,K9,List.length_append]
end
def gp (a:Y9):0<O a.flat:=by
 cases a;simp [Y9.flat]
theorem rH:∀l:List Y9,O l<=O (K9 l)
 |[]=>U
 |a::l=>by
  have:=gp a;have:=rH l
  grind [K9,List.length_append,List.length_cons]
def By {d d' :Nat}{r:List Q9}(h:O r<=d)(h' :O r<=d'):L6 d r=L6 d' r:=by
 cases h1:L6 d r with
 |some p =>
  obtain ⟨a,r'⟩:=p;obtain ⟨e,w,_⟩:=R1 d r a r' h1
  grind [lE,U8]
 |none =>
  cases h2:L6 d' r with
  |none=>rfl
  |some p =>
   obtain ⟨a,r'⟩:=p;obtain ⟨e,w,_⟩:=R1 d' r a r' h2
   grind [lE,U8]
def fu (op:Int)(t:List Int):Int :=
 if s7 op 3||s7 op 13 then (if s7 (Y t 0) 1 then 1 else 0)
 else if s7 op 8 then (if s7 (Y t 0) 2&&s7 (Y t 1) 2 then 2 else 0)
 else if s7 op 9 then (if s7 (Y t 0) 2 then 1 else 0)
 else if s7 op 10 then (if s7 (Y t 0) 2&&s7 (Y t 1) 1 then 2 else 0)
 else if s7 op 11||s7 op 12 then (if s7 (Y t 0) (Y t 1) then 1 else 0)
 else if s7 op 16 then 1
 else if s7 op 17 then (if s7 (Y t 0) (Y t 1) then Y t 0 else 0)
 else if s7 op 18 then (if s7 (Y t 0) 1&&s7 (Y t 1) (Y t 2) then Y t 1 else 0)
 else (if s7 (Y t 0) 1&&s7 (Y t 1) 1 then 1 else 0)
def xM (ty:List Int)(t:Q9)(ts:List Int):Int×Int :=
 if s7 t.op 1 then (t.kind,0) else if s7 t.op 2 then (if U4 (O ty) t.col then (0,3) else (Y ty t.col.toNat,0))
 else if s7 (fu t.op ts) 0 then (0,5) else (fu t.op ts,0)
mutual
def Y9.typ (ty:List Int):Y9->Int×Int
 | .node t l=>if s7 (eU ty l).2 0 then xM ty t (eU ty l).1 else (0,(eU ty l).2)
def eU (ty:List Int):List Y9->List Int×Int
 |[]=>([],0)
 |a::l=>if s7 (a.typ ty).2 0 then ((a.typ ty).1::(eU ty l).1,(eU ty l).2) else ([],(a.typ ty).2)
end
def aR (ty:List Int):Bool:=ty.all λt=>s7 t 1||s7 t 2
def ek (e:List Q9):Option Y9:=if U4 1 (O e)&&U4 (O e) 64 then match L6 16 e with
  |some (a,[])=>J a
  |_=>K
 else K
def K4 (e:List Q9)(ty:List Int):Int×Int:=match ek e with
 |none=>(0,1)
 |some a=>if aR ty then a.typ ty else (0,1)
def uN {α:Type} [Inhabited α] (i:Nat):Y ([]:List α) i=default:=by simp [Y]
def BF (ty:List Int)(t:Q9)(a b c:Int):Int×Bool :=
 if s7 t.op 1 then (t.kind,W) else if s7 t.op 2 then (Y ty t.col.toNat,W)
 else if s7 t.op 3||s7 t.op 13 then (1,s7 a 1)
 else if s7 t.op 8 then (2,s7 a 2&&s7 b 2)
 else if s7 t.op 9 then (1,s7 a 2)
 else if s7 t.op 10 then (2,s7 a 2&&s7 b 1)
 else if s7 t.op 11||s7 t.op 12 then (1,s7 a b)
 else if s7 t.op 16 then (1,W)
 else if s7 t.op 17 then (a,s7 a b)
 else if s7 t.op 18 then (b,s7 a 1&&s7 b c)
 else (1,s7 a 1&&s7 b 1)
def good (x:Int):Prop:=x=1\/x=2
def DT {l:List Int}(h:∀x,x∈l->good x){i:Nat}(hn:Y l i≠0):good (Y l i):=by
 simp_all [Y]<;>grind
theorem FP {ty:List Int}(h:aR ty=W):∀x,x∈ty->good x:=by
 intro x hx;have:=List.all_eq_true.1 h x hx;simp_all [o6,good]
def EV {op:Int}{ts:List Int}(h:∀x,x∈ts->good x)(hn:fu op ts≠0):good (fu op ts):=by
 unfold fu at hn ⊢;split
 .rename_i h1;rw [if_pos h1] at hn;split at hn<;>simp_all [good]
 rename_i h1;rw [if_neg h1] at hn;split
 .rename_i h1;rw [if_pos h1] at hn;split at hn<;>simp_all [good]
 rename_i h1;rw [if_neg h1] at hn;split
 .rename_i h1;rw [if_pos h1] at hn;split at hn<;>simp_all [good]
 rename_i h1;rw [if_neg h1] at hn;split
 .rename_i h1;rw [if_pos h1] at hn;split at hn<;>simp_all [good]
 rename_i h1;rw [if_neg h1] at hn;split
 .rename_i h1;rw [if_pos h1] at hn;split at hn<;>simp_all [good]
 rename_i h1;rw [if_neg h1] at hn;split
 .exact Or.inl rfl
 rename_i h1;rw [if_neg h1] at hn;split
 .rename_i h1;rw [if_pos h1] at hn
  split at hn
  .rename_i h2;rw [if_pos h2];exact DT h hn
  .exact absurd rfl hn
 rename_i h1;rw [if_neg h1] at hn;split
 .rename_i h1;rw [if_pos h1] at hn
  split at hn
  .rename_i h2;rw [if_pos h2];exact DT h hn
  .exact absurd rfl hn
 rename_i h1;rw [if_neg h1] at hn;split at hn<;>simp_all [good]
mutual
theorem EU {ty:List Int}(nM:aR ty=W):∀a:Y9,a.wf->s7 (a.typ ty).2 0=W->good (a.typ ty).1
 | .node t l,hw,h=>by
  obtain ⟨hok,Vp,Fg⟩:=hw;simp [Y9.typ] at h ⊢;split
  .have hl:=sB nM l Fg
   simp [xM] at h ⊢;split
   next h2=>
    simp [uO,bG,h2,if_true,Bool.and_eq_true] at hok;have h3:=hok.2.1.1;unfold fA at h3
    grind [good,W9]
   .split
    .split
     .simp_all [if_pos,o6]
     next h4=>
      have h5:=nO (Bool.not_eq_true _ ▸ h4);have h6:0<=t.col:=by
       simp_all [uO,bG,if_true,j6,if_false,Bool.and_eq_true,gU]
      grind [FP,E7]
    .split
     all_goals simp_all [if_pos,o6,EV]
  simp_all
theorem sB {ty:List Int}(nM:aR ty=W):∀l:List Y9,OT l->∀x,x∈(eU ty l).1->good x
 |[],_,x,h=>by simp [eU] at h
 |a::l,hw,x,h=>by
  simp [eU] at h;split at h
  next h1=>
   rcases K2.1 h with rfl|h
   .exact EU nM a hw.1 h1
   .exact sB nM l hw.2 x h
  .cases h
end
def Rk {ty:List Int}{t:Q9}{ts:List Int}(hts:∀x,x∈ts->good x)(hc:s7 t.op 2=W->U4 (O ty) t.col=F)
  (h17:s7 t.op 17=W->0<O ts) (h18:s7 t.op 18=W->1<O ts) :
  xM ty t ts=if (BF ty t (Y ts 0) (Y ts 1) (Y ts 2)).2 then ((BF ty t (Y ts 0) (Y ts 1) (Y ts 2)).1,0) else (0,5):=by
 unfold xM BF;cases d1:s7 t.op 1 with
 |true=>rfl
 |false =>
 cases d2:s7 t.op 2 with
 |true=>simp_all
 |false =>
 have z1:s7 1 0=F:=by simp [o6]
 have z2:s7 2 0=F:=by simp [o6]
 have z0:s7 0 0=W:=by simp [o6]
 have sel:∀(b:Bool) (x:Int),(b=W->s7 x 0=F)->(if s7 (if b=W then x else 0) 0=W then ((0:Int),(5:Int)) else (if b=W then x else 0,0))=if b=W then (x,0) else (0,5):=by
  simp_all
 have gz:∀{i:Nat},i<O ts->s7 (Y ts i) 0=F:=λ{i} hi=>by
  grind [E7,good,o6]
 unfold fu;cases c1:(s7 t.op 3||s7 t.op 13) with
 |true=>grind
 |false =>
 cases c2:s7 t.op 8 with
 |true=>grind
 |false =>
 cases c3:s7 t.op 9 with
 |true=>grind
 |false =>
 cases c4:s7 t.op 10 with
 |true=>grind
 |false =>
 cases c5:(s7 t.op 11||s7 t.op 12) with
 |true=>grind
 |false =>
 cases c6:s7 t.op 16 with
 |true=>simp [z1]
 |false =>
 grind
open List
theorem dJ (a b:C8):pI a b<0↔a.1<b.1\/(a.1=b.1/\a.2<b.2):=by
 grind [pI,aV]
theorem Ik (a b:C8):(!decide (pI b a<0))=W↔a.1<b.1\/(a.1=b.1/\a.2<=b.2):=by
 simp [Bool.not_eq_true',decide_eq_false_iff_not,dJ];omega
def gI (l:List C8):(sortP l).Perm l:=kf _ _
def rU {l:List C8}{p:C8}:p∈sortP l↔p∈l:=(gI l).mem_iff
def Y6 (l:List C8):O (sortP l)=O l:=(gI l).length_eq
def Ey {l:List C8}(h:l.Nodup):(sortP l).Nodup:=(gI l).nodup_iff.2 h
def xx (l:List C8):(sortP l).Pairwise λa b=>(!decide (pI b a<0))=W :=
 (qM (λa b c h1 h2=>by rw [dJ] at *;omega) (λa b h=>by grind [dJ]) l).imp λh=>by simpa using h
def nR {l m:List C8}(h:l.Perm m):sortP l=sortP m:=by
 refine ((gI l).trans (h.trans (gI m).symm)).eq_of_pairwise (λa b _ _ h1 h2=>?_) (xx l) (xx m)
 grind [Ik,Prod.ext]
def sj (fs:List D8)(l:List C8):List C8:=sortP (yS fs l)
end Go.z6
namespace Go.z6
section
variable {α:Type} [Inhabited α] {enc:α->List Data} {sz:Nat} {H:k8} {id:Nat} {xs:List α}
def Gx (hs:∀a,O (enc a)=sz)(h:H[id]? =J (.cells ((xs.flatMap enc).map .d))){i:Nat}(hi:i<O xs):rd H id (0+i * sz) sz=J ((enc (Y xs i)).map .d):=by
 have h1:i * sz+sz<=O xs * sz:=by rw [<- Nat.succ_mul];exact F8 _ hi
 simp [rd,h,List.length_map,W4 hs,Nat.zero_add,if_true];rw [<- List.map_drop,<- List.map_take,iT hs,C5 hi];simp_all
def GO (hs:∀a,O (enc a)=sz){ys zs:List α}{z:α}(h:H[id]? =J (.cells (((ys++z::zs).flatMap enc).map .d)))(x:α) :
  wr H id (0+O ys * sz) ((enc x).map .d)=J (H.set id (.cells (((ys++x::zs).flatMap enc).map .d))):=by
 have l1:O ((ys.flatMap enc).map c7.d)=O ys * sz:=by rw [List.length_map,W4 hs]
 have l2:O ((enc z).map c7.d)=sz:=M
 have l3:O ((enc x).map c7.d)=sz:=M
 simp_all [wr,Nat.zero_add,splice,if_pos,List.length_append,List.take_left,List.drop_append,List.drop_eq_nil_of_le,List.drop_left]
end
namespace S
section
variable {A:Prog} {l:G9} {b:Nat} {dr:Bool} {j8 ops:List x9} {T:List c7} {H:k8} {n:Nat} {rl:List c7} {l6:List Touch} {Q:List c7->k8->List c7->Prop}
def Uc {x:A4}{u:List Nat}{id sz lo len:Nat}(h2:Ry A l b dr j8 ops T H (n+1) (.d (.int .i64 (len:Int))::rl) l6 Q)(hx:rq T n rl x= .s5 id sz lo len:=by rfl):Ry A l b dr j8 (⟨.len x,K,K,u⟩::ops) T H n rl l6 Q :=
 Ry.pure (rs:=[]) rfl (by grind [l5,i64]) h2
def svr {x y:A4}{u:List Nat}{id sz lo len i:Nat}{k:IntKind}(hi:i<len)(h2:Ry A l b dr j8 ops T H (n+1) (.s5 id sz (lo+i * sz) (len - i)::rl) l6 Q)(hx:rq T n rl x= .s5 id sz lo len:=by rfl)(hy:rq T n rl y= .d (.int k ((i:Nat):Int)):=by rfl) :
  Ry A l b dr j8 (⟨.bP sz x (J y) K,K,K,u⟩::ops) T H n rl l6 Q :=
 Ry.pure (rs:=[]) rfl (by
  grind [l5,T4]) h2
def svf {x y:A4}{u:List Nat}{id sz lo len i:Nat}{k:IntKind}(hi:i<=len)(h0:0<i)(h2:Ry A l b dr j8 ops T H (n+1) (.s5 id sz lo i::rl) l6 Q)(hx:rq T n rl x= .s5 id sz lo len:=by rfl)(hy:rq T n rl y= .d (.int k ((i:Nat):Int)):=by rfl) :
  Ry A l b dr j8 (⟨.bP sz x K (J y),K,K,u⟩::ops) T H n rl l6 Q :=
 Ry.pure (rs:=[]) rfl (by
  grind [l5,T4]) h2
def clS {x:A4}{u:List Nat}{id sz lo len:Nat}{zero:List c7}{H2:k8}(hw:wr H id lo ((List.replicate len zero).flatten)=J H2)(h2:Ry A l b F j8 ops T H2 (n+1) (.tuple []::rl) (.obj id::l6) Q)(hx:rq T n rl x= .s5 id sz lo len:=by rfl)(hz:O zero=sz:=by rfl)(hb:A2 zero=0:=by rfl)(hl:l.may id=W:=by rfl) :
  Ry A l b F j8 (⟨.clear sz zero x,K,K,u⟩::ops) T H n rl l6 Q:=λhn=>by
 refine Rx.stepT (N1:=0) (rs:=[]) rfl (λk _=>?_) (h2.to hn);simp_all [I9,x8,y6,B4,F6.B3,if_true,C7,M5,U5,and_self,put,J4,s6,D5]
end
end S
section
variable {A:Prog} {l:G9} {b:Nat}
variable {j8 ops:List x9} {T:List c7} {H:k8} {n:Nat} {rl:List c7} {l6:List Touch} {na nb:Nat} {Q:List c7->k8->List c7->Prop}
namespace S
end S
end
section
variable {A:Prog} {l:G9} {b:Nat}
variable {j8 ops:List x9} {T:List c7} {H:k8} {n:Nat} {rl:List c7} {l6:List Touch} {na:Nat} {lg:List dA} {Q:List c7->k8->List c7->Prop}
def Rl (A:Prog)(l:G9)(b:Nat)(j8 ops:List x9)(T:List c7)(H:k8)(n:Nat)(rl:List c7)(l6:List Touch)(na:Nat)(lg:List dA)(Q:List c7->k8->List c7->Prop):Prop :=
 O rl=n->∃r N,Q r.T r.H r.L/\∀k,N<=k->∃Qf,M8 (I9 A k l b) j8 ops n na ⟨T,H,rl.reverse++List.replicate (O ops) .any,l6⟩=J (r,Qf)/\br j8 (lg.reverse++Qf)=W
theorem Rn.XD {T:List c7}{H:k8}(H' :k8)(l6:List Touch)(h:Rl A l b ops ops T H' 0 [] l6 (O H) [] Q)(hH:H++T5 ops=H' :=by rfl)(hs:slotsOf ops=l6:=by rfl):Rn A l b ops W T H Q:=by
 obtain ⟨r,N,hq,h⟩:=h rfl;refine ⟨r,N,hq,λn hn=>?_⟩
 grind [P7]
def Rl.step {i:x9}{T' :List c7}{H' :k8}{v:c7}{X1 :List Touch}{rs:List Nat}{N1:Nat}{e:dA}(hk:∀L,F9 ⟨T,H,L,l6⟩ i.op=F)
  (h:O rl=n->∀k,N1<=k->x8 (I9 A k l b) j8 (if i.op.y3 then J na else K) n i ⟨T,H,rl.reverse++ .any::List.replicate (O ops) .any,l6⟩=J (⟨T',H',rl.reverse++v::List.replicate (O ops) .any,X1⟩,rs))
  (he:O rl=n->∀k,T6 (I9 A k l b) i (if i.op.y3 then J na else K) ⟨T,H,rl.reverse++ .any::List.replicate (O ops) .any,l6⟩ ⟨T',H',rl.reverse++v::List.replicate (O ops) .any,X1⟩ rs=e)
  (h2:Rl A l b j8 ops T' H' (n+1) (v::rl) X1 (if i.op.y3 then na+1 else na) (e::lg) Q):Rl A l b j8 (i::ops) T H n rl l6 na lg Q:=λhn=>by
 obtain ⟨r,N,hq,h2⟩:=h2 (by simp [hn]);refine ⟨r,max N N1,hq,λk hkk=>?_⟩;obtain ⟨Qf,e1,e2⟩:=h2 k V
 grind [M8,I9,List.replicate,fD]
def jq (hn:O rl=n)(a v:c7)(r:List c7):(rl.reverse++a::r).set n v=rl.reverse++v::r:=M
def Rl.simple {i:x9}{v:c7}{rs:List Nat}(ha:i.op.y3=F)(hk:∀L,F9 ⟨T,H,L,l6⟩ i.op=F)(hs:∀k st,G8 (I9 A k l b) st i.op=0)
  (h:O rl=n->∀k,x8 (I9 A k l b) j8 K n i ⟨T,H,rl.reverse++ .any::List.replicate (O ops) .any,l6⟩=J (⟨T,H,rl.reverse++v::List.replicate (O ops) .any,l6⟩,rs))
  (h2:Rl A l b j8 ops T H (n+1) (v::rl) l6 na (⟨rs,[],0,0⟩::lg) Q):Rl A l b j8 (i::ops) T H n rl l6 na lg Q :=
 Rl.step (N1:=0) (e:=⟨rs,[],0,0⟩) hk (λhn k _=>by rw [ha];exact h hn k) (λ_ k=>by simp_all [T6,Y3]) M
namespace S
def yn (h:Q T H rl.reverse)(hl:br j8 lg.reverse=W):Rl A l b j8 [] T H n rl l6 na lg Q:=λ_=>⟨⟨T,H,rl.reverse,l6⟩,0,h,λ_ _=>⟨[],by simp [M8],M⟩⟩
def yp {op:F6}{u:List Nat}{rs:List Nat}(v:c7)(hp:l5 (rq T n rl) H op=J (v,rs))(h2:Rl A l b j8 ops T H (n+1) (v::rl) l6 na (⟨rs,[],0,0⟩::lg) Q)(hE:op.B3=F:=by rfl)
  (ha:op.y3=F:=by rfl) (hk:∀L,F9 ⟨T,H,L,l6⟩ op=F:=by intro;rfl) (hs:∀k st,G8 (I9 A k l b) st op=0:=by intros;rfl):Rl A l b j8 (⟨op,K,K,u⟩::ops) T H n rl l6 na lg Q:=by
 refine Rl.simple (rs:=rs) ha hk hs (λhn k=>?_) h2;have Mn:∀x,op≠ .dV x:=by
  rintro x rfl;simp [l5] at hp
 have h4:l5 (z6.F7 T (rl.reverse++ .any::List.replicate (O ops) .any)) H op=J (v,rs):=by
  rw [show z6.F7 T (rl.reverse++ .any::List.replicate (O ops) .any)=rq T n rl from funext λx=>M5 hn _ x];exact hp
 have h3:B4 (I9 A k l b) j8 K n op ⟨T,H,rl.reverse++ .any::List.replicate (O ops) .any,l6⟩=J (⟨T,H,rl.reverse++v::List.replicate (O ops) .any,l6⟩,rs):=by
  cases op<;>first
   |exact absurd rfl (Mn _)
   |(simp only [B4,hE,j6,if_false,h4,put,jq hn];done)
   |(simp [F6.B3] at hE;done)
 simp only [x8,y6,h3,s6,D5]
def ym {x:A4}{u:List Nat}{v:c7}(h2:Rl A l b j8 ops T H (n+1) (v::rl) l6 na (⟨[],[],0,0⟩::lg) Q)(hx:Oq T n rl x v:=by exact ⟨rfl,rfl⟩):Rl A l b j8 (⟨.dV x,K,K,u⟩::ops) T H n rl l6 na lg Q:=by
 refine Rl.simple (rs:=[]) rfl (λ_=>rfl) (λ_ _=>rfl) (λhn k=>?_) h2;simp [x8,y6,B4,F6.B3,j6,if_false,(hx.op hn).E9,put,jq hn,s6,D5]
theorem yb {sz len:Nat}{zero:List c7}{ps:List (Nat×Nat×A4)}{u:List Nat}{cs:List c7}{H2:k8}(hr:U2 zero (ps.map λp=>(p.1,p.2.1,rq T n rl p.2.2))=J cs)(hl:0<sz/\O cs=len * sz)
  (h2:Rl A l b j8 ops T H2 (n+1) (.s5 na sz 0 len::rl) l6 (na+1) (⟨[],[.obj na],0,na⟩::lg) Q) (hH:H.set na (.cells cs)=H2:=by rfl):Rl A l b j8 (⟨.N5 sz len zero ps W,K,K,u⟩::ops) T H n rl l6 na lg Q:=by
 refine Rl.step (N1:=0) (rs:=[]) (λ_=>rfl) (λhn k _=>?_) (λ_ k=>?_) h2
 .have hr' :U2 zero (ps.map λx=>match x with|(o,s,x)=>(o,s,z6.F7 T (rl.reverse++ .any::List.replicate (O ops) .any) x))=J cs:=by
   simp_all [List.map_congr_left,M5]
  simp_all [F6.y3,if_true,x8,y6,B4,F6.B3,C7,and_self,D4,newId,Option.getD_some,put,jq,s6,R4]
 .simp [T6,Y3,G8,F6.y3]
theorem ya {sz bytes id len m:Nat}{x y:A4}{u:List Nat}{cs l0:List c7}{H2:k8}{w:c7}(hx:rq T n rl x= .s5 id sz 0 len)(hy:rq T n rl y=w)(hO:H[id]? =J (.cells l0))(hc:B5 H sz w=J (m,cs))(hmay:l.may id=W)
  (W5:len * sz=O l0/\roomFor (len+m) bytes=W/\A2 cs<=O H/\cs.all c7.one=W/\0<sz)
  (h2:Rl A l b j8 ops T H2 (n+1) (.s5 (O H) sz 0 (len+m)::rl) (.obj (O H):: .obj id::l6) na (⟨[],[.obj (O H),.obj id],max (id+1) w.H7,0⟩::lg) Q)
  (hH:H.set id .dead++[.cells (l0.map c7.I7++cs)]=H2:=by rfl):Rl A l b j8 (⟨.M7 sz bytes x y,K,K,u⟩::ops) T H n rl l6 na lg Q:=by
 refine Rl.step (N1:=0) (rs:=[]) (λ_=>rfl) (λhn k _=>?_) (λhn k=>?_) h2
 .simp_all [I9,M5,trans,F6.y3,j6,if_false,x8,y6,B4,F6.B3,if_true,C7,Q7,newId,Option.getD_none,D4,put,jq,dI,B8,s6,D5,List.length_set]
 .have hx' :=(M5 hn (O ops) x).trans hx
  have hy' :=(M5 hn (O ops) y).trans hy;have:O l6+1+1 - O l6=2:=V
  simp_all [T6,Y3,F6.y3,G8,c7.H7]
theorem ya0 {sz bytes j j2 id off m:Nat}{y:A4}{u:List Nat}{a:x9}{cs l0:List c7}{H2:k8}{w:c7}(hL:lk n rl j=J (.d (.slice 0 [])))(ha:j8[j]? =J a)(hz:a.op= .load K (.loc j2))(hp:lk n rl j2=J (.ptr id off))(ht:l6.any (Touch.W2 id off)=F)(hmay:l.may id=W)
  (hO:H[id]? =J (.cells l0)) (h0:l0[off]? =J .O5) (hy:rq T n rl y=w) (hc:B5 H sz w=J (m,cs)) (W5:roomFor m bytes=W/\0<sz) (hm:m≠0)
  (h2:Rl A l b j8 ops T H2 (n+1) (.s5 (O H) sz 0 m::rl) (.obj (O H)::l6) na (⟨[],[.obj (O H)],w.H7,0⟩::lg) Q) (hH:H++[.cells cs]=H2:=by rfl):Rl A l b j8 (⟨.M7 sz bytes (.loc j) y,K,K,u⟩::ops) T H n rl l6 na lg Q:=by
 have OQ:∀{i v},O rl=n->lk n rl i=J v->(rl.reverse++ .any::List.replicate (O ops) .any)[i]? =J v:=λhn h=>iB (by simp_all [aT]) _
 have hx:O rl=n->z6.F7 T (rl.reverse++ .any::List.replicate (O ops) .any) (.loc j)= .d (.slice 0 []):=λhn=>by
  simp [z6.F7,List.getD_eq_getElem?_getD,OQ hn hL];rfl
 have hnil:O rl=n->isNil l j8 ⟨T,H,rl.reverse++ .any::List.replicate (O ops) .any,l6⟩ (.loc j)=W:=λhn=>by
  simp_all [isNil,fm,Z9]
 refine Rl.step (N1:=0) (rs:=[]) (λ_=>rfl) (λhn k _=>?_) (λhn k=>?_) h2
 .have hy' :=(M5 hn (O ops) y).trans hy
  simp_all [isNil,I9,List.replicate,F6.y3,j6,if_false,x8,y6,B4,F6.B3,if_true,C7,J7,and_self,D4,newId,Option.getD_none,put,jq,dI,B8,s6,D5]
 simp_all [M5,trans,T6,Y3,F6.y3,G8,c7.H7]
def ys {m id off:Nat}{x y:A4}{u:List Nat}{v:c7}{cs:List c7}{H2:k8}(hy:rq T n rl y= .ptr id off)(hx:Oq T n rl x v)(hc:v.cells? =J cs)(hm:O cs=m)(hl:l.may id=W)(hb:A2 cs<=id+1\/(l.base<=id/\l.strict<=id))
  (hw:wr H id off cs=J H2) (h2:Rl A l b j8 ops T H2 (n+1) (.any::rl) (.obj id::l6) na (⟨[],[.obj id],0,0⟩::lg) Q):Rl A l b j8 (⟨.store m y x,K,K,u⟩::ops) T H n rl l6 na lg Q:=by
 refine Rl.step (N1:=0) (rs:=[]) (λ_=>rfl) (λhn k _=>?_) (λhn k=>?_) h2
 .have hl' :(I9 A k l b).lim.may id=W:=hl
  have hb' :A2 cs<=id+1\/((I9 A k l b).lim.base<=id/\(I9 A k l b).lim.strict<=id):=hb;simp [F6.y3,j6,if_false,x8,y6,B4,F6.B3,if_true,C7,M5 hn,hy,P0,(hx.op hn).E9,hc,hm,hl',hb',and_self,hw,put,jq hn,s6,D5]
 simp_all [T6,Y3,F6.y3,G8]
end S
end
end Go.z6
namespace Go.z6.S
section
variable {A:Prog} {l:G9} {b:Nat} {j8 ops:List x9} {T:List c7} {H:k8} {n:Nat} {rl:List c7} {l6:List Touch}
section
variable {na:Nat} {lg:List dA} {Q:List c7->k8->List c7->Prop}
def yal {zero:List c7}{u:List Nat}{s:Nat}(yN :Nat)(T2:List c7)(H2:k8)(hs:s<O T)(htc:l6.any (Touch.Q6 s)=W)(hT:T.set s (.ptr na 0)=T2)(hH:H.set na (.cells zero)=H2)(hn:na+1=yN)
  (h2:Rl A l b j8 ops T2 H2 (n+1) (.ptr na 0::rl) l6 yN (⟨[],[.obj na],0,na⟩::lg) Q):Rl A l b j8 (⟨.alloc zero,J s,K,u⟩::ops) T H n rl l6 na lg Q:=by
 subst hT hH hn;have h3:O rl=n->∀r:List c7,(rl.reverse++ .ptr na 0::r)[n]? =J (.ptr na 0):=λhn r=>M
 refine Rl.step (N1:=0) (rs:=[]) (λ_=>rfl) (λhn k _=>?_) (λhn k=>?_) h2
 all_goals simp_all [F6.y3,if_true,x8,y6,B4,F6.B3,C7,D4,newId,Option.getD_some,put,jq,s6,R4,z6.E9,decide_true,Bool.and_self,z6.F7,c7.I7,T6,Y3,G8]
def yc {f:FuncId}{xs:List A4}{u:List Nat}{v:c7}{args:List c7}{m:Nat}{H0 H1:k8}{l2:G9}(HD H2:k8)(hc:Pm A f args H0 l2 v H1)(FT:O H1=m)(fe:C9 ((H.take m).drop l.strict)<=m)(hcl:D7 H l.strict 8 (A2 args)=m)
  (FR:H.take m=H0) (hle:m<=O H) (iZ:(⟨l.Fe,l.Fc,m,B1 H l.strict m⟩:G9)=l2) (hD:H.drop m=HD) (hA:H1++HD=H2)
  (h2:Rl A l b j8 ops T H2 (n+1) (v::rl) (.below m::l6) na (⟨[],[.below m],m,0⟩::lg) Q) (ha:xs.map (rq T n rl)=args:=by rfl) (eM:A.prom f=F:=by rfl) (hm:A.mode f=0:=by rfl):Rl A l b j8 (⟨.call f xs,K,K,u⟩::ops) T H n rl l6 na lg Q:=by
 obtain ⟨d8,hc⟩:=hc;subst FR hD hA;have Jw :∀k,(I9 A k l b).prom f=F:=λ_=>eM
 refine Rl.step (N1:=d8) (rs:=[]) (λ_=>rfl) (λhn k hk=>?_) (λhn k=>?_) h2
 .have h3:B9 (I9 A k l b) n f args ⟨T,H,rl.reverse++ .any::List.replicate (O ops) .any,l6⟩=J (put ⟨T,H1++H.drop m,rl.reverse++ .any::List.replicate (O ops) .any,.below m::l6⟩ n v) :=
   iQ eM hm hcl hle fe iZ (hc k hk) FT
  simp_all [F6.y3,j6,if_false,x8,y6,B4,F6.B3,if_true,C7,aJ,s6,D5,put,jq]
 .have PF :D7 H (I9 A k l b).lim.strict 8 (A2 args)=m:=hcl
  simp_all [T6,Y3,G8,F6.y3,aJ]
def yl {f:FuncId}{xs:List A4}{u:List Nat}{v:c7}{args:List c7}(hc:Pf A f args v)
  (h2:Rl A l b j8 ops T H (n+1) (v::rl) l6 na (⟨[],[],0,0⟩::lg) Q) (ha:xs.map (rq T n rl)=args:=by rfl) (eM:A.prom f=F:=by rfl) (hm:A.mode f=1:=by rfl) (hb:A2 args=0:=by rfl):Rl A l b j8 (⟨.call f xs,K,K,u⟩::ops) T H n rl l6 na lg Q:=by
 obtain ⟨d8,hc⟩:=hc;refine Rl.step (N1:=d8) (rs:=[]) (λ_=>rfl) (λhn k hk=>?_) (λhn k=>?_) h2
 .have h3:B9 (I9 A k l b) n f args ⟨T,H,rl.reverse++ .any::List.replicate (O ops) .any,l6⟩=J (put ⟨T,H,rl.reverse++ .any::List.replicate (O ops) .any,l6⟩ n v) :=
   aU eM hm hb (hc k hk)
  simp_all [F6.y3,j6,if_false,x8,y6,B4,F6.B3,if_true,C7,aJ,s6,D5,put,jq]
 simp_all [D7,I9,T6,Y3,G8,F6.y3,aJ]
def ymT {x:A4}{s:Nat}{u:List Nat}{v:c7}(T2:List c7)(hs:s<O T)(hT:T.set s v=T2)(h2:Rl A l b j8 ops T2 H (n+1) (v::rl) (.slot s::l6) na (⟨[],[.slot s],0,0⟩::lg) Q)(hx:Oq T n rl x v:=by exact ⟨rfl,rfl⟩)(hv:∀z m cs,v≠ .own z m cs:=by intros;exact λh=>by cases h):Rl A l b j8 (⟨.dV x,J s,K,u⟩::ops) T H n rl l6 na lg Q:=by
 subst hT;have h3:O rl=n->∀r:List c7,(rl.reverse++v::r)[n]? =J v:=λhn r=>by rw [<- hn,<- List.length_reverse];simp
 have Vx:v.I7=v:=hx.2;refine Rl.step (N1:=0) (rs:=[]) (λ_=>rfl) (λhn k _=>?_) (λhn k=>?_) h2
 .have e:∀st:G5,st.L[n]? =J v->z6.E9 st (.loc n)=(v,st):=λst h=>by
   cases v<;>simp_all [z6.E9,z6.F7,c7.I7]
  simp only [F6.y3,j6,if_false,x8,y6,B4,F6.B3,(hx.op hn).E9,put,jq hn,s6,D5,hs,if_true];rw [e _ (h3 hn _)]
 .simp [T6,Y3,G8,F6.y3]
end
section
variable {Q:List c7->k8->List c7->Prop}
def apn {sz bytes id len m:Nat}{x y:A4}{u:List Nat}{cs l0:List c7}{w:c7}(A1 t:Nat)(H2:k8)(hx:rq T n rl x= .s5 id sz 0 len)(hy:rq T n rl y=w)(hO:H[id]? =J (.cells l0))(hc:B5 H sz w=J (m,cs))(hmay:l.may id=W)
  (W5:len * sz=O l0/\roomFor (len+m) bytes=W/\A2 cs<=O H/\cs.all c7.one=W/\0<sz) (hH:H.set id .dead++[.cells (l0.map c7.I7++cs)]=H2) (hN:O H=A1) (ht:len+m=t)
  (h2:Ry A l b F j8 ops T H2 (n+1) (.s5 A1 sz 0 t::rl) (.obj A1:: .obj id::l6) Q):Ry A l b F j8 (⟨.M7 sz bytes x y,K,K,u⟩::ops) T H n rl l6 Q:=λhn=>by
 refine Rx.stepT (N1:=0) (rs:=[]) rfl (λk _=>?_) (h2.to hn);simp_all [I9,x8,y6,B4,F6.B3,if_true,C7,M5,Q7,newId,Option.getD_none,D4,put,J4,dI,B8,s6,D5,List.length_set]
def apz {sz bytes j j2 id off m:Nat}{y:A4}{u:List Nat}{a:x9}{cs l0:List c7}{w:c7}(A1:Nat)(H2:k8)(hL:lk n rl j=J (.d (.slice 0 [])))(ha:j8[j]? =J a)(hz:a.op= .load K (.loc j2))(hp:lk n rl j2=J (.ptr id off))(ht:l6.any (Touch.W2 id off)=F)(hmay:l.may id=W)
  (hO:H[id]? =J (.cells l0)) (h0:l0[off]? =J .O5) (hy:rq T n rl y=w) (hc:B5 H sz w=J (m,cs)) (W5:roomFor m bytes=W/\0<sz) (hm:m≠0) (hH:H++[.cells cs]=H2) (hN:O H=A1)
  (h2:Ry A l b F j8 ops T H2 (n+1) (.s5 A1 sz 0 m::rl) (.obj A1::l6) Q):Ry A l b F j8 (⟨.M7 sz bytes (.loc j) y,K,K,u⟩::ops) T H n rl l6 Q:=λhn=>by
 have OQ:∀{i v},lk n rl i=J v->(rl.reverse++ .any::List.replicate (O ops) .any)[i]? =J v:=λh=>iB (by simp_all [aT]) _
 have hx:z6.F7 T (rl.reverse++ .any::List.replicate (O ops) .any) (.loc j)= .d (.slice 0 []):=by
  simp [z6.F7,List.getD_eq_getElem?_getD,OQ hL];rfl
 have hnil:isNil l j8 ⟨T,H,rl.reverse++ .any::List.replicate (O ops) .any,l6⟩ (.loc j)=W:=by
  simp_all [isNil,fm,Z9]
 refine Rx.stepT (N1:=0) (rs:=[]) rfl (λk _=>?_) (h2.to hn);simp_all [isNil,I9,List.replicate,x8,y6,B4,F6.B3,if_true,C7,M5,J7,and_self,if_false,D4,newId,Option.getD_none,put,J4,dI,B8,s6,D5]
def SF {m id off:Nat}{x y:A4}{u:List Nat}{v:c7}{cs:List c7}{H2:k8}(hy:rq T n rl y= .ptr id off)(hx:Oq T n rl x v)(hc:v.cells? =J cs)(hm:O cs=m)(hl:l.may id=W)(hb:A2 cs<=id+1\/(l.base<=id/\l.strict<=id))
  (hw:wr H id off cs=J H2) (h2:Ry A l b F j8 ops T H2 (n+1) (.any::rl) (.obj id::l6) Q):Ry A l b F j8 (⟨.store m y x,K,K,u⟩::ops) T H n rl l6 Q:=λhn=>by
 refine Rx.stepT (N1:=0) (rs:=[]) rfl (λk _=>?_) (h2.to hn);have hl' :(I9 A k l b).lim.may id=W:=hl;have hb' :A2 cs<=id+1\/((I9 A k l b).lim.base<=id/\(I9 A k l b).lim.strict<=id):=hb;simp [x8,y6,B4,F6.B3,if_true,C7,M5 hn,hy,P0,(hx.op hn).E9,hc,hm,hl',hb',and_self,hw,put,J4,s6,D5]
end
end
section
variable {ρ:A4->c7} {G:k8} {x y:A4}
def QD {α:Type} [Inhabited α] {enc:α->List Data}{xs:List α}{sz:Nat}{i:Int}(hs:∀a,O (enc a)=sz)(hx:ρ x= .d (x3 enc xs))(hy:ρ y= .d (.int .i64 i))(h0:0<=i)(h1:i<O xs):l5 ρ G (.iw sz x y)=J (.Z5 (enc (Y xs i.toNat)++(xs.drop (i.toNat+1)).flatMap enc),[]):=by
 grind [Y,iT,C5,l5,x3]
def XU {c:Data}{cs:List Data}(hx:ρ x= .Z5 (c::cs)):l5 ρ G (.load K x)=J (.d c,[]):=by simp [l5,hx]
def Ng {cs rest:List Data}{m:Nat}(hx:ρ x= .Z5 (cs++rest))(hm:O cs=m):l5 ρ G (.load (J m) x)=J (.agg (cs.map .d),[]):=by
 simp_all [l5]
def XV {α:Type}{enc:α->List Data}{xs:List α}(hx:ρ x= .d (x3 enc xs)):l5 ρ G (.len x)=J (.d (.int .i64 (O xs:Int)),[]):=by simp [l5,hx,x3,i64]
def JQ {id lo len sz i:Nat}(hx:ρ x= .s5 id sz lo len)(hy:ρ y= .d (.int .i64 (i:Int)))(h:i<len):l5 ρ G (.iw sz x y)=J (.ptr id (lo+i * sz),[]):=by
 simp_all [l5]
def rZ {id o k:Nat}(hx:ρ x= .ptr id o):l5 ρ G (.off k x)=J (.ptr id (o+k),[]):=by simp [l5,hx]
def JR {id o:Nat}{v w:c7}(hx:ρ x= .ptr id o)(hr:rd G id o 1=J [v])(hw:v.I7=w):l5 ρ G (.load K x)=J (w,[id]):=by simp_all [l5]
def Gp {id o m:Nat}{vs:List c7}(hx:ρ x= .ptr id o)(hr:rd G id o m=J vs)(hv:vs.map c7.I7=vs):l5 ρ G (.load (J m) x)=J (.agg vs,[id]):=by simp [l5,hx,hr,hv]
end
end Go.z6.S
namespace Go.z6
section
variable {A:Prog} {l:G9} {b:Nat}
def Ex.EL {ops:List x9}{draw:Bool}{c:A4}{d e:L2}{T:List c7}{H:k8}{Q:H9->St->Prop}(h:Rn A l b ops draw T H λT' H' L=>T' =T/\H' =H/\∃t',F7 T' L c= .d (.bool t'))(h2:Ex A l b d ⟨T,H⟩ Q)(h3:Ex A l b e ⟨T,H⟩ Q) :
  Ex A l b (.test ops draw c d e) ⟨T,H⟩ Q:=by
 obtain ⟨r,N,⟨hT,hH,t',ht⟩,hr⟩:=h;exact Ex.dn t' ⟨r,N,⟨hT,hH,t',ht,rfl⟩,hr⟩ (λ_=>h2) λ_=>h3
def Pe.go {f:FuncId}{af:p6}{args:List c7}{P:c7->Prop}{T:List c7}(n:Nat)(h:Ex A N9 0 af.body ⟨T,[]⟩ λx s=>∃w,T9 af 0 (J (x,s))=J (w,[])/\P w)
  (hf:A.fn f=J af:=by rfl) (hp:A.bw f=K:=by rfl) (hn:O args=af.nparams:=by rfl)
  (hT:args++List.replicate n .any=T:=by simp [List.nil_append]<;>rfl) (hN:O af.names - O args=n:=by rfl):∃v,P v/\Pf A f args v:=by
 obtain ⟨x,s,N,⟨w,hq,hP⟩,h⟩:=h;exact ⟨w,hP,Pf.run T hp hf hn M ⟨x,s,N,⟨w,hq,rfl⟩,h⟩⟩
theorem Pe.bool {f:FuncId}{args:List c7}(h:∃v,(∃t,v= .d (.bool t))/\Pf A f args v):∃t,Pf A f args (.d (.bool t)):=by
 simp_all
theorem Pe.num {f:FuncId}{args:List c7}(h:∃v,(∃t,v= .d (.int .i64 t))/\Pf A f args v):∃t,Pf A f args (.d (.int .i64 t)):=by
 grind
end
namespace S
section
variable {A:Prog} {l:G9} {b:Nat}
def te {P:Prop}{ops:List x9}{draw:Bool}{c:A4}{d e:L2}{T:List c7}{H:k8}{Q:H9->St->Prop}(p:P)(h2:Ex A l b d ⟨T,H⟩ Q)(h3:Ex A l b e ⟨T,H⟩ Q)
  (h:PLift P->Rn A l b ops draw T H λT' H' L=>T' =T/\H' =H/\∃t',F7 T' L c= .d (.bool t'):=by intro p;(first|refine Rn.text ?_|refine Rn.draw ?_|fail);(repeat' (first|refine cl (p.down ..) ?_|refine mN (p.down ..) ?_|refine cl (p.down.1 ..) ?_|refine cl (p.down.2 ..) ?_|refine mN (p.down.1 ..) ?_|refine mN (p.down.2 ..) ?_|refine cl (p.down.2.1 ..) ?_|refine cl (p.down.2.2 ..) ?_|refine mN (p.down.2.1 ..) ?_|refine mN (p.down.2.2 ..) ?_|refine gx ?_|refine fk (h1:=λhw=>?_) (h2:=λhw=>?_)|refine KG (h1:=λhw=>?_) (h2:=λhw=>?_)|exact ⟨rfl,rfl,_,rfl⟩|fail))) :
  Ex A l b (.test ops draw c d e) ⟨T,H⟩ Q:=Ex.EL (h ⟨p⟩) h2 h3
end
end S
def UK {n b:Nat}(h:n<=1000)(hb:b<=1000):roomFor n b=W:=by
 refine decide_eq_true ?_;exact o5 (Nat.mul_le_mul (show 2 * n+512<=2512 by omega) hb) (by decide)
def Ex.nS {A:Prog}{l:G9}{b:Nat}{c:L2}{st:St}{Q:H9->St->Prop}(T2:List c7)(H2:k8)(h:Ex A l b c ⟨T2,H2⟩ Q)(e:st=⟨T2,H2⟩:=by rfl):Ex A l b c st Q:=e ▸ h
def Ex.Zn {A:Prog}{l:G9}{b:Nat}{ops:List x9}{draw:Bool}{c:A4}{d e:L2}{T:List c7}{H:k8}{Q:H9->St->Prop}(P:k8->Prop)(h:Rn A l b ops draw T H λT' H' L=>T' =T/\P H' /\∃t,F7 T' L c= .d (.bool t))
  (h2:∀H',P H' ->Ex A l b d ⟨T,H'⟩ Q) (h3:∀H',P H' ->Ex A l b e ⟨T,H'⟩ Q):Ex A l b (.test ops draw c d e) ⟨T,H⟩ Q:=by
 obtain ⟨r,N,⟨e1,hP,t,e3⟩,h⟩:=h;refine Ex.test ⟨r,N,⟨t,e3,λ_=>?_,λ_=>?_⟩,h⟩
 .rw [e1];exact h2 _ hP
 .rw [e1];exact h3 _ hP
def Ex.Xp {A:Prog}{l:G9}{b id:Nat}{c:L2}{st:St}{R:H9->St->Prop}{go:St->Prop}(P:St->Prop)(h1:Ex A l b c st (kJ R P))(h2:∀s,P s->go s)(hR:∀i s,¬R (.exit i) s:=by rintro i s ⟨_,_,h,_⟩;cases h):Ex A l b c st (nh id (kJ R go)):=by
 refine h1.mono λx s h=>?_
 cases x with
 |normal=>exact h2 s h
 |exit i=>exact (hR _ _ h).elim
 |ret=>exact h
def Ex.join {A:Prog}{l:G9}{b:Nat}{c:L2}{st:St}{R:H9->St->Prop}{go:St->Prop}(P:St->Prop)(h1:Ex A l b c st (kJ R P))(h2:∀s,P s->go s):Ex A l b c st (kJ R go):=by
 refine h1.mono λx s h=>?_
 cases x with
 |normal=>exact h2 s h
 |exit i=>exact h
 |ret=>exact h
def Ex.On {A:Prog}{l:G9}{b id:Nat}{c:L2}{st:St}{R:H9->St->Prop}{go:St->Prop}(P:St->Prop)(h1:Ex A l b c st (kJ (λ_ _=>False) P))(h2:∀s,P s->go s):Ex A l b c st (nh id (kJ R go)):=by
 refine h1.mono λx s h=>?_
 cases x with
 |normal=>exact h2 s h
 |exit i=>exact h.elim
 |ret=>exact h.elim
end Go.z6
namespace Go.z6.S
def VD {α:Type}(f:α->Data):List α->Nat->List (Nat×Nat×A4)
 |[],_=>[]
 |x::xs,i=>(i,1,.const (.d (f x)))::VD f xs (i+1)
theorem CW {α:Type}{f:α->Data}{ρ:A4->c7}(hc:∀d,ρ (.const (.d d))= .d d):∀(xs:List α) (pre suf:List c7),O suf=O xs->U2 (pre++suf) ((VD f xs (O pre)).map λp=>(p.1,p.2.1,ρ p.2.2))=J (pre++xs.map λx=> .d (f x))
 |[],pre,suf,h=>by
  obtain rfl:=List.length_eq_zero_iff.1 h;simp [VD,U2]
 |x::xs,pre,a::s,h=>by
  have ih:=CW hc (f:=f) xs (pre++[.d (f x)]) s (by simpa using h);have e:splice (pre++a::s) (O pre) [.d (f x)]=pre++ .d (f x)::s:=by simp [splice]
  simp only [F5,List.singleton_append,List.length_append,E5] at ih;simp [VD,U2,hc,c7.cells?,c7.one,e];simpa using ih
def Ht {α:Type}(f:α->Data)(l:List α):J3 (l.map λx=> .d (f x))=J (l.map f)/\l.flatMap (λx=>[f x])=l.map f:=by
 induction l with
 |nil=>exact ⟨rfl,rfl⟩
 |cons a l ih=>simp [J3,c7.data?,ih.1,ih.2]
def pBk {α:Type}(f:α->Data)(xs:List α){ρ:A4->c7}{G:k8}{len:Nat}{zero:List c7}{ps:List (Nat×Nat×A4)}(hc:∀d,ρ (.const (.d d))= .d d:=by intro;rfl)(hl:O xs=len:=by rfl)(hz:O zero=len:=by rfl)(hp:ps=VD f xs 0:=by rfl):l5 ρ G (.N5 1 len zero ps F)=J (A8 1 (λx=>[f x]) xs,[]):=by
 subst hp hl;have h:=CW hc (f:=f) xs [] zero hz;simp only [List.nil_append,List.length_nil] at h;have e:=Ht f xs;simp only [l5,h,e.1,A8,e.2];simp
section
variable {A:Prog} {l:G9} {b:Nat} {j8 ops:List x9} {T:List c7} {H:k8} {n:Nat} {rl:List c7} {l6:List Touch}
def rg {Q:List c7->k8->List c7->Prop}{na:Nat}{H' :k8}(k:Nat)(hk:T5 ops=List.replicate k .dead:=by rfl)(hH:H++List.replicate k .dead=H' :=by simp only [List.replicate,List.cons_append,List.nil_append,List.append_nil]<;>rfl)
  (hn:O H=na:=by simp only [List.length_cons,List.length_nil,Nat.reduceAdd]<;>rfl) (h:Rl A l b ops ops T H' 0 [] (slotsOf ops) na [] Q):Rn A l b ops W T H Q:=by
 subst hn hH;exact Rn.XD _ _ h (by rw [hk]) rfl
section
variable {na:Nat} {lg:List dA} {Q:List c7->k8->List c7->Prop}
def lN (h:Q T H rl.reverse)(hl:br j8 lg.reverse=W:=by rfl):Rl A l b j8 [] T H n rl l6 na lg Q:=yn h hl
def lMT {x:A4}{s:Nat}{u:List Nat}{v:c7}{T2:List c7}(hx:Oq T n rl x v:=by exact ⟨rfl,rfl⟩)(hs:Nat.ble (s+1) (O T)=W:=by rfl)(hT:T.set s v=T2:=by simp only [List.set_cons_zero,List.set_cons_succ]<;>rfl)(hv:∀z m cs,v≠ .own z m cs:=by intros;exact λh=>by cases h)
  (h2:Rl A l b j8 ops T2 H (n+1) (v::rl) (.slot s::l6) na (⟨[],[.slot s],0,0⟩::lg) Q):Rl A l b j8 (⟨.dV x,J s,K,u⟩::ops) T H n rl l6 na lg Q:=ymT T2 (j5 hs) hT h2 hx hv
def lS {id off:Nat}{x y:A4}{u:List Nat}{v:c7}{old new:List c7}{H2:k8}(hy:rq T n rl y= .ptr id off:=by rfl)(hx:Oq T n rl x v:=by exact ⟨rfl,rfl⟩)(hc:v.cells? =J [v]:=by rfl)(hl:l.may id=W:=by rfl)(hb:v.H7<=id+1:=by exact Nat.zero_le _)
  (ho:H[id]? =J (.cells old):=by rfl) (hq:off<O old:=by simp) (hN:old.set off v=new:=by first|(simp only [List.set_cons_zero,List.set_cons_succ];done)|rfl) (hH:H.set id (.cells new)=H2:=by simp only [List.set_cons_zero,List.set_cons_succ]<;>rfl)
  (h2:Rl A l b j8 ops T H2 (n+1) (.any::rl) (.obj id::l6) na (⟨[],[.obj id],0,0⟩::lg) Q):Rl A l b j8 (⟨.store 1 y x,K,K,u⟩::ops) T H n rl l6 na lg Q :=
 ys hy hx hc rfl hl (.inl (by simpa [A2] using hb)) (by
  have h1:splice old off [v]=old.set off v:=by
   simp only [splice,E5];rw [List.set_eq_take_append_cons_drop,if_pos hq];simp
  simp only [wr,ho,E5,h1,hN,hH];rw [if_pos V]) h2
def lSo {m id:Nat}{x y:A4}{u:List Nat}{v:c7}{cs old:List c7}{H2:k8}(hy:rq T n rl y= .ptr id 0:=by rfl)(hx:Oq T n rl x v:=by exact ⟨rfl,rfl⟩)(hc:v.cells? =J cs:=by rfl)(hm:O cs=m:=by rfl)(hl:l.may id=W:=by rfl)(hb:A2 cs<=id+1:=by exact Nat.zero_le _)
  (ho:H[id]? =J (.cells old):=by rfl) (hq:O old=m:=by rfl) (hH:H.set id (.cells cs)=H2:=by simp only [List.set_cons_zero,List.set_cons_succ]<;>rfl)
  (h2:Rl A l b j8 ops T H2 (n+1) (.any::rl) (.obj id::l6) na (⟨[],[.obj id],0,0⟩::lg) Q):Rl A l b j8 (⟨.store m y x,K,K,u⟩::ops) T H n rl l6 na lg Q :=
 ys hy hx hc hm hl (.inl hb) (by simp [wr,ho,hm,hq,splice,<- hH];rw [n5 V];simp) h2
def lIx {α:Type} [Inhabited α] {enc:α->List Data}{xs:List α}{sz:Nat}{e:Int}{x y:A4}{u:List Nat}(hx:rq T n rl x= .d (x3 enc xs):=by rfl)(hy:rq T n rl y= .d (.int .i64 e):=by rfl)(hs:∀a,O (enc a)=sz:=by intro;rfl)
  (hi:0<=e/\e<O xs:=by first|omega|(simp only [List.length_cons,List.length_nil,Nat.reduceAdd];omega)) (h2:Rl A l b j8 ops T H (n+1) (.Z5 (enc (Y xs e.toNat)++(xs.drop (e.toNat+1)).flatMap enc)::rl) l6 na (⟨[],[],0,0⟩::lg) Q) :
  Rl A l b j8 (⟨.iw sz x y,K,K,u⟩::ops) T H n rl l6 na lg Q:=yp _ (QD hs hx hy hi.1 hi.2) h2
def lA {zero:List c7}{u:List Nat}{s yN :Nat}{T2:List c7}{H2:k8}(hs:Nat.ble (s+1) (O T)=W:=by rfl)(htc:l6.any (Touch.Q6 s)=W:=by rfl)(hT:T.set s (.ptr na 0)=T2:=by simp only [List.set_cons_zero,List.set_cons_succ]<;>rfl)(hH:H.set na (.cells zero)=H2:=by simp only [List.set_cons_zero,List.set_cons_succ]<;>rfl)
  (hn:na+1=yN :=by simp only [Nat.reduceAdd]<;>rfl) (h2:Rl A l b j8 ops T2 H2 (n+1) (.ptr na 0::rl) l6 yN (⟨[],[.obj na],0,na⟩::lg) Q):Rl A l b j8 (⟨.alloc zero,J s,K,u⟩::ops) T H n rl l6 na lg Q:=yal yN T2 H2 (j5 hs) htc hT hH hn h2
end
section
variable {Q:List c7->k8->List c7->Prop} {dr:Bool}
def ct {f:FuncId}{xs:List A4}{u:List Nat}{v:c7}{args:List c7}{m:Nat}{H0 HD H1 H2:k8}{l2:G9}(hc:Pm A f args H0 l2 v H1)(FT:O H1=m:=by simp only [List.length_cons,List.length_nil,Nat.reduceAdd]<;>rfl)(fe:C9 ((H.take m).drop l.strict)<=m:=by exact Nat.zero_le _)(hcl:D7 H l.strict 8 (A2 args)=m:=by rfl)
  (FR:H.take m=H0:=by rfl) (hle:Nat.ble m (O H)=W:=by rfl) (iZ:(⟨l.Fe,l.Fc,m,B1 H l.strict m⟩:G9)=l2:=by rfl) (hd:dr=W->Nat.ble (kY j8) n=W:=by intro;rfl) (hD:H.drop m=HD:=by simp only [List.drop_succ_cons,List.drop_zero]<;>rfl) (hA:H1++HD=H2:=by simp only [List.cons_append,List.nil_append]<;>rfl)
  (ha:xs.map (rq T n rl)=args:=by rfl) (eM:A.prom f=F:=by rfl) (hm:A.mode f=0:=by rfl)
  (h2:Ry A l b dr j8 ops T H2 (n+1) (v::rl) (.below m::l6) Q):Ry A l b dr j8 (⟨.call f xs,K,K,u⟩::ops) T H n rl l6 Q :=
 c0 hc FT fe hcl FR hle iZ hd ha eM hm hD hA h2
def bk {α:Type}(f:α->Data)(xs:List α){len:Nat}{zero:List c7}{ps:List (Nat×Nat×A4)}{u:List Nat}(h2:Ry A l b dr j8 ops T H (n+1) (A8 1 (λx=>[f x]) xs::rl) l6 Q)(hl:O xs=len:=by rfl)(hz:O zero=len:=by rfl)(hp:ps=VD f xs 0:=by rfl) :
  Ry A l b dr j8 (⟨.N5 1 len zero ps F,K,K,u⟩::ops) T H n rl l6 Q:=Ry.pure (rs:=[]) rfl (pBk f xs (λ_=>rfl) hl hz hp) h2
def eN {sz:Nat}{u:List Nat}(h2:Ry A l b dr j8 ops T H (n+1) (.own sz 0 []::rl) l6 Q)(h0:Nat.ble 1 sz=W:=by rfl):Ry A l b dr j8 (⟨.N5 sz 0 [] [] F,K,K,u⟩::ops) T H n rl l6 Q :=
 Ry.pure (rs:=[]) rfl (by have:=j5 h0;simp [l5,U2,J3];omega) h2
def Cb {α:Type} [Inhabited α] {enc:α->List Data}{xs:List α}{sz:Nat}{e:Int}{x y:A4}{k:IntKind}{u:List Nat}(hx:rq T n rl x= .d (x3 enc xs):=by rfl)(hy:rq T n rl y= .d (.int k e):=by rfl)(hs:∀a,O (enc a)=sz:=by intro;rfl)
  (hi:0<=e/\e<O xs:=by first|omega|(simp only [List.length_cons,List.length_nil,Nat.reduceAdd];omega)) (h2:Ry A l b dr j8 ops T H (n+1) (.Z5 (enc (Y xs e.toNat)++(xs.drop (e.toNat+1)).flatMap enc)::rl) l6 Q) :
  Ry A l b dr j8 (⟨.iw sz x y,K,K,u⟩::ops) T H n rl l6 Q:=Xo hx hy hs hi h2
end
end
section
variable {ρ:A4->c7} {G:k8} {x y:A4}
def ax4 {k:Nat}{cs:List Data}(hx:ρ x= .Z5 cs):l5 ρ G (.off k x)=J (.Z5 (cs.drop k),[]):=by simp only [l5,hx]
def pBd {zero cs:List c7}{ps:List (Nat×Nat×A4)}(hr:U2 zero (ps.map λp=>(p.1,p.2.1,ρ p.2.2))=J cs):l5 ρ G (.build zero ps)=J (.agg cs,[]):=by
 simp only [l5,hr]
end
def gl {Γ Δ:Prop}(k:Δ)(h:PLift Δ->Γ:=by intro a8;(first|refine lN ?_|refine ym ?_|refine lMT (h2:=?_)|refine yp _ (rZ rfl) ?_|refine yp _ (ax4 rfl) ?_|refine yp _ (JR rfl rfl rfl) ?_|refine yp _ (Gp rfl rfl rfl) ?_|refine yp _ (XU rfl) ?_|refine yp _ (XV rfl) ?_|refine lIx (h2:=?_)|refine yp _ (pAd rfl rfl) ?_|refine yp _ (pSb rfl rfl) ?_|refine yp _ (pBd rfl) ?_|refine lA (h2:=?_)|refine lS (h2:=?_)|refine lSo (h2:=?_)|fail);exact a8.down):Γ:=h ⟨k⟩
def gm {Γ Δ:Prop}(k:Δ)(h:PLift Δ->Γ:=by intro a8;(repeat' (first|refine gl ?_|fail));exact a8.down):Γ:=h ⟨k⟩
end Go.z6.S
namespace Go.z6
theorem sP {A f8:Prog}(hf:A.fn=f8.fn)(hi:A.idle=f8.idle)(hm:A.mode=f8.mode)(d8:Nat)(hn:∀f,A.bw f=K->f8.bw f=K\/A.fn f=K)
  (hp:∀f p,A.bw f=J p->∀args H l r,p args H l=J r->call f8 d8 f args H l=J r):∀n,Zv (call A n) (call f8 (n+d8))
 |0=>λ_ _ _ _=>gJ.no _
 |n+1=>λf args H l=>by
  intro r hr;have th:A.prom=f8.prom:=by grind [Prog.prom]
  unfold call at hr;split at hr
  next p hq=>
   exact AN f8 d8 (n+1+d8) V f args H l r (hp f p hq args H l r hr)
  .split at hr
   next af Wv=>
    have hb:f8.bw f=K:=by
     grind
    rw [show n+1+d8=(n+d8)+1 by omega,AM hb (by rw [<- hf];exact Wv)];unfold eE at hr ⊢;split at hr
    next hlen=>
     rw [if_pos hlen];cases hx:exec ⟨call A n,A.prom,A.mode,A.idle,l,O H⟩ n af.body ⟨args++List.replicate (O af.names - O args) .any,H⟩ with
     |none=>simp_all
     |some x =>
      rw [hx] at hr;rw [th,hi,hm] at hx;rw [ew (sP hf hi hm d8 hn hp n) (Nat.le_add_right n d8) _ _ _ hx];exact hr
    .cases hr
   .cases hr
def Pf.UX {A:Prog}{es:List yV}{d8 n:Nat}(OL:∀e,e∈es->call A d8 e.f e.args [] N9=J (e.res,[])){f:FuncId}{args:List c7}{v:c7}(h:call (memo A es) n f args [] N9=J (v,[]))(hM:0<d8):Pf A f args v:=by
 refine Pf.Qu (sP (A:=memo A es) (f8:=A) rfl rfl rfl d8 ?_ ?_ n _ _ _ _ _ h)
 .grind [memo]
 .intro f p hp args H l r hr
  simp [memo] at hp;split at hp
  .cases hp
   simp only at hr;split at hr
   .grind [Bn,wF]
   .cases hr
  .obtain ⟨k,rfl⟩:∃k,d8=k+1:=⟨d8 - 1,V⟩
   simp_all [call]
end Go.z6


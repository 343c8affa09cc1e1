import Derived.Test.YtibjocmpkoepoaaGreatUB4
set_option linter.all false
open Bool renaming false_eq_true→j6,or_eq_false_iff→C7,true→W,false→F
open List renaming append_assoc→G8,drop_of_length_le→n5,getElem?_append_left→s9,getElem?_append_right→s5,getElem?_eq_getElem→n9,getElem_of_mem→E9,length_singleton→D9,map_cons→E8,mem_append→A5,mem_singleton→L1,pairwise_cons→L2,replicate_succ→L3,set_eq_take_append_cons_drop→M1,take_of_length_le→s4,length→O
open Nat renaming le_of_ble_eq_true→j4,le_refl→j9,le_trans→p7,lt_or_ge→y7,mul_le_mul_right→E1
open Option renaming map_some→B6,some→J,none→K
namespace Go.y9
def nB (x:Int):List Int->List Int
 |[]=>[x]
 |y::l=>if x<=y then x::y::l else y::nB x l
def W9:List Int->List Int
 |[]=>[]
 |x::l=>nB x (W9 l)
def gu :List c7->Option (List Int)
 |[]=>J []
 | .d (.int .i64 n)::r=>match gu r with
  |some xs=>J (n::xs)
  |none=>K
 |_=>K
def zf:List c7->k9->F9->Option (c7×k9)
 |[.N9,.d (.int .i64 n)],H,_=>if 0<=n/\n<=1000000 then J (.own 1 0 [],H) else K
 |_,_,_=>K
def zg:List c7->k9->F9->Option (c7×k9)
 |[.r7 id 1 lo len],H,l=>if l.may id&&Nat.ble len 1000000 then match rd H id lo len with
   |some vs=>match gu vs with
    |some xs=>match wr H id lo ((W9 xs).map λn=> .d (.int .i64 n)) with
     |some H1=>J (.tuple [],H1)
     |none=>K
    |none=>K
   |none=>K
  else K
 |[.d (.slice 0 _)],H,_=>J (.tuple [],H)
 |_,_,_=>K
def U7:List Int->List Int
 |[]=>[]
 |[x]=>[x]
 |x::y::l=>if x=y then U7 (y::l) else x::U7 (y::l)
def iK:List c7->k9->F9->Option (c7×k9)
 |[.r7 id 1 lo len],H,l=>if l.may id&&Nat.ble len 1000000 then match rd H id lo len with
   |some vs=>match gu vs with
    |some xs=>match wr H id lo ((U7 xs++List.replicate (O xs - O (U7 xs)) 0).map λn=> .d (.int .i64 n)) with
     |some H1=>J (.r7 id 1 lo (O (U7 xs)),H1)
     |none=>K
    |none=>K
   |none=>K
  else K
 |_,_,_=>K
section
variable {A:Prog} {l:F9} {b:Nat}
variable {dr:Bool} {j8 ops:List x9} {T:List c7} {H:k9} {n:Nat} {rl:List c7} {l6:List Touch} {Q:List c7->k9->List c7->Prop}
def Ex.cM {ops:List x9}{draw:Bool}{c:A3}{d e:K7}{T:List c7}{H:k9}{Q:G6->St->Prop}(t:Bool)
  (h:Rn A l b ops draw T H λT' H' L=>T' =T/\H' =H/\∃t',F1 T' L c= .d (.bool t')/\t' =t)
  (h2:t=W->Ex A l b d ⟨T,H⟩ Q) (h3:t=F->Ex A l b e ⟨T,H⟩ Q):Ex A l b (.test ops draw c d e) ⟨T,H⟩ Q:=by
 obtain ⟨r,N,⟨e1,e2,t',e3,rfl⟩,h⟩:=h;subst e1;subst e2;exact Ex.test ⟨r,N,⟨t',e3,h2,h3⟩,h⟩
def Ex.nT {c:K7}{T T2:List c7}{H:k9}{Q:G6->St->Prop}(h:Ex A l b c ⟨T2,H⟩ Q)(hT:T=T2:=by simp only [P8]<;>rfl):Ex A l b c ⟨T,H⟩ Q:=hT ▸ h
def Pf.run {f:FuncId}{af:p6}{args:List c7}{v:c7}(T:List c7)(hp:A.aB f=K)(hf:A.fn f=J af)(hn:O args=af.nparams)
  (hT:args++List.replicate (O af.names - O args) .any=T) (h:Ex A N6 0 af.body ⟨T,[]⟩ λx s=>∃w,R4 af 0 (J (x,s))=J (w,[])/\w=v):Pf A f args v :=
 Pf.Wa T hp hf hn hT (h.mono λ_ _ ⟨_,h1,h2⟩=>h2 ▸ h1)
theorem pT {α:Type}:∀{l:List α} {j:Nat} {v:α},l[j]? =J v->l.set j v=l
 |[],_,_,_=>rfl
 |a::l,0,v,h=>M
 |a::l,j+1,v,h=>by simp at h;simp [pT h]
def Rx.Mz {pre:List c7}{op:F0}{j:Nat}{want:Bool}{u:List Nat}(h:pre[j]? =J (.tuple []))(hk:F2 ⟨T,H,pre++ .any::List.replicate (O ops) .any,l6⟩ op=F)(ha:op.y3=F)
  (h2:Rx A l b dr j8 ops T H (pre++[.tuple []]) l6 Q):Rx A l b dr j8 (⟨op,K,J (j,want),u⟩::ops) T H pre l6 Q:=by
 refine Rx.step (N1:=0) (rs:=[]) hk ha (λn _=>?_) (λrs=>by simp [E6]) h2
 grind [x8,y5,gP,put,I6,s8,C9]
instance:Inhabited R2:=⟨⟨0,0,0,[],0⟩⟩
instance:Inhabited P4:=⟨⟨[],0,[],[],[],0,0⟩⟩
instance:Inhabited cw:=⟨⟨[],[],0,0⟩⟩
instance:Inhabited tM:=⟨⟨[],[]⟩⟩
instance:Inhabited sZ:=⟨⟨[],0,[]⟩⟩
instance:Inhabited Vw:=⟨⟨[],0,[],[],[],[],[],F,[]⟩⟩
instance:Inhabited gZ:=⟨⟨[],[],0⟩⟩
instance:Inhabited gW:=⟨⟨[],[],0,0,0,0⟩⟩
instance:Inhabited jK:=⟨⟨[],[],0,0⟩⟩
instance:Inhabited jD:=⟨⟨[],[],0⟩⟩
instance:Inhabited me:=⟨⟨[],[]⟩⟩
instance:Inhabited mc:=⟨⟨[],[],0⟩⟩
@[irreducible] def Y {α:Type} [Inhabited α] (l:List α) (i:Nat):α:=l[i]?.getD default
theorem D6 {α:Type} [Inhabited α] {l:List α}{i:Nat}(h:i<O l):Y l i=l[i]:=by simp [Y,h]
theorem O2 {α:Type} [Inhabited α] (a:α)(l:List α):Y (a::l) 0=a:=by simp [Y]
theorem aS {α:Type} [Inhabited α] (a:α)(l:List α)(i:Nat):Y (a::l) (i+1)=Y l i:=by simp [Y]
theorem C5 {α:Type} [Inhabited α] {l:List α}{i:Nat}(h:i<O l):Y l i∈l:=by grind [D6,List.getElem_mem]
theorem C4 {α:Type} [Inhabited α] {l:List α}{i:Nat}(h:i<O l):l.drop i=Y l i::l.drop (i+1):=by grind [D6,List.drop_eq_getElem_cons]
theorem E4 {α:Type} [Inhabited α] {l:List α}{i:Nat}(h:i<O l):l.take (i+1)=l.take i++[Y l i]:=by rw [D6 h,List.take_append_getElem]
def gV {α:Type} [Inhabited α] {l:List α}{i j:Nat}(h:j<i)(hi:i<=O l):(l.take i).drop j=Y l j::(l.take i).drop (j+1):=by
 grind [C4,D6]
@[irreducible] def D5 (a b:Int):Bool:=decide (a<b)
@[irreducible] def T5 (a b:Int):Bool:=decide (a<=b)
@[irreducible] def x4 (a b:Int):Bool:=a==b
@[irreducible] def K3 (a b:List UInt8):Bool:=a==b
theorem y4 (a b:Int):D5 a b=decide (a<b):=by unfold D5;rfl
theorem x6 (a b:Int):T5 a b=decide (a<=b):=by unfold T5;rfl
theorem o6 (a b:Int):x4 a b=(a==b):=by unfold x4;rfl
theorem F3 (a b:List UInt8):K3 a b=(a==b):=by unfold K3;rfl
def A7 {a b:Int}(h:D5 a b=W):a<b:=by grind [y4]
def B8 {a b:Int}(h:D5 a b=F):b<=a:=by grind [y4]
def ej {a b:Int}(h:T5 a b=W):a<=b:=by grind [x6]
def kI {a b:Int}(h:T5 a b=F):b<a:=by grind [x6]
theorem W6 {a b:Int}(h:x4 a b=W):a=b:=by grind [o6]
theorem jF {a b:Int}(h:x4 a b=F):a≠b:=by grind [o6]
theorem XC {a b:List UInt8}(h:K3 a b=W):a=b:=by grind [F3]
theorem QZ {a b:List UInt8}(h:K3 a b=F):a≠b:=by grind [F3]
def p9 (n a b:Int):Bool:=T5 a n&&T5 n b
def Ry (A:Prog)(l:F9)(b:Nat)(dr:Bool)(j8 ops:List x9)(T:List c7)(H:k9)(n:Nat)(rl:List c7)(l6:List Touch)(Q:List c7->k9->List c7->Prop):Prop :=
 O rl=n->Rx A l b dr j8 ops T H rl.reverse l6 Q
def lk (n:Nat)(rl:List c7)(j:Nat):Option c7:=match Nat.ble (j+1) n with
 |true=>rl[n - (j+1)]?
 |false=>K
theorem aJ (hn:O rl=n)(j:Nat):rl.reverse[j]? =lk n rl j:=by
 grind [lk,j4,Nat.ble_eq_true_of_le,List.getElem?_eq_none]
def Ek (T:List c7)(n:Nat)(rl:List c7):A3->Option c7
 | .slot s=>T[s]?
 | .loc j=>lk n rl j
 | .const v=>J v
def Oq (T:List c7)(n:Nat)(rl:List c7)(x:A3)(v:c7):Prop:=Ek T n rl x=J v/\v.I7=v
def Oq.op {x:A3}{v:c7}(h:Oq T n rl x v)(hn:O rl=n):Op T rl.reverse x v:=by
 obtain ⟨h1,h2⟩:=h;refine ⟨?_,h2⟩;cases x with
 |slot s=>exact h1
 |loc j=>simp [SO,aJ hn];exact h1
 |const u=>exact h1
def rq (T:List c7)(n:Nat)(rl:List c7):A3->c7
 | .const v=>v.Jx
 |x=>((Ek T n rl x).getD .any).I7
theorem Oq.rq {x:A3}{v:c7}(h:Oq T n rl x v):y9.rq T n rl x=v:=by
 obtain ⟨h1,h2⟩:=h;cases x with
 |const u=>simp_all [Ek,Option.some.injEq,y9.rq,Km]
 |_=>grind [y9.rq]
def M0 (hn:O rl=n)(m:Nat)(x:A3):y9.F1 T (rl.reverse++ .any::List.replicate m .any) x=rq T n rl x:=by
 cases x with
 |slot s=>rfl
 |const v=>rfl
 |loc j =>
  grind [y9.F1,rq,Ek,aJ,y7,s9,s5,List.getElem?_eq_none,List.getElem?_cons_succ]
def Ry.to {v:c7}(h:Ry A l b dr j8 ops T H (n+1) (v::rl) l6 Q)(hn:O rl=n):Rx A l b dr j8 ops T H (rl.reverse++[v]) l6 Q:=by
 have:=h (by simp [hn]);simp_all
def Rn.text {T:List c7}{H:k9}(h:Ry A l b F ops ops T H 0 [] [] Q):Rn A l b ops F T H Q:=Rn.ON (h rfl)
def Rn.draw {T:List c7}{H:k9}(h:Ry A l b W ops ops T H 0 [] [] Q)(hp:mZ ops=W:=by rfl):Rn A l b ops W T H Q:=Rn.OM hp (h rfl)
theorem Ry.pure {op:F0}{u:List Nat}{v:c7}{rs:List Nat}(hE:op.A9=F)(hp:l5 (rq T n rl) H op=J (v,rs))
  (h2:Ry A l b dr j8 ops T H (n+1) (v::rl) l6 Q):Ry A l b dr j8 (⟨op,K,K,u⟩::ops) T H n rl l6 Q:=λhn=>by
 refine Rx.pure (rs:=rs) hE (λm=>?_) (h2.to hn);rw [show y9.F1 T (rl.reverse++ .any::List.replicate m .any)=rq T n rl from funext λx=>M0 hn m x];exact hp
def Ry.nL {op:F0}{u:List Nat}{v:c7}{rs:List Nat}{s:Nat}(hE:op.A9=F)(hp:l5 (rq T n rl) H op=J (v,rs))(hv:v.I7=v)(hm:op.y3=F)(hs:T[s]?.isSome=W)
  (h2:Ry A l b dr j8 ops (T.set s v) H (n+1) (v::rl) (.slot s::l6) Q):Ry A l b dr j8 (⟨op,J s,K,u⟩::ops) T H n rl l6 Q:=λhn=>by
 have hs:s<O T:=by
  simp_all
 have KY:∀x,op≠ .dJ x:=by
  grind [l5]
 refine Rx.step (N1:=0) (rs:=rs) ?_ hm (λm _=>?_) (bZ s l6) (h2.to hn)
 .cases op<;>first|rfl|grind [F0.A9]
 .have h3:B1 (I4 A m l b) j8 K (O rl.reverse) op ⟨T,H,rl.reverse++ .any::List.replicate (O ops) .any,l6⟩=J (⟨T,H,rl.reverse++v::List.replicate (O ops) .any,l6⟩,rs):=by
   have h4:l5 (y9.F1 T (rl.reverse++ .any::List.replicate (O ops) .any)) H op=J (v,rs):=by
    rw [show y9.F1 T (rl.reverse++ .any::List.replicate (O ops) .any)=rq T n rl from funext λx=>M0 hn _ x];exact hp
   simp_all [absurd,B1,j6,if_false,put,I6,F0.A9]
  have h5:y9.E2 ⟨T,H,rl.reverse++v::List.replicate (O ops) .any,l6⟩ (.loc (O rl.reverse))=(v,⟨T,H,rl.reverse++v::List.replicate (O ops) .any,l6⟩):=by
   grind [y9.E2,c7.I7,y9.F1]
  simp_all [x8,y5,s8,C9,if_true]
def Ry.fork {j:Nat}{w:Bool}(h:lk n rl j=J (.d (.bool w)))(hj:Nat.ble (j+1) n=W)(h1:w=W->Ry A l b dr j8 ops T H n (rl.set (n - (j+1)) (.d (.bool W))) l6 Q)
  (h2:w=F->Ry A l b dr j8 ops T H n (rl.set (n - (j+1)) (.d (.bool F))) l6 Q):Ry A l b dr j8 ops T H n rl l6 Q:=by
 simp [lk,hj] at h;cases w with
 |true=>simp_all [pT]
 |false=>simp_all [pT]
theorem zA {α:Type}{enc:α->List Data}{sz:Nat}(hs:∀a,O (enc a)=sz):∀(l:List α) (i:Nat),(l.flatMap enc).take (i * sz)=(l.take i).flatMap enc
 |[],i=>U
 |a::l,0=>U
 |a::l,i+1=>by
  have h1:=zA hs l i;simp_all [List.flatMap_cons,List.take_succ_cons,List.take_append,Nat.succ_mul,Nat.add_sub_cancel,s4]
theorem S9 {α:Type}{enc:α->List Data}{sz:Nat}(hs:∀a,O (enc a)=sz):∀(l:List α),O (l.flatMap enc)=O l * sz
 |[]=>U
 |a::l=>by simp [hs a,S9 hs l,Nat.succ_mul,Nat.add_comm]
theorem ir {α:Type}{enc:α->List Data}{sz:Nat}(hs:∀a,O (enc a)=sz):∀(l:List α) (i:Nat),(l.flatMap enc).drop (i * sz)=(l.drop i).flatMap enc
 |[],i=>U
 |a::l,0=>U
 |a::l,i+1=>by
  have h1:=ir hs l i;simp_all [List.flatMap_cons,List.drop_succ_cons,List.drop_append,Nat.succ_mul,Nat.add_sub_cancel,List.drop_eq_nil_of_le]
def wv {α:Type}{enc:α->List Data}{sz:Nat}(hs:∀a,O (enc a)=sz)(l:List α)(lo hi:Nat)(h1:lo<=hi)(h2:hi<=O l) :
  Data.slice ((hi:Int) - lo).toNat (((l.flatMap enc).take (hi * sz)).drop (lo * sz))=s7 enc ((l.take hi).drop lo):=by
 simp_all [zA,ir,s7]
def A8 {α:Type}(sz:Nat)(enc:α->List Data)(xs:List α):c7:= .own sz (O xs) (xs.flatMap enc)
def uc {j:Nat}(hn:O rl=n)(hb:Nat.ble (j+1) n=W)(v:c7):rl.reverse.set j v=(rl.set (n - (j+1)) v).reverse:=by
 have hb' :j+1<=O rl:=M
 apply List.ext_getElem?;intro i
 rcases y7 i (O rl) with hi|hi
 .grind
 simp_all
def Rx.Ny {pre:List c7}{j sz bytes:Nat}{y:A3}{u:List Nat}{len m:Nat}{cells new:List Data}{vy:c7}{cs:List c7}
  (hj:pre[j]? =J (.own sz len cells)) (hy:∀m,y9.F1 T (pre++ .any::List.replicate m .any) y=vy) (hc:B4 H sz vy=J (m,cs)) (hd:H7 cs=J new) (hr:roomFor (len+m) bytes=W) (h0:0<sz)
  (h2:Rx A l b dr j8 ops T H (pre.set j (.d (.slice len cells))++[.own sz (len+m) (cells++new)]) l6 Q):Rx A l b dr j8 (⟨.append sz bytes F (.loc j) y,K,K,u⟩::ops) T H pre l6 Q:=by
 have hjl:j<O pre:=by
  grind
 have hL:∀r:List c7,(pre++ .any::r)[j]? =J (.own sz len cells):=λr=>by grind
 have Sq:y9.F1 T (pre++ .any::List.replicate (O ops) .any) (.loc j)= .d (.slice len cells):=by simp [y9.F1,hL,c7.I7]
 have hl:O (pre.set j (.d (.slice len cells)))=O pre:=U
 have h4:∀(a v:c7) (r:List c7),(pre.set j (.d (.slice len cells))++a::r).set (O pre) v=pre.set j (.d (.slice len cells))++v::r:=λa v r=>M
 refine Rx.stepG (N1:=0) (rs:=[]) hl (by simp_all [F2]) rfl (λn _=>?_) (λrs=>by simp [E6]) h2;simp_all [x8,y5,B1,F0.A9,if_true,B9,J1,j6,if_false,O6,and_self,put,s8,C9]
theorem bP:∀l:List Data,H7 (l.map .d)=J l
 |[]=>rfl
 |a::l=>by simp [H7,c7.data?,bP l]
def Ry.UE {j s sz bytes:Nat}{y:A3}{u u' :List Nat}{d' :Option Nat}{g' :Option (Nat×Bool)}{n' len m:Nat}{cs' cells new:List Data}
  (hj:lk n rl j=J (.d (.slice n' cs'))) (ha:j8[j]? =J ⟨.dJ (.slot s),d',g',u'⟩) (ht:l6.any (Touch.P9 s)=F) (hT:T[s]? =J (.own sz len cells))
  (hy:rq T n rl y= .d (.slice m new)) (hl:O new=m * sz) (hr:roomFor (len+m) bytes=W) (h0:0<sz)
  (h2:Ry A l b dr j8 ops (T.set s (.d (.slice len cells))) H (n+1) (.own sz (len+m) (cells++new)::rl) (.slot s::l6) Q):Ry A l b dr j8 (⟨.append sz bytes F (.loc j) y,K,K,u⟩::ops) T H n rl l6 Q:=λhn =>
 Rx.append (vy:= .d (.slice m new)) (by rw [aJ hn];exact hj) ha ht hT (λk=>by simp_all [M0]) (by simp_all [B4]) (bP new) hr h0 (h2.to hn)
def Ry.Rr {j sz bytes:Nat}{y:A3}{u:List Nat}{len m:Nat}{cells new:List Data}(hj:lk n rl j=J (.own sz len cells))(hb:Nat.ble (j+1) n=W)
  (hy:rq T n rl y= .d (.slice m new)) (hl:O new=m * sz) (hr:roomFor (len+m) bytes=W) (h0:0<sz)
  (h2:Ry A l b dr j8 ops T H (n+1) (.own sz (len+m) (cells++new)::rl.set (n - (j+1)) (.d (.slice len cells))) l6 Q):Ry A l b dr j8 (⟨.append sz bytes F (.loc j) y,K,K,u⟩::ops) T H n rl l6 Q:=λhn=>by
 refine Rx.Ny (vy:= .d (.slice m new)) (by rw [aJ hn];exact hj) (λk=>by simp_all [M0]) (by simp_all [B4]) (bP new) hr h0 ?_;have h3:=h2.to (by simp [hn]);simp_all [uc]
namespace S
def nl (h:Q T H rl.reverse):Ry A l b dr j8 [] T H n rl l6 Q:=λ_=>Rx.nil h
def mv {x:A3}{v:c7}{u:List Nat}(h2:Ry A l b dr j8 ops T H (n+1) (v::rl) l6 Q)(hx:Oq T n rl x (v):=by exact ⟨rfl,rfl⟩) :
  Ry A l b dr j8 (⟨.dJ x,K,K,u⟩::ops) T H n rl l6 Q:=λhn=>Rx.dJ (hx.op hn) (h2.to hn)
def mt {x:A3}{v:c7}{s:Nat}{T2:List c7}{u:List Nat}(hx:Oq T n rl x (v):=by exact ⟨rfl,rfl⟩)(hs:T[s]?.isSome=W:=by rfl)(hT:T.set s v=T2:=by simp only [List.set_cons_zero,List.set_cons_succ]<;>rfl)(h2:Ry A l b dr j8 ops T2 H (n+1) (v::rl) (.slot s::l6) Q) :
  Ry A l b dr j8 (⟨.dJ x,J s,K,u⟩::ops) T H n rl l6 Q:=λhn=>Rx.VZ (hx.op hn) hs (by rw [hT];exact h2.to hn)
theorem mo {s z n0:Nat}{cs:List Data}{u:List Nat}(h2:Ry A l b dr j8 ops T H (n+1) (.d (.slice n0 cs)::rl) l6 Q)(hx:T[s]? =J (.own z n0 cs):=by rfl) :
  Ry A l b dr j8 (⟨.dJ (.slot s),K,K,u⟩::ops) T H n rl l6 Q:=λhn=>Rx.SJ hx (h2.to hn)
def mw {j s z n0:Nat}{cs:List Data}{u:List Nat}{T2:List c7}(hj:lk n rl j=J (.own z n0 cs):=by rfl)(hb:Nat.ble (j+1) n=W:=by rfl)(hs:T[s]?.isSome=W:=by rfl)(hT:T.set s (.own z n0 cs)=T2:=by simp only [List.set_cons_zero,List.set_cons_succ]<;>rfl)
  (h2:Ry A l b dr j8 ops T2 H (n+1) (.d (.slice n0 cs)::rl.set (n - (j+1)) (.d (.slice n0 cs))) (.slot s::l6) Q):Ry A l b dr j8 (⟨.dJ (.loc j),J s,K,u⟩::ops) T H n rl l6 Q:=λhn=>by
 refine Rx.LF (by rw [aJ hn];exact hj) hs ?_;have h3:=h2.to (by simp [hn]);simp_all [uc]
def ow {s z n0:Nat}{cs:List Data}{T2:List c7}{u:List Nat}(hs:T[s]?.isSome=W:=by rfl)(hT:T.set s (.own z n0 cs)=T2:=by simp only [List.set_cons_zero,List.set_cons_succ]<;>rfl)(h2:Ry A l b dr j8 ops T2 H (n+1) (.d (.slice n0 cs)::rl) (.slot s::l6) Q) :
  Ry A l b dr j8 (⟨.dJ (.const (.own z n0 cs)),J s,K,u⟩::ops) T H n rl l6 Q:=λhn=>Rx.Wc hs (by rw [hT];exact h2.to hn)
def ad {x y:A3}{c d:Int}{u:List Nat}(h2:Ry A l b dr j8 ops T H (n+1) (.d (.int .i64 (c+d))::rl) l6 Q)(hx:rq T n rl x= .d (.int .i64 c):=by rfl)(hy:rq T n rl y= .d (.int .i64 d):=by rfl)(h0: -9223372036854775808<=c+d/\c+d<9223372036854775808:=by first|omega|(simp only [p9,Bool.and_eq_true,y4,x6,o6,beq_eq_false_iff_ne,beq_iff_eq,decide_eq_true_eq,decide_eq_false_iff_not,Bool.not_eq_true',Bool.not_eq_false'] at *;omega)) :
  Ry A l b dr j8 (⟨.bin .add x y,K,K,u⟩::ops) T H n rl l6 Q:=Ry.pure (rs:=[]) rfl (by simp_all [l5,zP]) h2
def sb {x y:A3}{c d:Int}{u:List Nat}(h2:Ry A l b dr j8 ops T H (n+1) (.d (.int .i64 (c - d))::rl) l6 Q)(hx:rq T n rl x= .d (.int .i64 c):=by rfl)(hy:rq T n rl y= .d (.int .i64 d):=by rfl)(h0: -9223372036854775808<=c - d/\c - d<9223372036854775808:=by first|omega|(simp only [p9,Bool.and_eq_true,y4,x6,o6,beq_eq_false_iff_ne,beq_iff_eq,decide_eq_true_eq,decide_eq_false_iff_not,Bool.not_eq_true',Bool.not_eq_false'] at *;omega)) :
  Ry A l b dr j8 (⟨.bin .sub x y,K,K,u⟩::ops) T H n rl l6 Q:=Ry.pure (rs:=[]) rfl (by simp_all [l5,zP]) h2
def li {x y:A3}{k:IntKind}{c d:Int}{u:List Nat}(h2:Ry A l b dr j8 ops T H (n+1) (.d (.bool (D5 c d))::rl) l6 Q)(hx:rq T n rl x= .d (.int k c):=by rfl)(hy:rq T n rl y= .d (.int k d):=by rfl) :
  Ry A l b dr j8 (⟨.bin .lss x y,K,K,u⟩::ops) T H n rl l6 Q:=Ry.pure (rs:=[]) rfl (by grind [l5,H8,Q8,W4,y4,x6,o6,bne]) h2
def lo {x y:A3}{k:IntKind}{c d:Int}{u:List Nat}(h2:Ry A l b dr j8 ops T H (n+1) (.d (.bool (T5 c d))::rl) l6 Q)(hx:rq T n rl x= .d (.int k c):=by rfl)(hy:rq T n rl y= .d (.int k d):=by rfl) :
  Ry A l b dr j8 (⟨.bin .leq x y,K,K,u⟩::ops) T H n rl l6 Q:=Ry.pure (rs:=[]) rfl (by grind [l5,H8,Q8,W4,y4,x6,o6,bne]) h2
def gi {x y:A3}{k:IntKind}{c d:Int}{u:List Nat}(h2:Ry A l b dr j8 ops T H (n+1) (.d (.bool (D5 d c))::rl) l6 Q)(hx:rq T n rl x= .d (.int k c):=by rfl)(hy:rq T n rl y= .d (.int k d):=by rfl) :
  Ry A l b dr j8 (⟨.bin .gtr x y,K,K,u⟩::ops) T H n rl l6 Q:=Ry.pure (rs:=[]) rfl (by grind [l5,H8,Q8,W4,y4,x6,o6,bne]) h2
def go {x y:A3}{k:IntKind}{c d:Int}{u:List Nat}(h2:Ry A l b dr j8 ops T H (n+1) (.d (.bool (T5 d c))::rl) l6 Q)(hx:rq T n rl x= .d (.int k c):=by rfl)(hy:rq T n rl y= .d (.int k d):=by rfl) :
  Ry A l b dr j8 (⟨.bin .geq x y,K,K,u⟩::ops) T H n rl l6 Q:=Ry.pure (rs:=[]) rfl (by grind [l5,H8,Q8,W4,y4,x6,o6,bne]) h2
def ei {x y:A3}{k:IntKind}{c d:Int}{u:List Nat}(h2:Ry A l b dr j8 ops T H (n+1) (.d (.bool (x4 c d))::rl) l6 Q)(hx:rq T n rl x= .d (.int k c):=by rfl)(hy:rq T n rl y= .d (.int k d):=by rfl) :
  Ry A l b dr j8 (⟨.bin .eql x y,K,K,u⟩::ops) T H n rl l6 Q:=Ry.pure (rs:=[]) rfl (by grind [l5,H8,Q8,W4,y4,x6,o6,bne]) h2
def ni {x y:A3}{k:IntKind}{c d:Int}{u:List Nat}(h2:Ry A l b dr j8 ops T H (n+1) (.d (.bool (!x4 c d))::rl) l6 Q)(hx:rq T n rl x= .d (.int k c):=by rfl)(hy:rq T n rl y= .d (.int k d):=by rfl) :
  Ry A l b dr j8 (⟨.bin .neq x y,K,K,u⟩::ops) T H n rl l6 Q:=Ry.pure (rs:=[]) rfl (by grind [l5,H8,Q8,W4,y4,x6,o6,bne]) h2
def es {x y:A3}{c d:List UInt8}{u:List Nat}(h2:Ry A l b dr j8 ops T H (n+1) (.d (.bool (K3 c d))::rl) l6 Q)(hx:rq T n rl x= .d (.str c):=by rfl)(hy:rq T n rl y= .d (.str d):=by rfl) :
  Ry A l b dr j8 (⟨.bin .eql x y,K,K,u⟩::ops) T H n rl l6 Q:=Ry.pure (rs:=[]) rfl (by grind [l5,H8,qq,F3]) h2
theorem ns {x y:A3}{c d:List UInt8}{u:List Nat}(h2:Ry A l b dr j8 ops T H (n+1) (.d (.bool (!K3 c d))::rl) l6 Q)(hx:rq T n rl x= .d (.str c):=by rfl)(hy:rq T n rl y= .d (.str d):=by rfl) :
  Ry A l b dr j8 (⟨.bin .neq x y,K,K,u⟩::ops) T H n rl l6 Q:=Ry.pure (rs:=[]) rfl (by grind [l5,H8,qq,F3]) h2
def ng {x:A3}{t:Bool}{u:List Nat}(h2:Ry A l b dr j8 ops T H (n+1) (.d (.bool (!t))::rl) l6 Q)(hx:rq T n rl x= .d (.bool t):=by rfl) :
  Ry A l b dr j8 (⟨.un .not x,K,K,u⟩::ops) T H n rl l6 Q:=Ry.pure (rs:=[]) rfl (by grind [l5,FO]) h2
def ln {α:Type}{enc:α->List Data}{xs:List α}{x:A3}{u:List Nat}(h2:Ry A l b dr j8 ops T H (n+1) (.d (.int .i64 (O xs:Int))::rl) l6 Q)(hx:rq T n rl x= .d (s7 enc xs):=by rfl) :
  Ry A l b dr j8 (⟨.len x,K,K,u⟩::ops) T H n rl l6 Q:=Ry.pure (rs:=[]) rfl (by grind [l5,s7,i64]) h2
def ls {x:A3}{m:Nat}{cs:List Data}{u:List Nat}(h2:Ry A l b dr j8 ops T H (n+1) (.d (.int .i64 (m:Int))::rl) l6 Q)(hx:rq T n rl x= .d (.slice m cs):=by rfl) :
  Ry A l b dr j8 (⟨.len x,K,K,u⟩::ops) T H n rl l6 Q:=Ry.pure (rs:=[]) rfl (by grind [l5,i64]) h2
def lnT {α:Type}{enc:α->List Data}{xs:List α}{x:A3}{s:Nat}{T2:List c7}{u:List Nat}(hx:rq T n rl x= .d (s7 enc xs):=by rfl)(hs:T[s]?.isSome=W:=by rfl)(hT:T.set s (.d (.int .i64 (O xs:Int)))=T2:=by simp only [List.set_cons_zero,List.set_cons_succ]<;>rfl)(h2:Ry A l b dr j8 ops T2 H (n+1) (.d (.int .i64 (O xs:Int))::rl) (.slot s::l6) Q) :
  Ry A l b dr j8 (⟨.len x,J s,K,u⟩::ops) T H n rl l6 Q:=Ry.nL (v:= .d (.int .i64 (O xs:Int))) (rs:=[]) rfl (by grind [l5,s7,i64]) rfl rfl hs M
def ldT {c:Data}{cs:List Data}{x:A3}{s:Nat}{T2:List c7}{u:List Nat}(hx:rq T n rl x= .Y4 (c::cs):=by rfl)(hs:T[s]?.isSome=W:=by rfl)(hT:T.set s (.d c)=T2:=by simp only [List.set_cons_zero,List.set_cons_succ]<;>rfl)(h2:Ry A l b dr j8 ops T2 H (n+1) (.d c::rl) (.slot s::l6) Q) :
  Ry A l b dr j8 (⟨.load K x,J s,K,u⟩::ops) T H n rl l6 Q:=Ry.nL (v:= .d c) (rs:=[]) rfl (by grind [l5]) rfl rfl hs M
def lpT {v:c7}{id o:Nat}{x:A3}{s:Nat}{T2:List c7}{u:List Nat}(hx:rq T n rl x= .ptr id o:=by rfl)(hr:rd H id o 1=J [v]:=by rfl)(hv:v.I7=v:=by rfl)(hs:T[s]?.isSome=W:=by rfl)(hT:T.set s v=T2:=by simp only [List.set_cons_zero,List.set_cons_succ]<;>rfl)(h2:Ry A l b dr j8 ops T2 H (n+1) (v::rl) (.slot s::l6) Q) :
  Ry A l b dr j8 (⟨.load K x,J s,K,u⟩::ops) T H n rl l6 Q:=Ry.nL (v:=v) (rs:=[id]) rfl (by simp_all [l5]) hv rfl hs M
def lt {x:A3}{s:List UInt8}{u:List Nat}(h2:Ry A l b dr j8 ops T H (n+1) (.d (.int .i64 (O s:Int))::rl) l6 Q)(hx:rq T n rl x= .d (.str s):=by rfl) :
  Ry A l b dr j8 (⟨.U2 x,K,K,u⟩::ops) T H n rl l6 Q:=Ry.pure (rs:=[]) rfl (by grind [l5,i64]) h2
def ix {α:Type} [Inhabited α] {enc:α->List Data}{xs:List α}{sz i:Nat}{x y:A3}{k:IntKind}{u:List Nat}(hx:rq T n rl x= .d (s7 enc xs):=by rfl)(hy:rq T n rl y= .d (.int k ((i:Nat):Int)):=by rfl)(hs:∀a,O (enc a)=sz:=by intro;rfl)(hi:i<O xs:=by first|omega|(simp only [p9,Bool.and_eq_true,y4,x6,o6,beq_eq_false_iff_ne,beq_iff_eq,decide_eq_true_eq,decide_eq_false_iff_not,Bool.not_eq_true',Bool.not_eq_false'] at *;omega))(h2:Ry A l b dr j8 ops T H (n+1) (.Y4 (enc (Y xs i)++(xs.drop (i+1)).flatMap enc)::rl) l6 Q) :
  Ry A l b dr j8 (⟨.gN sz x y,K,K,u⟩::ops) T H n rl l6 Q:=Ry.pure (rs:=[]) rfl (by
  have h3:=Kv hs xs i hi;simp_all [D6,l5,s7,Int.natCast_nonneg,and_self,if_true]) h2
def ixN {α:Type} [Inhabited α] {enc:α->List Data}{xs:List α}{sz i:Nat}{x y:A3}{k:IntKind}{u:List Nat}(hx:rq T n rl x= .d (s7 enc xs):=by rfl)(hy:rq T n rl y= .d (.int k (OfNat.ofNat i)):=by rfl)(hs:∀a,O (enc a)=sz:=by intro;rfl)(hi:i<O xs:=by first|omega|(simp only [p9,Bool.and_eq_true,y4,x6,o6,beq_eq_false_iff_ne,beq_iff_eq,decide_eq_true_eq,decide_eq_false_iff_not,Bool.not_eq_true',Bool.not_eq_false'] at *;omega))(h2:Ry A l b dr j8 ops T H (n+1) (.Y4 (enc (Y xs i)++(xs.drop (i+1)).flatMap enc)::rl) l6 Q) :
  Ry A l b dr j8 (⟨.gN sz x y,K,K,u⟩::ops) T H n rl l6 Q:=ix hx hy hs hi h2
def VV {α:Type} [Inhabited α] {enc:α->List Data}{xs:List α}{sz:Nat}{e:Int}{x y:A3}{k:IntKind}{u:List Nat}(i:Nat)(he:e=i:=by first|omega|(simp only [p9,Bool.and_eq_true,y4,x6,o6,beq_eq_false_iff_ne,beq_iff_eq,decide_eq_true_eq,decide_eq_false_iff_not,Bool.not_eq_true',Bool.not_eq_false'] at *;omega))(hx:rq T n rl x= .d (s7 enc xs):=by rfl)(hy:rq T n rl y= .d (.int k e):=by rfl)(hs:∀a,O (enc a)=sz:=by intro;rfl)(hi:i<O xs:=by first|omega|(simp only [p9,Bool.and_eq_true,y4,x6,o6,beq_eq_false_iff_ne,beq_iff_eq,decide_eq_true_eq,decide_eq_false_iff_not,Bool.not_eq_true',Bool.not_eq_false'] at *;omega))(h2:Ry A l b dr j8 ops T H (n+1) (.Y4 (enc (Y xs i)++(xs.drop (i+1)).flatMap enc)::rl) l6 Q) :
  Ry A l b dr j8 (⟨.gN sz x y,K,K,u⟩::ops) T H n rl l6 Q:=ix hx (he ▸ hy) hs hi h2
def Yq {α:Type} [Inhabited α] {enc:α->List Data}{xs:List α}{sz:Nat}{e:Int}{x y:A3}{k:IntKind}{u:List Nat}(hx:rq T n rl x= .d (s7 enc xs):=by rfl)(hy:rq T n rl y= .d (.int k e):=by rfl)(hs:∀a,O (enc a)=sz:=by intro;rfl)(hi:0<=e/\e<O xs:=by first|omega|(simp only [p9,Bool.and_eq_true,y4,x6,o6,beq_eq_false_iff_ne,beq_iff_eq,decide_eq_true_eq,decide_eq_false_iff_not,Bool.not_eq_true',Bool.not_eq_false'] at *;omega))(h2:Ry A l b dr j8 ops T H (n+1) (.Y4 (enc (Y xs e.toNat)++(xs.drop (e.toNat+1)).flatMap enc)::rl) l6 Q) :
  Ry A l b dr j8 (⟨.gN sz x y,K,K,u⟩::ops) T H n rl l6 Q:=ix hx (by rw [hy,Int.toNat_of_nonneg hi.1]) hs V h2
def ld {x:A3}{c:Data}{cs:List Data}{u:List Nat}(h2:Ry A l b dr j8 ops T H (n+1) (.d c::rl) l6 Q)(hx:rq T n rl x= .Y4 (c::cs):=by rfl) :
  Ry A l b dr j8 (⟨.load K x,K,K,u⟩::ops) T H n rl l6 Q:=Ry.pure (rs:=[]) rfl (by grind [l5]) h2
def le {x:A3}{cs rest:List Data}{m:Nat}{u:List Nat}(h2:Ry A l b dr j8 ops T H (n+1) (.agg (cs.map .d)::rl) l6 Q)(hx:rq T n rl x= .Y4 (cs++rest):=by rfl)(hm:O cs=m:=by rfl) :
  Ry A l b dr j8 (⟨.load (J m) x,K,K,u⟩::ops) T H n rl l6 Q:=Ry.pure (rs:=[]) rfl (by simp_all [l5]) h2
def lf {x:A3}{k:Nat}{cs:List Data}{u:List Nat}(h2:Ry A l b dr j8 ops T H (n+1) (.Y4 (cs.drop k)::rl) l6 Q)(hx:rq T n rl x= .Y4 cs:=by rfl) :
  Ry A l b dr j8 (⟨.off k x,K,K,u⟩::ops) T H n rl l6 Q:=Ry.pure (rs:=[]) rfl (by grind [l5]) h2
def fp {x:A3}{k id o:Nat}{u:List Nat}(h2:Ry A l b dr j8 ops T H (n+1) (.ptr id (o+k)::rl) l6 Q)(hx:rq T n rl x= .ptr id o:=by rfl) :
  Ry A l b dr j8 (⟨.off k x,K,K,u⟩::ops) T H n rl l6 Q:=Ry.pure (rs:=[]) rfl (by grind [l5]) h2
def lp {x:A3}{id o:Nat}{v:c7}{u:List Nat}(h2:Ry A l b dr j8 ops T H (n+1) (v::rl) l6 Q)(hx:rq T n rl x= .ptr id o:=by rfl)(hr:rd H id o 1=J [v]:=by rfl)(hv:v.I7=v:=by rfl) :
  Ry A l b dr j8 (⟨.load K x,K,K,u⟩::ops) T H n rl l6 Q:=Ry.pure (rs:=[id]) rfl (by simp_all [l5]) h2
def lpo {x:A3}{id o z m:Nat}{cs:List Data}{u:List Nat}(h2:Ry A l b dr j8 ops T H (n+1) (.d (.slice m cs)::rl) l6 Q)(hx:rq T n rl x= .ptr id o:=by rfl)(hr:rd H id o 1=J [.own z m cs]:=by rfl) :
  Ry A l b dr j8 (⟨.load K x,K,K,u⟩::ops) T H n rl l6 Q:=Ry.pure (rs:=[id]) rfl (by simp_all [l5,c7.I7]) h2
def lq {x:A3}{m id:Nat}{cs:List c7}{u:List Nat}(h2:Ry A l b dr j8 ops T H (n+1) (.agg cs::rl) l6 Q)(hx:rq T n rl x= .ptr id 0:=by rfl)(hr:H[id]? =J (.cells cs):=by rfl)(hm:O cs=m:=by rfl)(hv:cs.map c7.I7=cs:=by rfl) :
  Ry A l b dr j8 (⟨.load (J m) x,K,K,u⟩::ops) T H n rl l6 Q:=Ry.pure (rs:=[id]) rfl (by simp_all [l5,rd]<;>grind) h2
def et {x:A3}{i:Nat}{vs:List c7}{v:c7}{u:List Nat}(h2:Ry A l b dr j8 ops T H (n+1) (v::rl) l6 Q)(hx:rq T n rl x= .tuple vs:=by rfl)(hv:vs[i]? =J v:=by rfl) :
  Ry A l b dr j8 (⟨.extract x i,K,K,u⟩::ops) T H n rl l6 Q:=Ry.pure (rs:=[]) rfl (by simp_all [l5]) h2
def wa {op:F0}{dst:Option Nat}{j:Nat}{want:Bool}{u:List Nat}(h2:Ry A l b dr j8 (⟨op,dst,K,u⟩::ops) T H n rl l6 Q)(h:lk n rl j=J (.d (.bool want)):=by rfl) :
  Ry A l b dr j8 (⟨op,dst,J (j,want),u⟩::ops) T H n rl l6 Q:=λhn=>Rx.wanted (by rw [aJ hn];exact h) U (h2 hn)
def sk {op:F0}{j:Nat}{want:Bool}{u:List Nat}(h2:Ry A l b dr j8 ops T H (n+1) (.tuple []::rl) l6 Q)(h:lk n rl j=J (.d (.bool (!want))):=by rfl)(hk:∀L,F2 ⟨T,H,L,l6⟩ op=F:=by intro;rfl)(ha:op.y3=F:=by rfl) :
  Ry A l b dr j8 (⟨op,K,J (j,want),u⟩::ops) T H n rl l6 Q:=λhn=>Rx.Pv (by rw [aJ hn];exact h) M (hk _) ha (h2.to hn)
def st {op:F0}{j:Nat}{want:Bool}{u:List Nat}(h2:Ry A l b dr j8 ops T H (n+1) (.tuple []::rl) l6 Q)(h:lk n rl j=J (.tuple []):=by rfl)(hk:∀L,F2 ⟨T,H,L,l6⟩ op=F:=by intro;rfl)(ha:op.y3=F:=by rfl) :
  Ry A l b dr j8 (⟨op,K,J (j,want),u⟩::ops) T H n rl l6 Q:=λhn=>Rx.Mz (by simp_all [aJ]) (hk _) ha (h2.to hn)
def fk {op:F0}{dst:Option Nat}{j:Nat}{want w:Bool}{r1 r2:List c7}{u:List Nat}(h:lk n rl j=J (.d (.bool w)):=by rfl)(hj:Nat.ble (j+1) n=W:=by rfl)(ht:rl.set (n - (j+1)) (.d (.bool W))=r1:=by simp only [Nat.reduceAdd,Nat.reduceSub,List.set_cons_zero,List.set_cons_succ]<;>rfl)(hf:rl.set (n - (j+1)) (.d (.bool F))=r2:=by simp only [Nat.reduceAdd,Nat.reduceSub,List.set_cons_zero,List.set_cons_succ]<;>rfl)(h1:w=W->Ry A l b dr j8 (⟨op,dst,J (j,want),u⟩::ops) T H n r1 l6 Q)(h2:w=F->Ry A l b dr j8 (⟨op,dst,J (j,want),u⟩::ops) T H n r2 l6 Q) :
  Ry A l b dr j8 (⟨op,dst,J (j,want),u⟩::ops) T H n rl l6 Q:=Ry.fork h hj (λe=>M) (λe=>M)
def pt {c x y:A3}{v:c7}{u:List Nat}(h2:Ry A l b dr j8 ops T H (n+1) (v::rl) l6 Q)(hc:rq T n rl c= .d (.bool W):=by rfl)(hx:Oq T n rl x (v):=by exact ⟨rfl,rfl⟩) :
  Ry A l b dr j8 (⟨.pick c x y,K,K,u⟩::ops) T H n rl l6 Q:=Ry.pure (rs:=[]) rfl (by simp [l5,hc,hx.rq]) h2
def pk {c x y:A3}{v:c7}{u:List Nat}(h2:Ry A l b dr j8 ops T H (n+1) (v::rl) l6 Q)(hc:rq T n rl c= .d (.bool F):=by rfl)(hy:Oq T n rl y (v):=by exact ⟨rfl,rfl⟩) :
  Ry A l b dr j8 (⟨.pick c x y,K,K,u⟩::ops) T H n rl l6 Q:=Ry.pure (rs:=[]) rfl (by simp [l5,hc,hy.rq]) h2
def bx {x:A3}{u:List Nat}{v:c7}{cs:List c7}{s id:Nat}{T2:List c7}{H2:k9}(hx:Oq T n rl x v:=by exact ⟨rfl,rfl⟩)(hc:v.cells? =J cs:=by rfl)(hs:T[s]?.isSome=W:=by rfl)
  (hi:O H=id:=by simp only [List.length_cons,List.length_nil,Nat.reduceAdd]<;>rfl) (hT:T.set s (.ptr id 0)=T2:=by simp only [List.set_cons_zero,List.set_cons_succ]<;>rfl) (hH:H++[.cells cs]=H2:=by simp only [List.cons_append,List.nil_append]<;>rfl)
  (h2:Ry A l b F j8 ops T2 H2 (n+1) (.ptr id 0::rl) (.slot s::l6) Q):Ry A l b F j8 (⟨.box x,J s,K,u⟩::ops) T H n rl l6 Q:=λhn=>by
 subst hi;exact Rx.UF (hx.op hn) hc hs (by rw [hT,hH];exact h2.to hn)
def ac {zero:List c7}{u:List Nat}{s id:Nat}{T2:List c7}{H2:k9}(hs:T[s]?.isSome=W:=by rfl)
  (hi:O H=id:=by simp only [List.length_cons,List.length_nil,Nat.reduceAdd]<;>rfl) (hT:T.set s (.ptr id 0)=T2:=by simp only [List.set_cons_zero,List.set_cons_succ]<;>rfl) (hH:H++[.cells zero]=H2:=by simp only [List.cons_append,List.nil_append]<;>rfl)
  (h2:Ry A l b F j8 ops T2 H2 (n+1) (.ptr id 0::rl) (.slot s::l6) Q):Ry A l b F j8 (⟨.alloc zero,J s,K,u⟩::ops) T H n rl l6 Q:=λhn=>by
 have hs:s<O T:=by
  simp_all
 have h2:=h2.to hn;refine Rx.stepT (N1:=0) (rs:=[]) rfl (λn _=>?_) h2;simp_all [x8,y5,B1,F0.A9,if_true,B9,C8,newId,Option.getD_none,put,I6,s8,C9,y9.E2,y9.F1,c7.I7]
def fD {m id off:Nat}{x y:A3}{u:List Nat}{v:c7}{cs:List c7}{H2:k9}(hy:rq T n rl y= .ptr id off)(hx:Oq T n rl x v)(hc:v.cells? =J cs)(hm:O cs=m)(hl:l.may id=W)(hb:A2 cs<=id+1)
  (hw:wr H id off cs=J H2) (h2:Ry A l b F j8 ops T H2 (n+1) (.any::rl) (.obj id::l6) Q):Ry A l b F j8 (⟨.store m y x,K,K,u⟩::ops) T H n rl l6 Q:=λhn=>by
 refine Rx.stepT (N1:=0) (rs:=[]) rfl (λk _=>?_) (h2.to hn);have hl' :(I4 A k l b).lim.may id=W:=hl;simp [x8,y5,B1,F0.A9,if_true,B9,M0 hn,hy,O4,(hx.op hn).E2,hc,hm,hl',hb,true_or,and_self,hw,put,I6,s8,C9]
def so {m id:Nat}{x y:A3}{u:List Nat}{v:c7}{cs old:List c7}{H2:k9}(hy:rq T n rl y= .ptr id 0:=by rfl)(hx:Oq T n rl x v:=by exact ⟨rfl,rfl⟩)(hc:v.cells? =J cs:=by rfl)(hm:O cs=m:=by rfl)(hl:l.may id=W:=by rfl)(hb:A2 cs=0:=by rfl)
  (ho:H[id]? =J (.cells old):=by rfl) (hq:O old=m:=by rfl) (hH:H.set id (.cells cs)=H2:=by simp only [List.set_cons_zero,List.set_cons_succ]<;>rfl)
  (h2:Ry A l b F j8 ops T H2 (n+1) (.any::rl) (.obj id::l6) Q):Ry A l b F j8 (⟨.store m y x,K,K,u⟩::ops) T H n rl l6 Q :=
 fD hy hx hc hm hl V (by simp_all [wr,splice,n5]) h2
def wG {m id off:Nat}{x y:A3}{u:List Nat}{v:c7}{cs:List c7}{H2:k9}(hd:Nat.ble (kf j8) n=W)(hy:rq T n rl y= .ptr id off)(hx:Oq T n rl x v)(hc:v.cells? =J cs)(hm:O cs=m)(hl:l.may id=W)(hb:A2 cs<=id+1)
  (hw:wr H id off cs=J H2) (h2:Ry A l b dr j8 ops T H2 (n+1) (.any::rl) (.obj id::l6) Q):Ry A l b dr j8 (⟨.store m y x,K,K,u⟩::ops) T H n rl l6 Q:=λhn=>by
 refine Rx.DJ (N1:=0) (rs:=[]) rfl rfl rfl (λk _=>?_) (λh=>?_) (h2.to hn)
 .have hl' :(I4 A k l b).lim.may id=W:=hl
  simp [x8,y5,B1,F0.A9,if_true,B9,M0 hn,hy,O4,(hx.op hn).E2,hc,hm,hl',hb,true_or,and_self,hw,put,I6,s8,C9]
 simp_all<;>omega
def so1 {id off:Nat}{x y:A3}{u:List Nat}{v:c7}{old new:List c7}{H2:k9}(hy:rq T n rl y= .ptr id off:=by rfl)(hx:Oq T n rl x v:=by exact ⟨rfl,rfl⟩)(hc:v.cells? =J [v]:=by rfl)(hl:l.may id=W:=by rfl)(hb:v.F4<=id+1:=by decide)
  (ho:H[id]? =J (.cells old):=by rfl) (hq:off<O old:=by decide) (hN:old.set off v=new:=by first|(simp only [List.set_cons_zero,List.set_cons_succ];done)|rfl) (hH:H.set id (.cells new)=H2:=by simp only [List.set_cons_zero,List.set_cons_succ]<;>rfl)
  (h2:Ry A l b F j8 ops T H2 (n+1) (.any::rl) (.obj id::l6) Q):Ry A l b F j8 (⟨.store 1 y x,K,K,u⟩::ops) T H n rl l6 Q :=
 fD hy hx hc rfl hl (by simp_all [A2]) (by
  have h1:splice old off [v]=old.set off v:=by
   simp_all [splice,D9,M1,if_pos]
  grind [wr]) h2
def o1 {x:A3}{z c:Data}{u:List Nat}(h2:Ry A l b dr j8 ops T H (n+1) (.own 1 1 [c]::rl) l6 Q)(hx:rq T n rl x= .d c:=by rfl) :
  Ry A l b dr j8 (⟨.M8 1 1 [.d z] [(0,1,x)] F,K,K,u⟩::ops) T H n rl l6 Q:=Ry.pure (rs:=[]) rfl (by simp [l5,T4,hx,c7.cells?,splice,H7,c7.data?,c7.one]) h2
def ap1 {α:Type}{enc:α->List Data}{xs:List α}{j s bytes n' :Nat}{y:A3}{u' :List Nat}{d' :Option Nat}{g' :Option (Nat×Bool)}{cs' :List Data}{T2:List c7}{a:α}{c:Data}{u:List Nat}(hj:lk n rl j=J (.d (.slice n' cs')):=by rfl)(ha:j8[j]? =J ⟨.dJ (.slot s),d',g',u'⟩:=by rfl)(ht:l6.any (Touch.P9 s)=F:=by rfl)(hT:T[s]? =J (A8 1 enc xs):=by rfl)(hy:rq T n rl y= .d (.slice 1 [c]):=by rfl)(he:enc a=[c]:=by rfl)(hr:roomFor (O xs+1) bytes=W:=by simp only [roomFor,decide_eq_true_eq,List.length_append,List.length_cons,List.length_nil,List.length_take,List.length_drop,List.length_map] at * <;>omega)(hS:T.set s (.d (s7 enc xs))=T2:=by simp only [List.set_cons_zero,List.set_cons_succ]<;>rfl)(h2:Ry A l b dr j8 ops T2 H (n+1) (A8 1 enc (xs++[a])::rl) (.slot s::l6) Q) :
  Ry A l b dr j8 (⟨.append 1 bytes F (.loc j) y,K,K,u⟩::ops) T H n rl l6 Q:=Ry.UE hj ha ht hT hy rfl hr (by decide) (by
  simp_all [A8,s7])
def Ew {α:Type}{enc:α->List Data}{xs:List α}{j s sz bytes n' :Nat}{y:A3}{u' :List Nat}{d' :Option Nat}{g' :Option (Nat×Bool)}{cs' :List Data}{T2:List c7}{ys:List α}{u:List Nat}(hj:lk n rl j=J (.d (.slice n' cs')):=by rfl)(ha:j8[j]? =J ⟨.dJ (.slot s),d',g',u'⟩:=by rfl)(ht:l6.any (Touch.P9 s)=F:=by rfl)(hT:T[s]? =J (A8 sz enc xs):=by rfl)(hy:rq T n rl y= .d (s7 enc ys):=by rfl)(hs:∀a,O (enc a)=sz:=by intro;rfl)(h0:0<sz:=by decide)(hr:roomFor (O xs+O ys) bytes=W:=by simp only [roomFor,decide_eq_true_eq,List.length_append,List.length_cons,List.length_nil,List.length_take,List.length_drop,List.length_map] at * <;>omega)(hS:T.set s (.d (s7 enc xs))=T2:=by simp only [List.set_cons_zero,List.set_cons_succ]<;>rfl)(h2:Ry A l b dr j8 ops T2 H (n+1) (A8 sz enc (xs++ys)::rl) (.slot s::l6) Q) :
  Ry A l b dr j8 (⟨.append sz bytes F (.loc j) y,K,K,u⟩::ops) T H n rl l6 Q:=Ry.UE hj ha ht hT hy (S9 hs ys) hr h0 (by
  simp_all [A8,s7])
def al1 {α:Type}{enc:α->List Data}{xs:List α}{j bytes:Nat}{y:A3}{r2:List c7}{a:α}{c:Data}{u:List Nat}(hj:lk n rl j=J (A8 1 enc xs):=by rfl)(hb:Nat.ble (j+1) n=W:=by rfl)(hy:rq T n rl y= .d (.slice 1 [c]):=by rfl)(he:enc a=[c]:=by rfl)(hr:roomFor (O xs+1) bytes=W:=by simp only [roomFor,decide_eq_true_eq,List.length_append,List.length_cons,List.length_nil,List.length_take,List.length_drop,List.length_map] at * <;>omega)(hS:rl.set (n - (j+1)) (.d (s7 enc xs))=r2:=by simp only [Nat.reduceAdd,Nat.reduceSub,List.set_cons_zero,List.set_cons_succ]<;>rfl)(h2:Ry A l b dr j8 ops T H (n+1) (A8 1 enc (xs++[a])::r2) l6 Q) :
  Ry A l b dr j8 (⟨.append 1 bytes F (.loc j) y,K,K,u⟩::ops) T H n rl l6 Q:=Ry.Rr hj hb hy rfl hr (by decide) (by
  simp_all [A8,s7])
def Nv {α:Type}{enc:α->List Data}{xs:List α}{j sz bytes:Nat}{y:A3}{r2:List c7}{ys:List α}{u:List Nat}(hj:lk n rl j=J (A8 sz enc xs):=by rfl)(hb:Nat.ble (j+1) n=W:=by rfl)(hy:rq T n rl y= .d (s7 enc ys):=by rfl)(hs:∀a,O (enc a)=sz:=by intro;rfl)(h0:0<sz:=by decide)(hr:roomFor (O xs+O ys) bytes=W:=by simp only [roomFor,decide_eq_true_eq,List.length_append,List.length_cons,List.length_nil,List.length_take,List.length_drop,List.length_map] at * <;>omega)(hS:rl.set (n - (j+1)) (.d (s7 enc xs))=r2:=by simp only [Nat.reduceAdd,Nat.reduceSub,List.set_cons_zero,List.set_cons_succ]<;>rfl)(h2:Ry A l b dr j8 ops T H (n+1) (A8 sz enc (xs++ys)::r2) l6 Q) :
  Ry A l b dr j8 (⟨.append sz bytes F (.loc j) y,K,K,u⟩::ops) T H n rl l6 Q:=Ry.Rr hj hb hy (S9 hs ys) hr h0 (by
  simp_all [A8,s7])
theorem e0 {u:List Nat}(h2:Ry A l b dr j8 ops T H (n+1) (.own 1 0 []::rl) l6 Q) :
  Ry A l b dr j8 (⟨.M8 1 0 [] [] F,K,K,u⟩::ops) T H n rl l6 Q:=Ry.pure (rs:=[]) rfl (by rfl) h2
def cl {f:FuncId}{xs:List A3}{u:List Nat}{v:c7}{args:List c7}(hc:Pf A f args v)(h2:Ry A l b dr j8 ops T H (n+1) (v::rl) l6 Q)(ha:xs.map (rq T n rl)=args:=by rfl)(ee:A.prom f=F:=by rfl)(hm:A.mode f=1:=by rfl)
  (hb:A2 args=0:=by rfl):Ry A l b dr j8 (⟨.call f xs,K,K,u⟩::ops) T H n rl l6 Q:=λhn =>
 Rx.call ee hm (λm=>by rw [show y9.F1 T (rl.reverse++ .any::List.replicate m .any)=rq T n rl from funext λx=>M0 hn m x];exact ha) hb hc (h2.to hn)
def qm {zero:List c7}{parts:List (Nat×Nat×A3)}{cs:List c7}{u:List Nat}(h2:Ry A l b dr j8 ops T H (n+1) (.agg cs::rl) l6 Q)(hr:T4 zero (parts.map λp=>(p.1,p.2.1,rq T n rl p.2.2))=J cs:=by rfl) :
  Ry A l b dr j8 (⟨.build zero parts,K,K,u⟩::ops) T H n rl l6 Q:=Ry.pure (rs:=[]) rfl (by grind [l5]) h2
def xs {s:List UInt8}{i:Nat}{x y:A3}{k:IntKind}{u:List Nat}(hx:rq T n rl x= .d (.str s):=by rfl)(hy:rq T n rl y= .d (.int k ((i:Nat):Int)):=by rfl)(hi:i<O s:=by first|omega|(simp only [p9,Bool.and_eq_true,y4,x6,o6,beq_eq_false_iff_ne,beq_iff_eq,decide_eq_true_eq,decide_eq_false_iff_not,Bool.not_eq_true',Bool.not_eq_false'] at *;omega))(h2:Ry A l b dr j8 ops T H (n+1) (.d (.int .u8 ((Y s i).toNat:Int))::rl) l6 Q) :
  Ry A l b dr j8 (⟨.F7 x y,K,K,u⟩::ops) T H n rl l6 Q:=Ry.pure (rs:=[]) rfl (by simp_all [l5,n9,D6]) h2
def qs {neg t:Bool}{ks:List CK}{x y:A3}{va vb:List c7}{u:List Nat}(h2:Ry A l b dr j8 ops T H (n+1) (.d (.bool (neg != t))::rl) l6 Q)(hx:rq T n rl x= .agg va:=by rfl)(hy:rq T n rl y= .agg vb:=by rfl)(hr:M7 ks va vb=J t:=by rfl) :
  Ry A l b dr j8 (⟨.NL neg ks x y,K,K,u⟩::ops) T H n rl l6 Q:=Ry.pure (rs:=[]) rfl (by simp_all [l5]) h2
def qb {neg s t:Bool}{x y:A3}{u:List Nat}(h2:Ry A l b dr j8 ops T H (n+1) (.d (.bool (neg != (s==t)))::rl) l6 Q)(hx:rq T n rl x= .d (.bool s):=by rfl)(hy:rq T n rl y= .d (.bool t):=by rfl) :
  Ry A l b dr j8 (⟨.x4 neg x y,K,K,u⟩::ops) T H n rl l6 Q:=Ry.pure (rs:=[]) rfl (by simp_all [l5]) h2
def mm {isMax:Bool}{xs:List A3}{c d:Data}{r:List c7}{u:List Nat}(h2:Ry A l b dr j8 ops T H (n+1) (.d d::rl) l6 Q)(ha:xs.map (rq T n rl)= .d c::r:=by rfl)(hr:cG isMax c r=J d:=by rfl) :
  Ry A l b dr j8 (⟨.gQ isMax xs,K,K,u⟩::ops) T H n rl l6 Q:=Ry.pure (rs:=[]) rfl (by simp_all [l5]) h2
def ip {m sz i:Nat}{x y:A3}{k:IntKind}{cs:List Data}{u:List Nat}(h2:Ry A l b dr j8 ops T H (n+1) (.Y4 (cs.drop (i * sz))::rl) l6 Q)(hx:rq T n rl x= .Y4 cs:=by rfl)(hy:rq T n rl y= .d (.int k ((i:Nat):Int)):=by rfl)(hi:i<m:=by omega) :
  Ry A l b dr j8 (⟨.tw m sz x y,K,K,u⟩::ops) T H n rl l6 Q:=Ry.pure (rs:=[]) rfl (by
  simp_all [l5]) h2
def svh {α:Type} [Inhabited α] {enc:α->List Data}{xs:List α}{sz i:Nat}{x y:A3}{k:IntKind}{u:List Nat}(hx:rq T n rl x= .d (s7 enc xs):=by rfl)(hy:rq T n rl y= .d (.int k ((i:Nat):Int)):=by rfl)(hs:∀a,O (enc a)=sz:=by intro;rfl)(hi:i<=O xs:=by first|omega|(simp only [p9,Bool.and_eq_true,y4,x6,o6,beq_eq_false_iff_ne,beq_iff_eq,decide_eq_true_eq,decide_eq_false_iff_not,Bool.not_eq_true',Bool.not_eq_false'] at *;omega))(h2:Ry A l b dr j8 ops T H (n+1) (.d (s7 enc (xs.take i))::rl) l6 Q) :
  Ry A l b dr j8 (⟨.bE sz x K (J y),K,K,u⟩::ops) T H n rl l6 Q:=Ry.pure (rs:=[]) rfl (by
  have h1:=wv hs xs 0 i (Nat.zero_le _) hi
  grind [S9,s7,l5,S6]) h2
def svl {α:Type} [Inhabited α] {enc:α->List Data}{xs:List α}{sz i:Nat}{x y:A3}{k:IntKind}{u:List Nat}(hx:rq T n rl x= .d (s7 enc xs):=by rfl)(hy:rq T n rl y= .d (.int k ((i:Nat):Int)):=by rfl)(hs:∀a,O (enc a)=sz:=by intro;rfl)(hi:i<=O xs:=by first|omega|(simp only [p9,Bool.and_eq_true,y4,x6,o6,beq_eq_false_iff_ne,beq_iff_eq,decide_eq_true_eq,decide_eq_false_iff_not,Bool.not_eq_true',Bool.not_eq_false'] at *;omega))(h2:Ry A l b dr j8 ops T H (n+1) (.d (s7 enc (xs.drop i))::rl) l6 Q) :
  Ry A l b dr j8 (⟨.bE sz x (J y) K,K,K,u⟩::ops) T H n rl l6 Q:=Ry.pure (rs:=[]) rfl (by
  have h3:O (xs.flatMap enc)=O xs * sz:=S9 hs xs;simp_all [s4,ir,s7,l5,S6]) h2
def svb {α:Type} [Inhabited α] {enc:α->List Data}{xs:List α}{sz i j:Nat}{x y z:A3}{k k' :IntKind}{u:List Nat}(hx:rq T n rl x= .d (s7 enc xs):=by rfl)(hy:rq T n rl y= .d (.int k ((i:Nat):Int)):=by rfl)(hz:rq T n rl z=(.d (.int k' ((j:Nat):Int))):=by rfl)(hs:∀a,O (enc a)=sz:=by intro;rfl)(hij:i<=j/\j<=O xs:=by first|omega|(simp only [p9,Bool.and_eq_true,y4,x6,o6,beq_eq_false_iff_ne,beq_iff_eq,decide_eq_true_eq,decide_eq_false_iff_not,Bool.not_eq_true',Bool.not_eq_false'] at *;omega))(h2:Ry A l b dr j8 ops T H (n+1) (.d (s7 enc ((xs.take j).drop i))::rl) l6 Q) :
  Ry A l b dr j8 (⟨.bE sz x (J y) (J z),K,K,u⟩::ops) T H n rl l6 Q:=Ry.pure (rs:=[]) rfl (by
  have h1:=wv hs xs i j hij.1 hij.2;have h3:O (xs.flatMap enc)=O xs * sz:=S9 hs xs;simp_all [s7,l5,S6,Int.natCast_nonneg,and_self,if_true,Int.toNat_natCast]) h2
end S
end
def qP (z:Nat):List c7->k9->F9->Option (c7×k9)
 |[.N9,.d (.int .i64 n)],H,_=>if 0<n/\n<=1000000 then J (.own z 0 [],H) else K
 |_,_,_=>K
def nE:List (Key×c7)->Option (List (Int×Int))
 |[]=>J []
 |(.st [.i .i64 a,.i .i64 b],_)::r=>match nE r with
  |some l=>J ((a,b)::l)
  |none=>K
 |_=>K
def V9:List (Int×Int)->List Data
 |[]=>[]
 |(a,b)::r=> .int .i64 a:: .int .i64 b::V9 r
def ints (l:List Int):Data:=s7 (λn=>[Z n]) l
def hasB (l:List Int)(n:Int):Bool:=l.any λx=>x4 x n
section
variable {A:Prog} {l:F9} {b:Nat}
variable {dr:Bool} {j8 ops:List x9} {T:List c7} {H:k9} {n:Nat} {rl:List c7} {l6:List Touch} {Q:List c7->k9->List c7->Prop}
namespace S
def bxn {x:A3}{u:List Nat}{v:c7}{cs:List c7}{id:Nat}{H2:k9}(hx:Oq T n rl x v:=by exact ⟨rfl,rfl⟩)(hc:v.cells? =J cs:=by rfl)
  (hi:O H=id:=by simp only [List.length_cons,List.length_nil,Nat.reduceAdd]<;>rfl) (hH:H++[.cells cs]=H2:=by simp only [List.cons_append,List.nil_append]<;>rfl)
  (h2:Ry A l b F j8 ops T H2 (n+1) (.ptr id 0::rl) l6 Q):Ry A l b F j8 (⟨.box x,K,K,u⟩::ops) T H n rl l6 Q:=λhn=>by
 subst hi;have h2:=h2.to hn;rw [<- hH] at h2;refine Rx.stepT (N1:=0) (rs:=[]) rfl (λn _=>?_) h2;simp [x8,y5,B1,F0.A9,if_true,B9,(hx.op hn).F1,hc,C8,newId,Option.getD_none,put,I6,s8,C9]
def nk {x:A3}{u:List Nat}{id o:Nat}(h2:Ry A l b dr j8 ops T H (n+1) (.ptr id o::rl) l6 Q)(hx:rq T n rl x= .ptr id o:=by rfl):Ry A l b dr j8 (⟨.oT x,K,K,u⟩::ops) T H n rl l6 Q :=
 Ry.pure (rs:=[]) rfl (by grind [l5]) h2
def mu {x y:A3}{u:List Nat}{c d:Int}(h2:Ry A l b dr j8 ops T H (n+1) (.d (.int .i64 (c * d))::rl) l6 Q)(h0: -9223372036854775808<=c * d/\c * d<9223372036854775808)(hx:rq T n rl x= .d (.int .i64 c):=by rfl)(hy:rq T n rl y= .d (.int .i64 d):=by rfl) :
  Ry A l b dr j8 (⟨.bin .mul x y,K,K,u⟩::ops) T H n rl l6 Q :=
 Ry.pure (rs:=[]) rfl (by simp_all [l5,H8,Q8,W4,wrap_small]) h2
def ipM {m sz i:Nat}{x y:A3}{u:List Nat}{k:IntKind}{cs:List Data}(h2:Ry A l b dr j8 ops T H (n+1) (.Y4 (cs.drop (i * sz))::rl) l6 Q)(hx:rq T n rl x= .Y4 cs:=by rfl)(hy:rq T n rl y= .d (.int k (OfNat.ofNat i)):=by rfl)
  (hi:i<m:=by decide):Ry A l b dr j8 (⟨.tw m sz x y,K,K,u⟩::ops) T H n rl l6 Q:=ip h2 hx hy hi
end S
def Ex.L9 {mask:List Bool}{body:K7}{R:G6->St->Prop}(Inv:Nat->List c7->k9->Prop)
  (hb:∀k T' H',Inv k T' H' ->Ex A l b body ⟨T',H'⟩ (jO R λs=>∃k',k' <k/\∃T2 H2,clean mask l.strict (O H) s=⟨T2,H2⟩/\Inv k' T2 H2)) {k:Nat} (h:Inv k (P8 mask T) H):Ex A l b (.loop mask body) ⟨T,H⟩ R:=by
 refine Ex.loop (λk s=>∃T2 H2,clean mask l.strict (O H) s=⟨T2,H2⟩/\Inv k T2 H2) (λk s ⟨T2,H2,e,hs⟩=>?_) (k:=k) ⟨P8 mask T,H,qy rfl,h⟩;simp_all
end
section
variable {A:Prog} {l:F9} {b:Nat}
variable {dr:Bool} {j8 ops:List x9} {T:List c7} {H:k9} {n:Nat} {rl:List c7} {l6:List Touch} {Q:List c7->k9->List c7->Prop}
def Ex.mE {c:A3}{d e:K7}{t:Bool}{Q:G6->St->Prop}(h2:Ex A l b d ⟨T,H⟩ Q)(h1:F1 T [] c= .d (.bool t):=by rfl)(ht:t=W:=by assumption):Ex A l b (.cond c d e) ⟨T,H⟩ Q :=
 Ex.cond h1 (λ_=>h2) (λh=>M)
namespace S
def lq3 {x:A3}{u:List Nat}{id o:Nat}{v1 v2 v3:Data}(h2:Ry A l b dr j8 ops T H (n+1) (.agg [.d v1,.d v2,.d v3]::rl) l6 Q)(hx:rq T n rl x= .ptr id o:=by rfl)(hr:rd H id o 3=J [.d v1,.d v2,.d v3]:=by rfl) :
  Ry A l b dr j8 (⟨.load (J 3) x,K,K,u⟩::ops) T H n rl l6 Q :=
 Ry.pure (rs:=[id]) rfl (by simp_all [l5,E8,List.map_nil,c7.I7]) h2
def o1z {x:A3}{u:List Nat}{z:c7}{c:Data}(h2:Ry A l b dr j8 ops T H (n+1) (.own 1 1 [c]::rl) l6 Q)(hx:rq T n rl x= .d c:=by rfl):Ry A l b dr j8 (⟨.M8 1 1 [z] [(0,1,x)] F,K,K,u⟩::ops) T H n rl l6 Q :=
 Ry.pure (rs:=[]) rfl (by simp [l5,T4,hx,c7.cells?,splice,H7,c7.data?,c7.one]) h2
def clT {f:FuncId}{xs:List A3}{u:List Nat}{v:c7}{args:List c7}{s:Nat}{T2:List c7}(hc:Pf A f args v)(ha:xs.map (rq T n rl)=args:=by rfl)(ee:A.prom f=F:=by rfl)(hm:A.mode f=1:=by rfl)
  (hb:A2 args=0:=by rfl) (hv:v.I7=v:=by rfl) (hs:T[s]?.isSome=W:=by rfl) (hT:T.set s v=T2:=by simp only [List.set_cons_zero,List.set_cons_succ]<;>rfl)
  (h2:Ry A l b dr j8 ops T2 H (n+1) (v::rl) (.slot s::l6) Q):Ry A l b dr j8 (⟨.call f xs,J s,K,u⟩::ops) T H n rl l6 Q:=λhn=>by
 obtain ⟨d8,hc⟩:=hc;have hs:s<O T:=by
  simp_all
 have h2:=h2.to hn;refine Rx.step (N1:=d8) (rs:=[]) rfl rfl (λk hk=>?_) (bZ s l6) h2;have h3:B7 (I4 A k l b) (O rl.reverse) f args ⟨T,H,rl.reverse++ .any::List.replicate (O ops) .any,l6⟩=J (put ⟨T,H,rl.reverse++ .any::List.replicate (O ops) .any,l6⟩ (O rl.reverse) v) :=
  aL ee hm hb (hc k hk)
 have TZ :xs.map (y9.F1 T (rl.reverse++ .any::List.replicate (O ops) .any))=args:=by
  rw [show y9.F1 T (rl.reverse++ .any::List.replicate (O ops) .any)=rq T n rl from funext λx=>M0 hn _ x];exact ha
 have h5:y9.E2 ⟨T,H,rl.reverse++v::List.replicate (O ops) .any,l6⟩ (.loc (O rl.reverse))=(v,⟨T,H,rl.reverse++v::List.replicate (O ops) .any,l6⟩):=by
  grind [y9.E2,c7.I7,y9.F1]
 simp_all [x8,y5,B1,F0.A9,if_true,B9,s8,C9,put,I6]
end S
end
section
variable {A:Prog} {l:F9} {b:Nat}
variable {dr:Bool} {j8 ops:List x9} {T:List c7} {H:k9} {n:Nat} {rl:List c7} {l6:List Touch} {Q:List c7->k9->List c7->Prop}
namespace S
def df {f:FuncId}{a c:List c7}{u:List Nat}(h2:Ry A l b dr j8 ops T H (n+1) (.any::rl) l6 Q)(hi:A.idle f=W:=by rfl):Ry A l b dr j8 (⟨.defer (.const (.func f a c)),K,K,u⟩::ops) T H n rl l6 Q:=λhn=>by
 refine Rx.step (N1:=0) (rs:=[]) rfl rfl (λk _=>?_) (λrs=>by simp [E6]) (h2.to hn);simp_all [I4,x8,y5,B1,F0.A9,if_true,B9,y9.F1,c7.Jx,c7.I7,put,I6,s8,C9]
def dfl {f:FuncId}{x:A3}{a c:List c7}{u:List Nat}(h2:Ry A l b dr j8 ops T H (n+1) (.any::rl) l6 Q)(hx:rq T n rl x= .func f a c:=by rfl)(hi:A.idle f=W:=by rfl):Ry A l b dr j8 (⟨.defer x,K,K,u⟩::ops) T H n rl l6 Q:=λhn=>by
 refine Rx.step (N1:=0) (rs:=[]) rfl rfl (λk _=>?_) (λrs=>by simp [E6]) (h2.to hn);simp_all [I4,x8,y5,B1,F0.A9,if_true,B9,M0,put,I6,s8,C9]
def Yo {m sz o id o2:Nat}{x y:A3}{u:List Nat}{k:IntKind}{e:Int}(i:Nat)(he:e=i)(ho:o+i * sz=o2)(hi:i<m)(h2:Ry A l b dr j8 ops T H (n+1) (.ptr id o2::rl) l6 Q)(hx:rq T n rl x= .ptr id o:=by rfl)(hy:rq T n rl y= .d (.int k e):=by rfl) :
  Ry A l b dr j8 (⟨.tw m sz x y,K,K,u⟩::ops) T H n rl l6 Q:=by
 refine Ry.pure (rs:=[]) rfl ?_ h2;simp_all [l5]
def mf {f:FuncId}{a c:List A3}{u:List Nat}{va vc:List c7}(h2:Ry A l b dr j8 ops T H (n+1) (.func f va vc::rl) l6 Q)(ha:a.map (rq T n rl)=va:=by rfl)(hc:c.map (rq T n rl)=vc:=by rfl):Ry A l b dr j8 (⟨.jk f a c,K,K,u⟩::ops) T H n rl l6 Q :=
 Ry.pure (rs:=[]) rfl (by simp_all [l5]) h2
end S
end
section
variable {A:Prog} {l:F9} {b:Nat}
variable {dr:Bool} {j8 ops:List x9} {T:List c7} {H:k9} {n:Nat} {rl:List c7} {l6:List Touch} {Q:List c7->k9->List c7->Prop}
namespace S
def ak9 {m sz i o id:Nat}{x y:A3}{u:List Nat}{k:IntKind}(h2:Ry A l b dr j8 ops T H (n+1) (.ptr id (o+i * sz)::rl) l6 Q)(hx:rq T n rl x= .ptr id o:=by rfl)(hy:rq T n rl y= .d (.int k (OfNat.ofNat i)):=by rfl)(hi:i<m:=by decide) :
  Ry A l b dr j8 (⟨.tw m sz x y,K,K,u⟩::ops) T H n rl l6 Q:=Yo i rfl rfl hi h2 hx hy
end S
end
section
variable {A:Prog} {l:F9} {b:Nat}
variable {dr:Bool} {j8 ops:List x9} {T:List c7} {H:k9} {n:Nat} {rl:List c7} {l6:List Touch} {Q:List c7->k9->List c7->Prop}
namespace S
def sp1 {id off:Nat}{x y:A3}{u:List Nat}{v:c7}{old new:List c7}{H2:k9}(hy:rq T n rl y= .ptr id off:=by rfl)(hx:Oq T n rl x v:=by exact ⟨rfl,rfl⟩)(hc:v.cells? =J [v]:=by rfl)(hl:l.may id=W:=by rfl)(hb:v.F4<=id+1:=by exact Nat.zero_le _)
  (ho:H[id]? =J (.cells old):=by rfl) (hq:off<O old:=by simp) (hN:old.set off v=new:=by first|(simp only [List.set_cons_zero,List.set_cons_succ];done)|rfl) (hH:H.set id (.cells new)=H2:=by simp only [List.set_cons_zero,List.set_cons_succ]<;>rfl)
  (h2:Ry A l b F j8 ops T H2 (n+1) (.any::rl) (.obj id::l6) Q):Ry A l b F j8 (⟨.store 1 y x,K,K,u⟩::ops) T H n rl l6 Q:=so1 hy hx hc hl hb ho hq hN hH h2
end S
end
section
variable {A:Prog} {l:F9} {b:Nat}
variable {dr:Bool} {j8 ops:List x9} {T:List c7} {H:k9} {n:Nat} {rl:List c7} {l6:List Touch} {Q:List c7->k9->List c7->Prop}
namespace S
def alE {α:Type}{enc:α->List Data}{ys:List α}{j sz bytes:Nat}{y:A3}{u:List Nat}{r2:List c7}(hj:lk n rl j=J (.own sz 0 []):=by rfl)(hb:Nat.ble (j+1) n=W:=by rfl)(hy:rq T n rl y= .d (s7 enc ys):=by rfl)
  (hs:∀a,O (enc a)=sz:=by intro;rfl) (h0:0<sz:=by decide) (hr:roomFor (0+O ys) bytes=W:=by simp only [roomFor,decide_eq_true_eq,List.length_append,List.length_cons,List.length_nil,List.length_take,List.length_drop,List.length_map] at * <;>omega)
  (hS:rl.set (n - (j+1)) (.d (.slice 0 []))=r2:=by simp only [Nat.reduceAdd,Nat.reduceSub,List.set_cons_zero,List.set_cons_succ]<;>rfl) (h2:Ry A l b dr j8 ops T H (n+1) (A8 sz enc ys::r2) l6 Q) :
  Ry A l b dr j8 (⟨.append sz bytes F (.loc j) y,K,K,u⟩::ops) T H n rl l6 Q :=
 Ry.Rr hj hb hy (S9 hs ys) hr h0 (by
  simp_all [A8])
end S
end
section
variable {A:Prog} {l:F9} {b:Nat}
def Ex.xR {c:K7}{st:St}{R:G6->St->Prop}{go:St->Prop}(P:St->Prop)(h1:Ex A l b c st (jO (λ_ _=>False) P))(h2:∀s,P s->go s):Ex A l b c st (jO R go):=by
 refine h1.mono λx s h=>?_
 cases x with
 |normal=>exact h2 s h
 |exit i=>exact h.elim
 |ret=>exact h.elim
end
section
variable {A:Prog} {l:F9} {b:Nat}
variable {dr:Bool} {j8 ops:List x9} {T:List c7} {H:k9} {n:Nat} {rl:List c7} {l6:List Touch} {Q:List c7->k9->List c7->Prop}
namespace S
def mvS {s:Nat}{u:List Nat}{w v:c7}(hv:w.I7=v)(h2:Ry A l b dr j8 ops T H (n+1) (v::rl) l6 Q)(hx:T[s]? =J w:=by rfl):Ry A l b dr j8 (⟨.dJ (.slot s),K,K,u⟩::ops) T H n rl l6 Q:=λhn=>by
 refine Rx.step (N1:=0) (rs:=[]) rfl rfl (λk _=>?_) (λrs=>by simp [E6]) (h2.to hn);simp_all [y9.F1,List.replicate,x8,y5,B1,F0.A9,j6,if_false,y9.E2,put,I6,s8,C9]
end S
end
def Pm (A:Prog)(f:FuncId)(args:List c7)(H:k9)(l:F9)(v:c7)(H1:k9):Prop:=∃N,∀n,N<=n->call A n f args H l=J (v,H1)
def Pq (A:Prog)(f:FuncId)(args:List c7)(H:k9)(l:F9)(Post:c7->k9->Prop):Prop:=∃v H1,Post v H1/\Pm A f args H l v H1
section
variable {A:Prog} {l:F9} {b:Nat}
def Pq.run {f:FuncId}{af:p6}{args:List c7}{H:k9}{Post:c7->k9->Prop}(T:List c7)(hp:A.aB f=K)(hf:A.fn f=J af)(hn:O args=af.nparams)(hb:O H=b)
  (hT:args++List.replicate (O af.names - O args) .any=T) (h:Ex A l b af.body ⟨T,H⟩ λx s=>∃w H1,R4 af b (J (x,s))=J (w,H1)/\Post w H1):Pq A f args H l Post:=by
 obtain ⟨x,s,N,⟨w,H1,hq,hP⟩,h⟩:=h;refine ⟨w,H1,hP,N+1,λn hn' =>?_⟩;obtain ⟨n,rfl⟩:∃j,n=j+1:=⟨n - 1,V⟩;simp_all [zV,og,I4]
def G9 {H:k9}{s k n:Nat}(h:D3 ((H.take n).drop s)<=n):D4 H s (k+1) n=n:=by
 simp_all [D4,if_pos]
def ig {E:Env}{k m:Nat}{f:FuncId}{args:List c7}{st:F5}{v:c7}{H1:k9}{l2:F9}(ee:E.prom f=F)(hm:E.mode f=0)(hc:D4 st.H E.lim.strict 8 (A2 args)=m)(hle:m<=O st.H)(cQ:D3 ((st.H.take m).drop E.lim.strict)<=m)
  (jH:(⟨E.lim.Ef,E.lim.Ee,m,A6 st.H E.lim.strict m⟩:F9)=l2) (h:E.cf f args (st.H.take m) l2=J (v,H1)) (hH:O H1=m) :
  B7 E k f args st=J (put { st with H:=H1++st.H.drop m,l6:= .below m::st.l6 } k v):=by
 simp_all [B7,and_self,if_true,j6,if_false]
def uw {E:Env}{k m:Nat}{f:FuncId}{args:List c7}{st:F5}{v:c7}{H1:k9}{l2:F9}(ee:E.prom f=F)(hm:E.mode f=1)(hc:D4 st.H E.lim.strict 8 (A2 args)=m)(hle:m<=O st.H)(cQ:D3 ((st.H.take m).drop E.lim.strict)<=m)
  (jH:(⟨0,m,m,A6 st.H E.lim.strict m⟩:F9)=l2) (h:E.cf f args (st.H.take m) l2=J (v,H1)) (hH:O H1=m) :
  B7 E k f args st=J (put st k v):=by
 simp_all [B7,and_self,if_true,j6,if_false]
variable {dr:Bool} {j8 ops:List x9} {T:List c7} {H:k9} {n:Nat} {rl:List c7} {l6:List Touch} {Q:List c7->k9->List c7->Prop}
def aq (hn:O rl=n)(xs:List A3):xs.map (y9.F1 T (rl.reverse++ .any::List.replicate (O ops) .any))=xs.map (rq T n rl):=by
 rw [show y9.F1 T (rl.reverse++ .any::List.replicate (O ops) .any)=rq T n rl from funext λx=>M0 hn _ x]
namespace S
def c0 {f:FuncId}{xs:List A3}{u:List Nat}{v:c7}{args:List c7}{m:Nat}{H0 HD H1 H2:k9}{l2:F9}(hc:Pm A f args H0 l2 v H1)(GF:O H1=m)(cQ:D3 ((H.take m).drop l.strict)<=m:=by exact Nat.zero_le _)(hcl:D4 H l.strict 8 (A2 args)=m:=by rfl)
  (EX:H.take m=H0:=by rfl) (hle:Nat.ble m (O H)=W:=by rfl) (jH:(⟨l.Ef,l.Ee,m,A6 H l.strict m⟩:F9)=l2:=by rfl) (hd:dr=W->Nat.ble (kf j8) n=W:=by intro;rfl)
  (ha:xs.map (rq T n rl)=args:=by rfl) (ee:A.prom f=F:=by rfl) (hm:A.mode f=0:=by rfl) (hD:H.drop m=HD:=by rfl) (hA:H1++HD=H2:=by first|(simp only [List.cons_append,List.nil_append]<;>rfl)|rfl)
  (h2:Ry A l b dr j8 ops T H2 (n+1) (v::rl) (.below m::l6) Q):Ry A l b dr j8 (⟨.call f xs,K,K,u⟩::ops) T H n rl l6 Q:=λhn=>by
 obtain ⟨d8,hc⟩:=hc;subst EX hD hA;have h2:=h2.to hn;have e1:∀k,d8<=k->x8 (I4 A k l b) j8 K (O rl.reverse) ⟨.call f xs,K,K,u⟩ ⟨T,H,rl.reverse++ .any::List.replicate (O ops) .any,l6⟩=J (⟨T,H1++H.drop m,rl.reverse++v::List.replicate (O ops) .any,.below m::l6⟩,[]):=λk hk=>by
  have h3:B7 (I4 A k l b) (O rl.reverse) f args ⟨T,H,rl.reverse++ .any::List.replicate (O ops) .any,l6⟩=J (put ⟨T,H1++H.drop m,rl.reverse++ .any::List.replicate (O ops) .any,.below m::l6⟩ (O rl.reverse) v) :=
   ig ee hm hcl (j4 hle) cQ jH (hc k hk) GF
  simp_all [x8,y5,B1,F0.A9,if_true,B9,aq,s8,C9,put,I6]
 cases dr with
 |false=>exact Rx.stepT (N1:=d8) (rs:=[]) rfl e1 h2
 |true =>
  refine Rx.DJ (N1:=d8) (rs:=[]) rfl rfl rfl e1 (λh=>?_) h2;simp_all<;>omega
def c1 {f:FuncId}{xs:List A3}{u:List Nat}{v:c7}{args:List c7}{m:Nat}{H0 H1:k9}{l2:F9}(hc:Pm A f args H0 l2 v H1)(GF:O H1=m)(h2:Ry A l b dr j8 ops T H (n+1) (v::rl) l6 Q)(cQ:D3 ((H.take m).drop l.strict)<=m:=by exact Nat.zero_le _)(hcl:D4 H l.strict 8 (A2 args)=m:=by rfl)
  (EX:H.take m=H0:=by rfl) (hle:Nat.ble m (O H)=W:=by rfl) (jH:(⟨0,m,m,A6 H l.strict m⟩:F9)=l2:=by rfl)
  (ha:xs.map (rq T n rl)=args:=by rfl) (ee:A.prom f=F:=by rfl) (hm:A.mode f=1:=by rfl):Ry A l b dr j8 (⟨.call f xs,K,K,u⟩::ops) T H n rl l6 Q:=λhn=>by
 obtain ⟨d8,hc⟩:=hc;refine Rx.step (N1:=d8) (rs:=[]) rfl rfl (λk hk=>?_) (λrs=>by simp [E6]) (h2.to hn);simp_all [B7,I4,List.replicate,put,uw,j4,x8,y5,B1,F0.A9,if_true,B9,aq,s8,C9,I6]
def cv {f:FuncId}{x:A3}{xs:List A3}{u:List Nat}{v:c7}{first caps args:List c7}(hc:Pf A f args v)(h2:Ry A l b dr j8 ops T H (n+1) (v::rl) l6 Q)(hx:rq T n rl x= .func f first caps:=by rfl)(ha:first++xs.map (rq T n rl)++caps=args:=by rfl)(ee:A.prom f=F:=by rfl)(hm:A.mode f=1:=by rfl)
  (hb:A2 args=0:=by rfl):Ry A l b dr j8 (⟨.bJ x xs,K,K,u⟩::ops) T H n rl l6 Q:=λhn=>by
 obtain ⟨d8,hc⟩:=hc;refine Rx.step (N1:=d8) (rs:=[]) rfl rfl (λk hk=>?_) (λrs=>by simp [E6]) (h2.to hn);have h3:B7 (I4 A k l b) (O rl.reverse) f args ⟨T,H,rl.reverse++ .any::List.replicate (O ops) .any,l6⟩=J (put ⟨T,H,rl.reverse++ .any::List.replicate (O ops) .any,l6⟩ (O rl.reverse) v) :=
  aL ee hm hb (hc k hk)
 simp_all [x8,y5,B1,F0.A9,if_true,B9,M0,aq,s8,C9,put,I6]
def lk1 {kk:KK}{zero:c7}{x y:A3}{u:List Nat}{id:Nat}{key:Key}{es:List (Key×c7)}{r:Option c7}{v:c7}(hr:Z8 kk key es=J r)(hv:r.getD zero=v)(h2:Ry A l b dr j8 ops T H (n+1) (v::rl) l6 Q)
  (hx:rq T n rl x= .map id:=by rfl) (hy:(rq T n rl y).Fj =J key:=by rfl) (ho:H[id]? =J (.map es):=by rfl) (hf:kk.fits key=W:=by rfl):Ry A l b dr j8 (⟨.lookup kk zero F x y,K,K,u⟩::ops) T H n rl l6 Q :=
 Ry.pure (rs:=[id]) rfl (by simp_all [l5]) h2
def lk2 {kk:KK}{zero:c7}{x y:A3}{u:List Nat}{id:Nat}{key:Key}{es:List (Key×c7)}{r:Option c7}{v:c7}{t:Bool}(hr:Z8 kk key es=J r)(hv:r.getD zero=v)(ht:r.isSome=t)(h2:Ry A l b dr j8 ops T H (n+1) (.tuple [v,.d (.bool t)]::rl) l6 Q)
  (hx:rq T n rl x= .map id:=by rfl) (hy:(rq T n rl y).Fj =J key:=by rfl) (ho:H[id]? =J (.map es):=by rfl) (hf:kk.fits key=W:=by rfl):Ry A l b dr j8 (⟨.lookup kk zero W x y,K,K,u⟩::ops) T H n rl l6 Q :=
 Ry.pure (rs:=[id]) rfl (by simp_all [l5]) h2
def mp {kk:KK}{x y z:A3}{u:List Nat}{id:Nat}{key:Key}{es es' :List (Key×c7)}{v:c7}{H2:k9}(hr:bA kk key v es=J es')(hk:Data.aP kk key key=J W)(hx:rq T n rl x= .map id:=by rfl)(hy:(rq T n rl y).Fj =J key:=by rfl)(hz:rq T n rl z=v:=by rfl)(hbv:v.F4<=id+1:=by exact Nat.zero_le _)(hl:l.may id=W:=by rfl)
  (ho:H[id]? =J (.map es):=by rfl) (hd:dr=W->Nat.ble (kf j8) n=W:=by intro;rfl) (hH:H.set id (.map es')=H2:=by simp only [List.set_cons_zero,List.set_cons_succ]<;>rfl)
  (h2:Ry A l b dr j8 ops T H2 (n+1) (.any::rl) (.obj id::l6) Q):Ry A l b dr j8 (⟨.dI kk x y z,K,K,u⟩::ops) T H n rl l6 Q:=λhn=>by
 subst hH;have e1:∀k,0<=k->x8 (I4 A k l b) j8 K (O rl.reverse) ⟨.dI kk x y z,K,K,u⟩ ⟨T,H,rl.reverse++ .any::List.replicate (O ops) .any,l6⟩=J (⟨T,H.set id (.map es'),rl.reverse++ .any::List.replicate (O ops) .any,.obj id::l6⟩,[]):=λk _=>by
  simp_all [I4,x8,y5,B1,F0.A9,if_true,B9,M0,Q6,and_self,put,I6,s8,C9]
 cases dr with
 |false=>exact Rx.stepT (N1:=0) (rs:=[]) rfl e1 (h2.to hn)
 |true =>
  refine Rx.DJ (N1:=0) (rs:=[]) rfl rfl rfl e1 (λh=>?_) (h2.to hn);simp_all<;>omega
end S
end
def dmap (ds:List (List UInt8)):List (Key×c7):=ds.map λs=>(.str s,.d (.bool W))
def cH:List (List UInt8)->Nat->List (Key×c7)
 |[],_=>[]
 |s::l,i=>(.str s,.d (.int .i64 (i:Int)))::cH l (i+1)
theorem yx (s:List UInt8):∀ds,Z8 .s (.str s) (dmap ds)=J (if ds.any λy=>K3 y s then J (.d (.bool W)) else K)
 |[]=>by rfl
 |d::ds=>by
  have h1:=yx s ds
  grind [dmap,Z8,Data.aP,K3]
theorem BX (s:List UInt8):∀ds,(ds.any λy=>K3 y s)=F->bA .s (.str s) (.d (.bool W)) (dmap ds)=J (dmap (ds++[s]))
 |[],_=>by rfl
 |d::ds,h=>by
  simp only [List.any_cons,C7] at h;have h1:=BX s ds h.2
  grind [QZ,dmap,bA,Data.aP]
theorem CX (s:List UInt8):∀(l:List (List UInt8)) (i:Nat),(l.any λy=>K3 y s)=F->bA .s (.str s) (.d (.int .i64 ((i+O l:Nat):Int))) (cH l i)=J (cH (l++[s]) i)
 |[],i,_=>by rfl
 |d::l,i,h=>by
  simp only [List.any_cons,C7] at h;have h1:=CX s l (i+1) h.2
  grind [QZ,cH,bA,Data.aP]
theorem oU:∀(l:List (List UInt8)) (i:Nat),A2 ((cH l i).map (·.2))=0
 |[],_=>rfl
 |_::l,i=>by simp [cH,A2,c7.F4,oU l (i+1)]
theorem oA:∀l:List (List UInt8),A2 ((dmap l).map (·.2))=0
 |[]=>rfl
 |_::l=>by
  have:=oA l;simp_all [dmap,E8,A2,c7.F4,Nat.zero_max]
section
variable {A:Prog} {l:F9} {b:Nat}
variable {dr:Bool} {j8 ops:List x9} {T:List c7} {H:k9} {n:Nat} {rl:List c7} {l6:List Touch} {Q:List c7->k9->List c7->Prop}
def HO (id off:Nat)(l6:List Touch)(rs:List Nat):E6 ((Touch.cell id off::l6).take (O (Touch.cell id off::l6) - O l6)) rs=F:=by
 simp_all [E6,Touch.E3]
def Ry.Nw {j k sz bytes id off:Nat}{y:A3}{u u' :List Nat}{d' :Option Nat}{g' :Option (Nat×Bool)}{n' len m:Nat}{cs' cells new:List Data}{old:List c7}
  (hj:lk n rl j=J (.d (.slice n' cs'))) (ha:j8[j]? =J ⟨.load K (.loc k),d',g',u'⟩) (hk:lk n rl k=J (.ptr id off)) (ht:l6.any (Touch.V0 id off)=F) (hl:l.may id=W) (ho:H[id]? =J (.cells old)) (hc:old[off]? =J (.own sz len cells))
  (hy:rq T n rl y= .d (.slice m new)) (hn' :O new=m * sz) (hr:roomFor (len+m) bytes=W) (h0:0<sz)
  (h2:Ry A l b dr j8 ops T (H.set id (.cells (old.set off (.d (.slice len cells))))) (n+1) (.own sz (len+m) (cells++new)::rl) (.cell id off::l6) Q):Ry A l b dr j8 (⟨.append sz bytes F (.loc j) y,K,K,u⟩::ops) T H n rl l6 Q:=λhn=>by
 have hjl:rl.reverse[j]? =J (.d (.slice n' cs')):=by simp_all [aJ]
 have U8:rl.reverse[k]? =J (.ptr id off):=by simp_all [aJ]
 have hL:∀r:List c7,(rl.reverse++ .any::r)[j]? =J (.d (.slice n' cs')):=λr=>gP hjl _
 have hK:∀r:List c7,(rl.reverse++ .any::r)[k]? =J (.ptr id off):=λr=>gP U8 _
 have Sq:y9.F1 T (rl.reverse++ .any::List.replicate (O ops) .any) (.loc j)= .d (.slice n' cs'):=by simp [y9.F1,hL,c7.I7]
 refine Rx.step (N1:=0) (rs:=[]) (by simp_all [F2]) rfl (λq _=>?_) (HO id off l6) (h2.to hn);have hl' :(I4 A q l b).lim.may id=W:=hl;have hs:B4 H sz (.d (.slice m new))=J (m,new.map .d):=by simp_all [B4,if_true]
 simp [x8,y5,B1,F0.A9,if_true,B9,Sq,J1,M0 hn,hy,hs,bP,j6,if_false,O6,hL,ha,W0,Y9,hK,ht,hl',Bool.not_true,Bool.or_self,ho,hc,hr,h0,and_self,put,I6,s8,C9]
namespace S
def o2 {x:A3}{u:List Nat}{z1 z2:c7}{c d:Data}(h2:Ry A l b dr j8 ops T H (n+1) (.own 2 1 [c,d]::rl) l6 Q)(hx:rq T n rl x= .agg [.d c,.d d]:=by rfl):Ry A l b dr j8 (⟨.M8 2 1 [z1,z2] [(0,2,x)] F,K,K,u⟩::ops) T H n rl l6 Q :=
 Ry.pure (rs:=[]) rfl (by simp [l5,T4,hx,c7.cells?,splice,H7,c7.data?,c7.one]) h2
def ac2 {α:Type}{enc:α->List Data}{xs:List α}{a:α}{j k bytes id off:Nat}{y:A3}{u u' :List Nat}{d' :Option Nat}{g' :Option (Nat×Bool)}{n' :Nat}{cs' :List Data}{c d:Data}{old new:List c7}{H2:k9}
  (hr:roomFor (O xs+1) bytes=W) (he:enc a=[c,d]) (hj:lk n rl j=J (.d (.slice n' cs')):=by rfl) (ha:j8[j]? =J ⟨.load K (.loc k),d',g',u'⟩:=by rfl) (hk:lk n rl k=J (.ptr id off):=by rfl) (ht:l6.any (Touch.V0 id off)=F:=by rfl) (hl:l.may id=W:=by rfl) (ho:H[id]? =J (.cells old):=by rfl) (hc:old[off]? =J (A8 2 enc xs):=by rfl)
  (hy:rq T n rl y= .d (.slice 1 [c,d]):=by rfl) (hN:old.set off (.d (s7 enc xs))=new:=by rfl) (hH:H.set id (.cells new)=H2:=by simp only [List.set_cons_zero,List.set_cons_succ]<;>rfl)
  (h2:Ry A l b dr j8 ops T H2 (n+1) (A8 2 enc (xs++[a])::rl) (.cell id off::l6) Q):Ry A l b dr j8 (⟨.append 2 bytes F (.loc j) y,K,K,u⟩::ops) T H n rl l6 Q :=
 Ry.Nw hj ha hk ht hl ho hc hy rfl hr (by decide) (by
  have e1:A8 2 enc (xs++[a])= .own 2 (O xs+1) (xs.flatMap enc++[c,d]):=by simp [A8,he]
  rw [e1] at h2;subst hH hN;exact h2)
def ac1 {α:Type}{enc:α->List Data}{xs:List α}{a:α}{j k bytes id off:Nat}{y:A3}{u u' :List Nat}{d' :Option Nat}{g' :Option (Nat×Bool)}{n' :Nat}{cs' :List Data}{c:Data}{old new:List c7}{H2:k9}
  (hr:roomFor (O xs+1) bytes=W) (he:enc a=[c]) (hj:lk n rl j=J (.d (.slice n' cs')):=by rfl) (ha:j8[j]? =J ⟨.load K (.loc k),d',g',u'⟩:=by rfl) (hk:lk n rl k=J (.ptr id off):=by rfl) (ht:l6.any (Touch.V0 id off)=F:=by rfl) (hl:l.may id=W:=by rfl) (ho:H[id]? =J (.cells old):=by rfl) (hc:old[off]? =J (A8 1 enc xs):=by rfl)
  (hy:rq T n rl y= .d (.slice 1 [c]):=by rfl) (hN:old.set off (.d (s7 enc xs))=new:=by rfl) (hH:H.set id (.cells new)=H2:=by simp only [List.set_cons_zero,List.set_cons_succ]<;>rfl)
  (h2:Ry A l b dr j8 ops T H2 (n+1) (A8 1 enc (xs++[a])::rl) (.cell id off::l6) Q):Ry A l b dr j8 (⟨.append 1 bytes F (.loc j) y,K,K,u⟩::ops) T H n rl l6 Q :=
 Ry.Nw hj ha hk ht hl ho hc hy rfl hr (by decide) (by
  have e1:A8 1 enc (xs++[a])= .own 1 (O xs+1) (xs.flatMap enc++[c]):=by simp [A8,he]
  rw [e1] at h2;subst hH hN;exact h2)
def Bp {id off j z n0:Nat}{y:A3}{u:List Nat}{cs:List Data}{old new:List c7}{H2:k9}{r2:List c7}(hy:rq T n rl y= .ptr id off:=by rfl)(hj:lk n rl j=J (.own z n0 cs):=by rfl)(hjb:Nat.ble (j+1) n=W:=by rfl)(hl:l.may id=W:=by rfl)
  (ho:H[id]? =J (.cells old):=by rfl) (hq:Nat.ble (off+1) (O old)=W:=by rfl) (hd:dr=W->Nat.ble (kf j8) n=W:=by intro;rfl) (hN:old.set off (.own z n0 cs)=new:=by rfl) (hH:H.set id (.cells new)=H2:=by simp only [List.set_cons_zero,List.set_cons_succ]<;>rfl)
  (hS:rl.set (n - (j+1)) (.d (.slice n0 cs))=r2:=by simp only [Nat.reduceAdd,Nat.reduceSub,List.set_cons_zero,List.set_cons_succ]<;>rfl)
  (h2:Ry A l b dr j8 ops T H2 (n+1) (.any::r2) (.obj id::l6) Q):Ry A l b dr j8 (⟨.store 1 y (.loc j),K,K,u⟩::ops) T H n rl l6 Q:=λhn=>by
 subst hH hN hS;have Nl :off<O old:=j4 hq;have hjl:rl.reverse[j]? =J (.own z n0 cs):=by simp_all [aJ]
 have hL:∀r:List c7,(rl.reverse++ .any::r)[j]? =J (.own z n0 cs):=λr=>gP hjl _
 have hjn:j<O rl.reverse:=by grind
 have hlen:O (rl.reverse.set j (.d (.slice n0 cs)))=O rl.reverse:=U
 have h4:∀(a v:c7) (r:List c7),(rl.reverse.set j (.d (.slice n0 cs))++a::r).set (O rl.reverse) v=rl.reverse.set j (.d (.slice n0 cs))++v::r:=λa v r=>M
 have h1:splice old off [.own z n0 cs]=old.set off (.own z n0 cs):=by
  simp_all [splice,D9,M1,if_pos]
 have hw:wr H id off [.own z n0 cs]=J (H.set id (.cells (old.set off (.own z n0 cs)))):=by
  simp_all [wr,D9,if_pos]
 have Ng :=h2.to (by simp [hn]);rw [<- uc hn hjb] at Ng;have e1:∀k,0<=k->x8 (I4 A k l b) j8 K (O rl.reverse) ⟨.store 1 y (.loc j),K,K,u⟩ ⟨T,H,rl.reverse++ .any::List.replicate (O ops) .any,l6⟩=J (⟨T,H.set id (.cells (old.set off (.own z n0 cs))),rl.reverse.set j (.d (.slice n0 cs))++ .any::List.replicate (O ops) .any,.obj id::l6⟩,[]):=λk _=>by
  have hl' :(I4 A k l b).lim.may id=W:=hl;have hx:y9.E2 ⟨T,H,rl.reverse++ .any::List.replicate (O ops) .any,l6⟩ (.loc j)=(.own z n0 cs,⟨T,H,rl.reverse.set j (.d (.slice n0 cs))++ .any::List.replicate (O ops) .any,l6⟩):=by
   simp_all [y9.E2]
  have hb0:A2 [c7.own z n0 cs]<=id+1:=Nat.zero_le _;have hc1:(c7.own z n0 cs).cells? =J [.own z n0 cs]:=rfl;simp_all [x8,y5,B1,F0.A9,if_true,B9,M0,O4,D9,true_or,and_self,put,s8,C9]
 cases dr with
 |false=>exact Rx.stepT (N1:=0) (rs:=[]) hlen e1 Ng
 |true =>
  refine Rx.DJ (N1:=0) (rs:=[]) hlen rfl rfl e1 (λh=>?_) Ng;simp_all<;>omega
end S
end
section
variable {A:Prog} {l:F9} {b:Nat}
variable {dr:Bool} {j8 ops:List x9} {T:List c7} {H:k9} {n:Nat} {rl:List c7} {l6:List Touch} {Q:List c7->k9->List c7->Prop}
namespace S
def cv1 {f:FuncId}{x:A3}{xs:List A3}{u:List Nat}{v:c7}{first caps args:List c7}{m:Nat}{H0 H1:k9}{l2:F9}(hc:Pm A f args H0 l2 v H1)(GF:O H1=m)(h2:Ry A l b dr j8 ops T H (n+1) (v::rl) l6 Q)(cQ:D3 ((H.take m).drop l.strict)<=m:=by exact Nat.zero_le _)(hcl:D4 H l.strict 8 (A2 args)=m:=by rfl)
  (EX:H.take m=H0:=by rfl) (hle:Nat.ble m (O H)=W:=by rfl) (jH:(⟨0,m,m,A6 H l.strict m⟩:F9)=l2:=by rfl) (hx:rq T n rl x= .func f first caps:=by rfl)
  (ha:first++xs.map (rq T n rl)++caps=args:=by rfl) (ee:A.prom f=F:=by rfl) (hm:A.mode f=1:=by rfl):Ry A l b dr j8 (⟨.bJ x xs,K,K,u⟩::ops) T H n rl l6 Q:=λhn=>by
 obtain ⟨d8,hc⟩:=hc;subst EX;refine Rx.step (N1:=d8) (rs:=[]) rfl rfl (λk hk=>?_) (λrs=>by simp [E6]) (h2.to hn);have h3:B7 (I4 A k l b) (O rl.reverse) f args ⟨T,H,rl.reverse++ .any::List.replicate (O ops) .any,l6⟩=J (put ⟨T,H,rl.reverse++ .any::List.replicate (O ops) .any,l6⟩ (O rl.reverse) v) :=
  uw ee hm hcl (j4 hle) cQ jH (hc k hk) GF
 simp_all [x8,y5,B1,F0.A9,if_true,B9,M0,aq,s8,C9,put,I6]
def Qb {f:FuncId}{x:A3}{xs:List A3}{u:List Nat}{v:c7}{first caps args:List c7}{m:Nat}{H0 HD H1 H2:k9}{l2:F9}(hc:Pm A f args H0 l2 v H1)(GF:O H1=m)(cQ:D3 ((H.take m).drop l.strict)<=m:=by exact Nat.zero_le _)(hcl:D4 H l.strict 8 (A2 args)=m:=by rfl)
  (EX:H.take m=H0:=by rfl) (hle:Nat.ble m (O H)=W:=by rfl) (jH:(⟨l.Ef,l.Ee,m,A6 H l.strict m⟩:F9)=l2:=by rfl) (hx:rq T n rl x= .func f first caps:=by rfl)
  (ha:first++xs.map (rq T n rl)++caps=args:=by rfl) (ee:A.prom f=F:=by rfl) (hm:A.mode f=0:=by rfl) (hD:H.drop m=HD:=by rfl) (hA:H1++HD=H2:=by first|(simp only [List.cons_append,List.nil_append]<;>rfl)|rfl)
  (h2:Ry A l b F j8 ops T H2 (n+1) (v::rl) (.below m::l6) Q):Ry A l b F j8 (⟨.bJ x xs,K,K,u⟩::ops) T H n rl l6 Q:=λhn=>by
 obtain ⟨d8,hc⟩:=hc;subst EX hD hA;refine Rx.stepT (N1:=d8) (rs:=[]) rfl (λk hk=>?_) (h2.to hn);have h3:B7 (I4 A k l b) (O rl.reverse) f args ⟨T,H,rl.reverse++ .any::List.replicate (O ops) .any,l6⟩=J (put ⟨T,H1++H.drop m,rl.reverse++ .any::List.replicate (O ops) .any,.below m::l6⟩ (O rl.reverse) v) :=
  ig ee hm hcl (j4 hle) cQ jH (hc k hk) GF
 simp_all [x8,y5,B1,F0.A9,if_true,B9,M0,aq,s8,C9,put,I6]
end S
end
section
variable {A:Prog} {l:F9} {b:Nat}
def LC (j8:List x9)(na k:Nat)(e:cT):Prop :=
 na∉e.reads/\(k<kf j8->∀rs,na∉rs->E6 e.Co rs=F)/\e.Je<=na/\(∀i,j8[k]? =J i->i.op.y3=W->e.id=na)/\(∀i,j8[k]? =J i->i.op.Ph=F->e.reads=[])
def Rz (A:Prog)(l:F9)(b:Nat)(j8 ops:List x9)(T:List c7)(H:k9)(n:Nat)(rl:List c7)(l6:List Touch)(na:Nat)(Q:List c7->k9->List c7->Prop):Prop :=
 O rl=n->∃r N,Q r.T r.H r.L/\∀k,N<=k->∃lg:List cT,M4 (I4 A k l b) j8 ops n na ⟨T,H,rl.reverse++List.replicate (O ops) .any,l6⟩=J (r,lg)/\O lg=O ops/\∀j e,lg[j]? =J e->LC j8 na (n+j) e
variable {j8 ops:List x9} {T:List c7} {H:k9} {n:Nat} {rl:List c7} {l6:List Touch} {na:Nat} {Q:List c7->k9->List c7->Prop}
def Rn.am9 {T:List c7}{H:k9}{s:Nat}(qG:S8 ops=[.dead])(qo:slotsOf ops=[.slot s])(hu:∀i,i∈ops->∀e,e∈i.Y2->e<O ops)(h:Rz A l b ops ops T (H++[.dead]) 0 [] [.slot s] (O H) Q):Rn A l b ops W T H Q:=by
 obtain ⟨r,N,hq,h⟩:=h rfl;refine ⟨r,N,hq,λn hn=>?_⟩;obtain ⟨lg,e1,e2,e3⟩:=h n hn;simp [Nat.zero_add] at e1 e3;have ah6:aT ops lg=W:=by
  simp only [aT,List.all_eq_true];rintro ⟨i,le⟩ sr e he;obtain ⟨j,hj,hji⟩:=E9 sr;simp [List.length_zip] at hj;have hj1:j<O ops:=V
  have hj2:j<O lg:=V
  simp [List.getElem_zip] at hji;obtain ⟨rfl,rfl⟩:=hji;have hi:ops[j]∈ops:=List.getElem_mem hj1;have hlt:=hu _ hi e he;have he2:e<O lg:=V
  rw [n9 he2];have c1:=e3 j _ (n9 hj2);have c2:=e3 e _ (n9 he2);cases hr:ops[j].op.Ph with
  |true =>
   have hb:=ur hi hr he;have h5:=c2.2.1 hb _ c1.1;have ha:ops[j].op.makes=F:=by
    cases ho:ops[j].op<;>rw [ho] at hr<;>first|rfl|(cases hr)
   simp [h5,ha]
  |false =>
   have h5:=c1.2.2.2.2 _ (n9 hj1) hr;cases hm:ops[j].op.makes with
   |false=>simp [h5,E6]
   |true =>
    have ha:ops[j].op.y3=W:=by
     cases ho:ops[j].op<;>rw [ho] at hm<;>first|exact hm|(cases hm)
    have h7:=c1.2.2.2.1 _ (n9 hj1) ha;have h6:=c2.2.2.1;simp_all [E6]
 simp_all [P0,if_true]
def Rz.nil (h:Q T H rl.reverse):Rz A l b j8 [] T H n rl l6 na Q:=λ_=>⟨⟨T,H,rl.reverse,l6⟩,0,h,λ_ _=>⟨[],by simp [M4],rfl,λj e h=>by simp at h⟩⟩
def Rz.step {i:x9}{T' :List c7}{H' :k9}{v:c7}{V8 :List Touch}{rs:List Nat}{N1:Nat}(hk:∀L,F2 ⟨T,H,L,l6⟩ i.op=F)(hi:j8[n]? =J i)
  (h:O rl=n->∀k,N1<=k->x8 (I4 A k l b) j8 (if i.op.y3 then J na else K) n i ⟨T,H,rl.reverse++ .any::List.replicate (O ops) .any,l6⟩=J (⟨T',H',rl.reverse++v::List.replicate (O ops) .any,V8⟩,rs))
  (hr:na∉rs) (ht:n<kf j8->∀rs,na∉rs->E6 (W8 (if i.op.y3 then J na else K)++V8.take (O V8 - O l6)) rs=F) (Of:∀k,F8 (I4 A k l b) ⟨T,H,rl.reverse++ .any::List.replicate (O ops) .any,l6⟩ i.op<=na)
  (hn2:i.op.y3=W->∀j,j∈ops->j.op.y3=F) (h2:∀xI,(i.op.y3=F->xI =na)->Rz A l b j8 ops T' H' (n+1) (v::rl) V8 na Q/\(i.op.y3=W->∀k r lg,M4 (I4 A k l b) j8 ops (n+1) na ⟨T',H',(v::rl).reverse++List.replicate (O ops) .any,V8⟩=J (r,lg)->M4 (I4 A k l b) j8 ops (n+1) (na+1) ⟨T',H',(v::rl).reverse++List.replicate (O ops) .any,V8⟩=J (r,lg))) :
  Rz A l b j8 (i::ops) T H n rl l6 na Q:=λhn=>by
 obtain ⟨h2,h2a⟩:=h2 na (λ_=>rfl);obtain ⟨r,N,hq,h2⟩:=h2 (by simp [hn]);refine ⟨r,max N N1,hq,λk hkk=>?_⟩;obtain ⟨lg,e1,e2,e3⟩:=h2 k V;have h4:=h hn k V;have e1' :M4 (I4 A k l b) j8 ops (n+1) (if i.op.y3 then na+1 else na) ⟨T',H',rl.reverse++v::List.replicate (O ops) .any,V8⟩=J (r,lg):=by
  grind
 refine ⟨T0 (I4 A k l b) i (if i.op.y3 then J na else K) ⟨T,H,rl.reverse++ .any::List.replicate (O ops) .any,l6⟩ ⟨T',H',rl.reverse++v::List.replicate (O ops) .any,V8⟩ rs::lg,?_,by simp [e2],?_⟩
 .simp_all [M4,List.length_cons,L3,eS,Bool.false_and,j6,if_false]
 .intro j e he
  cases j with
  |zero =>
   simp [List.getElem?_cons_zero,Option.some.injEq] at he;subst he;refine ⟨hr,λhb=>ht V,Of k,λi' hi' ha=>?_,λi' hi' hr' =>?_⟩
   .simp_all [Nat.add_zero,T0]
   .rw [Nat.add_zero,hi] at hi'
    cases hi';exact wF h4 hr'
  |succ j =>
   grind
theorem wm {E:Env}:∀(ops:List x9) (k na xI :Nat) (st:F5),(∀j,j∈ops->j.op.y3=F)->M4 E j8 ops k na st=M4 E j8 ops k xI st
 |[],_,_,_,_,_=>rfl
 |i::ops,k,na,xI,st,h=>by
  have hi:=h i (List.mem_cons_self);simp [M4,hi,j6,if_false];cases eS E j8 K k i st with
  |none=>rfl
  |some x=>simp [wm ops (k+1) na xI x.1 (λj hj=>h j (List.mem_cons_of_mem _ hj))]
end
section
variable {A:Prog} {l:F9} {b:Nat}
variable {j8 ops:List x9} {T:List c7} {H:k9} {n:Nat} {rl:List c7} {l6:List Touch} {na:Nat} {Q:List c7->k9->List c7->Prop}
def Rz.simple {i:x9}{v:c7}{rs:List Nat}{N1:Nat}(ha:i.op.y3=F)(hk:∀L,F2 ⟨T,H,L,l6⟩ i.op=F)(hi:j8[n]? =J i)
  (h:O rl=n->∀k,N1<=k->x8 (I4 A k l b) j8 K n i ⟨T,H,rl.reverse++ .any::List.replicate (O ops) .any,l6⟩=J (⟨T,H,rl.reverse++v::List.replicate (O ops) .any,l6⟩,rs))
  (hr:na∉rs) (hs:∀k,F8 (I4 A k l b) ⟨T,H,rl.reverse++ .any::List.replicate (O ops) .any,l6⟩ i.op<=na) (h2:Rz A l b j8 ops T H (n+1) (v::rl) l6 na Q):Rz A l b j8 (i::ops) T H n rl l6 na Q :=
 Rz.step (N1:=N1) hk hi (λhn k hk=>M) hr (λ_ rs _=>by grind [W8,E6]) hs (λh=>M) (λ_ _=>⟨h2,λh=>M⟩)
namespace S
def zn (h:Q T H rl.reverse):Rz A l b j8 [] T H n rl l6 na Q:=Rz.nil h
def zp {op:F0}{u:List Nat}{rs:List Nat}(v:c7)(hp:l5 (rq T n rl) H op=J (v,rs))(h2:Rz A l b j8 ops T H (n+1) (v::rl) l6 na Q)(hr:na∉rs:=by simp)(hE:op.A9=F:=by rfl)(ha:op.y3=F:=by rfl)(hk:∀L,F2 ⟨T,H,L,l6⟩ op=F:=by intro;rfl)(hi:j8[n]? =J ⟨op,K,K,u⟩:=by rfl)
  (hs:∀k,F8 (I4 A k l b) ⟨T,H,rl.reverse++ .any::List.replicate (O ops) .any,l6⟩ op<=na:=by intro;exact Nat.zero_le _):Rz A l b j8 (⟨op,K,K,u⟩::ops) T H n rl l6 na Q:=by
 refine Rz.simple (N1:=0) (rs:=rs) ha hk hi (λhn k _=>?_) hr hs h2;have KY:∀x,op≠ .dJ x:=by
  grind [l5]
 have h4:l5 (y9.F1 T (rl.reverse++ .any::List.replicate (O ops) .any)) H op=J (v,rs):=by
  rw [show y9.F1 T (rl.reverse++ .any::List.replicate (O ops) .any)=rq T n rl from funext λx=>M0 hn _ x];exact hp
 have JE:∀(a:c7) (r:List c7),(rl.reverse++a::r).set n v=rl.reverse++v::r:=λa r=>M
 simp_all [B1,I4,List.replicate,absurd,j6,if_false,put,F0.A9,x8,y5,s8,C9]
def zm {x:A3}{u:List Nat}{v:c7}(h2:Rz A l b j8 ops T H (n+1) (v::rl) l6 na Q)(hx:Oq T n rl x v:=by exact ⟨rfl,rfl⟩)(hi:j8[n]? =J ⟨.dJ x,K,K,u⟩:=by rfl):Rz A l b j8 (⟨.dJ x,K,K,u⟩::ops) T H n rl l6 na Q:=by
 refine Rz.simple (N1:=0) (rs:=[]) rfl (λ_=>rfl) hi (λhn k _=>?_) U (λk=>Nat.zero_le _) h2;have JE:∀(a:c7) (r:List c7),(rl.reverse++a::r).set n v=rl.reverse++v::r:=λa r=>M
 simp [x8,y5,B1,F0.A9,j6,if_false,(hx.op hn).E2,put,JE,s8,C9]
def zc {f:FuncId}{xs:List A3}{u:List Nat}{v:c7}{args:List c7}{m:Nat}{H0 H1:k9}{l2:F9}(hc:Pm A f args H0 l2 v H1)(GF:O H1=m)(h2:Rz A l b j8 ops T H (n+1) (v::rl) l6 na Q)(hmn:m<=na:=by decide)(cQ:D3 ((H.take m).drop l.strict)<=m:=by exact Nat.zero_le _)(hcl:D4 H l.strict 8 (A2 args)=m:=by rfl)
  (EX:H.take m=H0:=by rfl) (hle:Nat.ble m (O H)=W:=by rfl) (jH:(⟨0,m,m,A6 H l.strict m⟩:F9)=l2:=by rfl)
  (ha:xs.map (rq T n rl)=args:=by rfl) (ee:A.prom f=F:=by rfl) (hm:A.mode f=1:=by rfl) (hi:j8[n]? =J ⟨.call f xs,K,K,u⟩:=by rfl) (hn0:O rl=n:=by rfl):Rz A l b j8 (⟨.call f xs,K,K,u⟩::ops) T H n rl l6 na Q:=by
 obtain ⟨d8,hc⟩:=hc;have Od :∀k,(I4 A k l b).prom f=F:=λ_=>ee
 refine Rz.simple (N1:=d8) (rs:=[]) rfl (λ_=>rfl) hi (λhn k hk=>?_) U (λk=>?_) h2
 .have JE:∀(a:c7) (r:List c7),(rl.reverse++a::r).set n v=rl.reverse++v::r:=λa r=>M
  simp_all [B7,I4,List.replicate,put,uw,j4,x8,y5,B1,F0.A9,if_true,B9,aq,s8,C9]
 .have Vg :D4 H (I4 A k l b).lim.strict 8 (A2 args)=m:=hcl
  simp_all [F8,j6,if_false,aq]
def za {zero:List c7}{u:List Nat}{s:Nat}{T2:List c7}{H2:k9}(hs:T[s]?.isSome=W:=by rfl)(htc:l6.any (Touch.P9 s)=W:=by rfl)(hT:T.set s (.ptr na 0)=T2:=by simp only [List.set_cons_zero,List.set_cons_succ]<;>rfl)(hH:H.set na (.cells zero)=H2:=by simp only [List.set_cons_zero,List.set_cons_succ]<;>rfl)
  (hi:j8[n]? =J ⟨.alloc zero,J s,K,u⟩:=by rfl) (hno:ops.all (λj=> !j.op.y3)=W:=by rfl) (h2:Rz A l b j8 ops T2 H2 (n+1) (.ptr na 0::rl) l6 na Q):Rz A l b j8 (⟨.alloc zero,J s,K,u⟩::ops) T H n rl l6 na Q:=by
 have hs:s<O T:=by
  simp_all
 have ai0 :∀j,j∈ops->j.op.y3=F:=λj hj=>M
 refine Rz.step (N1:=0) (rs:=[]) (λ_=>rfl) hi (λhn k _=>?_) U (λ_ rs hrs=>?_) (λk=>Nat.zero_le _) (λ_=>ai0) (λ_ _=>⟨h2,λ_ k r lg h=>by grind [wm]⟩)
 .have JE:∀(a v:c7) (r:List c7),(rl.reverse++a::r).set n v=rl.reverse++v::r:=λa v r=>M
  simp_all [List.length_reverse,F0.y3,if_true,x8,y5,B1,F0.A9,B9,C8,newId,Option.getD_some,put,s8,Q4,y9.E2,decide_true,Bool.and_self,y9.F1,c7.I7]
 grind [F0.y3,W8,E6,Touch.E3]
def zs {m:Nat}{x y:A3}{u:List Nat}{v:c7}{cs old:List c7}{H2:k9}(hd:Nat.ble (kf j8) n=W:=by rfl)(hy:rq T n rl y= .ptr na 0:=by rfl)(hx:Oq T n rl x v:=by exact ⟨rfl,rfl⟩)(hc:v.cells? =J cs:=by rfl)(hm:O cs=m:=by rfl)(hl:l.may na=W:=by rfl)(hb:A2 cs=0:=by rfl)
  (ho:H[na]? =J (.cells old):=by rfl) (hq:O old=m:=by rfl) (hH:H.set na (.cells cs)=H2:=by simp only [List.set_cons_zero,List.set_cons_succ]<;>rfl) (hi:j8[n]? =J ⟨.store m y x,K,K,u⟩:=by rfl)
  (h2:Rz A l b j8 ops T H2 (n+1) (.any::rl) (.obj na::l6) na Q):Rz A l b j8 (⟨.store m y x,K,K,u⟩::ops) T H n rl l6 na Q:=by
 have hw:wr H na 0 cs=J H2:=by
  simp_all [wr,splice,n5]
 refine Rz.step (N1:=0) (rs:=[]) (λ_=>rfl) hi (λhn k _=>?_) U (λh=>?_) (λk=>Nat.zero_le _) (λh=>by cases h) (λ_ _=>⟨h2,λh=>by cases h⟩)
 .have hl' :(I4 A k l b).lim.may na=W:=hl
  have hb' :A2 cs<=na+1:=V
  have JE:∀(a v:c7) (r:List c7),(rl.reverse++a::r).set n v=rl.reverse++v::r:=λa v r=>M
  simp [F0.y3,j6,if_false,x8,y5,B1,F0.A9,if_true,B9,M0 hn,hy,O4,(hx.op hn).E2,hc,hm,hl',hb',true_or,and_self,hw,put,JE,s8,C9]
 simp_all<;>omega
end S
end
section
variable {A:Prog} {l:F9} {b:Nat}
variable {dr:Bool} {j8 ops:List x9} {T:List c7} {H:k9} {n:Nat} {rl:List c7} {l6:List Touch} {Q:List c7->k9->List c7->Prop}
namespace S
def o12 {x y:A3}{u:List Nat}{z1 z2:c7}{c d:Data}(h2:Ry A l b dr j8 ops T H (n+1) (.own 1 2 [c,d]::rl) l6 Q)(hx:rq T n rl x= .d c:=by rfl)(hy:rq T n rl y= .d d:=by rfl):Ry A l b dr j8 (⟨.M8 1 2 [z1,z2] [(0,1,x),(1,1,y)] F,K,K,u⟩::ops) T H n rl l6 Q :=
 Ry.pure (rs:=[]) rfl (by simp [l5,T4,hx,hy,c7.cells?,splice,H7,c7.data?,c7.one]) h2
def lq2 {α β:Type}{e1:α->List Data}{e2:β->List Data}{xs:List α}{ys:List β}{x:A3}{u:List Nat}{id z1 z2:Nat}(h2:Ry A l b dr j8 ops T H (n+1) (.agg [.d (s7 e1 xs),.d (s7 e2 ys)]::rl) l6 Q)(hx:rq T n rl x= .ptr id 0:=by rfl)(ho:H[id]? =J (.cells [A8 z1 e1 xs,A8 z2 e2 ys]):=by rfl) :
  Ry A l b dr j8 (⟨.load (J 2) x,K,K,u⟩::ops) T H n rl l6 Q :=
 Ry.pure (rs:=[id]) rfl (by simp [l5,hx,rd,ho,A8,s7,c7.I7]) h2
end S
end
section
variable {A:Prog} {l:F9} {b:Nat}
variable {j8 ops:List x9} {T:List c7} {H:k9} {n:Nat} {rl:List c7} {l6:List Touch} {na:Nat} {Q:List c7->k9->List c7->Prop}
namespace S
def zix {α:Type} [Inhabited α] {enc:α->List Data}{xs:List α}{sz:Nat}{e:Int}{x y:A3}{k:IntKind}{u:List Nat}(h0:0<=e/\e<O xs)(h2:Rz A l b j8 ops T H (n+1) (.Y4 (enc (Y xs e.toNat)++(xs.drop (e.toNat+1)).flatMap enc)::rl) l6 na Q)(hx:rq T n rl x= .d (s7 enc xs):=by rfl)(hy:rq T n rl y= .d (.int k e):=by rfl)(hs:∀a,O (enc a)=sz:=by intro;rfl)
  (hi:j8[n]? =J ⟨.gN sz x y,K,K,u⟩:=by rfl):Rz A l b j8 (⟨.gN sz x y,K,K,u⟩::ops) T H n rl l6 na Q:=by
 refine zp (rs:=[]) _ ?_ h2 (hi:=hi);simp_all [je,D6,l5,s7,and_self,if_true]
def zle {cs rest:List Data}{x:A3}{m:Nat}{u:List Nat}(h2:Rz A l b j8 ops T H (n+1) (.agg (cs.map .d)::rl) l6 na Q)(hx:rq T n rl x= .Y4 (cs++rest):=by rfl)(hm:O cs=m:=by rfl)(hi:j8[n]? =J ⟨.load (J m) x,K,K,u⟩:=by rfl):Rz A l b j8 (⟨.load (J m) x,K,K,u⟩::ops) T H n rl l6 na Q:=by
 refine zp (rs:=[]) _ ?_ h2 (hi:=hi);simp_all [l5]
def soD {dr:Bool}{m id:Nat}{x y:A3}{u:List Nat}{v:c7}{cs old:List c7}{H2:k9}(hd:Nat.ble (kf j8) n=W:=by rfl)(hy:rq T n rl y= .ptr id 0:=by rfl)(hx:Oq T n rl x v:=by exact ⟨rfl,rfl⟩)(hc:v.cells? =J cs:=by rfl)(hm:O cs=m:=by rfl)(hl:l.may id=W:=by rfl)(hb:A2 cs=0:=by rfl)
  (ho:H[id]? =J (.cells old):=by rfl) (hq:O old=m:=by rfl) (hH:H.set id (.cells cs)=H2:=by simp only [List.set_cons_zero,List.set_cons_succ]<;>rfl)
  (h2:Ry A l b dr j8 ops T H2 (n+1) (.any::rl) (.obj id::l6) Q):Ry A l b dr j8 (⟨.store m y x,K,K,u⟩::ops) T H n rl l6 Q :=
 wG hd hy hx hc hm hl V (by simp_all [wr,splice,n5]) h2
end S
end
section
variable {A:Prog} {l:F9} {b:Nat}
variable {dr:Bool} {j8 ops:List x9} {T:List c7} {H:k9} {n:Nat} {rl:List c7} {l6:List Touch} {Q:List c7->k9->List c7->Prop}
namespace S
def mk {u:List Nat}{id:Nat}{H2:k9}(hi:O H=id:=by simp only [List.length_cons,List.length_nil,Nat.reduceAdd]<;>rfl)(hH:H++[.map []]=H2:=by simp only [List.cons_append,List.nil_append]<;>rfl)
  (h2:Ry A l b F j8 ops T H2 (n+1) (.map id::rl) l6 Q):Ry A l b F j8 (⟨.makeMap,K,K,u⟩::ops) T H n rl l6 Q:=λhn=>by
 refine Rx.stepT (N1:=0) (rs:=[]) rfl (λn _=>?_) (h2.to hn);simp_all [x8,y5,B1,F0.A9,B9,C8,newId,put,s8,C9]
def bso {sz len:Nat}{zero:List c7}{parts:List (Nat×Nat×A3)}{u:List Nat}{id:Nat}{H2:k9}(cs:List c7)(hr:T4 zero (parts.map λp=>(p.1,p.2.1,rq T n rl p.2.2))=J cs)(h0:0<sz/\O cs=len * sz)(hi:O H=id:=by simp only [List.length_cons,List.length_nil,Nat.reduceAdd]<;>rfl)(hH:H++[.cells cs]=H2:=by simp only [List.cons_append,List.nil_append]<;>rfl)
  (h2:Ry A l b F j8 ops T H2 (n+1) (.r7 id sz 0 len::rl) l6 Q):Ry A l b F j8 (⟨.M8 sz len zero parts W,K,K,u⟩::ops) T H n rl l6 Q:=λhn=>by
 refine Rx.stepT (N1:=0) (rs:=[]) rfl (λk _=>?_) (h2.to hn);have hr' :T4 zero (parts.map λp=>(p.1,p.2.1,y9.F1 T (rl.reverse++ .any::List.replicate (O ops) .any) p.2.2))=J cs:=by
  rw [show y9.F1 T (rl.reverse++ .any::List.replicate (O ops) .any)=rq T n rl from funext λx=>M0 hn _ x];exact hr
 simp_all [x8,y5,B1,F0.A9,if_true,B9,and_self,C8,newId,Option.getD_none,put,I6,s8,C9]
def lrT {x:A3}{u:List Nat}{id sz lo len s:Nat}{T2:List c7}(hx:rq T n rl x= .r7 id sz lo len:=by rfl)(hs:T[s]?.isSome=W:=by rfl)(hT:T.set s (.d (.int .i64 (len:Int)))=T2:=by simp only [List.set_cons_zero,List.set_cons_succ]<;>rfl)
  (h2:Ry A l b dr j8 ops T2 H (n+1) (.d (.int .i64 (len:Int))::rl) (.slot s::l6) Q):Ry A l b dr j8 (⟨.len x,J s,K,u⟩::ops) T H n rl l6 Q :=
 Ry.nL (v:= .d (.int .i64 (len:Int))) (rs:=[]) rfl (by grind [l5,i64]) rfl rfl hs M
def ixs {x y:A3}{u:List Nat}{id sz lo len i:Nat}{k:IntKind}(hi:i<len)(h2:Ry A l b dr j8 ops T H (n+1) (.ptr id (lo+i * sz)::rl) l6 Q)(hx:rq T n rl x= .r7 id sz lo len:=by rfl)(hy:rq T n rl y= .d (.int k ((i:Nat):Int)):=by rfl):Ry A l b dr j8 (⟨.gN sz x y,K,K,u⟩::ops) T H n rl l6 Q :=
 Ry.pure (rs:=[]) rfl (by
  simp_all [l5]) h2
def AB {x:A3}{u:List Nat}{id o m:Nat}{vs:List c7}(hr:rd H id o m=J vs)(hv:vs.map c7.I7=vs)(h2:Ry A l b dr j8 ops T H (n+1) (.agg vs::rl) l6 Q)(hx:rq T n rl x= .ptr id o:=by rfl):Ry A l b dr j8 (⟨.load (J m) x,K,K,u⟩::ops) T H n rl l6 Q :=
 Ry.pure (rs:=[id]) rfl (by simp_all [l5]) h2
def soB {m id:Nat}{x y:A3}{u:List Nat}{v:c7}{cs old:List c7}{H2:k9}(hb:A2 cs<=id+1)(hy:rq T n rl y= .ptr id 0:=by rfl)(hx:Oq T n rl x v:=by exact ⟨rfl,rfl⟩)(hc:v.cells? =J cs:=by rfl)(hm:O cs=m:=by rfl)(hl:l.may id=W:=by rfl)
  (ho:H[id]? =J (.cells old):=by rfl) (hq:O old=m:=by rfl) (hH:H.set id (.cells cs)=H2:=by simp only [List.set_cons_zero,List.set_cons_succ]<;>rfl)
  (h2:Ry A l b F j8 ops T H2 (n+1) (.any::rl) (.obj id::l6) Q):Ry A l b F j8 (⟨.store m y x,K,K,u⟩::ops) T H n rl l6 Q :=
 fD hy hx hc hm hl hb (by simp_all [wr,splice,n5]) h2
end S
def B2 {mask:List Bool}{strict m:Nat}{T:List c7}{H:k9}(h1:A2 (P8 mask T)<=m)(h2:D3 ((H.take m).drop strict)<=m):clean mask strict m ⟨T,H⟩=⟨P8 mask T,H.take m⟩:=by
 grind [clean]
end
section
variable {A:Prog} {l:F9} {b:Nat}
variable {j8 ops:List x9} {T:List c7} {H:k9} {n:Nat} {rl:List c7} {l6:List Touch} {Q:List c7->k9->List c7->Prop}
namespace S
def cp {f:FuncId}{xs:List A3}{u:List Nat}{v:c7}{args:List c7}{H1:k9}(hc:Pm A f args H l v H1)(hle:O H<=O H1)(h2:Ry A l b F j8 ops T H1 (n+1) (v::rl) (.below (O H1)::l6) Q)(ha:xs.map (rq T n rl)=args:=by rfl)(ee:A.prom f=W:=by rfl) :
  Ry A l b F j8 (⟨.call f xs,K,K,u⟩::ops) T H n rl l6 Q:=λhn=>by
 obtain ⟨d8,hc⟩:=hc;refine Rx.stepT (N1:=d8) (rs:=[]) rfl (λk hk=>?_) (h2.to hn);have Od :(I4 A k l b).prom f=W:=ee;have nR :(I4 A k l b).cf f args H (I4 A k l b).lim=J (v,H1):=hc k hk;have h3:B7 (I4 A k l b) (O rl.reverse) f args ⟨T,H,rl.reverse++ .any::List.replicate (O ops) .any,l6⟩=J (put ⟨T,H1,rl.reverse++ .any::List.replicate (O ops) .any,.below (O H1)::l6⟩ (O rl.reverse) v):=by
  simp only [B7,Od,if_true,nR,hle]
 simp only [x8,y5,B1,F0.A9,if_true,B9,aq hn,ha,h3,s8,C9,put,I6]
end S
end
theorem yO (id:Nat):∀l:List c7,K8 id l=l.map (c7.kill id)
 |[]=>rfl
 |v::l=>by simp [K8,yO id l]
def IA {id m:Nat}(rl:List c7):K8 id (rl.reverse++ .any::List.replicate m .any)=(K8 id rl).reverse++ .any::List.replicate m .any:=by
 simp [yO,c7.kill]
theorem Pm.aB {A:Prog}{f:FuncId}{args:List c7}{H H1:k9}{l:F9}{v:c7}{p:List c7->k9->F9->Option (c7×k9)}(hp:A.aB f=J p)(h:p args H l=J (v,H1)):Pm A f args H l v H1 :=
 ⟨1,λn hn=>by
  obtain ⟨n,rfl⟩:∃j,n=j+1:=⟨n - 1,V⟩;simp_all [call]⟩
section
variable {A:Prog} {l:F9} {b:Nat}
variable {dr:Bool} {j8 ops:List x9} {T:List c7} {H:k9} {n:Nat} {rl:List c7} {l6:List Touch} {Q:List c7->k9->List c7->Prop}
def S.mvA {s:Nat}{w v:c7}{u:List Nat}(hw:w.I7=v)(h2:Ry A l b dr j8 ops T H (n+1) (v::rl) l6 Q)(hx:T[s]? =J w:=by rfl):Ry A l b dr j8 (⟨.dJ (.slot s),K,K,u⟩::ops) T H n rl l6 Q:=λhn=>by
 refine Rx.step (N1:=0) (rs:=[]) rfl rfl (λq _=>?_) (λrs=>by simp [E6]) (h2.to hn);simp_all [y9.F1,List.replicate,x8,y5,B1,F0.A9,j6,if_false,y9.E2,put,I6,s8,C9]
end
section
variable {A:Prog} {l:F9} {b:Nat}
variable {j8 ops:List x9} {T:List c7} {H:k9} {n:Nat} {rl:List c7} {l6:List Touch} {Q:List c7->k9->List c7->Prop}
namespace S
def mn {dr:Bool}{s:Nat}{T2:List c7}{u:List Nat}(hs:T[s]?.isSome=W:=by rfl)(hT:T.set s .N9=T2:=by simp only [List.set_cons_zero,List.set_cons_succ]<;>rfl)(h2:Ry A l b dr j8 ops T2 H (n+1) (.N9::rl) (.slot s::l6) Q) :
  Ry A l b dr j8 (⟨.dJ (.const .N9),J s,K,u⟩::ops) T H n rl l6 Q:=λhn=>by
 have hs' :s<O T:=by
  simp_all
 refine Rx.step (N1:=0) (rs:=[]) rfl rfl (λn _=>?_) (bZ s l6) (h2.to hn);simp_all [x8,y5,B1,F0.A9,j6,if_false,y9.E2,put,I6,s8,C9,if_true]
end S
end
end Go.y9
namespace Go.y9.S
def gx {Γ Δ:Prop}(k:Δ)(h:PLift Δ->Γ:=by intro d4;(first|refine Ex.seq ?_|refine Ex.region (Rn.text ?_)|refine Ex.region (Rn.draw ?_)|refine Ex.block ?_|refine nl ?_|refine Ex.skip ?_|refine Ex.exit ?_|refine Ex.ret ?_|refine wa ?_|refine sk ?_|refine st ?_|refine mv ?_|refine mt (h2:=?_)|refine mo ?_|refine lp ?_|refine lpo ?_|refine fp ?_|refine ld ?_|refine lf ?_|refine ln ?_|refine li ?_|refine lo ?_|refine gi ?_|refine go ?_|refine ei ?_|refine ni ?_|refine es ?_|refine ns ?_|refine ad ?_|refine sb ?_|refine ng ?_|refine lt ?_|refine le ?_|refine lq ?_|refine lq3 ?_|refine lq2 ?_|refine o12 ?_|refine et ?_|refine ix (h2:=?_)|refine pt ?_|refine pk ?_|refine mw (h2:=?_)|refine ow (h2:=?_)|refine bx (h2:=?_)|refine bxn (h2:=?_)|refine nk ?_|refine nki ?_|refine ac (h2:=?_)|refine so (h2:=?_)|refine sp1 (h2:=?_)|refine o1 ?_|refine o1z ?_|refine ap1 (h2:=?_)|refine e0 ?_|refine Ew (h2:=?_)|refine al1 (h2:=?_)|refine Nv (h2:=?_)|refine alE (h2:=?_)|refine xs (h2:=?_)|refine xsN (h2:=?_)|refine ixN (h2:=?_)|refine Yq (h2:=?_)|refine ls ?_|refine lnT (h2:=?_)|refine lsT (h2:=?_)|refine ldT (h2:=?_)|refine lpT (h2:=?_)|refine qs ?_|refine qb ?_|refine mm ?_|refine ip ?_|refine ipN ?_|refine ipM ?_|refine ak9 ?_|refine df ?_|refine mf ?_|refine qm ?_|refine svh (h2:=?_)|refine svl (h2:=?_)|refine svb (h2:=?_)|fail);exact d4.down):Γ:=h ⟨k⟩
def gr {Γ Δ:Prop}(k:Δ)(h:PLift Δ->Γ:=by intro d4;(repeat' (first|refine gx ?_|fail));exact d4.down):Γ:=h ⟨k⟩
def cc {p:Prop}(h:p:=by first|(simp [*,j5];done)|(simp_all [j5];done)|(simp_all [j5,y4,x6,o6,F3];done)|(simp_all [j5,y4,x6,o6,F3]<;>omega)):p:=h
section
variable {A:Prog} {l:F9} {b:Nat}
def tB {ops:List x9}{draw:Bool}{c:A3}{d e:K7}{T:List c7}{H:k9}{Q:G6->St->Prop}{Δ:Prop}(t:Bool)(k:Δ)(h2:t=W->Ex A l b d ⟨T,H⟩ Q)(h3:t=F->Ex A l b e ⟨T,H⟩ Q)
  (h:PLift Δ->Rn A l b ops draw T H λT' H' L=>T' =T/\H' =H/\∃t',F1 T' L c= .d (.bool t')/\t' =t:=by intro d4;first|exact Rn.text d4.down|exact Rn.draw d4.down):Ex A l b (.test ops draw c d e) ⟨T,H⟩ Q:=Ex.cM t (h ⟨k⟩) h2 h3
def tb {ops:List x9}{draw:Bool}{c:A3}{d e:K7}{T:List c7}{H:k9}{Q:G6->St->Prop}(t:Bool)(h2:t=W->Ex A l b d ⟨T,H⟩ Q)(h3:t=F->Ex A l b e ⟨T,H⟩ Q)
  (h:Rn A l b ops draw T H λT' H' L=>T' =T/\H' =H/\∃t',F1 T' L c= .d (.bool t')/\t' =t:=by (first|refine Rn.text ?_|refine Rn.draw ?_|fail);(repeat' (first|refine gx ?_|refine fk (h1:=λhw=>?_) (h2:=λhw=>?_)|refine Jz (h1:=λhw=>?_) (h2:=λhw=>?_)|refine ⟨rfl,rfl,_,rfl,?_⟩|refine ⟨rfl,rfl⟩|fail));all_goals exact cc) :
  Ex A l b (.test ops draw c d e) ⟨T,H⟩ Q:=Ex.cM t h h2 h3
end
end Go.y9.S
namespace Go.y9
abbrev D7:=Int×Int
structure J8 where
 src:D7
 dst:D7
 dat:Bool
 deriving DecidableEq,Inhabited
def tf (S:List D7)(p:D7):List D7:=if p∈S then S else S++[p]
def jL:List D7->List D7->List D7
 |S,[]=>S
 |S,p::r=>jL (tf S p) r
def Z0 (S:List D7)(f:J8):List D7:=if f.src∈S/\f.dst∉S then S++[f.dst] else S
def pass:List D7->List J8->List D7
 |S,[]=>S
 |S,f::r=>pass (Z0 S f) r
def Ec (fs:List J8):Nat->List D7->List D7
 |0,S=>S
 |n+1,S=>if O (pass S fs)=O S then S else Ec fs n (pass S fs)
def we (fs:List J8)(l:List D7):List D7:=Ec fs (O fs+1) (jL [] l)
inductive Nd (fs:List J8) (l:List D7):D7->Prop
 |base {p:D7}:p∈l->Nd fs l p
 |step {f:J8}:f∈fs->Nd fs l f.src->Nd fs l f.dst
def Lv {S:List D7}{p q:D7}:q∈tf S p↔q∈S\/q=p:=by
 grind [tf]
theorem vF:∀(l S:List D7) {q:D7},q∈jL S l↔q∈S\/q∈l
 |[],S,q=>by simp [jL]
 |p::r,S,q=>by
  rw [jL,vF r,Lv]
  grind
theorem BA:∀(l S:List D7),O (jL S l)<=O S+O l
 |[],_=>j9 _
 |p::r,S=>by
  have h1:=BA r (tf S p)
  grind [tf,jL,List.length_cons]
def zz {S:List D7}{f:J8}{q:D7}(h:q∈S):q∈Z0 S f:=by
 grind [Z0]
def Jp (S:List D7)(f:J8):O S<=O (Z0 S f)/\(O (Z0 S f)=O S->Z0 S f=S/\(f.src∈S->f.dst∈S)):=by
 grind [Z0]
theorem kJ:∀(fs:List J8) {S:List D7} {q:D7},q∈S->q∈pass S fs
 |[],_,_,h=>h
 |_::r,_,_,h=>kJ r (zz h)
theorem oV:∀(fs:List J8) (S:List D7),O S<=O (pass S fs)/\(O (pass S fs)=O S->pass S fs=S/\∀f∈fs,f.src∈S->f.dst∈S)
 |[],_=>⟨j9 _,λ_=>⟨rfl,U⟩⟩
 |f::r,S=>by
  obtain ⟨a1,a2⟩:=Jp S f;obtain ⟨b1,b2⟩:=oV r (Z0 S f)
  grind [pass]
theorem Dk {fs:List J8}{l:List D7}:∀(gs:List J8) {S:List D7},(∀g∈gs,g∈fs)->(∀q∈S,Nd fs l q)->∀q∈pass S gs,Nd fs l q
 |[],_,_,h=>h
 |g::r,S,hg,h=>by
  refine Dk r (λx hx=>hg x (List.mem_cons_of_mem _ hx)) λq hq=>?_
  unfold Z0 at hq;split at hq
  next hc=>
   rcases A5.1 hq with hq|hq
   .exact h q hq
   .simp [L1] at hq
    subst hq;exact .step (hg g List.mem_cons_self) (h _ hc.1)
  simp_all
def dh (fs:List J8)(S:List D7):Nat:=O (fs.filter λf=> !decide (f.dst∈S))
theorem vN (fs:List J8)(S:List D7):dh fs S<=O fs:=List.length_filter_le _ _
theorem vP {S S' :List D7}(h:∀q∈S,q∈S'):∀fs:List J8,dh fs S' <=dh fs S
 |[]=>j9 _
 |f::r=>by
  have:=vP h r
  grind [dh]
theorem oR {S S' :List D7}(h:∀q∈S,q∈S'):∀{fs:List J8} {f:J8},f∈fs->f.dst∉S->f.dst∈S' ->dh fs S' <dh fs S
 |g::r,f,hf,h1,h2=>by
  have h3:=vP h r;unfold dh at *
  rcases List.mem_cons.1 hf with rfl|hf
  .grind
  .have h4:=oR h (fs:=r) hf h1 h2
   grind [dh]
theorem vY:∀(fs:List J8) (S:List D7),O (pass S fs)≠O S->∃f∈fs,f.dst∉S/\f.dst∈pass S fs
 |[],S,h=>absurd rfl h
 |f::r,S,h=>by
  rw [pass] at h ⊢
  by_cases hc:f.src∈S/\f.dst∉S
  .simp_all [List.mem_cons_self,kJ,Z0,if_pos]
  .have e:Z0 S f=S:=by simp_all [Z0]
   rw [e] at h ⊢;obtain ⟨g,hg,h1,h2⟩:=vY r S h
   grind
theorem BQ (fs:List J8):∀(n:Nat) (S:List D7),dh fs S<n->(∀q∈S,q∈Ec fs n S)/\(∀f∈fs,f.src∈Ec fs n S->f.dst∈Ec fs n S)
 |0,_,h=>absurd h (Nat.not_lt_zero _)
 |n+1,S,h=>by
  unfold Ec;split
  .grind [oV]
  next he=>
   obtain ⟨f,hf,h1,h2⟩:=vY fs S he;have:=oR (λq hq=>kJ fs hq) hf h1 h2;obtain ⟨a,b⟩:=BQ fs n (pass S fs) V;simp_all [kJ]
theorem Gj {fs:List J8}{l:List D7}:∀(n:Nat) {S:List D7},(∀q∈S,Nd fs l q)->∀q∈Ec fs n S,Nd fs l q
 |0,_,h=>h
 |n+1,S,h=>by
  unfold Ec;split
  .exact h
  .exact Gj n (Dk fs (λ_ h=>h) h)
def LA {fs:List J8}{l:List D7}{q:D7}:q∈we fs l↔Nd fs l q:=by
 have h:=BQ fs (O fs+1) (jL [] l) (by grind [vN,jL]);refine ⟨Gj _ (λq hq=> .base (by simp_all [vF])) q,λhr=>?_⟩
 induction hr with
 |base hp=>exact h.1 _ (by simp [vF,hp])
 |step hf _ ih=>exact h.2 _ hf ih
def cZ (a b:Int):Int:=if a<b then -1 else if b<a then 1 else 0
def mD (a b:D7):Int:=if cZ a.1 b.1≠0 then cZ a.1 b.1 else cZ a.2 b.2
def RA (a b:Bool):Int:=if a==b then 0 else if a then -1 else 1
def Ka (a b:J8):Int:=if mD a.src b.src≠0 then mD a.src b.src else if mD a.dst b.dst≠0 then mD a.dst b.dst else RA a.dat b.dat
def Fh {α:Type}(cf:α->α->Int)(x:α):List α->List α
 |[]=>[x]
 |y::l=>if cf y x<0 then y::Fh cf x l else x::y::l
def zy {α:Type}(cf:α->α->Int):List α->List α
 |[]=>[]
 |x::l=>Fh cf x (zy cf l)
theorem qJ {α:Type}(cf:α->α->Int)(x:α):∀l,(Fh cf x l).Perm (x::l)
 |[]=>List.Perm.refl _
 |y::l=>by
  simp [Fh];split
  .exact ((qJ cf x l).cons y).trans (List.Perm.swap x y l)
  rfl
theorem jw {α:Type}(cf:α->α->Int):∀l,(zy cf l).Perm l
 |[]=>List.Perm.refl _
 |x::l=>(qJ cf x _).trans ((jw cf l).cons x)
theorem GP {α:Type}{cf:α->α->Int}(htr:∀a b c,¬ cf b a<0->¬ cf c b<0->¬ cf c a<0)(hto:∀a b,cf b a<0->¬ cf a b<0)(x:α):∀l:List α,l.Pairwise (λa b=>¬ cf b a<0)->(Fh cf x l).Pairwise λa b=>¬ cf b a<0
 |[],_=>by simp [Fh]
 |y::l,h=>by
  simp only [Fh];rw [L2] at h;split
  .refine L2.2 ⟨λz hz=>?_,GP htr hto x l h.2⟩
   grind [qJ]
  grind [L2]
theorem wA {α:Type}{cf:α->α->Int}(htr:∀a b c,¬ cf b a<0->¬ cf c b<0->¬ cf c a<0)(hto:∀a b,cf b a<0->¬ cf a b<0):∀l:List α,(zy cf l).Pairwise λa b=>¬ cf b a<0
 |[]=>List.Pairwise.nil
 |x::l=>GP htr hto x _ (wA htr hto l)
def kV {α:Type}{cf:α->α->Int}(htr:∀a b c,¬ cf b a<0->¬ cf c b<0->¬ cf c a<0)(hto:∀a b,cf b a<0->¬ cf a b<0)(han:∀a b,¬ cf b a<0->¬ cf a b<0->a=b)(l:List α):(l.mergeSort λx y=> !decide (cf y x<0))=zy cf l:=by
 refine List.Perm.eq_of_pairwise (le:=λa b=>¬ cf b a<0) (λa b _ _ h1 h2=>han a b h1 h2) ?_ (wA htr hto l) ((List.mergeSort_perm l _).trans (jw cf l).symm);have:=List.pairwise_mergeSort (le:=λx y:α=> !decide (cf y x<0)) (λa b c h1 h2=>by grind) (λa b=>by
  grind) l
 simp_all
def sortP (l:List D7):List D7:=zy mD l
def aY (l:List J8):List J8:=zy Ka l
theorem nN (l:List J8):(aY l).Perm l:=jw _ _
theorem rj (l:List J8):O (aY l)=O l:=(nN l).length_eq
def J8.enc (f:J8):List Data:=[Z f.src.1,Z f.src.2,Z f.dst.1,Z f.dst.2,.bool f.dat]
def nr:List Data->Option (List J8)
 |[]=>J []
 | .int .i64 a:: .int .i64 b:: .int .i64 c:: .int .i64 d:: .bool t::r=>match nr r with
  |some l=>J (⟨(a,b),(c,d),t⟩::l)
  |none=>K
 |_=>K
def qR (g:FuncId):List c7->k9->F9->Option (c7×k9)
 |[.r7 id 5 lo len,.func g' [] []],H,l=>if g' =g/\l.may id=W/\len<=1000000 then match rd H id lo (len * 5) with
   |some vs=>match H7 vs with
    |some cs=>match nr cs with
     |some fs=>match wr H id lo (((aY fs).flatMap J8.enc).map .d) with
      |some H1=>J (.tuple [],H1)
      |none=>K
     |none=>K
    |none=>K
   |none=>K
  else K
 |[.d (.slice 0 _),.func g' [] []],H,_=>if g' =g then J (.tuple [],H) else K
 |_,_,_=>K
def ua:List c7->k9->F9->Option (c7×k9)
 |[.map id],H,_=>match H[id]? with
  |some (.map es)=>match nE es with
   |some ks=>if O ks<=1000000 then J (.own 2 (O ks) (V9 (sortP ks)),H) else K
   |none=>K
  |_=>K
 |_,_,_=>K
def qO:List c7->k9->F9->Option (c7×k9)
 |[.d (.slice 0 _)],H,_=>J (.d (.slice 0 []),H)
 |as,H,l=>iK as H l
def zk:List Data->Option (List D7)
 |[]=>J []
 | .int .i64 a:: .int .i64 b::r=>match zk r with
  |some l=>J ((a,b)::l)
  |none=>K
 |_=>K
def vX (g:FuncId):List c7->k9->F9->Option (c7×k9)
 |[.r7 id 2 lo len,.func g' [] []],H,l=>if g' =g/\l.may id=W/\len<=1000000 then match rd H id lo (len * 2) with
   |some vs=>match H7 vs with
    |some cs=>match zk cs with
     |some fs=>match wr H id lo ((V9 (sortP fs)).map .d) with
      |some H1=>J (.tuple [],H1)
      |none=>K
     |none=>K
    |none=>K
   |none=>K
  else K
 |[.d (.slice 0 _),.func g' [] []],H,_=>if g' =g then J (.tuple [],H) else K
 |_,_,_=>K
end Go.y9
namespace Go.y9.S
section
variable {A:Prog} {l:F9} {b:Nat} {dr:Bool}
variable {j8 ops:List x9} {T:List c7} {H:k9} {n:Nat} {rl:List c7} {l6:List Touch} {Q:List c7->k9->List c7->Prop}
def lqo {x:A3}{m id o:Nat}{cs:List c7}{u:List Nat}(h2:Ry A l b dr j8 ops T H (n+1) (.agg cs::rl) l6 Q)(hx:rq T n rl x= .ptr id o:=by rfl)(hr:rd H id o m=J cs:=by rfl)(hv:cs.map c7.I7=cs:=by rfl) :
  Ry A l b dr j8 (⟨.load (J m) x,K,K,u⟩::ops) T H n rl l6 Q:=Ry.pure (rs:=[id]) rfl (by simp_all [l5]) h2
def mkm {u:List Nat}{id:Nat}{H2:k9}(hi:O H=id:=by simp only [List.length_cons,List.length_nil,Nat.reduceAdd]<;>rfl)(hH:H++[.map []]=H2:=by simp only [List.cons_append,List.nil_append]<;>rfl)
  (h2:Ry A l b F j8 ops T H2 (n+1) (.map id::rl) l6 Q):Ry A l b F j8 (⟨.makeMap,K,K,u⟩::ops) T H n rl l6 Q:=λhn=>by
 have h2:=h2.to hn;refine Rx.stepT (N1:=0) (rs:=[]) rfl (λn _=>?_) h2;simp_all [x8,y5,B1,F0.A9,B9,C8,newId,put,s8,C9]
end
end Go.y9.S
namespace Go.y9
section
variable {A:Prog} {l:F9} {b:Nat}
variable {j8 ops:List x9} {T:List c7} {H:k9} {n:Nat} {rl:List c7} {l6:List Touch} {na nb:Nat} {Q:List c7->k9->List c7->Prop}
namespace S
end S
end
section
variable {A:Prog} {l:F9} {b:Nat}
variable {j8 ops:List x9} {T:List c7} {H:k9} {n:Nat} {rl:List c7} {l6:List Touch} {na nb:Nat} {Q:List c7->k9->List c7->Prop}
namespace S
section
variable {dr:Bool}
def JG {x y:A3}{u:List Nat}{sz id lo len:Nat}{k:IntKind}{e:Int}(h0:0<=e/\e<len)(h2:Ry A l b dr j8 ops T H (n+1) (.ptr id (lo+e.toNat * sz)::rl) l6 Q)(hx:rq T n rl x= .r7 id sz lo len:=by rfl)(hy:rq T n rl y= .d (.int k e):=by rfl) :
  Ry A l b dr j8 (⟨.gN sz x y,K,K,u⟩::ops) T H n rl l6 Q:=Ry.pure (rs:=[]) rfl (by simp_all [l5,and_self,if_true]) h2
def Np {x:A3}{id o:Nat}{v:c7}{u:List Nat}(hr:rd H id o 1=J [v])(hv:v.I7=v)(h2:Ry A l b dr j8 ops T H (n+1) (v::rl) l6 Q)(hx:rq T n rl x= .ptr id o:=by rfl) :
  Ry A l b dr j8 (⟨.load K x,K,K,u⟩::ops) T H n rl l6 Q:=Ry.pure (rs:=[id]) rfl (by simp_all [l5]) h2
def sox {id off:Nat}{x y:A3}{u:List Nat}{v:c7}{H2:k9}(hw:wr H id off [v]=J H2)(hd:Nat.ble (kf j8) n=W:=by rfl)(hy:rq T n rl y= .ptr id off:=by rfl)(hx:Oq T n rl x v:=by exact ⟨rfl,rfl⟩)(hc:v.cells? =J [v]:=by rfl)(hl:l.may id=W:=by rfl)(hb:v.F4<=id+1:=by exact Nat.zero_le _)
  (h2:Ry A l b dr j8 ops T H2 (n+1) (.any::rl) (.obj id::l6) Q):Ry A l b dr j8 (⟨.store 1 y x,K,K,u⟩::ops) T H n rl l6 Q :=
 wG hd hy hx hc rfl hl (by simp_all [A2]) hw h2
end
def mks {x y:A3}{u:List Nat}{sz id len:Nat}{zero:List c7}{H2:k9}(hm:oL sz zero (rq T n rl x) (rq T n rl y)=J len)(hH:H++[.cells (List.replicate len zero).flatten]=H2)(hi:O H=id:=by simp only [List.length_cons,List.length_nil,Nat.reduceAdd]<;>rfl)
  (h2:Ry A l b F j8 ops T H2 (n+1) (.r7 id sz 0 len::rl) l6 Q):Ry A l b F j8 (⟨.gw sz zero x y,K,K,u⟩::ops) T H n rl l6 Q:=λhn=>by
 have h2:=h2.to hn;refine Rx.stepT (N1:=0) (rs:=[]) rfl (λn _=>?_) h2;simp_all [x8,y5,B1,F0.A9,if_true,B9,M0,C8,newId,Option.getD_none,put,I6,s8,C9]
end S
def iv (n:Int):c7:= .d (Z n)
def Xw {H:k9}{id a:Nat}{hs:List Int}(h:H[id]? =J (.cells (hs.map iv)))(ha:a<O hs):rd H id (0+a * 1) 1=J [iv (hs[a]?.getD 0)]:=by
 simp only [rd,h,List.length_map,Nat.mul_one];rw [if_pos V]
 congr 1
 apply List.ext_getElem?
 grind
def XN {H:k9}{id a:Nat}{hs:List Int}{v:Int}(h:H[id]? =J (.cells (hs.map iv)))(ha:a<O hs):wr H id (0+a * 1) [iv v]=J (H.set id (.cells ((hs.set a v).map iv))):=by
 simp only [wr,h,List.length_map,D9];rw [if_pos V,List.map_set];simp_all [splice,D9,M1,if_pos]
end
section
variable {A:Prog} {l:F9} {b:Nat}
theorem Ex.fz {s:Nat}{st st' :St}{Q:G6->St->Prop}(h:jN l b s st=J st')(h2:Q .normal st'):Ex A l b (.fz s) st Q:=⟨_,_,0,h2,λn _=>by
 simp_all [jN,I4,exec]⟩
def GD {lim:F9}{s z n:Nat}{xs:List Data}{T:List c7}{H:k9}(hT:T[s]? =J (.own z n xs))(h0:n≠0)(hb:lim.base=0)(hs:lim.strict=0)(hf:xs.all Data.flat=W) :
  jN lim 0 s ⟨T,H⟩=J ⟨(N5 T).set s (.r7 (O H) z 0 n),H.map s6.forget++[.cells (xs.map .d)]⟩:=by
 simp_all [jN,oF,DQ,if_false,and_self,if_true]
def GC {T:List c7}(hT:T[1000]? =K:=by rfl):jN N6 0 1000 ⟨T,[]⟩=J ⟨T,[.dead]⟩:=by
 simp only [jN,oF,hT,DQ,N6,and_self,if_true,List.nil_append]
def Ci {lim:F9}{s z:Nat}{xs:List Data}{T:List c7}{H:k9}(hT:T[s]? =J (.own z 0 xs)):jN lim 0 s ⟨T,H⟩=J ⟨T,H⟩:=by
 simp_all [jN,oF,DQ]
def NT {lim:F9}{s z n p:Nat}{xs:List Data}{T:List c7}{H:k9}(hT:T[s]? =J (.ptr p 0))(hH:H[p]? =J (.cells [.own z n xs]))(h0:n≠0)(hb:lim.base=0)(hs:lim.strict=0)(hf:xs.all Data.flat=W) :
  jN lim 0 s ⟨T,H⟩=J ⟨N5 T,(H.map s6.forget).set p (.cells [.r7 (O H) z 0 n])++[.cells (xs.map .d)]⟩:=by
 simp_all [jN,oF,pE,DQ,sG,if_false,and_self,if_true,N5,c7.forget,List.set_cons_zero]
def KO {lim:F9}{s z p:Nat}{xs:List Data}{T:List c7}{H:k9}(hT:T[s]? =J (.ptr p 0))(hH:H[p]? =J (.cells [.own z 0 xs])):jN lim 0 s ⟨T,H⟩=J ⟨T,H⟩:=by
 simp_all [jN,oF,pE,DQ,sG,if_true]
def uY {α:Type}{enc:α->List Data}(h:∀a,(enc a).all Data.flat=W):∀l:List α,(l.flatMap enc).all Data.flat=W
 |[]=>rfl
 |a::l=>by grind
end
namespace S
section
variable {A:Prog} {l:F9} {b:Nat} {dr:Bool} {j8 ops:List x9} {T:List c7} {H:k9} {n:Nat} {rl:List c7} {l6:List Touch} {Q:List c7->k9->List c7->Prop}
def QG:∀cs:List Data,(cs.map c7.d).all c7.one=W
 |[]=>rfl
 |c::cs=>by
  simp_all [E8,List.all_cons,c7.one,Bool.and_self]
def oN {α:Type}{enc:α->List Data}(a:α){sz:Nat}{zero:List c7}{x:A3}{u:List Nat}(h2:Ry A l b dr j8 ops T H (n+1) (.own sz 1 (enc a)::rl) l6 Q)(hx:rq T n rl x= .agg ((enc a).map .d):=by rfl)(hc:O (enc a)=sz:=by rfl)(hz:O zero=sz:=by rfl)(h0:Nat.ble 1 sz=W:=by rfl) :
  Ry A l b dr j8 (⟨.M8 sz 1 zero [(0,sz,x)] F,K,K,u⟩::ops) T H n rl l6 Q:=by
 have h0' :=j4 h0;have h1:T4 zero [(0,sz,c7.agg ((enc a).map .d))]=J ((enc a).map .d):=by
  simp only [T4,c7.cells?,QG,splice,List.take_zero];simp_all
 refine Ry.pure (rs:=[]) rfl ?_ h2;simp [l5,E8,List.map_nil,hx,h1,bP,and_true]
 grind
def SK {s:Nat}{w:c7}{x:Data}{u:List Nat}(hw:w= .d x\/∃z,w= .own z 0 []/\x= .slice 0 [])(h2:Ry A l b dr j8 ops T H (n+1) (.d x::rl) l6 Q)(hT:T[s]? =J w:=by rfl) :
  Ry A l b dr j8 (⟨.dJ (.slot s),K,K,u⟩::ops) T H n rl l6 Q:=by
 rcases hw with rfl|⟨z,rfl,rfl⟩
 .exact mv h2 ⟨hT,rfl⟩
 grind [mo]
def iX {f:FuncId}{xs:List A3}{u:List Nat}{v:c7}{args:List c7}(hc:Pf A f args v)(h2:Ry A l b dr j8 ops T H (n+1) (v::rl) (.below 0::l6) Q)(ha:xs.map (rq T n rl)=args:=by rfl)(hb:A2 args=0:=by rfl)(ee:A.prom f=F:=by rfl)(hm:A.mode f=0:=by rfl)
  (jH:(⟨l.Ef,l.Ee,0,A6 H l.strict 0⟩:F9)=N6:=by rfl):Ry A l b dr j8 (⟨.call f xs,K,K,u⟩::ops) T H n rl l6 Q:=λhn=>by
 obtain ⟨d8,hc⟩:=hc;have h3:∀k,d8<=k->B7 (I4 A k l b) (O rl.reverse) f args ⟨T,H,rl.reverse++ .any::List.replicate (O ops) .any,l6⟩=J (put ⟨T,[]++H.drop 0,rl.reverse++ .any::List.replicate (O ops) .any,.below 0::l6⟩ (O rl.reverse) v):=λk hk =>
  ig (m:=0) (l2:=N6) ee hm (by simp_all [D4]) (Nat.zero_le _) (by simp_all [D3]) jH (by exact hc k hk) rfl
 refine Rx.step (N1:=d8) (rs:=[]) rfl rfl (λk hk=>?_) (λrs=>?_) (h2.to hn)
 all_goals simp_all [x8,y5,B1,F0.A9,if_true,B9,aq,s8,C9,put,I6,List.drop_zero,List.nil_append,E6,Touch.E3]
def RD {f:FuncId}{x:A3}{xs:List A3}{first caps:List c7}{u:List Nat}{v:c7}{args:List c7}(hc:Pf A f args v)(h2:Ry A l b dr j8 ops T H (n+1) (v::rl) (.below 0::l6) Q)(hx:rq T n rl x= .func f first caps:=by rfl)(ha:first++xs.map (rq T n rl)++caps=args:=by rfl)(hb:A2 args=0:=by rfl)(ee:A.prom f=F:=by rfl)(hm:A.mode f=0:=by rfl)
  (jH:(⟨l.Ef,l.Ee,0,A6 H l.strict 0⟩:F9)=N6:=by rfl):Ry A l b dr j8 (⟨.bJ x xs,K,K,u⟩::ops) T H n rl l6 Q:=λhn=>by
 obtain ⟨d8,hc⟩:=hc;have h3:∀k,d8<=k->B7 (I4 A k l b) (O rl.reverse) f args ⟨T,H,rl.reverse++ .any::List.replicate (O ops) .any,l6⟩=J (put ⟨T,[]++H.drop 0,rl.reverse++ .any::List.replicate (O ops) .any,.below 0::l6⟩ (O rl.reverse) v):=λk hk =>
  ig (m:=0) (l2:=N6) ee hm (by simp_all [D4]) (Nat.zero_le _) (by simp_all [D3]) jH (by exact hc k hk) rfl
 refine Rx.step (N1:=d8) (rs:=[]) rfl rfl (λk hk=>?_) (λrs=>?_) (h2.to hn)
 all_goals simp_all [x8,y5,B1,F0.A9,if_true,B9,M0,aq,s8,C9,put,I6,List.drop_zero,List.nil_append,E6,Touch.E3]
def ad0 {f:FuncId}{xs:List A3}{u:List Nat}{z n0:Nat}{cs:List Data}{args:List c7}{s:Nat}{T2:List c7}(hc:Pf A f args (.own z n0 cs))(ha:xs.map (rq T n rl)=args:=by rfl)(ee:A.prom f=F:=by rfl)(hm:A.mode f=1:=by rfl)
  (hb:A2 args=0:=by rfl) (hs:T[s]?.isSome=W:=by rfl) (hT:T.set s (.own z n0 cs)=T2:=by simp only [List.set_cons_zero,List.set_cons_succ]<;>rfl)
  (h2:Ry A l b dr j8 ops T2 H (n+1) (.d (.slice n0 cs)::rl) (.slot s::l6) Q):Ry A l b dr j8 (⟨.call f xs,J s,K,u⟩::ops) T H n rl l6 Q:=λhn=>by
 obtain ⟨d8,hc⟩:=hc;have hs:s<O T:=by
  simp_all
 have h2:=h2.to hn;refine Rx.step (N1:=d8) (rs:=[]) rfl rfl (λk hk=>?_) (bZ s l6) h2;have h3:B7 (I4 A k l b) (O rl.reverse) f args ⟨T,H,rl.reverse++ .any::List.replicate (O ops) .any,l6⟩=J (put ⟨T,H,rl.reverse++ .any::List.replicate (O ops) .any,l6⟩ (O rl.reverse) (.own z n0 cs)) :=
  aL ee hm hb (hc k hk)
 have TZ :xs.map (y9.F1 T (rl.reverse++ .any::List.replicate (O ops) .any))=args:=by
  rw [show y9.F1 T (rl.reverse++ .any::List.replicate (O ops) .any)=rq T n rl from funext λx=>M0 hn _ x];exact ha
 have h5:y9.E2 ⟨T,H,rl.reverse++ .own z n0 cs::List.replicate (O ops) .any,l6⟩ (.loc (O rl.reverse))=(.own z n0 cs,⟨T,H,rl.reverse++ .d (.slice n0 cs)::List.replicate (O ops) .any,l6⟩):=by
  simp_all [y9.E2]
 simp_all [x8,y5,B1,F0.A9,if_true,B9,s8,C9,put,I6]
def am3 {k:Nat}{cs:List Data}{x:A3}{u:List Nat}{s:Nat}{T2:List c7}(hx:rq T n rl x= .d (.slice k cs):=by rfl)(hs:T[s]?.isSome=W:=by rfl)(hT:T.set s (.d (.int .i64 k))=T2:=by simp only [List.set_cons_zero,List.set_cons_succ]<;>rfl)
  (h2:Ry A l b dr j8 ops T2 H (n+1) (.d (.int .i64 k)::rl) (.slot s::l6) Q):Ry A l b dr j8 (⟨.len x,J s,K,u⟩::ops) T H n rl l6 Q :=
 Ry.nL (v:= .d (.int .i64 k)) (rs:=[]) rfl (by grind [l5,i64]) rfl rfl hs M
def TU {sz len:Nat}{zero:List c7}{parts:List (Nat×Nat×A3)}(cs:List Data){u:List Nat}(h2:Ry A l b dr j8 ops T H (n+1) (.own sz len cs::rl) l6 Q)(hr:T4 zero (parts.map λp=>(p.1,p.2.1,rq T n rl p.2.2))=J (cs.map .d):=by rfl)(hl:O cs=len * sz:=by rfl)(h0:Nat.ble 1 sz=W:=by rfl) :
  Ry A l b dr j8 (⟨.M8 sz len zero parts F,K,K,u⟩::ops) T H n rl l6 Q:=by
 have h0' :=j4 h0;refine Ry.pure (rs:=[]) rfl ?_ h2;have hr' :T4 zero (parts.map λx=>match x with|(o,s,x)=>(o,s,rq T n rl x))=J (cs.map .d):=hr;simp [l5,hr',bP,hl]
 grind
def owS {j s d z n0 n' :Nat}{cs cs' :List Data}{u u' :List Nat}{d' :Option Nat}{g' :Option (Nat×Bool)}{T2:List c7}(h2:Ry A l b dr j8 ops T2 H (n+1) (.d (.slice n0 cs)::rl) (.slot d:: .slot s::l6) Q)
  (hj:lk n rl j=J (.d (.slice n' cs')):=by rfl) (ha:j8[j]? =J ⟨.dJ (.slot s),d',g',u'⟩:=by rfl) (ht:l6.any (Touch.P9 s)=F:=by rfl) (hT:T[s]? =J (.own z n0 cs):=by rfl)
  (hs:T[d]?.isSome=W:=by rfl) (hT2:(T.set s (.d (.slice n0 cs))).set d (.own z n0 cs)=T2:=by simp only [List.set_cons_zero,List.set_cons_succ]<;>rfl) :
  Ry A l b dr j8 (⟨.own z (.loc j),J d,K,u⟩::ops) T H n rl l6 Q:=λhn=>by
 have hj' :rl.reverse[j]? =J (.d (.slice n' cs')):=by simp_all [aJ]
 have hjl:j<O rl.reverse:=by
  grind
 have hs' :d<O (T.set s (.d (.slice n0 cs))):=by
  simp_all
 have hL:∀r:List c7,(rl.reverse++ .any::r)[j]? =J (.d (.slice n' cs')):=λr=>by grind
 have h2:=h2.to hn;rw [<- hT2] at h2;refine Rx.step (N1:=0) (rs:=[]) rfl rfl (λk _=>?_) (λrs=>?_) h2
 .have h5:y9.E2 ⟨T.set s (.d (.slice n0 cs)),H,rl.reverse++ .own z n0 cs::List.replicate (O ops) .any,.slot s::l6⟩ (.loc (O rl.reverse))=(.own z n0 cs,⟨T.set s (.d (.slice n0 cs)),H,rl.reverse++ .d (.slice n0 cs)::List.replicate (O ops) .any,.slot s::l6⟩):=by
   simp_all [y9.E2]
  simp only [x8,y5,B1,F0.A9,if_true,B9,O6,hL,ha,W0,ht,hT,j6,if_false,put,I6,s8,C9,hs',h5]
 .have:O l6+1+1 - O l6=2:=V
  simp [E6,this,Touch.E3]
def moT {s d z n0:Nat}{cs:List Data}{u:List Nat}{T2:List c7}(hx:T[s]? =J (.own z n0 cs):=by rfl)(hs:T[d]?.isSome=W:=by rfl)(hT:T.set d (.d (.slice n0 cs))=T2:=by simp only [List.set_cons_zero,List.set_cons_succ]<;>rfl)
  (h2:Ry A l b dr j8 ops T2 H (n+1) (.d (.slice n0 cs)::rl) (.slot d::l6) Q):Ry A l b dr j8 (⟨.dJ (.slot s),J d,K,u⟩::ops) T H n rl l6 Q:=λhn=>by
 have hs' :d<O T:=by
  simp_all
 have h2:=h2.to hn;refine Rx.step (N1:=0) (rs:=[]) rfl rfl (λk _=>?_) (bZ d l6) h2;have e1:∀r,y9.E2 ⟨T,H,r,l6⟩ (.slot s)=(.d (.slice n0 cs),⟨T,H,r,l6⟩):=λr=>by simp [y9.E2,y9.F1,hx,c7.I7]
 have h5:y9.E2 ⟨T,H,rl.reverse++ .d (.slice n0 cs)::List.replicate (O ops) .any,l6⟩ (.loc (O rl.reverse))=(.d (.slice n0 cs),⟨T,H,rl.reverse++ .d (.slice n0 cs)::List.replicate (O ops) .any,l6⟩):=by
  simp_all [y9.E2,y9.F1,c7.I7]
 simp_all [x8,y5,B1,F0.A9,j6,if_false,put,I6,s8,C9,if_true]
def XS {α:Type}{enc:α->List Data}{xs:List α}(a:α){j k sz bytes id off:Nat}{y:A3}{u u' :List Nat}{d' :Option Nat}{g' :Option (Nat×Bool)}{n' :Nat}{cs' :List Data}{old new:List c7}{H2:k9}
  (hr:roomFor (O xs+1) bytes=W) (hy:rq T n rl y= .d (.slice 1 (enc a)):=by rfl) (hs:O (enc a)=1 * sz:=by rfl) (h0:Nat.ble 1 sz=W:=by rfl) (hj:lk n rl j=J (.d (.slice n' cs')):=by rfl) (ha:j8[j]? =J ⟨.load K (.loc k),d',g',u'⟩:=by rfl) (hk:lk n rl k=J (.ptr id off):=by rfl) (ht:l6.any (Touch.V0 id off)=F:=by rfl) (hl:l.may id=W:=by rfl) (ho:H[id]? =J (.cells old):=by rfl) (hc:old[off]? =J (A8 sz enc xs):=by rfl)
  (hN:old.set off (.d (s7 enc xs))=new:=by rfl) (hH:H.set id (.cells new)=H2:=by simp only [List.set_cons_zero,List.set_cons_succ]<;>rfl)
  (h2:Ry A l b dr j8 ops T H2 (n+1) (A8 sz enc (xs++[a])::rl) (.cell id off::l6) Q):Ry A l b dr j8 (⟨.append sz bytes F (.loc j) y,K,K,u⟩::ops) T H n rl l6 Q :=
 Ry.Nw hj ha hk ht hl ho hc hy hs hr (j4 h0) (by
  have e1:A8 sz enc (xs++[a])= .own sz (O xs+1) (xs.flatMap enc++enc a):=by simp [A8]
  rw [e1] at h2;subst hH hN;exact h2)
end
end S
section
variable {A:Prog} {l:F9} {b:Nat} {T:List c7} {H:k9}
def Ex.J4 {mask:List Bool}{body:K7}{R:G6->St->Prop}(Inv:Nat->List c7->k9->Prop)
  (hb:∀k T' H',Inv k T' H' ->Ex A l b body ⟨T',H'⟩ (jO R λs=>∃k',k' <k/\Inv k' (P8 mask s.T) s.H)) {k:Nat} (h:Inv k (P8 mask T) H)
  (hl:∀k T' H',Inv k T' H' ->O H'=O H:=by simp only [forall_exists_index,and_imp];intros;subst_vars;rfl):Ex A l b (.loop mask body) ⟨T,H⟩ R:=by
 refine Ex.loop (λk s=>Inv k (P8 mask s.T) s.H) (λk s hs=>?_) (k:=k) h;obtain ⟨T',H'⟩:=s;rw [qy (hl k _ H' hs)];exact hb k _ H' hs
def Ex.bW {mask:List Bool}{body:K7}{R:G6->St->Prop}(Inv:Nat->List c7->k9->Prop)
  (hb:∀k T' H',Inv k T' H' ->Ex A l b body ⟨P8 mask T',H'⟩ (jO R λs=>∃k',k' <k/\Inv k' s.T s.H)) {k:Nat} (h:Inv k T H)
  (hl:∀k T' H',Inv k T' H' ->O H'=O H:=by simp only [forall_exists_index,and_imp];intros;subst_vars;rfl):Ex A l b (.loop mask body) ⟨T,H⟩ R:=Ex.yU Inv hl hb h
def Pf.go {f:FuncId}{af:p6}{args:List c7}{v:c7}{T:List c7}(n:Nat)(h:Ex A N6 0 af.body ⟨T,[]⟩ λx s=>∃w,R4 af 0 (J (x,s))=J (w,[])/\w=v)
  (hf:A.fn f=J af:=by rfl) (hp:A.aB f=K:=by rfl) (hn:O args=af.nparams:=by rfl)
  (hT:args++List.replicate n .any=T:=by simp only [List.replicate,List.cons_append,List.nil_append]<;>rfl) (hN:O af.names - O args=n:=by rfl):Pf A f args v :=
 Pf.run T hp hf hn (by rw [hN];exact hT) h
def Pf.gr {f:FuncId}{af:p6}{args:List c7}{v:c7}{T:List c7}{Δ:Prop}(n:Nat)(k:Δ)
  (hf:A.fn f=J af:=by rfl) (hp:A.aB f=K:=by rfl) (hn:O args=af.nparams:=by rfl)
  (hT:args++List.replicate n .any=T:=by simp only [List.replicate,List.cons_append,List.nil_append]<;>rfl) (hN:O af.names - O args=n:=by rfl)
  (h:PLift Δ->Ex A N6 0 af.body ⟨T,[]⟩ λx s=>∃w,R4 af 0 (J (x,s))=J (w,[])/\w=v:=by intro d4;(repeat' (first|refine gx ?_|fail));exact d4.down):Pf A f args v :=
 Pf.go n (h ⟨k⟩) hf hp hn hT hN
def kk {P:Nat->Prop}{k:Nat}(h:P (k - 1))(hk:k - 1<k:=by omega):∃k',k' <k/\P k' :=⟨_,hk,h⟩
def Pq.go {f:FuncId}{af:p6}{args:List c7}{H:k9}{Post:c7->k9->Prop}{T:List c7}(n:Nat)(h:Ex A l b af.body ⟨T,H⟩ λx s=>∃w H1,R4 af b (J (x,s))=J (w,H1)/\Post w H1)
  (hf:A.fn f=J af:=by rfl) (hp:A.aB f=K:=by rfl) (hn:O args=af.nparams:=by rfl) (hb:O H=b:=by rfl)
  (hT:args++List.replicate n .any=T:=by simp only [List.replicate,List.cons_append,List.nil_append]<;>rfl) (hN:O af.names - O args=n:=by rfl):Pq A f args H l Post :=
 Pq.run T hp hf hn hb (by rw [hN];exact hT) h
end
namespace S
def gy {Γ Δ:Prop}(k:Δ)(h:PLift Δ->Γ:=by intro d4;(first|refine gx ?_|refine Ex.mE ?_|refine Ex.ou ?_|refine Ex.test (Rn.text ?_)|refine Ex.test (Rn.draw ?_)|fail);exact d4.down):Γ:=h ⟨k⟩
def fq {Γ Δ E p q:Prop}(k:p->Δ)(m:q->E)(h:PLift (p->Δ)->PLift (q->E)->Γ:=by intro d4 L;first|exact fk (h1:=d4.down) (h2:=L.down)|exact Jz (h1:=d4.down) (h2:=L.down)|exact Ex.cond rfl d4.down L.down|exact ⟨_,rfl,d4.down,L.down⟩):Γ:=h ⟨k⟩ ⟨m⟩
def ft {Γ Δ E p q:Prop}(k:p->Δ)(m:q->E)(h:PLift (p->Δ)->PLift (q->E)->Γ:=by intro d4 L;first|exact Ex.cond rfl d4.down L.down|exact ⟨_,rfl,d4.down,L.down⟩):Γ:=h ⟨k⟩ ⟨m⟩
def gc {P Γ Δ:Prop}(p:P)(k:Δ)(h:PLift P->PLift Δ->Γ:=by intro p d4;(repeat' (first|refine cl (p.down ..) ?_|refine iX (p.down ..) ?_|refine cl (p.down.1 ..) ?_|refine cl (p.down.2 ..) ?_|refine iX (p.down.1 ..) ?_|refine iX (p.down.2 ..) ?_|refine cl (p.down.2.1 ..) ?_|refine cl (p.down.2.2 ..) ?_|refine iX (p.down.2.1 ..) ?_|refine iX (p.down.2.2 ..) ?_|refine gx ?_|fail));exact d4.down):Γ:=h ⟨p⟩ ⟨k⟩
section
variable {A:Prog} {l:F9} {b:Nat}
def tc {P:Prop}{ops:List x9}{draw:Bool}{c:A3}{d e:K7}{T:List c7}{H:k9}{Q:G6->St->Prop}(t:Bool)(p:P)(h2:t=W->Ex A l b d ⟨T,H⟩ Q)(h3:t=F->Ex A l b e ⟨T,H⟩ Q)
  (h:PLift P->Rn A l b ops draw T H λT' H' L=>T' =T/\H' =H/\∃t',F1 T' L c= .d (.bool t')/\t' =t:=by intro p;(first|refine Rn.text ?_|refine Rn.draw ?_|fail);(repeat' (first|refine cl (p.down ..) ?_|refine iX (p.down ..) ?_|refine cl (p.down.1 ..) ?_|refine cl (p.down.2 ..) ?_|refine iX (p.down.1 ..) ?_|refine iX (p.down.2 ..) ?_|refine cl (p.down.2.1 ..) ?_|refine cl (p.down.2.2 ..) ?_|refine iX (p.down.2.1 ..) ?_|refine iX (p.down.2.2 ..) ?_|refine gx ?_|refine fk (h1:=λhw=>?_) (h2:=λhw=>?_)|refine Jz (h1:=λhw=>?_) (h2:=λhw=>?_)|refine ⟨rfl,rfl,_,rfl,?_⟩|refine ⟨rfl,rfl⟩|fail));all_goals exact cc) :
  Ex A l b (.test ops draw c d e) ⟨T,H⟩ Q:=Ex.cM t (h ⟨p⟩) h2 h3
def tl {ops:List x9}{draw:Bool}{c:A3}{d e:K7}{T:List c7}{H:k9}{Q:G6->St->Prop}(x y:Int)(h2:x<y->Ex A l b d ⟨T,H⟩ Q)(h3:y<=x->Ex A l b e ⟨T,H⟩ Q)
  (h:Rn A l b ops draw T H λT' H' L=>T' =T/\H' =H/\∃t',F1 T' L c= .d (.bool t')/\t' =D5 x y:=by (first|refine Rn.text ?_|refine Rn.draw ?_|fail);(repeat' (first|refine gx ?_|refine fk (h1:=λhw=>?_) (h2:=λhw=>?_)|refine Jz (h1:=λhw=>?_) (h2:=λhw=>?_)|refine ⟨rfl,rfl,_,rfl,?_⟩|refine ⟨rfl,rfl⟩|fail));all_goals exact cc) :
  Ex A l b (.test ops draw c d e) ⟨T,H⟩ Q:=Ex.cM (D5 x y) h (λh=>h2 (A7 h)) λh=>h3 (B8 h)
end
end S
def iT (op:Int):Int :=
 if x4 op 1||x4 op 2 then 0 else if x4 op 3||x4 op 9||x4 op 13||x4 op 16 then 1 else if x4 op 18 then 3 else if T5 1 op&&T5 op 18 then 2 else -1
def eO (k n:Int)(s:G4):Bool :=
 if x4 k 0 then x4 n 0&&K3 s [] else if x4 k 1 then T5 (-4294967296) n&&T5 n 4294967296&&K3 s [] else if x4 k 2 then x4 n 0&&T5 (O s) 32 else F
def zeroV (t:R2):Bool:=x4 t.kind 0&&x4 t.int 0&&K3 t.text []
def bt (t:R2):Bool :=
 if x4 t.op 1 then eO t.kind t.int t.text&& !x4 t.kind 0&&x4 t.col 0 else if x4 t.op 2 then zeroV t&&T5 0 t.col else zeroV t&&x4 t.col 0
def tZ (t:R2):Bool:= !D5 (iT t.op) 0&&bt t
def lC (op:Int):iT op<=3:=by
 grind [iT]
inductive X8 where
 |node (t:R2) (l:List X8)
mutual
def X8.flat:X8->List R2
 | .node t l=>t::K4 l
def K4:List X8->List R2
 |[]=>[]
 |a::l=>a.flat++K4 l
end
mutual
def X8.dep:X8->Nat
 | .node _ l=>ja l+1
def ja:List X8->Nat
 |[]=>0
 |a::l=>max a.dep (ja l)
end
mutual
def X8.wf:X8->Prop
 | .node t l=>tZ t=W/\(iT t.op).toNat=O l/\Nr l
def Nr:List X8->Prop
 |[]=>True
 |a::l=>a.wf/\Nr l
end
def cD (f:List R2->Option (X8×List R2)):Nat->List R2->Option (List X8×List R2)
 |0,r=>J ([],r)
 |k+1,r=>match f r with
  |none=>K
  |some (a,r')=>match cD f k r' with
   |none=>K
   |some (l,r2)=>J (a::l,r2)
def L0:Nat->List R2->Option (X8×List R2)
 |0,_=>K
 |_+1,[]=>K
 |d+1,t::r=>if tZ t then match cD (L0 d) (iT t.op).toNat r with
   |none=>K
   |some (l,r')=>J (.node t l,r')
  else K
theorem vv {f:List R2->Option (X8×List R2)}{d:Nat}(hf:∀r a r',f r=J (a,r')->r=a.flat++r' /\a.wf/\a.dep<=d):∀(k:Nat) (r:List R2) (l:List X8) (r' :List R2),cD f k r=J (l,r')->r=K4 l++r' /\Nr l/\ja l<=d/\O l=k
 |0,r,l,r',h=>by
  simp_all [cD,Option.some.injEq,Prod.mk.injEq,K4,Nr,ja]
 |k+1,r,l,r',h=>by
  simp [cD] at h;split at h
  .cases h
  next a r1 h1=>
   split at h
   .cases h
   next l2 r2 h2=>
    obtain ⟨rfl,rfl⟩:=h;obtain ⟨e1,e2,e3⟩:=hf _ _ _ h1;obtain ⟨g1,g2,g3,g4⟩:=vv hf k _ _ _ h2;refine ⟨?_,⟨e2,g2⟩,?_,by simp [g4]⟩
    all_goals grind [K4,ja]
theorem Q3:∀(d:Nat) (r:List R2) (a:X8) (r' :List R2),L0 d r=J (a,r')->r=a.flat++r' /\a.wf/\a.dep<=d
 |0,r,a,r',h=>by simp [L0] at h
 |d+1,[],a,r',h=>by simp [L0] at h
 |d+1,t::r,a,r',h=>by
  simp only [L0] at h;split at h
  next ht=>
   split at h
   .cases h
   next l r1 h1=>
    obtain ⟨rfl,rfl⟩:=h;obtain ⟨g1,g2,g3,g4⟩:=vv (Q3 d) _ _ _ _ h1;refine ⟨?_,⟨ht,g4.symm,g2⟩,?_⟩
    all_goals simp_all [X8.flat,X8.dep]
  .cases h
mutual
theorem T9:∀(a:X8) (d:Nat) (r:List R2),a.wf->a.dep<=d->L0 d (a.flat++r)=J (a,r)
 | .node t l,0,r,_,h=>by simp [X8.dep] at h
 | .node t l,d+1,r,hw,h=>by
  simp [X8.dep] at h;obtain ⟨h1,h2,h3⟩:=hw;have h4:=mI l d r h3 V;simp_all [X8.flat,List.cons_append,L0,if_true]
theorem mI:∀(l:List X8) (d:Nat) (r:List R2),Nr l->ja l<=d->cD (L0 d) (O l) (K4 l++r)=J (l,r)
 |[],d,r,_,_=>by rfl
 |a::l,d,r,hw,h=>by
  simp [ja] at h;have h1:=T9 a d (K4 l++r) hw.1 V;have h2:=mI l d r hw.2 V;simp_all [K4,G8,List.length_cons,cD]
end
mutual
theorem kA:∀a:X8,a.dep<=O a.flat
 | .node t l=>by
  have:=yw l;simp_all [X8.dep,X8.flat,List.length_cons]
theorem yw:∀l:List X8,ja l<=O (K4 l)
 |[]=>by simp [ja]
 |a::l=>by
  have h1:=kA a;have h2:=yw l
  grind [ja,K4,List.length_append]
end
def fL (a:X8):0<O a.flat:=by
 cases a;simp [X8.flat]
theorem qC:∀l:List X8,O l<=O (K4 l)
 |[]=>U
 |a::l=>by
  have:=fL a;have:=qC l
  grind [K4,List.length_append,List.length_cons]
def AH {d d' :Nat}{r:List R2}(h:O r<=d)(h' :O r<=d'):L0 d r=L0 d' r:=by
 cases h1:L0 d r with
 |some p =>
  obtain ⟨a,r'⟩:=p;obtain ⟨e,w,_⟩:=Q3 d r a r' h1
  grind [kA,T9]
 |none =>
  cases h2:L0 d' r with
  |none=>rfl
  |some p =>
   obtain ⟨a,r'⟩:=p;obtain ⟨e,w,_⟩:=Q3 d' r a r' h2
   grind [kA,T9]
def eM (op:Int)(t:List Int):Int :=
 if x4 op 3||x4 op 13 then (if x4 (Y t 0) 1 then 1 else 0)
 else if x4 op 8 then (if x4 (Y t 0) 2&&x4 (Y t 1) 2 then 2 else 0)
 else if x4 op 9 then (if x4 (Y t 0) 2 then 1 else 0)
 else if x4 op 10 then (if x4 (Y t 0) 2&&x4 (Y t 1) 1 then 2 else 0)
 else if x4 op 11||x4 op 12 then (if x4 (Y t 0) (Y t 1) then 1 else 0)
 else if x4 op 16 then 1
 else if x4 op 17 then (if x4 (Y t 0) (Y t 1) then Y t 0 else 0)
 else if x4 op 18 then (if x4 (Y t 0) 1&&x4 (Y t 1) (Y t 2) then Y t 1 else 0)
 else (if x4 (Y t 0) 1&&x4 (Y t 1) 1 then 1 else 0)
def wO (ty:List Int)(t:R2)(ts:List Int):Int×Int :=
 if x4 t.op 1 then (t.kind,0) else if x4 t.op 2 then (if T5 (O ty) t.col then (0,3) else (Y ty t.col.toNat,0))
 else if x4 (eM t.op ts) 0 then (0,5) else (eM t.op ts,0)
mutual
def X8.typ (ty:List Int):X8->Int×Int
 | .node t l=>if x4 (ew ty l).2 0 then wO ty t (ew ty l).1 else (0,(ew ty l).2)
def ew (ty:List Int):List X8->List Int×Int
 |[]=>([],0)
 |a::l=>if x4 (a.typ ty).2 0 then ((a.typ ty).1::(ew ty l).1,(ew ty l).2) else ([],(a.typ ty).2)
end
def aH (ty:List Int):Bool:=ty.all λt=>x4 t 1||x4 t 2
def dP (e:List R2):Option X8:=if T5 1 (O e)&&T5 (O e) 64 then match L0 16 e with
  |some (a,[])=>J a
  |_=>K
 else K
def J7 (e:List R2)(ty:List Int):Int×Int:=match dP e with
 |none=>(0,1)
 |some a=>if aH ty then a.typ ty else (0,1)
def tY {α:Type} [Inhabited α] (i:Nat):Y ([]:List α) i=default:=by simp [Y]
def AP (ty:List Int)(t:R2)(a b c:Int):Int×Bool :=
 if x4 t.op 1 then (t.kind,W) else if x4 t.op 2 then (Y ty t.col.toNat,W)
 else if x4 t.op 3||x4 t.op 13 then (1,x4 a 1)
 else if x4 t.op 8 then (2,x4 a 2&&x4 b 2)
 else if x4 t.op 9 then (1,x4 a 2)
 else if x4 t.op 10 then (2,x4 a 2&&x4 b 1)
 else if x4 t.op 11||x4 t.op 12 then (1,x4 a b)
 else if x4 t.op 16 then (1,W)
 else if x4 t.op 17 then (a,x4 a b)
 else if x4 t.op 18 then (b,x4 a 1&&x4 b c)
 else (1,x4 a 1&&x4 b 1)
def good (x:Int):Prop:=x=1\/x=2
def Da {l:List Int}(h:∀x,x∈l->good x){i:Nat}(hn:Y l i≠0):good (Y l i):=by
 simp_all [Y]<;>grind
theorem EV {ty:List Int}(h:aH ty=W):∀x,x∈ty->good x:=by
 intro x hx;have:=List.all_eq_true.1 h x hx;simp_all [o6,good]
def DZ {op:Int}{ts:List Int}(h:∀x,x∈ts->good x)(hn:eM op ts≠0):good (eM op ts):=by
 unfold eM at hn ⊢;split
 .rename_i h1;rw [if_pos h1] at hn;split at hn<;>simp_all [good]
 rename_i h1;rw [if_neg h1] at hn;split
 .rename_i h1;rw [if_pos h1] at hn;split at hn<;>simp_all [good]
 rename_i h1;rw [if_neg h1] at hn;split
 .rename_i h1;rw [if_pos h1] at hn;split at hn<;>simp_all [good]
 rename_i h1;rw [if_neg h1] at hn;split
 .rename_i h1;rw [if_pos h1] at hn;split at hn<;>simp_all [good]
 rename_i h1;rw [if_neg h1] at hn;split
 .rename_i h1;rw [if_pos h1] at hn;split at hn<;>simp_all [good]
 rename_i h1;rw [if_neg h1] at hn;split
 .exact Or.inl rfl
 rename_i h1;rw [if_neg h1] at hn;split
 .rename_i h1;rw [if_pos h1] at hn
  split at hn
  .rename_i h2;rw [if_pos h2];exact Da h hn
  .exact absurd rfl hn
 rename_i h1;rw [if_neg h1] at hn;split
 .rename_i h1;rw [if_pos h1] at hn
  split at hn
  .rename_i h2;rw [if_pos h2];exact Da h hn
  .exact absurd rfl hn
 rename_i h1;rw [if_neg h1] at hn;split at hn<;>simp_all [good]
mutual
theorem DY {ty:List Int}(nU:aH ty=W):∀a:X8,a.wf->x4 (a.typ ty).2 0=W->good (a.typ ty).1
 | .node t l,hw,h=>by
  obtain ⟨hok,Ua,Ei⟩:=hw;simp [X8.typ] at h ⊢;split
  .have hl:=rE nU l Ei
   simp [wO] at h ⊢;split
   next h2=>
    simp [tZ,bt,h2,if_true,Bool.and_eq_true] at hok;have h3:=hok.2.1.1;unfold eO at h3
    grind [good,W6]
   .split
    .split
     .simp_all [if_pos,o6]
     next h4=>
      have h5:=kI (Bool.not_eq_true _ ▸ h4);have h6:0<=t.col:=by
       simp_all [tZ,bt,if_true,j6,if_false,Bool.and_eq_true,ej]
      grind [EV,C5]
    .split
     all_goals simp_all [if_pos,o6,DZ]
  simp_all
theorem rE {ty:List Int}(nU:aH ty=W):∀l:List X8,Nr l->∀x,x∈(ew ty l).1->good x
 |[],_,x,h=>by simp [ew] at h
 |a::l,hw,x,h=>by
  simp [ew] at h;split at h
  next h1=>
   rcases List.mem_cons.1 h with rfl|h
   .exact DY nU a hw.1 h1
   .exact rE nU l hw.2 x h
  .cases h
end
def PG {ty:List Int}{t:R2}{ts:List Int}(hts:∀x,x∈ts->good x)(hc:x4 t.op 2=W->T5 (O ty) t.col=F)
  (h17:x4 t.op 17=W->0<O ts) (h18:x4 t.op 18=W->1<O ts) :
  wO ty t ts=if (AP ty t (Y ts 0) (Y ts 1) (Y ts 2)).2 then ((AP ty t (Y ts 0) (Y ts 1) (Y ts 2)).1,0) else (0,5):=by
 unfold wO AP;cases d1:x4 t.op 1 with
 |true=>rfl
 |false =>
 cases d2:x4 t.op 2 with
 |true=>simp_all
 |false =>
 have z1:x4 1 0=F:=by simp [o6]
 have z2:x4 2 0=F:=by simp [o6]
 have z0:x4 0 0=W:=by simp [o6]
 have sel:∀(b:Bool) (x:Int),(b=W->x4 x 0=F)->(if x4 (if b=W then x else 0) 0=W then ((0:Int),(5:Int)) else (if b=W then x else 0,0))=if b=W then (x,0) else (0,5):=by
  simp_all
 have gz:∀{i:Nat},i<O ts->x4 (Y ts i) 0=F:=λ{i} hi=>by
  grind [C5,good,o6]
 unfold eM;cases c1:(x4 t.op 3||x4 t.op 13) with
 |true=>grind
 |false =>
 cases c2:x4 t.op 8 with
 |true=>grind
 |false =>
 cases c3:x4 t.op 9 with
 |true=>grind
 |false =>
 cases c4:x4 t.op 10 with
 |true=>grind
 |false =>
 cases c5:(x4 t.op 11||x4 t.op 12) with
 |true=>grind
 |false =>
 cases c6:x4 t.op 16 with
 |true=>simp [z1]
 |false =>
 grind
open List
theorem dn (a b:D7):mD a b<0↔a.1<b.1\/(a.1=b.1/\a.2<b.2):=by
 grind [mD,cZ]
theorem Ow (a b:D7):(!decide (mD b a<0))=W↔a.1<b.1\/(a.1=b.1/\a.2<=b.2):=by
 simp [Bool.not_eq_true',decide_eq_false_iff_not,dn];omega
def jx (l:List D7):(sortP l).Perm l:=jw _ _
def yY {l:List D7}{p:D7}:p∈sortP l↔p∈l:=(jx l).mem_iff
def X0 (l:List D7):O (sortP l)=O l:=(jx l).length_eq
def DE (l:List D7):(sortP l).Pairwise λa b=>(!decide (mD b a<0))=W :=
 (wA (λa b c h1 h2=>by rw [dn] at *;omega) (λa b h=>by grind [dn]) l).imp λh=>by simpa using h
def xQ {l m:List D7}(h:l.Perm m):sortP l=sortP m:=by
 refine ((jx l).trans (h.trans (jx m).symm)).eq_of_pairwise (λa b _ _ h1 h2=>?_) (DE l) (DE m)
 grind [Ow,Prod.ext]
def xO (fs:List J8)(l:List D7):List D7:=sortP (we fs l)
def Lz {fs:List J8}{l:List D7}{p:D7}:p∈xO fs l↔Nd fs l p:=by rw [xO,yY,LA]
end Go.y9
namespace Go.y9
section
variable {α:Type} [Inhabited α] {enc:α->List Data} {sz:Nat} {H:k9} {id:Nat} {xs:List α}
def qU (hs:∀a,O (enc a)=sz)(h:H[id]? =J (.cells ((xs.flatMap enc).map .d))){i:Nat}(hi:i<O xs):rd H id (0+i * sz) sz=J ((enc (Y xs i)).map .d):=by
 have h1:i * sz+sz<=O xs * sz:=by rw [<- Nat.succ_mul];exact E1 _ hi
 simp [rd,h,List.length_map,S9 hs,Nat.zero_add,if_true];rw [<- List.map_drop,<- List.map_take,ir hs,C4 hi];simp_all
def Bi (hs:∀a,O (enc a)=sz){ys zs:List α}{z:α}(h:H[id]? =J (.cells (((ys++z::zs).flatMap enc).map .d)))(x:α) :
  wr H id (0+O ys * sz) ((enc x).map .d)=J (H.set id (.cells (((ys++x::zs).flatMap enc).map .d))):=by
 have l1:O ((ys.flatMap enc).map c7.d)=O ys * sz:=by rw [List.length_map,S9 hs]
 have l2:O ((enc z).map c7.d)=sz:=M
 have l3:O ((enc x).map c7.d)=sz:=M
 simp_all [wr,Nat.zero_add,splice,if_pos,List.length_append,List.take_left,List.drop_append,List.drop_eq_nil_of_le,List.drop_left]
end
namespace S
section
variable {A:Prog} {l:F9} {b:Nat} {dr:Bool} {j8 ops:List x9} {T:List c7} {H:k9} {n:Nat} {rl:List c7} {l6:List Touch} {Q:List c7->k9->List c7->Prop}
def No {x:A3}{u:List Nat}{id sz lo len:Nat}(h2:Ry A l b dr j8 ops T H (n+1) (.d (.int .i64 (len:Int))::rl) l6 Q)(hx:rq T n rl x= .r7 id sz lo len:=by rfl):Ry A l b dr j8 (⟨.len x,K,K,u⟩::ops) T H n rl l6 Q :=
 Ry.pure (rs:=[]) rfl (by grind [l5,i64]) h2
def Yw {x y:A3}{u:List Nat}{id sz lo len i:Nat}{k:IntKind}(hi:i<len)(h2:Ry A l b dr j8 ops T H (n+1) (.r7 id sz (lo+i * sz) (len - i)::rl) l6 Q)(hx:rq T n rl x= .r7 id sz lo len:=by rfl)(hy:rq T n rl y= .d (.int k ((i:Nat):Int)):=by rfl) :
  Ry A l b dr j8 (⟨.bE sz x (J y) K,K,K,u⟩::ops) T H n rl l6 Q :=
 Ry.pure (rs:=[]) rfl (by
  grind [l5,S6]) h2
def svf {x y:A3}{u:List Nat}{id sz lo len i:Nat}{k:IntKind}(hi:i<=len)(h0:0<i)(h2:Ry A l b dr j8 ops T H (n+1) (.r7 id sz lo i::rl) l6 Q)(hx:rq T n rl x= .r7 id sz lo len:=by rfl)(hy:rq T n rl y= .d (.int k ((i:Nat):Int)):=by rfl) :
  Ry A l b dr j8 (⟨.bE sz x K (J y),K,K,u⟩::ops) T H n rl l6 Q :=
 Ry.pure (rs:=[]) rfl (by
  grind [l5,S6]) h2
def clS {x:A3}{u:List Nat}{id sz lo len:Nat}{zero:List c7}{H2:k9}(hw:wr H id lo ((List.replicate len zero).flatten)=J H2)(h2:Ry A l b F j8 ops T H2 (n+1) (.tuple []::rl) (.obj id::l6) Q)(hx:rq T n rl x= .r7 id sz lo len:=by rfl)(hz:O zero=sz:=by rfl)(hb:A2 zero=0:=by rfl)(hl:l.may id=W:=by rfl) :
  Ry A l b F j8 (⟨.clear sz zero x,K,K,u⟩::ops) T H n rl l6 Q:=λhn=>by
 refine Rx.stepT (N1:=0) (rs:=[]) rfl (λk _=>?_) (h2.to hn);simp_all [I4,x8,y5,B1,F0.A9,if_true,B9,M0,T6,and_self,put,I6,s8,C9]
end
end S
section
variable {A:Prog} {l:F9} {b:Nat}
variable {j8 ops:List x9} {T:List c7} {H:k9} {n:Nat} {rl:List c7} {l6:List Touch} {na nb:Nat} {Q:List c7->k9->List c7->Prop}
namespace S
end S
end
section
variable {A:Prog} {l:F9} {b:Nat}
variable {j8 ops:List x9} {T:List c7} {H:k9} {n:Nat} {rl:List c7} {l6:List Touch} {na:Nat} {lg:List cT} {Q:List c7->k9->List c7->Prop}
def Rl (A:Prog)(l:F9)(b:Nat)(j8 ops:List x9)(T:List c7)(H:k9)(n:Nat)(rl:List c7)(l6:List Touch)(na:Nat)(lg:List cT)(Q:List c7->k9->List c7->Prop):Prop :=
 O rl=n->∃r N,Q r.T r.H r.L/\∀k,N<=k->∃SF,M4 (I4 A k l b) j8 ops n na ⟨T,H,rl.reverse++List.replicate (O ops) .any,l6⟩=J (r,SF)/\aT j8 (lg.reverse++SF)=W
theorem Rn.Wb {T:List c7}{H:k9}(H' :k9)(l6:List Touch)(h:Rl A l b ops ops T H' 0 [] l6 (O H) [] Q)(hH:H++S8 ops=H' :=by rfl)(hs:slotsOf ops=l6:=by rfl):Rn A l b ops W T H Q:=by
 obtain ⟨r,N,hq,h⟩:=h rfl;refine ⟨r,N,hq,λn hn=>?_⟩
 grind [P0]
def Rl.step {i:x9}{T' :List c7}{H' :k9}{v:c7}{V8 :List Touch}{rs:List Nat}{N1:Nat}{e:cT}(hk:∀L,F2 ⟨T,H,L,l6⟩ i.op=F)
  (h:O rl=n->∀k,N1<=k->x8 (I4 A k l b) j8 (if i.op.y3 then J na else K) n i ⟨T,H,rl.reverse++ .any::List.replicate (O ops) .any,l6⟩=J (⟨T',H',rl.reverse++v::List.replicate (O ops) .any,V8⟩,rs))
  (he:O rl=n->∀k,T0 (I4 A k l b) i (if i.op.y3 then J na else K) ⟨T,H,rl.reverse++ .any::List.replicate (O ops) .any,l6⟩ ⟨T',H',rl.reverse++v::List.replicate (O ops) .any,V8⟩ rs=e)
  (h2:Rl A l b j8 ops T' H' (n+1) (v::rl) V8 (if i.op.y3 then na+1 else na) (e::lg) Q):Rl A l b j8 (i::ops) T H n rl l6 na lg Q:=λhn=>by
 obtain ⟨r,N,hq,h2⟩:=h2 (by simp [hn]);refine ⟨r,max N N1,hq,λk hkk=>?_⟩;obtain ⟨SF,e1,e2⟩:=h2 k V
 grind [M4,I4,List.replicate,eS]
def iM (hn:O rl=n)(a v:c7)(r:List c7):(rl.reverse++a::r).set n v=rl.reverse++v::r:=M
def Rl.simple {i:x9}{v:c7}{rs:List Nat}(ha:i.op.y3=F)(hk:∀L,F2 ⟨T,H,L,l6⟩ i.op=F)(hs:∀k st,F8 (I4 A k l b) st i.op=0)
  (h:O rl=n->∀k,x8 (I4 A k l b) j8 K n i ⟨T,H,rl.reverse++ .any::List.replicate (O ops) .any,l6⟩=J (⟨T,H,rl.reverse++v::List.replicate (O ops) .any,l6⟩,rs))
  (h2:Rl A l b j8 ops T H (n+1) (v::rl) l6 na (⟨rs,[],0,0⟩::lg) Q):Rl A l b j8 (i::ops) T H n rl l6 na lg Q :=
 Rl.step (N1:=0) (e:=⟨rs,[],0,0⟩) hk (λhn k _=>by rw [ha];exact h hn k) (λ_ k=>by simp_all [T0,W8]) M
namespace S
def yn (h:Q T H rl.reverse)(hl:aT j8 lg.reverse=W):Rl A l b j8 [] T H n rl l6 na lg Q:=λ_=>⟨⟨T,H,rl.reverse,l6⟩,0,h,λ_ _=>⟨[],by simp [M4],M⟩⟩
def yp {op:F0}{u:List Nat}{rs:List Nat}(v:c7)(hp:l5 (rq T n rl) H op=J (v,rs))(h2:Rl A l b j8 ops T H (n+1) (v::rl) l6 na (⟨rs,[],0,0⟩::lg) Q)(hE:op.A9=F:=by rfl)
  (ha:op.y3=F:=by rfl) (hk:∀L,F2 ⟨T,H,L,l6⟩ op=F:=by intro;rfl) (hs:∀k st,F8 (I4 A k l b) st op=0:=by intros;rfl):Rl A l b j8 (⟨op,K,K,u⟩::ops) T H n rl l6 na lg Q:=by
 refine Rl.simple (rs:=rs) ha hk hs (λhn k=>?_) h2;have KY:∀x,op≠ .dJ x:=by
  rintro x rfl;simp [l5] at hp
 have h4:l5 (y9.F1 T (rl.reverse++ .any::List.replicate (O ops) .any)) H op=J (v,rs):=by
  rw [show y9.F1 T (rl.reverse++ .any::List.replicate (O ops) .any)=rq T n rl from funext λx=>M0 hn _ x];exact hp
 have h3:B1 (I4 A k l b) j8 K n op ⟨T,H,rl.reverse++ .any::List.replicate (O ops) .any,l6⟩=J (⟨T,H,rl.reverse++v::List.replicate (O ops) .any,l6⟩,rs):=by
  cases op<;>first
   |exact absurd rfl (KY _)
   |(simp only [B1,hE,j6,if_false,h4,put,iM hn];done)
   |(simp [F0.A9] at hE;done)
 simp only [x8,y5,h3,s8,C9]
def ym {x:A3}{u:List Nat}{v:c7}(h2:Rl A l b j8 ops T H (n+1) (v::rl) l6 na (⟨[],[],0,0⟩::lg) Q)(hx:Oq T n rl x v:=by exact ⟨rfl,rfl⟩):Rl A l b j8 (⟨.dJ x,K,K,u⟩::ops) T H n rl l6 na lg Q:=by
 refine Rl.simple (rs:=[]) rfl (λ_=>rfl) (λ_ _=>rfl) (λhn k=>?_) h2;simp [x8,y5,B1,F0.A9,j6,if_false,(hx.op hn).E2,put,iM hn,s8,C9]
theorem yb {sz len:Nat}{zero:List c7}{ps:List (Nat×Nat×A3)}{u:List Nat}{cs:List c7}{H2:k9}(hr:T4 zero (ps.map λp=>(p.1,p.2.1,rq T n rl p.2.2))=J cs)(hl:0<sz/\O cs=len * sz)
  (h2:Rl A l b j8 ops T H2 (n+1) (.r7 na sz 0 len::rl) l6 (na+1) (⟨[],[.obj na],0,na⟩::lg) Q) (hH:H.set na (.cells cs)=H2:=by rfl):Rl A l b j8 (⟨.M8 sz len zero ps W,K,K,u⟩::ops) T H n rl l6 na lg Q:=by
 refine Rl.step (N1:=0) (rs:=[]) (λ_=>rfl) (λhn k _=>?_) (λ_ k=>?_) h2
 .have hr' :T4 zero (ps.map λx=>match x with|(o,s,x)=>(o,s,y9.F1 T (rl.reverse++ .any::List.replicate (O ops) .any) x))=J cs:=by
   simp_all [List.map_congr_left,M0]
  simp_all [F0.y3,if_true,x8,y5,B1,F0.A9,B9,and_self,C8,newId,Option.getD_some,put,iM,s8,Q4]
 .simp [T0,W8,F8,F0.y3]
theorem ya {sz bytes id len m:Nat}{x y:A3}{u:List Nat}{cs l0:List c7}{H2:k9}{w:c7}(hx:rq T n rl x= .r7 id sz 0 len)(hy:rq T n rl y=w)(hO:H[id]? =J (.cells l0))(hc:B4 H sz w=J (m,cs))(hmay:l.may id=W)
  (V7:len * sz=O l0/\roomFor (len+m) bytes=W/\A2 cs<=O H/\cs.all c7.one=W/\0<sz)
  (h2:Rl A l b j8 ops T H2 (n+1) (.r7 (O H) sz 0 (len+m)::rl) (.obj (O H):: .obj id::l6) na (⟨[],[.obj (O H),.obj id],max (id+1) w.F4,0⟩::lg) Q)
  (hH:H.set id .dead++[.cells (l0.map c7.I7++cs)]=H2:=by rfl):Rl A l b j8 (⟨.M3 sz bytes x y,K,K,u⟩::ops) T H n rl l6 na lg Q:=by
 refine Rl.step (N1:=0) (rs:=[]) (λ_=>rfl) (λhn k _=>?_) (λhn k=>?_) h2
 .simp_all [I4,M0,trans,F0.y3,j6,if_false,x8,y5,B1,F0.A9,if_true,B9,Q0,newId,Option.getD_none,C8,put,iM,dm,B6,s8,C9,List.length_set]
 .have hx' :=(M0 hn (O ops) x).trans hx
  have hy' :=(M0 hn (O ops) y).trans hy;have:O l6+1+1 - O l6=2:=V
  simp_all [T0,W8,F0.y3,F8,c7.F4]
theorem ya0 {sz bytes j j2 id off m:Nat}{y:A3}{u:List Nat}{a:x9}{cs l0:List c7}{H2:k9}{w:c7}(hL:lk n rl j=J (.d (.slice 0 [])))(ha:j8[j]? =J a)(hz:a.op= .load K (.loc j2))(hp:lk n rl j2=J (.ptr id off))(ht:l6.any (Touch.V0 id off)=F)(hmay:l.may id=W)
  (hO:H[id]? =J (.cells l0)) (h0:l0[off]? =J .N9) (hy:rq T n rl y=w) (hc:B4 H sz w=J (m,cs)) (V7:roomFor m bytes=W/\0<sz) (hm:m≠0)
  (h2:Rl A l b j8 ops T H2 (n+1) (.r7 (O H) sz 0 m::rl) (.obj (O H)::l6) na (⟨[],[.obj (O H)],w.F4,0⟩::lg) Q) (hH:H++[.cells cs]=H2:=by rfl):Rl A l b j8 (⟨.M3 sz bytes (.loc j) y,K,K,u⟩::ops) T H n rl l6 na lg Q:=by
 have QW:∀{i v},O rl=n->lk n rl i=J v->(rl.reverse++ .any::List.replicate (O ops) .any)[i]? =J v:=λhn h=>gP (by simp_all [aJ]) _
 have hx:O rl=n->y9.F1 T (rl.reverse++ .any::List.replicate (O ops) .any) (.loc j)= .d (.slice 0 []):=λhn=>by
  simp [y9.F1,List.getD_eq_getElem?_getD,QW hn hL];rfl
 have hnil:O rl=n->isNil l j8 ⟨T,H,rl.reverse++ .any::List.replicate (O ops) .any,l6⟩ (.loc j)=W:=λhn=>by
  simp_all [isNil,eG,Y9]
 refine Rl.step (N1:=0) (rs:=[]) (λ_=>rfl) (λhn k _=>?_) (λhn k=>?_) h2
 .have hy' :=(M0 hn (O ops) y).trans hy
  simp_all [isNil,I4,List.replicate,F0.y3,j6,if_false,x8,y5,B1,F0.A9,if_true,B9,J1,and_self,C8,newId,Option.getD_none,put,iM,dm,B6,s8,C9]
 simp_all [M0,trans,T0,W8,F0.y3,F8,c7.F4]
def ys {m id off:Nat}{x y:A3}{u:List Nat}{v:c7}{cs:List c7}{H2:k9}(hy:rq T n rl y= .ptr id off)(hx:Oq T n rl x v)(hc:v.cells? =J cs)(hm:O cs=m)(hl:l.may id=W)(hb:A2 cs<=id+1\/(l.base<=id/\l.strict<=id))
  (hw:wr H id off cs=J H2) (h2:Rl A l b j8 ops T H2 (n+1) (.any::rl) (.obj id::l6) na (⟨[],[.obj id],0,0⟩::lg) Q):Rl A l b j8 (⟨.store m y x,K,K,u⟩::ops) T H n rl l6 na lg Q:=by
 refine Rl.step (N1:=0) (rs:=[]) (λ_=>rfl) (λhn k _=>?_) (λhn k=>?_) h2
 .have hl' :(I4 A k l b).lim.may id=W:=hl
  have hb' :A2 cs<=id+1\/((I4 A k l b).lim.base<=id/\(I4 A k l b).lim.strict<=id):=hb;simp [F0.y3,j6,if_false,x8,y5,B1,F0.A9,if_true,B9,M0 hn,hy,O4,(hx.op hn).E2,hc,hm,hl',hb',and_self,hw,put,iM hn,s8,C9]
 simp_all [T0,W8,F0.y3,F8]
end S
end
end Go.y9
namespace Go.y9.S
section
variable {A:Prog} {l:F9} {b:Nat} {j8 ops:List x9} {T:List c7} {H:k9} {n:Nat} {rl:List c7} {l6:List Touch}
section
variable {na:Nat} {lg:List cT} {Q:List c7->k9->List c7->Prop}
def Yz {zero:List c7}{u:List Nat}{s:Nat}(xI :Nat)(T2:List c7)(H2:k9)(hs:s<O T)(htc:l6.any (Touch.P9 s)=W)(hT:T.set s (.ptr na 0)=T2)(hH:H.set na (.cells zero)=H2)(hn:na+1=xI)
  (h2:Rl A l b j8 ops T2 H2 (n+1) (.ptr na 0::rl) l6 xI (⟨[],[.obj na],0,na⟩::lg) Q):Rl A l b j8 (⟨.alloc zero,J s,K,u⟩::ops) T H n rl l6 na lg Q:=by
 subst hT hH hn;have h3:O rl=n->∀r:List c7,(rl.reverse++ .ptr na 0::r)[n]? =J (.ptr na 0):=λhn r=>M
 refine Rl.step (N1:=0) (rs:=[]) (λ_=>rfl) (λhn k _=>?_) (λhn k=>?_) h2
 all_goals simp_all [F0.y3,if_true,x8,y5,B1,F0.A9,B9,C8,newId,Option.getD_some,put,iM,s8,Q4,y9.E2,decide_true,Bool.and_self,y9.F1,c7.I7,T0,W8,F8]
def yc {f:FuncId}{xs:List A3}{u:List Nat}{v:c7}{args:List c7}{m:Nat}{H0 H1:k9}{l2:F9}(HD H2:k9)(hc:Pm A f args H0 l2 v H1)(GF:O H1=m)(cQ:D3 ((H.take m).drop l.strict)<=m)(hcl:D4 H l.strict 8 (A2 args)=m)
  (EX:H.take m=H0) (hle:m<=O H) (jH:(⟨l.Ef,l.Ee,m,A6 H l.strict m⟩:F9)=l2) (hD:H.drop m=HD) (hA:H1++HD=H2)
  (h2:Rl A l b j8 ops T H2 (n+1) (v::rl) (.below m::l6) na (⟨[],[.below m],m,0⟩::lg) Q) (ha:xs.map (rq T n rl)=args:=by rfl) (ee:A.prom f=F:=by rfl) (hm:A.mode f=0:=by rfl):Rl A l b j8 (⟨.call f xs,K,K,u⟩::ops) T H n rl l6 na lg Q:=by
 obtain ⟨d8,hc⟩:=hc;subst EX hD hA;have Od :∀k,(I4 A k l b).prom f=F:=λ_=>ee
 refine Rl.step (N1:=d8) (rs:=[]) (λ_=>rfl) (λhn k hk=>?_) (λhn k=>?_) h2
 .have h3:B7 (I4 A k l b) n f args ⟨T,H,rl.reverse++ .any::List.replicate (O ops) .any,l6⟩=J (put ⟨T,H1++H.drop m,rl.reverse++ .any::List.replicate (O ops) .any,.below m::l6⟩ n v) :=
   ig ee hm hcl hle cQ jH (hc k hk) GF
  simp_all [F0.y3,j6,if_false,x8,y5,B1,F0.A9,if_true,B9,aq,s8,C9,put,iM]
 .have Vg :D4 H (I4 A k l b).lim.strict 8 (A2 args)=m:=hcl
  simp_all [T0,W8,F8,F0.y3,aq]
def yl {f:FuncId}{xs:List A3}{u:List Nat}{v:c7}{args:List c7}(hc:Pf A f args v)
  (h2:Rl A l b j8 ops T H (n+1) (v::rl) l6 na (⟨[],[],0,0⟩::lg) Q) (ha:xs.map (rq T n rl)=args:=by rfl) (ee:A.prom f=F:=by rfl) (hm:A.mode f=1:=by rfl) (hb:A2 args=0:=by rfl):Rl A l b j8 (⟨.call f xs,K,K,u⟩::ops) T H n rl l6 na lg Q:=by
 obtain ⟨d8,hc⟩:=hc;refine Rl.step (N1:=d8) (rs:=[]) (λ_=>rfl) (λhn k hk=>?_) (λhn k=>?_) h2
 .have h3:B7 (I4 A k l b) n f args ⟨T,H,rl.reverse++ .any::List.replicate (O ops) .any,l6⟩=J (put ⟨T,H,rl.reverse++ .any::List.replicate (O ops) .any,l6⟩ n v) :=
   aL ee hm hb (hc k hk)
  simp_all [F0.y3,j6,if_false,x8,y5,B1,F0.A9,if_true,B9,aq,s8,C9,put,iM]
 simp_all [D4,I4,T0,W8,F8,F0.y3,aq]
def YA {x:A3}{s:Nat}{u:List Nat}{v:c7}(T2:List c7)(hs:s<O T)(hT:T.set s v=T2)(h2:Rl A l b j8 ops T2 H (n+1) (v::rl) (.slot s::l6) na (⟨[],[.slot s],0,0⟩::lg) Q)(hx:Oq T n rl x v:=by exact ⟨rfl,rfl⟩)(hv:∀z m cs,v≠ .own z m cs:=by intros;exact λh=>by cases h):Rl A l b j8 (⟨.dJ x,J s,K,u⟩::ops) T H n rl l6 na lg Q:=by
 subst hT;have h3:O rl=n->∀r:List c7,(rl.reverse++v::r)[n]? =J v:=λhn r=>by rw [<- hn,<- List.length_reverse];simp
 have Uf:v.I7=v:=hx.2;refine Rl.step (N1:=0) (rs:=[]) (λ_=>rfl) (λhn k _=>?_) (λhn k=>?_) h2
 .have e:∀st:F5,st.L[n]? =J v->y9.E2 st (.loc n)=(v,st):=λst h=>by
   cases v<;>simp_all [y9.E2,y9.F1,c7.I7]
  simp only [F0.y3,j6,if_false,x8,y5,B1,F0.A9,(hx.op hn).E2,put,iM hn,s8,C9,hs,if_true];rw [e _ (h3 hn _)]
 .simp [T0,W8,F8,F0.y3]
end
section
variable {Q:List c7->k9->List c7->Prop}
def apn {sz bytes id len m:Nat}{x y:A3}{u:List Nat}{cs l0:List c7}{w:c7}(z6 t:Nat)(H2:k9)(hx:rq T n rl x= .r7 id sz 0 len)(hy:rq T n rl y=w)(hO:H[id]? =J (.cells l0))(hc:B4 H sz w=J (m,cs))(hmay:l.may id=W)
  (V7:len * sz=O l0/\roomFor (len+m) bytes=W/\A2 cs<=O H/\cs.all c7.one=W/\0<sz) (hH:H.set id .dead++[.cells (l0.map c7.I7++cs)]=H2) (hN:O H=z6) (ht:len+m=t)
  (h2:Ry A l b F j8 ops T H2 (n+1) (.r7 z6 sz 0 t::rl) (.obj z6:: .obj id::l6) Q):Ry A l b F j8 (⟨.M3 sz bytes x y,K,K,u⟩::ops) T H n rl l6 Q:=λhn=>by
 refine Rx.stepT (N1:=0) (rs:=[]) rfl (λk _=>?_) (h2.to hn);simp_all [I4,x8,y5,B1,F0.A9,if_true,B9,M0,Q0,newId,Option.getD_none,C8,put,I6,dm,B6,s8,C9,List.length_set]
def apz {sz bytes j j2 id off m:Nat}{y:A3}{u:List Nat}{a:x9}{cs l0:List c7}{w:c7}(z6:Nat)(H2:k9)(hL:lk n rl j=J (.d (.slice 0 [])))(ha:j8[j]? =J a)(hz:a.op= .load K (.loc j2))(hp:lk n rl j2=J (.ptr id off))(ht:l6.any (Touch.V0 id off)=F)(hmay:l.may id=W)
  (hO:H[id]? =J (.cells l0)) (h0:l0[off]? =J .N9) (hy:rq T n rl y=w) (hc:B4 H sz w=J (m,cs)) (V7:roomFor m bytes=W/\0<sz) (hm:m≠0) (hH:H++[.cells cs]=H2) (hN:O H=z6)
  (h2:Ry A l b F j8 ops T H2 (n+1) (.r7 z6 sz 0 m::rl) (.obj z6::l6) Q):Ry A l b F j8 (⟨.M3 sz bytes (.loc j) y,K,K,u⟩::ops) T H n rl l6 Q:=λhn=>by
 have QW:∀{i v},lk n rl i=J v->(rl.reverse++ .any::List.replicate (O ops) .any)[i]? =J v:=λh=>gP (by simp_all [aJ]) _
 have hx:y9.F1 T (rl.reverse++ .any::List.replicate (O ops) .any) (.loc j)= .d (.slice 0 []):=by
  simp [y9.F1,List.getD_eq_getElem?_getD,QW hL];rfl
 have hnil:isNil l j8 ⟨T,H,rl.reverse++ .any::List.replicate (O ops) .any,l6⟩ (.loc j)=W:=by
  simp_all [isNil,eG,Y9]
 refine Rx.stepT (N1:=0) (rs:=[]) rfl (λk _=>?_) (h2.to hn);simp_all [isNil,I4,List.replicate,x8,y5,B1,F0.A9,if_true,B9,M0,J1,and_self,if_false,C8,newId,Option.getD_none,put,I6,dm,B6,s8,C9]
def Rc {m id off:Nat}{x y:A3}{u:List Nat}{v:c7}{cs:List c7}{H2:k9}(hy:rq T n rl y= .ptr id off)(hx:Oq T n rl x v)(hc:v.cells? =J cs)(hm:O cs=m)(hl:l.may id=W)(hb:A2 cs<=id+1\/(l.base<=id/\l.strict<=id))
  (hw:wr H id off cs=J H2) (h2:Ry A l b F j8 ops T H2 (n+1) (.any::rl) (.obj id::l6) Q):Ry A l b F j8 (⟨.store m y x,K,K,u⟩::ops) T H n rl l6 Q:=λhn=>by
 refine Rx.stepT (N1:=0) (rs:=[]) rfl (λk _=>?_) (h2.to hn);have hl' :(I4 A k l b).lim.may id=W:=hl;have hb' :A2 cs<=id+1\/((I4 A k l b).lim.base<=id/\(I4 A k l b).lim.strict<=id):=hb;simp [x8,y5,B1,F0.A9,if_true,B9,M0 hn,hy,O4,(hx.op hn).E2,hc,hm,hl',hb',and_self,hw,put,I6,s8,C9]
end
end
section
variable {ρ:A3->c7} {G:k9} {x y:A3}
def OT {α:Type} [Inhabited α] {enc:α->List Data}{xs:List α}{sz:Nat}{i:Int}(hs:∀a,O (enc a)=sz)(hx:ρ x= .d (s7 enc xs))(hy:ρ y= .d (.int .i64 i))(h0:0<=i)(h1:i<O xs):l5 ρ G (.gN sz x y)=J (.Y4 (enc (Y xs i.toNat)++(xs.drop (i.toNat+1)).flatMap enc),[]):=by
 grind [Y,ir,C4,l5,s7]
def Wk {c:Data}{cs:List Data}(hx:ρ x= .Y4 (c::cs)):l5 ρ G (.load K x)=J (.d c,[]):=by simp [l5,hx]
def LP {cs rest:List Data}{m:Nat}(hx:ρ x= .Y4 (cs++rest))(hm:O cs=m):l5 ρ G (.load (J m) x)=J (.agg (cs.map .d),[]):=by
 simp_all [l5]
def Wl {α:Type}{enc:α->List Data}{xs:List α}(hx:ρ x= .d (s7 enc xs)):l5 ρ G (.len x)=J (.d (.int .i64 (O xs:Int)),[]):=by simp [l5,hx,s7,i64]
def IU {id lo len sz i:Nat}(hx:ρ x= .r7 id sz lo len)(hy:ρ y= .d (.int .i64 (i:Int)))(h:i<len):l5 ρ G (.gN sz x y)=J (.ptr id (lo+i * sz),[]):=by
 simp_all [l5]
def qQ {id o k:Nat}(hx:ρ x= .ptr id o):l5 ρ G (.off k x)=J (.ptr id (o+k),[]):=by simp [l5,hx]
def IV {id o:Nat}{v w:c7}(hx:ρ x= .ptr id o)(hr:rd G id o 1=J [v])(hw:v.I7=w):l5 ρ G (.load K x)=J (w,[id]):=by simp_all [l5]
def Ft {id o m:Nat}{vs:List c7}(hx:ρ x= .ptr id o)(hr:rd G id o m=J vs)(hv:vs.map c7.I7=vs):l5 ρ G (.load (J m) x)=J (.agg vs,[id]):=by simp [l5,hx,hr,hv]
end
end Go.y9.S
namespace Go.y9
section
variable {A:Prog} {l:F9} {b:Nat}
def Ex.DP {ops:List x9}{draw:Bool}{c:A3}{d e:K7}{T:List c7}{H:k9}{Q:G6->St->Prop}(h:Rn A l b ops draw T H λT' H' L=>T' =T/\H' =H/\∃t',F1 T' L c= .d (.bool t'))(h2:Ex A l b d ⟨T,H⟩ Q)(h3:Ex A l b e ⟨T,H⟩ Q) :
  Ex A l b (.test ops draw c d e) ⟨T,H⟩ Q:=by
 obtain ⟨r,N,⟨hT,hH,t',ht⟩,hr⟩:=h;exact Ex.cM t' ⟨r,N,⟨hT,hH,t',ht,rfl⟩,hr⟩ (λ_=>h2) λ_=>h3
def Pe.go {f:FuncId}{af:p6}{args:List c7}{P:c7->Prop}{T:List c7}(n:Nat)(h:Ex A N6 0 af.body ⟨T,[]⟩ λx s=>∃w,R4 af 0 (J (x,s))=J (w,[])/\P w)
  (hf:A.fn f=J af:=by rfl) (hp:A.aB f=K:=by rfl) (hn:O args=af.nparams:=by rfl)
  (hT:args++List.replicate n .any=T:=by simp [List.nil_append]<;>rfl) (hN:O af.names - O args=n:=by rfl):∃v,P v/\Pf A f args v:=by
 obtain ⟨x,s,N,⟨w,hq,hP⟩,h⟩:=h;exact ⟨w,hP,Pf.run T hp hf hn M ⟨x,s,N,⟨w,hq,rfl⟩,h⟩⟩
theorem Pe.bool {f:FuncId}{args:List c7}(h:∃v,(∃t,v= .d (.bool t))/\Pf A f args v):∃t,Pf A f args (.d (.bool t)):=by
 simp_all
theorem Pe.num {f:FuncId}{args:List c7}(h:∃v,(∃t,v= .d (.int .i64 t))/\Pf A f args v):∃t,Pf A f args (.d (.int .i64 t)):=by
 grind
end
namespace S
section
variable {A:Prog} {l:F9} {b:Nat}
def te {P:Prop}{ops:List x9}{draw:Bool}{c:A3}{d e:K7}{T:List c7}{H:k9}{Q:G6->St->Prop}(p:P)(h2:Ex A l b d ⟨T,H⟩ Q)(h3:Ex A l b e ⟨T,H⟩ Q)
  (h:PLift P->Rn A l b ops draw T H λT' H' L=>T' =T/\H' =H/\∃t',F1 T' L c= .d (.bool t'):=by intro p;(first|refine Rn.text ?_|refine Rn.draw ?_|fail);(repeat' (first|refine cl (p.down ..) ?_|refine iX (p.down ..) ?_|refine cl (p.down.1 ..) ?_|refine cl (p.down.2 ..) ?_|refine iX (p.down.1 ..) ?_|refine iX (p.down.2 ..) ?_|refine cl (p.down.2.1 ..) ?_|refine cl (p.down.2.2 ..) ?_|refine iX (p.down.2.1 ..) ?_|refine iX (p.down.2.2 ..) ?_|refine gx ?_|refine fk (h1:=λhw=>?_) (h2:=λhw=>?_)|refine Jz (h1:=λhw=>?_) (h2:=λhw=>?_)|exact ⟨rfl,rfl,_,rfl⟩|fail))) :
  Ex A l b (.test ops draw c d e) ⟨T,H⟩ Q:=Ex.DP (h ⟨p⟩) h2 h3
end
end S
def Tw {n b:Nat}(h:n<=1000)(hb:b<=1000):roomFor n b=W:=by
 refine decide_eq_true ?_;exact p7 (Nat.mul_le_mul (show 2 * n+512<=2512 by omega) hb) (by decide)
def Ex.nS {A:Prog}{l:F9}{b:Nat}{c:K7}{st:St}{Q:G6->St->Prop}(T2:List c7)(H2:k9)(h:Ex A l b c ⟨T2,H2⟩ Q)(e:st=⟨T2,H2⟩:=by rfl):Ex A l b c st Q:=e ▸ h
def Ex.XH {A:Prog}{l:F9}{b:Nat}{ops:List x9}{draw:Bool}{c:A3}{d e:K7}{T:List c7}{H:k9}{Q:G6->St->Prop}(P:k9->Prop)(h:Rn A l b ops draw T H λT' H' L=>T' =T/\P H' /\∃t,F1 T' L c= .d (.bool t))
  (h2:∀H',P H' ->Ex A l b d ⟨T,H'⟩ Q) (h3:∀H',P H' ->Ex A l b e ⟨T,H'⟩ Q):Ex A l b (.test ops draw c d e) ⟨T,H⟩ Q:=by
 obtain ⟨r,N,⟨e1,hP,t,e3⟩,h⟩:=h;refine Ex.test ⟨r,N,⟨t,e3,λ_=>?_,λ_=>?_⟩,h⟩
 .rw [e1];exact h2 _ hP
 .rw [e1];exact h3 _ hP
def Ex.VW {A:Prog}{l:F9}{b id:Nat}{c:K7}{st:St}{R:G6->St->Prop}{go:St->Prop}(P:St->Prop)(h1:Ex A l b c st (jO R P))(h2:∀s,P s->go s)(hR:∀i s,¬R (.exit i) s:=by rintro i s ⟨_,_,h,_⟩;cases h):Ex A l b c st (lY id (jO R go)):=by
 refine h1.mono λx s h=>?_
 cases x with
 |normal=>exact h2 s h
 |exit i=>exact (hR _ _ h).elim
 |ret=>exact h
def Ex.join {A:Prog}{l:F9}{b:Nat}{c:K7}{st:St}{R:G6->St->Prop}{go:St->Prop}(P:St->Prop)(h1:Ex A l b c st (jO R P))(h2:∀s,P s->go s):Ex A l b c st (jO R go):=by
 refine h1.mono λx s h=>?_
 cases x with
 |normal=>exact h2 s h
 |exit i=>exact h
 |ret=>exact h
def Ex.Hw {A:Prog}{l:F9}{b id:Nat}{c:K7}{st:St}{R:G6->St->Prop}{go:St->Prop}(P:St->Prop)(h1:Ex A l b c st (jO (λ_ _=>False) P))(h2:∀s,P s->go s):Ex A l b c st (lY id (jO R go)):=by
 refine h1.mono λx s h=>?_
 cases x with
 |normal=>exact h2 s h
 |exit i=>exact h.elim
 |ret=>exact h.elim
end Go.y9
namespace Go.y9.S
def Uh {α:Type}(f:α->Data):List α->Nat->List (Nat×Nat×A3)
 |[],_=>[]
 |x::xs,i=>(i,1,.const (.d (f x)))::Uh f xs (i+1)
theorem Ca {α:Type}{f:α->Data}{ρ:A3->c7}(hc:∀d,ρ (.const (.d d))= .d d):∀(xs:List α) (pre suf:List c7),O suf=O xs->T4 (pre++suf) ((Uh f xs (O pre)).map λp=>(p.1,p.2.1,ρ p.2.2))=J (pre++xs.map λx=> .d (f x))
 |[],pre,suf,h=>by
  obtain rfl:=List.length_eq_zero_iff.1 h;simp [Uh,T4]
 |x::xs,pre,a::s,h=>by
  have ih:=Ca hc (f:=f) xs (pre++[.d (f x)]) s (by simpa using h);have e:splice (pre++a::s) (O pre) [.d (f x)]=pre++ .d (f x)::s:=by simp [splice]
  simp only [G8,List.singleton_append,List.length_append,D9] at ih;simp [Uh,T4,hc,c7.cells?,c7.one,e];simpa using ih
def Gp {α:Type}(f:α->Data)(l:List α):H7 (l.map λx=> .d (f x))=J (l.map f)/\l.flatMap (λx=>[f x])=l.map f:=by
 induction l with
 |nil=>exact ⟨rfl,rfl⟩
 |cons a l ih=>simp [H7,c7.data?,ih.1,ih.2]
def pBk {α:Type}(f:α->Data)(xs:List α){ρ:A3->c7}{G:k9}{len:Nat}{zero:List c7}{ps:List (Nat×Nat×A3)}(hc:∀d,ρ (.const (.d d))= .d d:=by intro;rfl)(hl:O xs=len:=by rfl)(hz:O zero=len:=by rfl)(hp:ps=Uh f xs 0:=by rfl):l5 ρ G (.M8 1 len zero ps F)=J (A8 1 (λx=>[f x]) xs,[]):=by
 subst hp hl;have h:=Ca hc (f:=f) xs [] zero hz;simp only [List.nil_append,List.length_nil] at h;have e:=Gp f xs;simp only [l5,h,e.1,A8,e.2];simp
section
variable {A:Prog} {l:F9} {b:Nat} {j8 ops:List x9} {T:List c7} {H:k9} {n:Nat} {rl:List c7} {l6:List Touch}
def rg {Q:List c7->k9->List c7->Prop}{na:Nat}{H' :k9}(k:Nat)(hk:S8 ops=List.replicate k .dead:=by rfl)(hH:H++List.replicate k .dead=H' :=by simp only [List.replicate,List.cons_append,List.nil_append,List.append_nil]<;>rfl)
  (hn:O H=na:=by simp only [List.length_cons,List.length_nil,Nat.reduceAdd]<;>rfl) (h:Rl A l b ops ops T H' 0 [] (slotsOf ops) na [] Q):Rn A l b ops W T H Q:=by
 subst hn hH;exact Rn.Wb _ _ h (by rw [hk]) rfl
section
variable {na:Nat} {lg:List cT} {Q:List c7->k9->List c7->Prop}
def lN (h:Q T H rl.reverse)(hl:aT j8 lg.reverse=W:=by rfl):Rl A l b j8 [] T H n rl l6 na lg Q:=yn h hl
def lMT {x:A3}{s:Nat}{u:List Nat}{v:c7}{T2:List c7}(hx:Oq T n rl x v:=by exact ⟨rfl,rfl⟩)(hs:Nat.ble (s+1) (O T)=W:=by rfl)(hT:T.set s v=T2:=by simp only [List.set_cons_zero,List.set_cons_succ]<;>rfl)(hv:∀z m cs,v≠ .own z m cs:=by intros;exact λh=>by cases h)
  (h2:Rl A l b j8 ops T2 H (n+1) (v::rl) (.slot s::l6) na (⟨[],[.slot s],0,0⟩::lg) Q):Rl A l b j8 (⟨.dJ x,J s,K,u⟩::ops) T H n rl l6 na lg Q:=YA T2 (j4 hs) hT h2 hx hv
def lS {id off:Nat}{x y:A3}{u:List Nat}{v:c7}{old new:List c7}{H2:k9}(hy:rq T n rl y= .ptr id off:=by rfl)(hx:Oq T n rl x v:=by exact ⟨rfl,rfl⟩)(hc:v.cells? =J [v]:=by rfl)(hl:l.may id=W:=by rfl)(hb:v.F4<=id+1:=by exact Nat.zero_le _)
  (ho:H[id]? =J (.cells old):=by rfl) (hq:off<O old:=by simp) (hN:old.set off v=new:=by first|(simp only [List.set_cons_zero,List.set_cons_succ];done)|rfl) (hH:H.set id (.cells new)=H2:=by simp only [List.set_cons_zero,List.set_cons_succ]<;>rfl)
  (h2:Rl A l b j8 ops T H2 (n+1) (.any::rl) (.obj id::l6) na (⟨[],[.obj id],0,0⟩::lg) Q):Rl A l b j8 (⟨.store 1 y x,K,K,u⟩::ops) T H n rl l6 na lg Q :=
 ys hy hx hc rfl hl (.inl (by simpa [A2] using hb)) (by
  have h1:splice old off [v]=old.set off v:=by
   simp only [splice,D9];rw [M1,if_pos hq];simp
  simp only [wr,ho,D9,h1,hN,hH];rw [if_pos V]) h2
def lSo {m id:Nat}{x y:A3}{u:List Nat}{v:c7}{cs old:List c7}{H2:k9}(hy:rq T n rl y= .ptr id 0:=by rfl)(hx:Oq T n rl x v:=by exact ⟨rfl,rfl⟩)(hc:v.cells? =J cs:=by rfl)(hm:O cs=m:=by rfl)(hl:l.may id=W:=by rfl)(hb:A2 cs<=id+1:=by exact Nat.zero_le _)
  (ho:H[id]? =J (.cells old):=by rfl) (hq:O old=m:=by rfl) (hH:H.set id (.cells cs)=H2:=by simp only [List.set_cons_zero,List.set_cons_succ]<;>rfl)
  (h2:Rl A l b j8 ops T H2 (n+1) (.any::rl) (.obj id::l6) na (⟨[],[.obj id],0,0⟩::lg) Q):Rl A l b j8 (⟨.store m y x,K,K,u⟩::ops) T H n rl l6 na lg Q :=
 ys hy hx hc hm hl (.inl hb) (by simp [wr,ho,hm,hq,splice,<- hH];rw [n5 V];simp) h2
def lIx {α:Type} [Inhabited α] {enc:α->List Data}{xs:List α}{sz:Nat}{e:Int}{x y:A3}{u:List Nat}(hx:rq T n rl x= .d (s7 enc xs):=by rfl)(hy:rq T n rl y= .d (.int .i64 e):=by rfl)(hs:∀a,O (enc a)=sz:=by intro;rfl)
  (hi:0<=e/\e<O xs:=by first|omega|(simp only [List.length_cons,List.length_nil,Nat.reduceAdd];omega)) (h2:Rl A l b j8 ops T H (n+1) (.Y4 (enc (Y xs e.toNat)++(xs.drop (e.toNat+1)).flatMap enc)::rl) l6 na (⟨[],[],0,0⟩::lg) Q) :
  Rl A l b j8 (⟨.gN sz x y,K,K,u⟩::ops) T H n rl l6 na lg Q:=yp _ (OT hs hx hy hi.1 hi.2) h2
def lA {zero:List c7}{u:List Nat}{s xI :Nat}{T2:List c7}{H2:k9}(hs:Nat.ble (s+1) (O T)=W:=by rfl)(htc:l6.any (Touch.P9 s)=W:=by rfl)(hT:T.set s (.ptr na 0)=T2:=by simp only [List.set_cons_zero,List.set_cons_succ]<;>rfl)(hH:H.set na (.cells zero)=H2:=by simp only [List.set_cons_zero,List.set_cons_succ]<;>rfl)
  (hn:na+1=xI :=by simp only [Nat.reduceAdd]<;>rfl) (h2:Rl A l b j8 ops T2 H2 (n+1) (.ptr na 0::rl) l6 xI (⟨[],[.obj na],0,na⟩::lg) Q):Rl A l b j8 (⟨.alloc zero,J s,K,u⟩::ops) T H n rl l6 na lg Q:=Yz xI T2 H2 (j4 hs) htc hT hH hn h2
end
section
variable {Q:List c7->k9->List c7->Prop} {dr:Bool}
def ct {f:FuncId}{xs:List A3}{u:List Nat}{v:c7}{args:List c7}{m:Nat}{H0 HD H1 H2:k9}{l2:F9}(hc:Pm A f args H0 l2 v H1)(GF:O H1=m:=by simp only [List.length_cons,List.length_nil,Nat.reduceAdd]<;>rfl)(cQ:D3 ((H.take m).drop l.strict)<=m:=by exact Nat.zero_le _)(hcl:D4 H l.strict 8 (A2 args)=m:=by rfl)
  (EX:H.take m=H0:=by rfl) (hle:Nat.ble m (O H)=W:=by rfl) (jH:(⟨l.Ef,l.Ee,m,A6 H l.strict m⟩:F9)=l2:=by rfl) (hd:dr=W->Nat.ble (kf j8) n=W:=by intro;rfl) (hD:H.drop m=HD:=by simp only [List.drop_succ_cons,List.drop_zero]<;>rfl) (hA:H1++HD=H2:=by simp only [List.cons_append,List.nil_append]<;>rfl)
  (ha:xs.map (rq T n rl)=args:=by rfl) (ee:A.prom f=F:=by rfl) (hm:A.mode f=0:=by rfl)
  (h2:Ry A l b dr j8 ops T H2 (n+1) (v::rl) (.below m::l6) Q):Ry A l b dr j8 (⟨.call f xs,K,K,u⟩::ops) T H n rl l6 Q :=
 c0 hc GF cQ hcl EX hle jH hd ha ee hm hD hA h2
def bk {α:Type}(f:α->Data)(xs:List α){len:Nat}{zero:List c7}{ps:List (Nat×Nat×A3)}{u:List Nat}(h2:Ry A l b dr j8 ops T H (n+1) (A8 1 (λx=>[f x]) xs::rl) l6 Q)(hl:O xs=len:=by rfl)(hz:O zero=len:=by rfl)(hp:ps=Uh f xs 0:=by rfl) :
  Ry A l b dr j8 (⟨.M8 1 len zero ps F,K,K,u⟩::ops) T H n rl l6 Q:=Ry.pure (rs:=[]) rfl (pBk f xs (λ_=>rfl) hl hz hp) h2
def eN {sz:Nat}{u:List Nat}(h2:Ry A l b dr j8 ops T H (n+1) (.own sz 0 []::rl) l6 Q)(h0:Nat.ble 1 sz=W:=by rfl):Ry A l b dr j8 (⟨.M8 sz 0 [] [] F,K,K,u⟩::ops) T H n rl l6 Q :=
 Ry.pure (rs:=[]) rfl (by have:=j4 h0;simp [l5,T4,H7];omega) h2
def Bm {α:Type} [Inhabited α] {enc:α->List Data}{xs:List α}{sz:Nat}{e:Int}{x y:A3}{k:IntKind}{u:List Nat}(hx:rq T n rl x= .d (s7 enc xs):=by rfl)(hy:rq T n rl y= .d (.int k e):=by rfl)(hs:∀a,O (enc a)=sz:=by intro;rfl)
  (hi:0<=e/\e<O xs:=by first|omega|(simp only [List.length_cons,List.length_nil,Nat.reduceAdd];omega)) (h2:Ry A l b dr j8 ops T H (n+1) (.Y4 (enc (Y xs e.toNat)++(xs.drop (e.toNat+1)).flatMap enc)::rl) l6 Q) :
  Ry A l b dr j8 (⟨.gN sz x y,K,K,u⟩::ops) T H n rl l6 Q:=Yq hx hy hs hi h2
end
end
section
variable {ρ:A3->c7} {G:k9} {x y:A3}
def ap7 {k:Nat}{cs:List Data}(hx:ρ x= .Y4 cs):l5 ρ G (.off k x)=J (.Y4 (cs.drop k),[]):=by simp only [l5,hx]
def pBd {zero cs:List c7}{ps:List (Nat×Nat×A3)}(hr:T4 zero (ps.map λp=>(p.1,p.2.1,ρ p.2.2))=J cs):l5 ρ G (.build zero ps)=J (.agg cs,[]):=by
 simp only [l5,hr]
end
def gl {Γ Δ:Prop}(k:Δ)(h:PLift Δ->Γ:=by intro d4;(first|refine lN ?_|refine ym ?_|refine lMT (h2:=?_)|refine yp _ (qQ rfl) ?_|refine yp _ (ap7 rfl) ?_|refine yp _ (IV rfl rfl rfl) ?_|refine yp _ (Ft rfl rfl rfl) ?_|refine yp _ (Wk rfl) ?_|refine yp _ (Wl rfl) ?_|refine lIx (h2:=?_)|refine yp _ (pAd rfl rfl) ?_|refine yp _ (pSb rfl rfl) ?_|refine yp _ (pBd rfl) ?_|refine lA (h2:=?_)|refine lS (h2:=?_)|refine lSo (h2:=?_)|fail);exact d4.down):Γ:=h ⟨k⟩
def gm {Γ Δ:Prop}(k:Δ)(h:PLift Δ->Γ:=by intro d4;(repeat' (first|refine gl ?_|fail));exact d4.down):Γ:=h ⟨k⟩
end Go.y9.S
namespace Go.y9
theorem rS {A f8:Prog}(hf:A.fn=f8.fn)(hi:A.idle=f8.idle)(hm:A.mode=f8.mode)(d8:Nat)(hn:∀f,A.aB f=K->f8.aB f=K\/A.fn f=K)
  (hp:∀f p,A.aB f=J p->∀args H l r,p args H l=J r->call f8 d8 f args H l=J r):∀n,XP (call A n) (call f8 (n+d8))
 |0=>λ_ _ _ _=>fW.no _
 |n+1=>λf args H l=>by
  intro r hr;have sw:A.prom=f8.prom:=by grind [Prog.prom]
  unfold call at hr;split at hr
  next p hq=>
   exact zW f8 d8 (n+1+d8) V f args H l r (hp f p hq args H l r hr)
  .split at hr
   next af Vc=>
    have hb:f8.aB f=K:=by
     grind
    rw [show n+1+d8=(n+d8)+1 by omega,zV hb (by rw [<- hf];exact Vc)];unfold dZ at hr ⊢;split at hr
    next hlen=>
     rw [if_pos hlen];cases hx:exec ⟨call A n,A.prom,A.mode,A.idle,l,O H⟩ n af.body ⟨args++List.replicate (O af.names - O args) .any,H⟩ with
     |none=>simp_all
     |some x =>
      rw [hx] at hr;rw [sw,hi,hm] at hx;rw [dS (rS hf hi hm d8 hn hp n) (Nat.le_add_right n d8) _ _ _ hx];exact hr
    .cases hr
   .cases hr
def Pf.TH {A:Prog}{es:List xS}{d8 n:Nat}(Nh:∀e,e∈es->call A d8 e.f e.args [] N6=J (e.res,[])){f:FuncId}{args:List c7}{v:c7}(h:call (memo A es) n f args [] N6=J (v,[]))(hM:0<d8):Pf A f args v:=by
 refine Pf.OL (rS (A:=memo A es) (f8:=A) rfl rfl rfl d8 ?_ ?_ n _ _ _ _ _ h)
 .grind [memo]
 .intro f p hp args H l r hr
  simp [memo] at hp;split at hp
  .cases hp
   simp only at hr;split at hr
   .grind [Ay,vz]
   .cases hr
  .obtain ⟨k,rfl⟩:∃k,d8=k+1:=⟨d8 - 1,V⟩
   simp_all [call]
end Go.y9

